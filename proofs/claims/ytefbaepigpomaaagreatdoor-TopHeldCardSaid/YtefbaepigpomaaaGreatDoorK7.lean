/-
  OWN TEXTS, MERGED (wip/merge.py): CoreTn, CoreTne, CoreTo, CoreTq, CoreLb, CoreMc, CoreZs. No condition of their own.
-/
import Derived.Test.YtefbaepigpomaaaGreatDoorK6
import Derived.KernelRfl
import Derived.Lib.LaidTab
import Derived.Lib.ItoaNum
import Derived.Lib.TrimByte
import Derived.Lib.AppendIntMem
import Derived.Lib.Bytealg
import Derived.Lib.SlMapMerge
import Derived.Maps.Own
import Derived.StringKeys
import Derived.Test.YtefbaepigpomaaaGreatDoorK4
set_option linter.unusedVariables false
set_option linter.unusedSimpArgs false
open Go.IntKind (i64 u64 u8 u32)
namespace WB
open Go Go.RowKit
section
variable {X:TP} {E:ah}
theorem Ra{t:Ty}(d:bK t=true):∀{b:List (D t)} {es:List CV},CanAll (fun x c=>Can t x [c]) b es->C4 es=true
 | [],es,h=>by unfold CanAll at h;subst h;rfl
 |y::b,es,h=>by
  obtain⟨c,g,rfl,f,e⟩:=h;have:=V7 d f;simp only[C4,Bool.and_true]at this;simp[C4,this,Ra d e]
theorem Aeo(hT:aG X E){Γ:TC}{msk:List Nat}{ρ:HS Γ}{st:St}(j:af Γ ρ st){rd:Nat->Ob}(i:∀id,msk.contains id=false->rd id=st.ob id){d:Nat}{op:aa}{o:bE Γ}(h:Qb X Γ msk d op=some o){b:o.B}(u:o.d.val ρ=some b):
  ∃st',A9 E rd st (some d) op=some st'/\af o.Γ' (o.up ρ b) st':=by
 cases op<;>(try cases h;done)
 case call f args=>
  simp only[Qb]at h;split at h<;>(try cases h;done);rename_i a e size t fn s;split at h<;>(try cases h;done);rename_i S I;split at h<;>(try cases h;done);rename_i p C;split at h<;>(try cases h;done);rename_i g m;split at h<;>(try cases h;done);rename_i r;cases h;try dsimp only at u
  obtain⟨z,R,Q⟩:=ab.comp_val u;obtain⟨y,O,N⟩:=ab.map_val R;subst N;obtain⟨l,M,L,K⟩:=IZ j i (G:=E.G) (fl:=p.1) (q:=p.2) C O;obtain⟨_,s3⟩:=hT.nw f a e size t fn s;obtain⟨es,J,A⟩:=s3 _ l b (C0 _ _ m L) Q;have D:st.ob d=.none:=j.o d _ I
  have F:((args.all fun x=>bN (so E.G st.fr x))||(be.new (.arr e size es)).memless)=true:=by
   cases c:p.1 with
   |true=>rw[K c];rfl
   |false=>
    rw[c]at r;simp only[Bool.false_or]at r;simp[be.memless,Ra r A]
  refine⟨_, ?_,af.newObjS j (k:=.own d) (ko:=.arr e size t) (x:=()) (y:=b) (v:=.osl d) ⟨es,rfl,A⟩ rfl⟩;simp only[A9,aa.cls,hT.ef f (.inr (by rw[s];rfl)),D4,M,Option.bind_some,List.append_nil,J,F,if_true,E8,Bz,D,Option.getD_some,Na]
theorem Y2(Q:BH X E){a:Ty}{Θ:TC}{r:Ty}{n:Nat}(O:AQ a=some n):∀{t:Ty} {F:D t->D a->HS Θ->Option (D r×HS Θ)} {x:D t} {y:D a} {θ d:HS Θ} {z:D r} {c:CV} {l:List CV} {H:Nat->Ob},Jl X a Θ r t=some F->F x y θ=some (z,d)->Can t x [c]->Can a y l->af Θ θ {fr:=fun _=>.undef,ob:=H}->
  r.val=true/\r.ok=true/\∃g b e,c=.fn g b/\E.ef g=some e/\e.T=A6 Θ/\e.fn (l++b) H=some (enc r z,Bb Θ d):=by
 have one:∀{g:Nat} {j:Ty} {s:SigE} {h:D (BO a j).1->D s.a} {f:s.Θ=Θ} {o:s.r=r} {x:D j} {y:D a} {θ d:HS Θ} {z:D r} {b l:List CV} {H:Nat->Ob},X.TE g=some s->Ba (BO a j).1 s.a=some h->O6 s.fn f o (h ((BO a j).2 y x)) θ=some (z,d)->Can j x b->Can a y l->af Θ θ {fr:=fun _=>.undef,ob:=H}->
   r.val=true/\r.ok=true/\∃e,E.ef g=some e/\e.T=A6 Θ/\e.fn (l++b) H=some (enc r z,Bb Θ d):=by
  intro g j s h f o x y θ d z b l H q u k i m p;obtain⟨⟨N,_⟩,M,e,s3,L,K⟩:=Q g s q;obtain⟨J,R,rs,fn⟩:=s;simp only at f o;subst f;subst o;exact⟨N,M,e,s3,L,K _ _ θ H z d (C0 _ _ u (HU O m i)) p k⟩
 intro t
 induction t with
 |clo g j _=>
  intro F x y θ d z c l H h k i m p;simp only[Jl]at h;split at h<;>(try cases h;done);rename_i s q;split at h<;>(try cases h;done);rename_i u A;split at h<;>(try cases h;done);rename_i f;split at h<;>(try cases h;done);rename_i o;cases h;unfold Can at i;obtain⟨b,e,i⟩:=i;cases e;obtain⟨I,G,e,g3,C,B⟩:=one q A k i m p;exact⟨I,G,g,b,e,rfl,g3,C,B⟩
 |falt g j l' _ ihl=>
  intro F x y θ d z c l H h k i m p;simp only[Jl]at h;split at h<;>(try cases h;done);rename_i s S q v;split at h<;>(try cases h;done);rename_i u A;split at h<;>(try cases h;done);rename_i f;split at h<;>(try cases h;done);rename_i o;cases h
  cases x with
  |inl w=>
   unfold Can at i;obtain⟨b,e,i⟩:=i;cases e;obtain⟨I,G,e,g3,C,B⟩:=one q A k i m p;exact⟨I,G,g,b,e,rfl,g3,C,B⟩
  |inr w=>
   unfold Can at i;exact ihl v k i.2 m p
 |_=>intro F x y θ d z c l H h;cases h
theorem LS(hT:aG X E)(hF:BH X E){Γ:TC}{ρ:HS Γ}{st:St}(O:af Γ ρ st){op:aa}{q:d4 Γ}(h:c7 X Γ op=some q)(u:aw q.Θ=true){y:D q.r}{b:HS q.Θ}(N:q.d.val ρ=some (y,b))(rd:Nat->Ob)(d:Option Nat):
  q.r.val=true/\q.r.ok=true/\A9 E rd st d op=some ((C9 (A6 q.Θ) (Bb q.Θ b) st).set d (.c (enc q.r y))):=by
 have part:∀{Θ:TC} {f:HS Γ->HS Θ},aw Θ=true->Cc Γ Θ=some f->af Θ (f ρ) {fr:=fun _=>.undef,ob:=CH (A6 Θ) st.ob}:=by
  intro Θ f u Z;have M:=CN Z O;simp only[aw,Ag]at u;refine⟨fun i q V=> ?_,fun id q V=> ?_⟩
  ·have:=Cp u.2 (By V);obtain⟨k,f'⟩:=q;cases k<;>cases this
  ·have J:=Cp u.2 (By V);have ag:(A6 Θ).contains id=true:=by simpa using Gi.2 (F3 (By V))
   have r:=M.o id _ V;show RO Θ _ id q.1 _ (CH (A6 Θ) st.ob id);unfold CH;rw[if_pos ag];obtain⟨k,f'⟩:=q;cases k<;>(try cases J;done)
   case box n=>
    obtain⟨cs,m,hl,hc⟩:=r;rw[m];refine⟨_,rfl,by simpa using hl,fun j q' hj U=> ?_⟩;obtain⟨sv,g1,g2⟩:=hc j q' hj U;refine⟨Hp (A6 Θ) sv,by rw[List.getElem?_map,g1];rfl, ?_⟩;simp only[bW,Ag,List.all_eq_true,List.mem_range]at J;have A:=J.2 j hj;rw[By U]at A;obtain⟨k',f''⟩:=q';cases k'<;>(try cases A;done)
    case v t=>obtain⟨c,rfl,hc'⟩:=g2;exact⟨c,rfl,hc'⟩
    case own K=>
     have C:sv=.osl K:=g2;subst C;simp only[cN,Ag]at A;show Hp (A6 Θ) (.osl K)=.osl K;simp only[Hp,SV.ref];rw[if_pos A.1]
   case arr e size t=>obtain⟨es,m,hc⟩:=r;rw[m];exact⟨es,rfl,hc⟩
   case mob mt k v=>obtain⟨zc,ks,vs,m,hc⟩:=r;rw[m];exact⟨zc,ks,vs,rfl,hc⟩
   case buf e=>
    have m:st.ob id=.buf e (f' (f ρ)):=r;rw[m];rfl
 cases op<;>(try cases h;done)
 case call f args=>
  simp only[c7]at h;split at h<;>(try cases h;done);rename_i s hs;split at h<;>(try cases h;done);rename_i p g W Y;split at h<;>(try cases h;done);rename_i k hk;cases h;try dsimp only at N u y b⊢
  obtain⟨z,M,h2⟩:=ab.comp_val N;obtain⟨x,B,h4⟩:=ab.map_val M;subst h4;obtain⟨l,h5,h6⟩:=Jm (G:=E.G) O W B;obtain⟨⟨T,_⟩,S,e,s3,R,Q⟩:=hF f s hs;refine⟨T,S, ?_⟩;have h7:=Q _ l (g ρ) _ y b (C0 _ _ hk h6) (part u Y) h2;simp only[A9,aa.cls,s3,Dt,h5,Option.bind_some,List.append_nil,R,h7]
 case callv f args=>
  simp only[c7]at h;split at h<;>(try cases h;done)
  ·rename_i g cc d' p Z W;split at h<;>(try cases h;done);rename_i s hs;split at h<;>(try cases h;done);rename_i n k gθ hn hk Y;cases h;try dsimp only at N u y b⊢
   obtain⟨z,M,h2⟩:=ab.comp_val N;obtain⟨x,B,h4⟩:=ab.map_val M;obtain⟨B,L⟩:=ab.both_val B;subst h4;obtain⟨l,h5,h6⟩:=Jm (G:=E.G) O W B;obtain⟨c,m,C⟩:=AB (G:=E.G) Z O L;unfold Can at C;obtain⟨I,e3,C⟩:=C;cases e3;obtain⟨⟨T,_⟩,S,e,s3,R,Q⟩:=hF g s hs;refine⟨T,S, ?_⟩;have h7:=Q _ (l++I) (gθ ρ) _ y b (C0 _ _ hk (HU hn h6 C)) (part u Y) h2;simp only[A9,aa.cls,m,s3,Dt,h5,Option.bind_some,R,h7]
  ·rename_i g cc l' d' p Z W;split at h<;>(try cases h;done);rename_i s hs;split at h<;>(try cases h;done);rename_i n gθ F hn Y hFF;cases h;try dsimp only at N u y b⊢
   obtain⟨z,M,h2⟩:=ab.comp_val N;obtain⟨x,B,h4⟩:=ab.map_val M;obtain⟨B,L⟩:=ab.both_val B;subst h4;obtain⟨l,h5,h6⟩:=Jm (G:=E.G) O W B;obtain⟨c,m,C⟩:=AB (G:=E.G) Z O L;obtain⟨T,S,g',I,e,rfl,s3,R,Q⟩:=Y2 hF hn hFF h2 C h6 (part u Y);refine⟨T,S, ?_⟩;simp only[A9,aa.cls,m,s3,Dt,h5,Option.bind_some,R,Q]
theorem NG{Γ Θ:TC}{ρ:HS Γ}{b:HS Θ}{st:St}(c:aw Θ=true)(d:af Γ ρ st):af (Θ++Bh (A6 Θ) Γ) (CB Θ b (BF (A6 Θ) ρ)) (C9 (A6 Θ) (Bb Θ b) st):=
 d.turned c (Z4 c b fun _=>.undef)
theorem Zp{Γ:TC}{op:aa}{q:d4 Γ}(h:c7 X Γ op=some q):Cc Γ q.Θ=some q.θ:=by
 cases op<;>(try cases h;done)
 case call f args=>
  simp only[c7]at h;split at h<;>(try cases h;done);split at h<;>(try cases h;done);rename_i p g c b;split at h<;>(try cases h;done);cases h;exact b
 case callv f args=>
  simp only[c7]at h;split at h<;>(try cases h;done)
  all_goals
   split at h<;>(try cases h;done);split at h<;>(try cases h;done)
  ·rename_i b;cases h;exact b
  ·rename_i b _;cases h;exact b
theorem Zo{Γ:TC}{op:aa}{q:d4 Γ}(h:c7 X Γ op=some q):∃f,X.TE f≠none:=by
 cases op<;>(try cases h;done)
 case call f args=>
  simp only[c7]at h;split at h<;>(try cases h;done);rename_i s b;exact⟨f,by rw[b];simp⟩
 case callv f args=>
  simp only[c7]at h;split at h<;>(try cases h;done)
  all_goals
   split at h<;>(try cases h;done);rename_i s b;exact⟨_,by rw[b];simp⟩
theorem VN(hT:aG X E)(K:BH X E){Γ:TC}{ρ:HS Γ}{st:St}(m:af Γ ρ st)(rd:Nat->Ob){l:SL}{o:bE Γ}(h:H9 X Γ l=some o){b:o.B}(i:o.d.val ρ=some b):
  ∃st',Bm E rd l st=some st'/\af o.Γ' (o.up ρ b) st':=by
 unfold H9 at h;split at h<;>(try cases h;done);rename_i e I;split at h<;>(try cases h;done);rename_i q;obtain⟨dst,op,guard⟩:=l;simp only at I h;split at h
 ·rename_i d;cases h;obtain⟨y,u⟩:=b;obtain⟨G,F,A⟩:=LS hT K m I q i rd (some d);exact⟨_,by simp only[Bm];exact A,af.set (NG q m) ⟨_,rfl,Can.enc y G F⟩⟩
 ·cases h;obtain⟨y,u⟩:=b;obtain⟨G,F,A⟩:=LS hT K m I q i rd none;exact⟨_,by simp only[Bm];exact A,NG q m⟩
 ·rename_i g p d;have C:=m.unturned q (CN (Zp I) m);split at h<;>(try cases h;done)
  ·rename_i f N;cases h;obtain⟨c,J,t⟩:=m.s g _ N;unfold Can at t;cases t;by_cases j:f ρ=p
   ·have:∃y,e.d.val ρ=some y/\b=some y:=by
     cases hd:e.d with
     |tot k=>rw[hd]at i;simp only[gD,ab.val,j,if_true,Ac]at i;exact⟨_,rfl,i.symm⟩
     |par k=>
      rw[hd]at i;simp only[gD,ab.val,j,if_true]at i;obtain⟨y,R,Q⟩:=Aa.1 i;exact⟨y,R,Q.symm⟩
    obtain⟨⟨y,u⟩,L,rfl⟩:=this;obtain⟨G,F,A⟩:=LS hT K m I q L rd (some d);exact⟨_,by simp only[Bm,J,j,if_true];exact A,af.set (k:=.opt (.v e.r)) (x:=some y) (NG q m) ⟨_,rfl,Can.enc y G F⟩⟩
   ·have:b=none:=by
     cases hd:e.d with
     |tot k=>rw[hd]at i;simp only[gD,ab.val,j,if_false,Ac]at i;exact i.symm
     |par k=>rw[hd]at i;simp only[gD,ab.val,j,if_false,Ac]at i;exact i.symm
    subst this;exact⟨st.set (some d) Bf,by simp only[Bm,J,j,if_false],af.set C (k:=.opt (.v e.r)) (x:=none) rfl⟩
  ·rename_i f N;cases h;have D:=m.s g _ N;unfold RS at D;by_cases j:f ρ=some p
   ·simp only[j]at D;obtain⟨c,J,t⟩:=D;unfold Can at t;cases t
    have:∃y,e.d.val ρ=some y/\b=some y:=by
     cases hd:e.d with
     |tot k=>rw[hd]at i;simp only[gO,ab.val,j,if_true,Ac]at i;exact⟨_,rfl,i.symm⟩
     |par k=>
      rw[hd]at i;simp only[gO,ab.val,j,if_true]at i;obtain⟨y,R,Q⟩:=Aa.1 i;exact⟨y,R,Q.symm⟩
    obtain⟨⟨y,u⟩,L,rfl⟩:=this;obtain⟨G,F,A⟩:=LS hT K m I q L rd (some d);exact⟨_,by simp only[Bm,J,if_true];exact A,af.set (k:=.opt (.v e.r)) (x:=some y) (NG q m) ⟨_,rfl,Can.enc y G F⟩⟩
   ·have:b=none:=by
     cases hd:e.d with
     |tot k=>rw[hd]at i;simp only[gO,ab.val,j,if_false,Ac]at i;exact i.symm
     |par k=>rw[hd]at i;simp only[gO,ab.val,j,if_false,Ac]at i;exact i.symm
    subst this
    cases O:f ρ with
    |none=>
     simp only[O]at D;exact⟨st.set (some d) Bf,by simp only[Bm,D,Bf],af.set C (k:=.opt (.v e.r)) (x:=none) rfl⟩
    |some b'=>
     simp only[O]at D;obtain⟨c,J,t⟩:=D;unfold Can at t;cases t;have M:b'≠p:=fun e=>j (by rw[O,e]);exact⟨st.set (some d) Bf,by simp only[Bm,J,M,if_false],af.set C (k:=.opt (.v e.r)) (x:=none) rfl⟩
 ·cases h
theorem VP(hT:aG X E){Γ:TC}{msk:List Nat}{ρ:HS Γ}{st:St}(m:af Γ ρ st){rd:Nat->Ob}{l:SL}(J:∀id,(ag l.op msk).contains id=false->rd id=st.ob id){o:bE Γ}(h:HA X Γ msk l=some o){b:o.B}(i:o.d.val ρ=some b):
  ∃st',Bm E rd l st=some st'/\af o.Γ' (o.up ρ b) st':=by
 obtain⟨dst,op,guard⟩:=l
 cases guard with
 |none=>
  simp only[HA]at h;split at h
  ·rename_i u;split at h<;>(try cases h;done);rename_i d;split at h<;>(try cases h;done);rename_i f I;obtain⟨v,ob,j,p⟩:=Aer m h i;have N:st.ob d=.none:=m.o d _ I;rw[<-hT.G]at j;exact⟨_,by simp[Bm,A9,u,j,Bz,N],p⟩
  ·rename_i u;obtain⟨st',j,p⟩:=Aeq m h i;rw[<-hT.G]at j;exact⟨st',by simp only[Bm,A9,u,Dp,j],p⟩
  ·obtain⟨st',j,p⟩:=Aep hT m h i rd;exact⟨st',j,p⟩
  ·split at h
   ·rename_i q F;split at h
    ·rename_i d;cases h;obtain⟨sv,j,p⟩:=N6 hT m J F i (some d);exact⟨_,by simp only[Bm,j],af.set m p⟩
    ·cases h;obtain⟨sv,j,p⟩:=N6 hT m J F i none;exact⟨st,by simp only[Bm,j,St.set],m⟩
   ·split at h<;>(try cases h;done);rename_i d;obtain⟨st',j,p⟩:=Aeo hT m J h i;exact⟨st',by simp only[Bm,j],p⟩
 |some g=>
  obtain⟨g,t⟩:=g;simp only[HA]at h;split at h<;>(try cases h;done);rename_i q d F;split at h<;>(try cases h;done)
  ·rename_i f I;cases h;obtain⟨c,D,A⟩:=m.s g _ I;unfold Can at A;cases A;by_cases r:f ρ=t
   ·have:∃y,q.2.val ρ=some y/\b=some y:=by
     cases hd:q.2 with
     |tot k=>rw[hd]at i;simp only[gD,ab.val,r,if_true,Ac]at i;exact⟨_,rfl,i.symm⟩
     |par k=>
      rw[hd]at i;simp only[gD,ab.val,r,if_true]at i;obtain⟨y,j,p⟩:=Aa.1 i;exact⟨y,j,p.symm⟩
    obtain⟨y,K,rfl⟩:=this;obtain⟨sv,j,p⟩:=N6 hT m J F K (some d);refine⟨_,by simp only[Bm,D,r,if_true];exact j,af.set m ?_⟩;exact p
   ·have:b=none:=by
     cases hd:q.2 with
     |tot k=>rw[hd]at i;simp only[gD,ab.val,r,if_false,Ac]at i;exact i.symm
     |par k=>rw[hd]at i;simp only[gD,ab.val,r,if_false,Ac]at i;exact i.symm
    subst this;exact⟨st.set (some d) Bf,by simp only[Bm,D,r,if_false],af.set m (k:=.opt q.1) (x:=none) rfl⟩
  ·rename_i f I;cases h;have C:=m.s g _ I;unfold RS at C;by_cases r:f ρ=some t
   ·simp only[r]at C;obtain⟨c,D,A⟩:=C;unfold Can at A;cases A
    have:∃y,q.2.val ρ=some y/\b=some y:=by
     cases hd:q.2 with
     |tot k=>rw[hd]at i;simp only[gO,ab.val,r,if_true,Ac]at i;exact⟨_,rfl,i.symm⟩
     |par k=>
      rw[hd]at i;simp only[gO,ab.val,r,if_true]at i;obtain⟨y,j,p⟩:=Aa.1 i;exact⟨y,j,p.symm⟩
    obtain⟨y,K,rfl⟩:=this;obtain⟨sv,j,p⟩:=N6 hT m J F K (some d);refine⟨_,by simp only[Bm,D,if_true];exact j,af.set m ?_⟩;exact p
   ·have:b=none:=by
     cases hd:q.2 with
     |tot k=>rw[hd]at i;simp only[gO,ab.val,r,if_false,Ac]at i;exact i.symm
     |par k=>rw[hd]at i;simp only[gO,ab.val,r,if_false,Ac]at i;exact i.symm
    subst this
    cases M:f ρ with
    |none=>
     simp only[M]at C;exact⟨st.set (some d) Bf,by simp only[Bm,C,Bf],af.set m (k:=.opt q.1) (x:=none) rfl⟩
    |some b'=>
     simp only[M]at C;obtain⟨c,D,A⟩:=C;unfold Can at A;cases A;have L:b'≠t:=fun e=>r (by rw[M,e]);exact⟨st.set (some d) Bf,by simp only[Bm,D,L,if_false],af.set m (k:=.opt q.1) (x:=none) rfl⟩
theorem Kb(hT:aG X E)(r:BH X E){Γ:TC}{msk:List Nat}{ρ:HS Γ}{st:St}(k:af Γ ρ st){D:Option (List Nat)}(i:D=none\/∀f,X.TE f=none){l:SL}(s:∀id,(ag l.op msk).contains id=false->AA (D.map (ag l.op)) st.ob id=st.ob id){o:bE Γ}(h:cn X Γ msk l=some o){b:o.B}(m:o.d.val ρ=some b):
  ∃st',Ar E D l st=some st'/\af o.Γ' (o.up ρ b) st':=by
 cases c:H9 X Γ l with
 |some oe=>
  have g:(match H9 X Γ l with
   |some o=>some o
   |none=>HA X Γ msk l)=some o:=h
  rw[c]at g;cases g
  have j:D=none:=by
   rcases i with h1|h1
   ·exact h1
   ·unfold H9 at c;split at c<;>(try cases c;done);rename_i e q;obtain⟨f,p⟩:=Zo q;exact absurd (h1 f) p
  subst j;exact VN hT r k _ c m
 |none=>
  have g:HA X Γ msk l=some o:=by
   unfold cn at h;rw[c]at h;exact h
  exact VP (hT.at D) k s g m
theorem J0{X:TP}{E:ah}(hT:aG X E)(j:BH X E){A:Type}{msk:List Nat}{D:Option (List Nat)}(e:D=none\/∀f,X.TE f=none)(k:∀(op:aa) (ob:Nat->Ob) id,(ag op msk).contains id=false->AA (D.map (ag op)) ob id=ob id):∀{ls:List SL} {Γ:TC} {q:bq A Γ} {ρ:HS Γ} {st:St} {K:HS q.Γ'->Option A} {r:A},
  Ie A X msk ls Γ=some q->af Γ ρ st->q.run ρ K=some r->∃st',Ce E D ls st=some st'/\∃c,af q.Γ' c st'/\K c=some r
 | [],Γ,q,ρ,st,K,r,h,hr,hk=>by
  simp only[Ie,Ac]at h;subst h;exact⟨st,rfl,ρ,hr,hk⟩
 |l::ls,Γ,q,ρ,st,K,r,h,hr,hk=>by
  simp only[Ie]at h;split at h<;>(try cases h;done);rename_i o t;split at h<;>(try cases h;done);rename_i p s;cases h;have i:o.d.app ρ (fun b=>p.run (o.up ρ b) K)=some r:=hk;obtain⟨b,C,B⟩:=ab.app_some i;obtain⟨m,y,x⟩:=Kb hT j hr e (k l.op st.ob) t C;obtain⟨g,v,u⟩:=J0 hT j e k s x B;exact⟨g,by simp[Ce,y,v],u⟩
theorem LN(hT:aG X E)(k:BH X E){A:Type}{draw:Bool}{D:List Nat}{ls:List SL}{Γ:TC}{q:bq A Γ}{ρ:HS Γ}{st:St}{K:HS q.Γ'->Option A}{r:A}(h:FV A X draw D ls Γ=some q)(f:af Γ ρ st)(g:q.run ρ K=some r):
  ∃st',Cf E draw D ls st=some st'/\∃e,af q.Γ' e st'/\K e=some r:=by
 cases draw with
 |true=>
  cases D with
  |nil=>
   simp only[FV,cond_true]at h;obtain⟨st',c,b⟩:=J0 hT.noE (BH.noE X E) (D:=some []) (.inr fun _=>rfl) (fun op ob id _=>by simp[AA,ag]) h f g;exact⟨st',by simpa[Cf]using c,b⟩
  |cons d ds=>
   simp only[FV,cond_true,if_true]at h;split at h<;>(try cases h;done);rename_i p i;cases h
   obtain⟨st',c,b⟩:=J0 hT.noE (BH.noE X E) (D:=some (d::ds)) (.inr fun _=>rfl) (fun op ob id j=>by
    simp only[Option.map_some,AA,j,Ah,if_false]) i (f.kill (d::ds)) g
   exact⟨st',by simpa[Cf]using c,b⟩
 |false=>
  cases D with
  |nil=>
   simp only[FV,cond_false]at h;obtain⟨st',c,b⟩:=J0 hT k (D:=none) (.inl rfl) (fun op ob id _=>rfl) h f g;exact⟨st',by simpa[Cf]using c,b⟩
  |cons d ds=>
   simp only[FV,cond_false,Ah,if_false]at h;split at h<;>(try cases h;done);rename_i p i;cases h;obtain⟨st',c,b⟩:=J0 hT k (D:=none) (.inl rfl) (fun op ob id j=>rfl) i (f.kill (d::ds)) g;exact⟨st',by simpa[Cf]using c,b⟩
theorem Ael{Γ:TC}{ρ:HS Γ}{st s:St}{E:ah}{W:List (Nat×Nat)}{l:SL}(p:af Γ ρ st)(h:dV Γ W l=true)(C:Ar E none l st=some s):bl E W l st=some s:=by
 unfold dV at h;split at h
 ·rename_i k A;unfold bl;unfold XD at h;split at h<;>(try cases h;done);rename_i id o q f;have B:=p.s k _ f;have j:st.fr k=.ptr id o:=B;simp only[A,j,h,if_true];exact C
 ·rename_i A
  have D:l.op.simple=true:=by
   unfold VO at h;split at h
   ·rename_i e;rw[e];rfl
   ·cases h
   ·exact h
  refine ZF A D (fun sz x e id o hd=> ?_) C;rw[e]at h
  cases x with
  |k v=>cases h
  |g i=>cases h
  |t k=>
   have u:PC Γ W sz k=true:=h;have d:deref st.ob (st.fr k)=.ptr id o:=hd;unfold PC at u;split at u<;>(try cases u;done)
   ·rename_i y o' q f;have B:=p.s k _ f;have j:st.fr k=.ptr y o':=B;rw[j]at d;cases d;exact u
   ·rename_i N q f;obtain⟨c,j,m⟩:=p.s k _ f;unfold Can at m;cases m;rw[j]at d;unfold deref at d;simp only at d;split at d
    ·split at d
     ·cases d;rw[Nat.zero_add];exact u
     ·cases d
    ·cases d
   ·rename_i r q f;obtain⟨c,j,m⟩:=p.s k _ f;unfold Can at m;obtain⟨l0,m,_⟩:=m;cases m;rw[j]at d;cases d
   ·rename_i ex r q f;obtain⟨cs,rest,j,_⟩:=p.s k _ f;rw[j]at d;cases d
   ·rename_i a b c q f;have j:st.fr k=.eptr a (q ρ) b c:=p.s k _ f;rw[j]at d;cases d
theorem OG{X:TP}{E:ah}(hT:aG X E)(j:BH X E){A:Type}{W:List (Nat×Nat)}:∀{ls:List SL} {Γ:TC} {q:bq A Γ} {ρ:HS Γ} {st:St} {K:HS q.Γ'->Option A} {r:A},
  Ig A X W ls Γ=some q->af Γ ρ st->q.run ρ K=some r->∃st',c5 E W ls st=some st'/\∃c,af q.Γ' c st'/\K c=some r
 | [],Γ,q,ρ,st,K,r,h,hr,hk=>by
  simp only[Ig,Ac]at h;subst h;exact⟨st,rfl,ρ,hr,hk⟩
 |l::ls,Γ,q,ρ,st,K,r,h,hr,hk=>by
  simp only[Ig]at h;split at h<;>(try cases h;done);rename_i f;split at h<;>(try cases h;done);rename_i o i;split at h<;>(try cases h;done);rename_i p g;cases h;have e:o.d.app ρ (fun b=>p.run (o.up ρ b) K)=some r:=hk;obtain⟨b,x,v⟩:=ab.app_some e;obtain⟨s,u,t⟩:=Kb hT.noE (BH.noE X E) hr (D:=none) (.inl rfl) (fun id y=>rfl) i x;obtain⟨st',m,k⟩:=OG hT j g t v;refine⟨st', ?_,k⟩;simp only[c5,Ael hr f u,Option.bind_some];exact m
theorem LL(hT:aG X E)(k:BH X E){A:Type}:∀{gs:List GL} {Γ:TC} {q:bq A Γ} {ρ:HS Γ} {st:St} {K:HS q.Γ'->Option A} {r:A} {Q:St->Prop},
  G1 A X gs Γ=some q->af Γ ρ st->q.run ρ K=some r->(∀st' c,af q.Γ' c st'->K c=some r->Q st')->E6 (Dx X.Θ) E (Ff gs) Q st
 | [],Γ,q,ρ,st,K,r,Q,h,hr,hk,hQ=>by
  simp only[G1,Ac]at h;subst h;exact⟨st,Ax.refl st,hQ _ _ hr hk⟩
 | .l l::gs,Γ,q,ρ,st,K,r,Q,h,hr,hk,hQ=>by
  simp only[G1]at h;split at h<;>(try cases h;done);rename_i o t;split at h<;>(try cases h;done);rename_i p i;cases h;have j:o.d.app ρ (fun b=>p.run (o.up ρ b) K)=some r:=hk;obtain⟨b,s,m⟩:=ab.app_some j;obtain⟨e,v,u⟩:=Kb hT k hr (D:=none) (.inl rfl) (fun _ _=>rfl) t s;exact⟨st,Ax.refl st,e,v,LL (gs:=gs) hT k i u m hQ⟩
 | .g g::gs,Γ,q,ρ,st,K,r,Q,h,hr,hk,hQ=>by
  simp only[G1]at h;split at h<;>(try cases h;done);rename_i p i;split at h<;>(try cases h;done);rename_i x f;cases h;obtain⟨st',s,m⟩:=JD i hr;exact Aft s (LL (gs:=gs) hT k f m hk hQ)
theorem TK(hT:aG X E)(g:BH X E){A:Type}{D:List Nat}{gs:List GL}{Γ:TC}{q:bq A Γ}{ρ:HS Γ}{st:St}{K:HS q.Γ'->Option A}{r:A}{Q:Ex->St->Prop}(h:J1 A X D gs Γ=some q)(c:af Γ ρ st)(e:q.run ρ K=some r)
  (f:∀st' b,af q.Γ' b st'->K b=some r->Q .normal st'):CE (Dx X.Θ) E (.reg false D (Ff gs)) Q st:=by
 cases D with
 |nil=>
  simp only[J1]at h;exact⟨st,Ax.refl st,LL hT g h c e f⟩
 |cons d ds=>
  simp only[J1]at h;split at h<;>(try cases h;done);rename_i p i;cases h;exact⟨st,Ax.refl st,LL hT g i (c.kill (d::ds)) e f⟩
theorem Afs{R:St->St->Prop}(e:∀{a b c:St},R a b->R b c->R a c){E:ah}{D:Option (List Nat)}{ls:List RL}{Q:St->Prop}{st s:St}(h:R st s)(i:DD R E D ls Q s):DD R E D ls Q st:=by
 cases ls with
 |nil=>obtain⟨s',g,f⟩:=i;exact⟨s',e h g,f⟩
 |cons l ls=>
  cases l with
  |l l=>obtain⟨s',g,f⟩:=i;exact⟨s',e h g,f⟩
  |sk d=>obtain⟨s',g,f⟩:=i;exact⟨s',e h g,f⟩
theorem LM{X:TP}{E:ah}(hT:aG X E)(i:BH X E){A:Type}{R:St->St->Prop}(c:∀s,R s s){msk:List Nat}{D:Option (List Nat)}(e:D=none\/∀f,X.TE f=none)(j:∀(op:aa) (ob:Nat->Ob) id,(ag op msk).contains id=false->AA (D.map (ag op)) ob id=ob id):∀{ls:List RL} {Γ:TC} {q:bq A Γ} {ρ:HS Γ} {st:St} {K:HS q.Γ'->Option A} {r:A},
  G2 A X msk ls Γ=some q->af Γ ρ st->q.run ρ K=some r->DD R E D ls (fun st'=>∃g,af q.Γ' g st'/\K g=some r) st
 | [],Γ,q,ρ,st,K,r,h,hr,hk=>by
  simp only[G2,Ac]at h;subst h;exact⟨st,c st,ρ,hr,hk⟩
 | .l l::ls,Γ,q,ρ,st,K,r,h,hr,hk=>by
  simp only[G2]at h;split at h<;>(try cases h;done);rename_i o y;split at h<;>(try cases h;done);rename_i p u;cases h;have v:o.d.app ρ (fun b=>p.run (o.up ρ b) K)=some r:=hk;obtain⟨b,G,F⟩:=ab.app_some v;obtain⟨m,C,B⟩:=Kb hT i hr e (j l.op st.ob) y G;have t:=LM (R:=R) (ls:=ls) (q:=p) (K:=K) hT i c e j u B F;exact⟨st,c st,m,C,t⟩
 | .sk (some d)::ls,Γ,q,ρ,st,K,r,h,hr,hk=>by
  simp only[G2]at h;split at h<;>(try cases h;done);rename_i p u;cases h;have t:=LM (R:=R) (ls:=ls) (q:=p) (K:=K) hT i c e j u (af.set hr (d:=d) (k:=.undef) (x:=()) (sv:=Bf) trivial) hk;exact⟨st,c st,t⟩
 | .sk none::ls,Γ,q,ρ,st,K,r,h,hr,hk=>⟨st,c st,LM hT i c e j (ls:=ls) h hr hk⟩
theorem TJ{X:TP}{E:ah}(hT:aG X E)(W:BH X E){A:Type}{R:St->St->Prop}(v:∀s,R s s)(V:∀{a b c:St},R a b->R b c->R a c)(G:∀{st s:St},R st s->∀(i:Nat) (c:CV),Pf c=true->st.fr i=.c c->s.fr i=.c c)
  {draw:Bool} (hG:draw=false->∀{st s:St},Ax (Dx X.Θ) st s->R st s) {msk:List Nat} {D:Option (List Nat)} (I:D=none\/∀f,X.TE f=none) (Y:∀(op:aa) (ob:Nat->Ob) id,(ag op msk).contains id=false->AA (D.map (ag op)) ob id=ob id):∀{h:HT} {ls:List RL} {Γ j:TC} {q:HS Γ->(HS j->Option A)->Option A} {ρ:HS Γ} {st:St} {K:HS j->Option A} {r:A},
  De A X draw msk h ls Γ j=some q->af Γ ρ st->q ρ K=some r->DD R E D ls (fun st'=>∃y,af j y st'/\K y=some r) st:=by
 intro h
 induction h with
 |nil=>
  intro ls Γ j q ρ st K r h u m;simp only[De]at h;split at h<;>(try cases h;done);rename_i p B;split at h<;>(try cases h;done);rename_i f T;cases h;have:=LM hT W v I Y B u m;refine Qw (fun s ⟨y,L,J⟩=>⟨_,CN T L,J⟩) this
 |n k ih=>
  intro ls Γ j q ρ st K r h u m
  match ls,h with
  | .l l::ls,h=>
   simp only[De]at h;split at h<;>(try cases h;done);rename_i o ho;split at h<;>(try cases h;done);rename_i p B;cases h;have Q:o.d.app ρ (fun b=>p (o.up ρ b) K)=some r:=m;obtain⟨b,L,J⟩:=ab.app_some Q;obtain⟨N,h3,h4⟩:=Kb hT W u I (Y l.op st.ob) ho L;exact⟨st,v st,N,h3,ih B h4 J⟩
  | .sk (some d)::ls,h=>
   simp only[De]at h;split at h<;>(try cases h;done);rename_i p B;cases h;exact⟨st,v st,ih B (af.set u (d:=d) (k:=.undef) (x:=()) (sv:=Bf) trivial) m⟩
  | .sk none::ls,h=>
   simp only[De]at h;exact⟨st,v st,ih h u m⟩
  | [],h=>simp only[De]at h;cases h
 |g g k ih=>
  intro ls Γ j q ρ st K r h u m;simp only[De]at h;split at h<;>(try cases h;done);rename_i hdr;split at h<;>(try cases h;done);rename_i p B;split at h<;>(try cases h;done);rename_i p' O;cases h;obtain⟨st',L,J⟩:=JD B u;exact Afs (R:=R) V (hG rfl L) (ih O J m)
 |sp g t f iht ihf=>
  intro ls Γ j q ρ st K r h u m;simp only[De]at h;split at h<;>(try cases h;done);rename_i F;split at h<;>(try cases h;done);rename_i e dt df he ht T;cases h;obtain⟨c,C,Z⟩:=u.s g _ he;unfold Can at Z;cases Z;replace m:(if e ρ=true then dt ρ K else df ρ K)=some r:=m;by_cases M:e ρ=true
  ·rw[if_pos M]at m;replace C:st.fr g=.c (.bool true):=M▸C;exact Ks G F C (fun _ S=>by cases S) (iht ht u m)
  ·rw[if_neg M]at m;have U:e ρ=false:=by simpa using M
   replace C:st.fr g=.c (.bool false):=U▸C;exact Ks G F C (fun _ S=>by cases S) (ihf T u m)
theorem Zf(hT:aG X E)(x:BH X E){A:Type}{draw:Bool}{D:List Nat}{ls:List SL}{h:HT}{Γ f:TC}{q:HS Γ->(HS f->Option A)->Option A}{ρ:HS Γ}{st:St}{K:HS f->Option A}{r:A}{Q:Ex->St->Prop}(hd:Ih A X draw D ls h Γ f=some q)(g:af Γ ρ st)(i:q ρ K=some r)
  (u:∀st' c,af f c st'->K c=some r->Q .normal st'):CE (Dx X.Θ) E (.reg draw D ls) Q st:=by
 have ay:∀{st:St},(∃st',Ce E (some D) ls st=some st'/\∃c,af f c st'/\K c=some r)->∃st',Ce E (some D) ls st=some st'/\Q .normal st':=fun⟨st',k,c,j,h3⟩=>⟨st',k,u st' c j h3⟩
 cases draw with
 |true=>
  have key:∀{msk:List Nat} {Γ:TC} {ρ:HS Γ} {st:St} {q:HS Γ->(HS f->Option A)->Option A},msk=D->De A X.noE true msk h (ls.map .l) Γ f=some q->af Γ ρ st->q ρ K=some r->∃st',Ce E (some D) ls st=some st'/\Q .normal st':=by
   intro msk Γ ρ st q v m g i;subst v;refine ay (WC (TJ hT.noE (BH.noE X E) (R:=Eq) (fun _=>rfl) (fun a b=>a.trans b) (fun e=>by subst e;exact fun _ _ _ h=>h) (draw:=true) (fun t=>by cases t) (D:=some msk) (.inr fun _=>rfl) (fun op ob id t=> ?_) m g i));simp only[Option.map_some,AA,t,Ah,if_false]
  cases D with
  |nil=>
   simp only[Ih,cond_true]at hd;obtain⟨st',k,j⟩:=key rfl hd g i;exact⟨st,Ax.refl st,st',by simpa[Cf]using k,st',Ax.refl st',j⟩
  |cons d ds=>
   simp only[Ih,cond_true,if_true]at hd;split at hd<;>(try cases hd;done);rename_i p o;cases hd;obtain⟨st',k,j⟩:=key rfl o (g.kill (d::ds)) i;exact⟨st,Ax.refl st,st',by simpa[Cf]using k,st',Ax.refl st',j⟩
 |false=>
  have key:∀{Γ:TC} {ρ:HS Γ} {st:St} {q:HS Γ->(HS f->Option A)->Option A},De A X false [] h (ls.map .l) Γ f=some q->af Γ ρ st->q ρ K=some r->E6 (Dx X.Θ) E ls (Q .normal) st:=by
   intro Γ ρ st q m g i;have:=TJ hT x (R:=Ax (Dx X.Θ)) Ax.refl (fun a b=>a.trans b) (fun e=>e.2.fix) (draw:=false) (fun _ _ _ h=>h) (D:=none) (.inl rfl) (fun op ob id _=>rfl) m g i;exact Kv (fun s ⟨c,k,j⟩=>u s c k j) (WD this)
  cases D with
  |nil=>
   simp only[Ih,cond_false]at hd;exact⟨st,Ax.refl st,key hd g i⟩
  |cons d ds=>
   simp only[Ih,cond_false,Ah,if_false]at hd;split at hd<;>(try cases hd;done);rename_i p o;cases hd;exact⟨st,Ax.refl st,key o (g.kill (d::ds)) i⟩
theorem PO{st:St}{k:Nat}{b:Ob}(d:k<As):ai {low st with ob:=ac (low st).ob k b} st={st with ob:=ac st.ob k b}/\low {st with ob:=ac st.ob k b}={low st with ob:=ac (low st).ob k b}:=by
 constructor
 ·simp only[ai,low,St.mk.injEq,true_and];funext i;simp only[BS,Ct];by_cases c:i=k
  ·subst c;rw[if_pos rfl,if_neg (by omega),if_pos rfl]
  ·rw[if_neg c,if_neg c];split<;>rfl
 ·simp only[low,St.mk.injEq,true_and];funext i;simp only[BS,Ct];by_cases c:i=k
  ·subst c;rw[if_pos rfl,if_pos rfl,if_neg (by omega)]
  ·rw[if_neg c,if_neg c]
theorem V3(st:St):ai (low st) st=st:=by
 obtain⟨fr,ob⟩:=st;simp only[ai,low,St.mk.injEq,true_and];funext i;simp only[Ct];split<;>rfl
theorem Vr{st:St}{id:Nat}{o:Ob}(h:(low st).ob id=o)(c:o≠ .none):id<As/\st.ob id=o:=by
 have b:(if As≤id then Ob.none else st.ob id)=o:=h;by_cases hi:As≤id
 ·rw[if_pos hi]at b;exact absurd b.symm c
 ·rw[if_neg hi]at b;exact⟨by omega,b⟩
theorem Ahd{d:Option Nat}{ρ:SO->SV}{st t:St}{n:Nat}{x y:SO}(h:AJ d ρ (low st) (.store n x y)=some t):AJ d ρ st (.store n x y)=some (ai t st)/\low (ai t st)=t:=by
 simp only[AJ]at h⊢
 have g:deref st.ob (ρ x)=deref (low st).ob (ρ x)\/deref (low st).ob (ρ x)=.undef:=by
  generalize ρ x=q;cases q<;>try exact .inl rfl
  rename_i c;cases c<;>try exact .inl rfl
  rename_i N;simp only[deref];by_cases m:As≤N/\N % 2=0
  ·right;rw[if_pos m];have:(low st).ob N=.none:=by show(if As≤N then Ob.none else st.ob N)=_;rw[if_pos m.1]
   rw[this]
  ·left;rw[if_neg m,if_neg m]
 rcases g with g|g
 ·rw[g];generalize deref (low st).ob (ρ x)=q at h⊢;cases q<;>(try cases h;done)
  ·rename_i B;cases B<;>(try cases h;done);rename_i cs
   cases cs with
   |nil=>cases h
   |cons c0 cs=>
    cases cs with
    |cons _ _=>cases c0<;>cases h
    |nil=>
     cases c0<;>(try cases h;done);cases p:ρ y<;>simp only[p]at h⊢ <;>(try cases h;done);rename_i C;cases C<;>(try cases h;done);simp only[Ae,Ac]at h⊢;obtain⟨k,rfl⟩:=h;exact⟨⟨k,(V3 st).symm⟩,by rw[V3]⟩
  ·rename_i id o;simp only at h⊢;cases j:(low st).ob id<;>rw[j]at h<;>(try cases h;done);rename_i cs bt;obtain⟨hi,f⟩:=Vr j (by simp);rw[f];simp only at h⊢;split at h
   ·split at h<;>(try cases h;done);rename_i k;cases h;obtain⟨l,k2⟩:=PO (st:=st) (b:=.box (FD cs o (List.map SV.c ‹_›)) bt) hi;rw[l];exact⟨by rw[if_pos k],k2⟩
   ·split at h<;>(try cases h;done);rename_i k;cases h;obtain⟨l,k2⟩:=PO (st:=st) (b:=.box (cs.set o (ρ y)) bt) hi;rw[l];exact⟨by rw[if_pos k],k2⟩
  ·rename_i id i size o;simp only at h⊢;split at h<;>(try cases h;done);rename_i e sz es v j p;obtain⟨hi,f⟩:=Vr j (by simp);rw[f,p];simp only;split at h<;>(try cases h;done);rename_i k;rw[if_pos k];obtain⟨A,u,s⟩:=Ab.1 h;rw[u,Option.bind_some];split at s<;>(try cases s;done);rename_i r;cases s;obtain⟨l,k2⟩:=PO (st:=st) (b:=.arr e sz (es.set i (Gj A o n v))) hi;rw[l,if_pos r];exact⟨rfl,k2⟩
 ·rw[g]at h;cases h
theorem Ae9{E:ah}{D:List Nat}{l:SL}{st t:St}(K:P6 l=true)(h:Bm E.pois (AA (some (ag l.op D)) (Ct st.ob)) l (low st)=some t):Du E D l st=some (ai t st)/\low (ai t st)=t:=by
 simp only[P6,Ag,Ak,Bool.not_eq_true']at K
 have hd:∀j,l.dst=some j->j<As:=fun j O=>by
  have:=K.2;rw[O]at this;exact Nat.lt_of_succ_le (Ai this)
 unfold Du;rw[OT]at h⊢;have M:gd l (low st).fr=gd l st.fr:=rfl;rw[M]at h
 cases N:gd l st.fr with
 |none=>rw[N]at h;cases h
 |some b=>
  rw[N]at h
  cases b with
  |false=>
   simp only[Option.bind_some,Ah,if_false,Ac]at h⊢;have R:put (low st) l.dst (Bf,none)=some t:=by rw[<-h];rfl
   obtain⟨J,k2⟩:=Qm hd R;exact⟨Option.some.inj J,k2⟩
  |true=>
   simp only[Option.bind_some,if_true]at h⊢
   cases L:l.op.hard with
   |true=>
    have B:l.op.stores=true:=by
     rcases K.1 with A|A
     ·rw[L]at A;cases A
     ·exact A
    cases C:l.op<;>rw[C]at B<;>(try cases B;done);rw[C]at h;exact Ahd (d:=l.dst) h
   |false=>
    have i:bC E l st.fr=none:=by
     cases k:bC E l st.fr with
     |none=>rfl
     |some q=>
      exfalso;unfold bC at k;split at k<;>(try cases k;done)
      ·rename_i f args F;split at k<;>(try cases k;done);rename_i e y;have m:E.pois.ef f=some ⟨e.T,fun _ _=>none⟩:=by show(E.ef f).map _=_;rw[y];rfl
       rw[F]at h;simp only[A9,aa.cls,m,Dt]at h
       cases r:Aq (fun x=>closed (so E.pois.G (low st).fr x)) args with
       |none=>rw[r]at h;cases h
       |some v=>rw[r]at h;cases h
      ·rename_i f args F;split at k<;>(try cases k;done);rename_i g o u;split at k<;>(try cases k;done);rename_i e y;have m:E.pois.ef g=some ⟨e.T,fun _ _=>none⟩:=by show(E.ef g).map _=_;rw[y];rfl
       have I:so E.pois.G (low st).fr f=.c (.fn g o):=u;rw[F]at h;simp only[A9,aa.cls,I,m,Dt]at h
       cases r:Aq (fun x=>closed (so E.pois.G (low st).fr x)) args with
       |none=>rw[r]at h;cases h
       |some v=>rw[r]at h;cases h
    have s:bC E.pois l (low st).fr=none:=by
     unfold bC at i⊢;cases F:l.op<;>rw[F]at i<;>try rfl
     ·rename_i f args;simp only at i⊢;split at i<;>(try cases i;done);rename_i y;have m:E.pois.ef f=none:=by show(E.ef f).map _=_;rw[y];rfl
      rw[m]
     ·rename_i f args;simp only at i⊢
      show(match so E.G st.fr f with
       | .c (.fn f o)=>match E.pois.ef f with
        |some e=>some (e,args,o)
        |none=>none
       |_=>none)=none
      split
      ·rename_i g o u;rw[u]at i;simp only at i;split at i<;>(try cases i;done);rename_i y;have m:E.pois.ef g=none:=by show(E.ef g).map _=_;rw[y];rfl
       rw[m]
      ·rfl
    rw[Qd s,IS L,Ab]at h;obtain⟨p,A,Q⟩:=h;obtain⟨J,k2⟩:=Qm hd Q;refine⟨?_,k2⟩;rw[Qd i,IS L,Ab];exact⟨p,A,J⟩
theorem GP{f:ax×EK->Bool}:∀{Γ:TC} {seen:List ax},(Er f Γ seen).all f=true
 | [],_=>rfl
 |e::Γ,seen=>by
  unfold Er
  cases seen.contains e.1 with
  |true=>exact GP
  |false=>
   simp only
   cases b:f e with
   |true=>simp only[List.all_cons,b,Bool.true_and];exact GP
   |false=>exact GP
theorem JQ{N:Nat}(h:CP (.o N)=true):N<As:=by
 simp only[CP,Bool.not_eq_true']at h;exact Nat.lt_of_not_le fun b=>by rw[Nat.ble_eq_true_of_le b]at h;cases h
theorem Adu{N j:Nat}(h:CP (.c N j)=true):N<As:=JQ h
theorem Pr{N:Nat}(h:CP (.o N)=false):As≤N:=by
 simp only[CP,Bool.not_eq_false']at h;exact Ai h
section
variable {Γ:TC} {ρ:HS Γ} {st:St}
theorem af.low(h:af Γ ρ st)(c:(Γ.all fun e=>CP e.1)=true):af Γ ρ (WB.low st):=by
 refine⟨h.s,fun id q b=> ?_⟩;have ag:=JQ (Cp (pr:=fun e=>CP e.1) c (By b));have e:(WB.low st).ob id=st.ob id:=by show(if As≤id then Ob.none else st.ob id)=_;rw[if_neg (by omega)]
 rw[e];exact h.o id q b
theorem RS.clean{k:EK}{x:DK k}{sv:SV}(h:RS k x sv)(b:∀id,k.refs=some id->id<As):RS k x (D5 sv):=by
 have key:∀(id:Nat) (s:SV),s.ref=some id->id<As->D5 s=s:=fun id s d ag=>by
  unfold D5;rw[d];simp only;rw[if_neg (by omega)]
 have i:∀s:SV,s.ref=none->D5 s=s:=fun s d=>by unfold D5;rw[d]
 induction k
 case v t=>obtain⟨c,rfl,e⟩:=h;exact⟨c,rfl,e⟩
 case opt k ih=>
  unfold RS at h⊢
  cases x with
  |none=>simp only at h;subst h;rfl
  |some y=>exact ih h b
 case rp ex r=>obtain⟨cs,rest,rfl,e⟩:=h;exact⟨cs,rest,rfl,e⟩
 case undef=>trivial
 case ptr id o=>unfold RS at h;subst h;exact key id _ rfl (b id rfl)
 case eptr id s o=>unfold RS at h;subst h;exact key id _ rfl (b id rfl)
 case aptr id n o=>obtain⟨h,hi⟩:=h;subst h;exact⟨key id _ rfl (b id rfl),hi⟩
 case own id=>unfold RS at h;subst h;exact key id _ rfl (b id rfl)
 case mp id=>unfold RS at h;subst h;exact key id _ rfl (b id rfl)
 case iter id=>unfold RS at h;subst h;exact key id _ rfl (b id rfl)
 case ent id k v=>
  obtain⟨g,l,rfl,f,j⟩:=h;exact⟨g,l,key id _ rfl (b id rfl),f,j⟩
 case stamp id k=>
  obtain⟨g,rfl,f⟩:=h;exact⟨g,key id _ rfl (b id rfl),f⟩
 all_goals exact h
theorem Mv{p:ax}{k:EK}(h:Ge (p,k)=true):CP p=true/\∀id,k.refs=some id->id<As:=by
 simp only[Ge,Ag]at h;refine⟨h.1,fun id ag=> ?_⟩;have b:=h.2;rw[ag]at b;exact JQ b
theorem af.lowC(h:af Γ ρ st)(l:Γ.all Ge=true):af Γ ρ (WB.low (Dr st)):=by
 refine⟨fun i q g=>RS.clean (h.s i q g) (Mv (Cp l (By g))).2,fun id q g=> ?_⟩;have ag:=JQ (Mv (Cp l (By g))).1
 have e:(WB.low (Dr st)).ob id=Gy (st.ob id):=by
  show(if As≤id then Ob.none else(if As≤id then st.ob id else Gy (st.ob id)))=_;rw[if_neg (by omega),if_neg (by omega)]
 rw[e];have b:=h.o id q g;obtain⟨k,A⟩:=q;simp only at b⊢;cases k<;>try exact b
 ·obtain⟨cs,d,c,r⟩:=b;rw[d];refine⟨cs.map D5,rfl,by simp[c],fun j y p f=> ?_⟩;obtain⟨sv,u,t⟩:=r j _ p f;exact⟨D5 sv,by simp[u],RS.clean t (Mv (Cp l (By f))).2⟩
 all_goals first
  |(obtain⟨es,d,c⟩:=b;rw[d];exact⟨es,rfl,c⟩)
  |(obtain⟨z,ks,vs,d,c⟩:=b;rw[d];exact⟨z,ks,vs,rfl,c⟩)
  |(obtain⟨ks,vs,x,v,d,c⟩:=b;rw[d];exact⟨ks,vs,x,v,rfl,c⟩)
  |(obtain⟨ks,vs,m,d,c⟩:=b;rw[d];exact⟨ks,vs,m,rfl,c⟩)
  |(unfold RO at b;rw[b];rfl)
theorem af.highC(h:af Γ ρ st)(d:Γ.all EM=true){st':St}(c:∀i,As≤i->st'.ob i=st.ob i):af Γ ρ st':=by
 refine⟨fun i q b=> ?_,fun id q b=> ?_⟩
 ·have:=Cp d (By b);cases this
 ·have ag:CP (.o id)=false:=by simpa[EM]using Cp d (By b)
  rw[c id (Pr ag)];exact h.o id q b
theorem af.comb{Θ:TC}{θ:HS Θ}(p:af Θ θ st)(h:af Γ ρ (WB.low st))(C:(Γ.all fun e=>CP e.1)=true)(l:Θ.all EM=true):af (Θ++Γ) (CB Θ θ ρ) st:=by
 refine⟨fun i q t=> ?_,fun id q t=> ?_⟩
 ·rcases D7 t with⟨_,f,d,e⟩|⟨_,f,d,e⟩
  ·have:=Cp l (By d);cases this
  ·rw[e];exact h.s i _ d
 ·rcases D7 t with⟨F,f,d,e⟩|⟨F,f,d,e⟩
  ·rw[e];have ag:CP (.o id)=false:=by simpa[EM]using Cp l (By d)
   have r:=p.o id _ d;obtain⟨k,G⟩:=q;cases k<;>try exact r
   obtain⟨cs,B,u,y⟩:=r;refine⟨cs,B,u,fun j D v g=> ?_⟩;rcases D7 g with⟨_,A,b,m⟩|⟨_,A,b,m⟩
   ·rw[m];exact y j _ v b
   ·have:CP (.c id j)=true:=Cp (pr:=fun e=>CP e.1) C (By b);have:=Adu this;have:=Pr ag;omega
  ·rw[e];have ag:=JQ (Cp (pr:=fun e=>CP e.1) C (By d));have I:(WB.low st).ob id=st.ob id:=by show(if As≤id then Ob.none else st.ob id)=_;rw[if_neg (by omega)]
   have r:=h.o id _ d;rw[I]at r;obtain⟨k,G⟩:=q;cases k<;>try exact r
   obtain⟨cs,B,u,y⟩:=r;refine⟨cs,B,u,fun j D v g=> ?_⟩;rcases D7 g with⟨_,A,b,m⟩|⟨_,A,b,m⟩
   ·have x:CP (.c id j)=false:=by simpa[EM]using Cp l (By b)
    have:=Pr (N:=id) x;omega
   ·rw[m];exact y j _ v b
end
theorem Zr{X:TP}{E:ah}(hT:aG X E)(j:BH X E){Γ Θ:TC}{ρ:HS Γ}{θ:HS Θ}{st:St}(e:af Γ ρ (low st))(c:af Θ θ st)(g:Θ.all EM=true)(rd:Nat->Ob){l:SL}{o:bE (Θ++Γ)}(h:dZ X Γ Θ l=some o){b:o.B}(i:o.d.val (CB Θ θ ρ)=some b):
  ∃st',Bm E rd l st=some st'/\af o.Γ' (o.up (CB Θ θ ρ) b) st':=by
 unfold dZ at h;split at h<;>(try cases h;done);split at h<;>(try cases h;done);rename_i f;exact VN hT j (af.comb c e f g) rd h i
theorem OF{X:TP}{E:ah}(hT:aG X E)(F:BH X E){A:Type}{D:List Nat}:∀{ls:List SL} {Γ Θ:TC} {q:S0 A Γ Θ} {ρ:HS Γ} {θ:HS Θ} {st:St} {K:HS q.Γ'->HS q.Θ'->Option A} {r:A},
  If A X D ls Γ Θ=some q->af Γ ρ (low st)->af Θ θ st->Θ.all EM=true->q.run ρ θ K=some r->∃st',F2 E.named D ls st=some st'/\∃m s,af q.Γ' m (low st')/\af q.Θ' s st'/\q.Θ'.all EM=true/\K m s=some r
 | [],Γ,Θ,q,ρ,θ,st,K,r,h,hr,hΘ,hh,hk=>by
  simp only[If,Ac]at h;subst h;exact⟨st,rfl,ρ,θ,hr,hΘ,hh,hk⟩
 |l::ls,Γ,Θ,q,ρ,θ,st,K,r,h,hr,hΘ,hh,hk=>by
  simp only[If]at h;split at h
  ·rename_i o C;split at h<;>(try cases h;done);rename_i g f R S;split at h<;>(try cases h;done);rename_i p B;cases h;have j:o.d.app (CB Θ θ ρ) (fun b=>p.run (g (o.up (CB Θ θ ρ) b)) (f (o.up (CB Θ θ ρ) b)) K)=some r:=hk;obtain⟨b,M,L⟩:=ab.app_some j;obtain⟨N,J,y⟩:=Zr hT.named F.named hr hΘ hh (AA (some (ag l.op D)) (Ct st.ob)) C M
   have v:((Er Ge o.Γ' []).all fun e=>CP e.1)=true:=by
    have:=GP (f:=Ge) (Γ:=o.Γ') (seen:= []);rw[List.all_eq_true]at this⊢;intro e T;exact(Mv (p:=e.1) (k:=e.2) (this e T)).1
   obtain⟨c,I,G⟩:=OF hT F B (af.low (CN R y) v) (CN S y) GP L;exact⟨c,by simp only[F2,Du,J,Option.bind_some];exact I,G⟩
  ·split at h<;>(try cases h;done);rename_i Q;split at h<;>(try cases h;done);rename_i o C;split at h<;>(try cases h;done);rename_i p B;cases h;have j:o.d.app ρ (fun b=>p.run (o.up ρ b) θ K)=some r:=hk;obtain⟨b,M,L⟩:=ab.app_some j
   obtain⟨t,J,y⟩:=VP hT.named.pois hr (rd:=AA (some (ag l.op D)) (Ct st.ob)) (fun id x=>by
    show(if(ag l.op D).contains id then Ob.none else Ct st.ob id)=_
    rw[x];rfl) C M
   obtain⟨O,k2⟩:=Ae9 Q J;have u:af Θ θ (ai t st):=hΘ.highC hh fun i hi=>by show(if As≤i then st.ob i else t.ob i)=_;rw[if_pos hi]
   rw[<-k2]at y;obtain⟨c,I,G⟩:=OF hT F B y u hh L;exact⟨c,by simp only[F2,O,Option.bind_some];exact I,G⟩
theorem Ze{X:TP}{E:ah}(hT:aG X E)(s:BH X E){A:Type}{D:List Nat}{ls:List SL}{Γ:TC}{q:bq A Γ}{ρ:HS Γ}{st:St}{K:HS q.Γ'->Option A}{r:A}(h:OH A X D ls Γ=some q)(j:af Γ ρ st)(l:q.run ρ K=some r):
  ∃st',Il E D ls st=some st'/\∃b,af q.Γ' b st'/\K b=some r:=by
 unfold OH at h;split at h<;>(try cases h;done);rename_i g f m o;split at h<;>(try cases h;done);rename_i p k;split at h<;>(try cases h;done);rename_i d;cases h;have c:=j.kill D;have C:af _ (g (BF D ρ)) (low (Dr (WB.kill D st))):=af.lowC (CN m c) GP;have B:af _ (f (BF D ρ)) (Dr (WB.kill D st)):=af.highC (CN o c) GP fun i hi=>by show(if As≤i then _ else _)=_;rw[if_pos hi]
 obtain⟨st',y,b,e,x,v,u,t⟩:=OF hT s k C B GP l;exact⟨st',y,_,af.comb v x d u,t⟩
theorem Wt{le:Db}{E:ah}{W:List (Nat×Nat)}{ls:List SL}{Q:Ex->St->Prop}{st st':St}(h:c5 E W ls st=some st')(b:Q .normal st'):CE le E (.regW ls) Q st:=⟨st,Ax.refl st,W,st',h,b⟩
theorem Ws{le:Db}{E:ah}{D:List Nat}{ls:List SL}{Q:Ex->St->Prop}{st st':St}(h:Cf E true D ls st=some st'\/Il E D ls st=some st')(b:Q .normal st'):CE le E (.regE D ls) Q st:=⟨st,Ax.refl st,st',h,b⟩
theorem TL{X:TP}{E:ah}(hT:aG X E)(i:BH X E){A:Type}{e:Bool}{D:List Nat}{ls:List SL}{Γ:TC}{q:bq A Γ}{ρ:HS Γ}{st:St}{K:HS q.Γ'->Option A}{r:A}(h:OI A X e D ls Γ=some q)(f:af Γ ρ st)(g:q.run ρ K=some r):
  ∃st',(Cf E true D ls st=some st'\/Il E D ls st=some st')/\∃b,af q.Γ' b st'/\K b=some r:=by
 cases e with
 |true=>
  obtain⟨st',d,c⟩:=Ze hT i h f g;exact⟨st',.inr d,c⟩
 |false=>
  obtain⟨st',d,c⟩:=LN hT i h f g;exact⟨st',.inl d,c⟩
theorem Zg(hT:aG X E)(s:BH X E){A:Type}{Q:Ex->St->Prop}:∀{c:AC} {Γ:TC} {q:bq A Γ} {ρ:HS Γ} {st:St} {K:HS q.Γ'->Option A} {r:A},G3 A X c Γ=some q->af Γ ρ st->q.run ρ K=some r->
  (∀st' d,af q.Γ' d st'->K d=some r->Q .normal st')->CE (Dx X.Θ) E (erase c) Q st:=by
 intro c
 induction c generalizing Q with
 |skip=>
  intro Γ q ρ st K r h f i j;simp only[G3,Ac]at h;subst h;exact⟨st,Ax.refl st,j _ _ f i⟩
 |reg draw D ls=>
  intro Γ q ρ st K r h f i j;obtain⟨st',l,d,k,o⟩:=LN hT s (K:=K) h f i;exact Wr l (j _ _ k o)
 |rg D gs=>
  intro Γ q ρ st K r h f i j;exact TK hT s (K:=K) h f i j
 |regE e D ls=>
  intro Γ q ρ st K r h f i j;obtain⟨st',l,d,k,o⟩:=TL hT s (K:=K) h f i;exact Ws l (j _ _ k o)
 |regW W ls=>
  intro Γ q ρ st K r h f i j;obtain⟨st',l,d,k,o⟩:=OG hT s (K:=K) h f i;exact Wt l (j _ _ k o)
 |sq a b iha ihb=>
  intro Γ q ρ st K r h f i j;simp only[G3]at h;split at h<;>(try cases h;done);rename_i p t;split at h<;>(try cases h;done);rename_i u m;cases h;exact⟨st,Ax.refl st,iha t f i fun st' d l k=>ihb m l k j⟩
 |gh g c ih=>
  intro Γ q ρ st K r h f i j;simp only[G3]at h;split at h<;>(try cases h;done);rename_i p t;split at h<;>(try cases h;done);rename_i u m;cases h;obtain⟨st',l,k⟩:=JD t f;exact Wu l (ih m k i j)
 |_=>intro Γ q ρ st K r h;cases h
theorem Qu{Γ:TC}{ρ:HS Γ}{st:St}(b:af Γ ρ st){x:AW}{q:Σ t:Ty,ab (HS Γ) (D t)}{y:D q.1}(h:IJ X Γ x=some q)(m:q.2.val ρ=some y):∃c,EU st x=some c/\Can q.1 y [c]:=by
 cases x with
 |tmp t=>
  simp only[IJ]at h;split at h<;>(try cases h;done);rename_i p v;cases h;obtain⟨c,l,j,_⟩:=MZ (msk:= []) (rd:=st.ob) (G:=X.G) (fl:=p.1) (q:=p.2) v b (fun _ _=>rfl) m;exact⟨c,l,j⟩
 |cell a sz=>
  simp only[IJ]at h;split at h<;>(try cases h;done);rename_i k u;split at h<;>(try cases h;done)
  ·rename_i t d hd;cases h;obtain⟨sv,l,c,j,r⟩:=JO (msk:= []) (rd:=st.ob) (sv:=deref st.ob (so X.G st.fr (.t a))) b (fun _ _=>rfl) hd m (fun x g=>Ii b (fun _ _=>rfl) (fun x g=>AT u b g) g (JN hd));subst j;refine⟨c, ?_,r⟩;have i:AO st.ob sz (deref st.ob (st.fr a))=some (.c c):=l;simp[EU,i,Cy]
  ·rename_i id f hd;split at h<;>(try cases h;done);rename_i e size t C A;cases h;cases m;obtain⟨sv,l,j⟩:=JO (msk:= []) (rd:=st.ob) (sv:=deref st.ob (so X.G st.fr (.t a))) (y:=f ρ) b (fun _ _=>rfl) hd rfl (fun x g=>Ii b (fun _ _=>rfl) (fun x g=>AT u b g) g (JN hd));have s:sv=.osl id:=j;subst s;obtain⟨es,r,B⟩:=b.o id _ A;refine⟨.sl none es, ?_,by unfold Can;exact⟨_,_,rfl,B⟩⟩;have i:AO st.ob sz (deref st.ob (st.fr a))=some (.osl id):=l;simp[EU,i,Cy,r]
theorem Qt{Γ:TC}{ρ:HS Γ}{st:St}(f:af Γ ρ st):∀{d:List AW} {q:Σ t:Ty,ab (HS Γ) (D t)} {y:D q.1},II X Γ d=some q->q.2.val ρ=some y->∃l,Aq (EU st) d=some l/\Can q.1 y l
 | [],q,y,h,hy=>by
  simp only[II,Ac]at h;subst h;exact⟨[],rfl,by unfold Can;rfl⟩
 | [x],q,y,h,hy=>by
  simp only[II]at h;split at h<;>(try cases h;done);rename_i p i;cases h;obtain⟨c,k,j⟩:=Qu f i hy;exact⟨[c],by simp[Aq,k],by unfold Can;exact⟨c,rfl,j⟩⟩
 |x::z::d,q,y,h,hy=>by
  simp only[II]at h;split at h<;>(try cases h;done);rename_i p u i g;cases h;obtain⟨s,r⟩:=ab.both_val hy;obtain⟨c,k,j⟩:=Qu f i s;obtain⟨l,o,m⟩:=Qt f g r;refine⟨c::l, ?_,by unfold Can;exact⟨c,l,rfl,j,m⟩⟩;have e:Aq (EU st) (x::z::d)=(EU st x).bind fun b=>(Aq (EU st) (z::d)).map fun bs=>b::bs:=rfl;rw[e,k,o];rfl
theorem Afm{Γ:TC}{ρ:HS Γ}{st:St}(j:af Γ ρ st){g:List AW}{q:Σ t:Ty,ab (HS Γ) (D t)}{y:D q.1}(h:Nf X Γ g=some q)(i:q.2.val ρ=some y):∃c,DU st g=some c/\Can q.1 y [c]:=by
 match g,h with
 | [x],h=>
  obtain⟨c,b,f⟩:=Qu j h i;exact⟨c,by simp[DU,Aq,b,Fk],f⟩
 | [],h=>
  simp only[Nf]at h;split at h<;>(try cases h;done);rename_i p k;cases h;obtain⟨l,b,f⟩:=Qt j k i;simp only[Aq,Ac]at b;subst b;exact⟨.tup [],rfl,by unfold Can;exact⟨[],rfl,f⟩⟩
 |x::z::g,h=>
  simp only[Nf]at h;split at h<;>(try cases h;done);rename_i p k;cases h;obtain⟨l,b,f⟩:=Qt j k i;have e:=D3 b;refine⟨.tup l, ?_,by unfold Can;exact⟨l,rfl,f⟩⟩;simp only[DU,b,Option.map_some]
  match l,e with
  |c::d::l,_=>rfl
theorem Va{R A B:Type}{e:Nat×TC}{c:XC}{rt:Bool}{f:Ea R (e::c) rt->B}{ρ:HS e.2}{b:B}{ke:KE A (e::c)}{kr:R->Option A}{r:A}(h:(bA (e::c) rt f).1 ρ=some b)
  (d:∀o,f o=b->bB (e::c) rt ke kr o=some r):ke.1 ρ=some r:=by
 cases c with
 |nil=>
  cases rt with
  |false=>exact d ρ (Option.some.inj h)
  |true=>exact d (.inl ρ) (Option.some.inj h)
 |cons e' c=>exact d (.inl ρ) (Option.some.inj h)
theorem Hz{R A B:Type}:∀{d:XC} {rt:Bool} {f:Ea R d rt->B} {i:Nat} {c:TC} {s:KE B d->HS c->Option B} {ρ:HS c} {b:B} {ke:KE A d} {kr:R->Option A} {r:A},Ee B d i=some ⟨c,s⟩->s (bA d rt f) ρ=some b->
  (∀o,f o=b->bB d rt ke kr o=some r)->∃s',Ee A d i=some ⟨c,s'⟩/\s' ke ρ=some r
 | [],rt,f,i,c,s,ρ,b,ke,kr,r,h,_,_=>by cases h
 |e::d,rt,f,i,c,s,ρ,b,ke,kr,r,h,hs,hk=>by
  simp only[Ee]at h⊢;split at h
  ·rename_i hi;cases h;rw[if_pos hi];exact⟨_,rfl,Va hs hk⟩
  ·rename_i hi;rw[if_neg hi];split at h<;>(try cases h;done);rename_i q g;cases h
   cases d with
   |nil=>cases g
   |cons e' d=>
    obtain⟨s',l,k⟩:=Hz (A:=A) (f:=fun o=>f (.inr o)) (ke:=ke.2) (kr:=kr) (r:=r) g hs (fun o j=>hk (.inr o) j);rw[l];exact⟨_,rfl,k⟩
theorem Ac1{R A B:Type}{e:Nat×TC}{d:XC}{rt:Bool}{f:Ea R (e::d) rt->B}{i:Nat}{c:TC}{s:KE B d->HS c->Option B}{ρ:HS c}{b:B}{ke:KE A (e::d)}{kr:R->Option A}{r:A}(h:Ee B d i=some ⟨c,s⟩)(g:s (bA (e::d) rt f).2 ρ=some b)
  (k:∀o,f o=b->bB (e::d) rt ke kr o=some r):∃s',Ee A d i=some ⟨c,s'⟩/\s' ke.2 ρ=some r:=by
 cases d with
 |nil=>cases h
 |cons e' d=>exact Hz (A:=A) (f:=fun o=>f (.inr o)) (ke:=ke.2) (kr:=kr) (r:=r) h g (fun o j=>k (.inr o) j)
theorem IM{R A B:Type}:∀{c:XC} {rt:Bool} {f:Ea R c rt->B} {v:R} {b:B} {ke:KE A c} {kr:R->Option A} {r:A},bV c rt f v=some b->(∀o,f o=b->bB c rt ke kr o=some r)->kr v=some r
 | [],true,f,v,b,ke,kr,r,h,hk=>hk v (Option.some.inj h)
 | [],false,f,v,b,ke,kr,r,h,hk=>by cases h
 | [e],false,f,v,b,ke,kr,r,h,hk=>by cases h
 | [e],true,f,v,b,ke,kr,r,h,hk=>hk (.inr v) (Option.some.inj h)
 |e::e'::c,rt,f,v,b,ke,kr,r,h,hk=>IM (f:=fun o=>f (.inr o)) (ke:=ke.2) h (fun o d=>hk (.inr o) d)
theorem HH{A:Type}{d:XC}:∀{c:XC} {g:KE A d->KE A c} {i:Nat} {b:TC} {s:KE A c->HS b->Option A} {ke:KE A d} {ρ:HS b} {r:A},HG A d c=some g->Ee A c i=some ⟨b,s⟩->s (g ke) ρ=some r->∃s',Ee A d i=some ⟨b,s'⟩/\s' ke ρ=some r
 | [],g,i,b,s,ke,ρ,r,_,h,_=>by cases h
 |e::c,g,i,b,s,ke,ρ,r,hg,h,hs=>by
  simp only[HG]at hg;split at hg<;>(try cases hg;done);rename_i q t o k;split at hg<;>(try cases hg;done);rename_i l;cases hg;obtain⟨m,f⟩:=q;simp only at l;subst l;simp only[Ee]at h;split at h
  ·rename_i hi;subst hi;cases h;exact⟨f,o,hs⟩
  ·split at h<;>(try cases h;done);rename_i p j;cases h;exact HH k j hs
def FM(st:St)(rs:List AW):(b:Ty)->D b->Prop
 | .nw e size t,ys=>∃es,ZM rs (.arr e size es) .ret st/\CanAll (fun x c=>Can t x [c]) ys es
 |b,v=>∃c,DU st rs=some c/\Can b v [c]
theorem FM.val{st:St}{rs:List AW}{b:Ty}{v:D b}{c:CV}(h:DU st rs=some c)(d:Can b v [c]):FM st rs b v:=by
 cases b<;>first|exact⟨c,h,d⟩|(unfold Can at d;exact d.elim)
theorem FM.of{st:St}{rs:List AW}{b:Ty}{v:D b}(d:b.val=true)(h:FM st rs b v):∃c,DU st rs=some c/\Can b v [c]:=by
 cases b<;>first|exact h|cases d
theorem Afp{Γ:TC}{rs:List AW}{k:Ty}{g:HS Γ->D k}{ρ:HS Γ}{st:St}(h:Qv Γ rs k=some g)(d:af Γ ρ st):FM st rs k (g ρ):=by
 unfold Qv at h;split at h<;>(try cases h;done);rename_i i e size t;split at h<;>(try cases h;done)
 ·rename_i id f j;split at h<;>(try cases h;done);rename_i B b A y p;split at h<;>(try cases h;done);rename_i m;split at h<;>(try cases h;done);rename_i q;subst m;obtain⟨rfl,rfl⟩:=q;cases h;have v:st.fr i=.osl id:=d.s i _ j;obtain⟨es,u,r⟩:=d.o id _ p;exact⟨es,⟨i,rfl,.inl ⟨id,.inl v,u,rfl⟩⟩,r⟩
 ·rename_i f j;cases h;obtain⟨c,x,l⟩:=d.s i _ j;unfold Can at l;cases l;exact⟨[],⟨i,rfl,.inr ⟨x,_,_,rfl⟩⟩,rfl⟩
theorem Afi{rs:List AW}{e:Ty}{Γ:TC}{q:ct Γ (D e)}{ρ:HS Γ}{st:St}(h:dp X rs e Γ=some q)(f:af Γ ρ st){v:q.B}(i:q.d.val ρ=some v):FM st rs e (q.up ρ v):=by
 unfold dp at h;split at h
 ·rename_i g b;cases h;exact Afp b f
 ·split at h<;>(try cases h;done);rename_i m j;split at h<;>(try cases h;done);rename_i g b;cases h;obtain⟨c,l,k⟩:=Afm f j i;exact FM.val l (C0 _ _ b k)
def XP{A:Type}{d:XC}{b:TC}{R:Type}(RP:St->R->Prop)(k:d5 A d b R)(r:A):Ex->St->Prop
 | .normal,st=>∃ρ,af b ρ st/\k.n ρ=some r
 | .exit i,st=>∃c s ρ,Ee A d i=some ⟨c,s⟩/\af c ρ st/\s k.e ρ=some r
 | .ret,st=>∃v,RP st v/\k.r v=some r
theorem TI{X:TP}:∀{gs:List Gh} {Γ:TC} {p:Σ Γ':TC,HS Γ->HS Γ'} {ρ:HS Γ} {st:St},Jz X gs Γ=some p->af Γ ρ st->∃st',Ax (Dx X.Θ) st st'/\af p.1 (p.2 ρ) st'
 | [],Γ,p,ρ,st,h,hr=>by
  simp only[Jz,Ac]at h;subst h;exact⟨st,Ax.refl st,hr⟩
 |g::gs,Γ,p,ρ,st,h,hr=>by
  simp only[Jz]at h;split at h<;>(try cases h;done);rename_i q d;split at h<;>(try cases h;done);rename_i r b;cases h;obtain⟨k,j,i⟩:=JD d hr;obtain⟨c,f,e⟩:=TI b i;exact⟨c,j.trans f,e⟩
theorem Wd{b:Type}:∀{l:List b} {j:Nat} {x:b},l[j]? =some x->(x::l.eraseIdx j).Perm l
 | [],j,x,h=>by simp at h
 |y::l,0,x,h=>by
  simp only[List.getElem?_cons_zero,Ac]at h;subst h;exact List.Perm.refl _
 |y::l,j+1,x,h=>by
  simp only[List.getElem?_cons_succ]at h;exact(List.Perm.swap y x _).trans (List.Perm.cons y (Wd h))
theorem CanAll.erase{e β:Type}{R:e->β->Prop}:∀(j:Nat) {c:List e} {bs:List β},CanAll R c bs->CanAll R (c.eraseIdx j) (bs.eraseIdx j)
 |_,[],bs,h=>by unfold CanAll at h;subst h;exact CanAll.nil
 |0,a::c,bs,h=>by obtain⟨b,bs,rfl,f,d⟩:=h;exact d
 |j+1,a::c,bs,h=>by obtain⟨b,bs,rfl,f,d⟩:=h;exact CanAll.cons f (CanAll.erase j d)
theorem TO(hT:aG X E)(hF:BH X E){R:Type}{rd:(Γ:TC)->Option (ct Γ R)}{RP:St->R->Prop}(hrd:∀{Γ:TC} {q:ct Γ R} {ρ:HS Γ} {st:St},rd Γ=some q->af Γ ρ st->∀{v:q.B},q.d.val ρ=some v->RP st (q.up ρ v)):∀(c:AC) {A:Type} {Q:XC} {u Γ:TC} {d:HS Γ->d5 A Q u R->Option A} {ρ:HS Γ} {k:d5 A Q u R} {st:St} {r:A},
  den X R rd c A Q u Γ=some d->af Γ ρ st->d ρ k=some r->CE (Dx X.Θ) E (erase c) (XP RP k r) st:=by
 intro c
 induction c with
 |skip=>
  intro A Q u Γ d ρ k st r h C hd;simp only[den]at h;split at h<;>(try cases h;done);rename_i f Z;cases h;exact⟨st,Ax.refl st,_,CN Z C,hd⟩
 |reg draw D ls=>
  intro A Q u Γ d ρ k st r h C hd;simp only[den]at h;split at h<;>(try cases h;done);rename_i q T;split at h<;>(try cases h;done);rename_i f Z;cases h;obtain⟨st',J,l,I,F⟩:=LN hT hF T C hd;exact Wr J ⟨_,CN Z I,F⟩
 |rg D gs=>
  intro A Q u Γ d ρ k st r h C hd;simp only[den]at h;split at h<;>(try cases h;done);rename_i q T;split at h<;>(try cases h;done);rename_i f Z;cases h;exact TK hT hF T C hd fun st' l I F=>⟨_,CN Z I,F⟩
 |rgt draw D ls hh=>
  intro A Q u Γ d ρ k st r h C hd;simp only[den]at h;split at h<;>(try cases h;done);rename_i q T;cases h;exact Zf hT hF T C hd fun st' l I F=>⟨_,I,F⟩
 |rga D ls gs=>
  intro A Q u Γ d ρ k st r h C hd;simp only[den]at h;split at h<;>(try cases h;done);rename_i q T;split at h<;>(try cases h;done);rename_i p K;split at h<;>(try cases h;done);rename_i f Z;cases h;obtain⟨st',J,l,I,F⟩:=LN hT hF T C hd;obtain⟨s2,V,L⟩:=TI K I;exact⟨st,Ax.refl st,st',J,s2,V,_,CN Z L,F⟩
 |regE e D ls=>
  intro A Q u Γ d ρ k st r h C hd;simp only[den]at h;split at h<;>(try cases h;done);rename_i q T;split at h<;>(try cases h;done);rename_i f Z;cases h;obtain⟨st',J,l,I,F⟩:=TL hT hF T C hd;exact Ws J ⟨_,CN Z I,F⟩
 |regW W ls=>
  intro A Q u Γ d ρ k st r h C hd;simp only[den]at h;split at h<;>(try cases h;done);rename_i q T;split at h<;>(try cases h;done);rename_i f Z;cases h;obtain⟨st',J,l,I,F⟩:=OG hT hF T C hd;exact Wt J ⟨_,CN Z I,F⟩
 |sq a b iha ihb=>
  intro A Q u Γ d ρ k st r h C hd;simp only[den]at h;split at h<;>(try cases h;done);rename_i q T;split at h<;>(try cases h;done);rename_i db M;cases h;exact⟨st,Ax.refl st,Zg hT hF T C hd fun st' l J I=>ihb M J I⟩
 |seq Γm a b iha ihb=>
  intro A Q u Γ d ρ k st r h C hd;simp only[den]at h;split at h<;>(try cases h;done);rename_i da db hda M;cases h;refine⟨st,Ax.refl st,CI _ (fun e s K=> ?_) (iha hda C hd)⟩
  cases e with
  |normal=>
   obtain⟨l,J,I⟩:=K;exact ihb M J I
  |exit i=>exact K
  |ret=>exact K
 |join Γm ex rt a b iha ihb=>
  intro A Q u Γ d ρ k st r h C hd;simp only[den]at h;split at h<;>(try cases h;done);rename_i Y hys;split at h<;>(try cases h;done);rename_i g da db hg hda M;cases h;obtain⟨o,J,I⟩:=Ab.1 hd;refine⟨st,Ax.refl st,CI _ (fun e s K=> ?_) (iha hda C J)⟩;have hk:∀o',o'=o->bB ((0,Γm)::Y) rt (fun ρm=>db ρm k,g k.e) k.r o'=some r:=fun o' ho=>ho▸I
  cases e with
  |normal=>
   obtain⟨l,F,V⟩:=K;exact ihb M F (Va (ke:=(fun ρm=>db ρm k,g k.e)) V hk)
  |exit i=>
   obtain⟨S,s',l,F,V,L⟩:=K;obtain⟨s2,U,h7⟩:=Ac1 (A:=A) (ke:=(fun ρm=>db ρm k,g k.e)) F L hk;obtain⟨s3,h8,h9⟩:=HH hg U h7;exact⟨S,s3,l,h8,V,h9⟩
  |ret=>
   obtain⟨v,F,L⟩:=K;exact⟨v,F,IM (ke:=(fun ρm=>db ρm k,g k.e)) L hk⟩
 |cond c x y ihx ihy=>
  intro A Q u Γ d ρ k st r h C hd;simp only[den]at h;split at h<;>(try cases h;done);rename_i e dx dy he hdx hdy;cases h;obtain⟨b,J,I⟩:=ab.app_some hd;obtain⟨cv,e1,e2⟩:=AB (G:=X.G) he C J;unfold Can at e2;cases e2;refine⟨st,Ax.refl st,b,by rw[hT.G];exact e1,fun hb=> ?_,fun hb=> ?_⟩
  ·rw[if_pos hb]at I;exact ihx hdx C I
  ·rw[if_neg (by simp[hb])]at I;exact ihy hdy C I
 |block id b ih=>
  intro A Q u Γ d ρ k st r h C hd;simp only[den]at h;split at h<;>(try cases h;done);rename_i db M;cases h;refine⟨st,Ax.refl st,CI _ (fun e s K=> ?_) (ih M C hd)⟩
  cases e with
  |normal=>exact K
  |exit i=>
   obtain⟨S,s',l,F,V,L⟩:=K;simp only[Ee]at F;by_cases hi:i=id
   ·subst hi;simp only[if_true,Ac,Sigma.mk.injEq]at F;obtain⟨rfl,F⟩:=F;cases eq_of_heq F;simp only[if_true];exact⟨l,V,L⟩
   ·simp only[if_neg hi];rw[if_neg (fun e=>hi e.symm)]at F;split at F<;>(try cases F;done);rename_i q T;cases F;exact⟨_,_,l,T,V,L⟩
  |ret=>exact K
 |loop Γh ex rt b ih=>
  intro A Q u Γ d ρ k st r h C hd;simp only[den]at h;split at h<;>(try cases h;done);rename_i Y hys;split at h<;>(try cases h;done);rename_i g f db hg Z M;cases h;obtain⟨o,J,I⟩:=Ab.1 hd;obtain⟨n,hn⟩:=Hy.1 J;refine⟨st,Ax.refl st,fun m s=>∃ρ,af Γh ρ s/\Dw (fun ρ=>db ρ ⟨fun l=>some (.inl l),bA Y rt Sum.inr,bV Y rt Sum.inr⟩) m ρ=some o,⟨n,f ρ,CN Z C,hn⟩,fun m s hR=> ?_⟩;obtain⟨ρ1,hr1,hi⟩:=hR
  cases m with
  |zero=>cases hi
  |succ m=>
   simp only[Dw]at hi;obtain⟨w,F,V⟩:=Ab.1 hi;refine CI _ (fun e s' K=> ?_) (ih M hr1 F)
   have hk:∀o',Sum.inr o'=w->bB Y rt (g k.e) k.r o'=some r:=fun o' ho=>by
    subst ho;simp only[Ac]at V;rw[V];exact I
   cases e with
   |normal=>
    obtain⟨l,L,U⟩:=K;cases U;exact⟨m,by omega,l,L,V⟩
   |exit i=>
    obtain⟨S,s2,l,L,U,h7⟩:=K;obtain⟨s3,h8,h9⟩:=Hz (A:=A) (ke:=g k.e) L h7 hk;obtain⟨s4,h10,h11⟩:=HH hg h8 h9;exact⟨S,s4,l,h10,U,h11⟩
   |ret=>
    obtain⟨v,L,h7⟩:=K;exact⟨v,L,IM (ke:=g k.e) h7 hk⟩
 |peel Γ1 a Γh ex rt b iha ihb=>
  intro A Q u Γ d ρ k st r h C hd;simp only[den]at h;split at h<;>(try cases h;done);rename_i Y O hys;split at h<;>(try cases h;done);rename_i g f da db hg Z hda M;cases h;have O:=of_decide_eq_true O;obtain⟨o,J,I⟩:=Ab.1 hd;obtain⟨w0,J,h1'⟩:=Ab.1 J
  have hN:∃N,∀l,w0=.inl l->∃n,n<N/\Dw (fun ρ=>db ρ ⟨fun l=>some (.inl l),bA Y rt Sum.inr,bV Y rt Sum.inr⟩) n l=some o:=by
   cases w0 with
   |inl l=>
    obtain⟨n,hn⟩:=Hy.1 h1';exact⟨n+1,fun ρ2 e=>by cases e;exact⟨n,by omega,hn⟩⟩
   |inr o'=>exact⟨0,fun _ e=>by cases e⟩
  obtain⟨N,hN⟩:=hN;refine⟨st,Ax.refl st,fun m s=>(∃ρ,af Γh ρ s/\Dw (fun ρ=>db ρ ⟨fun l=>some (.inl l),bA Y rt Sum.inr,bV Y rt Sum.inr⟩) m ρ=some o)\/(m=N/\af Γ1 (f ρ) s),⟨N,.inr ⟨rfl,CN Z C⟩⟩,fun m s hR=> ?_⟩;rcases hR with⟨ρ1,hr1,hi⟩|⟨rfl,hr1⟩
  ·cases m with
   |zero=>cases hi
   |succ m=>
    simp only[Dw]at hi;obtain⟨w,F,V⟩:=Ab.1 hi;refine CI _ (fun e s' K=> ?_) (ihb M hr1 F)
    have hk:∀o',Sum.inr o'=w->bB Y rt (g k.e) k.r o'=some r:=fun o' ho=>by
     subst ho;simp only[Ac]at V;rw[V];exact I
    cases e with
    |normal=>
     obtain⟨l,L,U⟩:=K;cases U;exact⟨m,by omega,.inl ⟨l,L,V⟩⟩
    |exit i=>
     obtain⟨S,s2,l,L,U,h7⟩:=K;obtain⟨s3,h8,h9⟩:=Hz (A:=A) (ke:=g k.e) L h7 hk;obtain⟨s4,h10,h11⟩:=HH hg h8 h9;exact⟨S,s4,l,h10,U,h11⟩
    |ret=>
     obtain⟨v,L,h7⟩:=K;exact⟨v,L,IM (ke:=g k.e) h7 hk⟩
  ·rw[<-O];refine CI _ (fun e s' K=> ?_) (iha hda hr1 J)
   have hk:∀o',Sum.inr o'=w0->bB Y rt (g k.e) k.r o'=some r:=fun o' ho=>by
    subst ho;simp only[Ac]at h1';rw[h1'];exact I
   cases e with
   |normal=>
    obtain⟨l,L,U⟩:=K;cases U;obtain⟨n,hn1,hn2⟩:=hN l rfl;exact⟨n,hn1,.inl ⟨l,L,hn2⟩⟩
   |exit i=>
    obtain⟨S,s2,l,L,U,h7⟩:=K;obtain⟨s3,h8,h9⟩:=Hz (A:=A) (ke:=g k.e) L h7 hk;obtain⟨s4,h10,h11⟩:=HH hg h8 h9;exact⟨S,s4,l,h10,U,h11⟩
   |ret=>
    obtain⟨v,L,h7⟩:=K;exact⟨v,L,IM (ke:=g k.e) h7 hk⟩
 |mloop Γh ex rt it d0 ok i b ih=>
  intro A Q u Γ d ρ k st r h C hd;simp only[den]at h;split at h<;>(try cases h;done);rename_i id fi kt vt m hgi hgo;split at h<;>(try cases h;done);rename_i Y hcond hys;split at h<;>(try cases h;done);rename_i g f fb q db hg Z hfb T M;split at h<;>(try cases h;done);rename_i c hc;cases h;simp only[Ag]at hcond;obtain⟨ag,hlt,hno⟩:=hcond;have ag:=Nat.eq_of_beq_eq_true ag;subst ag;have hlt:id<As:=Ai hlt;have hall:=MQ.1 hd;have hit:st.fr id=.iter id:=C.s id _ hgi;obtain⟨ks,vs,cur,hob,hks,hvs⟩:=C.o id _ hgo;refine⟨st,Ax.refl st,fun n s=>∃ρ rem ks vs cur,rem.length=n/\af Γh ρ s/\s.fr id=.iter id/\s.ob id=.miter ks vs cur/\CanAll (fun x c=>Can kt x.1 [c]) rem ks/\CanAll (fun x c=>Can vt x.2 [c]) rem vs/\∀π:List (D kt×D vt),π.Perm rem->(ER (fun x ρ=>db (true,(),(),x,ρ) ⟨fun l=>some (.inl (fb l)),bA Y rt Sum.inr,bV Y rt Sum.inr⟩) (fun ρ=>q.2 (bA Y rt Sum.inr) (c (false,(),ρ))) π ρ).bind (bB Y rt (g k.e) k.r)=some r,⟨_,f ρ,m ρ,ks,vs,cur,rfl,CN Z C,hit,hob,hks,hvs,hall⟩,fun n s hR=> ?_⟩;obtain⟨ρ1,rem,ks,vs,cur,hn,hr1,hit,hob,hks,hvs,hall⟩:=hR;refine⟨s,Ax.refl s,s,Ax.refl s,id,ks,vs,cur,hit,hob,fun hnil=> ?_,fun j ck cv hkj hvj=> ?_⟩
  ·subst hnil
   have hrem:rem= []:=by
    have:=hks.length;exact List.eq_nil_of_length_eq_zero this.symm
   subst hrem;have J:=hall [] (List.Perm.refl _);simp only[ER]at J;obtain⟨o,I,F⟩:=Ab.1 J;obtain⟨w,V,L⟩:=Ab.1 I
   have hk:∀o',Sum.inr o'=w->bB Y rt (g k.e) k.r o'=some r:=fun o' ho=>by
    subst ho;simp only[Ac]at L;rw[L];exact F
   have hr2:af ((.s ok,.v .bool)::(.s d0,.undef)::Γh) (false,(),ρ1) {s with fr:=ac (ac s.fr d0 (.c (.tup [.bool false]))) ok (.c (.bool false))}:=by
    have:=af.set (d:=ok) (k:=.v .bool) (x:=false) (sv:=.c (.bool false)) (af.set (d:=d0) (k:=.undef) (x:=()) (sv:=.c (.tup [.bool false])) hr1 trivial) ⟨_,rfl,by unfold Can;rfl⟩;exact this
   refine⟨_,Ax.refl _,_,Ax.refl _,false,by simp[so,BS],(fun hb=>by cases hb),fun _=>⟨_,Ax.refl _, ?_⟩⟩;obtain⟨s3,h8,h9⟩:=Hz (A:=A) (ke:=g k.e) T V hk;obtain⟨s4,h10,h11⟩:=HH hg h8 h9;exact⟨q.1,s4,_,h10,CN hc hr2,h11⟩
  ·obtain⟨x,hx,hcx⟩:=hks.getB hkj;obtain⟨x',hx',hcx'⟩:=hvs.getB hvj;rw[hx]at hx';cases hx';have hperm:(x::rem.eraseIdx j).Perm rem:=Wd hx
   have hr2:af ((.s ok,.v .bool)::(.s d0,.undef)::(.s id,.iter id)::(.o id,.mcur kt vt)::Γh) (true,(),(),x,ρ1) {fr:=ac (ac s.fr d0 (.c (.tup [.bool true,ck,cv]))) ok (.c (.bool true)),ob:=ac s.ob id (.miter (ks.eraseIdx j) (vs.eraseIdx j) (some (ck,cv)))}:=by
    have J:=af.newObj (k:=.iter id) (ko:=.mcur kt vt) (x:=()) (y:=x) (v:=.iter id) (o:=.miter (ks.eraseIdx j) (vs.eraseIdx j) (some (ck,cv))) hr1 (Do.refl id) ⟨_,_,_,_,rfl,hcx,hcx'⟩ rfl
    have e:ac s.fr id (.iter id)=s.fr:=by
     funext t;rw[BS];split
     ·rename_i ht;rw[ht,hit]
     ·rfl
    rw[e]at J;have:=af.set (d:=ok) (k:=.v .bool) (x:=true) (sv:=.c (.bool true)) (af.set (d:=d0) (k:=.undef) (x:=()) (sv:=.c (.tup [.bool true,ck,cv])) J trivial) ⟨_,rfl,by unfold Can;rfl⟩;exact this
   have J:=hall _ hperm;simp only[ER]at J;obtain⟨o,I,F⟩:=Ab.1 J;obtain⟨w,V,L⟩:=Ab.1 I;refine⟨_,Ax.refl _,_,Ax.refl _,true,by simp[so,BS],(fun _=>⟨_,Ax.refl _, ?_⟩),fun hb=>by cases hb⟩;refine CI _ (fun e s' K=> ?_) (HE hT.hi hlt _ hno (ih M hr2 V));obtain⟨K,O⟩:=K
   have hk:∀o',Sum.inr o'=w->bB Y rt (g k.e) k.r o'=some r:=fun o' ho=>by
    subst ho;simp only[Ac]at L;rw[L];exact F
   cases e with
   |normal=>
    obtain⟨ρb,U,h7⟩:=K;cases h7;obtain⟨ks2,vs2,ck2,cv2,hob2,_⟩:=U.o id ⟨.mcur kt vt,fun ρ=>ρ.2.1⟩ (by simp[get]);have hob3:=O (by rw[hob2];rfl);refine⟨rem.length-1, ?_,fb ρb,rem.eraseIdx j,ks.eraseIdx j,vs.eraseIdx j,some (ck,cv), ?_,CN hfb U,U.s id _ (CT ..), ?_, ?_, ?_,fun π hπ=> ?_⟩
    ·rw[<-hn];have:j<rem.length:=(Af.1 hx).1;omega
    ·rw[List.length_eraseIdx,if_pos (Af.1 hx).1]
    ·rw[hob3];simp[BS]
    ·exact CanAll.erase j hks
    ·exact CanAll.erase j hvs
    ·have hp2:=hall (x::π) ((List.Perm.cons x hπ).trans hperm);simp only[ER,V,Option.bind_some]at hp2;exact hp2
   |exit i=>
    obtain⟨S,s2,l,U,h7,h8⟩:=K;obtain⟨s3,h8,h9⟩:=Hz (A:=A) (ke:=g k.e) U h8 hk;obtain⟨s4,h10,h11⟩:=HH hg h8 h9;exact⟨S,s4,l,h10,h7,h11⟩
   |ret=>
    obtain⟨v,U,h7⟩:=K;exact⟨v,U,IM (ke:=g k.e) h7 hk⟩
 |exit i=>
  intro A Q u Γ d ρ k st r h C hd;simp only[den]at h;split at h<;>(try cases h;done);rename_i q T;split at h<;>(try cases h;done);rename_i f Z;cases h;exact⟨st,Ax.refl st,q.1,q.2,_,T,CN Z C,hd⟩
 |ret=>
  intro A Q u Γ d ρ k st r h C hd;simp only[den]at h;split at h<;>(try cases h;done);rename_i q T;cases h;obtain⟨v,J,I⟩:=ab.app_some hd;exact⟨st,Ax.refl st,_,hrd T C J,I⟩
 |raw c=>
  intro A Q u Γ d ρ k st r h C hd;simp only[den,Ac]at h;subst h;cases hd
 |gh g c ih=>
  intro A Q u Γ d ρ k st r h C hd;simp only[den]at h;split at h<;>(try cases h;done);rename_i p K;split at h<;>(try cases h;done);rename_i dc hdc;cases h;obtain⟨st',J,I⟩:=JD K C;exact Wu J (ih hdc I hd)
end
structure AF where
 n:Nat
 code:AC
 res:List AW
@[reducible] def DX:Ty->Nat->TC
 | .one t,i=> [(.s i,.v t)]
 | .cons t r,i=>(.s i,.v t)::DX r (i+1)
 |_,_=> []
def HI:(a:Ty)->(i:Nat)->D a->HS (DX a i)
 | .one _,_,x=>(x,())
 | .cons _ r,i,x=>(x.1,HI r (i+1) x.2)
 | .int _,_,_| .bool,_,_| .str,_,_| .err,_,_| .clo _ _,_,_| .falt _ _ _,_,_| .nfn,_,_| .nam _,_,_| .bptr _,_,_| .nilp,_,_| .pt _,_,_| .nw _ _ _,_,_| .nsl,_,_| .nmap,_,_| .agg _,_,_| .tup _,_,_| .sl _,_,_| .map _ _,_,_| .nil,_,_=>()
theorem QE:∀{a:Ty} {i:Nat} {x:D a} {l:List CV} {p:ax} {q:Σ k:EK,HS (DX a i)->DK k},Can a x l->get (DX a i) p=some q->∃j c,p=.s (i+j)/\l[j]? =some c/\RS q.1 (q.2 (HI a i x)) (.c c)
 | .one t,i,x,l,p,q,d,hg=>by
  unfold Can at d;obtain⟨c,rfl,d⟩:=d;by_cases g:ax.s i=p
  ·subst g;have b:get ((ax.s i,EK.v t):: []) (ax.s i)=some q:=hg;rw[CT]at b;cases b;exact⟨0,c,rfl,rfl,c,rfl,d⟩
  ·obtain⟨f,h,_⟩:=C1 g hg;cases h
 | .cons t r,i,x,l,p,q,d,hg=>by
  unfold Can at d;obtain⟨c,l',rfl,B,A⟩:=d;by_cases g:ax.s i=p
  ·subst g;have b:get ((ax.s i,EK.v t)::DX r (i+1)) (ax.s i)=some q:=hg;rw[CT]at b;cases b;exact⟨0,c,rfl,rfl,c,rfl,B⟩
  ·obtain⟨f,h,m⟩:=C1 g hg;obtain⟨j,C,y,u,o⟩:=QE (i:=i+1) A h;refine⟨j+1,C,by rw[y];congr 1;omega,by simpa using u, ?_⟩;have e:=m (HI (.cons t r) i x);rw[e];exact o
 | .int _,_,_,_,_,_,_,hg=>by cases hg
 | .bool,_,_,_,_,_,_,hg=>by cases hg
 | .str,_,_,_,_,_,_,hg=>by cases hg
 | .err,_,_,_,_,_,_,hg=>by cases hg
 | .clo _ _,_,_,_,_,_,_,hg=>by cases hg
 | .falt _ _ _,_,_,_,_,_,_,hg=>by cases hg
 | .nfn,_,_,_,_,_,_,hg=>by cases hg
 | .nam _,_,_,_,_,_,_,hg=>by cases hg
 | .bptr _,_,_,_,_,_,_,hg=>by cases hg
 | .nilp,_,_,_,_,_,_,hg=>by cases hg
 | .pt _,_,_,_,_,_,_,hg=>by cases hg
 | .nw _ _ _,_,_,_,_,_,_,hg=>by cases hg
 | .nsl,_,_,_,_,_,_,hg=>by cases hg
 | .nmap,_,_,_,_,_,_,hg=>by cases hg
 | .agg _,_,_,_,_,_,_,hg=>by cases hg
 | .tup _,_,_,_,_,_,_,hg=>by cases hg
 | .sl _,_,_,_,_,_,_,hg=>by cases hg
 | .map _ _,_,_,_,_,_,_,hg=>by cases hg
 | .nil,_,_,_,_,_,_,hg=>by cases hg
theorem US{a:Ty}{x:D a}{l:List CV}(e:Can a x l):af (DX a 0) (HI a 0 x) (Eh l):=by
 refine⟨fun i q d=> ?_,fun id q d=> ?_⟩
 ·obtain⟨j,c,b,g,f⟩:=QE e d;simp only[Nat.zero_add,ax.s.injEq]at b;subst b;simp only[Eh,g];exact f
 ·obtain⟨j,c,b,_⟩:=QE e d;cases b
def kN:(rs:List AW)->(b:Ty)->Option (D b)
 | [],.tup .nil=>some ()
 |_,_=>none
theorem Acz{rs:List AW}{b:Ty}{y:D b}(h:kN rs b=some y)(st:St):∃c,DU st rs=some c/\Can b y [c]:=by
 unfold kN at h;split at h
 ·exact⟨.tup [],rfl,by unfold Can;exact⟨[],rfl,by unfold Can;rfl⟩⟩
 ·cases h
theorem AG.plain{w:World}{M:MM}{size:Nat}{t:Ty}:∀{d:List (D t)} {es:List CV} {b:List Value},CanAll (fun x c=>Can t x [c]) d es->AG w M size es b->AG w M size (d.map (enc t)) b
 | [],es,b,h,hr=>by unfold CanAll at h;subst h;exact hr
 |y::d,es,b,h,hr=>by
  obtain⟨c,l,rfl,i,g⟩:=h;obtain⟨v,f,e,k,j,g3⟩:=hr;exact⟨v,f,e,k,RelC.enc i j,AG.plain g g3⟩
section
variable {P:Program} {E:ah} {w0:WL} {M0:MM} {n:Nat} {st:St} {a:Act} {w w':World} {z:Cz}
theorem Acw{G:Nat->List CV}{M:MM}{l:List CV}{vs:List Value}{T:List Nat}{H:Nat->Ob}{le:Db}(B:∀g,M g->g<w.heap.size)(C:GOk G w M)(D:l.length≤n)(h:RelL w M l vs)(x:n≤As)(m:∀id,T.contains id=true->le.I id)(e:Gq P w M z T H):
  SR P G {w with le:=le,L:=fun id g=>H id≠ .none/\blk (z.σ id)=some g} M n {fr:=(Eh l).fr,ob:=H} {tmps:=(⟨vs⟩:Array Value)++Array.replicate (n-(⟨vs⟩:Array Value).size) undef,defers:= []} w z:=by
 have q:=h.length
 have r:Bg w M w (Ao M z H):=⟨Nat.le_refl _,fun _ _ _=>rfl,fun g _ o=>by
  rcases o with o|⟨id,d,f⟩
  ·exact o
  ·exact(e.lo id g d f).2,e.al⟩
 refine⟨?_,rfl,⟨rfl,rfl,rfl,Nat.le_refl _,fun _ _ _=>rfl⟩,B,⟨fun id g p=>⟨(e.lo id g p.1 p.2).2,m id (e.only id p.1)⟩,e.told,fun _ _=>by rw[e.al],x⟩,C,fun i=> ?_,fun id=> ?_,fun id g d f=>⟨.inr ⟨d,f⟩,(e.lo id g d f).1⟩,e.apart⟩
 ·simp;omega
 ·simp only[Eh]
  cases hi:l[i]? with
  |none=>trivial
  |some c=>
   obtain⟨v,d,f⟩:=h.get hi
   have u:((⟨vs⟩:Array Value)++Array.replicate (n-(⟨vs⟩:Array Value).size) undef).getD i undef=v:=by
    have:i<vs.length:=(Af.1 d).1;rw[Array.getD_eq_getD_getElem?,Array.getElem?_append_left (by simpa using this)];simp[d]
   show RelC w _ c _;simp only[u];exact RelC.keep r c v f
 ·exact AV.keep r (fun _ _=>rfl) (fun cs _ s _=>⟨fun j t d=>d,fun j t d=>rfl,fun j t d k b A=>A⟩) (fun k b y=>y) (e.ob id)
def FB(st:St):AW->Option CV
 | .tmp t=>closed (st.fr t)
 | .cell a sz=>(AO st.ob sz (deref st.ob (st.fr a))).bind closed
def FC(st:St)(rs:List AW):Option CV:=(Aq (FB st) rs).map Fk
theorem Tx{s:SV}{c:CV}(h:closed s=some c):s=.c c:=by
 cases s<;>first|(cases h;rfl)|cases h
theorem SY{G:Nat->List CV}(h:SR P G w0 M0 n st a w z){f:ResultVar->Sem Value}(m:∀rv,f rv=(match rv with| .tmp t=>pure (a.tmps.getD t undef)| .cell b t=>(asAddr (a.tmps.getD b undef)>>=fun B=>loadVar t B))):∀{g:List ResultVar} {d:List AW} {cs:List CV},Aq (Fu P) g=some d->Aq (FB st) d=some cs->
  ∃vs,(g.mapM f).run P w=.ok vs w/\RelL w (Ao M0 z st.ob) cs vs
 | [],d,cs,i,e=>by
  simp only[Aq,Ac]at i;subst i;simp only[Aq,Ac]at e;subst e;exact⟨[],by simp,RelL.nil⟩
 |rv::g,d,cs,i,e=>by
  simp only[Aq,Ab,Aa]at i;obtain⟨s,j,C,l,rfl⟩:=i;simp only[Aq,Ab,Aa]at e;obtain⟨c,q,A,o,rfl⟩:=e;obtain⟨vs,g3,u⟩:=SY h m l o
  cases rv with
  |cell b t=>
   simp only[Fu,Aa]at j;obtain⟨sz,k,rfl⟩:=j;simp only[FB,Ab]at q;obtain⟨sv,x,p⟩:=q;obtain⟨v,i,e⟩:=Tn h k x;rw[Tx p]at e;refine⟨v::vs, ?_,RelL.cons e u⟩;have y:(f (.cell b t)).run P w=.ok v w:=by rw[m];exact i
   rw[List.mapM_cons];simp[y,g3]
  |tmp t=>
   simp only[Fu,Ac]at j;subst j;have r:=h.fr t;rw[Tx q]at r;exact⟨a.tmps.getD t undef::vs,by rw[List.mapM_cons,m];simp[g3],RelL.cons r u⟩
theorem Afn{G:Nat->List CV}(h:SR P G w0 M0 n st a w z){fn:Func}{rs:List AW}(p:Aq (Fu P) fn.results.toList=some rs){c:CV}(k:FC st rs=some c):
  ∃v,(results fn a.tmps).run P w=.ok v w/\RelC w (Ao M0 z st.ob) c v:=by
 simp only[FC,Aa]at k;obtain⟨cs,i,rfl⟩:=k;obtain⟨vs,l,d⟩:=SY h (f:=fun rv=>match rv with| .tmp t=>pure (a.tmps.getD t undef)| .cell b t=>do loadVar t (<-asAddr (a.tmps.getD b undef))) (fun rv=>by cases rv<;>rfl) p i
 have o:(results fn a.tmps).run P w=.ok (if h:(⟨vs⟩:Array Value).size=1 then(⟨vs⟩:Array Value)[0]else .tuple ⟨vs⟩) w:=by
  have e:results fn a.tmps=(fn.results.mapM (fun rv=>match rv with| .tmp t=>pure (a.tmps.getD t undef)| .cell b t=>do loadVar t (<-asAddr (a.tmps.getD b undef)))>>=fun(vs:Array Value)=>pure (if h:vs.size=1 then vs[0]else .tuple vs)):=rfl;rw[e,Array.mapM_eq_mapM_toList];generalize (fun(rv:ResultVar)=>(match rv with| .tmp t=>pure (a.tmps.getD t undef)| .cell b t=>do loadVar t (<-asAddr (a.tmps.getD b undef)):Sem Value))=f at l;simp[l]
 refine⟨_,o, ?_⟩;have g:=d.length
 match cs,vs,d,g with
 | [],[],d,_=>
  simp only[Fk];unfold RelC;exact⟨[],rfl,d⟩
 | [c],[v],d,_=>
  simp only[Fk];unfold RelL at d;obtain⟨j,m,e,q,_⟩:=d;cases e;exact q
 |c::c'::cs,v::j::vs,d,_=>
  simp only[Fk];unfold RelC;exact⟨v::j::vs,by simp,d⟩
theorem VG{T:Nat->Bool}{t:Ty}(h:t.names T=true):∀(b:List (D t)),AN T (b.map (enc t))=true
 | []=>rfl
 |y::b=>by simp only[List.map_cons,AN,Ag];exact⟨JX y h,VG h b⟩
theorem J2{Θ:TC}{θ:HS Θ}(g:aw Θ=true)(i:af Θ θ st){id:Nat}(h:Bb Θ θ id≠ .none):st.ob id≠ .none:=by
 simp only[aw,Ag]at g;unfold Bb at h
 cases d:get Θ (.o id)with
 |none=>rw[d]at h;exact absurd rfl h
 |some q=>
  have r:=i.o id _ d;have c:=Cp g.2 (By d);obtain⟨k,f⟩:=q;cases k<;>(try cases c;done)
  case box n=>obtain⟨cs,b,_⟩:=r;rw[b];simp
  case arr e size t=>obtain⟨es,b,_⟩:=r;rw[b];simp
  case buf e=>have b:st.ob id=.buf e (f θ):=r;rw[b];simp
  case mob mt k v=>obtain⟨zc,ks,vs,b,_⟩:=r;rw[b];simp
theorem Qq{M:MM}{ob:Nat->Ob}:∀{cs:List SV} {vs:List Value},A3 w M z ob cs vs<->cs.length=vs.length/\∀(i:Nat) s v,cs[i]? =some s->vs[i]? =some v->Aw w M z ob s v
 | [],vs=>by
  constructor
  ·intro h;cases (show vs= []from h);exact⟨rfl,fun i s v h=>by simp at h⟩
  ·intro h;exact List.length_eq_zero_iff.1 h.1.symm
 |c::cs,vs=>by
  constructor
  ·rintro⟨v,g,rfl,f,e⟩
   obtain⟨k,j⟩:=Qq.1 e;refine⟨by simp[k],fun i s u d b=> ?_⟩
   cases i with
   |zero=>simp only[List.getElem?_cons_zero,Ac]at d b;rw[<-d,<-b];exact f
   |succ i=>simp only[List.getElem?_cons_succ]at d b;exact j i s u d b
  ·rintro⟨f,e⟩
   cases vs with
   |nil=>cases f
   |cons v vs=>exact⟨v,vs,rfl,e 0 c v rfl rfl,Qq.2 ⟨by simpa using f,fun i s u d b=>e (i+1) s u (by simpa using d) (by simpa using b)⟩⟩
theorem Z3{G:Nat->List CV}(h:SR P G w0 M0 n st a w z){Θ:TC}{θ:HS Θ}(R:aw Θ=true)(Q:af Θ θ st)(W:∀N,(A6 Θ).contains N=true->w0.le.T N):
  FK (A6 Θ).contains w (Ao M0 z st.ob) w (Ao M0 {z with al:=M0.al} (Bb Θ θ))/\Gq P w (Ao M0 {z with al:=M0.al} (Bb Θ θ)) {z with al:=M0.al} (A6 Θ) (Bb Θ θ):=by
 have Z:FK (A6 Θ).contains w (Ao M0 z st.ob) w (Ao M0 {z with al:=M0.al} (Bb Θ θ)):=⟨Nat.le_refl _,fun _ _ _=>rfl,fun g _ x=>by
  rcases x with x|⟨id,C,S⟩
  ·exact .inl x
  ·exact .inr ⟨id,J2 R Q C,S⟩,fun N hN=>(h.nam.names N (W N hN)).symm⟩
 refine⟨Z,fun id=> ?_,fun id g C S=>⟨(h.lo id g (J2 R Q C) S).2,.inr ⟨id,C,S⟩⟩,fun i j g hij C S=>h.apart i j g hij (J2 R Q C) (J2 R Q S),fun N hN u=> ?_,fun id C=>TU C,rfl⟩
 ·have B:=R;simp only[aw,Ag]at B;show AV P w _ 0 _ _ id (z.σ id) (Bb Θ θ id);have d:=h.ob id
  cases x:get Θ (.o id)with
  |none=>unfold Bb;rw[x];trivial
  |some q=>
   have r:=Q.o id _ x;have b:=Cp B.2 (By x);obtain⟨k,f⟩:=q;cases k<;>(try cases b;done)
   case box m bt=>
    have M:Bb Θ θ id=.box ((List.range m).map (Ik Θ θ id)) bt:=by unfold Bb;rw[x]
    rw[M];obtain⟨cs,A,hl,u⟩:=r;rw[A]at d;obtain⟨g,ty,vs,k1,k2,k3⟩:=d;refine⟨g,ty,vs,k1,k2, ?_⟩;rw[Qq]at k3⊢;refine⟨by simp[<-k3.1,hl],fun i s v O hv=> ?_⟩;simp only[bW,Ag,List.all_eq_true,List.mem_range]at b
    have hi:i<m:=by
     rw[List.getElem?_map,Aa]at O;obtain⟨_,O,_⟩:=O;have:=(Af.1 O).1;simpa using this
    have hs':s=Ik Θ θ id i:=by
     simp[hi]at O;exact O.symm
    subst hs';have p:=b.2 i hi
    cases J:Ci Θ (.c id i)with
    |none=>rw[J]at p;cases p
    |some k'=>
     rw[J]at p;obtain⟨f',hf'⟩:=Iq J;obtain⟨sv,g1,g2⟩:=u i _ hi hf';have V:=k3.2 i sv v g1 hv;unfold Ik;rw[hf'];cases k'<;>(try cases p;done)
     case v t=>
      simp only[cN,Ag]at p;obtain⟨c,rfl,hc'⟩:=g2;exact RelC.named Z _ _ (JX _ p.2) (RelC.enc hc' V)
     case own K=>
      have e2:sv=.osl K:=g2;subst e2;simp only[cN,Ag]at p;refine⟨?_,V.2⟩;have h3:=p.2;split at h3<;>(try cases h3;done)
      ·rename_i e size t I;obtain⟨fk,L⟩:=Iq I;unfold Bb;rw[L];simp
      ·rename_i e I;obtain⟨fk,L⟩:=Iq I;unfold Bb;rw[L];simp
   case arr e size t=>
    have M:Bb Θ θ id=.arr e size ((f θ).map (enc t)):=by unfold Bb;rw[x]
    rw[M];obtain⟨es,A,u⟩:=r;rw[A]at d;obtain⟨xs,k1,k2⟩:=d;simp only[bW,Ag]at b;have Y:((f θ).map (enc t)).length=es.length:=by rw[List.length_map];exact u.length.symm
    exact⟨xs,by rw[Y];exact k1,AG.named Z (VG b.2 _) (AG.plain u k2)⟩
   case mob mt U v=>
    have M:Bb Θ θ id=.map mt (b4 U) (enc v (AL v)) ((f θ).map fun y=>enc U y.1) ((f θ).map fun y=>enc v y.2):=by unfold Bb;rw[x]
    rw[M];simp only[bW,Ag]at b;obtain⟨zc,ks,vs,A,cz,c1,c2⟩:=r;rw[A,We b.2.1.1.1 cz,Qk (g:=fun y:D U×D v=>y.1) b.1.2.1.1.1 c1,Qk (g:=fun y:D U×D v=>y.2) b.2.1.1.1 c2]at d
    have hn1:AN (A6 Θ).contains ((f θ).map fun y=>enc U y.1)=true:=by
     generalize f θ=l
     induction l with
     |nil=>rfl
     |cons y l ih=>simp only[List.map_cons,AN,Ag];exact⟨JX _ b.1.2.2,ih⟩
    have hn2:AN (A6 Θ).contains ((f θ).map fun y=>enc v y.2)=true:=by
     generalize f θ=l
     induction l with
     |nil=>rfl
     |cons y l ih=>simp only[List.map_cons,AN,Ag];exact⟨JX _ b.2.2,ih⟩
    obtain⟨hmt,ks',vs',r',ens,clk,F,e,g1,g2,g3,g4⟩:=d;exact⟨hmt,ks',vs',r',ens,clk,F,e,g1,RelL.named Z _ _ (El.2 fun c u=>El.1 hn1 c (F.ks.mem_iff.1 u)) g2,RelL.named Z _ _ (El.2 fun c u=>El.1 hn2 c (F.vs.mem_iff.1 u)) g3,g4⟩
   case buf e=>
    have M:Bb Θ θ id=.buf e (f θ):=by unfold Bb;rw[x]
    have A:st.ob id=.buf e (f θ):=r;rw[M];rw[A]at d;exact d
 ·have hne:Bb Θ θ N≠ .none:=fun e=>by rw[e]at u;cases u
  have hin:=TU (Θ:=Θ) (θ:=θ) (id:=N) hne;show z.σ N=C7 N (M0.al N);rw[<-h.nam.names N (W N hin)];refine h.nam.told N hN ?_;have B:=R;simp only[aw,Ag]at B;unfold Bb at u
  cases x:get Θ (.o N)with
  |none=>rw[x]at u;cases u
  |some q=>
   rw[x]at u;have r:=Q.o N _ x;obtain⟨k,f⟩:=q;cases k<;>(try cases u;done)
   case box n bt=>obtain⟨cs2,A,_⟩:=r;rw[A];rfl
   case mob mt k v=>obtain⟨zc,ks,vs,A,_⟩:=r;rw[A];rfl
def JA(rs:List AW)(t:Ty)(y:D t)(Θ:TC)(θ:HS Θ)(e:Ex)(st:St):Prop:=
 match e with
 | .exit _=>False
 |_=>∃c,FC st rs=some c/\Can t y [c]/\af Θ θ st
theorem ZP(hE:aV P E){f:FuncId}{m:GW}(r:Dc P f=some m){l:List CV}{t:Ty}{y:D t}{Θ:TC}{θ:HS Θ}{H:Nat->Ob}(K:l.length≤m.n)(C:aw Θ=true)(B:t.names (A6 Θ).contains=true)(h:CE (Dx (some Θ)) E m.code (JA m.res t y Θ θ) {fr:=(Eh l).fr,ob:=H}):
  hasBody P f=true/\Fn P E.G f (A6 Θ) l H (enc t y) (Bb Θ θ):=by
 unfold Dc at r;split at r<;>(try cases r;done);rename_i R;refine⟨R, ?_⟩;simp only[Ab,Aa,Ae]at r;obtain⟨fn,O,b,p,J,c,o,rs,s,rfl⟩:=r;intro w M z vs T V U q;refine calls_of_wp O p (wp_mono (FU hE rfl b o (Acw (le:=Dx (some Θ)) T V K U (Ai J) (fun id ag=>ag) q) h) fun e F w' k=> ?_);obtain⟨e',st',z',Q,x,d⟩:=k;subst Q
 have j:(∃c,FC st' rs=some c/\Can t y [c]/\af Θ θ st')->F.defers= []/\∃v,(results fn F.tmps).run P w'=.ok v w'/\∃u z',Ending.returned v=.returned u/\(w'.os=w.os/\w'.tape=w.tape/\w'.output=w.output/\w.heap.size≤w'.heap.size/\∀g,g<w.heap.size->¬own z H g->w'.heap[g]? =w.heap[g]?)/\
   Gq P w' (Ao M z' (Bb Θ θ)) z' (A6 Θ) (Bb Θ θ)/\(∀id g,Bb Θ θ id≠ .none->blk (z'.σ id)=some g->(H id≠ .none/\blk (z.σ id)=some g)\/w.heap.size≤g)/\z'.al=M.al/\RelC w' (Ao M z' (Bb Θ θ)) (enc t y) u:=fun⟨c,hr,hcan,hrep⟩=>by
  obtain⟨v,Y,W⟩:=Afn d s hr;obtain⟨I,k2⟩:=Z3 d C hrep (fun N S=>S);refine⟨d.defers,v,Y,v,{z' with al:=M.al},rfl,⟨d.below.os,d.below.tape,d.below.output,d.below.size,fun g L A=>d.below.block g L fun id ag=>A ⟨id,ag.1,ag.2⟩⟩,k2,fun id g g1 Z=> ?_,rfl,RelC.named I _ _ (JX y B) (RelC.enc hcan W)⟩;rcases(d.lo id g (J2 C hrep g1) Z).1 with g3|g3
  ·exact .inr g3
  ·exact .inl g3
 cases e' with
 |normal=>exact j x
 |exit i=>exact x.elim
 |ret=>exact j x
theorem Fn.to{G:Nat->List CV}{f:FuncId}{l:List CV}{r:CV}{i:Nat->Ob}(h:Fn P G f [] l (fun _=>.none) r i)(A:∀id,i id=.none):CallsTo P G f l (.val r):=by
 intro w M vs o q p;have b:Gq P w M (z0 undef M.al) [] fun _=>.none:=⟨fun _=>trivial,fun _ _ h=>absurd rfl h,fun _ _ _ _ h=>absurd rfl h,fun _ _ h=>(by cases h),fun _ h=>absurd rfl h,rfl⟩;refine(h w M _ vs o q p b).mono fun e w' ⟨v,z',m,⟨y,x,u,t,s⟩,_,_,d,j⟩=> ?_;refine⟨v,m,⟨y,x,u,t,fun g c=>s g c fun⟨id,hh,_⟩=>hh rfl⟩, ?_⟩;have k:Bg w' (Ao M z' i) w' M:=⟨Nat.le_refl _,fun _ _ _=>rfl,fun _ _ c=>.inl c,d.symm⟩;exact RelC.keep k _ _ j
end
def IH(X:TP)(Γ:TC):AW->Option (Σ r:Ty,ab (HS Γ) (D r))
 | .tmp t=>ao Γ (.t t)
 | .cell a sz=>match b5 X.G Γ (.t a)with
  |some k=>match E3 Γ [] sz (D6 Γ [] k)with
   |some ⟨.v t,d⟩=>some ⟨t,d⟩
   |_=>none
  |none=>none
def IG(X:TP)(Γ:TC):List AW->Option (Σ r:Ty,ab (HS Γ) (D r))
 | []=>some ⟨.nil,.tot fun _=>()⟩
 | [x]=>match IH X Γ x with
  |some q=>some ⟨.one q.1,q.2⟩
  |none=>none
 |x::y::xs=>match IH X Γ x,IG X Γ (y::xs)with
  |some q,some p=>some ⟨.cons q.1 p.1,q.2.both p.2⟩
  |_,_=>none
def Ng(X:TP)(Γ:TC):List AW->Option (Σ t:Ty,ab (HS Γ) (D t))
 | [x]=>IH X Γ x
 |xs=>match IG X Γ xs with
  |some q=>some ⟨.tup q.1,q.2⟩
  |none=>none
def cy(X:TP)(rs:List AW)(b:Ty)(Θ Γ:TC):Option (ct Γ (D b×HS Θ)):=
 match Ng X Γ rs,Cc Γ Θ with
 |some q,some f=>match Ba q.1 b with
  |some g=>some ⟨D q.1,q.2,fun ρ v=>(g v,f ρ)⟩
  |none=>none
 |_,_=>none
section
variable {X:TP}
theorem Qr{Γ:TC}{ρ:HS Γ}{st:St}(e:af Γ ρ st){x:AW}{q:Σ t:Ty,ab (HS Γ) (D t)}{y:D q.1}(h:IH X Γ x=some q)(j:q.2.val ρ=some y):∃c,FB st x=some c/\Can q.1 y [c]:=by
 cases x with
 |tmp t=>
  have o:ao Γ (.t t)=some q:=h;obtain⟨c,i,g⟩:=AB (G:=X.G) o e j;have b:st.fr t=.c c:=i;exact⟨c,by simp[FB,b,closed],g⟩
 |cell a sz=>
  simp only[IH]at h;split at h<;>(try cases h;done);rename_i k l;split at h<;>(try cases h;done);rename_i t d hd;cases h;obtain⟨sv,i,c,g,m⟩:=JO (msk:= []) (rd:=st.ob) (sv:=deref st.ob (so X.G st.fr (.t a))) e (fun _ _=>rfl) hd j (fun x f=>Ii e (fun _ _=>rfl) (fun x f=>AT l e f) f (JN hd));subst g;refine⟨c, ?_,m⟩;have b:AO st.ob sz (deref st.ob (st.fr a))=some (.c c):=i;simp[FB,b,closed]
theorem Qs{Γ:TC}{ρ:HS Γ}{st:St}(f:af Γ ρ st):∀{d:List AW} {q:Σ t:Ty,ab (HS Γ) (D t)} {y:D q.1},IG X Γ d=some q->q.2.val ρ=some y->∃l,Aq (FB st) d=some l/\Can q.1 y l
 | [],q,y,h,hy=>by
  simp only[IG,Ac]at h;subst h;exact⟨[],rfl,by unfold Can;rfl⟩
 | [x],q,y,h,hy=>by
  simp only[IG]at h;split at h<;>(try cases h;done);rename_i p i;cases h;obtain⟨c,k,j⟩:=Qr f i hy;exact⟨[c],by simp[Aq,k],by unfold Can;exact⟨c,rfl,j⟩⟩
 |x::z::d,q,y,h,hy=>by
  simp only[IG]at h;split at h<;>(try cases h;done);rename_i p u i g;cases h;obtain⟨s,r⟩:=ab.both_val hy;obtain⟨c,k,j⟩:=Qr f i s;obtain⟨l,o,m⟩:=Qs f g r;refine⟨c::l, ?_,by unfold Can;exact⟨c,l,rfl,j,m⟩⟩;have e:Aq (FB st) (x::z::d)=(FB st x).bind fun b=>(Aq (FB st) (z::d)).map fun bs=>b::bs:=rfl;rw[e,k,o];rfl
theorem Afl{Γ:TC}{ρ:HS Γ}{st:St}(j:af Γ ρ st){g:List AW}{q:Σ t:Ty,ab (HS Γ) (D t)}{y:D q.1}(h:Ng X Γ g=some q)(i:q.2.val ρ=some y):∃c,FC st g=some c/\Can q.1 y [c]:=by
 match g,h with
 | [x],h=>
  have m:IH X Γ x=some q:=by cases x<;>exact h
  obtain⟨c,b,f⟩:=Qr j m i;exact⟨c,by simp[FC,Aq,b,Fk],f⟩
 | [],h=>
  simp only[Ng]at h;split at h<;>(try cases h;done);rename_i p k;cases h;obtain⟨l,b,f⟩:=Qs j k i;simp only[Aq,Ac]at b;subst b;exact⟨.tup [],rfl,by unfold Can;exact⟨[],rfl,f⟩⟩
 |x::z::g,h=>
  simp only[Ng]at h;split at h<;>(try cases h;done);rename_i p k;cases h;obtain⟨l,b,f⟩:=Qs j k i;have e:=D3 b;refine⟨.tup l, ?_,by unfold Can;exact⟨l,rfl,f⟩⟩;simp only[FC,b,Option.map_some]
  match l,e with
  |c::d::l,_=>rfl
end
theorem Afh{X:TP}{rs:List AW}{b:Ty}{Θ Γ:TC}{q:ct Γ (D b×HS Θ)}{ρ:HS Γ}{st:St}(h:cy X rs b Θ Γ=some q)(e:af Γ ρ st){v:q.B}(i:q.d.val ρ=some v):∃c,FC st rs=some c/\Can b (q.up ρ v).1 [c]/\af Θ (q.up ρ v).2 st:=by
 unfold cy at h;split at h<;>(try cases h;done);rename_i p f j l;split at h<;>(try cases h;done);rename_i g k;cases h;obtain⟨c,o,m⟩:=Afl e j i;exact⟨c,o,C0 _ _ k m,CN l e⟩
theorem Ac0{rs:List AW}{b:Ty}{y:D b}(h:kN rs b=some y)(st:St):∃c,FC st rs=some c/\Can b y [c]:=by
 unfold kN at h;split at h
 ·exact⟨.tup [],rfl,by unfold Can;exact⟨[],rfl,by unfold Can;rfl⟩⟩
 ·cases h
noncomputable def Io(X:TP)(a b:Ty)(Θ:TC)(m:AF):Option (D a->HS Θ->Option (D b×HS Θ)):=
 match den {X with Θ:=some Θ} (D b×HS Θ) (cy X m.res b Θ) m.code (D b×HS Θ) [] Θ (DX a 0++Θ)with
 |some d=>some fun x θ=>d (CB (DX a 0) (HI a 0 x) θ) ⟨fun c=>(kN m.res b).map fun y=>(y,c),(),fun y=>some y⟩
 |none=>none
theorem Xq{a:Ty}{i:Nat}{p:ax}(h:p∈(DX a i).map (·.1)):∃j,p=.s j:=by
 induction a generalizing i with
 |one t _=>simp[DX]at h;exact⟨_,h⟩
 |cons t r _ ih=>
  simp only[DX,List.map_cons,List.mem_cons]at h;rcases h with h|h
  ·exact⟨_,h⟩
  ·exact ih h
 |_=>simp[DX]at h
theorem Acx{a:Ty}{x:D a}{l:List CV}{Θ:TC}{θ:HS Θ}{H:Nat->Ob}{fr:Nat->SV}(A:Can a x l)(t:aw Θ=true)(u:af Θ θ {fr:=fr,ob:=H}):af (DX a 0++Θ) (CB (DX a 0) (HI a 0 x) θ) {fr:=(Eh l).fr,ob:=H}:=by
 simp only[aw,Ag]at t;refine⟨fun i q d=> ?_,fun id q d=> ?_⟩
 ·rcases D7 d with⟨_,f,b,e⟩|⟨_,f,b,e⟩
  ·rw[e];exact(US A).s i _ b
  ·have:=Cp t.2 (By b);obtain⟨k,B⟩:=q;cases k<;>cases this
 ·rcases D7 d with⟨p,_⟩|⟨_,f,b,e⟩
  ·obtain⟨j,h⟩:=Xq p;cases h
  ·rw[e];have r:=u.o id _ b;obtain⟨k,B⟩:=q;cases k<;>try exact r
   obtain⟨cs,F,v,y⟩:=r;refine⟨cs,F,v,fun j G h c=> ?_⟩;rcases D7 c with⟨p,_⟩|⟨_,J,m,C⟩
   ·obtain⟨I,g⟩:=Xq p;cases g
   ·rw[C];exact y j _ h m
theorem UB{P:Program}{X:TP}{E:ah}(hE:aV P E)(hT:aG X E)(N:BH X E){a j:Ty}{Θ:TC}{m:AF}{g:D a->HS Θ->Option (D j×HS Θ)}(h:Io X a j Θ m=some g){f:FuncId}(M:Dc P f=some ⟨m.n,erase m.code,m.res⟩){k:Nat}(K:AQ a=some k)(L:k≤m.n)(C:aw Θ=true)(t:j.names (A6 Θ).contains=true)
  {x:D a} {l:List CV} {θ o:HS Θ} {y:D j} {H:Nat->Ob} {fr:Nat->SV} (B:Can a x l) (J:af Θ θ {fr:=fr,ob:=H}) (I:g x θ=some (y,o)):hasBody P f=true/\Fn P E.G f (A6 Θ) l H (enc j y) (Bb Θ o):=by
 unfold Io at h;split at h<;>(try cases h;done);rename_i d hd;cases h;have u:aG {X with Θ:=some Θ} E:=⟨hT.G,hT.cp,hT.fn,hT.ef,hT.nw,hT.hi,hT.srt⟩;refine ZP hE M (by rw[EP K B];exact L) C t (CI _ (fun e st r=> ?_) (TO u N (RP:=fun st p=>∃c,FC st m.res=some c/\Can j p.1 [c]/\af Θ p.2 st) (fun b A _ q=>Afh b A q) m.code hd (Acx B C J) I))
 cases e with
 |normal=>
  obtain⟨ρ,b,A⟩:=r;obtain⟨S,q,R⟩:=Aa.1 A;cases R;obtain⟨c,Q,O⟩:=Ac0 q st;exact⟨c,Q,O,b⟩
 |exit i=>
  obtain⟨F,s,ρ,b,_⟩:=r;cases b
 |ret=>
  obtain⟨v,b,q⟩:=r;cases q;exact b
noncomputable def Mc(X:TP)(a b:Ty)(m:AF):Option (D a->Option (D b)):=
 match den X (D b) (dp X m.res b) m.code (D b) [] [] (DX a 0)with
 |some d=>some fun x=>d (HI a 0 x) ⟨fun _=>kN m.res b,(),fun y=>some y⟩
 |none=>none
theorem ZY{P:Program}{X:TP}{E:ah}(hE:aV P E)(hT:aG X E)(I:BH X E)(j:Dx X.Θ=.no){a b:Ty}{m:AF}{g:D a->Option (D b)}(h:Mc X a b m=some g){f:FuncId}(F:Dc P f=some ⟨m.n,erase m.code,m.res⟩){k:Nat}(B:AQ a=some k)(C:k≤m.n)
  {x:D a} {l:List CV} {y:D b} (r:Can a x l) (A:g x=some y) (t:(b.val&&b.ok)=true:=by rfl):hasBody P f=true/\CallsTo P E.G f l (.val (enc b y)):=by
 simp only[Ag]at t;unfold Mc at h;split at h<;>(try cases h;done);rename_i d hd;cases h;refine ZQ hE F (by rw[EP B r];exact C) (j▸CI _ (fun e st o=> ?_) (TO hT I (RP:=fun st v=>FM st m.res _ v) (fun c q _ p=>Afi c q p) m.code hd (US r) A))
 cases e with
 |normal=>
  obtain⟨ρ,_,q⟩:=o;exact Acz q st
 |exit i=>
  obtain⟨u,s,ρ,c,_⟩:=o;cases c
 |ret=>
  obtain⟨v,c,p⟩:=o;cases p;exact FM.of t.1 c
structure TB where
 G:Nat->List CV
 TT:Nat->Option Ty
 TM:Nat->Option (Ty×Ty)
 cp:FuncId->Bool:=fun _=>false
 srt:FuncId->FuncId->Option Le:=fun _ _=>none
def lookS:List (FuncId×Sig)->FuncId->Option Sig
 | [],_=>none
 |e::L,f=>if e.1=f then some e.2 else lookS L f
def I0:List (FuncId×SigE)->FuncId->Option SigE
 | [],_=>none
 |e::L,f=>if e.1=f then some e.2 else I0 L f
def Ty.isNw:Ty->Bool
 | .nw _ _ _=>true
 |_=>false
def tp(B:TB)(L:List (FuncId×Sig))(LE:List (FuncId×SigE)):TP where
 G:=B.G
 T:=fun f=>match lookS L f with
  |some s=>match s.r.isNw with
   |true=>none
   |false=>some s
  |none=>none
 TT:=B.TT
 TM:=B.TM
 cp:=B.cp
 srt:=B.srt
 TN:=fun f=>match lookS L f with
  |some s=>match s.r.isNw with
   |true=>some s
   |false=>none
  |none=>none
 TE:=fun f=>match lookS L f with
  |some _=>none
  |none=>I0 LE f
theorem GS{B:TB}{L:List (FuncId×Sig)}{LE:List (FuncId×SigE)}{f:FuncId}{s:Sig}:(tp B L LE).T f=some s<->lookS L f=some s/\s.r.isNw=false:=by
 show(match lookS L f with
  |some s=>match s.r.isNw with
   |true=>none
   |false=>some s
  |none=>none)=some s<->_
 cases h:lookS L f with
 |none=>simp
 |some s'=>cases b:s'.r.isNw with
  |true=>
   simp only[b,Ac];exact⟨fun e=>(by cases e),fun e=>by rw[e.1]at b;rw[b]at e;cases e.2⟩
  |false=>
   simp only[b,Ac];exact⟨fun e=>⟨e,e▸b⟩,fun e=>e.1⟩
theorem IU{B:TB}{L:List (FuncId×Sig)}{LE:List (FuncId×SigE)}{f:FuncId}{s:Sig}:(tp B L LE).TN f=some s<->lookS L f=some s/\s.r.isNw=true:=by
 show(match lookS L f with
  |some s=>match s.r.isNw with
   |true=>some s
   |false=>none
  |none=>none)=some s<->_
 cases h:lookS L f with
 |none=>simp
 |some s'=>cases b:s'.r.isNw with
  |false=>
   simp only[b,Ac];exact⟨fun e=>(by cases e),fun e=>by rw[e.1]at b;rw[b]at e;cases e.2⟩
  |true=>
   simp only[b,Ac];exact⟨fun e=>⟨e,e▸b⟩,fun e=>e.1⟩
theorem NF{B:TB}{L:List (FuncId×Sig)}{LE:List (FuncId×SigE)}{f:FuncId}{s:SigE}:(tp B L LE).TE f=some s<->lookS L f=none/\I0 LE f=some s:=by
 show(match lookS L f with
  |some _=>none
  |none=>I0 LE f)=some s<->_
 cases h:lookS L f with
 |none=>simp
 |some s'=>simp
open Classical in
noncomputable def F0(s:SigE):bF:=⟨A6 s.Θ,fun l H=>if h:∃p:D s.a×HS s.Θ,Can s.a p.1 l/\af s.Θ p.2 {fr:=fun _=>.undef,ob:=H}then(s.fn (choose h).1 (choose h).2).map fun q=>(enc s.r q.1,Bb s.Θ q.2)else none⟩
theorem Zs{s:SigE}(h:aw s.Θ=true){x:D s.a}{l:List CV}{θ:HS s.Θ}{H:Nat->Ob}{y:D s.r}{b:HS s.Θ}(c:Can s.a x l)(d:af s.Θ θ {fr:=fun _=>.undef,ob:=H})(g:s.fn x θ=some (y,b)):(F0 s).fn l H=some (enc s.r y,Bb s.Θ b):=by
 have e:∃p:D s.a×HS s.Θ,Can s.a p.1 l/\af s.Θ p.2 {fr:=fun _=>.undef,ob:=H}:=⟨(x,θ),c,d⟩;have f:=Classical.choose_spec e;simp only[F0,dif_pos e];rw[Can.uniq s.a f.1 c,af.uniq h rfl f.2 d,g];rfl
theorem Zt{s:SigE}{l:List CV}{H:Nat->Ob}{r:CV}{d:Nat->Ob}(h:(F0 s).fn l H=some (r,d)):∃x θ y b,Can s.a x l/\af s.Θ θ {fr:=fun _=>.undef,ob:=H}/\s.fn x θ=some (y,b)/\r=enc s.r y/\d=Bb s.Θ b:=by
 simp only[F0]at h;split at h<;>(try cases h;done);rename_i c;obtain⟨⟨y,b⟩,f,e⟩:=Aa.1 h;cases e;exact⟨_,_,y,b,(Classical.choose_spec c).1,(Classical.choose_spec c).2,f,rfl,rfl⟩
open Classical in
noncomputable def Dg(X:TP):ah:={G:=X.G,cp:=X.cp,srt:=fun f g e size es=>match X.srt f g with|some s=>if h:(e=s.e/\size=s.size)/\∃d,CanAll (fun x c=>Can s.t x [c]) d es then(s.fn (choose h.2)).map fun b=>b.map (enc s.t)else none|none=>none,ef:=fun f=>(X.TE f).map F0,fn:=fun f l=>match X.T f with
 |some s=>if h:∃x,Can s.a x l then(s.fn (choose h)).map fun y=>.val (enc s.r y)else none
 |none=>match X.TN f with
  |some ⟨a,.nw e size t,fn⟩=>if h:∃x,Can a x l then(fn (choose h)).map fun y=>.new (.arr e size (y.map (enc t)))else none
  |_=>none}
theorem OQ{X:TP}{f:FuncId}{s:Sig}(e:X.T f=some s){x:D s.a}{l:List CV}{y:D s.r}(b:Can s.a x l)(d:s.fn x=some y):(Dg X).fn f l=some (.val (enc s.r y)):=by
 have c:∃x,Can s.a x l:=⟨x,b⟩;simp only[Dg,e,dif_pos c];rw[Can.uniq s.a (Classical.choose_spec c) b,d];rfl
theorem LT{X:TP}{f:FuncId}{a:Ty}{e size:Nat}{t:Ty}{fn:D a->Option (D (.nw e size t))}(h:X.T f=none)(g:X.TN f=some ⟨a,.nw e size t,fn⟩){x:D a}{l:List CV}{y:List (D t)}(b:Can a x l)(d:fn x=some y):(Dg X).fn f l=some (.new (.arr e size (y.map (enc t)))):=by
 have c:∃x,Can a x l:=⟨x,b⟩;simp only[Dg,h,g,dif_pos c];rw[Can.uniq a (Classical.choose_spec c) b,d];rfl
theorem TW{X:TP}{f:FuncId}{l:List CV}{r:be}(h:(Dg X).fn f l=some r):
  (∃s x y,X.T f=some s/\Can s.a x l/\s.fn x=some y/\r=.val (enc s.r y))\/
  (X.T f=none/\∃(a:Ty) (e size:Nat) (t:Ty) (fn:D a->Option (D (.nw e size t))) (x:D a) (y:List (D t)),X.TN f=some ⟨a,.nw e size t,fn⟩/\Can a x l/\fn x=some y/\r=.new (.arr e size (y.map (enc t)))):=by
 simp only[Dg]at h;split at h
 ·rename_i s b;split at h<;>(try cases h;done);rename_i c;obtain⟨y,g,d⟩:=Aa.1 h;exact .inl ⟨s,_,y,b,Classical.choose_spec c,g,d.symm⟩
 ·rename_i i;split at h<;>(try cases h;done);rename_i a e size t fn b;split at h<;>(try cases h;done);rename_i c;obtain⟨y,g,d⟩:=Aa.1 h;exact .inr ⟨i,a,e,size,t,fn,_,y,b,Classical.choose_spec c,g,d.symm⟩
structure Re (P:Program) (G:Nat->List CV) (f:FuncId) (s:SigE):Prop where
 rv:s.r.val=true
 rok:s.r.ok=true
 hi:((A6 s.Θ).all fun N=>Nat.ble As N)=true
 ok:aw s.Θ=true
 body:hasBody P ((mvOf f).getD f)=true
 calls:∀x l θ H y θ',Can s.a x l->af s.Θ θ {fr:=fun _=>.undef,ob:=H}->s.fn x θ=some (y,θ')->Fo P G f (A6 s.Θ) l H (enc s.r y) (Bb s.Θ θ')
theorem Fo.of{P:Program}{G:Nat->List CV}{f:FuncId}{T:List Nat}{l:List CV}{H b:Nat->Ob}{r:CV}(c:hasBody P f=true)(h:Fn P G f T l H r b):Fo P G f T l H r b:=by
 unfold Fo;rw[Iu c];exact h
theorem Fo.to{P:Program}{G:Nat->List CV}{f:FuncId}{T:List Nat}{l:List CV}{H b:Nat->Ob}{r:CV}(c:hasBody P f=true)(h:Fo P G f T l H r b):Fn P G f T l H r b:=by
 unfold Fo at h;rw[Iu c]at h;exact h
def Eu(P:Program)(G:Nat->List CV)(X:TP):Prop:=∀f s,X.TE f=some s->Re P G f s
theorem Eu.ef{P:Program}{X:TP}(h:Eu P X.G X):Rd P (Dg X):=fun f e g=>by
 obtain⟨s,c,rfl⟩:=Aa.1 g;have k:=h f s c;refine⟨k.body,fun args H r m d=> ?_⟩;obtain⟨x,θ,y,b,l,j,i,rfl,rfl⟩:=Zt d;exact k.calls x args θ H y b l j i
theorem Eu.te{P:Program}{X:TP}(h:Eu P X.G X):BH X (Dg X):=fun f s b=>by
 have k:=h f s b;have e:(Dg X).ef f=some (F0 s):=by show(X.TE f).map F0=_;rw[b];rfl
 exact⟨⟨k.rv,k.hi⟩,k.rok,F0 s,e,rfl,fun x l θ H y c g i d=>Zs k.ok g i d⟩
structure GoodT (P:Program) (B:TB) (L:List (FuncId×Sig)) (LE:List (FuncId×SigE)):Prop where
 E:aV P (Dg (tp B L LE))
 T:aG (tp B L LE) (Dg (tp B L LE))
 F:Eu P B.G (tp B L LE)
theorem GoodT.TE{P:Program}{B:TB}{L:List (FuncId×Sig)}{LE:List (FuncId×SigE)}(h:GoodT P B L LE):BH (tp B L LE) (Dg (tp B L LE)):=Eu.te (X:=tp B L LE) h.F
theorem QP{B:TB}{L:List (FuncId×Sig)}{LE:List (FuncId×SigE)}(f:FuncId)(h:((tp B L LE).T f).isSome=true\/((tp B L LE).TN f).isSome=true):(Dg (tp B L LE)).ef f=none:=by
 have:∃s,lookS L f=some s:=by
  rcases h with h|h<;>obtain⟨s,b⟩:=Option.isSome_iff_exists.1 h
  ·exact⟨s,(GS.1 b).1⟩
  ·exact⟨s,(IU.1 b).1⟩
 obtain⟨s,b⟩:=this
 show((match lookS L f with
  |some _=>none
  |none=>I0 LE f):Option SigE).map F0=none
 rw[b];rfl
theorem Eu.hiE{P:Program}{G:Nat->List CV}{X:TP}(h:Eu P G X):bz (Dg X):=by
 intro f e b;have b:(X.TE f).map F0=some e:=b;obtain⟨s,c,rfl⟩:=Aa.1 b;exact(h f s c).hi
theorem CanAll.encs{t:Ty}(d:t.val=true)(e:t.ok=true):∀(b:List (D t)),CanAll (fun x c=>Can t x [c]) b (b.map (enc t))
 | []=>rfl
 |y::b=>⟨_,_,rfl,Can.enc y d e,CanAll.encs d e b⟩
def HP(P:Program)(srt:FuncId->FuncId->Option Le):Prop:=∀f g s,srt f g=some s->(s.t.val&&s.t.ok)=true/\hasBody P f=true/\(P.info? s.e).isSome=true/\mvOf g=none/\
 ∀d es b,CanAll (fun x c=>Can s.t x [c]) d es->s.fn d=some b->SortC P f g s.e s.size es (b.map (enc s.t))
theorem CanAll.uniqT{t:Ty}:∀{d b:List (D t)} {es:List CV},CanAll (fun x c=>Can t x [c]) d es->CanAll (fun x c=>Can t x [c]) b es->d=b
 | [],b,es,h,k=>by
  unfold CanAll at h;subst h;exact(List.eq_nil_of_length_eq_zero k.length.symm).symm
 |x::d,[],es,h,k=>by
  obtain⟨c,cs,rfl,_,_⟩:=h;unfold CanAll at k;cases k
 |x::d,y::b,es,h,k=>by
  obtain⟨c,cs,rfl,i,g⟩:=h;obtain⟨l,j,e,f,k2⟩:=k;cases e;rw[Can.uniq t i f,CanAll.uniqT g k2]
theorem HP.env{P:Program}{X:TP}(h:HP P X.srt):S9 P (Dg X).srt:=by
 intro f g e size es o b;simp only[Dg]at b;split at b<;>(try cases b;done);rename_i s d;split at b<;>(try cases b;done);rename_i c;obtain⟨p,m,rfl⟩:=Aa.1 b;obtain⟨q,l,k,j,i⟩:=h f g s d;obtain⟨⟨rfl,rfl⟩,c⟩:=c;exact⟨l,k,j,i _ _ _ (Classical.choose_spec c) m⟩
theorem HP.tok{P:Program}{X:TP}(h:HP P X.srt):∀f g s,X.srt f g=some s->∀b es d,CanAll (fun x c=>Can s.t x [c]) b es->s.fn b=some d->∃i,(Dg X).srt f g s.e s.size es=some i/\CanAll (fun x c=>Can s.t x [c]) d i:=by
 intro f g s l b es d k o;obtain⟨j,_⟩:=h f g s l;rw[Ag]at j;have m:∃b,CanAll (fun x c=>Can s.t x [c]) b es:=⟨b,k⟩;refine⟨d.map (enc s.t), ?_,CanAll.encs j.1 j.2 d⟩;simp only[Dg,l];rw[dif_pos ⟨⟨rfl,rfl⟩,m⟩,CanAll.uniqT (Classical.choose_spec m) k,o];rfl
theorem GoodT.nil(P:Program)(B:TB)(c:Od P B.cp:=by intro f h;cases h)(b:HP P B.srt:=by intro f g s h;cases h):GoodT P B [] []:=by
 refine⟨⟨fun f l r h=> ?_,c,(fun f e h=>by cases h),b.env (X:=tp B [] [])⟩,⟨rfl,rfl,fun f s h=> ?_,fun f h=>QP f h,fun f a e size t fn h=> ?_,(Eu.hiE (P:=P) (G:=B.G) (X:=tp B [] []) fun f s h=>by cases h),b.tok (X:=tp B [] [])⟩,fun f s h=>by cases h⟩
 ·rcases TW h with⟨s,x,y,d,_⟩|⟨_,_,_,_,_,_,_,_,d,_⟩<;>cases d
 ·cases h
 ·cases h
def HO(P:Program)(G:Nat->List CV)(f:FuncId):Sig->Prop
 |⟨a,.nw e size t,fn⟩=>(t.val&&t.ok)=true/\∀x l (y:List (D t)),Can a x l->fn x=some y->hasBody P f=true/\CallsTo P G f l (.new (.arr e size (y.map (enc t))))
 |s=>(s.r.val&&s.r.ok)=true/\∀x l y,Can s.a x l->s.fn x=some y->hasBody P f=true/\CallsTo P G f l (.val (enc s.r y))
theorem HO.val{P:Program}{G:Nat->List CV}{f:FuncId}{s:Sig}(h:HO P G f s)(b:s.r.isNw=false):(s.r.val&&s.r.ok)=true/\∀x l y,Can s.a x l->s.fn x=some y->hasBody P f=true/\CallsTo P G f l (.val (enc s.r y)):=by
 obtain⟨a,r,fn⟩:=s;cases r<;>first|exact h|cases b
theorem HO.mk{P:Program}{G:Nat->List CV}{f:FuncId}{s:Sig}(b:(s.r.val&&s.r.ok)=true)(h:∀x l y,Can s.a x l->s.fn x=some y->hasBody P f=true/\CallsTo P G f l (.val (enc s.r y))):HO P G f s:=by
 obtain⟨a,r,fn⟩:=s;cases r<;>first|exact⟨b,h⟩|cases b
theorem Mi{B:TB}{L:List (FuncId×Sig)}{LE:List (FuncId×SigE)}{f:FuncId}{s:Sig}(h:(tp B L LE).TN f=some s):(tp B L LE).T f=none:=by
 obtain⟨e,d⟩:=IU.1 h
 cases hT:(tp B L LE).T f with
 |none=>rfl
 |some s'=>
  obtain⟨c,b⟩:=GS.1 hT;rw[e]at c;cases c;rw[d]at b;cases b
theorem GoodT.addS{P:Program}{B:TB}{L:List (FuncId×Sig)}{LE:List (FuncId×SigE)}(h:GoodT P B L LE)(f:FuncId)(s:Sig)(v:HO P B.G f s):GoodT P B ((f,s)::L) LE:=by
 have key:∀g s',lookS ((f,s)::L) g=some s'->(g=f/\s'=s)\/lookS L g=some s':=fun g s' q=>by
  unfold lookS at q;by_cases e:f=g
  ·simp only[e,if_true,Ac]at q;exact .inl ⟨e.symm,q.symm⟩
  ·simp only[e,if_false]at q;exact .inr q
 have C:Eu P B.G (tp B ((f,s)::L) LE):=fun g s' b=>by
  obtain⟨i,m⟩:=NF.1 b;refine h.F g s' (NF.2 ⟨?_,m⟩);unfold lookS at i;split at i
  ·cases i
  ·exact i
 refine⟨⟨fun g l r N=> ?_,h.E.cp,Eu.ef (X:=tp B ((f,s)::L) LE) C,h.E.srt⟩,⟨rfl,rfl,fun g s' b=> ?_,fun f h=>QP f h,fun g a e size t fn b=> ?_,C.hiE,h.T.srt⟩,C⟩
 ·rcases TW N with⟨s',x,y,i,m,u,rfl⟩|⟨O,a,e,size,t,fn,x,y,i,m,u,rfl⟩
  ·obtain⟨o,c⟩:=GS.1 i;rcases key g s' o with⟨rfl,rfl⟩|g3
   ·exact(v.val c).2 x l y m u
   ·exact h.E.1 g l _ (OQ (X:=tp B L LE) (GS.2 ⟨g3,c⟩) m u)
  ·obtain⟨o,c⟩:=IU.1 i;rcases key g _ o with⟨rfl,D⟩|g3
   ·subst D;exact v.2 x l y m u
   ·have p:(tp B L LE).TN g=some ⟨a,.nw e size t,fn⟩:=IU.2 ⟨g3,c⟩;exact h.E.1 g l _ (LT (X:=tp B L LE) (Mi p) p m u)
 ·obtain⟨o,c⟩:=GS.1 b
  refine⟨?_, ?_,fun x l y k j=>OQ b k j⟩<;>
  ·rcases key g s' o with⟨rfl,rfl⟩|g3
   ·have:=(v.val c).1;simp only[Ag]at this;first|exact this.1|exact this.2
   ·first|exact(h.T.fn g s' (GS.2 ⟨g3,c⟩)).1|exact(h.T.fn g s' (GS.2 ⟨g3,c⟩)).2.1
 ·obtain⟨o,c⟩:=IU.1 b;rcases key g _ o with⟨rfl,D⟩|g3
  ·subst D;have d:=v.1;simp only[Ag]at d;exact⟨d.1,fun x l A k j=>⟨_,LT (Mi b) b k j,CanAll.encs d.1 d.2 A⟩⟩
  ·have p:(tp B L LE).TN g=some ⟨a,.nw e size t,fn⟩:=IU.2 ⟨g3,c⟩;obtain⟨M,k2⟩:=h.T.nw g a e size t fn p;refine⟨M,fun x l A k j=>⟨_,LT (Mi b) b k j, ?_⟩⟩;obtain⟨es,I,K⟩:=k2 x l A k j;have J:=LT (X:=tp B L LE) (Mi p) p k j;rw[J]at I;cases I;exact K
theorem GoodT.addM{P:Program}{B:TB}{L:List (FuncId×Sig)}{LE:List (FuncId×SigE)}(h:GoodT P B L LE)(f:FuncId)(s:Sig)(b:(s.r.val&&s.r.ok)=true)(c:∀x l y,Can s.a x l->s.fn x=some y->hasBody P f=true/\CallsTo P B.G f l (.val (enc s.r y))):GoodT P B ((f,s)::L) LE:=
 h.addS f s (HO.mk b c)
theorem GoodT.add{P:Program}{B:TB}{L:List (FuncId×Sig)}{LE:List (FuncId×SigE)}(h:GoodT P B L LE)(f:FuncId)(s:Sig)(m:AF)(j:Dc P f=some ⟨m.n,erase m.code,m.res⟩)(i:Mc (tp B L LE) s.a s.r m=some s.fn){k:Nat}(e:AQ s.a=some k)(g:Nat.ble k m.n=true)(b:(s.r.val&&s.r.ok)=true):GoodT P B ((f,s)::L) LE:=
 h.addM f s b fun _ _ _ d c=>ZY h.E h.T h.TE rfl i j e (Ai g) d c b
theorem GoodT.call{P:Program}{B:TB}{L:List (FuncId×Sig)}{LE:List (FuncId×SigE)}(h:GoodT P B L LE){f:FuncId}{s:Sig}(d:lookS L f=some s){x:D s.a}{l:List CV}{y:D s.r}(c:Can s.a x l)(b:s.fn x=some y)(e:s.r.isNw=false:=by rfl):CallsTo P B.G f l (.val (enc s.r y)):=
 (h.E.1 f l _ (OQ (X:=tp B L LE) (GS.2 ⟨d,e⟩) c b)).2
theorem GoodT.addEM{P:Program}{B:TB}{L:List (FuncId×Sig)}{LE:List (FuncId×SigE)}(h:GoodT P B L LE)(f:FuncId)(s:SigE)(i:Re P B.G f s):GoodT P B L ((f,s)::LE):=by
 have d:Eu P B.G (tp B L ((f,s)::LE)):=fun g s' b=>by
  obtain⟨k,c⟩:=NF.1 b;unfold I0 at c;split at c
  ·rename_i e;have m:f=g:=e;cases c;rw[<-m];exact i
  ·exact h.F g s' (NF.2 ⟨k,c⟩)
 exact⟨⟨fun g l r j=>h.E.fn g l r j,h.E.cp,Eu.ef (X:=tp B L ((f,s)::LE)) d,h.E.srt⟩,⟨rfl,rfl,fun g s' b=>h.T.fn g s' b,fun f h=>QP f h,fun g a e size t fn b=>h.T.nw g a e size t fn b,d.hiE,h.T.srt⟩,d⟩
theorem LH{P:Program}{f:FuncId}{m:GW}(h:Dc P f=some m):hasBody P f=true:=by
 unfold Dc at h;split at h<;>(try cases h;done);rename_i b;exact b
theorem GoodT.addE{P:Program}{B:TB}{L:List (FuncId×Sig)}{LE:List (FuncId×SigE)}(h:GoodT P B L LE)(f:FuncId)(s:SigE)(m:AF){k:Nat}(j:AQ s.a=some k)(o:Nat.ble k m.n=true)(b:(s.r.val&&s.r.ok&&aw s.Θ&&s.r.names (A6 s.Θ).contains&&(A6 s.Θ).all fun N=>Nat.ble As N)=true)(c:Dc P f=some ⟨m.n,erase m.code,m.res⟩)(p:Io (tp B L LE) s.a s.r s.Θ m=some s.fn):GoodT P B L ((f,s)::LE):=by
 simp only[Ag]at b;exact h.addEM f s ⟨b.1.1.1.1,b.1.1.1.2,b.2,b.1.1.2,by rw[Iu (LH c)];exact LH c,fun x l θ H y d g i e=>.of (LH c) (UB h.E h.T h.TE p c j (Ai o) b.1.1.2 b.1.2 g i e).2⟩
theorem GoodT.addT{P:Program}{B:TB}{L:List (FuncId×Sig)}{LE:List (FuncId×SigE)}(h:GoodT P B L LE)(f:FuncId)(s:Sig)(m:AF){k:Nat}(t:AQ s.a=some k)(u:Nat.ble k m.n=true)(b:(s.r.val&&s.r.ok&&s.r.names fun _=>false)=true)(A:Dc P f=some ⟨m.n,erase m.code,m.res⟩){fn:D s.a->HS ([]:TC)->Option (D s.r×HS ([]:TC))}(v:Io (tp B L LE) s.a s.r [] m=some fn)(d:s.fn=fun x=>(fn x ()).map fun p=>p.1):GoodT P B ((f,s)::L) LE:=by
 simp only[Ag]at b;refine h.addM f s (by simp[b.1]) fun x l y j e=> ?_;rw[d]at e;obtain⟨⟨J,g⟩,F,C⟩:=Aa.1 e;cases C;have o:af ([]:TC) () {fr:=fun _=>.undef,ob:=fun _=>.none}:=⟨fun i q c=>(by cases c),fun id q c=>(by cases c)⟩;obtain⟨I,G⟩:=UB h.E h.T h.TE v A t (Ai u) rfl b.2 j o F;exact⟨I,G.to fun id=>rfl⟩
def m(i j:Nat):SL:=⟨some i,.mov (.t j),none⟩
def l'(i:Nat)(o:aa):SL:=⟨some i,o,none⟩
def ln(o:aa):SL:=⟨none,o,none⟩
def fo(i:Nat)(off x:Nat):SL:=⟨some i,.faddr off (.t x),none⟩
def st'(a x:Nat):SL:=⟨none,.store 1 (.t a) (.t x),none⟩
def ex(i x j:Nat):SL:=⟨some i,.ext (.t x) j,none⟩
def rf(l:List SL):AC:=.reg false [] l
def rs(l:List SL):Co:=.reg false [] l
def K(k:IntKind)(n:Int):SO:=.k (.int k n)
def sS(i:Nat):ax×EK:=(.s i,.v .str)
def sI(i:Nat):ax×EK:=(.s i,.v (.int .i64))
def sB(i:Nat):ax×EK:=(.s i,.v .bool)
def cI(i j:Nat):ax×EK:=(.c i j,.v (.int .i64))
inductive Hn where
 |s (Γ:TC)
 |j (Γ:TC) (ex:List Nat) (rt:Bool)
 |l (Γ:TC) (ex:List Nat) (rt:Bool)
 |g (g:Gh)
 |r
 |e
 |t (gs:List (Nat×Gh))
 |x (h:HT)
 |m (Γ:TC) (ex:List Nat) (rt:Bool)
 |a (gs:List Gh)
 |w (W:List (Nat×Nat))
 |p (Γ1 Γ:TC) (ex:List Nat) (rt:Bool)
abbrev HL:=List (Nat×Hn)
def JE(i:Nat):List SL->List (Nat×Gh)->List GL
 | [],gs=>gs.map fun g=>.g g.2
 |l::ls,gs=>let p:=gs.span fun g=>Nat.beq g.1 i;p.1.map (fun g=>.g g.2)++ .l l::JE (i+1) ls p.2
theorem Vl(gs:List (Nat×Gh))(r:List GL):Ff (gs.map (fun g=>.g g.2)++r)=Ff r:=by
 induction gs with
 |nil=>rfl
 |cons g gs ih=>simp[Ff,ih]
theorem Adg(ls:List SL):∀i gs,Ff (JE i ls gs)=ls:=by
 induction ls with
 |nil=>intro i gs;unfold JE;simpa[Ff]using Vl gs []
 |cons l ls ih=>intro i gs;unfold JE;simp only;rw[Vl];simp[Ff,ih]
def bL(k:Nat):HL->List Gh×HL
 |(n,.g g)::hs=>cond (Nat.beq n k) (let p:=bL k hs;(g::p.1,p.2)) ([],(n,.g g)::hs)
 |hs=>([],hs)
def bO(k:Nat):HL->Option Hn×HL
 |(n,h)::hs=>cond (Nat.beq n k) (some h,hs) (none,(n,h)::hs)
 | []=>(none,[])
def bj:List Gh->AC->AC
 | [],c=>c
 |g::gs,c=>.gh g (bj gs c)
theorem Hs(gs:List Gh)(c:AC):erase (bj gs c)=erase c:=by
 induction gs with
 |nil=>rfl
 |cons g gs ih=>simpa[bj,erase]using ih
def dd(o:Option Hn)(a b:AC):AC:=
 match o with
 |some (.s Γ)=>.seq Γ a b
 |some (.j Γ ex rt)=>.join Γ ex rt a b
 |_=>.sq a b
def dg(o:Option Hn)(draw:Bool)(D:List Nat)(ls:List SL):AC:=
 match o,draw with
 |some (.t gs),false=>.rg D (JE 0 ls gs)
 |some (.x h),d=>.rgt d D ls h
 |some (.a gs),true=>.rga D ls gs
 |_,_=>.reg draw D ls
def dj(o:Option Hn)(D:List Nat)(ls:List SL):AC:=
 match o with
 |some .e=>.regE true D ls
 |_=>.regE false D ls
def de(o:Option Hn)(ls:List SL):AC:=
 match o with
 |some (.w W)=>.regW W ls
 |_=>.regW [] ls
def dW(Γ:TC)(ex:List Nat)(rt:Bool)(b:AC):AC:=
 match b with
 | .sq (.raw (.mnext it d ok)) (.sq (.cond (.t ok') .skip (.exit i)) c)=>cond (Nat.beq ok' ok) (.mloop Γ ex rt it d ok i c) (.loop [] [] false b)
 |_=>.loop [] [] false b
def dX(o:Option Hn)(b:AC):AC:=
 match o with
 |some (.l Γ ex rt)=>.loop Γ ex rt b
 |some (.m Γ ex rt)=>dW Γ ex rt b
 |_=>.loop [] [] false b
def bY:Option Hn->Bool
 |some .r=>true
 |_=>false
def bD:Co->Nat->HL->AC×Nat×HL
 | .skip,k,hs=>let p:=bL k hs;let q:=bO k p.2;(bj p.1 (cond (bY q.1) (.raw .skip) .skip),k+1,q.2)
 | .ret,k,hs=>let p:=bL k hs;let q:=bO k p.2;(bj p.1 (cond (bY q.1) (.raw .ret) .ret),k+1,q.2)
 | .exit i,k,hs=>let p:=bL k hs;let q:=bO k p.2;(bj p.1 (cond (bY q.1) (.raw (.exit i)) (.exit i)),k+1,q.2)
 | .bad,k,hs=>let p:=bL k hs;let q:=bO k p.2;(bj p.1 (.raw .bad),k+1,q.2)
 | .mnext it d ok,k,hs=>let p:=bL k hs;let q:=bO k p.2;(bj p.1 (.raw (.mnext it d ok)),k+1,q.2)
 | .reg d D ls,k,hs=>let p:=bL k hs;let q:=bO k p.2;(bj p.1 (cond (bY q.1) (.raw (.reg d D ls)) (dg q.1 d D ls)),k+1,q.2)
 | .regE D ls,k,hs=>let p:=bL k hs;let q:=bO k p.2;(bj p.1 (cond (bY q.1) (.raw (.regE D ls)) (dj q.1 D ls)),k+1,q.2)
 | .regW ls,k,hs=>let p:=bL k hs;let q:=bO k p.2;(bj p.1 (cond (bY q.1) (.raw (.regW ls)) (de q.1 ls)),k+1,q.2)
 | .seq a b,k,hs=>let p:=bL k hs;let q:=bO k p.2
  match bY q.1 with
  |true=>(bj p.1 (.raw (.seq a b)),k+1,q.2)
  |false=>let x:=bD a (k+1) q.2;let y:=bD b x.2.1 x.2.2;(bj p.1 (dd q.1 x.1 y.1),y.2)
 | .cond c a b,k,hs=>let p:=bL k hs;let q:=bO k p.2
  match bY q.1 with
  |true=>(bj p.1 (.raw (.cond c a b)),k+1,q.2)
  |false=>let x:=bD a (k+1) q.2;let y:=bD b x.2.1 x.2.2;(bj p.1 (.cond c x.1 y.1),y.2)
 | .block i a,k,hs=>let p:=bL k hs;let q:=bO k p.2
  match bY q.1 with
  |true=>(bj p.1 (.raw (.block i a)),k+1,q.2)
  |false=>let x:=bD a (k+1) q.2;(bj p.1 (.block i x.1),x.2)
 | .loop a,k,hs=>let p:=bL k hs;let q:=bO k p.2
  match bY q.1 with
  |true=>(bj p.1 (.raw (.loop a)),k+1,q.2)
  |false=>match q.1 with
   |some (.p Γ1 Γ ex rt)=>let x:=bD a (k+1) q.2;let y:=bD a x.2.1 x.2.2;(bj p.1 (.peel Γ1 x.1 Γ ex rt y.1),y.2)
   |_=>let x:=bD a (k+1) q.2;(bj p.1 (dX q.1 x.1),x.2)
theorem ZE(o:Option Hn)(a b:AC):erase (dd o a b)=.seq (erase a) (erase b):=by
 unfold dd;split<;>rfl
theorem ZC(o:Option Hn)(d:Bool)(D:List Nat)(ls:List SL):erase (dg o d D ls)=.reg d D ls:=by
 unfold dg;split<;>simp[erase,Adg]
theorem ZB(o:Option Hn)(D:List Nat)(ls:List SL):erase (dj o D ls)=.regE D ls:=by
 unfold dj;split<;>rfl
theorem ZD(o:Option Hn)(ls:List SL):erase (de o ls)=.regW ls:=by
 unfold de;split<;>rfl
theorem ZA(Γ:TC)(ex:List Nat)(rt:Bool)(b:AC):erase (dW Γ ex rt b)=.loop (erase b):=by
 unfold dW;split
 ·rename_i it d ok e i c
  cases f:Nat.beq e ok with
  |false=>rfl
  |true=>
   have:=Nat.eq_of_beq_eq_true f;subst this;rfl
 ·rfl
theorem Ue(o:Option Hn)(a:AC):erase (dX o a)=.loop (erase a):=by
 unfold dX;split
 ·rfl
 ·exact ZA ..
 ·rfl
theorem Z8(c:Co):∀k e,erase (bD c k e).1=c:=by
 induction c with
 |seq a b iha ihb|cond c a b iha ihb=>intro k e;simp only[bD];split<;>simp[Hs,ZE,erase,iha,ihb]
 |block i a iha=>intro k e;simp only[bD];split<;>simp[Hs,Ue,erase,iha]
 |loop a iha=>
  intro k e;simp only[bD];split
  ·simp[Hs,erase]
  ·split<;>simp[Hs,Ue,erase,iha]
 |bad=>intro k e;simp[bD,Hs,erase]
 |mnext it d ok=>intro k e;simp[bD,Hs,erase]
 |_=>intro k e;simp only[bD,Hs];cases bY (bO k (bL k e).2).1<;>simp[erase,ZC,ZB,ZD]
def ch(P:Program)(f:FuncId)(b:HL):AF:=
 match Dc P f with
 |some m=>⟨m.n,(bD m.code 0 b).1,m.res⟩
 |none=>⟨0,.ret,[]⟩
def cL(P:Program)(f:FuncId)(a:Ty):Bool:=
 match Dc P f,AQ a with
 |some m,some k=>Nat.ble k m.n
 |_,_=>false
theorem QQ{P:Program}{f:FuncId}{a:Ty}(b:HL)(h:cL P f a=true):∃k,AQ a=some k/\Nat.ble k (ch P f b).n=true/\Dc P f=some ⟨(ch P f b).n,erase (ch P f b).code,(ch P f b).res⟩:=by
 unfold cL at h;split at h
 ·rename_i m k d c;refine⟨k,c, ?_, ?_⟩<;>simp[ch,d,h,Z8]
 ·cases h
theorem GoodT.hT{P:Program}{B:TB}{L:List (FuncId×Sig)}{LE:List (FuncId×SigE)}(h:GoodT P B L LE){f:FuncId}{s:Sig}(b:HL)(c:(s.r.val&&s.r.ok)=true:=by rfl)(e:cL P f s.a=true:=by kernel_rfl)(d:Mc (tp B L LE) s.a s.r (ch P f b)=some s.fn:=by kernel_rfl):GoodT P B ((f,s)::L) LE:=by
 obtain⟨k,j,i,g⟩:=QQ b e;exact h.add f s _ g d j i c
theorem GoodT.hE{P:Program}{B:TB}{L:List (FuncId×Sig)}{LE:List (FuncId×SigE)}(h:GoodT P B L LE){f:FuncId}{s:SigE}(b:HL)(c:(s.r.val&&s.r.ok&&aw s.Θ&&s.r.names (A6 s.Θ).contains&&(A6 s.Θ).all fun N=>Nat.ble As N)=true:=by rfl)(e:cL P f s.a=true:=by kernel_rfl)(d:Io (tp B L LE) s.a s.r s.Θ (ch P f b)=some s.fn:=by kernel_rfl):GoodT P B L ((f,s)::LE):=by
 obtain⟨k,j,i,g⟩:=QQ b e;exact h.addE f s _ j i c g d
theorem GoodT.hU{P:Program}{B:TB}{L:List (FuncId×Sig)}{LE:List (FuncId×SigE)}(h:GoodT P B L LE){f:FuncId}{s:Sig}(c:HL)(d:(s.r.val&&s.r.ok&&s.r.names fun _=>false)=true)(g:cL P f s.a=true){fn:D s.a->HS ([]:TC)->Option (D s.r×HS ([]:TC))}(e:Io (tp B L LE) s.a s.r [] (ch P f c)=some fn)(b:s.fn=fun x=>(fn x ()).map fun p=>p.1):GoodT P B ((f,s)::L) LE:=by
 obtain⟨k,l,j,i⟩:=QQ c g;exact h.addT f s _ l j d i e b
def XV(w:World)(g:Nat)(vs:List Value):Prop:=∃t fr,w.heap[g]? =some (.cells ⟨vs⟩ t fr)
theorem GOk.one{w:World}{g:Nat}{b:List CV}{vs:List Value}(h:XV w g vs)(d:RelL w noM b vs)(f:AN (fun _=>false) b=true):
  RelC w noM (.rp b) (.pointer (some ⟨g,0,none⟩))/\∃cs t fr,w.heap[g]? =some (.cells cs t fr)/\cs.size=b.length/\AN (fun _=>false) b=true:=by
 obtain⟨t,fr,c⟩:=h;refine⟨?_,⟨vs⟩,t,fr,c,by simp[d.length],f⟩;unfold RelC;refine⟨⟨g,0,none⟩,vs,rfl,C2 c,fun c=>c,d,fun j u e=> ?_⟩
 have k:(({block:=g,off:=0,spot:=none}:Addr).add j)={block:=g,off:=j,spot:=none}:=by
  unfold Addr.add;by_cases i:j=0<;>simp[i]
 rw[k];simp only[World.cell?,c];simpa using e
end WB
namespace WB
open Go Go.RowKit Go.Maps
open Go.WideElems (Fit rd rg)
open Go.MapKept (Stamped)
open Go.WideMaps (keyOf_string_mk)
def DB(v:Value):Option (DataW Value×List MemPlace):=some (.held v,[])
def Jc(p:Lit×DataW Value):Value×Value:=
 ((match p.1 with| .string s=>.string ⟨⟨s⟩⟩|_=>.nilFunc),(match p.2 with| .held v=>v|_=>.nilFunc))
theorem W8{P:Program}{k:TypeId}(c:P.underlying k=some .string){x:MapEntry}{y:Lit×DataW Value}(h:rd P k DB x=some y):Jc (rg P k DB x)=(x.key,x.val):=by
 unfold rg;rw[h];unfold rd at h;simp only[Ab,DB,Option.map_some,Ac]at h;obtain⟨l,b,rfl⟩:=h;rw[keyOf_string c]at b;cases d:x.key<;>rw[d]at b<;>simp[mapKey,c]at b;obtain⟨_,rfl⟩:=b;simp[Jc]
theorem Za{P:Program}{f:FuncId}{k:TypeId}(u:P.underlying k=some .string)
  (T:∀(R:Value->Option (DataW Value×List MemPlace)) (l A:Nat) (j:Option Nat) (L g:DataW Value) (w:World),w.ownsMap P k R l A L->((j=none/\g=.nil)\/∃b n,j=some b/\w.ownsMap P k R b n g)->j≠some l->A+Maps.size g≤maxLen->
   Calls P f #[.map (some l),.map j] w fun e w'=>e=.returned (.tuple #[])/\w'.ownsMap P k R l (A+Maps.size g) (Lib.mergeD L g)/\w.grownBy w' (some l)):Rc P f:=by
 intro w l J j c hd N m d;have K:=Maps.string_keyed u;have t:9223372036854775807≤maxLen:=by unfold maxLen;omega
 replace d:c.length≤maxLen:=Nat.le_trans d t
 have cy:∀x∈c,∃y,rd P k DB x=some y:=by
  intro x r;obtain⟨s,D,C⟩:=m x r;unfold rd;rw[D,keyOf_string_mk u (by simpa[ByteArray.size]using Nat.le_trans C t)];exact⟨_,rfl⟩
 have I:w.ownsMap P k DB l 0 (.map []):=⟨#[],J,hd,⟨by simp,⟨by simp,by simp,by simp⟩,by simp⟩,by simp,rfl⟩
 have src:∃g:DataW Value,((j=none/\g=.nil)\/∃b n,j=some b/\w.ownsMap P k DB b n g)/\j≠some l/\Maps.size g≤maxLen/\Lib.mergeD (.map []) g=.map ((c.map (rg P k DB)).foldr DataW.insert []):=by
  rcases N with⟨rfl,rfl⟩|⟨bs,i,rfl,G,U,hE⟩
  ·exact⟨.nil,.inl ⟨rfl,rfl⟩,by simp,by simp[Maps.size],rfl⟩
  ·have o:w.ownsMap P k DB bs c.length (.map ((c.map (rg P k DB)).foldr DataW.insert [])):=
    ⟨⟨c⟩,i,U,⟨by simpa using d,⟨hE.2.1,hE.2.2,hE.1⟩,cy⟩,by simp,rfl⟩
   refine⟨_,.inr ⟨bs,c.length,rfl,o⟩,by simpa using G, ?_, ?_⟩
   ·show((c.map (rg P k DB)).foldr DataW.insert []).length≤maxLen;rw[(WideShapes.sorted_perm _).length_eq,List.length_map];exact d
   ·refine(Maps.merged_eq K.one (left:=fun _=>false) ⟨fun q=> ?_,fun q z=> ?_⟩ (fun _=>rfl) (o.canon K) ⟨[],rfl,.nil,by intro p O;cases O⟩ (o.canonK K)).symm
    ·simp[Maps.has]
    ·by_cases h:Maps.has (DataW.map ((c.map (rg P k DB)).foldr DataW.insert [])) q=true
     ·simp[h]
     ·rw[Bool.not_eq_true]at h;simp only[h,Bool.false_and,Ah,if_false];exact Maps.atKey_of_not_has h z
 obtain⟨g,Y,W,h3,V⟩:=src;refine(T DB l 0 j (.map []) g w I Y W (by omega)).mono fun e w' ⟨S,o,Q⟩=> ?_;rw[V]at o;obtain⟨es,i,q1,F,q2,q3⟩:=o;obtain⟨es⟩:=es;refine⟨S,Q,es,i,q1,⟨F.stamped.2.2,F.stamped.1,F.stamped.2.1⟩, ?_⟩;simp only[DataW.map.injEq]at q3;have M:=((WideShapes.sorted_perm (es.map (rg P k DB))).symm.trans (by rw[<-q3])).trans (WideShapes.sorted_perm (c.map (rg P k DB)));have v:=M.map Jc;rw[List.map_map,List.map_map]at v
 have e1:es.map (Jc∘rg P k DB)=es.map fun e=>(e.key,e.val):=List.map_congr_left fun x r=>by
  obtain⟨y,B⟩:=F.reads x r;exact W8 u B
 have Z:c.map (Jc∘rg P k DB)=c.map fun e=>(e.key,e.val):=List.map_congr_left fun x r=>by
  obtain⟨y,B⟩:=cy x r;exact W8 u B
 rw[e1,Z]at v;exact v
end WB
namespace WB
open Go Go.RowKit Go.ChangeShapes Go.WideShapes Go.Deep
def InR:(t:Ty)->D t->Prop
 | .int k,n=>k.min≤(n:Int)/\(n:Int)≤k.max
 | .str,s=>(s:List UInt8).length≤9223372036854775807
 | .sl e,b=>(b:List (D e)).length≤9223372036854775807/\∀x∈(b:List (D e)),InR e x
 | .agg r,x=>InR r x
 | .one t,x=>InR t x
 | .cons t r,x=>InR t x.1/\InR r x.2
 |_,_=>True
def Hx(P:Program)(t:TypeId):Bool:=
 match P.underlying t with
 |some (.struct _)|some (.array _ _)=>true
 |_=>false
def KJ(P:Program)(t:TypeId)(r:Ty):Option Ty:=
 if Hx P t then some (.agg r)else match r with
  | .one t=>if Fi t=true then some t else none
  |_=>none
section
variable (P:Program)
def HF(r:Ty):Nat->Ty
 |0=>.nil
 |n+1=>(BO r (HF r n)).1
def Ku(R:TypeId->Option Ty):List Field->Nat->Option Ty
 | [],_=>some .nil
 |f::fs,off=>(R f.type).bind fun r=>(Ku R fs (off+P.cellsOf f.type)).bind fun q=>if f.offset=off/\AQ r=some (P.cellsOf f.type)then some (BO r q).1 else none
def IL:Nat->TypeId->Option Ty
 |0,_=>none
 |n+1,t=>match P.underlying t with
  |some (.int k)=>some (.one (.int k))
  |some .bool=>some (.one .bool)
  |some .string=>some (.one .str)
  |some (.slice e)=>(IL n e).bind fun r=>(KJ P e r).bind fun te=>if te.val=true/\AQ (BL te)=some (P.cellsOf e)/\0<P.cellsOf e then some (.one (.sl te))else none
  |some (.struct fs)=>(Ku P (IL n) fs.toList 0).bind fun r=>if AQ r=some (P.cellsOf t)then some r else none
  |some (.array m e)=>(IL n e).bind fun r=>if AQ r=some (P.cellsOf e)/\AQ (HF r m)=some (P.cellsOf t)then some (HF r m)else none
  |_=>none
end
theorem Rh:∀{r s:Ty} {n:Nat} {x:D r} {y:D s},AQ r=some n->InR r x->InR s y->InR (BO r s).1 ((BO r s).2 x y):=by
 intro r
 induction r with
 |nil=>intro s n x y _ _ h;exact h
 |one t _=>
  intro s n x y _ h k;cases s
  case nil=>exact h
  all_goals exact⟨h,k⟩
 |cons t r _ ihr=>
  intro s n x y b h k;simp only[AQ,Aa]at b;obtain⟨c,b,_⟩:=b;exact⟨h.1,ihr b h.2 k⟩
 |_=>intro s n x y b;cases b
section
variable {H:Type} {enc:TypeId×Value->H} {P:Program} {w:World} {base:Nat} {spare:Nat->Bool} {held:Bool}
theorem VM{t:TypeId}{r te:Ty}{x:D r}{d:List CV}{cs:List Value}(b:KJ P t r=some te)(h:Hx P t=false->cs.length=1)(f:Can r x d)(g:RelL w noM d cs)(hi:InR r x):
  ∃(y:D te) (c:CV) (v:Value),Can te y [c]/\RelC w noM c v/\v.cells.toList=cs/\InR te y:=by
 unfold KJ at b;split at b
 ·cases b;exact⟨x,.agg d,.agg ⟨cs⟩,by unfold Can;exact⟨_,rfl,f⟩,by unfold RelC;exact⟨_,rfl,g⟩,rfl,hi⟩
 ·rename_i l;have h:=h (by simpa using l);split at b<;>(try cases b;done);split at b<;>(try cases b;done);rename_i k;cases b;unfold Can at f;obtain⟨c,rfl,f⟩:=f;unfold RelL at g;obtain⟨v,vs,rfl,j,i⟩:=g;unfold RelL at i;subst i;refine⟨x,c,v,f,j, ?_,hi⟩;rw[PZ j (fun cs e=>by have:=GD k f;rw[e]at this;cases this)]
theorem VS{r:Ty}{k:Nat}(c:AQ r=some k){cs:List Value}:∀{m j:Nat},(∀i,j≤i->i<j+m->∃(x:D r) (b:List CV),Can r x b/\RelL w noM b ((cs.drop (i*k)).take k)/\InR r x)->
  ∃(x:D (HF r m)) (b:List CV),Can (HF r m) x b/\RelL w noM b ((cs.drop (j*k)).take (m*k))/\InR (HF r m) x
 |0,j,_=>⟨(),[],rfl,by simp only[Nat.zero_mul,List.take_zero];exact RelL.nil,trivial⟩
 |m+1,j,h=>by
  obtain⟨x,b,l,g,f⟩:=h j (Nat.le_refl _) (by omega);obtain⟨y,d,p,o,g3⟩:=VS c (m:=m) (j:=j+1) (cs:=cs) (fun i s q=>h i (by omega) (by omega));refine⟨(BO r (HF r m)).2 x y,b++d,HU c l p, ?_,Rh c f g3⟩
  have e:(cs.drop (j*k)).take ((m+1)*k)=(cs.drop (j*k)).take k++(cs.drop ((j+1)*k)).take (m*k):=by
   rw[Nat.add_mul,Nat.one_mul,Nat.add_comm (m*k) k,List.take_add,List.drop_drop,Nat.add_mul,Nat.one_mul]
  rw[e];exact RelL.append g o
theorem Ai5{k:IntKind}{n:Int}(h:(Lit.int k n).wf=true):k.min≤n/\n≤k.max:=by
 simpa[Lit.wf]using h
theorem ZJ{c β:Type}{p:Nat->c->β->Prop}:∀(n:Nat),(∀i,i<n->∃x y,p i x y)->∃(l:List c) (m:List β),l.length=n/\m.length=n/\∀(i:Nat) x y,l[i]? =some x->m[i]? =some y->p i x y:=by
 intro n h;obtain⟨l,e,j⟩:=Up (p:=fun i (z:c×β)=>p i z.1 z.2) n (fun i hi=>by obtain⟨x,y,h⟩:=h i hi;exact⟨(x,y),h⟩);refine⟨l.map (·.1),l.map (·.2),by simp[e],by simp[e],fun i x y g f=> ?_⟩;rw[List.getElem?_map,Aa]at g f;obtain⟨z,d,rfl⟩:=g;obtain⟨z',b,rfl⟩:=f;rw[d]at b;cases b;exact j i z d
theorem Rb{d β:Type}{R:d->β->Prop}:∀{c:List d} {bs:List β},c.length=bs.length->(∀(i:Nat) a b,c[i]? =some a->bs[i]? =some b->R a b)->CanAll R c bs
 | [],[],_,_=>rfl
 | [],_::_,h,_=>by cases h
 |_::_,[],h,_=>by cases h
 |a::c,b::bs,h,hr=>⟨b,bs,rfl,hr 0 a b rfl rfl,Rb (by simpa using h) fun i x y f e=>hr (i+1) x y (by simpa using f) (by simpa using e)⟩
theorem VT{R:TypeId->Option Ty}(l:∀{t:TypeId} {r:Ty} {c:Nat} {cs:List Value} {y:DataW H×List MemPlace},R t=some r->DataW.trod enc P w base spare held c t cs=some y->∃(x:D r) (b:List CV),Can r x b/\RelL w noM b cs/\InR r x):∀{j:List Field} {off:Nat} {r:Ty} {cs:List Value},Ku P R j off=some r->(∀f∈j,∃c y,DataW.trod enc P w base spare held c f.type ((cs.drop f.offset).take (P.cellsOf f.type))=some y)->
  ∃(x:D r) (b:List CV),Can r x b/\RelL w noM b ((cs.drop off).take b.length)/\InR r x
 | [],off,r,cs,h,_=>by
  unfold Ku at h;cases h;exact⟨(),[],rfl,by simp only[List.length_nil,List.take_zero];exact RelL.nil,trivial⟩
 |f::j,off,r,cs,h,hd=>by
  unfold Ku at h;obtain⟨s,F,h⟩:=Ab.1 h;obtain⟨q,C,h⟩:=Ab.1 h;split at h<;>(try cases h;done);rename_i B;obtain⟨e,d⟩:=B;cases h;obtain⟨c,y,A⟩:=hd f (by simp);obtain⟨x,b,o,m,g3⟩:=l F A;obtain⟨p,g,v,k2,u⟩:=VT l (cs:=cs) C (fun G i=>hd G (by simp[i]));refine⟨(BO s q).2 x p,b++g,HU d o v, ?_,Rh d g3 u⟩;have k:=EP d o;rw[e,<-k]at m;rw[<-k]at k2;rw[List.length_append,List.take_add,List.drop_drop];exact RelL.append m k2
theorem MH:∀{n:Nat} {t:TypeId} {r:Ty} {C:Nat} {cs:List Value} {y:DataW H×List MemPlace},IL P n t=some r->DataW.trod enc P w base spare held C t cs=some y->(Hx P t=false->cs.length=1)/\∃(x:D r) (g:List CV),Can r x g/\RelL w noM g cs/\InR r x
 |0,_,_,_,_,_,h,_=>by cases h
 |n+1,t,r,C,cs,y,h,hd=>by
  unfold IL at h;split at h
  ·rename_i k l;cases h;obtain⟨m,rfl,_,hw⟩:=DataW.trod_int l hd;exact⟨fun _=>rfl,m,[.int k m],⟨_,rfl,rfl⟩,RelL.cons rfl RelL.nil,Ai5 hw⟩
  ·rename_i l;cases h;obtain⟨b,rfl,_⟩:=DataW.trod_bool l hd;exact⟨fun _=>rfl,b,[.bool b],⟨_,rfl,rfl⟩,RelL.cons rfl RelL.nil,trivial⟩
  ·rename_i l;cases h;obtain⟨s,rfl,_,hs⟩:=DataW.trod_string l hd;refine⟨fun _=>rfl,s.data.toList,[.str s.data.toList],⟨_,rfl,rfl⟩,RelL.cons rfl RelL.nil, ?_⟩;have h9:s.size≤9223372036854775807:=hs;show s.data.toList.length≤9223372036854775807;rw[Array.length_toList];exact h9
  ·rename_i e l;obtain⟨r',Q,h⟩:=Ab.1 h;obtain⟨te,I,h⟩:=Ab.1 h;split at h<;>(try cases h;done);rename_i o;obtain⟨hv,d,M⟩:=o;cases h;rcases open_slice l hd with⟨S,_⟩|⟨a,len,cap,m,n',D',Pl,hcs,hb,hl,hm,N,hx,hi⟩
   ·subst S;refine⟨fun _=>rfl,[],[.sl (some true) []],⟨_,rfl,_,_,rfl,rfl⟩,RelL.cons ?_ RelL.nil,by simp[InR]⟩;unfold RelC;exact⟨none,0,0,rfl,rfl,Nat.le_refl _,fun _=>rfl,(fun o=>by cases o),fun _=>rfl,fun o=>absurd rfl o⟩
   ·subst hcs
    have hel:∀i,i<len->∃(z:D te) (c:CV),(Can te z [c]/\InR te z)/\∃v,RelC w noM c v/\v.cells.size=P.cellsOf e/\∀(j:Nat) u,v.cells[j]? =some u->w.cell? (a.add (i*P.cellsOf e+j))=some u:=by
     intro i hil;obtain⟨cs',hc,Y⟩:=hi i (by rw[N];split<;>omega);obtain⟨_,p,G⟩:=World.cells?_some hc;obtain⟨g0,x,g,J,q,g3⟩:=MH Q Y;obtain⟨z,c,v,V,k2,K,k4⟩:=VM I g0 J q g3;refine⟨z,c,⟨V,k4⟩,v,k2,by rw[<-p,<-K];simp,fun j u R=> ?_⟩
     have hj:j<P.cellsOf e:=by
      have:=(Array.getElem?_eq_some_iff.1 R).1;rw[<-p,<-K];simpa using this
     rw[<-WB.HR,G j hj,<-K];simpa using R
    obtain⟨T,es,e1,e2,Z⟩:=ZJ len hel;refine⟨fun _=>rfl,T,[.sl (some false) es],⟨_,rfl,_,_,rfl,Rb (by omega) fun i z c h3 h4=>(Z i z c h3 h4).1.1⟩,RelL.cons ?_ RelL.nil,⟨?_,fun z W=> ?_⟩⟩
    ·unfold RelC;refine⟨some a,len,cap,rfl,by omega,hl,(fun o=>by cases o),(fun _=>by simp),(fun o=>by cases o),fun hne=> ?_⟩;refine⟨a,P.cellsOf e,rfl, ?_,fun o=>o,FL fun k el B=> ?_⟩
     ·have hlen0:0<len:=by
       rcases Nat.eq_zero_or_pos len with S|S
       ·exact absurd (List.eq_nil_of_length_eq_zero (by omega)) hne
       ·exact S
      obtain⟨cs',hc,_⟩:=hi 0 (by rw[N];split<;>omega);obtain⟨_,p,G⟩:=World.cells?_some hc;have h5:=G 0 M;rw[Aj (by omega)]at h5;have h6:=O7 h5;rw[D1,D1]at h6;exact h6
     ·have hk:k<len:=by have:=(Af.1 B).1;omega
      have W:T[k]? =some (T[k]'(by omega)):=Aj _;obtain⟨v,V,k2,K⟩:=(Z k _ el W B).2;exact⟨v,V,k2,fun j u R=>by simpa using K j u R⟩
    ·have:cap≤9223372036854775807:=hm;omega
    ·obtain⟨i,A⟩:=List.getElem?_of_mem W;have hlt:=(Af.1 A).1;exact(Z i z (es[i]'(by omega)) A (Aj _)).1.2
  ·rename_i fs l;obtain⟨r',Q,h⟩:=Ab.1 h;split at h<;>(try cases h;done);rename_i d;cases h;obtain⟨U,n',_,_,p,L,hg⟩:=DataW.trod_struct l hd;refine⟨fun ha=>by simp[Hx,l]at ha, ?_⟩
   obtain⟨x,g,J,q,g3⟩:=VT (fun h3 h4=>(MH h3 h4).2) (cs:=cs) Q (fun f hf=>by
    obtain⟨i,hi⟩:=List.getElem?_of_mem hf;have I:=hg i f (by simpa using hi);have A:=(Af.1 hi).1;rw[Aj (show i<U.length by rw[L];simpa using A)]at I
    exact⟨_,_,I⟩)
   have hl2:=EP d J;have O:=q.length;have F:(cs.take g.length)=cs:=List.take_of_length_le (by omega);rw[List.drop_zero,F]at q;exact⟨x,g,J,q,g3⟩
  ·rename_i m e l;obtain⟨r',Q,h⟩:=Ab.1 h;split at h<;>(try cases h;done);rename_i d;cases h;obtain⟨U,n',_,_,p,L,hg⟩:=DataW.trod_array l hd;refine⟨fun ha=>by simp[Hx,l]at ha, ?_⟩
   obtain⟨x,g,J,q,g3⟩:=VS (w:=w) d.1 (cs:=cs) (m:=m) (j:=0) (fun i _ hi=>by
    have I:=hg i (by omega);rw[Aj (show i<U.length by omega)]at I
    exact(MH Q I).2)
   have hl2:=EP d.2 J;have O:=q.length;simp only[Nat.zero_mul,List.drop_zero,List.length_take]at O q;have F:(cs.take (m*P.cellsOf e))=cs:=List.take_of_length_le (by omega);rw[F]at q;exact⟨x,g,J,q,g3⟩
  ·cases h
def NJ(P:Program)(n:Nat)(t:TypeId):Option Ty:=(IL P n t).bind fun r=>(KJ P t r).bind fun te=>if te.val=true then some te else none
theorem VU{n:Nat}{t:TypeId}{te:Ty}{r:Reach}{O:Nat}{v:Value}{d:DataW H}{p:List MemPlace}(b:NJ P n t=some te)(i:Value.okWide P w r O t v)(hd:DataW.Trod enc P w base spare held t v d p):
  ∃(x:D te) (c:CV),Can te x [c]/\RelC w noM c v/\InR te x:=by
 unfold NJ at b;obtain⟨A,J,b⟩:=Ab.1 b;obtain⟨y,f,b⟩:=Ab.1 b;split at b<;>(try cases b;done);cases b;obtain⟨u,hd⟩:=hd;obtain⟨M,x,N,L,K,g3⟩:=MH J hd;obtain⟨z,c,s,k,k2,m,B⟩:=VM f M L K g3;refine⟨z,c,k, ?_,B⟩;unfold KJ at f;split at f
 ·rename_i g
  have j:∃cs,v=.agg cs:=by
   unfold Hx at g;split at g<;>(try cases g;done)
   all_goals
    rename_i b;simp only[Value.okWide,b]at i;obtain⟨cs,h,_⟩:=i;exact⟨cs,h⟩
  obtain⟨cs,rfl⟩:=j;have o:te=.agg A:=by cases f;rfl
  subst o;unfold Can at k;obtain⟨l,e,_⟩:=k;cases e;unfold RelC at k2⊢;obtain⟨vs,e,q⟩:=k2;subst e;refine⟨vs, ?_,q⟩;have:vs=cs.toList:=by simpa[Value.cells]using m
  rw[this]
 ·rename_i g;split at f<;>(try cases f;done);split at f<;>(try cases f;done);rename_i C;cases f;have e:=PZ k2 (fun cs e=>by have:=GD C k;rw[e]at this;cases this);rw[e]at m
  have q:v.cells= #[s]:=by
   apply Array.toList_inj.1;rw[<-m]
  have:v=s:=by
   cases v with
   |agg cs=>
    exfalso;unfold Hx at g;unfold Value.okWide at i;split at i
    all_goals first
     |(rename_i I;rw[I]at g;exact g rfl)
     |(rename_i G F
       revert i;simp only[Cell.okWide,Cell.ok]
       split<;>simp_all)
   |_=>simpa[Value.cells]using q
  rw[this];exact k2
def Ow(P:Program)(n:Nat):List TypeId->Option Ty
 | []=>some .nil
 | [t]=>(NJ P n t).map .one
 |t::u::ts=>(NJ P n t).bind fun te=>(Ow P n (u::ts)).map fun r=>.cons te r
theorem VR{n:Nat}{r:Reach}{M:Nat}:∀{d:List TypeId} {a:Ty} {vs:List Value} {f:List (DataW H)} {e:List MemPlace},Ow P n d=some a->(∀(j:Nat) t v,d[j]? =some t->vs[j]? =some v->Value.okWide P w r M t v)->DataW.TrodAll enc P w base spare held d vs f e->
  ∃(x:D a) (l:List CV),Can a x l/\RelL w noM l vs/\InR a x
 | [],a,vs,f,e,b,_,h=>by
  cases b;obtain⟨rfl,rfl,rfl⟩:=trodAll_nil h;exact⟨(),[],rfl,RelL.nil,trivial⟩
 | [t],a,vs,f,e,b,hv,h=>by
  obtain⟨te,k,rfl⟩:=Aa.1 b;obtain⟨i,g,L,s,C,q0,rfl,rfl,rfl,m,r0⟩:=trodAll_cons h;obtain⟨rfl,rfl,rfl⟩:=trodAll_nil r0;obtain⟨x,c,p,o,g3⟩:=VU k (hv 0 t i rfl rfl) m;exact⟨x,[c],⟨c,rfl,p⟩,RelL.cons o RelL.nil,g3⟩
 |t::u::d,a,vs,f,e,b,hv,h=>by
  obtain⟨te,k,b⟩:=Ab.1 b;obtain⟨q,K,rfl⟩:=Aa.1 b;obtain⟨i,g,L,s,C,q0,rfl,rfl,rfl,m,r0⟩:=trodAll_cons h;obtain⟨x,c,p,o,g3⟩:=VU k (hv 0 t i rfl rfl) m;obtain⟨y,l,G,k2,F⟩:=VR K (fun j B A J I=>hv (j+1) B A (by simpa using J) (by simpa using I)) r0;exact⟨(x,y),c::l,⟨c,l,rfl,p,G⟩,RelL.cons o k2,g3,F⟩
end
theorem X6{H:Type}{enc:TypeId×Value->H}{P:Program}{w:World}{base:Nat}{spare:Nat->Bool}{held:Bool}:∀{c:List TypeId} {vs:List Value} {b:List (DataW H)} {d:List MemPlace},DataW.TrodAll enc P w base spare held c vs b d->b.length=c.length
 | [],vs,b,d,h=>by
  obtain⟨rfl,rfl,rfl⟩:=trodAll_nil h;rfl
 |t::c,vs,b,d,h=>by
  obtain⟨g,e,k,f,i,q0,rfl,rfl,rfl,j,r0⟩:=trodAll_cons h;simp[X6 r0]
theorem row_contract{P:Program}{G:Nat->List CV}{f:FuncId}{fn:Func}{s:ChangeSpec}{tb:TypeId}{a:Ty}(n:Nat)(laidOut:laidOutB P=true)(S:Ow P n fn.params.toList=some a)(L:(fn.params.toList.all fun t=>P.readableRec t&&decide (t<P.types.size))=true)
  (c:fn.resultTypes= #[tb]) (k:P.underlying tb=some .bool) (m:s.vars= []) (K:∀(H:Type) (b:List (DataW H)),b.length=fn.params.size->(s.fn H b).results= [.lit (.bool true)]/\(s.fn H b).args=b/\(s.fn H b).vars= [])
  (d:∀(x:D a) (l:List CV),Can a x l->InR a x->CallsTo P G f l (.val (.bool true)))
  (H:Type) (enc:TypeId×Value->H) (W:World) (base:Nat) (args:Array Value) (b gs:List (DataW H)) (before:List MemPlace)
  (i:∀(j:Nat) t v,fn.params[j]? =some t->args[j]? =some v->Value.okWide P W .any base t v)
  (F:DataW.Whole enc P fn.params.toList s.vars false W args.toList b gs before) (R:GOk G W noM):
  Calls P f args W fun e J=>∃v,e=.returned v/\s.post enc P fn false true false false W args v J:=by
 have y:=F;obtain⟨p,q,B,I,rfl,N,M⟩:=F;have g:DataW.TrodAll enc P W 0 (fun _=>true) true fn.params.toList args.toList b p:=B;rw[m]at I;obtain⟨rfl,rfl⟩:=trodVars_none I;obtain⟨x,l,Y,V,g3⟩:=VR (base:=0) S (fun j t v U T=>i j t v (by simpa using U) (by simpa using T)) g;have u:b.length=fn.params.size:=by rw[X6 g];simp
 obtain⟨e1,e2,Z⟩:=K H b u;have Q:=d x l Y g3 W noM args.toList (fun _ h=>h.elim) R V;refine Q.mono fun e J ⟨v,O,C,r⟩=> ?_;subst O;unfold Lc RelC at r;subst r;refine⟨_,rfl,Afa (pa:=p) (pv:= []) y (fun _ _ _=> ?_) (fun sp o=> ?_) (fun sp o=> ?_) rfl C ?_⟩
 ·rw[List.append_nil,e1,c];exact trodAll_cons_mk (shut_bool k _) trodAll_mk0
 ·rw[List.append_nil,e2];exact X5 laidOut C L (fun x A=>y.lt x (by simpa using A)) (fun x A=>o x (by simpa using A)) g
 ·rw[List.append_nil,Z,m];rfl
 ·exact ok_one c rfl (okWide_bool_mk k _)
end WB
