/-
  Own texts. No condition of their own.
-/
import Derived.Test.YtefbaepigpomaaaGreatDoorK6
import Derived.KernelRfl
import Derived.Lib.LaidTab
import Derived.Lib.ItoaNum
import Derived.Lib.TrimByte
import Derived.Lib.AppendIntMem
import Derived.Lib.Bytealg
import Derived.Lib.SlMapMerge
import Derived.Maps.Own
import Derived.StringKeys
noncomputable section
set_option linter.unusedVariables false
set_option linter.unusedSimpArgs false
open Go.IntKind (i64 u64 u8 u32)
namespace WB
open Go Go.RowKit
section
variable {X:TP} {E:ah}
theorem RJ{t:Ty}(d:bQ t=true):∀{b:List (D t)} {es:List CV},CanAll (fun x c=>Can t x [c]) b es->CD es=true
 | [],es,h=>by unfold CanAll at h;subst h;rfl
 |y::b,es,h=>by
  obtain⟨c,g,rfl,f,e⟩:=h;have:=Wz d f;simp only[CD,Bool.and_true]at this;simp[CD,this,RJ d e]
theorem Agi(hT:aG X E){Γ:TC}{msk:List Nat}{ρ:HS Γ}{st:St}(j:ae Γ ρ st){rd:Nat->Ob}(i:∀id,msk.contains id=false->rd id=st.ob id){d:Nat}{op:aa}{o:bK Γ}(h:QG X Γ msk d op=some o){b:o.B}(u:o.d.val ρ=some b):
  ∃st',AM E rd st (some d) op=some st'/\ae o.Γ' (o.up ρ b) st':=by
 cases op<;>(try cases h;done)
 case call f args=>
  simp only[QG]at h;split at h<;>(try cases h;done);rename_i a e size t fn s;split at h<;>(try cases h;done);rename_i T J;split at h<;>(try cases h;done);rename_i p D;split at h<;>(try cases h;done);rename_i g m;split at h<;>(try cases h;done);rename_i r;cases h;try dsimp only at u
  obtain⟨z,S,R⟩:=ab.comp_val u;obtain⟨y,Q,O⟩:=ab.map_val S;subst O;obtain⟨l,N,M,L⟩:=J0 j i (G:=E.G) (fl:=p.1) (q:=p.2) D Q;obtain⟨_,C⟩:=hT.nw f a e size t fn s;obtain⟨es,K,A⟩:=C _ l b (CA _ _ m M) R;have F:st.ob d=.none:=j.o d _ J
  have I:((args.all fun x=>bT (so E.G st.fr x))||(bh.new (.arr e size es)).memless)=true:=by
   cases c:p.1 with
   |true=>rw[L c];rfl
   |false=>
    rw[c]at r;simp only[Bool.false_or]at r;simp[bh.memless,RJ r A]
  refine⟨_, ?_,ae.newObjS j (k:=.own d) (ko:=.arr e size t) (x:=()) (y:=b) (v:=.osl d) ⟨es,rfl,A⟩ rfl⟩;simp only[AM,aa.cls,hT.ef f (.inr (by rw[s];rfl)),DG,N,Ap,List.append_nil,K,I,if_true,EM,B1,F,Option.getD_some,N7]
theorem Z5(S:BR X E){a:Ty}{Θ:TC}{r:Ty}{n:Nat}(R:Bc a=some n):∀{t:Ty} {F:D t->D a->HS Θ->Option (D r×HS Θ)} {x:D t} {y:D a} {θ d:HS Θ} {z:D r} {c:CV} {l:List CV} {H:Nat->Ob},JC X a Θ r t=some F->F x y θ=some (z,d)->Can t x [c]->Can a y l->ae Θ θ {fr:=fun _=>.undef,ob:=H}->
  r.val=true/\r.ok=true/\∃g b e,c=.fn g b/\E.ef g=some e/\e.T=AK Θ/\e.fn (l++b) H=some (enc r z,Bo Θ d):=by
 have one:∀{g:Nat} {j:Ty} {s:SigE} {h:D (BY a j).1->D s.a} {f:s.Θ=Θ} {o:s.r=r} {x:D j} {y:D a} {θ d:HS Θ} {z:D r} {b l:List CV} {H:Nat->Ob},X.TE g=some s->Bn (BY a j).1 s.a=some h->Ph s.fn f o (h ((BY a j).2 y x)) θ=some (z,d)->Can j x b->Can a y l->ae Θ θ {fr:=fun _=>.undef,ob:=H}->
   r.val=true/\r.ok=true/\∃e,E.ef g=some e/\e.T=AK Θ/\e.fn (l++b) H=some (enc r z,Bo Θ d):=by
  intro g j s h f o x y θ d z b l H q u k i m p;obtain⟨⟨Q,_⟩,O,e,N,M,L⟩:=S g s q;obtain⟨K,U,rs,fn⟩:=s;simp only at f o;subst f;subst o;exact⟨Q,O,e,N,M,L _ _ θ H z d (CA _ _ u (Is R m i)) p k⟩
 intro t
 induction t with
 |clo g j _=>
  intro F x y θ d z c l H h k i m p;simp only[JC]at h;split at h<;>(try cases h;done);rename_i s q;split at h<;>(try cases h;done);rename_i u A;split at h<;>(try cases h;done);rename_i f;split at h<;>(try cases h;done);rename_i o;cases h;unfold Can at i;obtain⟨b,e,i⟩:=i;cases e;obtain⟨J,I,e,G,C,B⟩:=one q A k i m p;exact⟨J,I,g,b,e,rfl,G,C,B⟩
 |falt g j l' _ ihl=>
  intro F x y θ d z c l H h k i m p;simp only[JC]at h;split at h<;>(try cases h;done);rename_i s V q v;split at h<;>(try cases h;done);rename_i u A;split at h<;>(try cases h;done);rename_i f;split at h<;>(try cases h;done);rename_i o;cases h
  cases x with
  |inl w=>
   unfold Can at i;obtain⟨b,e,i⟩:=i;cases e;obtain⟨J,I,e,G,C,B⟩:=one q A k i m p;exact⟨J,I,g,b,e,rfl,G,C,B⟩
  |inr w=>
   unfold Can at i;exact ihl v k i.2 m p
 |_=>intro F x y θ d z c l H h;cases h
theorem Mz(hT:aG X E)(hF:BR X E){Γ:TC}{ρ:HS Γ}{st:St}(O:ae Γ ρ st){op:aa}{q:dz Γ}(h:cm X Γ op=some q)(u:au q.Θ=true){y:D q.r}{b:HS q.Θ}(N:q.d.val ρ=some (y,b))(rd:Nat->Ob)(d:Option Nat):
  q.r.val=true/\q.r.ok=true/\AM E rd st d op=some ((CI (AK q.Θ) (Bo q.Θ b) st).set d (.c (enc q.r y))):=by
 have part:∀{Θ:TC} {f:HS Γ->HS Θ},au Θ=true->Cm Γ Θ=some f->ae Θ (f ρ) {fr:=fun _=>.undef,ob:=CS (AK Θ) st.ob}:=by
  intro Θ f u hf;have M:=CY hf O;simp only[au,Ag]at u;refine⟨fun i q W=> ?_,fun id q W=> ?_⟩
  ·have:=C0 u.2 (B0 W);obtain⟨k,f'⟩:=q;cases k<;>cases this
  ·have J:=C0 u.2 (B0 W);have af:(AK Θ).contains id=true:=by simpa using G4.2 (FO (B0 W))
   have r:=M.o id _ W;show RO Θ _ id q.1 _ (CS (AK Θ) st.ob id);unfold CS;rw[Ao af];obtain⟨k,f'⟩:=q;cases k<;>(try cases J;done)
   case box n=>
    obtain⟨cs,m,hl,hc⟩:=r;rw[m];refine⟨_,rfl,by simpa using hl,fun j q' hj V=> ?_⟩;obtain⟨sv,g1,g2⟩:=hc j q' hj V;refine⟨HF (AK Θ) sv,by rw[List.getElem?_map,g1];rfl, ?_⟩;simp only[c7,Ag,As,Az]at J;have A:=J.2 j hj;rw[B0 V]at A;obtain⟨k',f''⟩:=q';cases k'<;>(try cases A;done)
    case v t=>obtain⟨c,rfl,hc'⟩:=g2;exact⟨c,rfl,hc'⟩
    case own K=>
     have C:sv=.osl K:=g2;subst C;simp only[d5,Ag]at A;show HF (AK Θ) (.osl K)=.osl K;simp only[HF,SV.ref];rw[Ao A.1]
   case arr e size t=>obtain⟨es,m,hc⟩:=r;rw[m];exact⟨es,rfl,hc⟩
   case mob mt k v=>obtain⟨zc,ks,vs,m,hc⟩:=r;rw[m];exact⟨zc,ks,vs,rfl,hc⟩
   case buf e=>
    have m:st.ob id=.buf e (f' (f ρ)):=r;rw[m];rfl
 cases op<;>(try cases h;done)
 case call f args=>
  simp only[cm]at h;split at h<;>(try cases h;done);rename_i s hs;split at h<;>(try cases h;done);rename_i p g Y Z;split at h<;>(try cases h;done);rename_i k hk;cases h;try dsimp only at N u y b⊢
  obtain⟨z,M,h2⟩:=ab.comp_val N;obtain⟨x,B,h4⟩:=ab.map_val M;subst h4;obtain⟨l,h5,h6⟩:=JD (G:=E.G) O Y B;obtain⟨⟨U,_⟩,T,e,S,R,Q⟩:=hF f s hs;refine⟨U,T, ?_⟩;have h7:=Q _ l (g ρ) _ y b (CA _ _ hk h6) (part u Z) h2;simp only[AM,aa.cls,S,D6,h5,Ap,List.append_nil,R,h7]
 case callv f args=>
  simp only[cm]at h;split at h<;>(try cases h;done)
  ·rename_i g cc d' p hf Y;split at h<;>(try cases h;done);rename_i s hs;split at h<;>(try cases h;done);rename_i n k gθ hn hk Z;cases h;try dsimp only at N u y b⊢
   obtain⟨z,M,h2⟩:=ab.comp_val N;obtain⟨x,B,h4⟩:=ab.map_val M;obtain⟨B,L⟩:=ab.both_val B;subst h4;obtain⟨l,h5,h6⟩:=JD (G:=E.G) O Y B;obtain⟨c,m,C⟩:=AP (G:=E.G) hf O L;unfold Can at C;obtain⟨I,e3,C⟩:=C;cases e3;obtain⟨⟨U,_⟩,T,e,S,R,Q⟩:=hF g s hs;refine⟨U,T, ?_⟩;have h7:=Q _ (l++I) (gθ ρ) _ y b (CA _ _ hk (Is hn h6 C)) (part u Z) h2;simp only[AM,aa.cls,m,S,D6,h5,Ap,R,h7]
  ·rename_i g cc l' d' p hf Y;split at h<;>(try cases h;done);rename_i s hs;split at h<;>(try cases h;done);rename_i n gθ F hn Z hFF;cases h;try dsimp only at N u y b⊢
   obtain⟨z,M,h2⟩:=ab.comp_val N;obtain⟨x,B,h4⟩:=ab.map_val M;obtain⟨B,L⟩:=ab.both_val B;subst h4;obtain⟨l,h5,h6⟩:=JD (G:=E.G) O Y B;obtain⟨c,m,C⟩:=AP (G:=E.G) hf O L;obtain⟨U,T,g',I,e,rfl,S,R,Q⟩:=Z5 hF hn hFF h2 C h6 (part u Z);refine⟨U,T, ?_⟩;simp only[AM,aa.cls,m,S,D6,h5,Ap,R,Q]
theorem Ok{Γ Θ:TC}{ρ:HS Γ}{b:HS Θ}{st:St}(c:au Θ=true)(d:ae Γ ρ st):ae (Θ++Bv (AK Θ) Γ) (CK Θ b (BP (AK Θ) ρ)) (CI (AK Θ) (Bo Θ b) st):=
 d.turned c (Aa8 c b fun _=>.undef)
theorem Aat{Γ:TC}{op:aa}{q:dz Γ}(h:cm X Γ op=some q):Cm Γ q.Θ=some q.θ:=by
 cases op<;>(try cases h;done)
 case call f args=>
  simp only[cm]at h;split at h<;>(try cases h;done);split at h<;>(try cases h;done);rename_i p g c b;split at h<;>(try cases h;done);cases h;exact b
 case callv f args=>
  simp only[cm]at h;split at h<;>(try cases h;done)
  all_goals
   split at h<;>(try cases h;done);split at h<;>(try cases h;done)
  ·rename_i b;cases h;exact b
  ·rename_i b _;cases h;exact b
theorem Aas{Γ:TC}{op:aa}{q:dz Γ}(h:cm X Γ op=some q):∃f,X.TE f≠none:=by
 cases op<;>(try cases h;done)
 case call f args=>
  simp only[cm]at h;split at h<;>(try cases h;done);rename_i s b;exact⟨f,by rw[b];simp⟩
 case callv f args=>
  simp only[cm]at h;split at h<;>(try cases h;done)
  all_goals
   split at h<;>(try cases h;done);rename_i s b;exact⟨_,by rw[b];simp⟩
theorem WO(hT:aG X E)(L:BR X E){Γ:TC}{ρ:HS Γ}{st:St}(m:ae Γ ρ st)(rd:Nat->Ob){l:SL}{o:bK Γ}(h:HZ X Γ l=some o){b:o.B}(i:o.d.val ρ=some b):
  ∃st',Bz E rd l st=some st'/\ae o.Γ' (o.up ρ b) st':=by
 unfold HZ at h;split at h<;>(try cases h;done);rename_i e J;split at h<;>(try cases h;done);rename_i t;obtain⟨dst,op,guard⟩:=l;simp only at J h;split at h
 ·rename_i d;cases h;obtain⟨y,A⟩:=b;obtain⟨I,G,C⟩:=Mz hT L m J t i rd (some d);exact⟨_,by simp only[Bz];exact C,ae.set (Ok t m) ⟨_,rfl,Can.enc y I G⟩⟩
 ·cases h;obtain⟨y,A⟩:=b;obtain⟨I,G,C⟩:=Mz hT L m J t i rd none;exact⟨_,by simp only[Bz];exact C,Ok t m⟩
 ·rename_i g p d;have D:=m.unturned t (CY (Aat J) m);split at h<;>(try cases h;done)
  ·rename_i f O;cases h;obtain⟨c,K,u⟩:=m.s g _ O;unfold Can at u;cases u;by_cases j:f ρ=p
   ·have:∃y,e.d.val ρ=some y/\b=some y:=by
     cases q:e.d with
     |tot k=>rw[q]at i;simp only[gD,ab.val,j,if_true,Ac]at i;exact⟨_,rfl,i.symm⟩
     |par k=>
      rw[q]at i;simp only[gD,ab.val,j,if_true]at i;obtain⟨y,S,R⟩:=Aa.1 i;exact⟨y,S,R.symm⟩
    obtain⟨⟨y,A⟩,M,rfl⟩:=this;obtain⟨I,G,C⟩:=Mz hT L m J t M rd (some d);exact⟨_,by simp only[Bz,K,j,if_true];exact C,ae.set (k:=.opt (.v e.r)) (x:=some y) (Ok t m) ⟨_,rfl,Can.enc y I G⟩⟩
   ·have:b=none:=by
     cases q:e.d with
     |tot k=>rw[q]at i;simp only[gD,ab.val,j,if_false,Ac]at i;exact i.symm
     |par k=>rw[q]at i;simp only[gD,ab.val,j,if_false,Ac]at i;exact i.symm
    subst this;exact⟨st.set (some d) Bs,by simp only[Bz,K,j,if_false],ae.set D (k:=.opt (.v e.r)) (x:=none) rfl⟩
  ·rename_i f O;cases h;have F:=m.s g _ O;unfold RS at F;by_cases j:f ρ=some p
   ·simp only[j]at F;obtain⟨c,K,u⟩:=F;unfold Can at u;cases u
    have:∃y,e.d.val ρ=some y/\b=some y:=by
     cases q:e.d with
     |tot k=>rw[q]at i;simp only[gO,ab.val,j,if_true,Ac]at i;exact⟨_,rfl,i.symm⟩
     |par k=>
      rw[q]at i;simp only[gO,ab.val,j,if_true]at i;obtain⟨y,S,R⟩:=Aa.1 i;exact⟨y,S,R.symm⟩
    obtain⟨⟨y,A⟩,M,rfl⟩:=this;obtain⟨I,G,C⟩:=Mz hT L m J t M rd (some d);exact⟨_,by simp only[Bz,K,if_true];exact C,ae.set (k:=.opt (.v e.r)) (x:=some y) (Ok t m) ⟨_,rfl,Can.enc y I G⟩⟩
   ·have:b=none:=by
     cases q:e.d with
     |tot k=>rw[q]at i;simp only[gO,ab.val,j,if_false,Ac]at i;exact i.symm
     |par k=>rw[q]at i;simp only[gO,ab.val,j,if_false,Ac]at i;exact i.symm
    subst this
    cases Q:f ρ with
    |none=>
     simp only[Q]at F;exact⟨st.set (some d) Bs,by simp only[Bz,F,Bs],ae.set D (k:=.opt (.v e.r)) (x:=none) rfl⟩
    |some b'=>
     simp only[Q]at F;obtain⟨c,K,u⟩:=F;unfold Can at u;cases u;have N:b'≠p:=fun e=>j (by rw[Q,e]);exact⟨st.set (some d) Bs,by simp only[Bz,K,N,if_false],ae.set D (k:=.opt (.v e.r)) (x:=none) rfl⟩
 ·cases h
theorem WQ(hT:aG X E){Γ:TC}{msk:List Nat}{ρ:HS Γ}{st:St}(m:ae Γ ρ st){rd:Nat->Ob}{l:SL}(K:∀id,(af l.op msk).contains id=false->rd id=st.ob id){o:bK Γ}(h:Ia X Γ msk l=some o){b:o.B}(i:o.d.val ρ=some b):
  ∃st',Bz E rd l st=some st'/\ae o.Γ' (o.up ρ b) st':=by
 obtain⟨dst,op,guard⟩:=l
 cases guard with
 |none=>
  simp only[Ia]at h;split at h
  ·rename_i A;split at h<;>(try cases h;done);rename_i d;split at h<;>(try cases h;done);rename_i f J;obtain⟨v,ob,j,p⟩:=Agl m h i;have O:st.ob d=.none:=m.o d _ J;rw[<-hT.G]at j;exact⟨_,by simp[Bz,AM,A,j,B1,O],p⟩
  ·rename_i A;obtain⟨st',j,p⟩:=Agk m h i;rw[<-hT.G]at j;exact⟨st',by simp only[Bz,AM,A,D4,j],p⟩
  ·obtain⟨st',j,p⟩:=Agj hT m h i rd;exact⟨st',j,p⟩
  ·split at h
   ·rename_i q I;split at h
    ·rename_i d;cases h;obtain⟨sv,j,p⟩:=Oc hT m K I i (some d);exact⟨_,by simp only[Bz,j],ae.set m p⟩
    ·cases h;obtain⟨sv,j,p⟩:=Oc hT m K I i none;exact⟨st,by simp only[Bz,j,St.set],m⟩
   ·split at h<;>(try cases h;done);rename_i d;obtain⟨st',j,p⟩:=Agi hT m K h i;exact⟨st',by simp only[Bz,j],p⟩
 |some g=>
  obtain⟨g,t⟩:=g;simp only[Ia]at h;split at h<;>(try cases h;done);rename_i q d I;split at h<;>(try cases h;done)
  ·rename_i f J;cases h;obtain⟨c,F,C⟩:=m.s g _ J;unfold Can at C;cases C;by_cases r:f ρ=t
   ·have:∃y,q.2.val ρ=some y/\b=some y:=by
     cases u:q.2 with
     |tot k=>rw[u]at i;simp only[gD,ab.val,r,if_true,Ac]at i;exact⟨_,rfl,i.symm⟩
     |par k=>
      rw[u]at i;simp only[gD,ab.val,r,if_true]at i;obtain⟨y,j,p⟩:=Aa.1 i;exact⟨y,j,p.symm⟩
    obtain⟨y,L,rfl⟩:=this;obtain⟨sv,j,p⟩:=Oc hT m K I L (some d);refine⟨_,by simp only[Bz,F,r,if_true];exact j,ae.set m ?_⟩;exact p
   ·have:b=none:=by
     cases u:q.2 with
     |tot k=>rw[u]at i;simp only[gD,ab.val,r,if_false,Ac]at i;exact i.symm
     |par k=>rw[u]at i;simp only[gD,ab.val,r,if_false,Ac]at i;exact i.symm
    subst this;exact⟨st.set (some d) Bs,by simp only[Bz,F,r,if_false],ae.set m (k:=.opt q.1) (x:=none) rfl⟩
  ·rename_i f J;cases h;have D:=m.s g _ J;unfold RS at D;by_cases r:f ρ=some t
   ·simp only[r]at D;obtain⟨c,F,C⟩:=D;unfold Can at C;cases C
    have:∃y,q.2.val ρ=some y/\b=some y:=by
     cases u:q.2 with
     |tot k=>rw[u]at i;simp only[gO,ab.val,r,if_true,Ac]at i;exact⟨_,rfl,i.symm⟩
     |par k=>
      rw[u]at i;simp only[gO,ab.val,r,if_true]at i;obtain⟨y,j,p⟩:=Aa.1 i;exact⟨y,j,p.symm⟩
    obtain⟨y,L,rfl⟩:=this;obtain⟨sv,j,p⟩:=Oc hT m K I L (some d);refine⟨_,by simp only[Bz,F,if_true];exact j,ae.set m ?_⟩;exact p
   ·have:b=none:=by
     cases u:q.2 with
     |tot k=>rw[u]at i;simp only[gO,ab.val,r,if_false,Ac]at i;exact i.symm
     |par k=>rw[u]at i;simp only[gO,ab.val,r,if_false,Ac]at i;exact i.symm
    subst this
    cases N:f ρ with
    |none=>
     simp only[N]at D;exact⟨st.set (some d) Bs,by simp only[Bz,D,Bs],ae.set m (k:=.opt q.1) (x:=none) rfl⟩
    |some b'=>
     simp only[N]at D;obtain⟨c,F,C⟩:=D;unfold Can at C;cases C;have M:b'≠t:=fun e=>r (by rw[N,e]);exact⟨st.set (some d) Bs,by simp only[Bz,F,M,if_false],ae.set m (k:=.opt q.1) (x:=none) rfl⟩
theorem KF(hT:aG X E)(r:BR X E){Γ:TC}{msk:List Nat}{ρ:HS Γ}{st:St}(k:ae Γ ρ st){D:Option (List Nat)}(i:D=none\/∀f,X.TE f=none){l:SL}(s:∀id,(af l.op msk).contains id=false->AN (D.map (af l.op)) st.ob id=st.ob id){o:bK Γ}(h:cC X Γ msk l=some o){b:o.B}(m:o.d.val ρ=some b):
  ∃st',A6 E D l st=some st'/\ae o.Γ' (o.up ρ b) st':=by
 cases c:HZ X Γ l with
 |some oe=>
  have g:(match HZ X Γ l with
   |some o=>some o
   |none=>Ia X Γ msk l)=some o:=h
  rw[c]at g;cases g
  have j:D=none:=by
   rcases i with h1|h1
   ·exact h1
   ·unfold HZ at c;split at c<;>(try cases c;done);rename_i e q;obtain⟨f,p⟩:=Aas q;exact absurd (h1 f) p
  subst j;exact WO hT r k _ c m
 |none=>
  have g:Ia X Γ msk l=some o:=by
   unfold cC at h;rw[c]at h;exact h
  exact WQ (hT.at D) k s g m
theorem JQ{X:TP}{E:ah}(hT:aG X E)(j:BR X E){A:Type}{msk:List Nat}{D:Option (List Nat)}(e:D=none\/∀f,X.TE f=none)(k:∀(op:aa) (ob:Nat->Ob) id,(af op msk).contains id=false->AN (D.map (af op)) ob id=ob id):∀{ls:List SL} {Γ:TC} {q:bx A Γ} {ρ:HS Γ} {st:St} {K:HS q.Γ'->Option A} {r:A},
  I4 A X msk ls Γ=some q->ae Γ ρ st->q.run ρ K=some r->∃st',Cn E D ls st=some st'/\∃c,ae q.Γ' c st'/\K c=some r
 | [],Γ,q,ρ,st,K,r,h,hr,hk=>by
  simp only[I4,Ac]at h;subst h;exact⟨st,rfl,ρ,hr,hk⟩
 |l::ls,Γ,q,ρ,st,K,r,h,hr,hk=>by
  simp only[I4]at h;split at h<;>(try cases h;done);rename_i o t;split at h<;>(try cases h;done);rename_i p s;cases h;have i:o.d.app ρ (fun b=>p.run (o.up ρ b) K)=some r:=hk;obtain⟨b,C,B⟩:=ab.app_some i;obtain⟨m,y,x⟩:=KF hT j hr e (k l.op st.ob) t C;obtain⟨g,v,u⟩:=JQ hT j e k s x B;exact⟨g,by simp[Cn,y,v],u⟩
theorem Ms(hT:aG X E)(k:BR X E){A:Type}{draw:Bool}{D:List Nat}{ls:List SL}{Γ:TC}{q:bx A Γ}{ρ:HS Γ}{st:St}{K:HS q.Γ'->Option A}{r:A}(h:Gr A X draw D ls Γ=some q)(f:ae Γ ρ st)(g:q.run ρ K=some r):
  ∃st',Co E draw D ls st=some st'/\∃e,ae q.Γ' e st'/\K e=some r:=by
 cases draw with
 |true=>
  cases D with
  |nil=>
   simp only[Gr,cond_true]at h;obtain⟨st',c,b⟩:=JQ hT.noE (BR.noE X E) (D:=some []) (.inr fun _=>rfl) (fun op ob id _=>by simp[AN,af]) h f g;exact⟨st',by simpa[Co]using c,b⟩
  |cons d ds=>
   simp only[Gr,cond_true,if_true]at h;split at h<;>(try cases h;done);rename_i p i;cases h
   obtain⟨st',c,b⟩:=JQ hT.noE (BR.noE X E) (D:=some (d::ds)) (.inr fun _=>rfl) (fun op ob id j=>by
    simp only[Aq,AN,j,Ah,if_false]) i (f.kill (d::ds)) g
   exact⟨st',by simpa[Co]using c,b⟩
 |false=>
  cases D with
  |nil=>
   simp only[Gr,cond_false]at h;obtain⟨st',c,b⟩:=JQ hT k (D:=none) (.inl rfl) (fun op ob id _=>rfl) h f g;exact⟨st',by simpa[Co]using c,b⟩
  |cons d ds=>
   simp only[Gr,cond_false,Ah,if_false]at h;split at h<;>(try cases h;done);rename_i p i;cases h;obtain⟨st',c,b⟩:=JQ hT k (D:=none) (.inl rfl) (fun op ob id j=>rfl) i (f.kill (d::ds)) g;exact⟨st',by simpa[Co]using c,b⟩
theorem Agf{Γ:TC}{ρ:HS Γ}{st s:St}{E:ah}{W:List (Nat×Nat)}{l:SL}(p:ae Γ ρ st)(h:eA Γ W l=true)(C:A6 E none l st=some s):bq E W l st=some s:=by
 unfold eA at h;split at h
 ·rename_i k A;unfold bq;unfold YF at h;split at h<;>(try cases h;done);rename_i id o q f;have B:=p.s k _ f;have j:st.fr k=.ptr id o:=B;simp only[A,j,h,if_true];exact C
 ·rename_i A
  have D:l.op.simple=true:=by
   unfold WP at h;split at h
   ·rename_i e;rw[e];rfl
   ·cases h
   ·exact h
  refine Abj A D (fun sz x e id o F=> ?_) C;rw[e]at h
  cases x with
  |k v=>cases h
  |g i=>cases h
  |t k=>
   have u:Qs Γ W sz k=true:=h;have d:deref st.ob (st.fr k)=.ptr id o:=F;unfold Qs at u;split at u<;>(try cases u;done)
   ·rename_i y o' q f;have B:=p.s k _ f;have j:st.fr k=.ptr y o':=B;rw[j]at d;cases d;exact u
   ·rename_i N q f;obtain⟨c,j,m⟩:=p.s k _ f;unfold Can at m;cases m;rw[j]at d;unfold deref at d;simp only at d;split at d
    ·split at d
     ·cases d;rw[Nat.zero_add];exact u
     ·cases d
    ·cases d
   ·rename_i r q f;obtain⟨c,j,m⟩:=p.s k _ f;unfold Can at m;obtain⟨l0,m,_⟩:=m;cases m;rw[j]at d;cases d
   ·rename_i ex r q f;obtain⟨cs,rest,j,_⟩:=p.s k _ f;rw[j]at d;cases d
   ·rename_i a b c q f;have j:st.fr k=.eptr a (q ρ) b c:=p.s k _ f;rw[j]at d;cases d
theorem Ps{X:TP}{E:ah}(hT:aG X E)(j:BR X E){A:Type}{W:List (Nat×Nat)}:∀{ls:List SL} {Γ:TC} {q:bx A Γ} {ρ:HS Γ} {st:St} {K:HS q.Γ'->Option A} {r:A},
  I6 A X W ls Γ=some q->ae Γ ρ st->q.run ρ K=some r->∃st',ci E W ls st=some st'/\∃c,ae q.Γ' c st'/\K c=some r
 | [],Γ,q,ρ,st,K,r,h,hr,hk=>by
  simp only[I6,Ac]at h;subst h;exact⟨st,rfl,ρ,hr,hk⟩
 |l::ls,Γ,q,ρ,st,K,r,h,hr,hk=>by
  simp only[I6]at h;split at h<;>(try cases h;done);rename_i f;split at h<;>(try cases h;done);rename_i o i;split at h<;>(try cases h;done);rename_i p g;cases h;have e:o.d.app ρ (fun b=>p.run (o.up ρ b) K)=some r:=hk;obtain⟨b,x,v⟩:=ab.app_some e;obtain⟨s,u,t⟩:=KF hT.noE (BR.noE X E) hr (D:=none) (.inl rfl) (fun id y=>rfl) i x;obtain⟨st',m,k⟩:=Ps hT j g t v;refine⟨st', ?_,k⟩;simp only[ci,Agf hr f u,Ap];exact m
theorem Mq(hT:aG X E)(k:BR X E){A:Type}:∀{gs:List GL} {Γ:TC} {q:bx A Γ} {ρ:HS Γ} {st:St} {K:HS q.Γ'->Option A} {r:A} {Q:St->Prop},
  GP A X gs Γ=some q->ae Γ ρ st->q.run ρ K=some r->(∀st' c,ae q.Γ' c st'->K c=some r->Q st')->EJ (DA X.Θ) E (Fw gs) Q st
 | [],Γ,q,ρ,st,K,r,Q,h,hr,hk,hQ=>by
  simp only[GP,Ac]at h;subst h;exact⟨st,AB.refl st,hQ _ _ hr hk⟩
 | .l l::gs,Γ,q,ρ,st,K,r,Q,h,hr,hk,hQ=>by
  simp only[GP]at h;split at h<;>(try cases h;done);rename_i o t;split at h<;>(try cases h;done);rename_i p i;cases h;have j:o.d.app ρ (fun b=>p.run (o.up ρ b) K)=some r:=hk;obtain⟨b,s,m⟩:=ab.app_some j;obtain⟨e,v,u⟩:=KF hT k hr (D:=none) (.inl rfl) (fun _ _=>rfl) t s;exact⟨st,AB.refl st,e,v,Mq (gs:=gs) hT k i u m hQ⟩
 | .g g::gs,Γ,q,ρ,st,K,r,Q,h,hr,hk,hQ=>by
  simp only[GP]at h;split at h<;>(try cases h;done);rename_i p i;split at h<;>(try cases h;done);rename_i x f;cases h;obtain⟨st',s,m⟩:=Kd i hr;exact Ahn s (Mq (gs:=gs) hT k f m hk hQ)
theorem UB(hT:aG X E)(g:BR X E){A:Type}{D:List Nat}{gs:List GL}{Γ:TC}{q:bx A Γ}{ρ:HS Γ}{st:St}{K:HS q.Γ'->Option A}{r:A}{Q:Ex->St->Prop}(h:JR A X D gs Γ=some q)(c:ae Γ ρ st)(e:q.run ρ K=some r)
  (f:∀st' b,ae q.Γ' b st'->K b=some r->Q .normal st'):CN (DA X.Θ) E (.reg false D (Fw gs)) Q st:=by
 cases D with
 |nil=>
  simp only[JR]at h;exact⟨st,AB.refl st,Mq hT g h c e f⟩
 |cons d ds=>
  simp only[JR]at h;split at h<;>(try cases h;done);rename_i p i;cases h;exact⟨st,AB.refl st,Mq hT g i (c.kill (d::ds)) e f⟩
theorem Ahm{R:St->St->Prop}(e:∀{a b c:St},R a b->R b c->R a c){E:ah}{D:Option (List Nat)}{ls:List RL}{Q:St->Prop}{st s:St}(h:R st s)(i:DP R E D ls Q s):DP R E D ls Q st:=by
 cases ls with
 |nil=>obtain⟨s',g,f⟩:=i;exact⟨s',e h g,f⟩
 |cons l ls=>
  cases l with
  |l l=>obtain⟨s',g,f⟩:=i;exact⟨s',e h g,f⟩
  |sk d=>obtain⟨s',g,f⟩:=i;exact⟨s',e h g,f⟩
theorem Mr{X:TP}{E:ah}(hT:aG X E)(i:BR X E){A:Type}{R:St->St->Prop}(c:∀s,R s s){msk:List Nat}{D:Option (List Nat)}(e:D=none\/∀f,X.TE f=none)(j:∀(op:aa) (ob:Nat->Ob) id,(af op msk).contains id=false->AN (D.map (af op)) ob id=ob id):∀{ls:List RL} {Γ:TC} {q:bx A Γ} {ρ:HS Γ} {st:St} {K:HS q.Γ'->Option A} {r:A},
  GQ A X msk ls Γ=some q->ae Γ ρ st->q.run ρ K=some r->DP R E D ls (fun st'=>∃g,ae q.Γ' g st'/\K g=some r) st
 | [],Γ,q,ρ,st,K,r,h,hr,hk=>by
  simp only[GQ,Ac]at h;subst h;exact⟨st,c st,ρ,hr,hk⟩
 | .l l::ls,Γ,q,ρ,st,K,r,h,hr,hk=>by
  simp only[GQ]at h;split at h<;>(try cases h;done);rename_i o y;split at h<;>(try cases h;done);rename_i p u;cases h;have v:o.d.app ρ (fun b=>p.run (o.up ρ b) K)=some r:=hk;obtain⟨b,G,F⟩:=ab.app_some v;obtain⟨m,C,B⟩:=KF hT i hr e (j l.op st.ob) y G;have t:=Mr (R:=R) (ls:=ls) (q:=p) (K:=K) hT i c e j u B F;exact⟨st,c st,m,C,t⟩
 | .sk (some d)::ls,Γ,q,ρ,st,K,r,h,hr,hk=>by
  simp only[GQ]at h;split at h<;>(try cases h;done);rename_i p u;cases h;have t:=Mr (R:=R) (ls:=ls) (q:=p) (K:=K) hT i c e j u (ae.set hr (d:=d) (k:=.undef) (x:=()) (sv:=Bs) trivial) hk;exact⟨st,c st,t⟩
 | .sk none::ls,Γ,q,ρ,st,K,r,h,hr,hk=>⟨st,c st,Mr hT i c e j (ls:=ls) h hr hk⟩
theorem UA{X:TP}{E:ah}(hT:aG X E)(W:BR X E){A:Type}{R:St->St->Prop}(v:∀s,R s s)(V:∀{a b c:St},R a b->R b c->R a c)(G:∀{st s:St},R st s->∀(i:Nat) (c:CV),PI c=true->st.fr i=.c c->s.fr i=.c c)
  {draw:Bool} (hG:draw=false->∀{st s:St},AB (DA X.Θ) st s->R st s) {msk:List Nat} {D:Option (List Nat)} (I:D=none\/∀f,X.TE f=none) (Y:∀(op:aa) (ob:Nat->Ob) id,(af op msk).contains id=false->AN (D.map (af op)) ob id=ob id):∀{h:HT} {ls:List RL} {Γ j:TC} {q:HS Γ->(HS j->Option A)->Option A} {ρ:HS Γ} {st:St} {K:HS j->Option A} {r:A},
  Dr A X draw msk h ls Γ j=some q->ae Γ ρ st->q ρ K=some r->DP R E D ls (fun st'=>∃y,ae j y st'/\K y=some r) st:=by
 intro h
 induction h with
 |nil=>
  intro ls Γ j q ρ st K r h u m;simp only[Dr]at h;split at h<;>(try cases h;done);rename_i p B;split at h<;>(try cases h;done);rename_i f T;cases h;have:=Mr hT W v I Y B u m;refine Rb (fun s ⟨y,L,J⟩=>⟨_,CY T L,J⟩) this
 |n k ih=>
  intro ls Γ j q ρ st K r h u m
  match ls,h with
  | .l l::ls,h=>
   simp only[Dr]at h;split at h<;>(try cases h;done);rename_i o ho;split at h<;>(try cases h;done);rename_i p B;cases h;have Q:o.d.app ρ (fun b=>p (o.up ρ b) K)=some r:=m;obtain⟨b,L,J⟩:=ab.app_some Q;obtain⟨N,h3,h4⟩:=KF hT W u I (Y l.op st.ob) ho L;exact⟨st,v st,N,h3,ih B h4 J⟩
  | .sk (some d)::ls,h=>
   simp only[Dr]at h;split at h<;>(try cases h;done);rename_i p B;cases h;exact⟨st,v st,ih B (ae.set u (d:=d) (k:=.undef) (x:=()) (sv:=Bs) trivial) m⟩
  | .sk none::ls,h=>
   simp only[Dr]at h;exact⟨st,v st,ih h u m⟩
  | [],h=>simp only[Dr]at h;cases h
 |g g k ih=>
  intro ls Γ j q ρ st K r h u m;simp only[Dr]at h;split at h<;>(try cases h;done);rename_i hdr;split at h<;>(try cases h;done);rename_i p B;split at h<;>(try cases h;done);rename_i p' O;cases h;obtain⟨st',L,J⟩:=Kd B u;exact Ahm (R:=R) V (hG rfl L) (ih O J m)
 |sp g t f iht ihf=>
  intro ls Γ j q ρ st K r h u m;simp only[Dr]at h;split at h<;>(try cases h;done);rename_i F;split at h<;>(try cases h;done);rename_i e dt df he ht T;cases h;obtain⟨c,C,Z⟩:=u.s g _ he;unfold Can at Z;cases Z;replace m:(if e ρ=true then dt ρ K else df ρ K)=some r:=m;by_cases M:e ρ=true
  ·rw[Ao M]at m;replace C:st.fr g=.c (.bool true):=M▸C;exact KX G F C (fun _ S=>by cases S) (iht ht u m)
  ·rw[An M]at m;have U:e ρ=false:=by simpa using M
   replace C:st.fr g=.c (.bool false):=U▸C;exact KX G F C (fun _ S=>by cases S) (ihf T u m)
theorem Aaj(hT:aG X E)(y:BR X E){A:Type}{draw:Bool}{D:List Nat}{ls:List SL}{h:HT}{Γ f:TC}{q:HS Γ->(HS f->Option A)->Option A}{ρ:HS Γ}{st:St}{K:HS f->Option A}{r:A}{Q:Ex->St->Prop}(g:I7 A X draw D ls h Γ f=some q)(i:ae Γ ρ st)(j:q ρ K=some r)
  (v:∀st' c,ae f c st'->K c=some r->Q .normal st'):CN (DA X.Θ) E (.reg draw D ls) Q st:=by
 have av:∀{st:St},(∃st',Cn E (some D) ls st=some st'/\∃c,ae f c st'/\K c=some r)->∃st',Cn E (some D) ls st=some st'/\Q .normal st':=fun⟨st',m,c,k,h3⟩=>⟨st',m,v st' c k h3⟩
 cases draw with
 |true=>
  have key:∀{msk:List Nat} {Γ:TC} {ρ:HS Γ} {st:St} {q:HS Γ->(HS f->Option A)->Option A},msk=D->Dr A X.noE true msk h (ls.map .l) Γ f=some q->ae Γ ρ st->q ρ K=some r->∃st',Cn E (some D) ls st=some st'/\Q .normal st':=by
   intro msk Γ ρ st q x o i j;subst x;refine av (XA (UA hT.noE (BR.noE X E) (R:=Eq) (fun _=>rfl) (fun a b=>a.trans b) (fun e=>by subst e;exact fun _ _ _ h=>h) (draw:=true) (fun u=>by cases u) (D:=some msk) (.inr fun _=>rfl) (fun op ob id u=> ?_) o i j));simp only[Aq,AN,u,Ah,if_false]
  cases D with
  |nil=>
   simp only[I7,cond_true]at g;obtain⟨st',m,k⟩:=key rfl g i j;exact⟨st,AB.refl st,st',by simpa[Co]using m,st',AB.refl st',k⟩
  |cons d ds=>
   simp only[I7,cond_true,if_true]at g;split at g<;>(try cases g;done);rename_i p t;cases g;obtain⟨st',m,k⟩:=key rfl t (i.kill (d::ds)) j;exact⟨st,AB.refl st,st',by simpa[Co]using m,st',AB.refl st',k⟩
 |false=>
  have key:∀{Γ:TC} {ρ:HS Γ} {st:St} {q:HS Γ->(HS f->Option A)->Option A},Dr A X false [] h (ls.map .l) Γ f=some q->ae Γ ρ st->q ρ K=some r->EJ (DA X.Θ) E ls (Q .normal) st:=by
   intro Γ ρ st q o i j;have:=UA hT y (R:=AB (DA X.Θ)) AB.refl (fun a b=>a.trans b) (fun e=>e.2.fix) (draw:=false) (fun _ _ _ h=>h) (D:=none) (.inl rfl) (fun op ob id _=>rfl) o i j;exact La (fun s ⟨c,m,k⟩=>v s c m k) (XB this)
  cases D with
  |nil=>
   simp only[I7,cond_false]at g;exact⟨st,AB.refl st,key g i j⟩
  |cons d ds=>
   simp only[I7,cond_false,Ah,if_false]at g;split at g<;>(try cases g;done);rename_i p t;cases g;exact⟨st,AB.refl st,key t (i.kill (d::ds)) j⟩
theorem Q5{st:St}{k:Nat}{b:Ob}(d:k<A9):ai {low st with ob:=ac (low st).ob k b} st={st with ob:=ac st.ob k b}/\low {st with ob:=ac st.ob k b}={low st with ob:=ac (low st).ob k b}:=by
 constructor
 ·simp only[ai,low,St.mk.injEq,true_and];funext i;simp only[Cc,C5];by_cases c:i=k
  ·subst c;rw[Ao rfl,An (by omega),Ao rfl]
  ·rw[An c,An c];split<;>rfl
 ·simp only[low,St.mk.injEq,true_and];funext i;simp only[Cc,C5];by_cases c:i=k
  ·subst c;rw[Ao rfl,Ao rfl,An (by omega)]
  ·rw[An c,An c]
theorem Wv(st:St):ai (low st) st=st:=by
 obtain⟨fr,ob⟩:=st;simp only[ai,low,St.mk.injEq,true_and];funext i;simp only[C5];split<;>rfl
theorem Wi{st:St}{id:Nat}{o:Ob}(h:(low st).ob id=o)(c:o≠ .none):id<A9/\st.ob id=o:=by
 have b:(if A9<=id then Ob.none else st.ob id)=o:=h;by_cases hi:A9<=id
 ·rw[Ao hi]at b;exact absurd b.symm c
 ·rw[An hi]at b;exact⟨by omega,b⟩
theorem Ai8{d:Option Nat}{ρ:SO->SV}{st t:St}{n:Nat}{x y:SO}(h:AY d ρ (low st) (.store n x y)=some t):AY d ρ st (.store n x y)=some (ai t st)/\low (ai t st)=t:=by
 simp only[AY]at h⊢
 have g:deref st.ob (ρ x)=deref (low st).ob (ρ x)\/deref (low st).ob (ρ x)=.undef:=by
  generalize ρ x=q;cases q<;>try exact .inl rfl
  rename_i c;cases c<;>try exact .inl rfl
  rename_i N;simp only[deref];by_cases p:A9<=N/\N % 2=0
  ·right;rw[Ao p];have:(low st).ob N=.none:=by show(if A9<=N then Ob.none else st.ob N)=_;rw[Ao p.1]
   rw[this]
  ·left;rw[An p,An p]
 rcases g with g|g
 ·rw[g];generalize deref (low st).ob (ρ x)=q at h⊢;cases q<;>(try cases h;done)
  ·rename_i C;cases C<;>(try cases h;done);rename_i cs
   cases cs with
   |nil=>cases h
   |cons c0 cs=>
    cases cs with
    |cons _ _=>cases c0<;>cases h
    |nil=>
     cases c0<;>(try cases h;done);cases r:ρ y<;>simp only[r]at h⊢ <;>(try cases h;done);rename_i D;cases D<;>(try cases h;done);simp only[Ae,Ac]at h⊢;obtain⟨k,rfl⟩:=h;exact⟨⟨k,(Wv st).symm⟩,by rw[Wv]⟩
  ·rename_i id o;simp only at h⊢;cases j:(low st).ob id<;>rw[j]at h<;>(try cases h;done);rename_i cs bt;obtain⟨hi,f⟩:=Wi j (by simp);rw[f];simp only at h⊢;split at h
   ·split at h<;>(try cases h;done);rename_i k;cases h;obtain⟨m,l⟩:=Q5 (st:=st) (b:=.box (FY cs o (List.map SV.c ‹_›)) bt) hi;rw[m];exact⟨by rw[Ao k],l⟩
   ·split at h<;>(try cases h;done);rename_i k;cases h;obtain⟨m,l⟩:=Q5 (st:=st) (b:=.box (cs.set o (ρ y)) bt) hi;rw[m];exact⟨by rw[Ao k],l⟩
  ·rename_i id i size o;simp only at h⊢;split at h<;>(try cases h;done);rename_i e sz es v j r;obtain⟨hi,f⟩:=Wi j (by simp);rw[f,r];simp only;split at h<;>(try cases h;done);rename_i k;rw[Ao k];obtain⟨B,A,u⟩:=Ab.1 h;rw[A,Ap];split at u<;>(try cases u;done);rename_i s;cases u;obtain⟨m,l⟩:=Q5 (st:=st) (b:=.arr e sz (es.set i (G5 B o n v))) hi;rw[m,Ao s];exact⟨rfl,l⟩
 ·rw[g]at h;cases h
theorem Ag3{E:ah}{D:List Nat}{l:SL}{st t:St}(L:Qm l=true)(h:Bz E.pois (AN (some (af l.op D)) (C5 st.ob)) l (low st)=some t):D7 E D l st=some (ai t st)/\low (ai t st)=t:=by
 simp only[Qm,Ag,Ak,Bool.not_eq_true']at L
 have Q:∀j,l.dst=some j->j<A9:=fun j R=>by
  have:=L.2;rw[R]at this;exact Nat.lt_of_succ_le (Ai this)
 unfold D7;rw[P5]at h⊢;have N:gd l (low st).fr=gd l st.fr:=rfl;rw[N]at h
 cases O:gd l st.fr with
 |none=>rw[O]at h;cases h
 |some b=>
  rw[O]at h
  cases b with
  |false=>
   simp only[Ap,Ah,if_false,Ac]at h⊢;have U:put (low st) l.dst (Bs,none)=some t:=by rw[<-h];rfl
   obtain⟨K,J⟩:=QR Q U;exact⟨Option.some.inj K,J⟩
  |true=>
   simp only[Ap,if_true]at h⊢
   cases M:l.op.hard with
   |true=>
    have B:l.op.stores=true:=by
     rcases L.1 with A|A
     ·rw[M]at A;cases A
     ·exact A
    cases C:l.op<;>rw[C]at B<;>(try cases B;done);rw[C]at h;exact Ai8 (d:=l.dst) h
   |false=>
    have i:bH E l st.fr=none:=by
     cases k:bH E l st.fr with
     |none=>rfl
     |some q=>
      exfalso;unfold bH at k;split at k<;>(try cases k;done)
      ·rename_i f args F;split at k<;>(try cases k;done);rename_i e y;have m:E.pois.ef f=some ⟨e.T,fun _ _=>none⟩:=by show(E.ef f).map _=_;rw[y];rfl
       rw[F]at h;simp only[AM,aa.cls,m,D6]at h
       cases r:A5 (fun x=>closed (so E.pois.G (low st).fr x)) args with
       |none=>rw[r]at h;cases h
       |some v=>rw[r]at h;cases h
      ·rename_i f args F;split at k<;>(try cases k;done);rename_i g o u;split at k<;>(try cases k;done);rename_i e y;have m:E.pois.ef g=some ⟨e.T,fun _ _=>none⟩:=by show(E.ef g).map _=_;rw[y];rfl
       have I:so E.pois.G (low st).fr f=.c (.fn g o):=u;rw[F]at h;simp only[AM,aa.cls,I,m,D6]at h
       cases r:A5 (fun x=>closed (so E.pois.G (low st).fr x)) args with
       |none=>rw[r]at h;cases h
       |some v=>rw[r]at h;cases h
    have s:bH E.pois l (low st).fr=none:=by
     unfold bH at i⊢;cases F:l.op<;>rw[F]at i<;>try rfl
     ·rename_i f args;simp only at i⊢;split at i<;>(try cases i;done);rename_i y;have m:E.pois.ef f=none:=by show(E.ef f).map _=_;rw[y];rfl
      rw[m]
     ·rename_i f args;simp only at i⊢
      show(match so E.G st.fr f with
       | .c (.fn f o)=>match E.pois.ef f with
        |some e=>some (e,args,o)
        |none=>none
       |_=>none)=none
      split
      ·rename_i g o u;rw[u]at i;simp only at i;split at i<;>(try cases i;done);rename_i y;have m:E.pois.ef g=none:=by show(E.ef g).map _=_;rw[y];rfl
       rw[m]
      ·rfl
    rw[QI s,Jr M,Ab]at h;obtain⟨p,A,S⟩:=h;obtain⟨K,J⟩:=QR Q S;refine⟨?_,J⟩;rw[QI i,Jr M,Ab];exact⟨p,A,K⟩
theorem Hm{f:aw×EK->Bool}:∀{Γ:TC} {seen:List aw},(E5 f Γ seen).all f=true
 | [],_=>rfl
 |e::Γ,seen=>by
  unfold E5
  cases seen.contains e.1 with
  |true=>exact Hm
  |false=>
   simp only
   cases b:f e with
   |true=>simp only[List.all_cons,b,Bool.true_and];exact Hm
   |false=>exact Hm
theorem Kt{N:Nat}(h:Db (.o N)=true):N<A9:=by
 simp only[Db,Bool.not_eq_true']at h;exact Nat.lt_of_not_le fun b=>by rw[Nat.ble_eq_true_of_le b]at h;cases h
theorem Afo{N j:Nat}(h:Db (.c N j)=true):N<A9:=Kt h
theorem PV{N:Nat}(h:Db (.o N)=false):A9<=N:=by
 simp only[Db,Bool.not_eq_false']at h;exact Ai h
section
variable {Γ:TC} {ρ:HS Γ} {st:St}
theorem ae.low(h:ae Γ ρ st)(c:(Γ.all fun e=>Db e.1)=true):ae Γ ρ (WB.low st):=by
 refine⟨h.s,fun id q b=> ?_⟩;have af:=Kt (C0 (pr:=fun e=>Db e.1) c (B0 b));have e:(WB.low st).ob id=st.ob id:=by show(if A9<=id then Ob.none else st.ob id)=_;rw[An (by omega)]
 rw[e];exact h.o id q b
theorem RS.clean{k:EK}{x:DK k}{sv:SV}(h:RS k x sv)(b:∀id,k.refs=some id->id<A9):RS k x (DH sv):=by
 have key:∀(id:Nat) (s:SV),s.ref=some id->id<A9->DH s=s:=fun id s d af=>by
  unfold DH;rw[d];simp only;rw[An (by omega)]
 have i:∀s:SV,s.ref=none->DH s=s:=fun s d=>by unfold DH;rw[d]
 induction k
 case v t=>obtain⟨c,rfl,e⟩:=h;exact⟨c,rfl,e⟩
 case opt k ih=>
  unfold RS at h⊢
  cases x with
  |none=>simp only at h;subst h;rfl
  |some y=>exact ih h b
 case rp ex r=>obtain⟨cs,rest,rfl,e⟩:=h;exact⟨cs,rest,rfl,e⟩
 case undef=>trivial
 case ptr id o=>unfold RS at h;subst h;exact key id _ rfl (b id rfl)
 case eptr id s o=>unfold RS at h;subst h;exact key id _ rfl (b id rfl)
 case aptr id n o=>obtain⟨h,hi⟩:=h;subst h;exact⟨key id _ rfl (b id rfl),hi⟩
 case own id=>unfold RS at h;subst h;exact key id _ rfl (b id rfl)
 case mp id=>unfold RS at h;subst h;exact key id _ rfl (b id rfl)
 case iter id=>unfold RS at h;subst h;exact key id _ rfl (b id rfl)
 case ent id k v=>
  obtain⟨g,l,rfl,f,j⟩:=h;exact⟨g,l,key id _ rfl (b id rfl),f,j⟩
 case stamp id k=>
  obtain⟨g,rfl,f⟩:=h;exact⟨g,key id _ rfl (b id rfl),f⟩
 all_goals exact h
theorem MX{p:aw}{k:EK}(h:G1 (p,k)=true):Db p=true/\∀id,k.refs=some id->id<A9:=by
 simp only[G1,Ag]at h;refine⟨h.1,fun id af=> ?_⟩;have b:=h.2;rw[af]at b;exact Kt b
theorem ae.lowC(h:ae Γ ρ st)(l:Γ.all G1=true):ae Γ ρ (WB.low (D5 st)):=by
 refine⟨fun i q g=>RS.clean (h.s i q g) (MX (C0 l (B0 g))).2,fun id q g=> ?_⟩;have af:=Kt (MX (C0 l (B0 g))).1
 have e:(WB.low (D5 st)).ob id=GM (st.ob id):=by
  show(if A9<=id then Ob.none else(if A9<=id then st.ob id else GM (st.ob id)))=_;rw[An (by omega),An (by omega)]
 rw[e];have b:=h.o id q g;obtain⟨k,A⟩:=q;simp only at b⊢;cases k<;>try exact b
 ·obtain⟨cs,d,c,r⟩:=b;rw[d];refine⟨cs.map DH,rfl,by simp[c],fun j y p f=> ?_⟩;obtain⟨sv,u,t⟩:=r j _ p f;exact⟨DH sv,by simp[u],RS.clean t (MX (C0 l (B0 f))).2⟩
 all_goals first
  |(obtain⟨es,d,c⟩:=b;rw[d];exact⟨es,rfl,c⟩)
  |(obtain⟨z,ks,vs,d,c⟩:=b;rw[d];exact⟨z,ks,vs,rfl,c⟩)
  |(obtain⟨ks,vs,x,v,d,c⟩:=b;rw[d];exact⟨ks,vs,x,v,rfl,c⟩)
  |(obtain⟨ks,vs,m,d,c⟩:=b;rw[d];exact⟨ks,vs,m,rfl,c⟩)
  |(unfold RO at b;rw[b];rfl)
theorem ae.highC(h:ae Γ ρ st)(d:Γ.all Fa=true){st':St}(c:∀i,A9<=i->st'.ob i=st.ob i):ae Γ ρ st':=by
 refine⟨fun i q b=> ?_,fun id q b=> ?_⟩
 ·have:=C0 d (B0 b);cases this
 ·have af:Db (.o id)=false:=by simpa[Fa]using C0 d (B0 b)
  rw[c id (PV af)];exact h.o id q b
theorem ae.comb{Θ:TC}{θ:HS Θ}(p:ae Θ θ st)(h:ae Γ ρ (WB.low st))(C:(Γ.all fun e=>Db e.1)=true)(l:Θ.all Fa=true):ae (Θ++Γ) (CK Θ θ ρ) st:=by
 refine⟨fun i q t=> ?_,fun id q t=> ?_⟩
 ·rcases DJ t with⟨_,f,d,e⟩|⟨_,f,d,e⟩
  ·have:=C0 l (B0 d);cases this
  ·rw[e];exact h.s i _ d
 ·rcases DJ t with⟨F,f,d,e⟩|⟨F,f,d,e⟩
  ·rw[e];have af:Db (.o id)=false:=by simpa[Fa]using C0 l (B0 d)
   have r:=p.o id _ d;obtain⟨k,G⟩:=q;cases k<;>try exact r
   obtain⟨cs,B,u,y⟩:=r;refine⟨cs,B,u,fun j D v g=> ?_⟩;rcases DJ g with⟨_,A,b,m⟩|⟨_,A,b,m⟩
   ·rw[m];exact y j _ v b
   ·have:Db (.c id j)=true:=C0 (pr:=fun e=>Db e.1) C (B0 b);have:=Afo this;have:=PV af;omega
  ·rw[e];have af:=Kt (C0 (pr:=fun e=>Db e.1) C (B0 d));have I:(WB.low st).ob id=st.ob id:=by show(if A9<=id then Ob.none else st.ob id)=_;rw[An (by omega)]
   have r:=h.o id _ d;rw[I]at r;obtain⟨k,G⟩:=q;cases k<;>try exact r
   obtain⟨cs,B,u,y⟩:=r;refine⟨cs,B,u,fun j D v g=> ?_⟩;rcases DJ g with⟨_,A,b,m⟩|⟨_,A,b,m⟩
   ·have x:Db (.c id j)=false:=by simpa[Fa]using C0 l (B0 b)
    have:=PV (N:=id) x;omega
   ·rw[m];exact y j _ v b
end
theorem Aav{X:TP}{E:ah}(hT:aG X E)(j:BR X E){Γ Θ:TC}{ρ:HS Γ}{θ:HS Θ}{st:St}(e:ae Γ ρ (low st))(c:ae Θ θ st)(g:Θ.all Fa=true)(rd:Nat->Ob){l:SL}{o:bK (Θ++Γ)}(h:eE X Γ Θ l=some o){b:o.B}(i:o.d.val (CK Θ θ ρ)=some b):
  ∃st',Bz E rd l st=some st'/\ae o.Γ' (o.up (CK Θ θ ρ) b) st':=by
 unfold eE at h;split at h<;>(try cases h;done);split at h<;>(try cases h;done);rename_i f;exact WO hT j (ae.comb c e f g) rd h i
theorem Pr{X:TP}{E:ah}(hT:aG X E)(F:BR X E){A:Type}{D:List Nat}:∀{ls:List SL} {Γ Θ:TC} {q:Tp A Γ Θ} {ρ:HS Γ} {θ:HS Θ} {st:St} {K:HS q.Γ'->HS q.Θ'->Option A} {r:A},
  I5 A X D ls Γ Θ=some q->ae Γ ρ (low st)->ae Θ θ st->Θ.all Fa=true->q.run ρ θ K=some r->∃st',FN E.named D ls st=some st'/\∃m s,ae q.Γ' m (low st')/\ae q.Θ' s st'/\q.Θ'.all Fa=true/\K m s=some r
 | [],Γ,Θ,q,ρ,θ,st,K,r,h,hr,hΘ,hh,hk=>by
  simp only[I5,Ac]at h;subst h;exact⟨st,rfl,ρ,θ,hr,hΘ,hh,hk⟩
 |l::ls,Γ,Θ,q,ρ,θ,st,K,r,h,hr,hΘ,hh,hk=>by
  simp only[I5]at h;split at h
  ·rename_i o C;split at h<;>(try cases h;done);rename_i g f S T;split at h<;>(try cases h;done);rename_i p B;cases h;have j:o.d.app (CK Θ θ ρ) (fun b=>p.run (g (o.up (CK Θ θ ρ) b)) (f (o.up (CK Θ θ ρ) b)) K)=some r:=hk;obtain⟨b,M,L⟩:=ab.app_some j;obtain⟨N,J,y⟩:=Aav hT.named F.named hr hΘ hh (AN (some (af l.op D)) (C5 st.ob)) C M
   have v:((E5 G1 o.Γ' []).all fun e=>Db e.1)=true:=by
    have:=Hm (f:=G1) (Γ:=o.Γ') (seen:= []);rw[As]at this⊢;intro e U;exact(MX (p:=e.1) (k:=e.2) (this e U)).1
   obtain⟨c,I,G⟩:=Pr hT F B (ae.low (CY S y) v) (CY T y) Hm L;exact⟨c,by simp only[FN,D7,J,Ap];exact I,G⟩
  ·split at h<;>(try cases h;done);rename_i R;split at h<;>(try cases h;done);rename_i o C;split at h<;>(try cases h;done);rename_i p B;cases h;have j:o.d.app ρ (fun b=>p.run (o.up ρ b) θ K)=some r:=hk;obtain⟨b,M,L⟩:=ab.app_some j
   obtain⟨t,J,y⟩:=WQ hT.named.pois hr (rd:=AN (some (af l.op D)) (C5 st.ob)) (fun id x=>by
    show(if(af l.op D).contains id then Ob.none else C5 st.ob id)=_
    rw[x];rfl) C M
   obtain⟨Q,O⟩:=Ag3 R J;have u:ae Θ θ (ai t st):=hΘ.highC hh fun i hi=>by show(if A9<=i then st.ob i else t.ob i)=_;rw[Ao hi]
   rw[<-O]at y;obtain⟨c,I,G⟩:=Pr hT F B y u hh L;exact⟨c,by simp only[FN,Q,Ap];exact I,G⟩
theorem Aai{X:TP}{E:ah}(hT:aG X E)(s:BR X E){A:Type}{D:List Nat}{ls:List SL}{Γ:TC}{q:bx A Γ}{ρ:HS Γ}{st:St}{K:HS q.Γ'->Option A}{r:A}(h:Pt A X D ls Γ=some q)(j:ae Γ ρ st)(l:q.run ρ K=some r):
  ∃st',IB E D ls st=some st'/\∃b,ae q.Γ' b st'/\K b=some r:=by
 unfold Pt at h;split at h<;>(try cases h;done);rename_i g f m o;split at h<;>(try cases h;done);rename_i p k;split at h<;>(try cases h;done);rename_i d;cases h;have c:=j.kill D;have C:ae _ (g (BP D ρ)) (low (D5 (WB.kill D st))):=ae.lowC (CY m c) Hm;have B:ae _ (f (BP D ρ)) (D5 (WB.kill D st)):=ae.highC (CY o c) Hm fun i hi=>by show(if A9<=i then _ else _)=_;rw[Ao hi]
 obtain⟨st',y,b,e,x,v,u,t⟩:=Pr hT s k C B Hm l;exact⟨st',y,_,ae.comb v x d u,t⟩
theorem Xv{le:Do}{E:ah}{W:List (Nat×Nat)}{ls:List SL}{Q:Ex->St->Prop}{st st':St}(h:ci E W ls st=some st')(b:Q .normal st'):CN le E (.regW ls) Q st:=⟨st,AB.refl st,W,st',h,b⟩
theorem Xu{le:Do}{E:ah}{D:List Nat}{ls:List SL}{Q:Ex->St->Prop}{st st':St}(h:Co E true D ls st=some st'\/IB E D ls st=some st')(b:Q .normal st'):CN le E (.regE D ls) Q st:=⟨st,AB.refl st,st',h,b⟩
theorem UC{X:TP}{E:ah}(hT:aG X E)(i:BR X E){A:Type}{e:Bool}{D:List Nat}{ls:List SL}{Γ:TC}{q:bx A Γ}{ρ:HS Γ}{st:St}{K:HS q.Γ'->Option A}{r:A}(h:Pu A X e D ls Γ=some q)(f:ae Γ ρ st)(g:q.run ρ K=some r):
  ∃st',(Co E true D ls st=some st'\/IB E D ls st=some st')/\∃b,ae q.Γ' b st'/\K b=some r:=by
 cases e with
 |true=>
  obtain⟨st',d,c⟩:=Aai hT i h f g;exact⟨st',.inr d,c⟩
 |false=>
  obtain⟨st',d,c⟩:=Ms hT i h f g;exact⟨st',.inl d,c⟩
theorem Aak(hT:aG X E)(s:BR X E){A:Type}{Q:Ex->St->Prop}:∀{c:AC} {Γ:TC} {q:bx A Γ} {ρ:HS Γ} {st:St} {K:HS q.Γ'->Option A} {r:A},GR A X c Γ=some q->ae Γ ρ st->q.run ρ K=some r->
  (∀st' d,ae q.Γ' d st'->K d=some r->Q .normal st')->CN (DA X.Θ) E (erase c) Q st:=by
 intro c
 induction c generalizing Q with
 |skip=>
  intro Γ q ρ st K r h f i j;simp only[GR,Ac]at h;subst h;exact⟨st,AB.refl st,j _ _ f i⟩
 |reg draw D ls=>
  intro Γ q ρ st K r h f i j;obtain⟨st',l,d,k,o⟩:=Ms hT s (K:=K) h f i;exact Xt l (j _ _ k o)
 |rg D gs=>
  intro Γ q ρ st K r h f i j;exact UB hT s (K:=K) h f i j
 |regE e D ls=>
  intro Γ q ρ st K r h f i j;obtain⟨st',l,d,k,o⟩:=UC hT s (K:=K) h f i;exact Xu l (j _ _ k o)
 |regW W ls=>
  intro Γ q ρ st K r h f i j;obtain⟨st',l,d,k,o⟩:=Ps hT s (K:=K) h f i;exact Xv l (j _ _ k o)
 |sq a b iha ihb=>
  intro Γ q ρ st K r h f i j;simp only[GR]at h;split at h<;>(try cases h;done);rename_i p t;split at h<;>(try cases h;done);rename_i u m;cases h;exact⟨st,AB.refl st,iha t f i fun st' d l k=>ihb m l k j⟩
 |gh g c ih=>
  intro Γ q ρ st K r h f i j;simp only[GR]at h;split at h<;>(try cases h;done);rename_i p t;split at h<;>(try cases h;done);rename_i u m;cases h;obtain⟨st',l,k⟩:=Kd t f;exact Xw l (ih m k i j)
 |_=>intro Γ q ρ st K r h;cases h
theorem QZ{Γ:TC}{ρ:HS Γ}{st:St}(b:ae Γ ρ st){x:Bj}{q:Σ t:Ty,ab (HS Γ) (D t)}{y:D q.1}(h:Jj X Γ x=some q)(r:q.2.val ρ=some y):∃c,Fk st x=some c/\Can q.1 y [c]:=by
 cases x with
 |tmp t=>
  simp only[Jj]at h;split at h<;>(try cases h;done);rename_i p A;cases h;obtain⟨c,m,l,_⟩:=N6 (msk:= []) (rd:=st.ob) (G:=X.G) (fl:=p.1) (q:=p.2) A b (fun _ _=>rfl) r;exact⟨c,m,l⟩
 |cell a sz=>
  simp only[Jj]at h;split at h<;>(try cases h;done);rename_i k v;split at h<;>(try cases h;done)
  ·rename_i t d j;cases h;obtain⟨sv,m,c,l,s⟩:=Kr (msk:= []) (rd:=st.ob) (sv:=deref st.ob (so X.G st.fr (.t a))) b (fun _ _=>rfl) j r (fun x g=>I8 b (fun _ _=>rfl) (fun x g=>Bf v b g) g (Kq j));subst l;refine⟨c, ?_,s⟩;have i:Bb st.ob sz (deref st.ob (st.fr a))=some (.c c):=m;simp[Fk,i,C9]
  ·rename_i id f j;split at h<;>(try cases h;done);rename_i e size t xs B;cases h;cases r;obtain⟨sv,m,l⟩:=Kr (msk:= []) (rd:=st.ob) (sv:=deref st.ob (so X.G st.fr (.t a))) (y:=f ρ) b (fun _ _=>rfl) j rfl (fun x g=>I8 b (fun _ _=>rfl) (fun x g=>Bf v b g) g (Kq j));have u:sv=.osl id:=l;subst u;obtain⟨es,s,C⟩:=b.o id _ B;refine⟨.sl none es, ?_,by unfold Can;exact⟨_,_,rfl,C⟩⟩;have i:Bb st.ob sz (deref st.ob (st.fr a))=some (.osl id):=m;simp[Fk,i,C9,s]
theorem QY{Γ:TC}{ρ:HS Γ}{st:St}(d:ae Γ ρ st):∀{xs:List Bj} {q:Σ t:Ty,ab (HS Γ) (D t)} {y:D q.1},Ji X Γ xs=some q->q.2.val ρ=some y->∃l,A5 (Fk st) xs=some l/\Can q.1 y l
 | [],q,y,h,hy=>by
  simp only[Ji,Ac]at h;subst h;exact⟨[],rfl,by unfold Can;rfl⟩
 | [x],q,y,h,hy=>by
  simp only[Ji]at h;split at h<;>(try cases h;done);rename_i p g;cases h;obtain⟨c,j,i⟩:=QZ d g hy;exact⟨[c],by simp[A5,j],by unfold Can;exact⟨c,rfl,i⟩⟩
 |x::z::xs,q,y,h,hy=>by
  simp only[Ji]at h;split at h<;>(try cases h;done);rename_i p s g f;cases h;obtain⟨r,o⟩:=ab.both_val hy;obtain⟨c,j,i⟩:=QZ d g r;obtain⟨l,m,k⟩:=QY d f o;refine⟨c::l, ?_,by unfold Can;exact⟨c,l,rfl,i,k⟩⟩;have e:A5 (Fk st) (x::z::xs)=(Fk st x).bind fun b=>(A5 (Fk st) (z::xs)).map fun bs=>b::bs:=rfl;rw[e,j,m];rfl
theorem Ahg{Γ:TC}{ρ:HS Γ}{st:St}(i:ae Γ ρ st){xs:List Bj}{q:Σ t:Ty,ab (HS Γ) (D t)}{y:D q.1}(h:NB X Γ xs=some q)(g:q.2.val ρ=some y):∃c,Eh st xs=some c/\Can q.1 y [c]:=by
 match xs,h with
 | [x],h=>
  obtain⟨c,b,f⟩:=QZ i h g;exact⟨c,by simp[Eh,A5,b,F1],f⟩
 | [],h=>
  simp only[NB]at h;split at h<;>(try cases h;done);rename_i p j;cases h;obtain⟨l,b,f⟩:=QY i j g;simp only[A5,Ac]at b;subst b;exact⟨.tup [],rfl,by unfold Can;exact⟨[],rfl,f⟩⟩
 |x::z::xs,h=>
  simp only[NB]at h;split at h<;>(try cases h;done);rename_i p j;cases h;obtain⟨l,b,f⟩:=QY i j g;have e:=DF b;refine⟨.tup l, ?_,by unfold Can;exact⟨l,rfl,f⟩⟩;simp only[Eh,b,Aq]
  match l,e with
  |c::d::l,_=>rfl
theorem VM{R A B:Type}{e:Nat×TC}{c:XC}{rt:Bool}{f:Em R (e::c) rt->B}{ρ:HS e.2}{b:B}{ke:KE A (e::c)}{kr:R->Option A}{r:A}(h:(bE (e::c) rt f).1 ρ=some b)
  (d:∀o,f o=b->bG (e::c) rt ke kr o=some r):ke.1 ρ=some r:=by
 cases c with
 |nil=>
  cases rt with
  |false=>exact d ρ (Option.some.inj h)
  |true=>exact d (.inl ρ) (Option.some.inj h)
 |cons e' c=>exact d (.inl ρ) (Option.some.inj h)
theorem HQ{R A B:Type}:∀{d:XC} {rt:Bool} {f:Em R d rt->B} {i:Nat} {c:TC} {s:KE B d->HS c->Option B} {ρ:HS c} {b:B} {ke:KE A d} {kr:R->Option A} {r:A},Es B d i=some ⟨c,s⟩->s (bE d rt f) ρ=some b->
  (∀o,f o=b->bG d rt ke kr o=some r)->∃s',Es A d i=some ⟨c,s'⟩/\s' ke ρ=some r
 | [],rt,f,i,c,s,ρ,b,ke,kr,r,h,_,_=>by cases h
 |e::d,rt,f,i,c,s,ρ,b,ke,kr,r,h,hs,hk=>by
  simp only[Es]at h⊢;split at h
  ·rename_i hi;cases h;rw[Ao hi];exact⟨_,rfl,VM hs hk⟩
  ·rename_i hi;rw[An hi];split at h<;>(try cases h;done);rename_i q g;cases h
   cases d with
   |nil=>cases g
   |cons e' d=>
    obtain⟨s',l,k⟩:=HQ (A:=A) (f:=fun o=>f (.inr o)) (ke:=ke.2) (kr:=kr) (r:=r) g hs (fun o j=>hk (.inr o) j);rw[l];exact⟨_,rfl,k⟩
theorem Aev{R A B:Type}{e:Nat×TC}{d:XC}{rt:Bool}{f:Em R (e::d) rt->B}{i:Nat}{c:TC}{s:KE B d->HS c->Option B}{ρ:HS c}{b:B}{ke:KE A (e::d)}{kr:R->Option A}{r:A}(h:Es B d i=some ⟨c,s⟩)(g:s (bE (e::d) rt f).2 ρ=some b)
  (k:∀o,f o=b->bG (e::d) rt ke kr o=some r):∃s',Es A d i=some ⟨c,s'⟩/\s' ke.2 ρ=some r:=by
 cases d with
 |nil=>cases h
 |cons e' d=>exact HQ (A:=A) (f:=fun o=>f (.inr o)) (ke:=ke.2) (kr:=kr) (r:=r) h g (fun o j=>k (.inr o) j)
theorem Jm{R A B:Type}:∀{c:XC} {rt:Bool} {f:Em R c rt->B} {v:R} {b:B} {ke:KE A c} {kr:R->Option A} {r:A},c6 c rt f v=some b->(∀o,f o=b->bG c rt ke kr o=some r)->kr v=some r
 | [],true,f,v,b,ke,kr,r,h,hk=>hk v (Option.some.inj h)
 | [],false,f,v,b,ke,kr,r,h,hk=>by cases h
 | [e],false,f,v,b,ke,kr,r,h,hk=>by cases h
 | [e],true,f,v,b,ke,kr,r,h,hk=>hk (.inr v) (Option.some.inj h)
 |e::e'::c,rt,f,v,b,ke,kr,r,h,hk=>Jm (f:=fun o=>f (.inr o)) (ke:=ke.2) h (fun o d=>hk (.inr o) d)
theorem Ih{A:Type}{xs:XC}:∀{c:XC} {g:KE A xs->KE A c} {i:Nat} {b:TC} {s:KE A c->HS b->Option A} {ke:KE A xs} {ρ:HS b} {r:A},Ig A xs c=some g->Es A c i=some ⟨b,s⟩->s (g ke) ρ=some r->∃s',Es A xs i=some ⟨b,s'⟩/\s' ke ρ=some r
 | [],g,i,b,s,ke,ρ,r,_,h,_=>by cases h
 |e::c,g,i,b,s,ke,ρ,r,hg,h,hs=>by
  simp only[Ig]at hg;split at hg<;>(try cases hg;done);rename_i q p m j;split at hg<;>(try cases hg;done);rename_i k;cases hg;obtain⟨l,f⟩:=q;simp only at k;subst k;simp only[Es]at h;split at h
  ·rename_i hi;subst hi;cases h;exact⟨f,m,hs⟩
  ·split at h<;>(try cases h;done);rename_i o d;cases h;exact Ih j d hs
def Gg(st:St)(rs:List Bj):(b:Ty)->D b->Prop
 | .nw e size t,ys=>∃es,Abq rs (.arr e size es) .ret st/\CanAll (fun x c=>Can t x [c]) ys es
 |b,v=>∃c,Eh st rs=some c/\Can b v [c]
theorem Gg.val{st:St}{rs:List Bj}{b:Ty}{v:D b}{c:CV}(h:Eh st rs=some c)(d:Can b v [c]):Gg st rs b v:=by
 cases b<;>first|exact⟨c,h,d⟩|(unfold Can at d;exact d.elim)
theorem Gg.of{st:St}{rs:List Bj}{b:Ty}{v:D b}(d:b.val=true)(h:Gg st rs b v):∃c,Eh st rs=some c/\Can b v [c]:=by
 cases b<;>first|exact h|cases d
theorem Ahi{Γ:TC}{rs:List Bj}{k:Ty}{g:HS Γ->D k}{ρ:HS Γ}{st:St}(h:Ra Γ rs k=some g)(d:ae Γ ρ st):Gg st rs k (g ρ):=by
 unfold Ra at h;split at h<;>(try cases h;done);rename_i i e size t;split at h<;>(try cases h;done)
 ·rename_i id f j;split at h<;>(try cases h;done);rename_i A b y xs p;split at h<;>(try cases h;done);rename_i m;split at h<;>(try cases h;done);rename_i q;subst m;obtain⟨rfl,rfl⟩:=q;cases h;have v:st.fr i=.osl id:=d.s i _ j;obtain⟨es,u,r⟩:=d.o id _ p;exact⟨es,⟨i,rfl,.inl ⟨id,.inl v,u,rfl⟩⟩,r⟩
 ·rename_i f j;cases h;obtain⟨c,x,l⟩:=d.s i _ j;unfold Can at l;cases l;exact⟨[],⟨i,rfl,.inr ⟨x,_,_,rfl⟩⟩,rfl⟩
theorem Ahc{rs:List Bj}{e:Ty}{Γ:TC}{q:cJ Γ (D e)}{ρ:HS Γ}{st:St}(h:dI X rs e Γ=some q)(f:ae Γ ρ st){v:q.B}(i:q.d.val ρ=some v):Gg st rs e (q.up ρ v):=by
 unfold dI at h;split at h
 ·rename_i g b;cases h;exact Ahi b f
 ·split at h<;>(try cases h;done);rename_i m j;split at h<;>(try cases h;done);rename_i g b;cases h;obtain⟨c,l,k⟩:=Ahg f j i;exact Gg.val l (CA _ _ b k)
def YT{A:Type}{xs:XC}{b:TC}{R:Type}(RP:St->R->Prop)(k:dA A xs b R)(r:A):Ex->St->Prop
 | .normal,st=>∃ρ,ae b ρ st/\k.n ρ=some r
 | .exit i,st=>∃c s ρ,Es A xs i=some ⟨c,s⟩/\ae c ρ st/\s k.e ρ=some r
 | .ret,st=>∃v,RP st v/\k.r v=some r
theorem U9{X:TP}:∀{gs:List Gh} {Γ:TC} {p:Σ Γ':TC,HS Γ->HS Γ'} {ρ:HS Γ} {st:St},JP X gs Γ=some p->ae Γ ρ st->∃st',AB (DA X.Θ) st st'/\ae p.1 (p.2 ρ) st'
 | [],Γ,p,ρ,st,h,hr=>by
  simp only[JP,Ac]at h;subst h;exact⟨st,AB.refl st,hr⟩
 |g::gs,Γ,p,ρ,st,h,hr=>by
  simp only[JP]at h;split at h<;>(try cases h;done);rename_i q d;split at h<;>(try cases h;done);rename_i r b;cases h;obtain⟨k,j,i⟩:=Kd d hr;obtain⟨c,f,e⟩:=U9 b i;exact⟨c,j.trans f,e⟩
theorem Xe{b:Type}:∀{l:List b} {j:Nat} {x:b},l[j]? =some x->(x::l.eraseIdx j).Perm l
 | [],j,x,h=>by simp at h
 |y::l,0,x,h=>by
  simp only[List.getElem?_cons_zero,Ac]at h;subst h;exact List.Perm.refl _
 |y::l,j+1,x,h=>by
  simp only[List.getElem?_cons_succ]at h;exact(List.Perm.swap y x _).trans (List.Perm.cons y (Xe h))
theorem CanAll.erase{e β:Type}{R:e->β->Prop}:∀(j:Nat) {c:List e} {bs:List β},CanAll R c bs->CanAll R (c.eraseIdx j) (bs.eraseIdx j)
 |_,[],bs,h=>by unfold CanAll at h;subst h;exact CanAll.nil
 |0,a::c,bs,h=>by obtain⟨b,bs,rfl,f,d⟩:=h;exact d
 |j+1,a::c,bs,h=>by obtain⟨b,bs,rfl,f,d⟩:=h;exact CanAll.cons f (CanAll.erase j d)
theorem UD(hT:aG X E)(hF:BR X E){R:Type}{rd:(Γ:TC)->Option (cJ Γ R)}{RP:St->R->Prop}(hrd:∀{Γ:TC} {q:cJ Γ R} {ρ:HS Γ} {st:St},rd Γ=some q->ae Γ ρ st->∀{v:q.B},q.d.val ρ=some v->RP st (q.up ρ v)):∀(c:AC) {A:Type} {xs:XC} {u Γ:TC} {d:HS Γ->dA A xs u R->Option A} {ρ:HS Γ} {k:dA A xs u R} {st:St} {r:A},
  den X R rd c A xs u Γ=some d->ae Γ ρ st->d ρ k=some r->CN (DA X.Θ) E (erase c) (YT RP k r) st:=by
 intro c
 induction c with
 |skip=>
  intro A xs u Γ d ρ k st r h C F;simp only[den]at h;split at h<;>(try cases h;done);rename_i f Z;cases h;exact⟨st,AB.refl st,_,CY Z C,F⟩
 |reg draw D ls=>
  intro A xs u Γ d ρ k st r h C F;simp only[den]at h;split at h<;>(try cases h;done);rename_i q T;split at h<;>(try cases h;done);rename_i f Z;cases h;obtain⟨st',K,l,J,I⟩:=Ms hT hF T C F;exact Xt K ⟨_,CY Z J,I⟩
 |rg D gs=>
  intro A xs u Γ d ρ k st r h C F;simp only[den]at h;split at h<;>(try cases h;done);rename_i q T;split at h<;>(try cases h;done);rename_i f Z;cases h;exact UB hT hF T C F fun st' l J I=>⟨_,CY Z J,I⟩
 |rgt draw D ls hh=>
  intro A xs u Γ d ρ k st r h C F;simp only[den]at h;split at h<;>(try cases h;done);rename_i q T;cases h;exact Aaj hT hF T C F fun st' l J I=>⟨_,J,I⟩
 |rga D ls gs=>
  intro A xs u Γ d ρ k st r h C F;simp only[den]at h;split at h<;>(try cases h;done);rename_i q T;split at h<;>(try cases h;done);rename_i p L;split at h<;>(try cases h;done);rename_i f Z;cases h;obtain⟨st',K,l,J,I⟩:=Ms hT hF T C F;obtain⟨s2,V,M⟩:=U9 L J;exact⟨st,AB.refl st,st',K,s2,V,_,CY Z M,I⟩
 |regE e D ls=>
  intro A xs u Γ d ρ k st r h C F;simp only[den]at h;split at h<;>(try cases h;done);rename_i q T;split at h<;>(try cases h;done);rename_i f Z;cases h;obtain⟨st',K,l,J,I⟩:=UC hT hF T C F;exact Xu K ⟨_,CY Z J,I⟩
 |regW W ls=>
  intro A xs u Γ d ρ k st r h C F;simp only[den]at h;split at h<;>(try cases h;done);rename_i q T;split at h<;>(try cases h;done);rename_i f Z;cases h;obtain⟨st',K,l,J,I⟩:=Ps hT hF T C F;exact Xv K ⟨_,CY Z J,I⟩
 |sq a b iha ihb=>
  intro A xs u Γ d ρ k st r h C F;simp only[den]at h;split at h<;>(try cases h;done);rename_i q T;split at h<;>(try cases h;done);rename_i db O;cases h;exact⟨st,AB.refl st,Aak hT hF T C F fun st' l K J=>ihb O K J⟩
 |seq Γm a b iha ihb=>
  intro A xs u Γ d ρ k st r h C F;simp only[den]at h;split at h<;>(try cases h;done);rename_i da db hda O;cases h;refine⟨st,AB.refl st,CT _ (fun e s L=> ?_) (iha hda C F)⟩
  cases e with
  |normal=>
   obtain⟨l,K,J⟩:=L;exact ihb O K J
  |exit i=>exact L
  |ret=>exact L
 |join Γm ex rt a b iha ihb=>
  intro A xs u Γ d ρ k st r h C F;simp only[den]at h;split at h<;>(try cases h;done);rename_i Y hys;split at h<;>(try cases h;done);rename_i g da db hg hda O;cases h;obtain⟨o,K,J⟩:=Ab.1 F;refine⟨st,AB.refl st,CT _ (fun e s L=> ?_) (iha hda C K)⟩;have hk:∀o',o'=o->bG ((0,Γm)::Y) rt (fun ρm=>db ρm k,g k.e) k.r o'=some r:=fun o' ho=>ho▸J
  cases e with
  |normal=>
   obtain⟨l,I,V⟩:=L;exact ihb O I (VM (ke:=(fun ρm=>db ρm k,g k.e)) V hk)
  |exit i=>
   obtain⟨S,s',l,I,V,M⟩:=L;obtain⟨s2,U,h7⟩:=Aev (A:=A) (ke:=(fun ρm=>db ρm k,g k.e)) I M hk;obtain⟨s3,h8,h9⟩:=Ih hg U h7;exact⟨S,s3,l,h8,V,h9⟩
  |ret=>
   obtain⟨v,I,M⟩:=L;exact⟨v,I,Jm (ke:=(fun ρm=>db ρm k,g k.e)) M hk⟩
 |cond c x y ihx ihy=>
  intro A xs u Γ d ρ k st r h C F;simp only[den]at h;split at h<;>(try cases h;done);rename_i e dx dy he hdx hdy;cases h;obtain⟨b,K,J⟩:=ab.app_some F;obtain⟨cv,e1,e2⟩:=AP (G:=X.G) he C K;unfold Can at e2;cases e2;refine⟨st,AB.refl st,b,by rw[hT.G];exact e1,fun hb=> ?_,fun hb=> ?_⟩
  ·rw[Ao hb]at J;exact ihx hdx C J
  ·rw[An (by simp[hb])]at J;exact ihy hdy C J
 |block id b ih=>
  intro A xs u Γ d ρ k st r h C F;simp only[den]at h;split at h<;>(try cases h;done);rename_i db O;cases h;refine⟨st,AB.refl st,CT _ (fun e s L=> ?_) (ih O C F)⟩
  cases e with
  |normal=>exact L
  |exit i=>
   obtain⟨S,s',l,I,V,M⟩:=L;simp only[Es]at I;by_cases hi:i=id
   ·subst hi;simp only[if_true,Ac,Sigma.mk.injEq]at I;obtain⟨rfl,I⟩:=I;cases eq_of_heq I;simp only[if_true];exact⟨l,V,M⟩
   ·simp only[An hi];rw[An (fun e=>hi e.symm)]at I;split at I<;>(try cases I;done);rename_i q T;cases I;exact⟨_,_,l,T,V,M⟩
  |ret=>exact L
 |loop Γh ex rt b ih=>
  intro A xs u Γ d ρ k st r h C F;simp only[den]at h;split at h<;>(try cases h;done);rename_i Y hys;split at h<;>(try cases h;done);rename_i g f db hg Z O;cases h;obtain⟨o,K,J⟩:=Ab.1 F;obtain⟨n,hn⟩:=HP.1 K;refine⟨st,AB.refl st,fun m s=>∃ρ,ae Γh ρ s/\D9 (fun ρ=>db ρ ⟨fun l=>some (.inl l),bE Y rt Sum.inr,c6 Y rt Sum.inr⟩) m ρ=some o,⟨n,f ρ,CY Z C,hn⟩,fun m s hR=> ?_⟩;obtain⟨ρ1,hr1,hi⟩:=hR
  cases m with
  |zero=>cases hi
  |succ m=>
   simp only[D9]at hi;obtain⟨w,I,V⟩:=Ab.1 hi;refine CT _ (fun e s' L=> ?_) (ih O hr1 I)
   have hk:∀o',Sum.inr o'=w->bG Y rt (g k.e) k.r o'=some r:=fun o' ho=>by
    subst ho;simp only[Ac]at V;rw[V];exact J
   cases e with
   |normal=>
    obtain⟨l,M,U⟩:=L;cases U;exact⟨m,by omega,l,M,V⟩
   |exit i=>
    obtain⟨S,s2,l,M,U,h7⟩:=L;obtain⟨s3,h8,h9⟩:=HQ (A:=A) (ke:=g k.e) M h7 hk;obtain⟨s4,h10,h11⟩:=Ih hg h8 h9;exact⟨S,s4,l,h10,U,h11⟩
   |ret=>
    obtain⟨v,M,h7⟩:=L;exact⟨v,M,Jm (ke:=g k.e) h7 hk⟩
 |peel Γ1 a Γh ex rt b iha ihb=>
  intro A xs u Γ d ρ k st r h C F;simp only[den]at h;split at h<;>(try cases h;done);rename_i Y Q hys;split at h<;>(try cases h;done);rename_i g f da db hg Z hda O;cases h;have Q:=of_decide_eq_true Q;obtain⟨o,K,J⟩:=Ab.1 F;obtain⟨w0,K,h1'⟩:=Ab.1 K
  have hN:∃N,∀l,w0=.inl l->∃n,n<N/\D9 (fun ρ=>db ρ ⟨fun l=>some (.inl l),bE Y rt Sum.inr,c6 Y rt Sum.inr⟩) n l=some o:=by
   cases w0 with
   |inl l=>
    obtain⟨n,hn⟩:=HP.1 h1';exact⟨n+1,fun ρ2 e=>by cases e;exact⟨n,by omega,hn⟩⟩
   |inr o'=>exact⟨0,fun _ e=>by cases e⟩
  obtain⟨N,hN⟩:=hN;refine⟨st,AB.refl st,fun m s=>(∃ρ,ae Γh ρ s/\D9 (fun ρ=>db ρ ⟨fun l=>some (.inl l),bE Y rt Sum.inr,c6 Y rt Sum.inr⟩) m ρ=some o)\/(m=N/\ae Γ1 (f ρ) s),⟨N,.inr ⟨rfl,CY Z C⟩⟩,fun m s hR=> ?_⟩;rcases hR with⟨ρ1,hr1,hi⟩|⟨rfl,hr1⟩
  ·cases m with
   |zero=>cases hi
   |succ m=>
    simp only[D9]at hi;obtain⟨w,I,V⟩:=Ab.1 hi;refine CT _ (fun e s' L=> ?_) (ihb O hr1 I)
    have hk:∀o',Sum.inr o'=w->bG Y rt (g k.e) k.r o'=some r:=fun o' ho=>by
     subst ho;simp only[Ac]at V;rw[V];exact J
    cases e with
    |normal=>
     obtain⟨l,M,U⟩:=L;cases U;exact⟨m,by omega,.inl ⟨l,M,V⟩⟩
    |exit i=>
     obtain⟨S,s2,l,M,U,h7⟩:=L;obtain⟨s3,h8,h9⟩:=HQ (A:=A) (ke:=g k.e) M h7 hk;obtain⟨s4,h10,h11⟩:=Ih hg h8 h9;exact⟨S,s4,l,h10,U,h11⟩
    |ret=>
     obtain⟨v,M,h7⟩:=L;exact⟨v,M,Jm (ke:=g k.e) h7 hk⟩
  ·rw[<-Q];refine CT _ (fun e s' L=> ?_) (iha hda hr1 K)
   have hk:∀o',Sum.inr o'=w0->bG Y rt (g k.e) k.r o'=some r:=fun o' ho=>by
    subst ho;simp only[Ac]at h1';rw[h1'];exact J
   cases e with
   |normal=>
    obtain⟨l,M,U⟩:=L;cases U;obtain⟨n,hn1,hn2⟩:=hN l rfl;exact⟨n,hn1,.inl ⟨l,M,hn2⟩⟩
   |exit i=>
    obtain⟨S,s2,l,M,U,h7⟩:=L;obtain⟨s3,h8,h9⟩:=HQ (A:=A) (ke:=g k.e) M h7 hk;obtain⟨s4,h10,h11⟩:=Ih hg h8 h9;exact⟨S,s4,l,h10,U,h11⟩
   |ret=>
    obtain⟨v,M,h7⟩:=L;exact⟨v,M,Jm (ke:=g k.e) h7 hk⟩
 |mloop Γh ex rt it d0 ok i b ih=>
  intro A xs u Γ d ρ k st r h C F;simp only[den]at h;split at h<;>(try cases h;done);rename_i id fi kt vt m hgi hgo;split at h<;>(try cases h;done);rename_i Y hcond hys;split at h<;>(try cases h;done);rename_i g f fb q db hg Z hfb T O;split at h<;>(try cases h;done);rename_i c hc;cases h;simp only[Ag]at hcond;obtain⟨af,hlt,hno⟩:=hcond;have af:=Nat.eq_of_beq_eq_true af;subst af;have hlt:id<A9:=Ai hlt;have hall:=Ny.1 F;have hit:st.fr id=.iter id:=C.s id _ hgi;obtain⟨ks,vs,cur,hob,hks,hvs⟩:=C.o id _ hgo;refine⟨st,AB.refl st,fun n s=>∃ρ rem ks vs cur,rem.length=n/\ae Γh ρ s/\s.fr id=.iter id/\s.ob id=.miter ks vs cur/\CanAll (fun x c=>Can kt x.1 [c]) rem ks/\CanAll (fun x c=>Can vt x.2 [c]) rem vs/\∀π:List (D kt×D vt),π.Perm rem->(Fh (fun x ρ=>db (true,(),(),x,ρ) ⟨fun l=>some (.inl (fb l)),bE Y rt Sum.inr,c6 Y rt Sum.inr⟩) (fun ρ=>q.2 (bE Y rt Sum.inr) (c (false,(),ρ))) π ρ).bind (bG Y rt (g k.e) k.r)=some r,⟨_,f ρ,m ρ,ks,vs,cur,rfl,CY Z C,hit,hob,hks,hvs,hall⟩,fun n s hR=> ?_⟩;obtain⟨ρ1,rem,ks,vs,cur,hn,hr1,hit,hob,hks,hvs,hall⟩:=hR;refine⟨s,AB.refl s,s,AB.refl s,id,ks,vs,cur,hit,hob,fun hnil=> ?_,fun j ck cv hkj hvj=> ?_⟩
  ·subst hnil
   have hrem:rem= []:=by
    have:=hks.length;exact Aw this.symm
   subst hrem;have K:=hall [] (List.Perm.refl _);simp only[Fh]at K;obtain⟨o,J,I⟩:=Ab.1 K;obtain⟨w,V,M⟩:=Ab.1 J
   have hk:∀o',Sum.inr o'=w->bG Y rt (g k.e) k.r o'=some r:=fun o' ho=>by
    subst ho;simp only[Ac]at M;rw[M];exact I
   have hr2:ae ((.s ok,.v .bool)::(.s d0,.undef)::Γh) (false,(),ρ1) {s with fr:=ac (ac s.fr d0 (.c (.tup [.bool false]))) ok (.c (.bool false))}:=by
    have:=ae.set (d:=ok) (k:=.v .bool) (x:=false) (sv:=.c (.bool false)) (ae.set (d:=d0) (k:=.undef) (x:=()) (sv:=.c (.tup [.bool false])) hr1 trivial) ⟨_,rfl,by unfold Can;rfl⟩;exact this
   refine⟨_,AB.refl _,_,AB.refl _,false,by simp[so,Cc],(fun hb=>by cases hb),fun _=>⟨_,AB.refl _, ?_⟩⟩;obtain⟨s3,h8,h9⟩:=HQ (A:=A) (ke:=g k.e) T V hk;obtain⟨s4,h10,h11⟩:=Ih hg h8 h9;exact⟨q.1,s4,_,h10,CY hc hr2,h11⟩
  ·obtain⟨x,hx,hcx⟩:=hks.getB hkj;obtain⟨x',hx',hcx'⟩:=hvs.getB hvj;rw[hx]at hx';cases hx';have hperm:(x::rem.eraseIdx j).Perm rem:=Xe hx
   have hr2:ae ((.s ok,.v .bool)::(.s d0,.undef)::(.s id,.iter id)::(.o id,.mcur kt vt)::Γh) (true,(),(),x,ρ1) {fr:=ac (ac s.fr d0 (.c (.tup [.bool true,ck,cv]))) ok (.c (.bool true)),ob:=ac s.ob id (.miter (ks.eraseIdx j) (vs.eraseIdx j) (some (ck,cv)))}:=by
    have K:=ae.newObj (k:=.iter id) (ko:=.mcur kt vt) (x:=()) (y:=x) (v:=.iter id) (o:=.miter (ks.eraseIdx j) (vs.eraseIdx j) (some (ck,cv))) hr1 (D3.refl id) ⟨_,_,_,_,rfl,hcx,hcx'⟩ rfl
    have e:ac s.fr id (.iter id)=s.fr:=by
     funext t;rw[Cc];split
     ·rename_i ht;rw[ht,hit]
     ·rfl
    rw[e]at K;have:=ae.set (d:=ok) (k:=.v .bool) (x:=true) (sv:=.c (.bool true)) (ae.set (d:=d0) (k:=.undef) (x:=()) (sv:=.c (.tup [.bool true,ck,cv])) K trivial) ⟨_,rfl,by unfold Can;rfl⟩;exact this
   have K:=hall _ hperm;simp only[Fh]at K;obtain⟨o,J,I⟩:=Ab.1 K;obtain⟨w,V,M⟩:=Ab.1 J;refine⟨_,AB.refl _,_,AB.refl _,true,by simp[so,Cc],(fun _=>⟨_,AB.refl _, ?_⟩),fun hb=>by cases hb⟩;refine CT _ (fun e s' L=> ?_) (Ie hT.hi hlt _ hno (ih O hr2 V));obtain⟨L,Q⟩:=L
   have hk:∀o',Sum.inr o'=w->bG Y rt (g k.e) k.r o'=some r:=fun o' ho=>by
    subst ho;simp only[Ac]at M;rw[M];exact I
   cases e with
   |normal=>
    obtain⟨ρb,U,h7⟩:=L;cases h7;obtain⟨ks2,vs2,ck2,cv2,hob2,_⟩:=U.o id ⟨.mcur kt vt,fun ρ=>ρ.2.1⟩ (by simp[get]);have hob3:=Q (by rw[hob2];rfl);refine⟨rem.length-1, ?_,fb ρb,rem.eraseIdx j,ks.eraseIdx j,vs.eraseIdx j,some (ck,cv), ?_,CY hfb U,U.s id _ (Dh ..), ?_, ?_, ?_,fun π hπ=> ?_⟩
    ·rw[<-hn];have:j<rem.length:=(Af.1 hx).1;omega
    ·rw[List.length_eraseIdx,Ao (Af.1 hx).1]
    ·rw[hob3];simp[Cc]
    ·exact CanAll.erase j hks
    ·exact CanAll.erase j hvs
    ·have hp2:=hall (x::π) ((List.Perm.cons x hπ).trans hperm);simp only[Fh,V,Ap]at hp2;exact hp2
   |exit i=>
    obtain⟨S,s2,l,U,h7,h8⟩:=L;obtain⟨s3,h8,h9⟩:=HQ (A:=A) (ke:=g k.e) U h8 hk;obtain⟨s4,h10,h11⟩:=Ih hg h8 h9;exact⟨S,s4,l,h10,h7,h11⟩
   |ret=>
    obtain⟨v,U,h7⟩:=L;exact⟨v,U,Jm (ke:=g k.e) h7 hk⟩
 |exit i=>
  intro A xs u Γ d ρ k st r h C F;simp only[den]at h;split at h<;>(try cases h;done);rename_i q T;split at h<;>(try cases h;done);rename_i f Z;cases h;exact⟨st,AB.refl st,q.1,q.2,_,T,CY Z C,F⟩
 |ret=>
  intro A xs u Γ d ρ k st r h C F;simp only[den]at h;split at h<;>(try cases h;done);rename_i q T;cases h;obtain⟨v,K,J⟩:=ab.app_some F;exact⟨st,AB.refl st,_,hrd T C K,J⟩
 |raw c=>
  intro A xs u Γ d ρ k st r h C F;simp only[den,Ac]at h;subst h;cases F
 |gh g c ih=>
  intro A xs u Γ d ρ k st r h C F;simp only[den]at h;split at h<;>(try cases h;done);rename_i p L;split at h<;>(try cases h;done);rename_i dc hdc;cases h;obtain⟨st',K,J⟩:=Kd L C;exact Xw K (ih hdc J F)
end
structure AF where
 n:Nat
 code:AC
 res:List Bj
@[reducible] def Ek:Ty->Nat->TC
 | .one t,i=> [(.s i,.v t)]
 | .cons t r,i=>(.s i,.v t)::Ek r (i+1)
 |_,_=> []
def Ii:(a:Ty)->(i:Nat)->D a->HS (Ek a i)
 | .one _,_,x=>(x,())
 | .cons _ r,i,x=>(x.1,Ii r (i+1) x.2)
 | .int _,_,_| .bool,_,_| .str,_,_| .err,_,_| .clo _ _,_,_| .falt _ _ _,_,_| .nfn,_,_| .nam _,_,_| .bptr _,_,_| .nilp,_,_| .pt _,_,_| .nw _ _ _,_,_| .nsl,_,_| .nmap,_,_| .agg _,_,_| .tup _,_,_| .sl _,_,_| .map _ _,_,_| .nil,_,_=>()
theorem Rv:∀{a:Ty} {i:Nat} {x:D a} {l:List CV} {p:aw} {q:Σ k:EK,HS (Ek a i)->DK k},Can a x l->get (Ek a i) p=some q->∃j c,p=.s (i+j)/\l[j]? =some c/\RS q.1 (q.2 (Ii a i x)) (.c c)
 | .one t,i,x,l,p,q,d,hg=>by
  unfold Can at d;obtain⟨c,rfl,d⟩:=d;by_cases g:aw.s i=p
  ·subst g;have b:get ((aw.s i,EK.v t):: []) (aw.s i)=some q:=hg;rw[Dh]at b;cases b;exact⟨0,c,rfl,rfl,c,rfl,d⟩
  ·obtain⟨f,h,_⟩:=CB g hg;cases h
 | .cons t r,i,x,l,p,q,d,hg=>by
  unfold Can at d;obtain⟨c,l',rfl,B,A⟩:=d;by_cases g:aw.s i=p
  ·subst g;have b:get ((aw.s i,EK.v t)::Ek r (i+1)) (aw.s i)=some q:=hg;rw[Dh]at b;cases b;exact⟨0,c,rfl,rfl,c,rfl,B⟩
  ·obtain⟨f,h,m⟩:=CB g hg;obtain⟨j,C,y,u,o⟩:=Rv (i:=i+1) A h;refine⟨j+1,C,by rw[y];congr 1;omega,by simpa using u, ?_⟩;have e:=m (Ii (.cons t r) i x);rw[e];exact o
 | .int _,_,_,_,_,_,_,hg=>by cases hg
 | .bool,_,_,_,_,_,_,hg=>by cases hg
 | .str,_,_,_,_,_,_,hg=>by cases hg
 | .err,_,_,_,_,_,_,hg=>by cases hg
 | .clo _ _,_,_,_,_,_,_,hg=>by cases hg
 | .falt _ _ _,_,_,_,_,_,_,hg=>by cases hg
 | .nfn,_,_,_,_,_,_,hg=>by cases hg
 | .nam _,_,_,_,_,_,_,hg=>by cases hg
 | .bptr _,_,_,_,_,_,_,hg=>by cases hg
 | .nilp,_,_,_,_,_,_,hg=>by cases hg
 | .pt _,_,_,_,_,_,_,hg=>by cases hg
 | .nw _ _ _,_,_,_,_,_,_,hg=>by cases hg
 | .nsl,_,_,_,_,_,_,hg=>by cases hg
 | .nmap,_,_,_,_,_,_,hg=>by cases hg
 | .agg _,_,_,_,_,_,_,hg=>by cases hg
 | .tup _,_,_,_,_,_,_,hg=>by cases hg
 | .sl _,_,_,_,_,_,_,hg=>by cases hg
 | .map _ _,_,_,_,_,_,_,hg=>by cases hg
 | .nil,_,_,_,_,_,_,hg=>by cases hg
theorem VE{a:Ty}{x:D a}{l:List CV}(e:Can a x l):ae (Ek a 0) (Ii a 0 x) (Ev l):=by
 refine⟨fun i q d=> ?_,fun id q d=> ?_⟩
 ·obtain⟨j,c,b,g,f⟩:=Rv e d;simp only[Nat.zero_add,aw.s.injEq]at b;subst b;simp only[Ev,g];exact f
 ·obtain⟨j,c,b,_⟩:=Rv e d;cases b
def kN:(rs:List Bj)->(b:Ty)->Option (D b)
 | [],.tup .nil=>some ()
 |_,_=>none
theorem Aet{rs:List Bj}{b:Ty}{y:D b}(h:kN rs b=some y)(st:St):∃c,Eh st rs=some c/\Can b y [c]:=by
 unfold kN at h;split at h
 ·exact⟨.tup [],rfl,by unfold Can;exact⟨[],rfl,by unfold Can;rfl⟩⟩
 ·cases h
theorem AU.plain{w:World}{M:MM}{size:Nat}{t:Ty}:∀{b:List (D t)} {es:List CV} {xs:List Value},CanAll (fun x c=>Can t x [c]) b es->AU w M size es xs->AU w M size (b.map (enc t)) xs
 | [],es,xs,h,hr=>by unfold CanAll at h;subst h;exact hr
 |y::b,es,xs,h,hr=>by
  obtain⟨c,l,rfl,g,f⟩:=h;obtain⟨v,d,e,k,j,i⟩:=hr;exact⟨v,d,e,k,RelC.enc g j,AU.plain f i⟩
section
variable {P:Program} {E:ah} {w0:WL} {M0:MM} {n:Nat} {st:St} {a:Act} {w w':World} {z:Cz}
theorem Aeq{G:Nat->List CV}{M:MM}{l:List CV}{vs:List Value}{T:List Nat}{H:Nat->Ob}{le:Do}(B:∀g,M g->g<w.heap.size)(C:GOk G w M)(D:l.length<=n)(h:RelL w M l vs)(x:n<=A9)(m:∀id,T.contains id=true->le.I id)(e:GC P w M z T H):
  SR P G {w with le:=le,L:=fun id g=>H id≠ .none/\blk (z.σ id)=some g} M n {fr:=(Ev l).fr,ob:=H} {tmps:=(⟨vs⟩:Array Value)++Array.replicate (n-(⟨vs⟩:Array Value).size) undef,defers:= []} w z:=by
 have q:=h.length
 have r:Bu w M w (A3 M z H):=⟨Nat.le_refl _,fun _ _ _=>rfl,fun g _ o=>by
  rcases o with o|⟨id,d,f⟩
  ·exact o
  ·exact(e.lo id g d f).2,e.al⟩
 refine⟨?_,rfl,⟨rfl,rfl,rfl,Nat.le_refl _,fun _ _ _=>rfl⟩,B,⟨fun id g p=>⟨(e.lo id g p.1 p.2).2,m id (e.only id p.1)⟩,e.told,fun _ _=>by rw[e.al],x⟩,C,fun i=> ?_,fun id=> ?_,fun id g d f=>⟨.inr ⟨d,f⟩,(e.lo id g d f).1⟩,e.apart⟩
 ·simp;omega
 ·simp only[Ev]
  cases hi:l[i]? with
  |none=>trivial
  |some c=>
   obtain⟨v,d,f⟩:=h.get hi
   have u:((⟨vs⟩:Array Value)++Array.replicate (n-(⟨vs⟩:Array Value).size) undef).getD i undef=v:=by
    have:i<vs.length:=(Af.1 d).1;rw[Ar,Array.getElem?_append_left (by simpa using this)];simp[d]
   show RelC w _ c _;simp only[u];exact RelC.keep r c v f
 ·exact Bg.keep r (fun _ _=>rfl) (fun cs _ s _=>⟨fun j t d=>d,fun j t d=>rfl,fun j t d k b A=>A⟩) (fun k b y=>y) (e.ob id)
def FW(st:St):Bj->Option CV
 | .tmp t=>closed (st.fr t)
 | .cell a sz=>(Bb st.ob sz (deref st.ob (st.fr a))).bind closed
def FX(st:St)(rs:List Bj):Option CV:=(A5 (FW st) rs).map F1
theorem Us{s:SV}{c:CV}(h:closed s=some c):s=.c c:=by
 cases s<;>first|(cases h;rfl)|cases h
theorem TU{G:Nat->List CV}(h:SR P G w0 M0 n st a w z){f:ResultVar->Sem Value}(m:∀rv,f rv=(match rv with| .tmp t=>pure (a.tmps.getD t undef)| .cell b t=>(asAddr (a.tmps.getD b undef)>>=fun C=>loadVar t C))):∀{g:List ResultVar} {d:List Bj} {cs:List CV},A5 (FE P) g=some d->A5 (FW st) d=some cs->
  ∃vs,(g.mapM f).run P w=.ok vs w/\RelL w (A3 M0 z st.ob) cs vs
 | [],d,cs,i,e=>by
  simp only[A5,Ac]at i;subst i;simp only[A5,Ac]at e;subst e;exact⟨[],by simp,RelL.nil⟩
 |rv::g,d,cs,i,e=>by
  simp only[A5,Ab,Aa]at i;obtain⟨s,j,D,l,rfl⟩:=i;simp only[A5,Ab,Aa]at e;obtain⟨c,q,B,o,rfl⟩:=e;obtain⟨vs,x,u⟩:=TU h m l o
  cases rv with
  |cell b t=>
   simp only[FE,Aa]at j;obtain⟨sz,k,rfl⟩:=j;simp only[FW,Ab]at q;obtain⟨sv,y,p⟩:=q;obtain⟨v,i,e⟩:=Uj h k y;rw[Us p]at e;refine⟨v::vs, ?_,RelL.cons e u⟩;have A:(f (.cell b t)).run P w=.ok v w:=by rw[m];exact i
   rw[List.mapM_cons];simp[A,x]
  |tmp t=>
   simp only[FE,Ac]at j;subst j;have r:=h.fr t;rw[Us q]at r;exact⟨a.tmps.getD t undef::vs,by rw[List.mapM_cons,m];simp[x],RelL.cons r u⟩
theorem Ahh{G:Nat->List CV}(h:SR P G w0 M0 n st a w z){fn:Func}{rs:List Bj}(p:A5 (FE P) fn.results.toList=some rs){c:CV}(k:FX st rs=some c):
  ∃v,(results fn a.tmps).run P w=.ok v w/\RelC w (A3 M0 z st.ob) c v:=by
 simp only[FX,Aa]at k;obtain⟨cs,i,rfl⟩:=k;obtain⟨vs,l,d⟩:=TU h (f:=fun rv=>match rv with| .tmp t=>pure (a.tmps.getD t undef)| .cell b t=>do loadVar t (<-asAddr (a.tmps.getD b undef))) (fun rv=>by cases rv<;>rfl) p i
 have o:(results fn a.tmps).run P w=.ok (if h:(⟨vs⟩:Array Value).size=1 then(⟨vs⟩:Array Value)[0]else .tuple ⟨vs⟩) w:=by
  have e:results fn a.tmps=(fn.results.mapM (fun rv=>match rv with| .tmp t=>pure (a.tmps.getD t undef)| .cell b t=>do loadVar t (<-asAddr (a.tmps.getD b undef)))>>=fun(vs:Array Value)=>pure (if h:vs.size=1 then vs[0]else .tuple vs)):=rfl;rw[e,Array.mapM_eq_mapM_toList];generalize (fun(rv:ResultVar)=>(match rv with| .tmp t=>pure (a.tmps.getD t undef)| .cell b t=>do loadVar t (<-asAddr (a.tmps.getD b undef)):Sem Value))=f at l;simp[l]
 refine⟨_,o, ?_⟩;have g:=d.length
 match cs,vs,d,g with
 | [],[],d,_=>
  simp only[F1];unfold RelC;exact⟨[],rfl,d⟩
 | [c],[v],d,_=>
  simp only[F1];unfold RelL at d;obtain⟨j,m,e,q,_⟩:=d;cases e;exact q
 |c::c'::cs,v::j::vs,d,_=>
  simp only[F1];unfold RelC;exact⟨v::j::vs,by simp,d⟩
theorem WF{T:Nat->Bool}{t:Ty}(h:t.names T=true):∀(b:List (D t)),AX T (b.map (enc t))=true
 | []=>rfl
 |y::b=>by simp only[List.map_cons,AX,Ag];exact⟨KA y h,WF h b⟩
theorem JS{Θ:TC}{θ:HS Θ}(g:au Θ=true)(i:ae Θ θ st){id:Nat}(h:Bo Θ θ id≠ .none):st.ob id≠ .none:=by
 simp only[au,Ag]at g;unfold Bo at h
 cases d:get Θ (.o id)with
 |none=>rw[d]at h;exact absurd rfl h
 |some q=>
  have r:=i.o id _ d;have c:=C0 g.2 (B0 d);obtain⟨k,f⟩:=q;cases k<;>(try cases c;done)
  case box n=>obtain⟨cs,b,_⟩:=r;rw[b];simp
  case arr e size t=>obtain⟨es,b,_⟩:=r;rw[b];simp
  case buf e=>have b:st.ob id=.buf e (f θ):=r;rw[b];simp
  case mob mt k v=>obtain⟨zc,ks,vs,b,_⟩:=r;rw[b];simp
theorem QV{M:MM}{ob:Nat->Ob}:∀{cs:List SV} {vs:List Value},AH w M z ob cs vs<->cs.length=vs.length/\∀(i:Nat) s v,cs[i]? =some s->vs[i]? =some v->AA w M z ob s v
 | [],vs=>by
  constructor
  ·intro h;cases (show vs= []from h);exact⟨rfl,fun i s v h=>by simp at h⟩
  ·intro h;exact List.length_eq_zero_iff.1 h.1.symm
 |c::cs,vs=>by
  constructor
  ·rintro⟨v,g,rfl,f,e⟩
   obtain⟨k,j⟩:=QV.1 e;refine⟨by simp[k],fun i s u d b=> ?_⟩
   cases i with
   |zero=>simp only[List.getElem?_cons_zero,Ac]at d b;rw[<-d,<-b];exact f
   |succ i=>simp only[List.getElem?_cons_succ]at d b;exact j i s u d b
  ·rintro⟨f,e⟩
   cases vs with
   |nil=>cases f
   |cons v vs=>exact⟨v,vs,rfl,e 0 c v rfl rfl,QV.2 ⟨by simpa using f,fun i s u d b=>e (i+1) s u (by simpa using d) (by simpa using b)⟩⟩
theorem Aa7{G:Nat->List CV}(h:SR P G w0 M0 n st a w z){Θ:TC}{θ:HS Θ}(R:au Θ=true)(Q:ae Θ θ st)(W:∀N,(AK Θ).contains N=true->w0.le.T N):
  Gf (AK Θ).contains w (A3 M0 z st.ob) w (A3 M0 {z with al:=M0.al} (Bo Θ θ))/\GC P w (A3 M0 {z with al:=M0.al} (Bo Θ θ)) {z with al:=M0.al} (AK Θ) (Bo Θ θ):=by
 have Z:Gf (AK Θ).contains w (A3 M0 z st.ob) w (A3 M0 {z with al:=M0.al} (Bo Θ θ)):=⟨Nat.le_refl _,fun _ _ _=>rfl,fun g _ x=>by
  rcases x with x|⟨id,C,S⟩
  ·exact .inl x
  ·exact .inr ⟨id,JS R Q C,S⟩,fun N hN=>(h.nam.names N (W N hN)).symm⟩
 refine⟨Z,fun id=> ?_,fun id g C S=>⟨(h.lo id g (JS R Q C) S).2,.inr ⟨id,C,S⟩⟩,fun i j g hij C S=>h.apart i j g hij (JS R Q C) (JS R Q S),fun N hN u=> ?_,fun id C=>UI C,rfl⟩
 ·have B:=R;simp only[au,Ag]at B;show Bg P w _ 0 _ _ id (z.σ id) (Bo Θ θ id);have d:=h.ob id
  cases x:get Θ (.o id)with
  |none=>unfold Bo;rw[x];trivial
  |some q=>
   have r:=Q.o id _ x;have b:=C0 B.2 (B0 x);obtain⟨k,f⟩:=q;cases k<;>(try cases b;done)
   case box m bt=>
    have M:Bo Θ θ id=.box ((List.range m).map (IA Θ θ id)) bt:=by unfold Bo;rw[x]
    rw[M];obtain⟨cs,A,hl,u⟩:=r;rw[A]at d;obtain⟨g,ty,vs,k1,k2,k3⟩:=d;refine⟨g,ty,vs,k1,k2, ?_⟩;rw[QV]at k3⊢;refine⟨by simp[<-k3.1,hl],fun i s v O hv=> ?_⟩;simp only[c7,Ag,As,Az]at b
    have hi:i<m:=by
     rw[List.getElem?_map,Aa]at O;obtain⟨_,O,_⟩:=O;have:=(Af.1 O).1;simpa using this
    have hs':s=IA Θ θ id i:=by
     simp[hi]at O;exact O.symm
    subst hs';have p:=b.2 i hi
    cases J:Cq Θ (.c id i)with
    |none=>rw[J]at p;cases p
    |some k'=>
     rw[J]at p;obtain⟨f',hf'⟩:=IG J;obtain⟨sv,g1,g2⟩:=u i _ hi hf';have V:=k3.2 i sv v g1 hv;unfold IA;rw[hf'];cases k'<;>(try cases p;done)
     case v t=>
      simp only[d5,Ag]at p;obtain⟨c,rfl,hc'⟩:=g2;exact RelC.named Z _ _ (KA _ p.2) (RelC.enc hc' V)
     case own K=>
      have e2:sv=.osl K:=g2;subst e2;simp only[d5,Ag]at p;refine⟨?_,V.2⟩;have h3:=p.2;split at h3<;>(try cases h3;done)
      ·rename_i e size t I;obtain⟨fk,L⟩:=IG I;unfold Bo;rw[L];simp
      ·rename_i e I;obtain⟨fk,L⟩:=IG I;unfold Bo;rw[L];simp
   case arr e size t=>
    have M:Bo Θ θ id=.arr e size ((f θ).map (enc t)):=by unfold Bo;rw[x]
    rw[M];obtain⟨es,A,u⟩:=r;rw[A]at d;obtain⟨xs,k1,k2⟩:=d;simp only[c7,Ag]at b;have Y:((f θ).map (enc t)).length=es.length:=by rw[List.length_map];exact u.length.symm
    exact⟨xs,by rw[Y];exact k1,AU.named Z (WF b.2 _) (AU.plain u k2)⟩
   case mob mt U v=>
    have M:Bo Θ θ id=.map mt (b3 U) (enc v (AT v)) ((f θ).map fun y=>enc U y.1) ((f θ).map fun y=>enc v y.2):=by unfold Bo;rw[x]
    rw[M];simp only[c7,Ag]at b;obtain⟨zc,ks,vs,A,cz,c1,c2⟩:=r;rw[A,Xf b.2.1.1.1 cz,QP (g:=fun y:D U×D v=>y.1) b.1.2.1.1.1 c1,QP (g:=fun y:D U×D v=>y.2) b.2.1.1.1 c2]at d
    have hn1:AX (AK Θ).contains ((f θ).map fun y=>enc U y.1)=true:=by
     generalize f θ=l
     induction l with
     |nil=>rfl
     |cons y l ih=>simp only[List.map_cons,AX,Ag];exact⟨KA _ b.1.2.2,ih⟩
    have hn2:AX (AK Θ).contains ((f θ).map fun y=>enc v y.2)=true:=by
     generalize f θ=l
     induction l with
     |nil=>rfl
     |cons y l ih=>simp only[List.map_cons,AX,Ag];exact⟨KA _ b.2.2,ih⟩
    obtain⟨hmt,ks',vs',r',ens,clk,F,e,g1,g2,g3,g4⟩:=d;exact⟨hmt,ks',vs',r',ens,clk,F,e,g1,RelL.named Z _ _ (E0.2 fun c u=>E0.1 hn1 c (F.ks.mem_iff.1 u)) g2,RelL.named Z _ _ (E0.2 fun c u=>E0.1 hn2 c (F.vs.mem_iff.1 u)) g3,g4⟩
   case buf e=>
    have M:Bo Θ θ id=.buf e (f θ):=by unfold Bo;rw[x]
    have A:st.ob id=.buf e (f θ):=r;rw[M];rw[A]at d;exact d
 ·have hne:Bo Θ θ N≠ .none:=fun e=>by rw[e]at u;cases u
  have hin:=UI (Θ:=Θ) (θ:=θ) (id:=N) hne;show z.σ N=CG N (M0.al N);rw[<-h.nam.names N (W N hin)];refine h.nam.told N hN ?_;have B:=R;simp only[au,Ag]at B;unfold Bo at u
  cases x:get Θ (.o N)with
  |none=>rw[x]at u;cases u
  |some q=>
   rw[x]at u;have r:=Q.o N _ x;obtain⟨k,f⟩:=q;cases k<;>(try cases u;done)
   case box n bt=>obtain⟨cs2,A,_⟩:=r;rw[A];rfl
   case mob mt k v=>obtain⟨zc,ks,vs,A,_⟩:=r;rw[A];rfl
def Ka(rs:List Bj)(t:Ty)(y:D t)(Θ:TC)(θ:HS Θ)(e:Ex)(st:St):Prop:=
 match e with
 | .exit _=>False
 |_=>∃c,FX st rs=some c/\Can t y [c]/\ae Θ θ st
theorem Abu(hE:aV P E){f:FuncId}{m:Hx}(r:Dq P f=some m){l:List CV}{t:Ty}{y:D t}{Θ:TC}{θ:HS Θ}{H:Nat->Ob}(L:l.length<=m.n)(C:au Θ=true)(B:t.names (AK Θ).contains=true)(h:CN (DA (some Θ)) E m.code (Ka m.res t y Θ θ) {fr:=(Ev l).fr,ob:=H}):
  hasBody P f=true/\F5 P E.G f (AK Θ) l H (enc t y) (Bo Θ θ):=by
 unfold Dq at r;split at r<;>(try cases r;done);rename_i S;refine⟨S, ?_⟩;simp only[Ab,Aa,Ae]at r;obtain⟨fn,Q,b,p,K,c,o,rs,s,rfl⟩:=r;intro w M z vs U W V q;refine calls_of_wp Q p (wp_mono (Gq hE rfl b o (Aeq (le:=DA (some Θ)) U W L V (Ai K) (fun id af=>af) q) h) fun e F w' k=> ?_);obtain⟨e',st',z',R,x,d⟩:=k;subst R
 have j:(∃c,FX st' rs=some c/\Can t y [c]/\ae Θ θ st')->F.defers= []/\∃v,(results fn F.tmps).run P w'=.ok v w'/\∃u z',Ending.returned v=.returned u/\(w'.os=w.os/\w'.tape=w.tape/\w'.output=w.output/\w.heap.size<=w'.heap.size/\∀g,g<w.heap.size->¬own z H g->w'.heap[g]? =w.heap[g]?)/\
   GC P w' (A3 M z' (Bo Θ θ)) z' (AK Θ) (Bo Θ θ)/\(∀id g,Bo Θ θ id≠ .none->blk (z'.σ id)=some g->(H id≠ .none/\blk (z.σ id)=some g)\/w.heap.size<=g)/\z'.al=M.al/\RelC w' (A3 M z' (Bo Θ θ)) (enc t y) u:=fun⟨c,hr,hcan,hrep⟩=>by
  obtain⟨v,Z,Y⟩:=Ahh d s hr;obtain⟨J,I⟩:=Aa7 d C hrep (fun N T=>T);refine⟨d.defers,v,Z,v,{z' with al:=M.al},rfl,⟨d.below.os,d.below.tape,d.below.output,d.below.size,fun g O A=>d.below.block g O fun id af=>A ⟨id,af.1,af.2⟩⟩,I,fun id g g1 g2=> ?_,rfl,RelC.named J _ _ (KA y B) (RelC.enc hcan Y)⟩;rcases(d.lo id g (JS C hrep g1) g2).1 with g3|g3
  ·exact .inr g3
  ·exact .inl g3
 cases e' with
 |normal=>exact j x
 |exit i=>exact x.elim
 |ret=>exact j x
theorem F5.to{G:Nat->List CV}{f:FuncId}{l:List CV}{r:CV}{i:Nat->Ob}(h:F5 P G f [] l (fun _=>.none) r i)(A:∀id,i id=.none):CallsTo P G f l (.val r):=by
 intro w M vs o q p;have b:GC P w M (z0 undef M.al) [] fun _=>.none:=⟨fun _=>trivial,fun _ _ h=>absurd rfl h,fun _ _ _ _ h=>absurd rfl h,fun _ _ h=>(by cases h),fun _ h=>absurd rfl h,rfl⟩;refine(h w M _ vs o q p b).mono fun e w' ⟨v,z',m,⟨y,x,u,t,s⟩,_,_,d,j⟩=> ?_;refine⟨v,m,⟨y,x,u,t,fun g c=>s g c fun⟨id,hh,_⟩=>hh rfl⟩, ?_⟩;have k:Bu w' (A3 M z' i) w' M:=⟨Nat.le_refl _,fun _ _ _=>rfl,fun _ _ c=>.inl c,d.symm⟩;exact RelC.keep k _ _ j
end
def Jh(X:TP)(Γ:TC):Bj->Option (Σ r:Ty,ab (HS Γ) (D r))
 | .tmp t=>ap Γ (.t t)
 | .cell a sz=>match b5 X.G Γ (.t a)with
  |some k=>match EG Γ [] sz (DI Γ [] k)with
   |some ⟨.v t,d⟩=>some ⟨t,d⟩
   |_=>none
  |none=>none
def Jg(X:TP)(Γ:TC):List Bj->Option (Σ r:Ty,ab (HS Γ) (D r))
 | []=>some ⟨.nil,.tot fun _=>()⟩
 | [x]=>match Jh X Γ x with
  |some q=>some ⟨.one q.1,q.2⟩
  |none=>none
 |x::y::xs=>match Jh X Γ x,Jg X Γ (y::xs)with
  |some q,some p=>some ⟨.cons q.1 p.1,q.2.both p.2⟩
  |_,_=>none
def NC(X:TP)(Γ:TC):List Bj->Option (Σ t:Ty,ab (HS Γ) (D t))
 | [x]=>Jh X Γ x
 |xs=>match Jg X Γ xs with
  |some q=>some ⟨.tup q.1,q.2⟩
  |none=>none
def cn(X:TP)(rs:List Bj)(b:Ty)(Θ Γ:TC):Option (cJ Γ (D b×HS Θ)):=
 match NC X Γ rs,Cm Γ Θ with
 |some q,some f=>match Bn q.1 b with
  |some g=>some ⟨D q.1,q.2,fun ρ v=>(g v,f ρ)⟩
  |none=>none
 |_,_=>none
section
variable {X:TP}
theorem QW{Γ:TC}{ρ:HS Γ}{st:St}(e:ae Γ ρ st){x:Bj}{q:Σ t:Ty,ab (HS Γ) (D t)}{y:D q.1}(h:Jh X Γ x=some q)(j:q.2.val ρ=some y):∃c,FW st x=some c/\Can q.1 y [c]:=by
 cases x with
 |tmp t=>
  have p:ap Γ (.t t)=some q:=h;obtain⟨c,i,g⟩:=AP (G:=X.G) p e j;have b:st.fr t=.c c:=i;exact⟨c,by simp[FW,b,closed],g⟩
 |cell a sz=>
  simp only[Jh]at h;split at h<;>(try cases h;done);rename_i k m;split at h<;>(try cases h;done);rename_i t d l;cases h;obtain⟨sv,i,c,g,o⟩:=Kr (msk:= []) (rd:=st.ob) (sv:=deref st.ob (so X.G st.fr (.t a))) e (fun _ _=>rfl) l j (fun x f=>I8 e (fun _ _=>rfl) (fun x f=>Bf m e f) f (Kq l));subst g;refine⟨c, ?_,o⟩;have b:Bb st.ob sz (deref st.ob (st.fr a))=some (.c c):=i;simp[FW,b,closed]
theorem QX{Γ:TC}{ρ:HS Γ}{st:St}(d:ae Γ ρ st):∀{xs:List Bj} {q:Σ t:Ty,ab (HS Γ) (D t)} {y:D q.1},Jg X Γ xs=some q->q.2.val ρ=some y->∃l,A5 (FW st) xs=some l/\Can q.1 y l
 | [],q,y,h,hy=>by
  simp only[Jg,Ac]at h;subst h;exact⟨[],rfl,by unfold Can;rfl⟩
 | [x],q,y,h,hy=>by
  simp only[Jg]at h;split at h<;>(try cases h;done);rename_i p g;cases h;obtain⟨c,j,i⟩:=QW d g hy;exact⟨[c],by simp[A5,j],by unfold Can;exact⟨c,rfl,i⟩⟩
 |x::z::xs,q,y,h,hy=>by
  simp only[Jg]at h;split at h<;>(try cases h;done);rename_i p s g f;cases h;obtain⟨r,o⟩:=ab.both_val hy;obtain⟨c,j,i⟩:=QW d g r;obtain⟨l,m,k⟩:=QX d f o;refine⟨c::l, ?_,by unfold Can;exact⟨c,l,rfl,i,k⟩⟩;have e:A5 (FW st) (x::z::xs)=(FW st x).bind fun b=>(A5 (FW st) (z::xs)).map fun bs=>b::bs:=rfl;rw[e,j,m];rfl
theorem Ahf{Γ:TC}{ρ:HS Γ}{st:St}(i:ae Γ ρ st){xs:List Bj}{q:Σ t:Ty,ab (HS Γ) (D t)}{y:D q.1}(h:NC X Γ xs=some q)(g:q.2.val ρ=some y):∃c,FX st xs=some c/\Can q.1 y [c]:=by
 match xs,h with
 | [x],h=>
  have k:Jh X Γ x=some q:=by cases x<;>exact h
  obtain⟨c,b,f⟩:=QW i k g;exact⟨c,by simp[FX,A5,b,F1],f⟩
 | [],h=>
  simp only[NC]at h;split at h<;>(try cases h;done);rename_i p j;cases h;obtain⟨l,b,f⟩:=QX i j g;simp only[A5,Ac]at b;subst b;exact⟨.tup [],rfl,by unfold Can;exact⟨[],rfl,f⟩⟩
 |x::z::xs,h=>
  simp only[NC]at h;split at h<;>(try cases h;done);rename_i p j;cases h;obtain⟨l,b,f⟩:=QX i j g;have e:=DF b;refine⟨.tup l, ?_,by unfold Can;exact⟨l,rfl,f⟩⟩;simp only[FX,b,Aq]
  match l,e with
  |c::d::l,_=>rfl
end
theorem Ahb{X:TP}{rs:List Bj}{b:Ty}{Θ Γ:TC}{q:cJ Γ (D b×HS Θ)}{ρ:HS Γ}{st:St}(h:cn X rs b Θ Γ=some q)(e:ae Γ ρ st){v:q.B}(i:q.d.val ρ=some v):∃c,FX st rs=some c/\Can b (q.up ρ v).1 [c]/\ae Θ (q.up ρ v).2 st:=by
 unfold cn at h;split at h<;>(try cases h;done);rename_i p f j l;split at h<;>(try cases h;done);rename_i g k;cases h;obtain⟨c,o,m⟩:=Ahf e j i;exact⟨c,o,CA _ _ k m,CY l e⟩
theorem Aeu{rs:List Bj}{b:Ty}{y:D b}(h:kN rs b=some y)(st:St):∃c,FX st rs=some c/\Can b y [c]:=by
 unfold kN at h;split at h
 ·exact⟨.tup [],rfl,by unfold Can;exact⟨[],rfl,by unfold Can;rfl⟩⟩
 ·cases h
def IE(X:TP)(a b:Ty)(Θ:TC)(m:AF):Option (D a->HS Θ->Option (D b×HS Θ)):=
 match den {X with Θ:=some Θ} (D b×HS Θ) (cn X m.res b Θ) m.code (D b×HS Θ) [] Θ (Ek a 0++Θ)with
 |some d=>some fun x θ=>d (CK (Ek a 0) (Ii a 0 x) θ) ⟨fun c=>(kN m.res b).map fun y=>(y,c),(),fun y=>some y⟩
 |none=>none
theorem Yt{a:Ty}{i:Nat}{p:aw}(h:p∈(Ek a i).map (·.1)):∃j,p=.s j:=by
 induction a generalizing i with
 |one t _=>simp[Ek]at h;exact⟨_,h⟩
 |cons t r _ ih=>
  simp only[Ek,List.map_cons,List.mem_cons]at h;rcases h with h|h
  ·exact⟨_,h⟩
  ·exact ih h
 |_=>simp[Ek]at h
theorem Aer{a:Ty}{x:D a}{l:List CV}{Θ:TC}{θ:HS Θ}{H:Nat->Ob}{fr:Nat->SV}(A:Can a x l)(t:au Θ=true)(u:ae Θ θ {fr:=fr,ob:=H}):ae (Ek a 0++Θ) (CK (Ek a 0) (Ii a 0 x) θ) {fr:=(Ev l).fr,ob:=H}:=by
 simp only[au,Ag]at t;refine⟨fun i q d=> ?_,fun id q d=> ?_⟩
 ·rcases DJ d with⟨_,f,b,e⟩|⟨_,f,b,e⟩
  ·rw[e];exact(VE A).s i _ b
  ·have:=C0 t.2 (B0 b);obtain⟨k,B⟩:=q;cases k<;>cases this
 ·rcases DJ d with⟨p,_⟩|⟨_,f,b,e⟩
  ·obtain⟨j,h⟩:=Yt p;cases h
  ·rw[e];have r:=u.o id _ b;obtain⟨k,B⟩:=q;cases k<;>try exact r
   obtain⟨cs,F,v,y⟩:=r;refine⟨cs,F,v,fun j G h c=> ?_⟩;rcases DJ c with⟨p,_⟩|⟨_,J,m,C⟩
   ·obtain⟨I,g⟩:=Yt p;cases g
   ·rw[C];exact y j _ h m
theorem Vz{P:Program}{X:TP}{E:ah}(hE:aV P E)(hT:aG X E)(O:BR X E){a j:Ty}{Θ:TC}{m:AF}{g:D a->HS Θ->Option (D j×HS Θ)}(h:IE X a j Θ m=some g){f:FuncId}(N:Dq P f=some ⟨m.n,erase m.code,m.res⟩){k:Nat}(K:Bc a=some k)(L:k<=m.n)(C:au Θ=true)(t:j.names (AK Θ).contains=true)
  {x:D a} {l:List CV} {θ o:HS Θ} {y:D j} {H:Nat->Ob} {fr:Nat->SV} (B:Can a x l) (J:ae Θ θ {fr:=fr,ob:=H}) (I:g x θ=some (y,o)):hasBody P f=true/\F5 P E.G f (AK Θ) l H (enc j y) (Bo Θ o):=by
 unfold IE at h;split at h<;>(try cases h;done);rename_i d M;cases h;have u:aG {X with Θ:=some Θ} E:=⟨hT.G,hT.cp,hT.fn,hT.ef,hT.nw,hT.hi,hT.srt⟩;refine Abu hE N (by rw[Fe K B];exact L) C t (CT _ (fun e st r=> ?_) (UD u O (RP:=fun st p=>∃c,FX st m.res=some c/\Can j p.1 [c]/\ae Θ p.2 st) (fun b A _ q=>Ahb b A q) m.code M (Aer B C J) I))
 cases e with
 |normal=>
  obtain⟨ρ,b,A⟩:=r;obtain⟨T,q,S⟩:=Aa.1 A;cases S;obtain⟨c,R,Q⟩:=Aeu q st;exact⟨c,R,Q,b⟩
 |exit i=>
  obtain⟨F,s,ρ,b,_⟩:=r;cases b
 |ret=>
  obtain⟨v,b,q⟩:=r;cases q;exact b
def MB(X:TP)(a b:Ty)(m:AF):Option (D a->Option (D b)):=
 match den X (D b) (dI X m.res b) m.code (D b) [] [] (Ek a 0)with
 |some d=>some fun x=>d (Ii a 0 x) ⟨fun _=>kN m.res b,(),fun y=>some y⟩
 |none=>none
theorem Ab3{P:Program}{X:TP}{E:ah}(hE:aV P E)(hT:aG X E)(J:BR X E)(j:DA X.Θ=.no){a b:Ty}{m:AF}{g:D a->Option (D b)}(h:MB X a b m=some g){f:FuncId}(I:Dq P f=some ⟨m.n,erase m.code,m.res⟩){k:Nat}(B:Bc a=some k)(C:k<=m.n)
  {x:D a} {l:List CV} {y:D b} (r:Can a x l) (A:g x=some y) (t:(b.val&&b.ok)=true:=by rfl):hasBody P f=true/\CallsTo P E.G f l (.val (enc b y)):=by
 simp only[Ag]at t;unfold MB at h;split at h<;>(try cases h;done);rename_i d F;cases h;refine Abv hE I (by rw[Fe B r];exact C) (j▸CT _ (fun e st o=> ?_) (UD hT J (RP:=fun st v=>Gg st m.res _ v) (fun c q _ p=>Ahc c q p) m.code F (VE r) A))
 cases e with
 |normal=>
  obtain⟨ρ,_,q⟩:=o;exact Aet q st
 |exit i=>
  obtain⟨u,s,ρ,c,_⟩:=o;cases c
 |ret=>
  obtain⟨v,c,p⟩:=o;cases p;exact Gg.of t.1 c
structure TB where
 G:Nat->List CV
 TT:Nat->Option Ty
 TM:Nat->Option (Ty×Ty)
 cp:FuncId->Bool:=fun _=>false
 srt:FuncId->FuncId->Option L3:=fun _ _=>none
def lookS:List (FuncId×Sig)->FuncId->Option Sig
 | [],_=>none
 |e::L,f=>if e.1=f then some e.2 else lookS L f
def IP:List (FuncId×SigE)->FuncId->Option SigE
 | [],_=>none
 |e::L,f=>if e.1=f then some e.2 else IP L f
def Ty.isNw:Ty->Bool
 | .nw _ _ _=>true
 |_=>false
def tp(B:TB)(L:List (FuncId×Sig))(LE:List (FuncId×SigE)):TP where
 G:=B.G
 T:=fun f=>match lookS L f with
  |some s=>match s.r.isNw with
   |true=>none
   |false=>some s
  |none=>none
 TT:=B.TT
 TM:=B.TM
 cp:=B.cp
 srt:=B.srt
 TN:=fun f=>match lookS L f with
  |some s=>match s.r.isNw with
   |true=>some s
   |false=>none
  |none=>none
 TE:=fun f=>match lookS L f with
  |some _=>none
  |none=>IP LE f
theorem Hr{B:TB}{L:List (FuncId×Sig)}{LE:List (FuncId×SigE)}{f:FuncId}{s:Sig}:(tp B L LE).T f=some s<->lookS L f=some s/\s.r.isNw=false:=by
 show(match lookS L f with
  |some s=>match s.r.isNw with
   |true=>none
   |false=>some s
  |none=>none)=some s<->_
 cases h:lookS L f with
 |none=>simp
 |some s'=>cases b:s'.r.isNw with
  |true=>
   simp only[b,Ac];exact⟨fun e=>(by cases e),fun e=>by rw[e.1]at b;rw[b]at e;cases e.2⟩
  |false=>
   simp only[b,Ac];exact⟨fun e=>⟨e,e▸b⟩,fun e=>e.1⟩
theorem Jt{B:TB}{L:List (FuncId×Sig)}{LE:List (FuncId×SigE)}{f:FuncId}{s:Sig}:(tp B L LE).TN f=some s<->lookS L f=some s/\s.r.isNw=true:=by
 show(match lookS L f with
  |some s=>match s.r.isNw with
   |true=>some s
   |false=>none
  |none=>none)=some s<->_
 cases h:lookS L f with
 |none=>simp
 |some s'=>cases b:s'.r.isNw with
  |false=>
   simp only[b,Ac];exact⟨fun e=>(by cases e),fun e=>by rw[e.1]at b;rw[b]at e;cases e.2⟩
  |true=>
   simp only[b,Ac];exact⟨fun e=>⟨e,e▸b⟩,fun e=>e.1⟩
theorem Oj{B:TB}{L:List (FuncId×Sig)}{LE:List (FuncId×SigE)}{f:FuncId}{s:SigE}:(tp B L LE).TE f=some s<->lookS L f=none/\IP LE f=some s:=by
 show(match lookS L f with
  |some _=>none
  |none=>IP LE f)=some s<->_
 cases h:lookS L f with
 |none=>simp
 |some s'=>simp
open Classical in
def FL(s:SigE):bL:=⟨AK s.Θ,fun l H=>if h:∃p:D s.a×HS s.Θ,Can s.a p.1 l/\ae s.Θ p.2 {fr:=fun _=>.undef,ob:=H}then(s.fn (choose h).1 (choose h).2).map fun q=>(enc s.r q.1,Bo s.Θ q.2)else none⟩
theorem Aaw{s:SigE}(h:au s.Θ=true){x:D s.a}{l:List CV}{θ:HS s.Θ}{H:Nat->Ob}{y:D s.r}{b:HS s.Θ}(c:Can s.a x l)(d:ae s.Θ θ {fr:=fun _=>.undef,ob:=H})(g:s.fn x θ=some (y,b)):(FL s).fn l H=some (enc s.r y,Bo s.Θ b):=by
 have e:∃p:D s.a×HS s.Θ,Can s.a p.1 l/\ae s.Θ p.2 {fr:=fun _=>.undef,ob:=H}:=⟨(x,θ),c,d⟩;have f:=Classical.choose_spec e;simp only[FL,dif_pos e];rw[Can.uniq s.a f.1 c,ae.uniq h rfl f.2 d,g];rfl
theorem Aax{s:SigE}{l:List CV}{H:Nat->Ob}{r:CV}{d:Nat->Ob}(h:(FL s).fn l H=some (r,d)):∃x θ y b,Can s.a x l/\ae s.Θ θ {fr:=fun _=>.undef,ob:=H}/\s.fn x θ=some (y,b)/\r=enc s.r y/\d=Bo s.Θ b:=by
 simp only[FL]at h;split at h<;>(try cases h;done);rename_i c;obtain⟨⟨y,b⟩,f,e⟩:=Aa.1 h;cases e;exact⟨_,_,y,b,(Classical.choose_spec c).1,(Classical.choose_spec c).2,f,rfl,rfl⟩
open Classical in
def Du(X:TP):ah:={G:=X.G,cp:=X.cp,srt:=fun f g e size es=>match X.srt f g with|some s=>if h:(e=s.e/\size=s.size)/\∃xs,CanAll (fun x c=>Can s.t x [c]) xs es then(s.fn (choose h.2)).map fun b=>b.map (enc s.t)else none|none=>none,ef:=fun f=>(X.TE f).map FL,fn:=fun f l=>match X.T f with
 |some s=>if h:∃x,Can s.a x l then(s.fn (choose h)).map fun y=>.val (enc s.r y)else none
 |none=>match X.TN f with
  |some ⟨a,.nw e size t,fn⟩=>if h:∃x,Can a x l then(fn (choose h)).map fun y=>.new (.arr e size (y.map (enc t)))else none
  |_=>none}
theorem P2{X:TP}{f:FuncId}{s:Sig}(e:X.T f=some s){x:D s.a}{l:List CV}{y:D s.r}(b:Can s.a x l)(d:s.fn x=some y):(Du X).fn f l=some (.val (enc s.r y)):=by
 have c:∃x,Can s.a x l:=⟨x,b⟩;simp only[Du,e,dif_pos c];rw[Can.uniq s.a (Classical.choose_spec c) b,d];rfl
theorem M1{X:TP}{f:FuncId}{a:Ty}{e size:Nat}{t:Ty}{fn:D a->Option (D (.nw e size t))}(h:X.T f=none)(g:X.TN f=some ⟨a,.nw e size t,fn⟩){x:D a}{l:List CV}{y:List (D t)}(b:Can a x l)(d:fn x=some y):(Du X).fn f l=some (.new (.arr e size (y.map (enc t)))):=by
 have c:∃x,Can a x l:=⟨x,b⟩;simp only[Du,h,g,dif_pos c];rw[Can.uniq a (Classical.choose_spec c) b,d];rfl
theorem UK{X:TP}{f:FuncId}{l:List CV}{r:bh}(h:(Du X).fn f l=some r):
  (∃s x y,X.T f=some s/\Can s.a x l/\s.fn x=some y/\r=.val (enc s.r y))\/
  (X.T f=none/\∃(a:Ty) (e size:Nat) (t:Ty) (fn:D a->Option (D (.nw e size t))) (x:D a) (y:List (D t)),X.TN f=some ⟨a,.nw e size t,fn⟩/\Can a x l/\fn x=some y/\r=.new (.arr e size (y.map (enc t)))):=by
 simp only[Du]at h;split at h
 ·rename_i s b;split at h<;>(try cases h;done);rename_i c;obtain⟨y,g,d⟩:=Aa.1 h;exact .inl ⟨s,_,y,b,Classical.choose_spec c,g,d.symm⟩
 ·rename_i i;split at h<;>(try cases h;done);rename_i a e size t fn b;split at h<;>(try cases h;done);rename_i c;obtain⟨y,g,d⟩:=Aa.1 h;exact .inr ⟨i,a,e,size,t,fn,_,y,b,Classical.choose_spec c,g,d.symm⟩
structure RQ (P:Program) (G:Nat->List CV) (f:FuncId) (s:SigE):Prop where
 rv:s.r.val=true
 rok:s.r.ok=true
 hi:((AK s.Θ).all fun N=>Nat.ble A9 N)=true
 ok:au s.Θ=true
 body:hasBody P ((mvOf f).getD f)=true
 calls:∀x l θ H y θ',Can s.a x l->ae s.Θ θ {fr:=fun _=>.undef,ob:=H}->s.fn x θ=some (y,θ')->F6 P G f (AK s.Θ) l H (enc s.r y) (Bo s.Θ θ')
theorem F6.of{P:Program}{G:Nat->List CV}{f:FuncId}{T:List Nat}{l:List CV}{H b:Nat->Ob}{r:CV}(c:hasBody P f=true)(h:F5 P G f T l H r b):F6 P G f T l H r b:=by
 unfold F6;rw[IJ c];exact h
theorem F6.to{P:Program}{G:Nat->List CV}{f:FuncId}{T:List Nat}{l:List CV}{H b:Nat->Ob}{r:CV}(c:hasBody P f=true)(h:F6 P G f T l H r b):F5 P G f T l H r b:=by
 unfold F6 at h;rw[IJ c]at h;exact h
def E8(P:Program)(G:Nat->List CV)(X:TP):Prop:=∀f s,X.TE f=some s->RQ P G f s
theorem E8.ef{P:Program}{X:TP}(h:E8 P X.G X):RN P (Du X):=fun f e g=>by
 obtain⟨s,c,rfl⟩:=Aa.1 g;have k:=h f s c;refine⟨k.body,fun args H r m d=> ?_⟩;obtain⟨x,θ,y,b,l,j,i,rfl,rfl⟩:=Aax d;exact k.calls x args θ H y b l j i
theorem E8.te{P:Program}{X:TP}(h:E8 P X.G X):BR X (Du X):=fun f s b=>by
 have k:=h f s b;have e:(Du X).ef f=some (FL s):=by show(X.TE f).map FL=_;rw[b];rfl
 exact⟨⟨k.rv,k.hi⟩,k.rok,FL s,e,rfl,fun x l θ H y c g i d=>Aaw k.ok g i d⟩
structure GoodT (P:Program) (B:TB) (L:List (FuncId×Sig)) (LE:List (FuncId×SigE)):Prop where
 E:aV P (Du (tp B L LE))
 T:aG (tp B L LE) (Du (tp B L LE))
 F:E8 P B.G (tp B L LE)
theorem GoodT.TE{P:Program}{B:TB}{L:List (FuncId×Sig)}{LE:List (FuncId×SigE)}(h:GoodT P B L LE):BR (tp B L LE) (Du (tp B L LE)):=E8.te (X:=tp B L LE) h.F
theorem R7{B:TB}{L:List (FuncId×Sig)}{LE:List (FuncId×SigE)}(f:FuncId)(h:((tp B L LE).T f).isSome=true\/((tp B L LE).TN f).isSome=true):(Du (tp B L LE)).ef f=none:=by
 have:∃s,lookS L f=some s:=by
  rcases h with h|h<;>obtain⟨s,b⟩:=Option.isSome_iff_exists.1 h
  ·exact⟨s,(Hr.1 b).1⟩
  ·exact⟨s,(Jt.1 b).1⟩
 obtain⟨s,b⟩:=this
 show((match lookS L f with
  |some _=>none
  |none=>IP LE f):Option SigE).map FL=none
 rw[b];rfl
theorem E8.hiE{P:Program}{G:Nat->List CV}{X:TP}(h:E8 P G X):bC (Du X):=by
 intro f e b;have b:(X.TE f).map FL=some e:=b;obtain⟨s,c,rfl⟩:=Aa.1 b;exact(h f s c).hi
theorem CanAll.encs{t:Ty}(d:t.val=true)(e:t.ok=true):∀(b:List (D t)),CanAll (fun x c=>Can t x [c]) b (b.map (enc t))
 | []=>rfl
 |y::b=>⟨_,_,rfl,Can.enc y d e,CanAll.encs d e b⟩
def Io(P:Program)(srt:FuncId->FuncId->Option L3):Prop:=∀f g s,srt f g=some s->(s.t.val&&s.t.ok)=true/\hasBody P f=true/\(P.info? s.e).isSome=true/\mvOf g=none/\
 ∀xs es b,CanAll (fun x c=>Can s.t x [c]) xs es->s.fn xs=some b->SortC P f g s.e s.size es (b.map (enc s.t))
theorem CanAll.uniqT{t:Ty}:∀{xs b:List (D t)} {es:List CV},CanAll (fun x c=>Can t x [c]) xs es->CanAll (fun x c=>Can t x [c]) b es->xs=b
 | [],b,es,h,k=>by
  unfold CanAll at h;subst h;exact(Aw k.length.symm).symm
 |x::xs,[],es,h,k=>by
  obtain⟨c,cs,rfl,_,_⟩:=h;unfold CanAll at k;cases k
 |x::xs,y::b,es,h,k=>by
  obtain⟨c,cs,rfl,i,g⟩:=h;obtain⟨l,j,e,f,d⟩:=k;cases e;rw[Can.uniq t i f,CanAll.uniqT g d]
theorem Io.env{P:Program}{X:TP}(h:Io P X.srt):Tz P (Du X).srt:=by
 intro f g e size es o b;simp only[Du]at b;split at b<;>(try cases b;done);rename_i s d;split at b<;>(try cases b;done);rename_i c;obtain⟨p,m,rfl⟩:=Aa.1 b;obtain⟨q,l,k,j,i⟩:=h f g s d;obtain⟨⟨rfl,rfl⟩,c⟩:=c;exact⟨l,k,j,i _ _ _ (Classical.choose_spec c) m⟩
theorem Io.tok{P:Program}{X:TP}(h:Io P X.srt):∀f g s,X.srt f g=some s->∀xs es b,CanAll (fun x c=>Can s.t x [c]) xs es->s.fn xs=some b->∃d,(Du X).srt f g s.e s.size es=some d/\CanAll (fun x c=>Can s.t x [c]) b d:=by
 intro f g s k xs es b j m;obtain⟨i,_⟩:=h f g s k;rw[Ag]at i;have l:∃xs,CanAll (fun x c=>Can s.t x [c]) xs es:=⟨xs,j⟩;refine⟨b.map (enc s.t), ?_,CanAll.encs i.1 i.2 b⟩;simp only[Du,k];rw[dif_pos ⟨⟨rfl,rfl⟩,l⟩,CanAll.uniqT (Classical.choose_spec l) j,m];rfl
theorem GoodT.nil(P:Program)(B:TB)(c:OD P B.cp:=by intro f h;cases h)(b:Io P B.srt:=by intro f g s h;cases h):GoodT P B [] []:=by
 refine⟨⟨fun f l r h=> ?_,c,(fun f e h=>by cases h),b.env (X:=tp B [] [])⟩,⟨rfl,rfl,fun f s h=> ?_,fun f h=>R7 f h,fun f a e size t fn h=> ?_,(E8.hiE (P:=P) (G:=B.G) (X:=tp B [] []) fun f s h=>by cases h),b.tok (X:=tp B [] [])⟩,fun f s h=>by cases h⟩
 ·rcases UK h with⟨s,x,y,d,_⟩|⟨_,_,_,_,_,_,_,_,d,_⟩<;>cases d
 ·cases h
 ·cases h
def In(P:Program)(G:Nat->List CV)(f:FuncId):Sig->Prop
 |⟨a,.nw e size t,fn⟩=>(t.val&&t.ok)=true/\∀x l (y:List (D t)),Can a x l->fn x=some y->hasBody P f=true/\CallsTo P G f l (.new (.arr e size (y.map (enc t))))
 |s=>(s.r.val&&s.r.ok)=true/\∀x l y,Can s.a x l->s.fn x=some y->hasBody P f=true/\CallsTo P G f l (.val (enc s.r y))
theorem In.val{P:Program}{G:Nat->List CV}{f:FuncId}{s:Sig}(h:In P G f s)(b:s.r.isNw=false):(s.r.val&&s.r.ok)=true/\∀x l y,Can s.a x l->s.fn x=some y->hasBody P f=true/\CallsTo P G f l (.val (enc s.r y)):=by
 obtain⟨a,r,fn⟩:=s;cases r<;>first|exact h|cases b
theorem In.mk{P:Program}{G:Nat->List CV}{f:FuncId}{s:Sig}(b:(s.r.val&&s.r.ok)=true)(h:∀x l y,Can s.a x l->s.fn x=some y->hasBody P f=true/\CallsTo P G f l (.val (enc s.r y))):In P G f s:=by
 obtain⟨a,r,fn⟩:=s;cases r<;>first|exact⟨b,h⟩|cases b
theorem MG{B:TB}{L:List (FuncId×Sig)}{LE:List (FuncId×SigE)}{f:FuncId}{s:Sig}(h:(tp B L LE).TN f=some s):(tp B L LE).T f=none:=by
 obtain⟨e,d⟩:=Jt.1 h
 cases hT:(tp B L LE).T f with
 |none=>rfl
 |some s'=>
  obtain⟨c,b⟩:=Hr.1 hT;rw[e]at c;cases c;rw[d]at b;cases b
theorem GoodT.addS{P:Program}{B:TB}{L:List (FuncId×Sig)}{LE:List (FuncId×SigE)}(h:GoodT P B L LE)(f:FuncId)(s:Sig)(v:In P B.G f s):GoodT P B ((f,s)::L) LE:=by
 have key:∀g s',lookS ((f,s)::L) g=some s'->(g=f/\s'=s)\/lookS L g=some s':=fun g s' q=>by
  unfold lookS at q;by_cases e:f=g
  ·simp only[e,if_true,Ac]at q;exact .inl ⟨e.symm,q.symm⟩
  ·simp only[e,if_false]at q;exact .inr q
 have C:E8 P B.G (tp B ((f,s)::L) LE):=fun g s' b=>by
  obtain⟨i,m⟩:=Oj.1 b;refine h.F g s' (Oj.2 ⟨?_,m⟩);unfold lookS at i;split at i
  ·cases i
  ·exact i
 refine⟨⟨fun g l r O=> ?_,h.E.cp,E8.ef (X:=tp B ((f,s)::L) LE) C,h.E.srt⟩,⟨rfl,rfl,fun g s' b=> ?_,fun f h=>R7 f h,fun g a e size t fn b=> ?_,C.hiE,h.T.srt⟩,C⟩
 ·rcases UK O with⟨s',x,y,i,m,u,rfl⟩|⟨Q,a,e,size,t,fn,x,y,i,m,u,rfl⟩
  ·obtain⟨o,c⟩:=Hr.1 i;rcases key g s' o with⟨rfl,rfl⟩|g3
   ·exact(v.val c).2 x l y m u
   ·exact h.E.1 g l _ (P2 (X:=tp B L LE) (Hr.2 ⟨g3,c⟩) m u)
  ·obtain⟨o,c⟩:=Jt.1 i;rcases key g _ o with⟨rfl,D⟩|g3
   ·subst D;exact v.2 x l y m u
   ·have p:(tp B L LE).TN g=some ⟨a,.nw e size t,fn⟩:=Jt.2 ⟨g3,c⟩;exact h.E.1 g l _ (M1 (X:=tp B L LE) (MG p) p m u)
 ·obtain⟨o,c⟩:=Hr.1 b
  refine⟨?_, ?_,fun x l y k j=>P2 b k j⟩<;>
  ·rcases key g s' o with⟨rfl,rfl⟩|g3
   ·have:=(v.val c).1;simp only[Ag]at this;first|exact this.1|exact this.2
   ·first|exact(h.T.fn g s' (Hr.2 ⟨g3,c⟩)).1|exact(h.T.fn g s' (Hr.2 ⟨g3,c⟩)).2.1
 ·obtain⟨o,c⟩:=Jt.1 b;rcases key g _ o with⟨rfl,D⟩|g3
  ·subst D;have d:=v.1;simp only[Ag]at d;exact⟨d.1,fun x l A k j=>⟨_,M1 (MG b) b k j,CanAll.encs d.1 d.2 A⟩⟩
  ·have p:(tp B L LE).TN g=some ⟨a,.nw e size t,fn⟩:=Jt.2 ⟨g3,c⟩;obtain⟨N,M⟩:=h.T.nw g a e size t fn p;refine⟨N,fun x l A k j=>⟨_,M1 (MG b) b k j, ?_⟩⟩;obtain⟨es,I,K⟩:=M x l A k j;have J:=M1 (X:=tp B L LE) (MG p) p k j;rw[J]at I;cases I;exact K
theorem GoodT.addM{P:Program}{B:TB}{L:List (FuncId×Sig)}{LE:List (FuncId×SigE)}(h:GoodT P B L LE)(f:FuncId)(s:Sig)(b:(s.r.val&&s.r.ok)=true)(c:∀x l y,Can s.a x l->s.fn x=some y->hasBody P f=true/\CallsTo P B.G f l (.val (enc s.r y))):GoodT P B ((f,s)::L) LE:=
 h.addS f s (In.mk b c)
theorem GoodT.add{P:Program}{B:TB}{L:List (FuncId×Sig)}{LE:List (FuncId×SigE)}(h:GoodT P B L LE)(f:FuncId)(s:Sig)(m:AF)(j:Dq P f=some ⟨m.n,erase m.code,m.res⟩)(i:MB (tp B L LE) s.a s.r m=some s.fn){k:Nat}(e:Bc s.a=some k)(g:Nat.ble k m.n=true)(b:(s.r.val&&s.r.ok)=true):GoodT P B ((f,s)::L) LE:=
 h.addM f s b fun _ _ _ d c=>Ab3 h.E h.T h.TE rfl i j e (Ai g) d c b
theorem GoodT.call{P:Program}{B:TB}{L:List (FuncId×Sig)}{LE:List (FuncId×SigE)}(h:GoodT P B L LE){f:FuncId}{s:Sig}(d:lookS L f=some s){x:D s.a}{l:List CV}{y:D s.r}(c:Can s.a x l)(b:s.fn x=some y)(e:s.r.isNw=false:=by rfl):CallsTo P B.G f l (.val (enc s.r y)):=
 (h.E.1 f l _ (P2 (X:=tp B L LE) (Hr.2 ⟨d,e⟩) c b)).2
theorem GoodT.addEM{P:Program}{B:TB}{L:List (FuncId×Sig)}{LE:List (FuncId×SigE)}(h:GoodT P B L LE)(f:FuncId)(s:SigE)(i:RQ P B.G f s):GoodT P B L ((f,s)::LE):=by
 have d:E8 P B.G (tp B L ((f,s)::LE)):=fun g s' b=>by
  obtain⟨k,c⟩:=Oj.1 b;unfold IP at c;split at c
  ·rename_i e;have m:f=g:=e;cases c;rw[<-m];exact i
  ·exact h.F g s' (Oj.2 ⟨k,c⟩)
 exact⟨⟨fun g l r j=>h.E.fn g l r j,h.E.cp,E8.ef (X:=tp B L ((f,s)::LE)) d,h.E.srt⟩,⟨rfl,rfl,fun g s' b=>h.T.fn g s' b,fun f h=>R7 f h,fun g a e size t fn b=>h.T.nw g a e size t fn b,d.hiE,h.T.srt⟩,d⟩
theorem Mm{P:Program}{f:FuncId}{m:Hx}(h:Dq P f=some m):hasBody P f=true:=by
 unfold Dq at h;split at h<;>(try cases h;done);rename_i b;exact b
theorem GoodT.addE{P:Program}{B:TB}{L:List (FuncId×Sig)}{LE:List (FuncId×SigE)}(h:GoodT P B L LE)(f:FuncId)(s:SigE)(m:AF){k:Nat}(j:Bc s.a=some k)(o:Nat.ble k m.n=true)(b:(s.r.val&&s.r.ok&&au s.Θ&&s.r.names (AK s.Θ).contains&&(AK s.Θ).all fun N=>Nat.ble A9 N)=true)(c:Dq P f=some ⟨m.n,erase m.code,m.res⟩)(p:IE (tp B L LE) s.a s.r s.Θ m=some s.fn):GoodT P B L ((f,s)::LE):=by
 simp only[Ag]at b;exact h.addEM f s ⟨b.1.1.1.1,b.1.1.1.2,b.2,b.1.1.2,by rw[IJ (Mm c)];exact Mm c,fun x l θ H y d g i e=>.of (Mm c) (Vz h.E h.T h.TE p c j (Ai o) b.1.1.2 b.1.2 g i e).2⟩
theorem GoodT.addT{P:Program}{B:TB}{L:List (FuncId×Sig)}{LE:List (FuncId×SigE)}(h:GoodT P B L LE)(f:FuncId)(s:Sig)(m:AF){k:Nat}(t:Bc s.a=some k)(u:Nat.ble k m.n=true)(b:(s.r.val&&s.r.ok&&s.r.names fun _=>false)=true)(A:Dq P f=some ⟨m.n,erase m.code,m.res⟩){fn:D s.a->HS ([]:TC)->Option (D s.r×HS ([]:TC))}(v:IE (tp B L LE) s.a s.r [] m=some fn)(d:s.fn=fun x=>(fn x ()).map fun p=>p.1):GoodT P B ((f,s)::L) LE:=by
 simp only[Ag]at b;refine h.addM f s (by simp[b.1]) fun x l y j e=> ?_;rw[d]at e;obtain⟨⟨J,g⟩,F,C⟩:=Aa.1 e;cases C;have o:ae ([]:TC) () {fr:=fun _=>.undef,ob:=fun _=>.none}:=⟨fun i q c=>(by cases c),fun id q c=>(by cases c)⟩;obtain⟨I,G⟩:=Vz h.E h.T h.TE v A t (Ai u) rfl b.2 j o F;exact⟨I,G.to fun id=>rfl⟩
def m(i j:Nat):SL:=⟨some i,.mov (.t j),none⟩
def l'(i:Nat)(o:aa):SL:=⟨some i,o,none⟩
def ln(o:aa):SL:=⟨none,o,none⟩
def fo(i:Nat)(off x:Nat):SL:=⟨some i,.faddr off (.t x),none⟩
def st'(a x:Nat):SL:=⟨none,.store 1 (.t a) (.t x),none⟩
def ex(i x j:Nat):SL:=⟨some i,.ext (.t x) j,none⟩
def rf(l:List SL):AC:=.reg false [] l
def rs(l:List SL):Cx:=.reg false [] l
def K(k:IntKind)(n:Int):SO:=.k (.int k n)
def sS(i:Nat):aw×EK:=(.s i,.v .str)
def sI(i:Nat):aw×EK:=(.s i,.v (.int .i64))
def sB(i:Nat):aw×EK:=(.s i,.v .bool)
def cI(i j:Nat):aw×EK:=(.c i j,.v (.int .i64))
inductive Hn where
 |s (Γ:TC)
 |j (Γ:TC) (ex:List Nat) (rt:Bool)
 |l (Γ:TC) (ex:List Nat) (rt:Bool)
 |g (g:Gh)
 |r
 |e
 |t (gs:List (Nat×Gh))
 |x (h:HT)
 |m (Γ:TC) (ex:List Nat) (rt:Bool)
 |a (gs:List Gh)
 |w (W:List (Nat×Nat))
 |p (Γ1 Γ:TC) (ex:List Nat) (rt:Bool)
abbrev HL:=List (Nat×Hn)
def Ke(i:Nat):List SL->List (Nat×Gh)->List GL
 | [],gs=>gs.map fun g=>.g g.2
 |l::ls,gs=>let p:=gs.span fun g=>Nat.beq g.1 i;p.1.map (fun g=>.g g.2)++ .l l::Ke (i+1) ls p.2
theorem Wc(gs:List (Nat×Gh))(r:List GL):Fw (gs.map (fun g=>.g g.2)++r)=Fw r:=by
 induction gs with
 |nil=>rfl
 |cons g gs ih=>simp[Fw,ih]
theorem Afb(ls:List SL):∀i gs,Fw (Ke i ls gs)=ls:=by
 induction ls with
 |nil=>intro i gs;unfold Ke;simpa[Fw]using Wc gs []
 |cons l ls ih=>intro i gs;unfold Ke;simp only;rw[Wc];simp[Fw,ih]
def bR(k:Nat):HL->List Gh×HL
 |(n,.g g)::hs=>cond (Nat.beq n k) (let p:=bR k hs;(g::p.1,p.2)) ([],(n,.g g)::hs)
 |hs=>([],hs)
def bU(k:Nat):HL->Option Hn×HL
 |(n,h)::hs=>cond (Nat.beq n k) (some h,hs) (none,(n,h)::hs)
 | []=>(none,[])
def bm:List Gh->AC->AC
 | [],c=>c
 |g::gs,c=>.gh g (bm gs c)
theorem HI(gs:List Gh)(c:AC):erase (bm gs c)=erase c:=by
 induction gs with
 |nil=>rfl
 |cons g gs ih=>simpa[bm,erase]using ih
def dE(o:Option Hn)(a b:AC):AC:=
 match o with
 |some (.s Γ)=>.seq Γ a b
 |some (.j Γ ex rt)=>.join Γ ex rt a b
 |_=>.sq a b
def dG(o:Option Hn)(draw:Bool)(D:List Nat)(ls:List SL):AC:=
 match o,draw with
 |some (.t gs),false=>.rg D (Ke 0 ls gs)
 |some (.x h),d=>.rgt d D ls h
 |some (.a gs),true=>.rga D ls gs
 |_,_=>.reg draw D ls
def dH(o:Option Hn)(D:List Nat)(ls:List SL):AC:=
 match o with
 |some .e=>.regE true D ls
 |_=>.regE false D ls
def dF(o:Option Hn)(ls:List SL):AC:=
 match o with
 |some (.w W)=>.regW W ls
 |_=>.regW [] ls
def eB(Γ:TC)(ex:List Nat)(rt:Bool)(b:AC):AC:=
 match b with
 | .sq (.raw (.mnext it d ok)) (.sq (.cond (.t ok') .skip (.exit i)) c)=>cond (Nat.beq ok' ok) (.mloop Γ ex rt it d ok i c) (.loop [] [] false b)
 |_=>.loop [] [] false b
def eC(o:Option Hn)(b:AC):AC:=
 match o with
 |some (.l Γ ex rt)=>.loop Γ ex rt b
 |some (.m Γ ex rt)=>eB Γ ex rt b
 |_=>.loop [] [] false b
def cb:Option Hn->Bool
 |some .r=>true
 |_=>false
def bI:Cx->Nat->HL->AC×Nat×HL
 | .skip,k,hs=>let p:=bR k hs;let q:=bU k p.2;(bm p.1 (cond (cb q.1) (.raw .skip) .skip),k+1,q.2)
 | .ret,k,hs=>let p:=bR k hs;let q:=bU k p.2;(bm p.1 (cond (cb q.1) (.raw .ret) .ret),k+1,q.2)
 | .exit i,k,hs=>let p:=bR k hs;let q:=bU k p.2;(bm p.1 (cond (cb q.1) (.raw (.exit i)) (.exit i)),k+1,q.2)
 | .bad,k,hs=>let p:=bR k hs;let q:=bU k p.2;(bm p.1 (.raw .bad),k+1,q.2)
 | .mnext it d ok,k,hs=>let p:=bR k hs;let q:=bU k p.2;(bm p.1 (.raw (.mnext it d ok)),k+1,q.2)
 | .reg d D ls,k,hs=>let p:=bR k hs;let q:=bU k p.2;(bm p.1 (cond (cb q.1) (.raw (.reg d D ls)) (dG q.1 d D ls)),k+1,q.2)
 | .regE D ls,k,hs=>let p:=bR k hs;let q:=bU k p.2;(bm p.1 (cond (cb q.1) (.raw (.regE D ls)) (dH q.1 D ls)),k+1,q.2)
 | .regW ls,k,hs=>let p:=bR k hs;let q:=bU k p.2;(bm p.1 (cond (cb q.1) (.raw (.regW ls)) (dF q.1 ls)),k+1,q.2)
 | .seq a b,k,hs=>let p:=bR k hs;let q:=bU k p.2
  match cb q.1 with
  |true=>(bm p.1 (.raw (.seq a b)),k+1,q.2)
  |false=>let x:=bI a (k+1) q.2;let y:=bI b x.2.1 x.2.2;(bm p.1 (dE q.1 x.1 y.1),y.2)
 | .cond c a b,k,hs=>let p:=bR k hs;let q:=bU k p.2
  match cb q.1 with
  |true=>(bm p.1 (.raw (.cond c a b)),k+1,q.2)
  |false=>let x:=bI a (k+1) q.2;let y:=bI b x.2.1 x.2.2;(bm p.1 (.cond c x.1 y.1),y.2)
 | .block i a,k,hs=>let p:=bR k hs;let q:=bU k p.2
  match cb q.1 with
  |true=>(bm p.1 (.raw (.block i a)),k+1,q.2)
  |false=>let x:=bI a (k+1) q.2;(bm p.1 (.block i x.1),x.2)
 | .loop a,k,hs=>let p:=bR k hs;let q:=bU k p.2
  match cb q.1 with
  |true=>(bm p.1 (.raw (.loop a)),k+1,q.2)
  |false=>match q.1 with
   |some (.p Γ1 Γ ex rt)=>let x:=bI a (k+1) q.2;let y:=bI a x.2.1 x.2.2;(bm p.1 (.peel Γ1 x.1 Γ ex rt y.1),y.2)
   |_=>let x:=bI a (k+1) q.2;(bm p.1 (eC q.1 x.1),x.2)
theorem Abi(o:Option Hn)(a b:AC):erase (dE o a b)=.seq (erase a) (erase b):=by
 unfold dE;split<;>rfl
theorem Abg(o:Option Hn)(d:Bool)(D:List Nat)(ls:List SL):erase (dG o d D ls)=.reg d D ls:=by
 unfold dG;split<;>simp[erase,Afb]
theorem Abf(o:Option Hn)(D:List Nat)(ls:List SL):erase (dH o D ls)=.regE D ls:=by
 unfold dH;split<;>rfl
theorem Abh(o:Option Hn)(ls:List SL):erase (dF o ls)=.regW ls:=by
 unfold dF;split<;>rfl
theorem Abe(Γ:TC)(ex:List Nat)(rt:Bool)(b:AC):erase (eB Γ ex rt b)=.loop (erase b):=by
 unfold eB;split
 ·rename_i it d ok e i c
  cases f:Nat.beq e ok with
  |false=>rfl
  |true=>
   have:=Nat.eq_of_beq_eq_true f;subst this;rfl
 ·rfl
theorem US(o:Option Hn)(a:AC):erase (eC o a)=.loop (erase a):=by
 unfold eC;split
 ·rfl
 ·exact Abe ..
 ·rfl
theorem Abc(c:Cx):∀k e,erase (bI c k e).1=c:=by
 induction c with
 |seq a b iha ihb|cond c a b iha ihb=>intro k e;simp only[bI];split<;>simp[HI,Abi,erase,iha,ihb]
 |block i a iha=>intro k e;simp only[bI];split<;>simp[HI,US,erase,iha]
 |loop a iha=>
  intro k e;simp only[bI];split
  ·simp[HI,erase]
  ·split<;>simp[HI,US,erase,iha]
 |bad=>intro k e;simp[bI,HI,erase]
 |mnext it d ok=>intro k e;simp[bI,HI,erase]
 |_=>intro k e;simp only[bI,HI];cases cb (bU k (bR k e).2).1<;>simp[erase,Abg,Abf,Abh]
def cu(P:Program)(f:FuncId)(b:HL):AF:=
 match Dq P f with
 |some m=>⟨m.n,(bI m.code 0 b).1,m.res⟩
 |none=>⟨0,.ret,[]⟩
def cY(P:Program)(f:FuncId)(a:Ty):Bool:=
 match Dq P f,Bc a with
 |some m,some k=>Nat.ble k m.n
 |_,_=>false
theorem R8{P:Program}{f:FuncId}{a:Ty}(b:HL)(h:cY P f a=true):∃k,Bc a=some k/\Nat.ble k (cu P f b).n=true/\Dq P f=some ⟨(cu P f b).n,erase (cu P f b).code,(cu P f b).res⟩:=by
 unfold cY at h;split at h
 ·rename_i m k d c;refine⟨k,c, ?_, ?_⟩<;>simp[cu,d,h,Abc]
 ·cases h
theorem GoodT.hT{P:Program}{B:TB}{L:List (FuncId×Sig)}{LE:List (FuncId×SigE)}(h:GoodT P B L LE){f:FuncId}{s:Sig}(b:HL)(c:(s.r.val&&s.r.ok)=true:=by rfl)(e:cY P f s.a=true:=by kernel_rfl)(d:MB (tp B L LE) s.a s.r (cu P f b)=some s.fn:=by kernel_rfl):GoodT P B ((f,s)::L) LE:=by
 obtain⟨k,j,i,g⟩:=R8 b e;exact h.add f s _ g d j i c
theorem GoodT.hE{P:Program}{B:TB}{L:List (FuncId×Sig)}{LE:List (FuncId×SigE)}(h:GoodT P B L LE){f:FuncId}{s:SigE}(b:HL)(c:(s.r.val&&s.r.ok&&au s.Θ&&s.r.names (AK s.Θ).contains&&(AK s.Θ).all fun N=>Nat.ble A9 N)=true:=by rfl)(e:cY P f s.a=true:=by kernel_rfl)(d:IE (tp B L LE) s.a s.r s.Θ (cu P f b)=some s.fn:=by kernel_rfl):GoodT P B L ((f,s)::LE):=by
 obtain⟨k,j,i,g⟩:=R8 b e;exact h.addE f s _ j i c g d
theorem GoodT.hU{P:Program}{B:TB}{L:List (FuncId×Sig)}{LE:List (FuncId×SigE)}(h:GoodT P B L LE){f:FuncId}{s:Sig}(c:HL)(d:(s.r.val&&s.r.ok&&s.r.names fun _=>false)=true)(g:cY P f s.a=true){fn:D s.a->HS ([]:TC)->Option (D s.r×HS ([]:TC))}(e:IE (tp B L LE) s.a s.r [] (cu P f c)=some fn)(b:s.fn=fun x=>(fn x ()).map fun p=>p.1):GoodT P B ((f,s)::L) LE:=by
 obtain⟨k,l,j,i⟩:=R8 c g;exact h.addT f s _ l j d i e b
theorem RelL.ints{w:World}{M:MM}{k:IntKind}:∀{b:List Int} {vs:List Value},RelL w M (b.map fun z=>.int k z) vs->vs=b.map fun z=>Value.int k z
 | [],vs,h=>by unfold RelL at h;exact h
 |z::b,vs,h=>by
  simp only[List.map_cons]at h;unfold RelL at h;obtain⟨v,d,rfl,c,e⟩:=h;unfold RelC at c;rw[c,RelL.ints e];rfl
theorem GOk.tab{P:Program}{G:Nat->List CV}{w:World}{M:MM}(h:GOk G w M){name:String}{k:IntKind}{b:List Int}{g:Nat}(p:P.globalNamed name=some g)(d:G g=b.map fun z=>.int k z)(l:b≠ []):Lib.TabIs P w name k b:=by
 obtain⟨c,cs,t,fr,j,f⟩:=h g (by rw[d];simpa using l);rw[d]at c f;unfold RelC at c;obtain⟨u,vs,e,_,_,o,q⟩:=c;cases e;have m:=RelL.ints o;subst m;unfold Lib.TabIs World.var?;rw[p];simp only[Ap,j,Ac];apply Array.ext_getElem?;intro i;by_cases hi:i<b.length
 ·have:=q i (.int k b[i]) (by simp[hi])
  have s:(({block:=g,off:=0,spot:=none}:Addr).add i)={block:=g,off:=i,spot:=none}:=by
   unfold Addr.add;by_cases r:i=0<;>simp[r]
  rw[s]at this;simp only[World.cell?,j]at this;rw[show(cs[i]? =some (Value.int k b[i]))from by simpa using this];simp[hi]
 ·rw[Array.getElem?_eq_none (by simp at f;omega),Array.getElem?_eq_none (by simp;omega)]
theorem VW{P:Program}{w:World}:∀{l:List (String×DataW Unit)} {c:List MemPlace},DataW.LaidVars P w l c->∀{name:String} {d:DataW Unit},(name,d)∈l->∃g t cs b p,P.globalNamed name=some g/\(P.globals[g]?).map (·.type)=some t/\w.var? P name=some cs/\DataW.trod (fun _=>()) P w 0 (fun _=>true) false b t cs.toList=some (d,p)
 | [],_,_,_,_,hm=>by cases hm
 |(n,d)::l,c,h,name,d',hm=>by
  obtain⟨g,t,cs,b,p,q,m,k,j,i,f,o⟩:=h;rcases List.mem_cons.1 hm with e|hm
  ·cases e;exact⟨g,t,cs,b,p,m,k,j,i⟩
  ·exact VW f hm
theorem tabIs_of_mem{P:Program}{W:World}{l:List (String×DataW Unit)}{name:String}{k:IntKind}{m:List Int}{g:Nat}{t e:TypeId}{n:Nat}(r:(name,Lib.tabData k m)∈l)
  (s:P.globalNamed name=some g) (c:(P.globals[g]?).map (·.type)=some t) (q:P.underlying t=some (.array n e)) (u:P.underlying e=some (.int k)) (j:P.cellsOf e=1) (i:P.cellsOf t=n)
  (h:laidMet P l W):Lib.TabIs P W name k m:=by
 obtain⟨A,x,_,_⟩:=h;obtain⟨B,y,cs,o,p,f,d,b,v⟩:=VW x r;obtain rfl:=Option.some.inj (s.symm.trans f);obtain rfl:=Option.some.inj (c.symm.trans d);unfold Lib.TabIs;rw[b,<-Lib.cells_of_tab q u j i v]
def T8(w:World)(g:Nat)(vs:List Value):Prop:=∃t fr,w.heap[g]? =some (.cells ⟨vs⟩ t fr)
theorem Ajs{P:Program}{w:World}{name:String}{g:Nat}{vs:List Value}(c:P.globalNamed name=some g)(h:w.var? P name=some ⟨vs⟩):T8 w g vs:=by
 unfold World.var? at h;rw[c]at h;simp only[Ap]at h;split at h<;>(try cases h;done);rename_i cs t fr b;cases h;exact⟨t,fr,b⟩
theorem GOk.one{w:World}{g:Nat}{b:List CV}{vs:List Value}(h:T8 w g vs)(d:RelL w noM b vs)(f:AX (fun _=>false) b=true):
  RelC w noM (.rp b) (.pointer (some ⟨g,0,none⟩))/\∃cs t fr,w.heap[g]? =some (.cells cs t fr)/\cs.size=b.length/\AX (fun _=>false) b=true:=by
 obtain⟨t,fr,c⟩:=h;refine⟨?_,⟨vs⟩,t,fr,c,by simp[d.length],f⟩;unfold RelC;refine⟨⟨g,0,none⟩,vs,rfl,C1 c,fun c=>c,d,fun j u e=> ?_⟩
 have k:(({block:=g,off:=0,spot:=none}:Addr).add j)={block:=g,off:=j,spot:=none}:=by
  unfold Addr.add;by_cases i:j=0<;>simp[i]
 rw[k];simp only[World.cell?,c];simpa using e
theorem Xz{w:World}{M:MM}{k:IntKind}:∀(b:List Int),RelL w M (b.map fun z=>.int k z) (b.map fun z=>Value.int k z)
 | []=>RelL.nil
 |z::b=>RelL.cons (by unfold RelC;rfl) (Xz b)
theorem WJ{k:IntKind}:∀(b:List Int),AX (fun _=>false) (b.map fun z=>CV.int k z)=true
 | []=>rfl
 |z::b=>by simp only[List.map_cons,AX,Br,WJ b,Bool.and_self]
theorem GOk.ints{P:Program}{w:World}{name:String}{g:Nat}{k:IntKind}{b:List Int}(c:P.globalNamed name=some g)(h:Lib.TabIs P w name k b):
  RelC w noM (.rp (b.map fun z=>.int k z)) (.pointer (some ⟨g,0,none⟩))/\∃cs t fr,w.heap[g]? =some (.cells cs t fr)/\cs.size=(b.map fun z=>CV.int k z).length/\AX (fun _=>false) (b.map fun z=>CV.int k z)=true:=
 GOk.one (Ajs c h) (Xz b) (WJ b)
end WB
namespace WB
open Go Go.RowKit Go.Maps
open Go.WideElems (Fit rd rg)
open Go.MapKept (Stamped)
open Go.WideMaps (keyOf_string_mk)
def C2(v:Value):Option (DataW Value×List MemPlace):=some (.held v,[])
def J3(p:Lit×DataW Value):Value×Value:=
 ((match p.1 with| .string s=>.string ⟨⟨s⟩⟩|_=>.nilFunc),(match p.2 with| .held v=>v|_=>.nilFunc))
theorem X7{P:Program}{k:TypeId}(c:P.underlying k=some .string){x:MapEntry}{y:Lit×DataW Value}(h:rd P k C2 x=some y):J3 (rg P k C2 x)=(x.key,x.val):=by
 unfold rg;rw[h];unfold rd at h;simp only[Ab,C2,Aq,Ac]at h;obtain⟨l,b,rfl⟩:=h;rw[keyOf_string c]at b;cases d:x.key<;>rw[d]at b<;>simp[mapKey,c]at b;obtain⟨_,rfl⟩:=b;simp[J3]
theorem Aae{P:Program}{f:FuncId}{k:TypeId}(u:P.underlying k=some .string)
  (U:∀(R:Value->Option (DataW Value×List MemPlace)) (l A:Nat) (j:Option Nat) (L g:DataW Value) (w:World),w.ownsMap P k R l A L->((j=none/\g=.nil)\/∃b n,j=some b/\w.ownsMap P k R b n g)->j≠some l->A+Maps.size g<=maxLen->
   Calls P f #[.map (some l),.map j] w fun e w'=>e=.returned (.tuple #[])/\w'.ownsMap P k R l (A+Maps.size g) (Lib.mergeD L g)/\w.grownBy w' (some l)):RM P f:=by
 intro w l J j c T N m d;have K:=Maps.string_keyed u;have t:9223372036854775807<=maxLen:=by unfold maxLen;omega
 replace d:c.length<=maxLen:=Nat.le_trans d t
 have cn:∀x∈c,∃y,rd P k C2 x=some y:=by
  intro x r;obtain⟨s,D,C⟩:=m x r;unfold rd;rw[D,keyOf_string_mk u (by simpa[ByteArray.size]using Nat.le_trans C t)];exact⟨_,rfl⟩
 have I:w.ownsMap P k C2 l 0 (.map []):=⟨#[],J,T,⟨by simp,⟨by simp,by simp,by simp⟩,by simp⟩,by simp,rfl⟩
 have src:∃g:DataW Value,((j=none/\g=.nil)\/∃b n,j=some b/\w.ownsMap P k C2 b n g)/\j≠some l/\Maps.size g<=maxLen/\Lib.mergeD (.map []) g=.map ((c.map (rg P k C2)).foldr DataW.insert []):=by
  rcases N with⟨rfl,rfl⟩|⟨bs,i,rfl,G,V,hE⟩
  ·exact⟨.nil,.inl ⟨rfl,rfl⟩,by simp,by simp[Maps.size],rfl⟩
  ·have o:w.ownsMap P k C2 bs c.length (.map ((c.map (rg P k C2)).foldr DataW.insert [])):=
    ⟨⟨c⟩,i,V,⟨by simpa using d,⟨hE.2.1,hE.2.2,hE.1⟩,cn⟩,by simp,rfl⟩
   refine⟨_,.inr ⟨bs,c.length,rfl,o⟩,by simpa using G, ?_, ?_⟩
   ·show((c.map (rg P k C2)).foldr DataW.insert []).length<=maxLen;rw[(WideShapes.sorted_perm _).length_eq,List.length_map];exact d
   ·refine(Maps.merged_eq K.one (left:=fun _=>false) ⟨fun q=> ?_,fun q z=> ?_⟩ (fun _=>rfl) (o.canon K) ⟨[],rfl,.nil,by intro p O;cases O⟩ (o.canonK K)).symm
    ·simp[Maps.has]
    ·by_cases h:Maps.has (DataW.map ((c.map (rg P k C2)).foldr DataW.insert [])) q=true
     ·simp[h]
     ·rw[Bool.not_eq_true]at h;simp only[h,Bool.false_and,Ah,if_false];exact Maps.atKey_of_not_has h z
 obtain⟨g,Z,Y,h3,W⟩:=src;refine(U C2 l 0 j (.map []) g w I Z Y (by omega)).mono fun e w' ⟨S,o,Q⟩=> ?_;rw[W]at o;obtain⟨es,i,q1,F,q2,q3⟩:=o;obtain⟨es⟩:=es;refine⟨S,Q,es,i,q1,⟨F.stamped.2.2,F.stamped.1,F.stamped.2.1⟩, ?_⟩;simp only[DataW.map.injEq]at q3;have M:=((WideShapes.sorted_perm (es.map (rg P k C2))).symm.trans (by rw[<-q3])).trans (WideShapes.sorted_perm (c.map (rg P k C2)));have v:=M.map J3;rw[List.map_map,List.map_map]at v
 have e1:es.map (J3∘rg P k C2)=es.map fun e=>(e.key,e.val):=List.map_congr_left fun x r=>by
  obtain⟨y,B⟩:=F.reads x r;exact X7 u B
 have e2:c.map (J3∘rg P k C2)=c.map fun e=>(e.key,e.val):=List.map_congr_left fun x r=>by
  obtain⟨y,B⟩:=cn x r;exact X7 u B
 rw[e1,e2]at v;exact v
end WB
namespace WB
open Go Go.RowKit Go.ChangeShapes Go.WideShapes Go.Deep
def InR:(t:Ty)->D t->Prop
 | .int k,n=>k.min<=(n:Int)/\(n:Int)<=k.max
 | .str,s=>(s:List UInt8).length<=9223372036854775807
 | .sl e,xs=>(xs:List (D e)).length<=9223372036854775807/\∀x∈(xs:List (D e)),InR e x
 | .agg r,x=>InR r x
 | .one t,x=>InR t x
 | .cons t r,x=>InR t x.1/\InR r x.2
 |_,_=>True
def HO(P:Program)(t:TypeId):Bool:=
 match P.underlying t with
 |some (.struct _)|some (.array _ _)=>true
 |_=>false
def Lm(P:Program)(t:TypeId)(r:Ty):Option Ty:=
 if HO P t then some (.agg r)else match r with
  | .one t=>if Fz t=true then some t else none
  |_=>none
section
variable (P:Program)
def If(r:Ty):Nat->Ty
 |0=>.nil
 |n+1=>(BY r (If r n)).1
def KZ(R:TypeId->Option Ty):List Field->Nat->Option Ty
 | [],_=>some .nil
 |f::fs,off=>(R f.type).bind fun r=>(KZ R fs (off+P.cellsOf f.type)).bind fun q=>if f.offset=off/\Bc r=some (P.cellsOf f.type)then some (BY r q).1 else none
def Jl:Nat->TypeId->Option Ty
 |0,_=>none
 |n+1,t=>match P.underlying t with
  |some (.int k)=>some (.one (.int k))
  |some .bool=>some (.one .bool)
  |some .string=>some (.one .str)
  |some (.slice e)=>(Jl n e).bind fun r=>(Lm P e r).bind fun te=>if te.val=true/\Bc (BV te)=some (P.cellsOf e)/\0<P.cellsOf e then some (.one (.sl te))else none
  |some (.struct fs)=>(KZ P (Jl n) fs.toList 0).bind fun r=>if Bc r=some (P.cellsOf t)then some r else none
  |some (.array m e)=>(Jl n e).bind fun r=>if Bc r=some (P.cellsOf e)/\Bc (If r m)=some (P.cellsOf t)then some (If r m)else none
  |_=>none
end
theorem RV:∀{r s:Ty} {n:Nat} {x:D r} {y:D s},Bc r=some n->InR r x->InR s y->InR (BY r s).1 ((BY r s).2 x y):=by
 intro r
 induction r with
 |nil=>intro s n x y _ _ h;exact h
 |one t _=>
  intro s n x y _ h k;cases s
  case nil=>exact h
  all_goals exact⟨h,k⟩
 |cons t r _ ihr=>
  intro s n x y b h k;simp only[Bc,Aa]at b;obtain⟨c,b,_⟩:=b;exact⟨h.1,ihr b h.2 k⟩
 |_=>intro s n x y b;cases b
section
variable {H:Type} {enc:TypeId×Value->H} {P:Program} {w:World} {base:Nat} {spare:Nat->Bool} {held:Bool}
theorem WN{t:TypeId}{r te:Ty}{x:D r}{d:List CV}{cs:List Value}(b:Lm P t r=some te)(h:HO P t=false->cs.length=1)(f:Can r x d)(g:RelL w noM d cs)(hi:InR r x):
  ∃(y:D te) (c:CV) (v:Value),Can te y [c]/\RelC w noM c v/\v.cells.toList=cs/\InR te y:=by
 unfold Lm at b;split at b
 ·cases b;exact⟨x,.agg d,.agg ⟨cs⟩,by unfold Can;exact⟨_,rfl,f⟩,by unfold RelC;exact⟨_,rfl,g⟩,rfl,hi⟩
 ·rename_i l;have h:=h (by simpa using l);split at b<;>(try cases b;done);split at b<;>(try cases b;done);rename_i k;cases b;unfold Can at f;obtain⟨c,rfl,f⟩:=f;unfold RelL at g;obtain⟨v,vs,rfl,j,i⟩:=g;unfold RelL at i;subst i;refine⟨x,c,v,f,j, ?_,hi⟩;rw[QE j (fun cs e=>by have:=Hb k f;rw[e]at this;cases this)]
theorem WT{r:Ty}{k:Nat}(c:Bc r=some k){cs:List Value}:∀{m j:Nat},(∀i,j<=i->i<j+m->∃(x:D r) (b:List CV),Can r x b/\RelL w noM b ((cs.drop (i*k)).take k)/\InR r x)->
  ∃(x:D (If r m)) (b:List CV),Can (If r m) x b/\RelL w noM b ((cs.drop (j*k)).take (m*k))/\InR (If r m) x
 |0,j,_=>⟨(),[],rfl,by simp only[Nat.zero_mul,List.take_zero];exact RelL.nil,trivial⟩
 |m+1,j,h=>by
  obtain⟨x,b,l,g,f⟩:=h j (Nat.le_refl _) (by omega);obtain⟨y,d,q,p,o⟩:=WT c (m:=m) (j:=j+1) (cs:=cs) (fun i t s=>h i (by omega) (by omega));refine⟨(BY r (If r m)).2 x y,b++d,Is c l q, ?_,RV c f o⟩
  have e:(cs.drop (j*k)).take ((m+1)*k)=(cs.drop (j*k)).take k++(cs.drop ((j+1)*k)).take (m*k):=by
   rw[Nat.add_mul,Nat.one_mul,Nat.add_comm (m*k) k,List.take_add,List.drop_drop,Nat.add_mul,Nat.one_mul]
  rw[e];exact RelL.append g p
theorem Ak7{k:IntKind}{n:Int}(h:(Lit.int k n).wf=true):k.min<=n/\n<=k.max:=by
 simpa[Lit.wf]using h
theorem Abn{c β:Type}{p:Nat->c->β->Prop}:∀(n:Nat),(∀i,i<n->∃x y,p i x y)->∃(l:List c) (m:List β),l.length=n/\m.length=n/\∀(i:Nat) x y,l[i]? =some x->m[i]? =some y->p i x y:=by
 intro n h;obtain⟨l,e,j⟩:=Vd (p:=fun i (z:c×β)=>p i z.1 z.2) n (fun i hi=>by obtain⟨x,y,h⟩:=h i hi;exact⟨(x,y),h⟩);refine⟨l.map (·.1),l.map (·.2),by simp[e],by simp[e],fun i x y g f=> ?_⟩;rw[List.getElem?_map,Aa]at g f;obtain⟨z,d,rfl⟩:=g;obtain⟨z',b,rfl⟩:=f;rw[d]at b;cases b;exact j i z d
theorem RK{d β:Type}{R:d->β->Prop}:∀{c:List d} {bs:List β},c.length=bs.length->(∀(i:Nat) a b,c[i]? =some a->bs[i]? =some b->R a b)->CanAll R c bs
 | [],[],_,_=>rfl
 | [],_::_,h,_=>by cases h
 |_::_,[],h,_=>by cases h
 |a::c,b::bs,h,hr=>⟨b,bs,rfl,hr 0 a b rfl rfl,RK (by simpa using h) fun i x y f e=>hr (i+1) x y (by simpa using f) (by simpa using e)⟩
theorem WU{R:TypeId->Option Ty}(m:∀{t:TypeId} {r:Ty} {c:Nat} {cs:List Value} {y:DataW H×List MemPlace},R t=some r->DataW.trod enc P w base spare held c t cs=some y->∃(x:D r) (b:List CV),Can r x b/\RelL w noM b cs/\InR r x):∀{j:List Field} {off:Nat} {r:Ty} {cs:List Value},KZ P R j off=some r->(∀f∈j,∃c y,DataW.trod enc P w base spare held c f.type ((cs.drop f.offset).take (P.cellsOf f.type))=some y)->
  ∃(x:D r) (b:List CV),Can r x b/\RelL w noM b ((cs.drop off).take b.length)/\InR r x
 | [],off,r,cs,h,_=>by
  unfold KZ at h;cases h;exact⟨(),[],rfl,by simp only[Av,List.take_zero];exact RelL.nil,trivial⟩
 |f::j,off,r,cs,h,hd=>by
  unfold KZ at h;obtain⟨u,G,h⟩:=Ab.1 h;obtain⟨q,F,h⟩:=Ab.1 h;split at h<;>(try cases h;done);rename_i C;obtain⟨e,d⟩:=C;cases h;obtain⟨c,y,B⟩:=hd f (by simp);obtain⟨x,b,p,o,I⟩:=m G B;obtain⟨s,g,A,k,v⟩:=WU m (cs:=cs) F (fun J i=>hd J (by simp[i]));refine⟨(BY u q).2 x s,b++g,Is d p A, ?_,RV d I v⟩;have l:=Fe d p;rw[e,<-l]at o;rw[<-l]at k;rw[List.length_append,List.take_add,List.drop_drop];exact RelL.append o k
theorem Nt:∀{n:Nat} {t:TypeId} {r:Ty} {C:Nat} {cs:List Value} {y:DataW H×List MemPlace},Jl P n t=some r->DataW.trod enc P w base spare held C t cs=some y->(HO P t=false->cs.length=1)/\∃(x:D r) (g:List CV),Can r x g/\RelL w noM g cs/\InR r x
 |0,_,_,_,_,_,h,_=>by cases h
 |n+1,t,r,C,cs,y,h,hd=>by
  unfold Jl at h;split at h
  ·rename_i k l;cases h;obtain⟨m,rfl,_,hw⟩:=DataW.trod_int l hd;exact⟨fun _=>rfl,m,[.int k m],⟨_,rfl,rfl⟩,RelL.cons rfl RelL.nil,Ak7 hw⟩
  ·rename_i l;cases h;obtain⟨b,rfl,_⟩:=DataW.trod_bool l hd;exact⟨fun _=>rfl,b,[.bool b],⟨_,rfl,rfl⟩,RelL.cons rfl RelL.nil,trivial⟩
  ·rename_i l;cases h;obtain⟨s,rfl,_,hs⟩:=DataW.trod_string l hd;refine⟨fun _=>rfl,s.data.toList,[.str s.data.toList],⟨_,rfl,rfl⟩,RelL.cons rfl RelL.nil, ?_⟩;have h9:s.size<=9223372036854775807:=hs;show s.data.toList.length<=9223372036854775807;rw[Array.length_toList];exact h9
  ·rename_i e l;obtain⟨r',Q,h⟩:=Ab.1 h;obtain⟨te,I,h⟩:=Ab.1 h;split at h<;>(try cases h;done);rename_i o;obtain⟨hv,d,M⟩:=o;cases h;rcases open_slice l hd with⟨T,_⟩|⟨a,len,cap,m,n',D',Pl,hcs,hb,hl,hm,N,hx,hi⟩
   ·subst T;refine⟨fun _=>rfl,[],[.sl (some true) []],⟨_,rfl,_,_,rfl,rfl⟩,RelL.cons ?_ RelL.nil,by simp[InR]⟩;unfold RelC;exact⟨none,0,0,rfl,rfl,Nat.le_refl _,fun _=>rfl,(fun o=>by cases o),fun _=>rfl,fun o=>absurd rfl o⟩
   ·subst hcs
    have hel:∀i,i<len->∃(z:D te) (c:CV),(Can te z [c]/\InR te z)/\∃v,RelC w noM c v/\v.cells.size=P.cellsOf e/\∀(j:Nat) u,v.cells[j]? =some u->w.cell? (a.add (i*P.cellsOf e+j))=some u:=by
     intro i hil;obtain⟨cs',hc,ht'⟩:=hi i (by rw[N];split<;>omega);obtain⟨_,p,G⟩:=World.cells?_some hc;obtain⟨g0,x,g,J,q,R⟩:=Nt Q ht';obtain⟨z,c,v,Y,W,K,k4⟩:=WN I g0 J q R;refine⟨z,c,⟨Y,k4⟩,v,W,by rw[<-p,<-K];simp,fun j u S=> ?_⟩
     have hj:j<P.cellsOf e:=by
      have:=(Array.getElem?_eq_some_iff.1 S).1;rw[<-p,<-K];simpa using this
     rw[<-WB.Ir,G j hj,<-K];simpa using S
    obtain⟨U,es,e1,e2,hp⟩:=Abn len hel;refine⟨fun _=>rfl,U,[.sl (some false) es],⟨_,rfl,_,_,rfl,RK (by omega) fun i z c h3 h4=>(hp i z c h3 h4).1.1⟩,RelL.cons ?_ RelL.nil,⟨?_,fun z Z=> ?_⟩⟩
    ·unfold RelC;refine⟨some a,len,cap,rfl,by omega,hl,(fun o=>by cases o),(fun _=>by simp),(fun o=>by cases o),fun hne=> ?_⟩;refine⟨a,P.cellsOf e,rfl, ?_,fun o=>o,F9 fun k el B=> ?_⟩
     ·have hlen0:0<len:=by
       rcases Nat.eq_zero_or_pos len with T|T
       ·exact absurd (Aw (by omega)) hne
       ·exact T
      obtain⟨cs',hc,_⟩:=hi 0 (by rw[N];split<;>omega);obtain⟨_,p,G⟩:=World.cells?_some hc;have h5:=G 0 M;rw[Aj (by omega)]at h5;have h6:=Pi h5;rw[DE,DE]at h6;exact h6
     ·have hk:k<len:=by have:=(Af.1 B).1;omega
      have Z:U[k]? =some (U[k]'(by omega)):=Aj _;obtain⟨v,Y,W,K⟩:=(hp k _ el Z B).2;exact⟨v,Y,W,fun j u S=>by simpa using K j u S⟩
    ·have:cap<=9223372036854775807:=hm;omega
    ·obtain⟨i,A⟩:=List.getElem?_of_mem Z;have hlt:=(Af.1 A).1;exact(hp i z (es[i]'(by omega)) A (Aj _)).1.2
  ·rename_i fs l;obtain⟨r',Q,h⟩:=Ab.1 h;split at h<;>(try cases h;done);rename_i d;cases h;obtain⟨V,n',_,_,p,L,hg⟩:=DataW.trod_struct l hd;refine⟨fun ha=>by simp[HO,l]at ha, ?_⟩
   obtain⟨x,g,J,q,R⟩:=WU (fun h3 h4=>(Nt h3 h4).2) (cs:=cs) Q (fun f hf=>by
    obtain⟨i,hi⟩:=List.getElem?_of_mem hf;have I:=hg i f (by simpa using hi);have A:=(Af.1 hi).1;rw[Aj (show i<V.length by rw[L];simpa using A)]at I
    exact⟨_,_,I⟩)
   have hl2:=Fe d J;have O:=q.length;have F:(cs.take g.length)=cs:=List.take_of_length_le (by omega);rw[List.drop_zero,F]at q;exact⟨x,g,J,q,R⟩
  ·rename_i m e l;obtain⟨r',Q,h⟩:=Ab.1 h;split at h<;>(try cases h;done);rename_i d;cases h;obtain⟨V,n',_,_,p,L,hg⟩:=DataW.trod_array l hd;refine⟨fun ha=>by simp[HO,l]at ha, ?_⟩
   obtain⟨x,g,J,q,R⟩:=WT (w:=w) d.1 (cs:=cs) (m:=m) (j:=0) (fun i _ hi=>by
    have I:=hg i (by omega);rw[Aj (show i<V.length by omega)]at I
    exact(Nt Q I).2)
   have hl2:=Fe d.2 J;have O:=q.length;simp only[Nat.zero_mul,List.drop_zero,List.length_take]at O q;have F:(cs.take (m*P.cellsOf e))=cs:=List.take_of_length_le (by omega);rw[F]at q;exact⟨x,g,J,q,R⟩
  ·cases h
def On(P:Program)(n:Nat)(t:TypeId):Option Ty:=(Jl P n t).bind fun r=>(Lm P t r).bind fun te=>if te.val=true then some te else none
theorem WV{n:Nat}{t:TypeId}{te:Ty}{r:Reach}{S:Nat}{v:Value}{d:DataW H}{p:List MemPlace}(b:On P n t=some te)(i:Value.okWide P w r S t v)(u:DataW.Trod enc P w base spare held t v d p):
  ∃(x:D te) (c:CV),Can te x [c]/\RelC w noM c v/\InR te x:=by
 unfold On at b;obtain⟨C,L,b⟩:=Ab.1 b;obtain⟨B,f,b⟩:=Ab.1 b;split at b<;>(try cases b;done);cases b;obtain⟨A,u⟩:=u;obtain⟨Q,x,R,O,N,M⟩:=Nt L u;obtain⟨z,c,y,m,k,o,F⟩:=WN f Q O N M;refine⟨z,c,m, ?_,F⟩;unfold Lm at f;split at f
 ·rename_i g
  have j:∃cs,v=.agg cs:=by
   unfold HO at g;split at g<;>(try cases g;done)
   all_goals
    rename_i b;simp only[Value.okWide,b]at i;obtain⟨cs,h,_⟩:=i;exact⟨cs,h⟩
  obtain⟨cs,rfl⟩:=j;have q:te=.agg C:=by cases f;rfl
  subst q;unfold Can at m;obtain⟨l,e,_⟩:=m;cases e;unfold RelC at k⊢;obtain⟨vs,e,s⟩:=k;subst e;refine⟨vs, ?_,s⟩;have:vs=cs.toList:=by simpa[Value.cells]using o
  rw[this]
 ·rename_i g;split at f<;>(try cases f;done);split at f<;>(try cases f;done);rename_i G;cases f;have e:=QE k (fun cs e=>by have:=Hb G m;rw[e]at this;cases this);rw[e]at o
  have s:v.cells= #[y]:=by
   apply Array.toList_inj.1;rw[<-o]
  have:v=y:=by
   cases v with
   |agg cs=>
    exfalso;unfold HO at g;unfold Value.okWide at i;split at i
    all_goals first
     |(rename_i K;rw[K]at g;exact g rfl)
     |(rename_i J I
       revert i;simp only[Cell.okWide,Cell.ok]
       split<;>simp_all)
   |_=>simpa[Value.cells]using s
  rw[this];exact k
def OX(P:Program)(n:Nat):List TypeId->Option Ty
 | []=>some .nil
 | [t]=>(On P n t).map .one
 |t::u::ts=>(On P n t).bind fun te=>(OX P n (u::ts)).map fun r=>.cons te r
theorem WS{n:Nat}{r:Reach}{O:Nat}:∀{d:List TypeId} {a:Ty} {vs:List Value} {f:List (DataW H)} {e:List MemPlace},OX P n d=some a->(∀(j:Nat) t v,d[j]? =some t->vs[j]? =some v->Value.okWide P w r O t v)->DataW.TrodAll enc P w base spare held d vs f e->
  ∃(x:D a) (l:List CV),Can a x l/\RelL w noM l vs/\InR a x
 | [],a,vs,f,e,b,_,h=>by
  cases b;obtain⟨rfl,rfl,rfl⟩:=trodAll_nil h;exact⟨(),[],rfl,RelL.nil,trivial⟩
 | [t],a,vs,f,e,b,hv,h=>by
  obtain⟨te,k,rfl⟩:=Aa.1 b;obtain⟨i,g,N,y,F,q0,rfl,rfl,rfl,m,r0⟩:=trodAll_cons h;obtain⟨rfl,rfl,rfl⟩:=trodAll_nil r0;obtain⟨x,c,s,p,o⟩:=WV k (hv 0 t i rfl rfl) m;exact⟨x,[c],⟨c,rfl,s⟩,RelL.cons p RelL.nil,o⟩
 |t::u::d,a,vs,f,e,b,hv,h=>by
  obtain⟨te,k,b⟩:=Ab.1 b;obtain⟨q,M,rfl⟩:=Aa.1 b;obtain⟨i,g,N,y,F,q0,rfl,rfl,rfl,m,r0⟩:=trodAll_cons h;obtain⟨x,c,s,p,o⟩:=WV k (hv 0 t i rfl rfl) m;obtain⟨A,l,J,I,G⟩:=WS M (fun j C B L K=>hv (j+1) C B (by simpa using L) (by simpa using K)) r0;exact⟨(x,A),c::l,⟨c,l,rfl,s,J⟩,RelL.cons p I,o,G⟩
end
theorem Y9{H:Type}{enc:TypeId×Value->H}{P:Program}{w:World}{base:Nat}{spare:Nat->Bool}{held:Bool}:∀{c:List TypeId} {vs:List Value} {b:List (DataW H)} {d:List MemPlace},DataW.TrodAll enc P w base spare held c vs b d->b.length=c.length
 | [],vs,b,d,h=>by
  obtain⟨rfl,rfl,rfl⟩:=trodAll_nil h;rfl
 |t::c,vs,b,d,h=>by
  obtain⟨g,e,k,f,i,q0,rfl,rfl,rfl,j,r0⟩:=trodAll_cons h;simp[Y9 r0]
theorem row_contract{P:Program}{G:Nat->List CV}{f:FuncId}{fn:Func}{s:ChangeSpec}{tb:TypeId}{a:Ty}(n:Nat)(laidOut:laidOutB P=true)(S:OX P n fn.params.toList=some a)(L:(fn.params.toList.all fun t=>P.readableRec t&&decide (t<P.types.size))=true)
  (c:fn.resultTypes= #[tb]) (k:P.underlying tb=some .bool) (m:s.vars= []) (K:∀(H:Type) (b:List (DataW H)),b.length=fn.params.size->(s.fn H b).results= [.lit (.bool true)]/\(s.fn H b).args=b/\(s.fn H b).vars= [])
  (d:∀(x:D a) (l:List CV),Can a x l->InR a x->CallsTo P G f l (.val (.bool true)))
  (H:Type) (enc:TypeId×Value->H) (W:World) (base:Nat) (args:Array Value) (b gs:List (DataW H)) (before:List MemPlace)
  (i:∀(j:Nat) t v,fn.params[j]? =some t->args[j]? =some v->Value.okWide P W .any base t v)
  (F:DataW.Whole enc P fn.params.toList s.vars false W args.toList b gs before) (R:GOk G W noM):
  Calls P f args W fun e J=>∃v,e=.returned v/\s.post enc P fn false true false false W args v J:=by
 have y:=F;obtain⟨p,q,B,I,rfl,N,M⟩:=F;have g:DataW.TrodAll enc P W 0 (fun _=>true) true fn.params.toList args.toList b p:=B;rw[m]at I;obtain⟨rfl,rfl⟩:=trodVars_none I;obtain⟨x,l,Z,Y,V⟩:=WS (base:=0) S (fun j t v U T=>i j t v (by simpa using U) (by simpa using T)) g;have u:b.length=fn.params.size:=by rw[Y9 g];simp
 obtain⟨e1,e2,e3⟩:=K H b u;have Q:=d x l Z V W noM args.toList (fun _ h=>h.elim) R Y;refine Q.mono fun e J ⟨v,O,C,r⟩=> ?_;subst O;unfold Im RelC at r;subst r;refine⟨_,rfl,Ag4 (pa:=p) (pv:= []) y (fun _ _ _=> ?_) (fun sp o=> ?_) (fun sp o=> ?_) rfl C ?_⟩
 ·rw[List.append_nil,e1,c];exact trodAll_cons_mk (shut_bool k _) trodAll_mk0
 ·rw[List.append_nil,e2];exact Y8 laidOut C L (fun x A=>y.lt x (by simpa using A)) (fun x A=>o x (by simpa using A)) g
 ·rw[List.append_nil,e3,m];rfl
 ·exact ok_one c rfl (okWide_bool_mk k _)
end WB
