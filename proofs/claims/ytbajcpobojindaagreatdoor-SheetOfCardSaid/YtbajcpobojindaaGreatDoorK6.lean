/-
  OWN TEXTS, MERGED (wip/merge.py): CoreTkt, CoreTl, CoreTm, CoreTn, CoreTne, CoreTo, CoreTq, CoreLb, CoreMc. No condition of their own.
-/
import Derived.Test.YtbajcpobojindaaGreatDoorK5
import Derived.Lib.LaidTab
import Derived.Lib.ItoaNum
import Derived.Lib.TrimByte
import Derived.Lib.AppendIntMem
import Derived.Lib.Bytealg
import Derived.Lib.SlMapMerge
import Derived.Maps.Own
import Derived.StringKeys
set_option linter.unusedVariables false
set_option linter.unusedSimpArgs false
open Go.IntKind (i64 u64 u8 u32)
namespace WB
open Go Go.RowKit
def Ty.noN(N:Nat):Ty→Bool
 | .nam M| .bptr M=>M !=N
 | .agg r| .tup r| .pt r| .clo _ r| .sl r| .one r=>r.noN N
 | .falt _ r l=>r.noN N&&l.noN N
 | .map k v=>k.noN N&&v.noN N
 | .cons t r=>t.noN N&&r.noN N
 | .nw _ _ t=>t.noN N
 |_=>true
theorem Ef{T:Nat→Bool}{c:CV}:noNamL T [c]=BQ T c:=by simp[noNamL]
theorem Ga{T:Nat→Bool}{α:Type}{R:α→CV→Prop}:∀{xs:List α} {es:List CV},(∀x c,R x c→BQ T c=true)→Ap R xs es→noNamL T es=true
 | [],es,_,h=>by unfold Ap at h;subst h;rfl
 |x::xs,es,f,h=>by
  obtain⟨c,es',rfl,h1,h2⟩:=h;simp[noNamL,f x c h1,Ga f h2]
theorem Can.noN{N:Nat}:∀{t:Ty} {x:D t} {cs:List CV},t.noN N=true→Can t x cs→noNamL (C6 N) cs=true:=by
 intro t
 induction t with
 |nam M=>intro x cs h hc;unfold Can at hc;subst hc;simpa[noNamL,BQ,C6,Ty.noN]using h
 |bptr M=>
  intro x cs h hc;unfold Can at hc;rcases hc with rfl|rfl|rfl
  ·simpa[noNamL,BQ,C6,Ty.noN]using h
  ·simpa[noNamL,BQ,C6,Ty.noN]using h
  ·rfl
 |agg r ih=>intro x cs h hc;unfold Can at hc;obtain⟨l,rfl,hc⟩:=hc;rw[Ef];exact ih h hc
 |tup r ih=>intro x cs h hc;unfold Can at hc;obtain⟨l,rfl,hc⟩:=hc;rw[Ef];exact ih h hc
 |pt r ih=>intro x cs h hc;unfold Can at hc;obtain⟨l,rfl,hc⟩:=hc;rw[Ef];exact ih h hc
 |clo f r ih=>intro x cs h hc;unfold Can at hc;obtain⟨l,rfl,hc⟩:=hc;rw[Ef];exact ih h hc
 |falt f r l ih ihl=>
  intro x cs h hc;simp only[Ty.noN,Af]at h
  cases x with
  |inl y=>unfold Can at hc;obtain⟨cap,rfl,hc⟩:=hc;rw[Ef];exact ih h.1 hc
  |inr y=>unfold Can at hc;exact ihl h.2 hc.2
 |sl e ih=>
  intro x cs h hc;unfold Can at hc;obtain⟨nl,es,rfl,hc⟩:=hc;rw[Ef];exact Ga (fun y c hy=>by rw[←Ef];exact ih h hy) hc
 |map k v ihk ihv=>
  intro x cs h hc;simp only[Ty.noN,Af]at h;unfold Can at hc;obtain⟨nl,ks,vs,rfl,h1,h2⟩:=hc;rw[Ef];simp only[BQ,Af];exact⟨Ga (fun y c hy=>by rw[←Ef];exact ihk h.1 hy) h1,Ga (fun y c hy=>by rw[←Ef];exact ihv h.2 hy) h2⟩
 |one t ih=>intro x cs h hc;unfold Can at hc;obtain⟨c,rfl,hc⟩:=hc;exact ih h hc
 |cons t r iht ihr=>
  intro x cs h hc;simp only[Ty.noN,Af]at h;unfold Can at hc;obtain⟨c,l,rfl,h1,h2⟩:=hc;have h3:=iht h.1 h1;rw[Ef]at h3;simp[noNamL,h3,ihr h.2 h2]
 |nw e s t _=>intro x cs h hc;unfold Can at hc;exact hc.elim
 |err=>intro x cs _ hc;unfold Can at hc;subst hc;cases x<;>rfl
 |_=>intro x cs _ hc;unfold Can at hc;subst hc;rfl
theorem Can.noN1{N:Nat}{t:Ty}{x:D t}{c:CV}(h:t.noN N=true)(hc:Can t x [c]):BQ (C6 N) c=true:=by
 rw[←Ef];exact Can.noN h hc
def H7(N:Nat):EK→Bool
 | .v t=>t.noN N
 | .opt k=>H7 N k
 | .rp ex r=>ex&&r.noN N
 | .ent _ k v=>k.noN N&&v.noN N
 | .stamp _ k=>k.noN N
 |_=>true
def okO(N:Nat):EK→Bool
 | .arr _ _ t=>t.noN N
 | .mob _ k v=>k.noN N&&v.noN N
 | .box _ bt| .sit| .buf _=>true
 |_=>false
def okK(d N:Nat)(Γ:TC):Key→EK→Bool
 | .o id,k=>id !=d&&id !=N&&(okO N k||k==.gone)
 | .s _,k| .c _ _,k=>H7 N k&&(match k.refs with
  |some id=>id !=d&&id !=N&&(match BO Γ (.o id)with
   |some ko=>okO N ko
   |none=>false)
  |none=>true)
def E6(d N:Nat)(Γ:TC):List Key:=(Γ.map (·.1)).filter fun p=>match BO Γ p with
 |some k=> !okK d N Γ p k
 |none=>false
theorem RS.drop{p:Nat→Bool}{N:Nat}{k:EK}{x:DK k}{sv:SV}(h:RS k x sv)(hk:H7 N k=true)(hn:∀id,k.refs=some id→p id=false):RS k x (Bz p N sv):=by
 induction k
 case v t=>
  obtain⟨c,rfl,hc⟩:=h;refine⟨c, ?_,hc⟩;simp only[Bz];rw[if_pos (Can.noN1 hk hc)]
 case opt k ih=>
  unfold RS at h⊢
  cases x with
  |none=>simp only at h;subst h;rfl
  |some y=>exact ih h hk hn
 case rp ex r=>
  obtain⟨cs,rest,rfl,hc,hr⟩:=h;simp only[H7,Af]at hk;have:=hr hk.1;subst this;refine⟨cs,[], ?_,hc,fun _=>rfl⟩;simp only[Bz]
  have h2:BQ (C6 N) (.rp (cs++ []))=true:=by
   rw[List.append_nil];exact Can.noN hk.2 hc
  rw[if_pos h2]
 case undef=>trivial
 case ptr id o=>have:=hn id rfl;unfold RS at h;subst h;simp[RS,Bz,SV.ref,this]
 case eptr id s o=>have:=hn id rfl;unfold RS at h;subst h;simp[RS,Bz,SV.ref,this]
 case aptr id n o=>have:=hn id rfl;obtain⟨h,hi⟩:=h;subst h;exact⟨by simp[Bz,SV.ref,this],hi⟩
 case own id=>have:=hn id rfl;unfold RS at h;subst h;simp[RS,Bz,SV.ref,this]
 case mp id=>have:=hn id rfl;unfold RS at h;subst h;simp[RS,Bz,SV.ref,this]
 case iter id=>have:=hn id rfl;unfold RS at h;subst h;simp[RS,Bz,SV.ref,this]
 case ent id k v=>
  have:=hn id rfl;simp only[H7,Af]at hk;obtain⟨ck,cv,rfl,h1,h2⟩:=h;refine⟨ck,cv, ?_,h1,h2⟩;simp[Bz,this,Can.noN1 hk.1 h1,Can.noN1 hk.2 h2]
 case stamp id k=>
  have:=hn id rfl;obtain⟨ck,rfl,h1⟩:=h;refine⟨ck, ?_,h1⟩;simp[Bz,this,Can.noN1 hk h1]
 all_goals exact h.elim
section
variable {Γ:TC} {ρ:HS Γ} {st:St}
theorem RZ{d N:Nat}{p:Key}{k:EK}{f:HS Γ→DK k}(hg:get Γ p=some ⟨k,f⟩)(hp:p∉E6 d N Γ):okK d N Γ p k=true:=by
 have hk:=B5 hg
 cases hc:okK d N Γ p k with
 |true=>rfl
 |false=>
  exfalso;apply hp;unfold E6;rw[List.mem_filter];refine⟨Ff hk, ?_⟩;simp only at hk;simp only[hk,hc,Bool.not_false]
theorem Rep.dropB(h:Rep Γ ρ st){d N id:Nat}{ko:EK}(h1:id≠d)(h2:id≠N)(hk:BO Γ (.o id)=some ko)(ho:okO N ko=true):WB.dropB d N st.ob id=false:=by
 obtain⟨f,hf⟩:=Nm hk;have hob:=h.o id _ hf;simp only[WB.dropB,Bool.or_eq_false_iff,beq_eq_false_iff_ne];refine⟨⟨h1,h2⟩, ?_⟩;cases ko<;>simp only[okO,Ag]at ho
 case box n=>obtain⟨cs,e,_⟩:=hob;rw[e]
 case arr e size t=>obtain⟨es,e,hc⟩:=hob;rw[e];simp[Ga (T:=C6 N) (fun y c hy=>Can.noN1 ho hy) hc]
 case mob mt k v=>
  obtain⟨z,ks,vs,e,_,h3,h4⟩:=hob;simp only[Af]at ho;rw[e];simp[Ga (T:=C6 N) (fun y c hy=>Can.noN1 ho.1 hy) h3,Ga (T:=C6 N) (fun y c hy=>Can.noN1 ho.2 hy) h4]
 case sit=>unfold RO at hob;rw[hob]
 case buf e=>unfold RO at hob;rw[hob]
def Iv(d N:Nat)(st:St):St:=
 {fr:=fun j=>Bz (WB.dropB d N st.ob) N (st.fr j),ob:=fun id=>if WB.dropB d N st.ob id then .none else FC (WB.dropB d N st.ob) N (st.ob id)}
theorem Rep.drop(h:Rep Γ ρ st)(d N:Nat):Rep (goT [d,N] (shT (E6 d N Γ) Γ)) (goP [d,N] (shP (E6 d N Γ) ρ)) (Iv d N st):=by
 have AX:∀p q,(∀d',p≠ .o d')→get (goT [d,N] (shT (E6 d N Γ) Γ)) p=some q→q.1=.undef∨∃f,get Γ p=some ⟨q.1,f⟩∧q.2 (goP [d,N] (shP (E6 d N Γ) ρ))=f ρ∧H7 N q.1=true∧∀id,q.1.refs=some id→WB.dropB d N st.ob id=false:=by
  intro p q hp hq;rcases Hu (shP (E6 d N Γ) ρ) hq with⟨d',_,h1,_⟩|⟨_,f,hf,e⟩
  ·exact absurd h1 (hp d')
  ·rcases Hv ρ hf with⟨_,h2⟩|⟨h2,g,hg,e2⟩
   ·exact .inl h2
   ·have hok:=RZ hg h2;refine .inr ⟨g,hg,e.trans e2, ?_⟩
    cases p with
    |o id=>exact absurd rfl (hp id)
    |s i=>
     simp only[okK,Af]at hok;refine⟨hok.1,fun id hid=> ?_⟩;have h3:=hok.2;rw[hid]at h3;simp only[Af,bne_iff_ne]at h3
     cases hko:BO Γ (.o id)with
     |none=>rw[hko]at h3;cases h3.2
     |some ko=>rw[hko]at h3;exact Rep.dropB h h3.1.1 h3.1.2 hko h3.2
    |c i j=>
     simp only[okK,Af]at hok;refine⟨hok.1,fun id hid=> ?_⟩;have h3:=hok.2;rw[hid]at h3;simp only[Af,bne_iff_ne]at h3
     cases hko:BO Γ (.o id)with
     |none=>rw[hko]at h3;cases h3.2
     |some ko=>rw[hko]at h3;exact Rep.dropB h h3.1.1 h3.1.2 hko h3.2
 refine⟨fun i q hq=> ?_,fun id q hq=> ?_⟩
 ·rcases AX _ q (by simp) hq with h1|⟨f,hf,e,hn,hr⟩
  ·obtain⟨k,fq⟩:=q;subst h1
   trivial
  ·rw[e];exact RS.drop (h.s i _ hf) hn hr
 ·rcases Hu (shP (E6 d N Γ) ρ) hq with⟨d',hd',h1,h2⟩|⟨hne,f,hf,e⟩
  ·obtain⟨k,fq⟩:=q;simp only at h2;subst h2;have hid:id=d':=by simpa using h1
   subst hid;show(if WB.dropB d N st.ob id then Ob.none else _)=Ob.none
   have:WB.dropB d N st.ob id=true:=by
    simp only[List.mem_cons,List.not_mem_nil,or_false]at hd';rcases hd' with rfl|rfl<;>simp[WB.dropB]
   rw[if_pos this]
  ·rcases Hv ρ hf with⟨_,h2⟩|⟨h2,g,hg,e2⟩
   ·obtain⟨k,fq⟩:=q;simp only at h2;subst h2
    trivial
   ·have hok:=RZ hg h2;have hob:=h.o id _ hg;have e3:=e.trans e2;rw[e3];simp only[okK,Af,bne_iff_ne,Aj,beq_iff_eq]at hok;obtain⟨⟨h3,h4⟩,h5⟩:=hok;obtain⟨k,fq⟩:=q;simp only at h5 hob⊢;show RO _ _ id k _ (if WB.dropB d N st.ob id then Ob.none else FC (WB.dropB d N st.ob) N (st.ob id));rcases h5 with h5|h5
    ·have hdb:=Rep.dropB h h3 h4 (B5 hg) h5;rw[hdb];simp only[Ag,if_false];cases k<;>simp only[okO,Ag]at h5
     case box n=>
      obtain⟨cs,e1,hl,hc⟩:=hob;rw[e1];refine⟨_,rfl,by simpa using hl,fun j q' hj hq'=> ?_⟩;rcases AX _ q' (by simp) hq' with h6|⟨f',hf',e',hn',hr'⟩
      ·obtain⟨k',fq'⟩:=q';subst h6;have hlt:j<cs.length:=by omega
       exact⟨Bz (WB.dropB d N st.ob) N cs[j],by simp[hlt],trivial⟩
      ·obtain⟨sv,h7,h8⟩:=hc j _ hj hf';refine⟨_,by rw[List.getElem?_map,h7];rfl, ?_⟩;rw[e'];exact RS.drop h8 hn' hr'
     case arr e' size t=>obtain⟨es,e1,hc⟩:=hob;rw[e1];exact⟨es,rfl,hc⟩
     case mob mt kk v=>obtain⟨z,ks,vs,e1,hc⟩:=hob;rw[e1];exact⟨z,ks,vs,rfl,hc⟩
     case sit=>unfold RO at hob⊢;rw[hob];rfl
     case buf e'=>unfold RO at hob⊢;rw[hob];rfl
    ·subst h5;have h6:st.ob id=.none:=hob;rw[h6];split<;>rfl
theorem Rep.newBox{Γc:TC}{ρc:HS Γc}{N:Nat}{ko:EK}{y:DK ko}{o:Ob}(h:Rep Γ ρ st)(hx:CK N Γ ρ Γc ρc)(ho:RO Γc ρc N ko y o):Rep ((.o N,ko)::Γc) (y,ρc) {st with ob:=upd st.ob N o}:=by
 have down:∀p q,p≠ .o N→get ((.o N,ko)::Γc) p=some q→∃f,get Γc p=some ⟨q.1,f⟩∧q.2 (y,ρc)=f ρc:=by
  intro p q h2 hq;obtain⟨f,hf,e⟩:=Ce (Ne.symm h2) hq;exact⟨f,hf,e _⟩
 refine⟨fun i q hq=> ?_,fun id q hq=> ?_⟩
 ·obtain⟨f,hf,e⟩:=down _ q (by simp) hq;rcases hx _ _ hf with⟨j,hj⟩|⟨g,hg,e2⟩
  ·cases hj
  ·have e3:=e.trans e2;rw[e3];exact h.s i _ hg
 ·by_cases hi:id=N
  ·subst hi;rw[C7]at hq;cases hq;simp only[upd,if_true];exact RO.congr ho fun j q' hq'=>down _ q' (by simp) hq'
  ·obtain⟨f,hf,e⟩:=down _ q (by simpa using hi) hq;rcases hx _ _ hf with⟨j,hj⟩|⟨g,hg,e2⟩
   ·cases hj
   ·have:=h.o id _ hg;simp only at e2;rw[e];simp only[upd,hi,if_false];rw[e2];refine RO.congr this fun j q' hq'=> ?_;obtain⟨f',hf',e'⟩:=down _ q' (by simp) hq';rcases hx _ _ hf' with⟨j',hj'⟩|⟨g',hg',e2'⟩
    ·cases hj';exact absurd rfl hi
    ·exact⟨g',hg',e'.trans e2'⟩
end
inductive Gh where
 |own (i id e size:Nat)
 |ownc (b j id e size:Nat)
 |ownb (b j id e:Nat)
 |frz (i:Nat)
 |frzc (b j:Nat)
 |frzb (i:Nat)
 |tell (i N:Nat)
structure GhD (Γ:TC) where
 Γ':TC
 up:HS Γ→HS Γ'
def Rh(o:Option TC)(Γ:TC):Gh→Bool
 | .frz i| .frzb i=>match BO Γ (.s i)with
  |some k=>match k.refs with
   |some id=>KY o id
   |none=>false
  |none=>false
 | .frzc b j=>match BO Γ (.c b j)with
  |some k=>match k.refs with
   |some id=>KY o id
   |none=>false
  |none=>false
 |_=>false
theorem KJ{o:Option TC}{Γ:TC}{p:Key}{k:EK}{f:HS Γ→DK k}{id:Nat}(h:(match BO Γ p with
  |some k=>match k.refs with
   |some id=>KY o id
   |none=>false
  |none=>false)=false) (hg:get Γ p=some ⟨k,f⟩) (hk:k.refs=some id):¬(D3 o).I id:=by
 have:=B5 hg;simp only at this;rw[this]at h;simp only[hk]at h;exact Xs h
def OO(o:Option TC)(Γ:TC)(i N:Nat):Option (GhD Γ):=
 match o with
 |none=>none
 |some Θ=>if(AT Θ).contains N=true∨Nat.ble As N=false then none else
  match get Γ (.s i)with
  |some ⟨.ptr d 0,_⟩=>if(AT Θ).contains d=true∨Nat.ble As d=true then none else
   match get Γ (.o d)with
   |some ⟨.box (n+1) bt,_⟩=>match Gj Γ d n 0 with
    |some p=>if p.1.noN N=true∧Ba p.1=some (n+1)then match ES N 0 p.1 (goT [d,N] (shT (E6 d N Γ) Γ))with
     |some q=>some ⟨(.s i,.v (.nam N))::(.o N,.box (n+1) bt)::q.1,fun ρ=>((),(),q.2 (goP [d,N] (shP (E6 d N Γ) ρ)) (p.2 ρ))⟩
     |none=>none
     else none
    |none=>none
   |_=>none
  |_=>none
def Gz(X:TP)(Γ:TC):Gh→Option (GhD Γ)
 | .tell i N=>OO X.Θ Γ i N
 | .own i id e size=>match get (Bt [id] Γ) (.s i),X.TT e with
  |some ⟨.v .nsl,_⟩,some t=>some ⟨(.s i,.own id)::(.o id,.arr e size t)::Bt [id] Γ,fun ρ=>((),[],B4 [id] ρ)⟩
  |_,_=>none
 | .ownc b j id e size=>match X.TT e with
  |some t=>match get ((.o id,.arr e size t)::Bt [id] Γ) (.o b),get ((.o id,.arr e size t)::Bt [id] Γ) (.c b j)with
   |some ⟨.box n bt,_⟩,some ⟨.v .nsl,_⟩=>if j<n∧b≠id then some ⟨(.c b j,.own id)::(.o id,.arr e size t)::Bt [id] Γ,fun ρ=>((),[],B4 [id] ρ)⟩else none
   |_,_=>none
  |none=>none
 | .ownb b j id e=>match get ((.o id,.buf e)::Bt [id] Γ) (.o b),get ((.o id,.buf e)::Bt [id] Γ) (.c b j)with
  |some ⟨.box n _,_⟩,some ⟨.v .nsl,_⟩=>if j<n∧b≠id then some ⟨(.c b j,.own id)::(.o id,.buf e)::Bt [id] Γ,fun ρ=>((),[],B4 [id] ρ)⟩else none
  |_,_=>none
 | .frz i=>match get Γ (.s i)with
  |some ⟨.own id,_⟩=>match get Γ (.o id)with
   |some ⟨.arr _ _ t,xs⟩=>some ⟨(.s i,.v (.sl t))::Bt [id] Γ,fun ρ=>(xs ρ,B4 [id] ρ)⟩
   |_=>none
  |some ⟨.mp id,_⟩=>match get Γ (.o id)with
   |some ⟨.mob _ k v,xs⟩=>some ⟨(.s i,.v (.map k v))::Bt [id] Γ,fun ρ=>(xs ρ,B4 [id] ρ)⟩
   |_=>none
  |_=>none
 | .frzc b j=>match get Γ (.o b),get Γ (.c b j)with
  |some ⟨.box n bt,_⟩,some ⟨.own id,_⟩=>match get Γ (.o id),get (Bt [id] Γ) (.o b)with
   |some ⟨.arr _ _ t,xs⟩,some ⟨.box n' _,_⟩=>if j<n∧j<n' then some ⟨(.c b j,.v (.sl t))::Bt [id] Γ,fun ρ=>(xs ρ,B4 [id] ρ)⟩else none
   |_,_=>none
  |_,_=>none
 | .frzb i=>match get Γ (.s i)with
  |some ⟨.ptr id 0,_⟩=>match get Γ (.o id)with
   |some ⟨.box (n+1) bt,_⟩=>match Gj Γ id n 0 with
    |some p=>some ⟨(.s i,.v (.pt p.1))::Bt [id] Γ,fun ρ=>(p.2 ρ,B4 [id] ρ)⟩
    |none=>none
   |_=>none
  |_=>none
def ghT(X:TP)(Γ:TC)(g:Gh):Option (GhD Γ):=if Rh X.Θ Γ g=true then none else Gz X Γ g
theorem My:∀{cs:List SV} {l:List CV},Aq closed cs=some l→cs=l.map .c
 | [],l,h=>by cases h;rfl
 |s::cs,l,h=>by
  simp only[Aq]at h;obtain⟨c,h1,h2⟩:=Ab.1 h;obtain⟨l',h3,h4⟩:=Aa.1 h2;subst h4
  have:s=.c c:=by
   cases s<;>first|(cases h1;rfl)|cases h1
  rw[this,My h3];rfl
theorem Z6{o:Option TC}{Γ:TC}{ρ:HS Γ}{st:St}{i N:Nat}{q:GhD Γ}(h:OO o Γ i N=some q)(hr:Rep Γ ρ st):∃st',Av (D3 o) st st'∧Rep q.Γ' (q.up ρ) st':=by
 unfold OO at h;split at h<;>(try cases h;done);rename_i Θ;split at h<;>(try cases h;done);rename_i hN;split at h<;>(try cases h;done);rename_i d f hg;split at h<;>(try cases h;done);rename_i hd;split at h<;>(try cases h;done);rename_i n bt fo ho;split at h<;>(try cases h;done);rename_i p hp;split at h<;>(try cases h;done);rename_i hnn;split at h<;>(try cases h;done);rename_i q' hq;cases h;simp only[not_or,Bool.not_eq_true,Bool.not_eq_false]at hN hd;have h1:st.fr i=.ptr d 0:=hr.s i _ hg;obtain⟨cs,h2,h3,h4⟩:=hr.o d _ ho;obtain⟨cvs,h5,h6,_⟩:=MH h4 hp (by omega);rw[List.drop_zero,List.take_of_length_le (by omega)]at h5;have h7:cs=cvs.map .c:=My h5;have hdl:d<As:=Nat.lt_of_not_le fun hh=>by have:=Nat.ble_eq_true_of_le hh;rw[hd.2]at this;cases this
 refine⟨_,Av.tell hdl (Ah hN.2) (fun hh=> ?_) (fun hh=> ?_) h1 h2, ?_⟩
 ·have hh':(AT Θ).contains N=true:=hh;rw[hN.1]at hh';cases hh'
 ·have hh':(AT Θ).contains d=true:=hh;rw[hd.1]at hh';cases hh'
 ·have r1:=Rep.drop hr d N;obtain⟨x1,x2⟩:=Ji (ρ:=goP [d,N] (shP (E6 d N Γ) ρ)) (x:=p.2 ρ) hq h6;have hlen:cvs.length=n+1:=Ew hnn.2 h6
  have r2:=Rep.newBox r1 x1 (ko:=.box (n+1) bt) (y:=()) (o:=.box (cvs.map .c) bt) ⟨_,rfl,by simp[hlen],fun j q' hj hq'=>by
   rcases x2 j q' hq' with⟨_,c,k2,k3⟩|⟨k1,_⟩
   ·exact⟨.c c,by rw[List.getElem?_map];simp only[Nat.sub_zero]at k2;rw[k2];rfl,k3⟩
   ·omega⟩
  have r3:=Rep.set r2 (d:=i) (k:=.v (.nam N)) (x:=()) (sv:=.c (.nam N)) ⟨_,rfl,by unfold Can;rfl⟩;have hnc:∀c∈cvs,BQ (C6 N) c=true:=H9.1 (Can.noN hnn.1 h6)
  have hcs:cs.map (Bz (WB.dropB d N st.ob) N)=cvs.map .c:=by
   rw[h7,List.map_map];refine List.map_congr_left fun c hc=> ?_;simp only[Function.comp_apply,Bz];rw[if_pos (hnc c hc)]
  have hst:CJ i d N cs bt st=St.set {fr:=(Iv d N st).fr,ob:=upd (Iv d N st).ob N (.box (cvs.map .c) bt)} (some i) (.c (.nam N)):=by
   unfold CJ;rw[hcs];simp only[St.set,St.mk.injEq];exact⟨by funext j;simp only[BK,Iv],by funext j;simp only[BK,Iv]⟩
  rw[hst];exact r3
theorem I8{X:TP}{Γ:TC}{ρ:HS Γ}{st:St}{g:Gh}{q:GhD Γ}(h:ghT X Γ g=some q)(hr:Rep Γ ρ st):∃st',Av (D3 X.Θ) st st'∧Rep q.Γ' (q.up ρ) st':=by
 unfold ghT at h;split at h<;>(try cases h;done);rename_i hlent;have hlent':Rh X.Θ Γ g=false:=by simpa using hlent
 clear hlent
 cases g with
 |tell i N=>exact Z6 h hr
 |own i id e size=>
  simp only[Gz]at h;split at h<;>(try cases h;done);rename_i f t hg ht;cases h;have hk:=hr.kill [id];obtain⟨c,e1,e2⟩:=hk.s i _ hg;unfold Can at e2;cases e2;refine⟨_,Av.trans (Av.kill st [id]) (Av.own (i:=i) (id:=id) (e:=e) (size:=size) e1 (by simp[WB.kill])),Rep.newObjS hk (k:=.own id) (ko:=.arr e size t) (x:=()) (y:= []) (v:=.osl id) ⟨[],rfl,rfl⟩ rfl⟩
 |ownc b j id e size=>
  simp only[Gz]at h;split at h<;>(try cases h;done);rename_i t ht;split at h<;>(try cases h;done);rename_i n bt fb f hb hg;split at h<;>(try cases h;done);rename_i hh;cases h;have hk:=hr.kill [id];have hk1:=Rep.turnObj hk (id:=id) (k:=.arr e size t) (y:= []) (o:=.arr e size []) ⟨[],rfl,rfl⟩;obtain⟨cs,e1,e2,e3⟩:=hk1.o b _ hb;obtain⟨sv,e4,c,e5,e6⟩:=e3 j _ hh.1 hg;unfold Can at e6;cases e6;subst e5;have e1':(WB.kill [id] st).ob b=.box cs bt:=by simpa[upd,hh.2]using e1
  refine⟨_,Av.trans (Av.kill st [id]) (Av.ownc (b:=b) (j:=j) (id:=id) RX e1' e4 (by simp[WB.kill])),Hb hk1 hb e2 e3 hh.1 (k:=.own id) (x:=()) (sv:=.osl id) rfl⟩
 |ownb b j id e=>
  simp only[Gz]at h;split at h<;>(try cases h;done);rename_i n bt fb f hb hg;split at h<;>(try cases h;done);rename_i hh;cases h;have hk:=hr.kill [id];have hk1:=Rep.turnObj hk (id:=id) (k:=.buf e) (y:= []) (o:=.buf e []) rfl;obtain⟨cs,e1,e2,e3⟩:=hk1.o b _ hb;obtain⟨sv,e4,c,e5,e6⟩:=e3 j _ hh.1 hg;unfold Can at e6;cases e6;subst e5;have e1':(WB.kill [id] st).ob b=.box cs bt:=by simpa[upd,hh.2]using e1
  refine⟨_,Av.trans (Av.kill st [id]) (Av.ownc (b:=b) (j:=j) (id:=id) XK e1' e4 (by simp[WB.kill])),Hb hk1 hb e2 e3 hh.1 (k:=.own id) (x:=()) (sv:=.osl id) rfl⟩
 |frz i=>
  simp only[Gz]at h;split at h<;>(try cases h;done)
  ·rename_i id f hg;split at h<;>(try cases h;done);rename_i e size t xs ho;cases h;have h1:st.fr i=.osl id:=hr.s i _ hg;obtain⟨es,h2,h3⟩:=hr.o id _ ho;exact⟨_,Av.frz (KJ hlent' hg rfl) h1 h2,Rep.set (hr.kill [id]) (d:=i) (k:=.v (.sl t)) (x:=xs ρ) ⟨_,rfl,by unfold Can;exact⟨_,_,rfl,h3⟩⟩⟩
  ·rename_i id f hg;split at h<;>(try cases h;done);rename_i mt k v xs ho;cases h;have h1:st.fr i=.omap id:=hr.s i _ hg;obtain⟨z,ks,vs,h2,_,h3,h4⟩:=hr.o id _ ho;exact⟨_,Av.frzm (KJ hlent' hg rfl) h1 h2,Rep.set (hr.kill [id]) (d:=i) (k:=.v (.map k v)) (x:=xs ρ) ⟨_,rfl,by unfold Can;exact⟨_,_,_,rfl,h3,h4⟩⟩⟩
 |frzc b j=>
  simp only[Gz]at h;split at h<;>(try cases h;done);rename_i n bt fb id f hb hg;split at h<;>(try cases h;done);rename_i e size t xs n' bt' fb' ho hb';split at h<;>(try cases h;done);rename_i hh;cases h;obtain⟨cs,e1,e2,e3⟩:=hr.o b _ hb;obtain⟨sv,e4,e5⟩:=e3 j _ hh.1 hg;have e5':sv=.osl id:=e5;subst e5';obtain⟨es,h2,h3⟩:=hr.o id _ ho;have hk:=hr.kill [id];obtain⟨cs',k1,k2,k3⟩:=hk.o b _ hb';have hne:b≠id:=fun e=>by rw[e,h2]at e1;cases e1
  have hcs:cs'=cs.map (Au [id])∧bt=bt':=by
   have:(WB.kill [id] st).ob b=.box (cs.map (Au [id])) bt:=by simp[WB.kill,hne,e1,BZ]
   rw[this]at k1;cases k1;exact⟨rfl,rfl⟩
  obtain⟨hcs,rfl⟩:=hcs;subst hcs;exact⟨_,Av.frzc (KJ hlent' hg rfl) e1 e4 h2,Hb hk hb' k2 k3 hh.2 (k:=.v (.sl t)) (x:=xs ρ) ⟨_,rfl,by unfold Can;exact⟨_,_,rfl,h3⟩⟩⟩
 |frzb i=>
  simp only[Gz]at h;split at h<;>(try cases h;done);rename_i id f hg;split at h<;>(try cases h;done);rename_i n bt fo ho;split at h<;>(try cases h;done);rename_i p hp;cases h;have h1:st.fr i=.ptr id 0:=hr.s i _ hg;obtain⟨cs,h2,h3,h4⟩:=hr.o id _ ho;obtain⟨cvs,h5,h6,_⟩:=MH h4 hp (by omega);rw[List.drop_zero,List.take_of_length_le (by omega)]at h5;have h7:st.ob id=.box (cvs.map .c) bt:=by rw[h2,My h5]
  exact⟨_,Av.frzb (KJ hlent' hg rfl) h1 h7,Rep.set (hr.kill [id]) (d:=i) (k:=.v (.pt p.1)) (x:=p.2 ρ) ⟨_,rfl,by unfold Can;exact⟨_,rfl,h6⟩⟩⟩
def D2{S T:Type}(b:S→Option (S⊕T)):Nat→S→Option T
 |0,_=>none
 |n+1,s=>(b s).bind fun o=>match o with
  | .inl s'=>D2 b n s'
  | .inr t=>some t
open Classical in
noncomputable def iter{S T:Type}(b:S→Option (S⊕T))(s:S):Option T:=
 if h:∃t n,D2 b n s=some t then some (choose h)else none
theorem Nv{S T:Type}{b:S→Option (S⊕T)}:∀{n m:Nat} {s:S} {t:T},n≤m→D2 b n s=some t→D2 b m s=some t
 |0,_,_,_,_,h=>by cases h
 |n+1,0,_,_,hnm,_=>by omega
 |n+1,m+1,s,t,hnm,h=>by
  simp only[D2]at h⊢;obtain⟨o,h1,h2⟩:=Ab.1 h;rw[h1,Option.bind_some]
  cases o with
  |inl s'=>exact Nv (by omega) h2
  |inr t'=>exact h2
theorem Hz{S T:Type}{b:S→Option (S⊕T)}{s:S}{t:T}:iter b s=some t↔∃n,D2 b n s=some t:=by
 unfold iter;constructor
 ·intro h;split at h<;>(try cases h;done);rename_i hh;cases h;exact Classical.choose_spec hh
 ·rintro⟨n,h⟩
  have hh:∃t n,D2 b n s=some t:=⟨t,n,h⟩;rw[dif_pos hh];obtain⟨m,hm⟩:=Classical.choose_spec hh;have h1:=Nv (Nat.le_max_left n m) h;have h2:=Nv (Nat.le_max_right n m) hm;rw[h1]at h2;rw[Option.some.inj h2]
theorem BV{S T:Type}(b:S→Option (S⊕T))(s:S):iter b s=(b s).bind fun o=>match o with
  | .inl s'=>iter b s'
  | .inr t=>some t:=by
 cases hb:b s with
 |none=>
  rw[Option.bind_none]
  cases h:iter b s with
  |none=>rfl
  |some t=>
   obtain⟨n,hn⟩:=Hz.1 h
   cases n with
   |zero=>cases hn
   |succ n=>simp[D2,hb]at hn
 |some o=>
  rw[Option.bind_some]
  cases o with
  |inr t=>exact Hz.2 ⟨1,by simp[D2,hb]⟩
  |inl s'=>
   simp only;apply Option.ext;intro t;rw[Hz,Hz];constructor
   ·rintro⟨n,hn⟩
    cases n with
    |zero=>cases hn
    |succ n=>
     refine⟨n, ?_⟩;simpa[D2,hb]using hn
   ·rintro⟨n,hn⟩
    exact⟨n+1,by simpa[D2,hb]using hn⟩
abbrev XC:=List (Nat×TC)
@[reducible] def KE(A:Type):XC→Type
 | []=>Unit
 |e::xs=>(HS e.2→Option A)×KE A xs
structure DKn (A:Type) (xs:XC) (Γn:TC) (R:Type) where
 n:HS Γn→Option A
 e:KE A xs
 r:R→Option A
def Dz(A:Type):(xs:XC)→Nat→Option (Σ Γ:TC,KE A xs→HS Γ→Option A)
 | [],_=>none
 |e::xs,i=>if e.1=i then some ⟨e.2,fun k=>k.1⟩else match Dz A xs i with
  |some q=>some ⟨q.1,fun k=>q.2 k.2⟩
  |none=>none
def LS(xs:XC):List Nat→Option XC
 | []=>some []
 |i::is=>match xs.find? (fun e=>e.1==i),LS xs is with
  |some e,some ys=>some ((i,e.2)::ys)
  |_,_=>none
def HM(A:Type)(xs:XC):(ys:XC)→Option (KE A xs→KE A ys)
 | []=>some fun _=>()
 |e::ys=>match Dz A xs e.1,HM A xs ys with
  |some q,some g=>if h:q.1=e.2 then some fun k=>(h▸q.2 k,g k)else none
  |_,_=>none
@[reducible] def DR(R:Type):XC→Bool→Type
 | [],true=>R
 | [],false=>Empty
 | [e],false=>HS e.2
 | [e],true=>HS e.2⊕R
 |e::xs,rt=>HS e.2⊕DR R xs rt
def keX{R B:Type}:(xs:XC)→(rt:Bool)→(DR R xs rt→B)→KE B xs
 | [],_,_=>()
 | [_],false,f=>(fun ρ=>some (f ρ),())
 | [_],true,f=>(fun ρ=>some (f (.inl ρ)),())
 |_::e::xs,rt,f=>(fun ρ=>some (f (.inl ρ)),keX (e::xs) rt (fun o=>f (.inr o)))
def rtX{R B:Type}:(xs:XC)→(rt:Bool)→(DR R xs rt→B)→R→Option B
 | [],true,f=>fun r=>some (f r)
 | [],false,_=>fun _=>none
 | [_],false,_=>fun _=>none
 | [_],true,f=>fun r=>some (f (.inr r))
 |_::e::xs,rt,f=>rtX (e::xs) rt (fun o=>f (.inr o))
def elX{R A:Type}:(xs:XC)→(rt:Bool)→KE A xs→(R→Option A)→DR R xs rt→Option A
 | [],true,_,kr=>fun o=>kr o
 | [],false,_,_=>fun o=>nomatch o
 | [_],false,k,_=>fun o=>k.1 o
 | [_],true,k,kr=>fun o=>match o with
  | .inl ρ=>k.1 ρ
  | .inr r=>kr r
 |_::e::xs,rt,k,kr=>fun o=>match o with
  | .inl ρ=>k.1 ρ
  | .inr o=>elX (e::xs) rt k.2 kr o
open Classical in
noncomputable def Lz{α A:Type}(l:List α)(F:List α→Option A):Option A:=
 if h:∃a,∀π:List α,π.Perm l→F π=some a then some (choose h)else none
theorem Sv{α A:Type}{l:List α}{F:List α→Option A}{a:A}:Lz l F=some a↔∀π:List α,π.Perm l→F π=some a:=by
 unfold Lz;constructor
 ·intro h;split at h
  ·rename_i hh;simp only[Ac]at h;rw[←h];exact Classical.choose_spec hh
  ·cases h
 ·intro h;have hh:∃a,∀π:List α,π.Perm l→F π=some a:=⟨a,h⟩;rw[dif_pos hh];have:=Classical.choose_spec hh l (List.Perm.refl l);rw[←this];exact h l (List.Perm.refl l)
def EP{X S T:Type}(step:X→S→Option (S⊕T))(fin:S→Option (S⊕T)):List X→S→Option T
 | [],s=>(fin s).bind fun w=>match w with
  | .inl _=>none
  | .inr t=>some t
 |x::xs,s=>(step x s).bind fun w=>match w with
  | .inl s'=>EP step fin xs s'
  | .inr t=>some t
inductive GL where
 |g (g:Gh)
 |l (l:SL)
def Ey:List GL→List SL
 | []=> []
 | .g _::gs=>Ey gs
 | .l l::gs=>l::Ey gs
inductive HT where
 |nil
 |n (k:HT)
 |g (g:Gh) (k:HT)
 |sp (g:Nat) (t f:HT)
inductive AC where
 |skip
 |reg (draw:Bool) (D:List Nat) (ls:List SL)
 |rg (D:List Nat) (gs:List GL)
 |rgt (draw:Bool) (D:List Nat) (ls:List SL) (h:HT)
 |rga (D:List Nat) (ls:List SL) (gs:List Gh)
 |regE (e:Bool) (D:List Nat) (ls:List SL)
 |sq (a b:AC)
 |seq (Γ:TC) (a b:AC)
 |join (Γ:TC) (ex:List Nat) (rt:Bool) (a b:AC)
 |cond (c:SO) (x y:AC)
 |block (id:Nat) (b:AC)
 |loop (Γ:TC) (ex:List Nat) (rt:Bool) (b:AC)
 |mloop (Γ:TC) (ex:List Nat) (rt:Bool) (it d ok i:Nat) (b:AC)
 |exit (id:Nat)
 |ret
 |gh (g:Gh) (c:AC)
 |raw (c:Cc)
def erase:AC→Cc
 | .skip=>.skip
 | .reg draw D ls=>.reg draw D ls
 | .rg D gs=>.reg false D (Ey gs)
 | .rgt draw D ls _=>.reg draw D ls
 | .rga D ls _=>.reg true D ls
 | .regE _ D ls=>.regE D ls
 | .sq a b| .seq _ a b| .join _ _ _ a b=>.seq (erase a) (erase b)
 | .cond c x y=>.cond c (erase x) (erase y)
 | .block id b=>.block id (erase b)
 | .loop _ _ _ b=>.loop (erase b)
 | .mloop _ _ _ it d ok i b=>.loop (.seq (.mnext it d ok) (.seq (.cond (.t ok) .skip (.exit i)) (erase b)))
 | .exit id=>.exit id
 | .ret=>.ret
 | .gh _ c=>erase c
 | .raw c=>c
structure LsD (A:Type) (Γ:TC) where
 Γ':TC
 run:HS Γ→(HS Γ'→Option A)→Option A
def Hl(A:Type)(X:TP)(msk:List Nat):(ls:List SL)→(Γ:TC)→Option (LsD A Γ)
 | [],Γ=>some ⟨Γ,fun ρ K=>K ρ⟩
 |l::ls,Γ=>match opL X Γ msk l with
  |some o=>match Hl A X msk ls o.Γ' with
   |some q=>some ⟨q.Γ',fun ρ K=>o.d.app ρ fun b=>q.run (o.up ρ b) K⟩
   |none=>none
  |none=>none
def Fb(A:Type)(X:TP)(draw:Bool)(D:List Nat)(ls:List SL)(Γ:TC):Option (LsD A Γ):=
 match D with
 | []=>Hl A (cond draw X.noE X) [] ls Γ
 |d::ds=>match Hl A (cond draw X.noE X) (if draw then d::ds else []) ls (Bt (d::ds) Γ)with
  |some q=>some ⟨q.Γ',fun ρ K=>q.run (B4 (d::ds) ρ) K⟩
  |none=>none
def F9(A:Type)(X:TP):(gs:List GL)→(Γ:TC)→Option (LsD A Γ)
 | [],Γ=>some ⟨Γ,fun ρ K=>K ρ⟩
 | .l l::gs,Γ=>match opL X Γ [] l with
  |some o=>match F9 A X gs o.Γ' with
   |some q=>some ⟨q.Γ',fun ρ K=>o.d.app ρ fun b=>q.run (o.up ρ b) K⟩
   |none=>none
  |none=>none
 | .g g::gs,Γ=>match ghT X Γ g with
  |some p=>match F9 A X gs p.Γ' with
   |some q=>some ⟨q.Γ',fun ρ K=>q.run (p.up ρ) K⟩
   |none=>none
  |none=>none
def It(A:Type)(X:TP)(D:List Nat)(gs:List GL)(Γ:TC):Option (LsD A Γ):=
 match D with
 | []=>F9 A X gs Γ
 |d::ds=>match F9 A X gs (Bt (d::ds) Γ)with
  |some q=>some ⟨q.Γ',fun ρ K=>q.run (B4 (d::ds) ρ) K⟩
  |none=>none
def FA(A:Type)(X:TP)(msk:List Nat):(ls:List RL)→(Γ:TC)→Option (LsD A Γ)
 | [],Γ=>some ⟨Γ,fun ρ K=>K ρ⟩
 | .l l::ls,Γ=>match opL X Γ msk l with
  |some o=>match FA A X msk ls o.Γ' with
   |some q=>some ⟨q.Γ',fun ρ K=>o.d.app ρ fun b=>q.run (o.up ρ b) K⟩
   |none=>none
  |none=>none
 | .sk (some d)::ls,Γ=>match FA A X msk ls ((.s d,.undef)::Γ)with
  |some q=>some ⟨q.Γ',fun ρ K=>q.run ((),ρ) K⟩
  |none=>none
 | .sk none::ls,Γ=>FA A X msk ls Γ
def CE(A:Type)(X:TP)(draw:Bool)(msk:List Nat):(h:HT)→(ls:List RL)→(Γ Γn:TC)→Option (HS Γ→(HS Γn→Option A)→Option A)
 | .nil,ls,Γ,Γn=>match FA A X msk ls Γ with
  |some q=>match BT q.Γ' Γn with
   |some f=>some fun ρ K=>q.run ρ fun ρ'=>K (f ρ')
   |none=>none
  |none=>none
 | .n k,.l l::ls,Γ,Γn=>match opL X Γ msk l with
  |some o=>match CE A X draw msk k ls o.Γ' Γn with
   |some q=>some fun ρ K=>o.d.app ρ fun b=>q (o.up ρ b) K
   |none=>none
  |none=>none
 | .n k,.sk (some d)::ls,Γ,Γn=>match CE A X draw msk k ls ((.s d,.undef)::Γ) Γn with
  |some q=>some fun ρ K=>q ((),ρ) K
  |none=>none
 | .n k,.sk none::ls,Γ,Γn=>CE A X draw msk k ls Γ Γn
 | .n _,[],_,_=>none
 | .g g k,ls,Γ,Γn=>match draw with
  |true=>none
  |false=>match ghT X Γ g with
   |some p=>match CE A X draw msk k ls p.Γ' Γn with
    |some q=>some fun ρ K=>q (p.up ρ) K
    |none=>none
   |none=>none
 | .sp g t f,ls,Γ,Γn=>match IZ g ls with
  |true=>match get Γ (.s g),CE A X draw msk t (Ei g true [] ls) Γ Γn,CE A X draw msk f (Ei g false [] ls) Γ Γn with
   |some ⟨.v .bool,e⟩,some dt,some df=>some fun ρ K=>if e ρ=true then dt ρ K else df ρ K
   |_,_,_=>none
  |false=>none
def Ho(A:Type)(X:TP)(draw:Bool)(D:List Nat)(ls:List SL)(h:HT)(Γ Γn:TC):Option (HS Γ→(HS Γn→Option A)→Option A):=
 match D with
 | []=>CE A (cond draw X.noE X) draw [] h (ls.map .l) Γ Γn
 |d::ds=>match CE A (cond draw X.noE X) draw (if draw then d::ds else []) h (ls.map .l) (Bt (d::ds) Γ) Γn with
  |some q=>some fun ρ K=>q (B4 (d::ds) ρ) K
  |none=>none
def C4:Key→Bool
 | .s _=>true
 | .o N| .c N _=> !Nat.ble As N
def Fj(e:Key×EK):Bool:=C4 e.1&&match e.2.refs with
 |some id=> !Nat.ble As id
 |none=>true
def Ec(e:Key×EK):Bool:= !C4 e.1
def D9(f:Key×EK→Bool):TC→List Key→TC
 | [],_=> []
 |e::Γ,seen=>match seen.contains e.1 with
  |true=>D9 f Γ seen
  |false=>match f e with
   |true=>e::D9 f Γ (e.1::seen)
   |false=>D9 f Γ (e.1::seen)
structure Pr (A:Type) (Γ Θ:TC) where
 Γ':TC
 Θ':TC
 run:HS Γ→HS Θ→(HS Γ'→HS Θ'→Option A)→Option A
def NA(l:SL):Bool:=(!l.op.hard||l.op.stores)&&l.dst.all fun j=>Nat.blt j As
def efT(X:TP)(Γ Θ:TC)(l:SL):Option (OpD (Θ++Γ)):=match l.op.calls with
 |true=>match Γ.all fun e=>C4 e.1 with
  |true=>GC X (Θ++Γ) l
  |false=>none
 |false=>none
def Hm(A:Type)(X:TP)(D:List Nat):(ls:List SL)→(Γ Θ:TC)→Option (Pr A Γ Θ)
 | [],Γ,Θ=>some ⟨Γ,Θ,fun ρ θ K=>K ρ θ⟩
 |l::ls,Γ,Θ=>match efT X Γ Θ l with
  |some o=>match BT o.Γ' (D9 Fj o.Γ' []),BT o.Γ' (D9 Ec o.Γ' [])with
   |some g,some f=>match Hm A X D ls (D9 Fj o.Γ' []) (D9 Ec o.Γ' [])with
    |some q=>some ⟨q.Γ',q.Θ',fun ρ θ K=>o.d.app (C0 Θ θ ρ) fun b=>q.run (g (o.up (C0 Θ θ ρ) b)) (f (o.up (C0 Θ θ ρ) b)) K⟩
    |none=>none
   |_,_=>none
  |none=>match NA l with
   |true=>match GD X Γ D l with
    |some o=>match Hm A X D ls o.Γ' Θ with
     |some q=>some ⟨q.Γ',q.Θ',fun ρ θ K=>o.d.app ρ fun b=>q.run (o.up ρ b) θ K⟩
     |none=>none
    |none=>none
   |false=>none
def MU(A:Type)(X:TP)(D:List Nat)(ls:List SL)(Γ:TC):Option (LsD A Γ):=
 match BT (Bt D Γ) (D9 Fj (Bt D Γ) []),BT (Bt D Γ) (D9 Ec (Bt D Γ) [])with
 |some g,some f=>match Hm A X D ls (D9 Fj (Bt D Γ) []) (D9 Ec (Bt D Γ) [])with
  |some q=>match q.Γ'.all fun e=>C4 e.1 with
   |true=>some ⟨q.Θ'++q.Γ',fun ρ K=>q.run (g (B4 D ρ)) (f (B4 D ρ)) fun ρ' θ'=>K (C0 q.Θ' θ' ρ')⟩
   |false=>none
  |none=>none
 |_,_=>none
def MV(A:Type)(X:TP)(e:Bool)(D:List Nat)(ls:List SL)(Γ:TC):Option (LsD A Γ):=match e with
 |true=>MU A X D ls Γ
 |false=>Fb A X true D ls Γ
def FB(A:Type)(X:TP):AC→(Γ:TC)→Option (LsD A Γ)
 | .skip,Γ=>some ⟨Γ,fun ρ K=>K ρ⟩
 | .reg draw D ls,Γ=>Fb A X draw D ls Γ
 | .rg D gs,Γ=>It A X D gs Γ
 | .regE e D ls,Γ=>MV A X e D ls Γ
 | .sq a b,Γ=>match FB A X a Γ with
  |some p=>match FB A X b p.Γ' with
   |some q=>some ⟨q.Γ',fun ρ K=>p.run ρ fun ρ'=>q.run ρ' K⟩
   |none=>none
  |none=>none
 | .gh g c,Γ=>match ghT X Γ g with
  |some p=>match FB A X c p.Γ' with
   |some q=>some ⟨q.Γ',fun ρ K=>q.run (p.up ρ) K⟩
   |none=>none
  |none=>none
 |_,_=>none
def HJ(X:TP)(Γ:TC):Bx→Option (Σ t:Ty,Dyn (HS Γ) (D t))
 | .tmp t=>match rdC Γ [] (.t t)with
  |some q=>some q.2
  |none=>none
 | .cell a sz=>match rdK X.G Γ (.t a)with
  |some k=>match DE Γ [] sz (Df Γ [] k)with
   |some ⟨.v t,d⟩=>some ⟨t,d⟩
   |some ⟨.own id,.tot _⟩=>match get Γ (.o id)with
    |some ⟨.arr _ _ t,xs⟩=>some ⟨.sl t,.tot xs⟩
    |_=>none
   |_=>none
  |none=>none
def HI(X:TP)(Γ:TC):List Bx→Option (Σ r:Ty,Dyn (HS Γ) (D r))
 | []=>some ⟨.nil,.tot fun _=>()⟩
 | [x]=>match HJ X Γ x with
  |some q=>some ⟨.one q.1,q.2⟩
  |none=>none
 |x::y::xs=>match HJ X Γ x,HI X Γ (y::xs)with
  |some q,some p=>some ⟨.cons q.1 p.1,q.2.both p.2⟩
  |_,_=>none
def LO(X:TP)(Γ:TC):List Bx→Option (Σ t:Ty,Dyn (HS Γ) (D t))
 | [x]=>HJ X Γ x
 |xs=>match HI X Γ xs with
  |some q=>some ⟨.tup q.1,q.2⟩
  |none=>none
def Oy(Γ:TC):(rs:List Bx)→(Rt:Ty)→Option (HS Γ→D Rt)
 | [.tmp i],.nw e size t=>match get Γ (.s i)with
  |some ⟨.own id,_⟩=>match get Γ (.o id)with
   |some ⟨.arr e' size' t',xs⟩=>if h:t'=t then(if e'=e∧size'=size then some fun ρ=>(h▸xs ρ:List (D t))else none)else none
   |_=>none
  |some ⟨.v .nsl,_⟩=>some fun _=>([]:List (D t))
  |_=>none
 |_,_=>none
structure RdD (Γ:TC) (R:Type):Type 1 where
 B:Type
 d:Dyn (HS Γ) B
 up:HS Γ→B→R
def rdT(X:TP)(rs:List Bx)(Rt:Ty)(Γ:TC):Option (RdD Γ (D Rt)):=
 match Oy Γ rs Rt with
 |some g=>some ⟨Unit,.tot fun _=>(),fun ρ _=>g ρ⟩
 |none=>match LO X Γ rs with
  |some q=>match Bi q.1 Rt with
   |some g=>some ⟨D q.1,q.2,fun _ v=>g v⟩
   |none=>none
  |none=>none
def Ir(X:TP):(gs:List Gh)→(Γ:TC)→Option (Σ Γ':TC,HS Γ→HS Γ')
 | [],Γ=>some ⟨Γ,fun ρ=>ρ⟩
 |g::gs,Γ=>match ghT X Γ g with
  |some p=>match Ir X gs p.Γ' with
   |some q=>some ⟨q.1,fun ρ=>q.2 (p.up ρ)⟩
   |none=>none
  |none=>none
noncomputable def den(X:TP)(R:Type)(rd:(Γ:TC)→Option (RdD Γ R)):AC→(A:Type)→(xs:XC)→(Γn Γ:TC)→Option (HS Γ→DKn A xs Γn R→Option A)
 | .skip,A,xs,Γn,Γ=>match BT Γ Γn with
  |some f=>some fun ρ k=>k.n (f ρ)
  |none=>none
 | .reg draw D ls,A,xs,Γn,Γ=>match Fb A X draw D ls Γ with
  |some q=>match BT q.Γ' Γn with
   |some f=>some fun ρ k=>q.run ρ fun ρ'=>k.n (f ρ')
   |none=>none
  |none=>none
 | .rg D gs,A,xs,Γn,Γ=>match It A X D gs Γ with
  |some q=>match BT q.Γ' Γn with
   |some f=>some fun ρ k=>q.run ρ fun ρ'=>k.n (f ρ')
   |none=>none
  |none=>none
 | .rgt draw D ls h,A,xs,Γn,Γ=>match Ho A X draw D ls h Γ Γn with
  |some q=>some fun ρ k=>q ρ k.n
  |none=>none
 | .rga D ls gs,A,xs,Γn,Γ=>match Fb A X true D ls Γ with
  |some q=>match Ir X gs q.Γ' with
   |some p=>match BT p.1 Γn with
    |some f=>some fun ρ k=>q.run ρ fun ρ'=>k.n (f (p.2 ρ'))
    |none=>none
   |none=>none
  |none=>none
 | .regE e D ls,A,xs,Γn,Γ=>match MV A X e D ls Γ with
  |some q=>match BT q.Γ' Γn with
   |some f=>some fun ρ k=>q.run ρ fun ρ'=>k.n (f ρ')
   |none=>none
  |none=>none
 | .sq a b,A,xs,Γn,Γ=>match FB A X a Γ with
  |some q=>match den X R rd b A xs Γn q.Γ' with
   |some db=>some fun ρ k=>q.run ρ fun ρ'=>db ρ' k
   |none=>none
  |none=>none
 | .seq Γm a b,A,xs,Γn,Γ=>match den X R rd a A xs Γm Γ,den X R rd b A xs Γn Γm with
  |some da,some db=>some fun ρ k=>da ρ ⟨fun ρm=>db ρm k,k.e,k.r⟩
  |_,_=>none
 | .join Γm ex rt a b,A,xs,Γn,Γ=>match LS xs ex with
  |some ys=>match HM A xs ys,den X R rd a (DR R ((0,Γm)::ys) rt) ys Γm Γ,den X R rd b A xs Γn Γm with
   |some g,some da,some db=>some fun ρ k=>(da ρ ⟨(keX ((0,Γm)::ys) rt (fun o=>o)).1,(keX ((0,Γm)::ys) rt (fun o=>o)).2,rtX ((0,Γm)::ys) rt (fun o=>o)⟩).bind (elX ((0,Γm)::ys) rt (fun ρm=>db ρm k,g k.e) k.r)
   |_,_,_=>none
  |none=>none
 | .cond c x y,A,xs,Γn,Γ=>match rdV Γ c,den X R rd x A xs Γn Γ,den X R rd y A xs Γn Γ with
  |some ⟨.bool,d⟩,some dx,some dy=>some fun ρ k=>d.app ρ fun b=>if b=true then dx ρ k else dy ρ k
  |_,_,_=>none
 | .block id b,A,xs,Γn,Γ=>match den X R rd b A ((id,Γn)::xs) Γn Γ with
  |some db=>some fun ρ k=>db ρ ⟨k.n,(k.n,k.e),k.r⟩
  |none=>none
 | .loop Γh ex rt b,A,xs,_,Γ=>match LS xs ex with
  |some ys=>match HM A xs ys,BT Γ Γh,den X R rd b (HS Γh⊕DR R ys rt) ys Γh Γh with
   |some g,some f,some db=>some fun ρ k=>(iter (fun ρ=>db ρ ⟨fun ρ'=>some (.inl ρ'),keX ys rt Sum.inr,rtX ys rt Sum.inr⟩) (f ρ)).bind (elX ys rt (g k.e) k.r)
   |_,_,_=>none
  |none=>none
 | .mloop Γh ex rt it d ok i b,A,xs,_,Γ=>match get Γ (.s it),get Γ (.o it)with
  |some ⟨.iter id,_⟩,some ⟨.mit kt vt,m⟩=>match Nat.beq id it&&(Nat.blt it As&&G9 it (erase b)),LS xs ex with
   |true,some ys=>match HM A xs ys,BT Γ Γh,BT ((.s it,.iter it)::(.o it,.mcur kt vt)::Γh) Γh,Dz (HS Γh⊕DR R ys rt) ys i,den X R rd b (HS Γh⊕DR R ys rt) ys ((.s it,.iter it)::(.o it,.mcur kt vt)::Γh) ((.s ok,.v .bool)::(.s d,.undef)::(.s it,.iter it)::(.o it,.mcur kt vt)::Γh)with
    |some g,some f,some fb,some q,some db=>match BT ((.s ok,.v .bool)::(.s d,.undef)::Γh) q.1 with
     |some c=>some fun ρ k=>Lz (m ρ) fun π=>(EP (fun x ρ=>db (true,(),(),x,ρ) ⟨fun ρ'=>some (.inl (fb ρ')),keX ys rt Sum.inr,rtX ys rt Sum.inr⟩) (fun ρ=>q.2 (keX ys rt Sum.inr) (c (false,(),ρ))) π (f ρ)).bind (elX ys rt (g k.e) k.r)
     |none=>none
    |_,_,_,_,_=>none
   |_,_=>none
  |_,_=>none
 | .exit i,A,xs,_,Γ=>match Dz A xs i with
  |some q=>match BT Γ q.1 with
   |some f=>some fun ρ k=>q.2 k.e (f ρ)
   |none=>none
  |none=>none
 | .ret,A,xs,Γn,Γ=>match rd Γ with
  |some q=>some fun ρ k=>q.d.app ρ fun v=>k.r (q.up ρ v)
  |none=>none
 | .raw _,_,_,_,_=>some fun _ _=>none
 | .gh g c,A,xs,Γn,Γ=>match ghT X Γ g with
  |some p=>match den X R rd c A xs Γn p.Γ' with
   |some dc=>some fun ρ k=>dc (p.up ρ) k
   |none=>none
  |none=>none
section
variable {X:TP} {E:Env}
theorem OY{t:Ty}(hm:mlT t=true):∀{ys:List (D t)} {es:List CV},Ap (fun x c=>Can t x [c]) ys es→Cg es=true
 | [],es,h=>by unfold Ap at h;subst h;rfl
 |y::ys,es,h=>by
  obtain⟨c,es',rfl,h1,h2⟩:=h;have:=RN hm h1;simp only[Cg,Bool.and_true]at this;simp[Cg,this,OY hm h2]
theorem XU(hT:TOk X E){Γ:TC}{msk:List Nat}{ρ:HS Γ}{st:St}(hr:Rep Γ ρ st){rd:Nat→Ob}(hrd:∀id,msk.contains id=false→rd id=st.ob id){d:Nat}{op:SOp}{o:OpD Γ}(h:Oa X Γ msk d op=some o){b:o.B}(hb:o.d.val ρ=some b):
  ∃st',A4 E rd st (some d) op=some st'∧Rep o.Γ' (o.up ρ b) st':=by
 cases op<;>(try cases h;done)
 case call f args=>
  simp only[Oa]at h;split at h<;>(try cases h;done);rename_i a e size t fn hs;split at h<;>(try cases h;done);rename_i f0 hg;split at h<;>(try cases h;done);rename_i p hp;split at h<;>(try cases h;done);rename_i g hg';split at h<;>(try cases h;done);rename_i hc;cases h;try dsimp only at hb
  obtain⟨z,h1,h2⟩:=Dyn.comp_val hb;obtain⟨y,h3,h4⟩:=Dyn.map_val h1;subst h4;obtain⟨l,h5,h6,h7⟩:=Ig hr hrd (G:=E.G) (fl:=p.1) (q:=p.2) hp h3;obtain⟨_,s3⟩:=hT.nw f a e size t fn hs;obtain⟨es,h8,h9⟩:=s3 _ l b (Co _ _ hg' h6) h2;have hn:st.ob d=.none:=hr.o d _ hg
  have hm:((args.all fun x=>isC (so E.G st.fr x))||(Res.new (.arr e size es)).memless)=true:=by
   cases hp1:p.1 with
   |true=>rw[h7 hp1];rfl
   |false=>
    rw[hp1]at hc;simp only[Bool.false_or]at hc;simp[Res.memless,OY hc h9]
  refine⟨_, ?_,Rep.newObjS hr (k:=.own d) (ko:=.arr e size t) (x:=()) (y:=b) (v:=.osl d) ⟨es,rfl,h9⟩ rfl⟩;simp only[A4,SOp.cls,hT.ef f (.inr (by rw[hs];rfl)),Dc,h5,Option.bind_some,List.append_nil,h8,hm,if_true,DN,By,hn,Option.getD_some,LM]
theorem UF(hF:BF X E){a:Ty}{Θ:TC}{r:Ty}{n:Nat}(hn:Ba a=some n):∀{t:Ty} {F:D t→D a→HS Θ→Option (D r×HS Θ)} {x:D t} {y:D a} {θ θ':HS Θ} {z:D r} {c:CV} {l:List CV} {H:Nat→Ob},Ij X a Θ r t=some F→F x y θ=some (z,θ')→Can t x [c]→Can a y l→Rep Θ θ {fr:=fun _=>.undef,ob:=H}→
  r.val=true∧r.ok=true∧∃g caps e,c=.fn g caps∧E.ef g=some e∧e.T=AT Θ∧e.fn (l++caps) H=some (enc r z,DZ Θ θ'):=by
 have one:∀{g:Nat} {cc:Ty} {s:BX} {h:D (B6 a cc).1→D s.a} {hΘ:s.Θ=Θ} {hr:s.r=r} {x:D cc} {y:D a} {θ θ':HS Θ} {z:D r} {caps l:List CV} {H:Nat→Ob},X.TE g=some s→Bi (B6 a cc).1 s.a=some h→MF s.fn hΘ hr (h ((B6 a cc).2 y x)) θ=some (z,θ')→Can cc x caps→Can a y l→Rep Θ θ {fr:=fun _=>.undef,ob:=H}→
   r.val=true∧r.ok=true∧∃e,E.ef g=some e∧e.T=AT Θ∧e.fn (l++caps) H=some (enc r z,DZ Θ θ'):=by
  intro g cc s h hΘ hr x y θ θ' z caps l H hs hh hz hx hy hH;obtain⟨⟨s1,_⟩,s2,e,s3,s4,s5⟩:=hF g s hs;obtain⟨Θs,as,rs,fn⟩:=s;simp only at hΘ hr;subst hΘ;subst hr;exact⟨s1,s2,e,s3,s4,s5 _ _ θ H z θ' (Co _ _ hh (GX hn hy hx)) hH hz⟩
 intro t
 induction t with
 |clo g cc _=>
  intro F x y θ θ' z c l H h hz hx hy hH;simp only[Ij]at h;split at h<;>(try cases h;done);rename_i s hs;split at h<;>(try cases h;done);rename_i hh h1;split at h<;>(try cases h;done);rename_i hΘ;split at h<;>(try cases h;done);rename_i hr;cases h;unfold Can at hx;obtain⟨caps,e,hx⟩:=hx;cases e;obtain⟨g1,g2,e,g3,g4,g5⟩:=one hs h1 hz hx hy hH;exact⟨g1,g2,g,caps,e,rfl,g3,g4,g5⟩
 |falt g cc l' _ ihl=>
  intro F x y θ θ' z c l H h hz hx hy hH;simp only[Ij]at h;split at h<;>(try cases h;done);rename_i s FF hs hFF;split at h<;>(try cases h;done);rename_i hh h1;split at h<;>(try cases h;done);rename_i hΘ;split at h<;>(try cases h;done);rename_i hr;cases h
  cases x with
  |inl w=>
   unfold Can at hx;obtain⟨caps,e,hx⟩:=hx;cases e;obtain⟨g1,g2,e,g3,g4,g5⟩:=one hs h1 hz hx hy hH;exact⟨g1,g2,g,caps,e,rfl,g3,g4,g5⟩
  |inr w=>
   unfold Can at hx;exact ihl hFF hz hx.2 hy hH
 |_=>intro F x y θ θ' z c l H h;cases h
theorem Kj(hT:TOk X E)(hF:BF X E){Γ:TC}{ρ:HS Γ}{st:St}(hr:Rep Γ ρ st){op:SOp}{q:EfD Γ}(h:efK X Γ op=some q)(ho:okΘ q.Θ=true){y:D q.r}{θ':HS q.Θ}(hy:q.d.val ρ=some (y,θ'))(rd:Nat→Ob)(d:Option Nat):
  q.r.val=true∧q.r.ok=true∧A4 E rd st d op=some ((Ck (AT q.Θ) (DZ q.Θ θ') st).set d (.c (enc q.r y))):=by
 have part:∀{Θ:TC} {f:HS Γ→HS Θ},okΘ Θ=true→BT Γ Θ=some f→Rep Θ (f ρ) {fr:=fun _=>.undef,ob:=Cy (AT Θ) st.ob}:=by
  intro Θ f ho hf;have h1:=CM hf hr;simp only[okΘ,Af]at ho;refine⟨fun i q hq=> ?_,fun id q hq=> ?_⟩
  ·have:=Cs ho.2 (B5 hq);obtain⟨k,f'⟩:=q;cases k<;>cases this
  ·have hok:=Cs ho.2 (B5 hq);have hid:(AT Θ).contains id=true:=by simpa using FL.2 (Ff (B5 hq))
   have r:=h1.o id _ hq;show RO Θ _ id q.1 _ (Cy (AT Θ) st.ob id);unfold Cy;rw[if_pos hid];obtain⟨k,f'⟩:=q;cases k<;>(try cases hok;done)
   case box n=>
    obtain⟨cs,e1,hl,hc⟩:=r;rw[e1];refine⟨_,rfl,by simpa using hl,fun j q' hj hq'=> ?_⟩;obtain⟨sv,g1,g2⟩:=hc j q' hj hq';refine⟨Gp (AT Θ) sv,by rw[List.getElem?_map,g1];rfl, ?_⟩;simp only[okE,Af,List.all_eq_true,List.mem_range]at hok;have hcj:=hok.2 j hj;rw[B5 hq']at hcj;obtain⟨k',f''⟩:=q';cases k'<;>(try cases hcj;done)
    case v t=>obtain⟨c,rfl,hc'⟩:=g2;exact⟨c,rfl,hc'⟩
    case own K=>
     have e2:sv=.osl K:=g2;subst e2;simp only[okC,Af]at hcj;show Gp (AT Θ) (.osl K)=.osl K;simp only[Gp,SV.ref];rw[if_pos hcj.1]
   case arr e size t=>obtain⟨es,e1,hc⟩:=r;rw[e1];exact⟨es,rfl,hc⟩
   case buf e=>
    have e1:st.ob id=.buf e (f' (f ρ)):=r;rw[e1];rfl
 cases op<;>(try cases h;done)
 case call f args=>
  simp only[efK]at h;split at h<;>(try cases h;done);rename_i s hs;split at h<;>(try cases h;done);rename_i p g hp hg;split at h<;>(try cases h;done);rename_i k hk;cases h;try dsimp only at hy ho y θ'⊢
  obtain⟨z,h1,h2⟩:=Dyn.comp_val hy;obtain⟨x,h3,h4⟩:=Dyn.map_val h1;subst h4;obtain⟨l,h5,h6⟩:=Ik (G:=E.G) hr hp h3;obtain⟨⟨s1,_⟩,s2,e,s3,s4,s5⟩:=hF f s hs;refine⟨s1,s2, ?_⟩;have h7:=s5 _ l (g ρ) _ y θ' (Co _ _ hk h6) (part ho hg) h2;simp only[A4,SOp.cls,s3,CP,h5,Option.bind_some,List.append_nil,s4,h7]
 case callv f args=>
  simp only[efK]at h;split at h<;>(try cases h;done)
  ·rename_i g cc d' p hf hp;split at h<;>(try cases h;done);rename_i s hs;split at h<;>(try cases h;done);rename_i n k gθ hn hk hg;cases h;try dsimp only at hy ho y θ'⊢
   obtain⟨z,h1,h2⟩:=Dyn.comp_val hy;obtain⟨x,h3,h4⟩:=Dyn.map_val h1;obtain⟨h3,h3'⟩:=Dyn.both_val h3;subst h4;obtain⟨l,h5,h6⟩:=Ik (G:=E.G) hr hp h3;obtain⟨c,e1,e2⟩:=A5 (G:=E.G) hf hr h3';unfold Can at e2;obtain⟨caps,e3,e2⟩:=e2;cases e3;obtain⟨⟨s1,_⟩,s2,e,s3,s4,s5⟩:=hF g s hs;refine⟨s1,s2, ?_⟩;have h7:=s5 _ (l++caps) (gθ ρ) _ y θ' (Co _ _ hk (GX hn h6 e2)) (part ho hg) h2;simp only[A4,SOp.cls,e1,s3,CP,h5,Option.bind_some,s4,h7]
  ·rename_i g cc l' d' p hf hp;split at h<;>(try cases h;done);rename_i s hs;split at h<;>(try cases h;done);rename_i n gθ F hn hg hFF;cases h;try dsimp only at hy ho y θ'⊢
   obtain⟨z,h1,h2⟩:=Dyn.comp_val hy;obtain⟨x,h3,h4⟩:=Dyn.map_val h1;obtain⟨h3,h3'⟩:=Dyn.both_val h3;subst h4;obtain⟨l,h5,h6⟩:=Ik (G:=E.G) hr hp h3;obtain⟨c,e1,e2⟩:=A5 (G:=E.G) hf hr h3';obtain⟨s1,s2,g',caps,e,rfl,s3,s4,s5⟩:=UF hF hn hFF h2 e2 h6 (part ho hg);refine⟨s1,s2, ?_⟩;simp only[A4,SOp.cls,e1,s3,CP,h5,Option.bind_some,s4,s5]
theorem Mk{Γ Θ:TC}{ρ:HS Γ}{θ':HS Θ}{st:St}(ho:okΘ Θ=true)(hr:Rep Γ ρ st):Rep (Θ++Bt (AT Θ) Γ) (C0 Θ θ' (B4 (AT Θ) ρ)) (Ck (AT Θ) (DZ Θ θ') st):=
 hr.turned ho (Wb ho θ' fun _=>.undef)
theorem VM{Γ:TC}{op:SOp}{q:EfD Γ}(h:efK X Γ op=some q):BT Γ q.Θ=some q.θ:=by
 cases op<;>(try cases h;done)
 case call f args=>
  simp only[efK]at h;split at h<;>(try cases h;done);split at h<;>(try cases h;done);rename_i p g hp hg;split at h<;>(try cases h;done);cases h;exact hg
 case callv f args=>
  simp only[efK]at h;split at h<;>(try cases h;done)
  all_goals
   split at h<;>(try cases h;done);split at h<;>(try cases h;done)
  ·rename_i hg;cases h;exact hg
  ·rename_i hg _;cases h;exact hg
theorem VL{Γ:TC}{op:SOp}{q:EfD Γ}(h:efK X Γ op=some q):∃f,X.TE f≠none:=by
 cases op<;>(try cases h;done)
 case call f args=>
  simp only[efK]at h;split at h<;>(try cases h;done);rename_i s hs;exact⟨f,by rw[hs];simp⟩
 case callv f args=>
  simp only[efK]at h;split at h<;>(try cases h;done)
  all_goals
   split at h<;>(try cases h;done);rename_i s hs;exact⟨_,by rw[hs];simp⟩
theorem Se(hT:TOk X E)(hF:BF X E){Γ:TC}{ρ:HS Γ}{st:St}(hr:Rep Γ ρ st)(rd:Nat→Ob){l:SL}{o:OpD Γ}(h:GC X Γ l=some o){b:o.B}(hb:o.d.val ρ=some b):
  ∃st',B3 E rd l st=some st'∧Rep o.Γ' (o.up ρ b) st':=by
 unfold GC at h;split at h<;>(try cases h;done);rename_i e he;split at h<;>(try cases h;done);rename_i ho;obtain⟨dst,op,guard⟩:=l;simp only at he h;split at h
 ·rename_i d;cases h;obtain⟨y,θ'⟩:=b;obtain⟨v1,v2,v3⟩:=Kj hT hF hr he ho hb rd (some d);exact⟨_,by simp only[B3];exact v3,Rep.set (Mk ho hr) ⟨_,rfl,Can.enc y v1 v2⟩⟩
 ·cases h;obtain⟨y,θ'⟩:=b;obtain⟨v1,v2,v3⟩:=Kj hT hF hr he ho hb rd none;exact⟨_,by simp only[B3];exact v3,Mk ho hr⟩
 ·rename_i g want d;have hun:=hr.unturned ho (CM (VM he) hr);split at h<;>(try cases h;done)
  ·rename_i f hg;cases h;obtain⟨c,e1,e2⟩:=hr.s g _ hg;unfold Can at e2;cases e2;by_cases hw:f ρ=want
   ·have:∃y,e.d.val ρ=some y∧b=some y:=by
     cases hd:e.d with
     |tot k=>rw[hd]at hb;simp only[gD,Dyn.val,hw,if_true,Ac]at hb;exact⟨_,rfl,hb.symm⟩
     |par k=>
      rw[hd]at hb;simp only[gD,Dyn.val,hw,if_true]at hb;obtain⟨y,h1,h2⟩:=Aa.1 hb;exact⟨y,h1,h2.symm⟩
    obtain⟨⟨y,θ'⟩,hy,rfl⟩:=this;obtain⟨v1,v2,v3⟩:=Kj hT hF hr he ho hy rd (some d);exact⟨_,by simp only[B3,e1,hw,if_true];exact v3,Rep.set (k:=.opt (.v e.r)) (x:=some y) (Mk ho hr) ⟨_,rfl,Can.enc y v1 v2⟩⟩
   ·have:b=none:=by
     cases hd:e.d with
     |tot k=>rw[hd]at hb;simp only[gD,Dyn.val,hw,if_false,Ac]at hb;exact hb.symm
     |par k=>rw[hd]at hb;simp only[gD,Dyn.val,hw,if_false,Ac]at hb;exact hb.symm
    subst this;exact⟨st.set (some d) Bn,by simp only[B3,e1,hw,if_false],Rep.set hun (k:=.opt (.v e.r)) (x:=none) rfl⟩
  ·rename_i f hg;cases h;have hs:=hr.s g _ hg;unfold RS at hs;by_cases hw:f ρ=some want
   ·simp only[hw]at hs;obtain⟨c,e1,e2⟩:=hs;unfold Can at e2;cases e2
    have:∃y,e.d.val ρ=some y∧b=some y:=by
     cases hd:e.d with
     |tot k=>rw[hd]at hb;simp only[gO,Dyn.val,hw,if_true,Ac]at hb;exact⟨_,rfl,hb.symm⟩
     |par k=>
      rw[hd]at hb;simp only[gO,Dyn.val,hw,if_true]at hb;obtain⟨y,h1,h2⟩:=Aa.1 hb;exact⟨y,h1,h2.symm⟩
    obtain⟨⟨y,θ'⟩,hy,rfl⟩:=this;obtain⟨v1,v2,v3⟩:=Kj hT hF hr he ho hy rd (some d);exact⟨_,by simp only[B3,e1,if_true];exact v3,Rep.set (k:=.opt (.v e.r)) (x:=some y) (Mk ho hr) ⟨_,rfl,Can.enc y v1 v2⟩⟩
   ·have:b=none:=by
     cases hd:e.d with
     |tot k=>rw[hd]at hb;simp only[gO,Dyn.val,hw,if_false,Ac]at hb;exact hb.symm
     |par k=>rw[hd]at hb;simp only[gO,Dyn.val,hw,if_false,Ac]at hb;exact hb.symm
    subst this
    cases hf:f ρ with
    |none=>
     simp only[hf]at hs;exact⟨st.set (some d) Bn,by simp only[B3,hs,Bn],Rep.set hun (k:=.opt (.v e.r)) (x:=none) rfl⟩
    |some b'=>
     simp only[hf]at hs;obtain⟨c,e1,e2⟩:=hs;unfold Can at e2;cases e2;have hne:b'≠want:=fun e=>hw (by rw[hf,e]);exact⟨st.set (some d) Bn,by simp only[B3,e1,hne,if_false],Rep.set hun (k:=.opt (.v e.r)) (x:=none) rfl⟩
 ·cases h
theorem Sf(hT:TOk X E){Γ:TC}{msk:List Nat}{ρ:HS Γ}{st:St}(hr:Rep Γ ρ st){rd:Nat→Ob}{l:SL}(hD:∀id,(hid l.op msk).contains id=false→rd id=st.ob id){o:OpD Γ}(h:GD X Γ msk l=some o){b:o.B}(hb:o.d.val ρ=some b):
  ∃st',B3 E rd l st=some st'∧Rep o.Γ' (o.up ρ b) st':=by
 obtain⟨dst,op,guard⟩:=l
 cases guard with
 |none=>
  simp only[GD]at h;split at h
  ·rename_i hcls;split at h<;>(try cases h;done);rename_i d;split at h<;>(try cases h;done);rename_i f hg;obtain⟨v,ob,h1,h2⟩:=XX hr h hb;have hn:st.ob d=.none:=hr.o d _ hg;rw[←hT.G]at h1;exact⟨_,by simp[B3,A4,hcls,h1,By,hn],h2⟩
  ·rename_i hcls;obtain⟨st',h1,h2⟩:=XW hr h hb;rw[←hT.G]at h1;exact⟨st',by simp only[B3,A4,hcls,DS,h1],h2⟩
  ·obtain⟨st',h1,h2⟩:=XV hT hr h hb rd;exact⟨st',h1,h2⟩
  ·split at h
   ·rename_i q hq;split at h
    ·rename_i d;cases h;obtain⟨sv,h1,h2⟩:=Ma hT hr hD hq hb (some d);exact⟨_,by simp only[B3,h1],Rep.set hr h2⟩
    ·cases h;obtain⟨sv,h1,h2⟩:=Ma hT hr hD hq hb none;exact⟨st,by simp only[B3,h1,St.set],hr⟩
   ·split at h<;>(try cases h;done);rename_i d;obtain⟨st',h1,h2⟩:=XU hT hr hD h hb;exact⟨st',by simp only[B3,h1],h2⟩
 |some g=>
  obtain⟨g,want⟩:=g;simp only[GD]at h;split at h<;>(try cases h;done);rename_i q d hq;split at h<;>(try cases h;done)
  ·rename_i f hg;cases h;obtain⟨c,e1,e2⟩:=hr.s g _ hg;unfold Can at e2;cases e2;by_cases hw:f ρ=want
   ·have:∃y,q.2.val ρ=some y∧b=some y:=by
     cases hd:q.2 with
     |tot k=>rw[hd]at hb;simp only[gD,Dyn.val,hw,if_true,Ac]at hb;exact⟨_,rfl,hb.symm⟩
     |par k=>
      rw[hd]at hb;simp only[gD,Dyn.val,hw,if_true]at hb;obtain⟨y,h1,h2⟩:=Aa.1 hb;exact⟨y,h1,h2.symm⟩
    obtain⟨y,hy,rfl⟩:=this;obtain⟨sv,h1,h2⟩:=Ma hT hr hD hq hy (some d);refine⟨_,by simp only[B3,e1,hw,if_true];exact h1,Rep.set hr ?_⟩;exact h2
   ·have:b=none:=by
     cases hd:q.2 with
     |tot k=>rw[hd]at hb;simp only[gD,Dyn.val,hw,if_false,Ac]at hb;exact hb.symm
     |par k=>rw[hd]at hb;simp only[gD,Dyn.val,hw,if_false,Ac]at hb;exact hb.symm
    subst this;exact⟨st.set (some d) Bn,by simp only[B3,e1,hw,if_false],Rep.set hr (k:=.opt q.1) (x:=none) rfl⟩
  ·rename_i f hg;cases h;have hs:=hr.s g _ hg;unfold RS at hs;by_cases hw:f ρ=some want
   ·simp only[hw]at hs;obtain⟨c,e1,e2⟩:=hs;unfold Can at e2;cases e2
    have:∃y,q.2.val ρ=some y∧b=some y:=by
     cases hd:q.2 with
     |tot k=>rw[hd]at hb;simp only[gO,Dyn.val,hw,if_true,Ac]at hb;exact⟨_,rfl,hb.symm⟩
     |par k=>
      rw[hd]at hb;simp only[gO,Dyn.val,hw,if_true]at hb;obtain⟨y,h1,h2⟩:=Aa.1 hb;exact⟨y,h1,h2.symm⟩
    obtain⟨y,hy,rfl⟩:=this;obtain⟨sv,h1,h2⟩:=Ma hT hr hD hq hy (some d);refine⟨_,by simp only[B3,e1,if_true];exact h1,Rep.set hr ?_⟩;exact h2
   ·have:b=none:=by
     cases hd:q.2 with
     |tot k=>rw[hd]at hb;simp only[gO,Dyn.val,hw,if_false,Ac]at hb;exact hb.symm
     |par k=>rw[hd]at hb;simp only[gO,Dyn.val,hw,if_false,Ac]at hb;exact hb.symm
    subst this
    cases hf:f ρ with
    |none=>
     simp only[hf]at hs;exact⟨st.set (some d) Bn,by simp only[B3,hs,Bn],Rep.set hr (k:=.opt q.1) (x:=none) rfl⟩
    |some b'=>
     simp only[hf]at hs;obtain⟨c,e1,e2⟩:=hs;unfold Can at e2;cases e2;have hne:b'≠want:=fun e=>hw (by rw[hf,e]);exact⟨st.set (some d) Bn,by simp only[B3,e1,hne,if_false],Rep.set hr (k:=.opt q.1) (x:=none) rfl⟩
theorem Ls(hT:TOk X E)(hF:BF X E){Γ:TC}{msk:List Nat}{ρ:HS Γ}{st:St}(hr:Rep Γ ρ st){D:Option (List Nat)}(hDn:D=none∨∀f,X.TE f=none){l:SL}(hD:∀id,(hid l.op msk).contains id=false→A2 (D.map (hid l.op)) st.ob id=st.ob id){o:OpD Γ}(h:opL X Γ msk l=some o){b:o.B}(hb:o.d.val ρ=some b):
  ∃st',Aw E D l st=some st'∧Rep o.Γ' (o.up ρ b) st':=by
 cases hef:GC X Γ l with
 |some oe=>
  have h':(match GC X Γ l with
   |some o=>some o
   |none=>GD X Γ msk l)=some o:=h
  rw[hef]at h';cases h'
  have hD0:D=none:=by
   rcases hDn with h1|h1
   ·exact h1
   ·unfold GC at hef;split at hef<;>(try cases hef;done);rename_i e he;obtain⟨f,hf⟩:=VL he;exact absurd (h1 f) hf
  subst hD0;exact Se hT hF hr _ hef hb
 |none=>
  have h':GD X Γ msk l=some o:=by
   unfold opL at h;rw[hef]at h;exact h
  exact Sf (hT.at D) hr hD h' hb
theorem Is{X:TP}{E:Env}(hT:TOk X E)(hF:BF X E){A:Type}{msk:List Nat}{D:Option (List Nat)}(hDn:D=none∨∀f,X.TE f=none)(hD:∀(op:SOp) (ob:Nat→Ob) id,(hid op msk).contains id=false→A2 (D.map (hid op)) ob id=ob id):∀{ls:List SL} {Γ:TC} {q:LsD A Γ} {ρ:HS Γ} {st:St} {K:HS q.Γ'→Option A} {r:A},
  Hl A X msk ls Γ=some q→Rep Γ ρ st→q.run ρ K=some r→∃st',BU E D ls st=some st'∧∃ρ',Rep q.Γ' ρ' st'∧K ρ'=some r
 | [],Γ,q,ρ,st,K,r,h,hr,hk=>by
  simp only[Hl,Ac]at h;subst h;exact⟨st,rfl,ρ,hr,hk⟩
 |l::ls,Γ,q,ρ,st,K,r,h,hr,hk=>by
  simp only[Hl]at h;split at h<;>(try cases h;done);rename_i o ho;split at h<;>(try cases h;done);rename_i p hp;cases h;have hk':o.d.app ρ (fun b=>p.run (o.up ρ b) K)=some r:=hk;obtain⟨b,h1,h2⟩:=Dyn.app_some hk';obtain⟨st1,h3,h4⟩:=Ls hT hF hr hDn (hD l.op st.ob) ho h1;obtain⟨st2,h5,h6⟩:=Is hT hF hDn hD hp h4 h2;exact⟨st2,by simp[BU,h3,h5],h6⟩
theorem Ke(hT:TOk X E)(hF:BF X E){A:Type}{draw:Bool}{D:List Nat}{ls:List SL}{Γ:TC}{q:LsD A Γ}{ρ:HS Γ}{st:St}{K:HS q.Γ'→Option A}{r:A}(h:Fb A X draw D ls Γ=some q)(hr:Rep Γ ρ st)(hk:q.run ρ K=some r):
  ∃st',Cd E draw D ls st=some st'∧∃ρ',Rep q.Γ' ρ' st'∧K ρ'=some r:=by
 cases draw with
 |true=>
  cases D with
  |nil=>
   simp only[Fb,cond_true]at h;obtain⟨st',h1,h2⟩:=Is hT.noE (BF.noE X E) (D:=some []) (.inr fun _=>rfl) (fun op ob id _=>by simp[A2,hid]) h hr hk;exact⟨st',by simpa[Cd]using h1,h2⟩
  |cons d ds=>
   simp only[Fb,cond_true,if_true]at h;split at h<;>(try cases h;done);rename_i p hp;cases h
   obtain⟨st',h1,h2⟩:=Is hT.noE (BF.noE X E) (D:=some (d::ds)) (.inr fun _=>rfl) (fun op ob id hh=>by
    simp only[Option.map_some,A2,hh,Ag,if_false]) hp (hr.kill (d::ds)) hk
   exact⟨st',by simpa[Cd]using h1,h2⟩
 |false=>
  cases D with
  |nil=>
   simp only[Fb,cond_false]at h;obtain⟨st',h1,h2⟩:=Is hT hF (D:=none) (.inl rfl) (fun op ob id _=>rfl) h hr hk;exact⟨st',by simpa[Cd]using h1,h2⟩
  |cons d ds=>
   simp only[Fb,cond_false,Ag,if_false]at h;split at h<;>(try cases h;done);rename_i p hp;cases h;obtain⟨st',h1,h2⟩:=Is hT hF (D:=none) (.inl rfl) (fun op ob id hh=>rfl) hp (hr.kill (d::ds)) hk;exact⟨st',by simpa[Cd]using h1,h2⟩
theorem Kc(hT:TOk X E)(hF:BF X E){A:Type}:∀{gs:List GL} {Γ:TC} {q:LsD A Γ} {ρ:HS Γ} {st:St} {K:HS q.Γ'→Option A} {r:A} {Q:St→Prop},
  F9 A X gs Γ=some q→Rep Γ ρ st→q.run ρ K=some r→(∀st' ρ',Rep q.Γ' ρ' st'→K ρ'=some r→Q st')→DJ (D3 X.Θ) E (Ey gs) Q st
 | [],Γ,q,ρ,st,K,r,Q,h,hr,hk,hQ=>by
  simp only[F9,Ac]at h;subst h;exact⟨st,Av.refl st,hQ _ _ hr hk⟩
 | .l l::gs,Γ,q,ρ,st,K,r,Q,h,hr,hk,hQ=>by
  simp only[F9]at h;split at h<;>(try cases h;done);rename_i o ho;split at h<;>(try cases h;done);rename_i p hp;cases h;have hk':o.d.app ρ (fun b=>p.run (o.up ρ b) K)=some r:=hk;obtain⟨b,h1,h2⟩:=Dyn.app_some hk';obtain⟨st1,h3,h4⟩:=Ls hT hF hr (D:=none) (.inl rfl) (fun _ _=>rfl) ho h1;exact⟨st,Av.refl st,st1,h3,Kc (gs:=gs) hT hF hp h4 h2 hQ⟩
 | .g g::gs,Γ,q,ρ,st,K,r,Q,h,hr,hk,hQ=>by
  simp only[F9]at h;split at h<;>(try cases h;done);rename_i p hp;split at h<;>(try cases h;done);rename_i p' hp';cases h;obtain⟨st',h1,h2⟩:=I8 hp hr;exact YC h1 (Kc (gs:=gs) hT hF hp' h2 hk hQ)
theorem Qv(hT:TOk X E)(hF:BF X E){A:Type}{D:List Nat}{gs:List GL}{Γ:TC}{q:LsD A Γ}{ρ:HS Γ}{st:St}{K:HS q.Γ'→Option A}{r:A}{Q:Ex→St→Prop}(h:It A X D gs Γ=some q)(hr:Rep Γ ρ st)(hk:q.run ρ K=some r)
  (hQ:∀st' ρ',Rep q.Γ' ρ' st'→K ρ'=some r→Q .normal st'):C5 (D3 X.Θ) E (.reg false D (Ey gs)) Q st:=by
 cases D with
 |nil=>
  simp only[It]at h;exact⟨st,Av.refl st,Kc hT hF h hr hk hQ⟩
 |cons d ds=>
  simp only[It]at h;split at h<;>(try cases h;done);rename_i p hp;cases h;exact⟨st,Av.refl st,Kc hT hF hp (hr.kill (d::ds)) hk hQ⟩
theorem YB{R:St→St→Prop}(hRt:∀{a b c:St},R a b→R b c→R a c){E:Env}{D:Option (List Nat)}{ls:List RL}{Q:St→Prop}{st s:St}(h:R st s)(hr:Di R E D ls Q s):Di R E D ls Q st:=by
 cases ls with
 |nil=>obtain⟨s',h1,h2⟩:=hr;exact⟨s',hRt h h1,h2⟩
 |cons l ls=>
  cases l with
  |l l=>obtain⟨s',h1,h2⟩:=hr;exact⟨s',hRt h h1,h2⟩
  |sk d=>obtain⟨s',h1,h2⟩:=hr;exact⟨s',hRt h h1,h2⟩
theorem Kd{X:TP}{E:Env}(hT:TOk X E)(hF:BF X E){A:Type}{R:St→St→Prop}(hRr:∀s,R s s){msk:List Nat}{D:Option (List Nat)}(hDn:D=none∨∀f,X.TE f=none)(hD:∀(op:SOp) (ob:Nat→Ob) id,(hid op msk).contains id=false→A2 (D.map (hid op)) ob id=ob id):∀{ls:List RL} {Γ:TC} {q:LsD A Γ} {ρ:HS Γ} {st:St} {K:HS q.Γ'→Option A} {r:A},
  FA A X msk ls Γ=some q→Rep Γ ρ st→q.run ρ K=some r→Di R E D ls (fun st'=>∃ρ',Rep q.Γ' ρ' st'∧K ρ'=some r) st
 | [],Γ,q,ρ,st,K,r,h,hr,hk=>by
  simp only[FA,Ac]at h;subst h;exact⟨st,hRr st,ρ,hr,hk⟩
 | .l l::ls,Γ,q,ρ,st,K,r,h,hr,hk=>by
  simp only[FA]at h;split at h<;>(try cases h;done);rename_i o ho;split at h<;>(try cases h;done);rename_i p hp;cases h;have hk':o.d.app ρ (fun b=>p.run (o.up ρ b) K)=some r:=hk;obtain⟨b,h1,h2⟩:=Dyn.app_some hk';obtain⟨st1,h3,h4⟩:=Ls hT hF hr hDn (hD l.op st.ob) ho h1;have ih:=Kd (R:=R) (ls:=ls) (q:=p) (K:=K) hT hF hRr hDn hD hp h4 h2;exact⟨st,hRr st,st1,h3,ih⟩
 | .sk (some d)::ls,Γ,q,ρ,st,K,r,h,hr,hk=>by
  simp only[FA]at h;split at h<;>(try cases h;done);rename_i p hp;cases h;have ih:=Kd (R:=R) (ls:=ls) (q:=p) (K:=K) hT hF hRr hDn hD hp (Rep.set hr (d:=d) (k:=.undef) (x:=()) (sv:=Bn) trivial) hk;exact⟨st,hRr st,ih⟩
 | .sk none::ls,Γ,q,ρ,st,K,r,h,hr,hk=>⟨st,hRr st,Kd hT hF hRr hDn hD (ls:=ls) h hr hk⟩
theorem Qu{X:TP}{E:Env}(hT:TOk X E)(hF:BF X E){A:Type}{R:St→St→Prop}(hRr:∀s,R s s)(hRt:∀{a b c:St},R a b→R b c→R a c)(hRk:∀{st s:St},R st s→∀(i:Nat) (c:CV),Ni c=true→st.fr i=.c c→s.fr i=.c c)
  {draw:Bool} (hG:draw=false→∀{st s:St},Av (D3 X.Θ) st s→R st s) {msk:List Nat} {D:Option (List Nat)} (hDn:D=none∨∀f,X.TE f=none) (hD:∀(op:SOp) (ob:Nat→Ob) id,(hid op msk).contains id=false→A2 (D.map (hid op)) ob id=ob id):∀{h:HT} {ls:List RL} {Γ Γn:TC} {q:HS Γ→(HS Γn→Option A)→Option A} {ρ:HS Γ} {st:St} {K:HS Γn→Option A} {r:A},
  CE A X draw msk h ls Γ Γn=some q→Rep Γ ρ st→q ρ K=some r→Di R E D ls (fun st'=>∃ρ',Rep Γn ρ' st'∧K ρ'=some r) st:=by
 intro h
 induction h with
 |nil=>
  intro ls Γ Γn q ρ st K r h hr hk;simp only[CE]at h;split at h<;>(try cases h;done);rename_i p hp;split at h<;>(try cases h;done);rename_i f hf;cases h;have:=Kd hT hF hRr hDn hD hp hr hk;refine Oz (fun s ⟨ρ',h1,h2⟩=>⟨_,CM hf h1,h2⟩) this
 |n k ih=>
  intro ls Γ Γn q ρ st K r h hr hk
  match ls,h with
  | .l l::ls,h=>
   simp only[CE]at h;split at h<;>(try cases h;done);rename_i o ho;split at h<;>(try cases h;done);rename_i p hp;cases h;have hk':o.d.app ρ (fun b=>p (o.up ρ b) K)=some r:=hk;obtain⟨b,h1,h2⟩:=Dyn.app_some hk';obtain⟨st1,h3,h4⟩:=Ls hT hF hr hDn (hD l.op st.ob) ho h1;exact⟨st,hRr st,st1,h3,ih hp h4 h2⟩
  | .sk (some d)::ls,h=>
   simp only[CE]at h;split at h<;>(try cases h;done);rename_i p hp;cases h;exact⟨st,hRr st,ih hp (Rep.set hr (d:=d) (k:=.undef) (x:=()) (sv:=Bn) trivial) hk⟩
  | .sk none::ls,h=>
   simp only[CE]at h;exact⟨st,hRr st,ih h hr hk⟩
  | [],h=>simp only[CE]at h;cases h
 |g g k ih=>
  intro ls Γ Γn q ρ st K r h hr hk;simp only[CE]at h;split at h<;>(try cases h;done);rename_i hdr;split at h<;>(try cases h;done);rename_i p hp;split at h<;>(try cases h;done);rename_i p' hp';cases h;obtain⟨st',h1,h2⟩:=I8 hp hr;exact YB (R:=R) hRt (hG rfl h1) (ih hp' h2 hk)
 |sp g t f iht ihf=>
  intro ls Γ Γn q ρ st K r h hr hk;simp only[CE]at h;split at h<;>(try cases h;done);rename_i hno;split at h<;>(try cases h;done);rename_i e dt df he ht hf;cases h;obtain⟨c,e1,e2⟩:=hr.s g _ he;unfold Can at e2;cases e2;replace hk:(if e ρ=true then dt ρ K else df ρ K)=some r:=hk;by_cases hb:e ρ=true
  ·rw[if_pos hb]at hk;replace e1:st.fr g=.c (.bool true):=hb▸e1;exact Jq hRk hno e1 (fun _ hh=>by cases hh) (iht ht hr hk)
  ·rw[if_neg hb]at hk;have hb':e ρ=false:=by simpa using hb
   replace e1:st.fr g=.c (.bool false):=hb'▸e1;exact Jq hRk hno e1 (fun _ hh=>by cases hh) (ihf hf hr hk)
theorem V7(hT:TOk X E)(hF:BF X E){A:Type}{draw:Bool}{D:List Nat}{ls:List SL}{h:HT}{Γ Γn:TC}{q:HS Γ→(HS Γn→Option A)→Option A}{ρ:HS Γ}{st:St}{K:HS Γn→Option A}{r:A}{Q:Ex→St→Prop}(hd:Ho A X draw D ls h Γ Γn=some q)(hr:Rep Γ ρ st)(hk:q ρ K=some r)
  (hQ:∀st' ρ',Rep Γn ρ' st'→K ρ'=some r→Q .normal st'):C5 (D3 X.Θ) E (.reg draw D ls) Q st:=by
 have fin:∀{st:St},(∃st',BU E (some D) ls st=some st'∧∃ρ',Rep Γn ρ' st'∧K ρ'=some r)→∃st',BU E (some D) ls st=some st'∧Q .normal st':=fun⟨st',h1,ρ',h2,h3⟩=>⟨st',h1,hQ st' ρ' h2 h3⟩
 cases draw with
 |true=>
  have key:∀{msk:List Nat} {Γ:TC} {ρ:HS Γ} {st:St} {q:HS Γ→(HS Γn→Option A)→Option A},msk=D→CE A X.noE true msk h (ls.map .l) Γ Γn=some q→Rep Γ ρ st→q ρ K=some r→∃st',BU E (some D) ls st=some st'∧Q .normal st':=by
   intro msk Γ ρ st q hm hq hr hk;subst hm;refine fin (SK (Qu hT.noE (BF.noE X E) (R:=Eq) (fun _=>rfl) (fun a b=>a.trans b) (fun e=>by subst e;exact fun _ _ _ h=>h) (draw:=true) (fun hh=>by cases hh) (D:=some msk) (.inr fun _=>rfl) (fun op ob id hh=> ?_) hq hr hk));simp only[Option.map_some,A2,hh,Ag,if_false]
  cases D with
  |nil=>
   simp only[Ho,cond_true]at hd;obtain⟨st',h1,h2⟩:=key rfl hd hr hk;exact⟨st,Av.refl st,st',by simpa[Cd]using h1,st',Av.refl st',h2⟩
  |cons d ds=>
   simp only[Ho,cond_true,if_true]at hd;split at hd<;>(try cases hd;done);rename_i p hp;cases hd;obtain⟨st',h1,h2⟩:=key rfl hp (hr.kill (d::ds)) hk;exact⟨st,Av.refl st,st',by simpa[Cd]using h1,st',Av.refl st',h2⟩
 |false=>
  have key:∀{Γ:TC} {ρ:HS Γ} {st:St} {q:HS Γ→(HS Γn→Option A)→Option A},CE A X false [] h (ls.map .l) Γ Γn=some q→Rep Γ ρ st→q ρ K=some r→DJ (D3 X.Θ) E ls (Q .normal) st:=by
   intro Γ ρ st q hq hr hk;have:=Qu hT hF (R:=Av (D3 X.Θ)) Av.refl (fun a b=>a.trans b) (fun e=>e.2.fix) (draw:=false) (fun _ _ _ h=>h) (D:=none) (.inl rfl) (fun op ob id _=>rfl) hq hr hk;exact Js (fun s ⟨ρ',h1,h2⟩=>hQ s ρ' h1 h2) (SM this)
  cases D with
  |nil=>
   simp only[Ho,cond_false]at hd;exact⟨st,Av.refl st,key hd hr hk⟩
  |cons d ds=>
   simp only[Ho,cond_false,Ag,if_false]at hd;split at hd<;>(try cases hd;done);rename_i p hp;cases hd;exact⟨st,Av.refl st,key hp (hr.kill (d::ds)) hk⟩
theorem NO{st:St}{k:Nat}{b:Ob}(hk:k<As):merge {low st with ob:=upd (low st).ob k b} st={st with ob:=upd st.ob k b}∧low {st with ob:=upd st.ob k b}={low st with ob:=upd (low st).ob k b}:=by
 constructor
 ·simp only[merge,low,St.mk.injEq,true_and];funext i;simp only[BK,Ca];by_cases h1:i=k
  ·subst h1;rw[if_pos rfl,if_neg (by omega),if_pos rfl]
  ·rw[if_neg h1,if_neg h1];split<;>rfl
 ·simp only[low,St.mk.injEq,true_and];funext i;simp only[BK,Ca];by_cases h1:i=k
  ·subst h1;rw[if_pos rfl,if_pos rfl,if_neg (by omega)]
  ·rw[if_neg h1,if_neg h1]
theorem RJ(st:St):merge (low st) st=st:=by
 obtain⟨fr,ob⟩:=st;simp only[merge,low,St.mk.injEq,true_and];funext i;simp only[Ca];split<;>rfl
theorem RC{st:St}{id:Nat}{o:Ob}(h:(low st).ob id=o)(hn:o≠ .none):id<As∧st.ob id=o:=by
 have h':(if As≤id then Ob.none else st.ob id)=o:=h;by_cases hi:As≤id
 ·rw[if_pos hi]at h';exact absurd h'.symm hn
 ·rw[if_neg hi]at h';exact⟨by omega,h'⟩
theorem Zj{d:Option Nat}{ρ:SO→SV}{st t:St}{n:Nat}{x y:SO}(h:AY d ρ (low st) (.store n x y)=some t):AY d ρ st (.store n x y)=some (merge t st)∧low (merge t st)=t:=by
 simp only[AY]at h⊢
 have hdr:deref st.ob (ρ x)=deref (low st).ob (ρ x)∨deref (low st).ob (ρ x)=.undef:=by
  generalize ρ x=q;cases q<;>try exact .inl rfl
  rename_i c;cases c<;>try exact .inl rfl
  rename_i N;simp only[deref];by_cases hN:As≤N
  ·right;rw[if_pos hN];have:(low st).ob N=.none:=by show(if As≤N then Ob.none else st.ob N)=_;rw[if_pos hN]
   rw[this]
  ·left;rw[if_neg hN,if_neg hN]
 rcases hdr with hdr|hdr
 ·rw[hdr];generalize deref (low st).ob (ρ x)=q at h⊢;cases q<;>(try cases h;done)
  ·rename_i cv;cases cv<;>(try cases h;done);rename_i cs
   cases cs with
   |nil=>cases h
   |cons c0 cs=>
    cases cs with
    |cons _ _=>cases c0<;>cases h
    |nil=>
     cases c0<;>(try cases h;done);cases hv:ρ y<;>simp only[hv]at h⊢ <;>(try cases h;done);rename_i c2;cases c2<;>(try cases h;done);simp only[Ad,Ac]at h⊢;obtain⟨hc,rfl⟩:=h;exact⟨⟨hc,(RJ st).symm⟩,by rw[RJ]⟩
  ·rename_i id o;simp only at h⊢;cases hob:(low st).ob id<;>rw[hob]at h<;>(try cases h;done);rename_i cs bt;obtain⟨hi,hob'⟩:=RC hob (by simp);rw[hob'];simp only at h⊢;split at h
   ·split at h<;>(try cases h;done);rename_i hc;cases h;obtain⟨k1,k2⟩:=NO (st:=st) (b:=.box (Fq cs o (List.map SV.c ‹_›)) bt) hi;rw[k1];exact⟨by rw[if_pos hc],k2⟩
   ·split at h<;>(try cases h;done);rename_i hc;cases h;obtain⟨k1,k2⟩:=NO (st:=st) (b:=.box (cs.set o (ρ y)) bt) hi;rw[k1];exact⟨by rw[if_pos hc],k2⟩
  ·rename_i id i size o;simp only at h⊢;split at h<;>(try cases h;done);rename_i e sz es v hob hv;obtain⟨hi,hob'⟩:=RC hob (by simp);rw[hob',hv];simp only;split at h<;>(try cases h;done);rename_i hc;rw[if_pos hc];obtain⟨el,h1,h2⟩:=Ab.1 h;rw[h1,Option.bind_some];split at h2<;>(try cases h2;done);rename_i hc2;cases h2;obtain⟨k1,k2⟩:=NO (st:=st) (b:=.arr e sz (es.set i (Fl el o n v))) hi;rw[k1,if_pos hc2];exact⟨rfl,k2⟩
 ·rw[hdr]at h;cases h
theorem Yl{E:Env}{D:List Nat}{l:SL}{st t:St}(hl:NA l=true)(h:B3 E.pois (A2 (some (hid l.op D)) (Ca st.ob)) l (low st)=some t):CQ E D l st=some (merge t st)∧low (merge t st)=t:=by
 simp only[NA,Af,Aj,Bool.not_eq_true']at hl
 have hd:∀j,l.dst=some j→j<As:=fun j hj=>by
  have:=hl.2;rw[hj]at this;exact Nat.lt_of_succ_le (Ah this)
 unfold CQ;rw[Nf]at h⊢;have hgd:gd l (low st).fr=gd l st.fr:=rfl;rw[hgd]at h
 cases hg:gd l st.fr with
 |none=>rw[hg]at h;cases h
 |some b=>
  rw[hg]at h
  cases b with
  |false=>
   simp only[Option.bind_some,Ag,if_false,Ac]at h⊢;have h':put (low st) l.dst (Bn,none)=some t:=by rw[←h];rfl
   obtain⟨k1,k2⟩:=Ol hd h';exact⟨Option.some.inj k1,k2⟩
  |true=>
   simp only[Option.bind_some,if_true]at h⊢
   cases hh:l.op.hard with
   |true=>
    have hst:l.op.stores=true:=by
     rcases hl.1 with h1|h1
     ·rw[hh]at h1;cases h1
     ·exact h1
    cases hop:l.op<;>rw[hop]at hst<;>(try cases hst;done);rw[hop]at h;exact Zj (d:=l.dst) h
   |false=>
    have hnone:efL E l st.fr=none:=by
     cases hef:efL E l st.fr with
     |none=>rfl
     |some q=>
      exfalso;unfold efL at hef;split at hef<;>(try cases hef;done)
      ·rename_i f args ho;split at hef<;>(try cases hef;done);rename_i e he;have he':E.pois.ef f=some ⟨e.T,fun _ _=>none⟩:=by show(E.ef f).map _=_;rw[he];rfl
       rw[ho]at h;simp only[A4,SOp.cls,he',CP]at h
       cases hal:Aq (fun x=>closed (so E.pois.G (low st).fr x)) args with
       |none=>rw[hal]at h;cases h
       |some v=>rw[hal]at h;cases h
      ·rename_i f args ho;split at hef<;>(try cases hef;done);rename_i g caps hfv;split at hef<;>(try cases hef;done);rename_i e he;have he':E.pois.ef g=some ⟨e.T,fun _ _=>none⟩:=by show(E.ef g).map _=_;rw[he];rfl
       have hfv':so E.pois.G (low st).fr f=.c (.fn g caps):=hfv;rw[ho]at h;simp only[A4,SOp.cls,hfv',he',CP]at h
       cases hal:Aq (fun x=>closed (so E.pois.G (low st).fr x)) args with
       |none=>rw[hal]at h;cases h
       |some v=>rw[hal]at h;cases h
    have hnone':efL E.pois l (low st).fr=none:=by
     unfold efL at hnone⊢;cases ho:l.op<;>rw[ho]at hnone<;>try rfl
     ·rename_i f args;simp only at hnone⊢;split at hnone<;>(try cases hnone;done);rename_i he;have he':E.pois.ef f=none:=by show(E.ef f).map _=_;rw[he];rfl
      rw[he']
     ·rename_i f args;simp only at hnone⊢
      show(match so E.G st.fr f with
       | .c (.fn f caps)=>match E.pois.ef f with
        |some e=>some (e,args,caps)
        |none=>none
       |_=>none)=none
      split
      ·rename_i g caps hfv;rw[hfv]at hnone;simp only at hnone;split at hnone<;>(try cases hnone;done);rename_i he;have he':E.pois.ef g=none:=by show(E.ef g).map _=_;rw[he];rfl
       rw[he']
      ·rfl
    rw[Od hnone',HU hh,Ab]at h;obtain⟨p,h1,h2⟩:=h;obtain⟨k1,k2⟩:=Ol hd h2;refine⟨?_,k2⟩;rw[Od hnone,HU hh,Ab];exact⟨p,h1,k1⟩
theorem FU{f:Key×EK→Bool}:∀{Γ:TC} {seen:List Key},(D9 f Γ seen).all f=true
 | [],_=>rfl
 |e::Γ,seen=>by
  unfold D9
  cases seen.contains e.1 with
  |true=>exact FU
  |false=>
   simp only
   cases hf:f e with
   |true=>simp only[List.all_cons,hf,Bool.true_and];exact FU
   |false=>exact FU
theorem IU{N:Nat}(h:C4 (.o N)=true):N<As:=by
 simp only[C4,Bool.not_eq_true']at h;exact Nat.lt_of_not_le fun hh=>by rw[Nat.ble_eq_true_of_le hh]at h;cases h
theorem X2{N j:Nat}(h:C4 (.c N j)=true):N<As:=IU h
theorem Nr{N:Nat}(h:C4 (.o N)=false):As≤N:=by
 simp only[C4,Bool.not_eq_false']at h;exact Ah h
section
variable {Γ:TC} {ρ:HS Γ} {st:St}
theorem Rep.low(h:Rep Γ ρ st)(hk:(Γ.all fun e=>C4 e.1)=true):Rep Γ ρ (WB.low st):=by
 refine⟨h.s,fun id q hq=> ?_⟩;have hid:=IU (Cs (pr:=fun e=>C4 e.1) hk (B5 hq));have e:(WB.low st).ob id=st.ob id:=by show(if As≤id then Ob.none else st.ob id)=_;rw[if_neg (by omega)]
 rw[e];exact h.o id q hq
theorem RS.clean{k:EK}{x:DK k}{sv:SV}(h:RS k x sv)(hn:∀id,k.refs=some id→id<As):RS k x (Dd sv):=by
 have key:∀(id:Nat) (s:SV),s.ref=some id→id<As→Dd s=s:=fun id s hs hid=>by
  unfold Dd;rw[hs];simp only;rw[if_neg (by omega)]
 have keyc:∀s:SV,s.ref=none→Dd s=s:=fun s hs=>by unfold Dd;rw[hs]
 induction k
 case v t=>obtain⟨c,rfl,hc⟩:=h;exact⟨c,rfl,hc⟩
 case opt k ih=>
  unfold RS at h⊢
  cases x with
  |none=>simp only at h;subst h;rfl
  |some y=>exact ih h hn
 case rp ex r=>obtain⟨cs,rest,rfl,hc⟩:=h;exact⟨cs,rest,rfl,hc⟩
 case undef=>trivial
 case ptr id o=>unfold RS at h;subst h;exact key id _ rfl (hn id rfl)
 case eptr id s o=>unfold RS at h;subst h;exact key id _ rfl (hn id rfl)
 case aptr id n o=>obtain⟨h,hi⟩:=h;subst h;exact⟨key id _ rfl (hn id rfl),hi⟩
 case own id=>unfold RS at h;subst h;exact key id _ rfl (hn id rfl)
 case mp id=>unfold RS at h;subst h;exact key id _ rfl (hn id rfl)
 case iter id=>unfold RS at h;subst h;exact key id _ rfl (hn id rfl)
 case ent id k v=>
  obtain⟨ck,cv,rfl,h1,h2⟩:=h;exact⟨ck,cv,key id _ rfl (hn id rfl),h1,h2⟩
 case stamp id k=>
  obtain⟨ck,rfl,h1⟩:=h;exact⟨ck,key id _ rfl (hn id rfl),h1⟩
 all_goals exact h
theorem Ld{p:Key}{k:EK}(h:Fj (p,k)=true):C4 p=true∧∀id,k.refs=some id→id<As:=by
 simp only[Fj,Af]at h;refine⟨h.1,fun id hid=> ?_⟩;have h2:=h.2;rw[hid]at h2;exact IU h2
theorem Rep.lowC(h:Rep Γ ρ st)(hk:Γ.all Fj=true):Rep Γ ρ (WB.low (CL st)):=by
 refine⟨fun i q hq=>RS.clean (h.s i q hq) (Ld (Cs hk (B5 hq))).2,fun id q hq=> ?_⟩;have hid:=IU (Ld (Cs hk (B5 hq))).1
 have e:(WB.low (CL st)).ob id=F4 (st.ob id):=by
  show(if As≤id then Ob.none else(if As≤id then st.ob id else F4 (st.ob id)))=_;rw[if_neg (by omega),if_neg (by omega)]
 rw[e];have hob:=h.o id q hq;obtain⟨k,f'⟩:=q;simp only at hob⊢;cases k<;>try exact hob
 ·obtain⟨cs,h7,h8,h9⟩:=hob;rw[h7];refine⟨cs.map Dd,rfl,by simp[h8],fun j q' hj hq'=> ?_⟩;obtain⟨sv,g4,g5⟩:=h9 j _ hj hq';exact⟨Dd sv,by simp[g4],RS.clean g5 (Ld (Cs hk (B5 hq'))).2⟩
 all_goals first
  |(obtain⟨es,h7,h8⟩:=hob;rw[h7];exact⟨es,rfl,h8⟩)
  |(obtain⟨z,ks,vs,h7,h8⟩:=hob;rw[h7];exact⟨z,ks,vs,rfl,h8⟩)
  |(obtain⟨ks,vs,ck,cv,h7,h8⟩:=hob;rw[h7];exact⟨ks,vs,ck,cv,rfl,h8⟩)
  |(obtain⟨ks,vs,cur,h7,h8⟩:=hob;rw[h7];exact⟨ks,vs,cur,rfl,h8⟩)
  |(unfold RO at hob;rw[hob];rfl)
theorem Rep.highC(h:Rep Γ ρ st)(hk:Γ.all Ec=true){st':St}(hob:∀i,As≤i→st'.ob i=st.ob i):Rep Γ ρ st':=by
 refine⟨fun i q hq=> ?_,fun id q hq=> ?_⟩
 ·have:=Cs hk (B5 hq);cases this
 ·have hid:C4 (.o id)=false:=by simpa[Ec]using Cs hk (B5 hq)
  rw[hob id (Nr hid)];exact h.o id q hq
theorem Rep.comb{Θ:TC}{θ:HS Θ}(hΘ:Rep Θ θ st)(h:Rep Γ ρ (WB.low st))(hk:(Γ.all fun e=>C4 e.1)=true)(hk':Θ.all Ec=true):Rep (Θ++Γ) (C0 Θ θ ρ) st:=by
 refine⟨fun i q hq=> ?_,fun id q hq=> ?_⟩
 ·rcases DC hq with⟨_,f,hf,e⟩|⟨_,f,hf,e⟩
  ·have:=Cs hk' (B5 hf);cases this
  ·rw[e];exact h.s i _ hf
 ·rcases DC hq with⟨h1,f,hf,e⟩|⟨h1,f,hf,e⟩
  ·rw[e];have hid:C4 (.o id)=false:=by simpa[Ec]using Cs hk' (B5 hf)
   have r:=hΘ.o id _ hf;obtain⟨k,f'⟩:=q;cases k<;>try exact r
   obtain⟨cs,e1,hl,hc⟩:=r;refine⟨cs,e1,hl,fun j q' hj hq'=> ?_⟩;rcases DC hq' with⟨_,f2,hf2,e2⟩|⟨_,f2,hf2,e2⟩
   ·rw[e2];exact hc j _ hj hf2
   ·have:C4 (.c id j)=true:=Cs (pr:=fun e=>C4 e.1) hk (B5 hf2);have:=X2 this;have:=Nr hid;omega
  ·rw[e];have hid:=IU (Cs (pr:=fun e=>C4 e.1) hk (B5 hf));have e0:(WB.low st).ob id=st.ob id:=by show(if As≤id then Ob.none else st.ob id)=_;rw[if_neg (by omega)]
   have r:=h.o id _ hf;rw[e0]at r;obtain⟨k,f'⟩:=q;cases k<;>try exact r
   obtain⟨cs,e1,hl,hc⟩:=r;refine⟨cs,e1,hl,fun j q' hj hq'=> ?_⟩;rcases DC hq' with⟨_,f2,hf2,e2⟩|⟨_,f2,hf2,e2⟩
   ·have hc':C4 (.c id j)=false:=by simpa[Ec]using Cs hk' (B5 hf2)
    have:=Nr (N:=id) hc';omega
   ·rw[e2];exact hc j _ hj hf2
end
theorem VO{X:TP}{E:Env}(hT:TOk X E)(hF:BF X E){Γ Θ:TC}{ρ:HS Γ}{θ:HS Θ}{st:St}(hr:Rep Γ ρ (low st))(hΘ:Rep Θ θ st)(hh:Θ.all Ec=true)(rd:Nat→Ob){l:SL}{o:OpD (Θ++Γ)}(h:efT X Γ Θ l=some o){b:o.B}(hb:o.d.val (C0 Θ θ ρ)=some b):
  ∃st',B3 E rd l st=some st'∧Rep o.Γ' (o.up (C0 Θ θ ρ) b) st':=by
 unfold efT at h;split at h<;>(try cases h;done);split at h<;>(try cases h;done);rename_i hk;exact Se hT hF (Rep.comb hΘ hr hk hh) rd h hb
theorem MT{X:TP}{E:Env}(hT:TOk X E)(hF:BF X E){A:Type}{D:List Nat}:∀{ls:List SL} {Γ Θ:TC} {q:Pr A Γ Θ} {ρ:HS Γ} {θ:HS Θ} {st:St} {K:HS q.Γ'→HS q.Θ'→Option A} {r:A},
  Hm A X D ls Γ Θ=some q→Rep Γ ρ (low st)→Rep Θ θ st→Θ.all Ec=true→q.run ρ θ K=some r→∃st',EJ E.named D ls st=some st'∧∃ρ' θ',Rep q.Γ' ρ' (low st')∧Rep q.Θ' θ' st'∧q.Θ'.all Ec=true∧K ρ' θ'=some r
 | [],Γ,Θ,q,ρ,θ,st,K,r,h,hr,hΘ,hh,hk=>by
  simp only[Hm,Ac]at h;subst h;exact⟨st,rfl,ρ,θ,hr,hΘ,hh,hk⟩
 |l::ls,Γ,Θ,q,ρ,θ,st,K,r,h,hr,hΘ,hh,hk=>by
  simp only[Hm]at h;split at h
  ·rename_i o ho;split at h<;>(try cases h;done);rename_i g f hg hf;split at h<;>(try cases h;done);rename_i p hp;cases h;have hk':o.d.app (C0 Θ θ ρ) (fun b=>p.run (g (o.up (C0 Θ θ ρ) b)) (f (o.up (C0 Θ θ ρ) b)) K)=some r:=hk;obtain⟨b,h1,h2⟩:=Dyn.app_some hk';obtain⟨st1,h3,h4⟩:=VO hT.named hF.named hr hΘ hh (A2 (some (hid l.op D)) (Ca st.ob)) ho h1
   have hlow:((D9 Fj o.Γ' []).all fun e=>C4 e.1)=true:=by
    have:=FU (f:=Fj) (Γ:=o.Γ') (seen:= []);rw[List.all_eq_true]at this⊢;intro e he;exact(Ld (p:=e.1) (k:=e.2) (this e he)).1
   obtain⟨st2,h5,h6⟩:=MT hT hF hp (Rep.low (CM hg h4) hlow) (CM hf h4) FU h2;exact⟨st2,by simp only[EJ,CQ,h3,Option.bind_some];exact h5,h6⟩
  ·split at h<;>(try cases h;done);rename_i hl;split at h<;>(try cases h;done);rename_i o ho;split at h<;>(try cases h;done);rename_i p hp;cases h;have hk':o.d.app ρ (fun b=>p.run (o.up ρ b) θ K)=some r:=hk;obtain⟨b,h1,h2⟩:=Dyn.app_some hk'
   obtain⟨t,h3,h4⟩:=Sf hT.named.pois hr (rd:=A2 (some (hid l.op D)) (Ca st.ob)) (fun id hid'=>by
    show(if(hid l.op D).contains id then Ob.none else Ca st.ob id)=_
    rw[hid'];rfl) ho h1
   obtain⟨k1,k2⟩:=Yl hl h3;have hΘ':Rep Θ θ (merge t st):=hΘ.highC hh fun i hi=>by show(if As≤i then st.ob i else t.ob i)=_;rw[if_pos hi]
   rw[←k2]at h4;obtain⟨st2,h5,h6⟩:=MT hT hF hp h4 hΘ' hh h2;exact⟨st2,by simp only[EJ,k1,Option.bind_some];exact h5,h6⟩
theorem V6{X:TP}{E:Env}(hT:TOk X E)(hF:BF X E){A:Type}{D:List Nat}{ls:List SL}{Γ:TC}{q:LsD A Γ}{ρ:HS Γ}{st:St}{K:HS q.Γ'→Option A}{r:A}(h:MU A X D ls Γ=some q)(hr:Rep Γ ρ st)(hk:q.run ρ K=some r):
  ∃st',Hq E D ls st=some st'∧∃ρ',Rep q.Γ' ρ' st'∧K ρ'=some r:=by
 unfold MU at h;split at h<;>(try cases h;done);rename_i g f hg hf;split at h<;>(try cases h;done);rename_i p hp;split at h<;>(try cases h;done);rename_i hall;cases h;have hr0:=hr.kill D;have h1:Rep _ (g (B4 D ρ)) (low (CL (WB.kill D st))):=Rep.lowC (CM hg hr0) FU;have h2:Rep _ (f (B4 D ρ)) (CL (WB.kill D st)):=Rep.highC (CM hf hr0) FU fun i hi=>by show(if As≤i then _ else _)=_;rw[if_pos hi]
 obtain⟨st',h3,ρ',θ',h4,h5,h6,h7⟩:=MT hT hF hp h1 h2 FU hk;exact⟨st',h3,_,Rep.comb h5 h4 hall h6,h7⟩
theorem S6{le:Dm}{E:Env}{D:List Nat}{ls:List SL}{Q:Ex→St→Prop}{st st':St}(h:Cd E true D ls st=some st'∨Hq E D ls st=some st')(hq:Q .normal st'):C5 le E (.regE D ls) Q st:=⟨st,Av.refl st,st',h,hq⟩
theorem Qw{X:TP}{E:Env}(hT:TOk X E)(hF:BF X E){A:Type}{e:Bool}{D:List Nat}{ls:List SL}{Γ:TC}{q:LsD A Γ}{ρ:HS Γ}{st:St}{K:HS q.Γ'→Option A}{r:A}(h:MV A X e D ls Γ=some q)(hr:Rep Γ ρ st)(hk:q.run ρ K=some r):
  ∃st',(Cd E true D ls st=some st'∨Hq E D ls st=some st')∧∃ρ',Rep q.Γ' ρ' st'∧K ρ'=some r:=by
 cases e with
 |true=>
  obtain⟨st',h1,h2⟩:=V6 hT hF h hr hk;exact⟨st',.inr h1,h2⟩
 |false=>
  obtain⟨st',h1,h2⟩:=Ke hT hF h hr hk;exact⟨st',.inl h1,h2⟩
theorem V8(hT:TOk X E)(hF:BF X E){A:Type}{Q:Ex→St→Prop}:∀{c:AC} {Γ:TC} {q:LsD A Γ} {ρ:HS Γ} {st:St} {K:HS q.Γ'→Option A} {r:A},FB A X c Γ=some q→Rep Γ ρ st→q.run ρ K=some r→
  (∀st' ρ',Rep q.Γ' ρ' st'→K ρ'=some r→Q .normal st')→C5 (D3 X.Θ) E (erase c) Q st:=by
 intro c
 induction c generalizing Q with
 |skip=>
  intro Γ q ρ st K r h hr hk hQ;simp only[FB,Ac]at h;subst h;exact⟨st,Av.refl st,hQ _ _ hr hk⟩
 |reg draw D ls=>
  intro Γ q ρ st K r h hr hk hQ;obtain⟨st',h1,ρ',h2,h3⟩:=Ke hT hF (K:=K) h hr hk;exact S5 h1 (hQ _ _ h2 h3)
 |rg D gs=>
  intro Γ q ρ st K r h hr hk hQ;exact Qv hT hF (K:=K) h hr hk hQ
 |regE e D ls=>
  intro Γ q ρ st K r h hr hk hQ;obtain⟨st',h1,ρ',h2,h3⟩:=Qw hT hF (K:=K) h hr hk;exact S6 h1 (hQ _ _ h2 h3)
 |sq a b iha ihb=>
  intro Γ q ρ st K r h hr hk hQ;simp only[FB]at h;split at h<;>(try cases h;done);rename_i p hp;split at h<;>(try cases h;done);rename_i p' hp';cases h;exact⟨st,Av.refl st,iha hp hr hk fun st' ρ' h1 h2=>ihb hp' h1 h2 hQ⟩
 |gh g c ih=>
  intro Γ q ρ st K r h hr hk hQ;simp only[FB]at h;split at h<;>(try cases h;done);rename_i p hp;split at h<;>(try cases h;done);rename_i p' hp';cases h;obtain⟨st',h1,h2⟩:=I8 hp hr;exact S7 h1 (ih hp' h2 hk hQ)
 |_=>intro Γ q ρ st K r h;cases h
theorem Ox{Γ:TC}{ρ:HS Γ}{st:St}(hr:Rep Γ ρ st){x:Bx}{q:Σ t:Ty,Dyn (HS Γ) (D t)}{y:D q.1}(h:HJ X Γ x=some q)(hy:q.2.val ρ=some y):∃c,E0 st x=some c∧Can q.1 y [c]:=by
 cases x with
 |tmp t=>
  simp only[HJ]at h;split at h<;>(try cases h;done);rename_i p hp;cases h;obtain⟨c,h1,h2,_⟩:=LH (msk:= []) (rd:=st.ob) (G:=X.G) (fl:=p.1) (q:=p.2) hp hr (fun _ _=>rfl) hy;exact⟨c,h1,h2⟩
 |cell a sz=>
  simp only[HJ]at h;split at h<;>(try cases h;done);rename_i k hk;split at h<;>(try cases h;done)
  ·rename_i t d hd;cases h;obtain⟨sv,h1,c,h2,h3⟩:=La (msk:= []) (rd:=st.ob) (sv:=deref st.ob (so X.G st.fr (.t a))) hr (fun _ _=>rfl) hd hy (fun x hx=>Iu hr (fun _ _=>rfl) (fun x hx=>Bc hk hr hx) hx (KZ hd));subst h2;refine⟨c, ?_,h3⟩;have h1':Bj st.ob sz (deref st.ob (st.fr a))=some (.c c):=h1;simp[E0,h1',Cn]
  ·rename_i id f hd;split at h<;>(try cases h;done);rename_i e size t xs ho;cases h;cases hy;obtain⟨sv,h1,h2⟩:=La (msk:= []) (rd:=st.ob) (sv:=deref st.ob (so X.G st.fr (.t a))) (y:=f ρ) hr (fun _ _=>rfl) hd rfl (fun x hx=>Iu hr (fun _ _=>rfl) (fun x hx=>Bc hk hr hx) hx (KZ hd));have h2':sv=.osl id:=h2;subst h2';obtain⟨es,h3,h4⟩:=hr.o id _ ho;refine⟨.sl none es, ?_,by unfold Can;exact⟨_,_,rfl,h4⟩⟩;have h1':Bj st.ob sz (deref st.ob (st.fr a))=some (.osl id):=h1;simp[E0,h1',Cn,h3]
theorem Ow{Γ:TC}{ρ:HS Γ}{st:St}(hr:Rep Γ ρ st):∀{xs:List Bx} {q:Σ t:Ty,Dyn (HS Γ) (D t)} {y:D q.1},HI X Γ xs=some q→q.2.val ρ=some y→∃l,Aq (E0 st) xs=some l∧Can q.1 y l
 | [],q,y,h,hy=>by
  simp only[HI,Ac]at h;subst h;exact⟨[],rfl,by unfold Can;rfl⟩
 | [x],q,y,h,hy=>by
  simp only[HI]at h;split at h<;>(try cases h;done);rename_i p hp;cases h;obtain⟨c,h1,h2⟩:=Ox hr hp hy;exact⟨[c],by simp[Aq,h1],by unfold Can;exact⟨c,rfl,h2⟩⟩
 |x::z::xs,q,y,h,hy=>by
  simp only[HI]at h;split at h<;>(try cases h;done);rename_i p p' hp hp';cases h;obtain⟨g1,g2⟩:=Dyn.both_val hy;obtain⟨c,h1,h2⟩:=Ox hr hp g1;obtain⟨l,h3,h4⟩:=Ow hr hp' g2;refine⟨c::l, ?_,by unfold Can;exact⟨c,l,rfl,h2,h4⟩⟩;have e:Aq (E0 st) (x::z::xs)=(E0 st x).bind fun b=>(Aq (E0 st) (z::xs)).map fun bs=>b::bs:=rfl;rw[e,h1,h3];rfl
theorem Y7{Γ:TC}{ρ:HS Γ}{st:St}(hr:Rep Γ ρ st){xs:List Bx}{q:Σ t:Ty,Dyn (HS Γ) (D t)}{y:D q.1}(h:LO X Γ xs=some q)(hy:q.2.val ρ=some y):∃c,DI st xs=some c∧Can q.1 y [c]:=by
 match xs,h with
 | [x],h=>
  obtain⟨c,h1,h2⟩:=Ox hr h hy;exact⟨c,by simp[DI,Aq,h1,HC],h2⟩
 | [],h=>
  simp only[LO]at h;split at h<;>(try cases h;done);rename_i p hp;cases h;obtain⟨l,h1,h2⟩:=Ow hr hp hy;simp only[Aq,Ac]at h1;subst h1;exact⟨.tup [],rfl,by unfold Can;exact⟨[],rfl,h2⟩⟩
 |x::z::xs,h=>
  simp only[LO]at h;split at h<;>(try cases h;done);rename_i p hp;cases h;obtain⟨l,h1,h2⟩:=Ow hr hp hy;have hlen:=DB h1;refine⟨.tup l, ?_,by unfold Can;exact⟨l,rfl,h2⟩⟩;simp only[DI,h1,Option.map_some]
  match l,hlen with
  |c::d::l,_=>rfl
theorem Ry{R A B:Type}{e:Nat×TC}{ys:XC}{rt:Bool}{f:DR R (e::ys) rt→B}{ρ:HS e.2}{b:B}{ke:KE A (e::ys)}{kr:R→Option A}{r:A}(h:(keX (e::ys) rt f).1 ρ=some b)
  (hk:∀o,f o=b→elX (e::ys) rt ke kr o=some r):ke.1 ρ=some r:=by
 cases ys with
 |nil=>
  cases rt with
  |false=>exact hk ρ (Option.some.inj h)
  |true=>exact hk (.inl ρ) (Option.some.inj h)
 |cons e' ys=>exact hk (.inl ρ) (Option.some.inj h)
theorem IG{R A B:Type}:∀{ys:XC} {rt:Bool} {f:DR R ys rt→B} {i:Nat} {Γi:TC} {s:KE B ys→HS Γi→Option B} {ρ:HS Γi} {b:B} {ke:KE A ys} {kr:R→Option A} {r:A},Dz B ys i=some ⟨Γi,s⟩→s (keX ys rt f) ρ=some b→
  (∀o,f o=b→elX ys rt ke kr o=some r)→∃s',Dz A ys i=some ⟨Γi,s'⟩∧s' ke ρ=some r
 | [],rt,f,i,Γi,s,ρ,b,ke,kr,r,h,_,_=>by cases h
 |e::ys,rt,f,i,Γi,s,ρ,b,ke,kr,r,h,hs,hk=>by
  simp only[Dz]at h⊢;split at h
  ·rename_i hi;cases h;rw[if_pos hi];exact⟨_,rfl,Ry hs hk⟩
  ·rename_i hi;rw[if_neg hi];split at h<;>(try cases h;done);rename_i q hq;cases h
   cases ys with
   |nil=>cases hq
   |cons e' ys=>
    obtain⟨s',h1,h2⟩:=IG (A:=A) (f:=fun o=>f (.inr o)) (ke:=ke.2) (kr:=kr) (r:=r) hq hs (fun o ho=>hk (.inr o) ho);rw[h1];exact⟨_,rfl,h2⟩
theorem Xe{R A B:Type}{e:Nat×TC}{ys:XC}{rt:Bool}{f:DR R (e::ys) rt→B}{i:Nat}{Γi:TC}{s:KE B ys→HS Γi→Option B}{ρ:HS Γi}{b:B}{ke:KE A (e::ys)}{kr:R→Option A}{r:A}(h:Dz B ys i=some ⟨Γi,s⟩)(hs:s (keX (e::ys) rt f).2 ρ=some b)
  (hk:∀o,f o=b→elX (e::ys) rt ke kr o=some r):∃s',Dz A ys i=some ⟨Γi,s'⟩∧s' ke.2 ρ=some r:=by
 cases ys with
 |nil=>cases h
 |cons e' ys=>exact IG (A:=A) (f:=fun o=>f (.inr o)) (ke:=ke.2) (kr:=kr) (r:=r) h hs (fun o ho=>hk (.inr o) ho)
theorem LP{R A B:Type}:∀{ys:XC} {rt:Bool} {f:DR R ys rt→B} {v:R} {b:B} {ke:KE A ys} {kr:R→Option A} {r:A},rtX ys rt f v=some b→(∀o,f o=b→elX ys rt ke kr o=some r)→kr v=some r
 | [],true,f,v,b,ke,kr,r,h,hk=>hk v (Option.some.inj h)
 | [],false,f,v,b,ke,kr,r,h,hk=>by cases h
 | [e],false,f,v,b,ke,kr,r,h,hk=>by cases h
 | [e],true,f,v,b,ke,kr,r,h,hk=>hk (.inr v) (Option.some.inj h)
 |e::e'::ys,rt,f,v,b,ke,kr,r,h,hk=>LP (f:=fun o=>f (.inr o)) (ke:=ke.2) h (fun o ho=>hk (.inr o) ho)
theorem Ju{A:Type}{xs:XC}:∀{ys:XC} {g:KE A xs→KE A ys} {i:Nat} {Γi:TC} {s:KE A ys→HS Γi→Option A} {ke:KE A xs} {ρ:HS Γi} {r:A},HM A xs ys=some g→Dz A ys i=some ⟨Γi,s⟩→s (g ke) ρ=some r→∃s',Dz A xs i=some ⟨Γi,s'⟩∧s' ke ρ=some r
 | [],g,i,Γi,s,ke,ρ,r,_,h,_=>by cases h
 |e::ys,g,i,Γi,s,ke,ρ,r,hg,h,hs=>by
  simp only[HM]at hg;split at hg<;>(try cases hg;done);rename_i q g' hq hg';split at hg<;>(try cases hg;done);rename_i he;cases hg;obtain⟨Γq,f⟩:=q;simp only at he;subst he;simp only[Dz]at h;split at h
  ·rename_i hi;subst hi;cases h;exact⟨f,hq,hs⟩
  ·split at h<;>(try cases h;done);rename_i q' hq';cases h;exact Ju hg' hq' hs
def EX(st:St)(rs:List Bx):(Rt:Ty)→D Rt→Prop
 | .nw e size t,ys=>∃es,Wt rs (.arr e size es) .ret st∧Ap (fun x c=>Can t x [c]) ys es
 |Rt,v=>∃c,DI st rs=some c∧Can Rt v [c]
theorem EX.val{st:St}{rs:List Bx}{Rt:Ty}{v:D Rt}{c:CV}(h:DI st rs=some c)(hc:Can Rt v [c]):EX st rs Rt v:=by
 cases Rt<;>first|exact⟨c,h,hc⟩|(unfold Can at hc;exact hc.elim)
theorem EX.of{st:St}{rs:List Bx}{Rt:Ty}{v:D Rt}(hv:Rt.val=true)(h:EX st rs Rt v):∃c,DI st rs=some c∧Can Rt v [c]:=by
 cases Rt<;>first|exact h|cases hv
theorem Y9{Γ:TC}{rs:List Bx}{Rt:Ty}{g:HS Γ→D Rt}{ρ:HS Γ}{st:St}(h:Oy Γ rs Rt=some g)(hr:Rep Γ ρ st):EX st rs Rt (g ρ):=by
 unfold Oy at h;split at h<;>(try cases h;done);rename_i i e size t;split at h<;>(try cases h;done)
 ·rename_i id f hg;split at h<;>(try cases h;done);rename_i e' size' t' xs ho;split at h<;>(try cases h;done);rename_i ht;split at h<;>(try cases h;done);rename_i he;subst ht;obtain⟨rfl,rfl⟩:=he;cases h;have h1:st.fr i=.osl id:=hr.s i _ hg;obtain⟨es,h2,h3⟩:=hr.o id _ ho;exact⟨es,⟨i,rfl,.inl ⟨id,.inl h1,h2,rfl⟩⟩,h3⟩
 ·rename_i f hg;cases h;obtain⟨c,e1,e2⟩:=hr.s i _ hg;unfold Can at e2;cases e2;exact⟨[],⟨i,rfl,.inr ⟨e1,_,_,rfl⟩⟩,rfl⟩
theorem Yv{rs:List Bx}{Rt:Ty}{Γ:TC}{q:RdD Γ (D Rt)}{ρ:HS Γ}{st:St}(h:rdT X rs Rt Γ=some q)(hr:Rep Γ ρ st){v:q.B}(hv:q.d.val ρ=some v):EX st rs Rt (q.up ρ v):=by
 unfold rdT at h;split at h
 ·rename_i g hg;cases h;exact Y9 hg hr
 ·split at h<;>(try cases h;done);rename_i q' hq;split at h<;>(try cases h;done);rename_i g hg;cases h;obtain⟨c,h3,h4⟩:=Y7 hr hq hv;exact EX.val h3 (Co _ _ hg h4)
def Un{A:Type}{xs:XC}{Γn:TC}{R:Type}(RP:St→R→Prop)(k:DKn A xs Γn R)(r:A):Ex→St→Prop
 | .normal,st=>∃ρ,Rep Γn ρ st∧k.n ρ=some r
 | .exit i,st=>∃Γi s ρ,Dz A xs i=some ⟨Γi,s⟩∧Rep Γi ρ st∧s k.e ρ=some r
 | .ret,st=>∃v,RP st v∧k.r v=some r
theorem Qt{X:TP}:∀{gs:List Gh} {Γ:TC} {p:Σ Γ':TC,HS Γ→HS Γ'} {ρ:HS Γ} {st:St},Ir X gs Γ=some p→Rep Γ ρ st→∃st',Av (D3 X.Θ) st st'∧Rep p.1 (p.2 ρ) st'
 | [],Γ,p,ρ,st,h,hr=>by
  simp only[Ir,Ac]at h;subst h;exact⟨st,Av.refl st,hr⟩
 |g::gs,Γ,p,ρ,st,h,hr=>by
  simp only[Ir]at h;split at h<;>(try cases h;done);rename_i q hq;split at h<;>(try cases h;done);rename_i r hr';cases h;obtain⟨s1,h1,h2⟩:=I8 hq hr;obtain⟨s2,h3,h4⟩:=Qt hr' h2;exact⟨s2,h1.trans h3,h4⟩
theorem Sw{α:Type}:∀{l:List α} {j:Nat} {x:α},l[j]? =some x→(x::l.eraseIdx j).Perm l
 | [],j,x,h=>by simp at h
 |y::l,0,x,h=>by
  simp only[List.getElem?_cons_zero,Ac]at h;subst h;exact List.Perm.refl _
 |y::l,j+1,x,h=>by
  simp only[List.getElem?_cons_succ]at h;exact(List.Perm.swap y x _).trans (List.Perm.cons y (Sw h))
theorem Ap.erase{α β:Type}{R:α→β→Prop}:∀(j:Nat) {as:List α} {bs:List β},Ap R as bs→Ap R (as.eraseIdx j) (bs.eraseIdx j)
 |_,[],bs,h=>by unfold Ap at h;subst h;exact Ap.nil
 |0,a::as,bs,h=>by obtain⟨b,bs,rfl,h1,h2⟩:=h;exact h2
 |j+1,a::as,bs,h=>by obtain⟨b,bs,rfl,h1,h2⟩:=h;exact Ap.cons h1 (Ap.erase j h2)
theorem V9(hT:TOk X E)(hF:BF X E){R:Type}{rd:(Γ:TC)→Option (RdD Γ R)}{RP:St→R→Prop}(hrd:∀{Γ:TC} {q:RdD Γ R} {ρ:HS Γ} {st:St},rd Γ=some q→Rep Γ ρ st→∀{v:q.B},q.d.val ρ=some v→RP st (q.up ρ v)):∀(c:AC) {A:Type} {xs:XC} {Γn Γ:TC} {d:HS Γ→DKn A xs Γn R→Option A} {ρ:HS Γ} {k:DKn A xs Γn R} {st:St} {r:A},
  den X R rd c A xs Γn Γ=some d→Rep Γ ρ st→d ρ k=some r→C5 (D3 X.Θ) E (erase c) (Un RP k r) st:=by
 intro c
 induction c with
 |skip=>
  intro A xs Γn Γ d ρ k st r h hr hd;simp only[den]at h;split at h<;>(try cases h;done);rename_i f hf;cases h;exact⟨st,Av.refl st,_,CM hf hr,hd⟩
 |reg draw D ls=>
  intro A xs Γn Γ d ρ k st r h hr hd;simp only[den]at h;split at h<;>(try cases h;done);rename_i q hq;split at h<;>(try cases h;done);rename_i f hf;cases h;obtain⟨st',h1,ρ',h2,h3⟩:=Ke hT hF hq hr hd;exact S5 h1 ⟨_,CM hf h2,h3⟩
 |rg D gs=>
  intro A xs Γn Γ d ρ k st r h hr hd;simp only[den]at h;split at h<;>(try cases h;done);rename_i q hq;split at h<;>(try cases h;done);rename_i f hf;cases h;exact Qv hT hF hq hr hd fun st' ρ' h2 h3=>⟨_,CM hf h2,h3⟩
 |rgt draw D ls hh=>
  intro A xs Γn Γ d ρ k st r h hr hd;simp only[den]at h;split at h<;>(try cases h;done);rename_i q hq;cases h;exact V7 hT hF hq hr hd fun st' ρ' h2 h3=>⟨_,h2,h3⟩
 |rga D ls gs=>
  intro A xs Γn Γ d ρ k st r h hr hd;simp only[den]at h;split at h<;>(try cases h;done);rename_i q hq;split at h<;>(try cases h;done);rename_i p hp;split at h<;>(try cases h;done);rename_i f hf;cases h;obtain⟨st',h1,ρ',h2,h3⟩:=Ke hT hF hq hr hd;obtain⟨s2,h4,h5⟩:=Qt hp h2;exact⟨st,Av.refl st,st',h1,s2,h4,_,CM hf h5,h3⟩
 |regE e D ls=>
  intro A xs Γn Γ d ρ k st r h hr hd;simp only[den]at h;split at h<;>(try cases h;done);rename_i q hq;split at h<;>(try cases h;done);rename_i f hf;cases h;obtain⟨st',h1,ρ',h2,h3⟩:=Qw hT hF hq hr hd;exact S6 h1 ⟨_,CM hf h2,h3⟩
 |sq a b iha ihb=>
  intro A xs Γn Γ d ρ k st r h hr hd;simp only[den]at h;split at h<;>(try cases h;done);rename_i q hq;split at h<;>(try cases h;done);rename_i db hdb;cases h;exact⟨st,Av.refl st,V8 hT hF hq hr hd fun st' ρ' h1 h2=>ihb hdb h1 h2⟩
 |seq Γm a b iha ihb=>
  intro A xs Γn Γ d ρ k st r h hr hd;simp only[den]at h;split at h<;>(try cases h;done);rename_i da db hda hdb;cases h;refine⟨st,Av.refl st,CI _ (fun e s hp=> ?_) (iha hda hr hd)⟩
  cases e with
  |normal=>
   obtain⟨ρ',h1,h2⟩:=hp;exact ihb hdb h1 h2
  |exit i=>exact hp
  |ret=>exact hp
 |join Γm ex rt a b iha ihb=>
  intro A xs Γn Γ d ρ k st r h hr hd;simp only[den]at h;split at h<;>(try cases h;done);rename_i ys hys;split at h<;>(try cases h;done);rename_i g da db hg hda hdb;cases h;obtain⟨o,h1,h2⟩:=Ab.1 hd;refine⟨st,Av.refl st,CI _ (fun e s hp=> ?_) (iha hda hr h1)⟩;have hk:∀o',o'=o→elX ((0,Γm)::ys) rt (fun ρm=>db ρm k,g k.e) k.r o'=some r:=fun o' ho=>ho▸h2
  cases e with
  |normal=>
   obtain⟨ρ',h3,h4⟩:=hp;exact ihb hdb h3 (Ry (ke:=(fun ρm=>db ρm k,g k.e)) h4 hk)
  |exit i=>
   obtain⟨Γi,s',ρ',h3,h4,h5⟩:=hp;obtain⟨s2,h6,h7⟩:=Xe (A:=A) (ke:=(fun ρm=>db ρm k,g k.e)) h3 h5 hk;obtain⟨s3,h8,h9⟩:=Ju hg h6 h7;exact⟨Γi,s3,ρ',h8,h4,h9⟩
  |ret=>
   obtain⟨v,h3,h5⟩:=hp;exact⟨v,h3,LP (ke:=(fun ρm=>db ρm k,g k.e)) h5 hk⟩
 |cond c x y ihx ihy=>
  intro A xs Γn Γ d ρ k st r h hr hd;simp only[den]at h;split at h<;>(try cases h;done);rename_i e dx dy he hdx hdy;cases h;obtain⟨b,h1,h2⟩:=Dyn.app_some hd;obtain⟨cv,e1,e2⟩:=A5 (G:=X.G) he hr h1;unfold Can at e2;cases e2;refine⟨st,Av.refl st,b,by rw[hT.G];exact e1,fun hb=> ?_,fun hb=> ?_⟩
  ·rw[if_pos hb]at h2;exact ihx hdx hr h2
  ·rw[if_neg (by simp[hb])]at h2;exact ihy hdy hr h2
 |block id b ih=>
  intro A xs Γn Γ d ρ k st r h hr hd;simp only[den]at h;split at h<;>(try cases h;done);rename_i db hdb;cases h;refine⟨st,Av.refl st,CI _ (fun e s hp=> ?_) (ih hdb hr hd)⟩
  cases e with
  |normal=>exact hp
  |exit i=>
   obtain⟨Γi,s',ρ',h3,h4,h5⟩:=hp;simp only[Dz]at h3;by_cases hi:i=id
   ·subst hi;simp only[if_true,Ac,Sigma.mk.injEq]at h3;obtain⟨rfl,h3⟩:=h3;cases eq_of_heq h3;simp only[if_true];exact⟨ρ',h4,h5⟩
   ·simp only[if_neg hi];rw[if_neg (fun e=>hi e.symm)]at h3;split at h3<;>(try cases h3;done);rename_i q hq;cases h3;exact⟨_,_,ρ',hq,h4,h5⟩
  |ret=>exact hp
 |loop Γh ex rt b ih=>
  intro A xs Γn Γ d ρ k st r h hr hd;simp only[den]at h;split at h<;>(try cases h;done);rename_i ys hys;split at h<;>(try cases h;done);rename_i g f db hg hf hdb;cases h;obtain⟨o,h1,h2⟩:=Ab.1 hd;obtain⟨n,hn⟩:=Hz.1 h1;refine⟨st,Av.refl st,fun m s=>∃ρ,Rep Γh ρ s∧D2 (fun ρ=>db ρ ⟨fun ρ'=>some (.inl ρ'),keX ys rt Sum.inr,rtX ys rt Sum.inr⟩) m ρ=some o,⟨n,f ρ,CM hf hr,hn⟩,fun m s hR=> ?_⟩;obtain⟨ρ1,hr1,hi⟩:=hR
  cases m with
  |zero=>cases hi
  |succ m=>
   simp only[D2]at hi;obtain⟨w,h3,h4⟩:=Ab.1 hi;refine CI _ (fun e s' hp=> ?_) (ih hdb hr1 h3)
   have hk:∀o',Sum.inr o'=w→elX ys rt (g k.e) k.r o'=some r:=fun o' ho=>by
    subst ho;simp only[Ac]at h4;rw[h4];exact h2
   cases e with
   |normal=>
    obtain⟨ρ',h5,h6⟩:=hp;cases h6;exact⟨m,by omega,ρ',h5,h4⟩
   |exit i=>
    obtain⟨Γi,s2,ρ',h5,h6,h7⟩:=hp;obtain⟨s3,h8,h9⟩:=IG (A:=A) (ke:=g k.e) h5 h7 hk;obtain⟨s4,h10,h11⟩:=Ju hg h8 h9;exact⟨Γi,s4,ρ',h10,h6,h11⟩
   |ret=>
    obtain⟨v,h5,h7⟩:=hp;exact⟨v,h5,LP (ke:=g k.e) h7 hk⟩
 |mloop Γh ex rt it d0 ok i b ih=>
  intro A xs Γn Γ d ρ k st r h hr hd;simp only[den]at h;split at h<;>(try cases h;done);rename_i id fi kt vt m hgi hgo;split at h<;>(try cases h;done);rename_i ys hcond hys;split at h<;>(try cases h;done);rename_i g f fb q db hg hf hfb hq hdb;split at h<;>(try cases h;done);rename_i c hc;cases h;simp only[Af]at hcond;obtain⟨hid,hlt,hno⟩:=hcond;have hid:=Nat.eq_of_beq_eq_true hid;subst hid;have hlt:id<As:=Ah hlt;have hall:=Sv.1 hd;have hit:st.fr id=.iter id:=hr.s id _ hgi;obtain⟨ks,vs,cur,hob,hks,hvs⟩:=hr.o id _ hgo;refine⟨st,Av.refl st,fun n s=>∃ρ rem ks vs cur,rem.length=n∧Rep Γh ρ s∧s.fr id=.iter id∧s.ob id=.miter ks vs cur∧Ap (fun x c=>Can kt x.1 [c]) rem ks∧Ap (fun x c=>Can vt x.2 [c]) rem vs∧∀π:List (D kt×D vt),π.Perm rem→(EP (fun x ρ=>db (true,(),(),x,ρ) ⟨fun ρ'=>some (.inl (fb ρ')),keX ys rt Sum.inr,rtX ys rt Sum.inr⟩) (fun ρ=>q.2 (keX ys rt Sum.inr) (c (false,(),ρ))) π ρ).bind (elX ys rt (g k.e) k.r)=some r,⟨_,f ρ,m ρ,ks,vs,cur,rfl,CM hf hr,hit,hob,hks,hvs,hall⟩,fun n s hR=> ?_⟩;obtain⟨ρ1,rem,ks,vs,cur,hn,hr1,hit,hob,hks,hvs,hall⟩:=hR;refine⟨s,Av.refl s,s,Av.refl s,id,ks,vs,cur,hit,hob,fun hnil=> ?_,fun j ck cv hkj hvj=> ?_⟩
  ·subst hnil
   have hrem:rem= []:=by
    have:=hks.length;exact List.eq_nil_of_length_eq_zero this.symm
   subst hrem;have h1:=hall [] (List.Perm.refl _);simp only[EP]at h1;obtain⟨o,h2,h3⟩:=Ab.1 h1;obtain⟨w,h4,h5⟩:=Ab.1 h2
   have hk:∀o',Sum.inr o'=w→elX ys rt (g k.e) k.r o'=some r:=fun o' ho=>by
    subst ho;simp only[Ac]at h5;rw[h5];exact h3
   have hr2:Rep ((.s ok,.v .bool)::(.s d0,.undef)::Γh) (false,(),ρ1) {s with fr:=upd (upd s.fr d0 (.c (.tup [.bool false]))) ok (.c (.bool false))}:=by
    have:=Rep.set (d:=ok) (k:=.v .bool) (x:=false) (sv:=.c (.bool false)) (Rep.set (d:=d0) (k:=.undef) (x:=()) (sv:=.c (.tup [.bool false])) hr1 trivial) ⟨_,rfl,by unfold Can;rfl⟩;exact this
   refine⟨_,Av.refl _,_,Av.refl _,false,by simp[so,BK],(fun hb=>by cases hb),fun _=>⟨_,Av.refl _, ?_⟩⟩;obtain⟨s3,h8,h9⟩:=IG (A:=A) (ke:=g k.e) hq h4 hk;obtain⟨s4,h10,h11⟩:=Ju hg h8 h9;exact⟨q.1,s4,_,h10,CM hc hr2,h11⟩
  ·obtain⟨x,hx,hcx⟩:=hks.getB hkj;obtain⟨x',hx',hcx'⟩:=hvs.getB hvj;rw[hx]at hx';cases hx';have hperm:(x::rem.eraseIdx j).Perm rem:=Sw hx
   have hr2:Rep ((.s ok,.v .bool)::(.s d0,.undef)::(.s id,.iter id)::(.o id,.mcur kt vt)::Γh) (true,(),(),x,ρ1) {fr:=upd (upd s.fr d0 (.c (.tup [.bool true,ck,cv]))) ok (.c (.bool true)),ob:=upd s.ob id (.miter (ks.eraseIdx j) (vs.eraseIdx j) (some (ck,cv)))}:=by
    have h1:=Rep.newObj (k:=.iter id) (ko:=.mcur kt vt) (x:=()) (y:=x) (v:=.iter id) (o:=.miter (ks.eraseIdx j) (vs.eraseIdx j) (some (ck,cv))) hr1 (CK.refl id) ⟨_,_,_,_,rfl,hcx,hcx'⟩ rfl
    have e:upd s.fr id (.iter id)=s.fr:=by
     funext t;rw[BK];split
     ·rename_i ht;rw[ht,hit]
     ·rfl
    rw[e]at h1;have:=Rep.set (d:=ok) (k:=.v .bool) (x:=true) (sv:=.c (.bool true)) (Rep.set (d:=d0) (k:=.undef) (x:=()) (sv:=.c (.tup [.bool true,ck,cv])) h1 trivial) ⟨_,rfl,by unfold Can;rfl⟩;exact this
   have h1:=hall _ hperm;simp only[EP]at h1;obtain⟨o,h2,h3⟩:=Ab.1 h1;obtain⟨w,h4,h5⟩:=Ab.1 h2;refine⟨_,Av.refl _,_,Av.refl _,true,by simp[so,BK],(fun _=>⟨_,Av.refl _, ?_⟩),fun hb=>by cases hb⟩;refine CI _ (fun e s' hp=> ?_) (GI hT.hi hlt _ hno (ih hdb hr2 h4));obtain⟨hp,hsame⟩:=hp
   have hk:∀o',Sum.inr o'=w→elX ys rt (g k.e) k.r o'=some r:=fun o' ho=>by
    subst ho;simp only[Ac]at h5;rw[h5];exact h3
   cases e with
   |normal=>
    obtain⟨ρb,h6,h7⟩:=hp;cases h7;obtain⟨ks2,vs2,ck2,cv2,hob2,_⟩:=h6.o id ⟨.mcur kt vt,fun ρ=>ρ.2.1⟩ (by simp[get]);have hob3:=hsame (by rw[hob2];rfl);refine⟨rem.length-1, ?_,fb ρb,rem.eraseIdx j,ks.eraseIdx j,vs.eraseIdx j,some (ck,cv), ?_,CM hfb h6,h6.s id _ (C7 ..), ?_, ?_, ?_,fun π hπ=> ?_⟩
    ·rw[←hn];have:j<rem.length:=(Ae.1 hx).1;omega
    ·rw[List.length_eraseIdx,if_pos (Ae.1 hx).1]
    ·rw[hob3];simp[BK]
    ·exact Ap.erase j hks
    ·exact Ap.erase j hvs
    ·have hp2:=hall (x::π) ((List.Perm.cons x hπ).trans hperm);simp only[EP,h4,Option.bind_some]at hp2;exact hp2
   |exit i=>
    obtain⟨Γi,s2,ρ',h6,h7,h8⟩:=hp;obtain⟨s3,h8,h9⟩:=IG (A:=A) (ke:=g k.e) h6 h8 hk;obtain⟨s4,h10,h11⟩:=Ju hg h8 h9;exact⟨Γi,s4,ρ',h10,h7,h11⟩
   |ret=>
    obtain⟨v,h6,h7⟩:=hp;exact⟨v,h6,LP (ke:=g k.e) h7 hk⟩
 |exit i=>
  intro A xs Γn Γ d ρ k st r h hr hd;simp only[den]at h;split at h<;>(try cases h;done);rename_i q hq;split at h<;>(try cases h;done);rename_i f hf;cases h;exact⟨st,Av.refl st,q.1,q.2,_,hq,CM hf hr,hd⟩
 |ret=>
  intro A xs Γn Γ d ρ k st r h hr hd;simp only[den]at h;split at h<;>(try cases h;done);rename_i q hq;cases h;obtain⟨v,h1,h2⟩:=Dyn.app_some hd;exact⟨st,Av.refl st,_,hrd hq hr h1,h2⟩
 |raw c=>
  intro A xs Γn Γ d ρ k st r h hr hd;simp only[den,Ac]at h;subst h;cases hd
 |gh g c ih=>
  intro A xs Γn Γ d ρ k st r h hr hd;simp only[den]at h;split at h<;>(try cases h;done);rename_i p hp;split at h<;>(try cases h;done);rename_i dc hdc;cases h;obtain⟨st',h1,h2⟩:=I8 hp hr;exact S7 h1 (ih hdc h2 hd)
end
structure AF where
 n:Nat
 code:AC
 res:List Bx
@[reducible] def GR:Ty→Nat→TC
 | .one t,i=> [(.s i,.v t)]
 | .cons t r,i=>(.s i,.v t)::GR r (i+1)
 |_,_=> []
def J4:(a:Ty)→(i:Nat)→D a→HS (GR a i)
 | .one _,_,x=>(x,())
 | .cons _ r,i,x=>(x.1,J4 r (i+1) x.2)
 | .int _,_,_| .bool,_,_| .str,_,_| .err,_,_| .clo _ _,_,_| .falt _ _ _,_,_| .nfn,_,_| .nam _,_,_| .bptr _,_,_| .nilp,_,_| .pt _,_,_| .nw _ _ _,_,_| .nsl,_,_| .nmap,_,_| .agg _,_,_| .tup _,_,_| .sl _,_,_| .map _ _,_,_| .nil,_,_=>()
theorem OB:∀{a:Ty} {i:Nat} {x:D a} {l:List CV} {p:Key} {q:Σ k:EK,HS (GR a i)→DK k},Can a x l→get (GR a i) p=some q→∃j c,p=.s (i+j)∧l[j]? =some c∧RS q.1 (q.2 (J4 a i x)) (.c c)
 | .one t,i,x,l,p,q,hc,hg=>by
  unfold Can at hc;obtain⟨c,rfl,hc⟩:=hc;by_cases hp:Key.s i=p
  ·subst hp;have hg':get ((Key.s i,EK.v t):: []) (Key.s i)=some q:=hg;rw[C7]at hg';cases hg';exact⟨0,c,rfl,rfl,c,rfl,hc⟩
  ·obtain⟨f,hf,_⟩:=Ce hp hg;cases hf
 | .cons t r,i,x,l,p,q,hc,hg=>by
  unfold Can at hc;obtain⟨c,l',rfl,h1,h2⟩:=hc;by_cases hp:Key.s i=p
  ·subst hp;have hg':get ((Key.s i,EK.v t)::GR r (i+1)) (Key.s i)=some q:=hg;rw[C7]at hg';cases hg';exact⟨0,c,rfl,rfl,c,rfl,h1⟩
  ·obtain⟨f,hf,hx⟩:=Ce hp hg;obtain⟨j,c',h3,h4,h5⟩:=OB (i:=i+1) h2 hf;refine⟨j+1,c',by rw[h3];congr 1;omega,by simpa using h4, ?_⟩;have e:=hx (J4 (.cons t r) i x);rw[e];exact h5
 | .int _,_,_,_,_,_,_,hg=>by cases hg
 | .bool,_,_,_,_,_,_,hg=>by cases hg
 | .str,_,_,_,_,_,_,hg=>by cases hg
 | .err,_,_,_,_,_,_,hg=>by cases hg
 | .clo _ _,_,_,_,_,_,_,hg=>by cases hg
 | .falt _ _ _,_,_,_,_,_,_,hg=>by cases hg
 | .nfn,_,_,_,_,_,_,hg=>by cases hg
 | .nam _,_,_,_,_,_,_,hg=>by cases hg
 | .bptr _,_,_,_,_,_,_,hg=>by cases hg
 | .nilp,_,_,_,_,_,_,hg=>by cases hg
 | .pt _,_,_,_,_,_,_,hg=>by cases hg
 | .nw _ _ _,_,_,_,_,_,_,hg=>by cases hg
 | .nsl,_,_,_,_,_,_,hg=>by cases hg
 | .nmap,_,_,_,_,_,_,hg=>by cases hg
 | .agg _,_,_,_,_,_,_,hg=>by cases hg
 | .tup _,_,_,_,_,_,_,hg=>by cases hg
 | .sl _,_,_,_,_,_,_,hg=>by cases hg
 | .map _ _,_,_,_,_,_,_,hg=>by cases hg
 | .nil,_,_,_,_,_,_,hg=>by cases hg
theorem WX{a:Ty}{x:D a}{l:List CV}(hc:Can a x l):Rep (GR a 0) (J4 a 0 x) (G1 l):=by
 refine⟨fun i q hq=> ?_,fun id q hq=> ?_⟩
 ·obtain⟨j,c,h1,h2,h3⟩:=OB hc hq;simp only[Nat.zero_add,Key.s.injEq]at h1;subst h1;simp only[G1,h2];exact h3
 ·obtain⟨j,c,h1,_⟩:=OB hc hq;cases h1
def kN:(rs:List Bx)→(Rt:Ty)→Option (D Rt)
 | [],.tup .nil=>some ()
 |_,_=>none
theorem Xd{rs:List Bx}{Rt:Ty}{y:D Rt}(h:kN rs Rt=some y)(st:St):∃c,DI st rs=some c∧Can Rt y [c]:=by
 unfold kN at h;split at h
 ·exact⟨.tup [],rfl,by unfold Can;exact⟨[],rfl,by unfold Can;rfl⟩⟩
 ·cases h
theorem AW.plain{w:World}{M:MM}{size:Nat}{t:Ty}:∀{ys:List (D t)} {es:List CV} {xs:List Value},Ap (fun x c=>Can t x [c]) ys es→AW w M size es xs→AW w M size (ys.map (enc t)) xs
 | [],es,xs,h,hr=>by unfold Ap at h;subst h;exact hr
 |y::ys,es,xs,h,hr=>by
  obtain⟨c,es',rfl,h1,h2⟩:=h;obtain⟨v,xs',e,g1,g2,g3⟩:=hr;exact⟨v,xs',e,g1,RelC.enc h1 g2,AW.plain h2 g3⟩
section
variable {P:Program} {E:Env} {w0:WL} {M0:MM} {n:Nat} {st:St} {a:Act} {w w':World} {z:Cz}
def Y4(st:St):Bx→Option CV
 | .tmp t=>closed (st.fr t)
 | .cell a sz=>(Bj st.ob sz (deref st.ob (st.fr a))).bind closed
def Y5(st:St)(rs:List Bx):Option CV:=(Aq (Y4 st) rs).map HC
def KF(rs:List Bx)(t:Ty)(y:D t)(Θ:TC)(θ:HS Θ)(e:Ex)(st:St):Prop:=
 match e with
 | .exit _=>False
 |_=>∃c,Y5 st rs=some c∧Can t y [c]∧Rep Θ θ st
theorem Fu.to{G:Nat→List CV}{f:FuncId}{l:List CV}{r:CV}{H':Nat→Ob}(h:Fu P G f [] l (fun _=>.none) r H')(hH:∀id,H' id=.none):CallsTo P G f l (.val r):=by
 intro w M vs hM hG hL;have hLies:Id P w M (z0 undef M.al) [] fun _=>.none:=⟨fun _=>trivial,fun _ _ h=>absurd rfl h,fun _ _ _ _ h=>absurd rfl h,fun _ _ _ h=>(by cases h),fun _ h=>absurd rfl h,rfl⟩;refine(h w M _ vs hM hG hL hLies).mono fun e w' ⟨v,z',he,⟨h1,h2,h3,h4,h5⟩,_,_,hal,hr⟩=> ?_;refine⟨v,he,⟨h1,h2,h3,h4,fun g hg=>h5 g hg fun⟨id,hh,_⟩=>hh rfl⟩, ?_⟩;have hk:Br w' (Ao M z' H') w' M:=⟨Nat.le_refl _,fun _ _ _=>rfl,fun _ _ hg=>.inl hg,hal.symm⟩;exact RelC.keep hk _ _ hr
end
def Ov(X:TP)(Γ:TC):Bx→Option (Σ r:Ty,Dyn (HS Γ) (D r))
 | .tmp t=>rdV Γ (.t t)
 | .cell a sz=>match rdK X.G Γ (.t a)with
  |some k=>match DE Γ [] sz (Df Γ [] k)with
   |some ⟨.v t,d⟩=>some ⟨t,d⟩
   |_=>none
  |none=>none
def SH(X:TP)(Γ:TC):List Bx→Option (Σ r:Ty,Dyn (HS Γ) (D r))
 | []=>some ⟨.nil,.tot fun _=>()⟩
 | [x]=>match Ov X Γ x with
  |some q=>some ⟨.one q.1,q.2⟩
  |none=>none
 |x::y::xs=>match Ov X Γ x,SH X Γ (y::xs)with
  |some q,some p=>some ⟨.cons q.1 p.1,q.2.both p.2⟩
  |_,_=>none
def Y6(X:TP)(Γ:TC):List Bx→Option (Σ t:Ty,Dyn (HS Γ) (D t))
 | [x]=>Ov X Γ x
 |xs=>match SH X Γ xs with
  |some q=>some ⟨.tup q.1,q.2⟩
  |none=>none
def rdE(X:TP)(rs:List Bx)(Rt:Ty)(Θ Γ:TC):Option (RdD Γ (D Rt×HS Θ)):=
 match Y6 X Γ rs,BT Γ Θ with
 |some q,some f=>match Bi q.1 Rt with
  |some g=>some ⟨D q.1,q.2,fun ρ v=>(g v,f ρ)⟩
  |none=>none
 |_,_=>none
section
variable {X:TP}
end
noncomputable def KI(X:TP)(a Rt:Ty)(m:AF):Option (D a→Option (D Rt)):=
 match den X (D Rt) (rdT X m.res Rt) m.code (D Rt) [] [] (GR a 0)with
 |some d=>some fun x=>d (J4 a 0 x) ⟨fun _=>kN m.res Rt,(),fun y=>some y⟩
 |none=>none
theorem W8{P:Program}{X:TP}{E:Env}(hE:EOk P E)(hT:TOk X E)(hF:BF X E)(hΘ:D3 X.Θ=.no){a Rt:Ty}{m:AF}{g:D a→Option (D Rt)}(h:KI X a Rt m=some g){f:FuncId}(hc:EB P f=some ⟨m.n,erase m.code,m.res⟩){k:Nat}(hl:Ba a=some k)(hk:k≤m.n)
  {x:D a} {l:List CV} {y:D Rt} (hx:Can a x l) (hy:g x=some y) (hv:(Rt.val&&Rt.ok)=true:=by rfl):Bs P f=true∧CallsTo P E.G f l (.val (enc Rt y)):=by
 simp only[Af]at hv;unfold KI at h;split at h<;>(try cases h;done);rename_i d hd;cases h;refine Wz hE hc (by rw[Ew hl hx];exact hk) (hΘ▸CI _ (fun e st hp=> ?_) (V9 hT hF (RP:=fun st v=>EX st m.res _ v) (fun h1 h2 _ h3=>Yv h1 h2 h3) m.code hd (WX hx) hy))
 cases e with
 |normal=>
  obtain⟨ρ,_,h2⟩:=hp;exact Xd h2 st
 |exit i=>
  obtain⟨Γi,s,ρ,h1,_⟩:=hp;cases h1
 |ret=>
  obtain⟨v,h1,h3⟩:=hp;cases h3;exact EX.of hv.1 h1
structure TB where
 G:Nat→List CV
 TT:Nat→Option Ty
 TM:Nat→Option (Ty×Ty)
 cp:FuncId→Bool:=fun _=>false
def C3:List (FuncId×Sig)→FuncId→Option Sig
 | [],_=>none
 |e::L,f=>if e.1=f then some e.2 else C3 L f
def IT:List (FuncId×BX)→FuncId→Option BX
 | [],_=>none
 |e::L,f=>if e.1=f then some e.2 else IT L f
def Ty.isNw:Ty→Bool
 | .nw _ _ _=>true
 |_=>false
def tp(B:TB)(L:List (FuncId×Sig))(LE:List (FuncId×BX)):TP where
 G:=B.G
 T:=fun f=>match C3 L f with
  |some s=>match s.r.isNw with
   |true=>none
   |false=>some s
  |none=>none
 TT:=B.TT
 TM:=B.TM
 cp:=B.cp
 TN:=fun f=>match C3 L f with
  |some s=>match s.r.isNw with
   |true=>some s
   |false=>none
  |none=>none
 TE:=fun f=>match C3 L f with
  |some _=>none
  |none=>IT LE f
theorem FX{B:TB}{L:List (FuncId×Sig)}{LE:List (FuncId×BX)}{f:FuncId}{s:Sig}:(tp B L LE).T f=some s↔C3 L f=some s∧s.r.isNw=false:=by
 show(match C3 L f with
  |some s=>match s.r.isNw with
   |true=>none
   |false=>some s
  |none=>none)=some s↔_
 cases h:C3 L f with
 |none=>simp
 |some s'=>cases h2:s'.r.isNw with
  |true=>
   simp only[h2,Ac];exact⟨fun e=>(by cases e),fun e=>by rw[e.1]at h2;rw[h2]at e;cases e.2⟩
  |false=>
   simp only[h2,Ac];exact⟨fun e=>⟨e,e▸h2⟩,fun e=>e.1⟩
theorem Ib{B:TB}{L:List (FuncId×Sig)}{LE:List (FuncId×BX)}{f:FuncId}{s:Sig}:(tp B L LE).TN f=some s↔C3 L f=some s∧s.r.isNw=true:=by
 show(match C3 L f with
  |some s=>match s.r.isNw with
   |true=>some s
   |false=>none
  |none=>none)=some s↔_
 cases h:C3 L f with
 |none=>simp
 |some s'=>cases h2:s'.r.isNw with
  |false=>
   simp only[h2,Ac];exact⟨fun e=>(by cases e),fun e=>by rw[e.1]at h2;rw[h2]at e;cases e.2⟩
  |true=>
   simp only[h2,Ac];exact⟨fun e=>⟨e,e▸h2⟩,fun e=>e.1⟩
theorem TI{B:TB}{L:List (FuncId×Sig)}{LE:List (FuncId×BX)}{f:FuncId}{s:BX}:(tp B L LE).TE f=some s↔C3 L f=none∧IT LE f=some s:=by
 show(match C3 L f with
  |some _=>none
  |none=>IT LE f)=some s↔_
 cases h:C3 L f with
 |none=>simp
 |some s'=>simp
open Classical in
noncomputable def EG(s:BX):Eff:=⟨AT s.Θ,fun l H=>if h:∃p:D s.a×HS s.Θ,Can s.a p.1 l∧Rep s.Θ p.2 {fr:=fun _=>.undef,ob:=H}then(s.fn (choose h).1 (choose h).2).map fun q=>(enc s.r q.1,DZ s.Θ q.2)else none⟩
theorem VP{s:BX}(ho:okΘ s.Θ=true){x:D s.a}{l:List CV}{θ:HS s.Θ}{H:Nat→Ob}{y:D s.r}{θ':HS s.Θ}(hx:Can s.a x l)(hr:Rep s.Θ θ {fr:=fun _=>.undef,ob:=H})(hy:s.fn x θ=some (y,θ')):(EG s).fn l H=some (enc s.r y,DZ s.Θ θ'):=by
 have hh:∃p:D s.a×HS s.Θ,Can s.a p.1 l∧Rep s.Θ p.2 {fr:=fun _=>.undef,ob:=H}:=⟨(x,θ),hx,hr⟩;have hc:=Classical.choose_spec hh;simp only[EG,dif_pos hh];rw[Can.uniq s.a hc.1 hx,Rep.uniq ho rfl hc.2 hr,hy];rfl
theorem VQ{s:BX}{l:List CV}{H:Nat→Ob}{r:CV}{H':Nat→Ob}(h:(EG s).fn l H=some (r,H')):∃x θ y θ',Can s.a x l∧Rep s.Θ θ {fr:=fun _=>.undef,ob:=H}∧s.fn x θ=some (y,θ')∧r=enc s.r y∧H'=DZ s.Θ θ':=by
 simp only[EG]at h;split at h<;>(try cases h;done);rename_i hh;obtain⟨⟨y,θ'⟩,h1,h2⟩:=Aa.1 h;cases h2;exact⟨_,_,y,θ',(Classical.choose_spec hh).1,(Classical.choose_spec hh).2,h1,rfl,rfl⟩
open Classical in
noncomputable def Dy(X:TP):Env:={G:=X.G,cp:=X.cp,ef:=fun f=>(X.TE f).map EG,fn:=fun f l=>match X.T f with
 |some s=>if h:∃x,Can s.a x l then(s.fn (choose h)).map fun y=>.val (enc s.r y)else none
 |none=>match X.TN f with
  |some ⟨a,.nw e size t,fn⟩=>if h:∃x,Can a x l then(fn (choose h)).map fun y=>.new (.arr e size (y.map (enc t)))else none
  |_=>none}
theorem Nd{X:TP}{f:FuncId}{s:Sig}(hs:X.T f=some s){x:D s.a}{l:List CV}{y:D s.r}(hx:Can s.a x l)(hy:s.fn x=some y):(Dy X).fn f l=some (.val (enc s.r y)):=by
 have hh:∃x,Can s.a x l:=⟨x,hx⟩;simp only[Dy,hs,dif_pos hh];rw[Can.uniq s.a (Classical.choose_spec hh) hx,hy];rfl
theorem Kk{X:TP}{f:FuncId}{a:Ty}{e size:Nat}{t:Ty}{fn:D a→Option (D (.nw e size t))}(h0:X.T f=none)(hs:X.TN f=some ⟨a,.nw e size t,fn⟩){x:D a}{l:List CV}{y:List (D t)}(hx:Can a x l)(hy:fn x=some y):(Dy X).fn f l=some (.new (.arr e size (y.map (enc t)))):=by
 have hh:∃x,Can a x l:=⟨x,hx⟩;simp only[Dy,h0,hs,dif_pos hh];rw[Can.uniq a (Classical.choose_spec hh) hx,hy];rfl
theorem Q8{X:TP}{f:FuncId}{l:List CV}{r:Res}(h:(Dy X).fn f l=some r):
  (∃s x y,X.T f=some s∧Can s.a x l∧s.fn x=some y∧r=.val (enc s.r y))∨
  (X.T f=none∧∃(a:Ty) (e size:Nat) (t:Ty) (fn:D a→Option (D (.nw e size t))) (x:D a) (y:List (D t)),X.TN f=some ⟨a,.nw e size t,fn⟩∧Can a x l∧fn x=some y∧r=.new (.arr e size (y.map (enc t)))):=by
 simp only[Dy]at h;split at h
 ·rename_i s hs;split at h<;>(try cases h;done);rename_i hh;obtain⟨y,h1,h2⟩:=Aa.1 h;exact .inl ⟨s,_,y,hs,Classical.choose_spec hh,h1,h2.symm⟩
 ·rename_i h0;split at h<;>(try cases h;done);rename_i a e size t fn hs;split at h<;>(try cases h;done);rename_i hh;obtain⟨y,h1,h2⟩:=Aa.1 h;exact .inr ⟨h0,a,e,size,t,fn,_,y,hs,Classical.choose_spec hh,h1,h2.symm⟩
structure Uj (P:Program) (G:Nat→List CV) (f:FuncId) (s:BX):Prop where
 rv:s.r.val=true
 rok:s.r.ok=true
 hi:((AT s.Θ).all fun N=>Nat.ble As N)=true
 ok:okΘ s.Θ=true
 body:Bs P ((DF f).getD f)=true
 calls:∀x l θ H y θ',Can s.a x l→Rep s.Θ θ {fr:=fun _=>.undef,ob:=H}→s.fn x θ=some (y,θ')→E7 P G f (AT s.Θ) l H (enc s.r y) (DZ s.Θ θ')
theorem E7.of{P:Program}{G:Nat→List CV}{f:FuncId}{T:List Nat}{l:List CV}{H H':Nat→Ob}{r:CV}(hb:Bs P f=true)(h:Fu P G f T l H r H'):E7 P G f T l H r H':=by
 unfold E7;rw[I9 hb];exact h
theorem E7.to{P:Program}{G:Nat→List CV}{f:FuncId}{T:List Nat}{l:List CV}{H H':Nat→Ob}{r:CV}(hb:Bs P f=true)(h:E7 P G f T l H r H'):Fu P G f T l H r H':=by
 unfold E7 at h;rw[I9 hb]at h;exact h
def El(P:Program)(G:Nat→List CV)(X:TP):Prop:=∀f s,X.TE f=some s→Uj P G f s
theorem El.ef{P:Program}{X:TP}(h:El P X.G X):Pb P (Dy X):=fun f e he=>by
 obtain⟨s,hs,rfl⟩:=Aa.1 he;have k:=h f s hs;refine⟨k.body,fun args H r H' hr=> ?_⟩;obtain⟨x,θ,y,θ',h1,h2,h3,rfl,rfl⟩:=VQ hr;exact k.calls x args θ H y θ' h1 h2 h3
theorem El.te{P:Program}{X:TP}(h:El P X.G X):BF X (Dy X):=fun f s hs=>by
 have k:=h f s hs;have e:(Dy X).ef f=some (EG s):=by show(X.TE f).map EG=_;rw[hs];rfl
 exact⟨⟨k.rv,k.hi⟩,k.rok,EG s,e,rfl,fun x l θ H y θ' hx hr hy=>VP k.ok hx hr hy⟩
structure GoodT (P:Program) (B:TB) (L:List (FuncId×Sig)) (LE:List (FuncId×BX)):Prop where
 E:EOk P (Dy (tp B L LE))
 T:TOk (tp B L LE) (Dy (tp B L LE))
 F:El P B.G (tp B L LE)
theorem GoodT.TE{P:Program}{B:TB}{L:List (FuncId×Sig)}{LE:List (FuncId×BX)}(h:GoodT P B L LE):BF (tp B L LE) (Dy (tp B L LE)):=El.te (X:=tp B L LE) h.F
theorem TJ{B:TB}{L:List (FuncId×Sig)}{LE:List (FuncId×BX)}(f:FuncId)(h:((tp B L LE).T f).isSome=true∨((tp B L LE).TN f).isSome=true):(Dy (tp B L LE)).ef f=none:=by
 have:∃s,C3 L f=some s:=by
  rcases h with h|h<;>obtain⟨s,hs⟩:=Option.isSome_iff_exists.1 h
  ·exact⟨s,(FX.1 hs).1⟩
  ·exact⟨s,(Ib.1 hs).1⟩
 obtain⟨s,hs⟩:=this
 show((match C3 L f with
  |some _=>none
  |none=>IT LE f):Option BX).map EG=none
 rw[hs];rfl
theorem El.hiE{P:Program}{G:Nat→List CV}{X:TP}(h:El P G X):HiE (Dy X):=by
 intro f e he;have he:(X.TE f).map EG=some e:=he;obtain⟨s,hs,rfl⟩:=Aa.1 he;exact(h f s hs).hi
theorem GoodT.nil(P:Program)(B:TB)(hcp:Pa P B.cp:=by intro f h;cases h):GoodT P B [] []:=by
 refine⟨⟨fun f l r h=> ?_,hcp,fun f e h=>by cases h⟩,⟨rfl,rfl,fun f s h=> ?_,fun f h=>TJ f h,fun f a e size t fn h=> ?_,El.hiE (P:=P) (G:=B.G) (X:=tp B [] []) fun f s h=>by cases h⟩,fun f s h=>by cases h⟩
 ·rcases Q8 h with⟨s,x,y,h1,_⟩|⟨_,_,_,_,_,_,_,_,h1,_⟩<;>cases h1
 ·cases h
 ·cases h
def GV(P:Program)(G:Nat→List CV)(f:FuncId):Sig→Prop
 |⟨a,.nw e size t,fn⟩=>(t.val&&t.ok)=true∧∀x l (y:List (D t)),Can a x l→fn x=some y→Bs P f=true∧CallsTo P G f l (.new (.arr e size (y.map (enc t))))
 |s=>(s.r.val&&s.r.ok)=true∧∀x l y,Can s.a x l→s.fn x=some y→Bs P f=true∧CallsTo P G f l (.val (enc s.r y))
theorem GV.val{P:Program}{G:Nat→List CV}{f:FuncId}{s:Sig}(h:GV P G f s)(hn:s.r.isNw=false):(s.r.val&&s.r.ok)=true∧∀x l y,Can s.a x l→s.fn x=some y→Bs P f=true∧CallsTo P G f l (.val (enc s.r y)):=by
 obtain⟨a,r,fn⟩:=s;cases r<;>first|exact h|cases hn
theorem GV.mk{P:Program}{G:Nat→List CV}{f:FuncId}{s:Sig}(hv:(s.r.val&&s.r.ok)=true)(h:∀x l y,Can s.a x l→s.fn x=some y→Bs P f=true∧CallsTo P G f l (.val (enc s.r y))):GV P G f s:=by
 obtain⟨a,r,fn⟩:=s;cases r<;>first|exact⟨hv,h⟩|cases hv
theorem Ap.encs{t:Ty}(hv:t.val=true)(ho:t.ok=true):∀(ys:List (D t)),Ap (fun x c=>Can t x [c]) ys (ys.map (enc t))
 | []=>rfl
 |y::ys=>⟨_,_,rfl,Can.enc y hv ho,Ap.encs hv ho ys⟩
theorem KO{B:TB}{L:List (FuncId×Sig)}{LE:List (FuncId×BX)}{f:FuncId}{s:Sig}(h:(tp B L LE).TN f=some s):(tp B L LE).T f=none:=by
 obtain⟨h1,h2⟩:=Ib.1 h
 cases hT:(tp B L LE).T f with
 |none=>rfl
 |some s'=>
  obtain⟨h3,h4⟩:=FX.1 hT;rw[h1]at h3;cases h3;rw[h2]at h4;cases h4
theorem GoodT.addS{P:Program}{B:TB}{L:List (FuncId×Sig)}{LE:List (FuncId×BX)}(h:GoodT P B L LE)(f:FuncId)(s:Sig)(hs:GV P B.G f s):GoodT P B ((f,s)::L) LE:=by
 have key:∀g s',C3 ((f,s)::L) g=some s'→(g=f∧s'=s)∨C3 L g=some s':=fun g s' hg=>by
  unfold C3 at hg;by_cases e:f=g
  ·simp only[e,if_true,Ac]at hg;exact .inl ⟨e.symm,hg.symm⟩
  ·simp only[e,if_false]at hg;exact .inr hg
 have hF:El P B.G (tp B ((f,s)::L) LE):=fun g s' hs'=>by
  obtain⟨h1,h2⟩:=TI.1 hs';refine h.F g s' (TI.2 ⟨?_,h2⟩);unfold C3 at h1;split at h1
  ·cases h1
  ·exact h1
 refine⟨⟨fun g l r hr=> ?_,h.E.cp,El.ef (X:=tp B ((f,s)::L) LE) hF⟩,⟨rfl,rfl,fun g s' hs'=> ?_,fun f h=>TJ f h,fun g a e size t fn hs'=> ?_,hF.hiE⟩,hF⟩
 ·rcases Q8 hr with⟨s',x,y,h1,h2,h3,rfl⟩|⟨h0,a,e,size,t,fn,x,y,h1,h2,h3,rfl⟩
  ·obtain⟨g1,g2⟩:=FX.1 h1;rcases key g s' g1 with⟨rfl,rfl⟩|g3
   ·exact(hs.val g2).2 x l y h2 h3
   ·exact h.E.1 g l _ (Nd (X:=tp B L LE) (FX.2 ⟨g3,g2⟩) h2 h3)
  ·obtain⟨g1,g2⟩:=Ib.1 h1;rcases key g _ g1 with⟨rfl,e1⟩|g3
   ·subst e1;exact hs.2 x l y h2 h3
   ·have h4:(tp B L LE).TN g=some ⟨a,.nw e size t,fn⟩:=Ib.2 ⟨g3,g2⟩;exact h.E.1 g l _ (Kk (X:=tp B L LE) (KO h4) h4 h2 h3)
 ·obtain⟨g1,g2⟩:=FX.1 hs'
  refine⟨?_, ?_,fun x l y hx hy=>Nd hs' hx hy⟩<;>
  ·rcases key g s' g1 with⟨rfl,rfl⟩|g3
   ·have:=(hs.val g2).1;simp only[Af]at this;first|exact this.1|exact this.2
   ·first|exact(h.T.fn g s' (FX.2 ⟨g3,g2⟩)).1|exact(h.T.fn g s' (FX.2 ⟨g3,g2⟩)).2.1
 ·obtain⟨g1,g2⟩:=Ib.1 hs';rcases key g _ g1 with⟨rfl,e1⟩|g3
  ·subst e1;have hto:=hs.1;simp only[Af]at hto;exact⟨hto.1,fun x l ys hx hy=>⟨_,Kk (KO hs') hs' hx hy,Ap.encs hto.1 hto.2 ys⟩⟩
  ·have h4:(tp B L LE).TN g=some ⟨a,.nw e size t,fn⟩:=Ib.2 ⟨g3,g2⟩;obtain⟨k1,k2⟩:=h.T.nw g a e size t fn h4;refine⟨k1,fun x l ys hx hy=>⟨_,Kk (KO hs') hs' hx hy, ?_⟩⟩;obtain⟨es,k3,k4⟩:=k2 x l ys hx hy;have k5:=Kk (X:=tp B L LE) (KO h4) h4 hx hy;rw[k5]at k3;cases k3;exact k4
theorem GoodT.addM{P:Program}{B:TB}{L:List (FuncId×Sig)}{LE:List (FuncId×BX)}(h:GoodT P B L LE)(f:FuncId)(s:Sig)(hv:(s.r.val&&s.r.ok)=true)(hf:∀x l y,Can s.a x l→s.fn x=some y→Bs P f=true∧CallsTo P B.G f l (.val (enc s.r y))):GoodT P B ((f,s)::L) LE:=
 h.addS f s (GV.mk hv hf)
theorem GoodT.add{P:Program}{B:TB}{L:List (FuncId×Sig)}{LE:List (FuncId×BX)}(h:GoodT P B L LE)(f:FuncId)(s:Sig)(m:AF)(hc:EB P f=some ⟨m.n,erase m.code,m.res⟩)(hg:KI (tp B L LE) s.a s.r m=some s.fn){k:Nat}(hl:Ba s.a=some k)(hk:Nat.ble k m.n=true)(hv:(s.r.val&&s.r.ok)=true):GoodT P B ((f,s)::L) LE:=
 h.addM f s hv fun _ _ _ hx hy=>W8 h.E h.T h.TE rfl hg hc hl (Ah hk) hx hy hv
theorem GoodT.call{P:Program}{B:TB}{L:List (FuncId×Sig)}{LE:List (FuncId×BX)}(h:GoodT P B L LE){f:FuncId}{s:Sig}(hs:C3 L f=some s){x:D s.a}{l:List CV}{y:D s.r}(hx:Can s.a x l)(hy:s.fn x=some y)(hn:s.r.isNw=false:=by rfl):CallsTo P B.G f l (.val (enc s.r y)):=
 (h.E.1 f l _ (Nd (X:=tp B L LE) (FX.2 ⟨hs,hn⟩) hx hy)).2
def m(i j:Nat):SL:=⟨some i,.mov (.t j),none⟩
def l'(i:Nat)(o:SOp):SL:=⟨some i,o,none⟩
def fo(i:Nat)(off x:Nat):SL:=⟨some i,.faddr off (.t x),none⟩
def st'(a x:Nat):SL:=⟨none,.store 1 (.t a) (.t x),none⟩
def ex(i x j:Nat):SL:=⟨some i,.ext (.t x) j,none⟩
def rf(l:List SL):AC:=.reg false [] l
def rs(l:List SL):Cc:=.reg false [] l
def K(k:IntKind)(n:Int):SO:=.k (.int k n)
def sS(i:Nat):Key×EK:=(.s i,.v .str)
def sI(i:Nat):Key×EK:=(.s i,.v (.int .i64))
def sB(i:Nat):Key×EK:=(.s i,.v .bool)
def cI(i j:Nat):Key×EK:=(.c i j,.v (.int .i64))
inductive Hn where
 |s (Γ:TC)
 |j (Γ:TC) (ex:List Nat) (rt:Bool)
 |l (Γ:TC) (ex:List Nat) (rt:Bool)
 |g (g:Gh)
 |r
 |e
 |t (gs:List (Nat×Gh))
 |x (h:HT)
 |m (Γ:TC) (ex:List Nat) (rt:Bool)
 |a (gs:List Gh)
abbrev HL:=List (Nat×Hn)
def IA(i:Nat):List SL→List (Nat×Gh)→List GL
 | [],gs=>gs.map fun g=>.g g.2
 |l::ls,gs=>let p:=gs.span fun g=>Nat.beq g.1 i;p.1.map (fun g=>.g g.2)++ .l l::IA (i+1) ls p.2
theorem R8(gs:List (Nat×Gh))(r:List GL):Ey (gs.map (fun g=>.g g.2)++r)=Ey r:=by
 induction gs with
 |nil=>rfl
 |cons g gs ih=>simp[Ey,ih]
theorem Xu(ls:List SL):∀i gs,Ey (IA i ls gs)=ls:=by
 induction ls with
 |nil=>intro i gs;unfold IA;simpa[Ey]using R8 gs []
 |cons l ls ih=>intro i gs;unfold IA;simp only;rw[R8];simp[Ey,ih]
def hnG(k:Nat):HL→List Gh×HL
 |(n,.g g)::hs=>cond (Nat.beq n k) (let p:=hnG k hs;(g::p.1,p.2)) ([],(n,.g g)::hs)
 |hs=>([],hs)
def hnO(k:Nat):HL→Option Hn×HL
 |(n,h)::hs=>cond (Nat.beq n k) (some h,hs) (none,(n,h)::hs)
 | []=>(none,[])
def wrG:List Gh→AC→AC
 | [],c=>c
 |g::gs,c=>.gh g (wrG gs c)
theorem I0(gs:List Gh)(c:AC):erase (wrG gs c)=erase c:=by
 induction gs with
 |nil=>rfl
 |cons g gs ih=>simpa[wrG,erase]using ih
def sqH(o:Option Hn)(a b:AC):AC:=
 match o with
 |some (.s Γ)=>.seq Γ a b
 |some (.j Γ ex rt)=>.join Γ ex rt a b
 |_=>.sq a b
def rgH(o:Option Hn)(draw:Bool)(D:List Nat)(ls:List SL):AC:=
 match o,draw with
 |some (.t gs),false=>.rg D (IA 0 ls gs)
 |some (.x h),d=>.rgt d D ls h
 |some (.a gs),true=>.rga D ls gs
 |_,_=>.reg draw D ls
def reH(o:Option Hn)(D:List Nat)(ls:List SL):AC:=
 match o with
 |some .e=>.regE true D ls
 |_=>.regE false D ls
def mlH(Γ:TC)(ex:List Nat)(rt:Bool)(b:AC):AC:=
 match b with
 | .sq (.raw (.mnext it d ok)) (.sq (.cond (.t ok') .skip (.exit i)) c)=>cond (Nat.beq ok' ok) (.mloop Γ ex rt it d ok i c) (.loop [] [] false b)
 |_=>.loop [] [] false b
def loH(o:Option Hn)(b:AC):AC:=
 match o with
 |some (.l Γ ex rt)=>.loop Γ ex rt b
 |some (.m Γ ex rt)=>mlH Γ ex rt b
 |_=>.loop [] [] false b
def isR:Option Hn→Bool
 |some .r=>true
 |_=>false
def ann:Cc→Nat→HL→AC×Nat×HL
 | .skip,k,hs=>let p:=hnG k hs;let q:=hnO k p.2;(wrG p.1 (cond (isR q.1) (.raw .skip) .skip),k+1,q.2)
 | .ret,k,hs=>let p:=hnG k hs;let q:=hnO k p.2;(wrG p.1 (cond (isR q.1) (.raw .ret) .ret),k+1,q.2)
 | .exit i,k,hs=>let p:=hnG k hs;let q:=hnO k p.2;(wrG p.1 (cond (isR q.1) (.raw (.exit i)) (.exit i)),k+1,q.2)
 | .bad,k,hs=>let p:=hnG k hs;let q:=hnO k p.2;(wrG p.1 (.raw .bad),k+1,q.2)
 | .mnext it d ok,k,hs=>let p:=hnG k hs;let q:=hnO k p.2;(wrG p.1 (.raw (.mnext it d ok)),k+1,q.2)
 | .reg d D ls,k,hs=>let p:=hnG k hs;let q:=hnO k p.2;(wrG p.1 (cond (isR q.1) (.raw (.reg d D ls)) (rgH q.1 d D ls)),k+1,q.2)
 | .regE D ls,k,hs=>let p:=hnG k hs;let q:=hnO k p.2;(wrG p.1 (cond (isR q.1) (.raw (.regE D ls)) (reH q.1 D ls)),k+1,q.2)
 | .seq a b,k,hs=>let p:=hnG k hs;let q:=hnO k p.2
  match isR q.1 with
  |true=>(wrG p.1 (.raw (.seq a b)),k+1,q.2)
  |false=>let x:=ann a (k+1) q.2;let y:=ann b x.2.1 x.2.2;(wrG p.1 (sqH q.1 x.1 y.1),y.2)
 | .cond c a b,k,hs=>let p:=hnG k hs;let q:=hnO k p.2
  match isR q.1 with
  |true=>(wrG p.1 (.raw (.cond c a b)),k+1,q.2)
  |false=>let x:=ann a (k+1) q.2;let y:=ann b x.2.1 x.2.2;(wrG p.1 (.cond c x.1 y.1),y.2)
 | .block i a,k,hs=>let p:=hnG k hs;let q:=hnO k p.2
  match isR q.1 with
  |true=>(wrG p.1 (.raw (.block i a)),k+1,q.2)
  |false=>let x:=ann a (k+1) q.2;(wrG p.1 (.block i x.1),x.2)
 | .loop a,k,hs=>let p:=hnG k hs;let q:=hnO k p.2
  match isR q.1 with
  |true=>(wrG p.1 (.raw (.loop a)),k+1,q.2)
  |false=>let x:=ann a (k+1) q.2;(wrG p.1 (loH q.1 x.1),x.2)
theorem Wl(o:Option Hn)(a b:AC):erase (sqH o a b)=.seq (erase a) (erase b):=by
 unfold sqH;split<;>rfl
theorem Wk(o:Option Hn)(d:Bool)(D:List Nat)(ls:List SL):erase (rgH o d D ls)=.reg d D ls:=by
 unfold rgH;split<;>simp[erase,Xu]
theorem Wj(o:Option Hn)(D:List Nat)(ls:List SL):erase (reH o D ls)=.regE D ls:=by
 unfold reH;split<;>rfl
theorem Wi(Γ:TC)(ex:List Nat)(rt:Bool)(b:AC):erase (mlH Γ ex rt b)=.loop (erase b):=by
 unfold mlH;split
 ·rename_i it d ok ok' i c
  cases hc:Nat.beq ok' ok with
  |false=>rfl
  |true=>
   have:=Nat.eq_of_beq_eq_true hc;subst this;rfl
 ·rfl
theorem Wh(o:Option Hn)(a:AC):erase (loH o a)=.loop (erase a):=by
 unfold loH;split
 ·rfl
 ·exact Wi ..
 ·rfl
theorem Wf(c:Cc):∀k hs,erase (ann c k hs).1=c:=by
 induction c with
 |seq a b iha ihb|cond c a b iha ihb=>intro k hs;simp only[ann];split<;>simp[I0,Wl,erase,iha,ihb]
 |block i a iha|loop a iha=>intro k hs;simp only[ann];split<;>simp[I0,Wh,erase,iha]
 |bad=>intro k hs;simp[ann,I0,erase]
 |mnext it d ok=>intro k hs;simp[ann,I0,erase]
 |_=>intro k hs;simp only[ann,I0];cases isR (hnO k (hnG k hs).2).1<;>simp[erase,Wk,Wj]
def mdl(P:Program)(f:FuncId)(hs:HL):AF:=
 match EB P f with
 |some m=>⟨m.n,(ann m.code 0 hs).1,m.res⟩
 |none=>⟨0,.ret,[]⟩
def tst(P:Program)(f:FuncId)(a:Ty):Bool:=
 match EB P f,Ba a with
 |some m,some k=>Nat.ble k m.n
 |_,_=>false
theorem ZE{P:Program}{f:FuncId}{a:Ty}(hs:HL)(h:tst P f a=true):∃k,Ba a=some k∧Nat.ble k (mdl P f hs).n=true∧EB P f=some ⟨(mdl P f hs).n,erase (mdl P f hs).code,(mdl P f hs).res⟩:=by
 unfold tst at h;split at h
 ·rename_i m k h1 h2;refine⟨k,h2, ?_, ?_⟩<;>simp[mdl,h1,h,Wf]
 ·cases h
theorem GoodT.hT{P:Program}{B:TB}{L:List (FuncId×Sig)}{LE:List (FuncId×BX)}(h:GoodT P B L LE){f:FuncId}{s:Sig}(hs:HL)(hv:(s.r.val&&s.r.ok)=true)(hc:tst P f s.a=true)(hg:KI (tp B L LE) s.a s.r (mdl P f hs)=some s.fn):GoodT P B ((f,s)::L) LE:=by
 obtain⟨k,h1,h2,h3⟩:=ZE hs hc;exact h.add f s _ h3 hg h1 h2 hv
theorem SF{w:World}{M:MM}{x:D (.cons .str (.one .str))}{l:List CV}{vs:List Value}(hx:Can (.cons .str (.one .str)) x l)(hL:RelL w M l vs):vs= [.string ⟨⟨x.1⟩⟩,.string ⟨⟨x.2⟩⟩]:=by
 obtain⟨s,b⟩:=x;unfold Can at hx;obtain⟨c1,l',rfl,h2,h3⟩:=hx;unfold Can at h2 h3;obtain⟨c',rfl,h3⟩:=h3;unfold Can at h3;cases h2;cases h3;unfold RelL RelC at hL;obtain⟨v,vs',rfl,rfl,hL⟩:=hL;unfold RelL RelC at hL;obtain⟨v,vs',rfl,rfl,hL⟩:=hL;unfold RelL at hL;subst hL;rfl
def Fg:List UInt8×List UInt8→Option Int:=fun x=>match x.2 with
 | [c]=>some (Lib.indexByte x.1 c)
 |_=>none
theorem WY{P:Program}{B:TB}{f:Nat}(hb:Bs P f=true)
  (hc:∀(s:ByteArray) (c:UInt8) (w:World),Calls P f #[.string s,.string ⟨#[c]⟩] w fun e w'=>e=.returned (.int .i64 (Lib.indexByte s.data.toList c))∧w'=w)
  {x:D (.cons .str (.one .str))} {l:List CV} {y:D (.int .i64)} (hx:Can (.cons .str (.one .str)) x l) (hy:Fg x=some y):Bs P f=true∧CallsTo P B.G f l (.val (enc (.int .i64) y)):=by
 refine⟨hb,fun w M vs hM hGk hL=> ?_⟩;rw[SF hx hL];obtain⟨s,b⟩:=x;simp only[Fg]at hy;split at hy<;>(try cases hy;done);rename_i c;cases hy;refine(hc ⟨⟨s⟩⟩ c w).mono fun e w' he=> ?_;obtain⟨rfl,rfl⟩:=he;refine⟨_,rfl,Below.refl _ _, ?_⟩;simp[Gf,enc,AU,RelC]
def Ur(w:World)(g:Nat)(vs:List Value):Prop:=∃t fr,w.heap[g]? =some (.cells ⟨vs⟩ t fr)
theorem GOk.one{w:World}{g:Nat}{cvs:List CV}{vs:List Value}(h:Ur w g vs)(hr:RelL w noM cvs vs)(hn:noNamL (fun _=>false) cvs=true):
  RelC w noM (.rp cvs) (.pointer (some ⟨g,0,none⟩))∧∃cs t fr,w.heap[g]? =some (.cells cs t fr)∧cs.size=cvs.length∧noNamL (fun _=>false) cvs=true:=by
 obtain⟨t,fr,hh⟩:=h;refine⟨?_,⟨vs⟩,t,fr,hh,by simp[hr.length],hn⟩;unfold RelC;refine⟨⟨g,0,none⟩,vs,rfl,heap_lt hh,fun hh=>hh,hr,fun j u hu=> ?_⟩
 have e2:(({block:=g,off:=0,spot:=none}:Addr).add j)={block:=g,off:=j,spot:=none}:=by
  unfold Addr.add;by_cases h0:j=0<;>simp[h0]
 rw[e2];simp only[World.cell?,hh];simpa using hu
end WB
namespace WB
open Go Go.RowKit Go.Maps
open Go.WideElems (Fit rd rg)
open Go.MapKept (Stamped)
open Go.WideMaps (keyOf_string_mk)
def Fm(v:Value):Option (DataW Value×List MemPlace):=some (.held v,[])
end WB
