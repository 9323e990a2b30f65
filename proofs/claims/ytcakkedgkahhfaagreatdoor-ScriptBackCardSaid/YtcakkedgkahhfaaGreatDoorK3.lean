/-
  OWN TEXTS, MERGED (wip/merge.py): CoreWe, CoreWc, CoreWf, CoreWg, CoreWh, CoreWp, CoreX, CoreY, CoreZ, CoreZa, CoreYb, CoreZr, CoreTa. No condition of their own.
-/
import Derived.Test.YtcakkedgkahhfaaGreatDoorK2
import Derived.Deep.LoopGhost
import Derived.IntWalk
import Derived.Deep.Slices
import Derived.Deep.Fields
import Derived.ChangeSame
import Derived.ChangeShapes
import Derived.ProofKit
import Derived.OpenShut
set_option linter.unusedVariables false
set_option linter.unusedSimpArgs false
open Go.IntKind (i64 u64 u8 u32)
namespace WB
open Go Go.RowKit
def SL.own(A:List Nat)(l:SL):Option Nat:=
 match l.op,l.guard with
 | .store _ (.t a) _,none=>if A.contains a then some a else none
 |_,_=>none
def GG(ls:List SL):List Nat:=
 (ls.filterMap fun l=>match l.op,l.guard,l.dst with| .alloc _,none,some d=>some d|_,_,_=>none).filter fun d=>(ls.filter fun l=>l.dst==some d).length==1
def Mq(m:List Nat)(l:SL):List Nat:=
 match l.op,l.guard,l.dst with
 | .alloc _,none,some d=>d::m
 |_,_,some d=>m.filter fun i=>i !=d
 |_,_,none=>m
def GP(A:List Nat):List Nat→List SL→Bool
 |_,[]=>true
 |m,l::ls=>(match l.own A with|some a=>m.contains a|none=>true)&&GP A (Mq m l) ls
def Cs(A D:List Nat)(x y:SL):Bool:=
 Fj D x y||((x.dst.all fun d=> !y.looks.contains d&&y.dst !=some d)&&(y.dst.all fun d=> !x.looks.contains d)&&
  match x.own A,y.own A with
  |some a,some b=>a !=b
  |some a,none=> !y.op.hard&&(hid y.op D).contains a
  |none,some b=> !x.op.hard&&(hid x.op D).contains b
  |none,none=>false)
def okS(A:List Nat)(l:SL)(st:St):Bool:=
 match l.own A with
 |some a=>match st.fr a with
  | .ptr j _=>j==a
  |_=>false
 |none=>true
section
variable {E:Env} {A D:List Nat}
def evT(E:Env)(A D:List Nat)(l:SL)(st:St):Option St:=if okS A l st=true then AS E (some D) l st else none
theorem Fh{l:SL}{st s:St}(h:evT E A D l st=some s):okS A l st=true∧AS E (some D) l st=some s:=by
 unfold evT at h;split at h
 ·rename_i h1;exact⟨h1,h⟩
 ·cases h
theorem E6{l:SL}{st s:St}(h1:okS A l st=true)(h2:AS E (some D) l st=some s):evT E A D l st=some s:=by
 unfold evT;rw[if_pos h1,h2]
theorem Fs{l:SL}{a:Nat}(h:l.own A=some a):∃n x,l.op=.store n (.t a) x∧l.guard=none:=by
 unfold SL.own at h;split at h
 ·rename_i n a' x h1 h2;split at h
  ·cases h;exact⟨n,x,h1,h2⟩
  ·cases h
 ·cases h
theorem M5{l:SL}{a:Nat}(h:l.own A=some a):a∈l.looks:=by
 obtain⟨n,x,h1,h2⟩:=Fs h;simp[SL.looks,h1,SOp.slots,SO.slot]
theorem JT{l:SL}(h:l.op.hard=false):l.own A=none:=by
 cases hl:l.own A with
 |none=>rfl
 |some a=>
  obtain⟨n,x,h1,h2⟩:=Fs hl;rw[h1]at h;cases h
theorem Uz{l:SL}{st st':St}(h:∀a,l.own A=some a→st'.fr a=st.fr a)(ho:okS A l st=true):okS A l st'=true:=by
 unfold okS at ho⊢
 cases hl:l.own A with
 |none=>rfl
 |some a=>
  rw[hl]at ho;simp only[h a hl]at ho⊢;exact ho
theorem MT{l:SL}{st s:St}(hs:l.op.hard=false)(h:AS E (some D) l st=some s){i:Nat}(hi:l.dst≠some i):s.fr i=st.fr i:=by
 rw[Cq hs,Ab]at h;obtain⟨p,_,h⟩:=h;exact DI h hi
def Dx(n o:Nat)(ob:Ob)(v:SV):Option Ob:=
 match ob with
 | .box cs=>match v with
  | .c (.agg l)=>if l.length=n∧o+n≤cs.length∧l.all Cv=true then some (.box (EN cs o (l.map .c)))else none
  |v=>if n=1∧o<cs.length∧FV v=true then some (.box (cs.set o v))else none
 |_=>none
theorem Vr{n o:Nat}{ob ob':Ob}{v:SV}(h:Dx n o ob v=some ob'):ob≠ .none∧ob'≠ .none:=by
 unfold Dx at h;split at h
 ·refine⟨by simp, ?_⟩
  split at h<;>split at h<;>first
   |cases h;done
   |(cases h;simp)
 ·cases h
theorem JR{l:SL}{a:Nat}(h:l.own A=some a):∃n x,(∀i∈x.slot,i∈l.looks)∧∀(st s:St),evT E A D l st=some s↔∃o b,st.fr a=.ptr a o∧Dx n o (st.ob a) (so E.G st.fr x)=some b∧s={st with ob:=upd st.ob a b}:=by
 obtain⟨n,x,h1,h2⟩:=Fs h;refine⟨n,x,fun i hi=>by simp[SL.looks,h1,SOp.slots,hi],fun st s=> ?_⟩
 have hev:∀o,st.fr a=.ptr a o→AS E (some D) l st=(Dx n o (st.ob a) (so E.G st.fr x)).map fun b=>{st with ob:=upd st.ob a b}:=by
  intro o ho;simp only[AS,h2,h1,AB,SOp.cls,AW,EU];rw[show so E.G st.fr (.t a)=.ptr a o from ho];simp only[Dx,deref];cases hb:st.ob a<;>simp only[hb]<;>try rfl
  generalize so E.G st.fr x=v
  cases v with
  |c cv=>cases cv<;>(simp only;split<;>rfl)
  |_=>simp only;split<;>rfl
 constructor
 ·intro h3;obtain⟨h4,h5⟩:=Fh h3;unfold okS at h4;rw[h]at h4;simp only at h4;split at h4
  ·rename_i j o hj;have hja:j=a:=by simpa using h4
   subst hja;rw[hev o hj,Aa]at h5;obtain⟨b,h6,h7⟩:=h5;exact⟨o,b,hj,h6,h7.symm⟩
  ·cases h4
 ·rintro⟨o,b,h3,h4,rfl⟩
  refine E6 ?_ ?_
  ·unfold okS;rw[h];simp[h3]
  ·rw[hev o h3,h4];rfl
theorem Pk{L:List Nat}{ob:Nat→Ob}{a:Nat}{b:Ob}(h:L.contains a=true):AQ (some L) (upd ob a b)=AQ (some L) ob:=by
 funext i;simp only[AQ,BZ];split
 ·rfl
 ·rename_i hi;split
  ·rename_i e;subst e;exact(hi h).elim
  ·rfl
theorem PU{st s:St}{d:Option Nat}{p:SV×Option Ob}(h:put st d p=some s){a:Nat}(ha:d≠some a):s.ob a=st.ob a:=by
 obtain⟨v,o⟩:=p
 cases o with
 |none=>
  simp only[put,Ac]at h;subst h;cases d<;>rfl
 |some o=>
  simp only[put,BA]at h
  cases d with
  |none=>cases h
  |some d=>
   simp only at h;split at h<;>(try cases h;done);cases h;exact Ay _ _ (fun e=>ha (by rw[e]))
theorem PV{st s:St}{d:Option Nat}{p:SV×Option Ob}{a:Nat}{b:Ob}(hd:d≠some a):put st d p=some s→put {st with ob:=upd st.ob a b} d p=some {s with ob:=upd s.ob a b}:=by
 intro h;obtain⟨v,o⟩:=p
 cases o with
 |none=>
  simp only[put,Ac]at h⊢;subst h;cases d<;>rfl
 |some o=>
  simp only[put,BA]at h⊢
  cases d with
  |none=>cases h
  |some j=>
   have hj:j≠a:=fun e=>hd (by rw[e]);simp only at h;split at h<;>(try cases h;done);rename_i hn;cases h;simp only[Ay _ _ hj,hn,Ac,St.mk.injEq,true_and];exact Ev _ _ _ (Ne.symm hj)
theorem UO{st s:St}{d:Option Nat}{p:SV×Option Ob}{a:Nat}{b:Ob}(ha:st.ob a≠ .none)(h:put {st with ob:=upd st.ob a b} d p=some s)(hd:d≠some a):∃s',put st d p=some s':=by
 obtain⟨v,o⟩:=p
 cases o with
 |none=>exact⟨_,rfl⟩
 |some o=>
  simp only[put,BA]at h⊢
  cases d with
  |none=>cases h
  |some j=>
   have hj:j≠a:=fun e=>hd (by rw[e]);simp only[Ay _ _ hj]at h;simp only;split at h<;>(try cases h;done);rename_i hn;exact⟨{fr:=upd st.fr j v,ob:=upd st.ob j o},by simp[hn]⟩
theorem VH{a b:SL}{st s1 s2:St}
  (hab:∀i,a.dst=some i→i∉b.looks∧b.dst≠some i) (hba:∀i,b.dst=some i→i∉a.looks)
  (ho:(match a.own A,b.own A with
  |some a,some b=>a !=b
  |some k,none=> !b.op.hard&&(hid b.op D).contains k
  |none,some k=> !a.op.hard&&(hid a.op D).contains k
  |none,none=>false)=true) (h1:evT E A D a st=some s1) (h2:evT E A D b s1=some s2):∃s,evT E A D b st=some s∧evT E A D a s=some s2:=by
 cases hoa:a.own A with
 |some k=>
  cases hob:b.own A with
  |some k'=>
   rw[hoa,hob]at ho;have hk:k≠k':=by simpa using ho
   obtain⟨n,x,hx,ea⟩:=JR (E:=E) (D:=D) hoa;obtain⟨n',x',hx',eb⟩:=JR (E:=E) (D:=D) hob;rw[ea]at h1;obtain⟨o,c,q1,q2,rfl⟩:=h1;rw[eb]at h2;obtain⟨o',c',q3,q4,rfl⟩:=h2;simp only[Ay _ _ (Ne.symm hk)]at q4;refine⟨_,(eb _ _).2 ⟨o',c',q3,q4,rfl⟩,(ea _ _).2 ⟨o,c,q1, ?_, ?_⟩⟩
   ·simp only[Ay _ _ hk];exact q2
   ·simp only[St.mk.injEq,true_and];exact Ev _ _ _ hk
  |none=>
   rw[hoa,hob]at ho;simp only[Af,Bool.not_eq_true']at ho;obtain⟨hbs,hk⟩:=ho;obtain⟨n,x,hx,ea⟩:=JR (E:=E) (D:=D) hoa;rw[ea]at h1;obtain⟨o,c,q1,q2,rfl⟩:=h1;obtain⟨_,h2⟩:=Fh h2;rw[Cq hbs,Ab]at h2;obtain⟨p,e2,h2⟩:=h2;simp only[Pk hk]at e2;have hd:b.dst≠some k:=fun e=>hba k e (M5 hoa);obtain⟨s',h3⟩:=UO (Vr q2).1 h2 hd;have h4:=PV (b:=c) hd h3;rw[h4]at h2;cases h2;refine⟨s',E6 (by unfold okS;rw[JT hbs]) (by rw[Cq hbs,e2];exact h3),(ea _ _).2 ⟨o,c, ?_, ?_,rfl⟩⟩
   ·rw[DI h3 hd];exact q1
   ·rw[PU h3 hd,Fz x (fr':=st.fr) (fun i hi=>DI h3 (fun e=>hba i e (hx i hi)))];exact q2
 |none=>
  cases hob:b.own A with
  |none=>rw[hoa,hob]at ho;cases ho
  |some k=>
   rw[hoa,hob]at ho;simp only[Af,Bool.not_eq_true']at ho;obtain⟨has,hk⟩:=ho;obtain⟨n,x,hx,eb⟩:=JR (E:=E) (D:=D) hob;obtain⟨_,h1⟩:=Fh h1;rw[Cq has,Ab]at h1;obtain⟨p,e1,h1⟩:=h1;have hd:a.dst≠some k:=fun e=>(hab k e).1 (M5 hob);rw[eb]at h2;obtain⟨o,c,q1,q2,rfl⟩:=h2;rw[DI h1 hd]at q1;rw[PU h1 hd,Fz x (fr':=st.fr) (fun i hi=>DI h1 (fun e=>(hab i e).1 (hx i hi)))]at q2;refine⟨_,(eb _ _).2 ⟨o,c,q1,q2,rfl⟩,E6 (by unfold okS;rw[JT has]) ?_⟩;rw[Cq has];simp only[Pk hk,e1,Option.bind_some];exact PV hd h1
theorem keep{l:SL}{st s:St}(h:AS E (some D) l st=some s){i:Nat}(hi:l.dst≠some i):s.fr i=st.fr i∨s.fr i=.undef:=by
 cases hh:l.op.hard with
 |false=>exact .inl (MT hh h hi)
 |true=>
  have hset:∀(st:St) (d:Option Nat) (v:SV),d≠some i→(st.set d v).fr i=st.fr i:=by
   intro st d v hd
   cases d with
   |none=>rfl
   |some d=>exact Ay _ _ (fun e=>hd (by rw[e]))
  have hkill:∀(L:List Nat) (v:SV),Au L v=v∨Au L v=.undef:=by
   intro L v
   cases v<;>simp only[Au]<;>first
    |exact .inl trivial
    |exact .inl rfl
    |(split<;>first|exact .inl rfl|exact .inr rfl)
  rw[FO,Ab]at h;obtain⟨t,_,h⟩:=h;split at h
  case isFalse=>cases h;exact .inl (hset _ _ _ hi)
  cases hop:l.op<;>simp only[hop,SOp.hard,Ag]at hh<;>simp only[hop,AB,SOp.cls]at h
  case append e size bytes x y=>
   rw[NA,Aa]at h;obtain⟨p,_,rfl⟩:=h;unfold DA;rw[hset _ _ _ hi];exact hkill _ _
  case mcopy f x y=>
   unfold Gz at h
   repeat' split at h
   all_goals first
    |(cases h;done)
    |(cases h;exact .inl (hset _ _ _ hi))
  all_goals
   simp only[AW]at h;try(cases h;done)
   repeat' split at h
   all_goals first
    |(cases h;done)
    |(cases h;exact .inl rfl)
    |(cases h;exact .inl (hset _ _ _ hi))
    |skip
  all_goals
   rw[Ab]at h;obtain⟨_,_,h⟩:=h;split at h
   ·cases h;exact .inl rfl
   ·cases h
def lsT(E:Env)(A D:List Nat):List SL→St→Option St
 | [],st=>some st
 |l::ls,st=>(evT E A D l st).bind (lsT E A D ls)
def Dw(E:Env)(A D:List Nat)(ls:List SL):List Nat→St→Option St
 | [],st=>some st
 |i::is,st=>match ls[i]? with
  |some l=>(evT E A D l st).bind (Dw E A D ls is)
  |none=>none
theorem M6:∀(ls:List SL) (m:List Nat) {st s:St},(∀a∈m,st.fr a=.ptr a 0∨st.fr a=.undef)→GP A m ls=true→Dn E (some D) ls st=some s→lsT E A D ls st=some s
 | [],_,_,_,_,_,h=>h
 |l::ls,m,st,s,hm,hk,h=>by
  simp only[Dn,Ab]at h;obtain⟨s1,h1,h2⟩:=h;simp only[GP,Af]at hk;obtain⟨k1,k2⟩:=hk
  have hok:okS A l st=true:=by
   unfold okS
   cases hl:l.own A with
   |none=>rfl
   |some a=>
    rw[hl]at k1;simp only[List.contains_iff_mem]at k1;rcases hm a k1 with e|e
    ·simp[e]
    ·exfalso;obtain⟨n,x,g1,g2⟩:=Fs hl;simp only[AS,g2,g1,AB,SOp.cls,AW,EU]at h1;rw[show so E.G st.fr (.t a)=.undef from e]at h1;cases h1
  simp only[lsT,E6 hok h1,Option.bind_some];refine M6 ls _ ?_ k2 h2
  have hkeep:∀a∈m,l.dst≠some a→s1.fr a=.ptr a 0∨s1.fr a=.undef:=by
   intro a ha hd;rcases keep h1 hd with e|e
   ·rw[e];exact hm a ha
   ·exact .inr e
  intro a ha;unfold Mq at ha;split at ha
  ·rename_i z d g1 g2 g3;by_cases had:a=d
   ·subst had;simp only[AS,g2,g1,AB,SOp.cls,BE,Option.bind_some,g3,Option.getD_some,BA]at h1;split at h1
    ·cases h1;exact .inl (Bl _ _ _)
    ·cases h1
   ·rcases List.mem_cons.1 ha with e|e
    ·exact(had e).elim
    ·exact hkeep a e (fun hh=>had (by rw[g3]at hh;cases hh;rfl))
  ·rename_i d g2 g1;rw[List.mem_filter]at ha;exact hkeep a ha.1 (fun hh=>by rw[g2]at hh;cases hh;simp at ha)
  ·rename_i g1;exact hkeep a ha (fun hh=>by rw[g1]at hh;cases hh)
theorem MO{ls:List SL}:∀(is:List Nat) {st s:St},Dw E A D ls is st=some s→CY E (some D) ls is st=some s
 | [],_,_,h=>h
 |i::is,st,s,h=>by
  simp only[Dw,CY]at h⊢;split at h
  ·rename_i l hl;rw[Ab]at h;obtain⟨s1,h1,h2⟩:=h;simp only[hl,(Fh h1).2,Option.bind_some];exact MO is h2
  ·cases h
theorem Mh:∀(ls:List SL) (pre:List SL) (st:St),Dw E A D (pre++ls) (List.range' pre.length ls.length) st=lsT E A D ls st
 | [],_,_=>rfl
 |l::ls,pre,st=>by
  have h:=Mh ls (pre++ [l]);simp only[List.length_append,List.length_cons,List.length_nil,List.append_assoc,List.cons_append,List.nil_append]at h;simp only[List.length_cons,List.range'_succ,Dw,lsT];rw[show(pre++l::ls)[pre.length]? =some l by simp];simp only
  congr 1
  funext s;exact h s
end
theorem Tt{E:Env}{D:List Nat}{a b:SL}{st s1 s2:St}(hf:Fj D a b=true)(hDa:a.op.makes=true→∀j,a.dst=some j→D.contains j=true)(hDb:b.op.makes=true→∀j,b.dst=some j→D.contains j=true)
  (h1:AS E (some D) a st=some s1) (h2:AS E (some D) b s1=some s2):∃s,AS E (some D) b st=some s∧AS E (some D) a s=some s2:=by
 simp only[Fj,Af,Aj,Bool.not_eq_true']at hf;obtain⟨⟨g1,g2⟩,g4⟩:=hf
 have hab:∀i,a.dst=some i→i∉b.looks∧b.dst≠some i:=by
  intro i hi;simp only[hi,Option.all_some,Af,Bool.not_eq_true',bne_iff_ne]at g1;exact⟨fun hm=>by have:=g1.1;simp[hm]at this,g1.2⟩
 have hba:∀i,b.dst=some i→i∉a.looks:=by
  intro i hi hm;simp[hi,hm]at g2
 rcases g4 with⟨g3,(⟨⟨g4,m1⟩,m2⟩|⟨g4,g5⟩)|⟨g4,g5⟩⟩|⟨⟨⟨g3,g5⟩,g4⟩,g6⟩
 ·exact VI g3 g4 (fun hm j hj=>by simpa[hm,hj]using m1) (fun hm j hj=>by simpa[hm,hj]using m2) hab hba h1 h2
 ·exact VF g5 g4 hab hba h1 h2
 ·exact VJ g5 g4 hab hba h1 h2
 ·exact VG g3 (by simpa using g5) g4 (by simpa using g6) hab hba h1 h2
def D8(P:Program)(ops:Array Oper)(A D:List Nat)(ls:List SL):Bool:=
 P.follows .mixedOrders&&GP A [] ls&&
 (ops.toList.zipIdx.all fun p=>p.1.after.all fun e=> !(Region.binds .any e)||decide (e.on<p.2))&&
 (ls.all fun l=> !l.op.makes||l.dst.all fun d=>D.contains d)&&
 ((List.range ls.length).all fun j=>(List.range j).all fun i=>((Dr ops ls.length).getD j 0).testBit i||match ls[i]?,ls[j]? with
   |some x,some y=>Cs A D x y
   |_,_=>false)
theorem Jo{E:Env}{A D:List Nat}{a b:SL}{st s1 s2:St}(hf:Cs A D a b=true)(hDa:a.op.makes=true→∀j,a.dst=some j→D.contains j=true)(hDb:b.op.makes=true→∀j,b.dst=some j→D.contains j=true)
  (h1:evT E A D a st=some s1) (h2:evT E A D b s1=some s2):∃s,evT E A D b st=some s∧evT E A D a s=some s2:=by
 simp only[Cs,Aj]at hf;rcases hf with hf|hf
 ·obtain⟨k1,e1⟩:=Fh h1;obtain⟨k2,e2⟩:=Fh h2;obtain⟨s,g1,g2⟩:=Tt hf hDa hDb e1 e2;simp only[Fj,Af,Aj,Bool.not_eq_true']at hf;obtain⟨⟨q1,q2⟩,q4⟩:=hf
  have hoa:a.own A=none:=by
   rcases q4 with⟨q3,_⟩|⟨⟨⟨q3,_⟩,_⟩,_⟩
   ·exact JT q3
   ·cases ha:a.own A with
    |none=>rfl
    |some k=>
     obtain⟨n,x,h,_⟩:=Fs ha;rw[h]at q3;cases q3
  refine⟨s,E6 (Uz (fun k hk=> ?_) k2) g1,E6 (by unfold okS;rw[hoa]) g2⟩;obtain⟨n,x,h,_⟩:=Fs hk
  have hah:a.op.hard=false:=by
   rcases q4 with⟨q3,_⟩|⟨⟨⟨_,_⟩,q3⟩,_⟩
   ·exact q3
   ·rw[h]at q3;cases q3
  refine(MT hah e1 fun hd=> ?_).symm;simp only[hd,Option.all_some,Af,Bool.not_eq_true',bne_iff_ne]at q1;have:=q1.1;simp[M5 hk]at this
 ·simp only[Af]at hf;obtain⟨⟨q1,q2⟩,q4⟩:=hf
  have hab:∀i,a.dst=some i→i∉b.looks∧b.dst≠some i:=by
   intro i hi;simp only[hi,Option.all_some,Af,Bool.not_eq_true',bne_iff_ne]at q1;exact⟨fun hm=>by have:=q1.1;simp[hm]at this,q1.2⟩
  have hba:∀i,b.dst=some i→i∉a.looks:=by
   intro i hi hm;simp[hi,hm]at q2
  exact VH hab hba q4 h1 h2
def left(n:Nat)(L:Array Bool):List Nat:=(List.range n).filter fun i=> !L.getD i true
inductive Dg (ops:Array Oper):Array Bool→List Nat→Prop where
 |nil {L:Array Bool}:left ops.size L= []→Dg ops L []
 |cons {L:Array Bool} {i:Nat} {is:List Nat}:i<ops.size→L.getD i true=false→(∀o,ops[i]? =some o→∀e∈o.after,Region.binds .any e=true→L.getD e.on false=true)→Dg ops (L.setIfInBounds i true) is→Dg ops L (i::is)
theorem Jq(L:Array Bool)(i j:Nat)(b:Bool)(hi:L.getD i true=false):(L.setIfInBounds i true).getD j b=if j=i then true else L.getD j b:=by
 have hlt:i<L.size:=by
  rw[Array.getD_eq_getD_getElem?]at hi;by_cases h:i<L.size
  ·exact h
  ·simp[Array.getElem?_eq_none (Nat.le_of_not_lt h)]at hi
 simp only[Array.getD_eq_getD_getElem?,Array.getElem?_setIfInBounds];by_cases h:j=i
 ·subst h;simp[hlt]
 ·have h':¬i=j:=fun e=>h e.symm;simp[h,h']
theorem J6(n:Nat)(L:Array Bool)(i:Nat)(hin:i<n)(hi:L.getD i true=false):∃p q,left n L=p++i::q∧left n (L.setIfInBounds i true)=p++q∧∀j∈p,j<i∧L.getD j true=false:=by
 have hr:List.range n=List.range i++i::List.range' (i+1) (n-i-1):=by
  rw[List.range_eq_range',List.range_eq_range',show n=i+((n-i-1)+1) by omega,←List.range'_append_1,List.range'_succ];simp
 refine⟨(List.range i).filter fun j=> !L.getD j true,(List.range' (i+1) (n-i-1)).filter fun j=> !L.getD j true, ?_, ?_, ?_⟩
 ·simp only[left,hr,List.filter_append,List.filter_cons,hi,Bool.not_false,if_true]
 ·simp only[left,hr,List.filter_append,List.filter_cons,Jq L i _ _ hi,if_true,Bool.not_true,Ag,if_false]
  congr 1
  ·apply List.filter_congr;intro j hj;rw[if_neg (by have:=List.mem_range.1 hj;omega)]
  ·apply List.filter_congr;intro j hj;rw[if_neg (by have:=(List.mem_range'_1.1 hj).1;omega)]
 ·intro j hj;rw[List.mem_filter,List.mem_range]at hj;exact⟨hj.1,by simpa using hj.2⟩
section
variable {P:Program} {E:Env} {n:Nat} {ops:Array Oper} {A D:List Nat} {ls:List SL}
theorem Ps{i:Nat}{b:SL}(hb:ls[i]? =some b)(hDb:b.op.makes=true→∀j,b.dst=some j→D.contains j=true)(q:List Nat):∀(p:List Nat) {st st':St},(∀k∈p,∀l,ls[k]? =some l→l.op.makes=true→∀j,l.dst=some j→D.contains j=true)→(∀j∈p,∃a,ls[j]? =some a∧Cs A D a b=true)→Dw E A D ls (p++i::q) st=some st'→Dw E A D ls (i::(p++q)) st=some st'
 | [],_,_,_,_,h=>h
 |j::p,st,st',hD,hf,h=>by
  obtain⟨a,ha,hfr⟩:=hf j (by simp);simp only[List.cons_append,Dw,ha,Ab]at h;obtain⟨s1,h1,h2⟩:=h;have h3:=Ps hb hDb q p (fun k hk=>hD k (by simp[hk])) (fun j hj=>hf j (by simp[hj])) h2;simp only[Dw,hb,Ab]at h3;obtain⟨s2,h3,h4⟩:=h3;obtain⟨s,g1,g2⟩:=Jo hfr (hD j (by simp) a ha) hDb h1 h3;simp only[List.cons_append,Dw,hb,ha,g1,g2,Option.bind_some,h4]
theorem KN{L:Array Bool}(hdown:∀i o,L.getD i false=true→ops[i]? =some o→∀e∈o.after,Region.binds .any e=true→L.getD e.on false=true):∀(k i j:Nat),(∀o,ops[j]? =some o→∀e∈o.after,Region.binds .any e=true→L.getD e.on false=true)→FA ops k i j=true→L.getD i false=true
 |0,_,_,_,h=>by cases h
 |k+1,i,j,hj,h=>by
  simp only[FA]at h;split at h<;>(try cases h;done);rename_i o ho;rw[Array.any_eq_true']at h;obtain⟨e,he,h⟩:=h;simp only[Af,Aj,beq_iff_eq,decide_eq_true_eq]at h;obtain⟨hb,h⟩:=h;have hl:=hj o ho e he hb;rcases h with h|⟨_,h⟩
  ·rw[←h];exact hl
  ·exact KN hdown k i e.on (fun o' ho'=>hdown e.on o' hl ho') h
theorem OF(hlen:ls.length=ops.size)
  (hfree:∀j<ls.length,∀i<j,FA ops ls.length i j=true∨∃x y,ls[i]? =some x∧ls[j]? =some y∧Cs A D x y=true) {L:Array Bool} {is:List Nat} (hg:Dg ops L is):
  (∀i o,L.getD i false=true→ops[i]? =some o→∀e∈o.after,Region.binds .any e=true→L.getD e.on false=true)→L.size=ops.size→(∀k∈left ops.size L,∀l,ls[k]? =some l→l.op.makes=true→∀j,l.dst=some j→D.contains j=true)→∀{st st':St},Dw E A D ls (left ops.size L) st=some st'→Dw E A D ls is st=some st':=by
 induction hg with
 |nil h=>
  intro _ _ _ st st' hv;rw[h]at hv;exact hv
 | @cons L i is hi hL he hg ih=>
  intro hdown hsz hD st st' hv;obtain⟨p,q,e1,e2,e3⟩:=J6 ops.size L i hi hL;have hb:ls[i]? =some (ls[i]'(by omega)):=Ai _;rw[e1]at hv hD
  have hv':=Ps hb (hD i (by simp) _ hb) q p (fun k hk=>hD k (by simp[hk])) (fun j hj=>by
   obtain⟨hji,hjL⟩:=e3 j hj;rcases hfree i (by omega) j hji with ha|⟨x,y,hx,hy,hf⟩
   ·have:=KN hdown _ j i he ha;have hjs:j<L.size:=by omega
    simp[Array.getD_eq_getD_getElem?,Array.getElem?_eq_getElem hjs]at this hjL;rw[this]at hjL;cases hjL
   ·rw[hb]at hy;cases hy
    exact⟨x,hx,hf⟩) hv
  simp only[Dw,hb,Ab]at hv'⊢;obtain⟨s,h1,h2⟩:=hv';refine⟨s,h1,ih ?_ (by simp[hsz]) (by rw[e2];intro k hk;exact hD k (by rcases List.mem_append.1 hk with hk|hk<;>simp[hk])) (by rw[e2];exact h2)⟩;intro k o hk ho e hem heb;rw[Jq L i _ _ hL]at hk⊢;split
  ·rfl
  ·split at hk
   ·rename_i e';subst e';exact he o ho e hem heb
   ·exact hdown k o hk ho e hem heb
theorem UT{L:Array Bool}(hback:∀i o,ops[i]? =some o→∀e∈o.after,Region.binds .any e=true→e.on<i)(hsz:L.size=ops.size)(h:left ops.size L≠ []):Region.ready .any ops L≠ []:=by
 cases hl:left ops.size L with
 |nil=>exact(h hl).elim
 |cons i q=>
  have hmem:i∈left ops.size L:=by rw[hl];simp
  have hmem':=hmem;simp only[left,List.mem_filter,List.mem_range]at hmem';obtain⟨hi,hiL⟩:=hmem';have hiL:L.getD i true=false:=by simpa using hiL
  obtain⟨p,q',e1,_,e3⟩:=J6 ops.size L i hi hiL
  have hp:p= []:=by
   cases p with
   |nil=>rfl
   |cons j p=>
    rw[hl]at e1;simp only[List.cons_append,List.cons.injEq]at e1;have:=(e3 j (by simp)).1;omega
  subst hp
  have hmin:∀j,j<i→L.getD j false=true:=by
   intro j hj;have hjs:j<L.size:=by omega
   cases hv:L.getD j false with
   |true=>rfl
   |false=>
    exfalso
    have hjm:j∈left ops.size L:=by
     simp only[left,List.mem_filter,List.mem_range];refine⟨by omega, ?_⟩;simp[Array.getD_eq_getD_getElem?,Array.getElem?_eq_getElem hjs]at hv⊢;exact hv
    rw[e1]at hjm;have hsorted:(left ops.size L).Pairwise (· < ·):=List.Pairwise.filter _ List.pairwise_lt_range;rw[e1,List.nil_append,List.pairwise_cons]at hsorted;simp only[List.nil_append,List.mem_cons]at hjm;rcases hjm with hjm|hjm
    ·omega
    ·have:=hsorted.1 j hjm;omega
  intro hr
  have:i∈Region.ready .any ops L:=by
   simp only[Region.ready,List.mem_filter,List.mem_range];refine⟨hi, ?_⟩;have ho:ops[i]? =some (ops[i]'hi):=Array.getElem?_eq_getElem hi;simp only[hiL,Bool.not_false,ho,Option.map_some,Option.getD_some,Bool.true_and,Array.all_eq_true'];intro e he
   cases hb:Region.binds .any e with
   |false=>rfl
   |true=>simp[hmin e.on (hback i _ ho e he hb)]
  rw[hr]at this;cases this
theorem J8(hback:∀i o,ops[i]? =some o→∀e∈o.after,Region.binds .any e=true→e.on<i):∀(fuel t:Nat) (L:Array Bool),L.size=ops.size→(left ops.size L).length≤fuel→Dg ops L (Region.linearise.go .any ops fuel t L [])
 |0,t,L,hsz,hf=>by
  have:left ops.size L= []:=List.eq_nil_of_length_eq_zero (by omega);simpa[Region.linearise.go]using Dg.nil this
 |fuel+1,t,L,hsz,hf=>by
  simp only[Region.linearise.go]
  change Dg ops L (match (Region.ready .any ops L)[t %(Region.ready .any ops L).length]? with
   |some i=>Region.linearise.go .any ops fuel (t/(Region.ready .any ops L).length) (L.setIfInBounds i true) [i]
   |none=> [].reverse)
  by_cases hl:left ops.size L= []
  ·have hr:Region.ready .any ops L= []:=by
    cases hr:Region.ready .any ops L with
    |nil=>rfl
    |cons j js=>
     exfalso;have hj:j∈Region.ready .any ops L:=by rw[hr];simp
     simp only[Region.ready,List.mem_filter,List.mem_range,Af]at hj
     have:j∈left ops.size L:=by
      simp only[left,List.mem_filter,List.mem_range];exact⟨hj.1,hj.2.1⟩
     rw[hl]at this;cases this
   simpa[hr]using Dg.nil hl
  ·have hr:=UT hback hsz hl;have hlt:t %(Region.ready .any ops L).length<(Region.ready .any ops L).length:=Nat.mod_lt _ (List.length_pos_iff.2 hr);rw[Ai hlt];generalize hi:(Region.ready .any ops L)[t %(Region.ready .any ops L).length]=i;have him:i∈Region.ready .any ops L:=by rw[←hi];exact List.getElem_mem _
   simp only[Region.ready,List.mem_filter,List.mem_range,Af,Bool.not_eq_true']at him;obtain⟨h1,h2,h3⟩:=him;simp only;rw[linearise_go_acc,List.reverse_singleton,List.singleton_append];obtain⟨p,q,e1,e2,_⟩:=J6 ops.size L i h1 h2;refine .cons h1 h2 ?_ (J8 hback fuel _ _ (by simp[hsz]) ?_)
   ·intro o ho e he hb;rw[ho]at h3;simp only[Option.map_some,Option.getD_some,Array.all_eq_true']at h3;have:=h3 e he;simpa[hb]using this
   ·rw[e1]at hf;rw[e2];simp only[List.length_append,List.length_cons]at hf⊢;omega
theorem O3(E:Env)(D:Option (List Nat)):∀(ls:List SL) (pre:List SL) (st:St),CY E D (pre++ls) (List.range' pre.length ls.length) st=Dn E D ls st
 | [],_,_=>rfl
 |l::ls,pre,st=>by
  have h:=O3 E D ls (pre++ [l]);simp only[List.length_append,List.length_cons,List.length_nil,List.append_assoc,List.cons_append,List.nil_append]at h;simp only[List.length_cons,List.range'_succ,CY,Dn];rw[show(pre++l::ls)[pre.length]? =some l by simp];simp only
  congr 1
  funext s;exact h s
theorem S3(hc:Aq (DR P n ops) ops.toList=some ls)(hd:D8 P ops A D ls=true){st st':St}(hv:Dn E (some D) ls st=some st')(t:Nat):
  CY E (some D) ls (Region.schedule (P.follows .mixedOrders) ops t) st=some st':=by
 have hlen:ls.length=ops.size:=by rw[DO hc];simp
 simp only[D8,Af]at hd;obtain⟨⟨⟨⟨hm,hown⟩,hback⟩,hmk⟩,hfr⟩:=hd;have hv:=M6 ls [] (by simp) hown hv;refine MO (A:=A) _ ?_;simp only[Region.schedule,hm,Bool.true_or,if_true,Region.linearise]
 have hleft:left ops.size (Array.replicate ops.size false)=List.range ops.size:=by
  simp only[left];rw[List.filter_eq_self];intro i hi;have:=List.mem_range.1 hi;simp[Array.getD_eq_getD_getElem?,this]
 have hback':∀i o,ops[i]? =some o→∀e∈o.after,Region.binds .any e=true→e.on<i:=by
  intro i o ho e he hb;rw[List.all_eq_true]at hback
  have hmem:(o,i)∈ops.toList.zipIdx:=by
   rw[List.mem_zipIdx_iff_getElem?];simpa using ho
  have:=hback _ hmem;rw[Array.all_eq_true']at this;have:=this e he;simpa[hb]using this
 refine OF hlen ?_ (J8 hback' ops.size t _ (by simp) (by rw[hleft];simp)) ?_ (by simp) ?_ ?_
 ·intro j hj i hij;rw[List.all_eq_true]at hfr;have:=hfr j (List.mem_range.2 hj);rw[List.all_eq_true]at this;have:=this i (List.mem_range.2 hij);rw[Aj]at this;rcases this with h|h
  ·rw[GI ops hj]at h;exact .inl (JD ops hj h)
  ·refine .inr ?_;split at h
   ·rename_i x y hx hy;exact⟨x,y,hx,hy,h⟩
   ·cases h
 ·intro i o hi;exfalso;rw[Array.getD_eq_getD_getElem?,Array.getElem?_replicate]at hi;split at hi<;>cases hi
 ·intro k _ l hl hmake j hj;rw[List.all_eq_true]at hmk;have:=hmk l (List.mem_of_getElem? hl);simpa[hmake,hj]using this
 ·rw[hleft,List.range_eq_range',←hlen];have:=Mh (E:=E) (A:=A) (D:=D) ls [] st;simp only[List.nil_append,List.length_nil]at this;rw[this];exact hv
end
def cl(s:SV):Prop:=∀id,s.ref=some id→id<As
def D2(o:Ob):Prop:=∀cs,o=.box cs→∀s∈cs,cl s
structure Cl (st:St):Prop where
 fr:∀i,cl (st.fr i)
 ob:∀j,j<As→D2 (st.ob j)
theorem BO(c:CV):cl (.c c):=fun _ h=>by cases h
theorem IU:cl .undef:=fun _ h=>by cases h
theorem NQ(l:List CV):D2 (.box (l.map .c)):=fun cs h s hs=>by
 cases h;obtain⟨c,_,rfl⟩:=List.mem_map.1 hs;exact BO c
theorem NT(s:SV):cl (C9 s):=fun id h=>by
 unfold C9 at h
 cases hr:s.ref with
 |none=>rw[hr]at h;simp only at h;rw[hr]at h;cases h
 |some j=>
  rw[hr]at h;simp only at h;split at h
  ·cases h
  ·rw[hr]at h;cases h;omega
theorem RW(st:St):Cl (CK st):=by
 refine⟨fun i=>NT _,fun j hj cs hcs s hs=> ?_⟩;have h:(if As≤j then st.ob j else EZ (st.ob j))=.box cs:=hcs;rw[if_neg (by omega)]at h;cases hob:st.ob j<;>rw[hob]at h<;>cases h;obtain⟨s',_,rfl⟩:=List.mem_map.1 hs;exact NT _
section
variable {P:Program} {w0:WL} {M0:MM} {n:Nat} {st:St} {a:Act} {w:World} {z:Cz}
theorem SR.clean{G:Nat→List CV}(h:SR P G w0 M0 n st a w z):SR P G w0 M0 n (CK st) a w z:=by
 have hlive:∀id,(CK st).ob id≠ .none↔st.ob id≠ .none:=fun id=>by
  show(if As≤id then st.ob id else EZ (st.ob id))≠ .none↔_;split
  ·exact Iff.rfl
  ·cases st.ob id<;>simp[EZ]
 have hk:Bp w (Am M0 z st.ob) w (Am M0 z (CK st).ob):=⟨Nat.le_refl _,fun _ _ _=>rfl,fun g _ hg=>by
  rcases hg with hg|⟨id,h1,h2⟩
  ·exact .inl hg
  ·exact .inr ⟨id,(hlive id).1 h1,h2⟩,rfl⟩
 have hz:∀s:SV,Eg st.ob z (CK st).ob z s:=fun s=>⟨fun id _ h1=>(hlive id).2 h1,fun _ _ _=>rfl,fun _ _ _ _ _ hb=>hb⟩
 have hs:∀{s:SV} {v:Value},Ar w (Am M0 z st.ob) z st.ob s v→Ar w (Am M0 z (CK st).ob) z (CK st).ob (C9 s) v:=by
  intro s v hv
  have:C9 s=s∨C9 s=.undef:=by
   unfold C9;split
   ·split
    ·exact .inr rfl
    ·exact .inl rfl
   ·exact .inl rfl
  rcases this with e|e
  ·rw[e];exact Ar.keep hk (hz s) hv
  ·rw[e];trivial
 have hss:∀(cs:List SV) vs,Av w (Am M0 z st.ob) z st.ob cs vs→Av w (Am M0 z (CK st).ob) z (CK st).ob (cs.map C9) vs:=by
  intro cs
  induction cs with
  |nil=>intro vs hh;exact hh
  |cons c cs ih=>
   intro vs hh;obtain⟨v,vs',e,h1,h2⟩:=hh;exact⟨v,vs',e,hs h1,ih vs' h2⟩
 refine⟨h.size,h.defers,h.below,h.outer,⟨h.nam.lent,fun N cs hN hc=> ?_,h.nam.names,h.nam.low⟩,h.glob,fun i=>hs (h.fr i),fun id=> ?_,fun id g h1 h2=>h.lo id g ((hlive id).1 h1) h2,fun i j g hij h1 h2=>h.apart i j g hij ((hlive i).1 h1) ((hlive j).1 h2)⟩
 ·have hc':(if As≤N then st.ob N else EZ (st.ob N))=.box cs:=hc;rw[if_pos hN]at hc';exact h.nam.told N cs hN hc'
 ·show Ba P w _ 0 z _ id (z.σ id) (if As≤id then st.ob id else EZ (st.ob id));have hoi:=h.ob id;split
  ·exact Ba.keep hk (fun _ _=>rfl) (fun cs _ s _=>hz s) (fun _ _ hh=>hh) hoi
  ·cases hob:st.ob id with
   |box cs=>
    rw[hob]at hoi;obtain⟨g,ty,vs,e1,e2,e3⟩:=hoi;exact⟨g,ty,vs,e1,e2,hss cs vs e3⟩
   |_=>
    rw[hob]at hoi;exact Ba.keep hk (fun _ _=>rfl) (fun cs hc=>by cases hc) (fun _ _ hh=>hh) hoi
end
theorem Gv{x:Option CV}{v:SV}(h:x.map .c=some v):cl v:=by
 obtain⟨c,_,rfl⟩:=Aa.1 h;exact BO c
theorem RQ{rd:Nat→Ob}(hrd:∀j,D2 (rd j)){sz:Option Nat}{s v:SV}(h:Bs rd sz s=some v):cl v:=by
 unfold Bs at h
 repeat' split at h
 all_goals first
  |(cases h;done)
  |exact Gv h
  |skip
 ·rename_i cs hob _;exact hrd _ cs hob _ (List.mem_of_getElem? h)
 ·obtain⟨l,_,rfl⟩:=Aa.1 h;exact BO _
 ·obtain⟨e,_,h⟩:=Ab.1 h;exact Gv h
theorem NS{rd:Nat→Ob}{ρ:SO→SV}{op:SOp}{v:SV}(hρ:∀x,cl (ρ x))(hrd:∀j,D2 (rd j))(hN:∀N,As≤N→rd N=.none)(h:Ao rd ρ op=some v):cl v:=by
 have hdr:∀x,cl (deref rd (ρ x)):=fun x=>by
  have:=hρ x;generalize ρ x=s at this⊢;unfold deref;split
  ·split
   ·rename_i hN';rw[hN _ hN'];exact IU
   ·exact IU
  ·exact this
 cases op
 case mov x=>cases h;exact hρ _
 case pick c a b=>
  simp only[Ao]at h;split at h<;>(try cases h;done);cases h;split<;>exact hρ _
 case load sz x=>exact RQ hrd h
 case faddr off x=>
  simp only[Ao]at h;have:=hdr x;split at h
  ·split at h<;>cases h;exact BO _
  ·split at h<;>cases h;exact BO _
  ·rename_i he;cases h;rw[he]at this;exact fun id hid=>this id hid
  ·rename_i he;cases h;rw[he]at this;exact fun id hid=>this id hid
  ·cases h
 case iaddr size x i=>
  have:=hρ x;simp only[Ao,CZ]at h;split at h<;>(try cases h;done)
  ·obtain⟨j,_,h⟩:=Ab.1 h;obtain⟨e,_,h⟩:=Ab.1 h;split at h<;>cases h;exact BO _
  ·rename_i he _;rw[he]at this;split at h<;>(try cases h;done);split at h<;>(try cases h;done);obtain⟨j,_,rfl⟩:=Aa.1 h;exact fun id hid=>this id hid
 case aaddr len size x i=>
  have:=hρ x;simp only[Ao,Dj]at h;split at h<;>(try cases h;done)
  ·split at h<;>(try cases h;done);obtain⟨j,_,rfl⟩:=Aa.1 h;exact BO _
  ·rename_i he _;rw[he]at this;obtain⟨j,_,rfl⟩:=Aa.1 h;exact fun id hid=>this id hid
 case ext x i=>
  have:=hρ x;simp only[Ao]at h;split at h<;>(try cases h;done)
  ·exact Gv h
  ·rename_i he;rw[he]at this
   repeat' split at h
   all_goals first
    |(cases h;done)
    |(cases h;exact BO _)
    |(cases h;exact fun id hid=>this id hid)
 case build z parts=>
  simp only[Ao]at h;obtain⟨_,_,h⟩:=Ab.1 h;obtain⟨_,_,rfl⟩:=Aa.1 h;exact BO _
 case minmax mx xs=>
  simp only[Ao]at h;obtain⟨_,_,h⟩:=Ab.1 h;split at h
  ·cases h
  ·exact Gv h
 case sidx x i=>
  simp only[Ao]at h;split at h<;>(try cases h;done);obtain⟨_,_,h⟩:=Ab.1 h;obtain⟨_,_,rfl⟩:=Aa.1 h;exact BO _
 case aidx len size sz x i=>
  simp only[Ao]at h;split at h<;>(try cases h;done);obtain⟨_,_,h⟩:=Ab.1 h;exact Gv h
 case sslice x lo hi=>
  simp only[Ao]at h;split at h<;>(try cases h;done);obtain⟨_,_,h⟩:=Ab.1 h;obtain⟨_,_,h⟩:=Ab.1 h;split at h<;>cases h;exact BO _
 case slice size x lo hi=>
  simp only[Ao]at h;split at h<;>(try cases h;done);obtain⟨_,_,h⟩:=Ab.1 h;obtain⟨_,_,h⟩:=Ab.1 h;split at h<;>cases h;exact BO _
 all_goals
  simp only[Ao,reduceCtorEq]at h;try(cases h;done)
  repeat' split at h
  all_goals first
   |(cases h;done)
   |exact Gv h
   |(cases h;exact BO _)
   |(obtain⟨_,_,rfl⟩:=Aa.1 h;exact BO _)
theorem RR{ρ:SO→SV}{d:Nat}{op:SOp}{v:SV}{o:Ob}(hρ:∀x,cl (ρ x))(hd:d<As)(h:BE ρ d op=some (v,o)):cl v∧D2 o:=by
 have hv:∀s:SV,s.ref=some d→cl s:=fun s hs id hid=>by rw[hs]at hid;cases hid;exact hd
 cases op<;>simp only[BE,reduceCtorEq]at h
 case alloc z=>cases h;exact⟨hv _ rfl,NQ _⟩
 case box x=>
  split at h
  ·cases h;exact⟨hv _ rfl,NQ _⟩
  ·cases h
  ·cases h;refine⟨hv _ rfl,fun cs hcs s hs=> ?_⟩;cases hcs;simp only[List.mem_singleton]at hs;subst hs;exact hρ x
 case mksl e size parts=>
  obtain⟨l,_,h⟩:=Ab.1 h;split at h<;>cases h;exact⟨hv _ rfl,fun cs hcs=>by cases hcs⟩
 case mkmap=>cases h;exact⟨hv _ rfl,fun cs hcs=>by cases hcs⟩
 case make=>
  repeat' split at h
  all_goals first
   |(cases h;done)
   |(cases h;exact⟨hv _ rfl,fun cs hcs=>by cases hcs⟩)
 case siter=>
  repeat' split at h
  all_goals first
   |(cases h;done)
   |(cases h;exact⟨hv _ rfl,fun cs hcs=>by cases hcs⟩)
section
variable {E:Env}
def clP(p:SV×Option Ob):Prop:=cl p.1∧∀o,p.2=some o→D2 o
theorem NR{rd:Nat→Ob}{ρ:SO→SV}{d:Option Nat}{f:FuncId}{args:List SO}{caps:List CV}{p:SV×Option Ob}(hd:∀j,d=some j→j<As)(h:F0 E.named rd ρ d f args caps=some p):clP p:=by
 unfold F0 at h;obtain⟨l,_,h⟩:=Ab.1 h;obtain⟨r,hr,h⟩:=Ab.1 h;split at h<;>cases h
 cases r with
 |val v=>exact⟨BO _,fun o ho=>by cases ho⟩
 |new o=>
  have hh:Dq o=true:=by
   have hr':(match E.fn f (l++caps)with
    |some (.new o)=>if Dq o=true then some (.new o)else none
    |r=>r)=some (.new o):=hr
   split at hr'
   ·split at hr'<;>(try cases hr';done);rename_i hh;cases hr';exact hh
   ·rename_i hne;exact absurd hr' (hne o)
  have hdd:d.getD 0<As:=by
   cases d with
   |none=>decide
   |some j=>exact hd j rfl
  refine⟨fun id hid=> ?_,fun o' ho'=> ?_⟩
  ·cases o<;>simp[Dq]at hh<;>(simp only[Kf,SV.ref,Ac]at hid;omega)
  ·cases ho';intro cs hcs;subst hcs;cases hh
theorem RU{rd:Nat→Ob}{l:SL}{fr:Nat→SV}{p:SV×Option Ob}(hfr:∀i,cl (fr i))(hrd:∀j,D2 (rd j))(hN:∀N,As≤N→rd N=.none)(hd:∀j,l.dst=some j→j<As)(h:Cp E.named l fr rd=some p):clP p:=by
 have hso:∀x,cl (so E.named.G fr x):=fun x=>by
  cases x with
  |t i=>exact hfr i
  |k c=>exact BO c
  |g i=>
   simp only[so]
   cases E.named.G i with
   |nil=>exact IU
   |cons c cs=>exact BO _
 have hop:∀p,A3 E.named rd (so E.named.G fr) l.dst l.op=some p→clP p:=fun p h=>by
  have hdd:l.dst.getD 0<As:=by
   cases hl:l.dst with
   |none=>decide
   |some j=>exact hd j hl
  unfold A3 at h;split at h
  ·obtain⟨v,hv,rfl⟩:=Aa.1 h;exact⟨NS hso hrd hN hv,fun o ho=>by cases ho⟩
  ·obtain⟨v,hv,rfl⟩:=Aa.1 h;exact⟨NS hso hrd hN hv,fun o ho=>by cases ho⟩
  ·obtain⟨⟨v,o⟩,hv,rfl⟩:=Aa.1 h;obtain⟨h1,h2⟩:=RR hso hdd hv;exact⟨h1,fun o' ho=>by cases ho;exact h2⟩
  ·cases h
  ·cases h
  ·split at h
   ·exact NR hd h
   ·split at h<;>(try cases h;done);exact NR hd h
   ·cases h
 unfold Cp at h;split at h
 ·exact hop _ h
 ·split at h
  ·split at h
   ·exact hop _ h
   ·cases h;exact⟨BO _,fun o ho=>by cases ho⟩
  ·cases h;exact⟨BO _,fun o ho=>by cases ho⟩
  ·cases h
theorem RT{st s:St}{d:Option Nat}{p:SV×Option Ob}(hs:Cl st)(hp:clP p)(h:put st d p=some s):Cl s:=by
 have hfr:∀v i,cl v→cl (upd st.fr i v i):=fun v i hv=>by rw[Bl];exact hv
 obtain⟨v,o⟩:=p
 cases o with
 |none=>
  cases h
  cases d with
  |none=>exact hs
  |some d=>
   refine⟨fun i=> ?_,hs.ob⟩;show cl (upd st.fr d v i);rw[BZ];split
   ·exact hp.1
   ·exact hs.fr i
 |some o=>
  simp only[put,BA]at h
  cases d with
  |none=>cases h
  |some d=>
   simp only at h;split at h<;>(try cases h;done);cases h;refine⟨fun i=> ?_,fun j hj=> ?_⟩
   ·show cl (upd st.fr d v i);rw[BZ];split
    ·exact hp.1
    ·exact hs.fr i
   ·show D2 (upd st.ob d o j);rw[BZ];split
    ·exact hp.2 o rfl
    ·exact hs.ob j hj
theorem RV{n o:Nat}{ob ob':Ob}{v:SV}(ho:D2 ob)(hv:cl v)(h:Dx n o ob v=some ob'):D2 ob':=by
 unfold Dx at h;split at h<;>(try cases h;done);rename_i cs;split at h
 ·split at h<;>cases h;intro cs' hcs s hs;cases hcs;unfold EN at hs;simp only[List.mem_append]at hs;rcases hs with(hs|hs)|hs
  ·exact ho cs rfl s (List.mem_of_mem_take hs)
  ·obtain⟨c,_,rfl⟩:=List.mem_map.1 hs;exact BO c
  ·exact ho cs rfl s (List.mem_of_mem_drop hs)
 ·split at h<;>cases h;intro cs' hcs s hs;cases hcs;rcases List.mem_or_eq_of_mem_set hs with hs|hs
  ·exact ho cs rfl s hs
  ·subst hs;exact hv
end
def low(st:St):St:={fr:=st.fr,ob:=BM st.ob}
def merge(s st:St):St:={fr:=s.fr,ob:=fun i=>if As≤i then st.ob i else s.ob i}
def efL(E:Env)(l:SL)(fr:Nat→SV):Option (Eff×List SO×List CV):=
 match l.op with
 | .call f args=>match E.ef f with
  |some e=>some (e,args,[])
  |none=>none
 | .callv f args=>match so E.G fr f with
  | .c (.fn f caps)=>match E.ef f with
   |some e=>some (e,args,caps)
   |none=>none
  |_=>none
 |_=>none
def BG(E:Env)(l:SL)(fr:Nat→SV):Option (Eff×List SO×List CV):=if gd l fr=some true then efL E l fr else none
section
variable {E:Env} {A D:List Nat}
theorem Lx{rd:Nat→Ob}{l:SL}{st:St}:B6 E rd l st=(gd l st.fr).bind fun t=>if t=true then AB E rd st l.dst l.op else some (st.set l.dst B8):=by
 unfold B6 gd
 cases l.guard with
 |none=>rfl
 |some p=>
  obtain⟨g,want⟩:=p;simp only;generalize st.fr g=q
  cases q with
  |c v=>
   cases v with
   |bool b=>by_cases hb:b=want<;>simp[hb]
   |tup l=>cases l<;>rfl
   |_=>rfl
  |_=>rfl
theorem SA{l:SL}{fr:Nat→SV}{q:Eff×List SO×List CV}(h:efL E l fr=some q):l.op.calls=true:=by
 unfold efL at h;split at h
 ·rename_i ho;rw[ho];rfl
 ·rename_i ho;rw[ho];rfl
 ·cases h
theorem KA{l:SL}{fr:Nat→SV}{q:Eff×List SO×List CV}(h:BG E l fr=some q):l.op.calls=true:=by
 unfold BG at h;split at h
 ·exact SA h
 ·cases h
theorem KB{l:SL}{fr fr':Nat→SV}(h:∀i∈l.looks,fr i=fr' i):BG E l fr=BG E l fr':=by
 unfold BG;rw[LC h]
 have:efL E l fr=efL E l fr':=by
  unfold efL;cases ho:l.op<;>simp only;rename_i f args;rw[Fz (fr':=fr') f fun i hi=>h i (by simp[SL.looks,ho,SOp.slots,hi])]
 rw[this]
theorem La{op:SOp}(h:op.calls=true):op.hard=false:=by
 cases op<;>first|rfl|cases h
theorem KZ{l:SL}(h:l.op.calls=true):l.own A=none:=JT (La h)
theorem M2{l:SL}{rd:Nat→Ob}{st:St}(h:efL E l st.fr=none):AB E rd st l.dst l.op=AB E.still rd st l.dst l.op:=by
 unfold efL at h;cases ho:l.op<;>rw[ho]at h<;>try rfl
 ·rename_i f args;simp only at h
  cases he:E.ef f with
  |some e=>rw[he]at h;cases h
  |none=>
   simp only[AB,SOp.cls,he];rfl
 ·rename_i f args;simp only at h
  show(match so E.G st.fr f with
   | .c (.fn f caps)=>match E.ef f with
    |some e=>Dl (so E.G st.fr) st l.dst e args caps
    |none=>D1 E rd (so E.G st.fr) st l.dst f args caps
   |_=>none)=(match so E.G st.fr f with
   | .c (.fn f caps)=>D1 E rd (so E.G st.fr) st l.dst f args caps
   |_=>none)
  generalize so E.G st.fr f=q at h;cases q<;>try rfl
  rename_i c;cases c<;>try rfl
  rename_i g caps;simp only at h⊢
  cases he:E.ef g with
  |some e=>rw[he]at h;cases h
  |none=>rfl
theorem Uh{l:SL}{st:St}(ht:BG E l st.fr=none):C1 E D l st=(gd l st.fr).bind fun t=>if t=true then AB E.still (AQ (some (hid l.op D)) (BM st.ob)) st l.dst l.op else some (st.set l.dst B8):=by
 unfold C1;rw[Lx];unfold BG at ht
 cases hg:gd l st.fr with
 |none=>rfl
 |some t=>
  cases t with
  |false=>rfl
  |true=>
   rw[hg,if_pos rfl]at ht;simp only[Option.bind_some,if_true];exact M2 ht
theorem Vn{l:SL}{rd:Nat→Ob}{st:St}(hh:l.op.hard=false):(Cp E l st.fr rd).bind (put st l.dst)=(gd l st.fr).bind fun t=>if t=true then AB E.still rd st l.dst l.op else some (st.set l.dst B8):=by
 unfold Cp gd
 cases l.guard with
 |none=>simp only[Option.bind_some,if_true];exact(Hc hh).symm
 |some p=>
  obtain⟨g,want⟩:=p;simp only;generalize st.fr g=q
  cases q with
  |c v=>
   cases v with
   |bool b=>
    by_cases hb:b=want
    ·simp only[hb,if_true,Option.bind_some,decide_true];exact(Hc hh).symm
    ·simp[hb,put]
   |tup l=>cases l<;>simp[put]
   |_=>rfl
  |_=>rfl
theorem Mg{l:SL}{st:St}(hh:l.op.hard=false)(ht:BG E l st.fr=none):C1 E D l st=(Cp E l st.fr (AQ (some (hid l.op D)) (BM st.ob))).bind (put st l.dst):=by
 rw[Uh ht,Vn hh]
theorem UQ{st s:St}{d:Option Nat}{p:SV×Option Ob}(hd:∀j,d=some j→j<As)(h:put st d p=some s):put (low st) d p=some (low s)∧∀i,As≤i→s.ob i=st.ob i:=by
 obtain⟨v,o⟩:=p
 cases o with
 |none=>
  cases h;cases d<;>exact⟨rfl,fun _ _=>rfl⟩
 |some o=>
  simp only[put,BA]at h⊢
  cases d with
  |none=>cases h
  |some d=>
   have hdd:=hd d rfl;simp only at h⊢;split at h<;>(try cases h;done);rename_i hn;cases h;have hl:(low st).ob d=.none:=by show(if As≤d then Ob.none else st.ob d)=_;rw[if_neg (by omega),hn]
   refine⟨?_,fun i hi=>Ay _ _ (by omega)⟩;rw[hl];simp only[low,Ac,St.mk.injEq,true_and];funext i;simp only[BZ,BM];by_cases h1:i=d
   ·subst h1;rw[if_pos rfl,if_pos rfl,if_neg (by omega)]
   ·rw[if_neg h1,if_neg h1]
theorem M9{st t:St}{d:Option Nat}{p:SV×Option Ob}(hd:∀j,d=some j→j<As)(h:put (low st) d p=some t):put st d p=some (merge t st)∧low (merge t st)=t:=by
 obtain⟨v,o⟩:=p
 cases o with
 |none=>
  cases h
  have key:∀st':St,st'.ob=st.ob→merge (low st') st=st'∧low (merge (low st') st)=low st':=fun st' hob=>by
   have h1:merge (low st') st=st':=by
    cases st' with
    |mk fr ob=>
     cases hob;simp only[merge,low,St.mk.injEq,true_and];funext i;simp only[BM];split<;>rfl
   exact⟨h1,by rw[h1]⟩
  have e:(low st).set d v=low (st.set d v):=by cases d<;>rfl
  obtain⟨k1,k2⟩:=key (st.set d v) (by cases d<;>rfl);rw[e];exact⟨by rw[k1];rfl,k2⟩
 |some o=>
  simp only[put,BA]at h⊢
  cases d with
  |none=>cases h
  |some d=>
   have hdd:=hd d rfl;have hl:(low st).ob d=st.ob d:=by show(if As≤d then Ob.none else st.ob d)=_;rw[if_neg (by omega)]
   simp only[hl]at h⊢;split at h<;>(try cases h;done);rename_i hn;cases h;constructor
   ·simp only[merge,low,Ac,St.mk.injEq,true_and];funext i;simp only[BZ,BM];by_cases h1:i=d
    ·subst h1;rw[if_pos rfl,if_neg (by omega),if_pos rfl]
    ·rw[if_neg h1,if_neg h1];split<;>rfl
   ·simp only[merge,low,St.mk.injEq,true_and];funext i;simp only[BZ,BM];by_cases h1:i=d
    ·subst h1;rw[if_neg (by omega),if_neg (by omega)]
    ·rw[if_neg h1];split<;>rfl
structure DN (A D:List Nat) (l:SL):Prop where
 hard:l.op.hard=true→∃k,l.own A=some k∧k<As
 dst:∀j,l.dst=some j→j<As
 makes:l.op.makes=true→∀j,l.dst=some j→D.contains j=true
open Classical in
noncomputable def evR(E:Env)(A D:List Nat)(l:SL)(st:St):Option St:=if Cl st∧okS A l st=true then C1 E.named D l st else none
theorem HI{l:SL}{st s:St}(h:evR E A D l st=some s):Cl st∧okS A l st=true∧C1 E.named D l st=some s:=by
 unfold evR at h;split at h
 ·rename_i hh;exact⟨hh.1,hh.2,h⟩
 ·cases h
theorem Jm{l:SL}{st s:St}(h1:Cl st)(h2:okS A l st=true)(h3:C1 E.named D l st=some s):evR E A D l st=some s:=by
 unfold evR;rw[if_pos ⟨h1,h2⟩,h3]
theorem JS{l:SL}{k:Nat}(hl:l.own A=some k):∃n x,(∀i∈x.slot,i∈l.looks)∧∀(st:St) (o:Nat),st.fr k=.ptr k o→C1 E D l st=(Dx n o (st.ob k) (so E.G st.fr x)).map (fun b=>{st with ob:=upd st.ob k b})∧AS E (some D) l st=(Dx n o (st.ob k) (so E.G st.fr x)).map fun b=>{st with ob:=upd st.ob k b}:=by
 obtain⟨n,x,h1,h2⟩:=Fs hl;refine⟨n,x,fun i hi=>by simp[SL.looks,h1,SOp.slots,hi],fun st o ho=> ?_⟩
 have key:∀(E':Env) rd,E'.G=E.G→AB E' rd st l.dst l.op=(Dx n o (st.ob k) (so E.G st.fr x)).map fun b=>{st with ob:=upd st.ob k b}:=fun E' rd hG=>by
  simp only[h1,AB,SOp.cls,AW,hG];rw[show so E.G st.fr (.t k)=.ptr k o from ho];simp only[Dx,deref];cases hb:st.ob k<;>simp only[hb]<;>try rfl
  generalize so E.G st.fr x=v
  cases v with
  |c cv=>cases cv<;>(simp only;split<;>rfl)
  |_=>simp only;split<;>rfl
 constructor
 ·unfold C1 B6;rw[h2];exact key E _ rfl
 ·unfold AS;rw[h2];exact key _ _ EU
theorem JM{l:SL}{k:Nat}{st:St}(hl:l.own A=some k)(h:okS A l st=true):∃o,st.fr k=.ptr k o:=by
 unfold okS at h;rw[hl]at h;simp only at h;split at h
 ·rename_i j o hj;have:j=k:=by simpa using h
  subst this;exact⟨o,hj⟩
 ·cases h
theorem JK{l:SL}(hok:DN A D l){st s:St}(ht:BG E.named l st.fr=none)(h:evR E A D l st=some s):evT E.named A D l (low st)=some (low s)∧∀i,As≤i→s.ob i=st.ob i:=by
 obtain⟨hcl,hos,h⟩:=HI h;have hos':okS A l (low st)=true:=hos
 cases hh:l.op.hard with
 |false=>
  rw[Mg hh ht,Ab]at h;obtain⟨p,h1,h2⟩:=h;obtain⟨h3,h4⟩:=UQ hok.dst h2;refine⟨E6 hos' ?_,h4⟩;rw[Cq hh,Ab];exact⟨p,h1,h3⟩
 |true=>
  obtain⟨k,hk,hkt⟩:=hok.hard hh;obtain⟨o,ho⟩:=JM hk hos;obtain⟨n,x,hx,hf⟩:=JS (E:=E.named) (D:=D) hk;rw[(hf st o ho).1,Aa]at h;obtain⟨b,h1,rfl⟩:=h;have hl:(low st).ob k=st.ob k:=by show(if As≤k then Ob.none else st.ob k)=_;rw[if_neg (by omega)]
  refine⟨E6 hos' ?_,fun i hi=>Ay _ _ (by omega)⟩;rw[(hf (low st) o ho).2,hl];show(Dx n o (st.ob k) (so E.named.G st.fr x)).map _=_;rw[h1];simp only[low,Option.map_some,Ac,St.mk.injEq,true_and];funext i;simp only[BZ,BM];by_cases h1:i=k
  ·subst h1;rw[if_pos rfl,if_pos rfl,if_neg (by omega)]
  ·rw[if_neg h1,if_neg h1]
theorem JL{l:SL}(hok:DN A D l){st t:St}(hcl:Cl st)(ht:BG E.named l st.fr=none)(h:evT E.named A D l (low st)=some t):evR E A D l st=some (merge t st)∧low (merge t st)=t:=by
 obtain⟨hos,h⟩:=Fh h;have hos':okS A l st=true:=hos
 cases hh:l.op.hard with
 |false=>
  rw[Cq hh,Ab]at h;obtain⟨p,h1,h2⟩:=h;obtain⟨h3,h4⟩:=M9 hok.dst h2;refine⟨Jm hcl hos' ?_,h4⟩;rw[Mg hh ht,Ab];exact⟨p,h1,h3⟩
 |true=>
  obtain⟨k,hk,hkt⟩:=hok.hard hh;obtain⟨o,ho⟩:=JM hk hos';obtain⟨n,x,hx,hf⟩:=JS (E:=E.named) (D:=D) hk;rw[(hf (low st) o ho).2,Aa]at h;obtain⟨b,h1,rfl⟩:=h;have hl:(low st).ob k=st.ob k:=by show(if As≤k then Ob.none else st.ob k)=_;rw[if_neg (by omega)]
  rw[hl]at h1;have h1':Dx n o (st.ob k) (so E.named.G st.fr x)=some b:=h1
  have e:merge {low st with ob:=upd (low st).ob k b} st={st with ob:=upd st.ob k b}:=by
   simp only[merge,low,St.mk.injEq,true_and];funext i;simp only[BZ,BM];by_cases h1:i=k
   ·subst h1;rw[if_pos rfl,if_neg (by omega),if_pos rfl]
   ·rw[if_neg h1,if_neg h1];split<;>rfl
  constructor
  ·refine Jm hcl hos' ?_;rw[(hf st o ho).1,h1',e];rfl
  ·rw[e];simp only[low,St.mk.injEq,true_and];funext i;simp only[BZ,BM];by_cases h1:i=k
   ·subst h1;rw[if_pos rfl,if_pos rfl,if_neg (by omega)]
   ·rw[if_neg h1,if_neg h1]
theorem Mt{l:SL}(hok:DN A D l){st s:St}(ht:BG E.named l st.fr=none)(h:evR E A D l st=some s):Cl s:=by
 obtain⟨hcl,hos,h⟩:=HI h
 cases hh:l.op.hard with
 |false=>
  rw[Mg hh ht,Ab]at h;obtain⟨p,h1,h2⟩:=h;refine RT hcl (RU hcl.fr (fun j=> ?_) (fun N hN=> ?_) hok.dst h1) h2
  ·intro cs hcs;simp only[AQ,BM]at hcs;split at hcs
   ·cases hcs
   ·split at hcs
    ·cases hcs
    ·exact hcl.ob j (by omega) cs hcs
  ·simp only[AQ,BM];rw[if_pos hN];split<;>rfl
 |true=>
  obtain⟨k,hk,hkt⟩:=hok.hard hh;obtain⟨o,ho⟩:=JM hk hos;obtain⟨n,x,hx,hf⟩:=JS (E:=E.named) (D:=D) hk;rw[(hf st o ho).1,Aa]at h;obtain⟨b,h1,rfl⟩:=h
  have hv:cl (so E.named.G st.fr x):=by
   cases x with
   |t i=>exact hcl.fr i
   |k c=>exact BO c
   |g i=>
    simp only[so]
    cases E.named.G i with
    |nil=>exact IU
    |cons c cs=>exact BO _
  refine⟨hcl.fr,fun j hj=> ?_⟩;show D2 (upd st.ob k b j);rw[BZ];split
  ·exact RV (hcl.ob k hkt) hv h1
  ·exact hcl.ob j hj
theorem JJ{l:SL}(hok:DN A D l){L t:St}(h:evT E.named A D l L=some t){i:Nat}(hi:l.dst≠some i):t.fr i=L.fr i:=by
 obtain⟨hos,h⟩:=Fh h
 cases hh:l.op.hard with
 |false=>exact MT hh h hi
 |true=>
  obtain⟨k,hk,hkt⟩:=hok.hard hh;obtain⟨o,ho⟩:=JM hk hos;obtain⟨n,x,hx,hf⟩:=JS (E:=E.named) (D:=D) hk;rw[(hf L o ho).2,Aa]at h;obtain⟨b,h1,rfl⟩:=h;rfl
theorem Pu{f:FuncId}{e:Eff}(h:E.named.ef f=some e):∀N,e.T.contains N=true→As≤N:=by
 have h':(match E.ef f with
  |some e=>if(e.T.all fun N=>Nat.ble As N)=true then some e else none
  |none=>none)=some e:=h
 split at h'<;>(try cases h';done);split at h'<;>(try cases h';done);rename_i hh;cases h';intro N hN;rw[List.all_eq_true]at hh;exact Ah (hh N (by simpa using hN))
theorem VV{l:SL}{fr:Nat→SV}{q:Eff×List SO×List CV}(h:BG E.named l fr=some q):∀N,q.1.T.contains N=true→As≤N:=by
 unfold BG efL at h;split at h<;>(try cases h;done);split at h<;>(try cases h;done)
 ·split at h<;>(try cases h;done);rename_i e he;cases h;exact Pu he
 ·split at h<;>(try cases h;done);split at h<;>(try cases h;done);rename_i e he;cases h;exact Pu he
theorem OS{T:List Nat}(hT:∀N,T.contains N=true→As≤N){s:SV}(h:cl s):Au T s=s:=by
 have key:∀id,s.ref=some id→¬T.contains id=true:=fun id hr hc=>by
  have:=h id hr;have:=hT id hc;omega
 cases s<;>simp only[Au]<;>first
  |rfl
  |(rw[if_neg (key _ rfl)])
def hiT(T:List Nat)(H:Nat→Ob)(ob:Nat→Ob):Nat→Ob:=fun i=>if T.contains i=true then H i else BX T (ob i)
theorem VU{T:List Nat}(hT:∀N,T.contains N=true→As≤N){H:Nat→Ob}{st:St}(h:Cl st):BY T H st={fr:=st.fr,ob:=fun i=>if As≤i then hiT T H st.ob i else st.ob i}:=by
 unfold BY;simp only[St.mk.injEq];refine⟨funext fun i=>OS hT (h.fr i),funext fun i=> ?_⟩;split
 ·rename_i hc;rw[if_pos (hT i hc)];show H i=(if _ then _ else _);rw[if_pos hc]
 ·rename_i hc;split
  ·show _=(if _ then _ else _);rw[if_neg hc]
  ·rename_i hi
   cases hob:st.ob i with
   |box cs=>
    simp only[BX,Ob.box.injEq];have h1:=h.ob i (by omega) cs hob;have h2:∀s∈cs,Au T s=s:=fun s hs=>OS hT (h1 s hs);exact(List.map_congr_left h2).trans (List.map_id _)
   |_=>rfl
theorem UA{T:List Nat}(hT:∀N,T.contains N=true→As≤N){ob ob':Nat→Ob}(h:∀i,As≤i→ob' i=ob i):Cc T ob'=Cc T ob:=by
 funext i;unfold Cc;split
 ·rename_i hc;rw[h i (hT i hc)]
 ·rfl
theorem Uf{l:SL}{fr:Nat→SV}{q:Eff×List SO×List CV}(h:BG E l fr=some q):∀x∈q.2.1,∀i∈x.slot,i∈l.looks:=by
 unfold BG efL at h;split at h<;>(try cases h;done);split at h<;>(try cases h;done)
 ·rename_i ho;split at h<;>(try cases h;done);cases h;intro x hx i hi;simp only[SL.looks,ho,SOp.slots,List.mem_append,List.mem_flatMap];exact .inl ⟨x,hx,hi⟩
 ·rename_i ho;split at h<;>(try cases h;done);split at h<;>(try cases h;done);cases h;intro x hx i hi;simp only[SL.looks,ho,SOp.slots,List.mem_append,List.mem_flatMap];exact .inl (.inr ⟨x,hx,hi⟩)
theorem Pg{l:SL}{st:St}{q:Eff×List SO×List CV}(h:BG E l st.fr=some q):C1 E D l st=Dl (so E.G st.fr) st l.dst q.1 q.2.1 q.2.2:=by
 unfold C1;rw[Lx];unfold BG at h;split at h<;>(try cases h;done);rename_i hg;rw[hg];simp only[Option.bind_some,if_true];unfold efL at h;split at h<;>(try cases h;done)
 ·rename_i ho;split at h<;>(try cases h;done);rename_i e he;cases h;simp only[ho,AB,SOp.cls,he]
 ·rename_i ho;split at h<;>(try cases h;done);rename_i hf;split at h<;>(try cases h;done);rename_i e he;cases h;simp only[ho,AB,SOp.cls,hf,he]
theorem N5{α β:Type}{f g:α→Option β}:∀{l:List α},(∀x∈l,f x=g x)→Aq f l=Aq g l
 | [],_=>rfl
 |x::l,h=>by
  simp only[Aq];rw[h x (by simp),N5 (l:=l) fun y hy=>h y (by simp[hy])]
theorem Lt{l:SL}{st s:St}{q:Eff×List SO×List CV}(ht:BG E.named l st.fr=some q)(h:evR E A D l st=some s):
  ∃(c:CV) (hi:Nat→Ob),s={fr:=(st.set l.dst (.c c)).fr,ob:=fun i=>if As≤i then hi i else st.ob i}∧∀st',(∀i∈l.looks,st'.fr i=st.fr i)→(∀i,As≤i→st'.ob i=st.ob i)→Cl st'→
   evR E A D l st'=some {fr:=(st'.set l.dst (.c c)).fr,ob:=fun i=>if As≤i then hi i else st'.ob i}:=by
 obtain⟨hcl,hos,h⟩:=HI h;have hT:=VV ht;rw[Pg ht]at h;unfold Dl at h;obtain⟨ls,h1,h⟩:=Ab.1 h;obtain⟨⟨c,H⟩,h2,h3⟩:=Ab.1 h
 have form:∀st0:St,Cl st0→(BY q.1.T H st0).set l.dst (.c c)={fr:=(st0.set l.dst (.c c)).fr,ob:=fun i=>if As≤i then hiT q.1.T H st0.ob i else st0.ob i}:=fun st0 h0=>by
  rw[VU hT h0];cases l.dst<;>rfl
 refine⟨c,hiT q.1.T H st.ob, ?_,fun st' hf hh hcl'=> ?_⟩
 ·cases h3;exact form st hcl
 ·have ht':BG E.named l st'.fr=some q:=by rw[KB hf];exact ht
  refine Jm hcl' (by unfold okS;rw[KZ (KA ht)]) ?_;rw[Pg ht'];unfold Dl
  have e1:Aq (fun x=>closed (so E.named.G st'.fr x)) q.2.1=Aq (fun x=>closed (so E.named.G st.fr x)) q.2.1:=N5 fun x hx=>by
   rw[Fz (fr':=st.fr) x fun i hi=>hf i (Uf ht x hx i hi)]
  rw[e1,h1,Option.bind_some,UA hT hh,h2,Option.bind_some,form st' hcl'];simp only[Ac,St.mk.injEq,true_and];funext i;split
  ·rename_i hi;simp only[hiT,hh i hi]
  ·rfl
theorem Oo{st:St}(h:Cl st)(d:Option Nat)(c:CV)(hi:Nat→Ob):Cl {fr:=(st.set d (.c c)).fr,ob:=fun i=>if As≤i then hi i else st.ob i}:=by
 refine⟨fun i=> ?_,fun j hj=> ?_⟩
 ·cases d with
  |none=>exact h.fr i
  |some d=>
   show cl (upd st.fr d (.c c) i);rw[BZ];split
   ·exact BO c
   ·exact h.fr i
 ·show D2 (if As≤j then hi j else st.ob j);rw[if_neg (by omega)];exact h.ob j hj
def I1(d:Option Nat)(c:CV):SL:=⟨d,.mov (.k c),none⟩
theorem Kn{L:St}{d:Option Nat}{c:CV}:evT E A D (I1 d c) L=some (L.set d (.c c)):=E6 rfl rfl
theorem JC{st:St}(d:Option Nat)(c:CV)(hi:Nat→Ob):low {fr:=(st.set d (.c c)).fr,ob:=fun i=>if As≤i then hi i else st.ob i}=(low st).set d (.c c):=by
 have e:(low st).set d (.c c)=low (st.set d (.c c)):=by cases d<;>rfl
 rw[e];simp only[low,St.mk.injEq,true_and];funext i;simp only[BM];split
 ·rfl
 ·cases d<;>rfl
theorem LH{op:SOp}{D:List Nat}{i:Nat}(h:(hid op D).contains i=true):D.contains i=true:=by
 unfold hid at h;split at h
 ·simp only[List.contains_eq_mem,List.mem_filter,decide_eq_true_eq]at h⊢;exact h.1
 ·exact h
theorem O9{a b:SL}(q1:(a.dst.all fun d=> !b.looks.contains d&&b.dst !=some d)=true)(q2:(b.dst.all fun d=> !a.looks.contains d)=true)
  (q3:(a.op.hard=false∧b.op.hard=false∧(a.op.makes=true→(a.dst.all fun d=>(hid b.op D).contains d)=true)∧(b.op.makes=true→(b.dst.all fun d=>(hid a.op D).contains d)=true))∨(∃k,a.own A=none∧b.own A=some k∧a.op.hard=false∧(hid a.op D).contains k=true)∨(∃k,a.own A=some k∧b.own A=none∧b.op.hard=false∧(hid b.op D).contains k=true)):Cs A D a b=true:=by
 unfold Cs Fj;rw[q1,q2];rcases q3 with⟨h1,h2,h3,h4⟩|⟨k,h1,h2,h3,h4⟩|⟨k,h1,h2,h3,h4⟩
 ·rw[h1,h2]
  have e3:(!a.op.makes||(a.dst.all fun d=>(hid b.op D).contains d))=true:=by
   cases hm:a.op.makes with
   |false=>rfl
   |true=>rw[h3 hm];rfl
  have e4:(!b.op.makes||(b.dst.all fun d=>(hid a.op D).contains d))=true:=by
   cases hm:b.op.makes with
   |false=>rfl
   |true=>rw[h4 hm];rfl
  rw[e3,e4];rfl
 ·rw[h1,h2,h3];simp only[h4];simp
 ·rw[h1,h2,h3];simp only[h4];simp
theorem Tp{a b:SL}(ha:a.op.calls=true)(h:Cs A D a b=true):(a.dst.all fun d=> !b.looks.contains d&&b.dst !=some d)=true∧(b.dst.all fun d=> !a.looks.contains d)=true∧
  ((b.op.hard=false∧(b.op.makes=true→(b.dst.all fun d=>(hid a.op D).contains d)=true))∨∃k,b.own A=some k∧(hid a.op D).contains k=true):=by
 have h1:a.op.grows=false:=by revert ha;cases a.op<;>simp[SOp.calls,SOp.grows]
 have h2:a.op.calm=false:=by revert ha;cases a.op<;>simp[SOp.calls,SOp.calm]
 have h3:a.op.still=false:=by revert ha;cases a.op<;>simp[SOp.calls,SOp.still]
 unfold Cs Fj at h;rw[KZ ha,La ha,h1,h2,h3]at h;simp only[Bool.not_false,Bool.true_and,Bool.false_and,Bool.and_false,Bool.or_false]at h;rw[Aj]at h;rcases h with h|h
 ·simp only[Af,Aj,Bool.not_eq_true']at h;refine⟨?_, ?_,.inl ⟨h.2.1.1,fun hm=> ?_⟩⟩
  ·simpa only[Af,Bool.not_eq_true']using h.1.1
  ·simpa only[Bool.not_eq_true']using h.1.2
  ·rcases h.2.2 with h4|h4
   ·rw[hm]at h4;cases h4
   ·exact h4
 ·rw[Af,Af]at h;refine⟨h.1.1,h.1.2,.inr ?_⟩;have h4:=h.2;split at h4
  ·rename_i hn _;cases hn
  ·rename_i hn _;cases hn
  ·rename_i k _ hb;exact⟨k,hb,h4⟩
  ·cases h4
theorem Tq{a b:SL}(hb:b.op.calls=true)(h:Cs A D a b=true):(a.dst.all fun d=> !b.looks.contains d&&b.dst !=some d)=true∧(b.dst.all fun d=> !a.looks.contains d)=true∧
  ((a.op.hard=false∧(a.op.makes=true→(a.dst.all fun d=>(hid b.op D).contains d)=true))∨∃k,a.own A=some k∧(hid b.op D).contains k=true):=by
 have h1:b.op.entry=false:=by revert hb;cases b.op<;>simp[SOp.calls,SOp.entry]
 have h2:b.op.stores=false:=by revert hb;cases b.op<;>simp[SOp.calls,SOp.stores]
 have h3:b.op.tame=false:=by revert hb;cases b.op<;>simp[SOp.calls,SOp.tame]
 unfold Cs Fj at h;rw[KZ hb,La hb,h1,h2,h3]at h;simp only[Bool.not_false,Bool.true_and,Bool.false_and,Bool.and_false,Bool.or_false]at h;rw[Aj]at h;rcases h with h|h
 ·simp only[Af,Aj,Bool.not_eq_true']at h;refine⟨?_, ?_,.inl ⟨h.2.1,fun hm=> ?_⟩⟩
  ·simpa only[Af,Bool.not_eq_true']using h.1.1
  ·simpa only[Bool.not_eq_true']using h.1.2
  ·rcases h.2.2.1 with h4|h4
   ·rw[hm]at h4;cases h4
   ·exact h4
 ·rw[Af,Af]at h;refine⟨h.1.1,h.1.2,.inr ?_⟩;have h4:=h.2;split at h4
  ·rename_i hn;cases hn
  ·rename_i k ha _;exact⟨k,ha,h4⟩
  ·rename_i hn;cases hn
  ·cases h4
theorem N8{d:Option Nat}{op:SOp}(h:(d.all fun d=>(hid op D).contains d)=true):(d.all fun d=>D.contains d)=true:=by
 cases d with
 |none=>rfl
 |some d=>exact LH h
theorem Tr{a b:SL}(ha:a.op.calls=true)(c:CV)(h:Cs A D a b=true):Cs A D (I1 a.dst c) b=true:=by
 obtain⟨q1,q2,q3⟩:=Tp ha h;refine O9 q1 (by cases b.dst<;>rfl) ?_;rcases q3 with⟨q3,q4⟩|⟨k,q3,q4⟩
 ·exact .inl ⟨rfl,q3,fun hm=>(by cases hm),fun hm=>N8 (q4 hm)⟩
 ·exact .inr (.inl ⟨k,rfl,q3,rfl,LH q4⟩)
theorem Ts{a b:SL}(hb:b.op.calls=true)(c:CV)(h:Cs A D a b=true):Cs A D a (I1 b.dst c)=true:=by
 obtain⟨q1,q2,q3⟩:=Tq hb h;refine O9 ?_ q2 ?_
 ·cases ha:a.dst with
  |none=>rfl
  |some d=>
   rw[ha]at q1;simp only[Option.all_some,Af]at q1⊢;exact⟨rfl,q1.2⟩
 ·rcases q3 with⟨q3,q4⟩|⟨k,q3,q4⟩
  ·exact .inl ⟨q3,rfl,fun hm=>N8 (q4 hm),fun hm=>(by cases hm)⟩
  ·exact .inr (.inr ⟨k,q3,rfl,rfl,LH q4⟩)
theorem Q2{st:St}{d:Option Nat}{v:SV}{i:Nat}(h:d≠some i):(st.set d v).fr i=st.fr i:=by
 cases d with
 |none=>rfl
 |some d=>exact Ay _ _ (fun e=>h (by rw[e]))
theorem Mf{s t:St}(h1:low s=low t)(h2:∀i,As≤i→s.ob i=t.ob i):s=t:=by
 obtain⟨f1,o1⟩:=s;obtain⟨f2,o2⟩:=t;simp only[low,St.mk.injEq]at h1;simp only[St.mk.injEq];refine⟨h1.1,funext fun i=> ?_⟩;by_cases hi:As≤i
 ·exact h2 i hi
 ·have:=congrFun h1.2 i;simp only[BM,if_neg hi]at this;exact this
theorem VE{a b:SL}(hf:Cs A D a b=true)(hcc:(a.op.calls&&b.op.calls)=false)(la:DN A D a)(lb:DN A D b){st s1 s2:St}(h1:evR E A D a st=some s1)(h2:evR E A D b s1=some s2):∃s,evR E A D b st=some s∧evR E A D a s=some s2:=by
 have hcl:Cl st:=(HI h1).1
 have g1:(a.dst.all fun d=> !b.looks.contains d&&b.dst !=some d)=true∧(b.dst.all fun d=> !a.looks.contains d)=true:=by
  unfold Cs Fj at hf;rw[Aj]at hf;rcases hf with hf|hf
  ·rw[Af,Af]at hf;exact hf.1
  ·rw[Af,Af]at hf;exact hf.1
 have hab:∀i∈b.looks,a.dst≠some i:=fun i hi e=>by
  have:=g1.1;rw[e]at this;simp[hi]at this
 have hba:∀i∈a.looks,b.dst≠some i:=fun i hi e=>by
  have:=g1.2;rw[e]at this;simp[hi]at this
 cases ha:BG E.named a st.fr with
 |some q=>
  have hac:=KA ha;have hbc:b.op.calls=false:=by rw[hac]at hcc;simpa using hcc
  have hbt:∀fr,BG E.named b fr=none:=fun fr=>by
   cases ht:BG E.named b fr with
   |none=>rfl
   |some q'=>have:=KA ht;rw[hbc]at this;cases this
  obtain⟨c,hi,rfl,hform⟩:=Lt ha h1;obtain⟨k1,k2⟩:=JK lb (hbt _) h2;rw[JC]at k1;have hset:evT E.named A D (I1 a.dst c) (low st)=some ((low st).set a.dst (.c c)):=Kn;obtain⟨t,t1,t2⟩:=Jo (Tr hac c hf) (fun hm=>by cases hm) lb.makes hset k1;rw[Kn,Ac]at t2;obtain⟨m1,m2⟩:=JL lb hcl (hbt _) t1;have hcs:Cl (merge t st):=Mt lb (hbt _) m1;refine⟨merge t st,m1, ?_⟩;rw[hform (merge t st) (fun i hi'=>JJ lb t1 (hba i hi')) (fun i hi'=>by show(if As≤i then st.ob i else t.ob i)=_;rw[if_pos hi']) hcs,Ac];refine Mf ?_ fun i hi'=> ?_
  ·rw[JC,m2,t2]
  ·rw[k2 i hi'];show(if As≤i then hi i else(merge t st).ob i)=if As≤i then hi i else st.ob i;rw[if_pos hi',if_pos hi']
 |none=>
  obtain⟨j1,j2⟩:=JK la ha h1;have hfa:∀i∈b.looks,s1.fr i=st.fr i:=fun i hi=>JJ la j1 (hab i hi)
  cases hb:BG E.named b s1.fr with
  |none=>
   obtain⟨k1,k2⟩:=JK lb hb h2;obtain⟨t,t1,t2⟩:=Jo hf la.makes lb.makes j1 k1;have hb':BG E.named b st.fr=none:=by rw[←KB hfa];exact hb
   obtain⟨m1,m2⟩:=JL lb hcl hb' t1;have hcs:Cl (merge t st):=Mt lb hb' m1
   have ha':BG E.named a (merge t st).fr=none:=by
    rw[KB (fr':=st.fr) (show ∀i∈a.looks,(merge t st).fr i=st.fr i from fun i hi=>JJ lb t1 (hba i hi))];exact ha
   rw[←m2]at t2;obtain⟨n1,n2⟩:=JL la hcs ha' t2;refine⟨merge t st,m1, ?_⟩;rw[n1,Ac];refine Mf n2 fun i hi=> ?_;rw[k2 i hi,j2 i hi];show(if As≤i then(if As≤i then st.ob i else t.ob i)else _)=_;rw[if_pos hi,if_pos hi]
  |some q=>
   have hbc:=KA hb;obtain⟨c,hi,rfl,hform⟩:=Lt hb h2;have hset:evT E.named A D (I1 b.dst c) (low s1)=some ((low s1).set b.dst (.c c)):=Kn;obtain⟨t,t1,t2⟩:=Jo (Ts hbc c hf) la.makes (fun hm=>by cases hm) j1 hset;rw[Kn,Ac]at t1;subst t1;have m1:=hform st (fun i hi=>(hfa i hi).symm) (fun i hi=>(j2 i hi).symm) hcl;refine⟨_,m1, ?_⟩;have hcs:=Oo hcl b.dst c hi
   have ha':BG E.named a (st.set b.dst (.c c)).fr=none:=by
    rw[KB (fr':=st.fr) fun i hi=>Q2 (hba i hi)];exact ha
   rw[←JC b.dst c hi]at t2;obtain⟨n1,n2⟩:=JL la hcs ha' t2;rw[n1,Ac];refine Mf ?_ fun i hi'=> ?_
   ·rw[n2,JC]
   ·show(if As≤i then(if As≤i then hi i else st.ob i)else _)=if As≤i then hi i else s1.ob i;rw[if_pos hi',if_pos hi',if_pos hi']
end
def CR(step:SL→St→Option St)(ls:List SL):List Nat→St→Option St
 | [],st=>some st
 |i::is,st=>match ls[i]? with
  |some l=>(step l st).bind (CR step ls is)
  |none=>none
section
variable {step:SL→St→Option St} {R:SL→SL→Prop} {ops:Array Oper} {ls:List SL}
theorem Pt(hsw:∀a b st s1 s2,R a b→step a st=some s1→step b s1=some s2→∃s,step b st=some s∧step a s=some s2){i:Nat}{b:SL}(hb:ls[i]? =some b)(q:List Nat):∀(p:List Nat) {st st':St},(∀j∈p,∃a,ls[j]? =some a∧R a b)→CR step ls (p++i::q) st=some st'→CR step ls (i::(p++q)) st=some st'
 | [],_,_,_,h=>h
 |j::p,st,st',hf,h=>by
  obtain⟨a,ha,hfr⟩:=hf j (by simp);simp only[List.cons_append,CR,ha,Ab]at h;obtain⟨s1,h1,h2⟩:=h;have h3:=Pt hsw hb q p (fun j hj=>hf j (by simp[hj])) h2;simp only[CR,hb,Ab]at h3;obtain⟨s2,h3,h4⟩:=h3;obtain⟨s,g1,g2⟩:=hsw a b st s1 s2 hfr h1 h3;simp only[List.cons_append,CR,hb,ha,g1,g2,Option.bind_some,h4]
theorem T6(hsw:∀a b st s1 s2,R a b→step a st=some s1→step b s1=some s2→∃s,step b st=some s∧step a s=some s2)(hlen:ls.length=ops.size)
  (hfree:∀j<ls.length,∀i<j,FA ops ls.length i j=true∨∃x y,ls[i]? =some x∧ls[j]? =some y∧R x y) {L:Array Bool} {is:List Nat} (hg:Dg ops L is):
  (∀i o,L.getD i false=true→ops[i]? =some o→∀e∈o.after,Region.binds .any e=true→L.getD e.on false=true)→L.size=ops.size→∀{st st':St},CR step ls (left ops.size L) st=some st'→CR step ls is st=some st':=by
 induction hg with
 |nil h=>
  intro _ _ st st' hv;rw[h]at hv;exact hv
 | @cons L i is hi hL he hg ih=>
  intro hdown hsz st st' hv;obtain⟨p,q,e1,e2,e3⟩:=J6 ops.size L i hi hL;have hb:ls[i]? =some (ls[i]'(by omega)):=Ai _;rw[e1]at hv
  have hv':=Pt hsw hb q p (fun j hj=>by
   obtain⟨hji,hjL⟩:=e3 j hj;rcases hfree i (by omega) j hji with ha|⟨x,y,hx,hy,hf⟩
   ·have:=KN hdown _ j i he ha;have hjs:j<L.size:=by omega
    simp[Array.getD_eq_getD_getElem?,Array.getElem?_eq_getElem hjs]at this hjL;rw[this]at hjL;cases hjL
   ·rw[hb]at hy;cases hy
    exact⟨x,hx,hf⟩) hv
  simp only[CR,hb,Ab]at hv'⊢;obtain⟨s,h1,h2⟩:=hv';refine⟨s,h1,ih ?_ (by simp[hsz]) (by rw[e2];exact h2)⟩;intro k o hk ho e hem heb;rw[Jq L i _ _ hL]at hk⊢;split
  ·rfl
  ·split at hk
   ·rename_i e';subst e';exact he o ho e hem heb
   ·exact hdown k o hk ho e hem heb
end
def LW(A:List Nat)(l:SL):Bool:=(!l.op.hard||(match l.own A with
 |some k=>Nat.blt k As
 |none=>false))&&l.dst.all fun j=>Nat.blt j As
def Jf(P:Program)(ops:Array Oper)(A D:List Nat)(ls:List SL):Bool:=
 (ls.any fun l=>l.op.calls)&&(ls.all (LW A))&&D8 P ops A D ls&&
 ((List.range ls.length).all fun j=>match ls[j]? with
   |some y=> !y.op.calls||(List.range j).all fun i=>((Dr ops ls.length).getD j 0).testBit i||match ls[i]? with
    |some x=> !x.op.calls
    |none=>false
   |none=>false)
section
variable {P:Program} {E:Env} {n:Nat} {ops:Array Oper} {A D:List Nat} {ls:List SL}
theorem TY{l:SL}(h:LW A l=true)(hm:l.op.makes=true→∀j,l.dst=some j→D.contains j=true):DN A D l:=by
 simp only[LW,Af,Aj,Bool.not_eq_true']at h;refine⟨fun hh=> ?_,fun j hj=> ?_,hm⟩
 ·rcases h.1 with h1|h1
  ·rw[hh]at h1;cases h1
  ·split at h1
   ·rename_i k hk;exact⟨k,hk,Nat.lt_of_succ_le (Ah h1)⟩
   ·cases h1
 ·have:=h.2;rw[hj]at this;exact Nat.lt_of_succ_le (Ah this)
noncomputable def lsR(E:Env)(A D:List Nat):List SL→St→Option St
 | [],st=>some st
 |l::ls,st=>(evR E A D l st).bind (lsR E A D ls)
theorem VX{l:SL}{st s:St}{a:Nat}(hl:l.own A=some a)(h:C1 E D l st=some s)(hf:st.fr a=.undef):False:=by
 obtain⟨n,x,h1,h2⟩:=Fs hl;unfold C1 B6 at h;rw[h2]at h;simp only[h1,AB,SOp.cls,AW]at h;rw[show so E.G st.fr (.t a)=.undef from hf]at h;cases h
theorem PF:∀(ls:List SL) (m:List Nat) {st s:St},(∀l∈ls,DN A D l)→(∀a∈m,st.fr a=.ptr a 0∨st.fr a=.undef)→Cl st→GP A m ls=true→Fi E.named D ls st=some s→lsR E A D ls st=some s
 | [],_,_,_,_,_,_,_,h=>h
 |l::ls,m,st,s,hok,hm,hcl,hk,h=>by
  simp only[Fi,Ab]at h;obtain⟨s1,h1,h2⟩:=h;simp only[GP,Af]at hk;obtain⟨k1,k2⟩:=hk;have hlo:=hok l (by simp)
  have hos:okS A l st=true:=by
   unfold okS
   cases hl:l.own A with
   |none=>rfl
   |some a=>
    rw[hl]at k1;simp only[List.contains_iff_mem]at k1;rcases hm a k1 with e|e
    ·simp[e]
    ·exact(VX hl h1 e).elim
  have hev:=Jm hcl hos h1;simp only[lsR,hev,Option.bind_some]
  have hnext:Cl s1∧(∀i,l.dst≠some i→s1.fr i=st.fr i):=by
   cases ht:BG E.named l st.fr with
   |none=>
    refine⟨Mt hlo ht hev,fun i hi=> ?_⟩;exact JJ hlo (JK hlo ht hev).1 hi
   |some q=>
    obtain⟨c,hi,rfl,_⟩:=Lt ht hev;exact⟨Oo hcl _ _ _,fun i hd=>Q2 hd⟩
  refine PF ls _ (fun l hl=>hok l (by simp[hl])) ?_ hnext.1 k2 h2
  have hkeep:∀a∈m,l.dst≠some a→s1.fr a=.ptr a 0∨s1.fr a=.undef:=by
   intro a ha hd;rw[hnext.2 a hd];exact hm a ha
  intro a ha;unfold Mq at ha;split at ha
  ·rename_i z d g1 g2 g3;by_cases had:a=d
   ·subst had;unfold C1 B6 at h1;simp only[g2,g1,AB,SOp.cls,BE,Option.bind_some,g3,Option.getD_some,BA]at h1;split at h1
    ·cases h1;exact .inl (Bl _ _ _)
    ·cases h1
   ·rcases List.mem_cons.1 ha with e|e
    ·exact(had e).elim
    ·exact hkeep a e (fun hh=>had (by rw[g3]at hh;cases hh;rfl))
  ·rename_i d g2 g1;rw[List.mem_filter]at ha;exact hkeep a ha.1 (fun hh=>by rw[g2]at hh;cases hh;simp at ha)
  ·rename_i g1;exact hkeep a ha (fun hh=>by rw[g1]at hh;cases hh)
theorem Ph:∀(ls:List SL) (pre:List SL) (st:St),CR (evR E A D) (pre++ls) (List.range' pre.length ls.length) st=lsR E A D ls st
 | [],_,_=>rfl
 |l::ls,pre,st=>by
  have h:=Ph ls (pre++ [l]);simp only[List.length_append,List.length_cons,List.length_nil,List.append_assoc,List.cons_append,List.nil_append]at h;simp only[List.length_cons,List.range'_succ,CR,lsR];rw[show(pre++l::ls)[pre.length]? =some l by simp];simp only
  congr 1
  funext s;exact h s
theorem S4(hc:Aq (DR P n ops) ops.toList=some ls)(hd:Jf P ops A D ls=true){st st':St}(hcl:Cl st)(hv:Fi E.named D ls st=some st')(t:Nat):
  CR (evR E A D) ls (Region.schedule (P.follows .mixedOrders) ops t) st=some st':=by
 have hlen:ls.length=ops.size:=by rw[DO hc];simp
 simp only[Jf,Af]at hd;obtain⟨⟨⟨_,hlb⟩,hdo⟩,hcb⟩:=hd;simp only[D8,Af]at hdo;obtain⟨⟨⟨⟨hm,hown⟩,hback⟩,hmk⟩,hfr⟩:=hdo
 have hmk':∀l∈ls,l.op.makes=true→∀j,l.dst=some j→D.contains j=true:=by
  intro l hl hmake j hj;rw[List.all_eq_true]at hmk;have:=hmk l hl;simpa[hmake,hj]using this
 have hok:∀l∈ls,DN A D l:=fun l hl=>by
  rw[List.all_eq_true]at hlb;exact TY (hlb l hl) (hmk' l hl)
 have hv:=PF ls [] hok (by simp) hcl hown hv;simp only[Region.schedule,hm,Bool.true_or,if_true,Region.linearise]
 have hleft:left ops.size (Array.replicate ops.size false)=List.range ops.size:=by
  simp only[left];rw[List.filter_eq_self];intro i hi;have:=List.mem_range.1 hi;simp[Array.getD_eq_getD_getElem?,this]
 have hback':∀i o,ops[i]? =some o→∀e∈o.after,Region.binds .any e=true→e.on<i:=by
  intro i o ho e he hb;rw[List.all_eq_true]at hback
  have hmem:(o,i)∈ops.toList.zipIdx:=by
   rw[List.mem_zipIdx_iff_getElem?];simpa using ho
  have:=hback _ hmem;rw[Array.all_eq_true']at this;have:=this e he;simpa[hb]using this
 refine T6 (R:=fun a b=>Cs A D a b=true∧(a.op.calls&&b.op.calls)=false∧DN A D a∧DN A D b) (fun a b st s1 s2 hR h1 h2=>VE hR.1 hR.2.1 hR.2.2.1 hR.2.2.2 h1 h2) hlen ?_ (J8 hback' ops.size t _ (by simp) (by rw[hleft];simp)) ?_ (by simp) ?_
 ·intro j hj i hij;rw[List.all_eq_true]at hfr hcb;have h1:=hfr j (List.mem_range.2 hj);rw[List.all_eq_true]at h1;have h1:=h1 i (List.mem_range.2 hij);rw[Aj]at h1;rcases h1 with h|h
  ·rw[GI ops hj]at h;exact .inl (JD ops hj h)
  ·have hcj:=hcb j (List.mem_range.2 hj);split at h
   ·rename_i x y hx hy;rw[hy]at hcj;simp only[Aj,Bool.not_eq_true',List.all_eq_true]at hcj;have hx':=List.mem_of_getElem? hx;have hy':=List.mem_of_getElem? hy;rcases hcj with hcj|hcj
    ·exact .inr ⟨x,y,hx,hy,h,by rw[hcj,Bool.and_false],hok x hx',hok y hy'⟩
    ·rcases hcj i (List.mem_range.2 hij)with h2|h2
     ·rw[GI ops hj]at h2;exact .inl (JD ops hj h2)
     ·rw[hx]at h2;simp only[Bool.not_eq_true']at h2;exact .inr ⟨x,y,hx,hy,h,by rw[h2,Bool.false_and],hok x hx',hok y hy'⟩
   ·cases h
 ·intro i o hi;exfalso;rw[Array.getD_eq_getD_getElem?,Array.getElem?_replicate]at hi;split at hi<;>cases hi
 ·rw[hleft,List.range_eq_range',←hlen];have:=Ph (E:=E) (A:=A) (D:=D) ls [] st;simp only[List.nil_append,List.length_nil]at this;rw[this];exact hv
variable {w0:WL} {M0:MM}
theorem Qx(hE:EOk P E)(hc:Aq (DR P n ops) ops.toList=some ls){Q:Exit→Act→World→Prop}:∀{is:List Nat} {st st':St} {a:Act} {w:World} {z:Cz},SR P E.G w0 M0 n st a w z→
  CR (evR E A D) ls is st=some st'→(∀a' w' z',SR P E.G w0 M0 n st' a' w' z'→Q .normal a' w')→wpOps P ops Q is a w
 | [],st,st',a,w,z,h,hv,hK=>by
  simp only[CR,Ac]at hv;subst hv;exact hK _ _ _ h
 |i::is,st,st',a,w,z,h,hv,hK=>by
  simp only[CR]at hv;split at hv<;>(try cases hv;done);rename_i l hl;simp only[Ab]at hv;obtain⟨st1,h1,h2⟩:=hv;have hlen:=DO hc;have hi:i<ops.toList.length:=by rw[←hlen];exact(Ae.1 hl).1
  have ho:ops.toList[i]? =some (ops.toList[i]):=Ai hi;obtain⟨l',g1,g2⟩:=IJ hc ho;rw[hl]at g1;simp only[Ac]at g1;subst g1;have ho':ops[i]? =some (ops.toList[i]):=by rw[←Array.getElem?_toList];exact ho
  obtain⟨hcl,_,h1⟩:=HI h1;refine O2 (E:=E.named) hE.named h (rd:=AQ (some (hid l.op D)) (BM st.ob)) (fun id=> ?_) ho' g2 h1 fun a' w' z' hS=>Qx hE hc hS h2 hK;simp only[AQ,BM];split
  ·exact .inl rfl
  ·split
   ·exact .inl rfl
   ·exact .inr rfl
end
def pos(π:List Nat)(i:Nat):Nat:=π.idxOf i
def GT(π:List Nat)(o:Oper):Oper:={o with after:=o.after.map fun e=>{e with on:=pos π e.on}}
def Fu(π:List Nat)(ops:Array Oper):Array Oper:=(π.filterMap fun i=>(ops[i]?).map (GT π)).toArray
def permL(π:List Nat)(ls:List SL):List SL:=π.filterMap fun i=>ls[i]?
def Ft(π:List Nat)(L:Array Bool):Array Bool:=(π.map fun j=>L.getD j true).toArray
def C4(n:Nat)(π:List Nat):Bool:=π.length==n&&((List.range n).all fun k=>π.contains k&&Nat.blt (π.getD k n) n&&pos π (π.getD k n)==k)
theorem Ly{α β:Type}{f:α→Option β}:∀{l:List α},(∀x∈l,(f x).isSome=true)→∀k:Nat,(l.filterMap f)[k]? =(l[k]?).bind f
 | [],_,k=>by simp
 |x::l,h,k=>by
  obtain⟨y,hy⟩:=Option.isSome_iff_exists.1 (h x (by simp));rw[List.filterMap_cons_some hy]
  cases k with
  |zero=>simp[hy]
  |succ k=>simpa using Ly (fun z hz=>h z (by simp[hz])) k
section
variable {n:Nat} {π:List Nat}
theorem FZ(hp:C4 n π=true):π.length=n:=by
 simp only[C4,Af,beq_iff_eq]at hp;exact hp.1
theorem JY(hp:C4 n π=true){k:Nat}(hk:k<n):∃j,π[k]? =some j∧j<n∧pos π j=k:=by
 have hlen:=FZ hp;simp only[C4,Af,List.all_eq_true,List.mem_range]at hp;have h:=hp.2 k hk;have e:π[k]? =some (π[k]'(by omega)):=Ai _;simp only[List.getD_eq_getElem?_getD,e,Option.getD_some,beq_iff_eq]at h;exact⟨_,e,by simpa using h.1.2,h.2⟩
theorem UG(hp:C4 n π=true){i:Nat}(hi:i<n):i∈π:=by
 simp only[C4,Af,List.all_eq_true,List.mem_range]at hp;simpa using(hp.2 i hi).1.1
theorem In(hp:C4 n π=true){i:Nat}(hi:i<n):pos π i<n∧π[pos π i]? =some i:=by
 have h:=UG hp hi;have h1:π.idxOf i<π.length:=List.idxOf_lt_length_iff.2 h;refine⟨by rw[←FZ hp];exact h1, ?_⟩;unfold pos;rw[Ai h1,List.getElem_idxOf]
theorem JZ(hp:C4 n π=true){j:Nat}(h:j∈π):j<n:=by
 obtain⟨k,hk⟩:=List.getElem?_of_mem h;have hkn:k<n:=by rw[←FZ hp];exact(Ae.1 hk).1
 obtain⟨j',h1,h2,_⟩:=JY hp hkn;rw[hk]at h1;cases h1;exact h2
theorem M8(hp:C4 n π=true){L:Array Bool}{i:Nat}(hi:i<n)(b:Bool)(hL:L.size=n):(Ft π L).getD (pos π i) b=L.getD i b:=by
 obtain⟨h1,h2⟩:=In hp hi;simp[Ft,Array.getD_eq_getD_getElem?,h2,Array.getElem?_eq_getElem (show i<L.size by omega)]
theorem UC(hp:C4 n π=true){L:Array Bool}{i:Nat}(hi:i<n)(hL:L.getD i true=false):Ft π (L.setIfInBounds i true)=(Ft π L).setIfInBounds (pos π i) true:=by
 obtain⟨h1,h2⟩:=In hp hi;have hlen:=FZ hp;apply Array.ext_getElem?;intro k;simp only[Ft,List.getElem?_toArray,List.getElem?_map,Array.getElem?_setIfInBounds,List.size_toArray,List.length_map];by_cases hk:k<n
 ·obtain⟨j,g1,g2,g3⟩:=JY hp hk;simp only[g1,Option.map_some,Jq L i j true hL];by_cases hj:j=i
  ·subst hj;simp[g3,hlen,hk]
  ·have:¬pos π i=k:=fun e=>hj (by rw[e,g1]at h2;exact Option.some.inj h2);simp[hj,this]
 ·have e:π[k]? =none:=List.getElem?_eq_none (by omega);have:¬pos π i=k:=by omega
  simp[e,this]
end
theorem UF{π:List Nat}{ops:Array Oper}(hp:C4 ops.size π=true){i:Nat}(hi:i<ops.size):(Fu π ops)[pos π i]? =(ops[i]?).map (GT π):=by
 obtain⟨h1,h2⟩:=In hp hi;simp only[Fu,List.getElem?_toArray];rw[Ly (fun x hx=> ?_),h2]
 ·rfl
 ·have:=JZ hp hx;simp[Array.getElem?_eq_getElem this]
theorem JX{π:List Nat}{ops:Array Oper}(hp:C4 ops.size π=true):(Fu π ops).size=ops.size:=by
 have h:(π.filterMap fun i=>(ops[i]?).map (GT π)).length=π.length:=by
  have:∀(l:List Nat),(∀x∈l,x<ops.size)→(l.filterMap fun i=>(ops[i]?).map (GT π)).length=l.length:=by
   intro l
   induction l with
   |nil=>intro _;rfl
   |cons x l ih=>
    intro h;rw[List.filterMap_cons_some (b:=GT π (ops[x]'(h x (by simp)))) (by simp[Array.getElem?_eq_getElem (h x (by simp))])];simp[ih fun y hy=>h y (by simp[hy])]
  exact this π fun x hx=>JZ hp hx
 simp only[Fu,List.size_toArray,h,FZ hp]
theorem T5{π:List Nat}{ops:Array Oper}(hp:C4 ops.size π=true){L:Array Bool}{is:List Nat}(hg:Dg ops L is):L.size=ops.size→Dg (Fu π ops) (Ft π L) (is.map (pos π)):=by
 induction hg with
 | @nil L h=>
  intro hs;refine .nil ?_;simp only[left]at h⊢;rw[List.filter_eq_nil_iff]at h⊢;intro k hk;rw[List.mem_range,JX hp]at hk;obtain⟨j,g1,g2,g3⟩:=JY hp hk;have:=h j (List.mem_range.2 g2);rw[←g3,M8 hp g2 _ hs];exact this
 | @cons L i is hi hL he hg ih=>
  intro hs;have hq:=In hp hi;refine .cons (by rw[JX hp];exact hq.1) (by rw[M8 hp hi _ hs];exact hL) ?_ ?_
  ·intro o' ho' e' he' hb;rw[UF hp hi]at ho';obtain⟨o,ho,rfl⟩:=Aa.1 ho';simp only[GT,Array.mem_map]at he';obtain⟨e,hem,rfl⟩:=he';have h1:=he o ho e hem hb
   have h2:e.on<ops.size:=by
    rw[←hs];rw[Array.getD_eq_getD_getElem?]at h1;by_cases hh:e.on<L.size
    ·exact hh
    ·simp[Array.getElem?_eq_none (Nat.le_of_not_lt hh)]at h1
   rw[M8 hp h2 _ hs];exact h1
  ·rw[←UC hp hi hL];exact ih (by simp[hs])
section
variable {P:Program} {E:Env} {ops:Array Oper} {A D:List Nat} {ls:List SL}
theorem R0(h:(ops.toList.zipIdx.all fun p=>p.1.after.all fun e=> !(Region.binds .any e)||decide (e.on<p.2))=true):∀i o,ops[i]? =some o→∀e∈o.after,Region.binds .any e=true→e.on<i:=by
 intro i o ho e he hb;rw[List.all_eq_true]at h
 have hmem:(o,i)∈ops.toList.zipIdx:=by
  rw[List.mem_zipIdx_iff_getElem?];simpa using ho
 have:=h _ hmem;rw[Array.all_eq_true']at this;have:=this e he;simpa[hb]using this
theorem OZ(n:Nat):left n (Array.replicate n false)=List.range n:=by
 simp only[left];rw[List.filter_eq_self];intro i hi;have:=List.mem_range.1 hi;simp[Array.getD_eq_getD_getElem?,this]
theorem S2(hlen:ls.length=ops.size)(hd:D8 P ops A D ls=true){st st':St}(hv:Dn E (some D) ls st=some st'){is:List Nat}(hg:Dg ops (Array.replicate ops.size false) is):
  CY E (some D) ls is st=some st':=by
 simp only[D8,Af]at hd;obtain⟨⟨⟨⟨hm,hown⟩,hback⟩,hmk⟩,hfr⟩:=hd;have hv:=M6 ls [] (by simp) hown hv;refine MO (A:=A) _ ?_;refine OF hlen ?_ hg ?_ (by simp) ?_ ?_
 ·intro j hj i hij;rw[List.all_eq_true]at hfr;have:=hfr j (List.mem_range.2 hj);rw[List.all_eq_true]at this;have:=this i (List.mem_range.2 hij);rw[Aj]at this;rcases this with h|h
  ·rw[GI ops hj]at h;exact .inl (JD ops hj h)
  ·refine .inr ?_;split at h
   ·rename_i x y hx hy;exact⟨x,y,hx,hy,h⟩
   ·cases h
 ·intro i o hi;exfalso;rw[Array.getD_eq_getD_getElem?,Array.getElem?_replicate]at hi;split at hi<;>cases hi
 ·intro k _ l hl hmake j hj;rw[List.all_eq_true]at hmk;have:=hmk l (List.mem_of_getElem? hl);simpa[hmake,hj]using this
 ·rw[OZ,List.range_eq_range',←hlen];have:=Mh (E:=E) (A:=A) (D:=D) ls [] st;simp only[List.nil_append,List.length_nil]at this;rw[this];exact hv
def LT(ops:Array Oper)(ls:List SL):Nat→List Nat→List Nat
 |0,π=>π.reverse
 |k+1,π=>
  let ready:=(List.range ls.length).filter fun i=> !π.contains i&&((ops[i]?).map fun o=>o.after.all fun e=> !(Region.binds .any e)||π.contains e.on).getD false
  match ready.find? fun i=>(ls[i]?).all fun l=>match l.op with| .load .. =>false|_=>true with
  |some i=>LT ops ls k (i::π)
  |none=>match ready with
   |i::_=>LT ops ls k (i::π)
   | []=>π.reverse
def HT(ops:Array Oper)(ls:List SL):List Nat:=LT ops ls ls.length []
def Rz(ops:Array Oper):Bool:=ops.toList.zipIdx.all fun p=>p.1.after.all fun e=> !(Region.binds .any e)||decide (e.on<p.2)
def Ls(P:Program)(ops:Array Oper)(π A D:List Nat)(ls:List SL):Bool:=C4 ops.size π&&Rz ops&&D8 P (Fu π ops) A D (permL π ls)
theorem T4{L:Array Bool}{is:List Nat}(hg:Dg ops L is):∀i∈is,i<ops.size:=by
 induction hg with
 |nil h=>intro i hi;cases hi
 |cons hi _ _ _ ih=>
  intro j hj;rcases List.mem_cons.1 hj with rfl|hj
  ·exact hi
  ·exact ih j hj
theorem UD{π:List Nat}(hlen:ls.length=ops.size)(hp:C4 ops.size π=true){i:Nat}(hi:i<ops.size):(permL π ls)[pos π i]? =ls[i]? :=by
 obtain⟨h1,h2⟩:=In hp hi;unfold permL;rw[Ly (fun x hx=> ?_),h2]
 ·rfl
 ·have:=JZ hp hx;simp[Ai (show x<ls.length by omega)]
theorem UE{π:List Nat}(hlen:ls.length=ops.size)(hp:C4 ops.size π=true):(permL π ls).length=ops.size:=by
 have:∀(l:List Nat),(∀x∈l,x<ls.length)→(l.filterMap fun i=>ls[i]?).length=l.length:=by
  intro l
  induction l with
  |nil=>intro _;rfl
  |cons x l ih=>
   intro h;rw[List.filterMap_cons_some (Ai (h x (by simp)))];simp[ih fun y hy=>h y (by simp[hy])]
 rw[←FZ hp];exact this π fun x hx=>by rw[hlen];exact JZ hp hx
theorem Qy{π:List Nat}(hlen:ls.length=ops.size)(hp:C4 ops.size π=true):∀(is:List Nat) (st:St),(∀i∈is,i<ops.size)→CY E (some D) (permL π ls) (is.map (pos π)) st=CY E (some D) ls is st
 | [],_,_=>rfl
 |i::is,st,h=>by
  simp only[List.map_cons,CY,UD hlen hp (h i (by simp))];split
  ·congr 1
   funext s;exact Qy hlen hp is s fun j hj=>h j (by simp[hj])
  ·rfl
theorem S5{n:Nat}(hc:Aq (DR P n ops) ops.toList=some ls){π:List Nat}(hd:Ls P ops π A D ls=true){st st':St}(hv:Dn E (some D) (permL π ls) st=some st')(t:Nat):
  CY E (some D) ls (Region.schedule (P.follows .mixedOrders) ops t) st=some st':=by
 have hlen:ls.length=ops.size:=by rw[DO hc];simp
 simp only[Ls,Af]at hd;obtain⟨⟨hp,hb⟩,hd⟩:=hd
 have hm:P.follows .mixedOrders=true:=by
  have h:=hd;simp only[D8,Af]at h;exact h.1.1.1.1
 simp only[Region.schedule,hm,Bool.true_or,if_true,Region.linearise];have hg:=J8 (R0 hb) ops.size t (Array.replicate ops.size false) (by simp) (by rw[OZ];simp);have hg':=T5 hp hg (by simp)
 have hA:Ft π (Array.replicate ops.size false)=Array.replicate (Fu π ops).size false:=by
  rw[JX hp];apply Array.ext_getElem?;intro k;simp only[Ft,List.getElem?_toArray,List.getElem?_map,Array.getElem?_replicate];by_cases hk:k<ops.size
  ·obtain⟨j,g1,g2,_⟩:=JY hp hk;simp[g1,hk,Array.getD_eq_getD_getElem?,g2]
  ·have e:π[k]? =none:=List.getElem?_eq_none (by rw[FZ hp];omega);simp[e,hk]
 rw[hA]at hg';have h:=S2 (E:=E) (by rw[UE hlen hp,JX hp]) hd hv hg';rw[Qy hlen hp _ _ (T4 hg)]at h;exact h
end
def Wt(P:Program)(o:Oper)(l:SL):Bool:=
 match l.op.cls with
 | .new=>true
 | .call=>match P.underlying o.type with
  |some (.slice _)|some (.map _ _)=>true
  |_=>false
 |_=>false
def GM(P:Program)(ops:List Oper)(ls:List SL):List Nat:=(ops.zip ls).filterMap fun p=>if Wt P p.1 p.2 then p.2.dst else none
def Mi(ls:List SL):List Nat:=ls.filterMap fun l=>if l.op.makes then l.dst else none
def Q3(ls:List SL):List Nat:=
 let DA:=ls.filterMap fun l=>match l.op with| .append .. =>l.dst|_=>none
 if ls.any fun l=>match l.op with| .call _ xs=>xs.any fun x=>x.slot.any DA.contains|_=>false then
  ls.filterMap fun l=>match l.op,l.dst with
   | .mksl ..,some d=>if ls.any fun m=>match m.op with| .append _ _ _ (.t i) _=>i==d|_=>false then some d else none
   |_,_=>none
 else []
def D7(P:Program)(ops:Array Oper)(ls:List SL):List Nat:=if D8 P ops (GG ls) (Q3 ls++Mi ls) ls then Q3 ls++Mi ls else Mi ls
def HU(P:Program)(ops:Array Oper)(ls:List SL):List Nat:=D7 P (Fu (HT ops ls) ops) (permL (HT ops ls) ls)
def Bt(P:Program)(n:Nat):Code→Option Cr
 | .skip=>some .skip
 | .region _ ops draw=>match Aq (DR P n ops) ops.toList with
   |some ls=>if draw then(if Jf P ops (GG ls) (D7 P ops ls) ls then some (.regE (D7 P ops ls) ls)else if D8 P ops (GG ls) (D7 P ops ls) ls then some (.reg true (D7 P ops ls) ls)else if Ls P ops (HT ops ls) (GG (permL (HT ops ls) ls)) (HU P ops ls) ls then some (.reg true (HU P ops ls) (permL (HT ops ls) ls))else some .bad)else some (.reg false (GM P ops.toList ls) ls)
   |none=>some .bad
 | .seq a b=>(Bt P n a).bind fun x=>(Bt P n b).map fun y=>.seq x y
 | .cond c a b=>(An c).bind fun c=>(Bt P n a).bind fun x=>(Bt P n b).map fun y=>.cond c x y
 | .block id b=>(Bt P n b).map (.block id)
 | .loop b=>(Bt P n b).map .loop
 | .exit id=>some (.exit id)
 | .label _=>some .skip
 | .scope b=>Bt P n b
 | .ret=>some .ret
 |_=>some .bad
def SY:Ex→Exit
 | .normal=>.normal
 | .exit i=>.exit i
 | .ret=>.ret
section
variable {P:Program} {E:Env} {w0:WL} {M0:MM} {n:Nat}
def IH(P:Program)(E:Env)(w0:WL)(M0:MM)(n:Nat)(Q:Ex→St→Prop)(e:Exit)(a:Act)(w:World):Prop:=
 ∃e' st z,SY e'=e∧Q e' st∧SR P E.G w0 M0 n st a w z
theorem MA(hE:EOk P E){id:Nat}{ops:Array Oper}{draw:Bool}{sc:Cr}(hc:Bt P n (.region id ops draw)=some sc){Q:Ex→St→Prop}{st:St}{a:Act}{w:World}{z:Cz}(h:SR P E.G w0 M0 n st a w z)
  (hp:pwp E sc Q st):(Code.region id ops draw).wp P (IH P E w0 M0 n Q) a w:=by
 simp only[Bt]at hc;split at hc
 case h_2=>cases hc;exact hp.elim
 rename_i ls hls;have hlen:=DO hls
 have start:∀D:List Nat,∃z',SR P E.G w0 M0 n (if D.isEmpty then st else kill D st) a w z':=fun D=>by
  split
  ·exact⟨z,h⟩
  ·exact⟨z,h.killed D⟩
 cases draw with
 |false=>
  simp only[Ag,if_false,Ac]at hc;subst hc;obtain⟨st',hv,hq⟩:=hp;unfold C2 at hv;simp only[Ag,if_false]at hv;obtain⟨z',hS⟩:=start (GM P ops.toList ls);refine wp_region ?_;have hseq:=O3 E none ls [] (if(GM P ops.toList ls).isEmpty then st else kill (GM P ops.toList ls) st);rw[hv]at hseq;simp only[List.nil_append,List.length_nil]at hseq;rw[List.range_eq_range',←Array.length_toList,←hlen];exact Jn hE hls hS hseq fun a' w' z'' hS'=>⟨.normal,st',z'',rfl,hq,hS'⟩
 |true=>
  have plain:D8 P ops (GG ls) (D7 P ops ls) ls=true→∀st',C2 E true (D7 P ops ls) ls st=some st'→Q .normal st'→(Code.region id ops true).wp P (IH P E w0 M0 n Q) a w:=fun hd st' hv hq=>by
   unfold C2 at hv;simp only[if_true]at hv;obtain⟨z',hS⟩:=start (D7 P ops ls);refine wp_region_draw fun t=> ?_;have hseq:=S3 hls hd hv t;have hg:SR P E.G w0 M0 n (if(D7 P ops ls).isEmpty then st else kill (D7 P ops ls) st) a {w with drawn:=w.drawn+1} z':=hS.grow ⟨rfl,rfl,rfl,Nat.le_refl _,fun _ _=>rfl⟩;exact Jn hE hls hg hseq fun a' w' z'' hS'=>⟨.normal,st',z'',rfl,hq,hS'⟩
  simp only[if_true]at hc;split at hc
  ·rename_i hd;cases hc
   have hdo:D8 P ops (GG ls) (D7 P ops ls) ls=true:=by
    have hd':=hd;simp only[Jf,Af]at hd';exact hd'.1.2
   obtain⟨st',hv|hv,hq⟩:=hp
   ·exact plain hdo st' hv hq
   ·refine wp_region_draw fun t=> ?_;have hseq:=S4 hls hd (RW _) hv t;have hg:SR P E.G w0 M0 n (CK (kill (D7 P ops ls) st)) a {w with drawn:=w.drawn+1} z:=(h.killed _).clean.grow ⟨rfl,rfl,rfl,Nat.le_refl _,fun _ _=>rfl⟩;exact Qx hE hls hg hseq fun a' w' z'' hS'=>⟨.normal,st',z'',rfl,hq,hS'⟩
  ·split at hc
   ·rename_i hd;cases hc;obtain⟨st',hv,hq⟩:=hp;exact plain hd st' hv hq
   ·split at hc
    case isFalse=>cases hc;exact hp.elim
    rename_i hd;cases hc;obtain⟨st',hv,hq⟩:=hp;unfold C2 at hv;simp only[if_true]at hv;obtain⟨z',hS⟩:=start (HU P ops ls);refine wp_region_draw fun t=> ?_;have hseq:=S5 hls hd hv t;have hg:SR P E.G w0 M0 n (if(HU P ops ls).isEmpty then st else kill (HU P ops ls) st) a {w with drawn:=w.drawn+1} z':=hS.grow ⟨rfl,rfl,rfl,Nat.le_refl _,fun _ _=>rfl⟩;exact Jn hE hls hg hseq fun a' w' z'' hS'=>⟨.normal,st',z'',rfl,hq,hS'⟩
theorem Fa(hE:EOk P E):∀(c:Code) {sc:Cr} {Q:Ex→St→Prop} {st:St} {a:Act} {w:World} {z:Cz},Bt P n c=some sc→SR P E.G w0 M0 n st a w z→pwp E sc Q st→c.wp P (IH P E w0 M0 n Q) a w
 | .skip,sc,Q,st,a,w,z,hc,h,hp=>by
  simp only[Bt,Ac]at hc;subst hc;exact wp_skip ⟨.normal,st,z,rfl,hp,h⟩
 | .region id ops draw,sc,Q,st,a,w,z,hc,h,hp=>MA hE hc h hp
 | .seq x y,sc,Q,st,a,w,z,hc,h,hp=>by
  simp only[Bt,Ab,Aa]at hc;obtain⟨sx,hx,sy,hy,rfl⟩:=hc;refine wp_seq (wp_mono (Fa hE x hx h hp) fun e a' w' hpost=> ?_);obtain⟨e',st',z',he,hq,hS⟩:=hpost;subst he
  cases e' with
  |normal=>exact Fa hE y hy hS hq
  |exit i=>exact⟨.exit i,st',z',rfl,hq,hS⟩
  |ret=>exact⟨.ret,st',z',rfl,hq,hS⟩
 | .cond c x y,sc,Q,st,a,w,z,hc,h,hp=>by
  simp only[Bt,Ab,Aa]at hc;obtain⟨so',hso,sx,hx,sy,hy,rfl⟩:=hc;obtain⟨b,h1,h2,h3⟩:=hp;have hr:=h.ctx.c hso h1;have hb:=CO hr;exact wp_cond_split hb (fun hh=>Fa hE x hx h (h2 hh)) (fun hh=>Fa hE y hy h (h3 hh))
 | .block id c,sc,Q,st,a,w,z,hc,h,hp=>by
  simp only[Bt,Aa]at hc;obtain⟨sx,hx,rfl⟩:=hc;refine wp_block (wp_mono (Fa hE c hx h hp) fun e a' w' hpost=> ?_);obtain⟨e',st',z',he,hq,hS⟩:=hpost;subst he
  cases e' with
  |normal=>exact⟨.normal,st',z',rfl,hq,hS⟩
  |exit i=>
   simp only at hq;show(if i=id then _ else _);split at hq
   ·rename_i hi;rw[if_pos hi];exact⟨.normal,st',z',rfl,hq,hS⟩
   ·rename_i hi;rw[if_neg hi];exact⟨.exit i,st',z',rfl,hq,hS⟩
  |ret=>exact⟨.ret,st',z',rfl,hq,hS⟩
 | .loop c,sc,Q,st,a,w,z,hc,h,hp=>by
  simp only[Bt,Aa]at hc;obtain⟨sx,hx,rfl⟩:=hc;obtain⟨R,⟨m,hm⟩,hr⟩:=hp;refine wp_loop_ghost (fun k a w=>∃s z,R k s∧SR P E.G w0 M0 n s a w z) m ⟨st,z,hm,h⟩ fun k a' w' hI=> ?_;obtain⟨s,z',hR,hS⟩:=hI;refine wp_mono (Fa hE c hx hS (hr k s hR)) fun e a'' w'' hpost=> ?_;obtain⟨e',st',z'',he,hq,hS'⟩:=hpost;subst he
  cases e' with
  |normal=>
   obtain⟨k',hk',hR'⟩:=hq;exact⟨k',hk',st',z'',hR',hS'⟩
  |exit i=>exact⟨.exit i,st',z'',rfl,hq,hS'⟩
  |ret=>exact⟨.ret,st',z'',rfl,hq,hS'⟩
 | .exit i,sc,Q,st,a,w,z,hc,h,hp=>by
  simp only[Bt,Ac]at hc;subst hc;exact wp_exit ⟨.exit i,st,z,rfl,hp,h⟩
 | .label l,sc,Q,st,a,w,z,hc,h,hp=>by
  simp only[Bt,Ac]at hc;subst hc;exact wp_label ⟨.normal,st,z,rfl,hp,h⟩
 | .scope c,sc,Q,st,a,w,z,hc,h,hp=>by
  simp only[Bt]at hc;refine wp_scope_straight (wp_mono (Fa hE c hc h hp) fun e a' w' hpost=> ?_);obtain⟨e',st',z',he,hq,hS⟩:=hpost;subst he;cases e'<;>exact⟨_,st',z',rfl,hq,hS⟩
 | .ret,sc,Q,st,a,w,z,hc,h,hp=>by
  simp only[Bt,Ac]at hc;subst hc;exact wp_ret ⟨.ret,st,z,rfl,hp,h⟩
 | .goto _,sc,Q,st,a,w,z,hc,h,hp=>by cases hc;exact hp.elim
 | .rangeFunc _ _ _ _,sc,Q,st,a,w,z,hc,h,hp=>by cases hc;exact hp.elim
 | .refuse _,sc,Q,st,a,w,z,hc,h,hp=>by cases hc;exact hp.elim
end
inductive B5 where
 |tmp (t:Nat)
 |cell (t:Nat) (sz:Option Nat)
def Gy(P:Program):ResultVar→Option B5
 | .tmp t=>some (.tmp t)
 | .cell a t=>(CE P t).map (.cell a)
def Ea(st:St):B5→Option CV
 | .tmp t=>BU st.ob (st.fr t)
 | .cell a sz=>(Bs st.ob sz (deref st.ob (st.fr a))).bind (BU st.ob)
def GQ:List CV→CV
 | [c]=>c
 |l=>.tup l
def Du(st:St)(rs:List B5):Option CV:=(Aq (Ea st) rs).map GQ
structure IG where
 n:Nat
 code:Cr
 res:List B5
def Ek(P:Program)(f:FuncId):Option IG:=
 if Bm P f then(P.funcs[f]?).bind fun fn=>fn.body.bind fun b=>if Nat.ble fn.ntmps As then(Bt P fn.ntmps b).bind fun c=>(Aq (Gy P) fn.results.toList).map fun rs=>⟨fn.ntmps,c,rs⟩else none else none
def FQ(l:List CV):St:={fr:=fun i=>match l[i]? with|some c=>.c c|none=>.undef,ob:=fun _=>.none}
def fin(rs:List B5)(r:CV)(e:Ex)(st:St):Prop:=
 match e with
 | .exit _=>False
 |_=>Du st rs=some r
section
variable {P:Program} {E:Env} {w0:WL} {M0:MM} {n:Nat} {st:St} {a:Act} {w:World} {z:Cz}
theorem RI{G:Nat→List CV}(h:SR P G w0 M0 n st a w z){b:Nat}{t:TypeId}{sz:Option Nat}(hs:CE P t=some sz){sv:SV}(hl:Bs st.ob sz (deref st.ob (st.fr b))=some sv):
  ∃v,((asAddr (a.tmps.getD b undef)>>=fun ad=>loadVar t ad):Sem Value).run P w=.ok v w∧Ar w (Am M0 z st.ob) z st.ob sv v:=by
 obtain⟨v,h1,h2⟩:=Rd (x:=.tmp b) (sx:=.t b) h.ctx (fun _=>.inr rfl) hs rfl hl
 have hp:∃ad,a.tmps.getD b undef=.pointer (some ad):=by
  have hr:=h.ctx.deref (rd:=st.ob) (fun _=>.inr rfl) (h.fr b);generalize deref st.ob (st.fr b)=q at hr hl;generalize a.tmps.getD b undef=u at hr;cases q<;>(try simp only[Bs,reduceCtorEq]at hl;done)
  ·rename_i cv;cases cv<;>(try simp only[Bs,reduceCtorEq]at hl;done)
   ·unfold Ar RelC at hr;obtain⟨ad,_,e,_⟩:=hr;exact⟨ad,e⟩
   ·unfold Ar RelC at hr;obtain⟨g,_,_,e,_⟩:=hr;exact⟨_,e⟩
  ·obtain⟨_,g,_,e⟩:=hr;exact⟨_,e⟩
  ·obtain⟨_,g,_,_,_,e⟩:=hr;exact⟨_,e⟩
 obtain⟨ad,hp⟩:=hp;refine⟨v, ?_,h2⟩;have he:a.eval (.tmp b)=.pointer (some ad):=hp;rw[he]at h1;simp only[hp];exact h1
theorem U1{G:Nat→List CV}(h:SR P G w0 M0 n st a w z){rv:ResultVar}{sr:B5}(hc:Gy P rv=some sr){c:CV}(ho:Ea st sr=some c):
  ∃v,(match rv with| .tmp t=>pure (a.tmps.getD t undef)| .cell b t=>(asAddr (a.tmps.getD b undef)>>=fun ad=>loadVar t ad):Sem Value).run P w=.ok v w∧RelC w (mm0 w0 M0 z) c v:=by
 cases rv with
 |tmp t=>
  simp only[Gy,Ac]at hc;subst hc;exact⟨_,rfl,Lh h (fun _=>.inr rfl) (h.fr t) ho⟩
 |cell b t=>
  simp only[Gy,Aa]at hc;obtain⟨sz,hs,rfl⟩:=hc;simp only[Ea,Ab]at ho;obtain⟨sv,hl,hcl⟩:=ho;obtain⟨v,h1,h2⟩:=RI h hs hl;exact⟨v,h1,Lh h (fun _=>.inr rfl) h2 hcl⟩
theorem N7{G:Nat→List CV}(h:SR P G w0 M0 n st a w z){f:ResultVar→Sem Value}(hf:∀rv,f rv=(match rv with| .tmp t=>pure (a.tmps.getD t undef)| .cell b t=>(asAddr (a.tmps.getD b undef)>>=fun ad=>loadVar t ad))):∀{rvs:List ResultVar} {srs:List B5} {cs:List CV},Aq (Gy P) rvs=some srs→Aq (Ea st) srs=some cs→
  ∃vs,(rvs.mapM f).run P w=.ok vs w∧RelL w (mm0 w0 M0 z) cs vs
 | [],srs,cs,h1,h2=>by
  simp only[Aq,Ac]at h1;subst h1;simp only[Aq,Ac]at h2;subst h2;exact⟨[],by simp,RelL.nil⟩
 |rv::rvs,srs,cs,h1,h2=>by
  simp only[Aq,Ab,Aa]at h1;obtain⟨s,hs,ss,hss,rfl⟩:=h1;simp only[Aq,Ab,Aa]at h2;obtain⟨c,hc,cs',hcs,rfl⟩:=h2;obtain⟨v,g1,g2⟩:=U1 h hs hc;obtain⟨vs,g3,g4⟩:=N7 h hf hss hcs;rw[←hf]at g1;exact⟨v::vs,by rw[List.mapM_cons];simp[g1,g3],RelL.cons g2 g4⟩
theorem Qc{G:Nat→List CV}(h:SR P G w0 M0 n st a w z){fn:Func}{rs:List B5}(hc:Aq (Gy P) fn.results.toList=some rs){c:CV}(ho:Du st rs=some c):
  ∃v,(results fn a.tmps).run P w=.ok v w∧RelC w (mm0 w0 M0 z) c v:=by
 simp only[Du,Aa]at ho;obtain⟨cs,hcs,rfl⟩:=ho;obtain⟨vs,h1,h2⟩:=N7 h (f:=fun rv=>match rv with| .tmp t=>pure (a.tmps.getD t undef)| .cell b t=>do loadVar t (←asAddr (a.tmps.getD b undef))) (fun rv=>by cases rv<;>rfl) hc hcs
 have hr:(results fn a.tmps).run P w=.ok (if h:(⟨vs⟩:Array Value).size=1 then(⟨vs⟩:Array Value)[0]else .tuple ⟨vs⟩) w:=by
  have e:results fn a.tmps=(fn.results.mapM (fun rv=>match rv with| .tmp t=>pure (a.tmps.getD t undef)| .cell b t=>do loadVar t (←asAddr (a.tmps.getD b undef)))>>=fun(vs:Array Value)=>pure (if h:vs.size=1 then vs[0]else .tuple vs)):=rfl;rw[e,Array.mapM_eq_mapM_toList];generalize (fun(rv:ResultVar)=>(match rv with| .tmp t=>pure (a.tmps.getD t undef)| .cell b t=>do loadVar t (←asAddr (a.tmps.getD b undef)):Sem Value))=f at h1;simp[h1]
 refine⟨_,hr, ?_⟩;have hlen:=h2.length
 match cs,vs,h2,hlen with
 | [],[],h2,_=>
  simp only[GQ];unfold RelC;exact⟨[],rfl,h2⟩
 | [c],[v],h2,_=>
  simp only[GQ];unfold RelL at h2;obtain⟨v',vs',e,h3,_⟩:=h2;cases e;exact h3
 |c::c'::cs,v::v'::vs,h2,_=>
  simp only[GQ];unfold RelC;exact⟨v::v'::vs,by simp,h2⟩
theorem OK{P:Program}{G:Nat→List CV}{w:World}{M:MM}{n:Nat}{l:List CV}{vs:List Value}(hM:∀g,M g→g<w.heap.size)(hG:GOk G w M)(hl:l.length≤n)(h:RelL w M l vs)(hn:n≤As):
  SR P G (HY w) M n (FQ l) {tmps:=(⟨vs⟩:Array Value)++Array.replicate (n-(⟨vs⟩:Array Value).size) undef,defers:= []} w (z0 undef M.al):=by
 have hlen:=h.length;refine⟨?_,rfl,Mc.2 (Below.refl _ _),hM,⟨fun _ g h'=>h'.elim,fun N cs _ h'=>(by cases h'),fun _ _=>rfl,hn⟩,hG,fun i=> ?_,fun id=>trivial,fun id g h'=>absurd rfl h',fun i j g _ h'=>absurd rfl h'⟩
 ·simp;omega
 ·simp only[FQ]
  cases hi:l[i]? with
  |none=>trivial
  |some c=>
   obtain⟨v,h1,h2⟩:=h.get hi
   have hk:Bp w M w (Am M (z0 undef M.al) fun _=>Ob.none):=⟨Nat.le_refl _,fun _ _ _=>rfl,fun g _ hg=>by
    rcases hg with hg|⟨id,h',_⟩
    ·exact hg
    ·exact absurd rfl h',rfl⟩
   have hv:((⟨vs⟩:Array Value)++Array.replicate (n-(⟨vs⟩:Array Value).size) undef).getD i undef=v:=by
    have:i<vs.length:=(Ae.1 h1).1;rw[Array.getD_eq_getD_getElem?,Array.getElem?_append_left (by simpa using this)];simp[h1]
   show RelC w _ c _;simp only[hv];exact RelC.keep hk c v h2
theorem Pd{w1:World}{G:Nat→List CV}{M:MM}(h:SR P G (HY w1) M n st a w z){c:CV}{v:Value}(hr:RelC w (mm0 (HY w1) M z) c v):RelC w M c v:=
 have hk:Bp w (mm0 (HY w1) M z) w M:=⟨Nat.le_refl _,fun _ _ _=>rfl,fun _ _ hg=>⟨hg,fun _ hh=>hh⟩,funext fun N=>(h.nam.names N trivial).symm⟩
 RelC.keep hk _ _ hr
theorem Tf(hE:EOk P E){f:FuncId}{m:IG}(hc:Ek P f=some m){l:List CV}{r:CV}(hl:l.length≤m.n)(h:pwp E m.code (fin m.res r) (FQ l)):Bm P f=true∧CallsTo P E.G f l (.val r):=by
 unfold Ek at hc;split at hc<;>(try cases hc;done);rename_i hb;refine⟨hb, ?_⟩;simp only[Ab,Aa,Ad]at hc;obtain⟨fn,hf,b,hbody,hn,c,hcode,rs,hrs,rfl⟩:=hc;intro w M vs hM hG hL;refine calls_of_wp hf hbody (wp_mono (Fa hE b hcode (OK hM hG hl hL (Ah hn)) h) fun e a' w' hpost=> ?_);obtain⟨e',st',z',he,hq,hS⟩:=hpost;subst he
 have fin_:Du st' rs=some r→a'.defers= []∧∃v,(results fn a'.tmps).run P w'=.ok v w'∧∃u,Ending.returned v=.returned u∧Below w.heap.size w w'∧Dh P w' M w.heap.size u (.val r):=fun hr=>by
  obtain⟨v,h1,h2⟩:=Qc hS hrs hr;exact⟨hS.defers,v,h1,v,rfl,Mc.1 hS.below,Pd hS h2⟩
 cases e' with
 |normal=>exact fin_ hq
 |exit i=>exact hq.elim
 |ret=>exact fin_ hq
theorem EOk.add(hE:EOk P E){f:FuncId}{m:IG}(hc:Ek P f=some m){F:List CV→Option CV}(h:∀l r,F l=some r→l.length≤m.n∧pwp E m.code (fin m.res r) (FQ l)):
  EOk P {E with fn:=fun g l=>if g=f then(F l).map .val else E.fn g l}:=by
 refine⟨?_,hE.2,hE.3⟩;intro g l r hr;simp only at hr;split at hr
 ·rename_i e;subst e;simp only[Aa]at hr;obtain⟨r,hr,rfl⟩:=hr;obtain⟨h1,h2⟩:=h l r hr;exact Tf hE hc h1 h2
 ·exact hE.1 g l r hr
end
section
variable {E:Env} {Q:Ex→St→Prop} {st:St}
variable {D:Option (List Nat)} {K:St→Prop} {ls:List SL}
end
def Nn(p:Prop):Prop:=p
theorem Nn.out{p:Prop}(h:Nn p):p:=h
def Ta(rs:List B5)(o:Ob)(e:Ex)(st:St):Prop:=
 match e with
 | .exit _=>False
 |_=>∃t,rs= [.tmp t]∧((∃id,(st.fr t=.osl id∨st.fr t=.omap id)∧st.ob id=o∧Dq o=true)∨(st.fr t=.c (.sl (some true) [])∧∃e size,o=.arr e size []))
section
variable {P:Program} {E:Env} {w0:WL} {M0:MM} {n:Nat} {st:St} {a:Act} {w:World} {z:Cz}
theorem EOk.nil(G:Nat→List CV):EOk P {G:=G,fn:=fun _ _=>none}:=⟨fun _ _ _ h=>(by cases h),fun _ h=>(by cases h),fun _ _ h=>(by cases h)⟩
end
end WB
namespace WB
open Go Go.RowKit Go.ChangeShapes Go.WideShapes Go.Deep
section
variable {H:Type} {enc:TypeId×Value→H} {P:Program} {w:World} {base:Nat} {spare:Nat→Bool} {held:Bool}
theorem O5{α:Type}{p:Nat→α→Prop}:∀(n:Nat),(∀i,i<n→∃x,p i x)→∃l:List α,l.length=n∧∀i x,l[i]? =some x→p i x
 |0,_=>⟨[],rfl,fun i x h=>by simp at h⟩
 |n+1,h=>by
  obtain⟨l,hl,hp⟩:=O5 n (fun i hi=>h i (by omega));obtain⟨x,hx⟩:=h n (by omega);refine⟨l++ [x],by simp[hl],fun i y hy=> ?_⟩;by_cases hi:i<n
  ·rw[List.getElem?_append_left (by omega)]at hy;exact hp i y hy
  ·rw[List.getElem?_append_right (by omega)]at hy
   have:i-l.length=0:=by
    rcases Nat.eq_zero_or_pos (i-l.length)with h0|h0
    ·exact h0
    ·rw[List.getElem?_eq_none (by simp;omega)]at hy;cases hy
   rw[this]at hy;simp only[List.getElem?_cons_zero,Ac]at hy;subst hy;have:i=n:=by omega
   subst this;exact hx
theorem UL{f:Func}{s:ChangeSpec}{apart fresh handsOn again:Bool}{W W':World}{args:Array Value}{v:Value}{ds gs:List (DataW H)}{before pa pv:List MemPlace}
  (hW:DataW.Whole enc P f.params.toList s.vars apart W args.toList ds gs before)
  (hres:∀(b:Nat) (sp:Nat→Bool) (hd:Bool),DataW.TrodAll enc P W' b sp hd f.resultTypes.toList (v.resultList f.resultTypes.size) (s.fn H (ds++gs)).results [])
  (hargs:∀sp:Nat→Bool,(∀p∈before,sp p.block=true)→DataW.TrodAll enc P W' 0 sp true f.params.toList args.toList (s.fn H (ds++gs)).args pa)
  (hvars:∀sp:Nat→Bool,(∀p∈before,sp p.block=true)→DataW.TrodVars enc P W' sp s.vars (s.fn H (ds++gs)).vars pv)
  (hps:before=pa++pv) (hb:Below W.heap.size W W')
  (hok:∀(j:Nat) (t:TypeId) (r:Value),f.resultTypes[j]? =some t→(v.resultList f.resultTypes.size)[j]? =some r→Value.okWide P W' .any 0 t r):
  s.post enc P f apart fresh handsOn again W args v W':=by
 have hlt:∀p∈before,p.block<W.heap.size:=fun p hp=>hW.lt p hp;have hold:∀p∈before,(fun b=>decide (b<W.heap.size)) p.block=true:=fun p hp=>by simpa using hlt p hp
 refine⟨ds,gs,before,[],pa,pv,hW,hres _ _ _,hargs _ hold,hvars _ hold,World.keptBut_mono (fun p hp=>⟨hp, ?_⟩) (hb.frame (· ∈before)),fun _=> ?_⟩
 ·rw[hps,List.mem_append]at hp;exact Or.inr hp
 ·obtain⟨_,_,_,_,_,hz,hn⟩:=hW;refine⟨hok,_,_,([]++pa)++pv,⟨[]++pa,pv,trodAll_append (hargs _ (fun _ _=>rfl)) (hres _ _ _),hvars _ (fun _ _=>rfl),rfl, ?_, ?_⟩, ?_⟩
  ·intro b off hp;have hin:MemPlace.cell b off∈before:=by rw[hps];simpa using hp
   rw[hb.frozen (hlt _ hin)];exact hz b off hin
  ·intro ha;have:=hn ha;rw[hps]at this;simpa using this
  ·intro p hp _;rw[hps];simpa using hp
end
theorem QY{H:Type}{enc:TypeId×Value→H}{P:Program}(hl:laidOutB P=true){W W':World}(hb:Below W.heap.size W W'){sp:Nat→Bool}:
  ∀{ts:List TypeId} {vs:List Value} {ds:List (DataW H)} {ps:List MemPlace},(ts.all fun t=>P.readableRec t&&decide (t<P.types.size))=true→(∀p∈ps,p.block<W.heap.size)→(∀p∈ps,sp p.block=true)→
  DataW.TrodAll enc P W 0 (fun _=>true) true ts vs ds ps→DataW.TrodAll enc P W' 0 sp true ts vs ds ps
 | [],vs,ds,ps,_,_,_,h=>by
  obtain⟨rfl,rfl,rfl⟩:=trodAll_nil h;exact trodAll_mk0
 |t::ts,vs,ds,ps,hr,hlt,hsp,h=>by
  obtain⟨v0,vs0,d0,ds0,p0,q0,rfl,rfl,rfl,h0,r0⟩:=trodAll_cons h;simp only[List.all_cons,Af,decide_eq_true_eq]at hr;refine trodAll_cons_mk ?_ (QY hl hb hr.2 (fun p hp=>hlt p (by simp[hp])) (fun p hp=>hsp p (by simp[hp])) r0);exact WideElems.Trod_stays hl hr.1.1 hr.1.2 h0 (fun x hx=>hb.same (hlt x (by simp[hx]))) (fun x hx=>hsp x (by simp[hx]))
end WB
namespace WB
open Go Go.RowKit
inductive Ty where
 |int (k:IntKind)
 |bool
 |str
 |err
 |clo (f:Nat) (r:Ty)
 |falt (f:Nat) (r l:Ty)
 |nsl
 |nmap
 |nfn
 |nam (N:Nat)
 |bptr (N:Nat)
 |nilp
 |pt (r:Ty)
 |nw (e size:Nat) (t:Ty)
 |agg (r:Ty)
 |tup (r:Ty)
 |sl (e:Ty)
 |map (k v:Ty)
 |nil
 |one (t:Ty)
 |cons (t r:Ty)
 deriving DecidableEq
@[reducible] def D:Ty→Type
 | .int _=>Int
 | .bool=>Bool
 | .str=>List UInt8
 | .err=>Bool
 | .clo _ r=>D r
 | .falt _ r l=>D r⊕D l
 | .nsl=>Unit
 | .nmap=>Unit
 | .nfn=>Unit
 | .nam _=>Unit
 | .bptr _=>Unit
 | .nilp=>Unit
 | .pt r=>D r
 | .nw _ _ t=>List (D t)
 | .agg r=>D r
 | .tup r=>D r
 | .sl e=>List (D e)
 | .map k v=>List (D k×D v)
 | .nil=>Unit
 | .one t=>D t
 | .cons t r=>D t×D r
def Ap{α β:Type}(R:α→β→Prop):List α→List β→Prop
 | [],bs=>bs= []
 |a::as,bs=>∃b bs',bs=b::bs'∧R a b∧Ap R as bs'
def Can:(t:Ty)→D t→List CV→Prop
 | .int k,n,cs=>cs= [.int k n]
 | .bool,b,cs=>cs= [.bool b]
 | .str,s,cs=>cs= [.str s]
 | .err,b,cs=>cs= [if b then .nilif else .ifc]
 | .clo f r,x,cs=>∃l,cs= [.fn f l]∧Can r x l
 | .falt f r l,x,cs=>match x with
  | .inl y=>∃cap,cs= [.fn f cap]∧Can r y cap
  | .inr z=>(∀cap,cs≠ [.fn f cap])∧Can l z cs
 | .nsl,_,cs=>cs= [.sl (some true) []]
 | .nmap,_,cs=>cs= [.map (some true) [] []]
 | .nfn,_,cs=>cs= [.nilfn]
 | .nam N,_,cs=>cs= [.nam N]
 | .bptr N,_,cs=>cs= [.bptr N]∨cs= [.nam N]∨cs= [.nilp]
 | .nilp,_,cs=>cs= [.nilp]
 | .pt r,x,cs=>∃l,cs= [.wp l]∧Can r x l
 | .nw _ _ _,_,_=>False
 | .agg r,x,cs=>∃l,cs= [.agg l]∧Can r x l
 | .tup r,x,cs=>∃l,cs= [.tup l]∧Can r x l
 | .sl e,xs,cs=>∃nl es,cs= [.sl nl es]∧Ap (fun x c=>Can e x [c]) xs es
 | .map k v,m,cs=>∃nl ks vs,cs= [.map nl ks vs]∧Ap (fun x c=>Can k x.1 [c]) m ks∧Ap (fun x c=>Can v x.2 [c]) m vs
 | .nil,_,cs=>cs= []
 | .one t,x,cs=>∃c,cs= [c]∧Can t x [c]
 | .cons t r,x,cs=>∃c l,cs=c::l∧Can t x.1 [c]∧Can r x.2 l
def A0:(t:Ty)→D t→List CV
 | .int k,n=> [.int k n]
 | .bool,b=> [.bool b]
 | .str,s=> [.str s]
 | .err,b=> [if b then .nilif else .ifc]
 | .clo f r,x=> [.fn f (A0 r x)]
 | .falt f r l,x=>match x with
  | .inl y=> [.fn f (A0 r y)]
  | .inr z=>A0 l z
 | .nsl,_=> [.sl (some true) []]
 | .nmap,_=> [.map (some true) [] []]
 | .nfn,_=> [.nilfn]
 | .nam N,_=> [.nam N]
 | .bptr N,_=> [.bptr N]
 | .nilp,_=> [.nilp]
 | .pt r,x=> [.wp (A0 r x)]
 | .nw _ _ _,_=> []
 | .agg r,x=> [.agg (A0 r x)]
 | .tup r,x=> [.tup (A0 r x)]
 | .sl e,xs=> [.sl none (xs.map fun x=>(A0 e x).headD .nilif)]
 | .map k v,m=> [.map none (m.map fun x=>(A0 k x.1).headD .nilif) (m.map fun x=>(A0 v x.2).headD .nilif)]
 | .nil,_=> []
 | .one t,x=> [(A0 t x).headD .nilif]
 | .cons t r,x=>(A0 t x.1).headD .nilif::A0 r x.2
def enc(t:Ty)(x:D t):CV:=(A0 t x).headD .nilif
def Ty.isFn:Ty→Bool
 | .clo _ _=>true
 | .nfn=>true
 | .falt _ _ l=>l.isFn
 |_=>false
theorem Ju:∀{t:Ty} {x:D t} {cs:List CV},t.isFn=true→Can t x cs→∃c,cs= [c]∧c.cells= [c]∧∀l,c≠ .agg l∧c≠ .tup l:=by
 intro t
 induction t with
 |clo f r _=>intro x cs _ h;unfold Can at h;obtain⟨l,rfl,_⟩:=h;exact⟨_,rfl,rfl,fun l=>⟨(fun e=>by cases e),(fun e=>by cases e)⟩⟩
 |nfn=>intro x cs _ h;unfold Can at h;subst h;exact⟨_,rfl,rfl,fun l=>⟨(fun e=>by cases e),(fun e=>by cases e)⟩⟩
 |falt f r l _ ihl=>
  intro x cs h hc
  cases x with
  |inl y=>unfold Can at hc;obtain⟨cap,rfl,_⟩:=hc;exact⟨_,rfl,rfl,fun l=>⟨(fun e=>by cases e),(fun e=>by cases e)⟩⟩
  |inr z=>unfold Can at hc;exact ihl h hc.2
 |_=>intro x cs h;cases h
def Ty.val:Ty→Bool
 | .nil| .one _| .cons _ _| .nw _ _ _=>false
 | .falt _ _ l=>l.isFn
 |_=>true
section
variable {α β:Type} {R S:α→β→Prop}
theorem Ap.length:∀{as:List α} {bs:List β},Ap R as bs→bs.length=as.length
 | [],_,h=>by unfold Ap at h;subst h;rfl
 |_::_,_,h=>by
  obtain⟨b,bs',rfl,_,h2⟩:=h;simp[Ap.length h2]
theorem Ap.get:∀{as:List α} {bs:List β} {i:Nat} {a:α},Ap R as bs→as[i]? =some a→∃b,bs[i]? =some b∧R a b
 | [],_,_,_,_,h=>by simp at h
 |_::_,_,0,_,hc,h=>by
  obtain⟨b,bs',rfl,h1,_⟩:=hc;simp at h;subst h;exact⟨b,rfl,h1⟩
 |_::_,_,i+1,_,hc,h=>by
  obtain⟨b,bs',rfl,_,h2⟩:=hc;simp only[List.getElem?_cons_succ]at h⊢;exact Ap.get h2 h
theorem Ap.getB:∀{as:List α} {bs:List β} {i:Nat} {b:β},Ap R as bs→bs[i]? =some b→∃a,as[i]? =some a∧R a b
 | [],_,_,_,hc,h=>by unfold Ap at hc;subst hc;simp at h
 |_::_,_,0,_,hc,h=>by
  obtain⟨b,bs',rfl,h1,_⟩:=hc;simp at h;subst h;exact⟨_,rfl,h1⟩
 |_::_,_,i+1,_,hc,h=>by
  obtain⟨b,bs',rfl,_,h2⟩:=hc;simp only[List.getElem?_cons_succ]at h⊢;exact Ap.getB h2 h
theorem Ap.mono:∀{as:List α} {bs:List β},(∀a b,a∈as→R a b→S a b)→Ap R as bs→Ap S as bs
 | [],_,_,h=>h
 |_::_,_,f,h=>by
  obtain⟨b,bs',rfl,h1,h2⟩:=h;exact⟨b,bs',rfl,f _ _ (by simp) h1,Ap.mono (fun a b ha=>f a b (by simp[ha])) h2⟩
theorem Ap.append:∀{as as':List α} {bs bs':List β},Ap R as bs→Ap R as' bs'→Ap R (as++as') (bs++bs')
 | [],_,_,_,h,k=>by unfold Ap at h;subst h;exact k
 |_::_,_,_,_,h,k=>by
  obtain⟨b,bs',rfl,h1,h2⟩:=h;exact⟨b,_,rfl,h1,Ap.append h2 k⟩
theorem Ap.take:∀(n:Nat) {as:List α} {bs:List β},Ap R as bs→Ap R (as.take n) (bs.take n)
 |0,_,_,_=>by simp[Ap]
 |n+1,[],_,h=>by unfold Ap at h;subst h;simp[Ap]
 |n+1,_::_,_,h=>by
  obtain⟨b,bs',rfl,h1,h2⟩:=h;exact⟨b,_,rfl,h1,Ap.take n h2⟩
theorem Ap.drop:∀(n:Nat) {as:List α} {bs:List β},Ap R as bs→Ap R (as.drop n) (bs.drop n)
 |0,_,_,h=>h
 |n+1,[],_,h=>by unfold Ap at h;subst h;simp[Ap]
 |n+1,_::_,_,h=>by
  obtain⟨b,bs',rfl,h1,h2⟩:=h;exact Ap.drop n h2
theorem Ap.set:∀(n:Nat) {as:List α} {bs:List β} {a:α} {b:β},Ap R as bs→R a b→Ap R (as.set n a) (bs.set n b)
 |_,[],_,_,_,h,_=>by unfold Ap at h;subst h;simp[Ap]
 |0,_::_,_,_,_,h,k=>by
  obtain⟨b,bs',rfl,h1,h2⟩:=h;exact⟨_,_,rfl,k,h2⟩
 |n+1,_::_,_,_,_,h,k=>by
  obtain⟨b,bs',rfl,h1,h2⟩:=h;exact⟨b,_,rfl,h1,Ap.set n h2 k⟩
theorem Ap.cons{a:α}{b:β}{as:List α}{bs:List β}(h:R a b)(k:Ap R as bs):Ap R (a::as) (b::bs):=⟨b,bs,rfl,h,k⟩
theorem Ap.nil:Ap R [] []:=rfl
theorem Ap.replicate{a:α}{b:β}(h:R a b):∀n,Ap R (List.replicate n a) (List.replicate n b)
 |0=>rfl
 |n+1=>⟨b,_,rfl,h,Ap.replicate h n⟩
theorem Ap.uniq:∀{as as':List α} {bs:List β},(∀a a' b,R a b→R a' b→a=a')→Ap R as bs→Ap R as' bs→as=as'
 | [],[],_,_,_,_=>rfl
 | [],_::_,_,_,h,k=>by
  obtain⟨b,bs',rfl,_⟩:=k;unfold Ap at h;cases h
 |_::_,[],_,_,h,k=>by
  obtain⟨b,bs',rfl,_⟩:=h;unfold Ap at k;cases k
 |_::_,_::_,_,f,h,k=>by
  obtain⟨b,bs',rfl,h1,h2⟩:=h;obtain⟨b2,bs2,e,k1,k2⟩:=k;cases e;rw[f _ _ _ h1 k1,Ap.uniq f h2 k2]
end
theorem Can.one:∀{t:Ty} {x:D t} {cs:List CV},t.val=true→Can t x cs→∃c,cs= [c]:=by
 intro t
 induction t with
 |falt f r l _ ihl=>
  intro x cs hv h
  cases x with
  |inl y=>unfold Can at h;obtain⟨l,h,_⟩:=h;exact⟨_,h⟩
  |inr z=>
   unfold Can at h;obtain⟨c,e,_⟩:=Ju (show l.isFn=true by simpa[Ty.val]using hv) h.2;exact⟨_,e⟩
 |agg=>intro x cs hv h;unfold Can at h;obtain⟨l,h,_⟩:=h;exact⟨_,h⟩
 |pt=>intro x cs hv h;unfold Can at h;obtain⟨l,h,_⟩:=h;exact⟨_,h⟩
 |bptr N=>intro x cs hv h;unfold Can at h;rcases h with h|h|h<;>exact⟨_,h⟩
 |nw=>intro x cs hv;cases hv
 |clo=>intro x cs hv h;unfold Can at h;obtain⟨l,h,_⟩:=h;exact⟨_,h⟩
 |tup=>intro x cs hv h;unfold Can at h;obtain⟨l,h,_⟩:=h;exact⟨_,h⟩
 |sl=>intro x cs hv h;unfold Can at h;obtain⟨_,_,h,_⟩:=h;exact⟨_,h⟩
 |map=>intro x cs hv h;unfold Can at h;obtain⟨_,_,_,h,_⟩:=h;exact⟨_,h⟩
 |nil=>intro x cs hv;cases hv
 |one=>intro x cs hv;cases hv
 |cons=>intro x cs hv;cases hv
 |_=>intro x cs hv h;unfold Can at h;exact⟨_,h⟩
theorem Can.uniq:∀(t:Ty) {x y:D t} {cs:List CV},Can t x cs→Can t y cs→x=y
 | .int _,_,_,_,h,k=>by unfold Can at h k;rw[h]at k;simpa using k
 | .bool,_,_,_,h,k=>by unfold Can at h k;rw[h]at k;simpa using k
 | .str,_,_,_,h,k=>by unfold Can at h k;rw[h]at k;simpa using k
 | .err,x,y,_,h,k=>by unfold Can at h k;rw[h]at k;cases x<;>cases y<;>simp_all
 | .clo f r,_,_,_,h,k=>by
  unfold Can at h k;obtain⟨l,rfl,h⟩:=h;obtain⟨l',e,k⟩:=k;cases e;exact Can.uniq r h k
 | .falt f r l,x,y,_,h,k=>by
  cases x with
  |inl a=>
   unfold Can at h;obtain⟨cap,rfl,h⟩:=h
   cases y with
   |inl a'=>
    unfold Can at k;obtain⟨cap',e,k⟩:=k;cases e;rw[Can.uniq r h k]
   |inr b'=>
    unfold Can at k;exact absurd rfl (k.1 cap)
  |inr b=>
   unfold Can at h
   cases y with
   |inl a'=>
    unfold Can at k;obtain⟨cap',e,k⟩:=k;exact absurd e (h.1 cap')
   |inr b'=>
    unfold Can at k;rw[Can.uniq l h.2 k.2]
 | .nsl,_,_,_,_,_=>rfl
 | .nmap,_,_,_,_,_=>rfl
 | .nfn,_,_,_,_,_=>rfl
 | .nam _,_,_,_,_,_=>rfl
 | .bptr _,_,_,_,_,_=>rfl
 | .nilp,_,_,_,_,_=>rfl
 | .pt r,_,_,_,h,k=>by
  unfold Can at h k;obtain⟨l,rfl,h⟩:=h;obtain⟨l',e,k⟩:=k;cases e;exact Can.uniq r h k
 | .nw _ _ _,_,_,_,h,_=>by unfold Can at h;exact h.elim
 | .agg r,_,_,_,h,k=>by
  unfold Can at h k;obtain⟨l,rfl,h⟩:=h;obtain⟨l',e,k⟩:=k;cases e;exact Can.uniq r h k
 | .tup r,_,_,_,h,k=>by
  unfold Can at h k;obtain⟨l,rfl,h⟩:=h;obtain⟨l',e,k⟩:=k;cases e;exact Can.uniq r h k
 | .sl e,_,_,_,h,k=>by
  unfold Can at h k;obtain⟨nl,es,rfl,h⟩:=h;obtain⟨nl',es',e',k⟩:=k;cases e';exact Ap.uniq (R:=fun x c=>Can e x [c]) (fun a a' b h k=>Can.uniq e h k) h k
 | .map kt vt,x,y,_,h,k=>by
  unfold Can at h k;obtain⟨nl,ks,vs,rfl,h1,h2⟩:=h;obtain⟨nl',ks',vs',e',k1,k2⟩:=k;cases e'
  have key:∀{m m':List (D kt×D vt)} {ks vs:List CV},Ap (fun x c=>Can kt x.1 [c]) m ks→Ap (fun x c=>Can vt x.2 [c]) m vs→Ap (fun x c=>Can kt x.1 [c]) m' ks→Ap (fun x c=>Can vt x.2 [c]) m' vs→m=m':=by
   intro m
   induction m with
   |nil=>
    intro m' ks vs a1 a2 b1 b2;have:=b1.length;unfold Ap at a1;subst a1;exact(List.eq_nil_of_length_eq_zero (by simpa using this.symm)).symm
   |cons p m ih=>
    intro m' ks vs a1 a2 b1 b2;obtain⟨c,ks,rfl,c1,a1⟩:=a1;obtain⟨d,vs,rfl,d1,a2⟩:=a2
    cases m' with
    |nil=>unfold Ap at b1;cases b1
    |cons p' m'=>
     obtain⟨c',ks',e,c1',b1⟩:=b1;cases e;obtain⟨d',vs',e,d1',b2⟩:=b2;cases e;rw[ih a1 a2 b1 b2];have e1:=Can.uniq kt c1 c1';have e2:=Can.uniq vt d1 d1';obtain⟨p1,p2⟩:=p;obtain⟨q1,q2⟩:=p';simp only at e1 e2;rw[e1,e2]
  exact key h1 h2 k1 k2
 | .nil,_,_,_,_,_=>rfl
 | .one t,_,_,_,h,k=>by
  unfold Can at h k;obtain⟨c,rfl,h⟩:=h;obtain⟨c',e,k⟩:=k;cases e;exact Can.uniq t h k
 | .cons t r,(a,b),(a',b'),_,h,k=>by
  unfold Can at h k;obtain⟨c,l,rfl,h1,h2⟩:=h;obtain⟨c',l',e,k1,k2⟩:=k;cases e;have e1:=Can.uniq t h1 k1;have e2:=Can.uniq r h2 k2;simp only at e1 e2;rw[e1,e2]
theorem RelC.plain{w:World}{M:MM}:∀(t:Ty) {x:D t} {cs:List CV} {vs:List Value},Can t x cs→RelL w M cs vs→RelL w M (A0 t x) vs:=by
 have hd:∀(t:Ty),(∀{x:D t} {cs:List CV} {vs:List Value},Can t x cs→RelL w M cs vs→RelL w M (A0 t x) vs)→∀{x:D t} {c:CV} {v:Value},Can t x [c]→RelC w M c v→RelC w M ((A0 t x).headD .nilif) v:=by
  intro t ih x c v hc hr;have:=ih hc (RelL.cons hr RelL.nil);have hl:=this.length
  match he:A0 t x with
  | []=>rw[he]at hl;simp at hl
  | [d]=>
   rw[he]at this;unfold RelL at this;obtain⟨v',vs',e,h1,h2⟩:=this;cases e;exact h1
  |d::d'::ds=>rw[he]at hl;simp at hl
 have relL1:∀{c:CV} {vs:List Value},RelL w M [c] vs→∃v,vs= [v]∧RelC w M c v:=by
  intro c vs h;unfold RelL at h;obtain⟨v,vs',rfl,h1,h2⟩:=h;unfold RelL at h2;subst h2;exact⟨v,rfl,h1⟩
 intro t
 induction t with
 |int k=>intro x cs vs h hr;unfold Can at h;subst h;exact hr
 |bool=>intro x cs vs h hr;unfold Can at h;subst h;exact hr
 |str=>intro x cs vs h hr;unfold Can at h;subst h;exact hr
 |err=>intro x cs vs h hr;unfold Can at h;subst h;exact hr
 |clo f r ih=>
  intro x cs vs h hr;unfold Can at h;obtain⟨l,rfl,h⟩:=h;obtain⟨v,rfl,hv⟩:=relL1 hr;refine RelL.cons ?_ RelL.nil;unfold RelC at hv⊢;obtain⟨us,e,hl⟩:=hv;exact⟨us,e,ih h hl⟩
 |falt f r l ih ihl=>
  intro x cs vs h hr
  cases x with
  |inl y=>
   unfold Can at h;obtain⟨cap,rfl,h⟩:=h;obtain⟨v,rfl,hv⟩:=relL1 hr;refine RelL.cons ?_ RelL.nil;unfold RelC at hv⊢;obtain⟨us,e,hl⟩:=hv;exact⟨us,e,ih h hl⟩
  |inr z=>
   unfold Can at h;exact ihl h.2 hr
 |nsl=>intro x cs vs h hr;unfold Can at h;subst h;exact hr
 |nmap=>intro x cs vs h hr;unfold Can at h;subst h;exact hr
 |nfn=>intro x cs vs h hr;unfold Can at h;subst h;exact hr
 |nam N=>intro x cs vs h hr;unfold Can at h;subst h;exact hr
 |nilp=>intro x cs vs h hr;unfold Can at h;subst h;exact hr
 |bptr N=>
  intro x cs vs h hr;unfold Can at h;unfold A0;rcases h with rfl|rfl|rfl
  ·exact hr
  ·obtain⟨v,rfl,hv⟩:=relL1 hr;refine RelL.cons ?_ RelL.nil;unfold RelC at hv⊢;exact .inr hv
  ·obtain⟨v,rfl,hv⟩:=relL1 hr;refine RelL.cons ?_ RelL.nil;unfold RelC at hv⊢;exact .inl hv
 |nw e size t _=>intro x cs vs h;unfold Can at h;exact h.elim
 |pt r ih=>
  intro x cs vs h hr;unfold Can at h;obtain⟨l,rfl,h⟩:=h;obtain⟨v,rfl,hv⟩:=relL1 hr;refine RelL.cons ?_ RelL.nil;unfold RelC at hv⊢;obtain⟨ad,ty,us,e,g1,g2,hl⟩:=hv;exact⟨ad,ty,us,e,g1,g2,ih h hl⟩
 |nil=>intro x cs vs h hr;unfold Can at h;subst h;exact hr
 |agg r ih=>
  intro x cs vs h hr;unfold Can at h;obtain⟨l,rfl,h⟩:=h;obtain⟨v,rfl,hv⟩:=relL1 hr;refine RelL.cons ?_ RelL.nil;unfold RelC at hv⊢;obtain⟨us,e,hl⟩:=hv;exact⟨us,e,ih h hl⟩
 |tup r ih=>
  intro x cs vs h hr;unfold Can at h;obtain⟨l,rfl,h⟩:=h;obtain⟨v,rfl,hv⟩:=relL1 hr;refine RelL.cons ?_ RelL.nil;unfold RelC at hv⊢;obtain⟨us,e,hl⟩:=hv;exact⟨us,e,ih h hl⟩
 |sl e ih=>
  intro x cs vs h hr;unfold Can at h;obtain⟨nl,es,rfl,h⟩:=h;obtain⟨v,rfl,hv⟩:=relL1 hr;refine RelL.cons ?_ RelL.nil;have hlen:=h.length;unfold RelC at hv⊢;obtain⟨a,n,c,ev,hn,hle,_,_,hc0,hmem⟩:=hv;refine⟨a,n,c,ev,by simp[hn,hlen],hle,(fun h=>by cases h),(fun h=>by cases h),hc0,fun hne=> ?_⟩
  obtain⟨ad,size,ea,hlt,hM,hE⟩:=hmem (by
   intro h0;subst h0;simp only[List.length_nil]at hlen
   exact hne (by simp[List.eq_nil_of_length_eq_zero hlen.symm]))
  refine⟨ad,size,ea,hlt,hM, ?_⟩;clear hne ea hn hlen
  have key:∀{xs:List (D e)} {es:List CV} {i:Nat},Ap (fun x c=>Can e x [c]) xs es→AZ w M ad size i es→AZ w M ad size i (xs.map fun x=>(A0 e x).headD .nilif):=by
   intro xs
   induction xs with
   |nil=>intro es i _ _;unfold AZ;trivial
   |cons y ys ihx=>
    intro es i hc hE;obtain⟨c,es',rfl,h1,h2⟩:=hc;unfold AZ at hE;obtain⟨⟨u,g1,g2,g3⟩,g4⟩:=hE;simp only[List.map_cons];unfold AZ;exact⟨⟨u,hd e ih h1 g1,g2,g3⟩,ihx h2 g4⟩
  exact key h hE
 |map kt vt ihk ihv=>
  intro x cs vs h hr;unfold Can at h;obtain⟨nl,ks,us,rfl,h1,h2⟩:=h;obtain⟨v,rfl,hv⟩:=relL1 hr;refine RelL.cons ?_ RelL.nil;have hl1:=h1.length;have hl2:=h2.length;unfold RelC at hv⊢;obtain⟨r,ev,_,_,h0,hm⟩:=hv;refine⟨r,ev,(fun h=>by cases h),(fun h=>by cases h),fun hr0=> ?_,fun b hb=> ?_⟩
  ·obtain⟨e1,e2⟩:=h0 hr0;subst e1;have:x= []:=List.eq_nil_of_length_eq_zero (by simpa using hl1.symm);subst this;exact⟨rfl,rfl⟩
  ·obtain⟨hM,ens,ens',clk,hh,hE,hp,r1,r2⟩:=hm b hb;refine⟨hM,ens,ens',clk,hh,hE,hp, ?_, ?_⟩
   ·have key:∀(m:List (D kt×D vt)) (ks:List CV) (vs:List Value),Ap (fun x c=>Can kt x.1 [c]) m ks→RelL w M ks vs→RelL w M (m.map fun x=>(A0 kt x.1).headD .nilif) vs:=by
     intro m
     induction m with
     |nil=>
      intro ks vs h1 r1;unfold Ap at h1;subst h1;exact r1
     |cons p m ihm=>
      intro ks vs h1 r1;obtain⟨c,ks',rfl,g1,g2⟩:=h1;unfold RelL at r1;obtain⟨v',vs',e,q1,q2⟩:=r1;rw[e];exact RelL.cons (hd kt ihk g1 q1) (ihm ks' vs' g2 q2)
    exact key _ _ _ h1 r1
   ·have key:∀(m:List (D kt×D vt)) (ks:List CV) (vs:List Value),Ap (fun x c=>Can vt x.2 [c]) m ks→RelL w M ks vs→RelL w M (m.map fun x=>(A0 vt x.2).headD .nilif) vs:=by
     intro m
     induction m with
     |nil=>
      intro ks vs h1 r1;unfold Ap at h1;subst h1;exact r1
     |cons p m ihm=>
      intro ks vs h1 r1;obtain⟨c,ks',rfl,g1,g2⟩:=h1;unfold RelL at r1;obtain⟨v',vs',e,q1,q2⟩:=r1;rw[e];exact RelL.cons (hd vt ihv g1 q1) (ihm ks' vs' g2 q2)
    exact key _ _ _ h2 r2
 |one t ih=>
  intro x cs vs h hr;unfold Can at h;obtain⟨c,rfl,h⟩:=h;obtain⟨v,rfl,hv⟩:=relL1 hr;exact RelL.cons (hd t ih h hv) RelL.nil
 |cons t r iht ihr=>
  intro x cs vs h hr;unfold Can at h;obtain⟨c,l,rfl,h1,h2⟩:=h;unfold RelL at hr;obtain⟨v,vs',rfl,h3,h4⟩:=hr;exact RelL.cons (hd t iht h1 h3) (ihr h2 h4)
theorem RelC.enc{w:World}{M:MM}{t:Ty}{x:D t}{c:CV}{v:Value}(h:Can t x [c])(hr:RelC w M c v):RelC w M (enc t x) v:=by
 have:=RelC.plain t h (RelL.cons hr RelL.nil);have hl:=this.length;unfold WB.enc
 match he:A0 t x with
 | []=>rw[he]at hl;simp at hl
 | [d]=>
  rw[he]at this;unfold RelL at this;obtain⟨v',vs',e,h1,h2⟩:=this;cases e;exact h1
 |d::d'::ds=>rw[he]at hl;simp at hl
def Ty.fnNo(f:Nat):Ty→Bool
 | .clo g _=>g !=f
 | .nfn=>true
 | .falt g _ l=>g !=f&&l.fnNo f
 |_=>false
def Ty.ok:Ty→Bool
 | .agg r=> !r.val&&r.ok
 | .tup r=> !r.val&&r.ok
 | .pt r=> !r.val&&r.ok
 | .nw _ _ _=>false
 | .clo _ r=> !r.val&&r.ok
 | .falt f r l=> !r.val&&r.ok&&l.ok&&l.fnNo f
 | .sl e=>e.val&&e.ok
 | .map k v=>k.val&&k.ok&&v.val&&v.ok
 | .one t=>t.val&&t.ok
 | .cons t r=>t.val&&t.ok&& !r.val&&r.ok
 |_=>true
theorem SN{f:Nat}:∀{l:Ty} {x:D l},l.fnNo f=true→∀cap,A0 l x≠ [.fn f cap]:=by
 intro l
 induction l with
 |clo g r _=>
  intro x h cap e;unfold A0 at e;simp only[List.cons.injEq,CV.fn.injEq,and_true]at e;simp[Ty.fnNo]at h;exact h e.1
 |nfn=>intro x h cap e;unfold A0 at e;cases e
 |falt g r l _ ihl=>
  intro x h cap e;simp only[Ty.fnNo,Af]at h
  cases x with
  |inl y=>
   unfold A0 at e;simp only[List.cons.injEq,CV.fn.injEq,and_true]at e;simp at h;exact h.1 e.1
  |inr z=>unfold A0 at e;exact ihl h.2 cap e
 |_=>intro x h;cases h
theorem Can.plain:∀(t:Ty) (x:D t),t.ok=true→Can t x (A0 t x):=by
 have hd:∀(t:Ty),(∀(x:D t),t.ok=true→Can t x (A0 t x))→∀(x:D t),t.val=true→t.ok=true→Can t x [(A0 t x).headD .nilif]:=by
  intro t ih x hv ho;have h:=ih x ho;obtain⟨c,hc⟩:=h.one hv;rw[hc]at h⊢;exact h
 intro t
 induction t with
 |int k=>intro x _;unfold Can A0;rfl
 |bool=>intro x _;unfold Can A0;rfl
 |str=>intro x _;unfold Can A0;rfl
 |err=>intro x _;unfold Can A0;rfl
 |clo f r ih=>
  intro x h;simp only[Ty.ok,Af]at h;unfold Can A0;exact⟨_,rfl,ih x h.2⟩
 |falt f r l ih ihl=>
  intro x h;simp only[Ty.ok,Af]at h
  cases x with
  |inl y=>unfold Can A0;exact⟨_,rfl,ih y h.1.1.2⟩
  |inr z=>
   have h1:=ihl z h.1.2;have h2:∀cap,A0 l z≠ [.fn f cap]:=SN h.2;unfold Can;have e:A0 (.falt f r l) (.inr z)=A0 l z:=rfl;rw[e];exact⟨h2,h1⟩
 |nsl=>intro x _;unfold Can A0;rfl
 |nmap=>intro x _;unfold Can A0;rfl
 |nfn=>intro x _;unfold Can A0;rfl
 |nam N=>intro x _;unfold Can A0;rfl
 |bptr N=>intro x _;unfold Can A0;exact .inl rfl
 |nilp=>intro x _;unfold Can A0;rfl
 |nw e size t _=>intro x h;cases h
 |pt r ih=>
  intro x h;simp only[Ty.ok,Af]at h;unfold Can A0;exact⟨_,rfl,ih x h.2⟩
 |nil=>intro x _;unfold Can A0;rfl
 |agg r ih=>
  intro x h;simp only[Ty.ok,Af]at h;unfold Can A0;exact⟨_,rfl,ih x h.2⟩
 |tup r ih=>
  intro x h;simp only[Ty.ok,Af]at h;unfold Can A0;exact⟨_,rfl,ih x h.2⟩
 |sl e ih=>
  intro x h;simp only[Ty.ok,Af]at h;unfold Can A0;refine⟨none,_,rfl, ?_⟩
  induction x with
  |nil=>rfl
  |cons y ys ihx=>exact⟨_,_,rfl,hd e ih y h.1 h.2,ihx⟩
 |map kt vt ihk ihv=>
  intro x h;simp only[Ty.ok,Af]at h;obtain⟨⟨⟨h1,h2⟩,h3⟩,h4⟩:=h;unfold Can A0;refine⟨none,_,_,rfl, ?_, ?_⟩
  ·induction x with
   |nil=>rfl
   |cons y ys ihx=>exact⟨_,_,rfl,hd kt ihk _ h1 h2,ihx⟩
  ·induction x with
   |nil=>rfl
   |cons y ys ihx=>exact⟨_,_,rfl,hd vt ihv _ h3 h4,ihx⟩
 |one t ih=>
  intro x h;simp only[Ty.ok,Af]at h;unfold Can A0;exact⟨_,rfl,hd t ih x h.1 h.2⟩
 |cons t r iht ihr=>
  intro x h;simp only[Ty.ok,Af]at h;obtain⟨⟨⟨h1,h2⟩,h3⟩,h4⟩:=h;unfold Can A0;exact⟨_,_,rfl,hd t iht x.1 h1 h2,ihr x.2 h4⟩
theorem Can.enc{t:Ty}(x:D t)(hv:t.val=true)(ho:t.ok=true):Can t x [WB.enc t x]:=by
 have h:=Can.plain t x ho;obtain⟨c,hc⟩:=h.one hv;unfold WB.enc;rw[hc]at h⊢;exact h
end WB
