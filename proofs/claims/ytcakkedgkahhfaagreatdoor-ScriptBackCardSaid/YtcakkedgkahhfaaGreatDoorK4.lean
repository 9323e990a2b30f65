/-
  OWN TEXTS, MERGED (wip/merge.py): CoreTb, CoreTc, CoreTd, CoreTe, CoreTf, CoreTg, CoreTga, CoreTh. No condition of their own.
-/
import Derived.Test.YtcakkedgkahhfaaGreatDoorK3
set_option linter.unusedVariables false
set_option linter.unusedSimpArgs false
open Go.IntKind (i64 u64 u8 u32)
namespace WB
open Go Go.RowKit
def AY:Ty→Option Nat
 | .nil=>some 0
 | .one _=>some 1
 | .cons _ r=>(AY r).map (· +1)
 |_=>none
def BS:Ty→Ty
 | .agg r=>r
 |t=>.one t
def EI:(t:Ty)→D t→D (BS t)
 | .int _,x| .bool,x| .str,x| .err,x| .clo _ _,x| .falt _ _ _,x| .nfn,x| .nam _,x| .bptr _,x| .nilp,x| .pt _,x| .nw _ _ _,x| .nsl,x| .nmap,x| .agg _,x| .tup _,x| .sl _,x| .map _ _,x| .nil,x| .one _,x| .cons _ _,x=>x
def Em:(r:Ty)→Nat→Option (Σ q:Ty,D r→D q)
 |r,0=>some ⟨r,fun x=>x⟩
 | .one _,1=>some ⟨.nil,fun _=>()⟩
 | .cons _ r,n+1=>match Em r n with
  |some q=>some ⟨q.1,fun x=>q.2 x.2⟩
  |none=>none
 |_,_=>none
def Dy:(r:Ty)→Nat→Option (Σ q:Ty,D r→D q)
 | .one t,1=>some ⟨.one t,fun x=>x⟩
 | .cons t _,1=>some ⟨.one t,fun x=>x.1⟩
 | .cons t r,n+2=>match Dy r (n+1)with
  |some q=>some ⟨.cons t q.1,fun x=>(x.1,q.2 x.2)⟩
  |none=>none
 |_,0=>some ⟨.nil,fun _=>()⟩
 |_,_=>none
def Ds:(r:Ty)→Nat→Option (Σ t:Ty,D r→D t)
 | .one t,0=>some ⟨t,fun x=>x⟩
 | .cons t _,0=>some ⟨t,fun x=>x.1⟩
 | .cons _ r,n+1=>match Ds r n with
  |some q=>some ⟨q.1,fun x=>q.2 x.2⟩
  |none=>none
 |_,_=>none
def Kw(r:Ty)(off n:Nat):Option (Σ q:Ty,D r→D q):=
 match Em r off with
 |some p=>match Dy p.1 n with
  |some q=>some ⟨q.1,fun x=>q.2 (p.2 x)⟩
  |none=>none
 |none=>none
def Eu:(r:Ty)→Nat→(t:Ty)→Option (Σ q:Ty,D r→D t→D q)
 | .one _,0,t=>some ⟨.one t,fun _ y=>y⟩
 | .cons _ r,0,t=>some ⟨.cons t r,fun x y=>(y,x.2)⟩
 | .cons u r,n+1,t=>match Eu r n t with
  |some q=>some ⟨.cons u q.1,fun x y=>(x.1,q.2 x.2 y)⟩
  |none=>none
 |_,_,_=>none
def Ip:(p:Ty)→(r:Ty)→Nat→Option (Σ q:Ty,D r→D p→D q)
 | .one t,r,off=>Eu r off t
 | .cons t p,r,off=>match Eu r off t with
  |some q=>match Ip p q.1 (off+1)with
   |some q'=>some ⟨q'.1,fun x y=>q'.2 (q.2 x y.1) y.2⟩
   |none=>none
  |none=>none
 |_,_,_=>none
theorem DX:∀{r:Ty} {n:Nat} {x:D r} {l:List CV},AY r=some n→Can r x l→l.length=n
 | .nil,_,_,_,hn,h=>by unfold Can at h;subst h;simpa[AY]using hn
 | .one t,_,_,_,hn,h=>by unfold Can at h;obtain⟨c,rfl,_⟩:=h;simpa[AY]using hn
 | .cons t r,n,x,l,hn,h=>by
  unfold Can at h;obtain⟨c,l',rfl,_,h⟩:=h;simp only[AY,Aa]at hn;obtain⟨m,hm,rfl⟩:=hn;simp[DX hm h]
theorem Jg:∀{r:Ty} {n:Nat} {q:Σ q:Ty,D r→D q} {x:D r} {l:List CV},Em r n=some q→Can r x l→Can q.1 (q.2 x) (l.drop n)∧(n=0∨n≤l.length):=by
 intro r n
 induction n generalizing r with
 |zero=>
  intro q x l h hc;have e:Em r 0=some ⟨r,fun x=>x⟩:=by cases r<;>rfl
  rw[e]at h;cases h;exact⟨hc,.inl rfl⟩
 |succ n ih=>
  intro q x l h hc;cases r<;>(try simp[Em]at h;done)
  ·rename_i t
   cases n with
   |zero=>
    change(some (⟨.nil,fun _=>()⟩:Σ q:Ty,D (.one t)→D q))=some q at h;cases h;unfold Can at hc;obtain⟨c,rfl,_⟩:=hc;exact⟨by simp[Can],.inr (by simp)⟩
   |succ n=>simp[Em]at h
  ·rename_i t r;unfold Can at hc;obtain⟨c,l',rfl,_,hc⟩:=hc;simp only[Em]at h;split at h<;>(try cases h;done);rename_i p hp;cases h;obtain⟨h1,h2⟩:=ih hp hc;exact⟨by simpa using h1,.inr (by simp;omega)⟩
theorem Ky:∀{n:Nat} {r:Ty} {q:Σ q:Ty,D r→D q} {x:D r} {l:List CV},Dy r n=some q→Can r x l→Can q.1 (q.2 x) (l.take n)∧n≤l.length:=by
 intro n
 induction n with
 |zero=>
  intro r q x l h hc;have e:Dy r 0=some ⟨.nil,fun _=>()⟩:=by cases r<;>rfl
  rw[e]at h;cases h;exact⟨by simp[Can],by omega⟩
 |succ n ih=>
  intro r q x l h hc;cases r<;>(try simp[Dy]at h;done)
  ·rename_i t
   cases n with
   |zero=>
    change(some (⟨.one t,fun x=>x⟩:Σ q:Ty,D (.one t)→D q))=some q at h;cases h;have hc':=hc;unfold Can at hc';obtain⟨c,rfl,_⟩:=hc';exact⟨hc,by simp⟩
   |succ n=>simp[Dy]at h
  ·rename_i t r;unfold Can at hc;obtain⟨c,l',rfl,h1,hc⟩:=hc
   cases n with
   |zero=>
    change(some (⟨.one t,fun x=>x.1⟩:Σ q:Ty,D (.cons t r)→D q))=some q at h;cases h;refine⟨?_,by simp⟩;simp only[List.take_succ_cons,List.take_zero];unfold Can;exact⟨c,rfl,h1⟩
   |succ n=>
    simp only[Dy]at h;split at h<;>(try cases h;done);rename_i p hp;cases h;obtain⟨h3,h4⟩:=ih hp hc;refine⟨?_,by simp;omega⟩;simp only[List.take_succ_cons];unfold Can;exact⟨c,_,rfl,h1,h3⟩
theorem QN{r:Ty}{off n:Nat}{q:Σ q:Ty,D r→D q}{x:D r}{l:List CV}(h:Kw r off n=some q)(hc:Can r x l):Can q.1 (q.2 x) ((l.drop off).take n)∧(n≤l.length-off):=by
 unfold Kw at h;split at h<;>(try cases h;done);rename_i p hp;split at h<;>(try cases h;done);rename_i q' hq;cases h;obtain⟨h1,h2⟩:=Ky hq (Jg hp hc).1;exact⟨h1,by simpa using h2⟩
theorem GO:∀{r:Ty} {n:Nat} {q:Σ q:Ty,D r→D q} {x:D r} {l:List CV},Ds r n=some q→Can r x l→∃c,l[n]? =some c∧Can q.1 (q.2 x) [c]:=by
 intro r n
 induction n generalizing r with
 |zero=>
  intro q x l h hc;cases r<;>(try simp[Ds]at h;done)
  ·simp only[Ds,Ac]at h;subst h;unfold Can at hc;obtain⟨c,rfl,h1⟩:=hc;exact⟨c,rfl,h1⟩
  ·simp only[Ds,Ac]at h;subst h;unfold Can at hc;obtain⟨c,l',rfl,h1,hc⟩:=hc;exact⟨c,rfl,h1⟩
 |succ n ih=>
  intro q x l h hc;cases r<;>(try simp[Ds]at h;done);rename_i t r;unfold Can at hc;obtain⟨c,l',rfl,h1,hc⟩:=hc;simp only[Ds]at h;split at h<;>(try cases h;done);rename_i p hp;cases h;simpa using ih hp hc
theorem Q1:∀{n:Nat} {r t:Ty} {q:Σ q:Ty,D r→D t→D q} {x:D r} {y:D t} {l:List CV} {c:CV},Eu r n t=some q→Can r x l→Can t y [c]→Can q.1 (q.2 x y) (l.set n c)∧n<l.length:=by
 intro n
 induction n with
 |zero=>
  intro r t q x y l c h hc hy;cases r<;>(try simp[Eu]at h;done)
  ·simp only[Eu,Ac]at h;subst h;unfold Can at hc;obtain⟨d,rfl,h1⟩:=hc;refine⟨?_,by simp⟩;simp only[List.set_cons_zero];unfold Can;exact⟨c,rfl,hy⟩
  ·simp only[Eu,Ac]at h;subst h;unfold Can at hc;obtain⟨d,l',rfl,h1,hc⟩:=hc;refine⟨?_,by simp⟩;simp only[List.set_cons_zero];unfold Can;exact⟨c,_,rfl,hy,hc⟩
 |succ n ih=>
  intro r t q x y l c h hc hy;cases r<;>(try simp[Eu]at h;done);rename_i u r;unfold Can at hc;obtain⟨d,l',rfl,h1,hc⟩:=hc;simp only[Eu]at h;split at h<;>(try cases h;done);rename_i p hp;cases h;obtain⟨h2,h3⟩:=ih hp hc hy;refine⟨?_,by simp;omega⟩;simp only[List.set_cons_succ];unfold Can;exact⟨d,_,rfl,h1,h2⟩
theorem PQ:∀{p r:Ty} {off:Nat} {q:Σ q:Ty,D r→D p→D q} {x:D r} {y:D p} {l cs:List CV},Ip p r off=some q→Can r x l→Can p y cs→Can q.1 (q.2 x y) (l.take off++cs++l.drop (off+cs.length))∧off+cs.length≤l.length:=by
 intro p
 induction p with
 |one t iht=>
  intro r off q x y l cs h hc hy;have h':Eu r off t=some q:=h;unfold Can at hy;obtain⟨c,rfl,hy⟩:=hy;obtain⟨h1,h2⟩:=Q1 h' hc hy;refine⟨?_,by simp;omega⟩;rw[List.set_eq_take_append_cons_drop,if_pos h2]at h1;simpa using h1
 |cons t p iht ihp=>
  intro r off q x y l cs h hc hy;unfold Can at hy;obtain⟨c,cs',rfl,hy1,hy2⟩:=hy;have h':=h;unfold Ip at h';split at h'<;>(try cases h';done);rename_i q1 hq1;split at h'<;>(try cases h';done);rename_i q2 hq2;cases h';obtain⟨h1,h2⟩:=Q1 hq1 hc hy1;obtain⟨h3,h4⟩:=ihp hq2 h1 hy2;simp only[List.length_set]at h4;refine⟨?_,by simp;omega⟩
  have e1:(l.set off c).take (off+1)=l.take off++ [c]:=by
   rw[List.set_eq_take_append_cons_drop,if_pos h2];rw[List.take_append,List.take_of_length_le (by simp;omega)];have:off+1-(l.take off).length=1:=by simp;omega
   rw[this];simp
  have e2:(l.set off c).drop (off+1+cs'.length)=l.drop (off+(cs'.length+1)):=by
   rw[List.drop_set_of_lt (by omega)]
   congr 1
   omega
  rw[e1,e2]at h3;simpa using h3
 |_=>intro r off q x y l cs h;cases h
theorem Fw{t:Ty}{x:D t}{c:CV}(hv:t.val=true)(h:Can t x [c]):Can (BS t) (EI t x) c.cells:=by
 cases t<;>(try(simp[Ty.val]at hv;done))
 case agg=>
  unfold Can at h;obtain⟨l,e,h⟩:=h;cases e;exact h
 all_goals(simp only[BS,EI];have h':=h;unfold Can at h')
 case clo=>obtain⟨l,e,_⟩:=h';cases e;unfold Can;exact⟨_,rfl,h⟩
 case falt f r l=>
  have hc:c.cells= [c]:=by
   obtain⟨c',e,hc',_⟩:=Ju (t:=.falt f r l) (show l.isFn=true by simpa[Ty.val]using hv) h;cases e;exact hc'
  rw[hc];unfold Can;exact⟨_,rfl,h⟩
 case tup=>obtain⟨l,e,_⟩:=h';cases e;unfold Can;exact⟨_,rfl,h⟩
 case pt=>obtain⟨l,e,_⟩:=h';cases e;unfold Can;exact⟨_,rfl,h⟩
 case bptr=>rcases h' with e|e|e<;>(cases e;unfold Can;exact⟨_,rfl,h⟩)
 case sl=>obtain⟨_,_,e,_⟩:=h';cases e;unfold Can;exact⟨_,rfl,h⟩
 case map=>obtain⟨_,_,_,e,_⟩:=h';cases e;unfold Can;exact⟨_,rfl,h⟩
 case err=>cases h';unfold Can;cases x<;>exact⟨_,rfl,h⟩
 all_goals(cases h';unfold Can;exact⟨_,rfl,h⟩)
mutual
def Bw:CV→Option (Σ t:Ty,D t)
 | .int k n=>some ⟨.int k,n⟩
 | .bool b=>some ⟨.bool,b⟩
 | .str s=>some ⟨.str,s⟩
 | .nilif=>some ⟨.err,true⟩
 | .nilfn=>some ⟨.nfn,()⟩
 | .nilp=>some ⟨.nilp,()⟩
 | .nam N=>some ⟨.nam N,()⟩
 | .fn f []=>some ⟨.clo f .nil,()⟩
 | .sl (some true) []=>some ⟨.nsl,()⟩
 | .map (some true) [] []=>some ⟨.nmap,()⟩
 | .agg cs=>match E3 cs with
  |some q=>some ⟨.agg q.1,q.2⟩
  |none=>none
 |_=>none
def E3:List CV→Option (Σ t:Ty,D t)
 | []=>some ⟨.nil,()⟩
 | [c]=>match Bw c with
  |some q=>some ⟨.one q.1,q.2⟩
  |none=>none
 |c::d::cs=>match Bw c,E3 (d::cs)with
  |some q,some p=>some ⟨.cons q.1 p.1,(q.2,p.2)⟩
  |_,_=>none
end
mutual
theorem H7:∀{c:CV} {q:Σ t:Ty,D t},Bw c=some q→Can q.1 q.2 [c]
 | .int k n,q,h=>by simp only[Bw,Ac]at h;subst h;unfold Can;rfl
 | .bool b,q,h=>by simp only[Bw,Ac]at h;subst h;unfold Can;rfl
 | .str s,q,h=>by simp only[Bw,Ac]at h;subst h;unfold Can;rfl
 | .nilif,q,h=>by simp only[Bw,Ac]at h;subst h;unfold Can;rfl
 | .nilfn,q,h=>by simp only[Bw,Ac]at h;subst h;unfold Can;rfl
 | .nilp,q,h=>by simp only[Bw,Ac]at h;subst h;unfold Can;rfl
 | .nam _,q,h=>by simp only[Bw,Ac]at h;subst h;unfold Can;rfl
 | .sl nl es,q,h=>by
  match nl,es,h with
  |some true,[],h=>simp only[Bw,Ac]at h;subst h;unfold Can;rfl
  |none,_,h=>simp[Bw]at h
  |some false,_,h=>simp[Bw]at h
  |some true,_::_,h=>simp[Bw]at h
 | .map nl ks vs,q,h=>by
  match nl,ks,vs,h with
  |some true,[],[],h=>simp only[Bw,Ac]at h;subst h;unfold Can;rfl
  |none,_,_,h=>simp[Bw]at h
  |some false,_,_,h=>simp[Bw]at h
  |some true,_::_,_,h=>simp[Bw]at h
  |some true,[],_::_,h=>simp[Bw]at h
 | .agg cs,q,h=>by
  simp only[Bw]at h;split at h<;>(try cases h;done);rename_i p hp;cases h;unfold Can;exact⟨cs,rfl,H6 hp⟩
 | .rp _,q,h=>by simp[Bw]at h
 | .wp _,q,h=>by simp[Bw]at h
 | .fn f l,q,h=>by
  match l,h with
  | [],h=>simp only[Bw,Ac]at h;subst h;unfold Can;exact⟨[],rfl,by unfold Can;rfl⟩
  |_::_,h=>simp[Bw]at h
 | .tup _,q,h=>by simp[Bw]at h
 | .ifc,q,h=>by simp[Bw]at h
 | .adr _,q,h=>by simp[Bw]at h
 | .bptr _,q,h=>by simp[Bw]at h
theorem H6:∀{cs:List CV} {q:Σ t:Ty,D t},E3 cs=some q→Can q.1 q.2 cs
 | [],q,h=>by simp only[E3,Ac]at h;subst h;unfold Can;rfl
 | [c],q,h=>by
  simp only[E3]at h;split at h<;>(try cases h;done);rename_i p hp;cases h;unfold Can;exact⟨c,rfl,H7 hp⟩
 |c::d::cs,q,h=>by
  simp only[E3]at h;split at h<;>(try cases h;done);rename_i p p' hp hp';cases h;unfold Can;exact⟨c,_,rfl,H7 hp,H6 hp'⟩
end
def FI(f:Nat)(r:Ty):(l:Ty)→Option (D r→D l)
 | .clo g r'=>if f=g then(if h:r=r' then some fun x=>h▸x else none)else none
 | .falt g r' l=>if f=g then(if h:r=r' then some fun x=>.inl (h▸x)else none)else match FI f r l with
  |some a=>some fun x=>.inr (a x)
  |none=>none
 |_=>none
def JI:(l:Ty)→Option (D l)
 | .nfn=>some ()
 | .falt _ _ l=>match JI l with
  |some a=>some (.inr a)
  |none=>none
 |_=>none
theorem Pw:∀{l:Ty} {a:D l},JI l=some a→Can l a [.nilfn]
 | .nfn,a,ha=>by unfold Can;rfl
 | .falt g r' l,a,ha=>by
  simp only[JI]at ha;split at ha<;>(try cases ha;done);rename_i a' ha';cases ha;unfold Can;exact⟨(fun cap' e=>by cases e),Pw ha'⟩
 | .clo _ _,_,ha| .int _,_,ha| .bool,_,ha| .str,_,ha| .err,_,ha| .nsl,_,ha| .nmap,_,ha| .nam _,_,ha| .bptr _,_,ha| .nilp,_,ha| .pt _,_,ha| .nw _ _ _,_,ha| .agg _,_,ha| .tup _,_,ha| .sl _,_,ha| .map _ _,_,ha| .nil,_,ha| .one _,_,ha| .cons _ _,_,ha=>by cases ha
theorem IV{f:Nat}{r:Ty}{x:D r}{cap:List CV}(h:Can r x cap):∀{l:Ty} {a:D r→D l},FI f r l=some a→Can l (a x) [.fn f cap]
 | .clo g r',a,ha=>by
  simp only[FI]at ha;split at ha<;>(try cases ha;done);rename_i hf;split at ha<;>(try cases ha;done);rename_i hr;subst hf;subst hr;cases ha;unfold Can;exact⟨cap,rfl,h⟩
 | .falt g r' l,a,ha=>by
  simp only[FI]at ha;split at ha
  ·rename_i hf;split at ha<;>(try cases ha;done);rename_i hr;subst hf;subst hr;cases ha;unfold Can;exact⟨cap,rfl,h⟩
  ·rename_i hf;split at ha<;>(try cases ha;done);rename_i a' ha';cases ha;unfold Can;exact⟨fun cap' e=>by simp only[List.cons.injEq,CV.fn.injEq,and_true]at e;exact hf e.1,IV h ha'⟩
 | .nfn,_,ha| .int _,_,ha| .bool,_,ha| .str,_,ha| .err,_,ha| .nsl,_,ha| .nmap,_,ha| .nam _,_,ha| .bptr _,_,ha| .nilp,_,ha| .pt _,_,ha| .agg _,_,ha| .tup _,_,ha| .sl _,_,ha| .map _ _,_,ha| .nil,_,ha| .one _,_,ha| .cons _ _,_,ha=>by cases ha
def Gx:(l m:Ty)→Option (D l→D m)
 | .clo f r,m=>FI f r m
 | .nfn,m=>match JI m with
  |some a=>some fun _=>a
  |none=>none
 | .falt f r l,m=>match FI f r m,Gx l m with
  |some a,some b=>some fun x=>match x with
   | .inl y=>a y
   | .inr z=>b z
  |_,_=>none
 |_,_=>none
theorem NW:∀{l m:Ty} {a:D l→D m} {x:D l} {cs:List CV},Gx l m=some a→Can l x cs→Can m (a x) cs:=by
 intro l
 induction l with
 |clo f r _=>
  intro m a x cs h hc;unfold Can at hc;obtain⟨cap,rfl,hc⟩:=hc;exact IV hc h
 |nfn=>
  intro m a x cs h hc;unfold Can at hc;subst hc;simp only[Gx]at h;split at h<;>(try cases h;done);rename_i b hb;cases h;exact Pw hb
 |falt f r l _ ihl=>
  intro m a x cs h hc;simp only[Gx]at h;split at h<;>(try cases h;done);rename_i a' b' ha hb;cases h
  cases x with
  |inl y=>
   unfold Can at hc;obtain⟨cap,rfl,hc⟩:=hc;exact IV hc ha
  |inr z=>
   unfold Can at hc;exact ihl hb hc.2
 |_=>intro m a x cs h;cases h
def Bb:(t u:Ty)→Option (D t→D u)
 | .nsl,.sl _=>some fun _=> []
 | .nmap,.map _ _=>some fun _=> []
 | .nilp,.bptr _=>some fun _=>()
 | .nam N,.bptr N'=>if N=N' then some fun _=>()else none
 | .clo f r,.falt g r' l=>FI f r (.falt g r' l)
 | .nfn,.falt g r' l=>Gx .nfn (.falt g r' l)
 | .falt f r l,.falt g r' l'=>if h:Ty.falt f r l=.falt g r' l' then some fun x=>h▸x else Gx (.falt f r l) (.falt g r' l')
 | .agg r,.agg r'=>Bb r r'
 | .tup r,.tup r'=>Bb r r'
 | .one t,.one t'=>Bb t t'
 | .cons t r,.cons t' r'=>match Bb t t',Bb r r' with
  |some f,some g=>some fun x=>(f x.1,g x.2)
  |_,_=>none
 |t,u=>if h:t=u then some fun x=>h▸x else none
theorem D4{t u:Ty}{f:D t→D u}(h:(if h:t=u then some (fun x=>h▸x:D t→D u)else none)=some f){x:D t}{cs:List CV}(hc:Can t x cs):Can u (f x) cs:=by
 split at h<;>(try cases h;done);rename_i e;subst e;cases h;exact hc
theorem BV:∀(t u:Ty) {f:D t→D u} {x:D t} {cs:List CV},Bb t u=some f→Can t x cs→Can u (f x) cs:=by
 intro t
 induction t with
 |clo g r _=>
  intro u f x cs h hc
  cases u with
  |falt g' r' l=>
   unfold Can at hc;obtain⟨cap,rfl,hc⟩:=hc;exact IV hc h
  |_=>exact D4 h hc
 |nfn=>
  intro u f x cs h hc
  cases u with
  |falt g' r' l'=>exact NW (l:=.nfn) (m:=.falt g' r' l') h hc
  |_=>exact D4 h hc
 |falt g r l _ _=>
  intro u f x cs h hc
  cases u with
  |falt g' r' l'=>
   simp only[Bb]at h;split at h
   ·rename_i e;cases e;cases h;exact hc
   ·exact NW (l:=.falt g r l) (m:=.falt g' r' l') h hc
  |_=>exact D4 h hc
 |nsl=>
  intro u f x cs h hc
  cases u with
  |sl e=>
   simp only[Bb,Ac]at h;subst h;unfold Can at hc⊢;exact⟨_,_,hc,rfl⟩
  |_=>exact D4 h hc
 |nmap=>
  intro u f x cs h hc
  cases u with
  |map k v=>
   simp only[Bb,Ac]at h;subst h;unfold Can at hc⊢;exact⟨_,_,_,hc,rfl,rfl⟩
  |_=>exact D4 h hc
 |nilp=>
  intro u f x cs h hc
  cases u with
  |bptr N=>unfold Can at hc⊢;exact .inr (.inr hc)
  |_=>exact D4 h hc
 |nam N=>
  intro u f x cs h hc
  cases u with
  |bptr N'=>
   simp only[Bb]at h;split at h<;>(try cases h;done);rename_i e;subst e;unfold Can at hc⊢;exact .inr (.inl hc)
  |_=>exact D4 h hc
 |agg r ih=>
  intro u f x cs h hc
  cases u with
  |agg r'=>
   unfold Can at hc⊢;obtain⟨l,e,hc⟩:=hc;exact⟨l,e,ih r' h hc⟩
  |_=>exact D4 h hc
 |tup r ih=>
  intro u f x cs h hc
  cases u with
  |tup r'=>
   unfold Can at hc⊢;obtain⟨l,e,hc⟩:=hc;exact⟨l,e,ih r' h hc⟩
  |_=>exact D4 h hc
 |one t ih=>
  intro u f x cs h hc
  cases u with
  |one t'=>
   unfold Can at hc⊢;obtain⟨c,e,hc⟩:=hc;exact⟨c,e,ih t' h hc⟩
  |_=>exact D4 h hc
 |cons t r iht ihr=>
  intro u f x cs h hc
  cases u with
  |cons t' r'=>
   simp only[Bb]at h;split at h<;>(try cases h;done);rename_i f1 g1 hf hg;cases h;unfold Can at hc⊢;obtain⟨c,l,e,h1,h2⟩:=hc;exact⟨c,l,e,iht t' hf h1,ihr r' hg h2⟩
  |_=>exact D4 h hc
 |_=>intro u f x cs h hc;exact D4 (by cases u<;>exact h) hc
inductive Dyn (A B:Type) where
 |tot (f:A→B)
 |par (f:A→Option B)
def Dyn.val{A B:Type}:Dyn A B→A→Option B
 | .tot f,a=>some (f a)
 | .par f,a=>f a
def Dyn.app{A B R:Type}(d:Dyn A B)(a:A)(K:B→Option R):Option R:=
 match d with
 | .tot f=>K (f a)
 | .par f=>(f a).bind K
def Dyn.map{A B C:Type}(g:A→B→C):Dyn A B→Dyn A C
 | .tot f=>.tot fun a=>g a (f a)
 | .par f=>.par fun a=>(f a).map (g a)
def Dyn.both{A B C:Type}:Dyn A B→Dyn A C→Dyn A (B×C)
 | .tot f,.tot g=>.tot fun a=>(f a,g a)
 |d,e=>.par fun a=>(d.val a).bind fun b=>(e.val a).map fun c=>(b,c)
def Dyn.comp{A B C:Type}:Dyn A B→Dyn B C→Dyn A C
 | .tot f,.tot g=>.tot fun a=>g (f a)
 | .tot f,.par g=>.par fun a=>g (f a)
 | .par f,.tot g=>.par fun a=>(f a).map g
 | .par f,.par g=>.par fun a=>(f a).bind g
section
variable {A B C R:Type}
theorem Dyn.app_some{d:Dyn A B}{a:A}{K:B→Option R}{r:R}(h:d.app a K=some r):∃b,d.val a=some b∧K b=some r:=by
 cases d with
 |tot f=>exact⟨_,rfl,h⟩
 |par f=>exact Ab.1 h
theorem Dyn.map_val{g:A→B→C}{d:Dyn A B}{a:A}{c:C}(h:(d.map g).val a=some c):∃b,d.val a=some b∧c=g a b:=by
 cases d with
 |tot f=>cases h;exact⟨_,rfl,rfl⟩
 |par f=>
  obtain⟨b,h1,h2⟩:=Aa.1 h;exact⟨b,h1,h2.symm⟩
theorem Dyn.both_val{d:Dyn A B}{e:Dyn A C}{a:A}{p:B×C}(h:(d.both e).val a=some p):d.val a=some p.1∧e.val a=some p.2:=by
 have key:∀{x:Option B} {y:Option C},(x.bind fun b=>y.map fun c=>(b,c))=some p→x=some p.1∧y=some p.2:=by
  intro x y h;obtain⟨b,h1,h2⟩:=Ab.1 h;obtain⟨c,h3,h4⟩:=Aa.1 h2;subst h4;exact⟨h1,h3⟩
 cases d<;>cases e
 ·cases h;exact⟨rfl,rfl⟩
 all_goals exact key h
theorem Dyn.comp_val{d:Dyn A B}{e:Dyn B C}{a:A}{c:C}(h:(d.comp e).val a=some c):∃b,d.val a=some b∧e.val b=some c:=by
 cases d<;>cases e
 ·exact⟨_,rfl,h⟩
 ·exact⟨_,rfl,h⟩
 ·obtain⟨b,h1,h2⟩:=Aa.1 h;exact⟨b,h1,by rw[←h2];rfl⟩
 ·exact Ab.1 h
end
inductive EK where
 |v (t:Ty)
 |opt (k:EK)
 |rp (ex:Bool) (r:Ty)
 |ptr (id off:Nat)
 |eptr (id size off:Nat)
 |aptr (id len off:Nat)
 |own (id:Nat)
 |mp (id:Nat)
 |iter (id:Nat)
 |ent (id:Nat) (k v:Ty)
 |stamp (id:Nat) (k:Ty)
 |undef
 |box (n:Nat)
 |arr (e size:Nat) (t:Ty)
 |mob (mt:Nat) (k v:Ty)
 |sit
 |gone
 |buf (e:Nat)
 deriving DecidableEq
@[reducible] def DK:EK→Type
 | .v t=>D t
 | .opt k=>Option (DK k)
 | .rp _ r=>D r
 | .eptr _ _ _=>Nat
 | .aptr _ _ _=>Nat
 | .ent _ k v=>D k×D v
 | .stamp _ k=>D k
 | .arr _ _ t=>List (D t)
 | .mob _ k v=>List (D k×D v)
 | .sit=>List UInt8×Nat
 | .buf _=>List UInt8
 |_=>Unit
inductive Key where
 |s (i:Nat)
 |o (id:Nat)
 |c (id j:Nat)
 deriving DecidableEq
abbrev TC:=List (Key×EK)
@[reducible] def HS:TC→Type
 | []=>Unit
 |e::Γ=>DK e.2×HS Γ
def get:(Γ:TC)→Key→Option (Σ k:EK,HS Γ→DK k)
 | [],_=>none
 |e::Γ,p=>if e.1=p then some ⟨e.2,fun ρ=>ρ.1⟩else match get Γ p with
  |some q=>some ⟨q.1,fun ρ=>q.2 ρ.2⟩
  |none=>none
theorem Ct(Γ:TC)(p:Key)(k:EK):get ((p,k)::Γ) p=some ⟨k,fun ρ=>ρ.1⟩:=by simp[get]
theorem BP{Γ:TC}{q p:Key}{k:EK}(h:q≠p){r:Σ k':EK,HS ((q,k)::Γ)→DK k'}(hg:get ((q,k)::Γ) p=some r):∃f,get Γ p=some ⟨r.1,f⟩∧∀ρ,r.2 ρ=f ρ.2:=by
 unfold get at hg;rw[if_neg h]at hg;split at hg<;>(try cases hg;done);rename_i t ht;cases hg;exact⟨t.2,ht,fun _=>rfl⟩
def Eo:Ty→KT
 | .int k=>.int k
 | .str=>.str
 | .bool=>.bool
 |_=>.struct []
def En:Ty→List KT
 | .one t=> [Eo t]
 | .cons t r=>Eo t::En r
 |_=> []
def ktT:Ty→KT
 | .agg r=>.struct (En r)
 |t=>Eo t
def Cj:(t:Ty)→D t
 | .int _=>0
 | .bool=>false
 | .str=> []
 | .err=>true
 | .clo _ r=>Cj r
 | .falt _ r _=>.inl (Cj r)
 | .nsl=>()
 | .nmap=>()
 | .nfn=>()
 | .nam _=>()
 | .bptr _=>()
 | .nilp=>()
 | .pt r=>Cj r
 | .nw _ _ _=> []
 | .agg r=>Cj r
 | .tup r=>Cj r
 | .sl _=> []
 | .map _ _=> []
 | .nil=>()
 | .one t=>Cj t
 | .cons t r=>(Cj t,Cj r)
def RS:(k:EK)→DK k→SV→Prop
 | .v t,x,sv=>∃c,sv=.c c∧Can t x [c]
 | .opt k,x,sv=>match x with
  |none=>sv=B8
  |some y=>RS k y sv
 | .rp ex r,x,sv=>∃cs rest,sv=.c (.rp (cs++rest))∧Can r x cs∧(ex=true→rest= [])
 | .ptr id o,_,sv=>sv=.ptr id o
 | .eptr id s o,i,sv=>sv=.eptr id i s o
 | .aptr id n o,i,sv=>sv=.ptr id (o+i)∧i<n
 | .own id,_,sv=>sv=.osl id
 | .mp id,_,sv=>sv=.omap id
 | .iter id,_,sv=>sv=.iter id
 | .ent id k v,x,sv=>∃ck cv,sv=.ent id ck cv∧Can k x.1 [ck]∧Can v x.2 [cv]
 | .stamp id k,x,sv=>∃ck,sv=.stamp id ck∧Can k x [ck]
 | .undef,_,_=>True
 |_,_,_=>False
def RO(Γ:TC)(ρ:HS Γ)(id:Nat):(k:EK)→DK k→Ob→Prop
 | .box n,_,ob=>∃cs,ob=.box cs∧cs.length=n∧∀j q,j<n→get Γ (.c id j)=some q→∃sv,cs[j]? =some sv∧RS q.1 (q.2 ρ) sv
 | .arr e size t,xs,ob=>∃es,ob=.arr e size es∧Ap (fun x c=>Can t x [c]) xs es
 | .mob mt k v,m,ob=>∃z ks vs,ob=.map mt (ktT k) z ks vs∧Can v (Cj v) [z]∧Ap (fun x c=>Can k x.1 [c]) m ks∧Ap (fun x c=>Can v x.2 [c]) m vs
 | .sit,x,ob=>ob=.siter x.1 x.2
 | .gone,_,ob=>ob=.none
 | .buf e,s,ob=>ob=.buf e s
 | .undef,_,_=>True
 |_,_,_=>False
structure Rep (Γ:TC) (ρ:HS Γ) (st:St):Prop where
 s:∀i q,get Γ (.s i)=some q→RS q.1 (q.2 ρ) (st.fr i)
 o:∀id q,get Γ (.o id)=some q→RO Γ ρ id q.1 (q.2 ρ) (st.ob id)
theorem RO.congr{Γ Γ':TC}{ρ:HS Γ}{ρ':HS Γ'}{id:Nat}{k:EK}{x:DK k}{ob:Ob}(h:RO Γ ρ id k x ob)(hc:∀j q,get Γ' (.c id j)=some q→∃f,get Γ (.c id j)=some ⟨q.1,f⟩∧q.2 ρ'=f ρ):RO Γ' ρ' id k x ob:=by
 cases k<;>try exact h
 unfold RO at h⊢;obtain⟨cs,e,hl,hh⟩:=h;refine⟨cs,e,hl,fun j q hj hq=> ?_⟩;obtain⟨f,hf,hx⟩:=hc j q hq;obtain⟨sv,h1,h2⟩:=hh j _ hj hf;exact⟨sv,h1,hx▸h2⟩
theorem Rep.set{Γ:TC}{ρ:HS Γ}{st:St}(h:Rep Γ ρ st){d:Nat}{k:EK}{x:DK k}{sv:SV}(hs:RS k x sv):Rep ((.s d,k)::Γ) (x,ρ) (st.set (some d) (sv)):=by
 refine⟨fun i q hq=> ?_,fun id q hq=> ?_⟩
 ·by_cases hi:d=i
  ·subst hi;rw[Ct]at hq;cases hq;simpa[St.set,upd]using hs
  ·obtain⟨f,hf,hx⟩:=BP (by simpa using hi) hq;have:=h.s i _ hf;rw[hx];simpa[St.set,upd,Ne.symm hi]using this
 ·obtain⟨f,hf,hx⟩:=BP (by simp) hq;have:=h.o id _ hf;rw[hx];refine RO.congr this fun j q' hq'=> ?_;obtain⟨f',hf',hx'⟩:=BP (by simp) hq';exact⟨f',hf',hx' _⟩
def lAt{α:Type}(xs:List α)(n:Int):Option α:=if 0≤n∧n<xs.length then xs[n.toNat]? else none
def sAt(s:List UInt8)(n:Int):Option Int:=if 0≤n∧n<s.length then(s[n.toNat]?).map fun b=>(b.toNat:Int)else none
def B2{α:Type}(xs:List α)(lo hi:Int):Option (List α):=if 0≤lo∧lo≤hi∧hi≤xs.length then some ((xs.take hi.toNat).drop lo.toNat)else none
def Hs(op:BinOp)(k:IntKind)(x y:Int):Int:=
 match op with
 | .and=>k.wrap (BitVec.ofInt k.bits x&&&BitVec.ofInt k.bits y).toNat
 | .or=>k.wrap (BitVec.ofInt k.bits x|||BitVec.ofInt k.bits y).toNat
 | .xor=>k.wrap (BitVec.ofInt k.bits x^^^BitVec.ofInt k.bits y).toNat
 |_=>k.wrap (BitVec.ofInt k.bits x&&& ~~~(BitVec.ofInt k.bits y)).toNat
def CW{α β:Type}(eq:α→α→Bool)(z:β)(x:α):List (α×β)→β×Bool
 | []=>(z,false)
 |p::m=>if eq x p.1 then(p.2,true)else CW eq z x m
def Ei{α β:Type}(eq:α→α→Bool)(x:α)(y:β):List (α×β)→List (α×β)
 | []=> [(x,y)]
 |p::m=>if eq x p.1 then(p.1,y)::m else p::Ei eq x y m
section
variable (G:Nat→List CV) (Γ:TC)
def rdV:SO→Option (Σ t:Ty,Dyn (HS Γ) (D t))
 | .t i=>match get Γ (.s i)with
  |some ⟨.v t,f⟩=>some ⟨t,.tot f⟩
  |some ⟨.opt (.v t),f⟩=>some ⟨t,.par f⟩
  |_=>none
 | .k c=>match Bw c with
  |some q=>some ⟨q.1,.tot fun _=>q.2⟩
  |none=>none
 | .g _=>none
def rdK:SO→Option (Σ k:EK,Dyn (HS Γ) (DK k))
 | .t i=>match get Γ (.s i)with
  |some ⟨.opt k,f⟩=>some ⟨k,.par f⟩
  |some q=>some ⟨q.1,.tot q.2⟩
  |none=>none
 | .k c=>match Bw c with
  |some q=>some ⟨.v q.1,.tot fun _=>q.2⟩
  |none=>none
 | .g i=>match G i,E3 (G i)with
  |_::_,some q=>some ⟨.rp true q.1,.tot fun _=>q.2⟩
  |_,_=>none
end
section
variable {G:Nat→List CV} {Γ:TC} {ρ:HS Γ} {st:St}
theorem A4{x:SO}{q:Σ t:Ty,Dyn (HS Γ) (D t)}(h:rdV Γ x=some q)(hr:Rep Γ ρ st){a:D q.1}(ha:q.2.val ρ=some a):∃c,so G st.fr x=.c c∧Can q.1 a [c]:=by
 cases x with
 |t i=>
  simp only[rdV]at h;split at h
  ·rename_i t f hg;cases h;cases ha;exact hr.s i _ hg
  ·rename_i t f hg;cases h;have:=hr.s i _ hg;have ha':f ρ=some a:=ha;unfold RS at this;simp only[ha']at this;unfold RS at this;exact this
  ·cases h
 |k c=>
  simp only[rdV]at h;split at h<;>(try cases h;done);rename_i p hp;cases h;cases ha;exact⟨c,rfl,H7 hp⟩
 |g i=>cases h
theorem Bo{x:SO}{q:Σ k:EK,Dyn (HS Γ) (DK k)}(h:rdK G Γ x=some q)(hr:Rep Γ ρ st){a:DK q.1}(ha:q.2.val ρ=some a):RS q.1 a (so G st.fr x):=by
 cases x with
 |t i=>
  simp only[rdK]at h;split at h
  ·rename_i t f hg;cases h;have:=hr.s i _ hg;have ha':f ρ=some a:=ha;unfold RS at this;simp only[ha']at this;exact this
  ·rename_i p hp hg;cases h;cases ha;exact hr.s i _ hg
  ·cases h
 |k c=>
  simp only[rdK]at h;split at h<;>(try cases h;done);rename_i p hp;cases h;cases ha;exact⟨c,rfl,H7 hp⟩
 |g i=>
  simp only[rdK]at h;split at h<;>(try cases h;done);rename_i c cs p hG hp;cases h;cases ha;refine⟨G i,[], ?_,H6 hp,fun _=>rfl⟩;simp[so,hG]
end
def KS(op:BinOp)(k:IntKind):Option (Σ t:Ty,Dyn (Int×Int) (D t)):=
 match op with
 | .add=>some ⟨.int k,.tot fun p=>k.wrap (p.1+p.2)⟩
 | .sub=>some ⟨.int k,.tot fun p=>k.wrap (p.1-p.2)⟩
 | .mul=>some ⟨.int k,.tot fun p=>k.wrap (p.1*p.2)⟩
 | .quo=>some ⟨.int k,.par fun p=>if p.2=0 then none else some (k.wrap (p.1.tdiv p.2))⟩
 | .rem=>some ⟨.int k,.par fun p=>if p.2=0 then none else some (p.1.tmod p.2)⟩
 | .and=>some ⟨.int k,.tot fun p=>Hs .and k p.1 p.2⟩
 | .or=>some ⟨.int k,.tot fun p=>Hs .or k p.1 p.2⟩
 | .xor=>some ⟨.int k,.tot fun p=>Hs .xor k p.1 p.2⟩
 | .andNot=>some ⟨.int k,.tot fun p=>Hs .andNot k p.1 p.2⟩
 | .eql=>some ⟨.bool,.tot fun p=>p.1==p.2⟩
 | .neq=>some ⟨.bool,.tot fun p=>p.1 !=p.2⟩
 | .lss=>some ⟨.bool,.tot fun p=>decide (p.1<p.2)⟩
 | .leq=>some ⟨.bool,.tot fun p=>decide (p.1≤p.2)⟩
 | .gtr=>some ⟨.bool,.tot fun p=>decide (p.1>p.2)⟩
 | .geq=>some ⟨.bool,.tot fun p=>decide (p.1≥p.2)⟩
 |_=>none
def KU(op:BinOp):Option (Σ t:Ty,Dyn (List UInt8×List UInt8) (D t)):=
 match op with
 | .add=>some ⟨.str,.par fun p=>if p.1.length+p.2.length≤4611686018427387904 then some (p.1++p.2)else none⟩
 | .eql=>some ⟨.bool,.tot fun p=>p.1==p.2⟩
 | .neq=>some ⟨.bool,.tot fun p=> !(p.1==p.2)⟩
 | .lss=>some ⟨.bool,.tot fun p=>EL p.1 p.2⟩
 | .leq=>some ⟨.bool,.tot fun p=>EL p.1 p.2||p.1==p.2⟩
 | .gtr=>some ⟨.bool,.tot fun p=> !(EL p.1 p.2||p.1==p.2)⟩
 | .geq=>some ⟨.bool,.tot fun p=> !(EL p.1 p.2)⟩
 |_=>none
def KR(op:BinOp):(t u:Ty)→Option (Σ v:Ty,Dyn (D t×D u) (D v))
 | .int k,.int k'=>match op with
  | .shl=>some ⟨.int k,.par fun p=>if p.2<0 then none else some (k.wrap (p.1*2^(min p.2.toNat k.bits)))⟩
  | .shr=>some ⟨.int k,.par fun p=>if p.2<0 then none else some (p.1.fdiv (2^(min p.2.toNat k.bits)))⟩
  |_=>if k=k' then KS op k else none
 | .str,.str=>KU op
 |_,_=>none
theorem R1{op:BinOp}{k:IntKind}{q:Σ t:Ty,Dyn (Int×Int) (D t)}(h:KS op k=some q){a b:Int}{x:D q.1}(hx:q.2.val (a,b)=some x):∃c,FC op k a b=some c∧Can q.1 x [c]:=by
 cases op<;>simp only[KS,Ac,reduceCtorEq]at h<;>cases h
 case quo=>
  simp only[Dyn.val]at hx;split at hx<;>(try cases hx;done);rename_i hb;cases hx;exact⟨_,by simp only[FC];rw[if_neg hb],by unfold Can;rfl⟩
 case rem=>
  simp only[Dyn.val]at hx;split at hx<;>(try cases hx;done);rename_i hb;cases hx;exact⟨_,by simp only[FC];rw[if_neg hb],by unfold Can;rfl⟩
 all_goals
  cases hx;exact⟨_,rfl,by unfold Can;rfl⟩
theorem R2{op:BinOp}{q:Σ t:Ty,Dyn (List UInt8×List UInt8) (D t)}(h:KU op=some q){a b:List UInt8}{x:D q.1}(hx:q.2.val (a,b)=some x):∃c,Hr op a b=some c∧Can q.1 x [c]:=by
 cases op<;>simp only[KU,Ac,reduceCtorEq]at h<;>cases h
 case add=>
  simp only[Dyn.val]at hx;split at hx<;>(try cases hx;done);rename_i hb;cases hx;exact⟨_,by simp only[Hr];rw[if_pos hb],by unfold Can;rfl⟩
 all_goals
  cases hx;exact⟨_,rfl,by unfold Can;rfl⟩
theorem R3{op:BinOp}{t u:Ty}{q:Σ v:Ty,Dyn (D t×D u) (D v)}(h:KR op t u=some q){a:D t}{b:D u}{ca cb:CV}(ha:Can t a [ca])(hb:Can u b [cb]){x:D q.1}(hx:q.2.val (a,b)=some x):
  ∃c,D0 op ca cb=some c∧Can q.1 x [c]:=by
 unfold KR at h;split at h
 ·rename_i k k';unfold Can at ha hb;cases ha;cases hb;split at h
  ·cases h;simp only[Dyn.val]at hx;split at hx<;>(try cases hx;done);rename_i hneg;cases hx;exact⟨_,by simp only[D0];rw[if_neg hneg],by unfold Can;rfl⟩
  ·cases h;simp only[Dyn.val]at hx;split at hx<;>(try cases hx;done);rename_i hneg;cases hx;exact⟨_,by simp only[D0];rw[if_neg hneg],by unfold Can;rfl⟩
  ·rename_i hl hr;split at h<;>(try cases h;done);rename_i hk;subst hk;obtain⟨c,h1,h2⟩:=R1 h hx;refine⟨c, ?_,h2⟩;cases op<;>first|(exact(hl rfl).elim)|(exact(hr rfl).elim)|(simp only[D0,if_true];exact h1)
 ·unfold Can at ha hb;cases ha;cases hb;exact R2 h hx
 ·cases h
def HF:KT→(t u:Ty)→Option (D t→D u→Bool)
 | .int _,.int k,.int k'=>if k=k' then some fun(a b:Int)=>a==b else none
 | .str,.str,.str=>some fun(a b:List UInt8)=>a==b
 | .bool,.bool,.bool=>some fun(a b:Bool)=>a==b
 |_,_,_=>none
def HG:(r s:Ty)→List KT→Option (D r→D s→Bool)
 | .nil,.nil,ks=>if ks.isEmpty then some fun _ _=>true else none
 | .one t,.one u,ks=>match ks with
  | [k]=>HF k t u
  |_=>none
 | .cons t r,.cons u s,ks=>match ks with
  |k::ks=>match HF k t u,HG r s ks with
   |some f,some g=>some fun x y=>f x.1 y.1&&g x.2 y.2
   |_,_=>none
  | []=>none
 |_,_,_=>none
theorem Ou{k:KT}{t u:Ty}{f:D t→D u→Bool}(h:HF k t u=some f){a:D t}{b:D u}{ca cb:CV}(ha:Can t a [ca])(hb:Can u b [cb]):eq1 k ca cb=some (f a b):=by
 unfold HF at h;split at h
 ·split at h<;>(try cases h;done);rename_i hk;cases h;unfold Can at ha hb;cases ha;cases hb;simp[eq1,hk]
 ·cases h;unfold Can at ha hb;cases ha;cases hb;rfl
 ·cases h;unfold Can at ha hb;cases ha;cases hb;rfl
 ·cases h
theorem SP:∀{r s:Ty} {ks:List KT} {f:D r→D s→Bool},HG r s ks=some f→∀{a:D r} {b:D s} {la lb:List CV},Can r a la→Can s b lb→eqL ks la lb=some (f a b):=by
 intro r
 induction r with
 |nil=>
  intro s ks f h a b la lb ha hb;cases s<;>(try cases h;done);simp only[HG,Ad,Ac]at h;obtain⟨hk,rfl⟩:=h;cases ks<;>simp at hk;unfold Can at ha hb;subst ha;subst hb;rfl
 |one t=>
  intro s ks f h a b la lb ha hb;cases s<;>(try cases h;done);rename_i u
  match ks,h with
  | [k],h=>
   unfold Can at ha hb;obtain⟨ca,rfl,ha⟩:=ha;obtain⟨cb,rfl,hb⟩:=hb;have h':HF k t u=some f:=h;simp[eqL,Ou h' ha hb]
  | [],h=>cases h
  |_::_::_,h=>cases h
 |cons t r iht ihr=>
  intro s ks f h a b la lb ha hb;cases s<;>(try cases h;done)
  match ks,h with
  | [],h=>cases h
  |k::ks,h=>
   simp only[HG]at h;split at h<;>(try cases h;done);rename_i f1 g1 hf hg;cases h;unfold Can at ha hb;obtain⟨ca,la',rfl,ha1,ha2⟩:=ha;obtain⟨cb,lb',rfl,hb1,hb2⟩:=hb;simp[eqL,Ou hf ha1 hb1,ihr hg ha2 hb2]
 |_=>
  intro s ks f h;cases s<;>cases h
def GR:Ty→Bool
 | .int _| .str| .bool=>true
 |_=>false
def Kc:Ty→Bool
 | .one t=>GR t
 | .cons t r=>GR t&&Kc r
 |_=>false
def Ed:Ty→Bool
 | .agg r=>Kc r
 |t=>GR t
def Jk:(t:Ty)→D t→D t→Bool
 | .int _,a,b=>(a:Int)==b
 | .str,a,b=>(a:List UInt8)==b
 | .bool,a,b=>(a:Bool)==b
 |_,_,_=>false
def HH:(r:Ty)→D r→D r→Bool
 | .one t,a,b=>Jk t a b
 | .cons t r,a,b=>Jk t a.1 b.1&&HH r a.2 b.2
 |_,_,_=>false
def eqZ:(t:Ty)→D t→D t→Bool
 | .agg r,a,b=>HH r a b
 | .int _,a,b=>(a:Int)==b
 | .str,a,b=>(a:List UInt8)==b
 | .bool,a,b=>(a:Bool)==b
 |_,_,_=>false
theorem O0{t:Ty}(hp:GR t=true){a b:D t}{ca cb:CV}(ha:Can t a [ca])(hb:Can t b [cb]):eq1 (Eo t) ca cb=some (Jk t a b)∧Bv (Eo t) ca=true:=by
 cases t<;>simp only[GR,Ag]at hp<;>(unfold Can at ha hb;cases ha;cases hb;simp[eq1,Jk,Eo,Bv])
theorem SQ:∀{r:Ty} (_:Kc r=true) {a b:D r} {la lb:List CV},Can r a la→Can r b lb→eqL (En r) la lb=some (HH r a b)∧B0 (En r) la=true:=by
 intro r
 induction r with
 |one t=>
  intro hp a b la lb ha hb;unfold Can at ha hb;obtain⟨ca,rfl,ha⟩:=ha;obtain⟨cb,rfl,hb⟩:=hb;have:=O0 hp ha hb;simp[En,eqL,HH,B0,this.1,this.2]
 |cons t r iht ihr=>
  intro hp a b la lb ha hb;simp only[Kc,Af]at hp;unfold Can at ha hb;obtain⟨ca,la',rfl,ha1,ha2⟩:=ha;obtain⟨cb,lb',rfl,hb1,hb2⟩:=hb;have h1:=O0 hp.1 ha1 hb1;have h2:=ihr hp.2 ha2 hb2;simp[En,eqL,HH,B0,h1.1,h1.2,h2.1,h2.2]
 |_=>intro hp;cases hp
theorem FN{k:Ty}(hp:Ed k=true){a b:D k}{ca cb:CV}(ha:Can k a [ca])(hb:Can k b [cb]):BQ (ktT k) ca cb=eqZ k a b∧Az (ktT k) ca=true:=by
 cases k<;>simp only[Ed,GR,Ag]at hp
 case agg r=>
  unfold Can at ha hb;obtain⟨la,e,ha⟩:=ha;cases e;obtain⟨lb,e,hb⟩:=hb;cases e;have:=SQ hp ha hb;simp[ktT,BQ,Az,eqZ,this.1,this.2]
 all_goals(unfold Can at ha hb;cases ha;cases hb;simp[eq1,eqZ,ktT,Eo,BQ,Az,Bv])
theorem JA{k v:Ty}(hp:Ed k=true){x:D k}{cx:CV}(hx:Can k x [cx]){zv:D v}{z:CV}(hz:Can v zv [z]):∀{m:List (D k×D v)} {ks vs:List CV},Ap (fun x c=>Can k x.1 [c]) m ks→Ap (fun x c=>Can v x.2 [c]) m vs→
  ∃c,A6 (ktT k) z ks vs cx=(c,(CW (eqZ k) zv x m).2)∧Can v (CW (eqZ k) zv x m).1 [c]
 | [],ks,vs,h1,h2=>by
  unfold Ap at h1 h2;subst h1;subst h2;exact⟨z,rfl,hz⟩
 |p::m,ks,vs,h1,h2=>by
  obtain⟨ck,ks',rfl,g1,h1⟩:=h1;obtain⟨cv,vs',rfl,g2,h2⟩:=h2;have he:=(FN hp hx g1).1;obtain⟨c,q1,q2⟩:=JA hp hx hz h1 h2;unfold CW
  cases hb:eqZ k x p.1 with
  |true=>
   refine⟨cv, ?_,by simpa using g2⟩;simp[A6,A1,he,hb]
  |false=>
   refine⟨c, ?_,by simpa using q2⟩;simp only[Ag,if_false];rw[←q1];simp only[A6,A1,he,hb,Ag,if_false];cases A1 (ktT k) cx ks'<;>simp
theorem Js{k v:Ty}(hp:Ed k=true){x:D k}{cx:CV}(hx:Can k x [cx]){y:D v}{cy:CV}(hy:Can v y [cy]):∀{m:List (D k×D v)} {ks vs:List CV},Ap (fun x c=>Can k x.1 [c]) m ks→Ap (fun x c=>Can v x.2 [c]) m vs→
  Ap (fun x c=>Can k x.1 [c]) (Ei (eqZ k) x y m) (Bq (ktT k) ks cx)∧Ap (fun x c=>Can v x.2 [c]) (Ei (eqZ k) x y m) (Br (ktT k) ks vs cx cy)
 | [],ks,vs,h1,h2=>by
  unfold Ap at h1 h2;subst h1;subst h2;exact⟨⟨cx,[],rfl,hx,rfl⟩,⟨cy,[],rfl,hy,rfl⟩⟩
 |p::m,ks,vs,h1,h2=>by
  obtain⟨ck,ks',rfl,g1,h1⟩:=h1;obtain⟨cv,vs',rfl,g2,h2⟩:=h2;have he:=(FN hp hx g1).1;obtain⟨q1,q2⟩:=Js hp hx hy h1 h2;unfold Ei
  cases hb:eqZ k x p.1 with
  |true=>
   simp only[if_true];rw[hb]at he;exact⟨⟨ck,ks',by simp[Bq,A1,he],g1,h1⟩,⟨cy,vs',by simp[Br,A1,he],hy,h2⟩⟩
  |false=>
   simp only[Ag,if_false];rw[hb]at he;refine⟨⟨ck,Bq (ktT k) ks' cx, ?_,g1,q1⟩,⟨cv,Br (ktT k) ks' vs' cx cy, ?_,g2,q2⟩⟩
   ·simp only[Bq,A1,he,Ag,if_false];cases A1 (ktT k) cx ks'<;>simp
   ·simp only[Br,A1,he,Ag,if_false];cases A1 (ktT k) cx ks'<;>simp
theorem OQ{k v:Ty}(hp:Ed k=true):∀{m:List (D k×D v)} {ks:List CV},Ap (fun x c=>Can k x.1 [c]) m ks→ks.all (Az (ktT k))=true
 | [],ks,h=>by unfold Ap at h;subst h;rfl
 |p::m,ks,h=>by
  obtain⟨c,ks',rfl,h1,h2⟩:=h;simp[(FN hp h1 h1).2];simpa using OQ hp h2
def Io{A B:Type}:Dyn A Bool→Dyn A B→Dyn A B→Dyn A B
 | .tot c,.tot f,.tot g=>.tot fun ρ=>if c ρ then f ρ else g ρ
 |c,f,g=>.par fun ρ=>(c.val ρ).bind fun b=>if b then f.val ρ else g.val ρ
theorem UI{A B:Type}{c:Dyn A Bool}{f g:Dyn A B}{a:A}{x:B}(h:(Io c f g).val a=some x):∃b,c.val a=some b∧(if b then f.val a else g.val a)=some x:=by
 cases c<;>cases f<;>cases g
 ·rename_i c f g;refine⟨c a,rfl, ?_⟩;simp only[Io,Dyn.val]at h;rw[←h];cases c a<;>rfl
 all_goals exact Ab.1 h
def I8:(r:Ty)→Option (D r→List (List UInt8))
 | .one .str=>some fun x=> [x]
 | .cons .str r=>match I8 r with
  |some f=>some fun x=>x.1::f x.2
  |none=>none
 |_=>none
theorem QI:∀{r:Ty} {f:D r→List (List UInt8)} {x:D r} {l:List CV},I8 r=some f→Can r x l→l=(f x).map CV.str
 | .one .str,f,x,l,h,hc=>by
  simp only[I8,Ac]at h;subst h;unfold Can at hc;obtain⟨c,rfl,hc⟩:=hc;unfold Can at hc;cases hc;rfl
 | .cons .str r,f,x,l,h,hc=>by
  simp only[I8]at h;split at h
  ·rename_i g hg;cases h;unfold Can at hc;obtain⟨c,l',rfl,h1,h2⟩:=hc;unfold Can at h1;cases h1;rw[QI hg h2];rfl
  ·cases h
theorem QK:∀(l:List (List UInt8)),(l.map CV.str).all HM=true
 | []=>rfl
 |s::l=>by simp only[List.map_cons,List.all_cons,HM,QK l,Bool.and_self]
theorem QL:∀(l:List (List UInt8)),Ap (fun(x:D .str) c=>Can .str x [c]) l (l.map CV.str)
 | []=>rfl
 |s::l=>⟨_,_,rfl,by unfold Can;rfl,QL l⟩
def Gp(q:Ty)(size:Nat):(n:Nat)→(r:Ty)→Option (D r→List (D q))
 |0,_=>some fun _=> []
 |n+1,r=>match Dy r size,Em r size with
  |some f,some g=>if h:f.1=q then match Gp q size n g.1 with
    |some k=>some fun x=>(h▸f.2 x)::k (g.2 x)
    |none=>none
   else none
  |_,_=>none
theorem KQ{q:Ty}{size:Nat}:∀{n:Nat} {r:Ty} {f:D r→List (D q)} {x:D r} {l:List CV},Gp q size n r=some f→Can r x l→(f x).length=n∧∀{j:Nat} {a:D q},(f x)[j]? =some a→Can q a ((l.drop (j*size)).take size)∧j*size+size≤l.length:=by
 intro n
 induction n with
 |zero=>intro r f x l h hc;cases h;exact⟨rfl,fun h=>by simp at h⟩
 |succ n ih=>
  intro r f x l h hc;simp only[Gp]at h;split at h<;>(try cases h;done);rename_i p g hp hg;split at h<;>(try cases h;done);rename_i he;split at h<;>(try cases h;done);rename_i k hk;cases h;subst he;obtain⟨h1,h2⟩:=Ky hp hc;obtain⟨h3,h4⟩:=Jg hg hc;obtain⟨h5,h6⟩:=ih hk h3;refine⟨by simp[h5],fun{j a} hj=> ?_⟩
  cases j with
  |zero=>
   simp only[List.getElem?_cons_zero,Ac]at hj;subst hj;exact⟨by simpa using h1,by simpa using h2⟩
  |succ j=>
   simp only[List.getElem?_cons_succ]at hj;obtain⟨g1,g2⟩:=h6 hj;simp only[List.drop_drop,List.length_drop]at g1 g2;have e:size+j*size=(j+1)*size:=by rw[Nat.succ_mul];omega
   rw[e]at g1;exact⟨g1,by rw[←e];omega⟩
def B9:(t:Ty)→List CV→Bool
 | .int k,[.int k' n]=>k'=k&&n==0
 | .bool,[.bool b]=> !b
 | .str,[.str s]=>s.isEmpty
 | .err,[.nilif]=>true
 | .nsl,[.sl (some true) []]=>true
 | .nmap,[.map (some true) [] []]=>true
 | .sl _,[.sl (some true) []]=>true
 | .map _ _,[.map (some true) [] []]=>true
 | .agg r,[.agg l]=>B9 r l
 | .nil,[]=>true
 | .one t,[c]=>B9 t [c]
 | .cons t r,c::l=>B9 t [c]&&B9 r l
 |_,_=>false
theorem Nh:∀{t:Ty} {cs:List CV},B9 t cs=true→Can t (Cj t) cs:=by
 intro t
 induction t with
 |int k=>
  intro cs h;unfold B9 at h;split at h<;>(try cases h;done);all_goals first|(rename_i e;cases e;done)|skip
  rename_i e;cases e;simp only[Af,decide_eq_true_eq,beq_iff_eq]at h;obtain⟨rfl,rfl⟩:=h;unfold Can;rfl
 |nam N=>intro cs h;unfold B9 at h;cases h
 |bptr N=>intro cs h;unfold B9 at h;cases h
 |nilp=>intro cs h;unfold B9 at h;cases h
 |bool=>
  intro cs h;unfold B9 at h;split at h<;>(try cases h;done);all_goals first|(rename_i e;cases e;done)|skip
  simp only[Bool.not_eq_true']at h;subst h;unfold Can;rfl
 |str=>
  intro cs h;unfold B9 at h;split at h<;>(try cases h;done);all_goals first|(rename_i e;cases e;done)|skip
  simp only[List.isEmpty_iff]at h;subst h;unfold Can;rfl
 |err=>
  intro cs h;unfold B9 at h;split at h<;>(try cases h;done);all_goals first|(rename_i e;cases e;done)|skip
  unfold Can;rfl
 |nsl=>
  intro cs h;unfold B9 at h;split at h<;>(try cases h;done);all_goals first|(rename_i e;cases e;done)|skip
  unfold Can;rfl
 |nmap=>
  intro cs h;unfold B9 at h;split at h<;>(try cases h;done);all_goals first|(rename_i e;cases e;done)|skip
  unfold Can;rfl
 |sl e _=>
  intro cs h;unfold B9 at h;split at h<;>(try cases h;done);all_goals first|(rename_i e;cases e;done)|skip
  unfold Can;exact⟨_,_,rfl,rfl⟩
 |map k v _ _=>
  intro cs h;unfold B9 at h;split at h<;>(try cases h;done);all_goals first|(rename_i e;cases e;done)|skip
  unfold Can;exact⟨_,_,_,rfl,rfl,rfl⟩
 |agg r ih=>
  intro cs h;unfold B9 at h;split at h<;>(try cases h;done);all_goals first|(rename_i e;cases e;done)|skip
  rename_i e;cases e;unfold Can;exact⟨_,rfl,ih h⟩
 |nil=>
  intro cs h;unfold B9 at h;split at h<;>(try cases h;done);all_goals first|(rename_i e;cases e;done)|skip
  unfold Can;rfl
 |one t ih=>
  intro cs h;unfold B9 at h;split at h<;>(try cases h;done);all_goals first|(rename_i e;cases e;done)|skip
  rename_i e;cases e;unfold Can;exact⟨_,rfl,ih h⟩
 |cons t r iht ihr=>
  intro cs h;unfold B9 at h;split at h<;>(try cases h;done);all_goals first|(rename_i e;cases e;done)|skip
  rename_i e;cases e;simp only[Af]at h;unfold Can;exact⟨_,_,rfl,iht h.1,ihr h.2⟩
 |tup r _=>intro cs h;unfold B9 at h;cases h
 |clo f r _=>intro cs h;unfold B9 at h;cases h
 |pt r _=>intro cs h;unfold B9 at h;cases h
 |nw e size t _=>intro cs h;unfold B9 at h;cases h
 |falt f r l _ _=>intro cs h;unfold B9 at h;cases h
 |nfn=>intro cs h;unfold B9 at h;cases h
def GD:KT→Ty→Bool
 | .int k,.int k'=>k=k'
 | .str,.str=>true
 | .bool,.bool=>true
 |_,_=>false
def HQ:List KT→Ty→Bool
 | [k],.one t=>GD k t
 |k::ks,.cons t r=>GD k t&&HQ ks r
 |_,_=>false
def ktB:KT→Ty→Bool
 | .struct ks,.agg r=>HQ ks r
 |k,t=>GD k t
theorem LQ{k:KT}{t:Ty}(h:GD k t=true):k=Eo t:=by
 cases k<;>cases t<;>simp_all[GD,Eo]
theorem TR:∀{ks:List KT} {r:Ty},HQ ks r=true→ks=En r:=by
 intro ks
 induction ks with
 |nil=>intro r h;cases r<;>cases h
 |cons k ks ih=>
  intro r h;cases r<;>(try cases ks<;>cases h;done)
  ·cases ks with
   |nil=>simp only[En];rw[LQ h]
   |cons _ _=>cases h
  ·cases ks with
   |nil=>simp only[HQ,Af]at h;simp only[En];rw[LQ h.1,←ih h.2]
   |cons k' ks'=>simp only[HQ,Af]at h;simp only[En];rw[LQ h.1,←ih h.2]
theorem OT{k:KT}{t:Ty}(h:ktB k t=true):k=ktT t:=by
 cases k<;>cases t<;>first
  |(simp only[ktB]at h;simp only[ktT];rw[TR h];done)
  |(simp_all[ktB,GD,ktT,Eo];done)
section
variable (G:Nat→List CV) (Γ:TC) (msk:List Nat)
def Dt(id:Nat):Option (Σ k:EK,HS Γ→DK k):=if msk.contains id then none else get Γ (.o id)
def FE(id:Nat):Nat→Nat→Option (Σ r:Ty,HS Γ→D r)
 |0,off=>match get Γ (.c id off)with
  |some ⟨.v t,f⟩=>some ⟨.one t,f⟩
  |_=>none
 |n+1,off=>match get Γ (.c id off),FE id n (off+1)with
  |some ⟨.v t,f⟩,some q=>some ⟨.cons t q.1,fun ρ=>(f ρ,q.2 ρ)⟩
  |_,_=>none
def H4(id:Nat)(t:Ty):Nat→Nat→Option (HS Γ→List (D t))
 |0,_=>some fun _=> []
 |n+1,off=>match get Γ (.c id off),H4 id t n (off+1)with
  |some ⟨.v u,f⟩,some g=>if h:u=t then some fun ρ=>(h▸f ρ:D t)::g ρ else none
  |_,_=>none
def Il(r:Σ r:Ty,Dyn (HS Γ) (D r)):List (Nat×Nat×SO)→Option (Σ r:Ty,Dyn (HS Γ) (D r))
 | []=>some r
 |p::ps=>match rdV Γ p.2.2 with
  |some q=>match Ip (BS q.1) r.1 p.1 with
   |some g=>if q.1.val=true∧AY (BS q.1)=some p.2.1 then Il ⟨g.1,(r.2.both q.2).map fun _ z=>g.2 z.1 (EI q.1 z.2)⟩ ps else none
   |none=>none
  |none=>none
def mmT(mx:Bool)(k:IntKind)(acc:Dyn (HS Γ) Int):List SO→Option (Dyn (HS Γ) Int)
 | []=>some acc
 |x::xs=>match rdV Γ x with
  |some ⟨.int k',d⟩=>if k'=k then mmT mx k (match mx with
    |true=>(acc.both d).map fun _ p=>max p.1 p.2
    |false=>(acc.both d).map fun _ p=>min p.1 p.2) xs else none
  |_=>none
def EX:List SO→Option (Σ r:Ty,Dyn (HS Γ) (D r))
 | []=>some ⟨.nil,.tot fun _=>()⟩
 | [x]=>match rdV Γ x with
  |some q=>some ⟨.one q.1,q.2⟩
  |none=>none
 |x::y::xs=>match rdV Γ x,EX (y::xs)with
  |some q,some p=>some ⟨.cons q.1 p.1,q.2.both p.2⟩
  |_,_=>none
def IM{A:Type}(len:A→Int)(da:Dyn (HS Γ) A)(lo hi:Option SO):Option (Dyn (HS Γ) (A×Int×Int)):=
 match lo,hi with
 |none,none=>some (da.map fun _ a=>(a,0,len a))
 |some l,none=>match rdV Γ l with
  |some ⟨.int _,dl⟩=>some ((da.both dl).map fun _ p=>(p.1,p.2,len p.1))
  |_=>none
 |none,some h=>match rdV Γ h with
  |some ⟨.int _,dh⟩=>some ((da.both dh).map fun _ p=>(p.1,0,p.2))
  |_=>none
 |some l,some h=>match rdV Γ l,rdV Γ h with
  |some ⟨.int _,dl⟩,some ⟨.int _,dh⟩=>some ((da.both (dl.both dh)).map fun _ p=>(p.1,p.2.1,p.2.2))
  |_,_=>none
def DS(q:Σ k:EK,Dyn (HS Γ) (DK k)):Σ k:EK,Dyn (HS Γ) (DK k):=
 match q with
 |⟨.v (.nam N),d⟩=>if Nat.ble As N=true then match Dt Γ msk N with
  |some ⟨.box _,_⟩=>⟨.ptr N 0,d.map fun _ _=>()⟩
  |_=>⟨.v (.nam N),d⟩
  else⟨.v (.nam N),d⟩
 |q=>q
def drK:EK→Bool
 | .rp _ _| .v (.pt _)| .ptr _ _| .eptr _ _ _| .aptr _ _ _=>true
 |_=>false
def EA(sz:Option Nat)(q:Σ k:EK,Dyn (HS Γ) (DK k)):Option (Σ k:EK,Dyn (HS Γ) (DK k)):=
 match q with
 |⟨.rp _ r,d⟩=>match sz with
  |none=>match Ds r 0 with
   |some p=>some ⟨.v p.1,d.map fun _ x=>p.2 x⟩
   |none=>none
  |some n=>match Dy r n with
   |some p=>some ⟨.v (.agg p.1),d.map fun _ x=>p.2 x⟩
   |none=>none
 |⟨.v (.pt r),d⟩=>match sz with
  |none=>match Ds r 0 with
   |some p=>some ⟨.v p.1,d.map fun _ x=>p.2 x⟩
   |none=>none
  |some n=>match Dy r n with
   |some p=>some ⟨.v (.agg p.1),d.map fun _ x=>p.2 x⟩
   |none=>none
 |⟨.ptr id o,d⟩=>match Dt Γ msk id with
  |some ⟨.box nb,_⟩=>match sz with
   |none=>if o<nb then match get Γ (.c id o)with
    |some p=>some ⟨p.1,d.map fun ρ _=>p.2 ρ⟩
    |none=>none
    else none
   |some (n+1)=>if o+n<nb then match FE Γ id n o with
    |some p=>some ⟨.v (.agg p.1),d.map fun ρ _=>p.2 ρ⟩
    |none=>none
    else none
   |some 0=>none
  |_=>none
 |⟨.eptr id size o,d⟩=>match Dt Γ msk id with
  |some ⟨.arr _ size' t,xs⟩=>if size=size'∧t.val=true then match sz with
   |none=>match Ds (BS t) o with
    |some p=>some ⟨.v p.1,(d.map fun ρ i=>(xs ρ)[i]?).comp (.par fun x=>x.map fun y=>p.2 (EI t y))⟩
    |none=>none
   |some n=>if n=0 then none else match Kw (BS t) o n with
    |some p=>some ⟨.v (.agg p.1),(d.map fun ρ i=>(xs ρ)[i]?).comp (.par fun x=>x.map fun y=>p.2 (EI t y))⟩
    |none=>none
   else none
  |_=>none
 |⟨.aptr id n o,d⟩=>match Dt Γ msk id with
  |some ⟨.box nb,_⟩=>match sz,get Γ (.c id o)with
   |none,some ⟨.v t,_⟩=>match H4 Γ id t n o with
    |some f=>if o+n≤nb then some ⟨.v t,(d.map fun ρ i=>(f ρ)[i]?).comp (.par fun x=>x)⟩else none
    |none=>none
   |_,_=>none
  |_=>none
 |_=>none
def LV(kd:Nat)(x:SO):Option (Dyn (HS Γ) Int):=
 match kd,rdK G Γ x with
 |0,some ⟨.v .str,d⟩=>some (d.map fun _ s=>((s:List UInt8).length:Int))
 |1,some ⟨.v (.sl _),d⟩=>some (d.map fun _ s=>(s.length:Int))
 |1,some ⟨.v .nsl,d⟩=>some (d.map fun _ _=>0)
 |1,some ⟨.own id,d⟩=>match Dt Γ msk id with
  |some ⟨.arr _ _ _,xs⟩=>some (d.map fun ρ _=>((xs ρ).length:Int))
  |_=>none
 |2,some ⟨.v (.map _ _),d⟩=>some (d.map fun _ s=>(s.length:Int))
 |2,some ⟨.mp id,d⟩=>match Dt Γ msk id with
  |some ⟨.mob _ _ _,xs⟩=>some (d.map fun ρ _=>((xs ρ).length:Int))
  |_=>none
 |_,_=>none
def J9(kq:Σ t:Ty,Dyn (HS Γ) (D t))(ok:Bool)(k v:Ty)(dm:Dyn (HS Γ) (List (D k×D v))):Option (Σ k:EK,Dyn (HS Γ) (DK k)):=
 match Bb kq.1 k with
 |some f=>if Ed k=true then
   match ok with
   |true=>some ⟨.v (.tup (.cons v (.one .bool))),(dm.both kq.2).map fun _ p=>CW (eqZ k) (Cj v) (f p.2) p.1⟩
   |false=>some ⟨.v v,(dm.both kq.2).map fun _ p=>(CW (eqZ k) (Cj v) (f p.2) p.1).1⟩
  else none
 |none=>none
def Md(mt:TypeId)(kt:KT)(z:CV)(ok:Bool)(x key:SO):Option (Σ k:EK,Dyn (HS Γ) (DK k)):=
 match rdV Γ key with
 |some kq=>match rdK G Γ x with
  |some ⟨.v (.map k v),d⟩=>if B9 v [z]=true∧ktB kt k=true then J9 Γ kq ok k v d else none
  |some ⟨.mp id,d⟩=>match Dt Γ msk id with
   |some ⟨.mob mt' k v,m⟩=>if mt'=mt then J9 Γ kq ok k v (d.map fun ρ _=>m ρ)else none
   |_=>none
  |_=>none
 |none=>none
def Na:SOp→Option (Σ k:EK,Dyn (HS Γ) (DK k))
 | .mov x=>rdK G Γ x
 | .pick c a b=>match rdV Γ c,rdV Γ a,rdV Γ b with
  |some ⟨.bool,dc⟩,some qa,some qb=>match Bb qb.1 qa.1 with
   |some f=>some ⟨.v qa.1,Io dc qa.2 (qb.2.map fun _ y=>f y)⟩
   |none=>match Bb qa.1 qb.1 with
    |some f=>some ⟨.v qb.1,Io dc (qa.2.map fun _ y=>f y) qb.2⟩
    |none=>none
  |_,_,_=>none
 | .bin op x y=>match rdV Γ x,rdV Γ y with
  |some p,some q=>match KR op p.1 q.1 with
   |some b=>some ⟨.v b.1,(p.2.both q.2).comp b.2⟩
   |none=>none
  |_,_=>none
 | .eqs neg ts x y=>match rdV Γ x,rdV Γ y with
  |some ⟨.agg r,d⟩,some ⟨.agg s,e⟩=>match HG r s ts with
   |some f=>match neg with
    |true=>some ⟨.v .bool,(d.both e).map fun _ p=> !(f p.1 p.2)⟩
    |false=>some ⟨.v .bool,(d.both e).map fun _ p=>f p.1 p.2⟩
   |none=>none
  |_,_=>none
 | .beq neg x y=>match rdV Γ x,rdV Γ y with
  |some ⟨.bool,d⟩,some ⟨.bool,e⟩=>match neg with
   |true=>some ⟨.v .bool,(d.both e).map fun _ p=> !(p.1==p.2)⟩
   |false=>some ⟨.v .bool,(d.both e).map fun _ p=>p.1==p.2⟩
  |_,_=>none
 | .isnil kd neg x=>match kd,rdV Γ x with
  |3,some ⟨.err,d⟩=>match neg with
   |true=>some ⟨.v .bool,d.map fun _ b=> !(b:Bool)⟩
   |false=>some ⟨.v .bool,d.map fun _ b=>b⟩
  |1,some ⟨.nsl,d⟩=>some ⟨.v .bool,d.map fun _ _=> !neg⟩
  |_,_=>none
 | .un op x=>match op,rdV Γ x with
  | .neg,some ⟨.int k,d⟩=>some ⟨.v (.int k),d.map fun _ n=>k.wrap (0-n)⟩
  | .xor,some ⟨.int k,d⟩=>some ⟨.v (.int k),d.map fun _ n=>Hs .xor k (if k.signed then-1 else k.max) n⟩
  | .not,some ⟨.bool,d⟩=>some ⟨.v .bool,d.map fun _ b=> !(b:Bool)⟩
  |_,_=>none
 | .cvi k x=>match rdV Γ x with
  |some ⟨.int _,d⟩=>some ⟨.v (.int k),d.map fun _ n=>k.wrap n⟩
  |_=>none
 | .cvrune x=>match rdV Γ x with
  |some ⟨.int _,d⟩=>some ⟨.v .str,d.map fun _ n=>(Utf8.encode n).data.toList⟩
  |_=>none
 | .bytes _ x=>match rdV Γ x with
  |some ⟨.str,d⟩=>some ⟨.v (.sl (.int .u8)),d.comp (.par fun s=>if s.length≤70368744177664 then some (s.map fun b=>(b.toNat:Int))else none)⟩
  |_=>none
 | .cvbs x=>match rdK G Γ x with
  |some ⟨.v (.sl (.int .u8)),d⟩=>some ⟨.v .str,d.map fun _ ns=>ns.map fun n=>UInt8.ofNat n.toNat⟩
  |some ⟨.v .nsl,d⟩=>some ⟨.v .str,d.map fun _ _=> []⟩
  |some ⟨.own id,d⟩=>match Dt Γ msk id with
   |some ⟨.arr _ _ (.int .u8),xs⟩=>some ⟨.v .str,d.map fun ρ _=>(xs ρ).map fun n=>UInt8.ofNat n.toNat⟩
   |_=>none
  |_=>none
 | .cvid x=>match rdV Γ x with
  |some ⟨.str,d⟩=>some ⟨.v .str,d⟩
  |_=>none
 | .build z parts=>match E3 z with
  |some q=>match Il Γ ⟨q.1,.tot fun _=>q.2⟩ parts with
   |some r=>some ⟨.v (.agg r.1),r.2⟩
   |none=>none
  |none=>none
 | .field off sz x=>match rdV Γ x with
  |some ⟨.agg r,d⟩=>match sz with
   |none=>match Ds r off with
    |some p=>some ⟨.v p.1,d.map fun _ x=>p.2 x⟩
    |none=>none
   |some n=>match Kw r off n with
    |some p=>if 0<n then some ⟨.v (.agg p.1),d.map fun _ x=>p.2 x⟩else none
    |none=>none
  |_=>none
 | .ext x i=>match rdK G Γ x with
  |some ⟨.v (.tup r),d⟩=>match Ds r i with
   |some p=>some ⟨.v p.1,d.map fun _ x=>p.2 x⟩
   |none=>none
  |some ⟨.ent id k v,d⟩=>match i with
   |0=>some ⟨.v v,d.map fun _ x=>x.2⟩
   |1=>some ⟨.stamp id k,d.map fun _ x=>x.1⟩
   |_=>none
  |_=>none
 | .minmax mx xs=>match xs with
  | []=>none
  |x::xs=>match rdV Γ x with
   |some ⟨.int k,d⟩=>match mmT Γ mx k d xs with
    |some e=>some ⟨.v (.int k),e⟩
    |none=>none
   |_=>none
 | .fnv f caps=>match EX Γ caps with
  |some q=>some ⟨.v (.clo f q.1),q.2⟩
  |none=>none
 | .faddr off x=>match (rdK G Γ x).map (DS Γ msk)with
  |some ⟨.rp ex r,d⟩=>match Em r off with
   |some p=>some ⟨.rp ex p.1,d.map fun _ x=>p.2 x⟩
   |none=>none
  |some ⟨.v (.pt r),d⟩=>match Em r off with
   |some p=>some ⟨.rp true p.1,d.map fun _ x=>p.2 x⟩
   |none=>none
  |some ⟨.ptr id o,d⟩=>some ⟨.ptr id (o+off),d⟩
  |some ⟨.eptr id s o,d⟩=>some ⟨.eptr id s (o+off),d⟩
  |some ⟨.aptr id n o,d⟩=>if off=0 then some ⟨.aptr id n o,d⟩else none
  |_=>none
 | .iaddr size x i=>match rdK G Γ x,rdV Γ i with
  |some ⟨.v (.sl e),d⟩,some ⟨.int _,di⟩=>if e.val=true∧AY (BS e)=some size then some ⟨.rp true (BS e),(d.both di).comp (.par fun p=>(lAt p.1 p.2).map fun y=>EI e y)⟩else none
  |some ⟨.own id,d⟩,some ⟨.int _,di⟩=>match Dt Γ msk id with
   |some ⟨.arr _ sz _,xs⟩=>if size=sz then some ⟨.eptr id size 0,((d.both di).map fun ρ p=>if 0≤(p.2:Int)∧(p.2:Int)<((xs ρ).length:Int)then some (p.2:Int).toNat else none).comp (.par fun x=>x)⟩else none
   |_=>none
  |_,_=>none
 | .aaddr len size x i=>match rdK G Γ x,rdV Γ i with
  |some ⟨.rp true r,d⟩,some ⟨.int _,di⟩=>match Dy r size with
   |some q=>match Gp q.1 size len r with
    |some f=>if AY r=some (len*size)then some ⟨.rp false q.1,(d.both di).comp (.par fun p=>lAt (f p.1) p.2)⟩else none
    |none=>none
   |none=>none
  |some ⟨.ptr id o,d⟩,some ⟨.int _,di⟩=>if size=1 then some ⟨.aptr id len o,(d.both di).comp (.par fun p=>if 0≤(p.2:Int)∧(p.2:Int)<(len:Int)then some (p.2:Int).toNat else none)⟩else none
  |_,_=>none
 | .sidx x i=>match rdV Γ x,rdV Γ i with
  |some ⟨.str,d⟩,some ⟨.int _,di⟩=>some ⟨.v (.int .u8),(d.both di).comp (.par fun p=>sAt p.1 p.2)⟩
  |_,_=>none
 | .aidx len size sz x i=>match rdV Γ x,rdV Γ i with
  |some ⟨.agg r,d⟩,some ⟨.int _,di⟩=>match sz with
   |none=>match Dy r 1 with
    |some q=>match Ds q.1 0 with
     |some p=>match Gp q.1 1 len r with
         |some f=>if size=1 then some ⟨.v p.1,(d.both di).comp (.par fun z=>(lAt (f z.1) z.2).map fun y=>p.2 y)⟩else none
         |none=>none
     |none=>none
    |none=>none
   |some n=>match Dy r size with
    |some q=>match Gp q.1 size len r with
     |some f=>if n=size∧0<size then some ⟨.v (.agg q.1),(d.both di).comp (.par fun z=>lAt (f z.1) z.2)⟩else none
     |none=>none
    |none=>none
  |_,_=>none
 | .load sz x=>match rdK G Γ x with
  |some q=>EA Γ msk sz (DS Γ msk q)
  |none=>none
 | .len kd x=>match LV G Γ msk kd x with
  |some d=>some ⟨.v (.int .i64),d⟩
  |none=>none
 | .sslice x lo hi=>match rdV Γ x with
  |some ⟨.str,d⟩=>match IM Γ (fun s=>((s:List UInt8).length:Int)) d lo hi with
   |some e=>some ⟨.v .str,e.comp (.par fun p=>B2 p.1 p.2.1 p.2.2)⟩
   |none=>none
  |_=>none
 | .slice size x lo hi=>match rdV Γ x with
  |some ⟨.sl e,d⟩=>if e.val=true∧AY (BS e)=some size then match IM Γ (fun s=>(s.length:Int)) d lo hi with
   |some g=>some ⟨.v (.sl e),g.comp (.par fun p=>B2 p.1 p.2.1 p.2.2)⟩
   |none=>none
   else none
  |_=>none
 | .lookup mt kt z ok x k=>Md G Γ msk mt kt z ok x k
 | .asl n x=>match rdK G Γ x with
  |some ⟨.rp true r,d⟩=>match I8 r with
   |some f=>if AY r=some n then some ⟨.v (.sl .str),d.map fun _ z=>f z⟩else none
   |none=>none
  |_=>none
 |_=>none
end
section
variable {G:Nat→List CV} {Γ:TC} {msk:List Nat} {ρ:HS Γ} {st:St} {rd:Nat→Ob}
theorem DZ{id:Nat}{q:Σ k:EK,HS Γ→DK k}(h:Dt Γ msk id=some q)(hr:Rep Γ ρ st)(hrd:∀id,msk.contains id=false→rd id=st.ob id):RO Γ ρ id q.1 (q.2 ρ) (rd id):=by
 unfold Dt at h;split at h<;>(try cases h;done);rename_i hm;rw[hrd id (by simpa using hm)];exact hr.o id q h
theorem Ld{id nb:Nat}{cs:List SV}(hcs:∀j q,j<nb→get Γ (.c id j)=some q→∃sv,cs[j]? =some sv∧RS q.1 (q.2 ρ) sv):∀{n off:Nat} {q:Σ r:Ty,HS Γ→D r},FE Γ id n off=some q→off+n<nb→∃l,Aq closed ((cs.drop off).take (n+1))=some l∧Can q.1 (q.2 ρ) l∧off+(n+1)≤cs.length:=by
 intro n
 induction n with
 |zero=>
  intro off q h hb;simp only[FE]at h;split at h<;>(try cases h;done);rename_i t f hg;cases h;obtain⟨sv,h1,c,rfl,h3⟩:=hcs off _ (by omega) hg;have hlt:=(Ae.1 h1).1;refine⟨[c], ?_, ?_,by omega⟩
  ·rw[List.drop_eq_getElem_cons hlt,(Ae.1 h1).2];simp[Aq,closed]
  ·unfold Can;exact⟨c,rfl,h3⟩
 |succ n ih=>
  intro off q h hb;simp only[FE]at h;split at h<;>(try cases h;done);rename_i t f p hg hp;cases h;obtain⟨sv,h1,c,rfl,h3⟩:=hcs off _ (by omega) hg;have hlt:=(Ae.1 h1).1;obtain⟨l,g1,g2,g3⟩:=ih hp (by omega);refine⟨c::l, ?_, ?_,by omega⟩
  ·rw[List.drop_eq_getElem_cons hlt,(Ae.1 h1).2];simp only[List.take_succ_cons,Aq,closed,Option.bind_some];rw[g1];rfl
  ·unfold Can;exact⟨c,l,rfl,h3,g2⟩
theorem Gr{t:Ty}{x:D t}{c:CV}{n:Nat}(hv:t.val=true)(hl:AY (BS t)=some n)(h:Can t x [c]):c.cells.length=n∧BB c=n:=by
 have h1:=DX hl (Fw hv h);refine⟨h1, ?_⟩;rw[←h1];cases c<;>simp[BB,CV.cells]
theorem UB(hr:Rep Γ ρ st):∀{ps:List (Nat×Nat×SO)} {r q:Σ r:Ty,Dyn (HS Γ) (D r)} {cs:List CV} {x:D q.1},Il Γ r ps=some q→q.2.val ρ=some x→(∀y,r.2.val ρ=some y→Can r.1 y cs)→
  (∃y,r.2.val ρ=some y)∧∃l cs',Aq (fun p=>(closed (so G st.fr p.2.2)).map fun v=>(p.1,p.2.1,v)) ps=some l∧FP cs l=some cs'∧Can q.1 x cs':=by
 intro ps
 induction ps with
 |nil=>
  intro r q cs x h hx hc;simp only[Il,Ac]at h;subst h;exact⟨⟨x,hx⟩,[],cs,rfl,rfl,hc x hx⟩
 |cons p ps ih=>
  intro r q cs x h hx hc;simp only[Il]at h;split at h<;>(try cases h;done);rename_i t ht;split at h<;>(try cases h;done);rename_i g hg;split at h<;>(try cases h;done);rename_i hvl
  have key:∀y,((r.2.both t.2).map fun _ z=>g.2 z.1 (EI t.1 z.2)).val ρ=some y→∃y0 z c,r.2.val ρ=some y0∧t.2.val ρ=some z∧so G st.fr p.2.2=.c c∧BB c=p.2.1∧p.1+p.2.1≤cs.length∧Can g.1 y (cs.take p.1++c.cells++cs.drop (p.1+p.2.1)):=by
   intro y hy;obtain⟨b,h1,h2⟩:=Dyn.map_val hy;obtain⟨h3,h4⟩:=Dyn.both_val h1;obtain⟨c,h5,h6⟩:=A4 (G:=G) ht hr h4;obtain⟨e1,e2⟩:=Gr hvl.1 hvl.2 h6;obtain⟨g1,g2⟩:=PQ hg (hc _ h3) (Fw hvl.1 h6);rw[e1]at g1 g2;exact⟨_,_,c,h3,h4,h5,e2,g2,h2▸g1⟩
  by_cases hex:∃y,((r.2.both t.2).map fun _ z=>g.2 z.1 (EI t.1 z.2)).val ρ=some y
  ·obtain⟨y,hy⟩:=hex;obtain⟨y0,z,c,k1,k2,k3,k4,k5,k6⟩:=key y hy
   obtain⟨_,l,cs',i1,i2,i3⟩:=ih (cs:=cs.take p.1++c.cells++cs.drop (p.1+p.2.1)) h hx (fun y' hy'=>by
    rw[hy]at hy';cases hy'
    exact k6)
   refine⟨⟨y0,k1⟩,(p.1,p.2.1,c)::l,cs', ?_, ?_,i3⟩
   ·simp only[Aq];rw[k3,i1];rfl
   ·simp only[FP];rw[if_pos ⟨k4,k5⟩];exact i2
  ·exfalso;obtain⟨⟨y,hy⟩,_⟩:=ih (cs:= []) h hx (fun y hy=>absurd ⟨y,hy⟩ hex);exact hex ⟨y,hy⟩
theorem Uk(hr:Rep Γ ρ st){mx:Bool}{k:IntKind}:∀{xs:List SO} {acc e:Dyn (HS Γ) Int} {z:Int},mmT Γ mx k acc xs=some e→e.val ρ=some z→∃a l,acc.val ρ=some a∧Aq (fun x=>closed (so G st.fr x)) xs=some l∧l.foldlM (FU mx) (.int k a)=some (.int k z):=by
 intro xs
 induction xs with
 |nil=>
  intro acc e z h hz;simp only[mmT,Ac]at h;subst h;exact⟨z,[],hz,rfl,rfl⟩
 |cons x xs ih=>
  intro acc e z h hz;simp only[mmT]at h;split at h<;>(try cases h;done);rename_i k' d hd;split at h<;>(try cases h;done);rename_i hk;subst hk;obtain⟨a,l,h1,h2,h3⟩:=ih h hz
  cases mx<;>
  ·obtain⟨b,g1,g2⟩:=Dyn.map_val h1;obtain⟨g3,g4⟩:=Dyn.both_val g1;obtain⟨c,g5,g6⟩:=A4 (G:=G) hd hr g4;unfold Can at g6;cases g6;refine⟨b.1,_::l,g3,by simp only[Aq];rw[g5,h2];rfl, ?_⟩;simp only[List.foldlM_cons,FU,if_true,Ag,if_false];subst g2;exact h3
theorem Hv(hr:Rep Γ ρ st):∀{xs:List SO} {q:Σ r:Ty,Dyn (HS Γ) (D r)} {x:D q.1},EX Γ xs=some q→q.2.val ρ=some x→∃l,Aq (fun x=>closed (so G st.fr x)) xs=some l∧Can q.1 x l
 | [],q,x,h,hx=>by
  simp only[EX,Ac]at h;subst h;exact⟨[],rfl,by unfold Can;rfl⟩
 | [y],q,x,h,hx=>by
  simp only[EX]at h;split at h<;>(try cases h;done);rename_i p hp;cases h;obtain⟨c,h1,h2⟩:=A4 (G:=G) hp hr hx;exact⟨[c],by simp[Aq,h1,closed],by unfold Can;exact⟨c,rfl,h2⟩⟩
 |y::z::xs,q,x,h,hx=>by
  simp only[EX]at h;split at h<;>(try cases h;done);rename_i p p' hp hp';cases h;obtain⟨g1,g2⟩:=Dyn.both_val hx;obtain⟨c,h1,h2⟩:=A4 (G:=G) hp hr g1;obtain⟨l,h3,h4⟩:=Hv hr hp' g2;refine⟨c::l, ?_,by unfold Can;exact⟨c,l,rfl,h2,h4⟩⟩;have e:Aq (fun x=>closed (so G st.fr x)) (y::z::xs)=(closed (so G st.fr y)).bind fun b=>(Aq (fun x=>closed (so G st.fr x)) (z::xs)).map fun bs=>b::bs:=rfl;rw[e,h1,h3];rfl
theorem NE(hr:Rep Γ ρ st){A:Type}{len:A→Int}{da:Dyn (HS Γ) A}{lo hi:Option SO}{e:Dyn (HS Γ) (A×Int×Int)}{p:A×Int×Int}(h:IM Γ len da lo hi=some e)(hp:e.val ρ=some p):
  da.val ρ=some p.1∧(∀n:Nat,(n:Int)=len p.1→0≤p.2.2→CG n (hi.map (so G st.fr))=some p.2.2.toNat)∧(0≤p.2.1→CG 0 (lo.map (so G st.fr))=some p.2.1.toNat):=by
 have hint:∀{x:SO} {k:IntKind} {d:Dyn (HS Γ) (D (.int k))} {n:Int} {m:Nat},rdV Γ x=some ⟨.int k,d⟩→d.val ρ=some n→0≤n→CG m (some (so G st.fr x))=some n.toNat:=by
  intro x k d n m hx hn h0;obtain⟨c,h1,h2⟩:=A4 (G:=G) hx hr hn;unfold Can at h2;cases h2;simp[CG,h1,h0]
 unfold IM at h;split at h
 ·cases h;obtain⟨b,h1,h2⟩:=Dyn.map_val hp;subst h2;refine⟨h1,fun n hn _=> ?_,fun _=>rfl⟩;simp[CG,←hn]
 ·split at h<;>(try cases h;done);rename_i l k d hd;cases h;obtain⟨b,h1,h2⟩:=Dyn.map_val hp;obtain⟨h3,h4⟩:=Dyn.both_val h1;subst h2;refine⟨h3,fun n hn _=> ?_,fun h0=>hint hd h4 h0⟩;simp[CG,←hn]
 ·split at h<;>(try cases h;done);rename_i l k d hd;cases h;obtain⟨b,h1,h2⟩:=Dyn.map_val hp;obtain⟨h3,h4⟩:=Dyn.both_val h1;subst h2;exact⟨h3,fun n _ h0=>hint hd h4 h0,fun _=>rfl⟩
 ·split at h<;>(try cases h;done);rename_i l hh k d k' d' hd hd';cases h;obtain⟨b,h1,h2⟩:=Dyn.map_val hp;obtain⟨h3,h4⟩:=Dyn.both_val h1;obtain⟨h5,h6⟩:=Dyn.both_val h4;subst h2;exact⟨h3,fun n _ h0=>hint hd' h6 h0,fun h0=>hint hd h5 h0⟩
theorem NZ{id nb:Nat}{t:Ty}{cs:List SV}(hcs:∀j q,j<nb→get Γ (.c id j)=some q→∃sv,cs[j]? =some sv∧RS q.1 (q.2 ρ) sv):∀{n off:Nat} {f:HS Γ→List (D t)} {i:Nat} {y:D t},H4 Γ id t n off=some f→off+n≤nb→(f ρ)[i]? =some y→i<n∧∃c,cs[off+i]? =some (.c c)∧Can t y [c]
 |0,off,f,i,y,h,_,hy=>by
  simp only[H4,Ac]at h;subst h;simp at hy
 |n+1,off,f,i,y,h,hb,hy=>by
  simp only[H4]at h;split at h<;>(try cases h;done);rename_i u g g' hg hg';split at h<;>(try cases h;done);rename_i hu;subst hu;cases h
  cases i with
  |zero=>
   simp at hy;obtain⟨sv,h1,c,h2,h3⟩:=hcs off _ (by omega) hg;subst h2;exact⟨by omega,c,h1,hy▸h3⟩
  |succ i=>
   simp only[List.getElem?_cons_succ]at hy;obtain⟨h1,c,h2,h3⟩:=NZ hcs hg' (by omega) hy;exact⟨by omega,c,by rw[←h2];congr 1;omega,h3⟩
theorem Su{k:EK}{x:DK k}{sv:SV}(hk:drK k=true)(h:RS k x sv):deref rd sv=sv:=by
 cases k<;>simp only[drK,Ag]at hk
 case v t=>
  cases t<;>simp only[Ag]at hk;obtain⟨c,rfl,hc⟩:=h;unfold Can at hc;obtain⟨l,e,_⟩:=hc;cases e;rfl
 case rp=>obtain⟨cs,rest,rfl,_⟩:=h;rfl
 case ptr=>unfold RS at h;rw[h];rfl
 case eptr=>unfold RS at h;rw[h];rfl
 case aptr=>unfold RS at h;rw[h.1];rfl
theorem Ss(hr:Rep Γ ρ st)(hrd:∀id,msk.contains id=false→rd id=st.ob id){q q':Σ k:EK,Dyn (HS Γ) (DK k)}{sv:SV}(hs:∀x,q.2.val ρ=some x→RS q.1 x sv)(h:DS Γ msk q=q'){x:DK q'.1}(hx:q'.2.val ρ=some x)
  (hk:drK q'.1=true):RS q'.1 x (deref rd sv):=by
 have same:∀{q':Σ k:EK,Dyn (HS Γ) (DK k)} {x:DK q'.1},(∀x,q'.2.val ρ=some x→RS q'.1 x sv)→q'.2.val ρ=some x→drK q'.1=true→RS q'.1 x (deref rd sv):=by
  intro q' x h1 h2 h3;rw[Su h3 (h1 x h2)];exact h1 x h2
 unfold DS at h;split at h
 ·rename_i N d;split at h
  ·rename_i hN;split at h
   ·rename_i n f ho;subst h;obtain⟨y,h1,_⟩:=Dyn.map_val (d:=d) (g:=fun _ _=>()) hx;obtain⟨c,e,hc⟩:=hs y h1;unfold Can at hc;cases hc;obtain⟨cs,h3,_⟩:=DZ ho hr hrd;subst e;show deref rd (.c (.nam N))=.ptr N 0;simp only[deref,h3];rw[if_pos (Ah hN)]
   ·subst h;cases hk
  ·subst h;cases hk
 ·subst h;exact same hs hx hk
theorem Jb(hr:Rep Γ ρ st)(hrd:∀id,msk.contains id=false→rd id=st.ob id){q:Σ k:EK,Dyn (HS Γ) (DK k)}{sv:SV}(hs:∀x,q.2.val ρ=some x→RS q.1 x sv){x:DK (DS Γ msk q).1}(hx:(DS Γ msk q).2.val ρ=some x)
  (hk:drK (DS Γ msk q).1=true):RS (DS Γ msk q).1 x (deref rd sv):=Ss hr hrd hs rfl hx hk
theorem Mb(hr:Rep Γ ρ st)(hrd:∀id,msk.contains id=false→rd id=st.ob id){sz:Option Nat}{q q':Σ k:EK,Dyn (HS Γ) (DK k)}{sv:SV}{y:DK q'.1}(h:EA Γ msk sz q=some q')(hy:q'.2.val ρ=some y)
  (hs:∀x,q.2.val ρ=some x→RS q.1 x sv):∃sv',Bs rd sz sv=some sv'∧RS q'.1 y sv':=by
 obtain⟨k,d⟩:=q;cases k<;>(try cases h;done)
 ·rename_i t;cases t<;>(try cases h;done);rename_i r;simp only[EA]at h;split at h
  ·split at h<;>(try cases h;done);rename_i p hp;cases h;obtain⟨x,h1,h2⟩:=Dyn.map_val hy;obtain⟨c0,e,hc0⟩:=hs x h1;subst e;unfold Can at hc0;obtain⟨cs,e,hc⟩:=hc0;cases e;obtain⟨c,h3,h4⟩:=GO hp hc;refine⟨.c c, ?_,c,rfl,h2▸h4⟩;simp[Bs,h3]
  ·rename_i n;split at h<;>(try cases h;done);rename_i p hp;cases h;obtain⟨x,h1,h2⟩:=Dyn.map_val hy;obtain⟨c0,e,hc0⟩:=hs x h1;subst e;unfold Can at hc0;obtain⟨cs,e,hc⟩:=hc0;cases e;obtain⟨h3,h4⟩:=Ky hp hc;refine⟨.c (.agg (cs.take n)), ?_,.agg (cs.take n),rfl,by unfold Can;exact⟨_,rfl,h2▸h3⟩⟩;have:n≤cs.length:=by omega
   simp[Bs,Cb,this]
 ·rename_i ex r;simp only[EA]at h;split at h
  ·split at h<;>(try cases h;done);rename_i p hp;cases h;obtain⟨x,h1,h2⟩:=Dyn.map_val hy;obtain⟨cs,rest,e,hc,_⟩:=hs x h1;subst e;obtain⟨c,h3,h4⟩:=GO hp hc;refine⟨.c c, ?_,c,rfl,h2▸h4⟩;have hlt:=(Ae.1 h3).1;simp[Bs,List.getElem?_append_left hlt,h3]
  ·rename_i n;split at h<;>(try cases h;done);rename_i p hp;cases h;obtain⟨x,h1,h2⟩:=Dyn.map_val hy;obtain⟨cs,rest,e,hc,_⟩:=hs x h1;subst e;obtain⟨h3,h4⟩:=Ky hp hc;refine⟨.c (.agg (cs.take n)), ?_,.agg (cs.take n),rfl,by unfold Can;exact⟨_,rfl,h2▸h3⟩⟩;have:n≤cs.length+rest.length:=by omega
   simp[Bs,Cb,this,List.take_append_of_le_length h4]
 ·rename_i id o;simp only[EA]at h;split at h<;>(try cases h;done);rename_i n g hg;obtain⟨cs,e,hl,hcs⟩:=DZ hg hr hrd;split at h
  ·split at h<;>(try cases h;done);rename_i hb;split at h<;>(try cases h;done);rename_i p hp;cases h;dsimp only at hy;obtain⟨u,hu,hy⟩:=Dyn.map_val hy;have hsv:sv=.ptr id o:=hs u hu;subst hsv;subst hy;obtain⟨sv',h1,h2⟩:=hcs o _ hb hp;exact⟨sv',by simp[Bs,e,h1],h2⟩
  ·rename_i n;split at h<;>(try cases h;done);rename_i hb;split at h<;>(try cases h;done);rename_i p hp;cases h;dsimp only at hy;obtain⟨u,hu,hy⟩:=Dyn.map_val hy;have hsv:sv=.ptr id o:=hs u hu;subst hsv;subst hy;obtain⟨l,h1,h2,h3⟩:=Ld hcs hp hb;exact⟨.c (.agg l),by simp only[Bs,e];rw[if_pos h3,h1];rfl,.agg l,rfl,by unfold Can;exact⟨l,rfl,h2⟩⟩
  ·cases h
 ·rename_i id size o;simp only[EA]at h;split at h<;>(try cases h;done);rename_i e' size' t xs hg;split at h<;>(try cases h;done);rename_i hsz;obtain⟨hsz,hv⟩:=hsz;subst hsz;obtain⟨es,e,hes⟩:=DZ hg hr hrd;split at h
  ·split at h<;>(try cases h;done);rename_i p hp;cases h;obtain⟨b,h1,h2⟩:=Dyn.comp_val hy;obtain⟨i,h3,h4⟩:=Dyn.map_val h1;subst h4;have hsv:sv=.eptr id i size o:=hs i h3;subst hsv;obtain⟨a,h5,h6⟩:=Aa.1 h2;obtain⟨c,h7,h8⟩:=hes.get h5;obtain⟨c',h9,h10⟩:=GO hp (Fw hv h8);exact⟨.c c',by simp[Bs,e,h7,Cb,h9],c',rfl,h6▸h10⟩
  ·rename_i n;split at h<;>(try cases h;done);rename_i hpos;split at h<;>(try cases h;done);rename_i p hp;cases h;obtain⟨b,h1,h2⟩:=Dyn.comp_val hy;obtain⟨i,h3,h4⟩:=Dyn.map_val h1;subst h4;have hsv:sv=.eptr id i size o:=hs i h3;subst hsv;obtain⟨a,h5,h6⟩:=Aa.1 h2;obtain⟨c,h7,h8⟩:=hes.get h5;obtain⟨h9,h10⟩:=QN hp (Fw hv h8);refine⟨.c (.agg ((c.cells.drop o).take n)), ?_,_,rfl,by unfold Can;exact⟨_,rfl,h6▸h9⟩⟩;have hle:o+n≤c.cells.length∨n=0:=by omega
   rcases hle with hle|hle
   ·simp only[Bs,e,if_true,h7,Option.bind_some,Cb];rw[if_pos hle];rfl
   ·exact(hpos hle).elim
 ·rename_i id n o;simp only[EA]at h;split at h<;>(try cases h;done);rename_i nb g hg;obtain⟨cs,e,hl,hcs⟩:=DZ hg hr hrd;split at h<;>(try cases h;done);rename_i t g2 hg2;split at h<;>(try cases h;done);rename_i f hf;split at h<;>(try cases h;done);rename_i hb;cases h;obtain⟨b,h1,h2⟩:=Dyn.comp_val hy;obtain⟨i,h3,h4⟩:=Dyn.map_val h1;subst h4;obtain⟨hsv,_⟩:=hs i h3;subst hsv;obtain⟨h5,c,h6,h7⟩:=NZ hcs hf hb h2;exact⟨.c c,by simp only[Bs,e];exact h6,c,rfl,h7⟩
theorem TU(hr:Rep Γ ρ st)(hrd:∀id,msk.contains id=false→rd id=st.ob id){kd:Nat}{x:SO}{d:Dyn (HS Γ) Int}{n:Int}(h:LV G Γ msk kd x=some d)(hn:d.val ρ=some n):Cf rd kd (so G st.fr x)=some n:=by
 unfold LV at h;split at h
 ·rename_i d' hd;cases h;obtain⟨s,h1,h2⟩:=Dyn.map_val hn;obtain⟨c,e,hc⟩:=Bo hd hr h1;unfold Can at hc;cases hc;rw[e,h2];rfl
 ·rename_i t d' hd;cases h;obtain⟨s,h1,h2⟩:=Dyn.map_val hn;obtain⟨c,e,hc⟩:=Bo hd hr h1;unfold Can at hc;obtain⟨nl,es,e',hes⟩:=hc;cases e';rw[e,h2];simp[Cf,hes.length]
 ·rename_i d' hd;cases h;obtain⟨s,h1,h2⟩:=Dyn.map_val hn;obtain⟨c,e,hc⟩:=Bo hd hr h1;unfold Can at hc;cases hc;rw[e,h2];rfl
 ·rename_i id f hd;split at h<;>(try cases h;done);rename_i e' sz t xs hg;cases h;obtain⟨u,hu,hn⟩:=Dyn.map_val hn;subst hn;obtain⟨es,e,hes⟩:=DZ hg hr hrd;have hs:so G st.fr x=.osl id:=Bo hd hr hu;rw[hs];simp[Cf,e,hes.length]
 ·rename_i k v d' hd;cases h;obtain⟨s,h1,h2⟩:=Dyn.map_val hn;obtain⟨c,e,hc⟩:=Bo hd hr h1;unfold Can at hc;obtain⟨nl,ks,vs,e',hks,_⟩:=hc;cases e';rw[e,h2];simp[Cf,hks.length]
 ·rename_i id f hd;split at h<;>(try cases h;done);rename_i mt k v xs hg;cases h;obtain⟨u,hu,hn⟩:=Dyn.map_val hn;subst hn;obtain⟨z,ks,vs,e,_,hks,_⟩:=DZ hg hr hrd;have hs:so G st.fr x=.omap id:=Bo hd hr hu;rw[hs];simp[Cf,e,hks.length]
 ·cases h
theorem Pe(hr:Rep Γ ρ st){key:SO}{kq:Σ t:Ty,Dyn (HS Γ) (D t)}(hkq:rdV Γ key=some kq){ok:Bool}{k v:Ty}{dm:Dyn (HS Γ) (List (D k×D v))}{q:Σ k:EK,Dyn (HS Γ) (DK k)}{y:DK q.1}(h:J9 Γ kq ok k v dm=some q)(hy:q.2.val ρ=some y):
  ∃m ck,dm.val ρ=some m∧so G st.fr key=.c ck∧Ed k=true∧Az (ktT k) ck=true∧
    ∀{ks vs:List CV},Ap (fun x c=>Can k x.1 [c]) m ks→Ap (fun x c=>Can v x.2 [c]) m vs→∀{z:CV},Can v (Cj v) [z]→∃c,(let(a,b):=A6 (ktT k) z ks vs ck;some (if ok then CV.tup [a,.bool b]else a))=some c∧RS q.1 y (.c c):=by
 unfold J9 at h;split at h<;>(try cases h;done);rename_i f hf;split at h<;>(try cases h;done);rename_i hp;split at h
 ·cases h;obtain⟨p,h1,h2⟩:∃p,(dm.both kq.2).val ρ=some p∧y=CW (eqZ k) (Cj v) (f p.2) p.1:=Dyn.map_val (C:=D (.tup (.cons v (.one .bool)))) (B:=List (D k×D v)×D kq.1) (g:=fun _ p=>CW (eqZ k) (Cj v) (f p.2) p.1) hy;obtain⟨h3,h4⟩:=Dyn.both_val h1;obtain⟨ck,h5,h6⟩:=A4 (G:=G) hkq hr h4;have h7:=BV _ _ hf h6;refine⟨p.1,ck,h3,h5,hp,(FN hp h7 h7).2,fun{ks vs} g1 g2 {z} g3=> ?_⟩;obtain⟨c,l1,l2⟩:=JA hp h7 g3 g1 g2;rw[l1];subst h2;refine⟨_,rfl,_,rfl, ?_⟩;unfold Can;refine⟨_,rfl, ?_⟩;unfold Can;refine⟨_,_,rfl,l2, ?_⟩;unfold Can;exact⟨_,rfl,by unfold Can;rfl⟩
 ·cases h;obtain⟨p,h1,h2⟩:∃p,(dm.both kq.2).val ρ=some p∧y=(CW (eqZ k) (Cj v) (f p.2) p.1).1:=Dyn.map_val (C:=D v) (B:=List (D k×D v)×D kq.1) (g:=fun _ p=>(CW (eqZ k) (Cj v) (f p.2) p.1).1) hy;obtain⟨h3,h4⟩:=Dyn.both_val h1;obtain⟨ck,h5,h6⟩:=A4 (G:=G) hkq hr h4;have h7:=BV _ _ hf h6;refine⟨p.1,ck,h3,h5,hp,(FN hp h7 h7).2,fun{ks vs} g1 g2 {z} g3=> ?_⟩;obtain⟨c,l1,l2⟩:=JA hp h7 g3 g1 g2;rw[l1];subst h2;exact⟨_,rfl,_,rfl,l2⟩
theorem Uc(hr:Rep Γ ρ st)(hrd:∀id,msk.contains id=false→rd id=st.ob id){mt:TypeId}{kt:KT}{z:CV}{ok:Bool}{x key:SO}{q:Σ k:EK,Dyn (HS Γ) (DK k)}{y:DK q.1}(h:Md G Γ msk mt kt z ok x key=some q)(hy:q.2.val ρ=some y):
  ∃c,Db rd mt kt z ok (so G st.fr x) (so G st.fr key)=some c∧RS q.1 y (.c c):=by
 unfold Md at h;split at h<;>(try cases h;done);rename_i kq hkq;split at h
 ·rename_i k v d hd;split at h<;>(try cases h;done);rename_i hz;obtain⟨m,ck,h1,h2,hp,h3,h4⟩:=Pe (G:=G) hr hkq h hy;obtain⟨c,e,hc⟩:=Bo hd hr h1;unfold Can at hc;obtain⟨nl,ks,vs,e',hk,hv⟩:=hc;cases e';rw[e,h2];have hkt:=OT hz.2;subst hkt;obtain⟨c,g1,g2⟩:=h4 hk hv (Nh hz.1);refine⟨c, ?_,g2⟩;simp only[Db,h3,OQ hp hk,Bool.and_self,if_true];exact g1
 ·rename_i id f hd;split at h<;>(try cases h;done);rename_i mt' k v m' hg;split at h<;>(try cases h;done);rename_i hmt;subst hmt;obtain⟨m,ck,h1,h2,hp,h3,h4⟩:=Pe (G:=G) hr hkq h hy;obtain⟨u,hu,h1⟩:=Dyn.map_val h1;subst h1;obtain⟨z',ks,vs,e,hz,hk,hv⟩:=DZ hg hr hrd;have hs:so G st.fr x=.omap id:=Bo hd hr hu;rw[hs,h2];obtain⟨c,g1,g2⟩:=h4 hk hv hz;refine⟨c, ?_,g2⟩;simp only[Db,e,h3,and_self,if_true];exact g1
 ·cases h
end
section
variable {G:Nat→List CV} {Γ:TC} {msk:List Nat} {ρ:HS Γ} {st:St} {rd:Nat→Ob}
theorem TD{α β:Type}{R:α→β→Prop}{xs:List α}{es:List β}(h:Ap R xs es){n:Int}{a:α}(ha:lAt xs n=some a):∃b,idxOf n es.length=some n.toNat∧es[n.toNat]? =some b∧R a b∧xs[n.toNat]? =some a:=by
 unfold lAt at ha;split at ha<;>(try cases ha;done);rename_i hn;obtain⟨b,h1,h2⟩:=h.get ha;refine⟨b, ?_,h1,h2,ha⟩;unfold idxOf;rw[h.length,if_pos hn]
theorem LS{α:Type}{xs:List α}{n:Int}{a:α}(ha:lAt xs n=some a):0≤n∧n<xs.length∧xs[n.toNat]? =some a:=by
 unfold lAt at ha;split at ha<;>(try cases ha;done);rename_i hn;exact⟨hn.1,hn.2,ha⟩
theorem OU{α:Type}{xs ys:List α}{lo hi:Int}(h:B2 xs lo hi=some ys):0≤lo∧lo≤hi∧hi≤xs.length∧ys=(xs.take hi.toNat).drop lo.toNat:=by
 unfold B2 at h;split at h<;>(try cases h;done);rename_i hh;cases h;exact⟨hh.1,hh.2.1,hh.2.2,rfl⟩
theorem KX:∀{ns:List Int} {es:List CV},Ap (fun x c=>Can (.int .u8) x [c]) ns es→DP es=some ns
 | [],es,h=>by unfold Ap at h;subst h;rfl
 |n::ns,es,h=>by
  obtain⟨c,es',rfl,h1,h2⟩:=h;unfold Can at h1;cases h1;simp[DP,KX h2]
theorem EH{x:SO}{q:Σ k:EK,Dyn (HS Γ) (DK k)}(h:(rdK G Γ x).map (DS Γ msk)=some q)(hr:Rep Γ ρ st)(hrd:∀id,msk.contains id=false→rd id=st.ob id){a:DK q.1}(ha:q.2.val ρ=some a)(hk:drK q.1=true):RS q.1 a (deref rd (so G st.fr x)):=by
 obtain⟨p,hp,rfl⟩:=Aa.1 h;exact Jb hr hrd (fun x hx=>Bo hp hr hx) ha hk
theorem Ma{sz:Option Nat}{q q':Σ k:EK,Dyn (HS Γ) (DK k)}(h:EA Γ msk sz q=some q'):drK q.1=true:=by
 obtain⟨k,d⟩:=q
 cases k<;>first
  |rfl
  |(cases h;done)
  |(rename_i t;cases t<;>first|rfl|(cases h;done))
theorem Rf(hr:Rep Γ ρ st)(hrd:∀id,msk.contains id=false→rd id=st.ob id){op:SOp}{q:Σ k:EK,Dyn (HS Γ) (DK k)}{y:DK q.1}(h:Na G Γ msk op=some q)(hy:q.2.val ρ=some y):
  ∃sv,Ao rd (so G st.fr) op=some sv∧RS q.1 y sv:=by
 cases op<;>simp only[Na]at h<;>(try cases h;done)
 case mov x=>exact⟨_,rfl,Bo h hr hy⟩
 case pick c a b=>
  split at h<;>(try cases h;done);rename_i dc qa qb hc ha hb
  have fin:∀{t:Ty} {f:D qa.1→D t} {g:D qb.1→D t},(∀{x:D qa.1} {cs:List CV},Can qa.1 x cs→Can t (f x) cs)→(∀{x:D qb.1} {cs:List CV},Can qb.1 x cs→Can t (g x) cs)→∀{z:D t},(Io dc (qa.2.map fun _ y=>f y) (qb.2.map fun _ y=>g y)).val ρ=some z→
    ∃sv,Ao rd (so G st.fr) (.pick c a b)=some sv∧RS (.v t) z sv:=by
   intro t f g hf hg z hz;obtain⟨b',h1,h2⟩:=UI hz;obtain⟨c1,h3,h4⟩:=A4 (G:=G) hc hr h1;unfold Can at h4;cases h4;cases b'
   ·simp only[Ag,if_false]at h2;obtain⟨w,h5,h6⟩:=Dyn.map_val h2;obtain⟨c2,h7,h8⟩:=A4 (G:=G) hb hr h5;exact⟨so G st.fr b,by simp[Ao,h3],c2,h7,h6▸hg h8⟩
   ·simp only[if_true]at h2;obtain⟨w,h5,h6⟩:=Dyn.map_val h2;obtain⟨c2,h7,h8⟩:=A4 (G:=G) ha hr h5;exact⟨so G st.fr a,by simp[Ao,h3],c2,h7,h6▸hf h8⟩
  have idm:∀{t:Ty} (d:Dyn (HS Γ) (D t)),d.map (fun _ y=>y)=d:=by
   intro t d
   cases d with
   |tot f=>rfl
   |par f=>
    simp only[Dyn.map,Dyn.par.injEq];funext a;cases f a<;>rfl
  split at h
  ·rename_i g hg;cases h;try dsimp only at hy
   refine fin (f:=fun y=>y) (fun hx=>hx) (fun hx=>BV _ _ hg hx) ?_;rw[idm];exact hy
  ·split at h<;>(try cases h;done);rename_i g hg;cases h;try dsimp only at hy
   refine fin (g:=fun y=>y) (fun hx=>BV _ _ hg hx) (fun hx=>hx) ?_;rw[idm];exact hy
 case bin op x y'=>
  split at h<;>(try cases h;done);rename_i p q' hp hq;split at h<;>(try cases h;done);rename_i b hb;cases h;try dsimp only at hy
  obtain⟨z,h1,h2⟩:=Dyn.comp_val hy;obtain⟨h3,h4⟩:=Dyn.both_val h1;obtain⟨c1,e1,g1⟩:=A4 (G:=G) hp hr h3;obtain⟨c2,e2,g2⟩:=A4 (G:=G) hq hr h4;obtain⟨c,h5,h6⟩:=R3 hb g1 g2 h2;exact⟨.c c,by simp[Ao,e1,e2,h5],c,rfl,h6⟩
 case eqs neg ts x y'=>
  split at h<;>(try cases h;done);rename_i r d s e hd he;split at h<;>(try cases h;done);rename_i f hf
  split at h<;>
  ·cases h;try dsimp only at hy
   obtain⟨z,h1,h2⟩:=Dyn.map_val hy;obtain⟨h3,h4⟩:=Dyn.both_val h1;obtain⟨c1,e1,g1⟩:=A4 (G:=G) hd hr h3;obtain⟨c2,e2,g2⟩:=A4 (G:=G) he hr h4;unfold Can at g1 g2;obtain⟨l1,q1,g1⟩:=g1;obtain⟨l2,q2,g2⟩:=g2;cases q1;cases q2;have h5:=SP hf g1 g2;exact⟨.c (.bool y),by rw[h2];simp[Ao,e1,e2,eqA,h5],_,rfl,by unfold Can;rfl⟩
 case beq neg x y'=>
  split at h<;>(try cases h;done);rename_i d e hd he
  split at h<;>
  ·cases h;try dsimp only at hy
   obtain⟨z,h1,h2⟩:=Dyn.map_val hy;obtain⟨h3,h4⟩:=Dyn.both_val h1;obtain⟨c1,e1,g1⟩:=A4 (G:=G) hd hr h3;obtain⟨c2,e2,g2⟩:=A4 (G:=G) he hr h4;unfold Can at g1 g2;cases g1;cases g2;exact⟨.c (.bool y),by rw[h2];simp[Ao,e1,e2],_,rfl,by unfold Can;rfl⟩
 case isnil kd neg x=>
  split at h<;>(try cases h;done)
  ·rename_i d hd
   split at h<;>
   ·cases h;try dsimp only at hy
    obtain⟨z,h1,h2⟩:=Dyn.map_val hy;obtain⟨c1,e1,g1⟩:=A4 (G:=G) hd hr h1;unfold Can at g1;cases g1;refine⟨.c (.bool y), ?_,_,rfl,by unfold Can;rfl⟩;rw[h2];cases z<;>simp[Ao,e1]
  ·rename_i d hd;cases h;try dsimp only at hy
   obtain⟨z,h1,h2⟩:=Dyn.map_val hy;obtain⟨c1,e1,g1⟩:=A4 (G:=G) hd hr h1;unfold Can at g1;cases g1;refine⟨.c (.bool y), ?_,_,rfl,by unfold Can;rfl⟩;rw[h2];cases neg<;>simp[Ao,e1]
 case un op x=>
  split at h<;>(try cases h;done)
  all_goals
   rename_i d hd;cases h;try dsimp only at hy
   obtain⟨z,h1,h2⟩:=Dyn.map_val hy;obtain⟨c1,e1,g1⟩:=A4 (G:=G) hd hr h1;unfold Can at g1;cases g1;subst h2;exact⟨_,by simp only[Ao,e1];rfl,_,rfl,by unfold Can;rfl⟩
 case cvi k x=>
  split at h<;>(try cases h;done);rename_i k' d hd;cases h;try dsimp only at hy
  obtain⟨z,h1,h2⟩:=Dyn.map_val hy;obtain⟨c1,e1,g1⟩:=A4 (G:=G) hd hr h1;unfold Can at g1;cases g1;subst h2;exact⟨_,by simp only[Ao,e1];rfl,_,rfl,by unfold Can;rfl⟩
 case cvrune x=>
  split at h<;>(try cases h;done);rename_i k' d hd;cases h;try dsimp only at hy
  obtain⟨z,h1,h2⟩:=Dyn.map_val hy;obtain⟨c1,e1,g1⟩:=A4 (G:=G) hd hr h1;unfold Can at g1;cases g1;subst h2;exact⟨_,by simp only[Ao,e1];rfl,_,rfl,by unfold Can;rfl⟩
 case bytes e x=>
  split at h<;>(try cases h;done);rename_i d hd;cases h;try dsimp only at hy
  obtain⟨s,h1,h2⟩:=Dyn.comp_val hy;obtain⟨c1,e1,g1⟩:=A4 (G:=G) hd hr h1;unfold Can at g1;cases g1;simp only[Dyn.val]at h2;split at h2<;>(try cases h2;done);rename_i hl;cases h2;refine⟨_,by simp only[Ao,e1];rw[if_pos hl],_,rfl, ?_⟩;unfold Can;refine⟨_,_,rfl, ?_⟩;clear h1 e1 hl hy
  induction s with
  |nil=>rfl
  |cons b s ih=>exact⟨_,_,rfl,by unfold Can;rfl,ih⟩
 case cvbs x=>
  split at h<;>(try cases h;done)
  ·rename_i d hd;cases h;try dsimp only at hy
   obtain⟨ns,h1,h2⟩:=Dyn.map_val hy;obtain⟨c,e1,g1⟩:=Bo hd hr h1;unfold Can at g1;obtain⟨nl,es,e2,g1⟩:=g1;cases e2;exact⟨.c (.str y),by simp only[Ao,e1,KX g1,Option.map_some,h2],_,rfl,by unfold Can;rfl⟩
  ·rename_i d hd;cases h;try dsimp only at hy
   obtain⟨ns,h1,h2⟩:=Dyn.map_val hy;obtain⟨c,e1,g1⟩:=Bo hd hr h1;unfold Can at g1;cases g1;exact⟨.c (.str y),by rw[h2];simp[Ao,e1,DP],_,rfl,by unfold Can;rfl⟩
  ·rename_i id d hd;split at h<;>(try cases h;done);rename_i e' sz xs hg;cases h;try dsimp only at hy
   obtain⟨u,h1,h2⟩:=Dyn.map_val hy;obtain⟨es,e,hes⟩:=DZ hg hr hrd;have hs:so G st.fr x=.osl id:=Bo hd hr h1;exact⟨.c (.str y),by simp only[Ao,hs,e,KX hes,Option.map_some,h2],_,rfl,by unfold Can;rfl⟩
 case cvid x=>
  split at h<;>(try cases h;done);rename_i d hd;cases h;try dsimp only at hy
  obtain⟨c1,e1,g1⟩:=A4 (G:=G) hd hr hy;have g1':=g1;unfold Can at g1';cases g1';exact⟨_,by simp only[Ao,e1],_,rfl,g1⟩
 case build z parts=>
  split at h<;>(try cases h;done);rename_i p hp;split at h<;>(try cases h;done);rename_i r hr';cases h;try dsimp only at hy
  obtain⟨_,l,cs',h1,h2,h3⟩:=UB (G:=G) hr hr' hy (cs:=z) (fun y hy'=>by cases hy';exact H6 hp);refine⟨.c (.agg cs'), ?_,_,rfl,by unfold Can;exact⟨_,rfl,h3⟩⟩;simp only[Ao];rw[h1];simp[h2]
 case field off sz x=>
  split at h<;>(try cases h;done);rename_i r d hd;split at h
  ·split at h<;>(try cases h;done);rename_i p hp;cases h;try dsimp only at hy
   obtain⟨z,h1,h2⟩:=Dyn.map_val hy;obtain⟨c1,e1,g1⟩:=A4 (G:=G) hd hr h1;unfold Can at g1;obtain⟨l,e2,g1⟩:=g1;cases e2;obtain⟨c,h3,h4⟩:=GO hp g1;exact⟨.c c,by simp[Ao,e1,Cb,h3],c,rfl,h2▸h4⟩
  ·rename_i n;split at h<;>(try cases h;done);rename_i p hp;split at h<;>(try cases h;done);rename_i hn;cases h;try dsimp only at hy
   obtain⟨z,h1,h2⟩:=Dyn.map_val hy;obtain⟨c1,e1,g1⟩:=A4 (G:=G) hd hr h1;unfold Can at g1;obtain⟨l,e2,g1⟩:=g1;cases e2;obtain⟨h3,h4⟩:=QN hp g1;have hle:off+n≤l.length:=by omega
   exact⟨.c (.agg ((l.drop off).take n)),by simp[Ao,e1,Cb,hle],_,rfl,by unfold Can;exact⟨_,rfl,h2▸h3⟩⟩
 case ext x i=>
  split at h<;>(try cases h;done)
  ·rename_i r d hd;split at h<;>(try cases h;done);rename_i p hp;cases h;try dsimp only at hy
   obtain⟨z,h1,h2⟩:=Dyn.map_val hy;obtain⟨c1,e1,g1⟩:=Bo hd hr h1;unfold Can at g1;obtain⟨l,e2,g1⟩:=g1;cases e2;obtain⟨c,h3,h4⟩:=GO hp g1;exact⟨.c c,by simp[Ao,e1,h3],c,rfl,h2▸h4⟩
  ·rename_i id k v d hd;split at h<;>(try cases h;done)
   ·cases h;try dsimp only at hy
    obtain⟨z,h1,h2⟩:=Dyn.map_val hy;obtain⟨ck,cv,e1,g1,g2⟩:=Bo hd hr h1;exact⟨.c cv,by simp[Ao,e1],cv,rfl,h2▸g2⟩
   ·cases h;try dsimp only at hy
    obtain⟨z,h1,h2⟩:=Dyn.map_val hy;obtain⟨ck,cv,e1,g1,g2⟩:=Bo hd hr h1;exact⟨.stamp id ck,by simp[Ao,e1],ck,rfl,h2▸g1⟩
 case minmax mx xs=>
  split at h<;>(try cases h;done);rename_i x xs;split at h<;>(try cases h;done);rename_i k d hd;split at h<;>(try cases h;done);rename_i e he;cases h;try dsimp only at hy
  obtain⟨a,l,h1,h2,h3⟩:=Uk (G:=G) hr he hy;obtain⟨c1,e1,g1⟩:=A4 (G:=G) hd hr h1;unfold Can at g1;cases g1;refine⟨_, ?_,_,rfl,by unfold Can;rfl⟩;have e:Aq (fun x=>closed (so G st.fr x)) (x::xs)=(closed (so G st.fr x)).bind fun b=>(Aq (fun x=>closed (so G st.fr x)) xs).map fun bs=>b::bs:=rfl;simp only[Ao];rw[e,e1,h2];simp only[closed,Option.bind_some,Option.map_some,h3]
 case fnv f caps=>
  split at h<;>(try cases h;done);rename_i p hp;cases h;try dsimp only at hy
  obtain⟨l,h1,h2⟩:=Hv (G:=G) hr hp hy;refine⟨.c (.fn f l), ?_,_,rfl,by unfold Can;exact⟨l,rfl,h2⟩⟩;simp only[Ao];rw[h1];rfl
 case faddr off x=>
  split at h<;>(try cases h;done)
  ·rename_i ex r d hd;split at h<;>(try cases h;done);rename_i p hp;cases h;try dsimp only at hy
   obtain⟨z,h1,h2⟩:=Dyn.map_val hy;obtain⟨cs,rest,e1,g1,g2⟩:=EH hd hr hrd h1 rfl;obtain⟨g3,g4⟩:=Jg hp g1;have hle:off≤cs.length:=by omega
   refine⟨_,by simp only[Ao,e1];rw[if_pos (by simp;omega)],cs.drop off,rest, ?_,h2▸g3,g2⟩;rw[List.drop_append_of_le_length hle]
  ·rename_i r d hd;split at h<;>(try cases h;done);rename_i p hp;cases h;try dsimp only at hy
   obtain⟨z,h1,h2⟩:=Dyn.map_val hy;obtain⟨c0,e1,hc0⟩:=EH hd hr hrd h1 rfl;unfold Can at hc0;obtain⟨cs,e,g1⟩:=hc0;cases e;obtain⟨g3,g4⟩:=Jg hp g1;have hle:off≤cs.length:=by omega
   refine⟨_,by simp only[Ao,e1];rw[if_pos hle],cs.drop off,[],by rw[List.append_nil],h2▸g3,fun _=>rfl⟩
  ·rename_i id o d hd;cases h;try dsimp only at hy
   have hs:deref rd (so G st.fr x)=.ptr id o:=EH hd hr hrd hy rfl;exact⟨.ptr id (o+off),by simp[Ao,hs],rfl⟩
  ·rename_i id s o d hd;cases h;try dsimp only at hy
   have hs:deref rd (so G st.fr x)=.eptr id y s o:=EH hd hr hrd hy rfl;exact⟨.eptr id y s (o+off),by simp[Ao,hs],rfl⟩
  ·rename_i id n o d hd;split at h<;>(try cases h;done);rename_i h0;cases h;try dsimp only at hy
   have hs:=EH hd hr hrd hy rfl;obtain⟨hs1,hs2⟩:=hs;exact⟨.ptr id (o+y),by simp[Ao,hs1,h0],rfl,hs2⟩
 case iaddr size x i=>
  split at h<;>(try cases h;done)
  ·rename_i e d k di hd hdi;split at h<;>(try cases h;done);rename_i hv;cases h;try dsimp only at hy
   obtain⟨z,h1,h2⟩:=Dyn.comp_val hy;obtain⟨h3,h4⟩:=Dyn.both_val h1;obtain⟨a,h5,h6⟩:=Aa.1 h2;obtain⟨c1,e1,g1⟩:=Bo hd hr h3;obtain⟨c2,e2,g2⟩:=A4 (G:=G) hdi hr h4;unfold Can at g1 g2;cases g2;obtain⟨nl,es,e3,g1⟩:=g1;cases e3;obtain⟨c,i1,i2,i3,_⟩:=TD g1 h5;obtain⟨n1,n2⟩:=Gr hv.1 hv.2 i3;refine⟨.c (.rp c.cells), ?_,c.cells,[],by simp,h6▸Fw hv.1 i3,fun _=>rfl⟩;simp[Ao,CZ,e1,e2,i1,i2,n2]
  ·rename_i id f k di hd hdi;split at h<;>(try cases h;done);rename_i e' sz t xs hg;split at h<;>(try cases h;done);rename_i hsz;cases h;try dsimp only at hy
   obtain⟨z,h1,h2⟩:=Dyn.comp_val hy;obtain⟨n,h3,h4⟩:=Dyn.map_val h1;obtain⟨u,n⟩:=n;obtain⟨h5,h6⟩:=Dyn.both_val h3;have h2':z=some y:=h2;subst h2';obtain⟨c2,e2,g2⟩:=A4 (G:=G) hdi hr h6;unfold Can at g2;cases g2;obtain⟨es,e,hes⟩:=DZ hg hr hrd;have hs:so G st.fr x=.osl id:=Bo hd hr h5;split at h4<;>(try cases h4;done);rename_i hn;cases h4;refine⟨.eptr id n.toNat size 0, ?_,rfl⟩
   have hi:idxOf n es.length=some n.toNat:=by
    unfold idxOf;rw[hes.length,if_pos hn]
   simp[Ao,CZ,hs,e2,e,hsz,hi]
 case aaddr len size x i=>
  split at h<;>(try cases h;done)
  case h_2=>
   rename_i id o d k di hd hdi;split at h<;>(try cases h;done);rename_i hsz;subst hsz;cases h;try dsimp only at hy
   obtain⟨z,h1,h2⟩:=Dyn.comp_val hy;obtain⟨h3,h4⟩:=Dyn.both_val h1;obtain⟨c2,e2,g2⟩:=A4 (G:=G) hdi hr h4;unfold Can at g2;cases g2;have hs:so G st.fr x=.ptr id o:=Bo hd hr h3;have h2':(if 0≤(z.2:Int)∧(z.2:Int)<(len:Int)then some (z.2:Int).toNat else none)=some y:=h2;split at h2'<;>(try cases h2';done);rename_i hn;cases h2';refine⟨.ptr id (o+(z.2:Int).toNat), ?_,rfl,(Int.toNat_lt hn.1).2 hn.2⟩
   have hi:idxOf z.2 len=some z.2.toNat:=by
    unfold idxOf;rw[if_pos hn]
   simp[Ao,Dj,hs,e2,hi]
  rename_i r d k di hd hdi;split at h<;>(try cases h;done);rename_i p hp;split at h<;>(try cases h;done);rename_i f hf;split at h<;>(try cases h;done);rename_i hlen;cases h;try dsimp only at hy
  obtain⟨z,h1,h2⟩:=Dyn.comp_val hy;obtain⟨h3,h4⟩:=Dyn.both_val h1;obtain⟨cs,rest,e1,g1,g3⟩:=Bo hd hr h3;have hrest:=g3 rfl;subst hrest;obtain⟨c2,e2,g2⟩:=A4 (G:=G) hdi hr h4;unfold Can at g2;cases g2;obtain⟨j1,j2,j3⟩:=LS h2;obtain⟨a1,a2⟩:=KQ hf g1;obtain⟨a3,a4⟩:=a2 j3;have hl:=DX hlen g1;refine⟨.c (.rp ((cs++ []).drop (z.2.toNat*size))), ?_,(cs.drop (z.2.toNat*size)).take size,(cs.drop (z.2.toNat*size)).drop size, ?_,a3,fun hh=>by cases hh⟩
  ·have hi:idxOf z.2 len=some z.2.toNat:=by
    unfold idxOf;rw[if_pos ⟨j1,by rw[a1]at j2;exact j2⟩]
   simp[Ao,Dj,e1,e2,hl,hi]
  ·rw[List.append_nil,List.take_append_drop]
 case sidx x i=>
  split at h<;>(try cases h;done);rename_i d k di hd hdi;cases h;try dsimp only at hy
  obtain⟨z,h1,h2⟩:=Dyn.comp_val hy;obtain⟨h3,h4⟩:=Dyn.both_val h1;obtain⟨c1,e1,g1⟩:=A4 (G:=G) hd hr h3;obtain⟨c2,e2,g2⟩:=A4 (G:=G) hdi hr h4;unfold Can at g1 g2;cases g1;cases g2;have h2':sAt z.1 z.2=some y:=h2;unfold sAt at h2';split at h2'<;>(try cases h2';done);rename_i hn;obtain⟨b,h5,h6⟩:=Aa.1 h2';refine⟨.c (.int .u8 y), ?_,_,rfl,by unfold Can;rfl⟩
  have hi:idxOf z.2 z.1.length=some z.2.toNat:=by
   unfold idxOf;rw[if_pos hn]
  simp[Ao,e1,e2,hi,h5,h6]
 case aidx len size sz x i=>
  split at h<;>(try cases h;done);rename_i r d k di hd hdi;split at h
  ·split at h<;>(try cases h;done);rename_i p hp;split at h<;>(try cases h;done);rename_i p1 hp1;split at h<;>(try cases h;done);rename_i f hf;split at h<;>(try cases h;done);rename_i hlen;subst hlen;cases h;try dsimp only at hy
   obtain⟨z,h1,h2⟩:=Dyn.comp_val hy;obtain⟨h3,h4⟩:=Dyn.both_val h1;obtain⟨a,h5,h6⟩:=Aa.1 h2;obtain⟨c1,e1,g1⟩:=A4 (G:=G) hd hr h3;obtain⟨c2,e2,g2⟩:=A4 (G:=G) hdi hr h4;unfold Can at g1 g2;cases g2;obtain⟨l,e3,g1⟩:=g1;cases e3;obtain⟨j1,j2,j3⟩:=LS h5;obtain⟨a1,a2⟩:=KQ hf g1;obtain⟨a3,a4⟩:=a2 j3;obtain⟨c,b1,b2⟩:=GO hp1 a3;refine⟨.c c, ?_,c,rfl,h6▸b2⟩
   have hi:idxOf z.2 len=some z.2.toNat:=by
    unfold idxOf;rw[if_pos ⟨j1,by rw[a1]at j2;exact j2⟩]
   simp only[Nat.mul_one]at b1 a4
   have hc:l[z.2.toNat]? =some c:=by
    rw[List.getElem?_take_of_lt (by omega),List.getElem?_drop]at b1;simpa using b1
   simp[Ao,e1,e2,hi,Cb,hc]
  ·rename_i n;split at h<;>(try cases h;done);rename_i p hp;split at h<;>(try cases h;done);rename_i f hf;split at h<;>(try cases h;done);rename_i hlen;obtain⟨hlen,hpos⟩:=hlen;subst hlen;cases h;try dsimp only at hy
   obtain⟨z,h1,h2⟩:=Dyn.comp_val hy;obtain⟨h3,h4⟩:=Dyn.both_val h1;obtain⟨c1,e1,g1⟩:=A4 (G:=G) hd hr h3;obtain⟨c2,e2,g2⟩:=A4 (G:=G) hdi hr h4;unfold Can at g1 g2;cases g2;obtain⟨l,e3,g1⟩:=g1;cases e3;obtain⟨j1,j2,j3⟩:=LS h2;obtain⟨a1,a2⟩:=KQ hf g1;obtain⟨a3,a4⟩:=a2 j3;refine⟨.c (.agg ((l.drop (z.2.toNat*n)).take n)), ?_,_,rfl,by unfold Can;exact⟨_,rfl,a3⟩⟩
   have hi:idxOf z.2 len=some z.2.toNat:=by
    unfold idxOf;rw[if_pos ⟨j1,by rw[a1]at j2;exact j2⟩]
   simp[Ao,e1,e2,hi,Cb,a4]
 case load sz x=>
  split at h<;>(try cases h;done);rename_i p hp;exact Mb hr hrd h hy fun x hx=>Jb hr hrd (fun x hx=>Bo hp hr hx) hx (Ma h)
 case len kd x=>
  split at h<;>(try cases h;done);rename_i d hd;cases h;try dsimp only at hy
  exact⟨_,by simp only[Ao];rw[TU hr hrd hd hy];rfl,_,rfl,by unfold Can;rfl⟩
 case sslice x lo hi=>
  split at h<;>(try cases h;done);rename_i d hd;split at h<;>(try cases h;done);rename_i e he;cases h;try dsimp only at hy
  obtain⟨p,h1,h2⟩:=Dyn.comp_val hy;obtain⟨h3,h4,h5⟩:=NE (G:=G) hr he h1;obtain⟨c1,e1,g1⟩:=A4 (G:=G) hd hr h3;unfold Can at g1;cases g1;obtain⟨l1,l2,l3,l4⟩:=OU h2;refine⟨.c (.str y), ?_,_,rfl,by unfold Can;rfl⟩;simp only[Ao,e1];rw[h4 _ rfl (by omega),Option.bind_some,h5 l1,Option.bind_some,if_pos (by omega),l4]
 case slice size x lo hi=>
  split at h<;>(try cases h;done);rename_i e d hd;split at h<;>(try cases h;done);rename_i hv;split at h<;>(try cases h;done);rename_i g hg;cases h;try dsimp only at hy
  obtain⟨p,h1,h2⟩:=Dyn.comp_val hy;obtain⟨h3,h4,h5⟩:=NE (G:=G) hr hg h1;obtain⟨c1,e1,g1⟩:=A4 (G:=G) hd hr h3;unfold Can at g1;obtain⟨nl,es,e3,g1⟩:=g1;cases e3;obtain⟨l1,l2,l3,l4⟩:=OU h2;have hlen:=g1.length;refine⟨.c (.sl nl ((es.take p.2.2.toNat).drop p.2.1.toNat)), ?_,_,rfl,by unfold Can;exact⟨_,_,rfl,by rw[l4];exact(g1.take _).drop _⟩⟩;simp only[Ao,e1]
  have hall:(es.all fun e=>BB e==size)=true:=by
   rw[List.all_eq_true];intro c hc;obtain⟨i,hi⟩:=List.getElem?_of_mem hc;obtain⟨a,_,h7⟩:=g1.getB hi;simp[(Gr hv.1 hv.2 h7).2]
  rw[h4 _ (by rw[hlen]) (by omega),Option.bind_some,h5 l1,Option.bind_some,if_pos ⟨by omega,hall⟩]
 case lookup mt kt z ok x k=>
  obtain⟨c,h1,h2⟩:=Uc hr hrd h hy;exact⟨.c c,by simp only[Ao,h1,Option.map_some],h2⟩
 case asl n x=>
  split at h<;>(try cases h;done);rename_i r d hd;split at h<;>(try cases h;done);rename_i f hf;split at h<;>(try cases h;done);rename_i hlen;cases h;try dsimp only at hy
  obtain⟨z,h3,rfl⟩:=Dyn.map_val hy;obtain⟨cs,rest,e1,g1,g3⟩:=Bo hd hr h3;have hrest:=g3 rfl;subst hrest;rw[List.append_nil]at e1;have hl:=DX hlen g1;have hs:=QI hf g1;subst hs;refine⟨.c (.sl (some false) ((f z).map CV.str)), ?_,_,rfl,by unfold Can;exact⟨_,_,rfl,QL _⟩⟩;simp only[Ao,e1,QK,hl,and_self,if_true]
end
def EK.refs:EK→Option Nat
 | .ptr id _| .eptr id _ _| .aptr id _ _| .own id| .mp id| .iter id| .ent id _ _| .stamp id _=>some id
 | .opt k=>k.refs
 |_=>none
def BH:TC→Key→Option EK
 | [],_=>none
 |e::Γ,p=>if e.1=p then some e.2 else BH Γ p
theorem Bx:∀{Γ:TC} {p:Key} {q:Σ k:EK,HS Γ→DK k},get Γ p=some q→BH Γ p=some q.1
 | [],p,q,h=>by cases h
 |e::Γ,p,q,h=>by
  unfold get at h;unfold BH;split at h
  ·rename_i he;cases h;rw[if_pos he]
  ·rename_i he;rw[if_neg he];split at h<;>(try cases h;done);rename_i t ht;cases h;exact Bx ht
theorem LD:∀{Γ:TC} {p:Key} {k:EK},BH Γ p=some k→∃f,get Γ p=some ⟨k,f⟩
 | [],p,k,h=>by cases h
 |e::Γ,p,k,h=>by
  unfold BH at h;unfold get;split at h
  ·rename_i he;cases h;rw[if_pos he];exact⟨_,rfl⟩
  ·rename_i he;rw[if_neg he];obtain⟨f,hf⟩:=LD h;rw[hf];exact⟨_,rfl⟩
def FM(Γ:TC)(ids:List Nat):List Key:=(Γ.map (·.1)).filter fun p=>match BH Γ p with
 |some k=>match k.refs with
  |some id=>ids.contains id
  |none=>false
 |none=>false
def shT:List Key→TC→TC
 | [],Γ=>Γ
 |k::ks,Γ=>(k,.undef)::shT ks Γ
def shP{Γ:TC}:(ks:List Key)→HS Γ→HS (shT ks Γ)
 | [],ρ=>ρ
 |_::ks,ρ=>((),shP ks ρ)
def goT:List Nat→TC→TC
 | [],Γ=>Γ
 |d::ds,Γ=>(.o d,.gone)::goT ds Γ
def goP{Γ:TC}:(ds:List Nat)→HS Γ→HS (goT ds Γ)
 | [],ρ=>ρ
 |_::ds,ρ=>((),goP ds ρ)
def Bu(ids:List Nat)(Γ:TC):TC:=goT ids (shT (FM Γ ids) Γ)
def B7(ids:List Nat){Γ:TC}(ρ:HS Γ):HS (Bu ids Γ):=goP ids (shP (FM Γ ids) ρ)
section
variable {Γ:TC} {ρ:HS Γ} {st:St}
theorem G7(ρ:HS Γ):∀{ks:List Key} {p:Key} {q:Σ k:EK,HS (shT ks Γ)→DK k},get (shT ks Γ) p=some q→(p∈ks∧q.1=.undef)∨(p∉ks∧∃f,get Γ p=some ⟨q.1,f⟩∧q.2 (shP ks ρ)=f ρ)
 | [],p,q,h=>.inr ⟨by simp,q.2,h,rfl⟩
 |k::ks,p,q,h=>by
  by_cases hk:k=p
  ·subst hk;change get ((k,.undef)::shT ks Γ) k=some q at h;rw[Ct]at h;cases h;exact .inl ⟨by simp,rfl⟩
  ·obtain⟨f,hf,hx⟩:=BP hk h;rcases G7 ρ hf with⟨h1,h2⟩|⟨h1,g,h2,h3⟩
   ·exact .inl ⟨by simp[h1],h2⟩
   ·refine .inr ⟨by simp[h1,Ne.symm hk],g,h2, ?_⟩;exact(hx _).trans h3
theorem G6(ρ:HS Γ):∀{ds:List Nat} {p:Key} {q:Σ k:EK,HS (goT ds Γ)→DK k},get (goT ds Γ) p=some q→(∃d∈ds,p=.o d∧q.1=.gone)∨((∀d∈ds,p≠ .o d)∧∃f,get Γ p=some ⟨q.1,f⟩∧q.2 (goP ds ρ)=f ρ)
 | [],p,q,h=>.inr ⟨by simp,q.2,h,rfl⟩
 |d::ds,p,q,h=>by
  by_cases hk:Key.o d=p
  ·subst hk;change get ((.o d,.gone)::goT ds Γ) (.o d)=some q at h;rw[Ct]at h;cases h;exact .inl ⟨d,by simp,rfl,rfl⟩
  ·obtain⟨f,hf,hx⟩:=BP hk h;rcases G6 ρ hf with⟨d',h0,h1,h2⟩|⟨h1,g,h2,h3⟩
   ·exact .inl ⟨d',by simp[h0],h1,h2⟩
   ·refine .inr ⟨fun d' hd'=> ?_,g,h2, ?_⟩
    ·simp only[List.mem_cons]at hd';rcases hd' with rfl|hd'
     ·exact Ne.symm hk
     ·exact h1 d' hd'
    ·exact(hx _).trans h3
theorem E7:∀{Γ:TC} {p:Key} {k:EK},BH Γ p=some k→p∈Γ.map (·.1)
 | [],p,k,h=>by cases h
 |e::Γ,p,k,h=>by
  unfold BH at h;split at h
  ·rename_i he;simp[←he]
  ·simp only[List.map_cons,List.mem_cons];exact .inr (E7 h)
theorem RS.kill{ids:List Nat}{k:EK}{x:DK k}{sv:SV}(h:RS k x sv)(hn:∀id,k.refs=some id→ids.contains id=false):RS k x (Au ids sv):=by
 induction k
 case v t=>obtain⟨c,rfl,hc⟩:=h;exact⟨c,rfl,hc⟩
 case opt k ih=>
  unfold RS at h⊢
  cases x with
  |none=>simp only at h;subst h;rfl
  |some y=>exact ih h hn
 case rp ex r=>obtain⟨cs,rest,rfl,hc⟩:=h;exact⟨cs,rest,rfl,hc⟩
 case undef=>trivial
 case ptr id o=>have:=hn id rfl;unfold RS at h;subst h;simp[RS,Au];simpa using this
 case eptr id s o=>have:=hn id rfl;unfold RS at h;subst h;simp[RS,Au];simpa using this
 case aptr id n o=>have:=hn id rfl;obtain⟨h,hi⟩:=h;subst h;refine⟨?_,hi⟩;simp[Au];simpa using this
 case own id=>have:=hn id rfl;unfold RS at h;subst h;simp[RS,Au];simpa using this
 case mp id=>have:=hn id rfl;unfold RS at h;subst h;simp[RS,Au];simpa using this
 case iter id=>have:=hn id rfl;unfold RS at h;subst h;simp[RS,Au];simpa using this
 case ent id k v=>
  have:=hn id rfl;obtain⟨ck,cv,rfl,h1,h2⟩:=h;refine⟨ck,cv, ?_,h1,h2⟩;simp only[Au,this,Ag,if_false]
 case stamp id k=>
  have:=hn id rfl;obtain⟨ck,rfl,h1⟩:=h;refine⟨ck, ?_,h1⟩;simp only[Au,this,Ag,if_false]
 all_goals exact h
theorem Ub(ids:List Nat){p:Key}{k:EK}{f:HS Γ→DK k}(hg:get Γ p=some ⟨k,f⟩)(hp:p∉FM Γ ids):∀id,k.refs=some id→ids.contains id=false:=by
 intro id hid;have hk:=Bx hg
 cases hc:ids.contains id with
 |false=>rfl
 |true=>
  exfalso;apply hp;unfold FM;rw[List.mem_filter];refine⟨E7 hk, ?_⟩;simp only at hk;simp only[hk,hid,hc]
theorem Rep.kill(h:Rep Γ ρ st)(ids:List Nat):Rep (Bu ids Γ) (B7 ids ρ) (WB.kill ids st):=by
 have A6:∀p q,(∀d,p≠ .o d)→get (Bu ids Γ) p=some q→q.1=.undef∨∃f,get Γ p=some ⟨q.1,f⟩∧q.2 (B7 ids ρ)=f ρ∧∀id,q.1.refs=some id→ids.contains id=false:=by
  intro p q hp hq;rcases G6 (shP (FM Γ ids) ρ) hq with⟨d,_,h1,_⟩|⟨_,f,h2,h3⟩
  ·exact absurd h1 (hp d)
  ·rcases G7 ρ h2 with⟨_,h4⟩|⟨h4,g,h5,h6⟩
   ·exact .inl h4
   ·refine .inr ⟨g,h5, ?_,Ub ids h5 h4⟩;rw[←h6];exact h3
 have key:∀q:Σ k:EK,HS (Bu ids Γ)→DK k,q.1=.undef→∀sv,RS q.1 (q.2 (B7 ids ρ)) sv:=by
  intro q hq sv;obtain⟨k,f⟩:=q;simp only at hq;subst hq
  trivial
 refine⟨fun i q hq=> ?_,fun id q hq=> ?_⟩
 ·rcases A6 _ q (by simp) hq with h1|⟨f,h1,h2,h3⟩
  ·exact key q h1 _
  ·rw[h2];exact RS.kill (h.s i _ h1) h3
 ·rcases G6 (shP (FM Γ ids) ρ) hq with⟨d,hd,h1,h2⟩|⟨hnd,f,h2,h3⟩
  ·cases h1;obtain⟨k,f⟩:=q;simp only at h2;subst h2;have:ids.contains id=true:=by simpa using hd
   show(WB.kill ids st).ob id=.none;simp only[WB.kill,this,if_true]
  ·have hnc:ids.contains id=false:=by
    cases hc:ids.contains id with
    |false=>rfl
    |true=>exact absurd rfl (hnd id (by simpa using hc))
   rcases G7 ρ h2 with⟨_,h4⟩|⟨h4,g,h5,h6⟩
   ·obtain⟨k,f'⟩:=q;simp only at h4;subst h4
    trivial
   ·have hob:=h.o id _ h5;have e:q.2 (B7 ids ρ)=g ρ:=by rw[←h6];exact h3
    rw[e];have e2:(WB.kill ids st).ob id=BX ids (st.ob id):=by simp only[WB.kill,hnc,Ag,if_false]
    rw[e2];obtain⟨k,f'⟩:=q;simp only at hob⊢;cases k<;>try exact hob
    ·obtain⟨cs,h7,h8,h9⟩:=hob;rw[h7];refine⟨cs.map (Au ids),rfl,by simp[h8],fun j q' hj hq'=> ?_⟩;rcases A6 _ q' (by simp) hq' with g1|⟨f2,g1,g2,g3⟩
     ·exact⟨Au ids (cs[j]'(by omega)),by simp[Ai (show j<cs.length by omega)],key q' g1 _⟩
     ·obtain⟨sv,g4,g5⟩:=h9 j _ hj g1;exact⟨Au ids sv,by simp[g4],g2▸RS.kill g5 g3⟩
    all_goals first
     |(obtain⟨es,h7,h8⟩:=hob;rw[h7];exact⟨es,rfl,h8⟩)
     |(obtain⟨z,ks,vs,h7,h8⟩:=hob;rw[h7];exact⟨z,ks,vs,rfl,h8⟩)
     |(unfold RO at hob;rw[hob];rfl)
def CT(id:Nat)(Γ:TC)(ρ:HS Γ)(Γc:TC)(ρc:HS Γc):Prop:=∀p q,get Γc p=some q→(∃j,p=.c id j)∨∃f,get Γ p=some ⟨q.1,f⟩∧q.2 ρc=f ρ
theorem CT.refl(id:Nat):CT id Γ ρ Γ ρ:=fun p q h=>.inr ⟨q.2,h,rfl⟩
theorem Rep.newObj{Γc:TC}{ρc:HS Γc}{d:Nat}{k ko:EK}{x:DK k}{y:DK ko}{v:SV}{o:Ob}(h:Rep Γ ρ st)(hx:CT d Γ ρ Γc ρc)(ho:RO Γc ρc d ko y o)(hs:RS k x v):
  Rep ((.s d,k)::(.o d,ko)::Γc) (x,y,ρc) {fr:=upd st.fr d v,ob:=upd st.ob d o}:=by
 have down:∀p q,p≠ .s d→p≠ .o d→get ((.s d,k)::(.o d,ko)::Γc) p=some q→∃f,get Γc p=some ⟨q.1,f⟩∧q.2 (x,y,ρc)=f ρc:=by
  intro p q h1 h2 hq;obtain⟨f,hf,e⟩:=BP (Ne.symm h1) hq;obtain⟨g,hg,e2⟩:=BP (Ne.symm h2) hf;exact⟨g,hg,(e _).trans (e2 _)⟩
 refine⟨fun i q hq=> ?_,fun id q hq=> ?_⟩
 ·by_cases hi:i=d
  ·subst hi;rw[Ct]at hq;cases hq;simpa[upd]using hs
  ·obtain⟨f,hf,e⟩:=down _ q (by simpa using hi) (by simp) hq;rcases hx _ _ hf with⟨j,hj⟩|⟨g,hg,e2⟩
   ·cases hj
   ·have:=h.s i _ hg;simp only at e2;rw[e];simp only[upd,hi,if_false];rw[e2];exact this
 ·by_cases hi:id=d
  ·subst hi;obtain⟨f,hf,e⟩:=BP (by simp) hq;rw[Ct]at hf;obtain⟨kq,fq⟩:=q;simp only[Ac,Sigma.mk.injEq]at hf;obtain⟨rfl,hf⟩:=hf;cases eq_of_heq hf;have e':=e (x,y,ρc);simp only at e';simp only[upd,if_true];rw[e'];exact RO.congr ho fun j q' hq'=>down _ q' (by simp) (by simp) hq'
  ·obtain⟨f,hf,e⟩:=down _ q (by simp) (by simpa using hi) hq;rcases hx _ _ hf with⟨j,hj⟩|⟨g,hg,e2⟩
   ·cases hj
   ·have:=h.o id _ hg;simp only at e2;rw[e];simp only[upd,hi,if_false];rw[e2];refine RO.congr this fun j q' hq'=> ?_;obtain⟨f',hf',e'⟩:=down _ q' (by simp) (by simp) hq';rcases hx _ _ hf' with⟨j',hj'⟩|⟨g',hg',e2'⟩
    ·cases hj';exact absurd rfl hi
    ·exact⟨g',hg',e'.trans e2'⟩
theorem Rep.turnObj{id:Nat}{k:EK}{y:DK k}{o:Ob}(h:Rep Γ ρ st)(ho:RO Γ ρ id k y o):Rep ((.o id,k)::Γ) (y,ρ) {st with ob:=upd st.ob id o}:=by
 have down:∀p q,p≠ .o id→get ((.o id,k)::Γ) p=some q→∃f,get Γ p=some ⟨q.1,f⟩∧q.2 (y,ρ)=f ρ:=by
  intro p q h1 hq;obtain⟨f,hf,e⟩:=BP (Ne.symm h1) hq;exact⟨f,hf,e _⟩
 refine⟨fun i q hq=> ?_,fun id' q hq=> ?_⟩
 ·obtain⟨f,hf,e⟩:=down _ q (by simp) hq;rw[e];exact h.s i _ hf
 ·by_cases hi:id'=id
  ·subst hi;rw[Ct]at hq;cases hq;simp only[upd,if_true];exact RO.congr ho fun j q' hq'=>down _ q' (by simp) hq'
  ·obtain⟨f,hf,e⟩:=down _ q (by simpa using hi) hq;have:=h.o id' _ hf;rw[e];simp only[upd,hi,if_false];exact RO.congr this fun j q' hq'=>down _ q' (by simp) hq'
theorem Rep.turnCells{Γc:TC}{ρc:HS Γc}{id n:Nat}{f:HS Γ→DK (.box n)}{cs:List SV}(h:Rep Γ ρ st)(hx:CT id Γ ρ Γc ρc)(hg:get Γ (.o id)=some ⟨.box n,f⟩)(hl:cs.length=n)
  (hc:∀j q,j<n→get Γc (.c id j)=some q→∃sv,cs[j]? =some sv∧RS q.1 (q.2 ρc) sv):Rep Γc ρc {st with ob:=upd st.ob id (.box cs)}:=by
 refine⟨fun i q hq=> ?_,fun id' q hq=> ?_⟩
 ·rcases hx _ _ hq with⟨j,hj⟩|⟨g,hg',e2⟩
  ·cases hj
  ·rw[e2];exact h.s i _ hg'
 ·rcases hx _ _ hq with⟨j,hj⟩|⟨g,hg',e2⟩
  ·cases hj
  ·by_cases hi:id'=id
   ·subst hi;rw[hg]at hg';simp only[upd,if_true];obtain⟨k,f'⟩:=q;simp only[Ac,Sigma.mk.injEq]at hg';obtain⟨rfl,_⟩:=hg';exact⟨cs,rfl,hl,hc⟩
   ·have:=h.o id' _ hg';rw[e2];simp only[upd,hi,if_false];refine RO.congr this fun j q' hq'=> ?_;rcases hx _ _ hq' with⟨j',hj'⟩|⟨g',hg2,e3⟩
    ·cases hj';exact absurd rfl hi
    ·exact⟨g',hg2,e3⟩
end
def Eb:Ty→Bool
 | .agg _| .tup _| .nil| .one _| .cons _ _| .nw _ _ _=>false
 | .falt _ _ l=>l.isFn
 |_=>true
theorem Fq{t:Ty}{x:D t}{c:CV}(ho:Eb t=true)(h:Can t x [c]):Cv c=true:=by
 cases t<;>simp only[Eb,Ag]at ho<;>unfold Can at h
 case clo=>obtain⟨l,e,_⟩:=h;cases e;rfl
 case falt f r l=>
  obtain⟨c',e,_,hc'⟩:=Ju (t:=.falt f r l) ho (by unfold Can;exact h);cases e;cases c<;>first|rfl|(exact absurd rfl (hc' _).1)|(exact absurd rfl (hc' _).2)
 case sl=>obtain⟨_,_,e,_⟩:=h;cases e;rfl
 case map=>obtain⟨_,_,_,e,_⟩:=h;cases e;rfl
 case err=>cases x<;>(cases h;rfl)
 case pt=>obtain⟨l,e,_⟩:=h;cases e;rfl
 case bptr=>rcases h with e|e|e<;>(cases e;rfl)
 all_goals(cases h;rfl)
def Fp:Ty→Bool
 | .nil=>true
 | .one t=>Eb t
 | .cons t r=>Eb t&&Fp r
 |_=>false
theorem My:∀{r:Ty} {x:D r} {l:List CV},Fp r=true→Can r x l→l.all Cv=true:=by
 intro r
 induction r with
 |nil=>intro x l _ h;unfold Can at h;subst h;rfl
 |one t _=>intro x l ho h;unfold Can at h;obtain⟨c,rfl,h⟩:=h;simp[Fq ho h]
 |cons t r _ ihr=>
  intro x l ho h;simp only[Fp,Af]at ho;unfold Can at h;obtain⟨c,l',rfl,h1,h2⟩:=h;simp only[List.all_cons,Af];exact⟨Fq ho.1 h1,ihr ho.2 h2⟩
 |_=>intro x l ho;cases ho
def EF(id:Nat):(off:Nat)→(r:Ty)→(Γ:TC)→Option (Σ Γ':TC,HS Γ→D r→HS Γ')
 |_,.nil,Γ=>some ⟨Γ,fun ρ _=>ρ⟩
 |off,.one t,Γ=>some ⟨(.c id off,.v t)::Γ,fun ρ x=>(x,ρ)⟩
 |off,.cons t r,Γ=>match EF id (off+1) r Γ with
  |some p=>some ⟨(.c id off,.v t)::p.1,fun ρ x=>(x.1,p.2 ρ x.2)⟩
  |none=>none
 |_,_,_=>none
theorem Kd{id:Nat}:∀{r:Ty} {off:Nat} {Γ:TC} {p:Σ Γ':TC,HS Γ→D r→HS Γ'} {ρ:HS Γ} {x:D r} {l:List CV},EF id off r Γ=some p→Can r x l→
  CT id Γ ρ p.1 (p.2 ρ x)∧∀j q,get p.1 (.c id j)=some q→(off≤j∧∃c,l[j-off]? =some c∧RS q.1 (q.2 (p.2 ρ x)) (.c c))∨((j<off∨off+l.length≤j)∧∃f,get Γ (.c id j)=some ⟨q.1,f⟩∧q.2 (p.2 ρ x)=f ρ):=by
 intro r
 induction r with
 |nil=>
  intro off Γ p ρ x l h hc;simp only[EF,Ac]at h;subst h;unfold Can at hc;subst hc;refine⟨CT.refl id,fun j q hq=>.inr ⟨by simp;omega,q.2,hq,rfl⟩⟩
 |one t _=>
  intro off Γ p ρ x l h hc;simp only[EF,Ac]at h;subst h;unfold Can at hc;obtain⟨c,rfl,hc⟩:=hc;refine⟨fun p q hq=> ?_,fun j q hq=> ?_⟩
  ·by_cases hp:Key.c id off=p
   ·exact .inl ⟨off,hp.symm⟩
   ·obtain⟨f,hf,e⟩:=BP hp hq;exact .inr ⟨f,hf,e _⟩
  ·by_cases hj:j=off
   ·subst hj;rw[Ct]at hq;cases hq;exact .inl ⟨Nat.le_refl _,c,by simp,c,rfl,hc⟩
   ·obtain⟨f,hf,e⟩:=BP (by simpa using Ne.symm hj) hq;exact .inr ⟨by simp;omega,f,hf,e _⟩
 |cons t r _ ihr=>
  intro off Γ p ρ x l h hc;simp only[EF]at h;split at h<;>(try cases h;done);rename_i p' hp';cases h;unfold Can at hc;obtain⟨c,l',rfl,h1,h2⟩:=hc;obtain⟨g1,g2⟩:=ihr (ρ:=ρ) hp' h2;refine⟨fun p q hq=> ?_,fun j q hq=> ?_⟩
  ·by_cases hp:Key.c id off=p
   ·exact .inl ⟨off,hp.symm⟩
   ·obtain⟨f,hf,e⟩:=BP hp hq;rcases g1 _ _ hf with hh|⟨f',hf',e'⟩
    ·exact .inl hh
    ·exact .inr ⟨f',hf',(e _).trans e'⟩
  ·by_cases hj:j=off
   ·subst hj;rw[Ct]at hq;cases hq;exact .inl ⟨Nat.le_refl _,c,by simp,c,rfl,h1⟩
   ·obtain⟨f,hf,e⟩:=BP (by simpa using Ne.symm hj) hq;rcases g2 j _ hf with⟨k1,c',k2,k3⟩|⟨k1,f',k2,k3⟩
    ·refine .inl ⟨by omega,c', ?_,(e _)▸k3⟩;have:j-off=(j-(off+1))+1:=by omega
     rw[this];simpa using k2
    ·exact .inr ⟨by simp;omega,f',k2,(e _).trans k3⟩
 |_=>intro off Γ p ρ x l h;cases h
def FJ:(k k':EK)→Option (DK k→DK k')
 | .v t,.v t'=>Bb t t'
 |k,k'=>if h:k=k' then some fun x=>h▸x else none
theorem NX{k k':EK}{f:DK k→DK k'}(h:(if h:k=k' then some (fun x=>h▸x:DK k→DK k')else none)=some f):∃e:k=k',∀x,f x=e▸x:=by
 split at h<;>(try cases h;done);rename_i e;subst e;cases h;exact⟨rfl,fun _=>rfl⟩
theorem NY{k k':EK}{f:DK k→DK k'}(h:FJ k k'=some f){x:DK k}{sv:SV}(hs:RS k x sv):RS k' (f x) sv:=by
 unfold FJ at h;split at h
 ·obtain⟨c,e,hc⟩:=hs;exact⟨c,e,BV _ _ h hc⟩
 ·obtain⟨e,hf⟩:=NX h;subst e;rw[hf];exact hs
theorem RX{k k':EK}{f:DK k→DK k'}(h:FJ k k'=some f){Γ Γ':TC}{ρ:HS Γ}{ρ':HS Γ'}{id:Nat}{x:DK k}{ob:Ob}(ho:RO Γ ρ id k x ob)
  (hc:∀j q,get Γ' (.c id j)=some q→∃p g,get Γ (.c id j)=some p∧FJ p.1 q.1=some g∧q.2 ρ'=g (p.2 ρ)):RO Γ' ρ' id k' (f x) ob:=by
 unfold FJ at h;split at h
 ·exact ho.elim
 ·obtain⟨e,hf⟩:=NX h;subst e;rw[hf];cases k<;>try exact ho
  obtain⟨cs,e,hl,hh⟩:=ho;refine⟨cs,e,hl,fun j q hj hq=> ?_⟩;obtain⟨p,g,h1,h2,h3⟩:=hc j q hq;obtain⟨sv,h4,h5⟩:=hh j p hj h1;exact⟨sv,h4,h3▸NY h2 h5⟩
def Cm(Γ:TC):(Γ':TC)→Option (HS Γ→HS Γ')
 | []=>some fun _=>()
 |e::Γ'=>match get Γ e.1,Cm Γ Γ' with
  |some q,some f=>match FJ q.1 e.2 with
   |some g=>some fun ρ=>(g (q.2 ρ),f ρ)
   |none=>none
  |_,_=>none
theorem IW{Γ:TC}{ρ:HS Γ}:∀{Γ':TC} {f:HS Γ→HS Γ'},Cm Γ Γ'=some f→∀p q,get Γ' p=some q→∃r g,get Γ p=some r∧FJ r.1 q.1=some g∧q.2 (f ρ)=g (r.2 ρ)
 | [],f,h,p,q,hq=>by cases hq
 |e::Γ',f,h,p,q,hq=>by
  simp only[Cm]at h;split at h<;>(try cases h;done);rename_i r f' hr hf';split at h<;>(try cases h;done);rename_i g hg;cases h;obtain⟨key,k⟩:=e;by_cases hk:key=p
  ·subst hk;rw[Ct]at hq;cases hq;exact⟨r,g,hr,hg,rfl⟩
  ·obtain⟨f2,h2,h3⟩:=BP hk hq;obtain⟨r2,g2,h4,h5,h6⟩:=IW (ρ:=ρ) hf' p _ h2;exact⟨r2,g2,h4,h5,(h3 _).trans h6⟩
theorem D3{Γ Γ':TC}{ρ:HS Γ}{st:St}{f:HS Γ→HS Γ'}(h:Cm Γ Γ'=some f)(hr:Rep Γ ρ st):Rep Γ' (f ρ) st:=by
 refine⟨fun i q hq=> ?_,fun id q hq=> ?_⟩
 ·obtain⟨r,g,h1,h2,h3⟩:=IW (ρ:=ρ) h _ q hq;rw[h3];exact NY h2 (hr.s i r h1)
 ·obtain⟨r,g,h1,h2,h3⟩:=IW (ρ:=ρ) h _ q hq;rw[h3];exact RX h2 (hr.o id r h1) fun j q' hq'=>IW (ρ:=ρ) h _ q' hq'
def Ce:(Θ:TC)→{Γ:TC}→HS Θ→HS Γ→HS (Θ++Γ)
 | [],_,_,ρ=>ρ
 |_::Θ,_,θ,ρ=>(θ.1,Ce Θ θ.2 ρ)
theorem Dp{Γ:TC}:∀{Θ:TC} {p:Key} {q:Σ k:EK,HS (Θ++Γ)→DK k},get (Θ++Γ) p=some q→
  (p∈Θ.map (·.1)∧∃f,get Θ p=some ⟨q.1,f⟩∧∀θ ρ,q.2 (Ce Θ θ ρ)=f θ)∨(p∉Θ.map (·.1)∧∃f,get Γ p=some ⟨q.1,f⟩∧∀θ ρ,q.2 (Ce Θ θ ρ)=f ρ)
 | [],p,q,h=>.inr ⟨by simp,q.2,h,fun _ _=>rfl⟩
 |(k0,e0)::Θ,p,q,h=>by
  by_cases hk:k0=p
  ·subst hk;change get ((k0,e0)::(Θ++Γ)) k0=some q at h;rw[Ct]at h;cases h;exact .inl ⟨by simp,_,Ct Θ k0 e0,fun _ _=>rfl⟩
  ·obtain⟨f,hf,hx⟩:=BP (Γ:=Θ++Γ) hk h;rcases Dp hf with⟨h1,g,hg,e⟩|⟨h1,g,hg,e⟩
   ·refine .inl ⟨by simp[h1],fun θ=>g θ.2, ?_,fun θ ρ=>(hx _).trans (e θ.2 ρ)⟩;unfold get;rw[if_neg hk,hg]
   ·exact .inr ⟨by simp[h1,Ne.symm hk],g,hg,fun θ ρ=>(hx _).trans (e θ.2 ρ)⟩
def A2:TC→List Nat
 | []=> []
 |(.o id,_)::Θ=>id::A2 Θ
 |_::Θ=>A2 Θ
theorem Fo:∀{Θ:TC} {id:Nat},id∈A2 Θ↔Key.o id∈Θ.map (·.1)
 | [],id=>by simp[A2]
 |(.o i,k)::Θ,id=>by simp[A2,Fo (Θ:=Θ)]
 |(.s i,k)::Θ,id=>by simp[A2,Fo (Θ:=Θ)]
 |(.c i j,k)::Θ,id=>by simp[A2,Fo (Θ:=Θ)]
def Ty.names(T:Nat→Bool):Ty→Bool
 | .nam M| .bptr M=>T M
 | .agg r| .tup r| .pt r| .clo _ r| .sl r| .one r=>r.names T
 | .falt _ r l=>r.names T&&l.names T
 | .map k v=>k.names T&&v.names T
 | .cons t r=>t.names T&&r.names T
 | .nw _ _ t=>t.names T
 |_=>true
def okC(T:Nat→Bool)(Θ:TC):EK→Bool
 | .v t=>t.val&&t.ok&&t.names T
 | .own K=>T K&&(match BH Θ (.o K)with
  |some (.arr _ _ _)|some (.buf _)=>true
  |_=>false)
 |_=>false
def okE(T:Nat→Bool)(Θ:TC):Key×EK→Bool
 |(.o id,.box n)=>T id&&(List.range n).all fun j=>match BH Θ (.c id j)with
  |some k=>okC T Θ k
  |none=>false
 |(.o id,.arr _ _ t)=>T id&&t.val&&t.ok&&t.names T
 |(.o id,.buf _)=>T id
 |(.c id j,_)=>match BH Θ (.o id)with
  |some (.box n)=>Nat.blt j n
  |_=>false
 |_=>false
def J0:TC→Bool
 | []=>true
 |e::Θ=> !(Θ.map (·.1)).contains e.1&&J0 Θ
def okΘ(Θ:TC):Bool:=J0 Θ&&Θ.all (okE (A2 Θ).contains Θ)
theorem Nm:∀{Θ:TC} {θ θ':HS Θ},J0 Θ=true→(∀p k (f:HS Θ→DK k),get Θ p=some ⟨k,f⟩→f θ=f θ')→θ=θ'
 | [],_,_,_,_=>rfl
 |(p,k)::Θ,θ,θ',hk,h=>by
  simp only[J0,Af,Bool.not_eq_true']at hk;have h1:θ.1=θ'.1:=h p k (fun ρ=>ρ.1) (Ct Θ p k)
  have h2:θ.2=θ'.2:=Nm (Θ:=Θ) hk.2 fun p' k' f hf=>by
   have hne:p≠p':=fun e=>by
    have:=E7 (Bx hf);rw[←e]at this;have h3:=hk.1;simp only[List.contains_eq_mem,decide_eq_false_iff_not]at h3;exact h3 this
   exact h p' k' (fun ρ=>f ρ.2) (by unfold get;rw[if_neg hne,hf])
  exact Prod.ext h1 h2
theorem BW{Θ:TC}{pr:Key×EK→Bool}(h:Θ.all pr=true){p:Key}{k:EK}(hk:BH Θ p=some k):pr (p,k)=true:=by
 induction Θ with
 |nil=>cases hk
 |cons e Θ ih=>
  simp only[List.all_cons,Af]at h;unfold BH at hk;split at hk
  ·rename_i he;cases hk;rw[←he];exact h.1
  ·exact ih h.2 hk
theorem Rep.uniq{Θ:TC}{θ θ':HS Θ}{st st':St}(ho:okΘ Θ=true)(hob:st.ob=st'.ob)(h:Rep Θ θ st)(h':Rep Θ θ' st'):θ=θ':=by
 simp only[okΘ,Af]at ho;refine Nm ho.1 fun p k f hg=> ?_;have hok:=BW ho.2 (Bx hg)
 cases p with
 |s i=>cases k<;>cases hok
 |o id=>
  have r:=h.o id _ hg;have r':=h'.o id _ hg;rw[←hob]at r';cases k<;>(try cases hok;done)
  case box n=>rfl
  case arr e size t=>
   obtain⟨es,e1,c1⟩:=r;obtain⟨es',e2,c2⟩:=r';rw[e1]at e2;cases e2;exact Ap.uniq (R:=fun x c=>Can t x [c]) (fun a a' b h k=>Can.uniq t h k) c1 c2
  case buf e=>
   have r1:st.ob id=.buf e (f θ):=r;have r2:st.ob id=.buf e (f θ'):=r';rw[r1]at r2;exact(Ob.buf.inj r2).2
 |c id j=>
  have hok':(match BH Θ (.o id)with
   |some (.box n)=>Nat.blt j n
   |_=>false)=true:=hok
  split at hok'<;>(try cases hok';done);rename_i n hn;have hj:j<n:=Nat.lt_of_succ_le (Ah hok');obtain⟨fo,hfo⟩:=LD hn;obtain⟨cs,e1,_,c1⟩:=h.o id _ hfo;obtain⟨cs',e2,_,c2⟩:=h'.o id _ hfo;rw[←hob,e1]at e2;cases e2;obtain⟨sv,g1,g2⟩:=c1 j _ hj hg;obtain⟨sv',g3,g4⟩:=c2 j _ hj hg;rw[g1]at g3;cases g3;have hbox:=BW ho.2 hn;simp only[okE,Af,List.all_eq_true,List.mem_range]at hbox;have hc:=hbox.2 j hj;rw[Bx hg]at hc;cases k<;>(try cases hc;done)
  case v t=>
   obtain⟨c,d1,d2⟩:=g2;obtain⟨c',d3,d4⟩:=g4;rw[d1]at d3;cases d3;exact Can.uniq t d2 d4
  case own K=>rfl
def Lu(Θ:TC)(θ:HS Θ)(id j:Nat):SV:=
 match get Θ (.c id j)with
 |some ⟨.v t,f⟩=>.c (enc t (f θ))
 |some ⟨.own K,_⟩=>.osl K
 |_=>.undef
def D9(Θ:TC)(θ:HS Θ)(id:Nat):Ob:=
 match get Θ (.o id)with
 |some ⟨.box n,_⟩=>.box ((List.range n).map (Lu Θ θ id))
 |some ⟨.arr e size t,f⟩=>.arr e size ((f θ).map (enc t))
 |some ⟨.buf e,f⟩=>.buf e (f θ)
 |_=>.none
theorem Oq{t:Ty}(hv:t.val=true)(ho:t.ok=true):∀(ys:List (D t)),Ap (fun x c=>Can t x [c]) ys (ys.map (enc t))
 | []=>rfl
 |y::ys=>⟨_,_,rfl,Can.enc y hv ho,Oq hv ho ys⟩
theorem SM{Θ:TC}(ho:okΘ Θ=true)(θ:HS Θ)(fr:Nat→SV):Rep Θ θ {fr:=fr,ob:=D9 Θ θ}:=by
 simp only[okΘ,Af]at ho;refine⟨fun i q hq=> ?_,fun id q hq=> ?_⟩
 ·have:=BW ho.2 (Bx hq);obtain⟨k,f⟩:=q;cases k<;>cases this
 ·have hok:=BW ho.2 (Bx hq);obtain⟨k,f⟩:=q;show RO Θ θ id k (f θ) (D9 Θ θ id);unfold D9;rw[hq];cases k<;>(try cases hok;done)
  case box n=>
   refine⟨_,rfl,by simp,fun j q' hj hq'=> ?_⟩;simp only[okE,Af,List.all_eq_true,List.mem_range]at hok;have hc:=hok.2 j hj;rw[Bx hq']at hc;refine⟨Lu Θ θ id j,by simp[hj], ?_⟩;unfold Lu;rw[hq'];obtain⟨k',f'⟩:=q';cases k'<;>(try cases hc;done)
   case v t=>
    simp only[okC,Af]at hc;exact⟨_,rfl,Can.enc _ hc.1.1 hc.1.2⟩
   case own K=>rfl
  case arr e size t=>
   simp only[okE,Af]at hok;exact⟨_,rfl,Oq hok.1.1.2 hok.1.2 _⟩
  case buf e=>rfl
theorem Rep.turned{Γ Θ:TC}{ρ:HS Γ}{θ:HS Θ}{st:St}{H':Nat→Ob}{fr:Nat→SV}(ho:okΘ Θ=true)(h:Rep Γ ρ st)(hΘ:Rep Θ θ {fr:=fr,ob:=H'}):Rep (Θ++Bu (A2 Θ) Γ) (Ce Θ θ (B7 (A2 Θ) ρ)) (BY (A2 Θ) H' st):=by
 simp only[okΘ,Af]at ho;have hk:=h.kill (A2 Θ);refine⟨fun i q hq=> ?_,fun id q hq=> ?_⟩
 ·rcases Dp hq with⟨h1,f,hf,_⟩|⟨_,f,hf,e⟩
  ·have:=BW ho.2 (Bx hf);obtain⟨k,fq⟩:=q;cases k<;>cases this
  ·rw[e];exact hk.s i _ hf
 ·rcases Dp hq with⟨h1,f,hf,e⟩|⟨h1,f,hf,e⟩
  ·have hid:(A2 Θ).contains id=true:=by simpa using Fo.2 h1
   have r:=hΘ.o id _ hf;have hok:=BW ho.2 (Bx hf);rw[e];show RO _ _ id q.1 (f θ) (if(A2 Θ).contains id=true then H' id else _);rw[if_pos hid];obtain⟨k,fq⟩:=q;cases k<;>(try cases hok;done)
   case box n=>
    obtain⟨cs,e1,hl,hc⟩:=r;refine⟨cs,e1,hl,fun j q' hj hq'=> ?_⟩;simp only[okE,Af,List.all_eq_true,List.mem_range]at hok;have hcj:=hok.2 j hj
    cases hkc:BH Θ (.c id j)with
    |none=>rw[hkc]at hcj;cases hcj
    |some kc=>
     rcases Dp hq' with⟨_,f',hf',e'⟩|⟨h1',_⟩
     ·rw[e'];exact hc j _ hj hf'
     ·exact absurd (E7 hkc) h1'
   all_goals exact r
  ·have hid:¬(A2 Θ).contains id=true:=fun hh=>h1 (Fo.1 (by simpa using hh));have r:=hk.o id _ hf;have hob:(WB.kill (A2 Θ) st).ob id=BX (A2 Θ) (st.ob id):=by show(if _ then _ else _)=_;rw[if_neg hid]
   rw[hob]at r;rw[e];show RO _ _ id q.1 (f _) (if(A2 Θ).contains id=true then H' id else BX (A2 Θ) (st.ob id));rw[if_neg hid];refine RO.congr r fun j q' hq'=> ?_;rcases Dp hq' with⟨h1',f',hf',_⟩|⟨_,f',hf',e'⟩
   ·exfalso;have hok:=BW ho.2 (Bx hf')
    have hok':(match BH Θ (.o id)with
     |some (.box n)=>Nat.blt j n
     |_=>false)=true:=hok
    split at hok'<;>(try cases hok';done);rename_i n hn;exact hid (by simpa using Fo.2 (E7 hn))
   ·exact⟨f',hf',e' _ _⟩
theorem Rep.unturned{Γ Θ:TC}{ρ:HS Γ}{θ:HS Θ}{st:St}(ho:okΘ Θ=true)(h:Rep Γ ρ st)(hΘ:Rep Θ θ st):Rep (Θ++Bu (A2 Θ) Γ) (Ce Θ θ (B7 (A2 Θ) ρ)) st:=by
 simp only[okΘ,Af]at ho
 have down:∀p q,p∉Θ.map (·.1)→get (Bu (A2 Θ) Γ) p=some q→q.1=.undef∨∃f,get Γ p=some ⟨q.1,f⟩∧q.2 (B7 (A2 Θ) ρ)=f ρ:=by
  intro p q hp hq;rcases G6 (shP (FM Γ (A2 Θ)) ρ) hq with⟨d,hd,h1,_⟩|⟨_,f,hf,e⟩
  ·exact absurd (h1▸Fo.1 hd) hp
  ·rcases G7 ρ hf with⟨_,h2⟩|⟨_,g,hg,e2⟩
   ·exact .inl h2
   ·exact .inr ⟨g,hg,e.trans e2⟩
 refine⟨fun i q hq=> ?_,fun id q hq=> ?_⟩
 ·rcases Dp hq with⟨h1,f,hf,e⟩|⟨h1,f,hf,e⟩
  ·rw[e];exact hΘ.s i _ hf
  ·rcases down _ _ h1 hf with h2|⟨g,hg,e2⟩
   ·obtain⟨k,fq⟩:=q;simp only at h2;subst h2
    trivial
   ·have e3:=(e θ (B7 (A2 Θ) ρ)).trans e2;rw[e3];exact h.s i _ hg
 ·rcases Dp hq with⟨h1,f,hf,e⟩|⟨h1,f,hf,e⟩
  ·have r:=hΘ.o id _ hf;have hok:=BW ho.2 (Bx hf);rw[e];obtain⟨k,fq⟩:=q;cases k<;>(try cases hok;done)
   case box n=>
    obtain⟨cs,e1,hl,hc⟩:=r;refine⟨cs,e1,hl,fun j q' hj hq'=> ?_⟩;simp only[okE,Af,List.all_eq_true,List.mem_range]at hok;have hcj:=hok.2 j hj
    cases hkc:BH Θ (.c id j)with
    |none=>rw[hkc]at hcj;cases hcj
    |some kc=>
     rcases Dp hq' with⟨_,f',hf',e'⟩|⟨h1',_⟩
     ·rw[e'];exact hc j _ hj hf'
     ·exact absurd (E7 hkc) h1'
   all_goals exact r
  ·rcases down _ _ h1 hf with h2|⟨g,hg,e2⟩
   ·obtain⟨k,fq⟩:=q;simp only at h2;subst h2
    trivial
   ·have r:=h.o id _ hg;have e3:=(e θ (B7 (A2 Θ) ρ)).trans e2;rw[e3];obtain⟨k,fq⟩:=q;cases k<;>try exact r
    obtain⟨cs,q1,q2,q3⟩:=r;refine⟨cs,q1,q2,fun j q' hj hq'=> ?_⟩;rcases Dp hq' with⟨h1',f',hf',_⟩|⟨h1',f',hf',e'⟩
    ·exfalso;have hok:=BW ho.2 (Bx hf')
     have hok':(match BH Θ (.o id)with
      |some (.box n)=>Nat.blt j n
      |_=>false)=true:=hok
     split at hok'<;>(try cases hok';done);rename_i n' hn;exact h1 (E7 hn)
    ·rcases down _ _ h1' hf' with h2|⟨g',hg',e2'⟩
     ·obtain⟨k',fq'⟩:=q';simp only at h2;subst h2;have:j<cs.length:=by omega
      exact⟨cs[j],by simp[this],trivial⟩
     ·obtain⟨sv,q4,q5⟩:=q3 j _ hj hg';have e3':=(e' θ (B7 (A2 Θ) ρ)).trans e2';rw[e3'];exact⟨sv,q4,q5⟩
structure Sig where
 a:Ty
 r:Ty
 fn:D a→Option (D r)
structure BJ where
 Θ:TC
 a:Ty
 r:Ty
 fn:D a→HS Θ→Option (D r×HS Θ)
def E9:Option TC→DM
 |none=>.no
 |some Θ=>⟨fun N=>(A2 Θ).contains N=true,fun N=>(A2 Θ).contains N=true⟩
def J7:Option TC→Nat→Bool
 |none,_=>false
 |some Θ,id=>(A2 Θ).contains id
theorem TV{o:Option TC}{id:Nat}(h:J7 o id=false):¬(E9 o).I id:=by
 cases o with
 |none=>exact fun h=>h
 |some Θ=>intro h2;have h1:(A2 Θ).contains id=false:=h;have h3:(A2 Θ).contains id=true:=h2;rw[h1]at h3;cases h3
structure TP where
 G:Nat→List CV
 T:FuncId→Option Sig
 TT:Nat→Option Ty
 TM:Nat→Option (Ty×Ty)
 cp:FuncId→Bool:=fun _=>false
 TN:FuncId→Option Sig:=fun _=>none
 TE:FuncId→Option BJ:=fun _=>none
 Θ:Option TC:=none
structure TOk (X:TP) (E:Env):Prop where
 G:E.G=X.G
 cp:E.cp=X.cp
 fn:∀f s,X.T f=some s→s.r.val=true∧s.r.ok=true∧∀x l y,Can s.a x l→s.fn x=some y→E.fn f l=some (.val (enc s.r y))
 ef:∀f,(X.T f).isSome=true∨(X.TN f).isSome=true→E.ef f=none
 nw:∀f a e size t fn,X.TN f=some ⟨a,.nw e size t,fn⟩→t.val=true∧∀x l ys,Can a x l→fn x=some ys→∃es,E.fn f l=some (.new (.arr e size es))∧Ap (fun x c=>Can t x [c]) ys es
def BK(X:TP)(E:Env):Prop:=∀f s,X.TE f=some s→(s.r.val=true∧((A2 s.Θ).all fun N=>Nat.ble As N)=true)∧s.r.ok=true∧∃e,E.ef f=some e∧e.T=A2 s.Θ∧
 ∀x l θ H y θ',Can s.a x l→Rep s.Θ θ {fr:=fun _=>.undef,ob:=H}→s.fn x θ=some (y,θ')→e.fn l H=some (enc s.r y,D9 s.Θ θ')
def TP.noE(X:TP):TP:={X with TE:=fun _=>none}
theorem TOk.noE{X:TP}{E:Env}(h:TOk X E):TOk X.noE E:=⟨h.G,h.cp,h.fn,h.ef,h.nw⟩
theorem BK.noE(X:TP)(E:Env):BK X.noE E:=fun _ _ h=>by cases h
theorem TOk.named{X:TP}{E:Env}(h:TOk X E):TOk X E.named:=⟨h.G,h.cp,fun f s hs=>by
 obtain⟨h1,h2,h3⟩:=h.fn f s hs;refine⟨h1,h2,fun x l y hx hy=> ?_⟩
 show(match E.fn f l with
  |some (Res.new o)=>if Dq o=true then some (Res.new o)else none
  |r=>r)=_
 rw[h3 x l y hx hy],fun f hf=>by
 show(match E.ef f with
  |some e=>if(e.T.all fun N=>Nat.ble As N)=true then some e else none
  |none=>none)=none
 rw[h.ef f hf],fun f a e size t fn hs=>by
 obtain⟨h1,h2⟩:=h.nw f a e size t fn hs;refine⟨h1,fun x l ys hx hy=> ?_⟩;obtain⟨es,h3,h4⟩:=h2 x l ys hx hy;refine⟨es, ?_,h4⟩
 show(match E.fn f l with
  |some (Res.new o)=>if Dq o=true then some (Res.new o)else none
  |r=>r)=_
 rw[h3]
 rfl⟩
theorem BK.named{X:TP}{E:Env}(h:BK X E):BK X E.named:=fun f s hs=>by
 obtain⟨h1,h2,e,h3,h4,h5⟩:=h f s hs;refine⟨h1,h2,e, ?_,h4,h5⟩
 show(match E.ef f with
  |some e=>if(e.T.all fun N=>Nat.ble As N)=true then some e else none
  |none=>none)=_
 rw[h3];simp only;rw[h4,if_pos h1.2]
def Env.pois(E:Env):Env:={E with ef:=fun f=>(E.ef f).map fun e=>⟨e.T,fun _ _=>none⟩}
theorem TOk.pois{X:TP}{E:Env}(h:TOk X E):TOk X E.pois:=⟨h.G,h.cp,h.fn,fun f hf=>by
 show(E.ef f).map _=none
 rw[h.ef f hf];rfl,h.nw⟩
theorem TOk.at{X:TP}{E:Env}(h:TOk X E)(D:Option (List Nat)):TOk X (E.at D):=⟨by rw[EU];exact h.G,by rw[Rw];exact h.cp,by rw[ND];exact h.fn,fun f hf=>Rx (h.ef f hf),by rw[ND];exact h.nw⟩
def mlT:Ty→Bool
 | .int _| .bool| .str=>true
 | .agg r| .tup r=>mlT r
 | .nil=>true
 | .one t=>mlT t
 | .cons t r=>mlT t&&mlT r
 |_=>false
theorem Pr:∀{t:Ty} {x:D t} {cs:List CV},mlT t=true→Can t x cs→BR cs=true:=by
 intro t
 induction t with
 |int k=>intro x cs _ h;unfold Can at h;subst h;rfl
 |bool=>intro x cs _ h;unfold Can at h;subst h;rfl
 |str=>intro x cs _ h;unfold Can at h;subst h;rfl
 |nil=>intro x cs _ h;unfold Can at h;subst h;rfl
 |agg r ih=>intro x cs hm h;unfold Can at h;obtain⟨l,rfl,h⟩:=h;simp[BR,memless,ih hm h]
 |tup r ih=>intro x cs hm h;unfold Can at h;obtain⟨l,rfl,h⟩:=h;simp[BR,memless,ih hm h]
 |one t ih=>intro x cs hm h;unfold Can at h;obtain⟨c,rfl,h⟩:=h;exact ih hm h
 |cons t r iht ihr=>
  intro x cs hm h;simp only[mlT,Af]at hm;unfold Can at h;obtain⟨c,l,rfl,h1,h2⟩:=h;have:=iht hm.1 h1;simp only[BR,Bool.and_true]at this;simp[BR,this,ihr hm.2 h2]
 |_=>intro x cs hm;cases hm
def Bz:(r s:Ty)→Σ q:Ty,D r→D s→D q
 | .one t,.nil=>⟨.one t,fun x _=>x⟩
 | .one t,s=>⟨.cons t s,fun x y=>(x,y)⟩
 | .cons t r,s=>⟨.cons t (Bz r s).1,fun x y=>(x.1,(Bz r s).2 x.2 y)⟩
 |_,s=>⟨s,fun _ y=>y⟩
theorem Gn:∀{r s:Ty} {n:Nat} {x:D r} {y:D s} {l m:List CV},AY r=some n→Can r x l→Can s y m→Can (Bz r s).1 ((Bz r s).2 x y) (l++m):=by
 intro r
 induction r with
 |nil=>intro s n x y l m _ h k;unfold Can at h;subst h;exact k
 |one t _=>
  intro s n x y l m _ h k;unfold Can at h;obtain⟨c,rfl,h⟩:=h;cases s
  case nil=>
   unfold Can at k;subst k;change Can (.one t) x [c];unfold Can;exact⟨c,rfl,h⟩
  all_goals
   change Can (.cons t _) (x,y) (c::m);unfold Can;exact⟨c,m,rfl,h,k⟩
 |cons t r _ ihr=>
  intro s n x y l m hn h k;simp only[AY,Aa]at hn;obtain⟨n',hn,_⟩:=hn;unfold Can at h;obtain⟨c,l',rfl,h1,h2⟩:=h;change Can (.cons t (Bz r s).1) (x.1,(Bz r s).2 x.2 y) (c::(l'++m));unfold Can;exact⟨c,l'++m,rfl,h1,ihr hn h2 k⟩
 |_=>intro s n x y l m hn;cases hn
def Ml{V:Type}(m y:List (List UInt8×V)):Option (List (List UInt8×V)):=
 if m.isEmpty=true∧(y.all fun p=>decide (p.1.length≤9223372036854775807))=true∧y.length≤9223372036854775807 then some y else none
structure OpD (Γ:TC):Type 1 where
 Γ':TC
 B:Type
 d:Dyn (HS Γ) B
 up:HS Γ→B→HS Γ'
section
variable (X:TP) (Γ:TC) (msk:List Nat)
def rdC:SO→Option (Bool×Σ t:Ty,Dyn (HS Γ) (D t))
 | .t i=>match get Γ (.s i)with
  |some ⟨.v t,f⟩=>some (true,⟨t,.tot f⟩)
  |some ⟨.opt (.v t),f⟩=>some (true,⟨t,.par f⟩)
  |some ⟨.own id,_⟩=>match Dt Γ msk id with
   |some ⟨.arr _ _ t,xs⟩=>some (false,⟨.sl t,.tot xs⟩)
   |_=>none
  |some ⟨.mp id,_⟩=>match Dt Γ msk id with
   |some ⟨.mob _ k v,xs⟩=>some (false,⟨.map k v,.tot xs⟩)
   |_=>none
  |_=>none
 | .k c=>match Bw c with
  |some q=>some (true,⟨q.1,.tot fun _=>q.2⟩)
  |none=>none
 | .g _=>none
def Ey:List SO→Option (Bool×Σ r:Ty,Dyn (HS Γ) (D r))
 | []=>some (true,⟨.nil,.tot fun _=>()⟩)
 | [x]=>match rdC Γ msk x with
  |some q=>some (q.1,⟨.one q.2.1,q.2.2⟩)
  |none=>none
 |x::y::xs=>match rdC Γ msk x,Ey (y::xs)with
  |some q,some p=>some (q.1&&p.1,⟨.cons q.2.1 p.2.1,q.2.2.both p.2.2⟩)
  |_,_=>none
def Gq(a Rt:Ty)(fl:Bool):(t:Ty)→Option (D t→D a→Option (D Rt))
 | .nfn=>some fun _ _=>none
 | .clo g r=>match X.T g with
  |some s=>match Bb (Bz a r).1 s.a,Bb s.r Rt with
   |some h,some k=>if(fl||mlT s.r)=true then some fun x y=>(s.fn (h ((Bz a r).2 y x))).map k else none
   |_,_=>none
  |none=>none
 | .falt g r l=>match X.T g with
  |some s=>match Bb (Bz a r).1 s.a,Bb s.r Rt,Gq a Rt fl l with
   |some h,some k,some F=>if(fl||mlT s.r)=true then some fun x y=>match x with
     | .inl c=>(s.fn (h ((Bz a r).2 y c))).map k
     | .inr z=>F z y
    else none
   |_,_,_=>none
  |none=>none
 |_=>none
def IO:SOp→Option (Σ k:EK,Dyn (HS Γ) (DK k))
 | .call f args=>match X.T f with
  |some s=>match Ey Γ msk args with
   |some q=>match Bb q.2.1 s.a with
    |some g=>if(q.1||mlT s.r)=true then some ⟨.v s.r,(q.2.2.map fun _ x=>g x).comp (.par s.fn)⟩else none
    |none=>none
   |none=>none
  |none=>none
 | .callv f args=>match rdV Γ f with
  |some ⟨.clo g r,d⟩=>match X.T g with
   |some s=>match Ey Γ msk args with
    |some q=>match AY q.2.1,Bb (Bz q.2.1 r).1 s.a with
     |some _,some h=>if(q.1||mlT s.r)=true then some ⟨.v s.r,((q.2.2.both d).map fun _ x=>h ((Bz q.2.1 r).2 x.1 x.2)).comp (.par s.fn)⟩else none
     |_,_=>none
    |none=>none
   |none=>none
  |some ⟨.falt g r l,d⟩=>match X.T g with
   |some s=>match Ey Γ msk args with
    |some q=>match AY q.2.1,Gq X q.2.1 s.r q.1 (.falt g r l)with
     |some _,some F=>some ⟨.v s.r,(q.2.2.both d).comp (.par fun x=>F x.2 x.1)⟩
     |_,_=>none
    |none=>none
   |none=>none
  |_=>none
 |_=>none
def HW(t:Ty):List SO→Option (Dyn (HS Γ) (List (D t)))
 | []=>some (.tot fun _=> [])
 |x::xs=>match rdV Γ x,HW t xs with
  |some q,some e=>match Bb q.1 t with
   |some g=>some ((q.2.both e).map fun _ p=>g p.1::p.2)
   |none=>none
  |_,_=>none
def Fr(d:Nat):SOp→Option (OpD Γ)
 | .alloc z=>match E3 z with
  |some q=>match EF d 0 q.1 Γ with
   |some p=>some ⟨(.s d,.ptr d 0)::(.o d,.box z.length)::p.1,Unit,.tot fun _=>(),fun ρ _=>((),(),p.2 ρ q.2)⟩
   |none=>none
  |none=>none
 | .box x=>match rdV Γ x with
  |some ⟨.agg r,e⟩=>match AY r,EF d 0 r Γ with
   |some n,some p=>some ⟨(.s d,.ptr d 0)::(.o d,.box n)::p.1,D r,e,fun ρ y=>((),(),p.2 ρ y)⟩
   |_,_=>none
  |some ⟨t,e⟩=>if Eb t=true then some ⟨(.s d,.ptr d 0)::(.o d,.box 1)::(.c d 0,.v t)::Γ,D t,e,fun ρ y=>((),(),y,ρ)⟩else none
  |none=>none
 | .mksl e size parts=>match X.TT e with
  |some t=>match HW Γ t parts with
   |some l=>if t.val=true∧AY (BS t)=some size then some ⟨(.s d,.own d)::(.o d,.arr e size t)::Γ,List (D t),l,fun ρ y=>((),y,ρ)⟩else none
   |none=>none
  |none=>none
 | .mkmap mt kt z=>match X.TM mt with
  |some (k,v)=>if B9 v [z]=true∧ktB kt k=true∧Ed k=true then some ⟨(.s d,.mp d)::(.o d,.mob mt k v)::Γ,Unit,.tot fun _=>(),fun ρ _=>((),[],ρ)⟩else none
  |none=>none
 | .make e size bytes z x y=>match X.TT e,rdV Γ x,rdV Γ y with
  |some t,some ⟨.int _,dx⟩,some ⟨.int _,dy⟩=>if B9 t [z]=true then some ⟨(.s d,.own d)::(.o d,.arr e size t)::Γ,List (D t),(dx.both dy).comp (.par fun p=>if 0≤p.1∧p.1≤p.2∧p.2*(bytes:Int)≤140737488355328∧p.2≤4611686018427387904 then some (List.replicate p.1.toNat (Cj t))else none),fun ρ y=>((),y,ρ)⟩else none
  |_,_,_=>none
 | .siter x=>match rdV Γ x with
  |some ⟨.str,e⟩=>some ⟨(.s d,.iter d)::(.o d,.sit)::Γ,List UInt8,e,fun ρ y=>((),(y,0),ρ)⟩
  |_=>none
 |_=>none
def JH(t:Ty)(x:SO):Option (Dyn (HS Γ) (List (D t))):=
 match rdC Γ [] x with
 |some (_,⟨u,e⟩)=>match Bb u (.sl t)with
  |some g=>some (e.map fun _ y=>g y)
  |none=>none
 |none=>none
def GS(t:Ty)(o n:Nat)(u:Ty):Option (D t→D u→D t):=
 match t with
 | .agg r=>match AY (BS u),Ip (BS u) r o with
  |some m,some q=>if h:q.1=r then if m=n∧u.val=true then some fun x y=>h▸q.2 x (EI u y)else none else none
  |_,_=>none
 |t=>if n=1∧o=0∧Eb u=true then match Bb u t with
   |some g=>some fun _ y=>g y
   |none=>none
  else none
def I0(id:Nat)(t:Ty)(o:Nat):(n j:Nat)→Option (Σ Γ':TC,HS Γ→Nat→D t→HS Γ')
 |0,_=>some ⟨Γ,fun ρ _ _=>ρ⟩
 |n+1,j=>match get Γ (.c id (o+j)),I0 id t o n (j+1)with
  |some ⟨.v u,f⟩,some p=>if h:u=t then some ⟨(.c id (o+j),.v t)::p.1,fun ρ i y=>(if i=j then y else(h▸f ρ:D t),p.2 ρ i y)⟩else none
  |_,_=>none
def FX(d:Option Nat):SOp→Option (OpD Γ)
 | .store n a x=>match (rdK X.G Γ a).map (DS Γ [])with
  |some ⟨.ptr id o,.tot _⟩=>match get Γ (.o id)with
   |some ⟨.box nb,_⟩=>match rdK X.G Γ x with
    |some ⟨.v (.agg r),e⟩=>match AY r,EF id o r Γ with
     |some m,some p=>if m=n∧o+n≤nb∧Fp r=true then some ⟨p.1,D r,e,fun ρ y=>p.2 ρ y⟩else none
     |_,_=>none
    |some ⟨.v t,e⟩=>if n=1∧o<nb∧Eb t=true then some ⟨(.c id o,.v t)::Γ,D t,e,fun ρ y=>(y,ρ)⟩else none
    |some ⟨.own i,.tot _⟩=>if n=1∧o<nb then some ⟨(.c id o,.own i)::Γ,Unit,.tot fun _=>(),fun ρ _=>((),ρ)⟩else none
    |some ⟨.mp i,.tot _⟩=>if n=1∧o<nb then some ⟨(.c id o,.mp i)::Γ,Unit,.tot fun _=>(),fun ρ _=>((),ρ)⟩else none
    |_=>none
   |_=>none
  |some ⟨.aptr id len o,di⟩=>match get Γ (.o id)with
   |some ⟨.box nb,_⟩=>match rdV Γ x with
    |some ⟨t,e⟩=>match I0 Γ id t o len 0 with
     |some p=>if n=1∧o+len≤nb∧Eb t=true then some ⟨p.1,Nat×D t,di.both e,fun ρ z=>p.2 ρ z.1 z.2⟩else none
     |none=>none
    |none=>none
   |_=>none
  |some ⟨.eptr id size o,di⟩=>match get Γ (.o id)with
   |some ⟨.arr e sz t,xs⟩=>match rdV Γ x with
    |some ⟨u,dx⟩=>match GS t o n u with
     |some g=>if size=sz∧0<n∧t.val=true∧AY (BS t)=some sz∧Fp (BS u)=true then some ⟨(.o id,.arr e sz t)::Γ,List (D t),((di.both dx).map fun ρ p=>((xs ρ)[p.1]?).map fun el=>(xs ρ).set p.1 (g el p.2)).comp (.par fun y=>y),fun ρ y=>(y,ρ)⟩else none
     |none=>none
    |none=>none
   |_=>none
  |some ⟨.v (.pt (.one .bool)),da⟩=>match rdV Γ x with
   |some ⟨.bool,dx⟩=>if n=1 then some ⟨Γ,Unit,(da.both dx).comp (.par fun p=>if(show Bool from p.1)=(show Bool from p.2)then some ()else none),fun ρ _=>ρ⟩else none
   |_=>none
  |_=>none
 | .append e size bytes x y=>match rdK X.G Γ x with
  |some ⟨.own id,.tot _⟩=>match get Γ (.o id)with
   |some ⟨.arr e' size' t,xs⟩=>match JH Γ t y,d with
    |some l,some d=>if e'=e∧size'=size∧t.val=true∧AY (BS t)=some size∧Fp (BS t)=true then some ⟨(.s d,.own id)::(.o id,.arr e size t)::Bu [id] Γ,List (D t),(l.map fun ρ ys=>if(((xs ρ).length:Int)+(ys.length:Int))*(bytes:Int)≤140737488355328∧((xs ρ).length:Int)+(ys.length:Int)≤4611686018427387904 then some (xs ρ++ys)else none).comp (.par fun y=>y),fun ρ y=>((),y,B7 [id] ρ)⟩else none
    |_,_=>none
   |_=>none
  |some ⟨.v .nsl,.tot _⟩=>match X.TT e with
   |some t=>match JH Γ t y,d with
    |some l,some d=>if t.val=true∧AY (BS t)=some size∧Fp (BS t)=true then some ⟨(.s d,.own d)::(.o d,.arr e size t)::Bu [d] Γ,List (D t),l.comp (.par fun ys=>if(ys.length:Int)*(bytes:Int)≤140737488355328∧(ys.length:Int)≤4611686018427387904 then some ys else none),fun ρ y=>((),y,B7 [d] ρ)⟩else none
    |_,_=>none
   |none=>none
  |_=>none
 | .mapent mt x k=>match rdK X.G Γ x,rdV Γ k,d with
  |some ⟨.mp id,.tot _⟩,some q,some d=>match get Γ (.o id)with
   |some ⟨.mob mt' kt vt,m⟩=>match Bb q.1 kt with
    |some g=>if mt'=mt∧Ed kt=true then some ⟨(.s d,.ent id kt vt)::(.o id,.mob mt kt vt)::Γ,D kt×D vt,q.2.map fun ρ k=>(g k,(CW (eqZ kt) (Cj vt) (g k) (m ρ)).1),fun ρ p=>(p,Ei (eqZ kt) p.1 p.2 (m ρ),ρ)⟩else none
    |none=>none
   |_=>none
  |_,_,_=>none
 | .entst x s v=>match rdK X.G Γ x,rdK X.G Γ s,rdV Γ v with
  |some ⟨.mp id,.tot _⟩,some ⟨.stamp id' kt,.tot fs⟩,some q=>match get Γ (.o id)with
   |some ⟨.mob mt kt' vt,m⟩=>match Bb q.1 vt with
    |some g=>if h:kt=kt' then if id=id'∧Ed kt'=true then some ⟨(.o id,.mob mt kt' vt)::Γ,List (D kt'×D vt),(q.2.map fun ρ v=>if(CW (eqZ kt') (Cj vt) (h▸fs ρ) (m ρ)).2=true then some (Ei (eqZ kt') (h▸fs ρ) (g v) (m ρ))else none).comp (.par fun y=>y),fun ρ y=>(y,ρ)⟩else none else none
    |none=>none
   |_=>none
  |_,_,_=>none
 | .mapupd mt x k v=>match rdK X.G Γ x,rdV Γ k,rdV Γ v with
  |some ⟨.mp id,.tot _⟩,some q,some p=>match get Γ (.o id)with
   |some ⟨.mob mt' kt vt,m⟩=>match Bb q.1 kt,Bb p.1 vt with
    |some g,some f=>if mt'=mt∧Ed kt=true then some ⟨(.o id,.mob mt kt vt)::Γ,List (D kt×D vt),(q.2.both p.2).map fun ρ z=>Ei (eqZ kt) (g z.1) (f z.2) (m ρ),fun ρ y=>(y,ρ)⟩else none
    |_,_=>none
   |_=>none
  |_,_,_=>none
 |_=>none
def M1(d:Option Nat):SOp→Option (OpD Γ)
 | .mcopy f x y=>if X.cp f=true then match rdK X.G Γ x,rdV Γ y,d with
  |some ⟨.mp id,.tot _⟩,some ⟨.map .str ut,q⟩,some d=>match get Γ (.o id)with
   |some ⟨.mob mt .str vt,m⟩=>match Bb (.map .str ut) (.map .str vt)with
    |some g=>some ⟨(.s d,.v (.tup .nil))::(.o id,.mob mt .str vt)::Γ,List (List UInt8×D vt),(q.map fun ρ y=>Ml (m ρ) (g y)).comp (.par fun y=>y),fun ρ y=>((),y,ρ)⟩
    |none=>none
   |_=>none
  |_,_,_=>none
 else none
 |_=>none
def gD{A B:Type}(f:A→Bool)(want:Bool):Dyn A B→Dyn A (Option B)
 | .tot g=>.tot fun ρ=>if f ρ=want then some (g ρ)else none
 | .par g=>.par fun ρ=>if f ρ=want then(g ρ).map some else some none
def gO{A B:Type}(f:A→Option Bool)(want:Bool):Dyn A B→Dyn A (Option B)
 | .tot g=>.tot fun ρ=>if f ρ=some want then some (g ρ)else none
 | .par g=>.par fun ρ=>if f ρ=some want then(g ρ).map some else some none
def Ko(op:SOp):Option (Σ k:EK,Dyn (HS Γ) (DK k)):=
 match op.cls with
 | .val| .grow=>Na X.G Γ msk op
 | .call=>IO X Γ msk op
 |_=>none
def Mz(d:Nat):SOp→Option (OpD Γ)
 | .call f args=>match X.TN f with
  |some ⟨a,.nw e size t,fn⟩=>match get Γ (.o d)with
   |some ⟨.gone,_⟩=>match Ey Γ msk args with
    |some q=>match Bb q.2.1 a with
     |some g=>if(q.1||mlT t)=true then some ⟨(.s d,.own d)::(.o d,.arr e size t)::Γ,List (D t),(q.2.2.map fun _ x=>g x).comp (.par fn),fun ρ y=>((),y,ρ)⟩else none
     |none=>none
    |none=>none
   |_=>none
  |_=>none
 |_=>none
structure EfD (Γ:TC) where
 Θ:TC
 r:Ty
 θ:HS Γ→HS Θ
 d:Dyn (HS Γ) (D r×HS Θ)
def Lb{Θ Θ':TC}{a r r':Ty}(fn:D a→HS Θ→Option (D r×HS Θ))(h:Θ=Θ')(h':r=r'):D a→HS Θ'→Option (D r'×HS Θ'):=h▸h'▸fn
def Hu(a:Ty)(Θ:TC)(r:Ty):(t:Ty)→Option (D t→D a→HS Θ→Option (D r×HS Θ))
 | .clo g c=>match X.TE g with
  |some s=>match Bb (Bz a c).1 s.a with
   |some h=>if hΘ:s.Θ=Θ then(if hr:s.r=r then some fun x y θ=>Lb s.fn hΘ hr (h ((Bz a c).2 y x)) θ else none)else none
   |none=>none
  |none=>none
 | .falt g c l=>match X.TE g,Hu a Θ r l with
  |some s,some F=>match Bb (Bz a c).1 s.a with
   |some h=>if hΘ:s.Θ=Θ then(if hr:s.r=r then some fun x y θ=>match x with
     | .inl z=>Lb s.fn hΘ hr (h ((Bz a c).2 y z)) θ
     | .inr z=>F z y θ
    else none)else none
   |none=>none
  |_,_=>none
 |_=>none
def efK:SOp→Option (EfD Γ)
 | .call f args=>match X.TE f with
  |some s=>match EX Γ args,Cm Γ s.Θ with
   |some q,some g=>match Bb q.1 s.a with
    |some h=>some ⟨s.Θ,s.r,g,(q.2.map fun ρ x=>(h x,g ρ)).comp (.par fun p=>s.fn p.1 p.2)⟩
    |none=>none
   |_,_=>none
  |none=>none
 | .callv f args=>match rdV Γ f,EX Γ args with
  |some ⟨.clo g c,d⟩,some q=>match X.TE g with
   |some s=>match AY q.1,Bb (Bz q.1 c).1 s.a,Cm Γ s.Θ with
    |some _,some h,some gθ=>some ⟨s.Θ,s.r,gθ,((q.2.both d).map fun ρ x=>(h ((Bz q.1 c).2 x.1 x.2),gθ ρ)).comp (.par fun p=>s.fn p.1 p.2)⟩
    |_,_,_=>none
   |none=>none
  |some ⟨.falt g c l,d⟩,some q=>match X.TE g with
   |some s=>match AY q.1,Cm Γ s.Θ,Hu X q.1 s.Θ s.r (.falt g c l)with
    |some _,some gθ,some F=>some ⟨s.Θ,s.r,gθ,((q.2.both d).map fun ρ x=>(x,gθ ρ)).comp (.par fun p=>F p.1.2 p.1.1 p.2)⟩
    |_,_,_=>none
   |none=>none
  |_,_=>none
 |_=>none
def FW(l:SL):Option (OpD Γ):=
 match efK X Γ l.op with
 |some e=>if okΘ e.Θ=true then match l.guard,l.dst with
  |none,some d=>some ⟨(.s d,.v e.r)::(e.Θ++Bu (A2 e.Θ) Γ),D e.r×HS e.Θ,e.d,fun ρ p=>(p.1,Ce e.Θ p.2 (B7 (A2 e.Θ) ρ))⟩
  |none,none=>some ⟨e.Θ++Bu (A2 e.Θ) Γ,D e.r×HS e.Θ,e.d,fun ρ p=>Ce e.Θ p.2 (B7 (A2 e.Θ) ρ)⟩
  |some (g,want),some d=>match get Γ (.s g)with
   |some ⟨.v .bool,f⟩=>some ⟨(.s d,.opt (.v e.r))::(e.Θ++Bu (A2 e.Θ) Γ),Option (D e.r×HS e.Θ),gD f want e.d,fun ρ b=>(b.map fun p=>p.1,Ce e.Θ (match b with
         |some p=>p.2
         |none=>e.θ ρ) (B7 (A2 e.Θ) ρ))⟩
   |some ⟨.opt (.v .bool),f⟩=>some ⟨(.s d,.opt (.v e.r))::(e.Θ++Bu (A2 e.Θ) Γ),Option (D e.r×HS e.Θ),gO f want e.d,fun ρ b=>(b.map fun p=>p.1,Ce e.Θ (match b with
         |some p=>p.2
         |none=>e.θ ρ) (B7 (A2 e.Θ) ρ))⟩
   |_=>none
  |_,_=>none
  else none
 |none=>none
def FY(l:SL):Option (OpD Γ):=
 match l.guard with
 |none=>match l.op.cls with
  | .new=>match l.dst with
   |some d=>match get Γ (.o d)with
    |some ⟨.gone,_⟩=>Fr X Γ d l.op
    |_=>none
   |none=>none
  | .eff=>FX X Γ l.dst l.op
  | .copy=>M1 X Γ l.dst l.op
  |_=>match Ko X Γ (hid l.op msk) l.op with
   |some q=>match l.dst with
    |some d=>some ⟨(.s d,q.1)::Γ,DK q.1,q.2,fun ρ x=>(x,ρ)⟩
    |none=>some ⟨Γ,DK q.1,q.2,fun ρ _=>ρ⟩
   |none=>match l.dst with
    |some d=>Mz X Γ (hid l.op msk) d l.op
    |none=>none
 |some (g,want)=>match Ko X Γ (hid l.op msk) l.op,l.dst with
  |some q,some d=>match get Γ (.s g)with
   |some ⟨.v .bool,f⟩=>some ⟨(.s d,.opt q.1)::Γ,Option (DK q.1),gD f want q.2,fun ρ x=>(x,ρ)⟩
   |some ⟨.opt (.v .bool),f⟩=>some ⟨(.s d,.opt q.1)::Γ,Option (DK q.1),gO f want q.2,fun ρ x=>(x,ρ)⟩
   |_=>none
  |_,_=>none
def opL(l:SL):Option (OpD Γ):=
 match FW X Γ l with
 |some o=>some o
 |none=>FY X Γ msk l
end
end WB
