/-
  OWN TEXTS, MERGED (wip/merge.py): CoreY, CoreZ, CoreZa, CoreYb, CoreZr, CoreTa, CoreTb, CoreTc, CoreTd, CoreTe, CoreTf. No condition of their own.
-/
import Derived.Test.YtimkfmkhmfcjeaaGreatDoorK3
import Derived.IntWalk
import Derived.Deep.Slices
import Derived.Deep.Fields
import Derived.ChangeSame
import Derived.ChangeShapes
import Derived.ProofKit
import Derived.OpenShut
set_option linter.unusedVariables false
set_option linter.unusedSimpArgs false
open Go.IntKind (i64 u64 u8 u32)
namespace WB
open Go Go.RowKit
inductive Bd where
 |tmp (t:Nat)
 |cell (t:Nat) (sz:Option Nat)
def EJ(P:Program):ResultVar→Option Bd
 | .tmp t=>some (.tmp t)
 | .cell a t=>(CT P t).map (.cell a)
def DR(st:St):Bd→Option CV
 | .tmp t=>BS st.ob (st.fr t)
 | .cell a sz=>(AT st.ob sz (deref st.ob (st.fr a))).bind (BS st.ob)
def Gk:List CV→CV
 | [c]=>c
 |l=>.tup l
def Db(st:St)(rs:List Bd):Option CV:=(Ar (DR st) rs).map Gk
structure FE where
 n:Nat
 code:BR
 res:List Bd
def C7(P:Program)(f:FuncId):Option FE:=
 if AW P f then(P.funcs[f]?).bind fun fn=>fn.body.bind fun b=>if Nat.ble fn.ntmps Au then(Bl P fn.ntmps b).bind fun c=>(Ar (EJ P) fn.results.toList).map fun rs=>⟨fn.ntmps,c,rs⟩else none else none
def Ea(l:List CV):St:={fr:=fun i=>match l[i]? with|some c=>.c c|none=>.undef,ob:=fun _=>.none}
def fin(rs:List Bd)(r:CV)(e:Ex)(st:St):Prop:=
 match e with
 | .exit _=>False
 |_=>Db st rs=some r
section
variable {P:Program} {E:Env} {w0:WL} {M0:MM} {n:Nat} {st:St} {a:Act} {w:World} {z:Cz}
theorem RM{G:Nat→List CV}(h:SR P G w0 M0 n st a w z){b:Nat}{t:TypeId}{sz:Option Nat}(hs:CT P t=some sz){sv:SV}(hl:AT st.ob sz (deref st.ob (st.fr b))=some sv):
  ∃v,((asAddr (a.tmps.getD b undef)>>=fun ad=>loadVar t ad):Sem Value).run P w=.ok v w∧At w (Aq M0 z st.ob) z st.ob sv v:=by
 obtain⟨v,h1,h2⟩:=QV (x:=.tmp b) (sx:=.t b) h.ctx (fun _=>.inr rfl) hs rfl hl
 have hp:∃ad,a.tmps.getD b undef=.pointer (some ad):=by
  have hr:=h.ctx.deref (rd:=st.ob) (fun _=>.inr rfl) (h.fr b);generalize deref st.ob (st.fr b)=q at hr hl;generalize a.tmps.getD b undef=u at hr;cases q<;>(try simp only[AT,reduceCtorEq]at hl;done)
  ·rename_i cv;cases cv<;>(try simp only[AT,reduceCtorEq]at hl;done)
   ·unfold At An at hr;obtain⟨ad,_,e,_⟩:=hr;exact⟨ad,e⟩
   ·unfold At An at hr;obtain⟨g,_,_,e,_⟩:=hr;exact⟨_,e⟩
  ·obtain⟨_,g,_,e⟩:=hr;exact⟨_,e⟩
  ·obtain⟨_,g,_,_,_,e⟩:=hr;exact⟨_,e⟩
 obtain⟨ad,hp⟩:=hp;refine⟨v, ?_,h2⟩;have he:a.eval (.tmp b)=.pointer (some ad):=hp;rw[he]at h1;simp only[hp];exact h1
theorem Uq{G:Nat→List CV}(h:SR P G w0 M0 n st a w z){rv:ResultVar}{sr:Bd}(hc:EJ P rv=some sr){c:CV}(ho:DR st sr=some c):
  ∃v,(match rv with| .tmp t=>pure (a.tmps.getD t undef)| .cell b t=>(asAddr (a.tmps.getD b undef)>>=fun ad=>loadVar t ad):Sem Value).run P w=.ok v w∧An w (mm0 w0 M0 z) c v:=by
 cases rv with
 |tmp t=>
  simp only[EJ,Ac]at hc;subst hc;exact⟨_,rfl,KS h (fun _=>.inr rfl) (h.fr t) ho⟩
 |cell b t=>
  simp only[EJ,Aa]at hc;obtain⟨sz,hs,rfl⟩:=hc;simp only[DR,Ab]at ho;obtain⟨sv,hl,hcl⟩:=ho;obtain⟨v,h1,h2⟩:=RM h hs hl;exact⟨v,h1,KS h (fun _=>.inr rfl) h2 hcl⟩
theorem Nt{G:Nat→List CV}(h:SR P G w0 M0 n st a w z){f:ResultVar→Sem Value}(hf:∀rv,f rv=(match rv with| .tmp t=>pure (a.tmps.getD t undef)| .cell b t=>(asAddr (a.tmps.getD b undef)>>=fun ad=>loadVar t ad))):∀{rvs:List ResultVar} {srs:List Bd} {cs:List CV},Ar (EJ P) rvs=some srs→Ar (DR st) srs=some cs→
  ∃vs,(rvs.mapM f).run P w=.ok vs w∧Am w (mm0 w0 M0 z) cs vs
 | [],srs,cs,h1,h2=>by
  simp only[Ar,Ac]at h1;subst h1;simp only[Ar,Ac]at h2;subst h2;exact⟨[],by simp,Am.nil⟩
 |rv::rvs,srs,cs,h1,h2=>by
  simp only[Ar,Ab,Aa]at h1;obtain⟨s,hs,ss,hss,rfl⟩:=h1;simp only[Ar,Ab,Aa]at h2;obtain⟨c,hc,cs',hcs,rfl⟩:=h2;obtain⟨v,g1,g2⟩:=Uq h hs hc;obtain⟨vs,g3,g4⟩:=Nt h hf hss hcs;rw[←hf]at g1;exact⟨v::vs,by rw[List.mapM_cons];simp[g1,g3],Am.cons g2 g4⟩
theorem PS{G:Nat→List CV}(h:SR P G w0 M0 n st a w z){fn:Func}{rs:List Bd}(hc:Ar (EJ P) fn.results.toList=some rs){c:CV}(ho:Db st rs=some c):
  ∃v,(results fn a.tmps).run P w=.ok v w∧An w (mm0 w0 M0 z) c v:=by
 simp only[Db,Aa]at ho;obtain⟨cs,hcs,rfl⟩:=ho;obtain⟨vs,h1,h2⟩:=Nt h (f:=fun rv=>match rv with| .tmp t=>pure (a.tmps.getD t undef)| .cell b t=>do loadVar t (←asAddr (a.tmps.getD b undef))) (fun rv=>by cases rv<;>rfl) hc hcs
 have hr:(results fn a.tmps).run P w=.ok (if h:(⟨vs⟩:Array Value).size=1 then(⟨vs⟩:Array Value)[0]else .tuple ⟨vs⟩) w:=by
  have e:results fn a.tmps=(fn.results.mapM (fun rv=>match rv with| .tmp t=>pure (a.tmps.getD t undef)| .cell b t=>do loadVar t (←asAddr (a.tmps.getD b undef)))>>=fun(vs:Array Value)=>pure (if h:vs.size=1 then vs[0]else .tuple vs)):=rfl;rw[e,Array.mapM_eq_mapM_toList];generalize (fun(rv:ResultVar)=>(match rv with| .tmp t=>pure (a.tmps.getD t undef)| .cell b t=>do loadVar t (←asAddr (a.tmps.getD b undef)):Sem Value))=f at h1;simp[h1]
 refine⟨_,hr, ?_⟩;have hlen:=h2.length
 match cs,vs,h2,hlen with
 | [],[],h2,_=>
  simp only[Gk];unfold An;exact⟨[],rfl,h2⟩
 | [c],[v],h2,_=>
  simp only[Gk];unfold Am at h2;obtain⟨v',vs',e,h3,_⟩:=h2;cases e;exact h3
 |c::c'::cs,v::v'::vs,h2,_=>
  simp only[Gk];unfold An;exact⟨v::v'::vs,by simp,h2⟩
theorem L1{P:Program}{G:Nat→List CV}{w:World}{M:MM}{n:Nat}{l:List CV}{vs:List Value}(hM:∀g,M g→g<w.heap.size)(hG:GOk G w M)(hl:l.length≤n)(h:Am w M l vs)(hn:n≤Au):
  SR P G (GO w) M n (Ea l) {tmps:=(⟨vs⟩:Array Value)++Array.replicate (n-(⟨vs⟩:Array Value).size) undef,defers:= []} w (z0 undef M.al):=by
 have hlen:=h.length;refine⟨?_,rfl,Jq.2 (Below.refl _ _),hM,⟨fun _ g h'=>h'.elim,fun N cs _ h'=>(by cases h'),fun _ _=>rfl,hn⟩,hG,fun i=> ?_,fun id=>trivial,fun id g h'=>absurd rfl h',fun i j g _ h'=>absurd rfl h'⟩
 ·simp;omega
 ·simp only[Ea]
  cases hi:l[i]? with
  |none=>trivial
  |some c=>
   obtain⟨v,h1,h2⟩:=h.get hi
   have hk:AR w M w (Aq M (z0 undef M.al) fun _=>Ob.none):=⟨Nat.le_refl _,fun _ _ _=>rfl,fun g _ hg=>by
    rcases hg with hg|⟨id,h',_⟩
    ·exact hg
    ·exact absurd rfl h',rfl⟩
   have hv:((⟨vs⟩:Array Value)++Array.replicate (n-(⟨vs⟩:Array Value).size) undef).getD i undef=v:=by
    have:i<vs.length:=(Ae.1 h1).1;rw[Array.getD_eq_getD_getElem?,Array.getElem?_append_left (by simpa using this)];simp[h1]
   show An w _ c _;simp only[hv];exact An.keep hk c v h2
theorem OU{w1:World}{G:Nat→List CV}{M:MM}(h:SR P G (GO w1) M n st a w z){c:CV}{v:Value}(hr:An w (mm0 (GO w1) M z) c v):An w M c v:=
 have hk:AR w (mm0 (GO w1) M z) w M:=⟨Nat.le_refl _,fun _ _ _=>rfl,fun _ _ hg=>⟨hg,fun _ hh=>hh⟩,funext fun N=>(h.nam.names N trivial).symm⟩
 An.keep hk _ _ hr
theorem Lt(hE:EOk P E){f:FuncId}{m:FE}(hc:C7 P f=some m){l:List CV}{r:CV}(hl:l.length≤m.n)(h:pwp E m.code (fin m.res r) (Ea l)):AW P f=true∧CallsTo P E.G f l (.val r):=by
 unfold C7 at hc;split at hc<;>(try cases hc;done);rename_i hb;refine⟨hb, ?_⟩;simp only[Ab,Aa,Ad]at hc;obtain⟨fn,hf,b,hbody,hn,c,hcode,rs,hrs,rfl⟩:=hc;intro w M vs hM hG hL;refine calls_of_wp hf hbody (wp_mono (Fn hE b hcode (L1 hM hG hl hL (Ah hn)) h) fun e a' w' hpost=> ?_);obtain⟨e',st',z',he,hq,hS⟩:=hpost;subst he
 have fin_:Db st' rs=some r→a'.defers= []∧∃v,(results fn a'.tmps).run P w'=.ok v w'∧∃u,Ending.returned v=.returned u∧Below w.heap.size w w'∧FI P w' M w.heap.size u (.val r):=fun hr=>by
  obtain⟨v,h1,h2⟩:=PS hS hrs hr;exact⟨hS.defers,v,h1,v,rfl,Jq.1 hS.below,OU hS h2⟩
 cases e' with
 |normal=>exact fin_ hq
 |exit i=>exact hq.elim
 |ret=>exact fin_ hq
theorem EOk.add(hE:EOk P E){f:FuncId}{m:FE}(hc:C7 P f=some m){F:List CV→Option CV}(h:∀l r,F l=some r→l.length≤m.n∧pwp E m.code (fin m.res r) (Ea l)):
  EOk P {E with fn:=fun g l=>if g=f then(F l).map .val else E.fn g l}:=by
 refine⟨?_,hE.2,hE.3⟩;intro g l r hr;simp only at hr;split at hr
 ·rename_i e;subst e;simp only[Aa]at hr;obtain⟨r,hr,rfl⟩:=hr;obtain⟨h1,h2⟩:=h l r hr;exact Lt hE hc h1 h2
 ·exact hE.1 g l r hr
end
section
variable {E:Env} {Q:Ex→St→Prop} {st:St}
theorem Ov{rs:List Bd}{r:CV}(h:Db st rs=some r):fin rs r .ret st:=h
variable {D:Option (List Nat)} {K:St→Prop} {ls:List SL}
end
def MY(p:Prop):Prop:=p
theorem MY.out{p:Prop}(h:MY p):p:=h
def Lo(rs:List Bd)(o:Ob)(e:Ex)(st:St):Prop:=
 match e with
 | .exit _=>False
 |_=>∃t,rs= [.tmp t]∧((∃id,(st.fr t=.osl id∨st.fr t=.omap id)∧st.ob id=o∧CN o=true)∨(st.fr t=.c (.sl (some true) [])∧∃e size,o=.arr e size []))
section
variable {P:Program} {E:Env} {w0:WL} {M0:MM} {n:Nat} {st:St} {a:Act} {w:World} {z:Cz}
theorem Rq{M:MM}{B id:Nat}{v:Value}{z:Cz}{ob:Nat→Ob}{o:Ob}(hh:CN o=true)(hB:∀g,blk v=some g→B≤g)(h:AI P w M 0 z ob id v o):AI P w M B z ob id v o:=by
 cases o<;>simp[CN]at hh
 ·obtain⟨xs,h1,h2⟩:=h;refine⟨xs,⟨h1.1, ?_⟩,h2⟩;rcases h1.2 with h3|⟨g,cap,cur,ty,fz,e1,_,r⟩
  ·exact .inl h3
  ·exact .inr ⟨g,cap,cur,ty,fz,e1,hB g (by rw[e1];rfl),r⟩
 ·exact h
theorem Uc{G:Nat→List CV}{w1:World}(h:SR P G (GO w1) M0 n st a w z){rvs:List ResultVar}{rs:List Bd}(hc:Ar (EJ P) rvs=some rs){e:Ex}{o:Ob}(hq:Lo rs o e st):
  ∃t,rvs= [.tmp t]∧FI P w M0 w1.heap.size (a.tmps.getD t undef) (.new o):=by
 have hq':∃t,rs= [.tmp t]∧((∃id,(st.fr t=.osl id∨st.fr t=.omap id)∧st.ob id=o∧CN o=true)∨(st.fr t=.c (.sl (some true) [])∧∃e size,o=.arr e size [])):=by
  cases e with
  |exit i=>exact hq.elim
  |normal=>exact hq
  |ret=>exact hq
 clear hq;obtain⟨t,ht,hq⟩:=hq';subst ht
 have hrv:rvs= [.tmp t]:=by
  cases rvs with
  |nil=>simp[Ar]at hc
  |cons rv rvs=>
   simp only[Ar,Ab,Aa,List.cons.injEq]at hc;obtain⟨s,hs,ss,hss,rfl,rfl⟩:=hc
   have:rvs= []:=by
    cases rvs with
    |nil=>rfl
    |cons rv' rvs=>
     simp only[Ar,Ab,Aa]at hss;obtain⟨_,_,_,_,hss⟩:=hss;cases hss
   subst this
   cases rv with
   |tmp t'=>simp only[EJ,Ac]at hs;cases hs;rfl
   |cell b ty=>simp[EJ]at hs
 refine⟨t,hrv, ?_⟩;have hr:=h.fr t;rcases hq with⟨id,hfr,hob,hh⟩|⟨hfr,e,size,rfl⟩
 ·have hlive:st.ob id≠ .none:=by rw[hob];intro e;rw[e]at hh;cases hh
  have hv:a.tmps.getD t undef=z.σ id:=by
   rcases hfr with hfr|hfr<;>rw[hfr]at hr<;>exact hr.2
  have ho:=h.ob id;rw[hob]at ho;rw[hv]
  have hlo:∀g,blk (z.σ id)=some g→w1.heap.size≤g∧g<w.heap.size:=fun g hg=>by
   have:=h.lo id g hlive hg;exact⟨this.1.resolve_right fun hh=>hh,this.2⟩
  refine⟨hh,hlo,Nj (funext fun N=>(h.nam.names N trivial).symm) (Nat.le_refl _) hh (fun g _ hg=> ?_) (fun k b hb=>hb) (Rq hh (fun g hg=>(hlo g hg).1) ho)⟩;rcases hg with hg|hg
  ·exact .inl hg
  ·exact .inr ⟨id,hlive,hg⟩
 ·rw[hfr]at hr;unfold At An at hr;obtain⟨ad,n',c,e1,e2,e3,e4,_,e6,_⟩:=hr;have ha:=e4 rfl;subst ha;have hc0:=e6 rfl;subst hc0;have hn0:n'=0:=e2;subst hn0;rw[e1];exact⟨rfl,fun g hg=>(by cases hg),[],⟨by simp,.inl ⟨rfl,rfl⟩⟩,rfl⟩
theorem EOk.nil(G:Nat→List CV):EOk P {G:=G,fn:=fun _ _=>none}:=⟨fun _ _ _ h=>(by cases h),fun _ h=>(by cases h),fun _ _ h=>(by cases h)⟩
end
end WB
namespace WB
open Go Go.RowKit Go.ChangeShapes Go.WideShapes Go.Deep
section
variable {H:Type} {enc:TypeId×Value→H} {P:Program} {w:World} {base:Nat} {spare:Nat→Bool} {held:Bool}
theorem Ot{α:Type}{p:Nat→α→Prop}:∀(n:Nat),(∀i,i<n→∃x,p i x)→∃l:List α,l.length=n∧∀i x,l[i]? =some x→p i x
 |0,_=>⟨[],rfl,fun i x h=>by simp at h⟩
 |n+1,h=>by
  obtain⟨l,hl,hp⟩:=Ot n (fun i hi=>h i (by omega));obtain⟨x,hx⟩:=h n (by omega);refine⟨l++ [x],by simp[hl],fun i y hy=> ?_⟩;by_cases hi:i<n
  ·rw[List.getElem?_append_left (by omega)]at hy;exact hp i y hy
  ·rw[List.getElem?_append_right (by omega)]at hy
   have:i-l.length=0:=by
    rcases Nat.eq_zero_or_pos (i-l.length)with h0|h0
    ·exact h0
    ·rw[List.getElem?_eq_none (by simp;omega)]at hy;cases hy
   rw[this]at hy;simp only[List.getElem?_cons_zero,Ac]at hy;subst hy;have:i=n:=by omega
   subst this;exact hx
theorem UB{f:Func}{s:ChangeSpec}{apart fresh handsOn again:Bool}{W W':World}{args:Array Value}{v:Value}{ds gs:List (DataW H)}{before pa pv:List MemPlace}
  (hW:DataW.Whole enc P f.params.toList s.vars apart W args.toList ds gs before)
  (hres:∀(b:Nat) (sp:Nat→Bool) (hd:Bool),DataW.TrodAll enc P W' b sp hd f.resultTypes.toList (v.resultList f.resultTypes.size) (s.fn H (ds++gs)).results [])
  (hargs:∀sp:Nat→Bool,(∀p∈before,sp p.block=true)→DataW.TrodAll enc P W' 0 sp true f.params.toList args.toList (s.fn H (ds++gs)).args pa)
  (hvars:∀sp:Nat→Bool,(∀p∈before,sp p.block=true)→DataW.TrodVars enc P W' sp s.vars (s.fn H (ds++gs)).vars pv)
  (hps:before=pa++pv) (hb:Below W.heap.size W W')
  (hok:∀(j:Nat) (t:TypeId) (r:Value),f.resultTypes[j]? =some t→(v.resultList f.resultTypes.size)[j]? =some r→Value.okWide P W' .any 0 t r):
  s.post enc P f apart fresh handsOn again W args v W':=by
 have hlt:∀p∈before,p.block<W.heap.size:=fun p hp=>hW.lt p hp;have hold:∀p∈before,(fun b=>decide (b<W.heap.size)) p.block=true:=fun p hp=>by simpa using hlt p hp
 refine⟨ds,gs,before,[],pa,pv,hW,hres _ _ _,hargs _ hold,hvars _ hold,World.keptBut_mono (fun p hp=>⟨hp, ?_⟩) (hb.frame (· ∈before)),fun _=> ?_⟩
 ·rw[hps,List.mem_append]at hp;exact Or.inr hp
 ·obtain⟨_,_,_,_,_,hz,hn⟩:=hW;refine⟨hok,_,_,([]++pa)++pv,⟨[]++pa,pv,trodAll_append (hargs _ (fun _ _=>rfl)) (hres _ _ _),hvars _ (fun _ _=>rfl),rfl, ?_, ?_⟩, ?_⟩
  ·intro b off hp;have hin:MemPlace.cell b off∈before:=by rw[hps];simpa using hp
   rw[hb.frozen (hlt _ hin)];exact hz b off hin
  ·intro ha;have:=hn ha;rw[hps]at this;simpa using this
  ·intro p hp _;rw[hps];simpa using hp
end
theorem QR{H:Type}{enc:TypeId×Value→H}{P:Program}(hl:laidOutB P=true){W W':World}(hb:Below W.heap.size W W'){sp:Nat→Bool}:
  ∀{ts:List TypeId} {vs:List Value} {ds:List (DataW H)} {ps:List MemPlace},(ts.all fun t=>P.readableRec t&&decide (t<P.types.size))=true→(∀p∈ps,p.block<W.heap.size)→(∀p∈ps,sp p.block=true)→
  DataW.TrodAll enc P W 0 (fun _=>true) true ts vs ds ps→DataW.TrodAll enc P W' 0 sp true ts vs ds ps
 | [],vs,ds,ps,_,_,_,h=>by
  obtain⟨rfl,rfl,rfl⟩:=trodAll_nil h;exact trodAll_mk0
 |t::ts,vs,ds,ps,hr,hlt,hsp,h=>by
  obtain⟨v0,vs0,d0,ds0,p0,q0,rfl,rfl,rfl,h0,r0⟩:=trodAll_cons h;simp only[List.all_cons,Af,decide_eq_true_eq]at hr;refine trodAll_cons_mk ?_ (QR hl hb hr.2 (fun p hp=>hlt p (by simp[hp])) (fun p hp=>hsp p (by simp[hp])) r0);exact WideElems.Trod_stays hl hr.1.1 hr.1.2 h0 (fun x hx=>hb.same (hlt x (by simp[hx]))) (fun x hx=>hsp x (by simp[hx]))
end WB
namespace WB
open Go Go.RowKit
inductive Ty where
 |int (k:IntKind)
 |bool
 |str
 |err
 |clo (f:Nat) (r:Ty)
 |falt (f:Nat) (r l:Ty)
 |nsl
 |nmap
 |nfn
 |nam (N:Nat)
 |bptr (N:Nat)
 |nilp
 |pt (r:Ty)
 |nw (e size:Nat) (t:Ty)
 |agg (r:Ty)
 |tup (r:Ty)
 |sl (e:Ty)
 |map (k v:Ty)
 |nil
 |one (t:Ty)
 |cons (t r:Ty)
 deriving DecidableEq
@[reducible] def D:Ty→Type
 | .int _=>Int
 | .bool=>Bool
 | .str=>List UInt8
 | .err=>Bool
 | .clo _ r=>D r
 | .falt _ r l=>D r⊕D l
 | .nsl=>Unit
 | .nmap=>Unit
 | .nfn=>Unit
 | .nam _=>Unit
 | .bptr _=>Unit
 | .nilp=>Unit
 | .pt r=>D r
 | .nw _ _ t=>List (D t)
 | .agg r=>D r
 | .tup r=>D r
 | .sl e=>List (D e)
 | .map k v=>List (D k×D v)
 | .nil=>Unit
 | .one t=>D t
 | .cons t r=>D t×D r
def As{α β:Type}(R:α→β→Prop):List α→List β→Prop
 | [],bs=>bs= []
 |a::as,bs=>∃b bs',bs=b::bs'∧R a b∧As R as bs'
def Can:(t:Ty)→D t→List CV→Prop
 | .int k,n,cs=>cs= [.int k n]
 | .bool,b,cs=>cs= [.bool b]
 | .str,s,cs=>cs= [.str s]
 | .err,b,cs=>cs= [if b then .nilif else .ifc]
 | .clo f r,x,cs=>∃l,cs= [.fn f l]∧Can r x l
 | .falt f r l,x,cs=>match x with
  | .inl y=>∃cap,cs= [.fn f cap]∧Can r y cap
  | .inr z=>(∀cap,cs≠ [.fn f cap])∧Can l z cs
 | .nsl,_,cs=>cs= [.sl (some true) []]
 | .nmap,_,cs=>cs= [.map (some true) [] []]
 | .nfn,_,cs=>cs= [.nilfn]
 | .nam N,_,cs=>cs= [.nam N]
 | .bptr N,_,cs=>cs= [.bptr N]∨cs= [.nam N]∨cs= [.nilp]
 | .nilp,_,cs=>cs= [.nilp]
 | .pt r,x,cs=>∃l,cs= [.wp l]∧Can r x l
 | .nw _ _ _,_,_=>False
 | .agg r,x,cs=>∃l,cs= [.agg l]∧Can r x l
 | .tup r,x,cs=>∃l,cs= [.tup l]∧Can r x l
 | .sl e,xs,cs=>∃nl es,cs= [.sl nl es]∧As (fun x c=>Can e x [c]) xs es
 | .map k v,m,cs=>∃nl ks vs,cs= [.map nl ks vs]∧As (fun x c=>Can k x.1 [c]) m ks∧As (fun x c=>Can v x.2 [c]) m vs
 | .nil,_,cs=>cs= []
 | .one t,x,cs=>∃c,cs= [c]∧Can t x [c]
 | .cons t r,x,cs=>∃c l,cs=c::l∧Can t x.1 [c]∧Can r x.2 l
def AA:(t:Ty)→D t→List CV
 | .int k,n=> [.int k n]
 | .bool,b=> [.bool b]
 | .str,s=> [.str s]
 | .err,b=> [if b then .nilif else .ifc]
 | .clo f r,x=> [.fn f (AA r x)]
 | .falt f r l,x=>match x with
  | .inl y=> [.fn f (AA r y)]
  | .inr z=>AA l z
 | .nsl,_=> [.sl (some true) []]
 | .nmap,_=> [.map (some true) [] []]
 | .nfn,_=> [.nilfn]
 | .nam N,_=> [.nam N]
 | .bptr N,_=> [.bptr N]
 | .nilp,_=> [.nilp]
 | .pt r,x=> [.wp (AA r x)]
 | .nw _ _ _,_=> []
 | .agg r,x=> [.agg (AA r x)]
 | .tup r,x=> [.tup (AA r x)]
 | .sl e,xs=> [.sl none (xs.map fun x=>(AA e x).headD .nilif)]
 | .map k v,m=> [.map none (m.map fun x=>(AA k x.1).headD .nilif) (m.map fun x=>(AA v x.2).headD .nilif)]
 | .nil,_=> []
 | .one t,x=> [(AA t x).headD .nilif]
 | .cons t r,x=>(AA t x.1).headD .nilif::AA r x.2
def enc(t:Ty)(x:D t):CV:=(AA t x).headD .nilif
def Ty.isFn:Ty→Bool
 | .clo _ _=>true
 | .nfn=>true
 | .falt _ _ l=>l.isFn
 |_=>false
theorem Jd:∀{t:Ty} {x:D t} {cs:List CV},t.isFn=true→Can t x cs→∃c,cs= [c]∧c.cells= [c]∧∀l,c≠ .agg l∧c≠ .tup l:=by
 intro t
 induction t with
 |clo f r _=>intro x cs _ h;unfold Can at h;obtain⟨l,rfl,_⟩:=h;exact⟨_,rfl,rfl,fun l=>⟨(fun e=>by cases e),(fun e=>by cases e)⟩⟩
 |nfn=>intro x cs _ h;unfold Can at h;subst h;exact⟨_,rfl,rfl,fun l=>⟨(fun e=>by cases e),(fun e=>by cases e)⟩⟩
 |falt f r l _ ihl=>
  intro x cs h hc
  cases x with
  |inl y=>unfold Can at hc;obtain⟨cap,rfl,_⟩:=hc;exact⟨_,rfl,rfl,fun l=>⟨(fun e=>by cases e),(fun e=>by cases e)⟩⟩
  |inr z=>unfold Can at hc;exact ihl h hc.2
 |_=>intro x cs h;cases h
def Ty.val:Ty→Bool
 | .nil| .one _| .cons _ _| .nw _ _ _=>false
 | .falt _ _ l=>l.isFn
 |_=>true
section
variable {α β:Type} {R S:α→β→Prop}
theorem As.length:∀{as:List α} {bs:List β},As R as bs→bs.length=as.length
 | [],_,h=>by unfold As at h;subst h;rfl
 |_::_,_,h=>by
  obtain⟨b,bs',rfl,_,h2⟩:=h;simp[As.length h2]
theorem As.get:∀{as:List α} {bs:List β} {i:Nat} {a:α},As R as bs→as[i]? =some a→∃b,bs[i]? =some b∧R a b
 | [],_,_,_,_,h=>by simp at h
 |_::_,_,0,_,hc,h=>by
  obtain⟨b,bs',rfl,h1,_⟩:=hc;simp at h;subst h;exact⟨b,rfl,h1⟩
 |_::_,_,i+1,_,hc,h=>by
  obtain⟨b,bs',rfl,_,h2⟩:=hc;simp only[List.getElem?_cons_succ]at h⊢;exact As.get h2 h
theorem As.getB:∀{as:List α} {bs:List β} {i:Nat} {b:β},As R as bs→bs[i]? =some b→∃a,as[i]? =some a∧R a b
 | [],_,_,_,hc,h=>by unfold As at hc;subst hc;simp at h
 |_::_,_,0,_,hc,h=>by
  obtain⟨b,bs',rfl,h1,_⟩:=hc;simp at h;subst h;exact⟨_,rfl,h1⟩
 |_::_,_,i+1,_,hc,h=>by
  obtain⟨b,bs',rfl,_,h2⟩:=hc;simp only[List.getElem?_cons_succ]at h⊢;exact As.getB h2 h
theorem As.mono:∀{as:List α} {bs:List β},(∀a b,a∈as→R a b→S a b)→As R as bs→As S as bs
 | [],_,_,h=>h
 |_::_,_,f,h=>by
  obtain⟨b,bs',rfl,h1,h2⟩:=h;exact⟨b,bs',rfl,f _ _ (by simp) h1,As.mono (fun a b ha=>f a b (by simp[ha])) h2⟩
theorem As.append:∀{as as':List α} {bs bs':List β},As R as bs→As R as' bs'→As R (as++as') (bs++bs')
 | [],_,_,_,h,k=>by unfold As at h;subst h;exact k
 |_::_,_,_,_,h,k=>by
  obtain⟨b,bs',rfl,h1,h2⟩:=h;exact⟨b,_,rfl,h1,As.append h2 k⟩
theorem As.take:∀(n:Nat) {as:List α} {bs:List β},As R as bs→As R (as.take n) (bs.take n)
 |0,_,_,_=>by simp[As]
 |n+1,[],_,h=>by unfold As at h;subst h;simp[As]
 |n+1,_::_,_,h=>by
  obtain⟨b,bs',rfl,h1,h2⟩:=h;exact⟨b,_,rfl,h1,As.take n h2⟩
theorem As.drop:∀(n:Nat) {as:List α} {bs:List β},As R as bs→As R (as.drop n) (bs.drop n)
 |0,_,_,h=>h
 |n+1,[],_,h=>by unfold As at h;subst h;simp[As]
 |n+1,_::_,_,h=>by
  obtain⟨b,bs',rfl,h1,h2⟩:=h;exact As.drop n h2
theorem As.set:∀(n:Nat) {as:List α} {bs:List β} {a:α} {b:β},As R as bs→R a b→As R (as.set n a) (bs.set n b)
 |_,[],_,_,_,h,_=>by unfold As at h;subst h;simp[As]
 |0,_::_,_,_,_,h,k=>by
  obtain⟨b,bs',rfl,h1,h2⟩:=h;exact⟨_,_,rfl,k,h2⟩
 |n+1,_::_,_,_,_,h,k=>by
  obtain⟨b,bs',rfl,h1,h2⟩:=h;exact⟨b,_,rfl,h1,As.set n h2 k⟩
theorem As.cons{a:α}{b:β}{as:List α}{bs:List β}(h:R a b)(k:As R as bs):As R (a::as) (b::bs):=⟨b,bs,rfl,h,k⟩
theorem As.nil:As R [] []:=rfl
theorem As.replicate{a:α}{b:β}(h:R a b):∀n,As R (List.replicate n a) (List.replicate n b)
 |0=>rfl
 |n+1=>⟨b,_,rfl,h,As.replicate h n⟩
theorem As.uniq:∀{as as':List α} {bs:List β},(∀a a' b,R a b→R a' b→a=a')→As R as bs→As R as' bs→as=as'
 | [],[],_,_,_,_=>rfl
 | [],_::_,_,_,h,k=>by
  obtain⟨b,bs',rfl,_⟩:=k;unfold As at h;cases h
 |_::_,[],_,_,h,k=>by
  obtain⟨b,bs',rfl,_⟩:=h;unfold As at k;cases k
 |_::_,_::_,_,f,h,k=>by
  obtain⟨b,bs',rfl,h1,h2⟩:=h;obtain⟨b2,bs2,e,k1,k2⟩:=k;cases e;rw[f _ _ _ h1 k1,As.uniq f h2 k2]
end
theorem Can.one:∀{t:Ty} {x:D t} {cs:List CV},t.val=true→Can t x cs→∃c,cs= [c]:=by
 intro t
 induction t with
 |falt f r l _ ihl=>
  intro x cs hv h
  cases x with
  |inl y=>unfold Can at h;obtain⟨l,h,_⟩:=h;exact⟨_,h⟩
  |inr z=>
   unfold Can at h;obtain⟨c,e,_⟩:=Jd (show l.isFn=true by simpa[Ty.val]using hv) h.2;exact⟨_,e⟩
 |agg=>intro x cs hv h;unfold Can at h;obtain⟨l,h,_⟩:=h;exact⟨_,h⟩
 |pt=>intro x cs hv h;unfold Can at h;obtain⟨l,h,_⟩:=h;exact⟨_,h⟩
 |bptr N=>intro x cs hv h;unfold Can at h;rcases h with h|h|h<;>exact⟨_,h⟩
 |nw=>intro x cs hv;cases hv
 |clo=>intro x cs hv h;unfold Can at h;obtain⟨l,h,_⟩:=h;exact⟨_,h⟩
 |tup=>intro x cs hv h;unfold Can at h;obtain⟨l,h,_⟩:=h;exact⟨_,h⟩
 |sl=>intro x cs hv h;unfold Can at h;obtain⟨_,_,h,_⟩:=h;exact⟨_,h⟩
 |map=>intro x cs hv h;unfold Can at h;obtain⟨_,_,_,h,_⟩:=h;exact⟨_,h⟩
 |nil=>intro x cs hv;cases hv
 |one=>intro x cs hv;cases hv
 |cons=>intro x cs hv;cases hv
 |_=>intro x cs hv h;unfold Can at h;exact⟨_,h⟩
theorem Can.uniq:∀(t:Ty) {x y:D t} {cs:List CV},Can t x cs→Can t y cs→x=y
 | .int _,_,_,_,h,k=>by unfold Can at h k;rw[h]at k;simpa using k
 | .bool,_,_,_,h,k=>by unfold Can at h k;rw[h]at k;simpa using k
 | .str,_,_,_,h,k=>by unfold Can at h k;rw[h]at k;simpa using k
 | .err,x,y,_,h,k=>by unfold Can at h k;rw[h]at k;cases x<;>cases y<;>simp_all
 | .clo f r,_,_,_,h,k=>by
  unfold Can at h k;obtain⟨l,rfl,h⟩:=h;obtain⟨l',e,k⟩:=k;cases e;exact Can.uniq r h k
 | .falt f r l,x,y,_,h,k=>by
  cases x with
  |inl a=>
   unfold Can at h;obtain⟨cap,rfl,h⟩:=h
   cases y with
   |inl a'=>
    unfold Can at k;obtain⟨cap',e,k⟩:=k;cases e;rw[Can.uniq r h k]
   |inr b'=>
    unfold Can at k;exact absurd rfl (k.1 cap)
  |inr b=>
   unfold Can at h
   cases y with
   |inl a'=>
    unfold Can at k;obtain⟨cap',e,k⟩:=k;exact absurd e (h.1 cap')
   |inr b'=>
    unfold Can at k;rw[Can.uniq l h.2 k.2]
 | .nsl,_,_,_,_,_=>rfl
 | .nmap,_,_,_,_,_=>rfl
 | .nfn,_,_,_,_,_=>rfl
 | .nam _,_,_,_,_,_=>rfl
 | .bptr _,_,_,_,_,_=>rfl
 | .nilp,_,_,_,_,_=>rfl
 | .pt r,_,_,_,h,k=>by
  unfold Can at h k;obtain⟨l,rfl,h⟩:=h;obtain⟨l',e,k⟩:=k;cases e;exact Can.uniq r h k
 | .nw _ _ _,_,_,_,h,_=>by unfold Can at h;exact h.elim
 | .agg r,_,_,_,h,k=>by
  unfold Can at h k;obtain⟨l,rfl,h⟩:=h;obtain⟨l',e,k⟩:=k;cases e;exact Can.uniq r h k
 | .tup r,_,_,_,h,k=>by
  unfold Can at h k;obtain⟨l,rfl,h⟩:=h;obtain⟨l',e,k⟩:=k;cases e;exact Can.uniq r h k
 | .sl e,_,_,_,h,k=>by
  unfold Can at h k;obtain⟨nl,es,rfl,h⟩:=h;obtain⟨nl',es',e',k⟩:=k;cases e';exact As.uniq (R:=fun x c=>Can e x [c]) (fun a a' b h k=>Can.uniq e h k) h k
 | .map kt vt,x,y,_,h,k=>by
  unfold Can at h k;obtain⟨nl,ks,vs,rfl,h1,h2⟩:=h;obtain⟨nl',ks',vs',e',k1,k2⟩:=k;cases e'
  have key:∀{m m':List (D kt×D vt)} {ks vs:List CV},As (fun x c=>Can kt x.1 [c]) m ks→As (fun x c=>Can vt x.2 [c]) m vs→As (fun x c=>Can kt x.1 [c]) m' ks→As (fun x c=>Can vt x.2 [c]) m' vs→m=m':=by
   intro m
   induction m with
   |nil=>
    intro m' ks vs a1 a2 b1 b2;have:=b1.length;unfold As at a1;subst a1;exact(List.eq_nil_of_length_eq_zero (by simpa using this.symm)).symm
   |cons p m ih=>
    intro m' ks vs a1 a2 b1 b2;obtain⟨c,ks,rfl,c1,a1⟩:=a1;obtain⟨d,vs,rfl,d1,a2⟩:=a2
    cases m' with
    |nil=>unfold As at b1;cases b1
    |cons p' m'=>
     obtain⟨c',ks',e,c1',b1⟩:=b1;cases e;obtain⟨d',vs',e,d1',b2⟩:=b2;cases e;rw[ih a1 a2 b1 b2];have e1:=Can.uniq kt c1 c1';have e2:=Can.uniq vt d1 d1';obtain⟨p1,p2⟩:=p;obtain⟨q1,q2⟩:=p';simp only at e1 e2;rw[e1,e2]
  exact key h1 h2 k1 k2
 | .nil,_,_,_,_,_=>rfl
 | .one t,_,_,_,h,k=>by
  unfold Can at h k;obtain⟨c,rfl,h⟩:=h;obtain⟨c',e,k⟩:=k;cases e;exact Can.uniq t h k
 | .cons t r,(a,b),(a',b'),_,h,k=>by
  unfold Can at h k;obtain⟨c,l,rfl,h1,h2⟩:=h;obtain⟨c',l',e,k1,k2⟩:=k;cases e;have e1:=Can.uniq t h1 k1;have e2:=Can.uniq r h2 k2;simp only at e1 e2;rw[e1,e2]
theorem An.plain{w:World}{M:MM}:∀(t:Ty) {x:D t} {cs:List CV} {vs:List Value},Can t x cs→Am w M cs vs→Am w M (AA t x) vs:=by
 have hd:∀(t:Ty),(∀{x:D t} {cs:List CV} {vs:List Value},Can t x cs→Am w M cs vs→Am w M (AA t x) vs)→∀{x:D t} {c:CV} {v:Value},Can t x [c]→An w M c v→An w M ((AA t x).headD .nilif) v:=by
  intro t ih x c v hc hr;have:=ih hc (Am.cons hr Am.nil);have hl:=this.length
  match he:AA t x with
  | []=>rw[he]at hl;simp at hl
  | [d]=>
   rw[he]at this;unfold Am at this;obtain⟨v',vs',e,h1,h2⟩:=this;cases e;exact h1
  |d::d'::ds=>rw[he]at hl;simp at hl
 have relL1:∀{c:CV} {vs:List Value},Am w M [c] vs→∃v,vs= [v]∧An w M c v:=by
  intro c vs h;unfold Am at h;obtain⟨v,vs',rfl,h1,h2⟩:=h;unfold Am at h2;subst h2;exact⟨v,rfl,h1⟩
 intro t
 induction t with
 |int k=>intro x cs vs h hr;unfold Can at h;subst h;exact hr
 |bool=>intro x cs vs h hr;unfold Can at h;subst h;exact hr
 |str=>intro x cs vs h hr;unfold Can at h;subst h;exact hr
 |err=>intro x cs vs h hr;unfold Can at h;subst h;exact hr
 |clo f r ih=>
  intro x cs vs h hr;unfold Can at h;obtain⟨l,rfl,h⟩:=h;obtain⟨v,rfl,hv⟩:=relL1 hr;refine Am.cons ?_ Am.nil;unfold An at hv⊢;obtain⟨us,e,hl⟩:=hv;exact⟨us,e,ih h hl⟩
 |falt f r l ih ihl=>
  intro x cs vs h hr
  cases x with
  |inl y=>
   unfold Can at h;obtain⟨cap,rfl,h⟩:=h;obtain⟨v,rfl,hv⟩:=relL1 hr;refine Am.cons ?_ Am.nil;unfold An at hv⊢;obtain⟨us,e,hl⟩:=hv;exact⟨us,e,ih h hl⟩
  |inr z=>
   unfold Can at h;exact ihl h.2 hr
 |nsl=>intro x cs vs h hr;unfold Can at h;subst h;exact hr
 |nmap=>intro x cs vs h hr;unfold Can at h;subst h;exact hr
 |nfn=>intro x cs vs h hr;unfold Can at h;subst h;exact hr
 |nam N=>intro x cs vs h hr;unfold Can at h;subst h;exact hr
 |nilp=>intro x cs vs h hr;unfold Can at h;subst h;exact hr
 |bptr N=>
  intro x cs vs h hr;unfold Can at h;unfold AA;rcases h with rfl|rfl|rfl
  ·exact hr
  ·obtain⟨v,rfl,hv⟩:=relL1 hr;refine Am.cons ?_ Am.nil;unfold An at hv⊢;exact .inr hv
  ·obtain⟨v,rfl,hv⟩:=relL1 hr;refine Am.cons ?_ Am.nil;unfold An at hv⊢;exact .inl hv
 |nw e size t _=>intro x cs vs h;unfold Can at h;exact h.elim
 |pt r ih=>
  intro x cs vs h hr;unfold Can at h;obtain⟨l,rfl,h⟩:=h;obtain⟨v,rfl,hv⟩:=relL1 hr;refine Am.cons ?_ Am.nil;unfold An at hv⊢;obtain⟨ad,ty,us,e,g1,g2,hl⟩:=hv;exact⟨ad,ty,us,e,g1,g2,ih h hl⟩
 |nil=>intro x cs vs h hr;unfold Can at h;subst h;exact hr
 |agg r ih=>
  intro x cs vs h hr;unfold Can at h;obtain⟨l,rfl,h⟩:=h;obtain⟨v,rfl,hv⟩:=relL1 hr;refine Am.cons ?_ Am.nil;unfold An at hv⊢;obtain⟨us,e,hl⟩:=hv;exact⟨us,e,ih h hl⟩
 |tup r ih=>
  intro x cs vs h hr;unfold Can at h;obtain⟨l,rfl,h⟩:=h;obtain⟨v,rfl,hv⟩:=relL1 hr;refine Am.cons ?_ Am.nil;unfold An at hv⊢;obtain⟨us,e,hl⟩:=hv;exact⟨us,e,ih h hl⟩
 |sl e ih=>
  intro x cs vs h hr;unfold Can at h;obtain⟨nl,es,rfl,h⟩:=h;obtain⟨v,rfl,hv⟩:=relL1 hr;refine Am.cons ?_ Am.nil;have hlen:=h.length;unfold An at hv⊢;obtain⟨a,n,c,ev,hn,hle,_,_,hc0,hmem⟩:=hv;refine⟨a,n,c,ev,by simp[hn,hlen],hle,(fun h=>by cases h),(fun h=>by cases h),hc0,fun hne=> ?_⟩
  obtain⟨ad,size,ea,hlt,hM,hE⟩:=hmem (by
   intro h0;subst h0;simp only[List.length_nil]at hlen
   exact hne (by simp[List.eq_nil_of_length_eq_zero hlen.symm]))
  refine⟨ad,size,ea,hlt,hM, ?_⟩;clear hne ea hn hlen
  have key:∀{xs:List (D e)} {es:List CV} {i:Nat},As (fun x c=>Can e x [c]) xs es→AQ w M ad size i es→AQ w M ad size i (xs.map fun x=>(AA e x).headD .nilif):=by
   intro xs
   induction xs with
   |nil=>intro es i _ _;unfold AQ;trivial
   |cons y ys ihx=>
    intro es i hc hE;obtain⟨c,es',rfl,h1,h2⟩:=hc;unfold AQ at hE;obtain⟨⟨u,g1,g2,g3⟩,g4⟩:=hE;simp only[List.map_cons];unfold AQ;exact⟨⟨u,hd e ih h1 g1,g2,g3⟩,ihx h2 g4⟩
  exact key h hE
 |map kt vt ihk ihv=>
  intro x cs vs h hr;unfold Can at h;obtain⟨nl,ks,us,rfl,h1,h2⟩:=h;obtain⟨v,rfl,hv⟩:=relL1 hr;refine Am.cons ?_ Am.nil;have hl1:=h1.length;have hl2:=h2.length;unfold An at hv⊢;obtain⟨r,ev,_,_,h0,hm⟩:=hv;refine⟨r,ev,(fun h=>by cases h),(fun h=>by cases h),fun hr0=> ?_,fun b hb=> ?_⟩
  ·obtain⟨e1,e2⟩:=h0 hr0;subst e1;have:x= []:=List.eq_nil_of_length_eq_zero (by simpa using hl1.symm);subst this;exact⟨rfl,rfl⟩
  ·obtain⟨hM,ens,ens',clk,hh,hE,hp,r1,r2⟩:=hm b hb;refine⟨hM,ens,ens',clk,hh,hE,hp, ?_, ?_⟩
   ·have key:∀(m:List (D kt×D vt)) (ks:List CV) (vs:List Value),As (fun x c=>Can kt x.1 [c]) m ks→Am w M ks vs→Am w M (m.map fun x=>(AA kt x.1).headD .nilif) vs:=by
     intro m
     induction m with
     |nil=>
      intro ks vs h1 r1;unfold As at h1;subst h1;exact r1
     |cons p m ihm=>
      intro ks vs h1 r1;obtain⟨c,ks',rfl,g1,g2⟩:=h1;unfold Am at r1;obtain⟨v',vs',e,q1,q2⟩:=r1;rw[e];exact Am.cons (hd kt ihk g1 q1) (ihm ks' vs' g2 q2)
    exact key _ _ _ h1 r1
   ·have key:∀(m:List (D kt×D vt)) (ks:List CV) (vs:List Value),As (fun x c=>Can vt x.2 [c]) m ks→Am w M ks vs→Am w M (m.map fun x=>(AA vt x.2).headD .nilif) vs:=by
     intro m
     induction m with
     |nil=>
      intro ks vs h1 r1;unfold As at h1;subst h1;exact r1
     |cons p m ihm=>
      intro ks vs h1 r1;obtain⟨c,ks',rfl,g1,g2⟩:=h1;unfold Am at r1;obtain⟨v',vs',e,q1,q2⟩:=r1;rw[e];exact Am.cons (hd vt ihv g1 q1) (ihm ks' vs' g2 q2)
    exact key _ _ _ h2 r2
 |one t ih=>
  intro x cs vs h hr;unfold Can at h;obtain⟨c,rfl,h⟩:=h;obtain⟨v,rfl,hv⟩:=relL1 hr;exact Am.cons (hd t ih h hv) Am.nil
 |cons t r iht ihr=>
  intro x cs vs h hr;unfold Can at h;obtain⟨c,l,rfl,h1,h2⟩:=h;unfold Am at hr;obtain⟨v,vs',rfl,h3,h4⟩:=hr;exact Am.cons (hd t iht h1 h3) (ihr h2 h4)
theorem An.enc{w:World}{M:MM}{t:Ty}{x:D t}{c:CV}{v:Value}(h:Can t x [c])(hr:An w M c v):An w M (enc t x) v:=by
 have:=An.plain t h (Am.cons hr Am.nil);have hl:=this.length;unfold WB.enc
 match he:AA t x with
 | []=>rw[he]at hl;simp at hl
 | [d]=>
  rw[he]at this;unfold Am at this;obtain⟨v',vs',e,h1,h2⟩:=this;cases e;exact h1
 |d::d'::ds=>rw[he]at hl;simp at hl
def Ty.fnNo(f:Nat):Ty→Bool
 | .clo g _=>g !=f
 | .nfn=>true
 | .falt g _ l=>g !=f&&l.fnNo f
 |_=>false
def Ty.ok:Ty→Bool
 | .agg r=> !r.val&&r.ok
 | .tup r=> !r.val&&r.ok
 | .pt r=> !r.val&&r.ok
 | .nw _ _ _=>false
 | .clo _ r=> !r.val&&r.ok
 | .falt f r l=> !r.val&&r.ok&&l.ok&&l.fnNo f
 | .sl e=>e.val&&e.ok
 | .map k v=>k.val&&k.ok&&v.val&&v.ok
 | .one t=>t.val&&t.ok
 | .cons t r=>t.val&&t.ok&& !r.val&&r.ok
 |_=>true
theorem S9{f:Nat}:∀{l:Ty} {x:D l},l.fnNo f=true→∀cap,AA l x≠ [.fn f cap]:=by
 intro l
 induction l with
 |clo g r _=>
  intro x h cap e;unfold AA at e;simp only[List.cons.injEq,CV.fn.injEq,and_true]at e;simp[Ty.fnNo]at h;exact h e.1
 |nfn=>intro x h cap e;unfold AA at e;cases e
 |falt g r l _ ihl=>
  intro x h cap e;simp only[Ty.fnNo,Af]at h
  cases x with
  |inl y=>
   unfold AA at e;simp only[List.cons.injEq,CV.fn.injEq,and_true]at e;simp at h;exact h.1 e.1
  |inr z=>unfold AA at e;exact ihl h.2 cap e
 |_=>intro x h;cases h
theorem Can.plain:∀(t:Ty) (x:D t),t.ok=true→Can t x (AA t x):=by
 have hd:∀(t:Ty),(∀(x:D t),t.ok=true→Can t x (AA t x))→∀(x:D t),t.val=true→t.ok=true→Can t x [(AA t x).headD .nilif]:=by
  intro t ih x hv ho;have h:=ih x ho;obtain⟨c,hc⟩:=h.one hv;rw[hc]at h⊢;exact h
 intro t
 induction t with
 |int k=>intro x _;unfold Can AA;rfl
 |bool=>intro x _;unfold Can AA;rfl
 |str=>intro x _;unfold Can AA;rfl
 |err=>intro x _;unfold Can AA;rfl
 |clo f r ih=>
  intro x h;simp only[Ty.ok,Af]at h;unfold Can AA;exact⟨_,rfl,ih x h.2⟩
 |falt f r l ih ihl=>
  intro x h;simp only[Ty.ok,Af]at h
  cases x with
  |inl y=>unfold Can AA;exact⟨_,rfl,ih y h.1.1.2⟩
  |inr z=>
   have h1:=ihl z h.1.2;have h2:∀cap,AA l z≠ [.fn f cap]:=S9 h.2;unfold Can;have e:AA (.falt f r l) (.inr z)=AA l z:=rfl;rw[e];exact⟨h2,h1⟩
 |nsl=>intro x _;unfold Can AA;rfl
 |nmap=>intro x _;unfold Can AA;rfl
 |nfn=>intro x _;unfold Can AA;rfl
 |nam N=>intro x _;unfold Can AA;rfl
 |bptr N=>intro x _;unfold Can AA;exact .inl rfl
 |nilp=>intro x _;unfold Can AA;rfl
 |nw e size t _=>intro x h;cases h
 |pt r ih=>
  intro x h;simp only[Ty.ok,Af]at h;unfold Can AA;exact⟨_,rfl,ih x h.2⟩
 |nil=>intro x _;unfold Can AA;rfl
 |agg r ih=>
  intro x h;simp only[Ty.ok,Af]at h;unfold Can AA;exact⟨_,rfl,ih x h.2⟩
 |tup r ih=>
  intro x h;simp only[Ty.ok,Af]at h;unfold Can AA;exact⟨_,rfl,ih x h.2⟩
 |sl e ih=>
  intro x h;simp only[Ty.ok,Af]at h;unfold Can AA;refine⟨none,_,rfl, ?_⟩
  induction x with
  |nil=>rfl
  |cons y ys ihx=>exact⟨_,_,rfl,hd e ih y h.1 h.2,ihx⟩
 |map kt vt ihk ihv=>
  intro x h;simp only[Ty.ok,Af]at h;obtain⟨⟨⟨h1,h2⟩,h3⟩,h4⟩:=h;unfold Can AA;refine⟨none,_,_,rfl, ?_, ?_⟩
  ·induction x with
   |nil=>rfl
   |cons y ys ihx=>exact⟨_,_,rfl,hd kt ihk _ h1 h2,ihx⟩
  ·induction x with
   |nil=>rfl
   |cons y ys ihx=>exact⟨_,_,rfl,hd vt ihv _ h3 h4,ihx⟩
 |one t ih=>
  intro x h;simp only[Ty.ok,Af]at h;unfold Can AA;exact⟨_,rfl,hd t ih x h.1 h.2⟩
 |cons t r iht ihr=>
  intro x h;simp only[Ty.ok,Af]at h;obtain⟨⟨⟨h1,h2⟩,h3⟩,h4⟩:=h;unfold Can AA;exact⟨_,_,rfl,hd t iht x.1 h1 h2,ihr x.2 h4⟩
theorem Can.enc{t:Ty}(x:D t)(hv:t.val=true)(ho:t.ok=true):Can t x [WB.enc t x]:=by
 have h:=Can.plain t x ho;obtain⟨c,hc⟩:=h.one hv;unfold WB.enc;rw[hc]at h⊢;exact h
def AE:Ty→Option Nat
 | .nil=>some 0
 | .one _=>some 1
 | .cons _ r=>(AE r).map (· +1)
 |_=>none
def Bq:Ty→Ty
 | .agg r=>r
 |t=>.one t
def EX:(t:Ty)→D t→D (Bq t)
 | .int _,x| .bool,x| .str,x| .err,x| .clo _ _,x| .falt _ _ _,x| .nfn,x| .nam _,x| .bptr _,x| .nilp,x| .pt _,x| .nw _ _ _,x| .nsl,x| .nmap,x| .agg _,x| .tup _,x| .sl _,x| .map _ _,x| .nil,x| .one _,x| .cons _ _,x=>x
def Ew:(r:Ty)→Nat→Option (Σ q:Ty,D r→D q)
 |r,0=>some ⟨r,fun x=>x⟩
 | .one _,1=>some ⟨.nil,fun _=>()⟩
 | .cons _ r,n+1=>match Ew r n with
  |some q=>some ⟨q.1,fun x=>q.2 x.2⟩
  |none=>none
 |_,_=>none
def D5:(r:Ty)→Nat→Option (Σ q:Ty,D r→D q)
 | .one t,1=>some ⟨.one t,fun x=>x⟩
 | .cons t _,1=>some ⟨.one t,fun x=>x.1⟩
 | .cons t r,n+2=>match D5 r (n+1)with
  |some q=>some ⟨.cons t q.1,fun x=>(x.1,q.2 x.2)⟩
  |none=>none
 |_,0=>some ⟨.nil,fun _=>()⟩
 |_,_=>none
def Dy:(r:Ty)→Nat→Option (Σ t:Ty,D r→D t)
 | .one t,0=>some ⟨t,fun x=>x⟩
 | .cons t _,0=>some ⟨t,fun x=>x.1⟩
 | .cons _ r,n+1=>match Dy r n with
  |some q=>some ⟨q.1,fun x=>q.2 x.2⟩
  |none=>none
 |_,_=>none
def Ki(r:Ty)(off n:Nat):Option (Σ q:Ty,D r→D q):=
 match Ew r off with
 |some p=>match D5 p.1 n with
  |some q=>some ⟨q.1,fun x=>q.2 (p.2 x)⟩
  |none=>none
 |none=>none
def E9:(r:Ty)→Nat→(t:Ty)→Option (Σ q:Ty,D r→D t→D q)
 | .one _,0,t=>some ⟨.one t,fun _ y=>y⟩
 | .cons _ r,0,t=>some ⟨.cons t r,fun x y=>(y,x.2)⟩
 | .cons u r,n+1,t=>match E9 r n t with
  |some q=>some ⟨.cons u q.1,fun x y=>(x.1,q.2 x.2 y)⟩
  |none=>none
 |_,_,_=>none
def Il:(p:Ty)→(r:Ty)→Nat→Option (Σ q:Ty,D r→D p→D q)
 | .one t,r,off=>E9 r off t
 | .cons t p,r,off=>match E9 r off t with
  |some q=>match Il p q.1 (off+1)with
   |some q'=>some ⟨q'.1,fun x y=>q'.2 (q.2 x y.1) y.2⟩
   |none=>none
  |none=>none
 |_,_,_=>none
theorem DL:∀{r:Ty} {n:Nat} {x:D r} {l:List CV},AE r=some n→Can r x l→l.length=n
 | .nil,_,_,_,hn,h=>by unfold Can at h;subst h;simpa[AE]using hn
 | .one t,_,_,_,hn,h=>by unfold Can at h;obtain⟨c,rfl,_⟩:=h;simpa[AE]using hn
 | .cons t r,n,x,l,hn,h=>by
  unfold Can at h;obtain⟨c,l',rfl,_,h⟩:=h;simp only[AE,Aa]at hn;obtain⟨m,hm,rfl⟩:=hn;simp[DL hm h]
theorem IM:∀{r:Ty} {n:Nat} {q:Σ q:Ty,D r→D q} {x:D r} {l:List CV},Ew r n=some q→Can r x l→Can q.1 (q.2 x) (l.drop n)∧(n=0∨n≤l.length):=by
 intro r n
 induction n generalizing r with
 |zero=>
  intro q x l h hc;have e:Ew r 0=some ⟨r,fun x=>x⟩:=by cases r<;>rfl
  rw[e]at h;cases h;exact⟨hc,.inl rfl⟩
 |succ n ih=>
  intro q x l h hc;cases r<;>(try simp[Ew]at h;done)
  ·rename_i t
   cases n with
   |zero=>
    change(some (⟨.nil,fun _=>()⟩:Σ q:Ty,D (.one t)→D q))=some q at h;cases h;unfold Can at hc;obtain⟨c,rfl,_⟩:=hc;exact⟨by simp[Can],.inr (by simp)⟩
   |succ n=>simp[Ew]at h
  ·rename_i t r;unfold Can at hc;obtain⟨c,l',rfl,_,hc⟩:=hc;simp only[Ew]at h;split at h<;>(try cases h;done);rename_i p hp;cases h;obtain⟨h1,h2⟩:=ih hp hc;exact⟨by simpa using h1,.inr (by simp;omega)⟩
theorem Kl:∀{n:Nat} {r:Ty} {q:Σ q:Ty,D r→D q} {x:D r} {l:List CV},D5 r n=some q→Can r x l→Can q.1 (q.2 x) (l.take n)∧n≤l.length:=by
 intro n
 induction n with
 |zero=>
  intro r q x l h hc;have e:D5 r 0=some ⟨.nil,fun _=>()⟩:=by cases r<;>rfl
  rw[e]at h;cases h;exact⟨by simp[Can],by omega⟩
 |succ n ih=>
  intro r q x l h hc;cases r<;>(try simp[D5]at h;done)
  ·rename_i t
   cases n with
   |zero=>
    change(some (⟨.one t,fun x=>x⟩:Σ q:Ty,D (.one t)→D q))=some q at h;cases h;have hc':=hc;unfold Can at hc';obtain⟨c,rfl,_⟩:=hc';exact⟨hc,by simp⟩
   |succ n=>simp[D5]at h
  ·rename_i t r;unfold Can at hc;obtain⟨c,l',rfl,h1,hc⟩:=hc
   cases n with
   |zero=>
    change(some (⟨.one t,fun x=>x.1⟩:Σ q:Ty,D (.cons t r)→D q))=some q at h;cases h;refine⟨?_,by simp⟩;simp only[List.take_succ_cons,List.take_zero];unfold Can;exact⟨c,rfl,h1⟩
   |succ n=>
    simp only[D5]at h;split at h<;>(try cases h;done);rename_i p hp;cases h;obtain⟨h3,h4⟩:=ih hp hc;refine⟨?_,by simp;omega⟩;simp only[List.take_succ_cons];unfold Can;exact⟨c,_,rfl,h1,h3⟩
theorem QK{r:Ty}{off n:Nat}{q:Σ q:Ty,D r→D q}{x:D r}{l:List CV}(h:Ki r off n=some q)(hc:Can r x l):Can q.1 (q.2 x) ((l.drop off).take n)∧(n≤l.length-off):=by
 unfold Ki at h;split at h<;>(try cases h;done);rename_i p hp;split at h<;>(try cases h;done);rename_i q' hq;cases h;obtain⟨h1,h2⟩:=Kl hq (IM hp hc).1;exact⟨h1,by simpa using h2⟩
theorem GU:∀{r:Ty} {n:Nat} {q:Σ q:Ty,D r→D q} {x:D r} {l:List CV},Dy r n=some q→Can r x l→∃c,l[n]? =some c∧Can q.1 (q.2 x) [c]:=by
 intro r n
 induction n generalizing r with
 |zero=>
  intro q x l h hc;cases r<;>(try simp[Dy]at h;done)
  ·simp only[Dy,Ac]at h;subst h;unfold Can at hc;obtain⟨c,rfl,h1⟩:=hc;exact⟨c,rfl,h1⟩
  ·simp only[Dy,Ac]at h;subst h;unfold Can at hc;obtain⟨c,l',rfl,h1,hc⟩:=hc;exact⟨c,rfl,h1⟩
 |succ n ih=>
  intro q x l h hc;cases r<;>(try simp[Dy]at h;done);rename_i t r;unfold Can at hc;obtain⟨c,l',rfl,h1,hc⟩:=hc;simp only[Dy]at h;split at h<;>(try cases h;done);rename_i p hp;cases h;simpa using ih hp hc
theorem Qz:∀{n:Nat} {r t:Ty} {q:Σ q:Ty,D r→D t→D q} {x:D r} {y:D t} {l:List CV} {c:CV},E9 r n t=some q→Can r x l→Can t y [c]→Can q.1 (q.2 x y) (l.set n c)∧n<l.length:=by
 intro n
 induction n with
 |zero=>
  intro r t q x y l c h hc hy;cases r<;>(try simp[E9]at h;done)
  ·simp only[E9,Ac]at h;subst h;unfold Can at hc;obtain⟨d,rfl,h1⟩:=hc;refine⟨?_,by simp⟩;simp only[List.set_cons_zero];unfold Can;exact⟨c,rfl,hy⟩
  ·simp only[E9,Ac]at h;subst h;unfold Can at hc;obtain⟨d,l',rfl,h1,hc⟩:=hc;refine⟨?_,by simp⟩;simp only[List.set_cons_zero];unfold Can;exact⟨c,_,rfl,hy,hc⟩
 |succ n ih=>
  intro r t q x y l c h hc hy;cases r<;>(try simp[E9]at h;done);rename_i u r;unfold Can at hc;obtain⟨d,l',rfl,h1,hc⟩:=hc;simp only[E9]at h;split at h<;>(try cases h;done);rename_i p hp;cases h;obtain⟨h2,h3⟩:=ih hp hc hy;refine⟨?_,by simp;omega⟩;simp only[List.set_cons_succ];unfold Can;exact⟨d,_,rfl,h1,h2⟩
theorem PD:∀{p r:Ty} {off:Nat} {q:Σ q:Ty,D r→D p→D q} {x:D r} {y:D p} {l cs:List CV},Il p r off=some q→Can r x l→Can p y cs→Can q.1 (q.2 x y) (l.take off++cs++l.drop (off+cs.length))∧off+cs.length≤l.length:=by
 intro p
 induction p with
 |one t iht=>
  intro r off q x y l cs h hc hy;have h':E9 r off t=some q:=h;unfold Can at hy;obtain⟨c,rfl,hy⟩:=hy;obtain⟨h1,h2⟩:=Qz h' hc hy;refine⟨?_,by simp;omega⟩;rw[List.set_eq_take_append_cons_drop,if_pos h2]at h1;simpa using h1
 |cons t p iht ihp=>
  intro r off q x y l cs h hc hy;unfold Can at hy;obtain⟨c,cs',rfl,hy1,hy2⟩:=hy;have h':=h;unfold Il at h';split at h'<;>(try cases h';done);rename_i q1 hq1;split at h'<;>(try cases h';done);rename_i q2 hq2;cases h';obtain⟨h1,h2⟩:=Qz hq1 hc hy1;obtain⟨h3,h4⟩:=ihp hq2 h1 hy2;simp only[List.length_set]at h4;refine⟨?_,by simp;omega⟩
  have e1:(l.set off c).take (off+1)=l.take off++ [c]:=by
   rw[List.set_eq_take_append_cons_drop,if_pos h2];rw[List.take_append,List.take_of_length_le (by simp;omega)];have:off+1-(l.take off).length=1:=by simp;omega
   rw[this];simp
  have e2:(l.set off c).drop (off+1+cs'.length)=l.drop (off+(cs'.length+1)):=by
   rw[List.drop_set_of_lt (by omega)]
   congr 1
   omega
  rw[e1,e2]at h3;simpa using h3
 |_=>intro r off q x y l cs h;cases h
theorem F8{t:Ty}{x:D t}{c:CV}(hv:t.val=true)(h:Can t x [c]):Can (Bq t) (EX t x) c.cells:=by
 cases t<;>(try(simp[Ty.val]at hv;done))
 case agg=>
  unfold Can at h;obtain⟨l,e,h⟩:=h;cases e;exact h
 all_goals(simp only[Bq,EX];have h':=h;unfold Can at h')
 case clo=>obtain⟨l,e,_⟩:=h';cases e;unfold Can;exact⟨_,rfl,h⟩
 case falt f r l=>
  have hc:c.cells= [c]:=by
   obtain⟨c',e,hc',_⟩:=Jd (t:=.falt f r l) (show l.isFn=true by simpa[Ty.val]using hv) h;cases e;exact hc'
  rw[hc];unfold Can;exact⟨_,rfl,h⟩
 case tup=>obtain⟨l,e,_⟩:=h';cases e;unfold Can;exact⟨_,rfl,h⟩
 case pt=>obtain⟨l,e,_⟩:=h';cases e;unfold Can;exact⟨_,rfl,h⟩
 case bptr=>rcases h' with e|e|e<;>(cases e;unfold Can;exact⟨_,rfl,h⟩)
 case sl=>obtain⟨_,_,e,_⟩:=h';cases e;unfold Can;exact⟨_,rfl,h⟩
 case map=>obtain⟨_,_,_,e,_⟩:=h';cases e;unfold Can;exact⟨_,rfl,h⟩
 case err=>cases h';unfold Can;cases x<;>exact⟨_,rfl,h⟩
 all_goals(cases h';unfold Can;exact⟨_,rfl,h⟩)
mutual
def Bf:CV→Option (Σ t:Ty,D t)
 | .int k n=>some ⟨.int k,n⟩
 | .bool b=>some ⟨.bool,b⟩
 | .str s=>some ⟨.str,s⟩
 | .nilif=>some ⟨.err,true⟩
 | .nilfn=>some ⟨.nfn,()⟩
 | .nilp=>some ⟨.nilp,()⟩
 | .nam N=>some ⟨.nam N,()⟩
 | .fn f []=>some ⟨.clo f .nil,()⟩
 | .sl (some true) []=>some ⟨.nsl,()⟩
 | .map (some true) [] []=>some ⟨.nmap,()⟩
 | .agg cs=>match Eu cs with
  |some q=>some ⟨.agg q.1,q.2⟩
  |none=>none
 |_=>none
def Eu:List CV→Option (Σ t:Ty,D t)
 | []=>some ⟨.nil,()⟩
 | [c]=>match Bf c with
  |some q=>some ⟨.one q.1,q.2⟩
  |none=>none
 |c::d::cs=>match Bf c,Eu (d::cs)with
  |some q,some p=>some ⟨.cons q.1 p.1,(q.2,p.2)⟩
  |_,_=>none
end
mutual
theorem Hx:∀{c:CV} {q:Σ t:Ty,D t},Bf c=some q→Can q.1 q.2 [c]
 | .int k n,q,h=>by simp only[Bf,Ac]at h;subst h;unfold Can;rfl
 | .bool b,q,h=>by simp only[Bf,Ac]at h;subst h;unfold Can;rfl
 | .str s,q,h=>by simp only[Bf,Ac]at h;subst h;unfold Can;rfl
 | .nilif,q,h=>by simp only[Bf,Ac]at h;subst h;unfold Can;rfl
 | .nilfn,q,h=>by simp only[Bf,Ac]at h;subst h;unfold Can;rfl
 | .nilp,q,h=>by simp only[Bf,Ac]at h;subst h;unfold Can;rfl
 | .nam _,q,h=>by simp only[Bf,Ac]at h;subst h;unfold Can;rfl
 | .sl nl es,q,h=>by
  match nl,es,h with
  |some true,[],h=>simp only[Bf,Ac]at h;subst h;unfold Can;rfl
  |none,_,h=>simp[Bf]at h
  |some false,_,h=>simp[Bf]at h
  |some true,_::_,h=>simp[Bf]at h
 | .map nl ks vs,q,h=>by
  match nl,ks,vs,h with
  |some true,[],[],h=>simp only[Bf,Ac]at h;subst h;unfold Can;rfl
  |none,_,_,h=>simp[Bf]at h
  |some false,_,_,h=>simp[Bf]at h
  |some true,_::_,_,h=>simp[Bf]at h
  |some true,[],_::_,h=>simp[Bf]at h
 | .agg cs,q,h=>by
  simp only[Bf]at h;split at h<;>(try cases h;done);rename_i p hp;cases h;unfold Can;exact⟨cs,rfl,G8 hp⟩
 | .rp _,q,h=>by simp[Bf]at h
 | .wp _,q,h=>by simp[Bf]at h
 | .fn f l,q,h=>by
  match l,h with
  | [],h=>simp only[Bf,Ac]at h;subst h;unfold Can;exact⟨[],rfl,by unfold Can;rfl⟩
  |_::_,h=>simp[Bf]at h
 | .tup _,q,h=>by simp[Bf]at h
 | .ifc,q,h=>by simp[Bf]at h
 | .adr _,q,h=>by simp[Bf]at h
 | .bptr _,q,h=>by simp[Bf]at h
theorem G8:∀{cs:List CV} {q:Σ t:Ty,D t},Eu cs=some q→Can q.1 q.2 cs
 | [],q,h=>by simp only[Eu,Ac]at h;subst h;unfold Can;rfl
 | [c],q,h=>by
  simp only[Eu]at h;split at h<;>(try cases h;done);rename_i p hp;cases h;unfold Can;exact⟨c,rfl,Hx hp⟩
 |c::d::cs,q,h=>by
  simp only[Eu]at h;split at h<;>(try cases h;done);rename_i p p' hp hp';cases h;unfold Can;exact⟨c,_,rfl,Hx hp,G8 hp'⟩
end
def FM(f:Nat)(r:Ty):(l:Ty)→Option (D r→D l)
 | .clo g r'=>if f=g then(if h:r=r' then some fun x=>h▸x else none)else none
 | .falt g r' l=>if f=g then(if h:r=r' then some fun x=>.inl (h▸x)else none)else match FM f r l with
  |some a=>some fun x=>.inr (a x)
  |none=>none
 |_=>none
def J2:(l:Ty)→Option (D l)
 | .nfn=>some ()
 | .falt _ _ l=>match J2 l with
  |some a=>some (.inr a)
  |none=>none
 |_=>none
theorem Pr:∀{l:Ty} {a:D l},J2 l=some a→Can l a [.nilfn]
 | .nfn,a,ha=>by unfold Can;rfl
 | .falt g r' l,a,ha=>by
  simp only[J2]at ha;split at ha<;>(try cases ha;done);rename_i a' ha';cases ha;unfold Can;exact⟨(fun cap' e=>by cases e),Pr ha'⟩
 | .clo _ _,_,ha| .int _,_,ha| .bool,_,ha| .str,_,ha| .err,_,ha| .nsl,_,ha| .nmap,_,ha| .nam _,_,ha| .bptr _,_,ha| .nilp,_,ha| .pt _,_,ha| .nw _ _ _,_,ha| .agg _,_,ha| .tup _,_,ha| .sl _,_,ha| .map _ _,_,ha| .nil,_,ha| .one _,_,ha| .cons _ _,_,ha=>by cases ha
theorem ID{f:Nat}{r:Ty}{x:D r}{cap:List CV}(h:Can r x cap):∀{l:Ty} {a:D r→D l},FM f r l=some a→Can l (a x) [.fn f cap]
 | .clo g r',a,ha=>by
  simp only[FM]at ha;split at ha<;>(try cases ha;done);rename_i hf;split at ha<;>(try cases ha;done);rename_i hr;subst hf;subst hr;cases ha;unfold Can;exact⟨cap,rfl,h⟩
 | .falt g r' l,a,ha=>by
  simp only[FM]at ha;split at ha
  ·rename_i hf;split at ha<;>(try cases ha;done);rename_i hr;subst hf;subst hr;cases ha;unfold Can;exact⟨cap,rfl,h⟩
  ·rename_i hf;split at ha<;>(try cases ha;done);rename_i a' ha';cases ha;unfold Can;exact⟨fun cap' e=>by simp only[List.cons.injEq,CV.fn.injEq,and_true]at e;exact hf e.1,ID h ha'⟩
 | .nfn,_,ha| .int _,_,ha| .bool,_,ha| .str,_,ha| .err,_,ha| .nsl,_,ha| .nmap,_,ha| .nam _,_,ha| .bptr _,_,ha| .nilp,_,ha| .pt _,_,ha| .agg _,_,ha| .tup _,_,ha| .sl _,_,ha| .map _ _,_,ha| .nil,_,ha| .one _,_,ha| .cons _ _,_,ha=>by cases ha
def G6:(l m:Ty)→Option (D l→D m)
 | .clo f r,m=>FM f r m
 | .nfn,m=>match J2 m with
  |some a=>some fun _=>a
  |none=>none
 | .falt f r l,m=>match FM f r m,G6 l m with
  |some a,some b=>some fun x=>match x with
   | .inl y=>a y
   | .inr z=>b z
  |_,_=>none
 |_,_=>none
theorem NB:∀{l m:Ty} {a:D l→D m} {x:D l} {cs:List CV},G6 l m=some a→Can l x cs→Can m (a x) cs:=by
 intro l
 induction l with
 |clo f r _=>
  intro m a x cs h hc;unfold Can at hc;obtain⟨cap,rfl,hc⟩:=hc;exact ID hc h
 |nfn=>
  intro m a x cs h hc;unfold Can at hc;subst hc;simp only[G6]at h;split at h<;>(try cases h;done);rename_i b hb;cases h;exact Pr hb
 |falt f r l _ ihl=>
  intro m a x cs h hc;simp only[G6]at h;split at h<;>(try cases h;done);rename_i a' b' ha hb;cases h
  cases x with
  |inl y=>
   unfold Can at hc;obtain⟨cap,rfl,hc⟩:=hc;exact ID hc ha
  |inr z=>
   unfold Can at hc;exact ihl hb hc.2
 |_=>intro m a x cs h;cases h
def AL:(t u:Ty)→Option (D t→D u)
 | .nsl,.sl _=>some fun _=> []
 | .nmap,.map _ _=>some fun _=> []
 | .nilp,.bptr _=>some fun _=>()
 | .nam N,.bptr N'=>if N=N' then some fun _=>()else none
 | .clo f r,.falt g r' l=>FM f r (.falt g r' l)
 | .nfn,.falt g r' l=>G6 .nfn (.falt g r' l)
 | .falt f r l,.falt g r' l'=>if h:Ty.falt f r l=.falt g r' l' then some fun x=>h▸x else G6 (.falt f r l) (.falt g r' l')
 | .agg r,.agg r'=>AL r r'
 | .tup r,.tup r'=>AL r r'
 | .one t,.one t'=>AL t t'
 | .cons t r,.cons t' r'=>match AL t t',AL r r' with
  |some f,some g=>some fun x=>(f x.1,g x.2)
  |_,_=>none
 |t,u=>if h:t=u then some fun x=>h▸x else none
theorem DB{t u:Ty}{f:D t→D u}(h:(if h:t=u then some (fun x=>h▸x:D t→D u)else none)=some f){x:D t}{cs:List CV}(hc:Can t x cs):Can u (f x) cs:=by
 split at h<;>(try cases h;done);rename_i e;subst e;cases h;exact hc
theorem BY:∀(t u:Ty) {f:D t→D u} {x:D t} {cs:List CV},AL t u=some f→Can t x cs→Can u (f x) cs:=by
 intro t
 induction t with
 |clo g r _=>
  intro u f x cs h hc
  cases u with
  |falt g' r' l=>
   unfold Can at hc;obtain⟨cap,rfl,hc⟩:=hc;exact ID hc h
  |_=>exact DB h hc
 |nfn=>
  intro u f x cs h hc
  cases u with
  |falt g' r' l'=>exact NB (l:=.nfn) (m:=.falt g' r' l') h hc
  |_=>exact DB h hc
 |falt g r l _ _=>
  intro u f x cs h hc
  cases u with
  |falt g' r' l'=>
   simp only[AL]at h;split at h
   ·rename_i e;cases e;cases h;exact hc
   ·exact NB (l:=.falt g r l) (m:=.falt g' r' l') h hc
  |_=>exact DB h hc
 |nsl=>
  intro u f x cs h hc
  cases u with
  |sl e=>
   simp only[AL,Ac]at h;subst h;unfold Can at hc⊢;exact⟨_,_,hc,rfl⟩
  |_=>exact DB h hc
 |nmap=>
  intro u f x cs h hc
  cases u with
  |map k v=>
   simp only[AL,Ac]at h;subst h;unfold Can at hc⊢;exact⟨_,_,_,hc,rfl,rfl⟩
  |_=>exact DB h hc
 |nilp=>
  intro u f x cs h hc
  cases u with
  |bptr N=>unfold Can at hc⊢;exact .inr (.inr hc)
  |_=>exact DB h hc
 |nam N=>
  intro u f x cs h hc
  cases u with
  |bptr N'=>
   simp only[AL]at h;split at h<;>(try cases h;done);rename_i e;subst e;unfold Can at hc⊢;exact .inr (.inl hc)
  |_=>exact DB h hc
 |agg r ih=>
  intro u f x cs h hc
  cases u with
  |agg r'=>
   unfold Can at hc⊢;obtain⟨l,e,hc⟩:=hc;exact⟨l,e,ih r' h hc⟩
  |_=>exact DB h hc
 |tup r ih=>
  intro u f x cs h hc
  cases u with
  |tup r'=>
   unfold Can at hc⊢;obtain⟨l,e,hc⟩:=hc;exact⟨l,e,ih r' h hc⟩
  |_=>exact DB h hc
 |one t ih=>
  intro u f x cs h hc
  cases u with
  |one t'=>
   unfold Can at hc⊢;obtain⟨c,e,hc⟩:=hc;exact⟨c,e,ih t' h hc⟩
  |_=>exact DB h hc
 |cons t r iht ihr=>
  intro u f x cs h hc
  cases u with
  |cons t' r'=>
   simp only[AL]at h;split at h<;>(try cases h;done);rename_i f1 g1 hf hg;cases h;unfold Can at hc⊢;obtain⟨c,l,e,h1,h2⟩:=hc;exact⟨c,l,e,iht t' hf h1,ihr r' hg h2⟩
  |_=>exact DB h hc
 |_=>intro u f x cs h hc;exact DB (by cases u<;>exact h) hc
inductive Dyn (A B:Type) where
 |tot (f:A→B)
 |par (f:A→Option B)
def Dyn.val{A B:Type}:Dyn A B→A→Option B
 | .tot f,a=>some (f a)
 | .par f,a=>f a
def Dyn.app{A B R:Type}(d:Dyn A B)(a:A)(K:B→Option R):Option R:=
 match d with
 | .tot f=>K (f a)
 | .par f=>(f a).bind K
def Dyn.map{A B C:Type}(g:A→B→C):Dyn A B→Dyn A C
 | .tot f=>.tot fun a=>g a (f a)
 | .par f=>.par fun a=>(f a).map (g a)
def Dyn.both{A B C:Type}:Dyn A B→Dyn A C→Dyn A (B×C)
 | .tot f,.tot g=>.tot fun a=>(f a,g a)
 |d,e=>.par fun a=>(d.val a).bind fun b=>(e.val a).map fun c=>(b,c)
def Dyn.comp{A B C:Type}:Dyn A B→Dyn B C→Dyn A C
 | .tot f,.tot g=>.tot fun a=>g (f a)
 | .tot f,.par g=>.par fun a=>g (f a)
 | .par f,.tot g=>.par fun a=>(f a).map g
 | .par f,.par g=>.par fun a=>(f a).bind g
section
variable {A B C R:Type}
theorem Dyn.app_some{d:Dyn A B}{a:A}{K:B→Option R}{r:R}(h:d.app a K=some r):∃b,d.val a=some b∧K b=some r:=by
 cases d with
 |tot f=>exact⟨_,rfl,h⟩
 |par f=>exact Ab.1 h
theorem Dyn.map_val{g:A→B→C}{d:Dyn A B}{a:A}{c:C}(h:(d.map g).val a=some c):∃b,d.val a=some b∧c=g a b:=by
 cases d with
 |tot f=>cases h;exact⟨_,rfl,rfl⟩
 |par f=>
  obtain⟨b,h1,h2⟩:=Aa.1 h;exact⟨b,h1,h2.symm⟩
theorem Dyn.both_val{d:Dyn A B}{e:Dyn A C}{a:A}{p:B×C}(h:(d.both e).val a=some p):d.val a=some p.1∧e.val a=some p.2:=by
 have key:∀{x:Option B} {y:Option C},(x.bind fun b=>y.map fun c=>(b,c))=some p→x=some p.1∧y=some p.2:=by
  intro x y h;obtain⟨b,h1,h2⟩:=Ab.1 h;obtain⟨c,h3,h4⟩:=Aa.1 h2;subst h4;exact⟨h1,h3⟩
 cases d<;>cases e
 ·cases h;exact⟨rfl,rfl⟩
 all_goals exact key h
theorem Dyn.comp_val{d:Dyn A B}{e:Dyn B C}{a:A}{c:C}(h:(d.comp e).val a=some c):∃b,d.val a=some b∧e.val b=some c:=by
 cases d<;>cases e
 ·exact⟨_,rfl,h⟩
 ·exact⟨_,rfl,h⟩
 ·obtain⟨b,h1,h2⟩:=Aa.1 h;exact⟨b,h1,by rw[←h2];rfl⟩
 ·exact Ab.1 h
end
inductive EK where
 |v (t:Ty)
 |opt (k:EK)
 |rp (ex:Bool) (r:Ty)
 |ptr (id off:Nat)
 |eptr (id size off:Nat)
 |aptr (id len off:Nat)
 |own (id:Nat)
 |mp (id:Nat)
 |iter (id:Nat)
 |ent (id:Nat) (k v:Ty)
 |stamp (id:Nat) (k:Ty)
 |undef
 |box (n:Nat) (bt:Option TypeId)
 |arr (e size:Nat) (t:Ty)
 |mob (mt:Nat) (k v:Ty)
 |sit
 |mit (k v:Ty)
 |mcur (k v:Ty)
 |gone
 |buf (e:Nat)
 deriving DecidableEq
@[reducible] def DK:EK→Type
 | .v t=>D t
 | .opt k=>Option (DK k)
 | .rp _ r=>D r
 | .eptr _ _ _=>Nat
 | .aptr _ _ _=>Nat
 | .ent _ k v=>D k×D v
 | .stamp _ k=>D k
 | .arr _ _ t=>List (D t)
 | .mob _ k v=>List (D k×D v)
 | .sit=>List UInt8×Nat
 | .mit k v=>List (D k×D v)
 | .mcur k v=>D k×D v
 | .buf _=>List UInt8
 |_=>Unit
inductive Key where
 |s (i:Nat)
 |o (id:Nat)
 |c (id j:Nat)
 deriving DecidableEq
abbrev TC:=List (Key×EK)
@[reducible] def HS:TC→Type
 | []=>Unit
 |e::Γ=>DK e.2×HS Γ
def get:(Γ:TC)→Key→Option (Σ k:EK,HS Γ→DK k)
 | [],_=>none
 |e::Γ,p=>if e.1=p then some ⟨e.2,fun ρ=>ρ.1⟩else match get Γ p with
  |some q=>some ⟨q.1,fun ρ=>q.2 ρ.2⟩
  |none=>none
theorem Cr(Γ:TC)(p:Key)(k:EK):get ((p,k)::Γ) p=some ⟨k,fun ρ=>ρ.1⟩:=by simp[get]
theorem BU{Γ:TC}{q p:Key}{k:EK}(h:q≠p){r:Σ k':EK,HS ((q,k)::Γ)→DK k'}(hg:get ((q,k)::Γ) p=some r):∃f,get Γ p=some ⟨r.1,f⟩∧∀ρ,r.2 ρ=f ρ.2:=by
 unfold get at hg;rw[if_neg h]at hg;split at hg<;>(try cases hg;done);rename_i t ht;cases hg;exact⟨t.2,ht,fun _=>rfl⟩
def E3:Ty→KT
 | .int k=>.int k
 | .str=>.str
 | .bool=>.bool
 |_=>.struct []
def E2:Ty→List KT
 | .one t=> [E3 t]
 | .cons t r=>E3 t::E2 r
 |_=> []
def ktT:Ty→KT
 | .agg r=>.struct (E2 r)
 |t=>E3 t
def Bj:(t:Ty)→D t
 | .int _=>0
 | .bool=>false
 | .str=> []
 | .err=>true
 | .clo _ r=>Bj r
 | .falt _ r _=>.inl (Bj r)
 | .nsl=>()
 | .nmap=>()
 | .nfn=>()
 | .nam _=>()
 | .bptr _=>()
 | .nilp=>()
 | .pt r=>Bj r
 | .nw _ _ _=> []
 | .agg r=>Bj r
 | .tup r=>Bj r
 | .sl _=> []
 | .map _ _=> []
 | .nil=>()
 | .one t=>Bj t
 | .cons t r=>(Bj t,Bj r)
def RS:(k:EK)→DK k→SV→Prop
 | .v t,x,sv=>∃c,sv=.c c∧Can t x [c]
 | .opt k,x,sv=>match x with
  |none=>sv=AP
  |some y=>RS k y sv
 | .rp ex r,x,sv=>∃cs rest,sv=.c (.rp (cs++rest))∧Can r x cs∧(ex=true→rest= [])
 | .ptr id o,_,sv=>sv=.ptr id o
 | .eptr id s o,i,sv=>sv=.eptr id i s o
 | .aptr id n o,i,sv=>sv=.ptr id (o+i)∧i<n
 | .own id,_,sv=>sv=.osl id
 | .mp id,_,sv=>sv=.omap id
 | .iter id,_,sv=>sv=.iter id
 | .ent id k v,x,sv=>∃ck cv,sv=.ent id ck cv∧Can k x.1 [ck]∧Can v x.2 [cv]
 | .stamp id k,x,sv=>∃ck,sv=.stamp id ck∧Can k x [ck]
 | .undef,_,_=>True
 |_,_,_=>False
def RO(Γ:TC)(ρ:HS Γ)(id:Nat):(k:EK)→DK k→Ob→Prop
 | .box n bt,_,ob=>∃cs,ob=.box cs bt∧cs.length=n∧∀j q,j<n→get Γ (.c id j)=some q→∃sv,cs[j]? =some sv∧RS q.1 (q.2 ρ) sv
 | .arr e size t,xs,ob=>∃es,ob=.arr e size es∧As (fun x c=>Can t x [c]) xs es
 | .mob mt k v,m,ob=>∃z ks vs,ob=.map mt (ktT k) z ks vs∧Can v (Bj v) [z]∧As (fun x c=>Can k x.1 [c]) m ks∧As (fun x c=>Can v x.2 [c]) m vs
 | .sit,x,ob=>ob=.siter x.1 x.2
 | .mit k v,m,ob=>∃ks vs cur,ob=.miter ks vs cur∧As (fun x c=>Can k x.1 [c]) m ks∧As (fun x c=>Can v x.2 [c]) m vs
 | .mcur k v,x,ob=>∃ks vs ck cv,ob=.miter ks vs (some (ck,cv))∧Can k x.1 [ck]∧Can v x.2 [cv]
 | .gone,_,ob=>ob=.none
 | .buf e,s,ob=>ob=.buf e s
 | .undef,_,_=>True
 |_,_,_=>False
structure Rep (Γ:TC) (ρ:HS Γ) (st:St):Prop where
 s:∀i q,get Γ (.s i)=some q→RS q.1 (q.2 ρ) (st.fr i)
 o:∀id q,get Γ (.o id)=some q→RO Γ ρ id q.1 (q.2 ρ) (st.ob id)
theorem RO.congr{Γ Γ':TC}{ρ:HS Γ}{ρ':HS Γ'}{id:Nat}{k:EK}{x:DK k}{ob:Ob}(h:RO Γ ρ id k x ob)(hc:∀j q,get Γ' (.c id j)=some q→∃f,get Γ (.c id j)=some ⟨q.1,f⟩∧q.2 ρ'=f ρ):RO Γ' ρ' id k x ob:=by
 cases k<;>try exact h
 unfold RO at h⊢;obtain⟨cs,e,hl,hh⟩:=h;refine⟨cs,e,hl,fun j q hj hq=> ?_⟩;obtain⟨f,hf,hx⟩:=hc j q hq;obtain⟨sv,h1,h2⟩:=hh j _ hj hf;exact⟨sv,h1,hx▸h2⟩
theorem Rep.set{Γ:TC}{ρ:HS Γ}{st:St}(h:Rep Γ ρ st){d:Nat}{k:EK}{x:DK k}{sv:SV}(hs:RS k x sv):Rep ((.s d,k)::Γ) (x,ρ) (st.set (some d) (sv)):=by
 refine⟨fun i q hq=> ?_,fun id q hq=> ?_⟩
 ·by_cases hi:d=i
  ·subst hi;rw[Cr]at hq;cases hq;simpa[St.set,upd]using hs
  ·obtain⟨f,hf,hx⟩:=BU (by simpa using hi) hq;have:=h.s i _ hf;rw[hx];simpa[St.set,upd,Ne.symm hi]using this
 ·obtain⟨f,hf,hx⟩:=BU (by simp) hq;have:=h.o id _ hf;rw[hx];refine RO.congr this fun j q' hq'=> ?_;obtain⟨f',hf',hx'⟩:=BU (by simp) hq';exact⟨f',hf',hx' _⟩
def lAt{α:Type}(xs:List α)(n:Int):Option α:=if 0≤n∧n<xs.length then xs[n.toNat]? else none
def sAt(s:List UInt8)(n:Int):Option Int:=if 0≤n∧n<s.length then(s[n.toNat]?).map fun b=>(b.toNat:Int)else none
def CQ{α:Type}(xs:List α)(lo hi:Int):Option (List α):=if 0≤lo∧lo≤hi∧hi≤xs.length then some ((xs.take hi.toNat).drop lo.toNat)else none
def Dg(op:BinOp)(k:IntKind)(x y:Int):Int:=
 match op with
 | .and=>k.wrap (BitVec.ofInt k.bits x&&&BitVec.ofInt k.bits y).toNat
 | .or=>k.wrap (BitVec.ofInt k.bits x|||BitVec.ofInt k.bits y).toNat
 | .xor=>k.wrap (BitVec.ofInt k.bits x^^^BitVec.ofInt k.bits y).toNat
 |_=>k.wrap (BitVec.ofInt k.bits x&&& ~~~(BitVec.ofInt k.bits y)).toNat
def BL{α β:Type}(eq:α→α→Bool)(z:β)(x:α):List (α×β)→β×Bool
 | []=>(z,false)
 |p::m=>if eq x p.1 then(p.2,true)else BL eq z x m
def Bu{α β:Type}(eq:α→α→Bool)(x:α)(y:β):List (α×β)→List (α×β)
 | []=> [(x,y)]
 |p::m=>if eq x p.1 then(p.1,y)::m else p::Bu eq x y m
section
variable (G:Nat→List CV) (Γ:TC)
def rdV:SO→Option (Σ t:Ty,Dyn (HS Γ) (D t))
 | .t i=>match get Γ (.s i)with
  |some ⟨.v t,f⟩=>some ⟨t,.tot f⟩
  |some ⟨.opt (.v t),f⟩=>some ⟨t,.par f⟩
  |_=>none
 | .k c=>match Bf c with
  |some q=>some ⟨q.1,.tot fun _=>q.2⟩
  |none=>none
 | .g _=>none
def rdK:SO→Option (Σ k:EK,Dyn (HS Γ) (DK k))
 | .t i=>match get Γ (.s i)with
  |some ⟨.opt k,f⟩=>some ⟨k,.par f⟩
  |some q=>some ⟨q.1,.tot q.2⟩
  |none=>none
 | .k c=>match Bf c with
  |some q=>some ⟨.v q.1,.tot fun _=>q.2⟩
  |none=>none
 | .g i=>match G i,Eu (G i)with
  |_::_,some q=>some ⟨.rp true q.1,.tot fun _=>q.2⟩
  |_,_=>none
end
section
variable {G:Nat→List CV} {Γ:TC} {ρ:HS Γ} {st:St}
theorem A3{x:SO}{q:Σ t:Ty,Dyn (HS Γ) (D t)}(h:rdV Γ x=some q)(hr:Rep Γ ρ st){a:D q.1}(ha:q.2.val ρ=some a):∃c,so G st.fr x=.c c∧Can q.1 a [c]:=by
 cases x with
 |t i=>
  simp only[rdV]at h;split at h
  ·rename_i t f hg;cases h;cases ha;exact hr.s i _ hg
  ·rename_i t f hg;cases h;have:=hr.s i _ hg;have ha':f ρ=some a:=ha;unfold RS at this;simp only[ha']at this;unfold RS at this;exact this
  ·cases h
 |k c=>
  simp only[rdV]at h;split at h<;>(try cases h;done);rename_i p hp;cases h;cases ha;exact⟨c,rfl,Hx hp⟩
 |g i=>cases h
theorem AJ{x:SO}{q:Σ k:EK,Dyn (HS Γ) (DK k)}(h:rdK G Γ x=some q)(hr:Rep Γ ρ st){a:DK q.1}(ha:q.2.val ρ=some a):RS q.1 a (so G st.fr x):=by
 cases x with
 |t i=>
  simp only[rdK]at h;split at h
  ·rename_i t f hg;cases h;have:=hr.s i _ hg;have ha':f ρ=some a:=ha;unfold RS at this;simp only[ha']at this;exact this
  ·rename_i p hp hg;cases h;cases ha;exact hr.s i _ hg
  ·cases h
 |k c=>
  simp only[rdK]at h;split at h<;>(try cases h;done);rename_i p hp;cases h;cases ha;exact⟨c,rfl,Hx hp⟩
 |g i=>
  simp only[rdK]at h;split at h<;>(try cases h;done);rename_i c cs p hG hp;cases h;cases ha;refine⟨G i,[], ?_,G8 hp,fun _=>rfl⟩;simp[so,hG]
end
def KG(op:BinOp)(k:IntKind):Option (Σ t:Ty,Dyn (Int×Int) (D t)):=
 match op with
 | .add=>some ⟨.int k,.tot fun p=>k.wrap (p.1+p.2)⟩
 | .sub=>some ⟨.int k,.tot fun p=>k.wrap (p.1-p.2)⟩
 | .mul=>some ⟨.int k,.tot fun p=>k.wrap (p.1*p.2)⟩
 | .quo=>some ⟨.int k,.par fun p=>if p.2=0 then none else some (k.wrap (p.1.tdiv p.2))⟩
 | .rem=>some ⟨.int k,.par fun p=>if p.2=0 then none else some (p.1.tmod p.2)⟩
 | .and=>some ⟨.int k,.tot fun p=>Dg .and k p.1 p.2⟩
 | .or=>some ⟨.int k,.tot fun p=>Dg .or k p.1 p.2⟩
 | .xor=>some ⟨.int k,.tot fun p=>Dg .xor k p.1 p.2⟩
 | .andNot=>some ⟨.int k,.tot fun p=>Dg .andNot k p.1 p.2⟩
 | .eql=>some ⟨.bool,.tot fun p=>p.1==p.2⟩
 | .neq=>some ⟨.bool,.tot fun p=>p.1 !=p.2⟩
 | .lss=>some ⟨.bool,.tot fun p=>decide (p.1<p.2)⟩
 | .leq=>some ⟨.bool,.tot fun p=>decide (p.1≤p.2)⟩
 | .gtr=>some ⟨.bool,.tot fun p=>decide (p.1>p.2)⟩
 | .geq=>some ⟨.bool,.tot fun p=>decide (p.1≥p.2)⟩
 |_=>none
def KH(op:BinOp):Option (Σ t:Ty,Dyn (List UInt8×List UInt8) (D t)):=
 match op with
 | .add=>some ⟨.str,.par fun p=>if p.1.length+p.2.length≤4611686018427387904 then some (p.1++p.2)else none⟩
 | .eql=>some ⟨.bool,.tot fun p=>p.1==p.2⟩
 | .neq=>some ⟨.bool,.tot fun p=> !(p.1==p.2)⟩
 | .lss=>some ⟨.bool,.tot fun p=>Ei p.1 p.2⟩
 | .leq=>some ⟨.bool,.tot fun p=>Ei p.1 p.2||p.1==p.2⟩
 | .gtr=>some ⟨.bool,.tot fun p=> !(Ei p.1 p.2||p.1==p.2)⟩
 | .geq=>some ⟨.bool,.tot fun p=> !(Ei p.1 p.2)⟩
 |_=>none
def KF(op:BinOp):(t u:Ty)→Option (Σ v:Ty,Dyn (D t×D u) (D v))
 | .int k,.int k'=>match op with
  | .shl=>some ⟨.int k,.par fun p=>if p.2<0 then none else some (k.wrap (p.1*2^(min p.2.toNat k.bits)))⟩
  | .shr=>some ⟨.int k,.par fun p=>if p.2<0 then none else some (p.1.fdiv (2^(min p.2.toNat k.bits)))⟩
  |_=>if k=k' then KG op k else none
 | .str,.str=>KH op
 |_,_=>none
theorem R4{op:BinOp}{k:IntKind}{q:Σ t:Ty,Dyn (Int×Int) (D t)}(h:KG op k=some q){a b:Int}{x:D q.1}(hx:q.2.val (a,b)=some x):∃c,FJ op k a b=some c∧Can q.1 x [c]:=by
 cases op<;>simp only[KG,Ac,reduceCtorEq]at h<;>cases h
 case quo=>
  simp only[Dyn.val]at hx;split at hx<;>(try cases hx;done);rename_i hb;cases hx;exact⟨_,by simp only[FJ];rw[if_neg hb],by unfold Can;rfl⟩
 case rem=>
  simp only[Dyn.val]at hx;split at hx<;>(try cases hx;done);rename_i hb;cases hx;exact⟨_,by simp only[FJ];rw[if_neg hb],by unfold Can;rfl⟩
 all_goals
  cases hx;exact⟨_,rfl,by unfold Can;rfl⟩
theorem R5{op:BinOp}{q:Σ t:Ty,Dyn (List UInt8×List UInt8) (D t)}(h:KH op=some q){a b:List UInt8}{x:D q.1}(hx:q.2.val (a,b)=some x):∃c,Hs op a b=some c∧Can q.1 x [c]:=by
 cases op<;>simp only[KH,Ac,reduceCtorEq]at h<;>cases h
 case add=>
  simp only[Dyn.val]at hx;split at hx<;>(try cases hx;done);rename_i hb;cases hx;exact⟨_,by simp only[Hs];rw[if_pos hb],by unfold Can;rfl⟩
 all_goals
  cases hx;exact⟨_,rfl,by unfold Can;rfl⟩
theorem R6{op:BinOp}{t u:Ty}{q:Σ v:Ty,Dyn (D t×D u) (D v)}(h:KF op t u=some q){a:D t}{b:D u}{ca cb:CV}(ha:Can t a [ca])(hb:Can u b [cb]){x:D q.1}(hx:q.2.val (a,b)=some x):
  ∃c,D9 op ca cb=some c∧Can q.1 x [c]:=by
 unfold KF at h;split at h
 ·rename_i k k';unfold Can at ha hb;cases ha;cases hb;split at h
  ·cases h;simp only[Dyn.val]at hx;split at hx<;>(try cases hx;done);rename_i hneg;cases hx;exact⟨_,by simp only[D9];rw[if_neg hneg],by unfold Can;rfl⟩
  ·cases h;simp only[Dyn.val]at hx;split at hx<;>(try cases hx;done);rename_i hneg;cases hx;exact⟨_,by simp only[D9];rw[if_neg hneg],by unfold Can;rfl⟩
  ·rename_i hl hr;split at h<;>(try cases h;done);rename_i hk;subst hk;obtain⟨c,h1,h2⟩:=R4 h hx;refine⟨c, ?_,h2⟩;cases op<;>first|(exact(hl rfl).elim)|(exact(hr rfl).elim)|(simp only[D9,if_true];exact h1)
 ·unfold Can at ha hb;cases ha;cases hb;exact R5 h hx
 ·cases h
def H2:KT→(t u:Ty)→Option (D t→D u→Bool)
 | .int _,.int k,.int k'=>if k=k' then some fun(a b:Int)=>a==b else none
 | .str,.str,.str=>some fun(a b:List UInt8)=>a==b
 | .bool,.bool,.bool=>some fun(a b:Bool)=>a==b
 |_,_,_=>none
def H3:(r s:Ty)→List KT→Option (D r→D s→Bool)
 | .nil,.nil,ks=>if ks.isEmpty then some fun _ _=>true else none
 | .one t,.one u,ks=>match ks with
  | [k]=>H2 k t u
  |_=>none
 | .cons t r,.cons u s,ks=>match ks with
  |k::ks=>match H2 k t u,H3 r s ks with
   |some f,some g=>some fun x y=>f x.1 y.1&&g x.2 y.2
   |_,_=>none
  | []=>none
 |_,_,_=>none
theorem NX{k:KT}{t u:Ty}{f:D t→D u→Bool}(h:H2 k t u=some f){a:D t}{b:D u}{ca cb:CV}(ha:Can t a [ca])(hb:Can u b [cb]):eq1 k ca cb=some (f a b):=by
 unfold H2 at h;split at h
 ·split at h<;>(try cases h;done);rename_i hk;cases h;unfold Can at ha hb;cases ha;cases hb;simp[eq1,hk]
 ·cases h;unfold Can at ha hb;cases ha;cases hb;rfl
 ·cases h;unfold Can at ha hb;cases ha;cases hb;rfl
 ·cases h
theorem SB:∀{r s:Ty} {ks:List KT} {f:D r→D s→Bool},H3 r s ks=some f→∀{a:D r} {b:D s} {la lb:List CV},Can r a la→Can s b lb→eqL ks la lb=some (f a b):=by
 intro r
 induction r with
 |nil=>
  intro s ks f h a b la lb ha hb;cases s<;>(try cases h;done);simp only[H3,Ad,Ac]at h;obtain⟨hk,rfl⟩:=h;cases ks<;>simp at hk;unfold Can at ha hb;subst ha;subst hb;rfl
 |one t=>
  intro s ks f h a b la lb ha hb;cases s<;>(try cases h;done);rename_i u
  match ks,h with
  | [k],h=>
   unfold Can at ha hb;obtain⟨ca,rfl,ha⟩:=ha;obtain⟨cb,rfl,hb⟩:=hb;have h':H2 k t u=some f:=h;simp[eqL,NX h' ha hb]
  | [],h=>cases h
  |_::_::_,h=>cases h
 |cons t r iht ihr=>
  intro s ks f h a b la lb ha hb;cases s<;>(try cases h;done)
  match ks,h with
  | [],h=>cases h
  |k::ks,h=>
   simp only[H3]at h;split at h<;>(try cases h;done);rename_i f1 g1 hf hg;cases h;unfold Can at ha hb;obtain⟨ca,la',rfl,ha1,ha2⟩:=ha;obtain⟨cb,lb',rfl,hb1,hb2⟩:=hb;simp[eqL,NX hf ha1 hb1,ihr hg ha2 hb2]
 |_=>
  intro s ks f h;cases s<;>cases h
def GW:Ty→Bool
 | .int _| .str| .bool=>true
 |_=>false
def JK:Ty→Bool
 | .one t=>GW t
 | .cons t r=>GW t&&JK r
 |_=>false
def Eh:Ty→Bool
 | .agg r=>JK r
 |t=>GW t
def IS:(t:Ty)→D t→D t→Bool
 | .int _,a,b=>(a:Int)==b
 | .str,a,b=>(a:List UInt8)==b
 | .bool,a,b=>(a:Bool)==b
 |_,_,_=>false
def H4:(r:Ty)→D r→D r→Bool
 | .one t,a,b=>IS t a b
 | .cons t r,a,b=>IS t a.1 b.1&&H4 r a.2 b.2
 |_,_,_=>false
def eqZ:(t:Ty)→D t→D t→Bool
 | .agg r,a,b=>H4 r a b
 | .int _,a,b=>(a:Int)==b
 | .str,a,b=>(a:List UInt8)==b
 | .bool,a,b=>(a:Bool)==b
 |_,_,_=>false
theorem Oe{t:Ty}(hp:GW t=true){a b:D t}{ca cb:CV}(ha:Can t a [ca])(hb:Can t b [cb]):eq1 (E3 t) ca cb=some (IS t a b)∧Be (E3 t) ca=true:=by
 cases t<;>simp only[GW,Ag]at hp<;>(unfold Can at ha hb;cases ha;cases hb;simp[eq1,IS,E3,Be])
theorem SC:∀{r:Ty} (_:JK r=true) {a b:D r} {la lb:List CV},Can r a la→Can r b lb→eqL (E2 r) la lb=some (H4 r a b)∧Bm (E2 r) la=true:=by
 intro r
 induction r with
 |one t=>
  intro hp a b la lb ha hb;unfold Can at ha hb;obtain⟨ca,rfl,ha⟩:=ha;obtain⟨cb,rfl,hb⟩:=hb;have:=Oe hp ha hb;simp[E2,eqL,H4,Bm,this.1,this.2]
 |cons t r iht ihr=>
  intro hp a b la lb ha hb;simp only[JK,Af]at hp;unfold Can at ha hb;obtain⟨ca,la',rfl,ha1,ha2⟩:=ha;obtain⟨cb,lb',rfl,hb1,hb2⟩:=hb;have h1:=Oe hp.1 ha1 hb1;have h2:=ihr hp.2 ha2 hb2;simp[E2,eqL,H4,Bm,h1.1,h1.2,h2.1,h2.2]
 |_=>intro hp;cases hp
theorem FR{k:Ty}(hp:Eh k=true){a b:D k}{ca cb:CV}(ha:Can k a [ca])(hb:Can k b [cb]):BV (ktT k) ca cb=eqZ k a b∧A6 (ktT k) ca=true:=by
 cases k<;>simp only[Eh,GW,Ag]at hp
 case agg r=>
  unfold Can at ha hb;obtain⟨la,e,ha⟩:=ha;cases e;obtain⟨lb,e,hb⟩:=hb;cases e;have:=SC hp ha hb;simp[ktT,BV,A6,eqZ,this.1,this.2]
 all_goals(unfold Can at ha hb;cases ha;cases hb;simp[eq1,eqZ,ktT,E3,BV,A6,Be])
theorem Js{k v:Ty}(hp:Eh k=true){x:D k}{cx:CV}(hx:Can k x [cx]){zv:D v}{z:CV}(hz:Can v zv [z]):∀{m:List (D k×D v)} {ks vs:List CV},As (fun x c=>Can k x.1 [c]) m ks→As (fun x c=>Can v x.2 [c]) m vs→
  ∃c,AB (ktT k) z ks vs cx=(c,(BL (eqZ k) zv x m).2)∧Can v (BL (eqZ k) zv x m).1 [c]
 | [],ks,vs,h1,h2=>by
  unfold As at h1 h2;subst h1;subst h2;exact⟨z,rfl,hz⟩
 |p::m,ks,vs,h1,h2=>by
  obtain⟨ck,ks',rfl,g1,h1⟩:=h1;obtain⟨cv,vs',rfl,g2,h2⟩:=h2;have he:=(FR hp hx g1).1;obtain⟨c,q1,q2⟩:=Js hp hx hz h1 h2;unfold BL
  cases hb:eqZ k x p.1 with
  |true=>
   refine⟨cv, ?_,by simpa using g2⟩;simp[AB,A7,he,hb]
  |false=>
   refine⟨c, ?_,by simpa using q2⟩;simp only[Ag,if_false];rw[←q1];simp only[AB,A7,he,hb,Ag,if_false];cases A7 (ktT k) cx ks'<;>simp
theorem Jc{k v:Ty}(hp:Eh k=true){x:D k}{cx:CV}(hx:Can k x [cx]){y:D v}{cy:CV}(hy:Can v y [cy]):∀{m:List (D k×D v)} {ks vs:List CV},As (fun x c=>Can k x.1 [c]) m ks→As (fun x c=>Can v x.2 [c]) m vs→
  As (fun x c=>Can k x.1 [c]) (Bu (eqZ k) x y m) (AM (ktT k) ks cx)∧As (fun x c=>Can v x.2 [c]) (Bu (eqZ k) x y m) (AN (ktT k) ks vs cx cy)
 | [],ks,vs,h1,h2=>by
  unfold As at h1 h2;subst h1;subst h2;exact⟨⟨cx,[],rfl,hx,rfl⟩,⟨cy,[],rfl,hy,rfl⟩⟩
 |p::m,ks,vs,h1,h2=>by
  obtain⟨ck,ks',rfl,g1,h1⟩:=h1;obtain⟨cv,vs',rfl,g2,h2⟩:=h2;have he:=(FR hp hx g1).1;obtain⟨q1,q2⟩:=Jc hp hx hy h1 h2;unfold Bu
  cases hb:eqZ k x p.1 with
  |true=>
   simp only[if_true];rw[hb]at he;exact⟨⟨ck,ks',by simp[AM,A7,he],g1,h1⟩,⟨cy,vs',by simp[AN,A7,he],hy,h2⟩⟩
  |false=>
   simp only[Ag,if_false];rw[hb]at he;refine⟨⟨ck,AM (ktT k) ks' cx, ?_,g1,q1⟩,⟨cv,AN (ktT k) ks' vs' cx cy, ?_,g2,q2⟩⟩
   ·simp only[AM,A7,he,Ag,if_false];cases A7 (ktT k) cx ks'<;>simp
   ·simp only[AN,A7,he,Ag,if_false];cases A7 (ktT k) cx ks'<;>simp
theorem OI{k v:Ty}(hp:Eh k=true):∀{m:List (D k×D v)} {ks:List CV},As (fun x c=>Can k x.1 [c]) m ks→ks.all (A6 (ktT k))=true
 | [],ks,h=>by unfold As at h;subst h;rfl
 |p::m,ks,h=>by
  obtain⟨c,ks',rfl,h1,h2⟩:=h;simp[(FR hp h1 h1).2];simpa using OI hp h2
def Ef:Ty→Bool
 | .agg _| .tup _| .nil| .one _| .cons _ _| .nw _ _ _=>false
 | .falt _ _ l=>l.isFn
 |_=>true
def E5:Ty→Bool
 | .nil=>true
 | .one t=>Ef t
 | .cons t r=>Ef t&&E5 r
 |_=>false
def Ii{A B:Type}:Dyn A Bool→Dyn A B→Dyn A B→Dyn A B
 | .tot c,.tot f,.tot g=>.tot fun ρ=>if c ρ then f ρ else g ρ
 |c,f,g=>.par fun ρ=>(c.val ρ).bind fun b=>if b then f.val ρ else g.val ρ
theorem U8{A B:Type}{c:Dyn A Bool}{f g:Dyn A B}{a:A}{x:B}(h:(Ii c f g).val a=some x):∃b,c.val a=some b∧(if b then f.val a else g.val a)=some x:=by
 cases c<;>cases f<;>cases g
 ·rename_i c f g;refine⟨c a,rfl, ?_⟩;simp only[Ii,Dyn.val]at h;rw[←h];cases c a<;>rfl
 all_goals exact Ab.1 h
def Iw:(r:Ty)→Option (D r→List (List UInt8))
 | .one .str=>some fun x=> [x]
 | .cons .str r=>match Iw r with
  |some f=>some fun x=>x.1::f x.2
  |none=>none
 |_=>none
theorem QH:∀{r:Ty} {f:D r→List (List UInt8)} {x:D r} {l:List CV},Iw r=some f→Can r x l→l=(f x).map CV.str
 | .one .str,f,x,l,h,hc=>by
  simp only[Iw,Ac]at h;subst h;unfold Can at hc;obtain⟨c,rfl,hc⟩:=hc;unfold Can at hc;cases hc;rfl
 | .cons .str r,f,x,l,h,hc=>by
  simp only[Iw]at h;split at h
  ·rename_i g hg;cases h;unfold Can at hc;obtain⟨c,l',rfl,h1,h2⟩:=hc;unfold Can at h1;cases h1;rw[QH hg h2];rfl
  ·cases h
theorem QI:∀(l:List (List UInt8)),(l.map CV.str).all HD=true
 | []=>rfl
 |s::l=>by simp only[List.map_cons,List.all_cons,HD,QI l,Bool.and_self]
theorem QJ:∀(l:List (List UInt8)),As (fun(x:D .str) c=>Can .str x [c]) l (l.map CV.str)
 | []=>rfl
 |s::l=>⟨_,_,rfl,by unfold Can;rfl,QJ l⟩
def G1(q:Ty)(size:Nat):(n:Nat)→(r:Ty)→Option (D r→List (D q))
 |0,_=>some fun _=> []
 |n+1,r=>match D5 r size,Ew r size with
  |some f,some g=>if h:f.1=q then match G1 q size n g.1 with
    |some k=>some fun x=>(h▸f.2 x)::k (g.2 x)
    |none=>none
   else none
  |_,_=>none
theorem KB{q:Ty}{size:Nat}:∀{n:Nat} {r:Ty} {f:D r→List (D q)} {x:D r} {l:List CV},G1 q size n r=some f→Can r x l→(f x).length=n∧∀{j:Nat} {a:D q},(f x)[j]? =some a→Can q a ((l.drop (j*size)).take size)∧j*size+size≤l.length:=by
 intro n
 induction n with
 |zero=>intro r f x l h hc;cases h;exact⟨rfl,fun h=>by simp at h⟩
 |succ n ih=>
  intro r f x l h hc;simp only[G1]at h;split at h<;>(try cases h;done);rename_i p g hp hg;split at h<;>(try cases h;done);rename_i he;split at h<;>(try cases h;done);rename_i k hk;cases h;subst he;obtain⟨h1,h2⟩:=Kl hp hc;obtain⟨h3,h4⟩:=IM hg hc;obtain⟨h5,h6⟩:=ih hk h3;refine⟨by simp[h5],fun{j a} hj=> ?_⟩
  cases j with
  |zero=>
   simp only[List.getElem?_cons_zero,Ac]at hj;subst hj;exact⟨by simpa using h1,by simpa using h2⟩
  |succ j=>
   simp only[List.getElem?_cons_succ]at hj;obtain⟨g1,g2⟩:=h6 hj;simp only[List.drop_drop,List.length_drop]at g1 g2;have e:size+j*size=(j+1)*size:=by rw[Nat.succ_mul];omega
   rw[e]at g1;exact⟨g1,by rw[←e];omega⟩
def Br:(t:Ty)→List CV→Bool
 | .int k,[.int k' n]=>k'=k&&n==0
 | .bool,[.bool b]=> !b
 | .str,[.str s]=>s.isEmpty
 | .err,[.nilif]=>true
 | .nsl,[.sl (some true) []]=>true
 | .nmap,[.map (some true) [] []]=>true
 | .sl _,[.sl (some true) []]=>true
 | .map _ _,[.map (some true) [] []]=>true
 | .agg r,[.agg l]=>Br r l
 | .nil,[]=>true
 | .one t,[c]=>Br t [c]
 | .cons t r,c::l=>Br t [c]&&Br r l
 |_,_=>false
theorem MS:∀{t:Ty} {cs:List CV},Br t cs=true→Can t (Bj t) cs:=by
 intro t
 induction t with
 |int k=>
  intro cs h;unfold Br at h;split at h<;>(try cases h;done);all_goals first|(rename_i e;cases e;done)|skip
  rename_i e;cases e;simp only[Af,decide_eq_true_eq,beq_iff_eq]at h;obtain⟨rfl,rfl⟩:=h;unfold Can;rfl
 |nam N=>intro cs h;unfold Br at h;cases h
 |bptr N=>intro cs h;unfold Br at h;cases h
 |nilp=>intro cs h;unfold Br at h;cases h
 |bool=>
  intro cs h;unfold Br at h;split at h<;>(try cases h;done);all_goals first|(rename_i e;cases e;done)|skip
  simp only[Bool.not_eq_true']at h;subst h;unfold Can;rfl
 |str=>
  intro cs h;unfold Br at h;split at h<;>(try cases h;done);all_goals first|(rename_i e;cases e;done)|skip
  simp only[List.isEmpty_iff]at h;subst h;unfold Can;rfl
 |err=>
  intro cs h;unfold Br at h;split at h<;>(try cases h;done);all_goals first|(rename_i e;cases e;done)|skip
  unfold Can;rfl
 |nsl=>
  intro cs h;unfold Br at h;split at h<;>(try cases h;done);all_goals first|(rename_i e;cases e;done)|skip
  unfold Can;rfl
 |nmap=>
  intro cs h;unfold Br at h;split at h<;>(try cases h;done);all_goals first|(rename_i e;cases e;done)|skip
  unfold Can;rfl
 |sl e _=>
  intro cs h;unfold Br at h;split at h<;>(try cases h;done);all_goals first|(rename_i e;cases e;done)|skip
  unfold Can;exact⟨_,_,rfl,rfl⟩
 |map k v _ _=>
  intro cs h;unfold Br at h;split at h<;>(try cases h;done);all_goals first|(rename_i e;cases e;done)|skip
  unfold Can;exact⟨_,_,_,rfl,rfl,rfl⟩
 |agg r ih=>
  intro cs h;unfold Br at h;split at h<;>(try cases h;done);all_goals first|(rename_i e;cases e;done)|skip
  rename_i e;cases e;unfold Can;exact⟨_,rfl,ih h⟩
 |nil=>
  intro cs h;unfold Br at h;split at h<;>(try cases h;done);all_goals first|(rename_i e;cases e;done)|skip
  unfold Can;rfl
 |one t ih=>
  intro cs h;unfold Br at h;split at h<;>(try cases h;done);all_goals first|(rename_i e;cases e;done)|skip
  rename_i e;cases e;unfold Can;exact⟨_,rfl,ih h⟩
 |cons t r iht ihr=>
  intro cs h;unfold Br at h;split at h<;>(try cases h;done);all_goals first|(rename_i e;cases e;done)|skip
  rename_i e;cases e;simp only[Af]at h;unfold Can;exact⟨_,_,rfl,iht h.1,ihr h.2⟩
 |tup r _=>intro cs h;unfold Br at h;cases h
 |clo f r _=>intro cs h;unfold Br at h;cases h
 |pt r _=>intro cs h;unfold Br at h;cases h
 |nw e size t _=>intro cs h;unfold Br at h;cases h
 |falt f r l _ _=>intro cs h;unfold Br at h;cases h
 |nfn=>intro cs h;unfold Br at h;cases h
def GK:KT→Ty→Bool
 | .int k,.int k'=>k=k'
 | .str,.str=>true
 | .bool,.bool=>true
 |_,_=>false
def HI:List KT→Ty→Bool
 | [k],.one t=>GK k t
 |k::ks,.cons t r=>GK k t&&HI ks r
 |_,_=>false
def ktB:KT→Ty→Bool
 | .struct ks,.agg r=>HI ks r
 |k,t=>GK k t
theorem L6{k:KT}{t:Ty}(h:GK k t=true):k=E3 t:=by
 cases k<;>cases t<;>simp_all[GK,E3]
theorem T3:∀{ks:List KT} {r:Ty},HI ks r=true→ks=E2 r:=by
 intro ks
 induction ks with
 |nil=>intro r h;cases r<;>cases h
 |cons k ks ih=>
  intro r h;cases r<;>(try cases ks<;>cases h;done)
  ·cases ks with
   |nil=>simp only[E2];rw[L6 h]
   |cons _ _=>cases h
  ·cases ks with
   |nil=>simp only[HI,Af]at h;simp only[E2];rw[L6 h.1,←ih h.2]
   |cons k' ks'=>simp only[HI,Af]at h;simp only[E2];rw[L6 h.1,←ih h.2]
theorem OO{k:KT}{t:Ty}(h:ktB k t=true):k=ktT t:=by
 cases k<;>cases t<;>first
  |(simp only[ktB]at h;simp only[ktT];rw[T3 h];done)
  |(simp_all[ktB,GK,ktT,E3];done)
section
variable (G:Nat→List CV) (Γ:TC) (msk:List Nat)
def Do(id:Nat):Option (Σ k:EK,HS Γ→DK k):=if msk.contains id then none else get Γ (.o id)
def FL(id:Nat):Nat→Nat→Option (Σ r:Ty,HS Γ→D r)
 |0,off=>match get Γ (.c id off)with
  |some ⟨.v t,f⟩=>some ⟨.one t,f⟩
  |_=>none
 |n+1,off=>match get Γ (.c id off),FL id n (off+1)with
  |some ⟨.v t,f⟩,some q=>some ⟨.cons t q.1,fun ρ=>(f ρ,q.2 ρ)⟩
  |_,_=>none
def Hv(id:Nat)(t:Ty):Nat→Nat→Option (HS Γ→List (D t))
 |0,_=>some fun _=> []
 |n+1,off=>match get Γ (.c id off),Hv id t n (off+1)with
  |some ⟨.v u,f⟩,some g=>if h:u=t then some fun ρ=>(h▸f ρ:D t)::g ρ else none
  |_,_=>none
def Ig(r:Σ r:Ty,Dyn (HS Γ) (D r)):List (Nat×Nat×SO)→Option (Σ r:Ty,Dyn (HS Γ) (D r))
 | []=>some r
 |p::ps=>match rdV Γ p.2.2 with
  |some q=>match Il (Bq q.1) r.1 p.1 with
   |some g=>if q.1.val=true∧AE (Bq q.1)=some p.2.1 then Ig ⟨g.1,(r.2.both q.2).map fun _ z=>g.2 z.1 (EX q.1 z.2)⟩ ps else none
   |none=>none
  |none=>none
def mmT(mx:Bool)(k:IntKind)(acc:Dyn (HS Γ) Int):List SO→Option (Dyn (HS Γ) Int)
 | []=>some acc
 |x::xs=>match rdV Γ x with
  |some ⟨.int k',d⟩=>if k'=k then mmT mx k (match mx with
    |true=>(acc.both d).map fun _ p=>max p.1 p.2
    |false=>(acc.both d).map fun _ p=>min p.1 p.2) xs else none
  |_=>none
def Fk:List SO→Option (Σ r:Ty,Dyn (HS Γ) (D r))
 | []=>some ⟨.nil,.tot fun _=>()⟩
 | [x]=>match rdV Γ x with
  |some q=>some ⟨.one q.1,q.2⟩
  |none=>none
 |x::y::xs=>match rdV Γ x,Fk (y::xs)with
  |some q,some p=>some ⟨.cons q.1 p.1,q.2.both p.2⟩
  |_,_=>none
def I8{A:Type}(len:A→Int)(da:Dyn (HS Γ) A)(lo hi:Option SO):Option (Dyn (HS Γ) (A×Int×Int)):=
 match lo,hi with
 |none,none=>some (da.map fun _ a=>(a,0,len a))
 |some l,none=>match rdV Γ l with
  |some ⟨.int _,dl⟩=>some ((da.both dl).map fun _ p=>(p.1,p.2,len p.1))
  |_=>none
 |none,some h=>match rdV Γ h with
  |some ⟨.int _,dh⟩=>some ((da.both dh).map fun _ p=>(p.1,0,p.2))
  |_=>none
 |some l,some h=>match rdV Γ l,rdV Γ h with
  |some ⟨.int _,dl⟩,some ⟨.int _,dh⟩=>some ((da.both (dl.both dh)).map fun _ p=>(p.1,p.2.1,p.2.2))
  |_,_=>none
def DY(q:Σ k:EK,Dyn (HS Γ) (DK k)):Σ k:EK,Dyn (HS Γ) (DK k):=
 match q with
 |⟨.v (.nam N),d⟩=>if Nat.ble Au N=true then match Do Γ msk N with
  |some ⟨.box _ bt,_⟩=>⟨.ptr N 0,d.map fun _ _=>()⟩
  |_=>⟨.v (.nam N),d⟩
  else⟨.v (.nam N),d⟩
 |q=>q
def drK:EK→Bool
 | .rp _ _| .v (.pt _)| .ptr _ _| .eptr _ _ _| .aptr _ _ _=>true
 |_=>false
def EP(sz:Option Nat)(q:Σ k:EK,Dyn (HS Γ) (DK k)):Option (Σ k:EK,Dyn (HS Γ) (DK k)):=
 match q with
 |⟨.rp _ r,d⟩=>match sz with
  |none=>match Dy r 0 with
   |some p=>some ⟨.v p.1,d.map fun _ x=>p.2 x⟩
   |none=>none
  |some n=>match D5 r n with
   |some p=>some ⟨.v (.agg p.1),d.map fun _ x=>p.2 x⟩
   |none=>none
 |⟨.v (.pt r),d⟩=>match sz with
  |none=>match Dy r 0 with
   |some p=>some ⟨.v p.1,d.map fun _ x=>p.2 x⟩
   |none=>none
  |some n=>match D5 r n with
   |some p=>some ⟨.v (.agg p.1),d.map fun _ x=>p.2 x⟩
   |none=>none
 |⟨.ptr id o,d⟩=>match Do Γ msk id with
  |some ⟨.box nb bt,_⟩=>match sz with
   |none=>if o<nb then match get Γ (.c id o)with
    |some p=>some ⟨p.1,d.map fun ρ _=>p.2 ρ⟩
    |none=>none
    else none
   |some (n+1)=>if o+n<nb then match FL Γ id n o with
    |some p=>some ⟨.v (.agg p.1),d.map fun ρ _=>p.2 ρ⟩
    |none=>none
    else none
   |some 0=>none
  |_=>none
 |⟨.eptr id size o,d⟩=>match Do Γ msk id with
  |some ⟨.arr _ size' t,xs⟩=>if size=size'∧t.val=true then match sz with
   |none=>match Dy (Bq t) o with
    |some p=>some ⟨.v p.1,(d.map fun ρ i=>(xs ρ)[i]?).comp (.par fun x=>x.map fun y=>p.2 (EX t y))⟩
    |none=>none
   |some n=>if n=0 then none else match Ki (Bq t) o n with
    |some p=>some ⟨.v (.agg p.1),(d.map fun ρ i=>(xs ρ)[i]?).comp (.par fun x=>x.map fun y=>p.2 (EX t y))⟩
    |none=>none
   else none
  |_=>none
 |⟨.aptr id n o,d⟩=>match Do Γ msk id with
  |some ⟨.box nb bt,_⟩=>match sz,get Γ (.c id o)with
   |none,some ⟨.v t,_⟩=>match Hv Γ id t n o with
    |some f=>if o+n≤nb then some ⟨.v t,(d.map fun ρ i=>(f ρ)[i]?).comp (.par fun x=>x)⟩else none
    |none=>none
   |_,_=>none
  |_=>none
 |_=>none
def LH(kd:Nat)(x:SO):Option (Dyn (HS Γ) Int):=
 match kd,rdK G Γ x with
 |0,some ⟨.v .str,d⟩=>some (d.map fun _ s=>((s:List UInt8).length:Int))
 |1,some ⟨.v (.sl _),d⟩=>some (d.map fun _ s=>(s.length:Int))
 |1,some ⟨.v .nsl,d⟩=>some (d.map fun _ _=>0)
 |1,some ⟨.own id,d⟩=>match Do Γ msk id with
  |some ⟨.arr _ _ _,xs⟩=>some (d.map fun ρ _=>((xs ρ).length:Int))
  |_=>none
 |2,some ⟨.v (.map _ _),d⟩=>some (d.map fun _ s=>(s.length:Int))
 |2,some ⟨.mp id,d⟩=>match Do Γ msk id with
  |some ⟨.mob _ _ _,xs⟩=>some (d.map fun ρ _=>((xs ρ).length:Int))
  |_=>none
 |_,_=>none
def Jr(kq:Σ t:Ty,Dyn (HS Γ) (D t))(ok:Bool)(k v:Ty)(dm:Dyn (HS Γ) (List (D k×D v))):Option (Σ k:EK,Dyn (HS Γ) (DK k)):=
 match AL kq.1 k with
 |some f=>if Eh k=true then
   match ok with
   |true=>some ⟨.v (.tup (.cons v (.one .bool))),(dm.both kq.2).map fun _ p=>BL (eqZ k) (Bj v) (f p.2) p.1⟩
   |false=>some ⟨.v v,(dm.both kq.2).map fun _ p=>(BL (eqZ k) (Bj v) (f p.2) p.1).1⟩
  else none
 |none=>none
def LP(mt:TypeId)(kt:KT)(z:CV)(ok:Bool)(x key:SO):Option (Σ k:EK,Dyn (HS Γ) (DK k)):=
 match rdV Γ key with
 |some kq=>match rdK G Γ x with
  |some ⟨.v (.map k v),d⟩=>if Br v [z]=true∧ktB kt k=true then Jr Γ kq ok k v d else none
  |some ⟨.mp id,d⟩=>match Do Γ msk id with
   |some ⟨.mob mt' k v,m⟩=>if mt'=mt then Jr Γ kq ok k v (d.map fun ρ _=>m ρ)else none
   |_=>none
  |_=>none
 |none=>none
def GN(t:Ty):List SO→Option (Dyn (HS Γ) (List (D t)))
 | []=>some (.tot fun _=> [])
 |x::xs=>match rdV Γ x,GN t xs with
  |some q,some e=>match AL q.1 t with
   |some g=>some ((q.2.both e).map fun _ p=>g p.1::p.2)
   |none=>none
  |_,_=>none
def MO:SOp→Option (Σ k:EK,Dyn (HS Γ) (DK k))
 | .mov x=>rdK G Γ x
 | .pick c a b=>match rdV Γ c,rdV Γ a,rdV Γ b with
  |some ⟨.bool,dc⟩,some qa,some qb=>match AL qb.1 qa.1 with
   |some f=>some ⟨.v qa.1,Ii dc qa.2 (qb.2.map fun _ y=>f y)⟩
   |none=>match AL qa.1 qb.1 with
    |some f=>some ⟨.v qb.1,Ii dc (qa.2.map fun _ y=>f y) qb.2⟩
    |none=>none
  |_,_,_=>none
 | .bin op x y=>match rdV Γ x,rdV Γ y with
  |some p,some q=>match KF op p.1 q.1 with
   |some b=>some ⟨.v b.1,(p.2.both q.2).comp b.2⟩
   |none=>none
  |_,_=>none
 | .eqs neg ts x y=>match rdV Γ x,rdV Γ y with
  |some ⟨.agg r,d⟩,some ⟨.agg s,e⟩=>match H3 r s ts with
   |some f=>match neg with
    |true=>some ⟨.v .bool,(d.both e).map fun _ p=> !(f p.1 p.2)⟩
    |false=>some ⟨.v .bool,(d.both e).map fun _ p=>f p.1 p.2⟩
   |none=>none
  |_,_=>none
 | .beq neg x y=>match rdV Γ x,rdV Γ y with
  |some ⟨.bool,d⟩,some ⟨.bool,e⟩=>match neg with
   |true=>some ⟨.v .bool,(d.both e).map fun _ p=> !(p.1==p.2)⟩
   |false=>some ⟨.v .bool,(d.both e).map fun _ p=>p.1==p.2⟩
  |_,_=>none
 | .isnil kd neg x=>match kd,rdV Γ x with
  |3,some ⟨.err,d⟩=>match neg with
   |true=>some ⟨.v .bool,d.map fun _ b=> !(b:Bool)⟩
   |false=>some ⟨.v .bool,d.map fun _ b=>b⟩
  |1,some ⟨.nsl,d⟩=>some ⟨.v .bool,d.map fun _ _=> !neg⟩
  |2,some ⟨.nmap,d⟩=>some ⟨.v .bool,d.map fun _ _=> !neg⟩
  |_,_=>none
 | .un op x=>match op,rdV Γ x with
  | .neg,some ⟨.int k,d⟩=>some ⟨.v (.int k),d.map fun _ n=>k.wrap (0-n)⟩
  | .xor,some ⟨.int k,d⟩=>some ⟨.v (.int k),d.map fun _ n=>Dg .xor k (if k.signed then-1 else k.max) n⟩
  | .not,some ⟨.bool,d⟩=>some ⟨.v .bool,d.map fun _ b=> !(b:Bool)⟩
  |_,_=>none
 | .cvi k x=>match rdV Γ x with
  |some ⟨.int _,d⟩=>some ⟨.v (.int k),d.map fun _ n=>k.wrap n⟩
  |_=>none
 | .cvrune x=>match rdV Γ x with
  |some ⟨.int _,d⟩=>some ⟨.v .str,d.map fun _ n=>(Utf8.encode n).data.toList⟩
  |_=>none
 | .bytes _ x=>match rdV Γ x with
  |some ⟨.str,d⟩=>some ⟨.v (.sl (.int .u8)),d.comp (.par fun s=>if s.length≤70368744177664 then some (s.map fun b=>(b.toNat:Int))else none)⟩
  |_=>none
 | .cvbs x=>match rdK G Γ x with
  |some ⟨.v (.sl (.int .u8)),d⟩=>some ⟨.v .str,d.map fun _ ns=>ns.map fun n=>UInt8.ofNat n.toNat⟩
  |some ⟨.v .nsl,d⟩=>some ⟨.v .str,d.map fun _ _=> []⟩
  |some ⟨.own id,d⟩=>match Do Γ msk id with
   |some ⟨.arr _ _ (.int .u8),xs⟩=>some ⟨.v .str,d.map fun ρ _=>(xs ρ).map fun n=>UInt8.ofNat n.toNat⟩
   |_=>none
  |_=>none
 | .cvid x=>match rdV Γ x with
  |some ⟨.str,d⟩=>some ⟨.v .str,d⟩
  |_=>none
 | .nchk x=>match rdK G Γ x with
  |some ⟨.v (.nam N),d⟩=>some ⟨.v (.nam N),d⟩
  |some ⟨.v (.pt r),d⟩=>some ⟨.v (.pt r),d⟩
  |some ⟨.rp ex r,d⟩=>some ⟨.rp ex r,d⟩
  |some ⟨.ptr id o,d⟩=>some ⟨.ptr id o,d⟩
  |some ⟨.eptr id s o,d⟩=>some ⟨.eptr id s o,d⟩
  |_=>none
 | .lsl _ size parts=>match parts with
  | []=>none
  |x::xs=>match rdV Γ x with
   |some ⟨t,_⟩=>match GN Γ t (x::xs)with
    |some l=>if t.val=true∧AE (Bq t)=some size then some ⟨.v (.sl t),l⟩else none
    |none=>none
   |none=>none
 | .build z parts=>match Eu z with
  |some q=>match Ig Γ ⟨q.1,.tot fun _=>q.2⟩ parts with
   |some r=>some ⟨.v (.agg r.1),r.2⟩
   |none=>none
  |none=>none
 | .field off sz x=>match rdV Γ x with
  |some ⟨.agg r,d⟩=>match sz with
   |none=>match Dy r off with
    |some p=>some ⟨.v p.1,d.map fun _ x=>p.2 x⟩
    |none=>none
   |some n=>match Ki r off n with
    |some p=>if 0<n then some ⟨.v (.agg p.1),d.map fun _ x=>p.2 x⟩else none
    |none=>none
  |_=>none
 | .ext x i=>match rdK G Γ x with
  |some ⟨.v (.tup r),d⟩=>match Dy r i with
   |some p=>some ⟨.v p.1,d.map fun _ x=>p.2 x⟩
   |none=>none
  |some ⟨.ent id k v,d⟩=>match i with
   |0=>some ⟨.v v,d.map fun _ x=>x.2⟩
   |1=>some ⟨.stamp id k,d.map fun _ x=>x.1⟩
   |_=>none
  |_=>none
 | .minmax mx xs=>match xs with
  | []=>none
  |x::xs=>match rdV Γ x with
   |some ⟨.int k,d⟩=>match mmT Γ mx k d xs with
    |some e=>some ⟨.v (.int k),e⟩
    |none=>none
   |_=>none
 | .fnv f caps=>match Fk Γ caps with
  |some q=>some ⟨.v (.clo f q.1),q.2⟩
  |none=>none
 | .faddr off x=>match (rdK G Γ x).map (DY Γ msk)with
  |some ⟨.rp ex r,d⟩=>match Ew r off with
   |some p=>some ⟨.rp ex p.1,d.map fun _ x=>p.2 x⟩
   |none=>none
  |some ⟨.v (.pt r),d⟩=>match Ew r off with
   |some p=>some ⟨.rp true p.1,d.map fun _ x=>p.2 x⟩
   |none=>none
  |some ⟨.ptr id o,d⟩=>some ⟨.ptr id (o+off),d⟩
  |some ⟨.eptr id s o,d⟩=>some ⟨.eptr id s (o+off),d⟩
  |some ⟨.aptr id n o,d⟩=>if off=0 then some ⟨.aptr id n o,d⟩else none
  |_=>none
 | .iaddr size x i=>match rdK G Γ x,rdV Γ i with
  |some ⟨.v (.sl e),d⟩,some ⟨.int _,di⟩=>if e.val=true∧AE (Bq e)=some size then some ⟨.rp true (Bq e),(d.both di).comp (.par fun p=>(lAt p.1 p.2).map fun y=>EX e y)⟩else none
  |some ⟨.own id,d⟩,some ⟨.int _,di⟩=>match Do Γ msk id with
   |some ⟨.arr _ sz _,xs⟩=>if size=sz then some ⟨.eptr id size 0,((d.both di).map fun ρ p=>if 0≤(p.2:Int)∧(p.2:Int)<((xs ρ).length:Int)then some (p.2:Int).toNat else none).comp (.par fun x=>x)⟩else none
   |_=>none
  |_,_=>none
 | .aaddr len size x i=>match rdK G Γ x,rdV Γ i with
  |some ⟨.rp true r,d⟩,some ⟨.int _,di⟩=>match D5 r size with
   |some q=>match G1 q.1 size len r with
    |some f=>if AE r=some (len*size)then some ⟨.rp false q.1,(d.both di).comp (.par fun p=>lAt (f p.1) p.2)⟩else none
    |none=>none
   |none=>none
  |some ⟨.ptr id o,d⟩,some ⟨.int _,di⟩=>if size=1 then some ⟨.aptr id len o,(d.both di).comp (.par fun p=>if 0≤(p.2:Int)∧(p.2:Int)<(len:Int)then some (p.2:Int).toNat else none)⟩else none
  |_,_=>none
 | .sidx x i=>match rdV Γ x,rdV Γ i with
  |some ⟨.str,d⟩,some ⟨.int _,di⟩=>some ⟨.v (.int .u8),(d.both di).comp (.par fun p=>sAt p.1 p.2)⟩
  |_,_=>none
 | .aidx len size sz x i=>match rdV Γ x,rdV Γ i with
  |some ⟨.agg r,d⟩,some ⟨.int _,di⟩=>match sz with
   |none=>match D5 r 1 with
    |some q=>match Dy q.1 0 with
     |some p=>match G1 q.1 1 len r with
         |some f=>if size=1 then some ⟨.v p.1,(d.both di).comp (.par fun z=>(lAt (f z.1) z.2).map fun y=>p.2 y)⟩else none
         |none=>none
     |none=>none
    |none=>none
   |some n=>match D5 r size with
    |some q=>match G1 q.1 size len r with
     |some f=>if n=size∧0<size then some ⟨.v (.agg q.1),(d.both di).comp (.par fun z=>lAt (f z.1) z.2)⟩else none
     |none=>none
    |none=>none
  |_,_=>none
 | .load sz x=>match rdK G Γ x with
  |some q=>EP Γ msk sz (DY Γ msk q)
  |none=>none
 | .len kd x=>match LH G Γ msk kd x with
  |some d=>some ⟨.v (.int .i64),d⟩
  |none=>none
 | .sslice x lo hi=>match rdV Γ x with
  |some ⟨.str,d⟩=>match I8 Γ (fun s=>((s:List UInt8).length:Int)) d lo hi with
   |some e=>some ⟨.v .str,e.comp (.par fun p=>CQ p.1 p.2.1 p.2.2)⟩
   |none=>none
  |_=>none
 | .slice size x lo hi=>match rdV Γ x with
  |some ⟨.sl e,d⟩=>if e.val=true∧AE (Bq e)=some size then match I8 Γ (fun s=>(s.length:Int)) d lo hi with
   |some g=>some ⟨.v (.sl e),g.comp (.par fun p=>CQ p.1 p.2.1 p.2.2)⟩
   |none=>none
   else none
  |_=>none
 | .slice3 size x lo hi mx=>match lo,rdV Γ x,rdV Γ hi,rdV Γ mx with
  |none,some ⟨.nsl,d⟩,some ⟨.int _,dh⟩,some ⟨.int _,dm⟩=>some ⟨.v .nsl,(d.both (dh.both dm)).comp (.par fun p=>if p.2.1=(0:Int)∧p.2.2=(0:Int)then some p.1 else none)⟩
  |none,some ⟨.sl e,d⟩,some ⟨.int _,dh⟩,some ⟨.int _,dm⟩=>if e.val=true∧AE (Bq e)=some size then some ⟨.v (.sl e),(d.both (dh.both dm)).comp (.par fun p=>if(p.2.1:Int)=p.2.2 then CQ p.1 0 p.2.1 else none)⟩else none
  |_,_,_,_=>none
 | .capp _ size bytes x y=>match rdV Γ x,rdV Γ y with
  |some ⟨.nsl,dx⟩,some ⟨.sl e,dy⟩=>if e.val=true∧AE (Bq e)=some size∧E5 (Bq e)=true then some ⟨.v (.sl e),(dx.both dy).comp (.par fun p=>if((p.2:List (D e)).length:Int)*(bytes:Int)≤140737488355328∧((p.2:List (D e)).length:Int)≤4611686018427387904 then some p.2 else none)⟩else none
  |_,_=>none
 | .mentry x=>match rdK G Γ x with
  |some ⟨.iter id,d⟩=>match Do Γ msk id with
   |some ⟨.mcur k v,f⟩=>some ⟨.v (.tup (.cons k (.one v))),d.map fun ρ _=>f ρ⟩
   |_=>none
  |_=>none
 | .lookup mt kt z ok x k=>LP G Γ msk mt kt z ok x k
 | .asl n x=>match rdK G Γ x with
  |some ⟨.rp true r,d⟩=>match Iw r with
   |some f=>if AE r=some n then some ⟨.v (.sl .str),d.map fun _ z=>f z⟩else none
   |none=>none
  |_=>none
 |_=>none
end
section
variable {G:Nat→List CV} {Γ:TC} {msk:List Nat} {ρ:HS Γ} {st:St} {rd:Nat→Ob}
theorem DQ{id:Nat}{q:Σ k:EK,HS Γ→DK k}(h:Do Γ msk id=some q)(hr:Rep Γ ρ st)(hrd:∀id,msk.contains id=false→rd id=st.ob id):RO Γ ρ id q.1 (q.2 ρ) (rd id):=by
 unfold Do at h;split at h<;>(try cases h;done);rename_i hm;rw[hrd id (by simpa using hm)];exact hr.o id q h
theorem KO{id nb:Nat}{cs:List SV}(hcs:∀j q,j<nb→get Γ (.c id j)=some q→∃sv,cs[j]? =some sv∧RS q.1 (q.2 ρ) sv):∀{n off:Nat} {q:Σ r:Ty,HS Γ→D r},FL Γ id n off=some q→off+n<nb→∃l,Ar closed ((cs.drop off).take (n+1))=some l∧Can q.1 (q.2 ρ) l∧off+(n+1)≤cs.length:=by
 intro n
 induction n with
 |zero=>
  intro off q h hb;simp only[FL]at h;split at h<;>(try cases h;done);rename_i t f hg;cases h;obtain⟨sv,h1,c,rfl,h3⟩:=hcs off _ (by omega) hg;have hlt:=(Ae.1 h1).1;refine⟨[c], ?_, ?_,by omega⟩
  ·rw[List.drop_eq_getElem_cons hlt,(Ae.1 h1).2];simp[Ar,closed]
  ·unfold Can;exact⟨c,rfl,h3⟩
 |succ n ih=>
  intro off q h hb;simp only[FL]at h;split at h<;>(try cases h;done);rename_i t f p hg hp;cases h;obtain⟨sv,h1,c,rfl,h3⟩:=hcs off _ (by omega) hg;have hlt:=(Ae.1 h1).1;obtain⟨l,g1,g2,g3⟩:=ih hp (by omega);refine⟨c::l, ?_, ?_,by omega⟩
  ·rw[List.drop_eq_getElem_cons hlt,(Ae.1 h1).2];simp only[List.take_succ_cons,Ar,closed,Option.bind_some];rw[g1];rfl
  ·unfold Can;exact⟨c,l,rfl,h3,g2⟩
theorem Fl{t:Ty}{x:D t}{c:CV}{n:Nat}(hv:t.val=true)(hl:AE (Bq t)=some n)(h:Can t x [c]):c.cells.length=n∧AK c=n:=by
 have h1:=DL hl (F8 hv h);refine⟨h1, ?_⟩;rw[←h1];cases c<;>simp[AK,CV.cells]
theorem Uz(hr:Rep Γ ρ st):∀{ps:List (Nat×Nat×SO)} {r q:Σ r:Ty,Dyn (HS Γ) (D r)} {cs:List CV} {x:D q.1},Ig Γ r ps=some q→q.2.val ρ=some x→(∀y,r.2.val ρ=some y→Can r.1 y cs)→
  (∃y,r.2.val ρ=some y)∧∃l cs',Ar (fun p=>(closed (so G st.fr p.2.2)).map fun v=>(p.1,p.2.1,v)) ps=some l∧FU cs l=some cs'∧Can q.1 x cs':=by
 intro ps
 induction ps with
 |nil=>
  intro r q cs x h hx hc;simp only[Ig,Ac]at h;subst h;exact⟨⟨x,hx⟩,[],cs,rfl,rfl,hc x hx⟩
 |cons p ps ih=>
  intro r q cs x h hx hc;simp only[Ig]at h;split at h<;>(try cases h;done);rename_i t ht;split at h<;>(try cases h;done);rename_i g hg;split at h<;>(try cases h;done);rename_i hvl
  have key:∀y,((r.2.both t.2).map fun _ z=>g.2 z.1 (EX t.1 z.2)).val ρ=some y→∃y0 z c,r.2.val ρ=some y0∧t.2.val ρ=some z∧so G st.fr p.2.2=.c c∧AK c=p.2.1∧p.1+p.2.1≤cs.length∧Can g.1 y (cs.take p.1++c.cells++cs.drop (p.1+p.2.1)):=by
   intro y hy;obtain⟨b,h1,h2⟩:=Dyn.map_val hy;obtain⟨h3,h4⟩:=Dyn.both_val h1;obtain⟨c,h5,h6⟩:=A3 (G:=G) ht hr h4;obtain⟨e1,e2⟩:=Fl hvl.1 hvl.2 h6;obtain⟨g1,g2⟩:=PD hg (hc _ h3) (F8 hvl.1 h6);rw[e1]at g1 g2;exact⟨_,_,c,h3,h4,h5,e2,g2,h2▸g1⟩
  by_cases hex:∃y,((r.2.both t.2).map fun _ z=>g.2 z.1 (EX t.1 z.2)).val ρ=some y
  ·obtain⟨y,hy⟩:=hex;obtain⟨y0,z,c,k1,k2,k3,k4,k5,k6⟩:=key y hy
   obtain⟨_,l,cs',i1,i2,i3⟩:=ih (cs:=cs.take p.1++c.cells++cs.drop (p.1+p.2.1)) h hx (fun y' hy'=>by
    rw[hy]at hy';cases hy'
    exact k6)
   refine⟨⟨y0,k1⟩,(p.1,p.2.1,c)::l,cs', ?_, ?_,i3⟩
   ·simp only[Ar];rw[k3,i1];rfl
   ·simp only[FU];rw[if_pos ⟨k4,k5⟩];exact i2
  ·exfalso;obtain⟨⟨y,hy⟩,_⟩:=ih (cs:= []) h hx (fun y hy=>absurd ⟨y,hy⟩ hex);exact hex ⟨y,hy⟩
theorem TX(hr:Rep Γ ρ st){mx:Bool}{k:IntKind}:∀{xs:List SO} {acc e:Dyn (HS Γ) Int} {z:Int},mmT Γ mx k acc xs=some e→e.val ρ=some z→∃a l,acc.val ρ=some a∧Ar (fun x=>closed (so G st.fr x)) xs=some l∧l.foldlM (Gc mx) (.int k a)=some (.int k z):=by
 intro xs
 induction xs with
 |nil=>
  intro acc e z h hz;simp only[mmT,Ac]at h;subst h;exact⟨z,[],hz,rfl,rfl⟩
 |cons x xs ih=>
  intro acc e z h hz;simp only[mmT]at h;split at h<;>(try cases h;done);rename_i k' d hd;split at h<;>(try cases h;done);rename_i hk;subst hk;obtain⟨a,l,h1,h2,h3⟩:=ih h hz
  cases mx<;>
  ·obtain⟨b,g1,g2⟩:=Dyn.map_val h1;obtain⟨g3,g4⟩:=Dyn.both_val g1;obtain⟨c,g5,g6⟩:=A3 (G:=G) hd hr g4;unfold Can at g6;cases g6;refine⟨b.1,_::l,g3,by simp only[Ar];rw[g5,h2];rfl, ?_⟩;simp only[List.foldlM_cons,Gc,if_true,Ag,if_false];subst g2;exact h3
theorem Hu(hr:Rep Γ ρ st):∀{xs:List SO} {q:Σ r:Ty,Dyn (HS Γ) (D r)} {x:D q.1},Fk Γ xs=some q→q.2.val ρ=some x→∃l,Ar (fun x=>closed (so G st.fr x)) xs=some l∧Can q.1 x l
 | [],q,x,h,hx=>by
  simp only[Fk,Ac]at h;subst h;exact⟨[],rfl,by unfold Can;rfl⟩
 | [y],q,x,h,hx=>by
  simp only[Fk]at h;split at h<;>(try cases h;done);rename_i p hp;cases h;obtain⟨c,h1,h2⟩:=A3 (G:=G) hp hr hx;exact⟨[c],by simp[Ar,h1,closed],by unfold Can;exact⟨c,rfl,h2⟩⟩
 |y::z::xs,q,x,h,hx=>by
  simp only[Fk]at h;split at h<;>(try cases h;done);rename_i p p' hp hp';cases h;obtain⟨g1,g2⟩:=Dyn.both_val hx;obtain⟨c,h1,h2⟩:=A3 (G:=G) hp hr g1;obtain⟨l,h3,h4⟩:=Hu hr hp' g2;refine⟨c::l, ?_,by unfold Can;exact⟨c,l,rfl,h2,h4⟩⟩;have e:Ar (fun x=>closed (so G st.fr x)) (y::z::xs)=(closed (so G st.fr y)).bind fun b=>(Ar (fun x=>closed (so G st.fr x)) (z::xs)).map fun bs=>b::bs:=rfl;rw[e,h1,h3];rfl
theorem Nx(hr:Rep Γ ρ st){A:Type}{len:A→Int}{da:Dyn (HS Γ) A}{lo hi:Option SO}{e:Dyn (HS Γ) (A×Int×Int)}{p:A×Int×Int}(h:I8 Γ len da lo hi=some e)(hp:e.val ρ=some p):
  da.val ρ=some p.1∧(∀n:Nat,(n:Int)=len p.1→0≤p.2.2→Cj n (hi.map (so G st.fr))=some p.2.2.toNat)∧(0≤p.2.1→Cj 0 (lo.map (so G st.fr))=some p.2.1.toNat):=by
 have hint:∀{x:SO} {k:IntKind} {d:Dyn (HS Γ) (D (.int k))} {n:Int} {m:Nat},rdV Γ x=some ⟨.int k,d⟩→d.val ρ=some n→0≤n→Cj m (some (so G st.fr x))=some n.toNat:=by
  intro x k d n m hx hn h0;obtain⟨c,h1,h2⟩:=A3 (G:=G) hx hr hn;unfold Can at h2;cases h2;simp[Cj,h1,h0]
 unfold I8 at h;split at h
 ·cases h;obtain⟨b,h1,h2⟩:=Dyn.map_val hp;subst h2;refine⟨h1,fun n hn _=> ?_,fun _=>rfl⟩;simp[Cj,←hn]
 ·split at h<;>(try cases h;done);rename_i l k d hd;cases h;obtain⟨b,h1,h2⟩:=Dyn.map_val hp;obtain⟨h3,h4⟩:=Dyn.both_val h1;subst h2;refine⟨h3,fun n hn _=> ?_,fun h0=>hint hd h4 h0⟩;simp[Cj,←hn]
 ·split at h<;>(try cases h;done);rename_i l k d hd;cases h;obtain⟨b,h1,h2⟩:=Dyn.map_val hp;obtain⟨h3,h4⟩:=Dyn.both_val h1;subst h2;exact⟨h3,fun n _ h0=>hint hd h4 h0,fun _=>rfl⟩
 ·split at h<;>(try cases h;done);rename_i l hh k d k' d' hd hd';cases h;obtain⟨b,h1,h2⟩:=Dyn.map_val hp;obtain⟨h3,h4⟩:=Dyn.both_val h1;obtain⟨h5,h6⟩:=Dyn.both_val h4;subst h2;exact⟨h3,fun n _ h0=>hint hd' h6 h0,fun h0=>hint hd h5 h0⟩
theorem NE{id nb:Nat}{t:Ty}{cs:List SV}(hcs:∀j q,j<nb→get Γ (.c id j)=some q→∃sv,cs[j]? =some sv∧RS q.1 (q.2 ρ) sv):∀{n off:Nat} {f:HS Γ→List (D t)} {i:Nat} {y:D t},Hv Γ id t n off=some f→off+n≤nb→(f ρ)[i]? =some y→i<n∧∃c,cs[off+i]? =some (.c c)∧Can t y [c]
 |0,off,f,i,y,h,_,hy=>by
  simp only[Hv,Ac]at h;subst h;simp at hy
 |n+1,off,f,i,y,h,hb,hy=>by
  simp only[Hv]at h;split at h<;>(try cases h;done);rename_i u g g' hg hg';split at h<;>(try cases h;done);rename_i hu;subst hu;cases h
  cases i with
  |zero=>
   simp at hy;obtain⟨sv,h1,c,h2,h3⟩:=hcs off _ (by omega) hg;subst h2;exact⟨by omega,c,h1,hy▸h3⟩
  |succ i=>
   simp only[List.getElem?_cons_succ]at hy;obtain⟨h1,c,h2,h3⟩:=NE hcs hg' (by omega) hy;exact⟨by omega,c,by rw[←h2];congr 1;omega,h3⟩
theorem Sn{k:EK}{x:DK k}{sv:SV}(hk:drK k=true)(h:RS k x sv):deref rd sv=sv:=by
 cases k<;>simp only[drK,Ag]at hk
 case v t=>
  cases t<;>simp only[Ag]at hk;obtain⟨c,rfl,hc⟩:=h;unfold Can at hc;obtain⟨l,e,_⟩:=hc;cases e;rfl
 case rp=>obtain⟨cs,rest,rfl,_⟩:=h;rfl
 case ptr=>unfold RS at h;rw[h];rfl
 case eptr=>unfold RS at h;rw[h];rfl
 case aptr=>unfold RS at h;rw[h.1];rfl
theorem Sm(hr:Rep Γ ρ st)(hrd:∀id,msk.contains id=false→rd id=st.ob id){q q':Σ k:EK,Dyn (HS Γ) (DK k)}{sv:SV}(hs:∀x,q.2.val ρ=some x→RS q.1 x sv)(h:DY Γ msk q=q'){x:DK q'.1}(hx:q'.2.val ρ=some x)
  (hk:drK q'.1=true):RS q'.1 x (deref rd sv):=by
 have same:∀{q':Σ k:EK,Dyn (HS Γ) (DK k)} {x:DK q'.1},(∀x,q'.2.val ρ=some x→RS q'.1 x sv)→q'.2.val ρ=some x→drK q'.1=true→RS q'.1 x (deref rd sv):=by
  intro q' x h1 h2 h3;rw[Sn h3 (h1 x h2)];exact h1 x h2
 unfold DY at h;split at h
 ·rename_i N d;split at h
  ·rename_i hN;split at h
   ·rename_i n f ho;subst h;obtain⟨y,h1,_⟩:=Dyn.map_val (d:=d) (g:=fun _ _=>()) hx;obtain⟨c,e,hc⟩:=hs y h1;unfold Can at hc;cases hc;obtain⟨cs,h3,_⟩:=DQ ho hr hrd;subst e;show deref rd (.c (.nam N))=.ptr N 0;simp only[deref,h3];rw[if_pos (Ah hN)]
   ·subst h;cases hk
  ·subst h;cases hk
 ·subst h;exact same hs hx hk
theorem IK(hr:Rep Γ ρ st)(hrd:∀id,msk.contains id=false→rd id=st.ob id){q:Σ k:EK,Dyn (HS Γ) (DK k)}{sv:SV}(hs:∀x,q.2.val ρ=some x→RS q.1 x sv){x:DK (DY Γ msk q).1}(hx:(DY Γ msk q).2.val ρ=some x)
  (hk:drK (DY Γ msk q).1=true):RS (DY Γ msk q).1 x (deref rd sv):=Sm hr hrd hs rfl hx hk
theorem LO(hr:Rep Γ ρ st)(hrd:∀id,msk.contains id=false→rd id=st.ob id){sz:Option Nat}{q q':Σ k:EK,Dyn (HS Γ) (DK k)}{sv:SV}{y:DK q'.1}(h:EP Γ msk sz q=some q')(hy:q'.2.val ρ=some y)
  (hs:∀x,q.2.val ρ=some x→RS q.1 x sv):∃sv',AT rd sz sv=some sv'∧RS q'.1 y sv':=by
 obtain⟨k,d⟩:=q;cases k<;>(try cases h;done)
 ·rename_i t;cases t<;>(try cases h;done);rename_i r;simp only[EP]at h;split at h
  ·split at h<;>(try cases h;done);rename_i p hp;cases h;obtain⟨x,h1,h2⟩:=Dyn.map_val hy;obtain⟨c0,e,hc0⟩:=hs x h1;subst e;unfold Can at hc0;obtain⟨cs,e,hc⟩:=hc0;cases e;obtain⟨c,h3,h4⟩:=GU hp hc;refine⟨.c c, ?_,c,rfl,h2▸h4⟩;simp[AT,h3]
  ·rename_i n;split at h<;>(try cases h;done);rename_i p hp;cases h;obtain⟨x,h1,h2⟩:=Dyn.map_val hy;obtain⟨c0,e,hc0⟩:=hs x h1;subst e;unfold Can at hc0;obtain⟨cs,e,hc⟩:=hc0;cases e;obtain⟨h3,h4⟩:=Kl hp hc;refine⟨.c (.agg (cs.take n)), ?_,.agg (cs.take n),rfl,by unfold Can;exact⟨_,rfl,h2▸h3⟩⟩;have:n≤cs.length:=by omega
   simp[AT,Cf,this]
 ·rename_i ex r;simp only[EP]at h;split at h
  ·split at h<;>(try cases h;done);rename_i p hp;cases h;obtain⟨x,h1,h2⟩:=Dyn.map_val hy;obtain⟨cs,rest,e,hc,_⟩:=hs x h1;subst e;obtain⟨c,h3,h4⟩:=GU hp hc;refine⟨.c c, ?_,c,rfl,h2▸h4⟩;have hlt:=(Ae.1 h3).1;simp[AT,List.getElem?_append_left hlt,h3]
  ·rename_i n;split at h<;>(try cases h;done);rename_i p hp;cases h;obtain⟨x,h1,h2⟩:=Dyn.map_val hy;obtain⟨cs,rest,e,hc,_⟩:=hs x h1;subst e;obtain⟨h3,h4⟩:=Kl hp hc;refine⟨.c (.agg (cs.take n)), ?_,.agg (cs.take n),rfl,by unfold Can;exact⟨_,rfl,h2▸h3⟩⟩;have:n≤cs.length+rest.length:=by omega
   simp[AT,Cf,this,List.take_append_of_le_length h4]
 ·rename_i id o;simp only[EP]at h;split at h<;>(try cases h;done);rename_i n g hg;obtain⟨cs,e,hl,hcs⟩:=DQ hg hr hrd;split at h
  ·split at h<;>(try cases h;done);rename_i hb;split at h<;>(try cases h;done);rename_i p hp;cases h;dsimp only at hy;obtain⟨u,hu,hy⟩:=Dyn.map_val hy;have hsv:sv=.ptr id o:=hs u hu;subst hsv;subst hy;obtain⟨sv',h1,h2⟩:=hcs o _ hb hp;exact⟨sv',by simp[AT,e,h1],h2⟩
  ·rename_i n;split at h<;>(try cases h;done);rename_i hb;split at h<;>(try cases h;done);rename_i p hp;cases h;dsimp only at hy;obtain⟨u,hu,hy⟩:=Dyn.map_val hy;have hsv:sv=.ptr id o:=hs u hu;subst hsv;subst hy;obtain⟨l,h1,h2,h3⟩:=KO hcs hp hb;exact⟨.c (.agg l),by simp only[AT,e];rw[if_pos h3,h1];rfl,.agg l,rfl,by unfold Can;exact⟨l,rfl,h2⟩⟩
  ·cases h
 ·rename_i id size o;simp only[EP]at h;split at h<;>(try cases h;done);rename_i e' size' t xs hg;split at h<;>(try cases h;done);rename_i hsz;obtain⟨hsz,hv⟩:=hsz;subst hsz;obtain⟨es,e,hes⟩:=DQ hg hr hrd;split at h
  ·split at h<;>(try cases h;done);rename_i p hp;cases h;obtain⟨b,h1,h2⟩:=Dyn.comp_val hy;obtain⟨i,h3,h4⟩:=Dyn.map_val h1;subst h4;have hsv:sv=.eptr id i size o:=hs i h3;subst hsv;obtain⟨a,h5,h6⟩:=Aa.1 h2;obtain⟨c,h7,h8⟩:=hes.get h5;obtain⟨c',h9,h10⟩:=GU hp (F8 hv h8);exact⟨.c c',by simp[AT,e,h7,Cf,h9],c',rfl,h6▸h10⟩
  ·rename_i n;split at h<;>(try cases h;done);rename_i hpos;split at h<;>(try cases h;done);rename_i p hp;cases h;obtain⟨b,h1,h2⟩:=Dyn.comp_val hy;obtain⟨i,h3,h4⟩:=Dyn.map_val h1;subst h4;have hsv:sv=.eptr id i size o:=hs i h3;subst hsv;obtain⟨a,h5,h6⟩:=Aa.1 h2;obtain⟨c,h7,h8⟩:=hes.get h5;obtain⟨h9,h10⟩:=QK hp (F8 hv h8);refine⟨.c (.agg ((c.cells.drop o).take n)), ?_,_,rfl,by unfold Can;exact⟨_,rfl,h6▸h9⟩⟩;have hle:o+n≤c.cells.length∨n=0:=by omega
   rcases hle with hle|hle
   ·simp only[AT,e,if_true,h7,Option.bind_some,Cf];rw[if_pos hle];rfl
   ·exact(hpos hle).elim
 ·rename_i id n o;simp only[EP]at h;split at h<;>(try cases h;done);rename_i nb g hg;obtain⟨cs,e,hl,hcs⟩:=DQ hg hr hrd;split at h<;>(try cases h;done);rename_i t g2 hg2;split at h<;>(try cases h;done);rename_i f hf;split at h<;>(try cases h;done);rename_i hb;cases h;obtain⟨b,h1,h2⟩:=Dyn.comp_val hy;obtain⟨i,h3,h4⟩:=Dyn.map_val h1;subst h4;obtain⟨hsv,_⟩:=hs i h3;subst hsv;obtain⟨h5,c,h6,h7⟩:=NE hcs hf hb h2;exact⟨.c c,by simp only[AT,e];exact h6,c,rfl,h7⟩
theorem T5(hr:Rep Γ ρ st)(hrd:∀id,msk.contains id=false→rd id=st.ob id){kd:Nat}{x:SO}{d:Dyn (HS Γ) Int}{n:Int}(h:LH G Γ msk kd x=some d)(hn:d.val ρ=some n):Cm rd kd (so G st.fr x)=some n:=by
 unfold LH at h;split at h
 ·rename_i d' hd;cases h;obtain⟨s,h1,h2⟩:=Dyn.map_val hn;obtain⟨c,e,hc⟩:=AJ hd hr h1;unfold Can at hc;cases hc;rw[e,h2];rfl
 ·rename_i t d' hd;cases h;obtain⟨s,h1,h2⟩:=Dyn.map_val hn;obtain⟨c,e,hc⟩:=AJ hd hr h1;unfold Can at hc;obtain⟨nl,es,e',hes⟩:=hc;cases e';rw[e,h2];simp[Cm,hes.length]
 ·rename_i d' hd;cases h;obtain⟨s,h1,h2⟩:=Dyn.map_val hn;obtain⟨c,e,hc⟩:=AJ hd hr h1;unfold Can at hc;cases hc;rw[e,h2];rfl
 ·rename_i id f hd;split at h<;>(try cases h;done);rename_i e' sz t xs hg;cases h;obtain⟨u,hu,hn⟩:=Dyn.map_val hn;subst hn;obtain⟨es,e,hes⟩:=DQ hg hr hrd;have hs:so G st.fr x=.osl id:=AJ hd hr hu;rw[hs];simp[Cm,e,hes.length]
 ·rename_i k v d' hd;cases h;obtain⟨s,h1,h2⟩:=Dyn.map_val hn;obtain⟨c,e,hc⟩:=AJ hd hr h1;unfold Can at hc;obtain⟨nl,ks,vs,e',hks,_⟩:=hc;cases e';rw[e,h2];simp[Cm,hks.length]
 ·rename_i id f hd;split at h<;>(try cases h;done);rename_i mt k v xs hg;cases h;obtain⟨u,hu,hn⟩:=Dyn.map_val hn;subst hn;obtain⟨z,ks,vs,e,_,hks,_⟩:=DQ hg hr hrd;have hs:so G st.fr x=.omap id:=AJ hd hr hu;rw[hs];simp[Cm,e,hks.length]
 ·cases h
theorem OV(hr:Rep Γ ρ st){key:SO}{kq:Σ t:Ty,Dyn (HS Γ) (D t)}(hkq:rdV Γ key=some kq){ok:Bool}{k v:Ty}{dm:Dyn (HS Γ) (List (D k×D v))}{q:Σ k:EK,Dyn (HS Γ) (DK k)}{y:DK q.1}(h:Jr Γ kq ok k v dm=some q)(hy:q.2.val ρ=some y):
  ∃m ck,dm.val ρ=some m∧so G st.fr key=.c ck∧Eh k=true∧A6 (ktT k) ck=true∧
    ∀{ks vs:List CV},As (fun x c=>Can k x.1 [c]) m ks→As (fun x c=>Can v x.2 [c]) m vs→∀{z:CV},Can v (Bj v) [z]→∃c,(let(a,b):=AB (ktT k) z ks vs ck;some (if ok then CV.tup [a,.bool b]else a))=some c∧RS q.1 y (.c c):=by
 unfold Jr at h;split at h<;>(try cases h;done);rename_i f hf;split at h<;>(try cases h;done);rename_i hp;split at h
 ·cases h;obtain⟨p,h1,h2⟩:∃p,(dm.both kq.2).val ρ=some p∧y=BL (eqZ k) (Bj v) (f p.2) p.1:=Dyn.map_val (C:=D (.tup (.cons v (.one .bool)))) (B:=List (D k×D v)×D kq.1) (g:=fun _ p=>BL (eqZ k) (Bj v) (f p.2) p.1) hy;obtain⟨h3,h4⟩:=Dyn.both_val h1;obtain⟨ck,h5,h6⟩:=A3 (G:=G) hkq hr h4;have h7:=BY _ _ hf h6;refine⟨p.1,ck,h3,h5,hp,(FR hp h7 h7).2,fun{ks vs} g1 g2 {z} g3=> ?_⟩;obtain⟨c,l1,l2⟩:=Js hp h7 g3 g1 g2;rw[l1];subst h2;refine⟨_,rfl,_,rfl, ?_⟩;unfold Can;refine⟨_,rfl, ?_⟩;unfold Can;refine⟨_,_,rfl,l2, ?_⟩;unfold Can;exact⟨_,rfl,by unfold Can;rfl⟩
 ·cases h;obtain⟨p,h1,h2⟩:∃p,(dm.both kq.2).val ρ=some p∧y=(BL (eqZ k) (Bj v) (f p.2) p.1).1:=Dyn.map_val (C:=D v) (B:=List (D k×D v)×D kq.1) (g:=fun _ p=>(BL (eqZ k) (Bj v) (f p.2) p.1).1) hy;obtain⟨h3,h4⟩:=Dyn.both_val h1;obtain⟨ck,h5,h6⟩:=A3 (G:=G) hkq hr h4;have h7:=BY _ _ hf h6;refine⟨p.1,ck,h3,h5,hp,(FR hp h7 h7).2,fun{ks vs} g1 g2 {z} g3=> ?_⟩;obtain⟨c,l1,l2⟩:=Js hp h7 g3 g1 g2;rw[l1];subst h2;exact⟨_,rfl,_,rfl,l2⟩
theorem TH(hr:Rep Γ ρ st)(hrd:∀id,msk.contains id=false→rd id=st.ob id){mt:TypeId}{kt:KT}{z:CV}{ok:Bool}{x key:SO}{q:Σ k:EK,Dyn (HS Γ) (DK k)}{y:DK q.1}(h:LP G Γ msk mt kt z ok x key=some q)(hy:q.2.val ρ=some y):
  ∃c,Dm rd mt kt z ok (so G st.fr x) (so G st.fr key)=some c∧RS q.1 y (.c c):=by
 unfold LP at h;split at h<;>(try cases h;done);rename_i kq hkq;split at h
 ·rename_i k v d hd;split at h<;>(try cases h;done);rename_i hz;obtain⟨m,ck,h1,h2,hp,h3,h4⟩:=OV (G:=G) hr hkq h hy;obtain⟨c,e,hc⟩:=AJ hd hr h1;unfold Can at hc;obtain⟨nl,ks,vs,e',hk,hv⟩:=hc;cases e';rw[e,h2];have hkt:=OO hz.2;subst hkt;obtain⟨c,g1,g2⟩:=h4 hk hv (MS hz.1);refine⟨c, ?_,g2⟩;simp only[Dm,h3,OI hp hk,Bool.and_self,if_true];exact g1
 ·rename_i id f hd;split at h<;>(try cases h;done);rename_i mt' k v m' hg;split at h<;>(try cases h;done);rename_i hmt;subst hmt;obtain⟨m,ck,h1,h2,hp,h3,h4⟩:=OV (G:=G) hr hkq h hy;obtain⟨u,hu,h1⟩:=Dyn.map_val h1;subst h1;obtain⟨z',ks,vs,e,hz,hk,hv⟩:=DQ hg hr hrd;have hs:so G st.fr x=.omap id:=AJ hd hr hu;rw[hs,h2];obtain⟨c,g1,g2⟩:=h4 hk hv hz;refine⟨c, ?_,g2⟩;simp only[Dm,e,h3,and_self,if_true];exact g1
 ·cases h
end
theorem F4{t:Ty}{x:D t}{c:CV}(ho:Ef t=true)(h:Can t x [c]):Cd c=true:=by
 cases t<;>simp only[Ef,Ag]at ho<;>unfold Can at h
 case clo=>obtain⟨l,e,_⟩:=h;cases e;rfl
 case falt f r l=>
  obtain⟨c',e,_,hc'⟩:=Jd (t:=.falt f r l) ho (by unfold Can;exact h);cases e;cases c<;>first|rfl|(exact absurd rfl (hc' _).1)|(exact absurd rfl (hc' _).2)
 case sl=>obtain⟨_,_,e,_⟩:=h;cases e;rfl
 case map=>obtain⟨_,_,_,e,_⟩:=h;cases e;rfl
 case err=>cases x<;>(cases h;rfl)
 case pt=>obtain⟨l,e,_⟩:=h;cases e;rfl
 case bptr=>rcases h with e|e|e<;>(cases e;rfl)
 all_goals(cases h;rfl)
theorem Me:∀{r:Ty} {x:D r} {l:List CV},E5 r=true→Can r x l→l.all Cd=true:=by
 intro r
 induction r with
 |nil=>intro x l _ h;unfold Can at h;subst h;rfl
 |one t _=>intro x l ho h;unfold Can at h;obtain⟨c,rfl,h⟩:=h;simp[F4 ho h]
 |cons t r _ ihr=>
  intro x l ho h;simp only[E5,Af]at ho;unfold Can at h;obtain⟨c,l',rfl,h1,h2⟩:=h;simp only[List.all_cons,Af];exact⟨F4 ho.1 h1,ihr ho.2 h2⟩
 |_=>intro x l ho;cases ho
theorem IB{t:Ty}{n:Nat}{xs:List (D t)}{es:List CV}(hv:t.val=true)(hl:AE (Bq t)=some n)(ho:E5 (Bq t)=true)(h:As (fun x c=>Can t x [c]) xs es):(es.all (fun v=>AK v==n)&&es.all fun v=>v.cells.all Cd)=true:=by
 rw[Af,List.all_eq_true,List.all_eq_true];refine⟨fun c hc=> ?_,fun c hc=> ?_⟩
 ·obtain⟨i,hi⟩:=List.getElem?_of_mem hc;obtain⟨a,_,h7⟩:=h.getB hi;simp[(Fl hv hl h7).2]
 ·obtain⟨i,hi⟩:=List.getElem?_of_mem hc;obtain⟨a,_,h7⟩:=h.getB hi;exact Me ho (F8 hv h7)
theorem LC{n:Nat}{i:Int}(e:(n:Int)=i)(h:i≤140737488355328):n≤140737488355328:=by omega
theorem LD{n:Nat}{i:Int}(e:(n:Int)=i)(h:i≤4611686018427387904):n≤4611686018427387904:=by omega
section
variable {G:Nat→List CV} {Γ:TC} {msk:List Nat} {ρ:HS Γ} {st:St} {rd:Nat→Ob}
theorem Tt{α β:Type}{R:α→β→Prop}{xs:List α}{es:List β}(h:As R xs es){n:Int}{a:α}(ha:lAt xs n=some a):∃b,idxOf n es.length=some n.toNat∧es[n.toNat]? =some b∧R a b∧xs[n.toNat]? =some a:=by
 unfold lAt at ha;split at ha<;>(try cases ha;done);rename_i hn;obtain⟨b,h1,h2⟩:=h.get ha;refine⟨b, ?_,h1,h2,ha⟩;unfold idxOf;rw[h.length,if_pos hn]
theorem L8{α:Type}{xs:List α}{n:Int}{a:α}(ha:lAt xs n=some a):0≤n∧n<xs.length∧xs[n.toNat]? =some a:=by
 unfold lAt at ha;split at ha<;>(try cases ha;done);rename_i hn;exact⟨hn.1,hn.2,ha⟩
theorem LA{α:Type}{xs ys:List α}{lo hi:Int}(h:CQ xs lo hi=some ys):0≤lo∧lo≤hi∧hi≤xs.length∧ys=(xs.take hi.toNat).drop lo.toNat:=by
 unfold CQ at h;split at h<;>(try cases h;done);rename_i hh;cases h;exact⟨hh.1,hh.2.1,hh.2.2,rfl⟩
theorem KI:∀{ns:List Int} {es:List CV},As (fun x c=>Can (.int .u8) x [c]) ns es→DX es=some ns
 | [],es,h=>by unfold As at h;subst h;rfl
 |n::ns,es,h=>by
  obtain⟨c,es',rfl,h1,h2⟩:=h;unfold Can at h1;cases h1;simp[DX,KI h2]
theorem EW{x:SO}{q:Σ k:EK,Dyn (HS Γ) (DK k)}(h:(rdK G Γ x).map (DY Γ msk)=some q)(hr:Rep Γ ρ st)(hrd:∀id,msk.contains id=false→rd id=st.ob id){a:DK q.1}(ha:q.2.val ρ=some a)(hk:drK q.1=true):RS q.1 a (deref rd (so G st.fr x)):=by
 obtain⟨p,hp,rfl⟩:=Aa.1 h;exact IK hr hrd (fun x hx=>AJ hp hr hx) ha hk
theorem LN{sz:Option Nat}{q q':Σ k:EK,Dyn (HS Γ) (DK k)}(h:EP Γ msk sz q=some q'):drK q.1=true:=by
 obtain⟨k,d⟩:=q
 cases k<;>first
  |rfl
  |(cases h;done)
  |(rename_i t;cases t<;>first|rfl|(cases h;done))
theorem LL(hr:Rep Γ ρ st){G:Nat→List CV}{t:Ty}:∀{xs:List SO} {e:Dyn (HS Γ) (List (D t))} {ys:List (D t)},GN Γ t xs=some e→e.val ρ=some ys→∃l,Ar (fun x=>closed (so G st.fr x)) xs=some l∧As (fun x c=>Can t x [c]) ys l
 | [],e,ys,h,hy=>by
  simp only[GN,Ac]at h;subst h;cases hy;exact⟨[],rfl,rfl⟩
 |x::xs,e,ys,h,hy=>by
  simp only[GN]at h;split at h<;>(try cases h;done);rename_i q e' hq he';split at h<;>(try cases h;done);rename_i g hg;cases h;obtain⟨p,h1,h2⟩:=Dyn.map_val hy;obtain⟨h3,h4⟩:=Dyn.both_val h1;obtain⟨c,h5,h6⟩:=A3 (G:=G) hq hr h3;obtain⟨l,h7,h8⟩:=LL hr (G:=G) he' h4;subst h2;refine⟨c::l, ?_,c,l,rfl,BY _ _ hg h6,h8⟩;have e:Ar (fun x=>closed (so G st.fr x)) (x::xs)=(closed (so G st.fr x)).bind fun b=>(Ar (fun x=>closed (so G st.fr x)) xs).map fun bs=>b::bs:=rfl;rw[e,h5,h7];rfl
theorem QY(hr:Rep Γ ρ st)(hrd:∀id,msk.contains id=false→rd id=st.ob id){op:SOp}{q:Σ k:EK,Dyn (HS Γ) (DK k)}{y:DK q.1}(h:MO G Γ msk op=some q)(hy:q.2.val ρ=some y):
  ∃sv,Ao rd (so G st.fr) op=some sv∧RS q.1 y sv:=by
 cases op<;>simp only[MO]at h<;>(try cases h;done)
 case mov x=>exact⟨_,rfl,AJ h hr hy⟩
 case pick c a b=>
  split at h<;>(try cases h;done);rename_i dc qa qb hc ha hb
  have fin:∀{t:Ty} {f:D qa.1→D t} {g:D qb.1→D t},(∀{x:D qa.1} {cs:List CV},Can qa.1 x cs→Can t (f x) cs)→(∀{x:D qb.1} {cs:List CV},Can qb.1 x cs→Can t (g x) cs)→∀{z:D t},(Ii dc (qa.2.map fun _ y=>f y) (qb.2.map fun _ y=>g y)).val ρ=some z→
    ∃sv,Ao rd (so G st.fr) (.pick c a b)=some sv∧RS (.v t) z sv:=by
   intro t f g hf hg z hz;obtain⟨b',h1,h2⟩:=U8 hz;obtain⟨c1,h3,h4⟩:=A3 (G:=G) hc hr h1;unfold Can at h4;cases h4;cases b'
   ·simp only[Ag,if_false]at h2;obtain⟨w,h5,h6⟩:=Dyn.map_val h2;obtain⟨c2,h7,h8⟩:=A3 (G:=G) hb hr h5;exact⟨so G st.fr b,by simp[Ao,h3],c2,h7,h6▸hg h8⟩
   ·simp only[if_true]at h2;obtain⟨w,h5,h6⟩:=Dyn.map_val h2;obtain⟨c2,h7,h8⟩:=A3 (G:=G) ha hr h5;exact⟨so G st.fr a,by simp[Ao,h3],c2,h7,h6▸hf h8⟩
  have idm:∀{t:Ty} (d:Dyn (HS Γ) (D t)),d.map (fun _ y=>y)=d:=by
   intro t d
   cases d with
   |tot f=>rfl
   |par f=>
    simp only[Dyn.map,Dyn.par.injEq];funext a;cases f a<;>rfl
  split at h
  ·rename_i g hg;cases h;try dsimp only at hy
   refine fin (f:=fun y=>y) (fun hx=>hx) (fun hx=>BY _ _ hg hx) ?_;rw[idm];exact hy
  ·split at h<;>(try cases h;done);rename_i g hg;cases h;try dsimp only at hy
   refine fin (g:=fun y=>y) (fun hx=>BY _ _ hg hx) (fun hx=>hx) ?_;rw[idm];exact hy
 case bin op x y'=>
  split at h<;>(try cases h;done);rename_i p q' hp hq;split at h<;>(try cases h;done);rename_i b hb;cases h;try dsimp only at hy
  obtain⟨z,h1,h2⟩:=Dyn.comp_val hy;obtain⟨h3,h4⟩:=Dyn.both_val h1;obtain⟨c1,e1,g1⟩:=A3 (G:=G) hp hr h3;obtain⟨c2,e2,g2⟩:=A3 (G:=G) hq hr h4;obtain⟨c,h5,h6⟩:=R6 hb g1 g2 h2;exact⟨.c c,by simp[Ao,e1,e2,h5],c,rfl,h6⟩
 case eqs neg ts x y'=>
  split at h<;>(try cases h;done);rename_i r d s e hd he;split at h<;>(try cases h;done);rename_i f hf
  split at h<;>
  ·cases h;try dsimp only at hy
   obtain⟨z,h1,h2⟩:=Dyn.map_val hy;obtain⟨h3,h4⟩:=Dyn.both_val h1;obtain⟨c1,e1,g1⟩:=A3 (G:=G) hd hr h3;obtain⟨c2,e2,g2⟩:=A3 (G:=G) he hr h4;unfold Can at g1 g2;obtain⟨l1,q1,g1⟩:=g1;obtain⟨l2,q2,g2⟩:=g2;cases q1;cases q2;have h5:=SB hf g1 g2;exact⟨.c (.bool y),by rw[h2];simp[Ao,e1,e2,eqA,h5],_,rfl,by unfold Can;rfl⟩
 case beq neg x y'=>
  split at h<;>(try cases h;done);rename_i d e hd he
  split at h<;>
  ·cases h;try dsimp only at hy
   obtain⟨z,h1,h2⟩:=Dyn.map_val hy;obtain⟨h3,h4⟩:=Dyn.both_val h1;obtain⟨c1,e1,g1⟩:=A3 (G:=G) hd hr h3;obtain⟨c2,e2,g2⟩:=A3 (G:=G) he hr h4;unfold Can at g1 g2;cases g1;cases g2;exact⟨.c (.bool y),by rw[h2];simp[Ao,e1,e2],_,rfl,by unfold Can;rfl⟩
 case isnil kd neg x=>
  split at h<;>(try cases h;done)
  ·rename_i d hd
   split at h<;>
   ·cases h;try dsimp only at hy
    obtain⟨z,h1,h2⟩:=Dyn.map_val hy;obtain⟨c1,e1,g1⟩:=A3 (G:=G) hd hr h1;unfold Can at g1;cases g1;refine⟨.c (.bool y), ?_,_,rfl,by unfold Can;rfl⟩;rw[h2];cases z<;>simp[Ao,e1]
  ·rename_i d hd;cases h;try dsimp only at hy
   obtain⟨z,h1,h2⟩:=Dyn.map_val hy;obtain⟨c1,e1,g1⟩:=A3 (G:=G) hd hr h1;unfold Can at g1;cases g1;refine⟨.c (.bool y), ?_,_,rfl,by unfold Can;rfl⟩;rw[h2];cases neg<;>simp[Ao,e1]
  ·rename_i d hd;cases h;try dsimp only at hy
   obtain⟨z,h1,h2⟩:=Dyn.map_val hy;obtain⟨c1,e1,g1⟩:=A3 (G:=G) hd hr h1;unfold Can at g1;cases g1;refine⟨.c (.bool y), ?_,_,rfl,by unfold Can;rfl⟩;rw[h2];cases neg<;>simp[Ao,e1]
 case mentry x=>
  split at h<;>(try cases h;done);rename_i id d hd;split at h<;>(try cases h;done);rename_i k v f hg;cases h;try dsimp only at hy
  obtain⟨u,hu,rfl⟩:=Dyn.map_val hy;obtain⟨ks,vs,ck,cv,e,hk,hv⟩:=DQ hg hr hrd;have hs:so G st.fr x=.iter id:=AJ hd hr hu;refine⟨.c (.tup [ck,cv]),by simp only[Ao,hs,e],_,rfl, ?_⟩;unfold Can;refine⟨[ck,cv],rfl, ?_⟩;unfold Can;exact⟨ck,[cv],rfl,hk,by unfold Can;exact⟨cv,rfl,hv⟩⟩
 case un op x=>
  split at h<;>(try cases h;done)
  all_goals
   rename_i d hd;cases h;try dsimp only at hy
   obtain⟨z,h1,h2⟩:=Dyn.map_val hy;obtain⟨c1,e1,g1⟩:=A3 (G:=G) hd hr h1;unfold Can at g1;cases g1;subst h2;exact⟨_,by simp only[Ao,e1];rfl,_,rfl,by unfold Can;rfl⟩
 case cvi k x=>
  split at h<;>(try cases h;done);rename_i k' d hd;cases h;try dsimp only at hy
  obtain⟨z,h1,h2⟩:=Dyn.map_val hy;obtain⟨c1,e1,g1⟩:=A3 (G:=G) hd hr h1;unfold Can at g1;cases g1;subst h2;exact⟨_,by simp only[Ao,e1];rfl,_,rfl,by unfold Can;rfl⟩
 case cvrune x=>
  split at h<;>(try cases h;done);rename_i k' d hd;cases h;try dsimp only at hy
  obtain⟨z,h1,h2⟩:=Dyn.map_val hy;obtain⟨c1,e1,g1⟩:=A3 (G:=G) hd hr h1;unfold Can at g1;cases g1;subst h2;exact⟨_,by simp only[Ao,e1];rfl,_,rfl,by unfold Can;rfl⟩
 case bytes e x=>
  split at h<;>(try cases h;done);rename_i d hd;cases h;try dsimp only at hy
  obtain⟨s,h1,h2⟩:=Dyn.comp_val hy;obtain⟨c1,e1,g1⟩:=A3 (G:=G) hd hr h1;unfold Can at g1;cases g1;simp only[Dyn.val]at h2;split at h2<;>(try cases h2;done);rename_i hl;cases h2;refine⟨_,by simp only[Ao,e1];rw[if_pos hl],_,rfl, ?_⟩;unfold Can;refine⟨_,_,rfl, ?_⟩;clear h1 e1 hl hy
  induction s with
  |nil=>rfl
  |cons b s ih=>exact⟨_,_,rfl,by unfold Can;rfl,ih⟩
 case cvbs x=>
  split at h<;>(try cases h;done)
  ·rename_i d hd;cases h;try dsimp only at hy
   obtain⟨ns,h1,h2⟩:=Dyn.map_val hy;obtain⟨c,e1,g1⟩:=AJ hd hr h1;unfold Can at g1;obtain⟨nl,es,e2,g1⟩:=g1;cases e2;exact⟨.c (.str y),by simp only[Ao,e1,KI g1,Option.map_some,h2],_,rfl,by unfold Can;rfl⟩
  ·rename_i d hd;cases h;try dsimp only at hy
   obtain⟨ns,h1,h2⟩:=Dyn.map_val hy;obtain⟨c,e1,g1⟩:=AJ hd hr h1;unfold Can at g1;cases g1;exact⟨.c (.str y),by rw[h2];simp[Ao,e1,DX],_,rfl,by unfold Can;rfl⟩
  ·rename_i id d hd;split at h<;>(try cases h;done);rename_i e' sz xs hg;cases h;try dsimp only at hy
   obtain⟨u,h1,h2⟩:=Dyn.map_val hy;obtain⟨es,e,hes⟩:=DQ hg hr hrd;have hs:so G st.fr x=.osl id:=AJ hd hr h1;exact⟨.c (.str y),by simp only[Ao,hs,e,KI hes,Option.map_some,h2],_,rfl,by unfold Can;rfl⟩
 case cvid x=>
  split at h<;>(try cases h;done);rename_i d hd;cases h;try dsimp only at hy
  obtain⟨c1,e1,g1⟩:=A3 (G:=G) hd hr hy;have g1':=g1;unfold Can at g1';cases g1';exact⟨_,by simp only[Ao,e1],_,rfl,g1⟩
 case nchk x=>
  split at h<;>(try cases h;done)
  ·rename_i N d hd;cases h;try dsimp only at hy
   obtain⟨c,e1,g1⟩:=AJ (G:=G) hd hr hy;have g1':=g1;unfold Can at g1';cases g1';exact⟨_,by simp only[Ao,e1],_,rfl,g1⟩
  ·rename_i r d hd;cases h;try dsimp only at hy
   obtain⟨c,e1,g1⟩:=AJ (G:=G) hd hr hy;have g1':=g1;unfold Can at g1';obtain⟨cs,e2,_⟩:=g1';cases e2;exact⟨_,by simp only[Ao,e1],_,rfl,g1⟩
  ·rename_i ex r d hd;cases h;try dsimp only at hy
   obtain⟨cs,rest,e1,g1,g2⟩:=AJ (G:=G) hd hr hy;exact⟨_,by simp only[Ao,e1],cs,rest,rfl,g1,g2⟩
  ·rename_i id o d hd;cases h;try dsimp only at hy
   have hs:so G st.fr x=.ptr id o:=AJ hd hr hy;exact⟨_,by simp only[Ao,hs],rfl⟩
  ·rename_i id s o d hd;cases h;try dsimp only at hy
   have hs:so G st.fr x=.eptr id y s o:=AJ hd hr hy;exact⟨_,by simp only[Ao,hs],rfl⟩
 case lsl e size parts=>
  split at h<;>(try cases h;done);rename_i x xs;split at h<;>(try cases h;done);rename_i t d hd;split at h<;>(try cases h;done);rename_i l hl;split at h<;>(try cases h;done);rename_i hv;cases h;try dsimp only at hy
  obtain⟨cs,h1,h2⟩:=LL hr (G:=G) hl hy
  have hall:(cs.all fun v=>AK v==size)=true:=by
   rw[List.all_eq_true];intro c hc;obtain⟨i,hi⟩:=List.getElem?_of_mem hc;obtain⟨a,_,h7⟩:=h2.getB hi;simp[(Fl hv.1 hv.2 h7).2]
  refine⟨.c (.sl none cs), ?_,_,rfl,by unfold Can;exact⟨none,cs,rfl,h2⟩⟩;simp only[Ao,h1,Option.bind_some];rw[if_pos hall]
 case build z parts=>
  split at h<;>(try cases h;done);rename_i p hp;split at h<;>(try cases h;done);rename_i r hr';cases h;try dsimp only at hy
  obtain⟨_,l,cs',h1,h2,h3⟩:=Uz (G:=G) hr hr' hy (cs:=z) (fun y hy'=>by cases hy';exact G8 hp);refine⟨.c (.agg cs'), ?_,_,rfl,by unfold Can;exact⟨_,rfl,h3⟩⟩;simp only[Ao];rw[h1];simp[h2]
 case field off sz x=>
  split at h<;>(try cases h;done);rename_i r d hd;split at h
  ·split at h<;>(try cases h;done);rename_i p hp;cases h;try dsimp only at hy
   obtain⟨z,h1,h2⟩:=Dyn.map_val hy;obtain⟨c1,e1,g1⟩:=A3 (G:=G) hd hr h1;unfold Can at g1;obtain⟨l,e2,g1⟩:=g1;cases e2;obtain⟨c,h3,h4⟩:=GU hp g1;exact⟨.c c,by simp[Ao,e1,Cf,h3],c,rfl,h2▸h4⟩
  ·rename_i n;split at h<;>(try cases h;done);rename_i p hp;split at h<;>(try cases h;done);rename_i hn;cases h;try dsimp only at hy
   obtain⟨z,h1,h2⟩:=Dyn.map_val hy;obtain⟨c1,e1,g1⟩:=A3 (G:=G) hd hr h1;unfold Can at g1;obtain⟨l,e2,g1⟩:=g1;cases e2;obtain⟨h3,h4⟩:=QK hp g1;have hle:off+n≤l.length:=by omega
   exact⟨.c (.agg ((l.drop off).take n)),by simp[Ao,e1,Cf,hle],_,rfl,by unfold Can;exact⟨_,rfl,h2▸h3⟩⟩
 case ext x i=>
  split at h<;>(try cases h;done)
  ·rename_i r d hd;split at h<;>(try cases h;done);rename_i p hp;cases h;try dsimp only at hy
   obtain⟨z,h1,h2⟩:=Dyn.map_val hy;obtain⟨c1,e1,g1⟩:=AJ hd hr h1;unfold Can at g1;obtain⟨l,e2,g1⟩:=g1;cases e2;obtain⟨c,h3,h4⟩:=GU hp g1;exact⟨.c c,by simp[Ao,e1,h3],c,rfl,h2▸h4⟩
  ·rename_i id k v d hd;split at h<;>(try cases h;done)
   ·cases h;try dsimp only at hy
    obtain⟨z,h1,h2⟩:=Dyn.map_val hy;obtain⟨ck,cv,e1,g1,g2⟩:=AJ hd hr h1;exact⟨.c cv,by simp[Ao,e1],cv,rfl,h2▸g2⟩
   ·cases h;try dsimp only at hy
    obtain⟨z,h1,h2⟩:=Dyn.map_val hy;obtain⟨ck,cv,e1,g1,g2⟩:=AJ hd hr h1;exact⟨.stamp id ck,by simp[Ao,e1],ck,rfl,h2▸g1⟩
 case minmax mx xs=>
  split at h<;>(try cases h;done);rename_i x xs;split at h<;>(try cases h;done);rename_i k d hd;split at h<;>(try cases h;done);rename_i e he;cases h;try dsimp only at hy
  obtain⟨a,l,h1,h2,h3⟩:=TX (G:=G) hr he hy;obtain⟨c1,e1,g1⟩:=A3 (G:=G) hd hr h1;unfold Can at g1;cases g1;refine⟨_, ?_,_,rfl,by unfold Can;rfl⟩;have e:Ar (fun x=>closed (so G st.fr x)) (x::xs)=(closed (so G st.fr x)).bind fun b=>(Ar (fun x=>closed (so G st.fr x)) xs).map fun bs=>b::bs:=rfl;simp only[Ao];rw[e,e1,h2];simp only[closed,Option.bind_some,Option.map_some,h3]
 case fnv f caps=>
  split at h<;>(try cases h;done);rename_i p hp;cases h;try dsimp only at hy
  obtain⟨l,h1,h2⟩:=Hu (G:=G) hr hp hy;refine⟨.c (.fn f l), ?_,_,rfl,by unfold Can;exact⟨l,rfl,h2⟩⟩;simp only[Ao];rw[h1];rfl
 case faddr off x=>
  split at h<;>(try cases h;done)
  ·rename_i ex r d hd;split at h<;>(try cases h;done);rename_i p hp;cases h;try dsimp only at hy
   obtain⟨z,h1,h2⟩:=Dyn.map_val hy;obtain⟨cs,rest,e1,g1,g2⟩:=EW hd hr hrd h1 rfl;obtain⟨g3,g4⟩:=IM hp g1;have hle:off≤cs.length:=by omega
   refine⟨_,by simp only[Ao,e1];rw[if_pos (by simp;omega)],cs.drop off,rest, ?_,h2▸g3,g2⟩;rw[List.drop_append_of_le_length hle]
  ·rename_i r d hd;split at h<;>(try cases h;done);rename_i p hp;cases h;try dsimp only at hy
   obtain⟨z,h1,h2⟩:=Dyn.map_val hy;obtain⟨c0,e1,hc0⟩:=EW hd hr hrd h1 rfl;unfold Can at hc0;obtain⟨cs,e,g1⟩:=hc0;cases e;obtain⟨g3,g4⟩:=IM hp g1;have hle:off≤cs.length:=by omega
   refine⟨_,by simp only[Ao,e1];rw[if_pos hle],cs.drop off,[],by rw[List.append_nil],h2▸g3,fun _=>rfl⟩
  ·rename_i id o d hd;cases h;try dsimp only at hy
   have hs:deref rd (so G st.fr x)=.ptr id o:=EW hd hr hrd hy rfl;exact⟨.ptr id (o+off),by simp[Ao,hs],rfl⟩
  ·rename_i id s o d hd;cases h;try dsimp only at hy
   have hs:deref rd (so G st.fr x)=.eptr id y s o:=EW hd hr hrd hy rfl;exact⟨.eptr id y s (o+off),by simp[Ao,hs],rfl⟩
  ·rename_i id n o d hd;split at h<;>(try cases h;done);rename_i h0;cases h;try dsimp only at hy
   have hs:=EW hd hr hrd hy rfl;obtain⟨hs1,hs2⟩:=hs;exact⟨.ptr id (o+y),by simp[Ao,hs1,h0],rfl,hs2⟩
 case iaddr size x i=>
  split at h<;>(try cases h;done)
  ·rename_i e d k di hd hdi;split at h<;>(try cases h;done);rename_i hv;cases h;try dsimp only at hy
   obtain⟨z,h1,h2⟩:=Dyn.comp_val hy;obtain⟨h3,h4⟩:=Dyn.both_val h1;obtain⟨a,h5,h6⟩:=Aa.1 h2;obtain⟨c1,e1,g1⟩:=AJ hd hr h3;obtain⟨c2,e2,g2⟩:=A3 (G:=G) hdi hr h4;unfold Can at g1 g2;cases g2;obtain⟨nl,es,e3,g1⟩:=g1;cases e3;obtain⟨c,i1,i2,i3,_⟩:=Tt g1 h5;obtain⟨n1,n2⟩:=Fl hv.1 hv.2 i3;refine⟨.c (.rp c.cells), ?_,c.cells,[],by simp,h6▸F8 hv.1 i3,fun _=>rfl⟩;simp[Ao,Dj,e1,e2,i1,i2,n2]
  ·rename_i id f k di hd hdi;split at h<;>(try cases h;done);rename_i e' sz t xs hg;split at h<;>(try cases h;done);rename_i hsz;cases h;try dsimp only at hy
   obtain⟨z,h1,h2⟩:=Dyn.comp_val hy;obtain⟨n,h3,h4⟩:=Dyn.map_val h1;obtain⟨u,n⟩:=n;obtain⟨h5,h6⟩:=Dyn.both_val h3;have h2':z=some y:=h2;subst h2';obtain⟨c2,e2,g2⟩:=A3 (G:=G) hdi hr h6;unfold Can at g2;cases g2;obtain⟨es,e,hes⟩:=DQ hg hr hrd;have hs:so G st.fr x=.osl id:=AJ hd hr h5;split at h4<;>(try cases h4;done);rename_i hn;cases h4;refine⟨.eptr id n.toNat size 0, ?_,rfl⟩
   have hi:idxOf n es.length=some n.toNat:=by
    unfold idxOf;rw[hes.length,if_pos hn]
   simp[Ao,Dj,hs,e2,e,hsz,hi]
 case aaddr len size x i=>
  split at h<;>(try cases h;done)
  case h_2=>
   rename_i id o d k di hd hdi;split at h<;>(try cases h;done);rename_i hsz;subst hsz;cases h;try dsimp only at hy
   obtain⟨z,h1,h2⟩:=Dyn.comp_val hy;obtain⟨h3,h4⟩:=Dyn.both_val h1;obtain⟨c2,e2,g2⟩:=A3 (G:=G) hdi hr h4;unfold Can at g2;cases g2;have hs:so G st.fr x=.ptr id o:=AJ hd hr h3;have h2':(if 0≤(z.2:Int)∧(z.2:Int)<(len:Int)then some (z.2:Int).toNat else none)=some y:=h2;split at h2'<;>(try cases h2';done);rename_i hn;cases h2';refine⟨.ptr id (o+(z.2:Int).toNat), ?_,rfl,(Int.toNat_lt hn.1).2 hn.2⟩
   have hi:idxOf z.2 len=some z.2.toNat:=by
    unfold idxOf;rw[if_pos hn]
   simp[Ao,Du,hs,e2,hi]
  rename_i r d k di hd hdi;split at h<;>(try cases h;done);rename_i p hp;split at h<;>(try cases h;done);rename_i f hf;split at h<;>(try cases h;done);rename_i hlen;cases h;try dsimp only at hy
  obtain⟨z,h1,h2⟩:=Dyn.comp_val hy;obtain⟨h3,h4⟩:=Dyn.both_val h1;obtain⟨cs,rest,e1,g1,g3⟩:=AJ hd hr h3;have hrest:=g3 rfl;subst hrest;obtain⟨c2,e2,g2⟩:=A3 (G:=G) hdi hr h4;unfold Can at g2;cases g2;obtain⟨j1,j2,j3⟩:=L8 h2;obtain⟨a1,a2⟩:=KB hf g1;obtain⟨a3,a4⟩:=a2 j3;have hl:=DL hlen g1;refine⟨.c (.rp ((cs++ []).drop (z.2.toNat*size))), ?_,(cs.drop (z.2.toNat*size)).take size,(cs.drop (z.2.toNat*size)).drop size, ?_,a3,fun hh=>by cases hh⟩
  ·have hi:idxOf z.2 len=some z.2.toNat:=by
    unfold idxOf;rw[if_pos ⟨j1,by rw[a1]at j2;exact j2⟩]
   simp[Ao,Du,e1,e2,hl,hi]
  ·rw[List.append_nil,List.take_append_drop]
 case sidx x i=>
  split at h<;>(try cases h;done);rename_i d k di hd hdi;cases h;try dsimp only at hy
  obtain⟨z,h1,h2⟩:=Dyn.comp_val hy;obtain⟨h3,h4⟩:=Dyn.both_val h1;obtain⟨c1,e1,g1⟩:=A3 (G:=G) hd hr h3;obtain⟨c2,e2,g2⟩:=A3 (G:=G) hdi hr h4;unfold Can at g1 g2;cases g1;cases g2;have h2':sAt z.1 z.2=some y:=h2;unfold sAt at h2';split at h2'<;>(try cases h2';done);rename_i hn;obtain⟨b,h5,h6⟩:=Aa.1 h2';refine⟨.c (.int .u8 y), ?_,_,rfl,by unfold Can;rfl⟩
  have hi:idxOf z.2 z.1.length=some z.2.toNat:=by
   unfold idxOf;rw[if_pos hn]
  simp[Ao,e1,e2,hi,h5,h6]
 case aidx len size sz x i=>
  split at h<;>(try cases h;done);rename_i r d k di hd hdi;split at h
  ·split at h<;>(try cases h;done);rename_i p hp;split at h<;>(try cases h;done);rename_i p1 hp1;split at h<;>(try cases h;done);rename_i f hf;split at h<;>(try cases h;done);rename_i hlen;subst hlen;cases h;try dsimp only at hy
   obtain⟨z,h1,h2⟩:=Dyn.comp_val hy;obtain⟨h3,h4⟩:=Dyn.both_val h1;obtain⟨a,h5,h6⟩:=Aa.1 h2;obtain⟨c1,e1,g1⟩:=A3 (G:=G) hd hr h3;obtain⟨c2,e2,g2⟩:=A3 (G:=G) hdi hr h4;unfold Can at g1 g2;cases g2;obtain⟨l,e3,g1⟩:=g1;cases e3;obtain⟨j1,j2,j3⟩:=L8 h5;obtain⟨a1,a2⟩:=KB hf g1;obtain⟨a3,a4⟩:=a2 j3;obtain⟨c,b1,b2⟩:=GU hp1 a3;refine⟨.c c, ?_,c,rfl,h6▸b2⟩
   have hi:idxOf z.2 len=some z.2.toNat:=by
    unfold idxOf;rw[if_pos ⟨j1,by rw[a1]at j2;exact j2⟩]
   simp only[Nat.mul_one]at b1 a4
   have hc:l[z.2.toNat]? =some c:=by
    rw[List.getElem?_take_of_lt (by omega),List.getElem?_drop]at b1;simpa using b1
   simp[Ao,e1,e2,hi,Cf,hc]
  ·rename_i n;split at h<;>(try cases h;done);rename_i p hp;split at h<;>(try cases h;done);rename_i f hf;split at h<;>(try cases h;done);rename_i hlen;obtain⟨hlen,hpos⟩:=hlen;subst hlen;cases h;try dsimp only at hy
   obtain⟨z,h1,h2⟩:=Dyn.comp_val hy;obtain⟨h3,h4⟩:=Dyn.both_val h1;obtain⟨c1,e1,g1⟩:=A3 (G:=G) hd hr h3;obtain⟨c2,e2,g2⟩:=A3 (G:=G) hdi hr h4;unfold Can at g1 g2;cases g2;obtain⟨l,e3,g1⟩:=g1;cases e3;obtain⟨j1,j2,j3⟩:=L8 h2;obtain⟨a1,a2⟩:=KB hf g1;obtain⟨a3,a4⟩:=a2 j3;refine⟨.c (.agg ((l.drop (z.2.toNat*n)).take n)), ?_,_,rfl,by unfold Can;exact⟨_,rfl,a3⟩⟩
   have hi:idxOf z.2 len=some z.2.toNat:=by
    unfold idxOf;rw[if_pos ⟨j1,by rw[a1]at j2;exact j2⟩]
   simp[Ao,e1,e2,hi,Cf,a4]
 case load sz x=>
  split at h<;>(try cases h;done);rename_i p hp;exact LO hr hrd h hy fun x hx=>IK hr hrd (fun x hx=>AJ hp hr hx) hx (LN h)
 case len kd x=>
  split at h<;>(try cases h;done);rename_i d hd;cases h;try dsimp only at hy
  exact⟨_,by simp only[Ao];rw[T5 hr hrd hd hy];rfl,_,rfl,by unfold Can;rfl⟩
 case sslice x lo hi=>
  split at h<;>(try cases h;done);rename_i d hd;split at h<;>(try cases h;done);rename_i e he;cases h;try dsimp only at hy
  obtain⟨p,h1,h2⟩:=Dyn.comp_val hy;obtain⟨h3,h4,h5⟩:=Nx (G:=G) hr he h1;obtain⟨c1,e1,g1⟩:=A3 (G:=G) hd hr h3;unfold Can at g1;cases g1;obtain⟨l1,l2,l3,l4⟩:=LA h2;refine⟨.c (.str y), ?_,_,rfl,by unfold Can;rfl⟩;simp only[Ao,e1];rw[h4 _ rfl (by omega),Option.bind_some,h5 l1,Option.bind_some,if_pos (by omega),l4]
 case slice size x lo hi=>
  split at h<;>(try cases h;done);rename_i e d hd;split at h<;>(try cases h;done);rename_i hv;split at h<;>(try cases h;done);rename_i g hg;cases h;try dsimp only at hy
  obtain⟨p,h1,h2⟩:=Dyn.comp_val hy;obtain⟨h3,h4,h5⟩:=Nx (G:=G) hr hg h1;obtain⟨c1,e1,g1⟩:=A3 (G:=G) hd hr h3;unfold Can at g1;obtain⟨nl,es,e3,g1⟩:=g1;cases e3;obtain⟨l1,l2,l3,l4⟩:=LA h2;have hlen:=g1.length;refine⟨.c (.sl nl ((es.take p.2.2.toNat).drop p.2.1.toNat)), ?_,_,rfl,by unfold Can;exact⟨_,_,rfl,by rw[l4];exact(g1.take _).drop _⟩⟩;simp only[Ao,e1]
  have hall:(es.all fun e=>AK e==size)=true:=by
   rw[List.all_eq_true];intro c hc;obtain⟨i,hi⟩:=List.getElem?_of_mem hc;obtain⟨a,_,h7⟩:=g1.getB hi;simp[(Fl hv.1 hv.2 h7).2]
  rw[h4 _ (by rw[hlen]) (by omega),Option.bind_some,h5 l1,Option.bind_some,if_pos ⟨by omega,hall⟩]
 case slice3 size x lo hi mx=>
  split at h<;>(try cases h;done)
  ·rename_i d kh dh km dm hd hdh hdm;cases h;try dsimp only at hy
   obtain⟨p,h1,h2⟩:=Dyn.comp_val hy;obtain⟨h3,h4⟩:=Dyn.both_val h1;obtain⟨h5,h6⟩:=Dyn.both_val h4;simp only[Dyn.val]at h2;split at h2<;>(try cases h2;done);rename_i hz;cases h2;obtain⟨c1,e1,g1⟩:=A3 (G:=G) hd hr h3;obtain⟨c2,e2,g2⟩:=A3 (G:=G) hdh hr h5;obtain⟨c3,e3,g3⟩:=A3 (G:=G) hdm hr h6;unfold Can at g1 g2 g3;cases g1;cases g2;cases g3;refine⟨.c (.sl (some true) []), ?_,_,rfl,by unfold Can;rfl⟩;simp[Ao,e1,e2,e3,Cj,hz.1,hz.2]
  ·rename_i e d kh dh km dm hd hdh hdm;split at h<;>(try cases h;done);rename_i hv;cases h;try dsimp only at hy
   obtain⟨p,h1,h2⟩:=Dyn.comp_val hy;obtain⟨h3,h4⟩:=Dyn.both_val h1;obtain⟨h5,h6⟩:=Dyn.both_val h4;simp only[Dyn.val]at h2;split at h2<;>(try cases h2;done);rename_i hz;obtain⟨c1,e1,g1⟩:=A3 (G:=G) hd hr h3;obtain⟨c2,e2,g2⟩:=A3 (G:=G) hdh hr h5;obtain⟨c3,e3,g3⟩:=A3 (G:=G) hdm hr h6;unfold Can at g1 g2 g3;obtain⟨nl,es,q1,g1⟩:=g1;cases q1;cases g2;cases g3;obtain⟨l1,l2,l3,l4⟩:=LA h2;have hlen:=g1.length;refine⟨.c (.sl nl ((es.take p.2.1.toNat).drop (0:Int).toNat)), ?_,_,rfl,by unfold Can;exact⟨_,_,rfl,by rw[l4];exact(g1.take _).drop _⟩⟩
   have hall:(es.all fun e=>AK e==size)=true:=by
    rw[List.all_eq_true];intro c hc;obtain⟨i,hi⟩:=List.getElem?_of_mem hc;obtain⟨a,_,h7⟩:=g1.getB hi;simp[(Fl hv.1 hv.2 h7).2]
   simp only[Ao,e1,e2,e3,Cj,←hz,if_pos l2,Option.map_none,Option.bind_some];rw[if_pos ⟨⟨by omega,by omega,by simp⟩,hall⟩];rfl
 case capp e0 size bytes x y'=>
  split at h<;>(try cases h;done);rename_i dx e dy hd he;split at h<;>(try cases h;done);rename_i hv;cases h;try dsimp only at hy
  obtain⟨p,h1,h2⟩:=Dyn.comp_val hy;obtain⟨h3,h4⟩:=Dyn.both_val h1;simp only[Dyn.val]at h2;split at h2<;>(try cases h2;done);rename_i hb;cases h2;obtain⟨c1,e1,g1⟩:=A3 (G:=G) hd hr h3;obtain⟨c2,e2,g2⟩:=A3 (G:=G) he hr h4;unfold Can at g1 g2;cases g1;obtain⟨nl,es,q1,g2⟩:=g2;cases q1;have hlen:=g2.length;refine⟨.c (.sl none es), ?_,_,rfl,by unfold Can;exact⟨_,_,rfl,g2⟩⟩;simp only[Ao,e1,e2];rw[if_pos ⟨IB hv.1 hv.2.1 hv.2.2 g2,by rw[hlen];exact LC (by rw[Int.natCast_mul]) hb.1,by rw[hlen];exact LD rfl hb.2⟩]
 case lookup mt kt z ok x k=>
  obtain⟨c,h1,h2⟩:=TH hr hrd h hy;exact⟨.c c,by simp only[Ao,h1,Option.map_some],h2⟩
 case asl n x=>
  split at h<;>(try cases h;done);rename_i r d hd;split at h<;>(try cases h;done);rename_i f hf;split at h<;>(try cases h;done);rename_i hlen;cases h;try dsimp only at hy
  obtain⟨z,h3,rfl⟩:=Dyn.map_val hy;obtain⟨cs,rest,e1,g1,g3⟩:=AJ hd hr h3;have hrest:=g3 rfl;subst hrest;rw[List.append_nil]at e1;have hl:=DL hlen g1;have hs:=QH hf g1;subst hs;refine⟨.c (.sl (some false) ((f z).map CV.str)), ?_,_,rfl,by unfold Can;exact⟨_,_,rfl,QJ _⟩⟩;simp only[Ao,e1,QI,hl,and_self,if_true]
end
end WB
