/-
  OWN TEXTS, MERGED (wip/merge.py): CoreV, CoreW, CoreWb, CoreWd, CoreWe, CoreWc, CoreWf, CoreWg, CoreWh. No condition of their own.
-/
import Derived.Test.YtefbaepigpomaaaGreatDoorK2
import Derived.Orders
set_option linter.unusedVariables false
set_option linter.unusedSimpArgs false
open Go.IntKind (i64 u64 u8 u32)
namespace WB
open Go Go.RowKit
section
variable {P:Program} {E:ah} {w0:WL} {M0:MM} {n:Nat} {st:St} {a:Act} {w w':World} {z:Cz}
theorem Y5{o:Oper}{g:aa}(b:BU P o=some g)(d:g.cls=.call):∃c,o.op=.call c/\
  ((∃f l,c.callee=.value (.func f)/\hasBody P f=true/\Aq Ap c.args.toList=some l/\g=.call f l)\/
   (∃t l,c.callee=.value (.tmp t)/\Aq Ap c.args.toList=some l/\g=.callv (.t t) l)):=by
 unfold BU at b
 split at b<;>rename_i i<;>first
  |(cases b;done)
  |(exfalso;have:=Ho b;rw[d]at this;cases this;done)
  |(exfalso;have:=Ib b;rw[d]at this;rcases this with h'|h'<;>cases h')
  |(unfold EJ at b
    refine⟨_,i, ?_⟩
    split at b<;>first
     |(cases b;done)
     |(rename_i f e
       split at b
       ·rename_i j;rcases Fs b with⟨l,h,rfl⟩|⟨_,_,_,_,_,_,_,rfl⟩
        ·exact .inl ⟨f,l,e,j,h,rfl⟩
        ·cases d
       ·cases b)
     |(rename_i t e
       simp only[Aa]at b;obtain⟨l,h,rfl⟩:=b
       exact .inr ⟨t,l,e,h,rfl⟩)
     |(exfalso
       (repeat' split at b)<;>try(rcases Fs b with⟨_,_,rfl⟩|⟨_,_,_,_,_,_,_,rfl⟩<;>(cases d;done))
       all_goals simp only[Ab,Aa,Ae,Ac,reduceCtorEq]at b
       all_goals(repeat (first|(subst b;cases d;done)|(obtain⟨_,b⟩:=b)))
       done))
  |(exfalso
    (repeat' split at b)<;>simp only[Ab,Aa,Option.ite_none_left_eq_some,Ae,Ac,Prod.exists,reduceCtorEq]at b
    all_goals(repeat (first|(subst b;cases d;done)|(obtain⟨_,b⟩:=b)))
    done)
theorem Zb{o:Oper}{g:aa}(d:BU P o=some g)(e:g.cls=.copy):∃c f x y sx i,o.op=.call c/\c.callee=.value (.func f)/\hasBody P f=true/\c.args.toList= [x,y]/\Ap x=some sx/\Ap y=some i/\g=.mcopy f sx i:=by
 unfold BU at d
 split at d<;>rename_i j<;>first
  |(cases d;done)
  |(exfalso;have:=Ho d;rw[e]at this;cases this;done)
  |(exfalso;have:=Ib d;rw[e]at this;rcases this with h'|h'<;>cases h')
  |(unfold EJ at d
    split at d<;>first
     |(cases d;done)
     |(rename_i f h
       split at d
       ·rename_i k;rcases Fs d with⟨l,r,rfl⟩|⟨x,y,a,b,q,p,m,rfl⟩
        ·cases e
        ·exact⟨_,f,x,y,a,b,j,h,k,q,p,m,rfl⟩
       ·cases d)
     |(exfalso
       (repeat' split at d)<;>try(rcases Fs d with⟨_,_,rfl⟩|⟨_,_,_,_,_,_,_,rfl⟩<;>(cases e;done))
       all_goals simp only[Ab,Aa,Ae,Ac,reduceCtorEq]at d
       all_goals(repeat (first|(subst d;cases e;done)|(obtain⟨_,d⟩:=d)))
       done))
  |(exfalso
    (repeat' split at d)<;>simp only[Ab,Aa,Option.ite_none_left_eq_some,Ae,Ac,Prod.exists,reduceCtorEq]at d
    all_goals(repeat (first|(subst d;cases e;done)|(obtain⟨_,d⟩:=d)))
    done)
theorem Ahf{M:MM}{c:CV}{v:Value}(h:HM c=true)(b:RelC w M c v):∃s:List UInt8,v=.string ⟨⟨s⟩⟩/\s.length≤9223372036854775807:=by
 cases c<;>simp[HM]at h;unfold RelC at b;exact⟨_,b,h⟩
theorem Ahe{c:CV}(h:HM c=true):AE .str c=true:=by
 cases c<;>simp[HM]at h;rfl
theorem Ni{f:FuncId}(c:hasBody P f=true)(args:Array Value):(callFunc f args).run P w=.ok (.enter f args) w:=by
 unfold hasBody at c
 cases e:P.funcs[f]? with
 |none=>rw[e]at c;cases c
 |some fn=>
  rw[e]at c;simp only[Ag,Bool.not_eq_true',Option.isSome_iff_exists]at c;obtain⟨⟨⟨b,c⟩,g⟩,_⟩:=c;have d:¬fn.name= "runtime.NumGoroutine" :=by simpa using g
  simp[callFunc,e,d,c]
theorem Tl{rd:Nat->Ob}{ρ:SO->SV}{d:Option Nat}{f:FuncId}{args:List SO}{b:List CV}{st':St}(h:D4 E rd ρ st d f args b=some st'):
  ∃l r,Aq (fun x=>Cy rd (ρ x)) args=some l/\E.fn f (l++b)=some r/\((args.all fun x=>bN (ρ x))=true\/r.memless=true)/\E8 st d r=some st':=by
 simp only[D4,Ab,Ae,Ak]at h;obtain⟨l,g,r,e,i,c⟩:=h;exact⟨l,r,g,e,i,c⟩
theorem Um(hE:aV P E)(h:SR P E.G w0 M0 n st a w z){rd:Nat->Ob}(hrd:∀id,rd id=.none\/rd id=st.ob id){o:Oper}{sop:aa}(hc:BU P o=some sop)(hd:∀j,o.dst=some j->j<n)(hm:H5 sop=true->o.dst=none){st':St}
  (m:A9 E rd st o.dst sop=some st') {K:Act->World->Prop} {Q:Exit->Act->World->Prop} (hK:∀a' w' z',SR P E.G w0 M0 n st' a' w' z'->K a' w'):o.wp P a w K Q:=by
 unfold Oper.wp;unfold A9 at m
 cases B:sop.cls with
 |val=>
  simp only[B,Aa]at m;obtain⟨sv,m,rfl⟩:=m;obtain⟨v,Z,h2⟩:=Ai0 h.ctx hrd hc B m;rw[Z];exact hK _ _ _ (h.put hd h2)
 |grow=>
  simp only[B,Aa]at m;obtain⟨sv,m,rfl⟩:=m;obtain⟨v,w',Z,h2,h3⟩:=Acq h hc B m;rw[Z];exact hK _ _ _ ((h.grow h2).put hd h3)
 |new=>
  simp only[B,Ab,Prod.exists]at m;obtain⟨sv,ob,m,ha⟩:=m;unfold Bz at ha
  cases hod:o.dst with
  |none=>rw[hod]at ha;cases ha
  |some d=>
   rw[hod]at ha m;simp only[Option.getD_some]at ha m;split at ha<;>(try cases ha;done);rename_i hn;simp only[Ac]at ha;subst ha;obtain⟨v,w',z',Z,h2⟩:=Aea h hc B m (hd d hod) hn;rw[Z];refine hK _ _ z' ?_;rw[hod];exact h2
 |eff=>
  simp only[B]at m;rcases Z0 h hc B hd hm m with⟨v,w',z',Z,h2⟩|⟨w',z',Z,h2⟩
  ·rw[Z];exact hK _ _ _ h2
  ·rw[Z];exact hK _ _ _ h2
 |copy=>
  simp only[B]at m;obtain⟨c,f,x,y,sx,sy,ho,H,I,C,hx,hy,rfl⟩:=Zb hc B;replace m:Fw E (so E.G st.fr) st o.dst f sx sy=some st':=m;unfold Fw at m;split at m
  case isFalse=>
   have hr:=h.ctx.opd hx;have L:=h.ctx.opd hy;generalize so E.G st.fr sx=q at hr m;generalize so E.G st.fr sy=q2 at L m;cases q<;>(try cases m;done);cases q2<;>(try cases m;done);rename_i id cv;cases cv<;>(try cases m;done);rename_i g Y;cases Y<;>(try cases m;done);dsimp only at m;split at m<;>(try cases m;done);rename_i e size es hob;split at m<;>(try cases m;done);rename_i J V;cases m;obtain⟨_,hinf,hmv,hC⟩:=hE.srt _ _ _ _ _ _ V;obtain⟨M,e1⟩:=hr
   have e2:a.eval y=.func (.func g) #[] #[]:=by
    unfold Aw RelC at L;obtain⟨vs,W,g2⟩:=L;unfold RelL at g2;subst g2;unfold bT at W;rw[hmv]at W;exact W
   have hro:=h.ob id;rw[hob]at hro;obtain⟨xs,hrow,hF⟩:=hro;obtain⟨i,hi⟩:=Option.isSome_iff_exists.1 hinf;have hown:=hrow.own hi
   have u:(execOp a.eval o).run P w=(callFunc f ⟨[z.σ id,.func (.func g) #[] #[]]⟩).run P w:=by
    have e3:(⟨c.args.toList.map a.eval⟩:Array Value)=c.args.map a.eval:=Array.toList_inj.1 (by simp)
    have e4:(⟨[z.σ id,.func (.func g) #[] #[]]⟩:Array Value)=c.args.map a.eval:=by
     rw[<-e3,C];simp only[List.map_cons,List.map_nil,e1,e2]
    rw[e4];simp[execOp,ho,resolve,H,Act.eval,Deferred.ofValue,invoke]
   rw[u,Ni I];refine(hC w _ _ xs hown hF).mono fun k w' ⟨he,hgr,xs',k1,k2⟩=> ?_;subst he;refine hK _ _ _ (SR.put (SR.turn h M (o':=.arr e size J) (by simp) hgr (β':=z.β id) (fun _ _ S=>S) (fun S=>by cases S) fun hkp hz=>⟨xs',DC.of k1,k2 _ _⟩) hd ?_);show RelC _ _ (.tup []) _;unfold RelC;exact⟨[],rfl,RelL.nil⟩
  rename_i hcp;have hr:=h.ctx.opd hx;have L:=h.ctx.opd hy;generalize so E.G st.fr sx=q at hr m;generalize so E.G st.fr sy=q2 at L m;cases q<;>(try cases m;done);cases q2<;>(try cases m;done);rename_i id cv;cases cv<;>(try cases m;done);rename_i nl ks vs;dsimp only at m;split at m<;>(try cases m;done);rename_i mt zc hob;split at m<;>(try cases m;done);rename_i hg;obtain⟨hsk,hlen⟩:=hg;cases m;obtain⟨M,e1⟩:=hr;obtain⟨hmt,ks',vs',r,ens,clk,hmp,e2,S,hB⟩:=I2 h hob;have hks':ks'= []:=List.eq_nil_of_length_eq_zero hmp.ks.length_eq;subst hks'
  have hens:ens= []:=by
   have:=hB.1;unfold RelL at this;simpa using this
  subst hens;have hrm:Ao M0 z st.ob r:=.inr ⟨id,M,by rw[e2];rfl⟩;have hskA:∀k∈ks,HM k=true:=List.all_eq_true.1 hsk
  have src:∃(ps:Option Nat) (es J:List MapEntry),a.eval y=.map ps/\((ps=none/\es= [])\/∃bs X,ps=some bs/\bs≠r/\w.heap[bs]? =some (.map ⟨es⟩ X)/\cH es X)/\J.Perm es/\
    RelL w (Ao M0 z st.ob) ks (J.map (·.key))/\RelL w (Ao M0 z st.ob) vs (J.map (·.val)):=by
   unfold Aw RelC at L;obtain⟨rr,W,_,_,g4,g5⟩:=L
   cases rr with
   |none=>
    obtain⟨rfl,rfl⟩:=g4 rfl;exact⟨none,[],[],W,.inl ⟨rfl,rfl⟩,.refl _,RelL.nil,RelL.nil⟩
   |some bs=>
    obtain⟨g6,es,J,X,g7,g8,g9,g10,g11⟩:=g5 bs rfl;exact⟨some bs,es,J,W,.inr ⟨bs,X,rfl,fun e=>g6 (e▸hrm),g7,g8⟩,g9,g10,g11⟩
  obtain⟨ps,es,J,W,g2,g3,g4,g5⟩:=src
  have hkey:∀en:MapEntry,en∈es->∃s:List UInt8,en.key=.string ⟨⟨s⟩⟩/\s.length≤9223372036854775807:=by
   intro en hen;obtain⟨i,hi⟩:=List.mem_iff_getElem?.1 (g3.mem_iff.2 hen);obtain⟨k,k1,k2⟩:=g4.getR (i:=i) (v:=en.key) (by rw[List.getElem?_map,hi];rfl);exact Ahf (hskA k (List.mem_of_getElem? k1)) k2
  have hlen':es.length≤9223372036854775807:=by
   have:=g4.length;rw[List.length_map,g3.length_eq]at this;omega
  have u:(execOp a.eval o).run P w=(callFunc f ⟨[.map (some r),.map ps]⟩).run P w:=by
   have e:(⟨c.args.toList.map a.eval⟩:Array Value)=c.args.map a.eval:=Array.toList_inj.1 (by simp)
   have e':(⟨[.map (some r),.map ps]⟩:Array Value)=c.args.map a.eval:=by
    rw[<-e,C];simp only[List.map_cons,List.map_nil,W,e1,e2]
   rw[e'];simp[execOp,ho,resolve,H,Act.eval,Deferred.ofValue,invoke]
  rw[u,Ni I];refine((hE.cp f hcp).2 w r clk ps es S g2 hkey hlen').mono fun e w' ⟨he,hgr,ens2,clk2,k1,k2,k3⟩=> ?_;subst he
  have k4:((ens2.map fun e=>({key:=e.key,val:=e.val,born:=0}:MapEntry))).Perm (J.map fun e=>({key:=e.key,val:=e.val,born:=0}:MapEntry)):=by
   have q1:=k3.map (fun p:Value×Value=>({key:=p.1,val:=p.2,born:=0}:MapEntry));simp only[List.map_map]at q1;exact q1.trans (g3.symm.map _)
  refine hK _ _ _ (SR.put (SR.turn h M (o':=.map mt .str zc ks vs) (by simp) (by rw[e2];exact hgr) (β':=z.β id) (fun _ _ S=>S) (fun _=>by rw[hob];rfl) fun hkp hz=> ?_) hd ?_)
  ·have r1:=RelL.keep hkp _ _ g4;have r2:=RelL.keep hkp _ _ g5;obtain⟨ks2,vs2,m1,m2,m3⟩:=Wx (ens':=J.map fun e=>({key:=e.key,val:=e.val,born:=0}:MapEntry)) k4.symm (by simpa[List.map_map,Function.comp_def]using r1) (by simpa[List.map_map,Function.comp_def]using r2);simp only[List.map_map,Function.comp_def]at m2 m3;have hcf:∀k∈ks2,AE .str k=true:=fun k hk=>Ahe (hskA k (m1.ks.mem_iff.1 hk));refine⟨hmt,ks2,vs2,r,ens2,clk2,m1,e2,k1,m2,m3,hcf,PW hcf m2 k2.1,k2.2.1,k2.2.2,fun k b I=> ?_⟩;simp only[AR]at I;obtain⟨i,en,q1,_⟩:=hB.2.2.2.2.2.2 k b I;simp at q1
  ·show RelC _ _ (.tup []) _;unfold RelC;exact⟨[],rfl,RelL.nil⟩
 |call=>
  obtain⟨c,ho,hcase⟩:=Y5 hc B
  have ay:∀{f:FuncId} {vs:List Value} {l:List CV} {r:be} {b:Bool},hasBody P f=true->(execOp a.eval o).run P w=(callFunc f ⟨vs⟩).run P w->E.fn f l=some r->RelL w (bJ w0 M0 z) l vs->(b=false->RelL w (Ao M0 z st.ob) l vs)->(b=true->r.memless=true)->E8 st o.dst r=some st'->
    o.upon P a K Q ((execOp a.eval o).run P w):=by
   intro f vs l r b I u hf Z h2 h3 h4;rw[u,Ni I];refine(Y6 hE h hd hf Z h2 h3 h4).mono fun e w' ⟨v,he,z',hS⟩=> ?_;subst he;exact hK _ _ _ hS
  have JA:∀{f:FuncId} {e:bF} {vs:List Value} {l:List CV} {r:CV} {H':Nat->Ob},(execOp a.eval o).run P w=(callFunc f ⟨vs⟩).run P w->hasBody P f=true->RelL w (Ao M0 z st.ob) l vs->Fn P E.G f e.T l (CH e.T st.ob) r H'->(C9 e.T H' st).set o.dst (.c r)=st'->
    o.upon P a K Q ((execOp a.eval o).run P w):=by
   intro f e vs l r H' u he hl hr V;subst V;rw[u,Ni he];refine(Z2 hE h hd hl hr).mono fun e w' ⟨v,he,z',hS⟩=> ?_;subst he;exact hK _ _ _ hS
  rcases hcase with⟨f,args,H,I,C,rfl⟩|⟨t,args,H,C,rfl⟩
  ·simp only[B]at m
   have u:(execOp a.eval o).run P w=(callFunc f ⟨c.args.toList.map a.eval⟩).run P w:=by
    have e:(⟨c.args.toList.map a.eval⟩:Array Value)=c.args.map a.eval:=Array.toList_inj.1 (by simp);rw[e];simp[execOp,ho,resolve,H,Act.eval,Deferred.ofValue,invoke]
   cases U:E.ef f with
   |some e=>
    simp only[U,Dt,Ab,Ac]at m;obtain⟨l,hl,p,hp,V⟩:=m;rw[List.append_nil]at hp;have hm:=(hE.ef f e U).2 _ _ _ _ hp;unfold Fo at hm;rw[Iu I]at hm;exact JA u I (L7 h C hl) hm V
   |none=>
    simp only[U]at m;obtain⟨l,r,hl,hf,hor,V⟩:=Tl m;obtain⟨W,g2⟩:=OB h hrd C hl;rw[List.append_nil]at hf
    cases N:args.all (fun x=>bN (so E.G st.fr x))with
    |true=>exact ay (b:=false) I u hf W (fun _=>g2 N) (fun S=>by cases S) V
    |false=>
     rw[N]at hor;exact ay (b:=true) I u hf W (fun S=>by cases S) (fun _=>by simpa using hor) V
  ·simp only[B]at m;have hr:=h.fr t;have hso:so E.G st.fr (.t t)=st.fr t:=rfl;rw[hso]at m;split at m<;>(try cases m;done);rename_i f Y hfr;rw[hfr]at hr;unfold Aw RelC at hr;obtain⟨cvs,e1,F⟩:=hr
   have u:mvOf f=none->(execOp a.eval o).run P w=(callFunc f ⟨c.args.toList.map a.eval++cvs⟩).run P w:=fun hm=>by
    have e:(⟨c.args.toList.map a.eval++cvs⟩:Array Value)=c.args.map a.eval++⟨cvs⟩:=Array.toList_inj.1 (by simp);rw[e];unfold bT at e1;rw[hm]at e1;simp only at e1;simp[execOp,ho,resolve,H,Act.eval,e1,Deferred.ofValue,invoke]
   cases U:E.ef f with
   |some e=>
    simp only[U,Dt,Ab,Ac]at m;obtain⟨l,hl,p,hp,V⟩:=m;obtain⟨I,hC⟩:=hE.ef f e U;have O:=hC _ _ _ _ hp;unfold Fo at O
    cases hm:mvOf f with
    |none=>
     rw[hm]at I O;exact JA (u hm) I ((L7 h C hl).append F) O V
    |some g=>
     rw[hm]at I O;simp only[Option.getD_some]at I O;unfold bT at e1;rw[hm]at e1;obtain⟨r,rfl,e1⟩:=e1;obtain⟨l',c',e2,O⟩:=O;have hcl:=F.length
     obtain⟨c2,rfl⟩:∃c2,Y= [c2]:=by
      match Y,hcl with
      | [c2],_=>exact⟨c2,rfl⟩
     obtain⟨e4,e3⟩:=List.append_inj' e2 rfl;subst e4;have e5:c2=c':=by simpa using e3
     subst e5
     have L:RelC w (Ao M0 z st.ob) c2 r:=by
      obtain⟨v,vs',e4,Z,_⟩:=by unfold RelL at F;exact F
      cases e4;exact Z
     have hrun2:(execOp a.eval o).run P w=(callFunc g ⟨r::c.args.toList.map a.eval⟩).run P w:=by
      have e:(⟨r::c.args.toList.map a.eval⟩:Array Value)= #[r]++c.args.map a.eval:=Array.toList_inj.1 (by simp);rw[e];simp[execOp,ho,resolve,H,Act.eval,e1,Deferred.ofValue,invoke]
     exact JA hrun2 I (RelL.cons L (L7 h C hl)) O V
   |none=>
    simp only[U]at m;obtain⟨l,r,hl,hf,hor,V⟩:=Tl m;obtain⟨W,g2⟩:=OB h hrd C hl;have I:=(hE.fn f _ r hf).1;have u:=u (Iu I);have hk:Bg w (Ao M0 z st.ob) w (bJ w0 M0 z):=⟨Nat.le_refl _,fun _ _ _=>rfl,fun g _ hg=>.inl hg.1,rfl⟩
    cases N:args.all (fun x=>bN (so E.G st.fr x))with
    |true=>exact ay (b:=false) I u hf (W.append (RelL.keep hk _ _ F)) (fun _=>(g2 N).append F) (fun S=>by cases S) V
    |false=>
     rw[N]at hor;exact ay (b:=true) I u hf (W.append (RelL.keep hk _ _ F)) (fun S=>by cases S) (fun _=>by simpa using hor) V
def ZL(P:Program)(d:Nat)(o:Oper):Bool:=
 match o.op with
 | .call c=>match c.callee with
  | .value (.func _)=>c.args.any fun x=>match x with
   | .tmp t=>t==d
   |_=>false
  |_=>false
 |_=>false
def Ad4(d:Nat)(o:Oper):Bool:=
 match o.op,o.dst with
 | .assign (.tmp t),some _=>t==d
 |_,_=>false
def QJ:Nat:=1099511627776
def O1(d:Nat)(o:Oper):Bool:=
 match o.op with
 | .build _ parts=>parts.toList.any fun p=>match p.2 with
  | .tmp t=>t==d
  |_=>false
 |_=>false
def Y9(ops:Array Oper)(d:Nat)(o:Oper):Bool:=
 match o.op,o.dst with
 | .call c,some d'=>match c.callee,c.args.toList with
  | .builtin .append,[_,.tmp t]=>t==d&&ops.any (O1 d')
  |_,_=>false
 |_,_=>false
def YZ(o:Oper):Bool:=
 match o.op with
 | .call c=>match c.callee with
  | .builtin .copy=>true
  |_=>false
 |_=>false
def My(P:Program)(ops:Array Oper)(d:Option Nat)(c:aa):aa:=
 match c,d with
 | .mksl e s xs,some d=>if(ops.any (ZL P d)||ops.any (Y9 ops d)||ops.any (O1 d))=true then .lsl e s xs else .mksl e s xs
 | .bytes e x,some d=>if(ops.any (Ad4 d)&&(P.info? QJ).isNone)=true then .nbytes QJ x else .bytes e x
 | .append e s b x y,some d=>if ops.any (O1 d)=true then .capp e s b x y else .append e s b x y
 | .load s x,some _=>if ops.any YZ=true then .loadb s x else .load s x
 |op,_=>op
def KW(P:Program)(o:Oper)(op:aa):Prop:=BU P o=some op\/(∃e s c,BU P o=some (.mksl e s c)/\op=.lsl e s c)\/(∃e d x,BU P o=some (.bytes e x)/\op=.nbytes d x/\P.info? d=none)\/(∃e s b x y,BU P o=some (.append e s b x y)/\op=.capp e s b x y)\/∃s x,BU P o=some (.load s x)/\op=.loadb s x
theorem Adw{P:Program}{o:Oper}{c:aa}(h:BU P o=some c)(ops:Array Oper)(d:Option Nat):KW P o (My P ops d c):=by
 unfold My;split
 ·rename_i e s g d;split
  ·exact .inr (.inl ⟨e,s,g,h,rfl⟩)
  ·exact .inl h
 ·rename_i e x d;split
  ·rename_i f;simp only[Ag,Option.isNone_iff_eq_none]at f;exact .inr (.inr (.inl ⟨e,QJ,x,h,rfl,f.2⟩))
  ·exact .inl h
 ·rename_i e s b x y d;split
  ·exact .inr (.inr (.inr (.inl ⟨e,s,b,x,y,h,rfl⟩)))
  ·exact .inl h
 ·rename_i s x _;split
  ·exact .inr (.inr (.inr (.inr ⟨s,x,h,rfl⟩)))
  ·exact .inl h
 ·exact .inl h
theorem Un(hE:aV P E)(h:SR P E.G w0 M0 n st a w z){rd:Nat->Ob}(l:∀id,rd id=.none\/rd id=st.ob id){o:Oper}{k:aa}(f:KW P o k)(hd:∀j,o.dst=some j->j<n)(B:H5 k=true->o.dst=none){st':St}
  (c:A9 E rd st o.dst k=some st') {K:Act->World->Prop} {Q:Exit->Act->World->Prop} (m:∀t w' z',SR P E.G w0 M0 n st' t w' z'->K t w'):o.wp P a w K Q:=by
 rcases f with f|⟨e,s,xs,f,rfl⟩|⟨e,e',x,f,rfl,he'⟩|⟨e,s,b,x,y,f,rfl⟩|⟨s,x,f,rfl⟩
 ·exact Um hE h l f hd B c m
 ·unfold Oper.wp;unfold A9 at c;simp only[aa.cls,Aa]at c;obtain⟨sv,c,rfl⟩:=c;obtain⟨v,w',q,p,r⟩:=Adx h f c;rw[q];exact m _ _ _ ((h.grow p).put hd r)
 ·unfold Oper.wp;unfold A9 at c;simp only[aa.cls,Ab,Prod.exists]at c;obtain⟨sv,ob,c,i⟩:=c;unfold Bz at i
  cases g:o.dst with
  |none=>rw[g]at i;cases i
  |some d=>
   rw[g]at i c;simp only[Option.getD_some]at i c;split at i<;>(try cases i;done);rename_i u;simp only[Ac]at i;subst i;obtain⟨v,w',z',q,p⟩:=Ad9 h f he' c (hd d g) u;rw[q];refine m _ _ z' ?_;rw[g];exact p
 ·unfold Oper.wp;unfold A9 at c;simp only[aa.cls,Aa]at c;obtain⟨sv,c,rfl⟩:=c;obtain⟨v,w',q,p,r⟩:=Y8 h f c;rw[q];exact m _ _ _ ((h.grow p).put hd r)
 ·refine Um (st':=st') hE h l f hd (fun C=>by cases C) ?_ m;unfold A9 at c⊢;simp only[aa.cls,An]at c⊢;split at c
  ·cases c
  ·exact c
def CS(P:Program)(n:Nat)(ops:Array Oper)(o:Oper):Option SL:=
 ((BU P o).map (My P ops o.dst)).bind fun b=>
   if(o.dst.all fun d=>decide (d<n))&&(!(H5 b)||o.dst.isNone)then
    match o.guard with
    |none=>some ⟨o.dst,b,none⟩
    |some (j,want)=>((ops[j]?).bind (·.dst)).map fun t=>⟨o.dst,b,some (t,want)⟩
   else none
theorem YW{ops:Array Oper}{o:Oper}{l:SL}(h:CS P n ops o=some l):KW P o l.op/\l.dst=o.dst/\(∀j,o.dst=some j->j<n)/\(H5 l.op=true->o.dst=none)/\
  ((o.guard=none/\l.guard=none)\/∃j t b,o.guard=some (j,b)/\(ops[j]?).bind (·.dst)=some t/\l.guard=some (t,b)):=by
 simp only[CS,Ab,Ae,Ag,Ak,Bool.not_eq_true']at h;obtain⟨d,f,⟨q,c⟩,e⟩:=h;obtain⟨p,k,i⟩:=Aa.1 f;replace f:KW P o d:=i▸Adw k ops o.dst;have hd:∀j,o.dst=some j->j<n:=fun j s=>by rw[s]at q;simpa using q
 have g:H5 d=true->o.dst=none:=fun g=>by
  rcases c with c|c
  ·rw[g]at c;cases c
  ·simpa using c
 split at e
 ·rename_i m;simp only[Ac]at e;subst e;exact⟨f,rfl,hd,g,.inl ⟨m,rfl⟩⟩
 ·rename_i j b m;simp only[Aa]at e;obtain⟨t,r,rfl⟩:=e;exact⟨f,rfl,hd,g,.inr ⟨j,t,b,m,r,rfl⟩⟩
theorem Xm{G:Nat->List CV}(h:SR P G w0 M0 n st a w z){d:Option Nat}(hd:∀j,d=some j->j<n):SR P G w0 M0 n (st.set d Bf) (a.put d undef) w z:=by
 refine h.put hd ?_;show RelC _ _ (.tup []) undef;unfold RelC;exact⟨[],rfl,RelL.nil⟩
theorem Ui(hE:aV P E)(h:SR P E.G w0 M0 n st a w z){rd:Nat->Ob}(s:∀id,rd id=.none\/rd id=st.ob id){ops:Array Oper}{i:Nat}{o:Oper}(O:ops[i]? =some o){l:SL}(S:CS P n ops o=some l){st':St}(d:Bm E rd l st=some st')
  {rest:List Nat} {Q:Exit->Act->World->Prop} (p:∀q w' z',SR P E.G w0 M0 n st' q w' z'->wpOps P ops Q rest q w'):wpOps P ops Q (i::rest) a w:=by
 obtain⟨L,C,B,K,T⟩:=YW S;simp only[wpOps,O];unfold Bm at d;rcases T with⟨y,g⟩|⟨j,t,I,y,J,g⟩
 ·rw[g]at d;simp only at d;rw[if_pos (by simp[Region.wanted,y])];rw[C]at d;exact .inl (Un hE h s L B K d (fun q w' z' H=>p q w' z' H))
 ·rw[g]at d;simp only at d;have u:=h.fr t
  have N:∀b,st.fr t=.c (.bool b)->yielded ops a.tmps j=some b:=by
   intro b m;rw[m]at u;have e:=DR (w:=w) (M:=Ao M0 z st.ob) u
   have x:t<a.tmps.size:=by
    rcases Nat.lt_or_ge t a.tmps.size with hh|hh
    ·exact hh
    ·simp[Array.getD,Nat.not_lt.2 hh,undef]at e
   have U:a.tmps[t]? =some (.bool b):=by
    rw[Array.getElem?_eq_getElem x];simpa[Array.getD,x]using e
   simp only[yielded,J,Option.bind_some,U]
  have f:st.fr t=.c (.tup [])->yielded ops a.tmps j=none:=by
   intro m;rw[m]at u;unfold Aw RelC at u;obtain⟨vs,e,_⟩:=u;simp only[yielded,J,Option.bind_some]
   cases F:a.tmps[t]? with
   |none=>rfl
   |some v=>
    have:a.tmps.getD t undef=v:=by rw[Array.getD_eq_getD_getElem?,F];rfl
    rw[this]at e;rw[e]
  split at d
  ·rename_i b m;have r:=N b m;split at d
   ·rename_i k;rw[if_pos (by simp[Region.wanted,y,r,k])];rw[C]at d;exact .inl (Un hE h s L B K d (fun q w' z' H=>p q w' z' H))
   ·rename_i k;rw[if_neg (by simp[Region.wanted,y,r,k])];simp only[Ac]at d;subst d;rw[C]at p;exact p _ _ _ (Xm h B)
  ·rename_i m;rw[if_neg (by simp[Region.wanted,y,f m])];simp only[Ac]at d;subst d;rw[C]at p;exact p _ _ _ (Xm h B)
  ·cases d
theorem LX(hE:aV P E)(h:SR P E.G w0 M0 n st a w z){D:Option (List Nat)}{ops:Array Oper}{i:Nat}{o:Oper}(d:ops[i]? =some o){l:SL}(e:CS P n ops o=some l){st':St}(c:Ar E D l st=some st')
  {rest:List Nat} {Q:Exit->Act->World->Prop} (g:∀b w' z',SR P E.G w0 M0 n st' b w' z'->wpOps P ops Q rest b w'):wpOps P ops Q (i::rest) a w:=by
 refine Ui (hE.at D) (Dp▸h) (rd:=AA (D.map (ag l.op)) st.ob) (fun id=> ?_) d e c (fun b w' z' f=>g b w' z' (Dp▸f));generalize D.map (ag l.op)=D
 cases D with
 |none=>exact .inr rfl
 |some D=>unfold AA;simp only;split<;>first|exact .inl rfl|exact .inr rfl
def Cm(E:ah)(D:Option (List Nat))(ls:List SL):List Nat->St->Option St
 | [],st=>some st
 |i::is,st=>match ls[i]? with
  |some l=>(Ar E D l st).bind (Cm E D ls is)
  |none=>none
theorem Ht(hE:aV P E){D:Option (List Nat)}{ops:Array Oper}{ls:List SL}(e:Aq (CS P n ops) ops.toList=some ls){Q:Exit->Act->World->Prop}:∀{c:List Nat} {st st':St} {a:Act} {w:World} {z:Cz},SR P E.G w0 M0 n st a w z->
  Cm E D ls c st=some st'->(∀g w' z',SR P E.G w0 M0 n st' g w' z'->Q .normal g w')->wpOps P ops Q c a w
 | [],st,st',a,w,z,h,hv,hK=>by
  simp only[Cm,Ac]at hv;subst hv;exact hK _ _ _ h
 |i::c,st,st',a,w,z,h,hv,hK=>by
  simp only[Cm]at hv;split at hv<;>(try cases hv;done);rename_i l k;simp only[Ab]at hv;obtain⟨m,q,p⟩:=hv;have b:=D3 e;have hi:i<ops.toList.length:=by rw[<-b];exact(Af.1 k).1
  have j:ops.toList[i]? =some (ops.toList[i]):=Aj hi;obtain⟨l',f,r⟩:=IX e j;rw[k]at f;simp only[Ac]at f;subst f;have d:ops[i]? =some (ops.toList[i]):=by rw[<-Array.getElem?_toList];exact j
  exact LX hE h d r q fun g w' z' o=>Ht hE e o p hK
end
def SO.slot:SO->List Nat
 | .t i=> [i]
 |_=> []
def Kc:Option SO->List Nat
 |some x=>x.slot
 |none=> []
def aa.slots:aa->List Nat
 | .mov x| .un _ x| .cvi _ x| .cvrune x| .cvbs x| .cvid x| .isnil _ _ x| .field _ _ x| .ext x _| .faddr _ x| .load _ x| .len _ x| .box x| .bytes _ x| .nbytes _ x| .nchk x| .siter x| .mrange x| .mentry x| .snext x| .asl _ x| .loadb _ x=>x.slot
 | .pick c a b=>c.slot++a.slot++b.slot
 | .bin _ x y| .eqs _ _ x y| .beq _ x y| .iaddr _ x y| .aaddr _ _ x y| .sidx x y| .aidx _ _ _ x y| .lookup _ _ _ _ x y| .make _ _ _ _ x y| .store _ x y| .append _ _ _ x y| .capp _ _ _ x y| .cpy _ _ x y| .mapent _ x y=>x.slot++y.slot
 | .build _ ps=>ps.flatMap fun p=>p.2.2.slot
 | .minmax _ xs| .fnv _ xs| .mksl _ _ xs| .lsl _ _ xs| .call _ xs=>xs.flatMap SO.slot
 | .callv f xs=>f.slot++xs.flatMap SO.slot
 | .mcopy _ x y=>x.slot++y.slot
 | .sslice x l h| .slice _ x l h=>x.slot++Kc l++Kc h
 | .slice3 _ x l h m=>x.slot++Kc l++h.slot++m.slot
 | .alloc _| .allocT .. | .mkmap .. => []
 | .entst x y z| .mapupd _ x y z=>x.slot++y.slot++z.slot
def SL.looks(l:SL):List Nat:=l.op.slots++(match l.guard with|some (g,_)=> [g]|none=> [])
def aa.hard:aa->Bool
 | .store .. | .append .. | .mapent .. | .entst .. | .mapupd .. | .snext .. | .mcopy .. | .cpy .. =>true
 |_=>false
def aa.calm:aa->Bool
 | .bin .. | .eqs .. | .beq .. | .un .. | .cvi .. | .mov .. | .ext .. | .minmax .. | .lookup _ _ _ false _ _=>true
 |_=>false
def aa.entry:aa->Bool
 | .mapent .. =>true
 |_=>false
def aa.makes:aa->Bool
 | .alloc .. | .allocT .. | .box .. | .mksl .. | .mkmap .. | .make .. | .siter .. | .nbytes .. | .mrange .. | .call .. | .callv .. =>true
 |_=>false
def aa.still:aa->Bool
 | .bin .. | .eqs .. | .beq .. | .un .. | .cvi .. | .mov .. | .ext .. | .minmax .. | .isnil .. | .pick .. =>true
 |_=>false
def aa.stores:aa->Bool
 | .store .. =>true
 |_=>false
def aa.grows:aa->Bool
 | .append .. =>true
 |_=>false
def aa.loads:aa->Bool
 | .load .. =>true
 |_=>false
def aa.puts:aa->Bool
 | .mapupd .. =>true
 |_=>false
def aa.moves:aa->Bool
 | .mov .. =>true
 |_=>false
def aa.tame:aa->Bool
 | .load .. | .alloc .. | .mksl .. | .mov .. | .slice .. =>true
 |_=>false
def aa.copies:aa->Bool
 | .cpy .. =>true
 |_=>false
def aa.flat:aa->Bool
 | .mov .. | .loadb .. =>true
 |_=>false
def G5(D:List Nat)(x y:SL):Bool:=
 (x.dst.all fun d=> !y.looks.contains d&&y.dst !=some d)&&(y.dst.all fun d=> !x.looks.contains d)&&
 ((!x.op.hard&&((!y.op.hard&&(!x.op.makes||x.dst.all fun d=>(ag y.op D).contains d)&&(!y.op.makes||y.dst.all fun d=>(ag x.op D).contains d))||(y.op.entry&&x.op.calm)||(y.op.stores&&x.op.still)||(y.op.grows&&x.op.moves)||(y.op.puts&&y.guard.isNone&&x.op.loads&&x.guard.isNone)))||(x.op.grows&&(y.op.moves||x.guard.isNone&&y.op.tame&&y.guard.isNone))||((x.op.copies&&y.op.flat||y.op.copies&&x.op.flat)&&x.guard.isNone&&y.guard.isNone))
def FQ(ops:Array Oper):Nat->Nat->Nat->Bool
 |0,_,_=>false
 |k+1,i,j=>match ops[j]? with
  |some o=>o.after.any fun e=>Region.binds .any e&&(e.on==i||(e.on<j&&FQ ops k i e.on))
  |none=>false
def JT(ops:Array Oper)(ms:List Nat)(j:Nat):Nat:=
 match ops[j]? with
 |some o=>o.after.foldl (fun m e=>if Region.binds .any e&&decide (e.on<j)then m|||(1<<<e.on)|||ms.getD e.on 0 else m) 0
 |none=>0
def DA(ops:Array Oper):Nat->List Nat
 |0=> []
 |n+1=>DA ops n++ [JT ops (DA ops n) n]
theorem Mz(ops:Array Oper):∀n,(DA ops n).length=n
 |0=>rfl
 |n+1=>by simp[DA,Mz ops n]
theorem F8(ops:Array Oper):∀{n j:Nat},j<n->(DA ops n).getD j 0=JT ops (DA ops j) j
 |0,_,h=>by omega
 |n+1,j,h=>by
  show(DA ops n++ [JT ops (DA ops n) n]).getD j 0=_;by_cases b:j<n
  ·have:=F8 ops b;rw[List.getD_eq_getElem?_getD,List.getElem?_append_left (by rw[Mz];exact b),<-List.getD_eq_getElem?_getD];exact this
  ·have e:j=n:=by omega
   subst e;rw[List.getD_eq_getElem?_getD,List.getElem?_append_right (by rw[Mz];exact Nat.le_refl _)];simp[Mz]
theorem GA(ops:Array Oper):∀{j k i:Nat},j<k->(JT ops (DA ops j) j).testBit i=true->FQ ops k i j=true:=by
 intro j
 induction j using Nat.strongRecOn with
 |_ j ih=>
  intro k i f h;obtain⟨k,rfl⟩:∃c,k=c+1:=⟨k-1,by omega⟩;unfold JT at h;unfold FQ;split at h
  ·rename_i o d;try simp only[d]
   rw[<-Array.foldl_toList]at h
   have key:∀(l:List Edge) (m:Nat),(l.foldl (fun m e=>if Region.binds .any e&&decide (e.on<j)then m|||(1<<<e.on)|||(DA ops j).getD e.on 0 else m) m).testBit i=true->
     m.testBit i=true\/∃e∈l,Region.binds .any e=true/\e.on<j/\(e.on=i\/((DA ops j).getD e.on 0).testBit i=true):=by
    intro l
    induction l with
    |nil=>intro m h;exact .inl h
    |cons e l ihl=>
     intro m h;simp only[List.foldl_cons]at h;rcases ihl _ h with h|⟨e',h1,h2⟩
     ·split at h
      ·rename_i b;simp only[Ag,decide_eq_true_eq]at b;rw[Nat.testBit_or,Nat.testBit_or,Ak,Ak]at h;rcases h with(h|h)|h
       ·exact .inl h
       ·refine .inr ⟨e,by simp,b.1,b.2,.inl ?_⟩;rw[Nat.shiftLeft_eq,Nat.one_mul,Nat.testBit_two_pow]at h;simpa using h
       ·exact .inr ⟨e,by simp,b.1,b.2,.inr h⟩
      ·exact .inl h
     ·exact .inr ⟨e',by simp[h1],h2⟩
   rcases key _ _ h with h|⟨e,h1,h2,h3,h4⟩
   ·simp at h
   ·rw[Array.any_eq_true'];refine⟨e,by simpa using h1, ?_⟩;simp only[Ag,Ak,beq_iff_eq,decide_eq_true_eq];refine⟨h2, ?_⟩;rcases h4 with h4|h4
    ·exact .inl h4
    ·right;rw[F8 ops h3]at h4;exact⟨h3,ih e.on h3 (by omega) h4⟩
  ·simp at h
def GR(E:ah)(rd:Nat->Ob)(ρ:SO->SV)(d:Option Nat)(f:FuncId)(args:List SO)(b:List CV):Option (SV×Option Ob):=
 (Aq (fun x=>Cy rd (ρ x)) args).bind fun l=>(E.fn f (l++b)).bind fun r=>
  if(args.all fun x=>bN (ρ x))||r.memless then some (match r with| .val v=>(.c v,none)| .new o=>(Na (d.getD 0) o,some o))else none
def A5(E:ah)(rd:Nat->Ob)(ρ:SO->SV)(d:Option Nat)(op:aa):Option (SV×Option Ob):=
 match op.cls with
 | .val| .grow=>(An rd ρ op).map fun v=>(v,none)
 | .new=>(Bl ρ (d.getD 0) op).map fun(v,o)=>(v,some o)
 | .eff| .copy=>none
 | .call=>match op with
  | .call f args=>GR E rd ρ d f args []
  | .callv f args=>match ρ f with
   | .c (.fn f caps)=>GR E rd ρ d f args caps
   |_=>none
  |_=>none
def B0(E:ah)(l:SL)(fr:Nat->SV)(rd:Nat->Ob):Option (SV×Option Ob):=
 match l.guard with
 |none=>A5 E rd (so E.G fr) l.dst l.op
 |some (g,want)=>match fr g with
  | .c (.bool b)=>if b=want then A5 E rd (so E.G fr) l.dst l.op else some (Bf,none)
  | .c (.tup [])=>some (Bf,none)
  |_=>none
def put(st:St)(d:Option Nat):SV×Option Ob->Option St
 |(v,none)=>some (st.set d v)
 |(v,some o)=>Bz st d v o
section
variable {E:ah}
theorem Xr{rd:Nat->Ob}{ρ:SO->SV}{st:St}{d:Option Nat}{f:FuncId}{args:List SO}{b:List CV}:D4 E rd ρ st d f args b=(GR E rd ρ d f args b).bind (put st d):=by
 unfold D4 GR
 cases Aq (fun x=>Cy rd (ρ x)) args with
 |none=>rfl
 |some l=>
  simp only[Option.bind_some]
  cases E.fn f (l++b)with
  |none=>rfl
  |some r=>
   simp only[Option.bind_some];split
   ·cases r<;>rfl
   ·rfl
theorem IS{rd:Nat->Ob}{st:St}{d:Option Nat}{op:aa}(b:op.hard=false):A9 E.still rd st d op=(A5 E rd (so E.G st.fr) d op).bind (put st d):=by
 cases op<;>simp only[aa.hard,Bool.true_eq_false]at b<;>simp only[A9,A5,aa.cls,Aha]<;>first
  |rfl
  |(cases An rd (so E.G st.fr) _<;>rfl)
  |(generalize Bl (so E.G st.fr) (d.getD 0) _=q;cases q<;>rfl)
  |exact Xr
  |skip
 show(match so E.G st.fr _ with| .c (.fn f caps)=>_|_=>none)=_;generalize so E.G st.fr _=q
 cases q<;>first
  |rfl
  |(rename_i v;cases v<;>first|rfl|exact Xr)
theorem Cw{D:List Nat}{st:St}{l:SL}(e:l.op.hard=false):Ar E (some D) l st=(B0 E l st.fr (AA (some (ag l.op D)) st.ob)).bind (put st l.dst):=by
 unfold Ar B0;simp only[Option.map_some]
 cases l.guard with
 |none=>exact IS e
 |some p=>
  obtain⟨g,d⟩:=p;simp only;generalize st.fr g=q
  cases q with
  |c v=>
   cases v with
   |bool b=>
    simp only;split
    ·exact IS e
    ·rfl
   |tup l=>cases l<;>rfl
   |_=>rfl
  |_=>rfl
theorem DE{G:Nat->List CV}{fr fr':Nat->SV}(x:SO)(h:∀i∈x.slot,fr i=fr' i):so G fr x=so G fr' x:=by
 cases x with
 |t i=>exact h i (by simp[SO.slot])
 |_=>rfl
theorem Gu{b β:Type}{f g:b->Option β}:∀(l:List b),(∀x∈l,f x=g x)->Aq f l=Aq g l
 | [],_=>rfl
 |x::l,h=>by
  simp only[Aq,h x (by simp),Gu l (fun y c=>h y (by simp[c]))]
theorem Oq{b:Type}{f g:b->Bool}:∀(l:List b),(∀x∈l,f x=g x)->l.all f=l.all g
 | [],_=>rfl
 |x::l,h=>by
  simp only[List.all_cons,h x (by simp),Oq l (fun y c=>h y (by simp[c]))]
theorem Kd{ρ b:SO->SV}(o:Option SO)(h:∀x,(∀i∈x.slot,i∈Kc o)->ρ x=b x):o.map ρ=o.map b:=by
 cases o with
 |none=>rfl
 |some x=>simp[h x (fun i hi=>by simpa[Kc]using hi)]
theorem Xs{rd:Nat->Ob}{fr fr':Nat->SV}{d:Option Nat}(op:aa)(h:∀i∈op.slots,fr i=fr' i):A5 E rd (so E.G fr) d op=A5 E rd (so E.G fr') d op:=by
 have key:∀x:SO,(∀i∈x.slot,i∈op.slots)->so E.G fr x=so E.G fr' x:=fun x u=>DE x fun i hi=>h i (u i hi);generalize so E.G fr=ρ at key⊢;generalize so E.G fr'=ρ' at key⊢
 cases op with
 |mov x=>simp only[A5,aa.cls,An,key x (fun i hi=>by simp[aa.slots,hi])]
 |pick c x y=>simp only[A5,aa.cls,An,key c (fun i hi=>by simp[aa.slots,hi]),key x (fun i hi=>by simp[aa.slots,hi]),key y (fun i hi=>by simp[aa.slots,hi])]
 |bin op x y=>simp only[A5,aa.cls,An,key x (fun i hi=>by simp[aa.slots,hi]),key y (fun i hi=>by simp[aa.slots,hi])]
 |eqs n ts x y=>simp only[A5,aa.cls,An,key x (fun i hi=>by simp[aa.slots,hi]),key y (fun i hi=>by simp[aa.slots,hi])]
 |beq n x y=>simp only[A5,aa.cls,An,key x (fun i hi=>by simp[aa.slots,hi]),key y (fun i hi=>by simp[aa.slots,hi])]
 |isnil k n x=>simp only[A5,aa.cls,An,key x (fun i hi=>by simp[aa.slots,hi])]
 |un op x=>simp only[A5,aa.cls,An,key x (fun i hi=>by simp[aa.slots,hi])]
 |cvi k x=>simp only[A5,aa.cls,An,key x (fun i hi=>by simp[aa.slots,hi])]
 |cvrune x=>simp only[A5,aa.cls,An,key x (fun i hi=>by simp[aa.slots,hi])]
 |cvbs x=>simp only[A5,aa.cls,An,key x (fun i hi=>by simp[aa.slots,hi])]
 |cvid x=>simp only[A5,aa.cls,An,key x (fun i hi=>by simp[aa.slots,hi])]
 |field o s x=>simp only[A5,aa.cls,An,key x (fun i hi=>by simp[aa.slots,hi])]
 |ext x j=>simp only[A5,aa.cls,An,key x (fun i hi=>by simp[aa.slots,hi])]
 |faddr o x=>simp only[A5,aa.cls,An,key x (fun i hi=>by simp[aa.slots,hi])]
 |iaddr s x y=>simp only[A5,aa.cls,An,key x (fun i hi=>by simp[aa.slots,hi]),key y (fun i hi=>by simp[aa.slots,hi])]
 |aaddr l s x y=>simp only[A5,aa.cls,An,key x (fun i hi=>by simp[aa.slots,hi]),key y (fun i hi=>by simp[aa.slots,hi])]
 |sidx x y=>simp only[A5,aa.cls,An,key x (fun i hi=>by simp[aa.slots,hi]),key y (fun i hi=>by simp[aa.slots,hi])]
 |aidx l s z x y=>simp only[A5,aa.cls,An,key x (fun i hi=>by simp[aa.slots,hi]),key y (fun i hi=>by simp[aa.slots,hi])]
 |load s x=>simp only[A5,aa.cls,An,key x (fun i hi=>by simp[aa.slots,hi])]
 |len k x=>simp only[A5,aa.cls,An,key x (fun i hi=>by simp[aa.slots,hi])]
 |lookup mt kt z ok x y=>simp only[A5,aa.cls,An,key x (fun i hi=>by simp[aa.slots,hi]),key y (fun i hi=>by simp[aa.slots,hi])]
 |alloc z=>rfl
 |allocT T z=>rfl
 |box x=>simp only[A5,aa.cls,Bl,key x (fun i hi=>by simp[aa.slots,hi])]
 |mkmap mt kt z=>rfl
 |make e s b z x y=>simp only[A5,aa.cls,Bl,key x (fun i hi=>by simp[aa.slots,hi]),key y (fun i hi=>by simp[aa.slots,hi])]
 |bytes e x=>simp only[A5,aa.cls,An,key x (fun i hi=>by simp[aa.slots,hi])]
 |nchk x=>simp only[A5,aa.cls,An,key x (fun i hi=>by simp[aa.slots,hi])]
 |siter x=>simp only[A5,aa.cls,Bl,key x (fun i hi=>by simp[aa.slots,hi])]
 |mrange x=>simp only[A5,aa.cls,Bl,key x (fun i hi=>by simp[aa.slots,hi])]
 |mentry x=>simp only[A5,aa.cls,An,key x (fun i hi=>by simp[aa.slots,hi])]
 |nbytes e x=>simp only[A5,aa.cls,Bl,key x (fun i hi=>by simp[aa.slots,hi])]
 |store n x y=>rfl
 |append e s b x y=>rfl
 |loadb s x=>simp only[A5,aa.cls,An,key x (fun i hi=>by simp[aa.slots,hi])]
 |cpy e s x y=>rfl
 |mapent mt x y=>rfl
 |entst x y z=>rfl
 |mapupd mt x y z=>rfl
 |mcopy f x y=>rfl
 |snext x=>rfl
 |asl n x=>simp only[A5,aa.cls,An,key x (fun i hi=>by simp[aa.slots,hi])]
 |sslice x lo hi=>
  have r:=Kd lo (fun y q=>key y (fun i hi=>by simp[aa.slots,q i hi]));have t:=Kd hi (fun y q=>key y (fun i hi=>by simp[aa.slots,q i hi]));simp only[A5,aa.cls,An,key x (fun i hi=>by simp[aa.slots,hi]),r,t]
 |slice s x lo hi=>
  have r:=Kd lo (fun y q=>key y (fun i hi=>by simp[aa.slots,q i hi]));have t:=Kd hi (fun y q=>key y (fun i hi=>by simp[aa.slots,q i hi]));simp only[A5,aa.cls,An,key x (fun i hi=>by simp[aa.slots,hi]),r,t]
 |slice3 s x lo hi mx=>
  have r:=Kd lo (fun y q=>key y (fun i hi=>by simp[aa.slots,q i hi]));simp only[A5,aa.cls,An,key x (fun i hi=>by simp[aa.slots,hi]),r,key hi (fun i h=>by simp[aa.slots,h]),key mx (fun i h=>by simp[aa.slots,h])]
 |capp e s b x y=>simp only[A5,aa.cls,An,key x (fun i hi=>by simp[aa.slots,hi]),key y (fun i hi=>by simp[aa.slots,hi])]
 |build z ps=>
  simp only[A5,aa.cls,An];rw[Gu ps (fun p g=>by rw[key p.2.2 (fun i hi=>by simp only[aa.slots,List.mem_flatMap];exact⟨p,g,hi⟩)])]
 |minmax m xs=>
  simp only[A5,aa.cls,An];rw[Gu xs (fun p g=>by rw[key p (fun i hi=>by simp only[aa.slots,List.mem_flatMap];exact⟨p,g,hi⟩)])]
 |fnv f xs=>
  simp only[A5,aa.cls,An];rw[Gu xs (fun p g=>by rw[key p (fun i hi=>by simp only[aa.slots,List.mem_flatMap];exact⟨p,g,hi⟩)])]
 |lsl e s xs=>
  simp only[A5,aa.cls,An];rw[Gu xs (fun p g=>by rw[key p (fun i hi=>by simp only[aa.slots,List.mem_flatMap];exact⟨p,g,hi⟩)])]
 |mksl e s xs=>
  simp only[A5,aa.cls,Bl];rw[Gu xs (fun p g=>by rw[key p (fun i hi=>by simp only[aa.slots,List.mem_flatMap];exact⟨p,g,hi⟩)])]
 |call f xs=>
  simp only[A5,aa.cls,GR]
  rw[Gu xs (fun p g=>by rw[key p (fun i hi=>by simp only[aa.slots,List.mem_flatMap];exact⟨p,g,hi⟩)]),
   Oq xs (fun p g=>by rw[key p (fun i hi=>by simp only[aa.slots,List.mem_flatMap];exact⟨p,g,hi⟩)])]
 |callv f xs=>
  simp only[A5,aa.cls,GR]
  rw[Gu xs (fun p g=>by rw[key p (fun i hi=>by simp only[aa.slots,List.mem_append,List.mem_flatMap];exact .inr ⟨p,g,hi⟩)]),
   Oq xs (fun p g=>by rw[key p (fun i hi=>by simp only[aa.slots,List.mem_append,List.mem_flatMap];exact .inr ⟨p,g,hi⟩)]),
   key f (fun i hi=>by simp[aa.slots,hi])]
theorem FH{rd:Nat->Ob}{fr fr':Nat->SV}{l:SL}(h:∀i∈l.looks,fr i=fr' i):B0 E l fr rd=B0 E l fr' rd:=by
 have c:∀i∈l.op.slots,fr i=fr' i:=fun i hi=>h i (by simp[SL.looks,hi]);unfold B0
 cases d:l.guard with
 |none=>exact Xs _ c
 |some p=>
  obtain⟨g,b⟩:=p;simp only;rw[h g (by simp[SL.looks,d]),Xs _ c]
theorem Wo{D:List Nat}{st st':St}{d:Option Nat}{p:SV×Option Ob}(h:put st d p=some st')(b:p.2.isSome=true->∀j,d=some j->D.contains j=true):AA (some D) st'.ob=AA (some D) st.ob:=by
 obtain⟨v,o⟩:=p
 cases o with
 |none=>
  simp only[put,Ac]at h;subst h;cases d<;>rfl
 |some o=>
  simp only[put,Bz]at h
  cases d with
  |none=>cases h
  |some d=>
   simp only at h;split at h<;>(try cases h;done);cases h;have:=b rfl d rfl;funext i;simp only[AA,BS];split
   ·rfl
   ·rename_i hi;split
    ·rename_i e;subst e;exact(hi this).elim
    ·rfl
theorem CX{st st':St}{d:Option Nat}{p:SV×Option Ob}(h:put st d p=some st'){i:Nat}(hi:d≠some i):st'.fr i=st.fr i:=by
 obtain⟨v,o⟩:=p
 cases o with
 |none=>
  simp only[put,Ac]at h;subst h
  cases d with
  |none=>rfl
  |some d=>exact A8 _ _ (fun e=>hi (by rw[e]))
 |some o=>
  simp only[put,Bz]at h
  cases d with
  |none=>cases h
  |some d=>
   simp only at h;split at h<;>(try cases h;done);cases h;exact A8 _ _ (fun e=>hi (by rw[e]))
theorem FI{b:Type}(f:Nat->b){i j:Nat}(u v:b)(h:i≠j):ac (ac f i u) j v=ac (ac f j v) i u:=by
 funext k;simp only[BS];by_cases d:k=i<;>by_cases c:k=j<;>simp_all
theorem Wl{st t k:St}{h g:Option Nat}{m l:SV×Option Ob}(d:put st h m=some t)(b:put t g l=some k)(hd:∀i j,h=some i->g=some j->i≠j):∃s,put st g l=some s/\put s h m=some k:=by
 obtain⟨u,p⟩:=m;obtain⟨r,e⟩:=l
 cases h with
 |none=>
  cases p with
  |none=>
   simp only[put,Ac]at d;cases d;exact⟨k,b,rfl⟩
  |some o=>cases d
 |some i=>
  cases g with
  |none=>
   cases e with
   |none=>
    simp only[put,Ac]at b;cases b;exact⟨st,rfl,d⟩
   |some o=>cases b
  |some j=>
   have c:=hd i j rfl rfl
   cases p with
   |none=>
    simp only[put,Ac]at d;cases d
    cases e with
    |none=>
     simp only[put,Ac]at b;cases b;exact⟨_,rfl,by simp[put,St.set,FI _ _ _ c]⟩
    |some e=>
     simp only[put,Bz,St.set]at b;split at b<;>(try cases b;done);rename_i f;cases b;exact⟨{fr:=ac st.fr j r,ob:=ac st.ob j e},by simp[put,Bz,f],by simp[put,St.set,FI _ _ _ c]⟩
   |some p=>
    simp only[put,Bz]at d;split at d<;>(try cases d;done);rename_i f;cases d
    cases e with
    |none=>
     simp only[put,Ac]at b;cases b;exact⟨_,rfl,by simp[put,Bz,St.set,f,FI _ _ _ c]⟩
    |some e=>
     simp only[put,Bz,A8 _ _ (Ne.symm c)]at b;split at b<;>(try cases b;done);rename_i q;cases b;exact⟨{fr:=ac st.fr j r,ob:=ac st.ob j e},by simp[put,Bz,q],by simp[put,Bz,A8 _ _ c,f,FI _ _ _ c]⟩
theorem Xt{rd:Nat->Ob}{ρ:SO->SV}{d:Option Nat}{op:aa}{p:SV×Option Ob}(h:A5 E rd ρ d op=some p)(b:p.2.isSome=true):op.makes=true:=by
 cases op<;>simp only[A5,aa.cls,Aa,reduceCtorEq]at h<;>first
  |rfl
  |(obtain⟨v,_,rfl⟩:=h;cases b)
theorem HK{l:SL}{fr:Nat->SV}{rd:Nat->Ob}{p:SV×Option Ob}(h:B0 E l fr rd=some p)(b:p.2.isSome=true):l.op.makes=true:=by
 unfold B0 at h;split at h
 ·exact Xt h b
 ·split at h
  ·split at h
   ·exact Xt h b
   ·cases h;cases b
  ·cases h;cases b
  ·cases h
theorem Ahs{D:List Nat}{a b:SL}{st r q:St}(u:a.op.hard=false)(t:b.op.hard=false)(m:a.op.makes=true->∀j,a.dst=some j->(ag b.op D).contains j=true)(l:b.op.makes=true->∀j,b.dst=some j->(ag a.op D).contains j=true)
  (f:∀i,a.dst=some i->i∉b.looks/\b.dst≠some i) (k:∀i,b.dst=some i->i∉a.looks) (c:Ar E (some D) a st=some r) (g:Ar E (some D) b r=some q):
  ∃s,Ar E (some D) b st=some s/\Ar E (some D) a s=some q:=by
 rw[Cw u,Ab]at c;rw[Cw t,Ab]at g;obtain⟨F,v,c⟩:=c;obtain⟨C,p,g⟩:=g;have y:=Wo (D:=ag b.op D) c (fun h j d=>m (HK v h) j d);rw[y,FH (fr':=st.fr) (fun i hi=>CX c (fun e=>(f i e).1 hi))]at p;obtain⟨s,o,B⟩:=Wl c g (fun i j hi d e=>(f i hi).2 (by rw[d,e]));have x:=Wo (D:=ag a.op D) o (fun h j d=>l (HK p h) j d);refine⟨s, ?_, ?_⟩
 ·rw[Cw t,p];exact o
 ·rw[Cw u,x,FH (fr':=st.fr) (fun i hi=>CX o (fun e=>k i e hi)),v];exact B
end
def gd(l:SL)(fr:Nat->SV):Option Bool:=
 match l.guard with
 |none=>some true
 |some (g,want)=>match fr g with
  | .c (.bool b)=>some (decide (b=want))
  | .c (.tup [])=>some false
  |_=>none
section
variable {E:ah}
theorem FZ{D:Option (List Nat)}{l:SL}{st:St}:Ar E D l st=(gd l st.fr).bind fun t=>if t=true then A9 (E.at D) (AA (D.map (ag l.op)) st.ob) st l.dst l.op else some (st.set l.dst Bf):=by
 unfold Ar gd
 cases l.guard with
 |none=>rfl
 |some p=>
  obtain⟨g,d⟩:=p;simp only;generalize st.fr g=q
  cases q with
  |c v=>
   cases v with
   |bool b=>by_cases e:b=d<;>simp[e]
   |tup l=>cases l<;>rfl
   |_=>rfl
  |_=>rfl
theorem Hv{l:SL}{fr fr':Nat->SV}(h:∀i∈l.looks,fr i=fr' i):gd l fr=gd l fr':=by
 unfold gd
 cases c:l.guard with
 |none=>rfl
 |some p=>
  obtain⟨g,b⟩:=p;simp only;rw[h g (by simp[SL.looks,c])]
theorem UZ{kt:KT}{k c:CV}:∀(ks:List CV),AH kt k (ks++ [c])=match AH kt k ks with
  |some i=>some i
  |none=>if C3 kt k c then some ks.length else none
 | []=>by simp[AH]
 |a::ks=>by
  simp only[List.cons_append,AH,UZ ks];split
  ·rfl
  ·cases AH kt k ks with
   |some i=>rfl
   |none=>
    simp only[Option.map_none];split<;>simp
theorem Adr{kt:KT}{z:CV}{ks vs:List CV}(k b:CV)(e:ks.length=vs.length):(AK kt z (Bc kt ks k) (Be kt ks vs k (AK kt z ks vs k).1) b).1=(AK kt z ks vs b).1:=by
 unfold Bc Be
 cases d:AH kt k ks with
 |some i=>
  have:(AK kt z ks vs k).1=vs.getD i z:=by simp[AK,d]
  rw[this];have hi:=Mj d
  have:vs.set i (vs.getD i z)=vs:=by
   rw[List.getD_eq_getElem?_getD,Aj (by omega:i<vs.length)];simp
  simp only[this]
 |none=>
  have:(AK kt z ks vs k).1=z:=by simp[AK,d]
  rw[this];simp only[AK,UZ]
  cases c:AH kt b ks with
  |some j=>
   have g:=Mj c;simp[List.getD_eq_getElem?_getD,List.getElem?_append_left (by omega:j<vs.length)]
  |none=>
   simp only;by_cases f:C3 kt b k<;>simp[f,List.getD_eq_getElem?_getD,e]
theorem Y7{rd rd':Nat->Ob}{mt:TypeId}{kt:KT}{z:CV}{ks vs:List CV}{k:CV}(j:ks.length=vs.length)
  (h:∀i,rd' i=rd i\/(rd i=.map mt kt z ks vs/\rd' i=.map mt kt z (Bc kt ks k) (Be kt ks vs k (AK kt z ks vs k).1))) {ρ:SO->SV} {d:Option Nat} {op:aa} (b:op.calm=true):A5 E rd' ρ d op=A5 E rd ρ d op:=by
 cases op<;>simp only[aa.calm,Ah]at b<;>try rfl
 rename_i f g z' ok x y;cases ok<;>simp only[Ah]at b;simp only[A5,aa.cls,An]
 congr 2
 generalize ρ x=q1;generalize ρ y=q2
 cases q1 with
 |omap id=>
  cases q2 with
  |c kc=>
   rcases h id with e|⟨e1,e2⟩
   ·simp only[Ej,e]
   ·simp only[Ej,e1,e2,Ah,if_false,Adr k kc j]
  |_=>rfl
 |c v=>cases v<;>cases q2<;>rfl
 |_=>rfl
theorem Ahm{D:List Nat}{a b:SL}{st C X:St}(U:a.op.calm=true)(hb:b.op.entry=true)
  (K:∀i,a.dst=some i->i∉b.looks/\b.dst≠some i) (J:∀i,b.dst=some i->i∉a.looks) (q:Ar E (some D) a st=some C) (g:Ar E (some D) b C=some X):
  ∃s,Ar E (some D) b st=some s/\Ar E (some D) a s=some X:=by
 have B:a.op.hard=false:=by
  revert U;cases a.op<;>simp[aa.calm,aa.hard]
 have S:a.op.makes=false:=by
  revert U;cases a.op<;>simp[aa.calm,aa.makes]
 rw[Cw B,Ab]at q;obtain⟨⟨v,o⟩,W,q⟩:=q
 have ho:o=none:=by
  cases o with
  |none=>rfl
  |some o=>have:=HK W rfl;rw[S]at this;cases this
 subst ho;have I:∀i∈b.looks,C.fr i=st.fr i:=fun i hi=>CX q (fun e=>(K i e).1 hi);simp only[put,Ac]at q;have F:C.ob=st.ob:=by subst q;cases a.dst<;>rfl
 rw[FZ,Hv I,Ab]at g;obtain⟨t,Z,g⟩:=g;have l:∀i j,b.dst=some i->a.dst=some j->i≠j:=fun i j hi hj e=>(K j hj).2 (by rw[hi,e])
 cases t with
 |false=>
  simp only[Ah,if_false,Ac]at g;refine⟨st.set b.dst Bf,by rw[FZ,Z];rfl, ?_⟩;have g1:put st b.dst (Bf,none)=some (st.set b.dst Bf):=rfl;have hm:(st.set b.dst Bf).ob=st.ob:=by cases b.dst<;>rfl
  rw[Cw B,hm,FH (fr':=st.fr) (fun i hi=>CX g1 (fun e=>J i e hi)),W]
  have hc:∀(x y:Option Nat) (u v:SV),(∀i j,x=some i->y=some j->i≠j)->(st.set x u).set y v=(st.set y v).set x u:=by
   intro x y u v L;cases x<;>cases y<;>try rfl
   simp only[St.set,FI _ _ _ (L _ _ rfl rfl)]
  simp only[Option.bind_some,put,<-g,<-q,hc _ _ _ _ l]
 |true=>
  simp only[if_true]at g;cases m:b.op<;>simp only[m,aa.entry,Ah]at hb;rename_i mt x k
  have f:∀y:SO,(y=x\/y=k)->so E.G C.fr y=so E.G st.fr y:=fun y hy=>DE y fun i hi=>I i (by
   simp only[SL.looks,m,aa.slots,List.mem_append];rcases hy with rfl|rfl
   ·exact .inl (.inl hi)
   ·exact .inl (.inr hi))
  simp only[m,A9,aa.cls,AJ,Dp,f x (.inl rfl),f k (.inr rfl),F]at g;cases Y:so E.G st.fr x<;>simp only[Y,reduceCtorEq]at g;cases H:so E.G st.fr k<;>simp only[H,reduceCtorEq]at g;rename_i id c;cases h:st.ob id<;>simp only[h,reduceCtorEq]at g;rename_i d kt z ks vs;simp only[Ae,Ac]at g;obtain⟨⟨rfl,Q,p⟩,g⟩:=g;refine⟨St.set {st with ob:=ac st.ob id (.map d kt z (Bc kt ks c) (Be kt ks vs c (AK kt z ks vs c).1))} b.dst (.ent id c (AK kt z ks vs c).1), ?_, ?_⟩
  ·rw[FZ,Z];simp[m,A9,aa.cls,AJ,Y,H,h,Q,p]
  ·have O:∀i∈a.looks,(St.set {st with ob:=ac st.ob id (.map d kt z (Bc kt ks c) (Be kt ks vs c (AK kt z ks vs c).1))} b.dst (.ent id c (AK kt z ks vs c).1)).fr i=st.fr i:=by
    intro i hi
    cases r:b.dst with
    |none=>rfl
    |some j=>exact A8 _ _ (fun e=>J j r (e▸hi))
   have N:(St.set {st with ob:=ac st.ob id (.map d kt z (Bc kt ks c) (Be kt ks vs c (AK kt z ks vs c).1))} b.dst (.ent id c (AK kt z ks vs c).1)).ob=ac st.ob id (.map d kt z (Bc kt ks c) (Be kt ks vs c (AK kt z ks vs c).1)):=by
    cases b.dst<;>rfl
   have M:∀i,AA (some (ag a.op D)) (ac st.ob id (.map d kt z (Bc kt ks c) (Be kt ks vs c (AK kt z ks vs c).1))) i=AA (some (ag a.op D)) st.ob i\/(AA (some (ag a.op D)) st.ob i=.map d kt z ks vs/\AA (some (ag a.op D)) (ac st.ob id (.map d kt z (Bc kt ks c) (Be kt ks vs c (AK kt z ks vs c).1))) i=.map d kt z (Bc kt ks c) (Be kt ks vs c (AK kt z ks vs c).1)):=by
    intro i;simp only[AA,BS];by_cases hi:(ag a.op D).contains i=true
    ·simp only[hi,if_true];exact .inl trivial
    ·by_cases e:i=id
     ·subst e;rw[if_neg hi,if_neg hi,if_pos rfl];exact .inr ⟨h,rfl⟩
     ·rw[if_neg hi,if_neg hi,if_neg e];exact .inl rfl
   have V:B0 E a st.fr (AA (some (ag a.op D)) (ac st.ob id (.map d kt z (Bc kt ks c) (Be kt ks vs c (AK kt z ks vs c).1))))=some (v,none):=by
    rw[<-W];unfold B0;simp only[Y7 p M U]
   rw[Cw B,N,FH O,V];simp only[Option.bind_some,put,<-g,<-q]
   congr 1
   cases r:b.dst<;>cases T:a.dst<;>try rfl
   simp only[St.set,FI _ _ _ (l _ _ r T)]
end
section
variable {E:ah}
theorem St.set_comm(st:St):∀(x y:Option Nat) (u v:SV),(∀i j,x=some i->y=some j->i≠j)->(st.set x u).set y v=(st.set y v).set x u:=by
 intro x y u v b;cases x<;>cases y<;>try rfl
 simp only[St.set,FI _ _ _ (b _ _ rfl rfl)]
theorem Ahc{d d':Option Nat}{ρ b:SO->SV}{st st' s:St}{n:Nat}{x y:SO}(m:ρ x=b x)(l:ρ y=b y)(e:st.ob=st'.ob)(h:AJ d ρ st (.store n x y)=some s):
  s.fr=st.fr/\AJ d' b st' (.store n x y)=some {fr:=st'.fr,ob:=s.ob}:=by
 simp only[AJ,m,l,e]at h⊢;generalize deref st'.ob (b x)=q at h⊢;cases q<;>(try(cases h;done))
 ·rename_i r;cases r<;>(try cases h;done);rename_i cs
  cases cs with
  |nil=>cases h
  |cons c0 cs=>
   cases cs with
   |cons _ _=>cases c0<;>cases h
   |nil=>
    cases c0<;>(try cases h;done);cases c:b y<;>simp only[c]at h⊢ <;>(try cases h;done);rename_i t;cases t<;>(try cases h;done);simp only[Ae,Ac]at h⊢;obtain⟨g,rfl⟩:=h;exact⟨rfl,g,by rw[e]⟩
 ·rename_i id o;cases j:st'.ob id<;>simp only[j,reduceCtorEq]at h⊢;cases c:b y<;>simp only[c,reduceCtorEq]at h⊢;all_goals(repeat' (split at h))<;>(try cases h)<;>simp_all
 ·rename_i id i size o;cases j:st'.ob id<;>simp only[j,reduceCtorEq]at h⊢;cases c:b y<;>simp only[c,reduceCtorEq]at h⊢;split at h
  ·rename_i g;rw[Ab]at h;obtain⟨u,p,k⟩:=h;split at k
   ·rename_i f;cases k;simp[g,p,f]
   ·cases k
  ·cases h
theorem Ahb{a:SL}(b:a.op.still=true){fr:Nat->SV}{rd rd':Nat->Ob}:B0 E a fr rd=B0 E a fr rd':=by
 have key:∀ρ d,A5 E rd ρ d a.op=A5 E rd' ρ d a.op:=by
  intro ρ d;revert b;cases a.op<;>simp[aa.still,A5,aa.cls,An]
 unfold B0;simp only[key]
theorem Aht{D:List Nat}{a b:SL}{st l m:St}(C:a.op.still=true)(N:b.op.stores=true)
  (r:∀i,a.dst=some i->i∉b.looks/\b.dst≠some i) (u:∀i,b.dst=some i->i∉a.looks) (g:Ar E (some D) a st=some l) (f:Ar E (some D) b l=some m):
  ∃s,Ar E (some D) b st=some s/\Ar E (some D) a s=some m:=by
 have h:a.op.hard=false:=by
  revert C;cases a.op<;>simp[aa.still,aa.hard]
 have B:a.op.makes=false:=by
  revert C;cases a.op<;>simp[aa.still,aa.makes]
 rw[Cw h,Ab]at g;obtain⟨⟨v,o⟩,F,g⟩:=g
 have K:o=none:=by
  cases o with
  |none=>rfl
  |some o=>have:=HK F rfl;rw[B]at this;cases this
 subst K;have q:∀i∈b.looks,l.fr i=st.fr i:=fun i hi=>CX g (fun e=>(r i e).1 hi);simp only[put,Ac]at g;have p:l.ob=st.ob:=by subst g;cases a.dst<;>rfl
 rw[FZ,Hv q,Ab]at f;obtain⟨t,H,f⟩:=f;have k:∀i j,b.dst=some i->a.dst=some j->i≠j:=fun i j hi M e=>(r j M).2 (by rw[hi,e])
 cases t with
 |false=>
  simp only[Ah,if_false,Ac]at f;refine⟨st.set b.dst Bf,by rw[FZ,H];rfl, ?_⟩;have O:put st b.dst (Bf,none)=some (st.set b.dst Bf):=rfl;have L:(st.set b.dst Bf).ob=st.ob:=by cases b.dst<;>rfl
  rw[Cw h,L,FH (fr':=st.fr) (fun i hi=>CX O (fun e=>u i e hi)),F];simp only[Option.bind_some,put,<-f,<-g,St.set_comm st _ _ _ _ k]
 |true=>
  simp only[if_true]at f;cases d:b.op<;>simp only[d,aa.stores,Ah]at N;rename_i n x y
  have c:∀z:SO,(z=x\/z=y)->so E.G l.fr z=so E.G st.fr z:=fun z J=>DE z fun i hi=>q i (by
   simp only[SL.looks,d,aa.slots,List.mem_append];rcases J with rfl|rfl
   ·exact .inl (.inl hi)
   ·exact .inl (.inr hi))
  simp only[d,A9,aa.cls]at f;obtain⟨I,k2⟩:=Ahc (d':=b.dst) (c x (.inl rfl)) (c y (.inr rfl)) p f;refine⟨{fr:=st.fr,ob:=m.ob},by rw[FZ,H];simp only[Option.bind_some,if_true,d,A9,aa.cls];exact k2, ?_⟩;rw[Cw h,Ahb C (rd':=AA (some (ag a.op D)) st.ob),F];simp only[Option.bind_some,put]
  congr 1
  have:m={fr:=l.fr,ob:=m.ob}:=by rw[<-I]
  rw[this,<-g];cases a.dst<;>rfl
def FR(st:St)(d:Option Nat)(e size bytes:Nat)(f b:SV):Option (Nat×Ob):=
 match C6 st b with
 |none=>none
 |some news=>
  if(news.all (fun v=>AX v==size)&&news.all fun v=>v.cells.all Cv)=true then
   match f with
   | .c (.sl (some true) _)=>
     if news.length*bytes≤140737488355328/\news.length≤4611686018427387904 then
      match d with
      |some d=>some (d,.arr e size news)
      |none=>none
     else none
   | .osl id=>match st.ob id with
     | .arr e' size' es=>
      if e'=e/\size'=size/\(es.length+news.length)*bytes≤140737488355328/\es.length+news.length≤4611686018427387904 then some (id,.arr e size (es++news))else none
     |_=>none
   |_=>none
  else none
def Di(st:St)(d:Option Nat)(p:Nat×Ob):St:=St.set {fr:=fun i=>Ay [p.1] (st.fr i),ob:=ac (kill [p.1] st).ob p.1 p.2} d (.osl p.1)
theorem Lm{d:Option Nat}{ρ:SO->SV}{st:St}{e size bytes:Nat}{x y:SO}:AJ d ρ st (.append e size bytes x y)=(FR st d e size bytes (ρ x) (ρ y)).map (Di st d):=by
 simp only[AJ,FR]
 cases C6 st (ρ y)with
 |none=>rfl
 |some news=>
  simp only;split
  ·generalize ρ x=q;split
   ·split
    ·cases d<;>rfl
    ·rfl
   ·rename_i id
    cases c:st.ob id with
    |arr e' size' es=>
     simp only[c];by_cases b:e'=e/\size'=size/\(es.length+news.length)*bytes≤140737488355328/\es.length+news.length≤4611686018427387904
     ·rw[if_pos b,if_pos b];rfl
     ·rw[if_neg b,if_neg b];rfl
    |_=>simp only[c];rfl
   ·rename_i g f;split
    ·exact(g _ rfl).elim
    ·exact(f _ rfl).elim
    ·rfl
  ·rfl
theorem Aeb{st st':St}{v:SV}{news:List CV}(c:∀i e s es,st.ob i=.arr e s es->st'.ob i=.arr e s es)(h:C6 st v=some news):C6 st' v=some news:=by
 unfold C6 at h⊢;split at h
 ·exact h
 ·split at h
  ·rename_i b;rw[c _ _ _ _ b];exact h
  ·cases h
 ·cases h
theorem Ot{st st':St}{d:Option Nat}{e size bytes:Nat}{g c:SV}{p:Nat×Ob}(j:∀i e s es,st.ob i=.arr e s es->st'.ob i=.arr e s es)(h:FR st d e size bytes g c=some p):FR st' d e size bytes g c=some p:=by
 unfold FR at h⊢
 cases f:C6 st c with
 |none=>rw[f]at h;cases h
 |some news=>
  rw[f]at h;rw[Aeb j f];simp only at h⊢;split at h
  ·rename_i k;rw[if_pos k];split at h
   ·exact h
   ·rename_i id;cases b:st.ob id<;>simp only[b,reduceCtorEq]at h;rw[j _ _ _ _ b];exact h
   ·cases h
  ·cases h
theorem Ye{st:St}{d:Option Nat}{e size bytes:Nat}{c b:SV}{p:Nat×Ob}(h:FR st d e size bytes c b=some p):∃es,p.2=.arr e size es:=by
 unfold FR at h;split at h
 ·cases h
 ·split at h
  ·split at h
   ·split at h
    ·split at h
     ·cases h;exact⟨_,rfl⟩
     ·cases h
    ·cases h
   ·split at h
    ·split at h
     ·cases h;exact⟨_,rfl⟩
     ·cases h
    ·cases h
   ·cases h
  ·cases h
theorem Tz{D:List Nat}{v:SV}{c:CV}(h:closed (Ay D v)=some c):closed v=some c:=by
 cases v<;>simp only[Ay]at h<;>first
  |exact h
  |(split at h<;>simp[closed]at h)
theorem SW{b β:Type}{f g:b->Option β}:∀{l:List b} {r:List β},(∀x c,f x=some c->g x=some c)->Aq f l=some r->Aq g l=some r
 | [],_,_,h=>h
 |x::l,r,hfg,h=>by
  simp only[Aq,Ab,Aa]at h⊢;obtain⟨c,i,bs,e,d⟩:=h;exact⟨c,hfg x c i,bs,SW hfg e,d⟩
theorem Ahz{D:List Nat}{b:aa}(ht:b.tame=true){d:Option Nat}{st:St}{id:Nat}{e s:Nat}{es:List CV}{U:SV}{o':Option Ob}(hd:o'.isSome=true->∀j,d=some j->j≠id)(L:o'.isSome=true->d≠none)
  (h:A5 E (AA (some D) (ac (kill [id] st).ob id (.arr e s es))) (so E.G fun i=>Ay [id] (st.fr i)) d b=some (U,o')):
  ∃v o,A5 E (AA (some D) st.ob) (so E.G st.fr) d b=some (v,o)/\U=Ay [id] v/\o'=o.map (Ch [id]):=by
 have f:∀x,so E.G (fun i=>Ay [id] (st.fr i)) x=Ay [id] (so E.G st.fr x):=by
  intro x
  cases x with
  |t i=>rfl
  |k c=>rfl
  |g i=>simp only[so];cases E.G i<;>rfl
 have M:∀{n k:Nat} {o:Option SO},Cs n (o.map fun x=>Ay [id] (so E.G st.fr x))=some k->Cs n (o.map (so E.G st.fr))=some k:=by
  intro n k o m
  cases o with
  |none=>exact m
  |some x=>
   simp only[Option.map_some]at m⊢;generalize so E.G st.fr x=q at m⊢
   cases q<;>simp only[Ay]at m<;>first
    |exact m
    |(split at m<;>cases m)
 cases b<;>simp only[aa.tame,Ah]at ht
 case mov x=>
  simp only[A5,aa.cls,An,f,Option.map_some,Ac,Prod.mk.injEq]at h;obtain⟨rfl,rfl⟩:=h;exact⟨so E.G st.fr x,none,by simp[A5,aa.cls,An],rfl,rfl⟩
 case slice size x lo hi=>
  simp only[A5,aa.cls,An,f,Aa,Prod.mk.injEq]at h;obtain⟨r,h,rfl,rfl⟩:=h
  have Z:∀I l,Ay [id] (so E.G st.fr x)=.c (.sl I l)->so E.G st.fr x=.c (.sl I l):=by
   intro I l m;generalize so E.G st.fr x=q at m⊢
   cases q<;>simp only[Ay]at m<;>first
    |exact m
    |(split at m<;>cases m)
  split at h<;>(try cases h;done);rename_i I l hq;obtain⟨X,F,h⟩:=Ab.1 h;obtain⟨W,u,h⟩:=Ab.1 h;have C:Cs l.length (hi.map (so E.G st.fr))=some X:=M (by rw[<-funext f];exact F);have T:Cs 0 (lo.map (so E.G st.fr))=some W:=M (by rw[<-funext f];exact u);split at h<;>(try cases h;done);rename_i Q;cases h;refine⟨.c (.sl I ((l.take X).drop W)),none, ?_,rfl,rfl⟩;simp only[A5,aa.cls,An,Z _ _ hq,C,T,Option.bind_some,if_pos Q,Option.map_some]
 case load sz x=>
  simp only[A5,aa.cls,An,f,Aa,Prod.mk.injEq]at h;obtain⟨r,h,rfl,rfl⟩:=h
  suffices hs:∃v,AO (AA (some D) st.ob) sz (deref (AA (some D) st.ob) (so E.G st.fr x))=some v/\r=Ay [id] v by
   obtain⟨v,O,k2⟩:=hs;exact⟨v,none,by simp[A5,aa.cls,An,O],k2,rfl⟩
  generalize so E.G st.fr x=q0 at h⊢
  have p:deref (AA (some D) (ac (kill [id] st).ob id (.arr e s es))) (Ay [id] q0)=.undef\/deref (AA (some D) (ac (kill [id] st).ob id (.arr e s es))) (Ay [id] q0)=Ay [id] (deref (AA (some D) st.ob) q0):=by
   cases q0 with
   |c v=>
    cases v<;>try exact .inr rfl
    rename_i N;simp only[Ay,deref];by_cases V:As≤N/\N % 2=0
    ·simp only[if_pos V];by_cases H:D.contains N=true
     ·simp only[AA,H,if_true];exact .inl trivial
     ·simp only[AA,H,Ah,if_false];by_cases y:N=id
      ·subst y;simp only[AR];exact .inl trivial
      ·simp only[A8 _ _ y,kill,show([id].contains N)=false by simpa using y,Ah,if_false];cases hob:st.ob N<;>simp only[Ch,Ay,show([id].contains N)=false by simpa using y,Ah,if_false]<;>first|exact .inr trivial|exact .inr rfl|exact .inl trivial
    ·simp only[if_neg V];exact .inl trivial
   |ptr j o=>simp only[Ay];split<;>simp_all[deref,Ay]
   |eptr j i size o=>simp only[Ay];split<;>simp_all[deref,Ay]
   |osl j=>simp only[Ay];split<;>simp_all[deref,Ay]
   |omap j=>simp only[Ay];split<;>simp_all[deref,Ay]
   |iter j=>simp only[Ay];split<;>simp_all[deref,Ay]
   |stamp j k=>simp only[Ay];split<;>simp_all[deref,Ay]
   |ent j k v=>simp only[Ay];split<;>simp_all[deref,Ay]
   |undef=>exact .inl rfl
  rcases p with p|p
  ·rw[p]at h;cases h
  rw[p]at h;clear p;generalize deref (AA (some D) st.ob) q0=q at h⊢
  cases q with
  |c v=>
   have u:AO (AA (some D) st.ob) sz (.c v)=some r:=by
    cases v<;>simp only[Ay,AO,reduceCtorEq]at h⊢;all_goals exact h
   refine⟨r,u, ?_⟩;cases v<;>simp only[AO,reduceCtorEq]at u;all_goals(split at u<;>(rw[Aa]at u;obtain⟨c,_,rfl⟩:=u;rfl))
  |ptr j o=>
   simp only[Ay]at h;split at h
   ·cases h
   ·rename_i K;have B:j≠id:=fun e=>K (by simp[e]);simp only[AO,AA,A8 _ _ B,kill,K]at h⊢;cases H:D.contains j<;>simp only[H,if_true,Ah,if_false,reduceCtorEq]at h⊢;cases S:st.ob j<;>simp only[S,Ch,reduceCtorEq]at h⊢;rename_i cs
    cases sz with
    |none=>
     simp only[List.getElem?_map,Aa]at h;obtain⟨v,F,rfl⟩:=h;exact⟨v,F,rfl⟩
    |some n=>
     simp only[List.length_map]at h⊢;split at h
     ·rename_i hl;rw[if_pos hl];rw[Aa]at h;obtain⟨l,F,rfl⟩:=h;refine⟨.c (.agg l), ?_,rfl⟩
      have:∀(J:List SV) r,Aq closed (J.map (Ay [id]))=some r->Aq closed J=some r:=by
       intro J
       induction J with
       |nil=>intro r h;exact h
       |cons a J ih=>
        intro r h;simp only[List.map_cons,Aq,Ab,Aa]at h⊢;obtain⟨c,O,bs,k2,Y⟩:=h;exact⟨c,Tz O,bs,ih bs k2,Y⟩
      rw[this _ l (by rw[List.map_take,List.map_drop];exact F)];rfl
     ·cases h
  |eptr j i size o=>
   simp only[Ay]at h;split at h
   ·cases h
   ·rename_i K;have B:j≠id:=fun e=>K (by simp[e]);simp only[AO,AA,A8 _ _ B,kill,K]at h⊢;cases H:D.contains j<;>simp only[H,if_true,Ah,if_false,reduceCtorEq]at h⊢;cases S:st.ob j<;>simp only[S,Ch,reduceCtorEq]at h⊢;refine⟨r,h, ?_⟩;split at h
    ·rw[Ab]at h;obtain⟨el,_,h⟩:=h;rw[Aa]at h;obtain⟨c,_,rfl⟩:=h;rfl
    ·cases h
  |undef=>cases h
  |_=>simp only[Ay]at h;split at h<;>cases h
 case alloc z=>
  simp only[A5,aa.cls,Bl,Option.map_some,Ac,Prod.mk.injEq]at h;obtain⟨rfl,rfl⟩:=h;refine⟨_,_,rfl, ?_, ?_⟩
  ·cases d with
   |none=>exact(L rfl rfl).elim
   |some j=>simp[Ay,hd rfl j rfl]
  ·simp[Ch,Ay,Function.comp_def]
 case mksl e2 s2 parts=>
  simp only[A5,aa.cls,Bl,f,Aa,Ab,Prod.mk.injEq]at h;obtain⟨⟨q1,q2⟩,⟨l,F,u⟩,rfl,rfl⟩:=h;split at u
  ·rename_i Q;cases u;have C:=SW (g:=fun x=>closed (so E.G st.fr x)) (fun x c=>Tz) F;refine⟨.osl (d.getD 0),some (.arr e2 s2 l), ?_, ?_,rfl⟩
   ·simp only[A5,aa.cls,Bl,C,Option.bind_some,if_pos Q,Option.map_some]
   ·cases d with
    |none=>exact(L rfl rfl).elim
    |some j=>simp[Ay,hd rfl j rfl]
  ·cases u
theorem X2{D:List Nat}{a b:SL}{st s1 Z:St}(ha:a.op.grows=true)(S:a.guard=none)(hb:b.op.tame=true)(I:b.guard=none)
  (L:∀i,a.dst=some i->i∉b.looks/\b.dst≠some i) (U:∀i,b.dst=some i->i∉a.looks) (h1:Ar E (some D) a st=some s1) (d:Ar E (some D) b s1=some Z):
  ∃s,Ar E (some D) b st=some s/\Ar E (some D) a s=some Z:=by
 have K:b.op.hard=false:=by
  revert hb;cases b.op<;>simp[aa.tame,aa.hard]
 cases q:a.op<;>simp only[q,aa.grows,Ah]at ha;rename_i e size bytes x y
 have F:∀s,Ar E (some D) a s=(FR s a.dst e size bytes (so E.G s.fr x) (so E.G s.fr y)).map (Di s a.dst):=by
  intro s;simp only[Ar,S,q,A9,aa.cls];exact Lm
 rw[F,Aa]at h1;obtain⟨⟨id,oa⟩,N,rfl⟩:=h1;obtain⟨es,he⟩:=Ye N;simp only at he;subst he;rw[Cw K,Ab]at d;obtain⟨⟨v',o'⟩,e2,d⟩:=d
 have T:∀i∈b.looks,(Di st a.dst (id,.arr e size es)).fr i=Ay [id] (st.fr i):=by
  intro i hi;unfold Di
  cases hd:a.dst with
  |none=>rfl
  |some j=>exact A8 _ _ (fun h=>(L j hd).1 (h▸hi))
 have m:(Di st a.dst (id,.arr e size es)).ob=ac (kill [id] st).ob id (.arr e size es):=by
  unfold Di;cases a.dst<;>rfl
 rw[FH T,m]at e2
 have X:A5 E (AA (some (ag b.op D)) (ac (kill [id] st).ob id (.arr e size es))) (so E.G fun i=>Ay [id] (st.fr i)) b.dst b.op=some (v',o'):=by
  simpa only[B0,I]using e2
 have k:∀o,o'=some o->∃j,b.dst=some j/\j≠id/\st.ob j=.none:=by
  intro o H;subst H;simp only[put,Bz]at d
  cases C:b.dst with
  |none=>rw[C]at d;cases d
  |some j=>
   rw[C]at d;simp only[m]at d;split at d<;>(try cases d;done);rename_i p
   have B:j≠id:=by
    intro Q;rw[Q,AR]at p;cases p
   refine⟨j,rfl,B, ?_⟩;rw[A8 _ _ B]at p;simp only[kill]at p;rw[if_neg (by simpa using B)]at p;cases hq:st.ob j<;>simp only[hq,Ch,reduceCtorEq]at p;rfl
 obtain⟨v,o,k1,k2,k3⟩:=Ahz hb (fun f j B=>by
   obtain⟨o,H⟩:=Option.isSome_iff_exists.1 f;obtain⟨j',M,h4,_⟩:=k o H;rw[B]at M;cases M
   exact h4) (fun f p=>by
   obtain⟨o,H⟩:=Option.isSome_iff_exists.1 f;obtain⟨j',M,_⟩:=k o H;rw[p]at M
   cases M) X
 have W:Ar E (some D) b st=put st b.dst (v,o):=by
  rw[Cw K];simp only[B0,I,k1,Option.bind_some]
 have l:∀i j,a.dst=some i->b.dst=some j->i≠j:=fun i j hi B h=>(L i hi).2 (by rw[B,h])
 have c:∀(s:St),put st b.dst (v,o)=some s->∀z:SO,(z=x\/z=y)->so E.G s.fr z=so E.G st.fr z:=fun s f z hz=>DE z fun i hi=>CX f (fun h=>U i h (by
  simp only[SL.looks,q,aa.slots,List.mem_append];rcases hz with rfl|rfl
  ·exact .inl (.inl hi)
  ·exact .inl (.inr hi)))
 subst k2;subst k3;rw[W]
 cases o with
 |none=>
  have f:put st b.dst (v,none)=some (st.set b.dst v):=rfl;refine⟨st.set b.dst v,f, ?_⟩;have g:(st.set b.dst v).ob=st.ob:=by cases b.dst<;>rfl
  rw[F,c _ f x (.inl rfl),c _ f y (.inr rfl),Ot (st:=st) (fun i e s es h=>by rw[g];exact h) N];simp only[Option.map_some,Ac];simp only[put,Option.map_none,Ac]at d;rw[<-d];unfold Di;rw[St.set_comm _ _ _ _ _ l]
  congr 1
  cases C:b.dst with
  |none=>rfl
  |some j=>
   simp only[St.set,kill]
   congr 1
   funext i;simp only[BS];split<;>rfl
 |some ob=>
  obtain⟨j,u,t,r⟩:=k (Ch [id] ob) rfl;have f:put st b.dst (v,some ob)=some {fr:=ac st.fr j v,ob:=ac st.ob j ob}:=by simp[put,Bz,u,r]
  refine⟨_,f, ?_⟩
  rw[F,c _ f x (.inl rfl),c _ f y (.inr rfl),Ot (st:=st) (fun i e s es h=>by
   simp only;rw[A8 _ _ (fun Q=>by rw[Q,r]at h;cases h)]
   exact h) N]
  simp only[Option.map_some,Ac]
  have O:(Di st a.dst (id,.arr e size es)).ob j=.none:=by
   rw[m,A8 _ _ t];simp only[kill];rw[if_neg (by simpa using t),r];rfl
  simp only[put,Bz,Option.map_some,u,O,Ac]at d;rw[<-d,m]
  have g:ac (kill [id] {fr:=ac st.fr j v,ob:=ac st.ob j ob:St}).ob id (.arr e size es)=ac (ac (kill [id] st).ob id (.arr e size es)) j (Ch [id] ob):=by
   funext i;simp only[BS,kill];by_cases Y:i=id
   ·subst Y;simp[Ne.symm t]
   ·by_cases c2:i=j
    ·subst c2;simp[Y]
    ·simp[Y,c2]
  have J:(fun i=>Ay [id] (ac st.fr j v i))=ac (fun i=>Ay [id] (st.fr i)) j (Ay [id] v):=by
   funext i;simp only[BS];split<;>rfl
  unfold Di;simp only[g,J]
  cases V:a.dst with
  |none=>rfl
  |some i=>
   simp only[St.set];rw[FI _ _ _ (Ne.symm (l i j V u))]
theorem Aho{D:List Nat}{a b:SL}{st I H:St}(U:a.op.moves=true)(C:a.guard=none)(S:b.op.grows=true)(B:b.guard=none)
  (o:∀i,a.dst=some i->i∉b.looks/\b.dst≠some i) (F:∀i,b.dst=some i->i∉a.looks) (M:Ar E (some D) a st=some I) (L:Ar E (some D) b I=some H):
  ∃s,Ar E (some D) b st=some s/\Ar E (some D) a s=some H:=by
 cases f:a.op<;>simp only[f,aa.moves,Ah]at U;rename_i q;cases d:b.op<;>simp only[d,aa.grows,Ah]at S;rename_i e size bytes x y
 have r:∀s,Ar E (some D) a s=some (s.set a.dst (so E.G s.fr q)):=by
  intro s;simp only[Ar,C,f,A9,aa.cls,An,Option.map_some,Dp]
 have p:∀s,Ar E (some D) b s=(FR s b.dst e size bytes (so E.G s.fr x) (so E.G s.fr y)).map (Di s b.dst):=by
  intro s;simp only[Ar,B,d,A9,aa.cls];exact Lm
 rw[r,Ac]at M;subst M;rw[p,Aa]at L;obtain⟨⟨id,K⟩,J,rfl⟩:=L;have m:(st.set a.dst (so E.G st.fr q)).ob=st.ob:=by cases a.dst<;>rfl
 have c:∀z:SO,(z=x\/z=y)->so E.G (st.set a.dst (so E.G st.fr q)).fr z=so E.G st.fr z:=fun z O=>DE z fun i hi=>by
  cases hd:a.dst with
  |none=>rfl
  |some j=>exact A8 _ _ fun h=>(o j hd).1 (h▸(by
    simp only[SL.looks,d,aa.slots,List.mem_append];rcases O with rfl|rfl
    ·exact .inl (.inl hi)
    ·exact .inl (.inr hi)))
 rw[c x (.inl rfl),c y (.inr rfl)]at J;have N:=Ot (st':=st) (fun i e s es h=>by rw[m]at h;exact h) J;have l:∀i j,a.dst=some i->b.dst=some j->i≠j:=fun i j hi u h=>(o i hi).2 (by rw[u,h]);refine⟨_,by rw[p,N];rfl, ?_⟩;rw[r]
 congr 1
 have Q:so E.G (Di st b.dst (id,K)).fr q=Ay [id] (so E.G st.fr q):=by
  cases q with
  |t i=>
   show(Di st b.dst (id,K)).fr i=Ay [id] (st.fr i);unfold Di
   cases hd:b.dst with
   |none=>rfl
   |some j=>exact A8 _ _ fun h=>F j hd (h▸by simp[SL.looks,f,aa.slots,SO.slot])
  |k v=>rfl
  |g i=>
   show so E.G _ (.g i)=Ay [id] (so E.G st.fr (.g i));simp only[so];split<;>rfl
 rw[Q];unfold Di;rw[St.set_comm _ _ _ _ _ fun i j hi u=>Ne.symm (l j i u hi)]
 congr 1
 cases T:a.dst with
 |none=>rfl
 |some i=>
  simp only[St.set,kill]
  congr 1
  funext j;simp only[BS];split<;>rfl
theorem Ado{rd rd':Nat->Ob}(h:∀i,rd i=rd' i\/((∀cs bt,rd i≠ .box cs bt)/\(∀e s es,rd i≠ .arr e s es)/\(∀cs bt,rd' i≠ .box cs bt)/\(∀e s es,rd' i≠ .arr e s es)))(sz:Option Nat)(v:SV):AO rd sz (deref rd v)=AO rd' sz (deref rd' v):=by
 have hd:deref rd v=deref rd' v:=by
  unfold deref;split
  ·rename_i N;split
   ·rcases h N with e|⟨h1,_,h3,_⟩
    ·rw[e]
    ·cases d:rd N<;>cases b:rd' N<;>first
      |rfl
      |exact absurd d (h1 _ _)
      |exact absurd b (h3 _ _)
   ·rfl
  ·rfl
 rw[hd];generalize deref rd' v=q;unfold AO
 cases q with
 |c cv=>cases cv<;>rfl
 |ptr id o=>
  simp only;rcases h id with e|⟨h1,_,h3,_⟩
  ·rw[e]
  ·cases d:rd id<;>cases b:rd' id<;>first
    |rfl
    |exact absurd d (h1 _ _)
    |exact absurd b (h3 _ _)
 |eptr id i size o=>
  simp only;rcases h id with e|⟨_,h1,_,h3⟩
  ·rw[e]
  ·cases d:rd id<;>cases b:rd' id<;>first
    |rfl
    |exact absurd d (h1 _ _ _)
    |exact absurd b (h3 _ _ _)
 |_=>rfl
theorem Ahr{D:List Nat}{a b:SL}{st H F:St}(T:a.op.loads=true)(y:a.guard=none)(S:b.op.puts=true)(r:b.guard=none)
  (B:∀i,a.dst=some i->i∉b.looks/\b.dst≠some i) (Q:∀i,b.dst=some i->i∉a.looks) (J:Ar E (some D) a st=some H) (m:Ar E (some D) b H=some F):
  ∃s,Ar E (some D) b st=some s/\Ar E (some D) a s=some F:=by
 cases p:a.op<;>simp only[p,aa.loads,Ah]at T;rename_i sz q;cases g:b.op<;>simp only[g,aa.puts,Ah]at S;rename_i mt x k v
 have t:∀s,Ar E (some D) a s=(AO (AA (some (ag a.op D)) s.ob) sz (deref (AA (some (ag a.op D)) s.ob) (so E.G s.fr q))).map fun v=>s.set a.dst v:=by
  intro s;simp only[Ar,y,p,A9,aa.cls,An,Dp,Option.map_some]
 rw[t,Aa]at J;obtain⟨I,N,rfl⟩:=J;have o:(st.set a.dst I).ob=st.ob:=by cases a.dst<;>rfl
 have d:∀z:SO,(z=x\/z=k\/z=v)->so E.G (st.set a.dst I).fr z=so E.G st.fr z:=fun z L=>DE z fun i hi=>by
  cases hd:a.dst with
  |none=>rfl
  |some j=>exact A8 _ _ fun h=>(B j hd).1 (h▸(by
    simp only[SL.looks,g,aa.slots,List.mem_append];rcases L with rfl|rfl|rfl
    ·exact .inl (.inl (.inl hi))
    ·exact .inl (.inl (.inr hi))
    ·exact .inl (.inr hi)))
 simp only[Ar,r,g,A9,aa.cls,AJ,Dp,d x (.inl rfl),d k (.inr (.inl rfl)),d v (.inr (.inr rfl)),o]at m
 have C:Ar E (some D) b st=match so E.G st.fr x,so E.G st.fr k,so E.G st.fr v with
  | .omap id,.c k,.c v=>match st.ob id with
   | .map f kt z ks vs=>if f=mt/\AE kt k=true then some {st with ob:=ac st.ob id (.map f kt z (Bc kt ks k) (Be kt ks vs k v))}else none
   |_=>none
  |_,_,_=>none:=by
  simp only[Ar,r,g,A9,aa.cls,AJ,Dp];rfl
 rw[C];split at m<;>(try cases m;done);rename_i id l u W V U;rw[W,V,U];simp only;split at m<;>(try cases m;done);rename_i f kt z ks vs K;rw[K];simp only;split at m<;>(try cases m;done);rename_i O;cases m;rw[if_pos O];refine⟨_,rfl, ?_⟩;rw[t]
 have M:∀i,AA (some (ag a.op D)) st.ob i=AA (some (ag a.op D)) (ac st.ob id (.map f kt z (Bc kt ks l) (Be kt ks vs l u))) i\/((∀cs bt,AA (some (ag a.op D)) st.ob i≠ .box cs bt)/\(∀e s es,AA (some (ag a.op D)) st.ob i≠ .arr e s es)/\(∀cs bt,AA (some (ag a.op D)) (ac st.ob id (.map f kt z (Bc kt ks l) (Be kt ks vs l u))) i≠ .box cs bt)/\(∀e s es,AA (some (ag a.op D)) (ac st.ob id (.map f kt z (Bc kt ks l) (Be kt ks vs l u))) i≠ .arr e s es)):=by
  intro i;by_cases hi:i=id
  ·subst hi;right;simp only[AA,AR,K];refine⟨fun _ _ h=> ?_,fun _ _ _ h=> ?_,fun _ _ h=> ?_,fun _ _ _ h=> ?_⟩<;>(split at h<;>cases h)
  ·left;simp only[AA,A8 _ _ hi]
 have X:so E.G ({fr:=st.fr,ob:=ac st.ob id (.map f kt z (Bc kt ks l) (Be kt ks vs l u))}:St).fr q=so E.G st.fr q:=rfl;simp only[<-Ado M,N,Option.map_some,Ac];cases a.dst<;>rfl
def Id(ob:Nat->Ob)(e size:Nat)(c b:SV):Option (Nat×Ob×Nat):=
 match C6 {fr:=fun _=>.undef,ob:=ob} b,c with
 |some news,.osl id=>match ob id with
  | .arr e' size' es=>
   if(e'=e/\size'=size)/\(news.all (fun v=>AX v==size)&&news.all fun v=>v.cells.all Cv)=true then
    some (id,.arr e size (news.take (min news.length es.length)++es.drop (min news.length es.length)),min news.length es.length)
   else none
  |_=>none
 |_,_=>none
theorem Aec{s t:St}(h:s.ob=t.ob)(v:SV):C6 s v=C6 t v:=by
 cases v<;>simp only[C6,h]
theorem TA{d:Option Nat}{ρ:SO->SV}{st:St}{e size:Nat}{x y:SO}:AJ d ρ st (.cpy e size x y)=(Id st.ob e size (ρ x) (ρ y)).map fun p=>St.set {st with ob:=ac st.ob p.1 p.2.1} d (.c (.int .i64 (p.2.2:Nat))):=by
 simp only[AJ,Id];rw[Aec (s:={fr:=fun _=>.undef,ob:=st.ob}) (t:=st) rfl];generalize C6 st (ρ y)=nw;generalize ρ x=vx
 cases nw with
 |none=>rfl
 |some news=>
  cases vx<;>try rfl
  rename_i id;simp only;cases st.ob id<;>try rfl
  simp only;split<;>rfl
theorem T9{ob:Nat->Ob}{e size:Nat}{d c:SV}{p:Nat×Ob×Nat}(h:Id ob e size d c=some p):(∃es,ob p.1=.arr e size es)/\∃es,p.2.1=.arr e size es:=by
 unfold Id at h;split at h<;>(try cases h;done);split at h<;>(try cases h;done);rename_i b;split at h<;>(try cases h;done);rename_i f;obtain⟨⟨rfl,rfl⟩,_⟩:=f;cases h;exact⟨⟨_,b⟩,_,rfl⟩
theorem U5{E:ah}{D:List Nat}{ob:Nat->Ob}{id:Nat}{e s:Nat}{es f:List CV}(h:ob id=.arr e s es){ρ:SO->SV}{d:Option Nat}{b:aa}(l:b.flat=true):A5 E (AA (some D) (ac ob id (.arr e s f))) ρ d b=A5 E (AA (some D) ob) ρ d b:=by
 have i:∀j,j≠id->AA (some D) (ac ob id (.arr e s f)) j=AA (some D) ob j:=fun j g=>by
  simp only[AA,A8 _ _ g]
 cases b<;>simp only[aa.flat,Ah]at l
 case mov x=>rfl
 case loadb sz x=>
  simp only[A5,aa.cls,An];generalize ρ x=q
  have hd:deref (AA (some D) (ac ob id (.arr e s f))) q=deref (AA (some D) ob) q:=by
   cases q with
   |c v=>
    cases v<;>try rfl
    rename_i N;simp only[deref];by_cases k:N=id
    ·subst k;simp only[AA,AR,h];cases D.contains N<;>rfl
    ·rw[i N k]
   |_=>rfl
  rw[hd];generalize deref (AA (some D) ob) q=r
  cases r with
  |ptr j o=>
   simp only;by_cases g:j=id
   ·subst g;simp only[AO,AA,AR,h];cases D.contains j<;>rfl
   ·simp only[AO,i j g]
  |c v=>cases v<;>rfl
  |_=>rfl
theorem Ahk{D:List Nat}{a b:SL}{st l N:St}(B:a.op.flat=true)(I:a.guard=none)(U:b.op.copies=true)(H:b.guard=none)
  (t:∀i,a.dst=some i->i∉b.looks/\b.dst≠some i) (K:∀i,b.dst=some i->i∉a.looks) (h:Ar E (some D) a st=some l) (C:Ar E (some D) b l=some N):
  ∃s,Ar E (some D) b st=some s/\Ar E (some D) a s=some N:=by
 have r:a.op.hard=false:=by revert B;cases a.op<;>simp[aa.flat,aa.hard]
 have L:a.op.makes=false:=by revert B;cases a.op<;>simp[aa.flat,aa.makes]
 have f:ag a.op D=D:=UQ (by revert B;cases a.op<;>simp[aa.flat,aa.calls]);cases g:b.op<;>simp only[g,aa.copies,Ah]at U;rename_i e size x y
 have u:∀s,Ar E (some D) b s=(Id s.ob e size (so E.G s.fr x) (so E.G s.fr y)).map fun p=>St.set {s with ob:=ac s.ob p.1 p.2.1} b.dst (.c (.int .i64 (p.2.2:Nat))):=by
  intro s;simp only[Ar,H,g,A9,aa.cls,TA];rfl
 rw[Cw r,Ab]at h;obtain⟨⟨v,o⟩,F,h⟩:=h
 have S:o=none:=by
  cases o with
  |none=>rfl
  |some o=>have:=HK F rfl;rw[L]at this;cases this
 subst S;have J:∀i∈b.looks,l.fr i=st.fr i:=fun i hi=>CX h (fun e=>(t i e).1 hi);simp only[put,Ac]at h;have q:l.ob=st.ob:=by subst h;cases a.dst<;>rfl
 have d:∀z:SO,(z=x\/z=y)->so E.G l.fr z=so E.G st.fr z:=fun z Q=>DE z fun i hi=>J i (by
  simp only[SL.looks,g,aa.slots,List.mem_append];rcases Q with rfl|rfl
  ·exact .inl (.inl hi)
  ·exact .inl (.inr hi))
 rw[u,q,d x (.inl rfl),d y (.inr rfl),Aa]at C;obtain⟨p,O,C⟩:=C;obtain⟨⟨es,q1⟩,W,q2⟩:=T9 O;refine⟨_,by rw[u,O];rfl, ?_⟩;have V:put {st with ob:=ac st.ob p.1 p.2.1} b.dst (.c (.int .i64 (p.2.2:Nat)),none)=some (St.set {st with ob:=ac st.ob p.1 p.2.1} b.dst (.c (.int .i64 (p.2.2:Nat)))):=rfl;have m:(St.set {st with ob:=ac st.ob p.1 p.2.1} b.dst (.c (.int .i64 (p.2.2:Nat)))).ob=ac st.ob p.1 p.2.1:=by cases b.dst<;>rfl
 have k:∀i j,b.dst=some i->a.dst=some j->i≠j:=fun i j hi T e=>(t j T).2 (by rw[hi,e])
 have M:B0 E a st.fr (AA (some D) (ac st.ob p.1 p.2.1))=some (v,none):=by
  rw[f]at F;simp only[B0,I]at F⊢;rw[q2,U5 q1 B];exact F
 rw[Cw r,m,f,FH (fr':=st.fr) (fun i hi=>CX V (fun e=>K i e hi)),M];simp only[Option.bind_some,put,<-C,<-h];rw[St.set_comm _ _ _ _ _ k];cases a.dst<;>cases b.dst<;>rfl
theorem Ahl{D:List Nat}{a b:SL}{st F Q:St}(W:a.op.copies=true)(K:a.guard=none)(H:b.op.flat=true)(J:b.guard=none)
  (t:∀i,a.dst=some i->i∉b.looks/\b.dst≠some i) (M:∀i,b.dst=some i->i∉a.looks) (l:Ar E (some D) a st=some F) (u:Ar E (some D) b F=some Q):
  ∃s,Ar E (some D) b st=some s/\Ar E (some D) a s=some Q:=by
 have r:b.op.hard=false:=by revert H;cases b.op<;>simp[aa.flat,aa.hard]
 have L:b.op.makes=false:=by revert H;cases b.op<;>simp[aa.flat,aa.makes]
 have f:ag b.op D=D:=UQ (by revert H;cases b.op<;>simp[aa.flat,aa.calls]);cases g:a.op<;>simp only[g,aa.copies,Ah]at W;rename_i e size x y
 have B:∀s,Ar E (some D) a s=(Id s.ob e size (so E.G s.fr x) (so E.G s.fr y)).map fun p=>St.set {s with ob:=ac s.ob p.1 p.2.1} a.dst (.c (.int .i64 (p.2.2:Nat))):=by
  intro s;simp only[Ar,K,g,A9,aa.cls,TA];rfl
 rw[B,Aa]at l;obtain⟨p,S,l⟩:=l;obtain⟨⟨es,q1⟩,Y,q2⟩:=T9 S;have X:put {st with ob:=ac st.ob p.1 p.2.1} a.dst (.c (.int .i64 (p.2.2:Nat)),none)=some F:=by rw[<-l];rfl
 have q:F.ob=ac st.ob p.1 p.2.1:=by rw[<-l];cases a.dst<;>rfl
 rw[Cw r,q,f,FH (fr':=st.fr) (fun i hi=>CX X (fun e=>(t i e).1 hi)),Ab]at u;obtain⟨⟨v,o⟩,O,u⟩:=u
 have C:B0 E b st.fr (AA (some D) st.ob)=some (v,o):=by
  simp only[B0,J]at O⊢;rw[q2,U5 q1 H]at O;exact O
 have V:o=none:=by
  cases o with
  |none=>rfl
  |some o=>have:=HK C rfl;rw[L]at this;cases this
 subst V;have k:∀i j,a.dst=some i->b.dst=some j->i≠j:=fun i j hi I h=>(t i hi).2 (by rw[I,h])
 have N:Ar E (some D) b st=some (st.set b.dst v):=by
  rw[Cw r,f,C];rfl
 refine⟨_,N, ?_⟩;have U:put st b.dst (v,none)=some (st.set b.dst v):=rfl;have m:(st.set b.dst v).ob=st.ob:=by cases b.dst<;>rfl
 have d:∀z:SO,(z=x\/z=y)->so E.G (st.set b.dst v).fr z=so E.G st.fr z:=fun z T=>DE z fun i hi=>CX U (fun h=>M i h (by
  simp only[SL.looks,g,aa.slots,List.mem_append];rcases T with rfl|rfl
  ·exact .inl (.inl hi)
  ·exact .inl (.inr hi)))
 rw[B,m,d x (.inl rfl),d y (.inr rfl),S];simp only[put,Ac]at u;simp only[Option.map_some,Ac];have Z:({fr:=(st.set b.dst v).fr,ob:=ac st.ob p.1 p.2.1}:St)=({fr:=st.fr,ob:=ac st.ob p.1 p.2.1}:St).set b.dst v:=by cases b.dst<;>rfl
 rw[<-u,<-l,Z];exact St.set_comm _ _ _ _ _ (fun i j hi I=>(k j i I hi).symm)
end
theorem N7{E:ah}{D:List Nat}{l:SL}{st s:St}(b:l.op.hard=false)(h:Ar E (some D) l st=some s){i:Nat}(hi:l.dst≠some i):s.fr i=st.fr i:=by
 rw[Cw b,Ab]at h;obtain⟨p,_,h⟩:=h;exact CX h hi
def SL.bare(l:SL)(t:Bool):SL:=if t=true then⟨l.dst,l.op,none⟩else⟨l.dst,.mov (.k (.tup [])),none⟩
theorem FY{E:ah}{D:List Nat}{l:SL}{st:St}{t:Bool}(h:gd l st.fr=some t):Ar E (some D) l st=Ar E (some D) (l.bare t) st:=by
 rw[FZ,h]
 cases t with
 |true=>simp only[Option.bind_some,if_true,SL.bare];rfl
 |false=>
  simp only[Option.bind_some,Ah,if_false,SL.bare,Ar,A9,aa.cls,An,Option.map_some];rfl
theorem Lu{l:SL}{t:Bool}{i:Nat}(h:i∈(l.bare t).looks):i∈l.looks:=by
 cases t with
 |false=>
  have h:i∈(aa.mov (.k (.tup []))).slots++ []:=h;simp[aa.slots,SO.slot]at h
 |true=>
  have h:i∈l.op.slots++ []:=h;rw[List.append_nil]at h;exact List.mem_append_left _ h
theorem EF{l:SL}{t:Bool}:(l.bare t).dst=l.dst:=by cases t<;>rfl
theorem UE{l:SL}{fr fr':Nat->SV}{id:Nat}(h:∀i∈l.looks,fr' i=Ay [id] (fr i)):gd l fr'=gd l fr:=by
 unfold gd
 cases d:l.guard with
 |none=>rfl
 |some p=>
  obtain⟨g,b⟩:=p;simp only;rw[h g (by simp[SL.looks,d])];cases fr g<;>simp only[Ay];all_goals(first|rfl|(split<;>rename_i c<;>first|rfl|(split at c<;>cases c)))
theorem Me{E:ah}{D:List Nat}{l:SL}{st s:St}(h:Ar E (some D) l st=some s):∃t,gd l st.fr=some t:=by
 rw[FZ]at h
 cases b:gd l st.fr with
 |none=>rw[b]at h;cases h
 |some t=>exact⟨t,rfl⟩
theorem M7{E:ah}{D:List Nat}{l:SL}{q:SO}{st:St}(c:l.guard=none)(b:l.op=.mov q):Ar E (some D) l st=some (st.set l.dst (so E.G st.fr q)):=by
 simp only[Ar,c,b,A9,aa.cls,An,Option.map_some,Dp]
theorem UM{E:ah}{D:List Nat}{b:SL}{st s:St}(f:b.op.grows=true)(d:b.guard=none)(h:Ar E (some D) b st=some s):∃id,∀i,b.dst≠some i->s.fr i=Ay [id] (st.fr i):=by
 cases c:b.op<;>simp only[c,aa.grows,Ah]at f;rename_i e size bytes x y;simp only[Ar,d,c,A9,aa.cls,Lm,Aa]at h;obtain⟨⟨id,g⟩,_,rfl⟩:=h;refine⟨id,fun i hi=> ?_⟩;unfold Di
 cases hd:b.dst with
 |none=>rfl
 |some j=>exact A8 _ _ fun e=>hi (by rw[hd,e])
theorem HX{l:SL}{t:Bool}(h:l.op.moves=true):(l.bare t).op.moves=true:=by cases t<;>simp[SL.bare,aa.moves]<;>exact h
theorem Ad5{o:aa}(h:o.moves=true):o.tame=true:=by cases o<;>simp_all[aa.moves,aa.tame]
theorem Fr{l:SL}{t:Bool}:(l.bare t).guard=none:=by cases t<;>rfl
theorem VD{o:aa}(h:o.moves=true):∃q,o=.mov q:=by cases o<;>simp_all[aa.moves]
theorem VC{o:aa}(h:o.moves=true):o.hard=false:=by cases o<;>simp_all[aa.moves,aa.hard]
theorem X3{E:ah}{D:List Nat}{a b:SL}{st m l:St}(v:a.op.moves=true)(d:a.guard=none)(u:b.op.moves=true)(c:b.guard=none)
  (e:∀i,a.dst=some i->i∉b.looks/\b.dst≠some i) (k:∀i,b.dst=some i->i∉a.looks) (r:Ar E (some D) a st=some m) (o:Ar E (some D) b m=some l):
  ∃s,Ar E (some D) b st=some s/\Ar E (some D) a s=some l:=by
 obtain⟨p,g⟩:=VD v;obtain⟨q,f⟩:=VD u;rw[M7 d g,Ac]at r;subst r;rw[M7 c f,Ac]at o;subst o;refine⟨_,M7 c f, ?_⟩;rw[M7 d g]
 have y:so E.G (st.set a.dst (so E.G st.fr p)).fr q=so E.G st.fr q:=DE q fun i hi=>by
  cases hd:a.dst with
  |none=>rfl
  |some j=>exact A8 _ _ fun h=>(e j hd).1 (h▸by simp[SL.looks,f,aa.slots,hi])
 have x:so E.G (st.set b.dst (so E.G st.fr q)).fr p=so E.G st.fr p:=DE p fun i hi=>by
  cases hd:b.dst with
  |none=>rfl
  |some j=>exact A8 _ _ fun h=>k j hd (h▸by simp[SL.looks,g,aa.slots,hi])
 rw[y,x]
 congr 1
 exact St.set_comm _ _ _ _ _ fun i j hi t h=>(e j t).2 (by rw[hi,h])
theorem Ahp{E:ah}{D:List Nat}{a b:SL}{st o m:St}(r:a.op.moves=true)(y:b.op.grows=true)
  (f:∀i,a.dst=some i->i∉b.looks/\b.dst≠some i) (e:∀i,b.dst=some i->i∉a.looks) (g:Ar E (some D) a st=some o) (j:Ar E (some D) b o=some m):
  ∃s,Ar E (some D) b st=some s/\Ar E (some D) a s=some m:=by
 obtain⟨h,k⟩:=Me g;obtain⟨tb,B⟩:=Me j
 have p:∀i∈b.looks,o.fr i=st.fr i:=fun i hi=>by
  rw[FY k]at g;exact N7 (VC (HX r)) g fun hd=>(f i (by rw[<-EF (t:=h)];exact hd)).1 hi
 have u:gd b st.fr=some tb:=by rw[<-B];exact(Hv p).symm
 rw[FY k]at g;rw[FY B]at j;rw[FY u]
 have d:∀i,(a.bare h).dst=some i->i∉(b.bare tb).looks/\(b.bare tb).dst≠some i:=fun i hi=>by
  rw[EF]at hi;exact⟨fun q=>(f i hi).1 (Lu q),by rw[EF];exact(f i hi).2⟩
 have c:∀i,(b.bare tb).dst=some i->i∉(a.bare h).looks:=fun i hi q=>e i (by rw[<-EF (t:=tb)];exact hi) (Lu q)
 have ay:∀s,Ar E (some D) (b.bare tb) st=some s->gd a s.fr=some h:=by
  intro s x
  cases tb with
  |true=>
   obtain⟨id,C⟩:=UM (b:=b.bare true) y Fr x;rw[<-k];exact UE fun i hi=>C i fun hd=>e i (by rw[<-EF (t:=true)];exact hd) hi
  |false=>
   rw[<-k];exact Hv fun i hi=>N7 (l:=b.bare false) rfl x fun hd=>e i (by rw[<-EF (t:=false)];exact hd) hi
 have key:∃s,Ar E (some D) (b.bare tb) st=some s/\Ar E (some D) (a.bare h) s=some m:=by
  cases tb with
  |true=>exact Aho (HX r) Fr y Fr d c g j
  |false=>exact X3 (HX r) Fr rfl Fr d c g j
 obtain⟨s,v,k2⟩:=key;exact⟨s,v,by rw[FY (ay s v)];exact k2⟩
theorem Ahn{E:ah}{D:List Nat}{a b:SL}{st q k:St}(u:a.op.grows=true)(o:b.op.moves=true)
  (c:∀i,a.dst=some i->i∉b.looks/\b.dst≠some i) (h:∀i,b.dst=some i->i∉a.looks) (g:Ar E (some D) a st=some q) (j:Ar E (some D) b q=some k):
  ∃s,Ar E (some D) b st=some s/\Ar E (some D) a s=some k:=by
 obtain⟨f,x⟩:=Me g;obtain⟨tb,v⟩:=Me j;rw[FY x]at g
 have p:gd b st.fr=some tb:=by
  rw[<-v]
  cases f with
  |true=>
   obtain⟨id,B⟩:=UM (b:=a.bare true) u Fr g;exact(UE fun i hi=>B i fun hd=>(c i (by rw[<-EF (t:=true)];exact hd)).1 hi).symm
  |false=>exact(Hv fun i hi=>N7 (l:=a.bare false) rfl g fun hd=>(c i (by rw[<-EF (t:=false)];exact hd)).1 hi).symm
 rw[FY v]at j;rw[FY p]
 have e:∀i,(a.bare f).dst=some i->i∉(b.bare tb).looks/\(b.bare tb).dst≠some i:=fun i hi=>by
  rw[EF]at hi;exact⟨fun m=>(c i hi).1 (Lu m),by rw[EF];exact(c i hi).2⟩
 have d:∀i,(b.bare tb).dst=some i->i∉(a.bare f).looks:=fun i hi m=>h i (by rw[<-EF (t:=tb)];exact hi) (Lu m)
 have ay:∀s,Ar E (some D) (b.bare tb) st=some s->gd a s.fr=some f:=by
  intro s y;rw[<-x];exact Hv fun i hi=>N7 (VC (HX o)) y fun hd=>h i (by rw[<-EF (t:=tb)];exact hd) hi
 have key:∃s,Ar E (some D) (b.bare tb) st=some s/\Ar E (some D) (a.bare f) s=some k:=by
  cases f with
  |true=>exact X2 u Fr (Ad5 (HX o)) Fr e d g j
  |false=>exact X3 rfl Fr (HX o) Fr e d g j
 obtain⟨s,r,k2⟩:=key;exact⟨s,r,by rw[FY (ay s r)];exact k2⟩
def SL.own(A:List Nat)(l:SL):Option Nat:=
 match l.op,l.guard with
 | .store _ (.t a) _,none=>if A.contains a then some a else none
 |_,_=>none
def Gf(ls:List SL):List Nat:=
 (ls.filterMap fun l=>match l.op,l.guard,l.dst with| .alloc _,none,some d=>some d|_,_,_=>none).filter fun d=>(ls.filter fun l=>l.dst==some d).length==1
def PU(m:List Nat)(l:SL):List Nat:=
 match l.op,l.guard,l.dst with
 | .alloc _,none,some d=>d::m
 |_,_,some d=>m.filter fun i=>i !=d
 |_,_,none=>m
def I8(A:List Nat):List Nat->List SL->Bool
 |_,[]=>true
 |m,l::ls=>(match l.own A with|some a=>m.contains a|none=>true)&&I8 A (PU m l) ls
def Dh(A D:List Nat)(x y:SL):Bool:=
 G5 D x y||((x.dst.all fun d=> !y.looks.contains d&&y.dst !=some d)&&(y.dst.all fun d=> !x.looks.contains d)&&
  match x.own A,y.own A with
  |some a,some b=>a !=b
  |some a,none=> !y.op.hard&&(ag y.op D).contains a
  |none,some b=> !x.op.hard&&(ag x.op D).contains b
  |none,none=>false)
def bc(A:List Nat)(l:SL)(st:St):Bool:=
 match l.own A with
 |some a=>match st.fr a with
  | .ptr j _=>j==a
  |_=>false
 |none=>true
section
variable {E:ah} {A D:List Nat}
def bh(E:ah)(A D:List Nat)(l:SL)(st:St):Option St:=if bc A l st=true then Ar E (some D) l st else none
theorem G4{l:SL}{st s:St}(h:bh E A D l st=some s):bc A l st=true/\Ar E (some D) l st=some s:=by
 unfold bh at h;split at h
 ·rename_i b;exact⟨b,h⟩
 ·cases h
theorem F1{l:SL}{st s:St}(c:bc A l st=true)(b:Ar E (some D) l st=some s):bh E A D l st=some s:=by
 unfold bh;rw[if_pos c,b]
theorem GF{l:SL}{a:Nat}(h:l.own A=some a):∃n x,l.op=.store n (.t a) x/\l.guard=none:=by
 unfold SL.own at h;split at h
 ·rename_i n d x c b;split at h
  ·cases h;exact⟨n,x,c,b⟩
  ·cases h
 ·cases h
theorem Qe{l:SL}{a:Nat}(h:l.own A=some a):a∈l.looks:=by
 obtain⟨n,x,b,c⟩:=GF h;simp[SL.looks,b,aa.slots,SO.slot]
theorem MO{l:SL}(h:l.op.hard=false):l.own A=none:=by
 cases b:l.own A with
 |none=>rfl
 |some a=>
  obtain⟨n,x,c,d⟩:=GF b;rw[c]at h;cases h
theorem Aek{l:SL}{st st':St}(h:∀a,l.own A=some a->st'.fr a=st.fr a)(b:bc A l st=true):bc A l st'=true:=by
 unfold bc at b⊢
 cases c:l.own A with
 |none=>rfl
 |some a=>
  rw[c]at b;simp only[h a c]at b⊢;exact b
theorem QF{l:SL}{st s:St}(b:l.op.hard=false)(h:Ar E (some D) l st=some s){i:Nat}(hi:l.dst≠some i):s.fr i=st.fr i:=by
 rw[Cw b,Ab]at h;obtain⟨p,_,h⟩:=h;exact CX h hi
def CZ(n o:Nat)(ob:Ob)(v:SV):Option Ob:=
 match ob with
 | .box cs bt=>match v with
  | .c (.agg l)=>if l.length=n/\o+n≤cs.length/\l.all Cv=true then some (.box (FD cs o (l.map .c)) bt)else none
  |v=>if n=1/\o<cs.length/\H8 v=true then some (.box (cs.set o v) bt)else none
 |_=>none
theorem Ag7{n o:Nat}{ob b:Ob}{v:SV}(h:CZ n o ob v=some b):ob≠ .none/\b≠ .none:=by
 unfold CZ at h;split at h
 ·refine⟨by simp, ?_⟩
  split at h<;>split at h<;>first
   |cases h;done
   |(cases h;simp)
 ·cases h
theorem MJ{l:SL}{a:Nat}(h:l.own A=some a):∃n x,(∀i∈x.slot,i∈l.looks)/\∀(st s:St),bh E A D l st=some s<->∃o b,st.fr a=.ptr a o/\CZ n o (st.ob a) (so E.G st.fr x)=some b/\s={st with ob:=ac st.ob a b}:=by
 obtain⟨n,x,p,B⟩:=GF h;refine⟨n,x,fun i hi=>by simp[SL.looks,p,aa.slots,hi],fun st s=> ?_⟩
 have e:∀o,st.fr a=.ptr a o->Ar E (some D) l st=(CZ n o (st.ob a) (so E.G st.fr x)).map fun b=>{st with ob:=ac st.ob a b}:=by
  intro o q;simp only[Ar,B,p,A9,aa.cls,AJ,Dp];rw[show so E.G st.fr (.t a)=.ptr a o from q];simp only[CZ,deref];cases r:st.ob a<;>simp only[r]<;>try rfl
  generalize so E.G st.fr x=v
  cases v with
  |c cv=>cases cv<;>(simp only;split<;>rfl)
  |_=>simp only;split<;>rfl
 constructor
 ·intro f;obtain⟨d,m⟩:=G4 f;unfold bc at d;rw[h]at d;simp only at d;split at d
  ·rename_i j o k;have g:j=a:=by simpa using d
   subst g;rw[e o k,Aa]at m;obtain⟨b,y,u⟩:=m;exact⟨o,b,k,y,u.symm⟩
  ·cases d
 ·rintro⟨o,b,f,d,rfl⟩
  refine F1 ?_ ?_
  ·unfold bc;rw[h];simp[f]
  ·rw[e o f,d];rfl
theorem Vx{L:List Nat}{ob:Nat->Ob}{a:Nat}{b:Ob}(h:L.contains a=true):AA (some L) (ac ob a b)=AA (some L) ob:=by
 funext i;simp only[AA,BS];split
 ·rfl
 ·rename_i hi;split
  ·rename_i e;subst e;exact(hi h).elim
  ·rfl
theorem Wp{st s:St}{d:Option Nat}{p:SV×Option Ob}(h:put st d p=some s){a:Nat}(b:d≠some a):s.ob a=st.ob a:=by
 obtain⟨v,o⟩:=p
 cases o with
 |none=>
  simp only[put,Ac]at h;subst h;cases d<;>rfl
 |some o=>
  simp only[put,Bz]at h
  cases d with
  |none=>cases h
  |some d=>
   simp only at h;split at h<;>(try cases h;done);cases h;exact A8 _ _ (fun e=>b (by rw[e]))
theorem Wq{st s:St}{d:Option Nat}{p:SV×Option Ob}{a:Nat}{b:Ob}(hd:d≠some a):put st d p=some s->put {st with ob:=ac st.ob a b} d p=some {s with ob:=ac s.ob a b}:=by
 intro h;obtain⟨v,o⟩:=p
 cases o with
 |none=>
  simp only[put,Ac]at h⊢;subst h;cases d<;>rfl
 |some o=>
  simp only[put,Bz]at h⊢
  cases d with
  |none=>cases h
  |some j=>
   have c:j≠a:=fun e=>hd (by rw[e]);simp only at h;split at h<;>(try cases h;done);rename_i f;cases h;simp only[A8 _ _ c,f,Ac,St.mk.injEq,true_and];exact FI _ _ _ (Ne.symm c)
theorem Afd{st s:St}{d:Option Nat}{p:SV×Option Ob}{a:Nat}{b:Ob}(g:st.ob a≠ .none)(h:put {st with ob:=ac st.ob a b} d p=some s)(hd:d≠some a):∃s',put st d p=some s':=by
 obtain⟨v,o⟩:=p
 cases o with
 |none=>exact⟨_,rfl⟩
 |some o=>
  simp only[put,Bz]at h⊢
  cases d with
  |none=>cases h
  |some j=>
   have f:j≠a:=fun e=>hd (by rw[e]);simp only[A8 _ _ f]at h;simp only;split at h<;>(try cases h;done);rename_i c;exact⟨{fr:=ac st.fr j v,ob:=ac st.ob j o},by simp[c]⟩
theorem Ahq{a b:SL}{st C B:St}
  (r:∀i,a.dst=some i->i∉b.looks/\b.dst≠some i) (q:∀i,b.dst=some i->i∉a.looks)
  (j:(match a.own A,b.own A with
  |some a,some b=>a !=b
  |some k,none=> !b.op.hard&&(ag b.op D).contains k
  |none,some k=> !a.op.hard&&(ag a.op D).contains k
  |none,none=>false)=true) (g:bh E A D a st=some C) (h:bh E A D b C=some B):∃s,bh E A D b st=some s/\bh E A D a s=some B:=by
 cases f:a.own A with
 |some k=>
  cases d:b.own A with
  |some k'=>
   rw[f,d]at j;have l:k≠k':=by simpa using j
   obtain⟨n,x,y,v⟩:=MJ (E:=E) (D:=D) f;obtain⟨L,K,G,u⟩:=MJ (E:=E) (D:=D) d;rw[v]at g;obtain⟨o,c,q1,q2,rfl⟩:=g;rw[u]at h;obtain⟨o',J,q3,q4,rfl⟩:=h;simp only[A8 _ _ (Ne.symm l)]at q4;refine⟨_,(u _ _).2 ⟨o',J,q3,q4,rfl⟩,(v _ _).2 ⟨o,c,q1, ?_, ?_⟩⟩
   ·simp only[A8 _ _ l];exact q2
   ·simp only[St.mk.injEq,true_and];exact FI _ _ _ l
  |none=>
   rw[f,d]at j;simp only[Ag,Bool.not_eq_true']at j;obtain⟨m,l⟩:=j;obtain⟨n,x,y,v⟩:=MJ (E:=E) (D:=D) f;rw[v]at g;obtain⟨o,c,q1,q2,rfl⟩:=g;obtain⟨_,h⟩:=G4 h;rw[Cw m,Ab]at h;obtain⟨p,F,h⟩:=h;simp only[Vx l]at F;have hd:b.dst≠some k:=fun e=>q k e (Qe f);obtain⟨s',t⟩:=Afd (Ag7 q2).1 h hd;have H:=Wq (b:=c) hd t;rw[H]at h;cases h;refine⟨s',F1 (by unfold bc;rw[MO m]) (by rw[Cw m,F];exact t),(v _ _).2 ⟨o,c, ?_, ?_,rfl⟩⟩
   ·rw[CX t hd];exact q1
   ·rw[Wp t hd,DE x (fr':=st.fr) (fun i hi=>CX t (fun e=>q i e (y i hi)))];exact q2
 |none=>
  cases d:b.own A with
  |none=>rw[f,d]at j;cases j
  |some k=>
   rw[f,d]at j;simp only[Ag,Bool.not_eq_true']at j;obtain⟨has,l⟩:=j;obtain⟨n,x,y,u⟩:=MJ (E:=E) (D:=D) d;obtain⟨_,g⟩:=G4 g;rw[Cw has,Ab]at g;obtain⟨p,I,g⟩:=g;have hd:a.dst≠some k:=fun e=>(r k e).1 (Qe d);rw[u]at h;obtain⟨o,c,q1,q2,rfl⟩:=h;rw[CX g hd]at q1;rw[Wp g hd,DE x (fr':=st.fr) (fun i hi=>CX g (fun e=>(r i e).1 (y i hi)))]at q2;refine⟨_,(u _ _).2 ⟨o,c,q1,q2,rfl⟩,F1 (by unfold bc;rw[MO has]) ?_⟩;rw[Cw has];simp only[Vx l,I,Option.bind_some];exact Wq hd g
theorem keep{l:SL}{st s:St}(h:Ar E (some D) l st=some s){i:Nat}(hi:l.dst≠some i):s.fr i=st.fr i\/s.fr i=.undef:=by
 cases j:l.op.hard with
 |false=>exact .inl (QF j h hi)
 |true=>
  have b:∀(st:St) (d:Option Nat) (v:SV),d≠some i->(st.set d v).fr i=st.fr i:=by
   intro st d v hd
   cases d with
   |none=>rfl
   |some d=>exact A8 _ _ (fun e=>hd (by rw[e]))
  have c:∀(L:List Nat) (v:SV),Ay L v=v\/Ay L v=.undef:=by
   intro L v
   cases v<;>simp only[Ay]<;>first
    |exact .inl trivial
    |exact .inl rfl
    |(split<;>first|exact .inl rfl|exact .inr rfl)
  rw[FZ,Ab]at h;obtain⟨t,_,h⟩:=h;split at h
  case isFalse=>cases h;exact .inl (b _ _ _ hi)
  cases g:l.op<;>simp only[g,aa.hard,Ah]at j<;>simp only[g,A9,aa.cls]at h
  case append e size bytes x y=>
   rw[Lm,Aa]at h;obtain⟨p,_,rfl⟩:=h;unfold Di;rw[b _ _ _ hi];exact c _ _
  case mcopy f x y=>
   unfold Fw at h
   repeat' split at h
   all_goals first
    |(cases h;done)
    |(cases h;exact .inl (b _ _ _ hi))
  all_goals
   simp only[AJ]at h;try(cases h;done)
   repeat' split at h
   all_goals first
    |(cases h;done)
    |(cases h;exact .inl rfl)
    |(cases h;exact .inl (b _ _ _ hi))
    |skip
  all_goals
   rw[Ab]at h;obtain⟨_,_,h⟩:=h;split at h
   ·cases h;exact .inl rfl
   ·cases h
def co(E:ah)(A D:List Nat):List SL->St->Option St
 | [],st=>some st
 |l::ls,st=>(bh E A D l st).bind (co E A D ls)
def E7(E:ah)(A D:List Nat)(ls:List SL):List Nat->St->Option St
 | [],st=>some st
 |i::is,st=>match ls[i]? with
  |some l=>(bh E A D l st).bind (E7 E A D ls is)
  |none=>none
theorem Qf:∀(ls:List SL) (m:List Nat) {st s:St},(∀a∈m,st.fr a=.ptr a 0\/st.fr a=.undef)->I8 A m ls=true->Ce E (some D) ls st=some s->co E A D ls st=some s
 | [],_,_,_,_,_,h=>h
 |l::ls,m,st,s,hm,hk,h=>by
  simp only[Ce,Ab]at h;obtain⟨q,f,u⟩:=h;simp only[I8,Ag]at hk;obtain⟨o,k2⟩:=hk
  have p:bc A l st=true:=by
   unfold bc
   cases r:l.own A with
   |none=>rfl
   |some a=>
    rw[r]at o;simp only[List.contains_iff_mem]at o;rcases hm a o with e|e
    ·simp[e]
    ·exfalso;obtain⟨n,x,j,k⟩:=GF r;simp only[Ar,k,j,A9,aa.cls,AJ,Dp]at f;rw[show so E.G st.fr (.t a)=.undef from e]at f;cases f
  simp only[co,F1 p f,Option.bind_some];refine Qf ls _ ?_ k2 u
  have b:∀a∈m,l.dst≠some a->q.fr a=.ptr a 0\/q.fr a=.undef:=by
   intro a c hd;rcases keep f hd with e|e
   ·rw[e];exact hm a c
   ·exact .inr e
  intro a c;unfold PU at c;split at c
  ·rename_i z d j k g3;by_cases i:a=d
   ·subst i;simp only[Ar,k,j,A9,aa.cls,Bl,Option.bind_some,g3,Option.getD_some,Bz]at f;split at f
    ·cases f;exact .inl (AR _ _ _)
    ·cases f
   ·rcases List.mem_cons.1 c with e|e
    ·exact(i e).elim
    ·exact b a e (fun g=>i (by rw[g3]at g;cases g;rfl))
  ·rename_i d k j;rw[List.mem_filter]at c;exact b a c.1 (fun g=>by rw[k]at g;cases g;simp at c)
  ·rename_i j;exact b a c (fun g=>by rw[j]at g;cases g)
theorem Nl{ls:List SL}:∀(b:List Nat) {st s:St},E7 E A D ls b st=some s->Cm E (some D) ls b st=some s
 | [],_,_,h=>h
 |i::b,st,s,h=>by
  simp only[E7,Cm]at h⊢;split at h
  ·rename_i l c;rw[Ab]at h;obtain⟨f,e,d⟩:=h;simp only[c,(G4 e).2,Option.bind_some];exact Nl b d
  ·cases h
theorem Mx:∀(ls:List SL) (pre:List SL) (st:St),E7 E A D (pre++ls) (List.range' pre.length ls.length) st=co E A D ls st
 | [],_,_=>rfl
 |l::ls,pre,st=>by
  have h:=Mx ls (pre++ [l]);simp only[List.length_append,List.length_cons,List.length_nil,List.append_assoc,List.cons_append,List.nil_append]at h;simp only[List.length_cons,List.range'_succ,E7,co];rw[show(pre++l::ls)[pre.length]? =some l by simp];simp only
  congr 1
  funext s;exact h s
end
theorem ZW{E:ah}{D:List Nat}{a b:SL}{st q p:St}(r:G5 D a b=true)(x:a.op.makes=true->∀j,a.dst=some j->D.contains j=true)(v:b.op.makes=true->∀j,b.dst=some j->D.contains j=true)
  (h:Ar E (some D) a st=some q) (g:Ar E (some D) b q=some p):∃s,Ar E (some D) b st=some s/\Ar E (some D) a s=some p:=by
 simp only[G5,Ag,Ak,Bool.not_eq_true']at r;obtain⟨⟨o,B⟩,e⟩:=r
 have d:∀i,a.dst=some i->i∉b.looks/\b.dst≠some i:=by
  intro i hi;simp only[hi,Option.all_some,Ag,Bool.not_eq_true',bne_iff_ne]at o;exact⟨fun l=>by have:=o.1;simp[l]at this,o.2⟩
 have c:∀i,b.dst=some i->i∉a.looks:=by
  intro i hi l;simp[hi,l]at B
 rcases e with(⟨g3,(((⟨⟨e,u⟩,t⟩|⟨e,f⟩)|⟨e,f⟩)|⟨e,k⟩)|⟨⟨⟨e,f⟩,k⟩,y⟩⟩|⟨g3,e|⟨⟨f,e⟩,k⟩⟩)|⟨⟨⟨g3,e⟩|⟨g3,e⟩,f⟩,k⟩
 ·exact Ahs g3 e (fun l j m=>by simpa[l,m]using u) (fun l j m=>by simpa[l,m]using t) d c h g
 ·exact Ahm f e d c h g
 ·exact Aht f e d c h g
 ·exact Ahp k e d c h g
 ·exact Ahr k (by simpa using y) e (by simpa using f) d c h g
 ·exact Ahn g3 e d c h g
 ·exact X2 g3 (by simpa using f) e (by simpa using k) d c h g
 ·exact Ahl g3 (by simpa using f) e (by simpa using k) d c h g
 ·exact Ahk e (by simpa using f) g3 (by simpa using k) d c h g
def Df(P:Program)(ops:Array Oper)(A D:List Nat)(ls:List SL):Bool:=
 P.follows .mixedOrders&&I8 A [] ls&&
 (ops.toList.zipIdx.all fun p=>p.1.after.all fun e=> !(Region.binds .any e)||decide (e.on<p.2))&&
 (ls.all fun l=> !l.op.makes||l.dst.all fun d=>D.contains d)&&
 ((List.range ls.length).all fun j=>(List.range j).all fun i=>((DA ops ls.length).getD j 0).testBit i||match ls[i]?,ls[j]? with
   |some x,some y=>Dh A D x y
   |_,_=>false)
theorem Mb{E:ah}{A D:List Nat}{a b:SL}{st q p:St}(c:Dh A D a b=true)(o:a.op.makes=true->∀j,a.dst=some j->D.contains j=true)(m:b.op.makes=true->∀j,b.dst=some j->D.contains j=true)
  (u:bh E A D a st=some q) (t:bh E A D b q=some p):∃s,bh E A D b st=some s/\bh E A D a s=some p:=by
 simp only[Dh,Ak]at c;rcases c with c|c
 ·obtain⟨G,v⟩:=G4 u;obtain⟨k2,F⟩:=G4 t;obtain⟨s,C,B⟩:=ZW c o m v F;simp only[G5,Ag,Ak,Bool.not_eq_true']at c;obtain⟨⟨q1,q2⟩,q4⟩:=c
  have d:a.own A=none:=by
   rcases q4 with(⟨q3,_⟩|⟨q3,_⟩)|⟨⟨⟨q3,_⟩|⟨_,q3⟩,_⟩,_⟩
   ·exact MO q3
   all_goals
    cases y:a.own A with
    |none=>rfl
    |some k=>
     obtain⟨n,x,h,_⟩:=GF y;rw[h]at q3;cases q3
  refine⟨s,F1 (Aek (fun k r=> ?_) k2) C,F1 (by unfold bc;rw[d]) B⟩;obtain⟨n,x,h,_⟩:=GF r
  have g:a.op.hard=false:=by
   rcases q4 with(⟨q3,_⟩|⟨_,q3|⟨⟨_,q3⟩,_⟩⟩)|⟨⟨⟨_,q3⟩|⟨q3,_⟩,_⟩,_⟩
   ·exact q3
   all_goals
    rw[h]at q3;cases q3
  refine(QF g v fun hd=> ?_).symm;simp only[hd,Option.all_some,Ag,Bool.not_eq_true',bne_iff_ne]at q1;have:=q1.1;simp[Qe r]at this
 ·simp only[Ag]at c;obtain⟨⟨q1,q2⟩,q4⟩:=c
  have l:∀i,a.dst=some i->i∉b.looks/\b.dst≠some i:=by
   intro i hi;simp only[hi,Option.all_some,Ag,Bool.not_eq_true',bne_iff_ne]at q1;exact⟨fun e=>by have:=q1.1;simp[e]at this,q1.2⟩
  have f:∀i,b.dst=some i->i∉a.looks:=by
   intro i hi e;simp[hi,e]at q2
  exact Ahq l f q4 u t
def left(n:Nat)(L:Array Bool):List Nat:=(List.range n).filter fun i=> !L.getD i true
inductive Good (ops:Array Oper):Array Bool->List Nat->Prop where
 |nil {L:Array Bool}:left ops.size L= []->Good ops L []
 |cons {L:Array Bool} {i:Nat} {is:List Nat}:i<ops.size->L.getD i true=false->(∀o,ops[i]? =some o->∀e∈o.after,Region.binds .any e=true->L.getD e.on false=true)->Good ops (L.setIfInBounds i true) is->Good ops L (i::is)
theorem getD_set(L:Array Bool)(i j:Nat)(b:Bool)(hi:L.getD i true=false):(L.setIfInBounds i true).getD j b=if j=i then true else L.getD j b:=by
 have c:i<L.size:=by
  rw[Array.getD_eq_getD_getElem?]at hi;by_cases h:i<L.size
  ·exact h
  ·simp[Array.getElem?_eq_none (Nat.le_of_not_lt h)]at hi
 simp only[Array.getD_eq_getD_getElem?,Array.getElem?_setIfInBounds];by_cases h:j=i
 ·subst h;simp[c]
 ·have d:¬i=j:=fun e=>h e.symm;simp[h,d]
theorem Mp(n:Nat)(L:Array Bool)(i:Nat)(d:i<n)(hi:L.getD i true=false):∃p q,left n L=p++i::q/\left n (L.setIfInBounds i true)=p++q/\∀j∈p,j<i/\L.getD j true=false:=by
 have c:List.range n=List.range i++i::List.range' (i+1) (n-i-1):=by
  rw[List.range_eq_range',List.range_eq_range',show n=i+((n-i-1)+1) by omega,<-List.range'_append_1,List.range'_succ];simp
 refine⟨(List.range i).filter fun j=> !L.getD j true,(List.range' (i+1) (n-i-1)).filter fun j=> !L.getD j true, ?_, ?_, ?_⟩
 ·simp only[left,c,List.filter_append,List.filter_cons,hi,Bool.not_false,if_true]
 ·simp only[left,c,List.filter_append,List.filter_cons,getD_set L i _ _ hi,if_true,Bool.not_true,Ah,if_false]
  congr 1
  ·apply List.filter_congr;intro j b;rw[if_neg (by have:=List.mem_range.1 b;omega)]
  ·apply List.filter_congr;intro j b;rw[if_neg (by have:=(List.mem_range'_1.1 b).1;omega)]
 ·intro j b;rw[List.mem_filter,List.mem_range]at b;exact⟨b.1,by simpa using b.2⟩
section
variable {P:Program} {E:ah} {n:Nat} {ops:Array Oper} {A D:List Nat} {ls:List SL}
theorem VA{i:Nat}{b:SL}(f:ls[i]? =some b)(c:b.op.makes=true->∀j,b.dst=some j->D.contains j=true)(q:List Nat):∀(p:List Nat) {st st':St},(∀k∈p,∀l,ls[k]? =some l->l.op.makes=true->∀j,l.dst=some j->D.contains j=true)->(∀j∈p,∃a,ls[j]? =some a/\Dh A D a b=true)->E7 E A D ls (p++i::q) st=some st'->E7 E A D ls (i::(p++q)) st=some st'
 | [],_,_,_,_,h=>h
 |j::p,st,st',hD,hf,h=>by
  obtain⟨a,g,e⟩:=hf j (by simp);simp only[List.cons_append,E7,g,Ab]at h;obtain⟨B,u,t⟩:=h;have d:=VA f c q p (fun k m=>hD k (by simp[m])) (fun j o=>hf j (by simp[o])) t;simp only[E7,f,Ab]at d;obtain⟨y,d,r⟩:=d;obtain⟨s,x,v⟩:=Mb e (hD j (by simp) a g) c u d;simp only[List.cons_append,E7,f,g,x,v,Option.bind_some,r]
theorem Lk{L:Array Bool}(b:∀i o,L.getD i false=true->ops[i]? =some o->∀e∈o.after,Region.binds .any e=true->L.getD e.on false=true):∀(k i j:Nat),(∀o,ops[j]? =some o->∀e∈o.after,Region.binds .any e=true->L.getD e.on false=true)->FQ ops k i j=true->L.getD i false=true
 |0,_,_,_,h=>by cases h
 |k+1,i,j,hj,h=>by
  simp only[FQ]at h;split at h<;>(try cases h;done);rename_i o f;rw[Array.any_eq_true']at h;obtain⟨e,g,h⟩:=h;simp only[Ag,Ak,beq_iff_eq,decide_eq_true_eq]at h;obtain⟨l,h⟩:=h;have d:=hj o f e g l;rcases h with h|⟨_,h⟩
  ·rw[<-h];exact d
  ·exact Lk b k i e.on (fun o' c=>b e.on o' d c) h
theorem Po(I:ls.length=ops.size)
  (f:∀j<ls.length,∀i<j,FQ ops ls.length i j=true\/∃x y,ls[i]? =some x/\ls[j]? =some y/\Dh A D x y=true) {L:Array Bool} {B:List Nat} (J:Good ops L B):
  (∀i o,L.getD i false=true->ops[i]? =some o->∀e∈o.after,Region.binds .any e=true->L.getD e.on false=true)->L.size=ops.size->(∀k∈left ops.size L,∀l,ls[k]? =some l->l.op.makes=true->∀j,l.dst=some j->D.contains j=true)->∀{st st':St},E7 E A D ls (left ops.size L) st=some st'->E7 E A D ls B st=some st':=by
 induction J with
 |nil h=>
  intro _ _ _ st st' m;rw[h]at m;exact m
 | @cons L i B hi hL he J ih=>
  intro b C v st st' m;obtain⟨p,q,S,K,Q⟩:=Mp ops.size L i hi hL;have u:ls[i]? =some (ls[i]'(by omega)):=Aj _;rw[S]at m v
  have g:=VA u (v i (by simp) _ u) q p (fun k c=>v k (by simp[c])) (fun j M=>by
   obtain⟨G,d⟩:=Q j M;rcases f i (by omega) j G with ha|⟨x,y,hx,hy,hf⟩
   ·have:=Lk b _ j i he ha;have F:j<L.size:=by omega
    simp[Array.getD_eq_getD_getElem?,Array.getElem?_eq_getElem F]at this d;rw[this]at d;cases d
   ·rw[u]at hy;cases hy
    exact⟨x,hx,hf⟩) m
  simp only[E7,u,Ab]at g⊢;obtain⟨s,O,N⟩:=g;refine⟨s,O,ih ?_ (by simp[C]) (by rw[K];intro k c;exact v k (by rcases List.mem_append.1 c with c|c<;>simp[c])) (by rw[K];exact N)⟩;intro k o c H e r t;rw[getD_set L i _ _ hL]at c⊢;split
  ·rfl
  ·split at c
   ·rename_i T;subst T;exact he o H e r t
   ·exact b k o c H e r t
theorem Afj{L:Array Bool}(g:∀i o,ops[i]? =some o->∀e∈o.after,Region.binds .any e=true->e.on<i)(v:L.size=ops.size)(h:left ops.size L≠ []):Region.ready .any ops L≠ []:=by
 cases r:left ops.size L with
 |nil=>exact(h r).elim
 |cons i q=>
  have l:i∈left ops.size L:=by rw[r];simp
  have d:=l;simp only[left,List.mem_filter,List.mem_range]at d;obtain⟨hi,f⟩:=d;have f:L.getD i true=false:=by simpa using f
  obtain⟨p,G,m,_,F⟩:=Mp ops.size L i hi f
  have y:p= []:=by
   cases p with
   |nil=>rfl
   |cons j p=>
    rw[r]at m;simp only[List.cons_append,List.cons.injEq]at m;have:=(F j (by simp)).1;omega
  subst y
  have k:∀j,j<i->L.getD j false=true:=by
   intro j H;have s:j<L.size:=by omega
   cases t:L.getD j false with
   |true=>rfl
   |false=>
    exfalso
    have c:j∈left ops.size L:=by
     simp only[left,List.mem_filter,List.mem_range];refine⟨by omega, ?_⟩;simp[Array.getD_eq_getD_getElem?,Array.getElem?_eq_getElem s]at t⊢;exact t
    rw[m]at c;have b:(left ops.size L).Pairwise (· < ·):=List.Pairwise.filter _ List.pairwise_lt_range;rw[m,List.nil_append,List.pairwise_cons]at b;simp only[List.nil_append,List.mem_cons]at c;rcases c with c|c
    ·omega
    ·have:=b.1 j c;omega
  intro x
  have:i∈Region.ready .any ops L:=by
   simp only[Region.ready,List.mem_filter,List.mem_range];refine⟨hi, ?_⟩;have u:ops[i]? =some (ops[i]'hi):=Array.getElem?_eq_getElem hi;simp only[f,Bool.not_false,u,Option.map_some,Option.getD_some,Bool.true_and,Array.all_eq_true'];intro e B
   cases C:Region.binds .any e with
   |false=>rfl
   |true=>simp[k e.on (g i _ u e B C)]
  rw[x]at this;cases this
theorem lin_good(c:∀i o,ops[i]? =some o->∀e∈o.after,Region.binds .any e=true->e.on<i):∀(b t:Nat) (L:Array Bool),L.size=ops.size->(left ops.size L).length≤b->Good ops L (Region.linearise.go .any ops b t L [])
 |0,t,L,hsz,hf=>by
  have:left ops.size L= []:=List.eq_nil_of_length_eq_zero (by omega);simpa[Region.linearise.go]using Good.nil this
 |b+1,t,L,hsz,hf=>by
  simp only[Region.linearise.go]
  change Good ops L (match (Region.ready .any ops L)[t %(Region.ready .any ops L).length]? with
   |some i=>Region.linearise.go .any ops b (t/(Region.ready .any ops L).length) (L.setIfInBounds i true) [i]
   |none=> [].reverse)
  by_cases h:left ops.size L= []
  ·have d:Region.ready .any ops L= []:=by
    cases d:Region.ready .any ops L with
    |nil=>rfl
    |cons j js=>
     exfalso;have k:j∈Region.ready .any ops L:=by rw[d];simp
     simp only[Region.ready,List.mem_filter,List.mem_range,Ag]at k
     have:j∈left ops.size L:=by
      simp only[left,List.mem_filter,List.mem_range];exact⟨k.1,k.2.1⟩
     rw[h]at this;cases this
   simpa[d]using Good.nil h
  ·have d:=Afj c hsz h;have g:t %(Region.ready .any ops L).length<(Region.ready .any ops L).length:=Nat.mod_lt _ (List.length_pos_iff.2 d);rw[Aj g];generalize hi:(Region.ready .any ops L)[t %(Region.ready .any ops L).length]=i;have f:i∈Region.ready .any ops L:=by rw[<-hi];exact List.getElem_mem _
   simp only[Region.ready,List.mem_filter,List.mem_range,Ag,Bool.not_eq_true']at f;obtain⟨r,m,l⟩:=f;simp only;rw[linearise_go_acc,List.reverse_singleton,List.singleton_append];obtain⟨p,q,y,x,_⟩:=Mp ops.size L i r m;refine .cons r m ?_ (lin_good c b _ _ (by simp[hsz]) ?_)
   ·intro o s e u v;rw[s]at l;simp only[Option.map_some,Option.getD_some,Array.all_eq_true']at l;have:=l e u;simpa[v]using this
   ·rw[y]at hf;rw[x];simp only[List.length_append,List.length_cons]at hf⊢;omega
theorem OU(E:ah)(D:Option (List Nat)):∀(ls:List SL) (pre:List SL) (st:St),Cm E D (pre++ls) (List.range' pre.length ls.length) st=Ce E D ls st
 | [],_,_=>rfl
 |l::ls,pre,st=>by
  have h:=OU E D ls (pre++ [l]);simp only[List.length_append,List.length_cons,List.length_nil,List.append_assoc,List.cons_append,List.nil_append]at h;simp only[List.length_cons,List.range'_succ,Cm,Ce];rw[show(pre++l::ls)[pre.length]? =some l by simp];simp only
  congr 1
  funext s;exact h s
theorem Zj(J:Aq (CS P n ops) ops.toList=some ls)(hd:Df P ops A D ls=true){st st':St}(u:Ce E (some D) ls st=some st')(t:Nat):
  Cm E (some D) ls (Region.schedule (P.follows .mixedOrders) ops t) st=some st':=by
 have f:ls.length=ops.size:=by rw[D3 J];simp
 simp only[Df,Ag]at hd;obtain⟨⟨⟨⟨G,m⟩,c⟩,p⟩,s⟩:=hd;have u:=Qf ls [] (by simp) m u;refine Nl (A:=A) _ ?_;simp only[Region.schedule,G,Bool.true_or,if_true,Region.linearise]
 have b:left ops.size (Array.replicate ops.size false)=List.range ops.size:=by
  simp only[left];rw[List.filter_eq_self];intro i hi;have:=List.mem_range.1 hi;simp[Array.getD_eq_getD_getElem?,this]
 have d:∀i o,ops[i]? =some o->∀e∈o.after,Region.binds .any e=true->e.on<i:=by
  intro i o F e I K;rw[List.all_eq_true]at c
  have q:(o,i)∈ops.toList.zipIdx:=by
   rw[List.mem_zipIdx_iff_getElem?];simpa using F
  have:=c _ q;rw[Array.all_eq_true']at this;have:=this e I;simpa[K]using this
 refine Po f ?_ (lin_good d ops.size t _ (by simp) (by rw[b];simp)) ?_ (by simp) ?_ ?_
 ·intro j r i v;rw[List.all_eq_true]at s;have:=s j (List.mem_range.2 r);rw[List.all_eq_true]at this;have:=this i (List.mem_range.2 v);rw[Ak]at this;rcases this with h|h
  ·rw[F8 ops r]at h;exact .inl (GA ops r h)
  ·refine .inr ?_;split at h
   ·rename_i x y C B;exact⟨x,y,C,B,h⟩
   ·cases h
 ·intro i o hi;exfalso;rw[Array.getD_eq_getD_getElem?,Array.getElem?_replicate]at hi;split at hi<;>cases hi
 ·intro k _ l H g j r;rw[List.all_eq_true]at p;have:=p l (List.mem_of_getElem? H);simpa[g,r]using this
 ·rw[b,List.range_eq_range',<-f];have:=Mx (E:=E) (A:=A) (D:=D) ls [] st;simp only[List.nil_append,List.length_nil]at this;rw[this];exact u
end
def cl(s:SV):Prop:=∀id,s.ref=some id->id<As
def EH(o:Ob):Prop:=∀cs bt,o=.box cs bt->∀s∈cs,cl s
structure Cl (st:St):Prop where
 fr:∀i,cl (st.fr i)
 ob:∀j,j<As->EH (st.ob j)
theorem Ck(c:CV):cl (.c c):=fun _ h=>by cases h
theorem L5:cl .undef:=fun _ h=>by cases h
theorem O9{bt:Option TypeId}(l:List CV):EH (.box (l.map .c) bt):=fun cs _ h s b=>by
 cases h;obtain⟨c,_,rfl⟩:=List.mem_map.1 b;exact Ck c
theorem Tv(s:SV):cl (D5 s):=fun id h=>by
 unfold D5 at h
 cases b:s.ref with
 |none=>rw[b]at h;simp only at h;rw[b]at h;cases h
 |some j=>
  rw[b]at h;simp only at h;split at h
  ·cases h
  ·rw[b]at h;cases h;omega
theorem YF(st:St):Cl (Dr st):=by
 refine⟨fun i=>Tv _,fun j e cs bt c s d=> ?_⟩;have h:(if As≤j then st.ob j else Gy (st.ob j))=.box cs bt:=c;rw[if_neg (by omega)]at h;cases b:st.ob j<;>rw[b]at h<;>cases h;obtain⟨s',_,rfl⟩:=List.mem_map.1 d;exact Tv _
section
variable {P:Program} {w0:WL} {M0:MM} {n:Nat} {st:St} {a:Act} {w:World} {z:Cz}
theorem SR.clean{G:Nat->List CV}(h:SR P G w0 M0 n st a w z):SR P G w0 M0 n (Dr st) a w z:=by
 have b:∀id,(Dr st).ob id≠ .none<->st.ob id≠ .none:=fun id=>by
  show(if As≤id then st.ob id else Gy (st.ob id))≠ .none<->_;split
  ·exact Iff.rfl
  ·cases st.ob id<;>simp[Gy]
 have r:Bg w (Ao M0 z st.ob) w (Ao M0 z (Dr st).ob):=⟨Nat.le_refl _,fun _ _ _=>rfl,fun g _ u=>by
  rcases u with u|⟨id,f,l⟩
  ·exact .inl u
  ·exact .inr ⟨id,(b id).1 f,l⟩,rfl⟩
 have y:∀s:SV,Fp st.ob z (Dr st).ob z s:=fun s=>⟨fun id _ f=>(b id).2 f,fun _ _ _=>rfl,fun _ _ _ _ _ H=>H⟩
 have B:∀{s:SV} {v:Value},Aw w (Ao M0 z st.ob) z st.ob s v->Aw w (Ao M0 z (Dr st).ob) z (Dr st).ob (D5 s) v:=by
  intro s v F
  have:D5 s=s\/D5 s=.undef:=by
   unfold D5;split
   ·split
    ·exact .inr rfl
    ·exact .inl rfl
   ·exact .inl rfl
  rcases this with e|e
  ·rw[e];exact Aw.keep r (y s) F
  ·rw[e];trivial
 have q:∀(cs:List SV) vs,A3 w (Ao M0 z st.ob) z st.ob cs vs->A3 w (Ao M0 z (Dr st).ob) z (Dr st).ob (cs.map D5) vs:=by
  intro cs
  induction cs with
  |nil=>intro vs k;exact k
  |cons c cs ih=>
   intro vs k;obtain⟨v,m,e,f,l⟩:=k;exact⟨v,m,e,B f,ih m l⟩
 refine⟨h.size,h.defers,h.below,h.outer,⟨h.nam.lent,fun N C x=> ?_,h.nam.names,h.nam.low⟩,h.glob,fun i=>B (h.fr i),fun id=> ?_,fun id g f l=>h.lo id g ((b id).1 f) l,fun i j g t f l=>h.apart i j g t ((b i).1 f) ((b j).1 l)⟩
 ·have p:bu (if As≤N then st.ob N else Gy (st.ob N))=true:=x;rw[if_pos C]at p;exact h.nam.told N C p
 ·show AV P w _ 0 z _ id (z.σ id) (if As≤id then st.ob id else Gy (st.ob id));have d:=h.ob id;split
  ·exact AV.keep r (fun _ _=>rfl) (fun cs _ s _=>y s) (fun _ _ k=>k) d
  ·cases o:st.ob id with
   |box cs=>
    rw[o]at d;obtain⟨g,ty,vs,K,J,I⟩:=d;exact⟨g,ty,vs,K,J,q cs vs I⟩
   |_=>
    rw[o]at d;exact AV.keep r (fun _ _=>rfl) (fun cs x=>by cases x) (fun _ _ k=>k) d
end
theorem HZ{x:Option CV}{v:SV}(h:x.map .c=some v):cl v:=by
 obtain⟨c,_,rfl⟩:=Aa.1 h;exact Ck c
theorem Ts{rd:Nat->Ob}(b:∀j,EH (rd j)){sz:Option Nat}{s v:SV}(h:AO rd sz s=some v):cl v:=by
 unfold AO at h
 repeat' split at h
 all_goals first
  |(cases h;done)
  |exact HZ h
  |skip
 ·rename_i cs _ c _;exact b _ cs _ c _ (List.mem_of_getElem? h)
 ·obtain⟨l,_,rfl⟩:=Aa.1 h;exact Ck _
 ·obtain⟨e,_,h⟩:=Ab.1 h;exact HZ h
theorem Tu{rd:Nat->Ob}{ρ:SO->SV}{op:aa}{v:SV}(d:∀x,cl (ρ x))(g:∀j,EH (rd j))(m:∀N,As≤N->rd N=.none)(h:An rd ρ op=some v):cl v:=by
 have k:∀x,cl (deref rd (ρ x)):=fun x=>by
  have:=d x;generalize ρ x=s at this⊢;unfold deref;split
  ·split
   ·rename_i l;rw[m _ l.1];exact L5
   ·exact L5
  ·exact this
 cases op
 case mov x=>cases h;exact d _
 case pick c a b=>
  simp only[An]at h;split at h<;>(try cases h;done);cases h;split<;>exact d _
 case load sz x=>exact Ts g h
 case loadb sz x=>
  simp only[An]at h;split at h<;>(try cases h;done);exact Ts g h
 case nchk x=>
  simp only[An]at h;have:=d x;split at h<;>(try cases h;done)
  ·split at h<;>cases h;exact Ck _
  all_goals
   rename_i f;cases h;rw[f]at this;exact this
 case lsl e size parts=>
  simp only[An]at h;obtain⟨_,_,h⟩:=Ab.1 h;split at h<;>cases h;exact Ck _
 case faddr off x=>
  simp only[An]at h;have:=k x;split at h
  ·split at h<;>cases h;exact Ck _
  ·split at h<;>cases h;exact Ck _
  ·rename_i f;cases h;rw[f]at this;exact fun id ag=>this id ag
  ·rename_i f;cases h;rw[f]at this;exact fun id ag=>this id ag
  ·cases h
 case iaddr size x i=>
  have:=d x;simp only[An,Eg]at h;split at h<;>(try cases h;done)
  ·obtain⟨j,_,h⟩:=Ab.1 h;obtain⟨e,_,h⟩:=Ab.1 h;split at h<;>cases h;exact Ck _
  ·rename_i f _;rw[f]at this;split at h<;>(try cases h;done);split at h<;>(try cases h;done);obtain⟨j,_,rfl⟩:=Aa.1 h;exact fun id ag=>this id ag
 case aaddr len size x i=>
  have:=d x;simp only[An,Ev]at h;split at h<;>(try cases h;done)
  ·split at h<;>(try cases h;done);obtain⟨j,_,rfl⟩:=Aa.1 h;exact Ck _
  ·rename_i f _;rw[f]at this;obtain⟨j,_,rfl⟩:=Aa.1 h;exact fun id ag=>this id ag
 case ext x i=>
  have:=d x;simp only[An]at h;split at h<;>(try cases h;done)
  ·exact HZ h
  ·rename_i f;rw[f]at this
   repeat' split at h
   all_goals first
    |(cases h;done)
    |(cases h;exact Ck _)
    |(cases h;exact fun id ag=>this id ag)
 case build z parts=>
  simp only[An]at h;obtain⟨_,_,h⟩:=Ab.1 h;obtain⟨_,_,rfl⟩:=Aa.1 h;exact Ck _
 case minmax mx xs=>
  simp only[An]at h;obtain⟨_,_,h⟩:=Ab.1 h;split at h
  ·cases h
  ·exact HZ h
 case sidx x i=>
  simp only[An]at h;split at h<;>(try cases h;done);obtain⟨_,_,h⟩:=Ab.1 h;obtain⟨_,_,rfl⟩:=Aa.1 h;exact Ck _
 case aidx len size sz x i=>
  simp only[An]at h;split at h<;>(try cases h;done);obtain⟨_,_,h⟩:=Ab.1 h;exact HZ h
 case sslice x lo hi=>
  simp only[An]at h;split at h<;>(try cases h;done);obtain⟨_,_,h⟩:=Ab.1 h;obtain⟨_,_,h⟩:=Ab.1 h;split at h<;>cases h;exact Ck _
 case slice3 size x lo hi mx=>
  simp only[An]at h;split at h<;>(try cases h;done);obtain⟨_,_,h⟩:=Ab.1 h;obtain⟨_,_,h⟩:=Ab.1 h;obtain⟨_,_,h⟩:=Ab.1 h;split at h<;>cases h;exact Ck _
 case slice size x lo hi=>
  simp only[An]at h;split at h<;>(try cases h;done);obtain⟨_,_,h⟩:=Ab.1 h;obtain⟨_,_,h⟩:=Ab.1 h;split at h<;>cases h;exact Ck _
 all_goals
  simp only[An,reduceCtorEq]at h;try(cases h;done)
  repeat' split at h
  all_goals first
   |(cases h;done)
   |exact HZ h
   |(cases h;exact Ck _)
   |(obtain⟨_,_,rfl⟩:=Aa.1 h;exact Ck _)
theorem YB{ρ:SO->SV}{d:Nat}{op:aa}{v:SV}{o:Ob}(g:∀x,cl (ρ x))(hd:d<As)(h:Bl ρ d op=some (v,o)):cl v/\EH o:=by
 have c:∀s:SV,s.ref=some d->cl s:=fun s f id ag=>by rw[f]at ag;cases ag;exact hd
 cases op<;>simp only[Bl,reduceCtorEq]at h
 case alloc z=>cases h;exact⟨c _ rfl,O9 _⟩
 case allocT T z=>cases h;exact⟨c _ rfl,O9 _⟩
 case nbytes e x=>
  split at h<;>(try cases h;done);simp only[Ae,Ac,Prod.mk.injEq]at h;obtain⟨_,rfl,rfl⟩:=h;exact⟨c _ rfl,fun cs _ b=>by cases b⟩
 case box x=>
  split at h
  ·cases h;exact⟨c _ rfl,O9 _⟩
  ·cases h
  ·cases h;refine⟨c _ rfl,fun cs _ b s f=> ?_⟩;cases b;simp only[List.mem_singleton]at f;subst f;exact g x
 case mksl e size parts=>
  obtain⟨l,_,h⟩:=Ab.1 h;split at h<;>cases h;exact⟨c _ rfl,fun cs _ b=>by cases b⟩
 case mkmap=>cases h;exact⟨c _ rfl,fun cs _ b=>by cases b⟩
 case make=>
  repeat' split at h
  all_goals first
   |(cases h;done)
   |(cases h;exact⟨c _ rfl,fun cs _ b=>by cases b⟩)
 case mrange=>
  repeat' split at h
  all_goals first
   |(cases h;done)
   |(cases h;exact⟨c _ rfl,fun cs _ b=>by cases b⟩)
 case siter=>
  repeat' split at h
  all_goals first
   |(cases h;done)
   |(cases h;exact⟨c _ rfl,fun cs _ b=>by cases b⟩)
section
variable {E:ah}
def cZ(p:SV×Option Ob):Prop:=cl p.1/\∀o,p.2=some o->EH o
theorem Tt{rd:Nat->Ob}{ρ:SO->SV}{d:Option Nat}{f:FuncId}{args:List SO}{c:List CV}{p:SV×Option Ob}(hd:∀j,d=some j->j<As)(h:GR E.named rd ρ d f args c=some p):cZ p:=by
 unfold GR at h;obtain⟨l,_,h⟩:=Ab.1 h;obtain⟨r,m,h⟩:=Ab.1 h;split at h<;>cases h
 cases r with
 |val v=>exact⟨Ck _,fun o q=>by cases q⟩
 |new o=>
  have e:Ey o=true:=by
   have b:(match E.fn f (l++c)with
    |some (.new o)=>if Ey o=true then some (.new o)else none
    |r=>r)=some (.new o):=m
   split at b
   ·split at b<;>(try cases b;done);rename_i e;cases b;exact e
   ·rename_i i;exact absurd b (i o)
  have s:d.getD 0<As:=by
   cases d with
   |none=>decide
   |some j=>exact hd j rfl
  refine⟨fun id ag=> ?_,fun o' g=> ?_⟩
  ·cases o<;>simp[Ey]at e<;>(simp only[Na,SV.ref,Ac]at ag;omega)
  ·cases g;intro cs _ k;subst k;cases e
theorem YD{rd:Nat->Ob}{l:SL}{fr:Nat->SV}{p:SV×Option Ob}(q:∀i,cl (fr i))(f:∀j,EH (rd j))(s:∀N,As≤N->rd N=.none)(hd:∀j,l.dst=some j->j<As)(h:B0 E.named l fr rd=some p):cZ p:=by
 have d:∀x,cl (so E.named.G fr x):=fun x=>by
  cases x with
  |t i=>exact q i
  |k c=>exact Ck c
  |g i=>
   simp only[so]
   cases E.named.G i with
   |nil=>exact L5
   |cons c cs=>exact Ck _
 have m:∀p,A5 E.named rd (so E.named.G fr) l.dst l.op=some p->cZ p:=fun p h=>by
  have r:l.dst.getD 0<As:=by
   cases u:l.dst with
   |none=>decide
   |some j=>exact hd j u
  unfold A5 at h;split at h
  ·obtain⟨v,e,rfl⟩:=Aa.1 h;exact⟨Tu d f s e,fun o b=>by cases b⟩
  ·obtain⟨v,e,rfl⟩:=Aa.1 h;exact⟨Tu d f s e,fun o b=>by cases b⟩
  ·obtain⟨⟨v,o⟩,e,rfl⟩:=Aa.1 h;obtain⟨B,y⟩:=YB d r e;exact⟨B,fun o' b=>by cases b;exact y⟩
  ·cases h
  ·cases h
  ·split at h
   ·exact Tt hd h
   ·split at h<;>(try cases h;done);exact Tt hd h
   ·cases h
 unfold B0 at h;split at h
 ·exact m _ h
 ·split at h
  ·split at h
   ·exact m _ h
   ·cases h;exact⟨Ck _,fun o b=>by cases b⟩
  ·cases h;exact⟨Ck _,fun o b=>by cases b⟩
  ·cases h
theorem YC{st s:St}{d:Option Nat}{p:SV×Option Ob}(b:Cl st)(c:cZ p)(h:put st d p=some s):Cl s:=by
 have g:∀v i,cl v->cl (ac st.fr i v i):=fun v i e=>by rw[AR];exact e
 obtain⟨v,o⟩:=p
 cases o with
 |none=>
  cases h
  cases d with
  |none=>exact b
  |some d=>
   refine⟨fun i=> ?_,b.ob⟩;show cl (ac st.fr d v i);rw[BS];split
   ·exact c.1
   ·exact b.fr i
 |some o=>
  simp only[put,Bz]at h
  cases d with
  |none=>cases h
  |some d=>
   simp only at h;split at h<;>(try cases h;done);cases h;refine⟨fun i=> ?_,fun j f=> ?_⟩
   ·show cl (ac st.fr d v i);rw[BS];split
    ·exact c.1
    ·exact b.fr i
   ·show EH (ac st.ob d o j);rw[BS];split
    ·exact c.2 o rfl
    ·exact b.ob j f
theorem YE{n o:Nat}{ob e:Ob}{v:SV}(f:EH ob)(i:cl v)(h:CZ n o ob v=some e):EH e:=by
 unfold CZ at h;split at h<;>(try cases h;done);rename_i cs bt;split at h
 ·split at h<;>cases h;intro g _ d s b;cases d;unfold FD at b;simp only[List.mem_append]at b;rcases b with(b|b)|b
  ·exact f cs _ rfl s (List.mem_of_mem_take b)
  ·obtain⟨c,_,rfl⟩:=List.mem_map.1 b;exact Ck c
  ·exact f cs _ rfl s (List.mem_of_mem_drop b)
 ·split at h<;>cases h;intro g _ d s b;cases d;rcases List.mem_or_eq_of_mem_set b with b|b
  ·exact f cs _ rfl s b
  ·subst b;exact i
end
def low(st:St):St:={fr:=st.fr,ob:=Ct st.ob}
def ai(s st:St):St:={fr:=s.fr,ob:=fun i=>if As≤i then st.ob i else s.ob i}
def bC(E:ah)(l:SL)(fr:Nat->SV):Option (bF×List SO×List CV):=
 match l.op with
 | .call f args=>match E.ef f with
  |some e=>some (e,args,[])
  |none=>none
 | .callv f args=>match so E.G fr f with
  | .c (.fn f caps)=>match E.ef f with
   |some e=>some (e,args,caps)
   |none=>none
  |_=>none
 |_=>none
def Cj(E:ah)(l:SL)(fr:Nat->SV):Option (bF×List SO×List CV):=if gd l fr=some true then bC E l fr else none
section
variable {E:ah} {A D:List Nat}
theorem OT{rd:Nat->Ob}{l:SL}{st:St}:Bm E rd l st=(gd l st.fr).bind fun t=>if t=true then A9 E rd st l.dst l.op else some (st.set l.dst Bf):=by
 unfold Bm gd
 cases l.guard with
 |none=>rfl
 |some p=>
  obtain⟨g,d⟩:=p;simp only;generalize st.fr g=q
  cases q with
  |c v=>
   cases v with
   |bool b=>by_cases e:b=d<;>simp[e]
   |tup l=>cases l<;>rfl
   |_=>rfl
  |_=>rfl
theorem Zq{l:SL}{fr:Nat->SV}{q:bF×List SO×List CV}(h:bC E l fr=some q):l.op.calls=true:=by
 unfold bC at h;split at h
 ·rename_i b;rw[b];rfl
 ·rename_i b;rw[b];rfl
 ·cases h
theorem NH{l:SL}{fr:Nat->SV}{q:bF×List SO×List CV}(h:Cj E l fr=some q):l.op.calls=true:=by
 unfold Cj at h;split at h
 ·exact Zq h
 ·cases h
theorem NI{l:SL}{fr fr':Nat->SV}(h:∀i∈l.looks,fr i=fr' i):Cj E l fr=Cj E l fr':=by
 unfold Cj;rw[Hv h]
 have:bC E l fr=bC E l fr':=by
  unfold bC;cases b:l.op<;>simp only;rename_i f args;rw[DE (fr':=fr') f fun i hi=>h i (by simp[SL.looks,b,aa.slots,hi])]
 rw[this]
theorem O5{op:aa}(h:op.calls=true):op.hard=false:=by
 cases op<;>first|rfl|cases h
theorem O4{l:SL}(h:l.op.calls=true):l.own A=none:=MO (O5 h)
theorem Qd{l:SL}{rd:Nat->Ob}{st:St}(h:bC E l st.fr=none):A9 E rd st l.dst l.op=A9 E.still rd st l.dst l.op:=by
 unfold bC at h;cases i:l.op<;>rw[i]at h<;>try rfl
 ·rename_i f args;simp only at h
  cases d:E.ef f with
  |some e=>rw[d]at h;cases h
  |none=>
   simp only[A9,aa.cls,d];rfl
 ·rename_i f args;simp only at h
  show(match so E.G st.fr f with
   | .c (.fn f b)=>match E.ef f with
    |some e=>Dt (so E.G st.fr) st l.dst e args b
    |none=>D4 E rd (so E.G st.fr) st l.dst f args b
   |_=>none)=(match so E.G st.fr f with
   | .c (.fn f b)=>D4 E rd (so E.G st.fr) st l.dst f args b
   |_=>none)
  generalize so E.G st.fr f=q at h;cases q<;>try rfl
  rename_i c;cases c<;>try rfl
  rename_i g b;simp only at h⊢
  cases d:E.ef g with
  |some e=>rw[d]at h;cases h
  |none=>rfl
theorem Adv{l:SL}{st:St}(b:Cj E l st.fr=none):Du E D l st=(gd l st.fr).bind fun t=>if t=true then A9 E.still (AA (some (ag l.op D)) (Ct st.ob)) st l.dst l.op else some (st.set l.dst Bf):=by
 unfold Du;rw[OT];unfold Cj at b
 cases c:gd l st.fr with
 |none=>rfl
 |some t=>
  cases t with
  |false=>rfl
  |true=>
   rw[c,if_pos rfl]at b;simp only[Option.bind_some,if_true];exact Qd b
theorem Ag1{l:SL}{rd:Nat->Ob}{st:St}(e:l.op.hard=false):(B0 E l st.fr rd).bind (put st l.dst)=(gd l st.fr).bind fun t=>if t=true then A9 E.still rd st l.dst l.op else some (st.set l.dst Bf):=by
 unfold B0 gd
 cases l.guard with
 |none=>simp only[Option.bind_some,if_true];exact(IS e).symm
 |some p=>
  obtain⟨g,d⟩:=p;simp only;generalize st.fr g=q
  cases q with
  |c v=>
   cases v with
   |bool b=>
    by_cases f:b=d
    ·simp only[f,if_true,Option.bind_some,decide_true];exact(IS e).symm
    ·simp[f,put]
   |tup l=>cases l<;>simp[put]
   |_=>rfl
  |_=>rfl
theorem PI{l:SL}{st:St}(c:l.op.hard=false)(b:Cj E l st.fr=none):Du E D l st=(B0 E l st.fr (AA (some (ag l.op D)) (Ct st.ob))).bind (put st l.dst):=by
 rw[Adv b,Ag1 c]
theorem Afe{st s:St}{d:Option Nat}{p:SV×Option Ob}(hd:∀j,d=some j->j<As)(h:put st d p=some s):put (low st) d p=some (low s)/\∀i,As≤i->s.ob i=st.ob i:=by
 obtain⟨v,o⟩:=p
 cases o with
 |none=>
  cases h;cases d<;>exact⟨rfl,fun _ _=>rfl⟩
 |some o=>
  simp only[put,Bz]at h⊢
  cases d with
  |none=>cases h
  |some d=>
   have f:=hd d rfl;simp only at h⊢;split at h<;>(try cases h;done);rename_i c;cases h;have e:(low st).ob d=.none:=by show(if As≤d then Ob.none else st.ob d)=_;rw[if_neg (by omega),c]
   refine⟨?_,fun i hi=>A8 _ _ (by omega)⟩;rw[e];simp only[low,Ac,St.mk.injEq,true_and];funext i;simp only[BS,Ct];by_cases b:i=d
   ·subst b;rw[if_pos rfl,if_pos rfl,if_neg (by omega)]
   ·rw[if_neg b,if_neg b]
theorem Qm{st t:St}{d:Option Nat}{p:SV×Option Ob}(hd:∀j,d=some j->j<As)(h:put (low st) d p=some t):put st d p=some (ai t st)/\low (ai t st)=t:=by
 obtain⟨v,o⟩:=p
 cases o with
 |none=>
  cases h
  have key:∀st':St,st'.ob=st.ob->ai (low st') st=st'/\low (ai (low st') st)=low st':=fun st' c=>by
   have b:ai (low st') st=st':=by
    cases st' with
    |mk fr ob=>
     cases c;simp only[ai,low,St.mk.injEq,true_and];funext i;simp only[Ct];split<;>rfl
   exact⟨b,by rw[b]⟩
  have e:(low st).set d v=low (st.set d v):=by cases d<;>rfl
  obtain⟨f,k2⟩:=key (st.set d v) (by cases d<;>rfl);rw[e];exact⟨by rw[f];rfl,k2⟩
 |some o=>
  simp only[put,Bz]at h⊢
  cases d with
  |none=>cases h
  |some d=>
   have k:=hd d rfl;have g:(low st).ob d=st.ob d:=by show(if As≤d then Ob.none else st.ob d)=_;rw[if_neg (by omega)]
   simp only[g]at h⊢;split at h<;>(try cases h;done);rename_i l;cases h;constructor
   ·simp only[ai,low,Ac,St.mk.injEq,true_and];funext i;simp only[BS,Ct];by_cases b:i=d
    ·subst b;rw[if_pos rfl,if_neg (by omega),if_pos rfl]
    ·rw[if_neg b,if_neg b];split<;>rfl
   ·simp only[ai,low,St.mk.injEq,true_and];funext i;simp only[BS,Ct];by_cases b:i=d
    ·subst b;rw[if_neg (by omega),if_neg (by omega)]
    ·rw[if_neg b];split<;>rfl
structure Fa (A D:List Nat) (l:SL):Prop where
 hard:l.op.hard=true->∃k,l.own A=some k/\k<As
 dst:∀j,l.dst=some j->j<As
 makes:l.op.makes=true->∀j,l.dst=some j->D.contains j=true
open Classical in
noncomputable def bw(E:ah)(A D:List Nat)(l:SL)(st:St):Option St:=if Cl st/\bc A l st=true then Du E.named D l st else none
theorem J7{l:SL}{st s:St}(h:bw E A D l st=some s):Cl st/\bc A l st=true/\Du E.named D l st=some s:=by
 unfold bw at h;split at h
 ·rename_i b;exact⟨b.1,b.2,h⟩
 ·cases h
theorem LW{l:SL}{st s:St}(d:Cl st)(c:bc A l st=true)(b:Du E.named D l st=some s):bw E A D l st=some s:=by
 unfold bw;rw[if_pos ⟨d,c⟩,b]
theorem MN{l:SL}{k:Nat}(h:l.own A=some k):∃n x,(∀i∈x.slot,i∈l.looks)/\∀(st:St) (o:Nat),st.fr k=.ptr k o->Du E D l st=(CZ n o (st.ob k) (so E.G st.fr x)).map (fun b=>{st with ob:=ac st.ob k b})/\Ar E (some D) l st=(CZ n o (st.ob k) (so E.G st.fr x)).map fun b=>{st with ob:=ac st.ob k b}:=by
 obtain⟨n,x,f,e⟩:=GF h;refine⟨n,x,fun i hi=>by simp[SL.looks,f,aa.slots,hi],fun st o g=> ?_⟩
 have key:∀(d:ah) rd,d.G=E.G->A9 d rd st l.dst l.op=(CZ n o (st.ob k) (so E.G st.fr x)).map fun b=>{st with ob:=ac st.ob k b}:=fun d rd m=>by
  simp only[f,A9,aa.cls,AJ,m];rw[show so E.G st.fr (.t k)=.ptr k o from g];simp only[CZ,deref];cases j:st.ob k<;>simp only[j]<;>try rfl
  generalize so E.G st.fr x=v
  cases v with
  |c cv=>cases cv<;>(simp only;split<;>rfl)
  |_=>simp only;split<;>rfl
 constructor
 ·unfold Du Bm;rw[e];exact key E _ rfl
 ·unfold Ar;rw[e];exact key _ _ Dp
theorem ME{l:SL}{k:Nat}{st:St}(b:l.own A=some k)(h:bc A l st=true):∃o,st.fr k=.ptr k o:=by
 unfold bc at h;rw[b]at h;simp only at h;split at h
 ·rename_i j o c;have:j=k:=by simpa using h
  subst this;exact⟨o,c⟩
 ·cases h
theorem MC{l:SL}(f:Fa A D l){st s:St}(r:Cj E.named l st.fr=none)(h:bw E A D l st=some s):bh E.named A D l (low st)=some (low s)/\∀i,As≤i->s.ob i=st.ob i:=by
 obtain⟨v,e,h⟩:=J7 h;have c:bc A l (low st)=true:=e
 cases g:l.op.hard with
 |false=>
  rw[PI g r,Ab]at h;obtain⟨p,d,C⟩:=h;obtain⟨B,y⟩:=Afe f.dst C;refine⟨F1 c ?_,y⟩;rw[Cw g,Ab];exact⟨p,d,B⟩
 |true=>
  obtain⟨k,m,u⟩:=f.hard g;obtain⟨o,j⟩:=ME m e;obtain⟨n,x,F,q⟩:=MN (E:=E.named) (D:=D) m;rw[(q st o j).1,Aa]at h;obtain⟨b,d,rfl⟩:=h;have t:(low st).ob k=st.ob k:=by show(if As≤k then Ob.none else st.ob k)=_;rw[if_neg (by omega)]
  refine⟨F1 c ?_,fun i hi=>A8 _ _ (by omega)⟩;rw[(q (low st) o j).2,t];show(CZ n o (st.ob k) (so E.named.G st.fr x)).map _=_;rw[d];simp only[low,Option.map_some,Ac,St.mk.injEq,true_and];funext i;simp only[BS,Ct];by_cases d:i=k
  ·subst d;rw[if_pos rfl,if_pos rfl,if_neg (by omega)]
  ·rw[if_neg d,if_neg d]
theorem MD{l:SL}(f:Fa A D l){st t:St}(g:Cl st)(v:Cj E.named l st.fr=none)(h:bh E.named A D l (low st)=some t):bw E A D l st=some (ai t st)/\low (ai t st)=t:=by
 obtain⟨j,h⟩:=G4 h;have d:bc A l st=true:=j
 cases m:l.op.hard with
 |false=>
  rw[Cw m,Ab]at h;obtain⟨p,c,H⟩:=h;obtain⟨F,C⟩:=Qm f.dst H;refine⟨LW g d ?_,C⟩;rw[PI m v,Ab];exact⟨p,c,F⟩
 |true=>
  obtain⟨k,s,B⟩:=f.hard m;obtain⟨o,r⟩:=ME s d;obtain⟨n,x,I,u⟩:=MN (E:=E.named) (D:=D) s;rw[(u (low st) o r).2,Aa]at h;obtain⟨b,c,rfl⟩:=h;have y:(low st).ob k=st.ob k:=by show(if As≤k then Ob.none else st.ob k)=_;rw[if_neg (by omega)]
  rw[y]at c;have q:CZ n o (st.ob k) (so E.named.G st.fr x)=some b:=c
  have e:ai {low st with ob:=ac (low st).ob k b} st={st with ob:=ac st.ob k b}:=by
   simp only[ai,low,St.mk.injEq,true_and];funext i;simp only[BS,Ct];by_cases c:i=k
   ·subst c;rw[if_pos rfl,if_neg (by omega),if_pos rfl]
   ·rw[if_neg c,if_neg c];split<;>rfl
  constructor
  ·refine LW g d ?_;rw[(u st o r).1,q,e];rfl
  ·rw[e];simp only[low,St.mk.injEq,true_and];funext i;simp only[BS,Ct];by_cases c:i=k
   ·subst c;rw[if_pos rfl,if_pos rfl,if_neg (by omega)]
   ·rw[if_neg c,if_neg c]
theorem PY{l:SL}(f:Fa A D l){st s:St}(B:Cj E.named l st.fr=none)(h:bw E A D l st=some s):Cl s:=by
 obtain⟨d,m,h⟩:=J7 h
 cases v:l.op.hard with
 |false=>
  rw[PI v B,Ab]at h;obtain⟨p,r,J⟩:=h;refine YC d (YD d.fr (fun j=> ?_) (fun N I=> ?_) f.dst r) J
  ·intro cs _ e;simp only[AA,Ct]at e;split at e
   ·cases e
   ·split at e
    ·cases e
    ·exact d.ob j (by omega) cs _ e
  ·simp only[AA,Ct];rw[if_pos I];split<;>rfl
 |true=>
  obtain⟨k,u,q⟩:=f.hard v;obtain⟨o,C⟩:=ME u m;obtain⟨n,x,K,H⟩:=MN (E:=E.named) (D:=D) u;rw[(H st o C).1,Aa]at h;obtain⟨b,r,rfl⟩:=h
  have y:cl (so E.named.G st.fr x):=by
   cases x with
   |t i=>exact d.fr i
   |k c=>exact Ck c
   |g i=>
    simp only[so]
    cases E.named.G i with
    |nil=>exact L5
    |cons c cs=>exact Ck _
  refine⟨d.fr,fun j F=> ?_⟩;show EH (ac st.ob k b j);rw[BS];split
  ·exact YE (d.ob k q) y r
  ·exact d.ob j F
theorem MB{l:SL}(d:Fa A D l){L t:St}(h:bh E.named A D l L=some t){i:Nat}(hi:l.dst≠some i):t.fr i=L.fr i:=by
 obtain⟨c,h⟩:=G4 h
 cases f:l.op.hard with
 |false=>exact QF f h hi
 |true=>
  obtain⟨k,e,j⟩:=d.hard f;obtain⟨o,g⟩:=ME e c;obtain⟨n,x,p,m⟩:=MN (E:=E.named) (D:=D) e;rw[(m L o g).2,Aa]at h;obtain⟨b,q,rfl⟩:=h;rfl
theorem VF{f:FuncId}{e:bF}(h:E.named.ef f=some e):∀N,e.T.contains N=true->As≤N:=by
 have b:(match E.ef f with
  |some e=>if(e.T.all fun N=>Nat.ble As N)=true then some e else none
  |none=>none)=some e:=h
 split at b<;>(try cases b;done);split at b<;>(try cases b;done);rename_i c;cases b;intro N d;rw[List.all_eq_true]at c;exact Ai (c N (by simpa using d))
theorem Ah7{l:SL}{fr:Nat->SV}{q:bF×List SO×List CV}(h:Cj E.named l fr=some q):∀N,q.1.T.contains N=true->As≤N:=by
 unfold Cj bC at h;split at h<;>(try cases h;done);split at h<;>(try cases h;done)
 ·split at h<;>(try cases h;done);rename_i e b;cases h;exact VF b
 ·split at h<;>(try cases h;done);split at h<;>(try cases h;done);rename_i e b;cases h;exact VF b
theorem Vd{T:List Nat}(hT:∀N,T.contains N=true->As≤N){s:SV}(h:cl s):Ay T s=s:=by
 have key:∀id,s.ref=some id->¬T.contains id=true:=fun id b c=>by
  have:=h id b;have:=hT id c;omega
 cases s<;>simp only[Ay]<;>first
  |rfl
  |(rw[if_neg (key _ rfl)])
def cY(T:List Nat)(H:Nat->Ob)(ob:Nat->Ob):Nat->Ob:=fun i=>if T.contains i=true then H i else Ch T (ob i)
theorem Ah6{T:List Nat}(hT:∀N,T.contains N=true->As≤N){H:Nat->Ob}{st:St}(h:Cl st):C9 T H st={fr:=st.fr,ob:=fun i=>if As≤i then cY T H st.ob i else st.ob i}:=by
 unfold C9;simp only[St.mk.injEq];refine⟨funext fun i=>Vd hT (h.fr i),funext fun i=> ?_⟩;split
 ·rename_i b;rw[if_pos (hT i b)];show H i=(if _ then _ else _);rw[if_pos b]
 ·rename_i b;split
  ·show _=(if _ then _ else _);rw[if_neg b]
  ·rename_i hi
   cases c:st.ob i with
   |box cs=>
    simp only[Ch,Ob.box.injEq,and_true];have f:=h.ob i (by omega) cs _ c;have e:∀s∈cs,Ay T s=s:=fun s d=>Vd hT (f s d);exact(List.map_congr_left e).trans (List.map_id _)
   |_=>rfl
theorem Aet{T:List Nat}(hT:∀N,T.contains N=true->As≤N){ob b:Nat->Ob}(h:∀i,As≤i->b i=ob i):CH T b=CH T ob:=by
 funext i;unfold CH;split
 ·rename_i c;rw[h i (hT i c)]
 ·rfl
theorem Adt{l:SL}{fr:Nat->SV}{q:bF×List SO×List CV}(h:Cj E l fr=some q):∀x∈q.2.1,∀i∈x.slot,i∈l.looks:=by
 unfold Cj bC at h;split at h<;>(try cases h;done);split at h<;>(try cases h;done)
 ·rename_i c;split at h<;>(try cases h;done);cases h;intro x b i hi;simp only[SL.looks,c,aa.slots,List.mem_append,List.mem_flatMap];exact .inl ⟨x,b,hi⟩
 ·rename_i c;split at h<;>(try cases h;done);split at h<;>(try cases h;done);cases h;intro x b i hi;simp only[SL.looks,c,aa.slots,List.mem_append,List.mem_flatMap];exact .inl (.inr ⟨x,b,hi⟩)
theorem Vs{l:SL}{st:St}{q:bF×List SO×List CV}(h:Cj E l st.fr=some q):Du E D l st=Dt (so E.G st.fr) st l.dst q.1 q.2.1 q.2.2:=by
 unfold Du;rw[OT];unfold Cj at h;split at h<;>(try cases h;done);rename_i d;rw[d];simp only[Option.bind_some,if_true];unfold bC at h;split at h<;>(try cases h;done)
 ·rename_i b;split at h<;>(try cases h;done);rename_i e c;cases h;simp only[b,A9,aa.cls,c]
 ·rename_i b;split at h<;>(try cases h;done);rename_i f;split at h<;>(try cases h;done);rename_i e c;cases h;simp only[b,A9,aa.cls,f,c]
theorem SU{b β:Type}{f g:b->Option β}:∀{l:List b},(∀x∈l,f x=g x)->Aq f l=Aq g l
 | [],_=>rfl
 |x::l,h=>by
  simp only[Aq];rw[h x (by simp),SU (l:=l) fun y c=>h y (by simp[c])]
theorem OM{l:SL}{st s:St}{q:bF×List SO×List CV}(e:Cj E.named l st.fr=some q)(h:bw E A D l st=some s):
  ∃(c:CV) (hi:Nat->Ob),s={fr:=(st.set l.dst (.c c)).fr,ob:=fun i=>if As≤i then hi i else st.ob i}/\∀st',(∀i∈l.looks,st'.fr i=st.fr i)->(∀i,As≤i->st'.ob i=st.ob i)->Cl st'->
   bw E A D l st'=some {fr:=(st'.set l.dst (.c c)).fr,ob:=fun i=>if As≤i then hi i else st'.ob i}:=by
 obtain⟨g,o,h⟩:=J7 h;have hT:=Ah7 e;rw[Vs e]at h;unfold Dt at h;obtain⟨ls,t,h⟩:=Ab.1 h;obtain⟨⟨c,H⟩,r,p⟩:=Ab.1 h
 have form:∀b:St,Cl b->(C9 q.1.T H b).set l.dst (.c c)={fr:=(b.set l.dst (.c c)).fr,ob:=fun i=>if As≤i then cY q.1.T H b.ob i else b.ob i}:=fun b u=>by
  rw[Ah6 hT u];cases l.dst<;>rfl
 refine⟨c,cY q.1.T H st.ob, ?_,fun st' k j d=> ?_⟩
 ·cases p;exact form st g
 ·have f:Cj E.named l st'.fr=some q:=by rw[NI k];exact e
  refine LW d (by unfold bc;rw[O4 (NH e)]) ?_;rw[Vs f];unfold Dt
  have v:Aq (fun x=>closed (so E.named.G st'.fr x)) q.2.1=Aq (fun x=>closed (so E.named.G st.fr x)) q.2.1:=SU fun x m=>by
   rw[DE (fr':=st.fr) x fun i hi=>k i (Adt e x m i hi)]
  rw[v,t,Option.bind_some,Aet hT j,r,Option.bind_some,form st' d];simp only[Ac,St.mk.injEq,true_and];funext i;split
  ·rename_i hi;simp only[cY,j i hi]
  ·rfl
theorem TQ{st:St}(h:Cl st)(d:Option Nat)(c:CV)(hi:Nat->Ob):Cl {fr:=(st.set d (.c c)).fr,ob:=fun i=>if As≤i then hi i else st.ob i}:=by
 refine⟨fun i=> ?_,fun j b=> ?_⟩
 ·cases d with
  |none=>exact h.fr i
  |some d=>
   show cl (ac st.fr d (.c c) i);rw[BS];split
   ·exact Ck c
   ·exact h.fr i
 ·show EH (if As≤j then hi j else st.ob j);rw[if_neg (by omega)];exact h.ob j b
def Kz(d:Option Nat)(c:CV):SL:=⟨d,.mov (.k c),none⟩
theorem Nm{L:St}{d:Option Nat}{c:CV}:bh E A D (Kz d c) L=some (L.set d (.c c)):=F1 rfl rfl
theorem Mw{st:St}(d:Option Nat)(c:CV)(hi:Nat->Ob):low {fr:=(st.set d (.c c)).fr,ob:=fun i=>if As≤i then hi i else st.ob i}=(low st).set d (.c c):=by
 have e:(low st).set d (.c c)=low (st.set d (.c c)):=by cases d<;>rfl
 rw[e];simp only[low,St.mk.injEq,true_and];funext i;simp only[Ct];split
 ·rfl
 ·cases d<;>rfl
theorem Pq{op:aa}{D:List Nat}{i:Nat}(h:(ag op D).contains i=true):D.contains i=true:=by
 unfold ag at h;split at h
 ·simp only[List.contains_eq_mem,List.mem_filter,decide_eq_true_eq]at h⊢;exact h.1
 ·exact h
theorem U7{a b:SL}(q1:(a.dst.all fun d=> !b.looks.contains d&&b.dst !=some d)=true)(q2:(b.dst.all fun d=> !a.looks.contains d)=true)
  (q3:(a.op.hard=false/\b.op.hard=false/\(a.op.makes=true->(a.dst.all fun d=>(ag b.op D).contains d)=true)/\(b.op.makes=true->(b.dst.all fun d=>(ag a.op D).contains d)=true))\/(∃k,a.own A=none/\b.own A=some k/\a.op.hard=false/\(ag a.op D).contains k=true)\/(∃k,a.own A=some k/\b.own A=none/\b.op.hard=false/\(ag b.op D).contains k=true)):Dh A D a b=true:=by
 unfold Dh G5;rw[q1,q2];rcases q3 with⟨g,f,e,c⟩|⟨k,g,f,e,c⟩|⟨k,g,f,e,c⟩
 ·rw[g,f]
  have j:(!a.op.makes||(a.dst.all fun d=>(ag b.op D).contains d))=true:=by
   cases h:a.op.makes with
   |false=>rfl
   |true=>rw[e h];rfl
  have i:(!b.op.makes||(b.dst.all fun d=>(ag a.op D).contains d))=true:=by
   cases h:b.op.makes with
   |false=>rfl
   |true=>rw[c h];rfl
  rw[j,i];rfl
 ·rw[g,f,e];simp only[c];simp
 ·rw[g,f,e];simp only[c];simp
theorem ZS{a b:SL}(c:a.op.calls=true)(h:Dh A D a b=true):(a.dst.all fun d=> !b.looks.contains d&&b.dst !=some d)=true/\(b.dst.all fun d=> !a.looks.contains d)=true/\
  ((b.op.hard=false/\(b.op.makes=true->(b.dst.all fun d=>(ag a.op D).contains d)=true))\/∃k,b.own A=some k/\(ag a.op D).contains k=true):=by
 have r:a.op.grows=false:=by revert c;cases a.op<;>simp[aa.calls,aa.grows]
 have q:a.op.calm=false:=by revert c;cases a.op<;>simp[aa.calls,aa.calm]
 have p:a.op.still=false:=by revert c;cases a.op<;>simp[aa.calls,aa.still]
 have o:a.op.moves=false:=by revert c;cases a.op<;>simp[aa.calls,aa.moves]
 have m:a.op.loads=false:=by revert c;cases a.op<;>simp[aa.calls,aa.loads]
 have l:a.op.copies=false:=by revert c;cases a.op<;>simp[aa.calls,aa.copies]
 have j:a.op.flat=false:=by revert c;cases a.op<;>simp[aa.calls,aa.flat]
 unfold Dh G5 at h;rw[O4 c,O5 c,r,q,p,o,m,l,j]at h;simp only[Bool.not_false,Bool.true_and,Bool.false_and,Bool.and_false,Bool.or_false]at h;rw[Ak]at h;rcases h with h|h
 ·simp only[Ag,Ak,Bool.not_eq_true']at h;refine⟨?_, ?_,.inl ⟨h.2.1.1,fun g=> ?_⟩⟩
  ·simpa only[Ag,Bool.not_eq_true']using h.1.1
  ·simpa only[Bool.not_eq_true']using h.1.2
  ·rcases h.2.2 with e|e
   ·rw[g]at e;cases e
   ·exact e
 ·rw[Ag,Ag]at h;refine⟨h.1.1,h.1.2,.inr ?_⟩;have e:=h.2;split at e
  ·rename_i f _;cases f
  ·rename_i f _;cases f
  ·rename_i k _ i;exact⟨k,i,e⟩
  ·cases e
theorem ZT{a b:SL}(c:b.op.calls=true)(h:Dh A D a b=true):(a.dst.all fun d=> !b.looks.contains d&&b.dst !=some d)=true/\(b.dst.all fun d=> !a.looks.contains d)=true/\
  ((a.op.hard=false/\(a.op.makes=true->(a.dst.all fun d=>(ag b.op D).contains d)=true))\/∃k,a.own A=some k/\(ag b.op D).contains k=true):=by
 have s:b.op.entry=false:=by revert c;cases b.op<;>simp[aa.calls,aa.entry]
 have r:b.op.stores=false:=by revert c;cases b.op<;>simp[aa.calls,aa.stores]
 have q:b.op.tame=false:=by revert c;cases b.op<;>simp[aa.calls,aa.tame]
 have p:b.op.grows=false:=by revert c;cases b.op<;>simp[aa.calls,aa.grows]
 have o:b.op.puts=false:=by revert c;cases b.op<;>simp[aa.calls,aa.puts]
 have j:b.op.moves=false:=by revert c;cases b.op<;>simp[aa.calls,aa.moves]
 have m:b.op.copies=false:=by revert c;cases b.op<;>simp[aa.calls,aa.copies]
 have l:b.op.flat=false:=by revert c;cases b.op<;>simp[aa.calls,aa.flat]
 unfold Dh G5 at h;rw[O4 c,O5 c,s,r,q,p,o,m,l,j]at h;simp only[Bool.not_false,Bool.true_and,Bool.false_and,Bool.and_false,Bool.or_false]at h;rw[Ak]at h;rcases h with h|h
 ·simp only[Ag,Ak,Bool.not_eq_true']at h;refine⟨?_, ?_,.inl ⟨h.2.1,fun g=> ?_⟩⟩
  ·simpa only[Ag,Bool.not_eq_true']using h.1.1
  ·simpa only[Bool.not_eq_true']using h.1.2
  ·rcases h.2.2.1 with e|e
   ·rw[g]at e;cases e
   ·exact e
 ·rw[Ag,Ag]at h;refine⟨h.1.1,h.1.2,.inr ?_⟩;have e:=h.2;split at e
  ·rename_i f;cases f
  ·rename_i k i _;exact⟨k,i,e⟩
  ·rename_i f;cases f
  ·cases e
theorem SZ{d:Option Nat}{op:aa}(h:(d.all fun d=>(ag op D).contains d)=true):(d.all fun d=>D.contains d)=true:=by
 cases d with
 |none=>rfl
 |some d=>exact Pq h
theorem ZU{a b:SL}(e:a.op.calls=true)(c:CV)(h:Dh A D a b=true):Dh A D (Kz a.dst c) b=true:=by
 obtain⟨q1,q2,q3⟩:=ZS e h;refine U7 q1 (by cases b.dst<;>rfl) ?_;rcases q3 with⟨q3,q4⟩|⟨k,q3,q4⟩
 ·exact .inl ⟨rfl,q3,fun d=>(by cases d),fun d=>SZ (q4 d)⟩
 ·exact .inr (.inl ⟨k,rfl,q3,rfl,Pq q4⟩)
theorem ZV{a b:SL}(f:b.op.calls=true)(c:CV)(h:Dh A D a b=true):Dh A D a (Kz b.dst c)=true:=by
 obtain⟨q1,q2,q3⟩:=ZT f h;refine U7 ?_ q2 ?_
 ·cases g:a.dst with
  |none=>rfl
  |some d=>
   rw[g]at q1;simp only[Option.all_some,Ag]at q1⊢;exact⟨rfl,q1.2⟩
 ·rcases q3 with⟨q3,q4⟩|⟨k,q3,q4⟩
  ·exact .inl ⟨q3,rfl,fun e=>SZ (q4 e),fun e=>(by cases e)⟩
  ·exact .inr (.inr ⟨k,q3,rfl,rfl,Pq q4⟩)
theorem Xj{st:St}{d:Option Nat}{v:SV}{i:Nat}(h:d≠some i):(st.set d v).fr i=st.fr i:=by
 cases d with
 |none=>rfl
 |some d=>exact A8 _ _ (fun e=>h (by rw[e]))
theorem PH{s t:St}(b:low s=low t)(c:∀i,As≤i->s.ob i=t.ob i):s=t:=by
 obtain⟨g,e⟩:=s;obtain⟨f,d⟩:=t;simp only[low,St.mk.injEq]at b;simp only[St.mk.injEq];refine⟨b.1,funext fun i=> ?_⟩;by_cases hi:As≤i
 ·exact c i hi
 ·have:=congrFun b.2 i;simp only[Ct,if_neg hi]at this;exact this
theorem Ahi{a b:SL}(h:Dh A D a b=true)(F:(a.op.calls&&b.op.calls)=false)(B:Fa A D a)(lb:Fa A D b){st p T:St}(S:bw E A D a st=some p)(Q:bw E A D b p=some T):∃s,bw E A D b st=some s/\bw E A D a s=some T:=by
 have l:Cl st:=(J7 S).1
 have V:(a.dst.all fun d=> !b.looks.contains d&&b.dst !=some d)=true/\(b.dst.all fun d=> !a.looks.contains d)=true:=by
  unfold Dh G5 at h;rw[Ak]at h;rcases h with h|h
  ·rw[Ag,Ag]at h;exact h.1
  ·rw[Ag,Ag]at h;exact h.1
 have O:∀i∈b.looks,a.dst≠some i:=fun i hi e=>by
  have:=V.1;rw[e]at this;simp[hi]at this
 have x:∀i∈a.looks,b.dst≠some i:=fun i hi e=>by
  have:=V.2;rw[e]at this;simp[hi]at this
 cases I:Cj E.named a st.fr with
 |some q=>
  have H:=NH I;have v:b.op.calls=false:=by rw[H]at F;simpa using F
  have u:∀fr,Cj E.named b fr=none:=fun fr=>by
   cases W:Cj E.named b fr with
   |none=>rfl
   |some q'=>have:=NH W;rw[v]at this;cases this
  obtain⟨c,hi,rfl,g⟩:=OM I S;obtain⟨J,k2⟩:=MC lb (u _) Q;rw[Mw]at J;have j:bh E.named A D (Kz a.dst c) (low st)=some ((low st).set a.dst (.c c)):=Nm;obtain⟨t,o,m⟩:=Mb (ZU H c h) (fun N=>by cases N) lb.makes j J;rw[Nm,Ac]at m;obtain⟨r,L⟩:=MD lb l (u _) o;have k:Cl (ai t st):=PY lb (u _) r;refine⟨ai t st,r, ?_⟩;rw[g (ai t st) (fun i f=>MB lb o (x i f)) (fun i f=>by show(if As≤i then st.ob i else t.ob i)=_;rw[if_pos f]) k,Ac];refine PH ?_ fun i f=> ?_
  ·rw[Mw,L,m]
  ·rw[k2 i f];show(if As≤i then hi i else(ai t st).ob i)=if As≤i then hi i else st.ob i;rw[if_pos f,if_pos f]
 |none=>
  obtain⟨M,U⟩:=MC B I S;have C:∀i∈b.looks,p.fr i=st.fr i:=fun i hi=>MB B M (O i hi)
  cases K:Cj E.named b p.fr with
  |none=>
   obtain⟨J,k2⟩:=MC lb K Q;obtain⟨t,o,m⟩:=Mb h B.makes lb.makes M J;have G:Cj E.named b st.fr=none:=by rw[<-NI C];exact K
   obtain⟨r,L⟩:=MD lb l G o;have k:Cl (ai t st):=PY lb G r
   have y:Cj E.named a (ai t st).fr=none:=by
    rw[NI (fr':=st.fr) (show ∀i∈a.looks,(ai t st).fr i=st.fr i from fun i hi=>MB lb o (x i hi))];exact I
   rw[<-L]at m;obtain⟨n1,n2⟩:=MD B k y m;refine⟨ai t st,r, ?_⟩;rw[n1,Ac];refine PH n2 fun i hi=> ?_;rw[k2 i hi,U i hi];show(if As≤i then(if As≤i then st.ob i else t.ob i)else _)=_;rw[if_pos hi,if_pos hi]
  |some q=>
   have v:=NH K;obtain⟨c,hi,rfl,g⟩:=OM K Q;have j:bh E.named A D (Kz b.dst c) (low p)=some ((low p).set b.dst (.c c)):=Nm;obtain⟨t,o,m⟩:=Mb (ZV v c h) B.makes (fun N=>by cases N) M j;rw[Nm,Ac]at o;subst o;have r:=g st (fun i hi=>(C i hi).symm) (fun i hi=>(U i hi).symm) l;refine⟨_,r, ?_⟩;have k:=TQ l b.dst c hi
   have y:Cj E.named a (st.set b.dst (.c c)).fr=none:=by
    rw[NI (fr':=st.fr) fun i hi=>Xj (x i hi)];exact I
   rw[<-Mw b.dst c hi]at m;obtain⟨n1,n2⟩:=MD B k y m;rw[n1,Ac];refine PH ?_ fun i f=> ?_
   ·rw[n2,Mw]
   ·show(if As≤i then(if As≤i then hi i else st.ob i)else _)=if As≤i then hi i else p.ob i;rw[if_pos f,if_pos f,if_pos f]
end
def CY(step:SL->St->Option St)(ls:List SL):List Nat->St->Option St
 | [],st=>some st
 |i::is,st=>match ls[i]? with
  |some l=>(step l st).bind (CY step ls is)
  |none=>none
section
variable {step:SL->St->Option St} {R:SL->SL->Prop} {ops:Array Oper} {ls:List SL}
theorem VB(c:∀a b st e d,R a b->step a st=some e->step b e=some d->∃s,step b st=some s/\step a s=some d){i:Nat}{b:SL}(k:ls[i]? =some b)(q:List Nat):∀(p:List Nat) {st st':St},(∀j∈p,∃a,ls[j]? =some a/\R a b)->CY step ls (p++i::q) st=some st'->CY step ls (i::(p++q)) st=some st'
 | [],_,_,_,h=>h
 |j::p,st,st',hf,h=>by
  obtain⟨a,l,g⟩:=hf j (by simp);simp only[List.cons_append,CY,l,Ab]at h;obtain⟨e,t,r⟩:=h;have f:=VB c k q p (fun j m=>hf j (by simp[m])) r;simp only[CY,k,Ab]at f;obtain⟨d,f,o⟩:=f;obtain⟨s,v,u⟩:=c a b st e d g t f;simp only[List.cons_append,CY,k,l,v,u,Option.bind_some,o]
theorem UK(v:∀a b st I H,R a b->step a st=some I->step b I=some H->∃s,step b st=some s/\step a s=some H)(K:ls.length=ops.size)
  (f:∀j<ls.length,∀i<j,FQ ops ls.length i j=true\/∃x y,ls[i]? =some x/\ls[j]? =some y/\R x y) {L:Array Bool} {t:List Nat} (M:Good ops L t):
  (∀i o,L.getD i false=true->ops[i]? =some o->∀e∈o.after,Region.binds .any e=true->L.getD e.on false=true)->L.size=ops.size->∀{st st':St},CY step ls (left ops.size L) st=some st'->CY step ls t st=some st':=by
 induction M with
 |nil h=>
  intro _ _ st st' l;rw[h]at l;exact l
 | @cons L i t hi hL he M ih=>
  intro c u st st' l;obtain⟨p,q,U,T,S⟩:=Mp ops.size L i hi hL;have G:ls[i]? =some (ls[i]'(by omega)):=Aj _;rw[U]at l
  have g:=VB v G q p (fun j N=>by
   obtain⟨F,d⟩:=S j N;rcases f i (by omega) j F with ha|⟨x,y,hx,hy,hf⟩
   ·have:=Lk c _ j i he ha;have C:j<L.size:=by omega
    simp[Array.getD_eq_getD_getElem?,Array.getElem?_eq_getElem C]at this d;rw[this]at d;cases d
   ·rw[G]at hy;cases hy
    exact⟨x,hx,hf⟩) l
  simp only[CY,G,Ab]at g⊢;obtain⟨s,Q,O⟩:=g;refine⟨s,Q,ih ?_ (by simp[u]) (by rw[T];exact O)⟩;intro k o B J e m r;rw[getD_set L i _ _ hL]at B⊢;split
  ·rfl
  ·split at B
   ·rename_i V;subst V;exact he o J e m r
   ·exact c k o B J e m r
end
def P5(A:List Nat)(l:SL):Bool:=(!l.op.hard||(match l.own A with
 |some k=>Nat.blt k As
 |none=>false))&&l.dst.all fun j=>Nat.blt j As
def LP(P:Program)(ops:Array Oper)(A D:List Nat)(ls:List SL):Bool:=
 (ls.any fun l=>l.op.calls)&&(ls.all (P5 A))&&Df P ops A D ls&&
 ((List.range ls.length).all fun j=>match ls[j]? with
   |some y=> !y.op.calls||(List.range j).all fun i=>((DA ops ls.length).getD j 0).testBit i||match ls[i]? with
    |some x=> !x.op.calls
    |none=>false
   |none=>false)
section
variable {P:Program} {E:ah} {n:Nat} {ops:Array Oper} {A D:List Nat} {ls:List SL}
theorem Ade{l:SL}(h:P5 A l=true)(b:l.op.makes=true->∀j,l.dst=some j->D.contains j=true):Fa A D l:=by
 simp only[P5,Ag,Ak,Bool.not_eq_true']at h;refine⟨fun e=> ?_,fun j d=> ?_,b⟩
 ·rcases h.1 with h1|h1
  ·rw[e]at h1;cases h1
  ·split at h1
   ·rename_i k c;exact⟨k,c,Nat.lt_of_succ_le (Ai h1)⟩
   ·cases h1
 ·have:=h.2;rw[d]at this;exact Nat.lt_of_succ_le (Ai this)
noncomputable def cP(E:ah)(A D:List Nat):List SL->St->Option St
 | [],st=>some st
 |l::ls,st=>(bw E A D l st).bind (cP E A D ls)
theorem Ah9{l:SL}{st s:St}{a:Nat}(b:l.own A=some a)(h:Du E D l st=some s)(c:st.fr a=.undef):False:=by
 obtain⟨n,x,e,d⟩:=GF b;unfold Du Bm at h;rw[d]at h;simp only[e,A9,aa.cls,AJ]at h;rw[show so E.G st.fr (.t a)=.undef from c]at h;cases h
theorem VY:∀(ls:List SL) (m:List Nat) {st s:St},(∀l∈ls,Fa A D l)->(∀a∈m,st.fr a=.ptr a 0\/st.fr a=.undef)->Cl st->I8 A m ls=true->F2 E.named D ls st=some s->cP E A D ls st=some s
 | [],_,_,_,_,_,_,_,h=>h
 |l::ls,m,st,s,hok,hm,hcl,hk,h=>by
  simp only[F2,Ab]at h;obtain⟨t,r,F⟩:=h;simp only[I8,Ag]at hk;obtain⟨x,k2⟩:=hk;have o:=hok l (by simp)
  have B:bc A l st=true:=by
   unfold bc
   cases u:l.own A with
   |none=>rfl
   |some a=>
    rw[u]at x;simp only[List.contains_iff_mem]at x;rcases hm a x with e|e
    ·simp[e]
    ·exact(Ah9 u r e).elim
  have g:=LW hcl B r;simp only[cP,g,Option.bind_some]
  have f:Cl t/\(∀i,l.dst≠some i->t.fr i=st.fr i):=by
   cases y:Cj E.named l st.fr with
   |none=>
    refine⟨PY o y g,fun i hi=> ?_⟩;exact MB o (MC o y g).1 hi
   |some q=>
    obtain⟨c,hi,rfl,_⟩:=OM y g;exact⟨TQ hcl _ _ _,fun i hd=>Xj hd⟩
  refine VY ls _ (fun l u=>hok l (by simp[u])) ?_ f.1 k2 F
  have b:∀a∈m,l.dst≠some a->t.fr a=.ptr a 0\/t.fr a=.undef:=by
   intro a j hd;rw[f.2 a hd];exact hm a j
  intro a j;unfold PU at j;split at j
  ·rename_i z d v C g3;by_cases p:a=d
   ·subst p;unfold Du Bm at r;simp only[C,v,A9,aa.cls,Bl,Option.bind_some,g3,Option.getD_some,Bz]at r;split at r
    ·cases r;exact .inl (AR _ _ _)
    ·cases r
   ·rcases List.mem_cons.1 j with e|e
    ·exact(p e).elim
    ·exact b a e (fun k=>p (by rw[g3]at k;cases k;rfl))
  ·rename_i d C v;rw[List.mem_filter]at j;exact b a j.1 (fun k=>by rw[C]at k;cases k;simp at j)
  ·rename_i v;exact b a j (fun k=>by rw[v]at k;cases k)
theorem Vt:∀(ls:List SL) (pre:List SL) (st:St),CY (bw E A D) (pre++ls) (List.range' pre.length ls.length) st=cP E A D ls st
 | [],_,_=>rfl
 |l::ls,pre,st=>by
  have h:=Vt ls (pre++ [l]);simp only[List.length_append,List.length_cons,List.length_nil,List.append_assoc,List.cons_append,List.nil_append]at h;simp only[List.length_cons,List.range'_succ,CY,cP];rw[show(pre++l::ls)[pre.length]? =some l by simp];simp only
  congr 1
  funext s;exact h s
theorem Zk(X:Aq (CS P n ops) ops.toList=some ls)(hd:LP P ops A D ls=true){st st':St}(T:Cl st)(S:F2 E.named D ls st=some st')(t:Nat):
  CY (bw E A D) ls (Region.schedule (P.follows .mixedOrders) ops t) st=some st':=by
 have m:ls.length=ops.size:=by rw[D3 X];simp
 simp only[LP,Ag]at hd;obtain⟨⟨⟨_,H⟩,K⟩,L⟩:=hd;simp only[Df,Ag]at K;obtain⟨⟨⟨⟨V,B⟩,g⟩,F⟩,J⟩:=K
 have C:∀l∈ls,l.op.makes=true->∀j,l.dst=some j->D.contains j=true:=by
  intro l O r j p;rw[List.all_eq_true]at F;have:=F l O;simpa[r,p]using this
 have d:∀l∈ls,Fa A D l:=fun l O=>by
  rw[List.all_eq_true]at H;exact Ade (H l O) (C l O)
 have S:=VY ls [] d (by simp) T B S;simp only[Region.schedule,V,Bool.true_or,if_true,Region.linearise]
 have f:left ops.size (Array.replicate ops.size false)=List.range ops.size:=by
  simp only[left];rw[List.filter_eq_self];intro i hi;have:=List.mem_range.1 hi;simp[Array.getD_eq_getD_getElem?,this]
 have k:∀i o,ops[i]? =some o->∀e∈o.after,Region.binds .any e=true->e.on<i:=by
  intro i o U e W Y;rw[List.all_eq_true]at g
  have G:(o,i)∈ops.toList.zipIdx:=by
   rw[List.mem_zipIdx_iff_getElem?];simpa using U
  have:=g _ G;rw[Array.all_eq_true']at this;have:=this e W;simpa[Y]using this
 refine UK (R:=fun a b=>Dh A D a b=true/\(a.op.calls&&b.op.calls)=false/\Fa A D a/\Fa A D b) (fun a b st s1 Z Q s q=>Ahi Q.1 Q.2.1 Q.2.2.1 Q.2.2.2 s q) m ?_ (lin_good k ops.size t _ (by simp) (by rw[f];simp)) ?_ (by simp) ?_
 ·intro j p i I;rw[List.all_eq_true]at J L;have s:=J j (List.mem_range.2 p);rw[List.all_eq_true]at s;have s:=s i (List.mem_range.2 I);rw[Ak]at s;rcases s with h|h
  ·rw[F8 ops p]at h;exact .inl (GA ops p h)
  ·have c:=L j (List.mem_range.2 p);split at h
   ·rename_i x y N M;rw[M]at c;simp only[Ak,Bool.not_eq_true',List.all_eq_true]at c;have v:=List.mem_of_getElem? N;have u:=List.mem_of_getElem? M;rcases c with c|c
    ·exact .inr ⟨x,y,N,M,h,by rw[c,Bool.and_false],d x v,d y u⟩
    ·rcases c i (List.mem_range.2 I)with q|q
     ·rw[F8 ops p]at q;exact .inl (GA ops p q)
     ·rw[N]at q;simp only[Bool.not_eq_true']at q;exact .inr ⟨x,y,N,M,h,by rw[q,Bool.false_and],d x v,d y u⟩
   ·cases h
 ·intro i o hi;exfalso;rw[Array.getD_eq_getD_getElem?,Array.getElem?_replicate]at hi;split at hi<;>cases hi
 ·rw[f,List.range_eq_range',<-m];have:=Vt (E:=E) (A:=A) (D:=D) ls [] st;simp only[List.nil_append,List.length_nil]at this;rw[this];exact S
variable {w0:WL} {M0:MM}
theorem Xd(hE:aV P E)(e:Aq (CS P n ops) ops.toList=some ls){Q:Exit->Act->World->Prop}:∀{c:List Nat} {st st':St} {a:Act} {w:World} {z:Cz},SR P E.G w0 M0 n st a w z->
  CY (bw E A D) ls c st=some st'->(∀j w' z',SR P E.G w0 M0 n st' j w' z'->Q .normal j w')->wpOps P ops Q c a w
 | [],st,st',a,w,z,h,hv,hK=>by
  simp only[CY,Ac]at hv;subst hv;exact hK _ _ _ h
 |i::c,st,st',a,w,z,h,hv,hK=>by
  simp only[CY]at hv;split at hv<;>(try cases hv;done);rename_i l m;simp only[Ab]at hv;obtain⟨o,f,r⟩:=hv;have b:=D3 e;have hi:i<ops.toList.length:=by rw[<-b];exact(Af.1 m).1
  have k:ops.toList[i]? =some (ops.toList[i]):=Aj hi;obtain⟨l',g,s⟩:=IX e k;rw[m]at g;simp only[Ac]at g;subst g;have d:ops[i]? =some (ops.toList[i]):=by rw[<-Array.getElem?_toList];exact k
  obtain⟨p,_,f⟩:=J7 f;refine Ui (E:=E.named) hE.named h (rd:=AA (some (ag l.op D)) (Ct st.ob)) (fun id=> ?_) d s f fun j w' z' q=>Xd hE e q r hK;simp only[AA,Ct];split
  ·exact .inl rfl
  ·split
   ·exact .inl rfl
   ·exact .inr rfl
end
end WB
