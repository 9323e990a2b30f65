/-
  Own texts. No condition of their own.
-/
import Derived.Test.YtefbaepigpomaaaGreatDoorK2
import Derived.Orders
set_option linter.unusedVariables false
set_option linter.unusedSimpArgs false
open Go.IntKind (i64 u64 u8 u32)
namespace WB
open Go Go.RowKit
section
variable {P:Program} {E:ah} {w0:WL} {M0:MM} {n:Nat} {st:St} {a:Act} {w w':World} {z:Cz}
theorem Z8{o:Oper}{g:aa}(b:Cf P o=some g)(d:g.cls=.call):∃c,o.op=.call c/\
  ((∃f l,c.callee=.value (.func f)/\hasBody P f=true/\A5 A4 c.args.toList=some l/\g=.call f l)\/
   (∃t l,c.callee=.value (.tmp t)/\A5 A4 c.args.toList=some l/\g=.callv (.t t) l)):=by
 unfold Cf at b
 split at b<;>rename_i i<;>first
  |(cases b;done)
  |(exfalso;have:=HE b;rw[d]at this;cases this;done)
  |(exfalso;have:=I1 b;rw[d]at this;rcases this with h'|h'<;>cases h')
  |(unfold EY at b
    refine⟨_,i, ?_⟩
    split at b<;>first
     |(cases b;done)
     |(rename_i f e
       split at b
       ·rename_i j;rcases FC b with⟨l,h,rfl⟩|⟨_,_,_,_,_,_,_,rfl⟩
        ·exact .inl ⟨f,l,e,j,h,rfl⟩
        ·cases d
       ·cases b)
     |(rename_i t e
       simp only[Aa]at b;obtain⟨l,h,rfl⟩:=b
       exact .inr ⟨t,l,e,h,rfl⟩)
     |(exfalso
       (repeat' split at b)<;>try(rcases FC b with⟨_,_,rfl⟩|⟨_,_,_,_,_,_,_,rfl⟩<;>(cases d;done))
       all_goals simp only[Ab,Aa,Ae,Ac,reduceCtorEq]at b
       all_goals(repeat (first|(subst b;cases d;done)|(obtain⟨_,b⟩:=b)))
       done))
  |(exfalso
    (repeat' split at b)<;>simp only[Ab,Aa,Option.ite_none_left_eq_some,Ae,Ac,Prod.exists,reduceCtorEq]at b
    all_goals(repeat (first|(subst b;cases d;done)|(obtain⟨_,b⟩:=b)))
    done)
theorem Aaf{o:Oper}{g:aa}(d:Cf P o=some g)(e:g.cls=.copy):∃c f x y sx i,o.op=.call c/\c.callee=.value (.func f)/\hasBody P f=true/\c.args.toList= [x,y]/\A4 x=some sx/\A4 y=some i/\g=.mcopy f sx i:=by
 unfold Cf at d
 split at d<;>rename_i j<;>first
  |(cases d;done)
  |(exfalso;have:=HE d;rw[e]at this;cases this;done)
  |(exfalso;have:=I1 d;rw[e]at this;rcases this with h'|h'<;>cases h')
  |(unfold EY at d
    split at d<;>first
     |(cases d;done)
     |(rename_i f h
       split at d
       ·rename_i k;rcases FC d with⟨l,r,rfl⟩|⟨x,y,a,b,q,p,m,rfl⟩
        ·cases e
        ·exact⟨_,f,x,y,a,b,j,h,k,q,p,m,rfl⟩
       ·cases d)
     |(exfalso
       (repeat' split at d)<;>try(rcases FC d with⟨_,_,rfl⟩|⟨_,_,_,_,_,_,_,rfl⟩<;>(cases e;done))
       all_goals simp only[Ab,Aa,Ae,Ac,reduceCtorEq]at d
       all_goals(repeat (first|(subst d;cases e;done)|(obtain⟨_,d⟩:=d)))
       done))
  |(exfalso
    (repeat' split at d)<;>simp only[Ab,Aa,Option.ite_none_left_eq_some,Ae,Ac,Prod.exists,reduceCtorEq]at d
    all_goals(repeat (first|(subst d;cases e;done)|(obtain⟨_,d⟩:=d)))
    done)
theorem Aja{M:MM}{c:CV}{v:Value}(h:Il c=true)(b:RelC w M c v):∃s:List UInt8,v=.string ⟨⟨s⟩⟩/\s.length<=9223372036854775807:=by
 cases c<;>simp[Il]at h;unfold RelC at b;exact⟨_,b,h⟩
theorem Ai9{c:CV}(h:Il c=true):AR .str c=true:=by
 cases c<;>simp[Il]at h;rfl
theorem NE{f:FuncId}(c:hasBody P f=true)(args:Array Value):(callFunc f args).run P w=.ok (.enter f args) w:=by
 unfold hasBody at c
 cases e:P.funcs[f]? with
 |none=>rw[e]at c;cases c
 |some fn=>
  rw[e]at c;simp only[Ag,Bool.not_eq_true',Option.isSome_iff_exists]at c;obtain⟨⟨⟨b,c⟩,g⟩,_⟩:=c;have d:¬fn.name= "runtime.NumGoroutine" :=by simpa using g
  simp[callFunc,e,d,c]
theorem Uh{rd:Nat->Ob}{ρ:SO->SV}{d:Option Nat}{f:FuncId}{args:List SO}{b:List CV}{st':St}(h:DG E rd ρ st d f args b=some st'):
  ∃l r,A5 (fun x=>C9 rd (ρ x)) args=some l/\E.fn f (l++b)=some r/\((args.all fun x=>bT (ρ x))=true\/r.memless=true)/\EM st d r=some st':=by
 simp only[DG,Ab,Ae,Ak]at h;obtain⟨l,g,r,e,i,c⟩:=h;exact⟨l,r,g,e,i,c⟩
theorem Va(hE:aV P E)(h:SR P E.G w0 M0 n st a w z){rd:Nat->Ob}(hrd:∀id,rd id=.none\/rd id=st.ob id){o:Oper}{sop:aa}(hc:Cf P o=some sop)(hd:∀j,o.dst=some j->j<n)(hm:HW sop=true->o.dst=none){st':St}
  (m:AM E rd st o.dst sop=some st') {K:Act->World->Prop} {Q:Exit->Act->World->Prop} (hK:∀a' w' z',SR P E.G w0 M0 n st' a' w' z'->K a' w'):o.wp P a w K Q:=by
 unfold Oper.wp;unfold AM at m
 cases B:sop.cls with
 |val=>
  simp only[B,Aa]at m;obtain⟨sv,m,rfl⟩:=m;obtain⟨v,Z,h2⟩:=Ak2 h.ctx hrd hc B m;rw[Z];exact hK _ _ _ (h.put hd h2)
 |grow=>
  simp only[B,Aa]at m;obtain⟨sv,m,rfl⟩:=m;obtain⟨v,w',Z,h2,h3⟩:=Aen h hc B m;rw[Z];exact hK _ _ _ ((h.grow h2).put hd h3)
 |new=>
  simp only[B,Ab,Prod.exists]at m;obtain⟨sv,ob,m,ha⟩:=m;unfold B1 at ha
  cases hod:o.dst with
  |none=>rw[hod]at ha;cases ha
  |some d=>
   rw[hod]at ha m;simp only[Option.getD_some]at ha m;split at ha<;>(try cases ha;done);rename_i hn;simp only[Ac]at ha;subst ha;obtain⟨v,w',z',Z,h2⟩:=Af4 h hc B m (hd d hod) hn;rw[Z];refine hK _ _ z' ?_;rw[hod];exact h2
 |eff=>
  simp only[B]at m;rcases Aa4 h hc B hd hm m with⟨v,w',z',Z,h2⟩|⟨w',z',Z,h2⟩
  ·rw[Z];exact hK _ _ _ h2
  ·rw[Z];exact hK _ _ _ h2
 |copy=>
  simp only[B]at m;obtain⟨c,f,x,y,sx,sy,ho,H,I,C,hx,hy,rfl⟩:=Aaf hc B;replace m:FH E (so E.G st.fr) st o.dst f sx sy=some st':=m;unfold FH at m;split at m
  case isFalse=>
   have hr:=h.ctx.opd hx;have L:=h.ctx.opd hy;generalize so E.G st.fr sx=q at hr m;generalize so E.G st.fr sy=q2 at L m;cases q<;>(try cases m;done);cases q2<;>(try cases m;done);rename_i id cv;cases cv<;>(try cases m;done);rename_i g Y;cases Y<;>(try cases m;done);dsimp only at m;split at m<;>(try cases m;done);rename_i e size es hob;split at m<;>(try cases m;done);rename_i J V;cases m;obtain⟨_,hinf,hmv,hC⟩:=hE.srt _ _ _ _ _ _ V;obtain⟨M,e1⟩:=hr
   have e2:a.eval y=.func (.func g) #[] #[]:=by
    unfold AA RelC at L;obtain⟨vs,W,g2⟩:=L;unfold RelL at g2;subst g2;unfold bV at W;rw[hmv]at W;exact W
   have hro:=h.ob id;rw[hob]at hro;obtain⟨xs,hrow,hF⟩:=hro;obtain⟨i,hi⟩:=Option.isSome_iff_exists.1 hinf;have hown:=hrow.own hi
   have u:(execOp a.eval o).run P w=(callFunc f ⟨[z.σ id,.func (.func g) #[] #[]]⟩).run P w:=by
    have e3:(⟨c.args.toList.map a.eval⟩:Array Value)=c.args.map a.eval:=Array.toList_inj.1 (by simp)
    have e4:(⟨[z.σ id,.func (.func g) #[] #[]]⟩:Array Value)=c.args.map a.eval:=by
     rw[<-e3,C];simp only[List.map_cons,List.map_nil,e1,e2]
    rw[e4];simp[execOp,ho,resolve,H,Act.eval,Deferred.ofValue,invoke]
   rw[u,NE I];refine(hC w _ _ xs hown hF).mono fun k w' ⟨he,hgr,xs',k1,k2⟩=> ?_;subst he;refine hK _ _ _ (SR.put (SR.turn h M (o':=.arr e size J) (by simp) hgr (β':=z.β id) (fun _ _ S=>S) (fun S=>by cases S) fun hkp hz=>⟨xs',DO.of k1,k2 _ _⟩) hd ?_);show RelC _ _ (.tup []) _;unfold RelC;exact⟨[],rfl,RelL.nil⟩
  rename_i hcp;have hr:=h.ctx.opd hx;have L:=h.ctx.opd hy;generalize so E.G st.fr sx=q at hr m;generalize so E.G st.fr sy=q2 at L m;cases q<;>(try cases m;done);cases q2<;>(try cases m;done);rename_i id cv;cases cv<;>(try cases m;done);rename_i nl ks vs;dsimp only at m;split at m<;>(try cases m;done);rename_i mt zc hob;split at m<;>(try cases m;done);rename_i hg;obtain⟨hsk,hlen⟩:=hg;cases m;obtain⟨M,e1⟩:=hr;obtain⟨hmt,ks',vs',r,ens,clk,hmp,e2,S,hB⟩:=IR h hob;have hks':ks'= []:=Aw hmp.ks.length_eq;subst hks'
  have hens:ens= []:=by
   have:=hB.1;unfold RelL at this;simpa using this
  subst hens;have hrm:A3 M0 z st.ob r:=.inr ⟨id,M,by rw[e2];rfl⟩;have hskA:∀k∈ks,Il k=true:=As.1 hsk
  have src:∃(ps:Option Nat) (es J:List MapEntry),a.eval y=.map ps/\((ps=none/\es= [])\/∃bs X,ps=some bs/\bs≠r/\w.heap[bs]? =some (.map ⟨es⟩ X)/\cS es X)/\J.Perm es/\
    RelL w (A3 M0 z st.ob) ks (J.map (·.key))/\RelL w (A3 M0 z st.ob) vs (J.map (·.val)):=by
   unfold AA RelC at L;obtain⟨rr,W,_,_,g4,g5⟩:=L
   cases rr with
   |none=>
    obtain⟨rfl,rfl⟩:=g4 rfl;exact⟨none,[],[],W,.inl ⟨rfl,rfl⟩,.refl _,RelL.nil,RelL.nil⟩
   |some bs=>
    obtain⟨g6,es,J,X,g7,g8,g9,g10,g11⟩:=g5 bs rfl;exact⟨some bs,es,J,W,.inr ⟨bs,X,rfl,fun e=>g6 (e▸hrm),g7,g8⟩,g9,g10,g11⟩
  obtain⟨ps,es,J,W,g2,g3,g4,g5⟩:=src
  have hkey:∀en:MapEntry,en∈es->∃s:List UInt8,en.key=.string ⟨⟨s⟩⟩/\s.length<=9223372036854775807:=by
   intro en hen;obtain⟨i,hi⟩:=List.mem_iff_getElem?.1 (g3.mem_iff.2 hen);obtain⟨k,k1,k2⟩:=g4.getR (i:=i) (v:=en.key) (by rw[List.getElem?_map,hi];rfl);exact Aja (hskA k (List.mem_of_getElem? k1)) k2
  have hlen':es.length<=9223372036854775807:=by
   have:=g4.length;rw[List.length_map,g3.length_eq]at this;omega
  have u:(execOp a.eval o).run P w=(callFunc f ⟨[.map (some r),.map ps]⟩).run P w:=by
   have e:(⟨c.args.toList.map a.eval⟩:Array Value)=c.args.map a.eval:=Array.toList_inj.1 (by simp)
   have e':(⟨[.map (some r),.map ps]⟩:Array Value)=c.args.map a.eval:=by
    rw[<-e,C];simp only[List.map_cons,List.map_nil,W,e1,e2]
   rw[e'];simp[execOp,ho,resolve,H,Act.eval,Deferred.ofValue,invoke]
  rw[u,NE I];refine((hE.cp f hcp).2 w r clk ps es S g2 hkey hlen').mono fun e w' ⟨he,hgr,ens2,clk2,k1,k2,k3⟩=> ?_;subst he
  have k4:((ens2.map fun e=>({key:=e.key,val:=e.val,born:=0}:MapEntry))).Perm (J.map fun e=>({key:=e.key,val:=e.val,born:=0}:MapEntry)):=by
   have q1:=k3.map (fun p:Value×Value=>({key:=p.1,val:=p.2,born:=0}:MapEntry));simp only[List.map_map]at q1;exact q1.trans (g3.symm.map _)
  refine hK _ _ _ (SR.put (SR.turn h M (o':=.map mt .str zc ks vs) (by simp) (by rw[e2];exact hgr) (β':=z.β id) (fun _ _ S=>S) (fun _=>by rw[hob];rfl) fun hkp hz=> ?_) hd ?_)
  ·have r1:=RelL.keep hkp _ _ g4;have r2:=RelL.keep hkp _ _ g5;obtain⟨ks2,vs2,m1,m2,m3⟩:=X0 (ens':=J.map fun e=>({key:=e.key,val:=e.val,born:=0}:MapEntry)) k4.symm (by simpa[List.map_map,Function.comp_def]using r1) (by simpa[List.map_map,Function.comp_def]using r2);simp only[List.map_map,Function.comp_def]at m2 m3;have hcf:∀k∈ks2,AR .str k=true:=fun k hk=>Ai9 (hskA k (m1.ks.mem_iff.1 hk));refine⟨hmt,ks2,vs2,r,ens2,clk2,m1,e2,k1,m2,m3,hcf,QB hcf m2 k2.1,k2.2.1,k2.2.2,fun k b I=> ?_⟩;simp only[Be]at I;obtain⟨i,en,q1,_⟩:=hB.2.2.2.2.2.2 k b I;simp at q1
  ·show RelC _ _ (.tup []) _;unfold RelC;exact⟨[],rfl,RelL.nil⟩
 |call=>
  obtain⟨c,ho,hcase⟩:=Z8 hc B
  have av:∀{f:FuncId} {vs:List Value} {l:List CV} {r:bh} {b:Bool},hasBody P f=true->(execOp a.eval o).run P w=(callFunc f ⟨vs⟩).run P w->E.fn f l=some r->RelL w (bP w0 M0 z) l vs->(b=false->RelL w (A3 M0 z st.ob) l vs)->(b=true->r.memless=true)->EM st o.dst r=some st'->
    o.upon P a K Q ((execOp a.eval o).run P w):=by
   intro f vs l r b I u hf Z h2 h3 h4;rw[u,NE I];refine(Z9 hE h hd hf Z h2 h3 h4).mono fun e w' ⟨v,he,z',hS⟩=> ?_;subst he;exact hK _ _ _ hS
  have Ka:∀{f:FuncId} {e:bL} {vs:List Value} {l:List CV} {r:CV} {H':Nat->Ob},(execOp a.eval o).run P w=(callFunc f ⟨vs⟩).run P w->hasBody P f=true->RelL w (A3 M0 z st.ob) l vs->F5 P E.G f e.T l (CS e.T st.ob) r H'->(CI e.T H' st).set o.dst (.c r)=st'->
    o.upon P a K Q ((execOp a.eval o).run P w):=by
   intro f e vs l r H' u he hl hr V;subst V;rw[u,NE he];refine(Aa6 hE h hd hl hr).mono fun e w' ⟨v,he,z',hS⟩=> ?_;subst he;exact hK _ _ _ hS
  rcases hcase with⟨f,args,H,I,C,rfl⟩|⟨t,args,H,C,rfl⟩
  ·simp only[B]at m
   have u:(execOp a.eval o).run P w=(callFunc f ⟨c.args.toList.map a.eval⟩).run P w:=by
    have e:(⟨c.args.toList.map a.eval⟩:Array Value)=c.args.map a.eval:=Array.toList_inj.1 (by simp);rw[e];simp[execOp,ho,resolve,H,Act.eval,Deferred.ofValue,invoke]
   cases U:E.ef f with
   |some e=>
    simp only[U,D6,Ab,Ac]at m;obtain⟨l,hl,p,hp,V⟩:=m;rw[List.append_nil]at hp;have hm:=(hE.ef f e U).2 _ _ _ _ hp;unfold F6 at hm;rw[IJ I]at hm;exact Ka u I (Mh h C hl) hm V
   |none=>
    simp only[U]at m;obtain⟨l,r,hl,hf,hor,V⟩:=Uh m;obtain⟨W,g2⟩:=Pn h hrd C hl;rw[List.append_nil]at hf
    cases N:args.all (fun x=>bT (so E.G st.fr x))with
    |true=>exact av (b:=false) I u hf W (fun _=>g2 N) (fun S=>by cases S) V
    |false=>
     rw[N]at hor;exact av (b:=true) I u hf W (fun S=>by cases S) (fun _=>by simpa using hor) V
  ·simp only[B]at m;have hr:=h.fr t;have hso:so E.G st.fr (.t t)=st.fr t:=rfl;rw[hso]at m;split at m<;>(try cases m;done);rename_i f Y hfr;rw[hfr]at hr;unfold AA RelC at hr;obtain⟨cvs,e1,F⟩:=hr
   have u:mvOf f=none->(execOp a.eval o).run P w=(callFunc f ⟨c.args.toList.map a.eval++cvs⟩).run P w:=fun hm=>by
    have e:(⟨c.args.toList.map a.eval++cvs⟩:Array Value)=c.args.map a.eval++⟨cvs⟩:=Array.toList_inj.1 (by simp);rw[e];unfold bV at e1;rw[hm]at e1;simp only at e1;simp[execOp,ho,resolve,H,Act.eval,e1,Deferred.ofValue,invoke]
   cases U:E.ef f with
   |some e=>
    simp only[U,D6,Ab,Ac]at m;obtain⟨l,hl,p,hp,V⟩:=m;obtain⟨I,hC⟩:=hE.ef f e U;have O:=hC _ _ _ _ hp;unfold F6 at O
    cases hm:mvOf f with
    |none=>
     rw[hm]at I O;exact Ka (u hm) I ((Mh h C hl).append F) O V
    |some g=>
     rw[hm]at I O;simp only[Option.getD_some]at I O;unfold bV at e1;rw[hm]at e1;obtain⟨r,rfl,e1⟩:=e1;obtain⟨l',c',e2,O⟩:=O;have hcl:=F.length
     obtain⟨c2,rfl⟩:∃c2,Y= [c2]:=by
      match Y,hcl with
      | [c2],_=>exact⟨c2,rfl⟩
     obtain⟨e4,e3⟩:=List.append_inj' e2 rfl;subst e4;have e5:c2=c':=by simpa using e3
     subst e5
     have L:RelC w (A3 M0 z st.ob) c2 r:=by
      obtain⟨v,vs',e4,Z,_⟩:=by unfold RelL at F;exact F
      cases e4;exact Z
     have hrun2:(execOp a.eval o).run P w=(callFunc g ⟨r::c.args.toList.map a.eval⟩).run P w:=by
      have e:(⟨r::c.args.toList.map a.eval⟩:Array Value)= #[r]++c.args.map a.eval:=Array.toList_inj.1 (by simp);rw[e];simp[execOp,ho,resolve,H,Act.eval,e1,Deferred.ofValue,invoke]
     exact Ka hrun2 I (RelL.cons L (Mh h C hl)) O V
   |none=>
    simp only[U]at m;obtain⟨l,r,hl,hf,hor,V⟩:=Uh m;obtain⟨W,g2⟩:=Pn h hrd C hl;have I:=(hE.fn f _ r hf).1;have u:=u (IJ I);have hk:Bu w (A3 M0 z st.ob) w (bP w0 M0 z):=⟨Nat.le_refl _,fun _ _ _=>rfl,fun g _ hg=>.inl hg.1,rfl⟩
    cases N:args.all (fun x=>bT (so E.G st.fr x))with
    |true=>exact av (b:=false) I u hf (W.append (RelL.keep hk _ _ F)) (fun _=>(g2 N).append F) (fun S=>by cases S) V
    |false=>
     rw[N]at hor;exact av (b:=true) I u hf (W.append (RelL.keep hk _ _ F)) (fun S=>by cases S) (fun _=>by simpa using hor) V
def Abp(P:Program)(d:Nat)(o:Oper):Bool:=
 match o.op with
 | .call c=>match c.callee with
  | .value _=>c.args.any fun x=>match x with
   | .tmp t=>t==d
   |_=>false
  |_=>false
 |_=>false
def Afy(d:Nat)(o:Oper):Bool:=
 match o.op,o.dst with
 | .assign (.tmp t),some _=>t==d
 |_,_=>false
def R0:Nat:=1099511627776
def Pc(d:Nat)(o:Oper):Bool:=
 match o.op with
 | .build _ parts=>parts.toList.any fun p=>match p.2 with
  | .tmp t=>t==d
  |_=>false
 |_=>false
def ZC(ops:Array Oper)(d:Nat)(o:Oper):Bool:=
 match o.op,o.dst with
 | .call c,some d'=>match c.callee,c.args.toList with
  | .builtin .append,[_,.tmp t]=>t==d&&ops.any (Pc d')
  |_,_=>false
 |_,_=>false
def Aad(o:Oper):Bool:=
 match o.op with
 | .call c=>match c.callee with
  | .builtin .copy=>true
  |_=>false
 |_=>false
def Na(P:Program)(ops:Array Oper)(d:Option Nat)(c:aa):aa:=
 match c,d with
 | .mksl e s xs,some d=>if(ops.any (Abp P d)||ops.any (ZC ops d)||ops.any (Pc d))=true then .lsl e s xs else .mksl e s xs
 | .bytes e x,some d=>if(ops.any (Afy d)&&(P.info? R0).isNone)=true then .nbytes R0 x else .bytes e x
 | .append e s b x y,some d=>if ops.any (Pc d)=true then .capp e s b x y else .append e s b x y
 | .load s x,some _=>if ops.any Aad=true then .loadb s x else .load s x
 |op,_=>op
def Lx(P:Program)(o:Oper)(op:aa):Prop:=Cf P o=some op\/(∃e s xs,Cf P o=some (.mksl e s xs)/\op=.lsl e s xs)\/(∃e c x,Cf P o=some (.bytes e x)/\op=.nbytes c x/\P.info? c=none)\/(∃e s b x y,Cf P o=some (.append e s b x y)/\op=.capp e s b x y)\/∃s x,Cf P o=some (.load s x)/\op=.loadb s x
theorem Afq{P:Program}{o:Oper}{c:aa}(h:Cf P o=some c)(ops:Array Oper)(d:Option Nat):Lx P o (Na P ops d c):=by
 unfold Na;split
 ·rename_i e s xs d;split
  ·exact .inr (.inl ⟨e,s,xs,h,rfl⟩)
  ·exact .inl h
 ·rename_i e x d;split
  ·rename_i f;simp only[Ag,Option.isNone_iff_eq_none]at f;exact .inr (.inr (.inl ⟨e,R0,x,h,rfl,f.2⟩))
  ·exact .inl h
 ·rename_i e s b x y d;split
  ·exact .inr (.inr (.inr (.inl ⟨e,s,b,x,y,h,rfl⟩)))
  ·exact .inl h
 ·rename_i s x _;split
  ·exact .inr (.inr (.inr (.inr ⟨s,x,h,rfl⟩)))
  ·exact .inl h
 ·exact .inl h
theorem Vb(hE:aV P E)(h:SR P E.G w0 M0 n st a w z){rd:Nat->Ob}(l:∀id,rd id=.none\/rd id=st.ob id){o:Oper}{k:aa}(f:Lx P o k)(m:∀j,o.dst=some j->j<n)(C:HW k=true->o.dst=none){st':St}
  (c:AM E rd st o.dst k=some st') {K:Act->World->Prop} {Q:Exit->Act->World->Prop} (p:∀u w' z',SR P E.G w0 M0 n st' u w' z'->K u w'):o.wp P a w K Q:=by
 rcases f with f|⟨e,s,xs,f,rfl⟩|⟨e,e',x,f,rfl,he'⟩|⟨e,s,b,x,y,f,rfl⟩|⟨s,x,f,rfl⟩
 ·exact Va hE h l f m C c p
 ·unfold Oper.wp;unfold AM at c;simp only[aa.cls,Aa]at c;obtain⟨sv,c,rfl⟩:=c;obtain⟨v,w',r,q,t⟩:=Afr h f c;rw[r];exact p _ _ _ ((h.grow q).put m t)
 ·unfold Oper.wp;unfold AM at c;simp only[aa.cls,Ab,Prod.exists]at c;obtain⟨sv,ob,c,i⟩:=c;unfold B1 at i
  cases g:o.dst with
  |none=>rw[g]at i;cases i
  |some d=>
   rw[g]at i c;simp only[Option.getD_some]at i c;split at i<;>(try cases i;done);rename_i B;simp only[Ac]at i;subst i;obtain⟨v,w',z',r,q⟩:=Af3 h f he' c (m d g) B;rw[r];refine p _ _ z' ?_;rw[g];exact q
 ·unfold Oper.wp;unfold AM at c;simp only[aa.cls,Aa]at c;obtain⟨sv,c,rfl⟩:=c;obtain⟨v,w',r,q,t⟩:=ZB h f c;rw[r];exact p _ _ _ ((h.grow q).put m t)
 ·refine Va (st':=st') hE h l f m (fun F=>by cases F) ?_ p;unfold AM at c⊢;simp only[aa.cls,A2]at c⊢;split at c
  ·cases c
  ·exact c
def Dg(P:Program)(n:Nat)(ops:Array Oper)(o:Oper):Option SL:=
 ((Cf P o).map (Na P ops o.dst)).bind fun b=>
   if(o.dst.all fun d=>decide (d<n))&&(!(HW b)||o.dst.isNone)then
    match o.guard with
    |none=>some ⟨o.dst,b,none⟩
    |some (j,want)=>((ops[j]?).bind (·.dst)).map fun t=>⟨o.dst,b,some (t,want)⟩
   else none
theorem Aaa{ops:Array Oper}{o:Oper}{l:SL}(h:Dg P n ops o=some l):Lx P o l.op/\l.dst=o.dst/\(∀j,o.dst=some j->j<n)/\(HW l.op=true->o.dst=none)/\
  ((o.guard=none/\l.guard=none)\/∃j t b,o.guard=some (j,b)/\(ops[j]?).bind (·.dst)=some t/\l.guard=some (t,b)):=by
 simp only[Dg,Ab,Ae,Ag,Ak,Bool.not_eq_true']at h;obtain⟨d,f,⟨r,c⟩,e⟩:=h;obtain⟨p,k,i⟩:=Aa.1 f;replace f:Lx P o d:=i▸Afq k ops o.dst;have q:∀j,o.dst=some j->j<n:=fun j u=>by rw[u]at r;simpa using r
 have g:HW d=true->o.dst=none:=fun g=>by
  rcases c with c|c
  ·rw[g]at c;cases c
  ·simpa using c
 split at e
 ·rename_i m;simp only[Ac]at e;subst e;exact⟨f,rfl,q,g,.inl ⟨m,rfl⟩⟩
 ·rename_i j b m;simp only[Aa]at e;obtain⟨t,s,rfl⟩:=e;exact⟨f,rfl,q,g,.inr ⟨j,t,b,m,s,rfl⟩⟩
theorem Ym{G:Nat->List CV}(h:SR P G w0 M0 n st a w z){d:Option Nat}(b:∀j,d=some j->j<n):SR P G w0 M0 n (st.set d Bs) (a.put d undef) w z:=by
 refine h.put b ?_;show RelC _ _ (.tup []) undef;unfold RelC;exact⟨[],rfl,RelL.nil⟩
theorem UW(hE:aV P E)(h:SR P E.G w0 M0 n st a w z){rd:Nat->Ob}(s:∀id,rd id=.none\/rd id=st.ob id){ops:Array Oper}{i:Nat}{o:Oper}(O:ops[i]? =some o){l:SL}(S:Dg P n ops o=some l){st':St}(d:Bz E rd l st=some st')
  {rest:List Nat} {Q:Exit->Act->World->Prop} (p:∀q w' z',SR P E.G w0 M0 n st' q w' z'->wpOps P ops Q rest q w'):wpOps P ops Q (i::rest) a w:=by
 obtain⟨L,C,B,K,T⟩:=Aaa S;simp only[wpOps,O];unfold Bz at d;rcases T with⟨y,g⟩|⟨j,t,I,y,J,g⟩
 ·rw[g]at d;simp only at d;rw[Ao (by simp[Region.wanted,y])];rw[C]at d;exact .inl (Vb hE h s L B K d (fun q w' z' H=>p q w' z' H))
 ·rw[g]at d;simp only at d;have u:=h.fr t
  have N:∀b,st.fr t=.c (.bool b)->yielded ops a.tmps j=some b:=by
   intro b m;rw[m]at u;have e:=Ee (w:=w) (M:=A3 M0 z st.ob) u
   have x:t<a.tmps.size:=by
    rcases Nat.lt_or_ge t a.tmps.size with hh|hh
    ·exact hh
    ·simp[Array.getD,Nat.not_lt.2 hh,undef]at e
   have U:a.tmps[t]? =some (.bool b):=by
    rw[Array.getElem?_eq_getElem x];simpa[Array.getD,x]using e
   simp only[yielded,J,Ap,U]
  have f:st.fr t=.c (.tup [])->yielded ops a.tmps j=none:=by
   intro m;rw[m]at u;unfold AA RelC at u;obtain⟨vs,e,_⟩:=u;simp only[yielded,J,Ap]
   cases F:a.tmps[t]? with
   |none=>rfl
   |some v=>
    have:a.tmps.getD t undef=v:=by rw[Ar,F];rfl
    rw[this]at e;rw[e]
  split at d
  ·rename_i b m;have r:=N b m;split at d
   ·rename_i k;rw[Ao (by simp[Region.wanted,y,r,k])];rw[C]at d;exact .inl (Vb hE h s L B K d (fun q w' z' H=>p q w' z' H))
   ·rename_i k;rw[An (by simp[Region.wanted,y,r,k])];simp only[Ac]at d;subst d;rw[C]at p;exact p _ _ _ (Ym h B)
  ·rename_i m;rw[An (by simp[Region.wanted,y,f m])];simp only[Ac]at d;subst d;rw[C]at p;exact p _ _ _ (Ym h B)
  ·cases d
theorem M6(hE:aV P E)(h:SR P E.G w0 M0 n st a w z){D:Option (List Nat)}{ops:Array Oper}{i:Nat}{o:Oper}(d:ops[i]? =some o){l:SL}(e:Dg P n ops o=some l){st':St}(c:A6 E D l st=some st')
  {rest:List Nat} {Q:Exit->Act->World->Prop} (g:∀b w' z',SR P E.G w0 M0 n st' b w' z'->wpOps P ops Q rest b w'):wpOps P ops Q (i::rest) a w:=by
 refine UW (hE.at D) (D4▸h) (rd:=AN (D.map (af l.op)) st.ob) (fun id=> ?_) d e c (fun b w' z' f=>g b w' z' (D4▸f));generalize D.map (af l.op)=D
 cases D with
 |none=>exact .inr rfl
 |some D=>unfold AN;simp only;split<;>first|exact .inl rfl|exact .inr rfl
def Cv(E:ah)(D:Option (List Nat))(ls:List SL):List Nat->St->Option St
 | [],st=>some st
 |i::is,st=>match ls[i]? with
  |some l=>(A6 E D l st).bind (Cv E D ls is)
  |none=>none
theorem HJ(hE:aV P E){D:Option (List Nat)}{ops:Array Oper}{ls:List SL}(e:A5 (Dg P n ops) ops.toList=some ls){Q:Exit->Act->World->Prop}:∀{c:List Nat} {st st':St} {a:Act} {w:World} {z:Cz},SR P E.G w0 M0 n st a w z->
  Cv E D ls c st=some st'->(∀g w' z',SR P E.G w0 M0 n st' g w' z'->Q .normal g w')->wpOps P ops Q c a w
 | [],st,st',a,w,z,h,hv,hK=>by
  simp only[Cv,Ac]at hv;subst hv;exact hK _ _ _ h
 |i::c,st,st',a,w,z,h,hv,hK=>by
  simp only[Cv]at hv;split at hv<;>(try cases hv;done);rename_i l k;simp only[Ab]at hv;obtain⟨m,q,p⟩:=hv;have b:=DF e;have hi:i<ops.toList.length:=by rw[<-b];exact(Af.1 k).1
  have j:ops.toList[i]? =some (ops.toList[i]):=Aj hi;obtain⟨l',f,r⟩:=Jz e j;rw[k]at f;simp only[Ac]at f;subst f;have d:ops[i]? =some (ops.toList[i]):=by rw[<-Array.getElem?_toList];exact j
  exact M6 hE h d r q fun g w' z' o=>HJ hE e o p hK
end
def SO.slot:SO->List Nat
 | .t i=> [i]
 |_=> []
def KG:Option SO->List Nat
 |some x=>x.slot
 |none=> []
def aa.slots:aa->List Nat
 | .mov x| .un _ x| .cvi _ x| .cvrune x| .cvbs x| .cvid x| .isnil _ _ x| .field _ _ x| .ext x _| .faddr _ x| .load _ x| .len _ x| .box x| .bytes _ x| .nbytes _ x| .nchk x| .siter x| .mrange x| .mentry x| .snext x| .asl _ x| .loadb _ x=>x.slot
 | .pick c a b=>c.slot++a.slot++b.slot
 | .bin _ x y| .eqs _ _ x y| .beq _ x y| .iaddr _ x y| .aaddr _ _ x y| .sidx x y| .aidx _ _ _ x y| .lookup _ _ _ _ x y| .make _ _ _ _ x y| .store _ x y| .append _ _ _ x y| .capp _ _ _ x y| .cpy _ _ x y| .mapent _ x y=>x.slot++y.slot
 | .build _ ps=>ps.flatMap fun p=>p.2.2.slot
 | .minmax _ xs| .fnv _ xs| .mksl _ _ xs| .lsl _ _ xs| .call _ xs=>xs.flatMap SO.slot
 | .callv f xs=>f.slot++xs.flatMap SO.slot
 | .mcopy _ x y=>x.slot++y.slot
 | .sslice x l h| .slice _ x l h=>x.slot++KG l++KG h
 | .slice3 _ x l h m=>x.slot++KG l++h.slot++m.slot
 | .alloc _| .allocT .. | .mkmap .. => []
 | .entst x y z| .mapupd _ x y z=>x.slot++y.slot++z.slot
def SL.looks(l:SL):List Nat:=l.op.slots++(match l.guard with|some (g,_)=> [g]|none=> [])
def aa.hard:aa->Bool
 | .store .. | .append .. | .mapent .. | .entst .. | .mapupd .. | .snext .. | .mcopy .. | .cpy .. =>true
 |_=>false
def aa.calm:aa->Bool
 | .bin .. | .eqs .. | .beq .. | .un .. | .cvi .. | .mov .. | .ext .. | .minmax .. | .lookup _ _ _ false _ _=>true
 |_=>false
def aa.entry:aa->Bool
 | .mapent .. =>true
 |_=>false
def aa.makes:aa->Bool
 | .alloc .. | .allocT .. | .box .. | .mksl .. | .mkmap .. | .make .. | .siter .. | .nbytes .. | .mrange .. | .call .. | .callv .. =>true
 |_=>false
def aa.still:aa->Bool
 | .bin .. | .eqs .. | .beq .. | .un .. | .cvi .. | .mov .. | .ext .. | .minmax .. | .isnil .. | .pick .. =>true
 |_=>false
def aa.stores:aa->Bool
 | .store .. =>true
 |_=>false
def aa.grows:aa->Bool
 | .append .. =>true
 |_=>false
def aa.loads:aa->Bool
 | .load .. =>true
 |_=>false
def aa.puts:aa->Bool
 | .mapupd .. =>true
 |_=>false
def aa.moves:aa->Bool
 | .mov .. =>true
 |_=>false
def aa.tame:aa->Bool
 | .load .. | .alloc .. | .mksl .. | .mov .. | .slice .. =>true
 |_=>false
def aa.copies:aa->Bool
 | .cpy .. =>true
 |_=>false
def aa.flat:aa->Bool
 | .mov .. | .loadb .. =>true
 |_=>false
def GT(D:List Nat)(x y:SL):Bool:=
 (x.dst.all fun d=> !y.looks.contains d&&y.dst !=some d)&&(y.dst.all fun d=> !x.looks.contains d)&&
 ((!x.op.hard&&((!y.op.hard&&(!x.op.makes||x.dst.all fun d=>(af y.op D).contains d)&&(!y.op.makes||y.dst.all fun d=>(af x.op D).contains d))||(y.op.entry&&x.op.calm)||(y.op.stores&&x.op.still)||(y.op.grows&&x.op.moves)||(y.op.puts&&y.guard.isNone&&x.op.loads&&x.guard.isNone)))||(x.op.grows&&(y.op.moves||x.guard.isNone&&y.op.tame&&y.guard.isNone))||((x.op.copies&&y.op.flat||y.op.copies&&x.op.flat)&&x.guard.isNone&&y.guard.isNone))
def Gl(ops:Array Oper):Nat->Nat->Nat->Bool
 |0,_,_=>false
 |k+1,i,j=>match ops[j]? with
  |some o=>o.after.any fun e=>Region.binds .any e&&(e.on==i||(e.on<j&&Gl ops k i e.on))
  |none=>false
def Kw(ops:Array Oper)(ms:List Nat)(j:Nat):Nat:=
 match ops[j]? with
 |some o=>o.after.foldl (fun m e=>if Region.binds .any e&&decide (e.on<j)then m|||(1<<<e.on)|||ms.getD e.on 0 else m) 0
 |none=>0
def DN(ops:Array Oper):Nat->List Nat
 |0=> []
 |n+1=>DN ops n++ [Kw ops (DN ops n) n]
theorem Nb(ops:Array Oper):∀n,(DN ops n).length=n
 |0=>rfl
 |n+1=>by simp[DN,Nb ops n]
theorem FT(ops:Array Oper):∀{n j:Nat},j<n->(DN ops n).getD j 0=Kw ops (DN ops j) j
 |0,_,h=>by omega
 |n+1,j,h=>by
  show(DN ops n++ [Kw ops (DN ops n) n]).getD j 0=_;by_cases b:j<n
  ·have:=FT ops b;rw[List.getD_eq_getElem?_getD,List.getElem?_append_left (by rw[Nb];exact b),<-List.getD_eq_getElem?_getD];exact this
  ·have e:j=n:=by omega
   subst e;rw[List.getD_eq_getElem?_getD,List.getElem?_append_right (by rw[Nb];exact Nat.le_refl _)];simp[Nb]
theorem GY(ops:Array Oper):∀{j k i:Nat},j<k->(Kw ops (DN ops j) j).testBit i=true->Gl ops k i j=true:=by
 intro j
 induction j using Nat.strongRecOn with
 |_ j ih=>
  intro k i f h;obtain⟨k,rfl⟩:∃c,k=c+1:=⟨k-1,by omega⟩;unfold Kw at h;unfold Gl;split at h
  ·rename_i o d;try simp only[d]
   rw[<-Array.foldl_toList]at h
   have key:∀(l:List Edge) (m:Nat),(l.foldl (fun m e=>if Region.binds .any e&&decide (e.on<j)then m|||(1<<<e.on)|||(DN ops j).getD e.on 0 else m) m).testBit i=true->
     m.testBit i=true\/∃e∈l,Region.binds .any e=true/\e.on<j/\(e.on=i\/((DN ops j).getD e.on 0).testBit i=true):=by
    intro l
    induction l with
    |nil=>intro m h;exact .inl h
    |cons e l ihl=>
     intro m h;simp only[List.foldl_cons]at h;rcases ihl _ h with h|⟨e',h1,h2⟩
     ·split at h
      ·rename_i b;simp only[Ag,decide_eq_true_eq]at b;rw[Nat.testBit_or,Nat.testBit_or,Ak,Ak]at h;rcases h with(h|h)|h
       ·exact .inl h
       ·refine .inr ⟨e,by simp,b.1,b.2,.inl ?_⟩;rw[Nat.shiftLeft_eq,Nat.one_mul,Nat.testBit_two_pow]at h;simpa using h
       ·exact .inr ⟨e,by simp,b.1,b.2,.inr h⟩
      ·exact .inl h
     ·exact .inr ⟨e',by simp[h1],h2⟩
   rcases key _ _ h with h|⟨e,h1,h2,h3,h4⟩
   ·simp at h
   ·rw[Array.any_eq_true'];refine⟨e,by simpa using h1, ?_⟩;simp only[Ag,Ak,beq_iff_eq,decide_eq_true_eq];refine⟨h2, ?_⟩;rcases h4 with h4|h4
    ·exact .inl h4
    ·right;rw[FT ops h3]at h4;exact⟨h3,ih e.on h3 (by omega) h4⟩
  ·simp at h
def Hq(E:ah)(rd:Nat->Ob)(ρ:SO->SV)(d:Option Nat)(f:FuncId)(args:List SO)(b:List CV):Option (SV×Option Ob):=
 (A5 (fun x=>C9 rd (ρ x)) args).bind fun l=>(E.fn f (l++b)).bind fun r=>
  if(args.all fun x=>bT (ρ x))||r.memless then some (match r with| .val v=>(.c v,none)| .new o=>(N7 (d.getD 0) o,some o))else none
def AJ(E:ah)(rd:Nat->Ob)(ρ:SO->SV)(d:Option Nat)(op:aa):Option (SV×Option Ob):=
 match op.cls with
 | .val| .grow=>(A2 rd ρ op).map fun v=>(v,none)
 | .new=>(By ρ (d.getD 0) op).map fun(v,o)=>(v,some o)
 | .eff| .copy=>none
 | .call=>match op with
  | .call f args=>Hq E rd ρ d f args []
  | .callv f args=>match ρ f with
   | .c (.fn f caps)=>Hq E rd ρ d f args caps
   |_=>none
  |_=>none
def BF(E:ah)(l:SL)(fr:Nat->SV)(rd:Nat->Ob):Option (SV×Option Ob):=
 match l.guard with
 |none=>AJ E rd (so E.G fr) l.dst l.op
 |some (g,want)=>match fr g with
  | .c (.bool b)=>if b=want then AJ E rd (so E.G fr) l.dst l.op else some (Bs,none)
  | .c (.tup [])=>some (Bs,none)
  |_=>none
def put(st:St)(d:Option Nat):SV×Option Ob->Option St
 |(v,none)=>some (st.set d v)
 |(v,some o)=>B1 st d v o
section
variable {E:ah}
theorem Yu{rd:Nat->Ob}{ρ:SO->SV}{st:St}{d:Option Nat}{f:FuncId}{args:List SO}{b:List CV}:DG E rd ρ st d f args b=(Hq E rd ρ d f args b).bind (put st d):=by
 unfold DG Hq
 cases A5 (fun x=>C9 rd (ρ x)) args with
 |none=>rfl
 |some l=>
  simp only[Ap]
  cases E.fn f (l++b)with
  |none=>rfl
  |some r=>
   simp only[Ap];split
   ·cases r<;>rfl
   ·rfl
theorem Jr{rd:Nat->Ob}{st:St}{d:Option Nat}{op:aa}(b:op.hard=false):AM E.still rd st d op=(AJ E rd (so E.G st.fr) d op).bind (put st d):=by
 cases op<;>simp only[aa.hard,Bool.true_eq_false]at b<;>simp only[AM,AJ,aa.cls,Ai5]<;>first
  |rfl
  |(cases A2 rd (so E.G st.fr) _<;>rfl)
  |(generalize By (so E.G st.fr) (d.getD 0) _=q;cases q<;>rfl)
  |exact Yu
  |skip
 show(match so E.G st.fr _ with| .c (.fn f caps)=>_|_=>none)=_;generalize so E.G st.fr _=q
 cases q<;>first
  |rfl
  |(rename_i v;cases v<;>first|rfl|exact Yu)
theorem C8{D:List Nat}{st:St}{l:SL}(e:l.op.hard=false):A6 E (some D) l st=(BF E l st.fr (AN (some (af l.op D)) st.ob)).bind (put st l.dst):=by
 unfold A6 BF;simp only[Aq]
 cases l.guard with
 |none=>exact Jr e
 |some p=>
  obtain⟨g,d⟩:=p;simp only;generalize st.fr g=q
  cases q with
  |c v=>
   cases v with
   |bool b=>
    simp only;split
    ·exact Jr e
    ·rfl
   |tup l=>cases l<;>rfl
   |_=>rfl
  |_=>rfl
theorem DQ{G:Nat->List CV}{fr fr':Nat->SV}(x:SO)(h:∀i∈x.slot,fr i=fr' i):so G fr x=so G fr' x:=by
 cases x with
 |t i=>exact h i (by simp[SO.slot])
 |_=>rfl
theorem GG{b β:Type}{f g:b->Option β}:∀(l:List b),(∀x∈l,f x=g x)->A5 f l=A5 g l
 | [],_=>rfl
 |x::l,h=>by
  simp only[A5,h x (by simp),GG l (fun y c=>h y (by simp[c]))]
theorem OT{b:Type}{f g:b->Bool}:∀(l:List b),(∀x∈l,f x=g x)->l.all f=l.all g
 | [],_=>rfl
 |x::l,h=>by
  simp only[List.all_cons,h x (by simp),OT l (fun y c=>h y (by simp[c]))]
theorem KH{ρ b:SO->SV}(o:Option SO)(h:∀x,(∀i∈x.slot,i∈KG o)->ρ x=b x):o.map ρ=o.map b:=by
 cases o with
 |none=>rfl
 |some x=>simp[h x (fun i hi=>by simpa[KG]using hi)]
theorem Yv{rd:Nat->Ob}{fr fr':Nat->SV}{d:Option Nat}(op:aa)(h:∀i∈op.slots,fr i=fr' i):AJ E rd (so E.G fr) d op=AJ E rd (so E.G fr') d op:=by
 have key:∀x:SO,(∀i∈x.slot,i∈op.slots)->so E.G fr x=so E.G fr' x:=fun x u=>DQ x fun i hi=>h i (u i hi);generalize so E.G fr=ρ at key⊢;generalize so E.G fr'=ρ' at key⊢
 cases op with
 |mov x=>simp only[AJ,aa.cls,A2,key x (fun i hi=>by simp[aa.slots,hi])]
 |pick c x y=>simp only[AJ,aa.cls,A2,key c (fun i hi=>by simp[aa.slots,hi]),key x (fun i hi=>by simp[aa.slots,hi]),key y (fun i hi=>by simp[aa.slots,hi])]
 |bin op x y=>simp only[AJ,aa.cls,A2,key x (fun i hi=>by simp[aa.slots,hi]),key y (fun i hi=>by simp[aa.slots,hi])]
 |eqs n ts x y=>simp only[AJ,aa.cls,A2,key x (fun i hi=>by simp[aa.slots,hi]),key y (fun i hi=>by simp[aa.slots,hi])]
 |beq n x y=>simp only[AJ,aa.cls,A2,key x (fun i hi=>by simp[aa.slots,hi]),key y (fun i hi=>by simp[aa.slots,hi])]
 |isnil k n x=>simp only[AJ,aa.cls,A2,key x (fun i hi=>by simp[aa.slots,hi])]
 |un op x=>simp only[AJ,aa.cls,A2,key x (fun i hi=>by simp[aa.slots,hi])]
 |cvi k x=>simp only[AJ,aa.cls,A2,key x (fun i hi=>by simp[aa.slots,hi])]
 |cvrune x=>simp only[AJ,aa.cls,A2,key x (fun i hi=>by simp[aa.slots,hi])]
 |cvbs x=>simp only[AJ,aa.cls,A2,key x (fun i hi=>by simp[aa.slots,hi])]
 |cvid x=>simp only[AJ,aa.cls,A2,key x (fun i hi=>by simp[aa.slots,hi])]
 |field o s x=>simp only[AJ,aa.cls,A2,key x (fun i hi=>by simp[aa.slots,hi])]
 |ext x j=>simp only[AJ,aa.cls,A2,key x (fun i hi=>by simp[aa.slots,hi])]
 |faddr o x=>simp only[AJ,aa.cls,A2,key x (fun i hi=>by simp[aa.slots,hi])]
 |iaddr s x y=>simp only[AJ,aa.cls,A2,key x (fun i hi=>by simp[aa.slots,hi]),key y (fun i hi=>by simp[aa.slots,hi])]
 |aaddr l s x y=>simp only[AJ,aa.cls,A2,key x (fun i hi=>by simp[aa.slots,hi]),key y (fun i hi=>by simp[aa.slots,hi])]
 |sidx x y=>simp only[AJ,aa.cls,A2,key x (fun i hi=>by simp[aa.slots,hi]),key y (fun i hi=>by simp[aa.slots,hi])]
 |aidx l s z x y=>simp only[AJ,aa.cls,A2,key x (fun i hi=>by simp[aa.slots,hi]),key y (fun i hi=>by simp[aa.slots,hi])]
 |load s x=>simp only[AJ,aa.cls,A2,key x (fun i hi=>by simp[aa.slots,hi])]
 |len k x=>simp only[AJ,aa.cls,A2,key x (fun i hi=>by simp[aa.slots,hi])]
 |lookup mt kt z ok x y=>simp only[AJ,aa.cls,A2,key x (fun i hi=>by simp[aa.slots,hi]),key y (fun i hi=>by simp[aa.slots,hi])]
 |alloc z=>rfl
 |allocT T z=>rfl
 |box x=>simp only[AJ,aa.cls,By,key x (fun i hi=>by simp[aa.slots,hi])]
 |mkmap mt kt z=>rfl
 |make e s b z x y=>simp only[AJ,aa.cls,By,key x (fun i hi=>by simp[aa.slots,hi]),key y (fun i hi=>by simp[aa.slots,hi])]
 |bytes e x=>simp only[AJ,aa.cls,A2,key x (fun i hi=>by simp[aa.slots,hi])]
 |nchk x=>simp only[AJ,aa.cls,A2,key x (fun i hi=>by simp[aa.slots,hi])]
 |siter x=>simp only[AJ,aa.cls,By,key x (fun i hi=>by simp[aa.slots,hi])]
 |mrange x=>simp only[AJ,aa.cls,By,key x (fun i hi=>by simp[aa.slots,hi])]
 |mentry x=>simp only[AJ,aa.cls,A2,key x (fun i hi=>by simp[aa.slots,hi])]
 |nbytes e x=>simp only[AJ,aa.cls,By,key x (fun i hi=>by simp[aa.slots,hi])]
 |store n x y=>rfl
 |append e s b x y=>rfl
 |loadb s x=>simp only[AJ,aa.cls,A2,key x (fun i hi=>by simp[aa.slots,hi])]
 |cpy e s x y=>rfl
 |mapent mt x y=>rfl
 |entst x y z=>rfl
 |mapupd mt x y z=>rfl
 |mcopy f x y=>rfl
 |snext x=>rfl
 |asl n x=>simp only[AJ,aa.cls,A2,key x (fun i hi=>by simp[aa.slots,hi])]
 |sslice x lo hi=>
  have r:=KH lo (fun y q=>key y (fun i hi=>by simp[aa.slots,q i hi]));have t:=KH hi (fun y q=>key y (fun i hi=>by simp[aa.slots,q i hi]));simp only[AJ,aa.cls,A2,key x (fun i hi=>by simp[aa.slots,hi]),r,t]
 |slice s x lo hi=>
  have r:=KH lo (fun y q=>key y (fun i hi=>by simp[aa.slots,q i hi]));have t:=KH hi (fun y q=>key y (fun i hi=>by simp[aa.slots,q i hi]));simp only[AJ,aa.cls,A2,key x (fun i hi=>by simp[aa.slots,hi]),r,t]
 |slice3 s x lo hi mx=>
  have r:=KH lo (fun y q=>key y (fun i hi=>by simp[aa.slots,q i hi]));simp only[AJ,aa.cls,A2,key x (fun i hi=>by simp[aa.slots,hi]),r,key hi (fun i h=>by simp[aa.slots,h]),key mx (fun i h=>by simp[aa.slots,h])]
 |capp e s b x y=>simp only[AJ,aa.cls,A2,key x (fun i hi=>by simp[aa.slots,hi]),key y (fun i hi=>by simp[aa.slots,hi])]
 |build z ps=>
  simp only[AJ,aa.cls,A2];rw[GG ps (fun p g=>by rw[key p.2.2 (fun i hi=>by simp only[aa.slots,List.mem_flatMap];exact⟨p,g,hi⟩)])]
 |minmax m xs=>
  simp only[AJ,aa.cls,A2];rw[GG xs (fun p g=>by rw[key p (fun i hi=>by simp only[aa.slots,List.mem_flatMap];exact⟨p,g,hi⟩)])]
 |fnv f xs=>
  simp only[AJ,aa.cls,A2];rw[GG xs (fun p g=>by rw[key p (fun i hi=>by simp only[aa.slots,List.mem_flatMap];exact⟨p,g,hi⟩)])]
 |lsl e s xs=>
  simp only[AJ,aa.cls,A2];rw[GG xs (fun p g=>by rw[key p (fun i hi=>by simp only[aa.slots,List.mem_flatMap];exact⟨p,g,hi⟩)])]
 |mksl e s xs=>
  simp only[AJ,aa.cls,By];rw[GG xs (fun p g=>by rw[key p (fun i hi=>by simp only[aa.slots,List.mem_flatMap];exact⟨p,g,hi⟩)])]
 |call f xs=>
  simp only[AJ,aa.cls,Hq]
  rw[GG xs (fun p g=>by rw[key p (fun i hi=>by simp only[aa.slots,List.mem_flatMap];exact⟨p,g,hi⟩)]),
   OT xs (fun p g=>by rw[key p (fun i hi=>by simp only[aa.slots,List.mem_flatMap];exact⟨p,g,hi⟩)])]
 |callv f xs=>
  simp only[AJ,aa.cls,Hq]
  rw[GG xs (fun p g=>by rw[key p (fun i hi=>by simp only[aa.slots,List.mem_append,List.mem_flatMap];exact .inr ⟨p,g,hi⟩)]),
   OT xs (fun p g=>by rw[key p (fun i hi=>by simp only[aa.slots,List.mem_append,List.mem_flatMap];exact .inr ⟨p,g,hi⟩)]),
   key f (fun i hi=>by simp[aa.slots,hi])]
theorem Ga{rd:Nat->Ob}{fr fr':Nat->SV}{l:SL}(h:∀i∈l.looks,fr i=fr' i):BF E l fr rd=BF E l fr' rd:=by
 have c:∀i∈l.op.slots,fr i=fr' i:=fun i hi=>h i (by simp[SL.looks,hi]);unfold BF
 cases d:l.guard with
 |none=>exact Yv _ c
 |some p=>
  obtain⟨g,b⟩:=p;simp only;rw[h g (by simp[SL.looks,d]),Yv _ c]
theorem Xp{D:List Nat}{st st':St}{d:Option Nat}{p:SV×Option Ob}(h:put st d p=some st')(b:p.2.isSome=true->∀j,d=some j->D.contains j=true):AN (some D) st'.ob=AN (some D) st.ob:=by
 obtain⟨v,o⟩:=p
 cases o with
 |none=>
  simp only[put,Ac]at h;subst h;cases d<;>rfl
 |some o=>
  simp only[put,B1]at h
  cases d with
  |none=>cases h
  |some d=>
   simp only at h;split at h<;>(try cases h;done);cases h;have:=b rfl d rfl;funext i;simp only[AN,Cc];split
   ·rfl
   ·rename_i hi;split
    ·rename_i e;subst e;exact(hi this).elim
    ·rfl
theorem Dj{st st':St}{d:Option Nat}{p:SV×Option Ob}(h:put st d p=some st'){i:Nat}(hi:d≠some i):st'.fr i=st.fr i:=by
 obtain⟨v,o⟩:=p
 cases o with
 |none=>
  simp only[put,Ac]at h;subst h
  cases d with
  |none=>rfl
  |some d=>exact AL _ _ (fun e=>hi (by rw[e]))
 |some o=>
  simp only[put,B1]at h
  cases d with
  |none=>cases h
  |some d=>
   simp only at h;split at h<;>(try cases h;done);cases h;exact AL _ _ (fun e=>hi (by rw[e]))
theorem Gb{b:Type}(f:Nat->b){i j:Nat}(u v:b)(h:i≠j):ac (ac f i u) j v=ac (ac f j v) i u:=by
 funext k;simp only[Cc];by_cases d:k=i<;>by_cases c:k=j<;>simp_all
theorem Xm{st t k:St}{h g:Option Nat}{m l:SV×Option Ob}(d:put st h m=some t)(b:put t g l=some k)(u:∀i j,h=some i->g=some j->i≠j):∃s,put st g l=some s/\put s h m=some k:=by
 obtain⟨v,p⟩:=m;obtain⟨r,e⟩:=l
 cases h with
 |none=>
  cases p with
  |none=>
   simp only[put,Ac]at d;cases d;exact⟨k,b,rfl⟩
  |some o=>cases d
 |some i=>
  cases g with
  |none=>
   cases e with
   |none=>
    simp only[put,Ac]at b;cases b;exact⟨st,rfl,d⟩
   |some o=>cases b
  |some j=>
   have c:=u i j rfl rfl
   cases p with
   |none=>
    simp only[put,Ac]at d;cases d
    cases e with
    |none=>
     simp only[put,Ac]at b;cases b;exact⟨_,rfl,by simp[put,St.set,Gb _ _ _ c]⟩
    |some e=>
     simp only[put,B1,St.set]at b;split at b<;>(try cases b;done);rename_i f;cases b;exact⟨{fr:=ac st.fr j r,ob:=ac st.ob j e},by simp[put,B1,f],by simp[put,St.set,Gb _ _ _ c]⟩
   |some p=>
    simp only[put,B1]at d;split at d<;>(try cases d;done);rename_i f;cases d
    cases e with
    |none=>
     simp only[put,Ac]at b;cases b;exact⟨_,rfl,by simp[put,B1,St.set,f,Gb _ _ _ c]⟩
    |some e=>
     simp only[put,B1,AL _ _ (Ne.symm c)]at b;split at b<;>(try cases b;done);rename_i q;cases b;exact⟨{fr:=ac st.fr j r,ob:=ac st.ob j e},by simp[put,B1,q],by simp[put,B1,AL _ _ c,f,Gb _ _ _ c]⟩
theorem Yw{rd:Nat->Ob}{ρ:SO->SV}{d:Option Nat}{op:aa}{p:SV×Option Ob}(h:AJ E rd ρ d op=some p)(b:p.2.isSome=true):op.makes=true:=by
 cases op<;>simp only[AJ,aa.cls,Aa,reduceCtorEq]at h<;>first
  |rfl
  |(obtain⟨v,_,rfl⟩:=h;cases b)
theorem Ik{l:SL}{fr:Nat->SV}{rd:Nat->Ob}{p:SV×Option Ob}(h:BF E l fr rd=some p)(b:p.2.isSome=true):l.op.makes=true:=by
 unfold BF at h;split at h
 ·exact Yw h b
 ·split at h
  ·split at h
   ·exact Yw h b
   ·cases h;cases b
  ·cases h;cases b
  ·cases h
theorem Ajo{D:List Nat}{a b:SL}{st r q:St}(u:a.op.hard=false)(t:b.op.hard=false)(m:a.op.makes=true->∀j,a.dst=some j->(af b.op D).contains j=true)(l:b.op.makes=true->∀j,b.dst=some j->(af a.op D).contains j=true)
  (f:∀i,a.dst=some i->i∉b.looks/\b.dst≠some i) (k:∀i,b.dst=some i->i∉a.looks) (c:A6 E (some D) a st=some r) (g:A6 E (some D) b r=some q):
  ∃s,A6 E (some D) b st=some s/\A6 E (some D) a s=some q:=by
 rw[C8 u,Ab]at c;rw[C8 t,Ab]at g;obtain⟨F,v,c⟩:=c;obtain⟨C,p,g⟩:=g;have y:=Xp (D:=af b.op D) c (fun h j d=>m (Ik v h) j d);rw[y,Ga (fr':=st.fr) (fun i hi=>Dj c (fun e=>(f i e).1 hi))]at p;obtain⟨s,o,B⟩:=Xm c g (fun i j hi d e=>(f i hi).2 (by rw[d,e]));have x:=Xp (D:=af a.op D) o (fun h j d=>l (Ik p h) j d);refine⟨s, ?_, ?_⟩
 ·rw[C8 t,p];exact o
 ·rw[C8 u,x,Ga (fr':=st.fr) (fun i hi=>Dj o (fun e=>k i e hi)),v];exact B
end
def gd(l:SL)(fr:Nat->SV):Option Bool:=
 match l.guard with
 |none=>some true
 |some (g,want)=>match fr g with
  | .c (.bool b)=>some (decide (b=want))
  | .c (.tup [])=>some false
  |_=>none
section
variable {E:ah}
theorem Gv{D:Option (List Nat)}{l:SL}{st:St}:A6 E D l st=(gd l st.fr).bind fun t=>if t=true then AM (E.at D) (AN (D.map (af l.op)) st.ob) st l.dst l.op else some (st.set l.dst Bs):=by
 unfold A6 gd
 cases l.guard with
 |none=>rfl
 |some p=>
  obtain⟨g,d⟩:=p;simp only;generalize st.fr g=q
  cases q with
  |c v=>
   cases v with
   |bool b=>by_cases e:b=d<;>simp[e]
   |tup l=>cases l<;>rfl
   |_=>rfl
  |_=>rfl
theorem HM{l:SL}{fr fr':Nat->SV}(h:∀i∈l.looks,fr i=fr' i):gd l fr=gd l fr':=by
 unfold gd
 cases c:l.guard with
 |none=>rfl
 |some p=>
  obtain⟨g,b⟩:=p;simp only;rw[h g (by simp[SL.looks,c])]
theorem VL{kt:KT}{k c:CV}:∀(ks:List CV),AV kt k (ks++ [c])=match AV kt k ks with
  |some i=>some i
  |none=>if CC kt k c then some ks.length else none
 | []=>by simp[AV]
 |a::ks=>by
  simp only[List.cons_append,AV,VL ks];split
  ·rfl
  ·cases AV kt k ks with
   |some i=>rfl
   |none=>
    simp only[Option.map_none];split<;>simp
theorem Afl{kt:KT}{z:CV}{ks vs:List CV}(k b:CV)(e:ks.length=vs.length):(AZ kt z (Bp kt ks k) (Bq kt ks vs k (AZ kt z ks vs k).1) b).1=(AZ kt z ks vs b).1:=by
 unfold Bp Bq
 cases d:AV kt k ks with
 |some i=>
  have:(AZ kt z ks vs k).1=vs.getD i z:=by simp[AZ,d]
  rw[this];have hi:=MH d
  have:vs.set i (vs.getD i z)=vs:=by
   rw[List.getD_eq_getElem?_getD,Aj (by omega:i<vs.length)];simp
  simp only[this]
 |none=>
  have:(AZ kt z ks vs k).1=z:=by simp[AZ,d]
  rw[this];simp only[AZ,VL]
  cases c:AV kt b ks with
  |some j=>
   have g:=MH c;simp[List.getD_eq_getElem?_getD,List.getElem?_append_left (by omega:j<vs.length)]
  |none=>
   simp only;by_cases f:CC kt b k<;>simp[f,List.getD_eq_getElem?_getD,e]
theorem ZA{rd rd':Nat->Ob}{mt:TypeId}{kt:KT}{z:CV}{ks vs:List CV}{k:CV}(j:ks.length=vs.length)
  (h:∀i,rd' i=rd i\/(rd i=.map mt kt z ks vs/\rd' i=.map mt kt z (Bp kt ks k) (Bq kt ks vs k (AZ kt z ks vs k).1))) {ρ:SO->SV} {d:Option Nat} {op:aa} (b:op.calm=true):AJ E rd' ρ d op=AJ E rd ρ d op:=by
 cases op<;>simp only[aa.calm,Ah]at b<;>try rfl
 rename_i f g z' ok x y;cases ok<;>simp only[Ah]at b;simp only[AJ,aa.cls,A2]
 congr 2
 generalize ρ x=q1;generalize ρ y=q2
 cases q1 with
 |omap id=>
  cases q2 with
  |c kc=>
   rcases h id with e|⟨e1,e2⟩
   ·simp only[Ey,e]
   ·simp only[Ey,e1,e2,Ah,if_false,Afl k kc j]
  |_=>rfl
 |c v=>cases v<;>cases q2<;>rfl
 |_=>rfl
theorem Aji{D:List Nat}{a b:SL}{st C X:St}(U:a.op.calm=true)(hb:b.op.entry=true)
  (K:∀i,a.dst=some i->i∉b.looks/\b.dst≠some i) (J:∀i,b.dst=some i->i∉a.looks) (q:A6 E (some D) a st=some C) (g:A6 E (some D) b C=some X):
  ∃s,A6 E (some D) b st=some s/\A6 E (some D) a s=some X:=by
 have B:a.op.hard=false:=by
  revert U;cases a.op<;>simp[aa.calm,aa.hard]
 have S:a.op.makes=false:=by
  revert U;cases a.op<;>simp[aa.calm,aa.makes]
 rw[C8 B,Ab]at q;obtain⟨⟨v,o⟩,W,q⟩:=q
 have ho:o=none:=by
  cases o with
  |none=>rfl
  |some o=>have:=Ik W rfl;rw[S]at this;cases this
 subst ho;have I:∀i∈b.looks,C.fr i=st.fr i:=fun i hi=>Dj q (fun e=>(K i e).1 hi);simp only[put,Ac]at q;have F:C.ob=st.ob:=by subst q;cases a.dst<;>rfl
 rw[Gv,HM I,Ab]at g;obtain⟨t,Z,g⟩:=g;have l:∀i j,b.dst=some i->a.dst=some j->i≠j:=fun i j hi hj e=>(K j hj).2 (by rw[hi,e])
 cases t with
 |false=>
  simp only[Ah,if_false,Ac]at g;refine⟨st.set b.dst Bs,by rw[Gv,Z];rfl, ?_⟩;have g1:put st b.dst (Bs,none)=some (st.set b.dst Bs):=rfl;have hm:(st.set b.dst Bs).ob=st.ob:=by cases b.dst<;>rfl
  rw[C8 B,hm,Ga (fr':=st.fr) (fun i hi=>Dj g1 (fun e=>J i e hi)),W]
  have hc:∀(x y:Option Nat) (u v:SV),(∀i j,x=some i->y=some j->i≠j)->(st.set x u).set y v=(st.set y v).set x u:=by
   intro x y u v L;cases x<;>cases y<;>try rfl
   simp only[St.set,Gb _ _ _ (L _ _ rfl rfl)]
  simp only[Ap,put,<-g,<-q,hc _ _ _ _ l]
 |true=>
  simp only[if_true]at g;cases m:b.op<;>simp only[m,aa.entry,Ah]at hb;rename_i mt x k
  have f:∀y:SO,(y=x\/y=k)->so E.G C.fr y=so E.G st.fr y:=fun y hy=>DQ y fun i hi=>I i (by
   simp only[SL.looks,m,aa.slots,List.mem_append];rcases hy with rfl|rfl
   ·exact .inl (.inl hi)
   ·exact .inl (.inr hi))
  simp only[m,AM,aa.cls,AY,D4,f x (.inl rfl),f k (.inr rfl),F]at g;cases Y:so E.G st.fr x<;>simp only[Y,reduceCtorEq]at g;cases H:so E.G st.fr k<;>simp only[H,reduceCtorEq]at g;rename_i id c;cases h:st.ob id<;>simp only[h,reduceCtorEq]at g;rename_i d kt z ks vs;simp only[Ae,Ac]at g;obtain⟨⟨rfl,Q,p⟩,g⟩:=g;refine⟨St.set {st with ob:=ac st.ob id (.map d kt z (Bp kt ks c) (Bq kt ks vs c (AZ kt z ks vs c).1))} b.dst (.ent id c (AZ kt z ks vs c).1), ?_, ?_⟩
  ·rw[Gv,Z];simp[m,AM,aa.cls,AY,Y,H,h,Q,p]
  ·have O:∀i∈a.looks,(St.set {st with ob:=ac st.ob id (.map d kt z (Bp kt ks c) (Bq kt ks vs c (AZ kt z ks vs c).1))} b.dst (.ent id c (AZ kt z ks vs c).1)).fr i=st.fr i:=by
    intro i hi
    cases r:b.dst with
    |none=>rfl
    |some j=>exact AL _ _ (fun e=>J j r (e▸hi))
   have N:(St.set {st with ob:=ac st.ob id (.map d kt z (Bp kt ks c) (Bq kt ks vs c (AZ kt z ks vs c).1))} b.dst (.ent id c (AZ kt z ks vs c).1)).ob=ac st.ob id (.map d kt z (Bp kt ks c) (Bq kt ks vs c (AZ kt z ks vs c).1)):=by
    cases b.dst<;>rfl
   have M:∀i,AN (some (af a.op D)) (ac st.ob id (.map d kt z (Bp kt ks c) (Bq kt ks vs c (AZ kt z ks vs c).1))) i=AN (some (af a.op D)) st.ob i\/(AN (some (af a.op D)) st.ob i=.map d kt z ks vs/\AN (some (af a.op D)) (ac st.ob id (.map d kt z (Bp kt ks c) (Bq kt ks vs c (AZ kt z ks vs c).1))) i=.map d kt z (Bp kt ks c) (Bq kt ks vs c (AZ kt z ks vs c).1)):=by
    intro i;simp only[AN,Cc];by_cases hi:(af a.op D).contains i=true
    ·simp only[hi,if_true];exact .inl trivial
    ·by_cases e:i=id
     ·subst e;rw[An hi,An hi,Ao rfl];exact .inr ⟨h,rfl⟩
     ·rw[An hi,An hi,An e];exact .inl rfl
   have V:BF E a st.fr (AN (some (af a.op D)) (ac st.ob id (.map d kt z (Bp kt ks c) (Bq kt ks vs c (AZ kt z ks vs c).1))))=some (v,none):=by
    rw[<-W];unfold BF;simp only[ZA p M U]
   rw[C8 B,N,Ga O,V];simp only[Ap,put,<-g,<-q]
   congr 1
   cases r:b.dst<;>cases T:a.dst<;>try rfl
   simp only[St.set,Gb _ _ _ (l _ _ r T)]
end
section
variable {E:ah}
theorem St.set_comm(st:St):∀(x y:Option Nat) (u v:SV),(∀i j,x=some i->y=some j->i≠j)->(st.set x u).set y v=(st.set y v).set x u:=by
 intro x y u v b;cases x<;>cases y<;>try rfl
 simp only[St.set,Gb _ _ _ (b _ _ rfl rfl)]
theorem Ai7{d d':Option Nat}{ρ b:SO->SV}{st st' s:St}{n:Nat}{x y:SO}(m:ρ x=b x)(l:ρ y=b y)(e:st.ob=st'.ob)(h:AY d ρ st (.store n x y)=some s):
  s.fr=st.fr/\AY d' b st' (.store n x y)=some {fr:=st'.fr,ob:=s.ob}:=by
 simp only[AY,m,l,e]at h⊢;generalize deref st'.ob (b x)=q at h⊢;cases q<;>(try(cases h;done))
 ·rename_i r;cases r<;>(try cases h;done);rename_i cs
  cases cs with
  |nil=>cases h
  |cons c0 cs=>
   cases cs with
   |cons _ _=>cases c0<;>cases h
   |nil=>
    cases c0<;>(try cases h;done);cases c:b y<;>simp only[c]at h⊢ <;>(try cases h;done);rename_i t;cases t<;>(try cases h;done);simp only[Ae,Ac]at h⊢;obtain⟨g,rfl⟩:=h;exact⟨rfl,g,by rw[e]⟩
 ·rename_i id o;cases j:st'.ob id<;>simp only[j,reduceCtorEq]at h⊢;cases c:b y<;>simp only[c,reduceCtorEq]at h⊢;all_goals(repeat' (split at h))<;>(try cases h)<;>simp_all
 ·rename_i id i size o;cases j:st'.ob id<;>simp only[j,reduceCtorEq]at h⊢;cases c:b y<;>simp only[c,reduceCtorEq]at h⊢;split at h
  ·rename_i g;rw[Ab]at h;obtain⟨u,p,k⟩:=h;split at k
   ·rename_i f;cases k;simp[g,p,f]
   ·cases k
  ·cases h
theorem Ai6{a:SL}(b:a.op.still=true){fr:Nat->SV}{rd rd':Nat->Ob}:BF E a fr rd=BF E a fr rd':=by
 have key:∀ρ d,AJ E rd ρ d a.op=AJ E rd' ρ d a.op:=by
  intro ρ d;revert b;cases a.op<;>simp[aa.still,AJ,aa.cls,A2]
 unfold BF;simp only[key]
theorem Ajp{D:List Nat}{a b:SL}{st l m:St}(C:a.op.still=true)(O:b.op.stores=true)
  (r:∀i,a.dst=some i->i∉b.looks/\b.dst≠some i) (u:∀i,b.dst=some i->i∉a.looks) (g:A6 E (some D) a st=some l) (f:A6 E (some D) b l=some m):
  ∃s,A6 E (some D) b st=some s/\A6 E (some D) a s=some m:=by
 have h:a.op.hard=false:=by
  revert C;cases a.op<;>simp[aa.still,aa.hard]
 have B:a.op.makes=false:=by
  revert C;cases a.op<;>simp[aa.still,aa.makes]
 rw[C8 h,Ab]at g;obtain⟨⟨v,o⟩,F,g⟩:=g
 have L:o=none:=by
  cases o with
  |none=>rfl
  |some o=>have:=Ik F rfl;rw[B]at this;cases this
 subst L;have q:∀i∈b.looks,l.fr i=st.fr i:=fun i hi=>Dj g (fun e=>(r i e).1 hi);simp only[put,Ac]at g;have p:l.ob=st.ob:=by subst g;cases a.dst<;>rfl
 rw[Gv,HM q,Ab]at f;obtain⟨t,H,f⟩:=f;have k:∀i j,b.dst=some i->a.dst=some j->i≠j:=fun i j hi N e=>(r j N).2 (by rw[hi,e])
 cases t with
 |false=>
  simp only[Ah,if_false,Ac]at f;refine⟨st.set b.dst Bs,by rw[Gv,H];rfl, ?_⟩;have Q:put st b.dst (Bs,none)=some (st.set b.dst Bs):=rfl;have M:(st.set b.dst Bs).ob=st.ob:=by cases b.dst<;>rfl
  rw[C8 h,M,Ga (fr':=st.fr) (fun i hi=>Dj Q (fun e=>u i e hi)),F];simp only[Ap,put,<-f,<-g,St.set_comm st _ _ _ _ k]
 |true=>
  simp only[if_true]at f;cases d:b.op<;>simp only[d,aa.stores,Ah]at O;rename_i n x y
  have c:∀z:SO,(z=x\/z=y)->so E.G l.fr z=so E.G st.fr z:=fun z K=>DQ z fun i hi=>q i (by
   simp only[SL.looks,d,aa.slots,List.mem_append];rcases K with rfl|rfl
   ·exact .inl (.inl hi)
   ·exact .inl (.inr hi))
  simp only[d,AM,aa.cls]at f;obtain⟨J,I⟩:=Ai7 (d':=b.dst) (c x (.inl rfl)) (c y (.inr rfl)) p f;refine⟨{fr:=st.fr,ob:=m.ob},by rw[Gv,H];simp only[Ap,if_true,d,AM,aa.cls];exact I, ?_⟩;rw[C8 h,Ai6 C (rd':=AN (some (af a.op D)) st.ob),F];simp only[Ap,put]
  congr 1
  have:m={fr:=l.fr,ob:=m.ob}:=by rw[<-J]
  rw[this,<-g];cases a.dst<;>rfl
def Gm(st:St)(d:Option Nat)(e size bytes:Nat)(f b:SV):Option (Nat×Ob):=
 match CF st b with
 |none=>none
 |some news=>
  if(news.all (fun v=>Bk v==size)&&news.all fun v=>v.cells.all C7)=true then
   match f with
   | .c (.sl (some true) _)=>
     if news.length*bytes<=140737488355328/\news.length<=4611686018427387904 then
      match d with
      |some d=>some (d,.arr e size news)
      |none=>none
     else none
   | .osl id=>match st.ob id with
     | .arr e' size' es=>
      if e'=e/\size'=size/\(es.length+news.length)*bytes<=140737488355328/\es.length+news.length<=4611686018427387904 then some (id,.arr e size (es++news))else none
     |_=>none
   |_=>none
  else none
def Dw(st:St)(d:Option Nat)(p:Nat×Ob):St:=St.set {fr:=fun i=>AD [p.1] (st.fr i),ob:=ac (kill [p.1] st).ob p.1 p.2} d (.osl p.1)
theorem LL{d:Option Nat}{ρ:SO->SV}{st:St}{e size bytes:Nat}{x y:SO}:AY d ρ st (.append e size bytes x y)=(Gm st d e size bytes (ρ x) (ρ y)).map (Dw st d):=by
 simp only[AY,Gm]
 cases CF st (ρ y)with
 |none=>rfl
 |some news=>
  simp only;split
  ·generalize ρ x=q;split
   ·split
    ·cases d<;>rfl
    ·rfl
   ·rename_i id
    cases c:st.ob id with
    |arr e' size' es=>
     simp only[c];by_cases b:e'=e/\size'=size/\(es.length+news.length)*bytes<=140737488355328/\es.length+news.length<=4611686018427387904
     ·rw[Ao b,Ao b];rfl
     ·rw[An b,An b];rfl
    |_=>simp only[c];rfl
   ·rename_i g f;split
    ·exact(g _ rfl).elim
    ·exact(f _ rfl).elim
    ·rfl
  ·rfl
theorem Af5{st st':St}{v:SV}{news:List CV}(c:∀i e s es,st.ob i=.arr e s es->st'.ob i=.arr e s es)(h:CF st v=some news):CF st' v=some news:=by
 unfold CF at h⊢;split at h
 ·exact h
 ·split at h
  ·rename_i b;rw[c _ _ _ _ b];exact h
  ·cases h
 ·cases h
theorem OU{st st':St}{d:Option Nat}{e size bytes:Nat}{g c:SV}{p:Nat×Ob}(j:∀i e s es,st.ob i=.arr e s es->st'.ob i=.arr e s es)(h:Gm st d e size bytes g c=some p):Gm st' d e size bytes g c=some p:=by
 unfold Gm at h⊢
 cases f:CF st c with
 |none=>rw[f]at h;cases h
 |some news=>
  rw[f]at h;rw[Af5 j f];simp only at h⊢;split at h
  ·rename_i k;rw[Ao k];split at h
   ·exact h
   ·rename_i id;cases b:st.ob id<;>simp only[b,reduceCtorEq]at h;rw[j _ _ _ _ b];exact h
   ·cases h
  ·cases h
theorem Zh{st:St}{d:Option Nat}{e size bytes:Nat}{c b:SV}{p:Nat×Ob}(h:Gm st d e size bytes c b=some p):∃es,p.2=.arr e size es:=by
 unfold Gm at h;split at h
 ·cases h
 ·split at h
  ·split at h
   ·split at h
    ·split at h
     ·cases h;exact⟨_,rfl⟩
     ·cases h
    ·cases h
   ·split at h
    ·split at h
     ·cases h;exact⟨_,rfl⟩
     ·cases h
    ·cases h
   ·cases h
  ·cases h
theorem Ut{D:List Nat}{v:SV}{c:CV}(h:closed (AD D v)=some c):closed v=some c:=by
 cases v<;>simp only[AD]at h<;>first
  |exact h
  |(split at h<;>simp[closed]at h)
theorem TQ{b β:Type}{f g:b->Option β}:∀{l:List b} {r:List β},(∀x c,f x=some c->g x=some c)->A5 f l=some r->A5 g l=some r
 | [],_,_,h=>h
 |x::l,r,hfg,h=>by
  simp only[A5,Ab,Aa]at h⊢;obtain⟨c,i,bs,e,d⟩:=h;exact⟨c,hfg x c i,bs,TQ hfg e,d⟩
theorem Ajw{D:List Nat}{b:aa}(ht:b.tame=true){d:Option Nat}{st:St}{id:Nat}{e s:Nat}{es:List CV}{V:SV}{o':Option Ob}(W:o'.isSome=true->∀j,d=some j->j≠id)(L:o'.isSome=true->d≠none)
  (h:AJ E (AN (some D) (ac (kill [id] st).ob id (.arr e s es))) (so E.G fun i=>AD [id] (st.fr i)) d b=some (V,o')):
  ∃v o,AJ E (AN (some D) st.ob) (so E.G st.fr) d b=some (v,o)/\V=AD [id] v/\o'=o.map (Cp [id]):=by
 have f:∀x,so E.G (fun i=>AD [id] (st.fr i)) x=AD [id] (so E.G st.fr x):=by
  intro x
  cases x with
  |t i=>rfl
  |k c=>rfl
  |g i=>simp only[so];cases E.G i<;>rfl
 have M:∀{n k:Nat} {o:Option SO},C4 n (o.map fun x=>AD [id] (so E.G st.fr x))=some k->C4 n (o.map (so E.G st.fr))=some k:=by
  intro n k o m
  cases o with
  |none=>exact m
  |some x=>
   simp only[Aq]at m⊢;generalize so E.G st.fr x=q at m⊢
   cases q<;>simp only[AD]at m<;>first
    |exact m
    |(split at m<;>cases m)
 cases b<;>simp only[aa.tame,Ah]at ht
 case mov x=>
  simp only[AJ,aa.cls,A2,f,Aq,Ac,Prod.mk.injEq]at h;obtain⟨rfl,rfl⟩:=h;exact⟨so E.G st.fr x,none,by simp[AJ,aa.cls,A2],rfl,rfl⟩
 case slice size x lo hi=>
  simp only[AJ,aa.cls,A2,f,Aa,Prod.mk.injEq]at h;obtain⟨r,h,rfl,rfl⟩:=h
  have hx:∀I l,AD [id] (so E.G st.fr x)=.c (.sl I l)->so E.G st.fr x=.c (.sl I l):=by
   intro I l m;generalize so E.G st.fr x=q at m⊢
   cases q<;>simp only[AD]at m<;>first
    |exact m
    |(split at m<;>cases m)
  split at h<;>(try cases h;done);rename_i I l hq;obtain⟨Z,F,h⟩:=Ab.1 h;obtain⟨Y,u,h⟩:=Ab.1 h;have C:C4 l.length (hi.map (so E.G st.fr))=some Z:=M (by rw[<-funext f];exact F);have U:C4 0 (lo.map (so E.G st.fr))=some Y:=M (by rw[<-funext f];exact u);split at h<;>(try cases h;done);rename_i S;cases h;refine⟨.c (.sl I ((l.take Z).drop Y)),none, ?_,rfl,rfl⟩;simp only[AJ,aa.cls,A2,hx _ _ hq,C,U,Ap,Ao S,Aq]
 case load sz x=>
  simp only[AJ,aa.cls,A2,f,Aa,Prod.mk.injEq]at h;obtain⟨r,h,rfl,rfl⟩:=h
  suffices hs:∃v,Bb (AN (some D) st.ob) sz (deref (AN (some D) st.ob) (so E.G st.fr x))=some v/\r=AD [id] v by
   obtain⟨v,Q,O⟩:=hs;exact⟨v,none,by simp[AJ,aa.cls,A2,Q],O,rfl⟩
  generalize so E.G st.fr x=q0 at h⊢
  have p:deref (AN (some D) (ac (kill [id] st).ob id (.arr e s es))) (AD [id] q0)=.undef\/deref (AN (some D) (ac (kill [id] st).ob id (.arr e s es))) (AD [id] q0)=AD [id] (deref (AN (some D) st.ob) q0):=by
   cases q0 with
   |c v=>
    cases v<;>try exact .inr rfl
    rename_i N;simp only[AD,deref];by_cases X:A9<=N/\N % 2=0
    ·simp only[Ao X];by_cases H:D.contains N=true
     ·simp only[AN,H,if_true];exact .inl trivial
     ·simp only[AN,H,Ah,if_false];by_cases y:N=id
      ·subst y;simp only[Be];exact .inl trivial
      ·simp only[AL _ _ y,kill,show([id].contains N)=false by simpa using y,Ah,if_false];cases hob:st.ob N<;>simp only[Cp,AD,show([id].contains N)=false by simpa using y,Ah,if_false]<;>first|exact .inr trivial|exact .inr rfl|exact .inl trivial
    ·simp only[An X];exact .inl trivial
   |ptr j o=>simp only[AD];split<;>simp_all[deref,AD]
   |eptr j i size o=>simp only[AD];split<;>simp_all[deref,AD]
   |osl j=>simp only[AD];split<;>simp_all[deref,AD]
   |omap j=>simp only[AD];split<;>simp_all[deref,AD]
   |iter j=>simp only[AD];split<;>simp_all[deref,AD]
   |stamp j k=>simp only[AD];split<;>simp_all[deref,AD]
   |ent j k v=>simp only[AD];split<;>simp_all[deref,AD]
   |undef=>exact .inl rfl
  rcases p with p|p
  ·rw[p]at h;cases h
  rw[p]at h;clear p;generalize deref (AN (some D) st.ob) q0=q at h⊢
  cases q with
  |c v=>
   have u:Bb (AN (some D) st.ob) sz (.c v)=some r:=by
    cases v<;>simp only[AD,Bb,reduceCtorEq]at h⊢;all_goals exact h
   refine⟨r,u, ?_⟩;cases v<;>simp only[Bb,reduceCtorEq]at u;all_goals(split at u<;>(rw[Aa]at u;obtain⟨c,_,rfl⟩:=u;rfl))
  |ptr j o=>
   simp only[AD]at h;split at h
   ·cases h
   ·rename_i K;have B:j≠id:=fun e=>K (by simp[e]);simp only[Bb,AN,AL _ _ B,kill,K]at h⊢;cases H:D.contains j<;>simp only[H,if_true,Ah,if_false,reduceCtorEq]at h⊢;cases T:st.ob j<;>simp only[T,Cp,reduceCtorEq]at h⊢;rename_i cs
    cases sz with
    |none=>
     simp only[List.getElem?_map,Aa]at h;obtain⟨v,F,rfl⟩:=h;exact⟨v,F,rfl⟩
    |some n=>
     simp only[List.length_map]at h⊢;split at h
     ·rename_i hl;rw[Ao hl];rw[Aa]at h;obtain⟨l,F,rfl⟩:=h;refine⟨.c (.agg l), ?_,rfl⟩
      have:∀(J:List SV) r,A5 closed (J.map (AD [id]))=some r->A5 closed J=some r:=by
       intro J
       induction J with
       |nil=>intro r h;exact h
       |cons a J ih=>
        intro r h;simp only[List.map_cons,A5,Ab,Aa]at h⊢;obtain⟨c,Q,bs,O,k3⟩:=h;exact⟨c,Ut Q,bs,ih bs O,k3⟩
      rw[this _ l (by rw[List.map_take,List.map_drop];exact F)];rfl
     ·cases h
  |eptr j i size o=>
   simp only[AD]at h;split at h
   ·cases h
   ·rename_i K;have B:j≠id:=fun e=>K (by simp[e]);simp only[Bb,AN,AL _ _ B,kill,K]at h⊢;cases H:D.contains j<;>simp only[H,if_true,Ah,if_false,reduceCtorEq]at h⊢;cases T:st.ob j<;>simp only[T,Cp,reduceCtorEq]at h⊢;refine⟨r,h, ?_⟩;split at h
    ·rw[Ab]at h;obtain⟨el,_,h⟩:=h;rw[Aa]at h;obtain⟨c,_,rfl⟩:=h;rfl
    ·cases h
  |undef=>cases h
  |_=>simp only[AD]at h;split at h<;>cases h
 case alloc z=>
  simp only[AJ,aa.cls,By,Aq,Ac,Prod.mk.injEq]at h;obtain⟨rfl,rfl⟩:=h;refine⟨_,_,rfl, ?_, ?_⟩
  ·cases d with
   |none=>exact(L rfl rfl).elim
   |some j=>simp[AD,W rfl j rfl]
  ·simp[Cp,AD,Function.comp_def]
 case mksl e2 s2 parts=>
  simp only[AJ,aa.cls,By,f,Aa,Ab,Prod.mk.injEq]at h;obtain⟨⟨q1,q2⟩,⟨l,F,u⟩,rfl,rfl⟩:=h;split at u
  ·rename_i S;cases u;have C:=TQ (g:=fun x=>closed (so E.G st.fr x)) (fun x c=>Ut) F;refine⟨.osl (d.getD 0),some (.arr e2 s2 l), ?_, ?_,rfl⟩
   ·simp only[AJ,aa.cls,By,C,Ap,Ao S,Aq]
   ·cases d with
    |none=>exact(L rfl rfl).elim
    |some j=>simp[AD,W rfl j rfl]
  ·cases u
theorem Y5{D:List Nat}{a b:SL}{st s1 Z:St}(ha:a.op.grows=true)(S:a.guard=none)(hb:b.op.tame=true)(I:b.guard=none)
  (L:∀i,a.dst=some i->i∉b.looks/\b.dst≠some i) (U:∀i,b.dst=some i->i∉a.looks) (h1:A6 E (some D) a st=some s1) (d:A6 E (some D) b s1=some Z):
  ∃s,A6 E (some D) b st=some s/\A6 E (some D) a s=some Z:=by
 have K:b.op.hard=false:=by
  revert hb;cases b.op<;>simp[aa.tame,aa.hard]
 cases q:a.op<;>simp only[q,aa.grows,Ah]at ha;rename_i e size bytes x y
 have F:∀s,A6 E (some D) a s=(Gm s a.dst e size bytes (so E.G s.fr x) (so E.G s.fr y)).map (Dw s a.dst):=by
  intro s;simp only[A6,S,q,AM,aa.cls];exact LL
 rw[F,Aa]at h1;obtain⟨⟨id,oa⟩,N,rfl⟩:=h1;obtain⟨es,he⟩:=Zh N;simp only at he;subst he;rw[C8 K,Ab]at d;obtain⟨⟨v',o'⟩,e2,d⟩:=d
 have T:∀i∈b.looks,(Dw st a.dst (id,.arr e size es)).fr i=AD [id] (st.fr i):=by
  intro i hi;unfold Dw
  cases hd:a.dst with
  |none=>rfl
  |some j=>exact AL _ _ (fun h=>(L j hd).1 (h▸hi))
 have m:(Dw st a.dst (id,.arr e size es)).ob=ac (kill [id] st).ob id (.arr e size es):=by
  unfold Dw;cases a.dst<;>rfl
 rw[Ga T,m]at e2
 have X:AJ E (AN (some (af b.op D)) (ac (kill [id] st).ob id (.arr e size es))) (so E.G fun i=>AD [id] (st.fr i)) b.dst b.op=some (v',o'):=by
  simpa only[BF,I]using e2
 have k:∀o,o'=some o->∃j,b.dst=some j/\j≠id/\st.ob j=.none:=by
  intro o H;subst H;simp only[put,B1]at d
  cases C:b.dst with
  |none=>rw[C]at d;cases d
  |some j=>
   rw[C]at d;simp only[m]at d;split at d<;>(try cases d;done);rename_i p
   have B:j≠id:=by
    intro Q;rw[Q,Be]at p;cases p
   refine⟨j,rfl,B, ?_⟩;rw[AL _ _ B]at p;simp only[kill]at p;rw[An (by simpa using B)]at p;cases hq:st.ob j<;>simp only[hq,Cp,reduceCtorEq]at p;rfl
 obtain⟨v,o,k1,k2,k3⟩:=Ajw hb (fun f j B=>by
   obtain⟨o,H⟩:=Option.isSome_iff_exists.1 f;obtain⟨j',M,h4,_⟩:=k o H;rw[B]at M;cases M
   exact h4) (fun f p=>by
   obtain⟨o,H⟩:=Option.isSome_iff_exists.1 f;obtain⟨j',M,_⟩:=k o H;rw[p]at M
   cases M) X
 have W:A6 E (some D) b st=put st b.dst (v,o):=by
  rw[C8 K];simp only[BF,I,k1,Ap]
 have l:∀i j,a.dst=some i->b.dst=some j->i≠j:=fun i j hi B h=>(L i hi).2 (by rw[B,h])
 have c:∀(s:St),put st b.dst (v,o)=some s->∀z:SO,(z=x\/z=y)->so E.G s.fr z=so E.G st.fr z:=fun s f z hz=>DQ z fun i hi=>Dj f (fun h=>U i h (by
  simp only[SL.looks,q,aa.slots,List.mem_append];rcases hz with rfl|rfl
  ·exact .inl (.inl hi)
  ·exact .inl (.inr hi)))
 subst k2;subst k3;rw[W]
 cases o with
 |none=>
  have f:put st b.dst (v,none)=some (st.set b.dst v):=rfl;refine⟨st.set b.dst v,f, ?_⟩;have g:(st.set b.dst v).ob=st.ob:=by cases b.dst<;>rfl
  rw[F,c _ f x (.inl rfl),c _ f y (.inr rfl),OU (st:=st) (fun i e s es h=>by rw[g];exact h) N];simp only[Aq,Ac];simp only[put,Option.map_none,Ac]at d;rw[<-d];unfold Dw;rw[St.set_comm _ _ _ _ _ l]
  congr 1
  cases C:b.dst with
  |none=>rfl
  |some j=>
   simp only[St.set,kill]
   congr 1
   funext i;simp only[Cc];split<;>rfl
 |some ob=>
  obtain⟨j,u,t,r⟩:=k (Cp [id] ob) rfl;have f:put st b.dst (v,some ob)=some {fr:=ac st.fr j v,ob:=ac st.ob j ob}:=by simp[put,B1,u,r]
  refine⟨_,f, ?_⟩
  rw[F,c _ f x (.inl rfl),c _ f y (.inr rfl),OU (st:=st) (fun i e s es h=>by
   simp only;rw[AL _ _ (fun Q=>by rw[Q,r]at h;cases h)]
   exact h) N]
  simp only[Aq,Ac]
  have O:(Dw st a.dst (id,.arr e size es)).ob j=.none:=by
   rw[m,AL _ _ t];simp only[kill];rw[An (by simpa using t),r];rfl
  simp only[put,B1,Aq,u,O,Ac]at d;rw[<-d,m]
  have g:ac (kill [id] {fr:=ac st.fr j v,ob:=ac st.ob j ob:St}).ob id (.arr e size es)=ac (ac (kill [id] st).ob id (.arr e size es)) j (Cp [id] ob):=by
   funext i;simp only[Cc,kill];by_cases Y:i=id
   ·subst Y;simp[Ne.symm t]
   ·by_cases c2:i=j
    ·subst c2;simp[Y]
    ·simp[Y,c2]
  have J:(fun i=>AD [id] (ac st.fr j v i))=ac (fun i=>AD [id] (st.fr i)) j (AD [id] v):=by
   funext i;simp only[Cc];split<;>rfl
  unfold Dw;simp only[g,J]
  cases V:a.dst with
  |none=>rfl
  |some i=>
   simp only[St.set];rw[Gb _ _ _ (Ne.symm (l i j V u))]
theorem Ajk{D:List Nat}{a b:SL}{st J I:St}(V:a.op.moves=true)(C:a.guard=none)(T:b.op.grows=true)(B:b.guard=none)
  (o:∀i,a.dst=some i->i∉b.looks/\b.dst≠some i) (H:∀i,b.dst=some i->i∉a.looks) (N:A6 E (some D) a st=some J) (M:A6 E (some D) b J=some I):
  ∃s,A6 E (some D) b st=some s/\A6 E (some D) a s=some I:=by
 cases f:a.op<;>simp only[f,aa.moves,Ah]at V;rename_i q;cases d:b.op<;>simp only[d,aa.grows,Ah]at T;rename_i e size bytes x y
 have r:∀s,A6 E (some D) a s=some (s.set a.dst (so E.G s.fr q)):=by
  intro s;simp only[A6,C,f,AM,aa.cls,A2,Aq,D4]
 have p:∀s,A6 E (some D) b s=(Gm s b.dst e size bytes (so E.G s.fr x) (so E.G s.fr y)).map (Dw s b.dst):=by
  intro s;simp only[A6,B,d,AM,aa.cls];exact LL
 rw[r,Ac]at N;subst N;rw[p,Aa]at M;obtain⟨⟨id,L⟩,K,rfl⟩:=M;have m:(st.set a.dst (so E.G st.fr q)).ob=st.ob:=by cases a.dst<;>rfl
 have c:∀z:SO,(z=x\/z=y)->so E.G (st.set a.dst (so E.G st.fr q)).fr z=so E.G st.fr z:=fun z Q=>DQ z fun i hi=>by
  cases F:a.dst with
  |none=>rfl
  |some j=>exact AL _ _ fun h=>(o j F).1 (h▸(by
    simp only[SL.looks,d,aa.slots,List.mem_append];rcases Q with rfl|rfl
    ·exact .inl (.inl hi)
    ·exact .inl (.inr hi)))
 rw[c x (.inl rfl),c y (.inr rfl)]at K;have O:=OU (st':=st) (fun i e s es h=>by rw[m]at h;exact h) K;have l:∀i j,a.dst=some i->b.dst=some j->i≠j:=fun i j hi u h=>(o i hi).2 (by rw[u,h]);refine⟨_,by rw[p,O];rfl, ?_⟩;rw[r]
 congr 1
 have S:so E.G (Dw st b.dst (id,L)).fr q=AD [id] (so E.G st.fr q):=by
  cases q with
  |t i=>
   show(Dw st b.dst (id,L)).fr i=AD [id] (st.fr i);unfold Dw
   cases F:b.dst with
   |none=>rfl
   |some j=>exact AL _ _ fun h=>H j F (h▸by simp[SL.looks,f,aa.slots,SO.slot])
  |k v=>rfl
  |g i=>
   show so E.G _ (.g i)=AD [id] (so E.G st.fr (.g i));simp only[so];split<;>rfl
 rw[S];unfold Dw;rw[St.set_comm _ _ _ _ _ fun i j hi u=>Ne.symm (l j i u hi)]
 congr 1
 cases U:a.dst with
 |none=>rfl
 |some i=>
  simp only[St.set,kill]
  congr 1
  funext j;simp only[Cc];split<;>rfl
theorem Afi{rd rd':Nat->Ob}(h:∀i,rd i=rd' i\/((∀cs bt,rd i≠ .box cs bt)/\(∀e s es,rd i≠ .arr e s es)/\(∀cs bt,rd' i≠ .box cs bt)/\(∀e s es,rd' i≠ .arr e s es)))(sz:Option Nat)(v:SV):Bb rd sz (deref rd v)=Bb rd' sz (deref rd' v):=by
 have f:deref rd v=deref rd' v:=by
  unfold deref;split
  ·rename_i N;split
   ·rcases h N with e|⟨h1,_,h3,_⟩
    ·rw[e]
    ·cases d:rd N<;>cases b:rd' N<;>first
      |rfl
      |exact absurd d (h1 _ _)
      |exact absurd b (h3 _ _)
   ·rfl
  ·rfl
 rw[f];generalize deref rd' v=q;unfold Bb
 cases q with
 |c cv=>cases cv<;>rfl
 |ptr id o=>
  simp only;rcases h id with e|⟨h1,_,h3,_⟩
  ·rw[e]
  ·cases d:rd id<;>cases b:rd' id<;>first
    |rfl
    |exact absurd d (h1 _ _)
    |exact absurd b (h3 _ _)
 |eptr id i size o=>
  simp only;rcases h id with e|⟨_,h1,_,h3⟩
  ·rw[e]
  ·cases d:rd id<;>cases b:rd' id<;>first
    |rfl
    |exact absurd d (h1 _ _ _)
    |exact absurd b (h3 _ _ _)
 |_=>rfl
theorem Ajn{D:List Nat}{a b:SL}{st H F:St}(U:a.op.loads=true)(y:a.guard=none)(T:b.op.puts=true)(r:b.guard=none)
  (B:∀i,a.dst=some i->i∉b.looks/\b.dst≠some i) (S:∀i,b.dst=some i->i∉a.looks) (J:A6 E (some D) a st=some H) (m:A6 E (some D) b H=some F):
  ∃s,A6 E (some D) b st=some s/\A6 E (some D) a s=some F:=by
 cases p:a.op<;>simp only[p,aa.loads,Ah]at U;rename_i sz q;cases g:b.op<;>simp only[g,aa.puts,Ah]at T;rename_i mt x k v
 have t:∀s,A6 E (some D) a s=(Bb (AN (some (af a.op D)) s.ob) sz (deref (AN (some (af a.op D)) s.ob) (so E.G s.fr q))).map fun v=>s.set a.dst v:=by
  intro s;simp only[A6,y,p,AM,aa.cls,A2,D4,Aq]
 rw[t,Aa]at J;obtain⟨I,N,rfl⟩:=J;have o:(st.set a.dst I).ob=st.ob:=by cases a.dst<;>rfl
 have d:∀z:SO,(z=x\/z=k\/z=v)->so E.G (st.set a.dst I).fr z=so E.G st.fr z:=fun z L=>DQ z fun i hi=>by
  cases O:a.dst with
  |none=>rfl
  |some j=>exact AL _ _ fun h=>(B j O).1 (h▸(by
    simp only[SL.looks,g,aa.slots,List.mem_append];rcases L with rfl|rfl|rfl
    ·exact .inl (.inl (.inl hi))
    ·exact .inl (.inl (.inr hi))
    ·exact .inl (.inr hi)))
 simp only[A6,r,g,AM,aa.cls,AY,D4,d x (.inl rfl),d k (.inr (.inl rfl)),d v (.inr (.inr rfl)),o]at m
 have C:A6 E (some D) b st=match so E.G st.fr x,so E.G st.fr k,so E.G st.fr v with
  | .omap id,.c k,.c v=>match st.ob id with
   | .map f kt z ks vs=>if f=mt/\AR kt k=true then some {st with ob:=ac st.ob id (.map f kt z (Bp kt ks k) (Bq kt ks vs k v))}else none
   |_=>none
  |_,_,_=>none:=by
  simp only[A6,r,g,AM,aa.cls,AY,D4];rfl
 rw[C];split at m<;>(try cases m;done);rename_i id l u X W V;rw[X,W,V];simp only;split at m<;>(try cases m;done);rename_i f kt z ks vs K;rw[K];simp only;split at m<;>(try cases m;done);rename_i Q;cases m;rw[Ao Q];refine⟨_,rfl, ?_⟩;rw[t]
 have M:∀i,AN (some (af a.op D)) st.ob i=AN (some (af a.op D)) (ac st.ob id (.map f kt z (Bp kt ks l) (Bq kt ks vs l u))) i\/((∀cs bt,AN (some (af a.op D)) st.ob i≠ .box cs bt)/\(∀e s es,AN (some (af a.op D)) st.ob i≠ .arr e s es)/\(∀cs bt,AN (some (af a.op D)) (ac st.ob id (.map f kt z (Bp kt ks l) (Bq kt ks vs l u))) i≠ .box cs bt)/\(∀e s es,AN (some (af a.op D)) (ac st.ob id (.map f kt z (Bp kt ks l) (Bq kt ks vs l u))) i≠ .arr e s es)):=by
  intro i;by_cases hi:i=id
  ·subst hi;right;simp only[AN,Be,K];refine⟨fun _ _ h=> ?_,fun _ _ _ h=> ?_,fun _ _ h=> ?_,fun _ _ _ h=> ?_⟩<;>(split at h<;>cases h)
  ·left;simp only[AN,AL _ _ hi]
 have Y:so E.G ({fr:=st.fr,ob:=ac st.ob id (.map f kt z (Bp kt ks l) (Bq kt ks vs l u))}:St).fr q=so E.G st.fr q:=rfl;simp only[<-Afi M,N,Aq,Ac];cases a.dst<;>rfl
def I3(ob:Nat->Ob)(e size:Nat)(c b:SV):Option (Nat×Ob×Nat):=
 match CF {fr:=fun _=>.undef,ob:=ob} b,c with
 |some news,.osl id=>match ob id with
  | .arr e' size' es=>
   if(e'=e/\size'=size)/\(news.all (fun v=>Bk v==size)&&news.all fun v=>v.cells.all C7)=true then
    some (id,.arr e size (news.take (min news.length es.length)++es.drop (min news.length es.length)),min news.length es.length)
   else none
  |_=>none
 |_,_=>none
theorem Af6{s t:St}(h:s.ob=t.ob)(v:SV):CF s v=CF t v:=by
 cases v<;>simp only[CF,h]
theorem U4{d:Option Nat}{ρ:SO->SV}{st:St}{e size:Nat}{x y:SO}:AY d ρ st (.cpy e size x y)=(I3 st.ob e size (ρ x) (ρ y)).map fun p=>St.set {st with ob:=ac st.ob p.1 p.2.1} d (.c (.int .i64 (p.2.2:Nat))):=by
 simp only[AY,I3];rw[Af6 (s:={fr:=fun _=>.undef,ob:=st.ob}) (t:=st) rfl];generalize CF st (ρ y)=nw;generalize ρ x=vx
 cases nw with
 |none=>rfl
 |some news=>
  cases vx<;>try rfl
  rename_i id;simp only;cases st.ob id<;>try rfl
  simp only;split<;>rfl
theorem U3{ob:Nat->Ob}{e size:Nat}{d c:SV}{p:Nat×Ob×Nat}(h:I3 ob e size d c=some p):(∃es,ob p.1=.arr e size es)/\∃es,p.2.1=.arr e size es:=by
 unfold I3 at h;split at h<;>(try cases h;done);split at h<;>(try cases h;done);rename_i b;split at h<;>(try cases h;done);rename_i f;obtain⟨⟨rfl,rfl⟩,_⟩:=f;cases h;exact⟨⟨_,b⟩,_,rfl⟩
theorem Vt{E:ah}{D:List Nat}{ob:Nat->Ob}{id:Nat}{e s:Nat}{es f:List CV}(h:ob id=.arr e s es){ρ:SO->SV}{d:Option Nat}{b:aa}(m:b.flat=true):AJ E (AN (some D) (ac ob id (.arr e s f))) ρ d b=AJ E (AN (some D) ob) ρ d b:=by
 have i:∀j,j≠id->AN (some D) (ac ob id (.arr e s f)) j=AN (some D) ob j:=fun j g=>by
  simp only[AN,AL _ _ g]
 cases b<;>simp only[aa.flat,Ah]at m
 case mov x=>rfl
 case loadb sz x=>
  simp only[AJ,aa.cls,A2];generalize ρ x=q
  have l:deref (AN (some D) (ac ob id (.arr e s f))) q=deref (AN (some D) ob) q:=by
   cases q with
   |c v=>
    cases v<;>try rfl
    rename_i N;simp only[deref];by_cases k:N=id
    ·subst k;simp only[AN,Be,h];cases D.contains N<;>rfl
    ·rw[i N k]
   |_=>rfl
  rw[l];generalize deref (AN (some D) ob) q=r
  cases r with
  |ptr j o=>
   simp only;by_cases g:j=id
   ·subst g;simp only[Bb,AN,Be,h];cases D.contains j<;>rfl
   ·simp only[Bb,i j g]
  |c v=>cases v<;>rfl
  |_=>rfl
theorem Ajg{D:List Nat}{a b:SL}{st l N:St}(B:a.op.flat=true)(I:a.guard=none)(U:b.op.copies=true)(H:b.guard=none)
  (t:∀i,a.dst=some i->i∉b.looks/\b.dst≠some i) (K:∀i,b.dst=some i->i∉a.looks) (h:A6 E (some D) a st=some l) (C:A6 E (some D) b l=some N):
  ∃s,A6 E (some D) b st=some s/\A6 E (some D) a s=some N:=by
 have r:a.op.hard=false:=by revert B;cases a.op<;>simp[aa.flat,aa.hard]
 have L:a.op.makes=false:=by revert B;cases a.op<;>simp[aa.flat,aa.makes]
 have f:af a.op D=D:=VC (by revert B;cases a.op<;>simp[aa.flat,aa.calls]);cases g:b.op<;>simp only[g,aa.copies,Ah]at U;rename_i e size x y
 have u:∀s,A6 E (some D) b s=(I3 s.ob e size (so E.G s.fr x) (so E.G s.fr y)).map fun p=>St.set {s with ob:=ac s.ob p.1 p.2.1} b.dst (.c (.int .i64 (p.2.2:Nat))):=by
  intro s;simp only[A6,H,g,AM,aa.cls,U4];rfl
 rw[C8 r,Ab]at h;obtain⟨⟨v,o⟩,F,h⟩:=h
 have S:o=none:=by
  cases o with
  |none=>rfl
  |some o=>have:=Ik F rfl;rw[L]at this;cases this
 subst S;have J:∀i∈b.looks,l.fr i=st.fr i:=fun i hi=>Dj h (fun e=>(t i e).1 hi);simp only[put,Ac]at h;have q:l.ob=st.ob:=by subst h;cases a.dst<;>rfl
 have d:∀z:SO,(z=x\/z=y)->so E.G l.fr z=so E.G st.fr z:=fun z Q=>DQ z fun i hi=>J i (by
  simp only[SL.looks,g,aa.slots,List.mem_append];rcases Q with rfl|rfl
  ·exact .inl (.inl hi)
  ·exact .inl (.inr hi))
 rw[u,q,d x (.inl rfl),d y (.inr rfl),Aa]at C;obtain⟨p,O,C⟩:=C;obtain⟨⟨es,q1⟩,W,q2⟩:=U3 O;refine⟨_,by rw[u,O];rfl, ?_⟩;have V:put {st with ob:=ac st.ob p.1 p.2.1} b.dst (.c (.int .i64 (p.2.2:Nat)),none)=some (St.set {st with ob:=ac st.ob p.1 p.2.1} b.dst (.c (.int .i64 (p.2.2:Nat)))):=rfl;have m:(St.set {st with ob:=ac st.ob p.1 p.2.1} b.dst (.c (.int .i64 (p.2.2:Nat)))).ob=ac st.ob p.1 p.2.1:=by cases b.dst<;>rfl
 have k:∀i j,b.dst=some i->a.dst=some j->i≠j:=fun i j hi T e=>(t j T).2 (by rw[hi,e])
 have M:BF E a st.fr (AN (some D) (ac st.ob p.1 p.2.1))=some (v,none):=by
  rw[f]at F;simp only[BF,I]at F⊢;rw[q2,Vt q1 B];exact F
 rw[C8 r,m,f,Ga (fr':=st.fr) (fun i hi=>Dj V (fun e=>K i e hi)),M];simp only[Ap,put,<-C,<-h];rw[St.set_comm _ _ _ _ _ k];cases a.dst<;>cases b.dst<;>rfl
theorem Ajh{D:List Nat}{a b:SL}{st F Q:St}(W:a.op.copies=true)(K:a.guard=none)(H:b.op.flat=true)(J:b.guard=none)
  (t:∀i,a.dst=some i->i∉b.looks/\b.dst≠some i) (M:∀i,b.dst=some i->i∉a.looks) (l:A6 E (some D) a st=some F) (u:A6 E (some D) b F=some Q):
  ∃s,A6 E (some D) b st=some s/\A6 E (some D) a s=some Q:=by
 have r:b.op.hard=false:=by revert H;cases b.op<;>simp[aa.flat,aa.hard]
 have L:b.op.makes=false:=by revert H;cases b.op<;>simp[aa.flat,aa.makes]
 have f:af b.op D=D:=VC (by revert H;cases b.op<;>simp[aa.flat,aa.calls]);cases g:a.op<;>simp only[g,aa.copies,Ah]at W;rename_i e size x y
 have B:∀s,A6 E (some D) a s=(I3 s.ob e size (so E.G s.fr x) (so E.G s.fr y)).map fun p=>St.set {s with ob:=ac s.ob p.1 p.2.1} a.dst (.c (.int .i64 (p.2.2:Nat))):=by
  intro s;simp only[A6,K,g,AM,aa.cls,U4];rfl
 rw[B,Aa]at l;obtain⟨p,S,l⟩:=l;obtain⟨⟨es,q1⟩,Y,q2⟩:=U3 S;have X:put {st with ob:=ac st.ob p.1 p.2.1} a.dst (.c (.int .i64 (p.2.2:Nat)),none)=some F:=by rw[<-l];rfl
 have q:F.ob=ac st.ob p.1 p.2.1:=by rw[<-l];cases a.dst<;>rfl
 rw[C8 r,q,f,Ga (fr':=st.fr) (fun i hi=>Dj X (fun e=>(t i e).1 hi)),Ab]at u;obtain⟨⟨v,o⟩,O,u⟩:=u
 have C:BF E b st.fr (AN (some D) st.ob)=some (v,o):=by
  simp only[BF,J]at O⊢;rw[q2,Vt q1 H]at O;exact O
 have V:o=none:=by
  cases o with
  |none=>rfl
  |some o=>have:=Ik C rfl;rw[L]at this;cases this
 subst V;have k:∀i j,a.dst=some i->b.dst=some j->i≠j:=fun i j hi I h=>(t i hi).2 (by rw[I,h])
 have N:A6 E (some D) b st=some (st.set b.dst v):=by
  rw[C8 r,f,C];rfl
 refine⟨_,N, ?_⟩;have U:put st b.dst (v,none)=some (st.set b.dst v):=rfl;have m:(st.set b.dst v).ob=st.ob:=by cases b.dst<;>rfl
 have d:∀z:SO,(z=x\/z=y)->so E.G (st.set b.dst v).fr z=so E.G st.fr z:=fun z T=>DQ z fun i hi=>Dj U (fun h=>M i h (by
  simp only[SL.looks,g,aa.slots,List.mem_append];rcases T with rfl|rfl
  ·exact .inl (.inl hi)
  ·exact .inl (.inr hi)))
 rw[B,m,d x (.inl rfl),d y (.inr rfl),S];simp only[put,Ac]at u;simp only[Aq,Ac];have Z:({fr:=(st.set b.dst v).fr,ob:=ac st.ob p.1 p.2.1}:St)=({fr:=st.fr,ob:=ac st.ob p.1 p.2.1}:St).set b.dst v:=by cases b.dst<;>rfl
 rw[<-u,<-l,Z];exact St.set_comm _ _ _ _ _ (fun i j hi I=>(k j i I hi).symm)
end
theorem Od{E:ah}{D:List Nat}{l:SL}{st s:St}(b:l.op.hard=false)(h:A6 E (some D) l st=some s){i:Nat}(hi:l.dst≠some i):s.fr i=st.fr i:=by
 rw[C8 b,Ab]at h;obtain⟨p,_,h⟩:=h;exact Dj h hi
def SL.bare(l:SL)(t:Bool):SL:=if t=true then⟨l.dst,l.op,none⟩else⟨l.dst,.mov (.k (.tup [])),none⟩
theorem Gu{E:ah}{D:List Nat}{l:SL}{st:St}{t:Bool}(h:gd l st.fr=some t):A6 E (some D) l st=A6 E (some D) (l.bare t) st:=by
 rw[Gv,h]
 cases t with
 |true=>simp only[Ap,if_true,SL.bare];rfl
 |false=>
  simp only[Ap,Ah,if_false,SL.bare,A6,AM,aa.cls,A2,Aq];rfl
theorem LT{l:SL}{t:Bool}{i:Nat}(h:i∈(l.bare t).looks):i∈l.looks:=by
 cases t with
 |false=>
  have h:i∈(aa.mov (.k (.tup []))).slots++ []:=h;simp[aa.slots,SO.slot]at h
 |true=>
  have h:i∈l.op.slots++ []:=h;rw[List.append_nil]at h;exact List.mem_append_left _ h
theorem EU{l:SL}{t:Bool}:(l.bare t).dst=l.dst:=by cases t<;>rfl
theorem V2{l:SL}{fr fr':Nat->SV}{id:Nat}(h:∀i∈l.looks,fr' i=AD [id] (fr i)):gd l fr'=gd l fr:=by
 unfold gd
 cases d:l.guard with
 |none=>rfl
 |some p=>
  obtain⟨g,b⟩:=p;simp only;rw[h g (by simp[SL.looks,d])];cases fr g<;>simp only[AD];all_goals(first|rfl|(split<;>rename_i c<;>first|rfl|(split at c<;>cases c)))
theorem MC{E:ah}{D:List Nat}{l:SL}{st s:St}(h:A6 E (some D) l st=some s):∃t,gd l st.fr=some t:=by
 rw[Gv]at h
 cases b:gd l st.fr with
 |none=>rw[b]at h;cases h
 |some t=>exact⟨t,rfl⟩
theorem Ni{E:ah}{D:List Nat}{l:SL}{q:SO}{st:St}(c:l.guard=none)(b:l.op=.mov q):A6 E (some D) l st=some (st.set l.dst (so E.G st.fr q)):=by
 simp only[A6,c,b,AM,aa.cls,A2,Aq,D4]
theorem VA{E:ah}{D:List Nat}{b:SL}{st s:St}(g:b.op.grows=true)(d:b.guard=none)(h:A6 E (some D) b st=some s):∃id,∀i,b.dst≠some i->s.fr i=AD [id] (st.fr i):=by
 cases c:b.op<;>simp only[c,aa.grows,Ah]at g;rename_i e size bytes x y;simp only[A6,d,c,AM,aa.cls,LL,Aa]at h;obtain⟨⟨id,k⟩,_,rfl⟩:=h;refine⟨id,fun i hi=> ?_⟩;unfold Dw
 cases f:b.dst with
 |none=>rfl
 |some j=>exact AL _ _ fun e=>hi (by rw[f,e])
theorem Iw{l:SL}{t:Bool}(h:l.op.moves=true):(l.bare t).op.moves=true:=by cases t<;>simp[SL.bare,aa.moves]<;>exact h
theorem Afz{o:aa}(h:o.moves=true):o.tame=true:=by cases o<;>simp_all[aa.moves,aa.tame]
theorem FB{l:SL}{t:Bool}:(l.bare t).guard=none:=by cases t<;>rfl
theorem WC{o:aa}(h:o.moves=true):∃q,o=.mov q:=by cases o<;>simp_all[aa.moves]
theorem WA{o:aa}(h:o.moves=true):o.hard=false:=by cases o<;>simp_all[aa.moves,aa.hard]
theorem Y6{E:ah}{D:List Nat}{a b:SL}{st o m:St}(x:a.op.moves=true)(d:a.guard=none)(v:b.op.moves=true)(c:b.guard=none)
  (e:∀i,a.dst=some i->i∉b.looks/\b.dst≠some i) (l:∀i,b.dst=some i->i∉a.looks) (t:A6 E (some D) a st=some o) (r:A6 E (some D) b o=some m):
  ∃s,A6 E (some D) b st=some s/\A6 E (some D) a s=some m:=by
 obtain⟨p,g⟩:=WC x;obtain⟨q,f⟩:=WC v;rw[Ni d g,Ac]at t;subst t;rw[Ni c f,Ac]at r;subst r;refine⟨_,Ni c f, ?_⟩;rw[Ni d g]
 have B:so E.G (st.set a.dst (so E.G st.fr p)).fr q=so E.G st.fr q:=DQ q fun i hi=>by
  cases k:a.dst with
  |none=>rfl
  |some j=>exact AL _ _ fun h=>(e j k).1 (h▸by simp[SL.looks,f,aa.slots,hi])
 have y:so E.G (st.set b.dst (so E.G st.fr q)).fr p=so E.G st.fr p:=DQ p fun i hi=>by
  cases k:b.dst with
  |none=>rfl
  |some j=>exact AL _ _ fun h=>l j k (h▸by simp[SL.looks,g,aa.slots,hi])
 rw[B,y]
 congr 1
 exact St.set_comm _ _ _ _ _ fun i j hi u h=>(e j u).2 (by rw[hi,h])
theorem Ajl{E:ah}{D:List Nat}{a b:SL}{st p o:St}(u:a.op.moves=true)(B:b.op.grows=true)
  (f:∀i,a.dst=some i->i∉b.looks/\b.dst≠some i) (e:∀i,b.dst=some i->i∉a.looks) (g:A6 E (some D) a st=some p) (k:A6 E (some D) b p=some o):
  ∃s,A6 E (some D) b st=some s/\A6 E (some D) a s=some o:=by
 obtain⟨h,m⟩:=MC g;obtain⟨tb,C⟩:=MC k
 have q:∀i∈b.looks,p.fr i=st.fr i:=fun i hi=>by
  rw[Gu m]at g;exact Od (WA (Iw u)) g fun j=>(f i (by rw[<-EU (t:=h)];exact j)).1 hi
 have v:gd b st.fr=some tb:=by rw[<-C];exact(HM q).symm
 rw[Gu m]at g;rw[Gu C]at k;rw[Gu v]
 have d:∀i,(a.bare h).dst=some i->i∉(b.bare tb).looks/\(b.bare tb).dst≠some i:=fun i hi=>by
  rw[EU]at hi;exact⟨fun r=>(f i hi).1 (LT r),by rw[EU];exact(f i hi).2⟩
 have c:∀i,(b.bare tb).dst=some i->i∉(a.bare h).looks:=fun i hi r=>e i (by rw[<-EU (t:=tb)];exact hi) (LT r)
 have av:∀s,A6 E (some D) (b.bare tb) st=some s->gd a s.fr=some h:=by
  intro s y
  cases tb with
  |true=>
   obtain⟨id,G⟩:=VA (b:=b.bare true) B FB y;rw[<-m];exact V2 fun i hi=>G i fun j=>e i (by rw[<-EU (t:=true)];exact j) hi
  |false=>
   rw[<-m];exact HM fun i hi=>Od (l:=b.bare false) rfl y fun j=>e i (by rw[<-EU (t:=false)];exact j) hi
 have key:∃s,A6 E (some D) (b.bare tb) st=some s/\A6 E (some D) (a.bare h) s=some o:=by
  cases tb with
  |true=>exact Ajk (Iw u) FB B FB d c g k
  |false=>exact Y6 (Iw u) FB rfl FB d c g k
 obtain⟨s,x,F⟩:=key;exact⟨s,x,by rw[Gu (av s x)];exact F⟩
theorem Ajj{E:ah}{D:List Nat}{a b:SL}{st r m:St}(v:a.op.grows=true)(p:b.op.moves=true)
  (c:∀i,a.dst=some i->i∉b.looks/\b.dst≠some i) (j:∀i,b.dst=some i->i∉a.looks) (g:A6 E (some D) a st=some r) (k:A6 E (some D) b r=some m):
  ∃s,A6 E (some D) b st=some s/\A6 E (some D) a s=some m:=by
 obtain⟨f,y⟩:=MC g;obtain⟨tb,x⟩:=MC k;rw[Gu y]at g
 have q:gd b st.fr=some tb:=by
  rw[<-x]
  cases f with
  |true=>
   obtain⟨id,F⟩:=VA (b:=a.bare true) v FB g;exact(V2 fun i hi=>F i fun h=>(c i (by rw[<-EU (t:=true)];exact h)).1 hi).symm
  |false=>exact(HM fun i hi=>Od (l:=a.bare false) rfl g fun h=>(c i (by rw[<-EU (t:=false)];exact h)).1 hi).symm
 rw[Gu x]at k;rw[Gu q]
 have e:∀i,(a.bare f).dst=some i->i∉(b.bare tb).looks/\(b.bare tb).dst≠some i:=fun i hi=>by
  rw[EU]at hi;exact⟨fun o=>(c i hi).1 (LT o),by rw[EU];exact(c i hi).2⟩
 have d:∀i,(b.bare tb).dst=some i->i∉(a.bare f).looks:=fun i hi o=>j i (by rw[<-EU (t:=tb)];exact hi) (LT o)
 have av:∀s,A6 E (some D) (b.bare tb) st=some s->gd a s.fr=some f:=by
  intro s C;rw[<-y];exact HM fun i hi=>Od (WA (Iw p)) C fun h=>j i (by rw[<-EU (t:=tb)];exact h) hi
 have key:∃s,A6 E (some D) (b.bare tb) st=some s/\A6 E (some D) (a.bare f) s=some m:=by
  cases f with
  |true=>exact Y5 v FB (Afz (Iw p)) FB e d g k
  |false=>exact Y6 rfl FB (Iw p) FB e d g k
 obtain⟨s,u,B⟩:=key;exact⟨s,u,by rw[Gu (av s u)];exact B⟩
def SL.own(A:List Nat)(l:SL):Option Nat:=
 match l.op,l.guard with
 | .store _ (.t a) _,none=>if A.contains a then some a else none
 |_,_=>none
def G2(ls:List SL):List Nat:=
 (ls.filterMap fun l=>match l.op,l.guard,l.dst with| .alloc _,none,some d=>some d|_,_,_=>none).filter fun d=>(ls.filter fun l=>l.dst==some d).length==1
def Q9(m:List Nat)(l:SL):List Nat:=
 match l.op,l.guard,l.dst with
 | .alloc _,none,some d=>d::m
 |_,_,some d=>m.filter fun i=>i !=d
 |_,_,none=>m
def IY(A:List Nat):List Nat->List SL->Bool
 |_,[]=>true
 |m,l::ls=>(match l.own A with|some a=>m.contains a|none=>true)&&IY A (Q9 m l) ls
def Dv(A D:List Nat)(x y:SL):Bool:=
 GT D x y||((x.dst.all fun d=> !y.looks.contains d&&y.dst !=some d)&&(y.dst.all fun d=> !x.looks.contains d)&&
  match x.own A,y.own A with
  |some a,some b=>a !=b
  |some a,none=> !y.op.hard&&(af y.op D).contains a
  |none,some b=> !x.op.hard&&(af x.op D).contains b
  |none,none=>false)
def bd(A:List Nat)(l:SL)(st:St):Bool:=
 match l.own A with
 |some a=>match st.fr a with
  | .ptr j _=>j==a
  |_=>false
 |none=>true
section
variable {E:ah} {A D:List Nat}
def bk(E:ah)(A D:List Nat)(l:SL)(st:St):Option St:=if bd A l st=true then A6 E (some D) l st else none
theorem GS{l:SL}{st s:St}(h:bk E A D l st=some s):bd A l st=true/\A6 E (some D) l st=some s:=by
 unfold bk at h;split at h
 ·rename_i b;exact⟨b,h⟩
 ·cases h
theorem FM{l:SL}{st s:St}(c:bd A l st=true)(b:A6 E (some D) l st=some s):bk E A D l st=some s:=by
 unfold bk;rw[Ao c,b]
theorem Hd{l:SL}{a:Nat}(h:l.own A=some a):∃n x,l.op=.store n (.t a) x/\l.guard=none:=by
 unfold SL.own at h;split at h
 ·rename_i n d x c b;split at h
  ·cases h;exact⟨n,x,c,b⟩
  ·cases h
 ·cases h
theorem QJ{l:SL}{a:Nat}(h:l.own A=some a):a∈l.looks:=by
 obtain⟨n,x,b,c⟩:=Hd h;simp[SL.looks,b,aa.slots,SO.slot]
theorem Nx{l:SL}(h:l.op.hard=false):l.own A=none:=by
 cases b:l.own A with
 |none=>rfl
 |some a=>
  obtain⟨n,x,c,d⟩:=Hd b;rw[c]at h;cases h
theorem Age{l:SL}{st st':St}(h:∀a,l.own A=some a->st'.fr a=st.fr a)(b:bd A l st=true):bd A l st'=true:=by
 unfold bd at b⊢
 cases c:l.own A with
 |none=>rfl
 |some a=>
  rw[c]at b;simp only[h a c]at b⊢;exact b
theorem Rw{l:SL}{st s:St}(b:l.op.hard=false)(h:A6 E (some D) l st=some s){i:Nat}(hi:l.dst≠some i):s.fr i=st.fr i:=by
 rw[C8 b,Ab]at h;obtain⟨p,_,h⟩:=h;exact Dj h hi
def Dl(n o:Nat)(ob:Ob)(v:SV):Option Ob:=
 match ob with
 | .box cs bt=>match v with
  | .c (.agg l)=>if l.length=n/\o+n<=cs.length/\l.all C7=true then some (.box (FY cs o (l.map .c)) bt)else none
  |v=>if n=1/\o<cs.length/\HY v=true then some (.box (cs.set o v) bt)else none
 |_=>none
theorem Ai2{n o:Nat}{ob b:Ob}{v:SV}(h:Dl n o ob v=some b):ob≠ .none/\b≠ .none:=by
 unfold Dl at h;split at h
 ·refine⟨by simp, ?_⟩
  split at h<;>split at h<;>first
   |cases h;done
   |(cases h;simp)
 ·cases h
theorem Nu{l:SL}{a:Nat}(h:l.own A=some a):∃n x,(∀i∈x.slot,i∈l.looks)/\∀(st s:St),bk E A D l st=some s<->∃o b,st.fr a=.ptr a o/\Dl n o (st.ob a) (so E.G st.fr x)=some b/\s={st with ob:=ac st.ob a b}:=by
 obtain⟨n,x,p,B⟩:=Hd h;refine⟨n,x,fun i hi=>by simp[SL.looks,p,aa.slots,hi],fun st s=> ?_⟩
 have e:∀o,st.fr a=.ptr a o->A6 E (some D) l st=(Dl n o (st.ob a) (so E.G st.fr x)).map fun b=>{st with ob:=ac st.ob a b}:=by
  intro o q;simp only[A6,B,p,AM,aa.cls,AY,D4];rw[show so E.G st.fr (.t a)=.ptr a o from q];simp only[Dl,deref];cases r:st.ob a<;>simp only[r]<;>try rfl
  generalize so E.G st.fr x=v
  cases v with
  |c cv=>cases cv<;>(simp only;split<;>rfl)
  |_=>simp only;split<;>rfl
 constructor
 ·intro f;obtain⟨d,m⟩:=GS f;unfold bd at d;rw[h]at d;simp only at d;split at d
  ·rename_i j o k;have g:j=a:=by simpa using d
   subst g;rw[e o k,Aa]at m;obtain⟨b,y,u⟩:=m;exact⟨o,b,k,y,u.symm⟩
  ·cases d
 ·rintro⟨o,b,f,d,rfl⟩
  refine FM ?_ ?_
  ·unfold bd;rw[h];simp[f]
  ·rw[e o f,d];rfl
theorem Wp{L:List Nat}{ob:Nat->Ob}{a:Nat}{b:Ob}(h:L.contains a=true):AN (some L) (ac ob a b)=AN (some L) ob:=by
 funext i;simp only[AN,Cc];split
 ·rfl
 ·rename_i hi;split
  ·rename_i e;subst e;exact(hi h).elim
  ·rfl
theorem Xq{st s:St}{d:Option Nat}{p:SV×Option Ob}(h:put st d p=some s){a:Nat}(b:d≠some a):s.ob a=st.ob a:=by
 obtain⟨v,o⟩:=p
 cases o with
 |none=>
  simp only[put,Ac]at h;subst h;cases d<;>rfl
 |some o=>
  simp only[put,B1]at h
  cases d with
  |none=>cases h
  |some d=>
   simp only at h;split at h<;>(try cases h;done);cases h;exact AL _ _ (fun e=>b (by rw[e]))
theorem Xr{st s:St}{d:Option Nat}{p:SV×Option Ob}{a:Nat}{b:Ob}(g:d≠some a):put st d p=some s->put {st with ob:=ac st.ob a b} d p=some {s with ob:=ac s.ob a b}:=by
 intro h;obtain⟨v,o⟩:=p
 cases o with
 |none=>
  simp only[put,Ac]at h⊢;subst h;cases d<;>rfl
 |some o=>
  simp only[put,B1]at h⊢
  cases d with
  |none=>cases h
  |some j=>
   have c:j≠a:=fun e=>g (by rw[e]);simp only at h;split at h<;>(try cases h;done);rename_i f;cases h;simp only[AL _ _ c,f,Ac,St.mk.injEq,true_and];exact Gb _ _ _ (Ne.symm c)
theorem Ag7{st s:St}{d:Option Nat}{p:SV×Option Ob}{a:Nat}{b:Ob}(i:st.ob a≠ .none)(h:put {st with ob:=ac st.ob a b} d p=some s)(g:d≠some a):∃s',put st d p=some s':=by
 obtain⟨v,o⟩:=p
 cases o with
 |none=>exact⟨_,rfl⟩
 |some o=>
  simp only[put,B1]at h⊢
  cases d with
  |none=>cases h
  |some j=>
   have f:j≠a:=fun e=>g (by rw[e]);simp only[AL _ _ f]at h;simp only;split at h<;>(try cases h;done);rename_i c;exact⟨{fr:=ac st.fr j v,ob:=ac st.ob j o},by simp[c]⟩
theorem Ajm{a b:SL}{st F C:St}
  (t:∀i,a.dst=some i->i∉b.looks/\b.dst≠some i) (r:∀i,b.dst=some i->i∉a.looks)
  (j:(match a.own A,b.own A with
  |some a,some b=>a !=b
  |some k,none=> !b.op.hard&&(af b.op D).contains k
  |none,some k=> !a.op.hard&&(af a.op D).contains k
  |none,none=>false)=true) (g:bk E A D a st=some F) (h:bk E A D b F=some C):∃s,bk E A D b st=some s/\bk E A D a s=some C:=by
 cases f:a.own A with
 |some k=>
  cases d:b.own A with
  |some k'=>
   rw[f,d]at j;have m:k≠k':=by simpa using j
   obtain⟨n,x,B,y⟩:=Nu (E:=E) (D:=D) f;obtain⟨M,L,H,v⟩:=Nu (E:=E) (D:=D) d;rw[y]at g;obtain⟨o,c,q1,q2,rfl⟩:=g;rw[v]at h;obtain⟨o',K,q3,q4,rfl⟩:=h;simp only[AL _ _ (Ne.symm m)]at q4;refine⟨_,(v _ _).2 ⟨o',K,q3,q4,rfl⟩,(y _ _).2 ⟨o,c,q1, ?_, ?_⟩⟩
   ·simp only[AL _ _ m];exact q2
   ·simp only[St.mk.injEq,true_and];exact Gb _ _ _ m
  |none=>
   rw[f,d]at j;simp only[Ag,Bool.not_eq_true']at j;obtain⟨q,m⟩:=j;obtain⟨n,x,B,y⟩:=Nu (E:=E) (D:=D) f;rw[y]at g;obtain⟨o,c,q1,q2,rfl⟩:=g;obtain⟨_,h⟩:=GS h;rw[C8 q,Ab]at h;obtain⟨p,G,h⟩:=h;simp only[Wp m]at G;have l:b.dst≠some k:=fun e=>r k e (QJ f);obtain⟨s',u⟩:=Ag7 (Ai2 q2).1 h l;have I:=Xr (b:=c) l u;rw[I]at h;cases h;refine⟨s',FM (by unfold bd;rw[Nx q]) (by rw[C8 q,G];exact u),(y _ _).2 ⟨o,c, ?_, ?_,rfl⟩⟩
   ·rw[Dj u l];exact q1
   ·rw[Xq u l,DQ x (fr':=st.fr) (fun i hi=>Dj u (fun e=>r i e (B i hi)))];exact q2
 |none=>
  cases d:b.own A with
  |none=>rw[f,d]at j;cases j
  |some k=>
   rw[f,d]at j;simp only[Ag,Bool.not_eq_true']at j;obtain⟨has,m⟩:=j;obtain⟨n,x,B,v⟩:=Nu (E:=E) (D:=D) d;obtain⟨_,g⟩:=GS g;rw[C8 has,Ab]at g;obtain⟨p,J,g⟩:=g;have l:a.dst≠some k:=fun e=>(t k e).1 (QJ d);rw[v]at h;obtain⟨o,c,q1,q2,rfl⟩:=h;rw[Dj g l]at q1;rw[Xq g l,DQ x (fr':=st.fr) (fun i hi=>Dj g (fun e=>(t i e).1 (B i hi)))]at q2;refine⟨_,(v _ _).2 ⟨o,c,q1,q2,rfl⟩,FM (by unfold bd;rw[Nx has]) ?_⟩;rw[C8 has];simp only[Wp m,J,Ap];exact Xr l g
theorem keep{l:SL}{st s:St}(h:A6 E (some D) l st=some s){i:Nat}(hi:l.dst≠some i):s.fr i=st.fr i\/s.fr i=.undef:=by
 cases j:l.op.hard with
 |false=>exact .inl (Rw j h hi)
 |true=>
  have b:∀(st:St) (d:Option Nat) (v:SV),d≠some i->(st.set d v).fr i=st.fr i:=by
   intro st d v k
   cases d with
   |none=>rfl
   |some d=>exact AL _ _ (fun e=>k (by rw[e]))
  have c:∀(L:List Nat) (v:SV),AD L v=v\/AD L v=.undef:=by
   intro L v
   cases v<;>simp only[AD]<;>first
    |exact .inl trivial
    |exact .inl rfl
    |(split<;>first|exact .inl rfl|exact .inr rfl)
  rw[Gv,Ab]at h;obtain⟨t,_,h⟩:=h;split at h
  case isFalse=>cases h;exact .inl (b _ _ _ hi)
  cases g:l.op<;>simp only[g,aa.hard,Ah]at j<;>simp only[g,AM,aa.cls]at h
  case append e size bytes x y=>
   rw[LL,Aa]at h;obtain⟨p,_,rfl⟩:=h;unfold Dw;rw[b _ _ _ hi];exact c _ _
  case mcopy f x y=>
   unfold FH at h
   repeat' split at h
   all_goals first
    |(cases h;done)
    |(cases h;exact .inl (b _ _ _ hi))
  all_goals
   simp only[AY]at h;try(cases h;done)
   repeat' split at h
   all_goals first
    |(cases h;done)
    |(cases h;exact .inl rfl)
    |(cases h;exact .inl (b _ _ _ hi))
    |skip
  all_goals
   rw[Ab]at h;obtain⟨_,_,h⟩:=h;split at h
   ·cases h;exact .inl rfl
   ·cases h
def cE(E:ah)(A D:List Nat):List SL->St->Option St
 | [],st=>some st
 |l::ls,st=>(bk E A D l st).bind (cE E A D ls)
def EL(E:ah)(A D:List Nat)(ls:List SL):List Nat->St->Option St
 | [],st=>some st
 |i::is,st=>match ls[i]? with
  |some l=>(bk E A D l st).bind (EL E A D ls is)
  |none=>none
theorem QK:∀(ls:List SL) (m:List Nat) {st s:St},(∀a∈m,st.fr a=.ptr a 0\/st.fr a=.undef)->IY A m ls=true->Cn E (some D) ls st=some s->cE E A D ls st=some s
 | [],_,_,_,_,_,h=>h
 |l::ls,m,st,s,hm,hk,h=>by
  simp only[Cn,Ab]at h;obtain⟨q,f,B⟩:=h;simp only[IY,Ag]at hk;obtain⟨o,v⟩:=hk
  have p:bd A l st=true:=by
   unfold bd
   cases r:l.own A with
   |none=>rfl
   |some a=>
    rw[r]at o;simp only[List.contains_iff_mem]at o;rcases hm a o with e|e
    ·simp[e]
    ·exfalso;obtain⟨n,x,j,k⟩:=Hd r;simp only[A6,k,j,AM,aa.cls,AY,D4]at f;rw[show so E.G st.fr (.t a)=.undef from e]at f;cases f
  simp only[cE,FM p f,Ap];refine QK ls _ ?_ v B
  have b:∀a∈m,l.dst≠some a->q.fr a=.ptr a 0\/q.fr a=.undef:=by
   intro a c y;rcases keep f y with e|e
   ·rw[e];exact hm a c
   ·exact .inr e
  intro a c;unfold Q9 at c;split at c
  ·rename_i z d j k u;by_cases i:a=d
   ·subst i;simp only[A6,k,j,AM,aa.cls,By,Ap,u,Option.getD_some,B1]at f;split at f
    ·cases f;exact .inl (Be _ _ _)
    ·cases f
   ·rcases List.mem_cons.1 c with e|e
    ·exact(i e).elim
    ·exact b a e (fun g=>i (by rw[u]at g;cases g;rfl))
  ·rename_i d k j;rw[List.mem_filter]at c;exact b a c.1 (fun g=>by rw[k]at g;cases g;simp at c)
  ·rename_i j;exact b a c (fun g=>by rw[j]at g;cases g)
theorem NH{ls:List SL}:∀(b:List Nat) {st s:St},EL E A D ls b st=some s->Cv E (some D) ls b st=some s
 | [],_,_,h=>h
 |i::b,st,s,h=>by
  simp only[EL,Cv]at h⊢;split at h
  ·rename_i l c;rw[Ab]at h;obtain⟨f,e,d⟩:=h;simp only[c,(GS e).2,Ap];exact NH b d
  ·cases h
theorem MZ:∀(ls:List SL) (pre:List SL) (st:St),EL E A D (pre++ls) (List.range' pre.length ls.length) st=cE E A D ls st
 | [],_,_=>rfl
 |l::ls,pre,st=>by
  have h:=MZ ls (pre++ [l]);simp only[List.length_append,Au,Av,Ax,List.cons_append,Ay]at h;simp only[Au,List.range'_succ,EL,cE];rw[show(pre++l::ls)[pre.length]? =some l by simp];simp only
  congr 1
  funext s;exact h s
end
theorem Ab1{E:ah}{D:List Nat}{a b:SL}{st r q:St}(t:GT D a b=true)(y:a.op.makes=true->∀j,a.dst=some j->D.contains j=true)(x:b.op.makes=true->∀j,b.dst=some j->D.contains j=true)
  (h:A6 E (some D) a st=some r) (g:A6 E (some D) b r=some q):∃s,A6 E (some D) b st=some s/\A6 E (some D) a s=some q:=by
 simp only[GT,Ag,Ak,Bool.not_eq_true']at t;obtain⟨⟨p,B⟩,e⟩:=t
 have d:∀i,a.dst=some i->i∉b.looks/\b.dst≠some i:=by
  intro i hi;simp only[hi,Option.all_some,Ag,Bool.not_eq_true',bne_iff_ne]at p;exact⟨fun m=>by have:=p.1;simp[m]at this,p.2⟩
 have c:∀i,b.dst=some i->i∉a.looks:=by
  intro i hi m;simp[hi,m]at B
 rcases e with(⟨l,(((⟨⟨e,v⟩,u⟩|⟨e,f⟩)|⟨e,f⟩)|⟨e,k⟩)|⟨⟨⟨e,f⟩,k⟩,g7⟩⟩|⟨l,e|⟨⟨f,e⟩,k⟩⟩)|⟨⟨⟨l,e⟩|⟨l,e⟩,f⟩,k⟩
 ·exact Ajo l e (fun m j o=>by simpa[m,o]using v) (fun m j o=>by simpa[m,o]using u) d c h g
 ·exact Aji f e d c h g
 ·exact Ajp f e d c h g
 ·exact Ajl k e d c h g
 ·exact Ajn k (by simpa using g7) e (by simpa using f) d c h g
 ·exact Ajj l e d c h g
 ·exact Y5 l (by simpa using f) e (by simpa using k) d c h g
 ·exact Ajh l (by simpa using f) e (by simpa using k) d c h g
 ·exact Ajg e (by simpa using f) l (by simpa using k) d c h g
def Dt(P:Program)(ops:Array Oper)(A D:List Nat)(ls:List SL):Bool:=
 P.follows .mixedOrders&&IY A [] ls&&
 (ops.toList.zipIdx.all fun p=>p.1.after.all fun e=> !(Region.binds .any e)||decide (e.on<p.2))&&
 (ls.all fun l=> !l.op.makes||l.dst.all fun d=>D.contains d)&&
 ((List.range ls.length).all fun j=>(List.range j).all fun i=>((DN ops ls.length).getD j 0).testBit i||match ls[i]?,ls[j]? with
   |some x,some y=>Dv A D x y
   |_,_=>false)
theorem MA{E:ah}{A D:List Nat}{a b:SL}{st q p:St}(c:Dv A D a b=true)(o:a.op.makes=true->∀j,a.dst=some j->D.contains j=true)(m:b.op.makes=true->∀j,b.dst=some j->D.contains j=true)
  (u:bk E A D a st=some q) (t:bk E A D b q=some p):∃s,bk E A D b st=some s/\bk E A D a s=some p:=by
 simp only[Dv,Ak]at c;rcases c with c|c
 ·obtain⟨I,v⟩:=GS u;obtain⟨y,H⟩:=GS t;obtain⟨s,G,F⟩:=Ab1 c o m v H;simp only[GT,Ag,Ak,Bool.not_eq_true']at c;obtain⟨⟨q1,q2⟩,q4⟩:=c
  have d:a.own A=none:=by
   rcases q4 with(⟨q3,_⟩|⟨q3,_⟩)|⟨⟨⟨q3,_⟩|⟨_,q3⟩,_⟩,_⟩
   ·exact Nx q3
   all_goals
    cases C:a.own A with
    |none=>rfl
    |some k=>
     obtain⟨n,x,h,_⟩:=Hd C;rw[h]at q3;cases q3
  refine⟨s,FM (Age (fun k r=> ?_) y) G,FM (by unfold bd;rw[d]) F⟩;obtain⟨n,x,h,_⟩:=Hd r
  have g:a.op.hard=false:=by
   rcases q4 with(⟨q3,_⟩|⟨_,q3|⟨⟨_,q3⟩,_⟩⟩)|⟨⟨⟨_,q3⟩|⟨q3,_⟩,_⟩,_⟩
   ·exact q3
   all_goals
    rw[h]at q3;cases q3
  refine(Rw g v fun B=> ?_).symm;simp only[B,Option.all_some,Ag,Bool.not_eq_true',bne_iff_ne]at q1;have:=q1.1;simp[QJ r]at this
 ·simp only[Ag]at c;obtain⟨⟨q1,q2⟩,q4⟩:=c
  have l:∀i,a.dst=some i->i∉b.looks/\b.dst≠some i:=by
   intro i hi;simp only[hi,Option.all_some,Ag,Bool.not_eq_true',bne_iff_ne]at q1;exact⟨fun e=>by have:=q1.1;simp[e]at this,q1.2⟩
  have f:∀i,b.dst=some i->i∉a.looks:=by
   intro i hi e;simp[hi,e]at q2
  exact Ajm l f q4 u t
def left(n:Nat)(L:Array Bool):List Nat:=(List.range n).filter fun i=> !L.getD i true
inductive Good (ops:Array Oper):Array Bool->List Nat->Prop where
 |nil {L:Array Bool}:left ops.size L= []->Good ops L []
 |cons {L:Array Bool} {i:Nat} {is:List Nat}:i<ops.size->L.getD i true=false->(∀o,ops[i]? =some o->∀e∈o.after,Region.binds .any e=true->L.getD e.on false=true)->Good ops (L.setIfInBounds i true) is->Good ops L (i::is)
theorem getD_set(L:Array Bool)(i j:Nat)(b:Bool)(hi:L.getD i true=false):(L.setIfInBounds i true).getD j b=if j=i then true else L.getD j b:=by
 have c:i<L.size:=by
  rw[Ar]at hi;by_cases h:i<L.size
  ·exact h
  ·simp[Array.getElem?_eq_none (Nat.le_of_not_lt h)]at hi
 simp only[Ar,Array.getElem?_setIfInBounds];by_cases h:j=i
 ·subst h;simp[c]
 ·have d:¬i=j:=fun e=>h e.symm;simp[h,d]
theorem MQ(n:Nat)(L:Array Bool)(i:Nat)(d:i<n)(hi:L.getD i true=false):∃p q,left n L=p++i::q/\left n (L.setIfInBounds i true)=p++q/\∀j∈p,j<i/\L.getD j true=false:=by
 have c:List.range n=List.range i++i::List.range' (i+1) (n-i-1):=by
  rw[List.range_eq_range',List.range_eq_range',show n=i+((n-i-1)+1) by omega,<-List.range'_append_1,List.range'_succ];simp
 refine⟨(List.range i).filter fun j=> !L.getD j true,(List.range' (i+1) (n-i-1)).filter fun j=> !L.getD j true, ?_, ?_, ?_⟩
 ·simp only[left,c,List.filter_append,List.filter_cons,hi,Bool.not_false,if_true]
 ·simp only[left,c,List.filter_append,List.filter_cons,getD_set L i _ _ hi,if_true,Bool.not_true,Ah,if_false]
  congr 1
  ·apply List.filter_congr;intro j b;rw[An (by have:=Az.1 b;omega)]
  ·apply List.filter_congr;intro j b;rw[An (by have:=(List.mem_range'_1.1 b).1;omega)]
 ·intro j b;rw[List.mem_filter,Az]at b;exact⟨b.1,by simpa using b.2⟩
section
variable {P:Program} {E:ah} {n:Nat} {ops:Array Oper} {A D:List Nat} {ls:List SL}
theorem W8{i:Nat}{b:SL}(f:ls[i]? =some b)(c:b.op.makes=true->∀j,b.dst=some j->D.contains j=true)(q:List Nat):∀(p:List Nat) {st st':St},(∀k∈p,∀l,ls[k]? =some l->l.op.makes=true->∀j,l.dst=some j->D.contains j=true)->(∀j∈p,∃a,ls[j]? =some a/\Dv A D a b=true)->EL E A D ls (p++i::q) st=some st'->EL E A D ls (i::(p++q)) st=some st'
 | [],_,_,_,_,h=>h
 |j::p,st,st',hD,hf,h=>by
  obtain⟨a,g,e⟩:=hf j (by simp);simp only[List.cons_append,EL,g,Ab]at h;obtain⟨B,u,t⟩:=h;have d:=W8 f c q p (fun k m=>hD k (by simp[m])) (fun j o=>hf j (by simp[o])) t;simp only[EL,f,Ab]at d;obtain⟨y,d,r⟩:=d;obtain⟨s,x,v⟩:=MA e (hD j (by simp) a g) c u d;simp only[List.cons_append,EL,f,g,x,v,Ap,r]
theorem LI{L:Array Bool}(b:∀i o,L.getD i false=true->ops[i]? =some o->∀e∈o.after,Region.binds .any e=true->L.getD e.on false=true):∀(k i j:Nat),(∀o,ops[j]? =some o->∀e∈o.after,Region.binds .any e=true->L.getD e.on false=true)->Gl ops k i j=true->L.getD i false=true
 |0,_,_,_,h=>by cases h
 |k+1,i,j,hj,h=>by
  simp only[Gl]at h;split at h<;>(try cases h;done);rename_i o f;rw[Array.any_eq_true']at h;obtain⟨e,g,h⟩:=h;simp only[Ag,Ak,beq_iff_eq,decide_eq_true_eq]at h;obtain⟨l,h⟩:=h;have d:=hj o f e g l;rcases h with h|⟨_,h⟩
  ·rw[<-h];exact d
  ·exact LI b k i e.on (fun o' c=>b e.on o' d c) h
theorem PQ(I:ls.length=ops.size)
  (f:∀j<ls.length,∀i<j,Gl ops ls.length i j=true\/∃x y,ls[i]? =some x/\ls[j]? =some y/\Dv A D x y=true) {L:Array Bool} {B:List Nat} (J:Good ops L B):
  (∀i o,L.getD i false=true->ops[i]? =some o->∀e∈o.after,Region.binds .any e=true->L.getD e.on false=true)->L.size=ops.size->(∀k∈left ops.size L,∀l,ls[k]? =some l->l.op.makes=true->∀j,l.dst=some j->D.contains j=true)->∀{st st':St},EL E A D ls (left ops.size L) st=some st'->EL E A D ls B st=some st':=by
 induction J with
 |nil h=>
  intro _ _ _ st st' m;rw[h]at m;exact m
 | @cons L i B hi hL he J ih=>
  intro b C v st st' m;obtain⟨p,q,S,K,Q⟩:=MQ ops.size L i hi hL;have u:ls[i]? =some (ls[i]'(by omega)):=Aj _;rw[S]at m v
  have g:=W8 u (v i (by simp) _ u) q p (fun k c=>v k (by simp[c])) (fun j M=>by
   obtain⟨G,d⟩:=Q j M;rcases f i (by omega) j G with ha|⟨x,y,hx,hy,hf⟩
   ·have:=LI b _ j i he ha;have F:j<L.size:=by omega
    simp[Ar,Array.getElem?_eq_getElem F]at this d;rw[this]at d;cases d
   ·rw[u]at hy;cases hy
    exact⟨x,hx,hf⟩) m
  simp only[EL,u,Ab]at g⊢;obtain⟨s,O,N⟩:=g;refine⟨s,O,ih ?_ (by simp[C]) (by rw[K];intro k c;exact v k (by rcases List.mem_append.1 c with c|c<;>simp[c])) (by rw[K];exact N)⟩;intro k o c H e r t;rw[getD_set L i _ _ hL]at c⊢;split
  ·rfl
  ·split at c
   ·rename_i T;subst T;exact he o H e r t
   ·exact b k o c H e r t
theorem Ahd{L:Array Bool}(g:∀i o,ops[i]? =some o->∀e∈o.after,Region.binds .any e=true->e.on<i)(v:L.size=ops.size)(h:left ops.size L≠ []):Region.ready .any ops L≠ []:=by
 cases r:left ops.size L with
 |nil=>exact(h r).elim
 |cons i q=>
  have l:i∈left ops.size L:=by rw[r];simp
  have d:=l;simp only[left,List.mem_filter,Az]at d;obtain⟨hi,f⟩:=d;have f:L.getD i true=false:=by simpa using f
  obtain⟨p,G,m,_,F⟩:=MQ ops.size L i hi f
  have y:p= []:=by
   cases p with
   |nil=>rfl
   |cons j p=>
    rw[r]at m;simp only[List.cons_append,List.cons.injEq]at m;have:=(F j (by simp)).1;omega
  subst y
  have k:∀j,j<i->L.getD j false=true:=by
   intro j H;have s:j<L.size:=by omega
   cases t:L.getD j false with
   |true=>rfl
   |false=>
    exfalso
    have c:j∈left ops.size L:=by
     simp only[left,List.mem_filter,Az];refine⟨by omega, ?_⟩;simp[Ar,Array.getElem?_eq_getElem s]at t⊢;exact t
    rw[m]at c;have b:(left ops.size L).Pairwise (· < ·):=List.Pairwise.filter _ List.pairwise_lt_range;rw[m,Ay,List.pairwise_cons]at b;simp only[Ay,List.mem_cons]at c;rcases c with c|c
    ·omega
    ·have:=b.1 j c;omega
  intro x
  have:i∈Region.ready .any ops L:=by
   simp only[Region.ready,List.mem_filter,Az];refine⟨hi, ?_⟩;have u:ops[i]? =some (ops[i]'hi):=Array.getElem?_eq_getElem hi;simp only[f,Bool.not_false,u,Aq,Option.getD_some,Bool.true_and,Array.all_eq_true'];intro e B
   cases C:Region.binds .any e with
   |false=>rfl
   |true=>simp[k e.on (g i _ u e B C)]
  rw[x]at this;cases this
theorem lin_good(c:∀i o,ops[i]? =some o->∀e∈o.after,Region.binds .any e=true->e.on<i):∀(b t:Nat) (L:Array Bool),L.size=ops.size->(left ops.size L).length<=b->Good ops L (Region.linearise.go .any ops b t L [])
 |0,t,L,hsz,hf=>by
  have:left ops.size L= []:=Aw (by omega);simpa[Region.linearise.go]using Good.nil this
 |b+1,t,L,hsz,hf=>by
  simp only[Region.linearise.go]
  change Good ops L (match (Region.ready .any ops L)[t %(Region.ready .any ops L).length]? with
   |some i=>Region.linearise.go .any ops b (t/(Region.ready .any ops L).length) (L.setIfInBounds i true) [i]
   |none=> [].reverse)
  by_cases h:left ops.size L= []
  ·have d:Region.ready .any ops L= []:=by
    cases d:Region.ready .any ops L with
    |nil=>rfl
    |cons j js=>
     exfalso;have k:j∈Region.ready .any ops L:=by rw[d];simp
     simp only[Region.ready,List.mem_filter,Az,Ag]at k
     have:j∈left ops.size L:=by
      simp only[left,List.mem_filter,Az];exact⟨k.1,k.2.1⟩
     rw[h]at this;cases this
   simpa[d]using Good.nil h
  ·have d:=Ahd c hsz h;have g:t %(Region.ready .any ops L).length<(Region.ready .any ops L).length:=Nat.mod_lt _ (List.length_pos_iff.2 d);rw[Aj g];generalize hi:(Region.ready .any ops L)[t %(Region.ready .any ops L).length]=i;have f:i∈Region.ready .any ops L:=by rw[<-hi];exact List.getElem_mem _
   simp only[Region.ready,List.mem_filter,Az,Ag,Bool.not_eq_true']at f;obtain⟨r,m,l⟩:=f;simp only;rw[linearise_go_acc,List.reverse_singleton,List.singleton_append];obtain⟨p,q,y,x,_⟩:=MQ ops.size L i r m;refine .cons r m ?_ (lin_good c b _ _ (by simp[hsz]) ?_)
   ·intro o s e u v;rw[s]at l;simp only[Aq,Option.getD_some,Array.all_eq_true']at l;have:=l e u;simpa[v]using this
   ·rw[y]at hf;rw[x];simp only[List.length_append,Au]at hf⊢;omega
theorem P6(E:ah)(D:Option (List Nat)):∀(ls:List SL) (pre:List SL) (st:St),Cv E D (pre++ls) (List.range' pre.length ls.length) st=Cn E D ls st
 | [],_,_=>rfl
 |l::ls,pre,st=>by
  have h:=P6 E D ls (pre++ [l]);simp only[List.length_append,Au,Av,Ax,List.cons_append,Ay]at h;simp only[Au,List.range'_succ,Cv,Cn];rw[show(pre++l::ls)[pre.length]? =some l by simp];simp only
  congr 1
  funext s;exact h s
theorem Aan(K:A5 (Dg P n ops) ops.toList=some ls)(B:Dt P ops A D ls=true){st st':St}(u:Cn E (some D) ls st=some st')(t:Nat):
  Cv E (some D) ls (Region.schedule (P.follows .mixedOrders) ops t) st=some st':=by
 have f:ls.length=ops.size:=by rw[DF K];simp
 simp only[Dt,Ag]at B;obtain⟨⟨⟨⟨H,m⟩,c⟩,p⟩,s⟩:=B;have u:=QK ls [] (by simp) m u;refine NH (A:=A) _ ?_;simp only[Region.schedule,H,Bool.true_or,if_true,Region.linearise]
 have b:left ops.size (Array.replicate ops.size false)=List.range ops.size:=by
  simp only[left];rw[List.filter_eq_self];intro i hi;have:=Az.1 hi;simp[Ar,this]
 have d:∀i o,ops[i]? =some o->∀e∈o.after,Region.binds .any e=true->e.on<i:=by
  intro i o G e J L;rw[As]at c
  have q:(o,i)∈ops.toList.zipIdx:=by
   rw[List.mem_zipIdx_iff_getElem?];simpa using G
  have:=c _ q;rw[Array.all_eq_true']at this;have:=this e J;simpa[L]using this
 refine PQ f ?_ (lin_good d ops.size t _ (by simp) (by rw[b];simp)) ?_ (by simp) ?_ ?_
 ·intro j r i v;rw[As]at s;have:=s j (Az.2 r);rw[As]at this;have:=this i (Az.2 v);rw[Ak]at this;rcases this with h|h
  ·rw[FT ops r]at h;exact .inl (GY ops r h)
  ·refine .inr ?_;split at h
   ·rename_i x y F C;exact⟨x,y,F,C,h⟩
   ·cases h
 ·intro i o hi;exfalso;rw[Ar,Array.getElem?_replicate]at hi;split at hi<;>cases hi
 ·intro k _ l I g j r;rw[As]at p;have:=p l (List.mem_of_getElem? I);simpa[g,r]using this
 ·rw[b,List.range_eq_range',<-f];have:=MZ (E:=E) (A:=A) (D:=D) ls [] st;simp only[Ay,Av]at this;rw[this];exact u
end
def cl(s:SV):Prop:=∀id,s.ref=some id->id<A9
def EW(o:Ob):Prop:=∀cs bt,o=.box cs bt->∀s∈cs,cl s
structure Cl (st:St):Prop where
 fr:∀i,cl (st.fr i)
 ob:∀j,j<A9->EW (st.ob j)
theorem Cu(c:CV):cl (.c c):=fun _ h=>by cases h
theorem Mf:cl .undef:=fun _ h=>by cases h
theorem Pk{bt:Option TypeId}(l:List CV):EW (.box (l.map .c) bt):=fun cs _ h s b=>by
 cases h;obtain⟨c,_,rfl⟩:=List.mem_map.1 b;exact Cu c
theorem Uq(s:SV):cl (DH s):=fun id h=>by
 unfold DH at h
 cases b:s.ref with
 |none=>rw[b]at h;simp only at h;rw[b]at h;cases h
 |some j=>
  rw[b]at h;simp only at h;split at h
  ·cases h
  ·rw[b]at h;cases h;omega
theorem ZJ(st:St):Cl (D5 st):=by
 refine⟨fun i=>Uq _,fun j e cs bt c s d=> ?_⟩;have h:(if A9<=j then st.ob j else GM (st.ob j))=.box cs bt:=c;rw[An (by omega)]at h;cases b:st.ob j<;>rw[b]at h<;>cases h;obtain⟨s',_,rfl⟩:=List.mem_map.1 d;exact Uq _
section
variable {P:Program} {w0:WL} {M0:MM} {n:Nat} {st:St} {a:Act} {w:World} {z:Cz}
theorem SR.clean{G:Nat->List CV}(h:SR P G w0 M0 n st a w z):SR P G w0 M0 n (D5 st) a w z:=by
 have b:∀id,(D5 st).ob id≠ .none<->st.ob id≠ .none:=fun id=>by
  show(if A9<=id then st.ob id else GM (st.ob id))≠ .none<->_;split
  ·exact Iff.rfl
  ·cases st.ob id<;>simp[GM]
 have r:Bu w (A3 M0 z st.ob) w (A3 M0 z (D5 st).ob):=⟨Nat.le_refl _,fun _ _ _=>rfl,fun g _ u=>by
  rcases u with u|⟨id,f,l⟩
  ·exact .inl u
  ·exact .inr ⟨id,(b id).1 f,l⟩,rfl⟩
 have y:∀s:SV,F7 st.ob z (D5 st).ob z s:=fun s=>⟨fun id _ f=>(b id).2 f,fun _ _ _=>rfl,fun _ _ _ _ _ H=>H⟩
 have B:∀{s:SV} {v:Value},AA w (A3 M0 z st.ob) z st.ob s v->AA w (A3 M0 z (D5 st).ob) z (D5 st).ob (DH s) v:=by
  intro s v F
  have:DH s=s\/DH s=.undef:=by
   unfold DH;split
   ·split
    ·exact .inr rfl
    ·exact .inl rfl
   ·exact .inl rfl
  rcases this with e|e
  ·rw[e];exact AA.keep r (y s) F
  ·rw[e];trivial
 have q:∀(cs:List SV) vs,AH w (A3 M0 z st.ob) z st.ob cs vs->AH w (A3 M0 z (D5 st).ob) z (D5 st).ob (cs.map DH) vs:=by
  intro cs
  induction cs with
  |nil=>intro vs k;exact k
  |cons c cs ih=>
   intro vs k;obtain⟨v,m,e,f,l⟩:=k;exact⟨v,m,e,B f,ih m l⟩
 refine⟨h.size,h.defers,h.below,h.outer,⟨h.nam.lent,fun N C x=> ?_,h.nam.names,h.nam.low⟩,h.glob,fun i=>B (h.fr i),fun id=> ?_,fun id g f l=>h.lo id g ((b id).1 f) l,fun i j g t f l=>h.apart i j g t ((b i).1 f) ((b j).1 l)⟩
 ·have p:bA (if A9<=N then st.ob N else GM (st.ob N))=true:=x;rw[Ao C]at p;exact h.nam.told N C p
 ·show Bg P w _ 0 z _ id (z.σ id) (if A9<=id then st.ob id else GM (st.ob id));have d:=h.ob id;split
  ·exact Bg.keep r (fun _ _=>rfl) (fun cs _ s _=>y s) (fun _ _ k=>k) d
  ·cases o:st.ob id with
   |box cs=>
    rw[o]at d;obtain⟨g,ty,vs,K,J,I⟩:=d;exact⟨g,ty,vs,K,J,q cs vs I⟩
   |_=>
    rw[o]at d;exact Bg.keep r (fun _ _=>rfl) (fun cs x=>by cases x) (fun _ _ k=>k) d
end
theorem Iz{x:Option CV}{v:SV}(h:x.map .c=some v):cl v:=by
 obtain⟨c,_,rfl⟩:=Aa.1 h;exact Cu c
theorem Un{rd:Nat->Ob}(b:∀j,EW (rd j)){sz:Option Nat}{s v:SV}(h:Bb rd sz s=some v):cl v:=by
 unfold Bb at h
 repeat' split at h
 all_goals first
  |(cases h;done)
  |exact Iz h
  |skip
 ·rename_i cs _ c _;exact b _ cs _ c _ (List.mem_of_getElem? h)
 ·obtain⟨l,_,rfl⟩:=Aa.1 h;exact Cu _
 ·obtain⟨e,_,h⟩:=Ab.1 h;exact Iz h
theorem Up{rd:Nat->Ob}{ρ:SO->SV}{op:aa}{v:SV}(d:∀x,cl (ρ x))(g:∀j,EW (rd j))(m:∀N,A9<=N->rd N=.none)(h:A2 rd ρ op=some v):cl v:=by
 have k:∀x,cl (deref rd (ρ x)):=fun x=>by
  have:=d x;generalize ρ x=s at this⊢;unfold deref;split
  ·split
   ·rename_i l;rw[m _ l.1];exact Mf
   ·exact Mf
  ·exact this
 cases op
 case mov x=>cases h;exact d _
 case pick c a b=>
  simp only[A2]at h;split at h<;>(try cases h;done);cases h;split<;>exact d _
 case load sz x=>exact Un g h
 case loadb sz x=>
  simp only[A2]at h;split at h<;>(try cases h;done);exact Un g h
 case nchk x=>
  simp only[A2]at h;have:=d x;split at h<;>(try cases h;done)
  ·split at h<;>cases h;exact Cu _
  all_goals
   rename_i f;cases h;rw[f]at this;exact this
 case lsl e size parts=>
  simp only[A2]at h;obtain⟨_,_,h⟩:=Ab.1 h;split at h<;>cases h;exact Cu _
 case faddr off x=>
  simp only[A2]at h;have:=k x;split at h
  ·split at h<;>cases h;exact Cu _
  ·split at h<;>cases h;exact Cu _
  ·rename_i f;cases h;rw[f]at this;exact fun id af=>this id af
  ·rename_i f;cases h;rw[f]at this;exact fun id af=>this id af
  ·cases h
 case iaddr size x i=>
  have:=d x;simp only[A2,Eu]at h;split at h<;>(try cases h;done)
  ·obtain⟨j,_,h⟩:=Ab.1 h;obtain⟨e,_,h⟩:=Ab.1 h;split at h<;>cases h;exact Cu _
  ·rename_i f _;rw[f]at this;split at h<;>(try cases h;done);split at h<;>(try cases h;done);obtain⟨j,_,rfl⟩:=Aa.1 h;exact fun id af=>this id af
 case aaddr len size x i=>
  have:=d x;simp only[A2,EA]at h;split at h<;>(try cases h;done)
  ·split at h<;>(try cases h;done);obtain⟨j,_,rfl⟩:=Aa.1 h;exact Cu _
  ·rename_i f _;rw[f]at this;obtain⟨j,_,rfl⟩:=Aa.1 h;exact fun id af=>this id af
 case ext x i=>
  have:=d x;simp only[A2]at h;split at h<;>(try cases h;done)
  ·exact Iz h
  ·rename_i f;rw[f]at this
   repeat' split at h
   all_goals first
    |(cases h;done)
    |(cases h;exact Cu _)
    |(cases h;exact fun id af=>this id af)
 case build z parts=>
  simp only[A2]at h;obtain⟨_,_,h⟩:=Ab.1 h;obtain⟨_,_,rfl⟩:=Aa.1 h;exact Cu _
 case minmax mx xs=>
  simp only[A2]at h;obtain⟨_,_,h⟩:=Ab.1 h;split at h
  ·cases h
  ·exact Iz h
 case sidx x i=>
  simp only[A2]at h;split at h<;>(try cases h;done);obtain⟨_,_,h⟩:=Ab.1 h;obtain⟨_,_,rfl⟩:=Aa.1 h;exact Cu _
 case aidx len size sz x i=>
  simp only[A2]at h;split at h<;>(try cases h;done);obtain⟨_,_,h⟩:=Ab.1 h;exact Iz h
 case sslice x lo hi=>
  simp only[A2]at h;split at h<;>(try cases h;done);obtain⟨_,_,h⟩:=Ab.1 h;obtain⟨_,_,h⟩:=Ab.1 h;split at h<;>cases h;exact Cu _
 case slice3 size x lo hi mx=>
  simp only[A2]at h;split at h<;>(try cases h;done);obtain⟨_,_,h⟩:=Ab.1 h;obtain⟨_,_,h⟩:=Ab.1 h;obtain⟨_,_,h⟩:=Ab.1 h;split at h<;>cases h;exact Cu _
 case slice size x lo hi=>
  simp only[A2]at h;split at h<;>(try cases h;done);obtain⟨_,_,h⟩:=Ab.1 h;obtain⟨_,_,h⟩:=Ab.1 h;split at h<;>cases h;exact Cu _
 all_goals
  simp only[A2,reduceCtorEq]at h;try(cases h;done)
  repeat' split at h
  all_goals first
   |(cases h;done)
   |exact Iz h
   |(cases h;exact Cu _)
   |(obtain⟨_,_,rfl⟩:=Aa.1 h;exact Cu _)
theorem ZF{ρ:SO->SV}{d:Nat}{op:aa}{v:SV}{o:Ob}(g:∀x,cl (ρ x))(i:d<A9)(h:By ρ d op=some (v,o)):cl v/\EW o:=by
 have c:∀s:SV,s.ref=some d->cl s:=fun s f id af=>by rw[f]at af;cases af;exact i
 cases op<;>simp only[By,reduceCtorEq]at h
 case alloc z=>cases h;exact⟨c _ rfl,Pk _⟩
 case allocT T z=>cases h;exact⟨c _ rfl,Pk _⟩
 case nbytes e x=>
  split at h<;>(try cases h;done);simp only[Ae,Ac,Prod.mk.injEq]at h;obtain⟨_,rfl,rfl⟩:=h;exact⟨c _ rfl,fun cs _ b=>by cases b⟩
 case box x=>
  split at h
  ·cases h;exact⟨c _ rfl,Pk _⟩
  ·cases h
  ·cases h;refine⟨c _ rfl,fun cs _ b s f=> ?_⟩;cases b;simp only[List.mem_singleton]at f;subst f;exact g x
 case mksl e size parts=>
  obtain⟨l,_,h⟩:=Ab.1 h;split at h<;>cases h;exact⟨c _ rfl,fun cs _ b=>by cases b⟩
 case mkmap=>cases h;exact⟨c _ rfl,fun cs _ b=>by cases b⟩
 case make=>
  repeat' split at h
  all_goals first
   |(cases h;done)
   |(cases h;exact⟨c _ rfl,fun cs _ b=>by cases b⟩)
 case mrange=>
  repeat' split at h
  all_goals first
   |(cases h;done)
   |(cases h;exact⟨c _ rfl,fun cs _ b=>by cases b⟩)
 case siter=>
  repeat' split at h
  all_goals first
   |(cases h;done)
   |(cases h;exact⟨c _ rfl,fun cs _ b=>by cases b⟩)
section
variable {E:ah}
def dv(p:SV×Option Ob):Prop:=cl p.1/\∀o,p.2=some o->EW o
theorem Uo{rd:Nat->Ob}{ρ:SO->SV}{d:Option Nat}{f:FuncId}{args:List SO}{c:List CV}{p:SV×Option Ob}(t:∀j,d=some j->j<A9)(h:Hq E.named rd ρ d f args c=some p):dv p:=by
 unfold Hq at h;obtain⟨l,_,h⟩:=Ab.1 h;obtain⟨r,m,h⟩:=Ab.1 h;split at h<;>cases h
 cases r with
 |val v=>exact⟨Cu _,fun o q=>by cases q⟩
 |new o=>
  have e:ED o=true:=by
   have b:(match E.fn f (l++c)with
    |some (.new o)=>if ED o=true then some (.new o)else none
    |r=>r)=some (.new o):=m
   split at b
   ·split at b<;>(try cases b;done);rename_i e;cases b;exact e
   ·rename_i i;exact absurd b (i o)
  have s:d.getD 0<A9:=by
   cases d with
   |none=>decide
   |some j=>exact t j rfl
  refine⟨fun id af=> ?_,fun o' g=> ?_⟩
  ·cases o<;>simp[ED]at e<;>(simp only[N7,SV.ref,Ac]at af;omega)
  ·cases g;intro cs _ k;subst k;cases e
theorem ZH{rd:Nat->Ob}{l:SL}{fr:Nat->SV}{p:SV×Option Ob}(q:∀i,cl (fr i))(f:∀j,EW (rd j))(u:∀N,A9<=N->rd N=.none)(s:∀j,l.dst=some j->j<A9)(h:BF E.named l fr rd=some p):dv p:=by
 have d:∀x,cl (so E.named.G fr x):=fun x=>by
  cases x with
  |t i=>exact q i
  |k c=>exact Cu c
  |g i=>
   simp only[so]
   cases E.named.G i with
   |nil=>exact Mf
   |cons c cs=>exact Cu _
 have m:∀p,AJ E.named rd (so E.named.G fr) l.dst l.op=some p->dv p:=fun p h=>by
  have r:l.dst.getD 0<A9:=by
   cases y:l.dst with
   |none=>decide
   |some j=>exact s j y
  unfold AJ at h;split at h
  ·obtain⟨v,e,rfl⟩:=Aa.1 h;exact⟨Up d f u e,fun o b=>by cases b⟩
  ·obtain⟨v,e,rfl⟩:=Aa.1 h;exact⟨Up d f u e,fun o b=>by cases b⟩
  ·obtain⟨⟨v,o⟩,e,rfl⟩:=Aa.1 h;obtain⟨C,B⟩:=ZF d r e;exact⟨C,fun o' b=>by cases b;exact B⟩
  ·cases h
  ·cases h
  ·split at h
   ·exact Uo s h
   ·split at h<;>(try cases h;done);exact Uo s h
   ·cases h
 unfold BF at h;split at h
 ·exact m _ h
 ·split at h
  ·split at h
   ·exact m _ h
   ·cases h;exact⟨Cu _,fun o b=>by cases b⟩
  ·cases h;exact⟨Cu _,fun o b=>by cases b⟩
  ·cases h
theorem ZG{st s:St}{d:Option Nat}{p:SV×Option Ob}(b:Cl st)(c:dv p)(h:put st d p=some s):Cl s:=by
 have g:∀v i,cl v->cl (ac st.fr i v i):=fun v i e=>by rw[Be];exact e
 obtain⟨v,o⟩:=p
 cases o with
 |none=>
  cases h
  cases d with
  |none=>exact b
  |some d=>
   refine⟨fun i=> ?_,b.ob⟩;show cl (ac st.fr d v i);rw[Cc];split
   ·exact c.1
   ·exact b.fr i
 |some o=>
  simp only[put,B1]at h
  cases d with
  |none=>cases h
  |some d=>
   simp only at h;split at h<;>(try cases h;done);cases h;refine⟨fun i=> ?_,fun j f=> ?_⟩
   ·show cl (ac st.fr d v i);rw[Cc];split
    ·exact c.1
    ·exact b.fr i
   ·show EW (ac st.ob d o j);rw[Cc];split
    ·exact c.2 o rfl
    ·exact b.ob j f
theorem ZI{n o:Nat}{ob e:Ob}{v:SV}(f:EW ob)(i:cl v)(h:Dl n o ob v=some e):EW e:=by
 unfold Dl at h;split at h<;>(try cases h;done);rename_i cs bt;split at h
 ·split at h<;>cases h;intro g _ d s b;cases d;unfold FY at b;simp only[List.mem_append]at b;rcases b with(b|b)|b
  ·exact f cs _ rfl s (List.mem_of_mem_take b)
  ·obtain⟨c,_,rfl⟩:=List.mem_map.1 b;exact Cu c
  ·exact f cs _ rfl s (List.mem_of_mem_drop b)
 ·split at h<;>cases h;intro g _ d s b;cases d;rcases List.mem_or_eq_of_mem_set b with b|b
  ·exact f cs _ rfl s b
  ·subst b;exact i
end
def low(st:St):St:={fr:=st.fr,ob:=C5 st.ob}
def ai(s st:St):St:={fr:=s.fr,ob:=fun i=>if A9<=i then st.ob i else s.ob i}
def bH(E:ah)(l:SL)(fr:Nat->SV):Option (bL×List SO×List CV):=
 match l.op with
 | .call f args=>match E.ef f with
  |some e=>some (e,args,[])
  |none=>none
 | .callv f args=>match so E.G fr f with
  | .c (.fn f caps)=>match E.ef f with
   |some e=>some (e,args,caps)
   |none=>none
  |_=>none
 |_=>none
def Cr(E:ah)(l:SL)(fr:Nat->SV):Option (bL×List SO×List CV):=if gd l fr=some true then bH E l fr else none
section
variable {E:ah} {A D:List Nat}
theorem P5{rd:Nat->Ob}{l:SL}{st:St}:Bz E rd l st=(gd l st.fr).bind fun t=>if t=true then AM E rd st l.dst l.op else some (st.set l.dst Bs):=by
 unfold Bz gd
 cases l.guard with
 |none=>rfl
 |some p=>
  obtain⟨g,d⟩:=p;simp only;generalize st.fr g=q
  cases q with
  |c v=>
   cases v with
   |bool b=>by_cases e:b=d<;>simp[e]
   |tup l=>cases l<;>rfl
   |_=>rfl
  |_=>rfl
theorem Aau{l:SL}{fr:Nat->SV}{q:bL×List SO×List CV}(h:bH E l fr=some q):l.op.calls=true:=by
 unfold bH at h;split at h
 ·rename_i b;rw[b];rfl
 ·rename_i b;rw[b];rfl
 ·cases h
theorem Ol{l:SL}{fr:Nat->SV}{q:bL×List SO×List CV}(h:Cr E l fr=some q):l.op.calls=true:=by
 unfold Cr at h;split at h
 ·exact Aau h
 ·cases h
theorem Om{l:SL}{fr fr':Nat->SV}(h:∀i∈l.looks,fr i=fr' i):Cr E l fr=Cr E l fr':=by
 unfold Cr;rw[HM h]
 have:bH E l fr=bH E l fr':=by
  unfold bH;cases b:l.op<;>simp only;rename_i f args;rw[DQ (fr':=fr') f fun i hi=>h i (by simp[SL.looks,b,aa.slots,hi])]
 rw[this]
theorem Pg{op:aa}(h:op.calls=true):op.hard=false:=by
 cases op<;>first|rfl|cases h
theorem Pf{l:SL}(h:l.op.calls=true):l.own A=none:=Nx (Pg h)
theorem QI{l:SL}{rd:Nat->Ob}{st:St}(h:bH E l st.fr=none):AM E rd st l.dst l.op=AM E.still rd st l.dst l.op:=by
 unfold bH at h;cases i:l.op<;>rw[i]at h<;>try rfl
 ·rename_i f args;simp only at h
  cases d:E.ef f with
  |some e=>rw[d]at h;cases h
  |none=>
   simp only[AM,aa.cls,d];rfl
 ·rename_i f args;simp only at h
  show(match so E.G st.fr f with
   | .c (.fn f b)=>match E.ef f with
    |some e=>D6 (so E.G st.fr) st l.dst e args b
    |none=>DG E rd (so E.G st.fr) st l.dst f args b
   |_=>none)=(match so E.G st.fr f with
   | .c (.fn f b)=>DG E rd (so E.G st.fr) st l.dst f args b
   |_=>none)
  generalize so E.G st.fr f=q at h;cases q<;>try rfl
  rename_i c;cases c<;>try rfl
  rename_i g b;simp only at h⊢
  cases d:E.ef g with
  |some e=>rw[d]at h;cases h
  |none=>rfl
theorem Afp{l:SL}{st:St}(b:Cr E l st.fr=none):D7 E D l st=(gd l st.fr).bind fun t=>if t=true then AM E.still (AN (some (af l.op D)) (C5 st.ob)) st l.dst l.op else some (st.set l.dst Bs):=by
 unfold D7;rw[P5];unfold Cr at b
 cases c:gd l st.fr with
 |none=>rfl
 |some t=>
  cases t with
  |false=>rfl
  |true=>
   rw[c,Ao rfl]at b;simp only[Ap,if_true];exact QI b
theorem Aiw{l:SL}{rd:Nat->Ob}{st:St}(e:l.op.hard=false):(BF E l st.fr rd).bind (put st l.dst)=(gd l st.fr).bind fun t=>if t=true then AM E.still rd st l.dst l.op else some (st.set l.dst Bs):=by
 unfold BF gd
 cases l.guard with
 |none=>simp only[Ap,if_true];exact(Jr e).symm
 |some p=>
  obtain⟨g,d⟩:=p;simp only;generalize st.fr g=q
  cases q with
  |c v=>
   cases v with
   |bool b=>
    by_cases f:b=d
    ·simp only[f,if_true,Ap,decide_true];exact(Jr e).symm
    ·simp[f,put]
   |tup l=>cases l<;>simp[put]
   |_=>rfl
  |_=>rfl
theorem Qx{l:SL}{st:St}(c:l.op.hard=false)(b:Cr E l st.fr=none):D7 E D l st=(BF E l st.fr (AN (some (af l.op D)) (C5 st.ob))).bind (put st l.dst):=by
 rw[Afp b,Aiw c]
theorem Ag8{st s:St}{d:Option Nat}{p:SV×Option Ob}(g:∀j,d=some j->j<A9)(h:put st d p=some s):put (low st) d p=some (low s)/\∀i,A9<=i->s.ob i=st.ob i:=by
 obtain⟨v,o⟩:=p
 cases o with
 |none=>
  cases h;cases d<;>exact⟨rfl,fun _ _=>rfl⟩
 |some o=>
  simp only[put,B1]at h⊢
  cases d with
  |none=>cases h
  |some d=>
   have f:=g d rfl;simp only at h⊢;split at h<;>(try cases h;done);rename_i c;cases h;have e:(low st).ob d=.none:=by show(if A9<=d then Ob.none else st.ob d)=_;rw[An (by omega),c]
   refine⟨?_,fun i hi=>AL _ _ (by omega)⟩;rw[e];simp only[low,Ac,St.mk.injEq,true_and];funext i;simp only[Cc,C5];by_cases b:i=d
   ·subst b;rw[Ao rfl,Ao rfl,An (by omega)]
   ·rw[An b,An b]
theorem QR{st t:St}{d:Option Nat}{p:SV×Option Ob}(m:∀j,d=some j->j<A9)(h:put (low st) d p=some t):put st d p=some (ai t st)/\low (ai t st)=t:=by
 obtain⟨v,o⟩:=p
 cases o with
 |none=>
  cases h
  have key:∀st':St,st'.ob=st.ob->ai (low st') st=st'/\low (ai (low st') st)=low st':=fun st' c=>by
   have b:ai (low st') st=st':=by
    cases st' with
    |mk fr ob=>
     cases c;simp only[ai,low,St.mk.injEq,true_and];funext i;simp only[C5];split<;>rfl
   exact⟨b,by rw[b]⟩
  have e:(low st).set d v=low (st.set d v):=by cases d<;>rfl
  obtain⟨g,f⟩:=key (st.set d v) (by cases d<;>rfl);rw[e];exact⟨by rw[g];rfl,f⟩
 |some o=>
  simp only[put,B1]at h⊢
  cases d with
  |none=>cases h
  |some d=>
   have l:=m d rfl;have k:(low st).ob d=st.ob d:=by show(if A9<=d then Ob.none else st.ob d)=_;rw[An (by omega)]
   simp only[k]at h⊢;split at h<;>(try cases h;done);rename_i q;cases h;constructor
   ·simp only[ai,low,Ac,St.mk.injEq,true_and];funext i;simp only[Cc,C5];by_cases b:i=d
    ·subst b;rw[Ao rfl,An (by omega),Ao rfl]
    ·rw[An b,An b];split<;>rfl
   ·simp only[ai,low,St.mk.injEq,true_and];funext i;simp only[Cc,C5];by_cases b:i=d
    ·subst b;rw[An (by omega),An (by omega)]
    ·rw[An b];split<;>rfl
structure Fp (A D:List Nat) (l:SL):Prop where
 hard:l.op.hard=true->∃k,l.own A=some k/\k<A9
 dst:∀j,l.dst=some j->j<A9
 makes:l.op.makes=true->∀j,l.dst=some j->D.contains j=true
open Classical in
noncomputable def bB(E:ah)(A D:List Nat)(l:SL)(st:St):Option St:=if Cl st/\bd A l st=true then D7 E.named D l st else none
theorem JX{l:SL}{st s:St}(h:bB E A D l st=some s):Cl st/\bd A l st=true/\D7 E.named D l st=some s:=by
 unfold bB at h;split at h
 ·rename_i b;exact⟨b.1,b.2,h⟩
 ·cases h
theorem M5{l:SL}{st s:St}(d:Cl st)(c:bd A l st=true)(b:D7 E.named D l st=some s):bB E A D l st=some s:=by
 unfold bB;rw[Ao ⟨d,c⟩,b]
theorem Nw{l:SL}{k:Nat}(h:l.own A=some k):∃n x,(∀i∈x.slot,i∈l.looks)/\∀(st:St) (o:Nat),st.fr k=.ptr k o->D7 E D l st=(Dl n o (st.ob k) (so E.G st.fr x)).map (fun b=>{st with ob:=ac st.ob k b})/\A6 E (some D) l st=(Dl n o (st.ob k) (so E.G st.fr x)).map fun b=>{st with ob:=ac st.ob k b}:=by
 obtain⟨n,x,f,e⟩:=Hd h;refine⟨n,x,fun i hi=>by simp[SL.looks,f,aa.slots,hi],fun st o g=> ?_⟩
 have key:∀(d:ah) rd,d.G=E.G->AM d rd st l.dst l.op=(Dl n o (st.ob k) (so E.G st.fr x)).map fun b=>{st with ob:=ac st.ob k b}:=fun d rd m=>by
  simp only[f,AM,aa.cls,AY,m];rw[show so E.G st.fr (.t k)=.ptr k o from g];simp only[Dl,deref];cases j:st.ob k<;>simp only[j]<;>try rfl
  generalize so E.G st.fr x=v
  cases v with
  |c cv=>cases cv<;>(simp only;split<;>rfl)
  |_=>simp only;split<;>rfl
 constructor
 ·unfold D7 Bz;rw[e];exact key E _ rfl
 ·unfold A6;rw[e];exact key _ _ D4
theorem Nq{l:SL}{k:Nat}{st:St}(b:l.own A=some k)(h:bd A l st=true):∃o,st.fr k=.ptr k o:=by
 unfold bd at h;rw[b]at h;simp only at h;split at h
 ·rename_i j o c;have:j=k:=by simpa using h
  subst this;exact⟨o,c⟩
 ·cases h
theorem Nn{l:SL}(f:Fp A D l){st s:St}(r:Cr E.named l st.fr=none)(h:bB E A D l st=some s):bk E.named A D l (low st)=some (low s)/\∀i,A9<=i->s.ob i=st.ob i:=by
 obtain⟨v,e,h⟩:=JX h;have c:bd A l (low st)=true:=e
 cases g:l.op.hard with
 |false=>
  rw[Qx g r,Ab]at h;obtain⟨p,d,C⟩:=h;obtain⟨B,y⟩:=Ag8 f.dst C;refine⟨FM c ?_,y⟩;rw[C8 g,Ab];exact⟨p,d,B⟩
 |true=>
  obtain⟨k,m,u⟩:=f.hard g;obtain⟨o,j⟩:=Nq m e;obtain⟨n,x,F,q⟩:=Nw (E:=E.named) (D:=D) m;rw[(q st o j).1,Aa]at h;obtain⟨b,d,rfl⟩:=h;have t:(low st).ob k=st.ob k:=by show(if A9<=k then Ob.none else st.ob k)=_;rw[An (by omega)]
  refine⟨FM c ?_,fun i hi=>AL _ _ (by omega)⟩;rw[(q (low st) o j).2,t];show(Dl n o (st.ob k) (so E.named.G st.fr x)).map _=_;rw[d];simp only[low,Aq,Ac,St.mk.injEq,true_and];funext i;simp only[Cc,C5];by_cases d:i=k
  ·subst d;rw[Ao rfl,Ao rfl,An (by omega)]
  ·rw[An d,An d]
theorem Np{l:SL}(f:Fp A D l){st t:St}(g:Cl st)(v:Cr E.named l st.fr=none)(h:bk E.named A D l (low st)=some t):bB E A D l st=some (ai t st)/\low (ai t st)=t:=by
 obtain⟨j,h⟩:=GS h;have d:bd A l st=true:=j
 cases m:l.op.hard with
 |false=>
  rw[C8 m,Ab]at h;obtain⟨p,c,H⟩:=h;obtain⟨F,C⟩:=QR f.dst H;refine⟨M5 g d ?_,C⟩;rw[Qx m v,Ab];exact⟨p,c,F⟩
 |true=>
  obtain⟨k,s,B⟩:=f.hard m;obtain⟨o,r⟩:=Nq s d;obtain⟨n,x,I,u⟩:=Nw (E:=E.named) (D:=D) s;rw[(u (low st) o r).2,Aa]at h;obtain⟨b,c,rfl⟩:=h;have y:(low st).ob k=st.ob k:=by show(if A9<=k then Ob.none else st.ob k)=_;rw[An (by omega)]
  rw[y]at c;have q:Dl n o (st.ob k) (so E.named.G st.fr x)=some b:=c
  have e:ai {low st with ob:=ac (low st).ob k b} st={st with ob:=ac st.ob k b}:=by
   simp only[ai,low,St.mk.injEq,true_and];funext i;simp only[Cc,C5];by_cases c:i=k
   ·subst c;rw[Ao rfl,An (by omega),Ao rfl]
   ·rw[An c,An c];split<;>rfl
  constructor
  ·refine M5 g d ?_;rw[(u st o r).1,q,e];rfl
  ·rw[e];simp only[low,St.mk.injEq,true_and];funext i;simp only[Cc,C5];by_cases c:i=k
   ·subst c;rw[Ao rfl,Ao rfl,An (by omega)]
   ·rw[An c,An c]
theorem QD{l:SL}(f:Fp A D l){st s:St}(B:Cr E.named l st.fr=none)(h:bB E A D l st=some s):Cl s:=by
 obtain⟨d,m,h⟩:=JX h
 cases v:l.op.hard with
 |false=>
  rw[Qx v B,Ab]at h;obtain⟨p,r,J⟩:=h;refine ZG d (ZH d.fr (fun j=> ?_) (fun N I=> ?_) f.dst r) J
  ·intro cs _ e;simp only[AN,C5]at e;split at e
   ·cases e
   ·split at e
    ·cases e
    ·exact d.ob j (by omega) cs _ e
  ·simp only[AN,C5];rw[Ao I];split<;>rfl
 |true=>
  obtain⟨k,u,q⟩:=f.hard v;obtain⟨o,C⟩:=Nq u m;obtain⟨n,x,K,H⟩:=Nw (E:=E.named) (D:=D) u;rw[(H st o C).1,Aa]at h;obtain⟨b,r,rfl⟩:=h
  have y:cl (so E.named.G st.fr x):=by
   cases x with
   |t i=>exact d.fr i
   |k c=>exact Cu c
   |g i=>
    simp only[so]
    cases E.named.G i with
    |nil=>exact Mf
    |cons c cs=>exact Cu _
  refine⟨d.fr,fun j F=> ?_⟩;show EW (ac st.ob k b j);rw[Cc];split
  ·exact ZI (d.ob k q) y r
  ·exact d.ob j F
theorem Nm{l:SL}(d:Fp A D l){L t:St}(h:bk E.named A D l L=some t){i:Nat}(hi:l.dst≠some i):t.fr i=L.fr i:=by
 obtain⟨c,h⟩:=GS h
 cases f:l.op.hard with
 |false=>exact Rw f h hi
 |true=>
  obtain⟨k,e,j⟩:=d.hard f;obtain⟨o,g⟩:=Nq e c;obtain⟨n,x,p,m⟩:=Nw (E:=E.named) (D:=D) e;rw[(m L o g).2,Aa]at h;obtain⟨b,q,rfl⟩:=h;rfl
theorem WE{f:FuncId}{e:bL}(h:E.named.ef f=some e):∀N,e.T.contains N=true->A9<=N:=by
 have b:(match E.ef f with
  |some e=>if(e.T.all fun N=>Nat.ble A9 N)=true then some e else none
  |none=>none)=some e:=h
 split at b<;>(try cases b;done);split at b<;>(try cases b;done);rename_i c;cases b;intro N d;rw[As]at c;exact Ai (c N (by simpa using d))
theorem Aj9{l:SL}{fr:Nat->SV}{q:bL×List SO×List CV}(h:Cr E.named l fr=some q):∀N,q.1.T.contains N=true->A9<=N:=by
 unfold Cr bH at h;split at h<;>(try cases h;done);split at h<;>(try cases h;done)
 ·split at h<;>(try cases h;done);rename_i e b;cases h;exact WE b
 ·split at h<;>(try cases h;done);split at h<;>(try cases h;done);rename_i e b;cases h;exact WE b
theorem VQ{T:List Nat}(hT:∀N,T.contains N=true->A9<=N){s:SV}(h:cl s):AD T s=s:=by
 have key:∀id,s.ref=some id->¬T.contains id=true:=fun id b c=>by
  have:=h id b;have:=hT id c;omega
 cases s<;>simp only[AD]<;>first
  |rfl
  |(rw[An (key _ rfl)])
def du(T:List Nat)(H:Nat->Ob)(ob:Nat->Ob):Nat->Ob:=fun i=>if T.contains i=true then H i else Cp T (ob i)
theorem Aj8{T:List Nat}(hT:∀N,T.contains N=true->A9<=N){H:Nat->Ob}{st:St}(h:Cl st):CI T H st={fr:=st.fr,ob:=fun i=>if A9<=i then du T H st.ob i else st.ob i}:=by
 unfold CI;simp only[St.mk.injEq];refine⟨funext fun i=>VQ hT (h.fr i),funext fun i=> ?_⟩;split
 ·rename_i b;rw[Ao (hT i b)];show H i=(if _ then _ else _);rw[Ao b]
 ·rename_i b;split
  ·show _=(if _ then _ else _);rw[An b]
  ·rename_i hi
   cases c:st.ob i with
   |box cs=>
    simp only[Cp,Ob.box.injEq,and_true];have f:=h.ob i (by omega) cs _ c;have e:∀s∈cs,AD T s=s:=fun s d=>VQ hT (f s d);exact(List.map_congr_left e).trans (List.map_id _)
   |_=>rfl
theorem Agn{T:List Nat}(hT:∀N,T.contains N=true->A9<=N){ob b:Nat->Ob}(h:∀i,A9<=i->b i=ob i):CS T b=CS T ob:=by
 funext i;unfold CS;split
 ·rename_i c;rw[h i (hT i c)]
 ·rfl
theorem Afn{l:SL}{fr:Nat->SV}{q:bL×List SO×List CV}(h:Cr E l fr=some q):∀x∈q.2.1,∀i∈x.slot,i∈l.looks:=by
 unfold Cr bH at h;split at h<;>(try cases h;done);split at h<;>(try cases h;done)
 ·rename_i c;split at h<;>(try cases h;done);cases h;intro x b i hi;simp only[SL.looks,c,aa.slots,List.mem_append,List.mem_flatMap];exact .inl ⟨x,b,hi⟩
 ·rename_i c;split at h<;>(try cases h;done);split at h<;>(try cases h;done);cases h;intro x b i hi;simp only[SL.looks,c,aa.slots,List.mem_append,List.mem_flatMap];exact .inl (.inr ⟨x,b,hi⟩)
theorem Wj{l:SL}{st:St}{q:bL×List SO×List CV}(h:Cr E l st.fr=some q):D7 E D l st=D6 (so E.G st.fr) st l.dst q.1 q.2.1 q.2.2:=by
 unfold D7;rw[P5];unfold Cr at h;split at h<;>(try cases h;done);rename_i d;rw[d];simp only[Ap,if_true];unfold bH at h;split at h<;>(try cases h;done)
 ·rename_i b;split at h<;>(try cases h;done);rename_i e c;cases h;simp only[b,AM,aa.cls,c]
 ·rename_i b;split at h<;>(try cases h;done);rename_i f;split at h<;>(try cases h;done);rename_i e c;cases h;simp only[b,AM,aa.cls,f,c]
theorem TO{b β:Type}{f g:b->Option β}:∀{l:List b},(∀x∈l,f x=g x)->A5 f l=A5 g l
 | [],_=>rfl
 |x::l,h=>by
  simp only[A5];rw[h x (by simp),TO (l:=l) fun y c=>h y (by simp[c])]
theorem Py{l:SL}{st s:St}{q:bL×List SO×List CV}(e:Cr E.named l st.fr=some q)(h:bB E A D l st=some s):
  ∃(c:CV) (hi:Nat->Ob),s={fr:=(st.set l.dst (.c c)).fr,ob:=fun i=>if A9<=i then hi i else st.ob i}/\∀st',(∀i∈l.looks,st'.fr i=st.fr i)->(∀i,A9<=i->st'.ob i=st.ob i)->Cl st'->
   bB E A D l st'=some {fr:=(st'.set l.dst (.c c)).fr,ob:=fun i=>if A9<=i then hi i else st'.ob i}:=by
 obtain⟨g,o,h⟩:=JX h;have hT:=Aj9 e;rw[Wj e]at h;unfold D6 at h;obtain⟨ls,t,h⟩:=Ab.1 h;obtain⟨⟨c,H⟩,r,p⟩:=Ab.1 h
 have form:∀b:St,Cl b->(CI q.1.T H b).set l.dst (.c c)={fr:=(b.set l.dst (.c c)).fr,ob:=fun i=>if A9<=i then du q.1.T H b.ob i else b.ob i}:=fun b u=>by
  rw[Aj8 hT u];cases l.dst<;>rfl
 refine⟨c,du q.1.T H st.ob, ?_,fun st' k j d=> ?_⟩
 ·cases p;exact form st g
 ·have f:Cr E.named l st'.fr=some q:=by rw[Om k];exact e
  refine M5 d (by unfold bd;rw[Pf (Ol e)]) ?_;rw[Wj f];unfold D6
  have v:A5 (fun x=>closed (so E.named.G st'.fr x)) q.2.1=A5 (fun x=>closed (so E.named.G st.fr x)) q.2.1:=TO fun x m=>by
   rw[DQ (fr':=st.fr) x fun i hi=>k i (Afn e x m i hi)]
  rw[v,t,Ap,Agn hT j,r,Ap,form st' d];simp only[Ac,St.mk.injEq,true_and];funext i;split
  ·rename_i hi;simp only[du,j i hi]
  ·rfl
theorem UF{st:St}(h:Cl st)(d:Option Nat)(c:CV)(hi:Nat->Ob):Cl {fr:=(st.set d (.c c)).fr,ob:=fun i=>if A9<=i then hi i else st.ob i}:=by
 refine⟨fun i=> ?_,fun j b=> ?_⟩
 ·cases d with
  |none=>exact h.fr i
  |some d=>
   show cl (ac st.fr d (.c c) i);rw[Cc];split
   ·exact Cu c
   ·exact h.fr i
 ·show EW (if A9<=j then hi j else st.ob j);rw[An (by omega)];exact h.ob j b
def Le(d:Option Nat)(c:CV):SL:=⟨d,.mov (.k c),none⟩
theorem NI{L:St}{d:Option Nat}{c:CV}:bk E A D (Le d c) L=some (L.set d (.c c)):=FM rfl rfl
theorem MY{st:St}(d:Option Nat)(c:CV)(hi:Nat->Ob):low {fr:=(st.set d (.c c)).fr,ob:=fun i=>if A9<=i then hi i else st.ob i}=(low st).set d (.c c):=by
 have e:(low st).set d (.c c)=low (st.set d (.c c)):=by cases d<;>rfl
 rw[e];simp only[low,St.mk.injEq,true_and];funext i;simp only[C5];split
 ·rfl
 ·cases d<;>rfl
theorem PU{op:aa}{D:List Nat}{i:Nat}(h:(af op D).contains i=true):D.contains i=true:=by
 unfold af at h;split at h
 ·simp only[List.contains_eq_mem,List.mem_filter,decide_eq_true_eq]at h⊢;exact h.1
 ·exact h
theorem Vv{a b:SL}(q1:(a.dst.all fun d=> !b.looks.contains d&&b.dst !=some d)=true)(q2:(b.dst.all fun d=> !a.looks.contains d)=true)
  (q3:(a.op.hard=false/\b.op.hard=false/\(a.op.makes=true->(a.dst.all fun d=>(af b.op D).contains d)=true)/\(b.op.makes=true->(b.dst.all fun d=>(af a.op D).contains d)=true))\/(∃k,a.own A=none/\b.own A=some k/\a.op.hard=false/\(af a.op D).contains k=true)\/(∃k,a.own A=some k/\b.own A=none/\b.op.hard=false/\(af b.op D).contains k=true)):Dv A D a b=true:=by
 unfold Dv GT;rw[q1,q2];rcases q3 with⟨g,f,e,c⟩|⟨k,g,f,e,c⟩|⟨k,g,f,e,c⟩
 ·rw[g,f]
  have j:(!a.op.makes||(a.dst.all fun d=>(af b.op D).contains d))=true:=by
   cases h:a.op.makes with
   |false=>rfl
   |true=>rw[e h];rfl
  have i:(!b.op.makes||(b.dst.all fun d=>(af a.op D).contains d))=true:=by
   cases h:b.op.makes with
   |false=>rfl
   |true=>rw[c h];rfl
  rw[j,i];rfl
 ·rw[g,f,e];simp only[c];simp
 ·rw[g,f,e];simp only[c];simp
theorem Abx{a b:SL}(c:a.op.calls=true)(h:Dv A D a b=true):(a.dst.all fun d=> !b.looks.contains d&&b.dst !=some d)=true/\(b.dst.all fun d=> !a.looks.contains d)=true/\
  ((b.op.hard=false/\(b.op.makes=true->(b.dst.all fun d=>(af a.op D).contains d)=true))\/∃k,b.own A=some k/\(af a.op D).contains k=true):=by
 have r:a.op.grows=false:=by revert c;cases a.op<;>simp[aa.calls,aa.grows]
 have q:a.op.calm=false:=by revert c;cases a.op<;>simp[aa.calls,aa.calm]
 have p:a.op.still=false:=by revert c;cases a.op<;>simp[aa.calls,aa.still]
 have o:a.op.moves=false:=by revert c;cases a.op<;>simp[aa.calls,aa.moves]
 have m:a.op.loads=false:=by revert c;cases a.op<;>simp[aa.calls,aa.loads]
 have l:a.op.copies=false:=by revert c;cases a.op<;>simp[aa.calls,aa.copies]
 have j:a.op.flat=false:=by revert c;cases a.op<;>simp[aa.calls,aa.flat]
 unfold Dv GT at h;rw[Pf c,Pg c,r,q,p,o,m,l,j]at h;simp only[Bool.not_false,Bool.true_and,Bool.false_and,Bool.and_false,Bool.or_false]at h;rw[Ak]at h;rcases h with h|h
 ·simp only[Ag,Ak,Bool.not_eq_true']at h;refine⟨?_, ?_,.inl ⟨h.2.1.1,fun g=> ?_⟩⟩
  ·simpa only[Ag,Bool.not_eq_true']using h.1.1
  ·simpa only[Bool.not_eq_true']using h.1.2
  ·rcases h.2.2 with e|e
   ·rw[g]at e;cases e
   ·exact e
 ·rw[Ag,Ag]at h;refine⟨h.1.1,h.1.2,.inr ?_⟩;have e:=h.2;split at e
  ·rename_i f _;cases f
  ·rename_i f _;cases f
  ·rename_i k _ i;exact⟨k,i,e⟩
  ·cases e
theorem Aby{a b:SL}(c:b.op.calls=true)(h:Dv A D a b=true):(a.dst.all fun d=> !b.looks.contains d&&b.dst !=some d)=true/\(b.dst.all fun d=> !a.looks.contains d)=true/\
  ((a.op.hard=false/\(a.op.makes=true->(a.dst.all fun d=>(af b.op D).contains d)=true))\/∃k,a.own A=some k/\(af b.op D).contains k=true):=by
 have s:b.op.entry=false:=by revert c;cases b.op<;>simp[aa.calls,aa.entry]
 have r:b.op.stores=false:=by revert c;cases b.op<;>simp[aa.calls,aa.stores]
 have q:b.op.tame=false:=by revert c;cases b.op<;>simp[aa.calls,aa.tame]
 have p:b.op.grows=false:=by revert c;cases b.op<;>simp[aa.calls,aa.grows]
 have o:b.op.puts=false:=by revert c;cases b.op<;>simp[aa.calls,aa.puts]
 have j:b.op.moves=false:=by revert c;cases b.op<;>simp[aa.calls,aa.moves]
 have m:b.op.copies=false:=by revert c;cases b.op<;>simp[aa.calls,aa.copies]
 have l:b.op.flat=false:=by revert c;cases b.op<;>simp[aa.calls,aa.flat]
 unfold Dv GT at h;rw[Pf c,Pg c,s,r,q,p,o,m,l,j]at h;simp only[Bool.not_false,Bool.true_and,Bool.false_and,Bool.and_false,Bool.or_false]at h;rw[Ak]at h;rcases h with h|h
 ·simp only[Ag,Ak,Bool.not_eq_true']at h;refine⟨?_, ?_,.inl ⟨h.2.1,fun g=> ?_⟩⟩
  ·simpa only[Ag,Bool.not_eq_true']using h.1.1
  ·simpa only[Bool.not_eq_true']using h.1.2
  ·rcases h.2.2.1 with e|e
   ·rw[g]at e;cases e
   ·exact e
 ·rw[Ag,Ag]at h;refine⟨h.1.1,h.1.2,.inr ?_⟩;have e:=h.2;split at e
  ·rename_i f;cases f
  ·rename_i k i _;exact⟨k,i,e⟩
  ·rename_i f;cases f
  ·cases e
theorem TV{d:Option Nat}{op:aa}(h:(d.all fun d=>(af op D).contains d)=true):(d.all fun d=>D.contains d)=true:=by
 cases d with
 |none=>rfl
 |some d=>exact PU h
theorem Abz{a b:SL}(e:a.op.calls=true)(c:CV)(h:Dv A D a b=true):Dv A D (Le a.dst c) b=true:=by
 obtain⟨q1,q2,q3⟩:=Abx e h;refine Vv q1 (by cases b.dst<;>rfl) ?_;rcases q3 with⟨q3,q4⟩|⟨k,q3,q4⟩
 ·exact .inl ⟨rfl,q3,fun d=>(by cases d),fun d=>TV (q4 d)⟩
 ·exact .inr (.inl ⟨k,rfl,q3,rfl,PU q4⟩)
theorem Ab0{a b:SL}(f:b.op.calls=true)(c:CV)(h:Dv A D a b=true):Dv A D a (Le b.dst c)=true:=by
 obtain⟨q1,q2,q3⟩:=Aby f h;refine Vv ?_ q2 ?_
 ·cases g:a.dst with
  |none=>rfl
  |some d=>
   rw[g]at q1;simp only[Option.all_some,Ag]at q1⊢;exact⟨rfl,q1.2⟩
 ·rcases q3 with⟨q3,q4⟩|⟨k,q3,q4⟩
  ·exact .inl ⟨q3,rfl,fun e=>TV (q4 e),fun e=>(by cases e)⟩
  ·exact .inr (.inr ⟨k,q3,rfl,rfl,PU q4⟩)
theorem Yj{st:St}{d:Option Nat}{v:SV}{i:Nat}(h:d≠some i):(st.set d v).fr i=st.fr i:=by
 cases d with
 |none=>rfl
 |some d=>exact AL _ _ (fun e=>h (by rw[e]))
theorem Qw{s t:St}(b:low s=low t)(c:∀i,A9<=i->s.ob i=t.ob i):s=t:=by
 obtain⟨g,e⟩:=s;obtain⟨f,d⟩:=t;simp only[low,St.mk.injEq]at b;simp only[St.mk.injEq];refine⟨b.1,funext fun i=> ?_⟩;by_cases hi:A9<=i
 ·exact c i hi
 ·have:=congrFun b.2 i;simp only[C5,An hi]at this;exact this
theorem Aje{a b:SL}(h:Dv A D a b=true)(F:(a.op.calls&&b.op.calls)=false)(B:Fp A D a)(lb:Fp A D b){st p U:St}(T:bB E A D a st=some p)(S:bB E A D b p=some U):∃s,bB E A D b st=some s/\bB E A D a s=some U:=by
 have l:Cl st:=(JX T).1
 have W:(a.dst.all fun d=> !b.looks.contains d&&b.dst !=some d)=true/\(b.dst.all fun d=> !a.looks.contains d)=true:=by
  unfold Dv GT at h;rw[Ak]at h;rcases h with h|h
  ·rw[Ag,Ag]at h;exact h.1
  ·rw[Ag,Ag]at h;exact h.1
 have Q:∀i∈b.looks,a.dst≠some i:=fun i hi e=>by
  have:=W.1;rw[e]at this;simp[hi]at this
 have x:∀i∈a.looks,b.dst≠some i:=fun i hi e=>by
  have:=W.2;rw[e]at this;simp[hi]at this
 cases I:Cr E.named a st.fr with
 |some q=>
  have H:=Ol I;have v:b.op.calls=false:=by rw[H]at F;simpa using F
  have u:∀fr,Cr E.named b fr=none:=fun fr=>by
   cases X:Cr E.named b fr with
   |none=>rfl
   |some q'=>have:=Ol X;rw[v]at this;cases this
  obtain⟨c,hi,rfl,g⟩:=Py I T;obtain⟨J,M⟩:=Nn lb (u _) S;rw[MY]at J;have j:bk E.named A D (Le a.dst c) (low st)=some ((low st).set a.dst (.c c)):=NI;obtain⟨t,o,m⟩:=MA (Abz H c h) (fun O=>by cases O) lb.makes j J;rw[NI,Ac]at m;obtain⟨r,L⟩:=Np lb l (u _) o;have k:Cl (ai t st):=QD lb (u _) r;refine⟨ai t st,r, ?_⟩;rw[g (ai t st) (fun i f=>Nm lb o (x i f)) (fun i f=>by show(if A9<=i then st.ob i else t.ob i)=_;rw[Ao f]) k,Ac];refine Qw ?_ fun i f=> ?_
  ·rw[MY,L,m]
  ·rw[M i f];show(if A9<=i then hi i else(ai t st).ob i)=if A9<=i then hi i else st.ob i;rw[Ao f,Ao f]
 |none=>
  obtain⟨N,V⟩:=Nn B I T;have C:∀i∈b.looks,p.fr i=st.fr i:=fun i hi=>Nm B N (Q i hi)
  cases K:Cr E.named b p.fr with
  |none=>
   obtain⟨J,M⟩:=Nn lb K S;obtain⟨t,o,m⟩:=MA h B.makes lb.makes N J;have G:Cr E.named b st.fr=none:=by rw[<-Om C];exact K
   obtain⟨r,L⟩:=Np lb l G o;have k:Cl (ai t st):=QD lb G r
   have y:Cr E.named a (ai t st).fr=none:=by
    rw[Om (fr':=st.fr) (show ∀i∈a.looks,(ai t st).fr i=st.fr i from fun i hi=>Nm lb o (x i hi))];exact I
   rw[<-L]at m;obtain⟨n1,n2⟩:=Np B k y m;refine⟨ai t st,r, ?_⟩;rw[n1,Ac];refine Qw n2 fun i hi=> ?_;rw[M i hi,V i hi];show(if A9<=i then(if A9<=i then st.ob i else t.ob i)else _)=_;rw[Ao hi,Ao hi]
  |some q=>
   have v:=Ol K;obtain⟨c,hi,rfl,g⟩:=Py K S;have j:bk E.named A D (Le b.dst c) (low p)=some ((low p).set b.dst (.c c)):=NI;obtain⟨t,o,m⟩:=MA (Ab0 v c h) B.makes (fun O=>by cases O) N j;rw[NI,Ac]at o;subst o;have r:=g st (fun i hi=>(C i hi).symm) (fun i hi=>(V i hi).symm) l;refine⟨_,r, ?_⟩;have k:=UF l b.dst c hi
   have y:Cr E.named a (st.set b.dst (.c c)).fr=none:=by
    rw[Om (fr':=st.fr) fun i hi=>Yj (x i hi)];exact I
   rw[<-MY b.dst c hi]at m;obtain⟨n1,n2⟩:=Np B k y m;rw[n1,Ac];refine Qw ?_ fun i f=> ?_
   ·rw[n2,MY]
   ·show(if A9<=i then(if A9<=i then hi i else st.ob i)else _)=if A9<=i then hi i else p.ob i;rw[Ao f,Ao f,Ao f]
end
def Dk(step:SL->St->Option St)(ls:List SL):List Nat->St->Option St
 | [],st=>some st
 |i::is,st=>match ls[i]? with
  |some l=>(step l st).bind (Dk step ls is)
  |none=>none
section
variable {step:SL->St->Option St} {R:SL->SL->Prop} {ops:Array Oper} {ls:List SL}
theorem W9(c:∀a b st e d,R a b->step a st=some e->step b e=some d->∃s,step b st=some s/\step a s=some d){i:Nat}{b:SL}(k:ls[i]? =some b)(q:List Nat):∀(p:List Nat) {st st':St},(∀j∈p,∃a,ls[j]? =some a/\R a b)->Dk step ls (p++i::q) st=some st'->Dk step ls (i::(p++q)) st=some st'
 | [],_,_,_,h=>h
 |j::p,st,st',hf,h=>by
  obtain⟨a,l,g⟩:=hf j (by simp);simp only[List.cons_append,Dk,l,Ab]at h;obtain⟨e,t,r⟩:=h;have f:=W9 c k q p (fun j m=>hf j (by simp[m])) r;simp only[Dk,k,Ab]at f;obtain⟨d,f,o⟩:=f;obtain⟨s,v,u⟩:=c a b st e d g t f;simp only[List.cons_append,Dk,k,l,v,u,Ap,o]
theorem V8(v:∀a b st I H,R a b->step a st=some I->step b I=some H->∃s,step b st=some s/\step a s=some H)(K:ls.length=ops.size)
  (f:∀j<ls.length,∀i<j,Gl ops ls.length i j=true\/∃x y,ls[i]? =some x/\ls[j]? =some y/\R x y) {L:Array Bool} {t:List Nat} (M:Good ops L t):
  (∀i o,L.getD i false=true->ops[i]? =some o->∀e∈o.after,Region.binds .any e=true->L.getD e.on false=true)->L.size=ops.size->∀{st st':St},Dk step ls (left ops.size L) st=some st'->Dk step ls t st=some st':=by
 induction M with
 |nil h=>
  intro _ _ st st' l;rw[h]at l;exact l
 | @cons L i t hi hL he M ih=>
  intro c u st st' l;obtain⟨p,q,U,T,S⟩:=MQ ops.size L i hi hL;have G:ls[i]? =some (ls[i]'(by omega)):=Aj _;rw[U]at l
  have g:=W9 v G q p (fun j N=>by
   obtain⟨F,d⟩:=S j N;rcases f i (by omega) j F with ha|⟨x,y,hx,hy,hf⟩
   ·have:=LI c _ j i he ha;have C:j<L.size:=by omega
    simp[Ar,Array.getElem?_eq_getElem C]at this d;rw[this]at d;cases d
   ·rw[G]at hy;cases hy
    exact⟨x,hx,hf⟩) l
  simp only[Dk,G,Ab]at g⊢;obtain⟨s,Q,O⟩:=g;refine⟨s,Q,ih ?_ (by simp[u]) (by rw[T];exact O)⟩;intro k o B J e m r;rw[getD_set L i _ _ hL]at B⊢;split
  ·rfl
  ·split at B
   ·rename_i V;subst V;exact he o J e m r
   ·exact c k o B J e m r
end
def Ql(A:List Nat)(l:SL):Bool:=(!l.op.hard||(match l.own A with
 |some k=>Nat.blt k A9
 |none=>false))&&l.dst.all fun j=>Nat.blt j A9
def Mw(P:Program)(ops:Array Oper)(A D:List Nat)(ls:List SL):Bool:=
 (ls.any fun l=>l.op.calls)&&(ls.all (Ql A))&&Dt P ops A D ls&&
 ((List.range ls.length).all fun j=>match ls[j]? with
   |some y=> !y.op.calls||(List.range j).all fun i=>((DN ops ls.length).getD j 0).testBit i||match ls[i]? with
    |some x=> !x.op.calls
    |none=>false
   |none=>false)
section
variable {P:Program} {E:ah} {n:Nat} {ops:Array Oper} {A D:List Nat} {ls:List SL}
theorem Ae9{l:SL}(h:Ql A l=true)(b:l.op.makes=true->∀j,l.dst=some j->D.contains j=true):Fp A D l:=by
 simp only[Ql,Ag,Ak,Bool.not_eq_true']at h;refine⟨fun e=> ?_,fun j d=> ?_,b⟩
 ·rcases h.1 with h1|h1
  ·rw[e]at h1;cases h1
  ·split at h1
   ·rename_i k c;exact⟨k,c,Nat.lt_of_succ_le (Ai h1)⟩
   ·cases h1
 ·have:=h.2;rw[d]at this;exact Nat.lt_of_succ_le (Ai this)
noncomputable def d7(E:ah)(A D:List Nat):List SL->St->Option St
 | [],st=>some st
 |l::ls,st=>(bB E A D l st).bind (d7 E A D ls)
theorem Akb{l:SL}{st s:St}{a:Nat}(b:l.own A=some a)(h:D7 E D l st=some s)(c:st.fr a=.undef):False:=by
 obtain⟨n,x,e,d⟩:=Hd b;unfold D7 Bz at h;rw[d]at h;simp only[e,AM,aa.cls,AY]at h;rw[show so E.G st.fr (.t a)=.undef from c]at h;cases h
theorem WZ:∀(ls:List SL) (m:List Nat) {st s:St},(∀l∈ls,Fp A D l)->(∀a∈m,st.fr a=.ptr a 0\/st.fr a=.undef)->Cl st->IY A m ls=true->FN E.named D ls st=some s->d7 E A D ls st=some s
 | [],_,_,_,_,_,_,_,h=>h
 |l::ls,m,st,s,hok,hm,hcl,hk,h=>by
  simp only[FN,Ab]at h;obtain⟨t,r,I⟩:=h;simp only[IY,Ag]at hk;obtain⟨x,H⟩:=hk;have o:=hok l (by simp)
  have B:bd A l st=true:=by
   unfold bd
   cases u:l.own A with
   |none=>rfl
   |some a=>
    rw[u]at x;simp only[List.contains_iff_mem]at x;rcases hm a x with e|e
    ·simp[e]
    ·exact(Akb u r e).elim
  have g:=M5 hcl B r;simp only[d7,g,Ap]
  have f:Cl t/\(∀i,l.dst≠some i->t.fr i=st.fr i):=by
   cases y:Cr E.named l st.fr with
   |none=>
    refine⟨QD o y g,fun i hi=> ?_⟩;exact Nm o (Nn o y g).1 hi
   |some q=>
    obtain⟨c,hi,rfl,_⟩:=Py y g;exact⟨UF hcl _ _ _,fun i C=>Yj C⟩
  refine WZ ls _ (fun l u=>hok l (by simp[u])) ?_ f.1 H I
  have b:∀a∈m,l.dst≠some a->t.fr a=.ptr a 0\/t.fr a=.undef:=by
   intro a j C;rw[f.2 a C];exact hm a j
  intro a j;unfold Q9 at j;split at j
  ·rename_i z d v F G;by_cases p:a=d
   ·subst p;unfold D7 Bz at r;simp only[F,v,AM,aa.cls,By,Ap,G,Option.getD_some,B1]at r;split at r
    ·cases r;exact .inl (Be _ _ _)
    ·cases r
   ·rcases List.mem_cons.1 j with e|e
    ·exact(p e).elim
    ·exact b a e (fun k=>p (by rw[G]at k;cases k;rfl))
  ·rename_i d F v;rw[List.mem_filter]at j;exact b a j.1 (fun k=>by rw[F]at k;cases k;simp at j)
  ·rename_i v;exact b a j (fun k=>by rw[v]at k;cases k)
theorem Wk:∀(ls:List SL) (pre:List SL) (st:St),Dk (bB E A D) (pre++ls) (List.range' pre.length ls.length) st=d7 E A D ls st
 | [],_,_=>rfl
 |l::ls,pre,st=>by
  have h:=Wk ls (pre++ [l]);simp only[List.length_append,Au,Av,Ax,List.cons_append,Ay]at h;simp only[Au,List.range'_succ,Dk,d7];rw[show(pre++l::ls)[pre.length]? =some l by simp];simp only
  congr 1
  funext s;exact h s
theorem Aao(Y:A5 (Dg P n ops) ops.toList=some ls)(U:Mw P ops A D ls=true){st st':St}(T:Cl st)(S:FN E.named D ls st=some st')(t:Nat):
  Dk (bB E A D) ls (Region.schedule (P.follows .mixedOrders) ops t) st=some st':=by
 have m:ls.length=ops.size:=by rw[DF Y];simp
 simp only[Mw,Ag]at U;obtain⟨⟨⟨_,H⟩,K⟩,L⟩:=U;simp only[Dt,Ag]at K;obtain⟨⟨⟨⟨W,B⟩,g⟩,F⟩,J⟩:=K
 have C:∀l∈ls,l.op.makes=true->∀j,l.dst=some j->D.contains j=true:=by
  intro l O r j p;rw[As]at F;have:=F l O;simpa[r,p]using this
 have d:∀l∈ls,Fp A D l:=fun l O=>by
  rw[As]at H;exact Ae9 (H l O) (C l O)
 have S:=WZ ls [] d (by simp) T B S;simp only[Region.schedule,W,Bool.true_or,if_true,Region.linearise]
 have f:left ops.size (Array.replicate ops.size false)=List.range ops.size:=by
  simp only[left];rw[List.filter_eq_self];intro i hi;have:=Az.1 hi;simp[Ar,this]
 have k:∀i o,ops[i]? =some o->∀e∈o.after,Region.binds .any e=true->e.on<i:=by
  intro i o V e X Z;rw[As]at g
  have G:(o,i)∈ops.toList.zipIdx:=by
   rw[List.mem_zipIdx_iff_getElem?];simpa using V
  have:=g _ G;rw[Array.all_eq_true']at this;have:=this e X;simpa[Z]using this
 refine V8 (R:=fun a b=>Dv A D a b=true/\(a.op.calls&&b.op.calls)=false/\Fp A D a/\Fp A D b) (fun a b st s1 s2 Q s q=>Aje Q.1 Q.2.1 Q.2.2.1 Q.2.2.2 s q) m ?_ (lin_good k ops.size t _ (by simp) (by rw[f];simp)) ?_ (by simp) ?_
 ·intro j p i I;rw[As]at J L;have s:=J j (Az.2 p);rw[As]at s;have s:=s i (Az.2 I);rw[Ak]at s;rcases s with h|h
  ·rw[FT ops p]at h;exact .inl (GY ops p h)
  ·have c:=L j (Az.2 p);split at h
   ·rename_i x y N M;rw[M]at c;simp only[Ak,Bool.not_eq_true',As]at c;have v:=List.mem_of_getElem? N;have u:=List.mem_of_getElem? M;rcases c with c|c
    ·exact .inr ⟨x,y,N,M,h,by rw[c,Bool.and_false],d x v,d y u⟩
    ·rcases c i (Az.2 I)with q|q
     ·rw[FT ops p]at q;exact .inl (GY ops p q)
     ·rw[N]at q;simp only[Bool.not_eq_true']at q;exact .inr ⟨x,y,N,M,h,by rw[q,Bool.false_and],d x v,d y u⟩
   ·cases h
 ·intro i o hi;exfalso;rw[Ar,Array.getElem?_replicate]at hi;split at hi<;>cases hi
 ·rw[f,List.range_eq_range',<-m];have:=Wk (E:=E) (A:=A) (D:=D) ls [] st;simp only[Ay,Av]at this;rw[this];exact S
variable {w0:WL} {M0:MM}
theorem Yd(hE:aV P E)(e:A5 (Dg P n ops) ops.toList=some ls){Q:Exit->Act->World->Prop}:∀{c:List Nat} {st st':St} {a:Act} {w:World} {z:Cz},SR P E.G w0 M0 n st a w z->
  Dk (bB E A D) ls c st=some st'->(∀j w' z',SR P E.G w0 M0 n st' j w' z'->Q .normal j w')->wpOps P ops Q c a w
 | [],st,st',a,w,z,h,hv,hK=>by
  simp only[Dk,Ac]at hv;subst hv;exact hK _ _ _ h
 |i::c,st,st',a,w,z,h,hv,hK=>by
  simp only[Dk]at hv;split at hv<;>(try cases hv;done);rename_i l m;simp only[Ab]at hv;obtain⟨o,f,r⟩:=hv;have b:=DF e;have hi:i<ops.toList.length:=by rw[<-b];exact(Af.1 m).1
  have k:ops.toList[i]? =some (ops.toList[i]):=Aj hi;obtain⟨l',g,s⟩:=Jz e k;rw[m]at g;simp only[Ac]at g;subst g;have d:ops[i]? =some (ops.toList[i]):=by rw[<-Array.getElem?_toList];exact k
  obtain⟨p,_,f⟩:=JX f;refine UW (E:=E.named) hE.named h (rd:=AN (some (af l.op D)) (C5 st.ob)) (fun id=> ?_) d s f fun j w' z' q=>Yd hE e q r hK;simp only[AN,C5];split
  ·exact .inl rfl
  ·split
   ·exact .inl rfl
   ·exact .inr rfl
end
end WB
