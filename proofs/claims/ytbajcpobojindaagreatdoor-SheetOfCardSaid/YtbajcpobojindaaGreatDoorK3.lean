/-
  OWN TEXTS, MERGED (wip/merge.py): CoreV, CoreW, CoreWb, CoreWd, CoreWe, CoreWc, CoreWf, CoreWg, CoreWh, CoreWp. No condition of their own.
-/
import Derived.Test.YtbajcpobojindaaGreatDoorK2
import Derived.Orders
set_option linter.unusedVariables false
set_option linter.unusedSimpArgs false
open Go.IntKind (i64 u64 u8 u32)
namespace WB
open Go Go.RowKit
section
variable {P:Program} {E:Env} {w0:WL} {M0:MM} {n:Nat} {st:St} {a:Act} {w w':World} {z:Cz}
theorem UI{o:Oper}{sop:SOp}(hc:BC P o=some sop)(hcls:sop.cls=.call):∃c,o.op=.call c∧
  ((∃f l,c.callee=.value (.func f)∧Bs P f=true∧Aq An c.args.toList=some l∧sop=.call f l)∨
   (∃t l,c.callee=.value (.tmp t)∧Aq An c.args.toList=some l∧sop=.callv (.t t) l)):=by
 unfold BC at hc
 split at hc<;>rename_i ho<;>first
  |(cases hc;done)
  |(exfalso;have:=Gn hc;rw[hcls]at this;cases this;done)
  |(exfalso;have:=Hg hc;rw[hcls]at this;rcases this with h'|h'<;>cases h')
  |(unfold DX at hc
    refine⟨_,ho, ?_⟩
    split at hc<;>first
     |(cases hc;done)
     |(rename_i f hcal
       split at hc
       ·rename_i hb;rcases EA hc with⟨l,hl,rfl⟩|⟨_,_,_,_,_,_,_,rfl⟩
        ·exact .inl ⟨f,l,hcal,hb,hl,rfl⟩
        ·cases hcls
       ·cases hc)
     |(rename_i t hcal
       simp only[Aa]at hc;obtain⟨l,hl,rfl⟩:=hc
       exact .inr ⟨t,l,hcal,hl,rfl⟩)
     |(exfalso
       (repeat' split at hc)<;>try(rcases EA hc with⟨_,_,rfl⟩|⟨_,_,_,_,_,_,_,rfl⟩<;>(cases hcls;done))
       all_goals simp only[Ab,Aa,Ad,Ac,reduceCtorEq]at hc
       all_goals(repeat (first|(subst hc;cases hcls;done)|(obtain⟨_,hc⟩:=hc)))
       done))
  |(exfalso
    (repeat' split at hc)<;>simp only[Ab,Aa,Option.ite_none_left_eq_some,Ad,Ac,Prod.exists,reduceCtorEq]at hc
    all_goals(repeat (first|(subst hc;cases hcls;done)|(obtain⟨_,hc⟩:=hc)))
    done)
theorem V0{o:Oper}{sop:SOp}(hc:BC P o=some sop)(hcls:sop.cls=.copy):∃c f x y sx sy,o.op=.call c∧c.callee=.value (.func f)∧Bs P f=true∧c.args.toList= [x,y]∧An x=some sx∧An y=some sy∧sop=.mcopy f sx sy:=by
 unfold BC at hc
 split at hc<;>rename_i ho<;>first
  |(cases hc;done)
  |(exfalso;have:=Gn hc;rw[hcls]at this;cases this;done)
  |(exfalso;have:=Hg hc;rw[hcls]at this;rcases this with h'|h'<;>cases h')
  |(unfold DX at hc
    split at hc<;>first
     |(cases hc;done)
     |(rename_i f hcal
       split at hc
       ·rename_i hb;rcases EA hc with⟨l,hl,rfl⟩|⟨x,y,a,b,h1,h2,h3,rfl⟩
        ·cases hcls
        ·exact⟨_,f,x,y,a,b,ho,hcal,hb,h1,h2,h3,rfl⟩
       ·cases hc)
     |(exfalso
       (repeat' split at hc)<;>try(rcases EA hc with⟨_,_,rfl⟩|⟨_,_,_,_,_,_,_,rfl⟩<;>(cases hcls;done))
       all_goals simp only[Ab,Aa,Ad,Ac,reduceCtorEq]at hc
       all_goals(repeat (first|(subst hc;cases hcls;done)|(obtain⟨_,hc⟩:=hc)))
       done))
  |(exfalso
    (repeat' split at hc)<;>simp only[Ab,Aa,Option.ite_none_left_eq_some,Ad,Ac,Prod.exists,reduceCtorEq]at hc
    all_goals(repeat (first|(subst hc;cases hcls;done)|(obtain⟨_,hc⟩:=hc)))
    done)
theorem Zl{M:MM}{c:CV}{v:Value}(h:GS c=true)(hr:RelC w M c v):∃s:List UInt8,v=.string ⟨⟨s⟩⟩∧s.length≤9223372036854775807:=by
 cases c<;>simp[GS]at h;unfold RelC at hr;exact⟨_,hr,h⟩
theorem Zk{c:CV}(h:GS c=true):AI .str c=true:=by
 cases c<;>simp[GS]at h;rfl
theorem O1{f:FuncId}(hb:Bs P f=true)(args:Array Value):(callFunc f args).run P w=.ok (.enter f args) w:=by
 unfold Bs at hb
 cases hf:P.funcs[f]? with
 |none=>rw[hf]at hb;cases hb
 |some fn=>
  rw[hf]at hb;simp only[Af,Bool.not_eq_true',Option.isSome_iff_exists]at hb;obtain⟨⟨⟨b,hb⟩,hn⟩,_⟩:=hb;have hn':¬fn.name= "runtime.NumGoroutine" :=by simpa using hn
  simp[callFunc,hf,hn',hb]
theorem PJ{rd:Nat→Ob}{ρ:SO→SV}{d:Option Nat}{f:FuncId}{args:List SO}{caps:List CV}{st':St}(h:Dc E rd ρ st d f args caps=some st'):
  ∃l r,Aq (fun x=>Cn rd (ρ x)) args=some l∧E.fn f (l++caps)=some r∧((args.all fun x=>isC (ρ x))=true∨r.memless=true)∧DN st d r=some st':=by
 simp only[Dc,Ab,Ad,Aj]at h;obtain⟨l,hl,r,hr,hc,hs⟩:=h;exact⟨l,r,hl,hr,hc,hs⟩
theorem QQ(hE:EOk P E)(h:SR P E.G w0 M0 n st a w z){rd:Nat→Ob}(hrd:∀id,rd id=.none∨rd id=st.ob id){o:Oper}{sop:SOp}(hc:BC P o=some sop)(hd:∀j,o.dst=some j→j<n)(hm:G8 sop=true→o.dst=none){st':St}
  (hv:A4 E rd st o.dst sop=some st') {K:Act→World→Prop} {Q:Exit→Act→World→Prop} (hK:∀a' w' z',SR P E.G w0 M0 n st' a' w' z'→K a' w'):o.wp P a w K Q:=by
 unfold Oper.wp;unfold A4 at hv
 cases hcls:sop.cls with
 |val=>
  simp only[hcls,Aa]at hv;obtain⟨sv,hv,rfl⟩:=hv;obtain⟨v,h1,h2⟩:=Aai h.ctx hrd hc hcls hv;rw[h1];exact hK _ _ _ (h.put hd h2)
 |grow=>
  simp only[hcls,Aa]at hv;obtain⟨sv,hv,rfl⟩:=hv;obtain⟨v,w',h1,h2,h3⟩:=WQ h hc hcls hv;rw[h1];exact hK _ _ _ ((h.grow h2).put hd h3)
 |new=>
  simp only[hcls,Ab,Prod.exists]at hv;obtain⟨sv,ob,hv,ha⟩:=hv;unfold By at ha
  cases hod:o.dst with
  |none=>rw[hod]at ha;cases ha
  |some d=>
   rw[hod]at ha hv;simp only[Option.getD_some]at ha hv;split at ha<;>(try cases ha;done);rename_i hn;simp only[Ac]at ha;subst ha;obtain⟨v,w',z',h1,h2⟩:=XE h hc hcls hv (hd d hod) hn;rw[h1];refine hK _ _ z' ?_;rw[hod];exact h2
 |eff=>
  simp only[hcls]at hv;rcases VX h hc hcls hd hm hv with⟨v,w',z',h1,h2⟩|⟨w',z',h1,h2⟩
  ·rw[h1];exact hK _ _ _ h2
  ·rw[h1];exact hK _ _ _ h2
 |copy=>
  simp only[hcls]at hv;obtain⟨c,f,x,y,sx,sy,ho,hcal,hb,hargs,hx,hy,rfl⟩:=V0 hc hcls;replace hv:F8 E (so E.G st.fr) st o.dst f sx sy=some st':=hv;unfold F8 at hv;split at hv<;>(try cases hv;done);rename_i hcp;have hr:=h.ctx.opd hx;have hr2:=h.ctx.opd hy;generalize so E.G st.fr sx=q at hr hv;generalize so E.G st.fr sy=q2 at hr2 hv;cases q<;>(try cases hv;done);cases q2<;>(try cases hv;done);rename_i id cv;cases cv<;>(try cases hv;done);rename_i nl ks vs;dsimp only at hv;split at hv<;>(try cases hv;done);rename_i mt zc hob;split at hv<;>(try cases hv;done);rename_i hg;obtain⟨hsk,hlen⟩:=hg;cases hv;obtain⟨hlive,e1⟩:=hr;obtain⟨hmt,ks',vs',r,ens,clk,hmp,e2,hh,hB⟩:=H5 h hob;have hks':ks'= []:=List.eq_nil_of_length_eq_zero hmp.ks.length_eq;subst hks'
  have hens:ens= []:=by
   have:=hB.1;unfold RelL at this;simpa using this
  subst hens;have hrm:Ao M0 z st.ob r:=.inr ⟨id,hlive,by rw[e2];rfl⟩;have hskA:∀k∈ks,GS k=true:=List.all_eq_true.1 hsk
  have src:∃(ps:Option Nat) (es es':List MapEntry),a.eval y=.map ps∧((ps=none∧es= [])∨∃bs clk',ps=some bs∧bs≠r∧w.heap[bs]? =some (.map ⟨es⟩ clk')∧Ens es clk')∧es'.Perm es∧
    RelL w (Ao M0 z st.ob) ks (es'.map (·.key))∧RelL w (Ao M0 z st.ob) vs (es'.map (·.val)):=by
   unfold Ar RelC at hr2;obtain⟨rr,g1,_,_,g4,g5⟩:=hr2
   cases rr with
   |none=>
    obtain⟨rfl,rfl⟩:=g4 rfl;exact⟨none,[],[],g1,.inl ⟨rfl,rfl⟩,.refl _,RelL.nil,RelL.nil⟩
   |some bs=>
    obtain⟨g6,es,es',clk',g7,g8,g9,g10,g11⟩:=g5 bs rfl;exact⟨some bs,es,es',g1,.inr ⟨bs,clk',rfl,fun e=>g6 (e▸hrm),g7,g8⟩,g9,g10,g11⟩
  obtain⟨ps,es,es',g1,g2,g3,g4,g5⟩:=src
  have hkey:∀en:MapEntry,en∈es→∃s:List UInt8,en.key=.string ⟨⟨s⟩⟩∧s.length≤9223372036854775807:=by
   intro en hen;obtain⟨i,hi⟩:=List.mem_iff_getElem?.1 (g3.mem_iff.2 hen);obtain⟨k,k1,k2⟩:=g4.getR (i:=i) (v:=en.key) (by rw[List.getElem?_map,hi];rfl);exact Zl (hskA k (List.mem_of_getElem? k1)) k2
  have hlen':es.length≤9223372036854775807:=by
   have:=g4.length;rw[List.length_map,g3.length_eq]at this;omega
  have hrun:(execOp a.eval o).run P w=(callFunc f ⟨[.map (some r),.map ps]⟩).run P w:=by
   have e:(⟨c.args.toList.map a.eval⟩:Array Value)=c.args.map a.eval:=Array.toList_inj.1 (by simp)
   have e':(⟨[.map (some r),.map ps]⟩:Array Value)=c.args.map a.eval:=by
    rw[←e,hargs];simp only[List.map_cons,List.map_nil,g1,e1,e2]
   rw[e'];simp[execOp,ho,resolve,hcal,Act.eval,Deferred.ofValue,invoke]
  rw[hrun,O1 hb];refine((hE.cp f hcp).2 w r clk ps es hh g2 hkey hlen').mono fun e w' ⟨he,hgr,ens2,clk2,k1,k2,k3⟩=> ?_;subst he
  have k4:((ens2.map fun e=>({key:=e.key,val:=e.val,born:=0}:MapEntry))).Perm (es'.map fun e=>({key:=e.key,val:=e.val,born:=0}:MapEntry)):=by
   have q1:=k3.map (fun p:Value×Value=>({key:=p.1,val:=p.2,born:=0}:MapEntry));simp only[List.map_map]at q1;exact q1.trans (g3.symm.map _)
  refine hK _ _ _ (SR.put (SR.turn h hlive (o':=.map mt .str zc ks vs) (by simp) (by rw[e2];exact hgr) (β':=z.β id) (fun _ _ hh=>hh) (fun _ hh=>by cases hh) fun hkp hz=> ?_) hd ?_)
  ·have r1:=RelL.keep hkp _ _ g4;have r2:=RelL.keep hkp _ _ g5;obtain⟨ks2,vs2,m1,m2,m3⟩:=SE (ens':=es'.map fun e=>({key:=e.key,val:=e.val,born:=0}:MapEntry)) k4.symm (by simpa[List.map_map,Function.comp_def]using r1) (by simpa[List.map_map,Function.comp_def]using r2);simp only[List.map_map,Function.comp_def]at m2 m3;have hcf:∀k∈ks2,AI .str k=true:=fun k hk=>Zk (hskA k (m1.ks.mem_iff.1 hk));refine⟨hmt,ks2,vs2,r,ens2,clk2,m1,e2,k1,m2,m3,hcf,NS hcf m2 k2.1,k2.2.1,k2.2.2,fun k b hb=> ?_⟩;simp only[AZ]at hb;obtain⟨i,en,q1,_⟩:=hB.2.2.2.2.2.2 k b hb;simp at q1
  ·show RelC _ _ (.tup []) _;unfold RelC;exact⟨[],rfl,RelL.nil⟩
 |call=>
  obtain⟨c,ho,hcase⟩:=UI hc hcls
  have fin:∀{f:FuncId} {vs:List Value} {l:List CV} {r:Res} {b:Bool},Bs P f=true→(execOp a.eval o).run P w=(callFunc f ⟨vs⟩).run P w→E.fn f l=some r→RelL w (mm0 w0 M0 z) l vs→(b=false→RelL w (Ao M0 z st.ob) l vs)→(b=true→r.memless=true)→DN st o.dst r=some st'→
    o.upon P a K Q ((execOp a.eval o).run P w):=by
   intro f vs l r b hb hrun hf h1 h2 h3 h4;rw[hrun,O1 hb];refine(UJ hE h hd hf h1 h2 h3 h4).mono fun e w' ⟨v,he,z',hS⟩=> ?_;subst he;exact hK _ _ _ hS
  have KF:∀{f:FuncId} {e:Eff} {vs:List Value} {l:List CV} {r:CV} {H':Nat→Ob},(execOp a.eval o).run P w=(callFunc f ⟨vs⟩).run P w→Bs P f=true→RelL w (Ao M0 z st.ob) l vs→Fu P E.G f e.T l (Cy e.T st.ob) r H'→(Ck e.T H' st).set o.dst (.c r)=st'→
    o.upon P a K Q ((execOp a.eval o).run P w):=by
   intro f e vs l r H' hrun he hl hr hs;subst hs;rw[hrun,O1 he];refine(VZ hE h hd hl hr).mono fun e w' ⟨v,he,z',hS⟩=> ?_;subst he;exact hK _ _ _ hS
  rcases hcase with⟨f,args,hcal,hb,hargs,rfl⟩|⟨t,args,hcal,hargs,rfl⟩
  ·simp only[hcls]at hv
   have hrun:(execOp a.eval o).run P w=(callFunc f ⟨c.args.toList.map a.eval⟩).run P w:=by
    have e:(⟨c.args.toList.map a.eval⟩:Array Value)=c.args.map a.eval:=Array.toList_inj.1 (by simp);rw[e];simp[execOp,ho,resolve,hcal,Act.eval,Deferred.ofValue,invoke]
   cases hef:E.ef f with
   |some e=>
    simp only[hef,CP,Ab,Ac]at hv;obtain⟨l,hl,p,hp,hs⟩:=hv;rw[List.append_nil]at hp;have hm:=(hE.ef f e hef).2 _ _ _ _ hp;unfold E7 at hm;rw[I9 hb]at hm;exact KF hrun hb (JX h hargs hl) hm hs
   |none=>
    simp only[hef]at hv;obtain⟨l,r,hl,hf,hor,hs⟩:=PJ hv;obtain⟨g1,g2⟩:=MN h hrd hargs hl;rw[List.append_nil]at hf
    cases hall:args.all (fun x=>isC (so E.G st.fr x))with
    |true=>exact fin (b:=false) hb hrun hf g1 (fun _=>g2 hall) (fun hh=>by cases hh) hs
    |false=>
     rw[hall]at hor;exact fin (b:=true) hb hrun hf g1 (fun hh=>by cases hh) (fun _=>by simpa using hor) hs
  ·simp only[hcls]at hv;have hr:=h.fr t;have hso:so E.G st.fr (.t t)=st.fr t:=rfl;rw[hso]at hv;split at hv<;>(try cases hv;done);rename_i f caps hfr;rw[hfr]at hr;unfold Ar RelC at hr;obtain⟨cvs,e1,hcaps⟩:=hr
   have hrun:DF f=none→(execOp a.eval o).run P w=(callFunc f ⟨c.args.toList.map a.eval++cvs⟩).run P w:=fun hm=>by
    have e:(⟨c.args.toList.map a.eval++cvs⟩:Array Value)=c.args.map a.eval++⟨cvs⟩:=Array.toList_inj.1 (by simp);rw[e];unfold FnV at e1;rw[hm]at e1;simp only at e1;simp[execOp,ho,resolve,hcal,Act.eval,e1,Deferred.ofValue,invoke]
   cases hef:E.ef f with
   |some e=>
    simp only[hef,CP,Ab,Ac]at hv;obtain⟨l,hl,p,hp,hs⟩:=hv;obtain⟨hb,hC⟩:=hE.ef f e hef;have hC':=hC _ _ _ _ hp;unfold E7 at hC'
    cases hm:DF f with
    |none=>
     rw[hm]at hb hC';exact KF (hrun hm) hb ((JX h hargs hl).append hcaps) hC' hs
    |some g=>
     rw[hm]at hb hC';simp only[Option.getD_some]at hb hC';unfold FnV at e1;rw[hm]at e1;obtain⟨r,rfl,e1⟩:=e1;obtain⟨l',c',e2,hC'⟩:=hC';have hcl:=hcaps.length
     obtain⟨c2,rfl⟩:∃c2,caps= [c2]:=by
      match caps,hcl with
      | [c2],_=>exact⟨c2,rfl⟩
     obtain⟨e4,e3⟩:=List.append_inj' e2 rfl;subst e4;have e5:c2=c':=by simpa using e3
     subst e5
     have hr2:RelC w (Ao M0 z st.ob) c2 r:=by
      obtain⟨v,vs',e4,h1,_⟩:=by unfold RelL at hcaps;exact hcaps
      cases e4;exact h1
     have hrun2:(execOp a.eval o).run P w=(callFunc g ⟨r::c.args.toList.map a.eval⟩).run P w:=by
      have e:(⟨r::c.args.toList.map a.eval⟩:Array Value)= #[r]++c.args.map a.eval:=Array.toList_inj.1 (by simp);rw[e];simp[execOp,ho,resolve,hcal,Act.eval,e1,Deferred.ofValue,invoke]
     exact KF hrun2 hb (RelL.cons hr2 (JX h hargs hl)) hC' hs
   |none=>
    simp only[hef]at hv;obtain⟨l,r,hl,hf,hor,hs⟩:=PJ hv;obtain⟨g1,g2⟩:=MN h hrd hargs hl;have hb:=(hE.fn f _ r hf).1;have hrun:=hrun (I9 hb);have hk:Br w (Ao M0 z st.ob) w (mm0 w0 M0 z):=⟨Nat.le_refl _,fun _ _ _=>rfl,fun g _ hg=>.inl hg.1,rfl⟩
    cases hall:args.all (fun x=>isC (so E.G st.fr x))with
    |true=>exact fin (b:=false) hb hrun hf (g1.append (RelL.keep hk _ _ hcaps)) (fun _=>(g2 hall).append hcaps) (fun hh=>by cases hh) hs
    |false=>
     rw[hall]at hor;exact fin (b:=true) hb hrun hf (g1.append (RelL.keep hk _ _ hcaps)) (fun hh=>by cases hh) (fun _=>by simpa using hor) hs
def Ws(P:Program)(d:Nat)(o:Oper):Bool:=
 match o.op with
 | .call c=>match c.callee with
  | .value (.func _)=>c.args.any fun x=>match x with
   | .tmp t=>t==d
   |_=>false
  |_=>false
 |_=>false
def X9(d:Nat)(o:Oper):Bool:=
 match o.op,o.dst with
 | .assign (.tmp t),some _=>t==d
 |_,_=>false
def ON:Nat:=1099511627776
def PE(d:Nat)(o:Oper):Bool:=
 match o.op with
 | .build _ AK=>AK.toList.any fun p=>match p.2 with
  | .tmp t=>t==d
  |_=>false
 |_=>false
def UO(ops:Array Oper)(d:Nat)(o:Oper):Bool:=
 match o.op,o.dst with
 | .call c,some d'=>match c.callee,c.args.toList with
  | .builtin .append,[_,.tmp t]=>t==d&&ops.any (PE d')
  |_,_=>false
 |_,_=>false
def Vz(o:Oper):Bool:=
 match o.op with
 | .call c=>match c.callee with
  | .builtin .copy=>true
  |_=>false
 |_=>false
def Lg(P:Program)(ops:Array Oper)(d:Option Nat)(sop:SOp):SOp:=
 match sop,d with
 | .mksl e s xs,some d=>if(ops.any (Ws P d)||ops.any (UO ops d))=true then .lsl e s xs else .mksl e s xs
 | .bytes e x,some d=>if(ops.any (X9 d)&&(P.info? ON).isNone)=true then .nbytes ON x else .bytes e x
 | .append e s b x y,some d=>if ops.any (PE d)=true then .capp e s b x y else .append e s b x y
 | .load s x,some _=>if ops.any Vz=true then .loadb s x else .load s x
 |op,_=>op
def JG(P:Program)(o:Oper)(op:SOp):Prop:=BC P o=some op∨(∃e s xs,BC P o=some (.mksl e s xs)∧op=.lsl e s xs)∨(∃e e' x,BC P o=some (.bytes e x)∧op=.nbytes e' x∧P.info? e'=none)∨(∃e s b x y,BC P o=some (.append e s b x y)∧op=.capp e s b x y)∨∃s x,BC P o=some (.load s x)∧op=.loadb s x
theorem X4{P:Program}{o:Oper}{sop:SOp}(h:BC P o=some sop)(ops:Array Oper)(d:Option Nat):JG P o (Lg P ops d sop):=by
 unfold Lg;split
 ·rename_i e s xs d;split
  ·exact .inr (.inl ⟨e,s,xs,h,rfl⟩)
  ·exact .inl h
 ·rename_i e x d;split
  ·rename_i hh;simp only[Af,Option.isNone_iff_eq_none]at hh;exact .inr (.inr (.inl ⟨e,ON,x,h,rfl,hh.2⟩))
  ·exact .inl h
 ·rename_i e s b x y d;split
  ·exact .inr (.inr (.inr (.inl ⟨e,s,b,x,y,h,rfl⟩)))
  ·exact .inl h
 ·rename_i s x _;split
  ·exact .inr (.inr (.inr (.inr ⟨s,x,h,rfl⟩)))
  ·exact .inl h
 ·exact .inl h
theorem QR(hE:EOk P E)(h:SR P E.G w0 M0 n st a w z){rd:Nat→Ob}(hrd:∀id,rd id=.none∨rd id=st.ob id){o:Oper}{sop:SOp}(hc:JG P o sop)(hd:∀j,o.dst=some j→j<n)(hm:G8 sop=true→o.dst=none){st':St}
  (hv:A4 E rd st o.dst sop=some st') {K:Act→World→Prop} {Q:Exit→Act→World→Prop} (hK:∀a' w' z',SR P E.G w0 M0 n st' a' w' z'→K a' w'):o.wp P a w K Q:=by
 rcases hc with hc|⟨e,s,xs,hc,rfl⟩|⟨e,e',x,hc,rfl,he'⟩|⟨e,s,b,x,y,hc,rfl⟩|⟨s,x,hc,rfl⟩
 ·exact QQ hE h hrd hc hd hm hv hK
 ·unfold Oper.wp;unfold A4 at hv;simp only[SOp.cls,Aa]at hv;obtain⟨sv,hv,rfl⟩:=hv;obtain⟨v,w',h1,h2,h3⟩:=X5 h hc hv;rw[h1];exact hK _ _ _ ((h.grow h2).put hd h3)
 ·unfold Oper.wp;unfold A4 at hv;simp only[SOp.cls,Ab,Prod.exists]at hv;obtain⟨sv,ob,hv,ha⟩:=hv;unfold By at ha
  cases hod:o.dst with
  |none=>rw[hod]at ha;cases ha
  |some d=>
   rw[hod]at ha hv;simp only[Option.getD_some]at ha hv;split at ha<;>(try cases ha;done);rename_i hn;simp only[Ac]at ha;subst ha;obtain⟨v,w',z',h1,h2⟩:=XD h hc he' hv (hd d hod) hn;rw[h1];refine hK _ _ z' ?_;rw[hod];exact h2
 ·unfold Oper.wp;unfold A4 at hv;simp only[SOp.cls,Aa]at hv;obtain⟨sv,hv,rfl⟩:=hv;obtain⟨v,w',h1,h2,h3⟩:=UN h hc hv;rw[h1];exact hK _ _ _ ((h.grow h2).put hd h3)
 ·refine QQ (st':=st') hE h hrd hc hd (fun hh=>by cases hh) ?_ hK;unfold A4 at hv⊢;simp only[SOp.cls,Am]at hv⊢;split at hv
  ·cases hv
  ·exact hv
def De(P:Program)(n:Nat)(ops:Array Oper)(o:Oper):Option SL:=
 ((BC P o).map (Lg P ops o.dst)).bind fun sop=>
   if(o.dst.all fun d=>decide (d<n))&&(!(G8 sop)||o.dst.isNone)then
    match o.guard with
    |none=>some ⟨o.dst,sop,none⟩
    |some (j,want)=>((ops[j]?).bind (·.dst)).map fun t=>⟨o.dst,sop,some (t,want)⟩
   else none
theorem Vw{ops:Array Oper}{o:Oper}{l:SL}(h:De P n ops o=some l):JG P o l.op∧l.dst=o.dst∧(∀j,o.dst=some j→j<n)∧(G8 l.op=true→o.dst=none)∧
  ((o.guard=none∧l.guard=none)∨∃j t want,o.guard=some (j,want)∧(ops[j]?).bind (·.dst)=some t∧l.guard=some (t,want)):=by
 simp only[De,Ab,Ad,Af,Aj,Bool.not_eq_true']at h;obtain⟨sop,hs,⟨h1,h2⟩,h3⟩:=h;obtain⟨sop0,hs0,hs1⟩:=Aa.1 hs;replace hs:JG P o sop:=hs1▸X4 hs0 ops o.dst;have hd:∀j,o.dst=some j→j<n:=fun j hj=>by rw[hj]at h1;simpa using h1
 have hm:G8 sop=true→o.dst=none:=fun hm=>by
  rcases h2 with h2|h2
  ·rw[hm]at h2;cases h2
  ·simpa using h2
 split at h3
 ·rename_i hg;simp only[Ac]at h3;subst h3;exact⟨hs,rfl,hd,hm,.inl ⟨hg,rfl⟩⟩
 ·rename_i j want hg;simp only[Aa]at h3;obtain⟨t,ht,rfl⟩:=h3;exact⟨hs,rfl,hd,hm,.inr ⟨j,t,want,hg,ht,rfl⟩⟩
theorem Tt{G:Nat→List CV}(h:SR P G w0 M0 n st a w z){d:Option Nat}(hd:∀j,d=some j→j<n):SR P G w0 M0 n (st.set d Bn) (a.put d undef) w z:=by
 refine h.put hd ?_;show RelC _ _ (.tup []) undef;unfold RelC;exact⟨[],rfl,RelL.nil⟩
theorem QL(hE:EOk P E)(h:SR P E.G w0 M0 n st a w z){rd:Nat→Ob}(hrd:∀id,rd id=.none∨rd id=st.ob id){ops:Array Oper}{i:Nat}{o:Oper}(ho:ops[i]? =some o){l:SL}(hc:De P n ops o=some l){st':St}(hv:B3 E rd l st=some st')
  {rest:List Nat} {Q:Exit→Act→World→Prop} (hK:∀a' w' z',SR P E.G w0 M0 n st' a' w' z'→wpOps P ops Q rest a' w'):wpOps P ops Q (i::rest) a w:=by
 obtain⟨h1,h2,h3,h4,h5⟩:=Vw hc;simp only[wpOps,ho];unfold B3 at hv;rcases h5 with⟨hg,hlg⟩|⟨j,t,want,hg,ht,hlg⟩
 ·rw[hlg]at hv;simp only at hv;rw[if_pos (by simp[Region.wanted,hg])];rw[h2]at hv;exact .inl (QR hE h hrd h1 h3 h4 hv (fun a' w' z' hS=>hK a' w' z' hS))
 ·rw[hlg]at hv;simp only at hv;have hr:=h.fr t
  have hy:∀b,st.fr t=.c (.bool b)→yielded ops a.tmps j=some b:=by
   intro b hb;rw[hb]at hr;have e:=Dp (w:=w) (M:=Ao M0 z st.ob) hr
   have hlt:t<a.tmps.size:=by
    rcases Nat.lt_or_ge t a.tmps.size with hh|hh
    ·exact hh
    ·simp[Array.getD,Nat.not_lt.2 hh,undef]at e
   have e':a.tmps[t]? =some (.bool b):=by
    rw[Array.getElem?_eq_getElem hlt];simpa[Array.getD,hlt]using e
   simp only[yielded,ht,Option.bind_some,e']
  have hskip:st.fr t=.c (.tup [])→yielded ops a.tmps j=none:=by
   intro hb;rw[hb]at hr;unfold Ar RelC at hr;obtain⟨vs,e,_⟩:=hr;simp only[yielded,ht,Option.bind_some]
   cases ht':a.tmps[t]? with
   |none=>rfl
   |some v=>
    have:a.tmps.getD t undef=v:=by rw[Array.getD_eq_getD_getElem?,ht'];rfl
    rw[this]at e;rw[e]
  split at hv
  ·rename_i b hb;have hyb:=hy b hb;split at hv
   ·rename_i hbw;rw[if_pos (by simp[Region.wanted,hg,hyb,hbw])];rw[h2]at hv;exact .inl (QR hE h hrd h1 h3 h4 hv (fun a' w' z' hS=>hK a' w' z' hS))
   ·rename_i hbw;rw[if_neg (by simp[Region.wanted,hg,hyb,hbw])];simp only[Ac]at hv;subst hv;rw[h2]at hK;exact hK _ _ _ (Tt h h3)
  ·rename_i hb;rw[if_neg (by simp[Region.wanted,hg,hskip hb])];simp only[Ac]at hv;subst hv;rw[h2]at hK;exact hK _ _ _ (Tt h h3)
  ·cases hv
theorem Ks(hE:EOk P E)(h:SR P E.G w0 M0 n st a w z){D:Option (List Nat)}{ops:Array Oper}{i:Nat}{o:Oper}(ho:ops[i]? =some o){l:SL}(hc:De P n ops o=some l){st':St}(hv:Aw E D l st=some st')
  {rest:List Nat} {Q:Exit→Act→World→Prop} (hK:∀a' w' z',SR P E.G w0 M0 n st' a' w' z'→wpOps P ops Q rest a' w'):wpOps P ops Q (i::rest) a w:=by
 refine QL (hE.at D) (DS▸h) (rd:=A2 (D.map (hid l.op)) st.ob) (fun id=> ?_) ho hc hv (fun a' w' z' hS=>hK a' w' z' (DS▸hS));generalize D.map (hid l.op)=D
 cases D with
 |none=>exact .inr rfl
 |some D=>unfold A2;simp only;split<;>first|exact .inl rfl|exact .inr rfl
def Cq(E:Env)(D:Option (List Nat))(ls:List SL):List Nat→St→Option St
 | [],st=>some st
 |i::is,st=>match ls[i]? with
  |some l=>(Aw E D l st).bind (Cq E D ls is)
  |none=>none
theorem I2(hE:EOk P E){D:Option (List Nat)}{ops:Array Oper}{ls:List SL}(hc:Aq (De P n ops) ops.toList=some ls){Q:Exit→Act→World→Prop}:∀{is:List Nat} {st st':St} {a:Act} {w:World} {z:Cz},SR P E.G w0 M0 n st a w z→
  Cq E D ls is st=some st'→(∀a' w' z',SR P E.G w0 M0 n st' a' w' z'→Q .normal a' w')→wpOps P ops Q is a w
 | [],st,st',a,w,z,h,hv,hK=>by
  simp only[Cq,Ac]at hv;subst hv;exact hK _ _ _ h
 |i::is,st,st',a,w,z,h,hv,hK=>by
  simp only[Cq]at hv;split at hv<;>(try cases hv;done);rename_i l hl;simp only[Ab]at hv;obtain⟨st1,h1,h2⟩:=hv;have hlen:=DB hc;have hi:i<ops.toList.length:=by rw[←hlen];exact(Ae.1 hl).1
  have ho:ops.toList[i]? =some (ops.toList[i]):=Ai hi;obtain⟨l',g1,g2⟩:=If hc ho;rw[hl]at g1;simp only[Ac]at g1;subst g1;have ho':ops[i]? =some (ops.toList[i]):=by rw[←Array.getElem?_toList];exact ho
  exact Ks hE h ho' g2 h1 fun a' w' z' hS=>I2 hE hc hS h2 hK
end
def SO.slot:SO→List Nat
 | .t i=> [i]
 |_=> []
def Jb:Option SO→List Nat
 |some x=>x.slot
 |none=> []
def SOp.slots:SOp→List Nat
 | .mov x| .un _ x| .cvi _ x| .cvrune x| .cvbs x| .cvid x| .isnil _ _ x| .field _ _ x| .ext x _| .faddr _ x| .load _ x| .len _ x| .box x| .bytes _ x| .nbytes _ x| .nchk x| .siter x| .mrange x| .mentry x| .snext x| .asl _ x| .loadb _ x=>x.slot
 | .pick c a b=>c.slot++a.slot++b.slot
 | .bin _ x y| .eqs _ _ x y| .beq _ x y| .iaddr _ x y| .aaddr _ _ x y| .sidx x y| .aidx _ _ _ x y| .lookup _ _ _ _ x y| .make _ _ _ _ x y| .store _ x y| .append _ _ _ x y| .capp _ _ _ x y| .cpy _ _ x y| .mapent _ x y=>x.slot++y.slot
 | .build _ ps=>ps.flatMap fun p=>p.2.2.slot
 | .minmax _ xs| .fnv _ xs| .mksl _ _ xs| .lsl _ _ xs| .call _ xs=>xs.flatMap SO.slot
 | .callv f xs=>f.slot++xs.flatMap SO.slot
 | .mcopy _ x y=>x.slot++y.slot
 | .sslice x l h| .slice _ x l h=>x.slot++Jb l++Jb h
 | .slice3 _ x l h m=>x.slot++Jb l++h.slot++m.slot
 | .alloc _| .allocT .. | .mkmap .. => []
 | .entst x y z| .mapupd _ x y z=>x.slot++y.slot++z.slot
def SL.looks(l:SL):List Nat:=l.op.slots++(match l.guard with|some (g,_)=> [g]|none=> [])
def SOp.hard:SOp→Bool
 | .store .. | .append .. | .mapent .. | .entst .. | .mapupd .. | .snext .. | .mcopy .. | .cpy .. =>true
 |_=>false
def SOp.calm:SOp→Bool
 | .bin .. | .eqs .. | .beq .. | .un .. | .cvi .. | .mov .. | .ext .. | .minmax .. | .lookup _ _ _ false _ _=>true
 |_=>false
def SOp.entry:SOp→Bool
 | .mapent .. =>true
 |_=>false
def SOp.makes:SOp→Bool
 | .alloc .. | .allocT .. | .box .. | .mksl .. | .mkmap .. | .make .. | .siter .. | .nbytes .. | .mrange .. | .call .. | .callv .. =>true
 |_=>false
def SOp.still:SOp→Bool
 | .bin .. | .eqs .. | .beq .. | .un .. | .cvi .. | .mov .. | .ext .. | .minmax .. | .isnil .. | .pick .. =>true
 |_=>false
def SOp.stores:SOp→Bool
 | .store .. =>true
 |_=>false
def SOp.grows:SOp→Bool
 | .append .. =>true
 |_=>false
def SOp.loads:SOp→Bool
 | .load .. =>true
 |_=>false
def SOp.puts:SOp→Bool
 | .mapupd .. =>true
 |_=>false
def SOp.moves:SOp→Bool
 | .mov .. =>true
 |_=>false
def SOp.tame:SOp→Bool
 | .load .. | .alloc .. | .mksl .. | .mov .. | .slice .. =>true
 |_=>false
def SOp.copies:SOp→Bool
 | .cpy .. =>true
 |_=>false
def SOp.flat:SOp→Bool
 | .mov .. | .loadb .. =>true
 |_=>false
def FE(D:List Nat)(x y:SL):Bool:=
 (x.dst.all fun d=> !y.looks.contains d&&y.dst !=some d)&&(y.dst.all fun d=> !x.looks.contains d)&&
 ((!x.op.hard&&((!y.op.hard&&(!x.op.makes||x.dst.all fun d=>(hid y.op D).contains d)&&(!y.op.makes||y.dst.all fun d=>(hid x.op D).contains d))||(y.op.entry&&x.op.calm)||(y.op.stores&&x.op.still)||(y.op.grows&&y.guard.isNone&&x.op.moves&&x.guard.isNone)||(y.op.puts&&y.guard.isNone&&x.op.loads&&x.guard.isNone)))||(x.op.grows&&x.guard.isNone&&y.op.tame&&y.guard.isNone)||((x.op.copies&&y.op.flat||y.op.copies&&x.op.flat)&&x.guard.isNone&&y.guard.isNone))
def Fz(ops:Array Oper):Nat→Nat→Nat→Bool
 |0,_,_=>false
 |k+1,i,j=>match ops[j]? with
  |some o=>o.after.any fun e=>Region.binds .any e&&(e.on==i||(e.on<j&&Fz ops k i e.on))
  |none=>false
def IV(ops:Array Oper)(ms:List Nat)(j:Nat):Nat:=
 match ops[j]? with
 |some o=>o.after.foldl (fun m e=>if Region.binds .any e&&decide (e.on<j)then m|||(1<<<e.on)|||ms.getD e.on 0 else m) 0
 |none=>0
def D5(ops:Array Oper):Nat→List Nat
 |0=> []
 |n+1=>D5 ops n++ [IV ops (D5 ops n) n]
theorem Li(ops:Array Oper):∀n,(D5 ops n).length=n
 |0=>rfl
 |n+1=>by simp[D5,Li ops n]
theorem FK(ops:Array Oper):∀{n j:Nat},j<n→(D5 ops n).getD j 0=IV ops (D5 ops j) j
 |0,_,h=>by omega
 |n+1,j,h=>by
  show(D5 ops n++ [IV ops (D5 ops n) n]).getD j 0=_;by_cases hj:j<n
  ·have:=FK ops hj;rw[List.getD_eq_getElem?_getD,List.getElem?_append_left (by rw[Li];exact hj),←List.getD_eq_getElem?_getD];exact this
  ·have e:j=n:=by omega
   subst e;rw[List.getD_eq_getElem?_getD,List.getElem?_append_right (by rw[Li];exact Nat.le_refl _)];simp[Li]
theorem H6(ops:Array Oper):∀{j k i:Nat},j<k→(IV ops (D5 ops j) j).testBit i=true→Fz ops k i j=true:=by
 intro j
 induction j using Nat.strongRecOn with
 |_ j ih=>
  intro k i hk h;obtain⟨k,rfl⟩:∃k',k=k'+1:=⟨k-1,by omega⟩;unfold IV at h;unfold Fz;split at h
  ·rename_i o ho;try simp only[ho]
   rw[←Array.foldl_toList]at h
   have key:∀(l:List Edge) (m:Nat),(l.foldl (fun m e=>if Region.binds .any e&&decide (e.on<j)then m|||(1<<<e.on)|||(D5 ops j).getD e.on 0 else m) m).testBit i=true→
     m.testBit i=true∨∃e∈l,Region.binds .any e=true∧e.on<j∧(e.on=i∨((D5 ops j).getD e.on 0).testBit i=true):=by
    intro l
    induction l with
    |nil=>intro m h;exact .inl h
    |cons e l ihl=>
     intro m h;simp only[List.foldl_cons]at h;rcases ihl _ h with h|⟨e',h1,h2⟩
     ·split at h
      ·rename_i hb;simp only[Af,decide_eq_true_eq]at hb;rw[Nat.testBit_or,Nat.testBit_or,Aj,Aj]at h;rcases h with(h|h)|h
       ·exact .inl h
       ·refine .inr ⟨e,by simp,hb.1,hb.2,.inl ?_⟩;rw[Nat.shiftLeft_eq,Nat.one_mul,Nat.testBit_two_pow]at h;simpa using h
       ·exact .inr ⟨e,by simp,hb.1,hb.2,.inr h⟩
      ·exact .inl h
     ·exact .inr ⟨e',by simp[h1],h2⟩
   rcases key _ _ h with h|⟨e,h1,h2,h3,h4⟩
   ·simp at h
   ·rw[Array.any_eq_true'];refine⟨e,by simpa using h1, ?_⟩;simp only[Af,Aj,beq_iff_eq,decide_eq_true_eq];refine⟨h2, ?_⟩;rcases h4 with h4|h4
    ·exact .inl h4
    ·right;rw[FK ops h3]at h4;exact⟨h3,ih e.on h3 (by omega) h4⟩
  ·simp at h
def FV(E:Env)(rd:Nat→Ob)(ρ:SO→SV)(d:Option Nat)(f:FuncId)(args:List SO)(caps:List CV):Option (SV×Option Ob):=
 (Aq (fun x=>Cn rd (ρ x)) args).bind fun l=>(E.fn f (l++caps)).bind fun r=>
  if(args.all fun x=>isC (ρ x))||r.memless then some (match r with| .val v=>(.c v,none)| .new o=>(LM (d.getD 0) o,some o))else none
def A1(E:Env)(rd:Nat→Ob)(ρ:SO→SV)(d:Option Nat)(op:SOp):Option (SV×Option Ob):=
 match op.cls with
 | .val| .grow=>(Am rd ρ op).map fun v=>(v,none)
 | .new=>(Bw ρ (d.getD 0) op).map fun(v,o)=>(v,some o)
 | .eff| .copy=>none
 | .call=>match op with
  | .call f args=>FV E rd ρ d f args []
  | .callv f args=>match ρ f with
   | .c (.fn f caps)=>FV E rd ρ d f args caps
   |_=>none
  |_=>none
def Ci(E:Env)(l:SL)(fr:Nat→SV)(rd:Nat→Ob):Option (SV×Option Ob):=
 match l.guard with
 |none=>A1 E rd (so E.G fr) l.dst l.op
 |some (g,want)=>match fr g with
  | .c (.bool b)=>if b=want then A1 E rd (so E.G fr) l.dst l.op else some (Bn,none)
  | .c (.tup [])=>some (Bn,none)
  |_=>none
def put(st:St)(d:Option Nat):SV×Option Ob→Option St
 |(v,none)=>some (st.set d v)
 |(v,some o)=>By st d v o
section
variable {E:Env}
theorem Tu{rd:Nat→Ob}{ρ:SO→SV}{st:St}{d:Option Nat}{f:FuncId}{args:List SO}{caps:List CV}:Dc E rd ρ st d f args caps=(FV E rd ρ d f args caps).bind (put st d):=by
 unfold Dc FV
 cases Aq (fun x=>Cn rd (ρ x)) args with
 |none=>rfl
 |some l=>
  simp only[Option.bind_some]
  cases E.fn f (l++caps)with
  |none=>rfl
  |some r=>
   simp only[Option.bind_some];split
   ·cases r<;>rfl
   ·rfl
theorem HU{rd:Nat→Ob}{st:St}{d:Option Nat}{op:SOp}(hs:op.hard=false):A4 E.still rd st d op=(A1 E rd (so E.G st.fr) d op).bind (put st d):=by
 cases op<;>simp only[SOp.hard,Bool.true_eq_false]at hs<;>simp only[A4,A1,SOp.cls,Zg]<;>first
  |rfl
  |(cases Am rd (so E.G st.fr) _<;>rfl)
  |(generalize Bw (so E.G st.fr) (d.getD 0) _=q;cases q<;>rfl)
  |exact Tu
  |skip
 show(match so E.G st.fr _ with| .c (.fn f caps)=>_|_=>none)=_;generalize so E.G st.fr _=q
 cases q<;>first
  |rfl
  |(rename_i v;cases v<;>first|rfl|exact Tu)
theorem Cj{D:List Nat}{st:St}{l:SL}(hs:l.op.hard=false):Aw E (some D) l st=(Ci E l st.fr (A2 (some (hid l.op D)) st.ob)).bind (put st l.dst):=by
 unfold Aw Ci;simp only[Option.map_some]
 cases l.guard with
 |none=>exact HU hs
 |some p=>
  obtain⟨g,want⟩:=p;simp only;generalize st.fr g=q
  cases q with
  |c v=>
   cases v with
   |bool b=>
    simp only;split
    ·exact HU hs
    ·rfl
   |tup l=>cases l<;>rfl
   |_=>rfl
  |_=>rfl
theorem Ej{G:Nat→List CV}{fr fr':Nat→SV}(x:SO)(h:∀i∈x.slot,fr i=fr' i):so G fr x=so G fr' x:=by
 cases x with
 |t i=>exact h i (by simp[SO.slot])
 |_=>rfl
theorem Fy{α β:Type}{f g:α→Option β}:∀(l:List α),(∀x∈l,f x=g x)→Aq f l=Aq g l
 | [],_=>rfl
 |x::l,h=>by
  simp only[Aq,h x (by simp),Fy l (fun y hy=>h y (by simp[hy]))]
theorem Mz{α:Type}{f g:α→Bool}:∀(l:List α),(∀x∈l,f x=g x)→l.all f=l.all g
 | [],_=>rfl
 |x::l,h=>by
  simp only[List.all_cons,h x (by simp),Mz l (fun y hy=>h y (by simp[hy]))]
theorem Jc{ρ ρ':SO→SV}(o:Option SO)(h:∀x,(∀i∈x.slot,i∈Jb o)→ρ x=ρ' x):o.map ρ=o.map ρ':=by
 cases o with
 |none=>rfl
 |some x=>simp[h x (fun i hi=>by simpa[Jb]using hi)]
theorem Tv{rd:Nat→Ob}{fr fr':Nat→SV}{d:Option Nat}(op:SOp)(h:∀i∈op.slots,fr i=fr' i):A1 E rd (so E.G fr) d op=A1 E rd (so E.G fr') d op:=by
 have key:∀x:SO,(∀i∈x.slot,i∈op.slots)→so E.G fr x=so E.G fr' x:=fun x hx=>Ej x fun i hi=>h i (hx i hi);generalize so E.G fr=ρ at key⊢;generalize so E.G fr'=ρ' at key⊢
 cases op with
 |mov x=>simp only[A1,SOp.cls,Am,key x (fun i hi=>by simp[SOp.slots,hi])]
 |pick c x y=>simp only[A1,SOp.cls,Am,key c (fun i hi=>by simp[SOp.slots,hi]),key x (fun i hi=>by simp[SOp.slots,hi]),key y (fun i hi=>by simp[SOp.slots,hi])]
 |bin op x y=>simp only[A1,SOp.cls,Am,key x (fun i hi=>by simp[SOp.slots,hi]),key y (fun i hi=>by simp[SOp.slots,hi])]
 |eqs n ts x y=>simp only[A1,SOp.cls,Am,key x (fun i hi=>by simp[SOp.slots,hi]),key y (fun i hi=>by simp[SOp.slots,hi])]
 |beq n x y=>simp only[A1,SOp.cls,Am,key x (fun i hi=>by simp[SOp.slots,hi]),key y (fun i hi=>by simp[SOp.slots,hi])]
 |isnil k n x=>simp only[A1,SOp.cls,Am,key x (fun i hi=>by simp[SOp.slots,hi])]
 |un op x=>simp only[A1,SOp.cls,Am,key x (fun i hi=>by simp[SOp.slots,hi])]
 |cvi k x=>simp only[A1,SOp.cls,Am,key x (fun i hi=>by simp[SOp.slots,hi])]
 |cvrune x=>simp only[A1,SOp.cls,Am,key x (fun i hi=>by simp[SOp.slots,hi])]
 |cvbs x=>simp only[A1,SOp.cls,Am,key x (fun i hi=>by simp[SOp.slots,hi])]
 |cvid x=>simp only[A1,SOp.cls,Am,key x (fun i hi=>by simp[SOp.slots,hi])]
 |field o s x=>simp only[A1,SOp.cls,Am,key x (fun i hi=>by simp[SOp.slots,hi])]
 |ext x j=>simp only[A1,SOp.cls,Am,key x (fun i hi=>by simp[SOp.slots,hi])]
 |faddr o x=>simp only[A1,SOp.cls,Am,key x (fun i hi=>by simp[SOp.slots,hi])]
 |iaddr s x y=>simp only[A1,SOp.cls,Am,key x (fun i hi=>by simp[SOp.slots,hi]),key y (fun i hi=>by simp[SOp.slots,hi])]
 |aaddr l s x y=>simp only[A1,SOp.cls,Am,key x (fun i hi=>by simp[SOp.slots,hi]),key y (fun i hi=>by simp[SOp.slots,hi])]
 |sidx x y=>simp only[A1,SOp.cls,Am,key x (fun i hi=>by simp[SOp.slots,hi]),key y (fun i hi=>by simp[SOp.slots,hi])]
 |aidx l s z x y=>simp only[A1,SOp.cls,Am,key x (fun i hi=>by simp[SOp.slots,hi]),key y (fun i hi=>by simp[SOp.slots,hi])]
 |load s x=>simp only[A1,SOp.cls,Am,key x (fun i hi=>by simp[SOp.slots,hi])]
 |len k x=>simp only[A1,SOp.cls,Am,key x (fun i hi=>by simp[SOp.slots,hi])]
 |lookup mt kt z ok x y=>simp only[A1,SOp.cls,Am,key x (fun i hi=>by simp[SOp.slots,hi]),key y (fun i hi=>by simp[SOp.slots,hi])]
 |alloc z=>rfl
 |allocT T z=>rfl
 |box x=>simp only[A1,SOp.cls,Bw,key x (fun i hi=>by simp[SOp.slots,hi])]
 |mkmap mt kt z=>rfl
 |make e s b z x y=>simp only[A1,SOp.cls,Bw,key x (fun i hi=>by simp[SOp.slots,hi]),key y (fun i hi=>by simp[SOp.slots,hi])]
 |bytes e x=>simp only[A1,SOp.cls,Am,key x (fun i hi=>by simp[SOp.slots,hi])]
 |nchk x=>simp only[A1,SOp.cls,Am,key x (fun i hi=>by simp[SOp.slots,hi])]
 |siter x=>simp only[A1,SOp.cls,Bw,key x (fun i hi=>by simp[SOp.slots,hi])]
 |mrange x=>simp only[A1,SOp.cls,Bw,key x (fun i hi=>by simp[SOp.slots,hi])]
 |mentry x=>simp only[A1,SOp.cls,Am,key x (fun i hi=>by simp[SOp.slots,hi])]
 |nbytes e x=>simp only[A1,SOp.cls,Bw,key x (fun i hi=>by simp[SOp.slots,hi])]
 |store n x y=>rfl
 |append e s b x y=>rfl
 |loadb s x=>simp only[A1,SOp.cls,Am,key x (fun i hi=>by simp[SOp.slots,hi])]
 |cpy e s x y=>rfl
 |mapent mt x y=>rfl
 |entst x y z=>rfl
 |mapupd mt x y z=>rfl
 |mcopy f x y=>rfl
 |snext x=>rfl
 |asl n x=>simp only[A1,SOp.cls,Am,key x (fun i hi=>by simp[SOp.slots,hi])]
 |sslice x lo hi=>
  have e1:=Jc lo (fun y hy=>key y (fun i hi=>by simp[SOp.slots,hy i hi]));have e2:=Jc hi (fun y hy=>key y (fun i hi=>by simp[SOp.slots,hy i hi]));simp only[A1,SOp.cls,Am,key x (fun i hi=>by simp[SOp.slots,hi]),e1,e2]
 |slice s x lo hi=>
  have e1:=Jc lo (fun y hy=>key y (fun i hi=>by simp[SOp.slots,hy i hi]));have e2:=Jc hi (fun y hy=>key y (fun i hi=>by simp[SOp.slots,hy i hi]));simp only[A1,SOp.cls,Am,key x (fun i hi=>by simp[SOp.slots,hi]),e1,e2]
 |slice3 s x lo hi mx=>
  have e1:=Jc lo (fun y hy=>key y (fun i hi=>by simp[SOp.slots,hy i hi]));simp only[A1,SOp.cls,Am,key x (fun i hi=>by simp[SOp.slots,hi]),e1,key hi (fun i h=>by simp[SOp.slots,h]),key mx (fun i h=>by simp[SOp.slots,h])]
 |capp e s b x y=>simp only[A1,SOp.cls,Am,key x (fun i hi=>by simp[SOp.slots,hi]),key y (fun i hi=>by simp[SOp.slots,hi])]
 |build z ps=>
  simp only[A1,SOp.cls,Am];rw[Fy ps (fun p hp=>by rw[key p.2.2 (fun i hi=>by simp only[SOp.slots,List.mem_flatMap];exact⟨p,hp,hi⟩)])]
 |minmax m xs=>
  simp only[A1,SOp.cls,Am];rw[Fy xs (fun p hp=>by rw[key p (fun i hi=>by simp only[SOp.slots,List.mem_flatMap];exact⟨p,hp,hi⟩)])]
 |fnv f xs=>
  simp only[A1,SOp.cls,Am];rw[Fy xs (fun p hp=>by rw[key p (fun i hi=>by simp only[SOp.slots,List.mem_flatMap];exact⟨p,hp,hi⟩)])]
 |lsl e s xs=>
  simp only[A1,SOp.cls,Am];rw[Fy xs (fun p hp=>by rw[key p (fun i hi=>by simp only[SOp.slots,List.mem_flatMap];exact⟨p,hp,hi⟩)])]
 |mksl e s xs=>
  simp only[A1,SOp.cls,Bw];rw[Fy xs (fun p hp=>by rw[key p (fun i hi=>by simp only[SOp.slots,List.mem_flatMap];exact⟨p,hp,hi⟩)])]
 |call f xs=>
  simp only[A1,SOp.cls,FV]
  rw[Fy xs (fun p hp=>by rw[key p (fun i hi=>by simp only[SOp.slots,List.mem_flatMap];exact⟨p,hp,hi⟩)]),
   Mz xs (fun p hp=>by rw[key p (fun i hi=>by simp only[SOp.slots,List.mem_flatMap];exact⟨p,hp,hi⟩)])]
 |callv f xs=>
  simp only[A1,SOp.cls,FV]
  rw[Fy xs (fun p hp=>by rw[key p (fun i hi=>by simp only[SOp.slots,List.mem_append,List.mem_flatMap];exact .inr ⟨p,hp,hi⟩)]),
   Mz xs (fun p hp=>by rw[key p (fun i hi=>by simp only[SOp.slots,List.mem_append,List.mem_flatMap];exact .inr ⟨p,hp,hi⟩)]),
   key f (fun i hi=>by simp[SOp.slots,hi])]
theorem FW{rd:Nat→Ob}{fr fr':Nat→SV}{l:SL}(h:∀i∈l.looks,fr i=fr' i):Ci E l fr rd=Ci E l fr' rd:=by
 have h1:∀i∈l.op.slots,fr i=fr' i:=fun i hi=>h i (by simp[SL.looks,hi]);unfold Ci
 cases hg:l.guard with
 |none=>exact Tv _ h1
 |some p=>
  obtain⟨g,want⟩:=p;simp only;rw[h g (by simp[SL.looks,hg]),Tv _ h1]
theorem S2{D:List Nat}{st st':St}{d:Option Nat}{p:SV×Option Ob}(h:put st d p=some st')(hD:p.2.isSome=true→∀j,d=some j→D.contains j=true):A2 (some D) st'.ob=A2 (some D) st.ob:=by
 obtain⟨v,o⟩:=p
 cases o with
 |none=>
  simp only[put,Ac]at h;subst h;cases d<;>rfl
 |some o=>
  simp only[put,By]at h
  cases d with
  |none=>cases h
  |some d=>
   simp only at h;split at h<;>(try cases h;done);cases h;have:=hD rfl d rfl;funext i;simp only[A2,BK];split
   ·rfl
   ·rename_i hi;split
    ·rename_i e;subst e;exact(hi this).elim
    ·rfl
theorem Dh{st st':St}{d:Option Nat}{p:SV×Option Ob}(h:put st d p=some st'){i:Nat}(hi:d≠some i):st'.fr i=st.fr i:=by
 obtain⟨v,o⟩:=p
 cases o with
 |none=>
  simp only[put,Ac]at h;subst h
  cases d with
  |none=>rfl
  |some d=>exact A0 _ _ (fun e=>hi (by rw[e]))
 |some o=>
  simp only[put,By]at h
  cases d with
  |none=>cases h
  |some d=>
   simp only at h;split at h<;>(try cases h;done);cases h;exact A0 _ _ (fun e=>hi (by rw[e]))
theorem EW{α:Type}(f:Nat→α){i j:Nat}(u v:α)(h:i≠j):upd (upd f i u) j v=upd (upd f j v) i u:=by
 funext k;simp only[BK];by_cases h1:k=i<;>by_cases h2:k=j<;>simp_all
theorem Yr{st s1 s2:St}{d1 d2:Option Nat}{p1 p2:SV×Option Ob}(h1:put st d1 p1=some s1)(h2:put s1 d2 p2=some s2)(hd:∀i j,d1=some i→d2=some j→i≠j):∃s,put st d2 p2=some s∧put s d1 p1=some s2:=by
 obtain⟨v1,o1⟩:=p1;obtain⟨v2,o2⟩:=p2
 cases d1 with
 |none=>
  cases o1 with
  |none=>
   simp only[put,Ac]at h1;cases h1;exact⟨s2,h2,rfl⟩
  |some o=>cases h1
 |some i=>
  cases d2 with
  |none=>
   cases o2 with
   |none=>
    simp only[put,Ac]at h2;cases h2;exact⟨st,rfl,h1⟩
   |some o=>cases h2
  |some j=>
   have hij:=hd i j rfl rfl
   cases o1 with
   |none=>
    simp only[put,Ac]at h1;cases h1
    cases o2 with
    |none=>
     simp only[put,Ac]at h2;cases h2;exact⟨_,rfl,by simp[put,St.set,EW _ _ _ hij]⟩
    |some o2=>
     simp only[put,By,St.set]at h2;split at h2<;>(try cases h2;done);rename_i hn;cases h2;exact⟨{fr:=upd st.fr j v2,ob:=upd st.ob j o2},by simp[put,By,hn],by simp[put,St.set,EW _ _ _ hij]⟩
   |some o1=>
    simp only[put,By]at h1;split at h1<;>(try cases h1;done);rename_i hn;cases h1
    cases o2 with
    |none=>
     simp only[put,Ac]at h2;cases h2;exact⟨_,rfl,by simp[put,By,St.set,hn,EW _ _ _ hij]⟩
    |some o2=>
     simp only[put,By,A0 _ _ (Ne.symm hij)]at h2;split at h2<;>(try cases h2;done);rename_i hn2;cases h2;exact⟨{fr:=upd st.fr j v2,ob:=upd st.ob j o2},by simp[put,By,hn2],by simp[put,By,A0 _ _ hij,hn,EW _ _ _ hij]⟩
theorem Tw{rd:Nat→Ob}{ρ:SO→SV}{d:Option Nat}{op:SOp}{p:SV×Option Ob}(h:A1 E rd ρ d op=some p)(hp:p.2.isSome=true):op.makes=true:=by
 cases op<;>simp only[A1,SOp.cls,Aa,reduceCtorEq]at h<;>first
  |rfl
  |(obtain⟨v,_,rfl⟩:=h;cases hp)
theorem HR{l:SL}{fr:Nat→SV}{rd:Nat→Ob}{p:SV×Option Ob}(h:Ci E l fr rd=some p)(hp:p.2.isSome=true):l.op.makes=true:=by
 unfold Ci at h;split at h
 ·exact Tw h hp
 ·split at h
  ·split at h
   ·exact Tw h hp
   ·cases h;cases hp
  ·cases h;cases hp
  ·cases h
theorem Zz{D:List Nat}{a b:SL}{st s1 s2:St}(ha:a.op.hard=false)(hb:b.op.hard=false)(hDa:a.op.makes=true→∀j,a.dst=some j→(hid b.op D).contains j=true)(hDb:b.op.makes=true→∀j,b.dst=some j→(hid a.op D).contains j=true)
  (hab:∀i,a.dst=some i→i∉b.looks∧b.dst≠some i) (hba:∀i,b.dst=some i→i∉a.looks) (h1:Aw E (some D) a st=some s1) (h2:Aw E (some D) b s1=some s2):
  ∃s,Aw E (some D) b st=some s∧Aw E (some D) a s=some s2:=by
 rw[Cj ha,Ab]at h1;rw[Cj hb,Ab]at h2;obtain⟨p1,e1,h1⟩:=h1;obtain⟨p2,e2,h2⟩:=h2;have m1:=S2 (D:=hid b.op D) h1 (fun hs j hj=>hDa (HR e1 hs) j hj);rw[m1,FW (fr':=st.fr) (fun i hi=>Dh h1 (fun e=>(hab i e).1 hi))]at e2;obtain⟨s,g1,g2⟩:=Yr h1 h2 (fun i j hi hj e=>(hab i hi).2 (by rw[hj,e]));have m2:=S2 (D:=hid a.op D) g1 (fun hs j hj=>hDb (HR e2 hs) j hj);refine⟨s, ?_, ?_⟩
 ·rw[Cj hb,e2];exact g1
 ·rw[Cj ha,m2,FW (fr':=st.fr) (fun i hi=>Dh g1 (fun e=>hba i e hi)),e1];exact g2
end
def gd(l:SL)(fr:Nat→SV):Option Bool:=
 match l.guard with
 |none=>some true
 |some (g,want)=>match fr g with
  | .c (.bool b)=>some (decide (b=want))
  | .c (.tup [])=>some false
  |_=>none
section
variable {E:Env}
theorem Gu{D:Option (List Nat)}{l:SL}{st:St}:Aw E D l st=(gd l st.fr).bind fun t=>if t=true then A4 (E.at D) (A2 (D.map (hid l.op)) st.ob) st l.dst l.op else some (st.set l.dst Bn):=by
 unfold Aw gd
 cases l.guard with
 |none=>rfl
 |some p=>
  obtain⟨g,want⟩:=p;simp only;generalize st.fr g=q
  cases q with
  |c v=>
   cases v with
   |bool b=>by_cases hb:b=want<;>simp[hb]
   |tup l=>cases l<;>rfl
   |_=>rfl
  |_=>rfl
theorem Nl{l:SL}{fr fr':Nat→SV}(h:∀i∈l.looks,fr i=fr' i):gd l fr=gd l fr':=by
 unfold gd
 cases hg:l.guard with
 |none=>rfl
 |some p=>
  obtain⟨g,want⟩:=p;simp only;rw[h g (by simp[SL.looks,hg])]
theorem Rx{kt:KT}{k c:CV}:∀(ks:List CV),AJ kt k (ks++ [c])=match AJ kt k ks with
  |some i=>some i
  |none=>if Cf kt k c then some ks.length else none
 | []=>by simp[AJ]
 |a::ks=>by
  simp only[List.cons_append,AJ,Rx ks];split
  ·rfl
  ·cases AJ kt k ks with
   |some i=>rfl
   |none=>
    simp only[Option.map_none];split<;>simp
theorem Xz{kt:KT}{z:CV}{ks vs:List CV}(k k':CV)(hl:ks.length=vs.length):(AX kt z (Bk kt ks k) (Bl kt ks vs k (AX kt z ks vs k).1) k').1=(AX kt z ks vs k').1:=by
 unfold Bk Bl
 cases hk:AJ kt k ks with
 |some i=>
  have:(AX kt z ks vs k).1=vs.getD i z:=by simp[AX,hk]
  rw[this];have hi:=KP hk
  have:vs.set i (vs.getD i z)=vs:=by
   rw[List.getD_eq_getElem?_getD,Ai (by omega:i<vs.length)];simp
  simp only[this]
 |none=>
  have:(AX kt z ks vs k).1=z:=by simp[AX,hk]
  rw[this];simp only[AX,Rx]
  cases hk':AJ kt k' ks with
  |some j=>
   have hj:=KP hk';simp[List.getD_eq_getElem?_getD,List.getElem?_append_left (by omega:j<vs.length)]
  |none=>
   simp only;by_cases he:Cf kt k' k<;>simp[he,List.getD_eq_getElem?_getD,hl]
theorem UK{rd rd':Nat→Ob}{mt:TypeId}{kt:KT}{z:CV}{ks vs:List CV}{k:CV}(hl:ks.length=vs.length)
  (h:∀i,rd' i=rd i∨(rd i=.map mt kt z ks vs∧rd' i=.map mt kt z (Bk kt ks k) (Bl kt ks vs k (AX kt z ks vs k).1))) {ρ:SO→SV} {d:Option Nat} {op:SOp} (hc:op.calm=true):A1 E rd' ρ d op=A1 E rd ρ d op:=by
 cases op<;>simp only[SOp.calm,Ag]at hc<;>try rfl
 rename_i mt' kt' z' ok x y;cases ok<;>simp only[Ag]at hc;simp only[A1,SOp.cls,Am]
 congr 2
 generalize ρ x=q1;generalize ρ y=q2
 cases q1 with
 |omap id=>
  cases q2 with
  |c kc=>
   rcases h id with e|⟨e1,e2⟩
   ·simp only[D4,e]
   ·simp only[D4,e1,e2,Ag,if_false,Xz k kc hl]
  |_=>rfl
 |c v=>cases v<;>cases q2<;>rfl
 |_=>rfl
theorem Zu{D:List Nat}{a b:SL}{st s1 s2:St}(ha:a.op.calm=true)(hb:b.op.entry=true)
  (hab:∀i,a.dst=some i→i∉b.looks∧b.dst≠some i) (hba:∀i,b.dst=some i→i∉a.looks) (h1:Aw E (some D) a st=some s1) (h2:Aw E (some D) b s1=some s2):
  ∃s,Aw E (some D) b st=some s∧Aw E (some D) a s=some s2:=by
 have hah:a.op.hard=false:=by
  revert ha;cases a.op<;>simp[SOp.calm,SOp.hard]
 have ham:a.op.makes=false:=by
  revert ha;cases a.op<;>simp[SOp.calm,SOp.makes]
 rw[Cj hah,Ab]at h1;obtain⟨⟨v,o⟩,e1,h1⟩:=h1
 have ho:o=none:=by
  cases o with
  |none=>rfl
  |some o=>have:=HR e1 rfl;rw[ham]at this;cases this
 subst ho;have hf1:∀i∈b.looks,s1.fr i=st.fr i:=fun i hi=>Dh h1 (fun e=>(hab i e).1 hi);simp only[put,Ac]at h1;have hob1:s1.ob=st.ob:=by subst h1;cases a.dst<;>rfl
 rw[Gu,Nl hf1,Ab]at h2;obtain⟨t,ht,h2⟩:=h2;have dcomm:∀i j,b.dst=some i→a.dst=some j→i≠j:=fun i j hi hj e=>(hab j hj).2 (by rw[hi,e])
 cases t with
 |false=>
  simp only[Ag,if_false,Ac]at h2;refine⟨st.set b.dst Bn,by rw[Gu,ht];rfl, ?_⟩;have g1:put st b.dst (Bn,none)=some (st.set b.dst Bn):=rfl;have hm:(st.set b.dst Bn).ob=st.ob:=by cases b.dst<;>rfl
  rw[Cj hah,hm,FW (fr':=st.fr) (fun i hi=>Dh g1 (fun e=>hba i e hi)),e1]
  have hc:∀(x y:Option Nat) (u v:SV),(∀i j,x=some i→y=some j→i≠j)→(st.set x u).set y v=(st.set y v).set x u:=by
   intro x y u v hxy;cases x<;>cases y<;>try rfl
   simp only[St.set,EW _ _ _ (hxy _ _ rfl rfl)]
  simp only[Option.bind_some,put,←h2,←h1,hc _ _ _ _ dcomm]
 |true=>
  simp only[if_true]at h2;cases hop:b.op<;>simp only[hop,SOp.entry,Ag]at hb;rename_i mt x k
  have hslots:∀y:SO,(y=x∨y=k)→so E.G s1.fr y=so E.G st.fr y:=fun y hy=>Ej y fun i hi=>hf1 i (by
   simp only[SL.looks,hop,SOp.slots,List.mem_append];rcases hy with rfl|rfl
   ·exact .inl (.inl hi)
   ·exact .inl (.inr hi))
  simp only[hop,A4,SOp.cls,AY,DS,hslots x (.inl rfl),hslots k (.inr rfl),hob1]at h2;cases hx:so E.G st.fr x<;>simp only[hx,reduceCtorEq]at h2;cases hkk:so E.G st.fr k<;>simp only[hkk,reduceCtorEq]at h2;rename_i id kc;cases hobi:st.ob id<;>simp only[hobi,reduceCtorEq]at h2;rename_i mt' kt z ks vs;simp only[Ad,Ac]at h2;obtain⟨⟨rfl,hcf,hlen⟩,h2⟩:=h2;refine⟨St.set {st with ob:=upd st.ob id (.map mt' kt z (Bk kt ks kc) (Bl kt ks vs kc (AX kt z ks vs kc).1))} b.dst (.ent id kc (AX kt z ks vs kc).1), ?_, ?_⟩
  ·rw[Gu,ht];simp[hop,A4,SOp.cls,AY,hx,hkk,hobi,hcf,hlen]
  ·have hfr:∀i∈a.looks,(St.set {st with ob:=upd st.ob id (.map mt' kt z (Bk kt ks kc) (Bl kt ks vs kc (AX kt z ks vs kc).1))} b.dst (.ent id kc (AX kt z ks vs kc).1)).fr i=st.fr i:=by
    intro i hi
    cases hbd:b.dst with
    |none=>rfl
    |some j=>exact A0 _ _ (fun e=>hba j hbd (e▸hi))
   have hob:(St.set {st with ob:=upd st.ob id (.map mt' kt z (Bk kt ks kc) (Bl kt ks vs kc (AX kt z ks vs kc).1))} b.dst (.ent id kc (AX kt z ks vs kc).1)).ob=upd st.ob id (.map mt' kt z (Bk kt ks kc) (Bl kt ks vs kc (AX kt z ks vs kc).1)):=by
    cases b.dst<;>rfl
   have hrd:∀i,A2 (some (hid a.op D)) (upd st.ob id (.map mt' kt z (Bk kt ks kc) (Bl kt ks vs kc (AX kt z ks vs kc).1))) i=A2 (some (hid a.op D)) st.ob i∨(A2 (some (hid a.op D)) st.ob i=.map mt' kt z ks vs∧A2 (some (hid a.op D)) (upd st.ob id (.map mt' kt z (Bk kt ks kc) (Bl kt ks vs kc (AX kt z ks vs kc).1))) i=.map mt' kt z (Bk kt ks kc) (Bl kt ks vs kc (AX kt z ks vs kc).1)):=by
    intro i;simp only[A2,BK];by_cases hi:(hid a.op D).contains i=true
    ·simp only[hi,if_true];exact .inl trivial
    ·by_cases e:i=id
     ·subst e;rw[if_neg hi,if_neg hi,if_pos rfl];exact .inr ⟨hobi,rfl⟩
     ·rw[if_neg hi,if_neg hi,if_neg e];exact .inl rfl
   have e1':Ci E a st.fr (A2 (some (hid a.op D)) (upd st.ob id (.map mt' kt z (Bk kt ks kc) (Bl kt ks vs kc (AX kt z ks vs kc).1))))=some (v,none):=by
    rw[←e1];unfold Ci;simp only[UK hlen hrd ha]
   rw[Cj hah,hob,FW hfr,e1'];simp only[Option.bind_some,put,←h2,←h1]
   congr 1
   cases hbd:b.dst<;>cases had:a.dst<;>try rfl
   simp only[St.set,EW _ _ _ (dcomm _ _ hbd had)]
end
section
variable {E:Env}
theorem St.set_comm(st:St):∀(x y:Option Nat) (u v:SV),(∀i j,x=some i→y=some j→i≠j)→(st.set x u).set y v=(st.set y v).set x u:=by
 intro x y u v hxy;cases x<;>cases y<;>try rfl
 simp only[St.set,EW _ _ _ (hxy _ _ rfl rfl)]
theorem Zi{d d':Option Nat}{ρ ρ':SO→SV}{st st' s:St}{n:Nat}{x y:SO}(hx:ρ x=ρ' x)(hy:ρ y=ρ' y)(hob:st.ob=st'.ob)(h:AY d ρ st (.store n x y)=some s):
  s.fr=st.fr∧AY d' ρ' st' (.store n x y)=some {fr:=st'.fr,ob:=s.ob}:=by
 simp only[AY,hx,hy,hob]at h⊢;generalize deref st'.ob (ρ' x)=q at h⊢;cases q<;>(try(cases h;done))
 ·rename_i cv;cases cv<;>(try cases h;done);rename_i cs
  cases cs with
  |nil=>cases h
  |cons c0 cs=>
   cases cs with
   |cons _ _=>cases c0<;>cases h
   |nil=>
    cases c0<;>(try cases h;done);cases hv:ρ' y<;>simp only[hv]at h⊢ <;>(try cases h;done);rename_i c2;cases c2<;>(try cases h;done);simp only[Ad,Ac]at h⊢;obtain⟨hc,rfl⟩:=h;exact⟨rfl,hc,by rw[hob]⟩
 ·rename_i id o;cases hb:st'.ob id<;>simp only[hb,reduceCtorEq]at h⊢;cases hv:ρ' y<;>simp only[hv,reduceCtorEq]at h⊢;all_goals(repeat' (split at h))<;>(try cases h)<;>simp_all
 ·rename_i id i size o;cases hb:st'.ob id<;>simp only[hb,reduceCtorEq]at h⊢;cases hv:ρ' y<;>simp only[hv,reduceCtorEq]at h⊢;split at h
  ·rename_i hc;rw[Ab]at h;obtain⟨el,h1,h2⟩:=h;split at h2
   ·rename_i hc2;cases h2;simp[hc,h1,hc2]
   ·cases h2
  ·cases h
theorem Zh{a:SL}(ha:a.op.still=true){fr:Nat→SV}{rd rd':Nat→Ob}:Ci E a fr rd=Ci E a fr rd':=by
 have key:∀ρ d,A1 E rd ρ d a.op=A1 E rd' ρ d a.op:=by
  intro ρ d;revert ha;cases a.op<;>simp[SOp.still,A1,SOp.cls,Am]
 unfold Ci;simp only[key]
theorem Z0{D:List Nat}{a b:SL}{st s1 s2:St}(ha:a.op.still=true)(hb:b.op.stores=true)
  (hab:∀i,a.dst=some i→i∉b.looks∧b.dst≠some i) (hba:∀i,b.dst=some i→i∉a.looks) (h1:Aw E (some D) a st=some s1) (h2:Aw E (some D) b s1=some s2):
  ∃s,Aw E (some D) b st=some s∧Aw E (some D) a s=some s2:=by
 have hah:a.op.hard=false:=by
  revert ha;cases a.op<;>simp[SOp.still,SOp.hard]
 have ham:a.op.makes=false:=by
  revert ha;cases a.op<;>simp[SOp.still,SOp.makes]
 rw[Cj hah,Ab]at h1;obtain⟨⟨v,o⟩,e1,h1⟩:=h1
 have ho:o=none:=by
  cases o with
  |none=>rfl
  |some o=>have:=HR e1 rfl;rw[ham]at this;cases this
 subst ho;have hf1:∀i∈b.looks,s1.fr i=st.fr i:=fun i hi=>Dh h1 (fun e=>(hab i e).1 hi);simp only[put,Ac]at h1;have hob1:s1.ob=st.ob:=by subst h1;cases a.dst<;>rfl
 rw[Gu,Nl hf1,Ab]at h2;obtain⟨t,ht,h2⟩:=h2;have dcomm:∀i j,b.dst=some i→a.dst=some j→i≠j:=fun i j hi hj e=>(hab j hj).2 (by rw[hi,e])
 cases t with
 |false=>
  simp only[Ag,if_false,Ac]at h2;refine⟨st.set b.dst Bn,by rw[Gu,ht];rfl, ?_⟩;have g1:put st b.dst (Bn,none)=some (st.set b.dst Bn):=rfl;have hm:(st.set b.dst Bn).ob=st.ob:=by cases b.dst<;>rfl
  rw[Cj hah,hm,FW (fr':=st.fr) (fun i hi=>Dh g1 (fun e=>hba i e hi)),e1];simp only[Option.bind_some,put,←h2,←h1,St.set_comm st _ _ _ _ dcomm]
 |true=>
  simp only[if_true]at h2;cases hop:b.op<;>simp only[hop,SOp.stores,Ag]at hb;rename_i n x y
  have hslots:∀z:SO,(z=x∨z=y)→so E.G s1.fr z=so E.G st.fr z:=fun z hz=>Ej z fun i hi=>hf1 i (by
   simp only[SL.looks,hop,SOp.slots,List.mem_append];rcases hz with rfl|rfl
   ·exact .inl (.inl hi)
   ·exact .inl (.inr hi))
  simp only[hop,A4,SOp.cls]at h2;obtain⟨k1,k2⟩:=Zi (d':=b.dst) (hslots x (.inl rfl)) (hslots y (.inr rfl)) hob1 h2;refine⟨{fr:=st.fr,ob:=s2.ob},by rw[Gu,ht];simp only[Option.bind_some,if_true,hop,A4,SOp.cls];exact k2, ?_⟩;rw[Cj hah,Zh ha (rd':=A2 (some (hid a.op D)) st.ob),e1];simp only[Option.bind_some,put]
  congr 1
  have:s2={fr:=s1.fr,ob:=s2.ob}:=by rw[←k1]
  rw[this,←h1];cases a.dst<;>rfl
def EZ(st:St)(d:Option Nat)(e size bytes:Nat)(vx vy:SV):Option (Nat×Ob):=
 match Ct st vy with
 |none=>none
 |some news=>
  if(news.all (fun v=>Bq v==size)&&news.all fun v=>v.cells.all Cw)=true then
   match vx with
   | .c (.sl (some true) _)=>
     if news.length*bytes≤140737488355328∧news.length≤4611686018427387904 then
      match d with
      |some d=>some (d,.arr e size news)
      |none=>none
     else none
   | .osl id=>match st.ob id with
     | .arr e' size' es=>
      if e'=e∧size'=size∧(es.length+news.length)*bytes≤140737488355328∧es.length+news.length≤4611686018427387904 then some (id,.arr e size (es++news))else none
     |_=>none
   |_=>none
  else none
def CS(st:St)(d:Option Nat)(p:Nat×Ob):St:=St.set {fr:=fun i=>Au [p.1] (st.fr i),ob:=upd (kill [p.1] st).ob p.1 p.2} d (.osl p.1)
theorem M2{d:Option Nat}{ρ:SO→SV}{st:St}{e size bytes:Nat}{x y:SO}:AY d ρ st (.append e size bytes x y)=(EZ st d e size bytes (ρ x) (ρ y)).map (CS st d):=by
 simp only[AY,EZ]
 cases Ct st (ρ y)with
 |none=>rfl
 |some news=>
  simp only;split
  ·generalize ρ x=q;split
   ·split
    ·cases d<;>rfl
    ·rfl
   ·rename_i id
    cases hq:st.ob id with
    |arr e' size' es=>
     simp only[hq];by_cases hc:e'=e∧size'=size∧(es.length+news.length)*bytes≤140737488355328∧es.length+news.length≤4611686018427387904
     ·rw[if_pos hc,if_pos hc];rfl
     ·rw[if_neg hc,if_neg hc];rfl
    |_=>simp only[hq];rfl
   ·rename_i h1 h2;split
    ·exact(h1 _ rfl).elim
    ·exact(h2 _ rfl).elim
    ·rfl
  ·rfl
theorem XF{st st':St}{v:SV}{news:List CV}(hk:∀i e s es,st.ob i=.arr e s es→st'.ob i=.arr e s es)(h:Ct st v=some news):Ct st' v=some news:=by
 unfold Ct at h⊢;split at h
 ·exact h
 ·split at h
  ·rename_i hq;rw[hk _ _ _ _ hq];exact h
  ·cases h
 ·cases h
theorem M1{st st':St}{d:Option Nat}{e size bytes:Nat}{vx vy:SV}{p:Nat×Ob}(hk:∀i e s es,st.ob i=.arr e s es→st'.ob i=.arr e s es)(h:EZ st d e size bytes vx vy=some p):EZ st' d e size bytes vx vy=some p:=by
 unfold EZ at h⊢
 cases hn:Ct st vy with
 |none=>rw[hn]at h;cases h
 |some news=>
  rw[hn]at h;rw[XF hk hn];simp only at h⊢;split at h
  ·rename_i hc;rw[if_pos hc];split at h
   ·exact h
   ·rename_i id;cases hob:st.ob id<;>simp only[hob,reduceCtorEq]at h;rw[hk _ _ _ _ hob];exact h
   ·cases h
  ·cases h
theorem Uu{st:St}{d:Option Nat}{e size bytes:Nat}{vx vy:SV}{p:Nat×Ob}(h:EZ st d e size bytes vx vy=some p):∃es,p.2=.arr e size es:=by
 unfold EZ at h;split at h
 ·cases h
 ·split at h
  ·split at h
   ·split at h
    ·split at h
     ·cases h;exact⟨_,rfl⟩
     ·cases h
    ·cases h
   ·split at h
    ·split at h
     ·cases h;exact⟨_,rfl⟩
     ·cases h
    ·cases h
   ·cases h
  ·cases h
theorem PX{D:List Nat}{v:SV}{c:CV}(h:closed (Au D v)=some c):closed v=some c:=by
 cases v<;>simp only[Au]at h<;>first
  |exact h
  |(split at h<;>simp[closed]at h)
theorem P8{α β:Type}{f g:α→Option β}:∀{l:List α} {r:List β},(∀x c,f x=some c→g x=some c)→Aq f l=some r→Aq g l=some r
 | [],_,_,h=>h
 |x::l,r,hfg,h=>by
  simp only[Aq,Ab,Aa]at h⊢;obtain⟨c,h1,bs,h2,h3⟩:=h;exact⟨c,hfg x c h1,bs,P8 hfg h2,h3⟩
theorem Z5{D:List Nat}{b:SOp}(ht:b.tame=true){d:Option Nat}{st:St}{id:Nat}{e s:Nat}{es:List CV}{v':SV}{o':Option Ob}(hd:o'.isSome=true→∀j,d=some j→j≠id)(hd':o'.isSome=true→d≠none)
  (h:A1 E (A2 (some D) (upd (kill [id] st).ob id (.arr e s es))) (so E.G fun i=>Au [id] (st.fr i)) d b=some (v',o')):
  ∃v o,A1 E (A2 (some D) st.ob) (so E.G st.fr) d b=some (v,o)∧v'=Au [id] v∧o'=o.map (BZ [id]):=by
 have hso:∀x,so E.G (fun i=>Au [id] (st.fr i)) x=Au [id] (so E.G st.fr x):=by
  intro x
  cases x with
  |t i=>rfl
  |k c=>rfl
  |g i=>simp only[so];cases E.G i<;>rfl
 have hbd:∀{n k:Nat} {o:Option SO},BL n (o.map fun x=>Au [id] (so E.G st.fr x))=some k→BL n (o.map (so E.G st.fr))=some k:=by
  intro n k o hh
  cases o with
  |none=>exact hh
  |some x=>
   simp only[Option.map_some]at hh⊢;generalize so E.G st.fr x=q at hh⊢
   cases q<;>simp only[Au]at hh<;>first
    |exact hh
    |(split at hh<;>cases hh)
 cases b<;>simp only[SOp.tame,Ag]at ht
 case mov x=>
  simp only[A1,SOp.cls,Am,hso,Option.map_some,Ac,Prod.mk.injEq]at h;obtain⟨rfl,rfl⟩:=h;exact⟨so E.G st.fr x,none,by simp[A1,SOp.cls,Am],rfl,rfl⟩
 case slice size x lo hi=>
  simp only[A1,SOp.cls,Am,hso,Aa,Prod.mk.injEq]at h;obtain⟨r,h,rfl,rfl⟩:=h
  have hx:∀nl l,Au [id] (so E.G st.fr x)=.c (.sl nl l)→so E.G st.fr x=.c (.sl nl l):=by
   intro nl l hh;generalize so E.G st.fr x=q at hh⊢
   cases q<;>simp only[Au]at hh<;>first
    |exact hh
    |(split at hh<;>cases hh)
  split at h<;>(try cases h;done);rename_i nl l hq;obtain⟨b1,h1,h⟩:=Ab.1 h;obtain⟨b2,h2,h⟩:=Ab.1 h;have h1':BL l.length (hi.map (so E.G st.fr))=some b1:=hbd (by rw[←funext hso];exact h1);have h2':BL 0 (lo.map (so E.G st.fr))=some b2:=hbd (by rw[←funext hso];exact h2);split at h<;>(try cases h;done);rename_i hc;cases h;refine⟨.c (.sl nl ((l.take b1).drop b2)),none, ?_,rfl,rfl⟩;simp only[A1,SOp.cls,Am,hx _ _ hq,h1',h2',Option.bind_some,if_pos hc,Option.map_some]
 case load sz x=>
  simp only[A1,SOp.cls,Am,hso,Aa,Prod.mk.injEq]at h;obtain⟨r,h,rfl,rfl⟩:=h
  suffices hs:∃v,Bj (A2 (some D) st.ob) sz (deref (A2 (some D) st.ob) (so E.G st.fr x))=some v∧r=Au [id] v by
   obtain⟨v,k1,k2⟩:=hs;exact⟨v,none,by simp[A1,SOp.cls,Am,k1],k2,rfl⟩
  generalize so E.G st.fr x=q0 at h⊢
  have hdr:deref (A2 (some D) (upd (kill [id] st).ob id (.arr e s es))) (Au [id] q0)=.undef∨deref (A2 (some D) (upd (kill [id] st).ob id (.arr e s es))) (Au [id] q0)=Au [id] (deref (A2 (some D) st.ob) q0):=by
   cases q0 with
   |c v=>
    cases v<;>try exact .inr rfl
    rename_i N;simp only[Au,deref];by_cases hN:As≤N
    ·simp only[if_pos hN];by_cases hD:D.contains N=true
     ·simp only[A2,hD,if_true];exact .inl trivial
     ·simp only[A2,hD,Ag,if_false];by_cases hNi:N=id
      ·subst hNi;simp only[AZ];exact .inl trivial
      ·simp only[A0 _ _ hNi,kill,show([id].contains N)=false by simpa using hNi,Ag,if_false];cases hob:st.ob N<;>simp only[BZ,Au,show([id].contains N)=false by simpa using hNi,Ag,if_false]<;>first|exact .inr trivial|exact .inr rfl|exact .inl trivial
    ·simp only[if_neg hN];exact .inl trivial
   |ptr j o=>simp only[Au];split<;>simp_all[deref,Au]
   |eptr j i size o=>simp only[Au];split<;>simp_all[deref,Au]
   |osl j=>simp only[Au];split<;>simp_all[deref,Au]
   |omap j=>simp only[Au];split<;>simp_all[deref,Au]
   |iter j=>simp only[Au];split<;>simp_all[deref,Au]
   |stamp j k=>simp only[Au];split<;>simp_all[deref,Au]
   |ent j k v=>simp only[Au];split<;>simp_all[deref,Au]
   |undef=>exact .inl rfl
  rcases hdr with hdr|hdr
  ·rw[hdr]at h;cases h
  rw[hdr]at h;clear hdr;generalize deref (A2 (some D) st.ob) q0=q at h⊢
  cases q with
  |c v=>
   have h2:Bj (A2 (some D) st.ob) sz (.c v)=some r:=by
    cases v<;>simp only[Au,Bj,reduceCtorEq]at h⊢;all_goals exact h
   refine⟨r,h2, ?_⟩;cases v<;>simp only[Bj,reduceCtorEq]at h2;all_goals(split at h2<;>(rw[Aa]at h2;obtain⟨c,_,rfl⟩:=h2;rfl))
  |ptr j o=>
   simp only[Au]at h;split at h
   ·cases h
   ·rename_i hj;have hj':j≠id:=fun e=>hj (by simp[e]);simp only[Bj,A2,A0 _ _ hj',kill,hj]at h⊢;cases hD:D.contains j<;>simp only[hD,if_true,Ag,if_false,reduceCtorEq]at h⊢;cases hb:st.ob j<;>simp only[hb,BZ,reduceCtorEq]at h⊢;rename_i cs
    cases sz with
    |none=>
     simp only[List.getElem?_map,Aa]at h;obtain⟨v,h1,rfl⟩:=h;exact⟨v,h1,rfl⟩
    |some n=>
     simp only[List.length_map]at h⊢;split at h
     ·rename_i hl;rw[if_pos hl];rw[Aa]at h;obtain⟨l,h1,rfl⟩:=h;refine⟨.c (.agg l), ?_,rfl⟩
      have:∀(l2:List SV) r,Aq closed (l2.map (Au [id]))=some r→Aq closed l2=some r:=by
       intro l2
       induction l2 with
       |nil=>intro r h;exact h
       |cons a l2 ih=>
        intro r h;simp only[List.map_cons,Aq,Ab,Aa]at h⊢;obtain⟨c,k1,bs,k2,k3⟩:=h;exact⟨c,PX k1,bs,ih bs k2,k3⟩
      rw[this _ l (by rw[List.map_take,List.map_drop];exact h1)];rfl
     ·cases h
  |eptr j i size o=>
   simp only[Au]at h;split at h
   ·cases h
   ·rename_i hj;have hj':j≠id:=fun e=>hj (by simp[e]);simp only[Bj,A2,A0 _ _ hj',kill,hj]at h⊢;cases hD:D.contains j<;>simp only[hD,if_true,Ag,if_false,reduceCtorEq]at h⊢;cases hb:st.ob j<;>simp only[hb,BZ,reduceCtorEq]at h⊢;refine⟨r,h, ?_⟩;split at h
    ·rw[Ab]at h;obtain⟨el,_,h⟩:=h;rw[Aa]at h;obtain⟨c,_,rfl⟩:=h;rfl
    ·cases h
  |undef=>cases h
  |_=>simp only[Au]at h;split at h<;>cases h
 case alloc z=>
  simp only[A1,SOp.cls,Bw,Option.map_some,Ac,Prod.mk.injEq]at h;obtain⟨rfl,rfl⟩:=h;refine⟨_,_,rfl, ?_, ?_⟩
  ·cases d with
   |none=>exact(hd' rfl rfl).elim
   |some j=>simp[Au,hd rfl j rfl]
  ·simp[BZ,Au,Function.comp_def]
 case mksl e2 s2 AK=>
  simp only[A1,SOp.cls,Bw,hso,Aa,Ab,Prod.mk.injEq]at h;obtain⟨⟨q1,q2⟩,⟨l,h1,h2⟩,rfl,rfl⟩:=h;split at h2
  ·rename_i hc;cases h2;have h1':=P8 (g:=fun x=>closed (so E.G st.fr x)) (fun x c=>PX) h1;refine⟨.osl (d.getD 0),some (.arr e2 s2 l), ?_, ?_,rfl⟩
   ·simp only[A1,SOp.cls,Bw,h1',Option.bind_some,if_pos hc,Option.map_some]
   ·cases d with
    |none=>exact(hd' rfl rfl).elim
    |some j=>simp[Au,hd rfl j rfl]
  ·cases h2
theorem Zv{D:List Nat}{a b:SL}{st s1 s2:St}(ha:a.op.grows=true)(hga:a.guard=none)(hb:b.op.tame=true)(hgb:b.guard=none)
  (hab:∀i,a.dst=some i→i∉b.looks∧b.dst≠some i) (hba:∀i,b.dst=some i→i∉a.looks) (h1:Aw E (some D) a st=some s1) (h2:Aw E (some D) b s1=some s2):
  ∃s,Aw E (some D) b st=some s∧Aw E (some D) a s=some s2:=by
 have hbh:b.op.hard=false:=by
  revert hb;cases b.op<;>simp[SOp.tame,SOp.hard]
 cases hop:a.op<;>simp only[hop,SOp.grows,Ag]at ha;rename_i e size bytes x y
 have eva:∀s,Aw E (some D) a s=(EZ s a.dst e size bytes (so E.G s.fr x) (so E.G s.fr y)).map (CS s a.dst):=by
  intro s;simp only[Aw,hga,hop,A4,SOp.cls];exact M2
 rw[eva,Aa]at h1;obtain⟨⟨id,oa⟩,p1,rfl⟩:=h1;obtain⟨es,he⟩:=Uu p1;simp only at he;subst he;rw[Cj hbh,Ab]at h2;obtain⟨⟨v',o'⟩,e2,h2⟩:=h2
 have hfr:∀i∈b.looks,(CS st a.dst (id,.arr e size es)).fr i=Au [id] (st.fr i):=by
  intro i hi;unfold CS
  cases hd:a.dst with
  |none=>rfl
  |some j=>exact A0 _ _ (fun h=>(hab j hd).1 (h▸hi))
 have hob:(CS st a.dst (id,.arr e size es)).ob=upd (kill [id] st).ob id (.arr e size es):=by
  unfold CS;cases a.dst<;>rfl
 rw[FW hfr,hob]at e2
 have e2':A1 E (A2 (some (hid b.op D)) (upd (kill [id] st).ob id (.arr e size es))) (so E.G fun i=>Au [id] (st.fr i)) b.dst b.op=some (v',o'):=by
  simpa only[Ci,hgb]using e2
 have hnew:∀o,o'=some o→∃j,b.dst=some j∧j≠id∧st.ob j=.none:=by
  intro o ho;subst ho;simp only[put,By]at h2
  cases hbd:b.dst with
  |none=>rw[hbd]at h2;cases h2
  |some j=>
   rw[hbd]at h2;simp only[hob]at h2;split at h2<;>(try cases h2;done);rename_i hn
   have hj:j≠id:=by
    intro hh;rw[hh,AZ]at hn;cases hn
   refine⟨j,rfl,hj, ?_⟩;rw[A0 _ _ hj]at hn;simp only[kill]at hn;rw[if_neg (by simpa using hj)]at hn;cases hq:st.ob j<;>simp only[hq,BZ,reduceCtorEq]at hn;rfl
 obtain⟨v,o,k1,k2,k3⟩:=Z5 hb (fun hs j hj=>by
   obtain⟨o,ho⟩:=Option.isSome_iff_exists.1 hs;obtain⟨j',h3,h4,_⟩:=hnew o ho;rw[hj]at h3;cases h3
   exact h4) (fun hs hn=>by
   obtain⟨o,ho⟩:=Option.isSome_iff_exists.1 hs;obtain⟨j',h3,_⟩:=hnew o ho;rw[hn]at h3
   cases h3) e2'
 have evb:Aw E (some D) b st=put st b.dst (v,o):=by
  rw[Cj hbh];simp only[Ci,hgb,k1,Option.bind_some]
 have dcomm:∀i j,a.dst=some i→b.dst=some j→i≠j:=fun i j hi hj h=>(hab i hi).2 (by rw[hj,h])
 have hslots:∀(s:St),put st b.dst (v,o)=some s→∀z:SO,(z=x∨z=y)→so E.G s.fr z=so E.G st.fr z:=fun s hs z hz=>Ej z fun i hi=>Dh hs (fun h=>hba i h (by
  simp only[SL.looks,hop,SOp.slots,List.mem_append];rcases hz with rfl|rfl
  ·exact .inl (.inl hi)
  ·exact .inl (.inr hi)))
 subst k2;subst k3;rw[evb]
 cases o with
 |none=>
  have hs:put st b.dst (v,none)=some (st.set b.dst v):=rfl;refine⟨st.set b.dst v,hs, ?_⟩;have hobs:(st.set b.dst v).ob=st.ob:=by cases b.dst<;>rfl
  rw[eva,hslots _ hs x (.inl rfl),hslots _ hs y (.inr rfl),M1 (st:=st) (fun i e s es h=>by rw[hobs];exact h) p1];simp only[Option.map_some,Ac];simp only[put,Option.map_none,Ac]at h2;rw[←h2];unfold CS;rw[St.set_comm _ _ _ _ _ dcomm]
  congr 1
  cases hbd:b.dst with
  |none=>rfl
  |some j=>
   simp only[St.set,kill]
   congr 1
   funext i;simp only[BK];split<;>rfl
 |some ob=>
  obtain⟨j,hj1,hj2,hj3⟩:=hnew (BZ [id] ob) rfl;have hs:put st b.dst (v,some ob)=some {fr:=upd st.fr j v,ob:=upd st.ob j ob}:=by simp[put,By,hj1,hj3]
  refine⟨_,hs, ?_⟩
  rw[eva,hslots _ hs x (.inl rfl),hslots _ hs y (.inr rfl),M1 (st:=st) (fun i e s es h=>by
   simp only;rw[A0 _ _ (fun hh=>by rw[hh,hj3]at h;cases h)]
   exact h) p1]
  simp only[Option.map_some,Ac]
  have hn1:(CS st a.dst (id,.arr e size es)).ob j=.none:=by
   rw[hob,A0 _ _ hj2];simp only[kill];rw[if_neg (by simpa using hj2),hj3];rfl
  simp only[put,By,Option.map_some,hj1,hn1,Ac]at h2;rw[←h2,hob]
  have hobs:upd (kill [id] {fr:=upd st.fr j v,ob:=upd st.ob j ob:St}).ob id (.arr e size es)=upd (upd (kill [id] st).ob id (.arr e size es)) j (BZ [id] ob):=by
   funext i;simp only[BK,kill];by_cases c1:i=id
   ·subst c1;simp[Ne.symm hj2]
   ·by_cases c2:i=j
    ·subst c2;simp[c1]
    ·simp[c1,c2]
  have hfrs:(fun i=>Au [id] (upd st.fr j v i))=upd (fun i=>Au [id] (st.fr i)) j (Au [id] v):=by
   funext i;simp only[BK];split<;>rfl
  unfold CS;simp only[hobs,hfrs]
  cases had:a.dst with
  |none=>rfl
  |some i=>
   simp only[St.set];rw[EW _ _ _ (Ne.symm (dcomm i j had hj1))]
theorem Zw{D:List Nat}{a b:SL}{st s1 s2:St}(ha:a.op.moves=true)(hga:a.guard=none)(hb:b.op.grows=true)(hgb:b.guard=none)
  (hab:∀i,a.dst=some i→i∉b.looks∧b.dst≠some i) (hba:∀i,b.dst=some i→i∉a.looks) (h1:Aw E (some D) a st=some s1) (h2:Aw E (some D) b s1=some s2):
  ∃s,Aw E (some D) b st=some s∧Aw E (some D) a s=some s2:=by
 cases hoa:a.op<;>simp only[hoa,SOp.moves,Ag]at ha;rename_i q;cases hob:b.op<;>simp only[hob,SOp.grows,Ag]at hb;rename_i e size bytes x y
 have eva:∀s,Aw E (some D) a s=some (s.set a.dst (so E.G s.fr q)):=by
  intro s;simp only[Aw,hga,hoa,A4,SOp.cls,Am,Option.map_some,DS]
 have evb:∀s,Aw E (some D) b s=(EZ s b.dst e size bytes (so E.G s.fr x) (so E.G s.fr y)).map (CS s b.dst):=by
  intro s;simp only[Aw,hgb,hob,A4,SOp.cls];exact M2
 rw[eva,Ac]at h1;subst h1;rw[evb,Aa]at h2;obtain⟨⟨id,oa⟩,p1,rfl⟩:=h2;have hobs:(st.set a.dst (so E.G st.fr q)).ob=st.ob:=by cases a.dst<;>rfl
 have hslots:∀z:SO,(z=x∨z=y)→so E.G (st.set a.dst (so E.G st.fr q)).fr z=so E.G st.fr z:=fun z hz=>Ej z fun i hi=>by
  cases hd:a.dst with
  |none=>rfl
  |some j=>exact A0 _ _ fun h=>(hab j hd).1 (h▸(by
    simp only[SL.looks,hob,SOp.slots,List.mem_append];rcases hz with rfl|rfl
    ·exact .inl (.inl hi)
    ·exact .inl (.inr hi)))
 rw[hslots x (.inl rfl),hslots y (.inr rfl)]at p1;have p2:=M1 (st':=st) (fun i e s es h=>by rw[hobs]at h;exact h) p1;have dcomm:∀i j,a.dst=some i→b.dst=some j→i≠j:=fun i j hi hj h=>(hab i hi).2 (by rw[hj,h]);refine⟨_,by rw[evb,p2];rfl, ?_⟩;rw[eva]
 congr 1
 have hq:so E.G (CS st b.dst (id,oa)).fr q=Au [id] (so E.G st.fr q):=by
  cases q with
  |t i=>
   show(CS st b.dst (id,oa)).fr i=Au [id] (st.fr i);unfold CS
   cases hd:b.dst with
   |none=>rfl
   |some j=>exact A0 _ _ fun h=>hba j hd (h▸by simp[SL.looks,hoa,SOp.slots,SO.slot])
  |k v=>rfl
  |g i=>
   show so E.G _ (.g i)=Au [id] (so E.G st.fr (.g i));simp only[so];split<;>rfl
 rw[hq];unfold CS;rw[St.set_comm _ _ _ _ _ fun i j hi hj=>Ne.symm (dcomm j i hj hi)]
 congr 1
 cases had:a.dst with
 |none=>rfl
 |some i=>
  simp only[St.set,kill]
  congr 1
  funext j;simp only[BK];split<;>rfl
theorem Xx{rd rd':Nat→Ob}(h:∀i,rd i=rd' i∨((∀cs bt,rd i≠ .box cs bt)∧(∀e s es,rd i≠ .arr e s es)∧(∀cs bt,rd' i≠ .box cs bt)∧(∀e s es,rd' i≠ .arr e s es)))(sz:Option Nat)(v:SV):Bj rd sz (deref rd v)=Bj rd' sz (deref rd' v):=by
 have hd:deref rd v=deref rd' v:=by
  unfold deref;split
  ·rename_i N;split
   ·rcases h N with e|⟨h1,_,h3,_⟩
    ·rw[e]
    ·cases e1:rd N<;>cases e2:rd' N<;>first
      |rfl
      |exact absurd e1 (h1 _ _)
      |exact absurd e2 (h3 _ _)
   ·rfl
  ·rfl
 rw[hd];generalize deref rd' v=q;unfold Bj
 cases q with
 |c cv=>cases cv<;>rfl
 |ptr id o=>
  simp only;rcases h id with e|⟨h1,_,h3,_⟩
  ·rw[e]
  ·cases e1:rd id<;>cases e2:rd' id<;>first
    |rfl
    |exact absurd e1 (h1 _ _)
    |exact absurd e2 (h3 _ _)
 |eptr id i size o=>
  simp only;rcases h id with e|⟨_,h1,_,h3⟩
  ·rw[e]
  ·cases e1:rd id<;>cases e2:rd' id<;>first
    |rfl
    |exact absurd e1 (h1 _ _ _)
    |exact absurd e2 (h3 _ _ _)
 |_=>rfl
theorem Zy{D:List Nat}{a b:SL}{st s1 s2:St}(ha:a.op.loads=true)(hga:a.guard=none)(hb:b.op.puts=true)(hgb:b.guard=none)
  (hab:∀i,a.dst=some i→i∉b.looks∧b.dst≠some i) (hba:∀i,b.dst=some i→i∉a.looks) (h1:Aw E (some D) a st=some s1) (h2:Aw E (some D) b s1=some s2):
  ∃s,Aw E (some D) b st=some s∧Aw E (some D) a s=some s2:=by
 cases hoa:a.op<;>simp only[hoa,SOp.loads,Ag]at ha;rename_i sz q;cases hob:b.op<;>simp only[hob,SOp.puts,Ag]at hb;rename_i mt x k v
 have eva:∀s,Aw E (some D) a s=(Bj (A2 (some (hid a.op D)) s.ob) sz (deref (A2 (some (hid a.op D)) s.ob) (so E.G s.fr q))).map fun v=>s.set a.dst v:=by
  intro s;simp only[Aw,hga,hoa,A4,SOp.cls,Am,DS,Option.map_some]
 rw[eva,Aa]at h1;obtain⟨lv,hl,rfl⟩:=h1;have hobs:(st.set a.dst lv).ob=st.ob:=by cases a.dst<;>rfl
 have hslots:∀z:SO,(z=x∨z=k∨z=v)→so E.G (st.set a.dst lv).fr z=so E.G st.fr z:=fun z hz=>Ej z fun i hi=>by
  cases hd:a.dst with
  |none=>rfl
  |some j=>exact A0 _ _ fun h=>(hab j hd).1 (h▸(by
    simp only[SL.looks,hob,SOp.slots,List.mem_append];rcases hz with rfl|rfl|rfl
    ·exact .inl (.inl (.inl hi))
    ·exact .inl (.inl (.inr hi))
    ·exact .inl (.inr hi)))
 simp only[Aw,hgb,hob,A4,SOp.cls,AY,DS,hslots x (.inl rfl),hslots k (.inr (.inl rfl)),hslots v (.inr (.inr rfl)),hobs]at h2
 have evb:Aw E (some D) b st=match so E.G st.fr x,so E.G st.fr k,so E.G st.fr v with
  | .omap id,.c k,.c v=>match st.ob id with
   | .map mt' kt z ks vs=>if mt'=mt∧AI kt k=true then some {st with ob:=upd st.ob id (.map mt' kt z (Bk kt ks k) (Bl kt ks vs k v))}else none
   |_=>none
  |_,_,_=>none:=by
  simp only[Aw,hgb,hob,A4,SOp.cls,AY,DS];rfl
 rw[evb];split at h2<;>(try cases h2;done);rename_i id kc vc e1 e2 e3;rw[e1,e2,e3];simp only;split at h2<;>(try cases h2;done);rename_i mt' kt z ks vs e4;rw[e4];simp only;split at h2<;>(try cases h2;done);rename_i hc;cases h2;rw[if_pos hc];refine⟨_,rfl, ?_⟩;rw[eva]
 have hm:∀i,A2 (some (hid a.op D)) st.ob i=A2 (some (hid a.op D)) (upd st.ob id (.map mt' kt z (Bk kt ks kc) (Bl kt ks vs kc vc))) i∨((∀cs bt,A2 (some (hid a.op D)) st.ob i≠ .box cs bt)∧(∀e s es,A2 (some (hid a.op D)) st.ob i≠ .arr e s es)∧(∀cs bt,A2 (some (hid a.op D)) (upd st.ob id (.map mt' kt z (Bk kt ks kc) (Bl kt ks vs kc vc))) i≠ .box cs bt)∧(∀e s es,A2 (some (hid a.op D)) (upd st.ob id (.map mt' kt z (Bk kt ks kc) (Bl kt ks vs kc vc))) i≠ .arr e s es)):=by
  intro i;by_cases hi:i=id
  ·subst hi;right;simp only[A2,AZ,e4];refine⟨fun _ _ h=> ?_,fun _ _ _ h=> ?_,fun _ _ h=> ?_,fun _ _ _ h=> ?_⟩<;>(split at h<;>cases h)
  ·left;simp only[A2,A0 _ _ hi]
 have hq:so E.G ({fr:=st.fr,ob:=upd st.ob id (.map mt' kt z (Bk kt ks kc) (Bl kt ks vs kc vc))}:St).fr q=so E.G st.fr q:=rfl;simp only[←Xx hm,hl,Option.map_some,Ac];cases a.dst<;>rfl
def Hj(ob:Nat→Ob)(e size:Nat)(vx vy:SV):Option (Nat×Ob×Nat):=
 match Ct {fr:=fun _=>.undef,ob:=ob} vy,vx with
 |some news,.osl id=>match ob id with
  | .arr e' size' es=>
   if(e'=e∧size'=size)∧(news.all (fun v=>Bq v==size)&&news.all fun v=>v.cells.all Cw)=true then
    some (id,.arr e size (news.take (min news.length es.length)++es.drop (min news.length es.length)),min news.length es.length)
   else none
  |_=>none
 |_,_=>none
theorem XG{s t:St}(h:s.ob=t.ob)(v:SV):Ct s v=Ct t v:=by
 cases v<;>simp only[Ct,h]
theorem Qi{d:Option Nat}{ρ:SO→SV}{st:St}{e size:Nat}{x y:SO}:AY d ρ st (.cpy e size x y)=(Hj st.ob e size (ρ x) (ρ y)).map fun p=>St.set {st with ob:=upd st.ob p.1 p.2.1} d (.c (.int .i64 (p.2.2:Nat))):=by
 simp only[AY,Hj];rw[XG (s:={fr:=fun _=>.undef,ob:=st.ob}) (t:=st) rfl];generalize Ct st (ρ y)=nw;generalize ρ x=vx
 cases nw with
 |none=>rfl
 |some news=>
  cases vx<;>try rfl
  rename_i id;simp only;cases st.ob id<;>try rfl
  simp only;split<;>rfl
theorem Qh{ob:Nat→Ob}{e size:Nat}{vx vy:SV}{p:Nat×Ob×Nat}(h:Hj ob e size vx vy=some p):(∃es,ob p.1=.arr e size es)∧∃es,p.2.1=.arr e size es:=by
 unfold Hj at h;split at h<;>(try cases h;done);split at h<;>(try cases h;done);rename_i hob;split at h<;>(try cases h;done);rename_i hc;obtain⟨⟨rfl,rfl⟩,_⟩:=hc;cases h;exact⟨⟨_,hob⟩,_,rfl⟩
theorem QZ{E:Env}{D:List Nat}{ob:Nat→Ob}{id:Nat}{e s:Nat}{es es':List CV}(ho:ob id=.arr e s es){ρ:SO→SV}{d:Option Nat}{b:SOp}(hb:b.flat=true):A1 E (A2 (some D) (upd ob id (.arr e s es'))) ρ d b=A1 E (A2 (some D) ob) ρ d b:=by
 have hm:∀j,j≠id→A2 (some D) (upd ob id (.arr e s es')) j=A2 (some D) ob j:=fun j hj=>by
  simp only[A2,A0 _ _ hj]
 cases b<;>simp only[SOp.flat,Ag]at hb
 case mov x=>rfl
 case loadb sz x=>
  simp only[A1,SOp.cls,Am];generalize ρ x=q
  have hd:deref (A2 (some D) (upd ob id (.arr e s es'))) q=deref (A2 (some D) ob) q:=by
   cases q with
   |c v=>
    cases v<;>try rfl
    rename_i N;simp only[deref];by_cases hN:N=id
    ·subst hN;simp only[A2,AZ,ho];cases D.contains N<;>rfl
    ·rw[hm N hN]
   |_=>rfl
  rw[hd];generalize deref (A2 (some D) ob) q=r
  cases r with
  |ptr j o=>
   simp only;by_cases hj:j=id
   ·subst hj;simp only[Bj,A2,AZ,ho];cases D.contains j<;>rfl
   ·simp only[Bj,hm j hj]
  |c v=>cases v<;>rfl
  |_=>rfl
theorem Zs{D:List Nat}{a b:SL}{st s1 s2:St}(ha:a.op.flat=true)(hga:a.guard=none)(hb:b.op.copies=true)(hgb:b.guard=none)
  (hab:∀i,a.dst=some i→i∉b.looks∧b.dst≠some i) (hba:∀i,b.dst=some i→i∉a.looks) (h1:Aw E (some D) a st=some s1) (h2:Aw E (some D) b s1=some s2):
  ∃s,Aw E (some D) b st=some s∧Aw E (some D) a s=some s2:=by
 have hah:a.op.hard=false:=by revert ha;cases a.op<;>simp[SOp.flat,SOp.hard]
 have ham:a.op.makes=false:=by revert ha;cases a.op<;>simp[SOp.flat,SOp.makes]
 have hhid:hid a.op D=D:=Rm (by revert ha;cases a.op<;>simp[SOp.flat,SOp.calls]);cases hop:b.op<;>simp only[hop,SOp.copies,Ag]at hb;rename_i e size x y
 have evb:∀s,Aw E (some D) b s=(Hj s.ob e size (so E.G s.fr x) (so E.G s.fr y)).map fun p=>St.set {s with ob:=upd s.ob p.1 p.2.1} b.dst (.c (.int .i64 (p.2.2:Nat))):=by
  intro s;simp only[Aw,hgb,hop,A4,SOp.cls,Qi];rfl
 rw[Cj hah,Ab]at h1;obtain⟨⟨v,o⟩,e1,h1⟩:=h1
 have ho:o=none:=by
  cases o with
  |none=>rfl
  |some o=>have:=HR e1 rfl;rw[ham]at this;cases this
 subst ho;have hf1:∀i∈b.looks,s1.fr i=st.fr i:=fun i hi=>Dh h1 (fun e=>(hab i e).1 hi);simp only[put,Ac]at h1;have hob1:s1.ob=st.ob:=by subst h1;cases a.dst<;>rfl
 have hslots:∀z:SO,(z=x∨z=y)→so E.G s1.fr z=so E.G st.fr z:=fun z hz=>Ej z fun i hi=>hf1 i (by
  simp only[SL.looks,hop,SOp.slots,List.mem_append];rcases hz with rfl|rfl
  ·exact .inl (.inl hi)
  ·exact .inl (.inr hi))
 rw[evb,hob1,hslots x (.inl rfl),hslots y (.inr rfl),Aa]at h2;obtain⟨p,hp,h2⟩:=h2;obtain⟨⟨es,q1⟩,es',q2⟩:=Qh hp;refine⟨_,by rw[evb,hp];rfl, ?_⟩;have g1:put {st with ob:=upd st.ob p.1 p.2.1} b.dst (.c (.int .i64 (p.2.2:Nat)),none)=some (St.set {st with ob:=upd st.ob p.1 p.2.1} b.dst (.c (.int .i64 (p.2.2:Nat)))):=rfl;have hob2:(St.set {st with ob:=upd st.ob p.1 p.2.1} b.dst (.c (.int .i64 (p.2.2:Nat)))).ob=upd st.ob p.1 p.2.1:=by cases b.dst<;>rfl
 have dcomm:∀i j,b.dst=some i→a.dst=some j→i≠j:=fun i j hi hj e=>(hab j hj).2 (by rw[hi,e])
 have e1':Ci E a st.fr (A2 (some D) (upd st.ob p.1 p.2.1))=some (v,none):=by
  rw[hhid]at e1;simp only[Ci,hga]at e1⊢;rw[q2,QZ q1 ha];exact e1
 rw[Cj hah,hob2,hhid,FW (fr':=st.fr) (fun i hi=>Dh g1 (fun e=>hba i e hi)),e1'];simp only[Option.bind_some,put,←h2,←h1];rw[St.set_comm _ _ _ _ _ dcomm];cases a.dst<;>cases b.dst<;>rfl
theorem Zt{D:List Nat}{a b:SL}{st s1 s2:St}(ha:a.op.copies=true)(hga:a.guard=none)(hb:b.op.flat=true)(hgb:b.guard=none)
  (hab:∀i,a.dst=some i→i∉b.looks∧b.dst≠some i) (hba:∀i,b.dst=some i→i∉a.looks) (h1:Aw E (some D) a st=some s1) (h2:Aw E (some D) b s1=some s2):
  ∃s,Aw E (some D) b st=some s∧Aw E (some D) a s=some s2:=by
 have hbh:b.op.hard=false:=by revert hb;cases b.op<;>simp[SOp.flat,SOp.hard]
 have hbm:b.op.makes=false:=by revert hb;cases b.op<;>simp[SOp.flat,SOp.makes]
 have hhid:hid b.op D=D:=Rm (by revert hb;cases b.op<;>simp[SOp.flat,SOp.calls]);cases hop:a.op<;>simp only[hop,SOp.copies,Ag]at ha;rename_i e size x y
 have eva:∀s,Aw E (some D) a s=(Hj s.ob e size (so E.G s.fr x) (so E.G s.fr y)).map fun p=>St.set {s with ob:=upd s.ob p.1 p.2.1} a.dst (.c (.int .i64 (p.2.2:Nat))):=by
  intro s;simp only[Aw,hga,hop,A4,SOp.cls,Qi];rfl
 rw[eva,Aa]at h1;obtain⟨p,hp,h1⟩:=h1;obtain⟨⟨es,q1⟩,es',q2⟩:=Qh hp;have g1:put {st with ob:=upd st.ob p.1 p.2.1} a.dst (.c (.int .i64 (p.2.2:Nat)),none)=some s1:=by rw[←h1];rfl
 have hob1:s1.ob=upd st.ob p.1 p.2.1:=by rw[←h1];cases a.dst<;>rfl
 rw[Cj hbh,hob1,hhid,FW (fr':=st.fr) (fun i hi=>Dh g1 (fun e=>(hab i e).1 hi)),Ab]at h2;obtain⟨⟨v,o⟩,e2,h2⟩:=h2
 have e2':Ci E b st.fr (A2 (some D) st.ob)=some (v,o):=by
  simp only[Ci,hgb]at e2⊢;rw[q2,QZ q1 hb]at e2;exact e2
 have ho:o=none:=by
  cases o with
  |none=>rfl
  |some o=>have:=HR e2' rfl;rw[hbm]at this;cases this
 subst ho;have dcomm:∀i j,a.dst=some i→b.dst=some j→i≠j:=fun i j hi hj h=>(hab i hi).2 (by rw[hj,h])
 have evb:Aw E (some D) b st=some (st.set b.dst v):=by
  rw[Cj hbh,hhid,e2'];rfl
 refine⟨_,evb, ?_⟩;have hs:put st b.dst (v,none)=some (st.set b.dst v):=rfl;have hobs:(st.set b.dst v).ob=st.ob:=by cases b.dst<;>rfl
 have hslots:∀z:SO,(z=x∨z=y)→so E.G (st.set b.dst v).fr z=so E.G st.fr z:=fun z hz=>Ej z fun i hi=>Dh hs (fun h=>hba i h (by
  simp only[SL.looks,hop,SOp.slots,List.mem_append];rcases hz with rfl|rfl
  ·exact .inl (.inl hi)
  ·exact .inl (.inr hi)))
 rw[eva,hobs,hslots x (.inl rfl),hslots y (.inr rfl),hp];simp only[put,Ac]at h2;simp only[Option.map_some,Ac];have e3:({fr:=(st.set b.dst v).fr,ob:=upd st.ob p.1 p.2.1}:St)=({fr:=st.fr,ob:=upd st.ob p.1 p.2.1}:St).set b.dst v:=by cases b.dst<;>rfl
 rw[←h2,←h1,e3];exact St.set_comm _ _ _ _ _ (fun i j hi hj=>(dcomm j i hj hi).symm)
end
def SL.own(A:List Nat)(l:SL):Option Nat:=
 match l.op,l.guard with
 | .store _ (.t a) _,none=>if A.contains a then some a else none
 |_,_=>none
def FJ(ls:List SL):List Nat:=
 (ls.filterMap fun l=>match l.op,l.guard,l.dst with| .alloc _,none,some d=>some d|_,_,_=>none).filter fun d=>(ls.filter fun l=>l.dst==some d).length==1
def NR(m:List Nat)(l:SL):List Nat:=
 match l.op,l.guard,l.dst with
 | .alloc _,none,some d=>d::m
 |_,_,some d=>m.filter fun i=>i !=d
 |_,_,none=>m
def HB(A:List Nat):List Nat→List SL→Bool
 |_,[]=>true
 |m,l::ls=>(match l.own A with|some a=>m.contains a|none=>true)&&HB A (NR m l) ls
def CG(A D:List Nat)(x y:SL):Bool:=
 FE D x y||((x.dst.all fun d=> !y.looks.contains d&&y.dst !=some d)&&(y.dst.all fun d=> !x.looks.contains d)&&
  match x.own A,y.own A with
  |some a,some b=>a !=b
  |some a,none=> !y.op.hard&&(hid y.op D).contains a
  |none,some b=> !x.op.hard&&(hid x.op D).contains b
  |none,none=>false)
def okS(A:List Nat)(l:SL)(st:St):Bool:=
 match l.own A with
 |some a=>match st.fr a with
  | .ptr j _=>j==a
  |_=>false
 |none=>true
section
variable {E:Env} {A D:List Nat}
def evT(E:Env)(A D:List Nat)(l:SL)(st:St):Option St:=if okS A l st=true then Aw E (some D) l st else none
theorem FD{l:SL}{st s:St}(h:evT E A D l st=some s):okS A l st=true∧Aw E (some D) l st=some s:=by
 unfold evT at h;split at h
 ·rename_i h1;exact⟨h1,h⟩
 ·cases h
theorem EI{l:SL}{st s:St}(h1:okS A l st=true)(h2:Aw E (some D) l st=some s):evT E A D l st=some s:=by
 unfold evT;rw[if_pos h1,h2]
theorem FP{l:SL}{a:Nat}(h:l.own A=some a):∃n x,l.op=.store n (.t a) x∧l.guard=none:=by
 unfold SL.own at h;split at h
 ·rename_i n a' x h1 h2;split at h
  ·cases h;exact⟨n,x,h1,h2⟩
  ·cases h
 ·cases h
theorem Oe{l:SL}{a:Nat}(h:l.own A=some a):a∈l.looks:=by
 obtain⟨n,x,h1,h2⟩:=FP h;simp[SL.looks,h1,SOp.slots,SO.slot]
theorem Ly{l:SL}(h:l.op.hard=false):l.own A=none:=by
 cases hl:l.own A with
 |none=>rfl
 |some a=>
  obtain⟨n,x,h1,h2⟩:=FP hl;rw[h1]at h;cases h
theorem XR{l:SL}{st st':St}(h:∀a,l.own A=some a→st'.fr a=st.fr a)(ho:okS A l st=true):okS A l st'=true:=by
 unfold okS at ho⊢
 cases hl:l.own A with
 |none=>rfl
 |some a=>
  rw[hl]at ho;simp only[h a hl]at ho⊢;exact ho
theorem OC{l:SL}{st s:St}(hs:l.op.hard=false)(h:Aw E (some D) l st=some s){i:Nat}(hi:l.dst≠some i):s.fr i=st.fr i:=by
 rw[Cj hs,Ab]at h;obtain⟨p,_,h⟩:=h;exact Dh h hi
def DO(n o:Nat)(ob:Ob)(v:SV):Option Ob:=
 match ob with
 | .box cs bt=>match v with
  | .c (.agg l)=>if l.length=n∧o+n≤cs.length∧l.all Cw=true then some (.box (Fq cs o (l.map .c)) bt)else none
  |v=>if n=1∧o<cs.length∧GB v=true then some (.box (cs.set o v) bt)else none
 |_=>none
theorem Zf{n o:Nat}{ob ob':Ob}{v:SV}(h:DO n o ob v=some ob'):ob≠ .none∧ob'≠ .none:=by
 unfold DO at h;split at h
 ·refine⟨by simp, ?_⟩
  split at h<;>split at h<;>first
   |cases h;done
   |(cases h;simp)
 ·cases h
theorem Lv{l:SL}{a:Nat}(h:l.own A=some a):∃n x,(∀i∈x.slot,i∈l.looks)∧∀(st s:St),evT E A D l st=some s↔∃o b,st.fr a=.ptr a o∧DO n o (st.ob a) (so E.G st.fr x)=some b∧s={st with ob:=upd st.ob a b}:=by
 obtain⟨n,x,h1,h2⟩:=FP h;refine⟨n,x,fun i hi=>by simp[SL.looks,h1,SOp.slots,hi],fun st s=> ?_⟩
 have hev:∀o,st.fr a=.ptr a o→Aw E (some D) l st=(DO n o (st.ob a) (so E.G st.fr x)).map fun b=>{st with ob:=upd st.ob a b}:=by
  intro o ho;simp only[Aw,h2,h1,A4,SOp.cls,AY,DS];rw[show so E.G st.fr (.t a)=.ptr a o from ho];simp only[DO,deref];cases hb:st.ob a<;>simp only[hb]<;>try rfl
  generalize so E.G st.fr x=v
  cases v with
  |c cv=>cases cv<;>(simp only;split<;>rfl)
  |_=>simp only;split<;>rfl
 constructor
 ·intro h3;obtain⟨h4,h5⟩:=FD h3;unfold okS at h4;rw[h]at h4;simp only at h4;split at h4
  ·rename_i j o hj;have hja:j=a:=by simpa using h4
   subst hja;rw[hev o hj,Aa]at h5;obtain⟨b,h6,h7⟩:=h5;exact⟨o,b,hj,h6,h7.symm⟩
  ·cases h4
 ·rintro⟨o,b,h3,h4,rfl⟩
  refine EI ?_ ?_
  ·unfold okS;rw[h];simp[h3]
  ·rw[hev o h3,h4];rfl
theorem RG{L:List Nat}{ob:Nat→Ob}{a:Nat}{b:Ob}(h:L.contains a=true):A2 (some L) (upd ob a b)=A2 (some L) ob:=by
 funext i;simp only[A2,BK];split
 ·rfl
 ·rename_i hi;split
  ·rename_i e;subst e;exact(hi h).elim
  ·rfl
theorem S3{st s:St}{d:Option Nat}{p:SV×Option Ob}(h:put st d p=some s){a:Nat}(ha:d≠some a):s.ob a=st.ob a:=by
 obtain⟨v,o⟩:=p
 cases o with
 |none=>
  simp only[put,Ac]at h;subst h;cases d<;>rfl
 |some o=>
  simp only[put,By]at h
  cases d with
  |none=>cases h
  |some d=>
   simp only at h;split at h<;>(try cases h;done);cases h;exact A0 _ _ (fun e=>ha (by rw[e]))
theorem S4{st s:St}{d:Option Nat}{p:SV×Option Ob}{a:Nat}{b:Ob}(hd:d≠some a):put st d p=some s→put {st with ob:=upd st.ob a b} d p=some {s with ob:=upd s.ob a b}:=by
 intro h;obtain⟨v,o⟩:=p
 cases o with
 |none=>
  simp only[put,Ac]at h⊢;subst h;cases d<;>rfl
 |some o=>
  simp only[put,By]at h⊢
  cases d with
  |none=>cases h
  |some j=>
   have hj:j≠a:=fun e=>hd (by rw[e]);simp only at h;split at h<;>(try cases h;done);rename_i hn;cases h;simp only[A0 _ _ hj,hn,Ac,St.mk.injEq,true_and];exact EW _ _ _ (Ne.symm hj)
theorem Yq{st s:St}{d:Option Nat}{p:SV×Option Ob}{a:Nat}{b:Ob}(ha:st.ob a≠ .none)(h:put {st with ob:=upd st.ob a b} d p=some s)(hd:d≠some a):∃s',put st d p=some s':=by
 obtain⟨v,o⟩:=p
 cases o with
 |none=>exact⟨_,rfl⟩
 |some o=>
  simp only[put,By]at h⊢
  cases d with
  |none=>cases h
  |some j=>
   have hj:j≠a:=fun e=>hd (by rw[e]);simp only[A0 _ _ hj]at h;simp only;split at h<;>(try cases h;done);rename_i hn;exact⟨{fr:=upd st.fr j v,ob:=upd st.ob j o},by simp[hn]⟩
theorem Zx{a b:SL}{st s1 s2:St}
  (hab:∀i,a.dst=some i→i∉b.looks∧b.dst≠some i) (hba:∀i,b.dst=some i→i∉a.looks)
  (ho:(match a.own A,b.own A with
  |some a,some b=>a !=b
  |some k,none=> !b.op.hard&&(hid b.op D).contains k
  |none,some k=> !a.op.hard&&(hid a.op D).contains k
  |none,none=>false)=true) (h1:evT E A D a st=some s1) (h2:evT E A D b s1=some s2):∃s,evT E A D b st=some s∧evT E A D a s=some s2:=by
 cases hoa:a.own A with
 |some k=>
  cases hob:b.own A with
  |some k'=>
   rw[hoa,hob]at ho;have hk:k≠k':=by simpa using ho
   obtain⟨n,x,hx,ea⟩:=Lv (E:=E) (D:=D) hoa;obtain⟨n',x',hx',eb⟩:=Lv (E:=E) (D:=D) hob;rw[ea]at h1;obtain⟨o,c,q1,q2,rfl⟩:=h1;rw[eb]at h2;obtain⟨o',c',q3,q4,rfl⟩:=h2;simp only[A0 _ _ (Ne.symm hk)]at q4;refine⟨_,(eb _ _).2 ⟨o',c',q3,q4,rfl⟩,(ea _ _).2 ⟨o,c,q1, ?_, ?_⟩⟩
   ·simp only[A0 _ _ hk];exact q2
   ·simp only[St.mk.injEq,true_and];exact EW _ _ _ hk
  |none=>
   rw[hoa,hob]at ho;simp only[Af,Bool.not_eq_true']at ho;obtain⟨hbs,hk⟩:=ho;obtain⟨n,x,hx,ea⟩:=Lv (E:=E) (D:=D) hoa;rw[ea]at h1;obtain⟨o,c,q1,q2,rfl⟩:=h1;obtain⟨_,h2⟩:=FD h2;rw[Cj hbs,Ab]at h2;obtain⟨p,e2,h2⟩:=h2;simp only[RG hk]at e2;have hd:b.dst≠some k:=fun e=>hba k e (Oe hoa);obtain⟨s',h3⟩:=Yq (Zf q2).1 h2 hd;have h4:=S4 (b:=c) hd h3;rw[h4]at h2;cases h2;refine⟨s',EI (by unfold okS;rw[Ly hbs]) (by rw[Cj hbs,e2];exact h3),(ea _ _).2 ⟨o,c, ?_, ?_,rfl⟩⟩
   ·rw[Dh h3 hd];exact q1
   ·rw[S3 h3 hd,Ej x (fr':=st.fr) (fun i hi=>Dh h3 (fun e=>hba i e (hx i hi)))];exact q2
 |none=>
  cases hob:b.own A with
  |none=>rw[hoa,hob]at ho;cases ho
  |some k=>
   rw[hoa,hob]at ho;simp only[Af,Bool.not_eq_true']at ho;obtain⟨has,hk⟩:=ho;obtain⟨n,x,hx,eb⟩:=Lv (E:=E) (D:=D) hob;obtain⟨_,h1⟩:=FD h1;rw[Cj has,Ab]at h1;obtain⟨p,e1,h1⟩:=h1;have hd:a.dst≠some k:=fun e=>(hab k e).1 (Oe hob);rw[eb]at h2;obtain⟨o,c,q1,q2,rfl⟩:=h2;rw[Dh h1 hd]at q1;rw[S3 h1 hd,Ej x (fr':=st.fr) (fun i hi=>Dh h1 (fun e=>(hab i e).1 (hx i hi)))]at q2;refine⟨_,(eb _ _).2 ⟨o,c,q1,q2,rfl⟩,EI (by unfold okS;rw[Ly has]) ?_⟩;rw[Cj has];simp only[RG hk,e1,Option.bind_some];exact S4 hd h1
theorem keep{l:SL}{st s:St}(h:Aw E (some D) l st=some s){i:Nat}(hi:l.dst≠some i):s.fr i=st.fr i∨s.fr i=.undef:=by
 cases hh:l.op.hard with
 |false=>exact .inl (OC hh h hi)
 |true=>
  have hset:∀(st:St) (d:Option Nat) (v:SV),d≠some i→(st.set d v).fr i=st.fr i:=by
   intro st d v hd
   cases d with
   |none=>rfl
   |some d=>exact A0 _ _ (fun e=>hd (by rw[e]))
  have hkill:∀(L:List Nat) (v:SV),Au L v=v∨Au L v=.undef:=by
   intro L v
   cases v<;>simp only[Au]<;>first
    |exact .inl trivial
    |exact .inl rfl
    |(split<;>first|exact .inl rfl|exact .inr rfl)
  rw[Gu,Ab]at h;obtain⟨t,_,h⟩:=h;split at h
  case isFalse=>cases h;exact .inl (hset _ _ _ hi)
  cases hop:l.op<;>simp only[hop,SOp.hard,Ag]at hh<;>simp only[hop,A4,SOp.cls]at h
  case append e size bytes x y=>
   rw[M2,Aa]at h;obtain⟨p,_,rfl⟩:=h;unfold CS;rw[hset _ _ _ hi];exact hkill _ _
  case mcopy f x y=>
   unfold F8 at h
   repeat' split at h
   all_goals first
    |(cases h;done)
    |(cases h;exact .inl (hset _ _ _ hi))
  all_goals
   simp only[AY]at h;try(cases h;done)
   repeat' split at h
   all_goals first
    |(cases h;done)
    |(cases h;exact .inl rfl)
    |(cases h;exact .inl (hset _ _ _ hi))
    |skip
  all_goals
   rw[Ab]at h;obtain⟨_,_,h⟩:=h;split at h
   ·cases h;exact .inl rfl
   ·cases h
def lsT(E:Env)(A D:List Nat):List SL→St→Option St
 | [],st=>some st
 |l::ls,st=>(evT E A D l st).bind (lsT E A D ls)
def DM(E:Env)(A D:List Nat)(ls:List SL):List Nat→St→Option St
 | [],st=>some st
 |i::is,st=>match ls[i]? with
  |some l=>(evT E A D l st).bind (DM E A D ls is)
  |none=>none
theorem Of:∀(ls:List SL) (m:List Nat) {st s:St},(∀a∈m,st.fr a=.ptr a 0∨st.fr a=.undef)→HB A m ls=true→BU E (some D) ls st=some s→lsT E A D ls st=some s
 | [],_,_,_,_,_,h=>h
 |l::ls,m,st,s,hm,hk,h=>by
  simp only[BU,Ab]at h;obtain⟨s1,h1,h2⟩:=h;simp only[HB,Af]at hk;obtain⟨k1,k2⟩:=hk
  have hok:okS A l st=true:=by
   unfold okS
   cases hl:l.own A with
   |none=>rfl
   |some a=>
    rw[hl]at k1;simp only[List.contains_iff_mem]at k1;rcases hm a k1 with e|e
    ·simp[e]
    ·exfalso;obtain⟨n,x,g1,g2⟩:=FP hl;simp only[Aw,g2,g1,A4,SOp.cls,AY,DS]at h1;rw[show so E.G st.fr (.t a)=.undef from e]at h1;cases h1
  simp only[lsT,EI hok h1,Option.bind_some];refine Of ls _ ?_ k2 h2
  have hkeep:∀a∈m,l.dst≠some a→s1.fr a=.ptr a 0∨s1.fr a=.undef:=by
   intro a ha hd;rcases keep h1 hd with e|e
   ·rw[e];exact hm a ha
   ·exact .inr e
  intro a ha;unfold NR at ha;split at ha
  ·rename_i z d g1 g2 g3;by_cases had:a=d
   ·subst had;simp only[Aw,g2,g1,A4,SOp.cls,Bw,Option.bind_some,g3,Option.getD_some,By]at h1;split at h1
    ·cases h1;exact .inl (AZ _ _ _)
    ·cases h1
   ·rcases List.mem_cons.1 ha with e|e
    ·exact(had e).elim
    ·exact hkeep a e (fun hh=>had (by rw[g3]at hh;cases hh;rfl))
  ·rename_i d g2 g1;rw[List.mem_filter]at ha;exact hkeep a ha.1 (fun hh=>by rw[g2]at hh;cases hh;simp at ha)
  ·rename_i g1;exact hkeep a ha (fun hh=>by rw[g1]at hh;cases hh)
theorem LT{ls:List SL}:∀(is:List Nat) {st s:St},DM E A D ls is st=some s→Cq E (some D) ls is st=some s
 | [],_,_,h=>h
 |i::is,st,s,h=>by
  simp only[DM,Cq]at h⊢;split at h
  ·rename_i l hl;rw[Ab]at h;obtain⟨s1,h1,h2⟩:=h;simp only[hl,(FD h1).2,Option.bind_some];exact LT is h2
  ·cases h
theorem Lf:∀(ls:List SL) (pre:List SL) (st:St),DM E A D (pre++ls) (List.range' pre.length ls.length) st=lsT E A D ls st
 | [],_,_=>rfl
 |l::ls,pre,st=>by
  have h:=Lf ls (pre++ [l]);simp only[List.length_append,List.length_cons,List.length_nil,List.append_assoc,List.cons_append,List.nil_append]at h;simp only[List.length_cons,List.range'_succ,DM,lsT];rw[show(pre++l::ls)[pre.length]? =some l by simp];simp only
  congr 1
  funext s;exact h s
end
theorem W5{E:Env}{D:List Nat}{a b:SL}{st s1 s2:St}(hf:FE D a b=true)(hDa:a.op.makes=true→∀j,a.dst=some j→D.contains j=true)(hDb:b.op.makes=true→∀j,b.dst=some j→D.contains j=true)
  (h1:Aw E (some D) a st=some s1) (h2:Aw E (some D) b s1=some s2):∃s,Aw E (some D) b st=some s∧Aw E (some D) a s=some s2:=by
 simp only[FE,Af,Aj,Bool.not_eq_true']at hf;obtain⟨⟨g1,g2⟩,g4⟩:=hf
 have hab:∀i,a.dst=some i→i∉b.looks∧b.dst≠some i:=by
  intro i hi;simp only[hi,Option.all_some,Af,Bool.not_eq_true',bne_iff_ne]at g1;exact⟨fun hm=>by have:=g1.1;simp[hm]at this,g1.2⟩
 have hba:∀i,b.dst=some i→i∉a.looks:=by
  intro i hi hm;simp[hi,hm]at g2
 rcases g4 with(⟨g3,(((⟨⟨g4,m1⟩,m2⟩|⟨g4,g5⟩)|⟨g4,g5⟩)|⟨⟨⟨g4,g5⟩,g6⟩,g7⟩)|⟨⟨⟨g4,g5⟩,g6⟩,g7⟩⟩|⟨⟨⟨g3,g5⟩,g4⟩,g6⟩)|⟨⟨⟨g3,g4⟩|⟨g3,g4⟩,g5⟩,g6⟩
 ·exact Zz g3 g4 (fun hm j hj=>by simpa[hm,hj]using m1) (fun hm j hj=>by simpa[hm,hj]using m2) hab hba h1 h2
 ·exact Zu g5 g4 hab hba h1 h2
 ·exact Z0 g5 g4 hab hba h1 h2
 ·exact Zw g6 (by simpa using g7) g4 (by simpa using g5) hab hba h1 h2
 ·exact Zy g6 (by simpa using g7) g4 (by simpa using g5) hab hba h1 h2
 ·exact Zv g3 (by simpa using g5) g4 (by simpa using g6) hab hba h1 h2
 ·exact Zt g3 (by simpa using g5) g4 (by simpa using g6) hab hba h1 h2
 ·exact Zs g4 (by simpa using g5) g3 (by simpa using g6) hab hba h1 h2
def CO(P:Program)(ops:Array Oper)(A D:List Nat)(ls:List SL):Bool:=
 P.follows .mixedOrders&&HB A [] ls&&
 (ops.toList.zipIdx.all fun p=>p.1.after.all fun e=> !(Region.binds .any e)||decide (e.on<p.2))&&
 (ls.all fun l=> !l.op.makes||l.dst.all fun d=>D.contains d)&&
 ((List.range ls.length).all fun j=>(List.range j).all fun i=>((D5 ops ls.length).getD j 0).testBit i||match ls[i]?,ls[j]? with
   |some x,some y=>CG A D x y
   |_,_=>false)
theorem KH{E:Env}{A D:List Nat}{a b:SL}{st s1 s2:St}(hf:CG A D a b=true)(hDa:a.op.makes=true→∀j,a.dst=some j→D.contains j=true)(hDb:b.op.makes=true→∀j,b.dst=some j→D.contains j=true)
  (h1:evT E A D a st=some s1) (h2:evT E A D b s1=some s2):∃s,evT E A D b st=some s∧evT E A D a s=some s2:=by
 simp only[CG,Aj]at hf;rcases hf with hf|hf
 ·obtain⟨k1,e1⟩:=FD h1;obtain⟨k2,e2⟩:=FD h2;obtain⟨s,g1,g2⟩:=W5 hf hDa hDb e1 e2;simp only[FE,Af,Aj,Bool.not_eq_true']at hf;obtain⟨⟨q1,q2⟩,q4⟩:=hf
  have hoa:a.own A=none:=by
   rcases q4 with(⟨q3,_⟩|⟨⟨⟨q3,_⟩,_⟩,_⟩)|⟨⟨⟨q3,_⟩|⟨_,q3⟩,_⟩,_⟩
   ·exact Ly q3
   all_goals
    cases ha:a.own A with
    |none=>rfl
    |some k=>
     obtain⟨n,x,h,_⟩:=FP ha;rw[h]at q3;cases q3
  refine⟨s,EI (XR (fun k hk=> ?_) k2) g1,EI (by unfold okS;rw[hoa]) g2⟩;obtain⟨n,x,h,_⟩:=FP hk
  have hah:a.op.hard=false:=by
   rcases q4 with(⟨q3,_⟩|⟨⟨⟨_,_⟩,q3⟩,_⟩)|⟨⟨⟨_,q3⟩|⟨q3,_⟩,_⟩,_⟩
   ·exact q3
   all_goals
    rw[h]at q3;cases q3
  refine(OC hah e1 fun hd=> ?_).symm;simp only[hd,Option.all_some,Af,Bool.not_eq_true',bne_iff_ne]at q1;have:=q1.1;simp[Oe hk]at this
 ·simp only[Af]at hf;obtain⟨⟨q1,q2⟩,q4⟩:=hf
  have hab:∀i,a.dst=some i→i∉b.looks∧b.dst≠some i:=by
   intro i hi;simp only[hi,Option.all_some,Af,Bool.not_eq_true',bne_iff_ne]at q1;exact⟨fun hm=>by have:=q1.1;simp[hm]at this,q1.2⟩
  have hba:∀i,b.dst=some i→i∉a.looks:=by
   intro i hi hm;simp[hi,hm]at q2
  exact Zx hab hba q4 h1 h2
def left(n:Nat)(L:Array Bool):List Nat:=(List.range n).filter fun i=> !L.getD i true
inductive CB (ops:Array Oper):Array Bool→List Nat→Prop where
 |nil {L:Array Bool}:left ops.size L= []→CB ops L []
 |cons {L:Array Bool} {i:Nat} {is:List Nat}:i<ops.size→L.getD i true=false→(∀o,ops[i]? =some o→∀e∈o.after,Region.binds .any e=true→L.getD e.on false=true)→CB ops (L.setIfInBounds i true) is→CB ops L (i::is)
theorem Ht(L:Array Bool)(i j:Nat)(b:Bool)(hi:L.getD i true=false):(L.setIfInBounds i true).getD j b=if j=i then true else L.getD j b:=by
 have hlt:i<L.size:=by
  rw[Array.getD_eq_getD_getElem?]at hi;by_cases h:i<L.size
  ·exact h
  ·simp[Array.getElem?_eq_none (Nat.le_of_not_lt h)]at hi
 simp only[Array.getD_eq_getD_getElem?,Array.getElem?_setIfInBounds];by_cases h:j=i
 ·subst h;simp[hlt]
 ·have h':¬i=j:=fun e=>h e.symm;simp[h,h']
theorem KX(n:Nat)(L:Array Bool)(i:Nat)(hin:i<n)(hi:L.getD i true=false):∃p q,left n L=p++i::q∧left n (L.setIfInBounds i true)=p++q∧∀j∈p,j<i∧L.getD j true=false:=by
 have hr:List.range n=List.range i++i::List.range' (i+1) (n-i-1):=by
  rw[List.range_eq_range',List.range_eq_range',show n=i+((n-i-1)+1) by omega,←List.range'_append_1,List.range'_succ];simp
 refine⟨(List.range i).filter fun j=> !L.getD j true,(List.range' (i+1) (n-i-1)).filter fun j=> !L.getD j true, ?_, ?_, ?_⟩
 ·simp only[left,hr,List.filter_append,List.filter_cons,hi,Bool.not_false,if_true]
 ·simp only[left,hr,List.filter_append,List.filter_cons,Ht L i _ _ hi,if_true,Bool.not_true,Ag,if_false]
  congr 1
  ·apply List.filter_congr;intro j hj;rw[if_neg (by have:=List.mem_range.1 hj;omega)]
  ·apply List.filter_congr;intro j hj;rw[if_neg (by have:=(List.mem_range'_1.1 hj).1;omega)]
 ·intro j hj;rw[List.mem_filter,List.mem_range]at hj;exact⟨hj.1,by simpa using hj.2⟩
section
variable {P:Program} {E:Env} {n:Nat} {ops:Array Oper} {A D:List Nat} {ls:List SL}
theorem RR{i:Nat}{b:SL}(hb:ls[i]? =some b)(hDb:b.op.makes=true→∀j,b.dst=some j→D.contains j=true)(q:List Nat):∀(p:List Nat) {st st':St},(∀k∈p,∀l,ls[k]? =some l→l.op.makes=true→∀j,l.dst=some j→D.contains j=true)→(∀j∈p,∃a,ls[j]? =some a∧CG A D a b=true)→DM E A D ls (p++i::q) st=some st'→DM E A D ls (i::(p++q)) st=some st'
 | [],_,_,_,_,h=>h
 |j::p,st,st',hD,hf,h=>by
  obtain⟨a,ha,hfr⟩:=hf j (by simp);simp only[List.cons_append,DM,ha,Ab]at h;obtain⟨s1,h1,h2⟩:=h;have h3:=RR hb hDb q p (fun k hk=>hD k (by simp[hk])) (fun j hj=>hf j (by simp[hj])) h2;simp only[DM,hb,Ab]at h3;obtain⟨s2,h3,h4⟩:=h3;obtain⟨s,g1,g2⟩:=KH hfr (hD j (by simp) a ha) hDb h1 h3;simp only[List.cons_append,DM,hb,ha,g1,g2,Option.bind_some,h4]
theorem JM{L:Array Bool}(hdown:∀i o,L.getD i false=true→ops[i]? =some o→∀e∈o.after,Region.binds .any e=true→L.getD e.on false=true):∀(k i j:Nat),(∀o,ops[j]? =some o→∀e∈o.after,Region.binds .any e=true→L.getD e.on false=true)→Fz ops k i j=true→L.getD i false=true
 |0,_,_,_,h=>by cases h
 |k+1,i,j,hj,h=>by
  simp only[Fz]at h;split at h<;>(try cases h;done);rename_i o ho;rw[Array.any_eq_true']at h;obtain⟨e,he,h⟩:=h;simp only[Af,Aj,beq_iff_eq,decide_eq_true_eq]at h;obtain⟨hb,h⟩:=h;have hl:=hj o ho e he hb;rcases h with h|⟨_,h⟩
  ·rw[←h];exact hl
  ·exact JM hdown k i e.on (fun o' ho'=>hdown e.on o' hl ho') h
theorem Nn(hlen:ls.length=ops.size)
  (hfree:∀j<ls.length,∀i<j,Fz ops ls.length i j=true∨∃x y,ls[i]? =some x∧ls[j]? =some y∧CG A D x y=true) {L:Array Bool} {is:List Nat} (hg:CB ops L is):
  (∀i o,L.getD i false=true→ops[i]? =some o→∀e∈o.after,Region.binds .any e=true→L.getD e.on false=true)→L.size=ops.size→(∀k∈left ops.size L,∀l,ls[k]? =some l→l.op.makes=true→∀j,l.dst=some j→D.contains j=true)→∀{st st':St},DM E A D ls (left ops.size L) st=some st'→DM E A D ls is st=some st':=by
 induction hg with
 |nil h=>
  intro _ _ _ st st' hv;rw[h]at hv;exact hv
 | @cons L i is hi hL he hg ih=>
  intro hdown hsz hD st st' hv;obtain⟨p,q,e1,e2,e3⟩:=KX ops.size L i hi hL;have hb:ls[i]? =some (ls[i]'(by omega)):=Ai _;rw[e1]at hv hD
  have hv':=RR hb (hD i (by simp) _ hb) q p (fun k hk=>hD k (by simp[hk])) (fun j hj=>by
   obtain⟨hji,hjL⟩:=e3 j hj;rcases hfree i (by omega) j hji with ha|⟨x,y,hx,hy,hf⟩
   ·have:=JM hdown _ j i he ha;have hjs:j<L.size:=by omega
    simp[Array.getD_eq_getD_getElem?,Array.getElem?_eq_getElem hjs]at this hjL;rw[this]at hjL;cases hjL
   ·rw[hb]at hy;cases hy
    exact⟨x,hx,hf⟩) hv
  simp only[DM,hb,Ab]at hv'⊢;obtain⟨s,h1,h2⟩:=hv';refine⟨s,h1,ih ?_ (by simp[hsz]) (by rw[e2];intro k hk;exact hD k (by rcases List.mem_append.1 hk with hk|hk<;>simp[hk])) (by rw[e2];exact h2)⟩;intro k o hk ho e hem heb;rw[Ht L i _ _ hL]at hk⊢;split
  ·rfl
  ·split at hk
   ·rename_i e';subst e';exact he o ho e hem heb
   ·exact hdown k o hk ho e hem heb
theorem Yw{L:Array Bool}(hback:∀i o,ops[i]? =some o→∀e∈o.after,Region.binds .any e=true→e.on<i)(hsz:L.size=ops.size)(h:left ops.size L≠ []):Region.ready .any ops L≠ []:=by
 cases hl:left ops.size L with
 |nil=>exact(h hl).elim
 |cons i q=>
  have hmem:i∈left ops.size L:=by rw[hl];simp
  have hmem':=hmem;simp only[left,List.mem_filter,List.mem_range]at hmem';obtain⟨hi,hiL⟩:=hmem';have hiL:L.getD i true=false:=by simpa using hiL
  obtain⟨p,q',e1,_,e3⟩:=KX ops.size L i hi hiL
  have hp:p= []:=by
   cases p with
   |nil=>rfl
   |cons j p=>
    rw[hl]at e1;simp only[List.cons_append,List.cons.injEq]at e1;have:=(e3 j (by simp)).1;omega
  subst hp
  have hmin:∀j,j<i→L.getD j false=true:=by
   intro j hj;have hjs:j<L.size:=by omega
   cases hv:L.getD j false with
   |true=>rfl
   |false=>
    exfalso
    have hjm:j∈left ops.size L:=by
     simp only[left,List.mem_filter,List.mem_range];refine⟨by omega, ?_⟩;simp[Array.getD_eq_getD_getElem?,Array.getElem?_eq_getElem hjs]at hv⊢;exact hv
    rw[e1]at hjm;have hsorted:(left ops.size L).Pairwise (· < ·):=List.Pairwise.filter _ List.pairwise_lt_range;rw[e1,List.nil_append,List.pairwise_cons]at hsorted;simp only[List.nil_append,List.mem_cons]at hjm;rcases hjm with hjm|hjm
    ·omega
    ·have:=hsorted.1 j hjm;omega
  intro hr
  have:i∈Region.ready .any ops L:=by
   simp only[Region.ready,List.mem_filter,List.mem_range];refine⟨hi, ?_⟩;have ho:ops[i]? =some (ops[i]'hi):=Array.getElem?_eq_getElem hi;simp only[hiL,Bool.not_false,ho,Option.map_some,Option.getD_some,Bool.true_and,Array.all_eq_true'];intro e he
   cases hb:Region.binds .any e with
   |false=>rfl
   |true=>simp[hmin e.on (hback i _ ho e he hb)]
  rw[hr]at this;cases this
theorem IQ(hback:∀i o,ops[i]? =some o→∀e∈o.after,Region.binds .any e=true→e.on<i):∀(fuel t:Nat) (L:Array Bool),L.size=ops.size→(left ops.size L).length≤fuel→CB ops L (Region.linearise.go .any ops fuel t L [])
 |0,t,L,hsz,hf=>by
  have:left ops.size L= []:=List.eq_nil_of_length_eq_zero (by omega);simpa[Region.linearise.go]using CB.nil this
 |fuel+1,t,L,hsz,hf=>by
  simp only[Region.linearise.go]
  change CB ops L (match (Region.ready .any ops L)[t %(Region.ready .any ops L).length]? with
   |some i=>Region.linearise.go .any ops fuel (t/(Region.ready .any ops L).length) (L.setIfInBounds i true) [i]
   |none=> [].reverse)
  by_cases hl:left ops.size L= []
  ·have hr:Region.ready .any ops L= []:=by
    cases hr:Region.ready .any ops L with
    |nil=>rfl
    |cons j js=>
     exfalso;have hj:j∈Region.ready .any ops L:=by rw[hr];simp
     simp only[Region.ready,List.mem_filter,List.mem_range,Af]at hj
     have:j∈left ops.size L:=by
      simp only[left,List.mem_filter,List.mem_range];exact⟨hj.1,hj.2.1⟩
     rw[hl]at this;cases this
   simpa[hr]using CB.nil hl
  ·have hr:=Yw hback hsz hl;have hlt:t %(Region.ready .any ops L).length<(Region.ready .any ops L).length:=Nat.mod_lt _ (List.length_pos_iff.2 hr);rw[Ai hlt];generalize hi:(Region.ready .any ops L)[t %(Region.ready .any ops L).length]=i;have him:i∈Region.ready .any ops L:=by rw[←hi];exact List.getElem_mem _
   simp only[Region.ready,List.mem_filter,List.mem_range,Af,Bool.not_eq_true']at him;obtain⟨h1,h2,h3⟩:=him;simp only;rw[linearise_go_acc,List.reverse_singleton,List.singleton_append];obtain⟨p,q,e1,e2,_⟩:=KX ops.size L i h1 h2;refine .cons h1 h2 ?_ (IQ hback fuel _ _ (by simp[hsz]) ?_)
   ·intro o ho e he hb;rw[ho]at h3;simp only[Option.map_some,Option.getD_some,Array.all_eq_true']at h3;have:=h3 e he;simpa[hb]using this
   ·rw[e1]at hf;rw[e2];simp only[List.length_append,List.length_cons]at hf⊢;omega
theorem QO(E:Env)(D:Option (List Nat)):∀(ls:List SL) (pre:List SL) (st:St),Cq E D (pre++ls) (List.range' pre.length ls.length) st=BU E D ls st
 | [],_,_=>rfl
 |l::ls,pre,st=>by
  have h:=QO E D ls (pre++ [l]);simp only[List.length_append,List.length_cons,List.length_nil,List.append_assoc,List.cons_append,List.nil_append]at h;simp only[List.length_cons,List.range'_succ,Cq,BU];rw[show(pre++l::ls)[pre.length]? =some l by simp];simp only
  congr 1
  funext s;exact h s
theorem VF(hc:Aq (De P n ops) ops.toList=some ls)(hd:CO P ops A D ls=true){st st':St}(hv:BU E (some D) ls st=some st')(t:Nat):
  Cq E (some D) ls (Region.schedule (P.follows .mixedOrders) ops t) st=some st':=by
 have hlen:ls.length=ops.size:=by rw[DB hc];simp
 simp only[CO,Af]at hd;obtain⟨⟨⟨⟨hm,hown⟩,hback⟩,hmk⟩,hfr⟩:=hd;have hv:=Of ls [] (by simp) hown hv;refine LT (A:=A) _ ?_;simp only[Region.schedule,hm,Bool.true_or,if_true,Region.linearise]
 have hleft:left ops.size (Array.replicate ops.size false)=List.range ops.size:=by
  simp only[left];rw[List.filter_eq_self];intro i hi;have:=List.mem_range.1 hi;simp[Array.getD_eq_getD_getElem?,this]
 have hback':∀i o,ops[i]? =some o→∀e∈o.after,Region.binds .any e=true→e.on<i:=by
  intro i o ho e he hb;rw[List.all_eq_true]at hback
  have hmem:(o,i)∈ops.toList.zipIdx:=by
   rw[List.mem_zipIdx_iff_getElem?];simpa using ho
  have:=hback _ hmem;rw[Array.all_eq_true']at this;have:=this e he;simpa[hb]using this
 refine Nn hlen ?_ (IQ hback' ops.size t _ (by simp) (by rw[hleft];simp)) ?_ (by simp) ?_ ?_
 ·intro j hj i hij;rw[List.all_eq_true]at hfr;have:=hfr j (List.mem_range.2 hj);rw[List.all_eq_true]at this;have:=this i (List.mem_range.2 hij);rw[Aj]at this;rcases this with h|h
  ·rw[FK ops hj]at h;exact .inl (H6 ops hj h)
  ·refine .inr ?_;split at h
   ·rename_i x y hx hy;exact⟨x,y,hx,hy,h⟩
   ·cases h
 ·intro i o hi;exfalso;rw[Array.getD_eq_getD_getElem?,Array.getElem?_replicate]at hi;split at hi<;>cases hi
 ·intro k _ l hl hmake j hj;rw[List.all_eq_true]at hmk;have:=hmk l (List.mem_of_getElem? hl);simpa[hmake,hj]using this
 ·rw[hleft,List.range_eq_range',←hlen];have:=Lf (E:=E) (A:=A) (D:=D) ls [] st;simp only[List.nil_append,List.length_nil]at this;rw[this];exact hv
end
def cl(s:SV):Prop:=∀id,s.ref=some id→id<As
def DV(o:Ob):Prop:=∀cs bt,o=.box cs bt→∀s∈cs,cl s
structure Cl (st:St):Prop where
 fr:∀i,cl (st.fr i)
 ob:∀j,j<As→DV (st.ob j)
theorem BS(c:CV):cl (.c c):=fun _ h=>by cases h
theorem JV:cl .undef:=fun _ h=>by cases h
theorem MK{bt:Option TypeId}(l:List CV):DV (.box (l.map .c) bt):=fun cs _ h s hs=>by
 cases h;obtain⟨c,_,rfl⟩:=List.mem_map.1 hs;exact BS c
theorem PW(s:SV):cl (Dd s):=fun id h=>by
 unfold Dd at h
 cases hr:s.ref with
 |none=>rw[hr]at h;simp only at h;rw[hr]at h;cases h
 |some j=>
  rw[hr]at h;simp only at h;split at h
  ·cases h
  ·rw[hr]at h;cases h;omega
theorem Vs(st:St):Cl (CL st):=by
 refine⟨fun i=>PW _,fun j hj cs bt hcs s hs=> ?_⟩;have h:(if As≤j then st.ob j else F4 (st.ob j))=.box cs bt:=hcs;rw[if_neg (by omega)]at h;cases hob:st.ob j<;>rw[hob]at h<;>cases h;obtain⟨s',_,rfl⟩:=List.mem_map.1 hs;exact PW _
section
variable {P:Program} {w0:WL} {M0:MM} {n:Nat} {st:St} {a:Act} {w:World} {z:Cz}
theorem SR.clean{G:Nat→List CV}(h:SR P G w0 M0 n st a w z):SR P G w0 M0 n (CL st) a w z:=by
 have hlive:∀id,(CL st).ob id≠ .none↔st.ob id≠ .none:=fun id=>by
  show(if As≤id then st.ob id else F4 (st.ob id))≠ .none↔_;split
  ·exact Iff.rfl
  ·cases st.ob id<;>simp[F4]
 have hk:Br w (Ao M0 z st.ob) w (Ao M0 z (CL st).ob):=⟨Nat.le_refl _,fun _ _ _=>rfl,fun g _ hg=>by
  rcases hg with hg|⟨id,h1,h2⟩
  ·exact .inl hg
  ·exact .inr ⟨id,(hlive id).1 h1,h2⟩,rfl⟩
 have hz:∀s:SV,E8 st.ob z (CL st).ob z s:=fun s=>⟨fun id _ h1=>(hlive id).2 h1,fun _ _ _=>rfl,fun _ _ _ _ _ hb=>hb⟩
 have hs:∀{s:SV} {v:Value},Ar w (Ao M0 z st.ob) z st.ob s v→Ar w (Ao M0 z (CL st).ob) z (CL st).ob (Dd s) v:=by
  intro s v hv
  have:Dd s=s∨Dd s=.undef:=by
   unfold Dd;split
   ·split
    ·exact .inr rfl
    ·exact .inl rfl
   ·exact .inl rfl
  rcases this with e|e
  ·rw[e];exact Ar.keep hk (hz s) hv
  ·rw[e];trivial
 have hss:∀(cs:List SV) vs,Az w (Ao M0 z st.ob) z st.ob cs vs→Az w (Ao M0 z (CL st).ob) z (CL st).ob (cs.map Dd) vs:=by
  intro cs
  induction cs with
  |nil=>intro vs hh;exact hh
  |cons c cs ih=>
   intro vs hh;obtain⟨v,vs',e,h1,h2⟩:=hh;exact⟨v,vs',e,hs h1,ih vs' h2⟩
 refine⟨h.size,h.defers,h.below,h.outer,⟨h.nam.lent,fun N cs hN hc=> ?_,h.nam.names,h.nam.low⟩,h.glob,fun i=>hs (h.fr i),fun id=> ?_,fun id g h1 h2=>h.lo id g ((hlive id).1 h1) h2,fun i j g hij h1 h2=>h.apart i j g hij ((hlive i).1 h1) ((hlive j).1 h2)⟩
 ·have hc':(if As≤N then st.ob N else F4 (st.ob N))=.box cs _:=hc;rw[if_pos hN]at hc';exact h.nam.told N cs hN hc'
 ·show Bf P w _ 0 z _ id (z.σ id) (if As≤id then st.ob id else F4 (st.ob id));have hoi:=h.ob id;split
  ·exact Bf.keep hk (fun _ _=>rfl) (fun cs _ s _=>hz s) (fun _ _ hh=>hh) hoi
  ·cases hob:st.ob id with
   |box cs=>
    rw[hob]at hoi;obtain⟨g,ty,vs,e1,e2,e3⟩:=hoi;exact⟨g,ty,vs,e1,e2,hss cs vs e3⟩
   |_=>
    rw[hob]at hoi;exact Bf.keep hk (fun _ _=>rfl) (fun cs hc=>by cases hc) (fun _ _ hh=>hh) hoi
end
theorem He{x:Option CV}{v:SV}(h:x.map .c=some v):cl v:=by
 obtain⟨c,_,rfl⟩:=Aa.1 h;exact BS c
theorem PT{rd:Nat→Ob}(hrd:∀j,DV (rd j)){sz:Option Nat}{s v:SV}(h:Bj rd sz s=some v):cl v:=by
 unfold Bj at h
 repeat' split at h
 all_goals first
  |(cases h;done)
  |exact He h
  |skip
 ·rename_i cs _ hob _;exact hrd _ cs _ hob _ (List.mem_of_getElem? h)
 ·obtain⟨l,_,rfl⟩:=Aa.1 h;exact BS _
 ·obtain⟨e,_,h⟩:=Ab.1 h;exact He h
theorem PV{rd:Nat→Ob}{ρ:SO→SV}{op:SOp}{v:SV}(hρ:∀x,cl (ρ x))(hrd:∀j,DV (rd j))(hN:∀N,As≤N→rd N=.none)(h:Am rd ρ op=some v):cl v:=by
 have hdr:∀x,cl (deref rd (ρ x)):=fun x=>by
  have:=hρ x;generalize ρ x=s at this⊢;unfold deref;split
  ·split
   ·rename_i hN';rw[hN _ hN'];exact JV
   ·exact JV
  ·exact this
 cases op
 case mov x=>cases h;exact hρ _
 case pick c a b=>
  simp only[Am]at h;split at h<;>(try cases h;done);cases h;split<;>exact hρ _
 case load sz x=>exact PT hrd h
 case loadb sz x=>
  simp only[Am]at h;split at h<;>(try cases h;done);exact PT hrd h
 case nchk x=>
  simp only[Am]at h;have:=hρ x;split at h<;>(try cases h;done)
  all_goals
   rename_i he;cases h;rw[he]at this;exact this
 case lsl e size AK=>
  simp only[Am]at h;obtain⟨_,_,h⟩:=Ab.1 h;split at h<;>cases h;exact BS _
 case faddr off x=>
  simp only[Am]at h;have:=hdr x;split at h
  ·split at h<;>cases h;exact BS _
  ·split at h<;>cases h;exact BS _
  ·rename_i he;cases h;rw[he]at this;exact fun id hid=>this id hid
  ·rename_i he;cases h;rw[he]at this;exact fun id hid=>this id hid
  ·cases h
 case iaddr size x i=>
  have:=hρ x;simp only[Am,D1]at h;split at h<;>(try cases h;done)
  ·obtain⟨j,_,h⟩:=Ab.1 h;obtain⟨e,_,h⟩:=Ab.1 h;split at h<;>cases h;exact BS _
  ·rename_i he _;rw[he]at this;split at h<;>(try cases h;done);split at h<;>(try cases h;done);obtain⟨j,_,rfl⟩:=Aa.1 h;exact fun id hid=>this id hid
 case aaddr len size x i=>
  have:=hρ x;simp only[Am,DA]at h;split at h<;>(try cases h;done)
  ·split at h<;>(try cases h;done);obtain⟨j,_,rfl⟩:=Aa.1 h;exact BS _
  ·rename_i he _;rw[he]at this;obtain⟨j,_,rfl⟩:=Aa.1 h;exact fun id hid=>this id hid
 case ext x i=>
  have:=hρ x;simp only[Am]at h;split at h<;>(try cases h;done)
  ·exact He h
  ·rename_i he;rw[he]at this
   repeat' split at h
   all_goals first
    |(cases h;done)
    |(cases h;exact BS _)
    |(cases h;exact fun id hid=>this id hid)
 case build z AK=>
  simp only[Am]at h;obtain⟨_,_,h⟩:=Ab.1 h;obtain⟨_,_,rfl⟩:=Aa.1 h;exact BS _
 case minmax mx xs=>
  simp only[Am]at h;obtain⟨_,_,h⟩:=Ab.1 h;split at h
  ·cases h
  ·exact He h
 case sidx x i=>
  simp only[Am]at h;split at h<;>(try cases h;done);obtain⟨_,_,h⟩:=Ab.1 h;obtain⟨_,_,rfl⟩:=Aa.1 h;exact BS _
 case aidx len size sz x i=>
  simp only[Am]at h;split at h<;>(try cases h;done);obtain⟨_,_,h⟩:=Ab.1 h;exact He h
 case sslice x lo hi=>
  simp only[Am]at h;split at h<;>(try cases h;done);obtain⟨_,_,h⟩:=Ab.1 h;obtain⟨_,_,h⟩:=Ab.1 h;split at h<;>cases h;exact BS _
 case slice3 size x lo hi mx=>
  simp only[Am]at h;split at h<;>(try cases h;done);obtain⟨_,_,h⟩:=Ab.1 h;obtain⟨_,_,h⟩:=Ab.1 h;obtain⟨_,_,h⟩:=Ab.1 h;split at h<;>cases h;exact BS _
 case slice size x lo hi=>
  simp only[Am]at h;split at h<;>(try cases h;done);obtain⟨_,_,h⟩:=Ab.1 h;obtain⟨_,_,h⟩:=Ab.1 h;split at h<;>cases h;exact BS _
 all_goals
  simp only[Am,reduceCtorEq]at h;try(cases h;done)
  repeat' split at h
  all_goals first
   |(cases h;done)
   |exact He h
   |(cases h;exact BS _)
   |(obtain⟨_,_,rfl⟩:=Aa.1 h;exact BS _)
theorem Vo{ρ:SO→SV}{d:Nat}{op:SOp}{v:SV}{o:Ob}(hρ:∀x,cl (ρ x))(hd:d<As)(h:Bw ρ d op=some (v,o)):cl v∧DV o:=by
 have hv:∀s:SV,s.ref=some d→cl s:=fun s hs id hid=>by rw[hs]at hid;cases hid;exact hd
 cases op<;>simp only[Bw,reduceCtorEq]at h
 case alloc z=>cases h;exact⟨hv _ rfl,MK _⟩
 case allocT T z=>cases h;exact⟨hv _ rfl,MK _⟩
 case nbytes e x=>
  split at h<;>(try cases h;done);simp only[Ad,Ac,Prod.mk.injEq]at h;obtain⟨_,rfl,rfl⟩:=h;exact⟨hv _ rfl,fun cs _ hcs=>by cases hcs⟩
 case box x=>
  split at h
  ·cases h;exact⟨hv _ rfl,MK _⟩
  ·cases h
  ·cases h;refine⟨hv _ rfl,fun cs _ hcs s hs=> ?_⟩;cases hcs;simp only[List.mem_singleton]at hs;subst hs;exact hρ x
 case mksl e size AK=>
  obtain⟨l,_,h⟩:=Ab.1 h;split at h<;>cases h;exact⟨hv _ rfl,fun cs _ hcs=>by cases hcs⟩
 case mkmap=>cases h;exact⟨hv _ rfl,fun cs _ hcs=>by cases hcs⟩
 case make=>
  repeat' split at h
  all_goals first
   |(cases h;done)
   |(cases h;exact⟨hv _ rfl,fun cs _ hcs=>by cases hcs⟩)
 case mrange=>
  repeat' split at h
  all_goals first
   |(cases h;done)
   |(cases h;exact⟨hv _ rfl,fun cs _ hcs=>by cases hcs⟩)
 case siter=>
  repeat' split at h
  all_goals first
   |(cases h;done)
   |(cases h;exact⟨hv _ rfl,fun cs _ hcs=>by cases hcs⟩)
section
variable {E:Env}
def clP(p:SV×Option Ob):Prop:=cl p.1∧∀o,p.2=some o→DV o
theorem PU{rd:Nat→Ob}{ρ:SO→SV}{d:Option Nat}{f:FuncId}{args:List SO}{caps:List CV}{p:SV×Option Ob}(hd:∀j,d=some j→j<As)(h:FV E.named rd ρ d f args caps=some p):clP p:=by
 unfold FV at h;obtain⟨l,_,h⟩:=Ab.1 h;obtain⟨r,hr,h⟩:=Ab.1 h;split at h<;>cases h
 cases r with
 |val v=>exact⟨BS _,fun o ho=>by cases ho⟩
 |new o=>
  have hh:DD o=true:=by
   have hr':(match E.fn f (l++caps)with
    |some (.new o)=>if DD o=true then some (.new o)else none
    |r=>r)=some (.new o):=hr
   split at hr'
   ·split at hr'<;>(try cases hr';done);rename_i hh;cases hr';exact hh
   ·rename_i hne;exact absurd hr' (hne o)
  have hdd:d.getD 0<As:=by
   cases d with
   |none=>decide
   |some j=>exact hd j rfl
  refine⟨fun id hid=> ?_,fun o' ho'=> ?_⟩
  ·cases o<;>simp[DD]at hh<;>(simp only[LM,SV.ref,Ac]at hid;omega)
  ·cases ho';intro cs _ hcs;subst hcs;cases hh
theorem Vq{rd:Nat→Ob}{l:SL}{fr:Nat→SV}{p:SV×Option Ob}(hfr:∀i,cl (fr i))(hrd:∀j,DV (rd j))(hN:∀N,As≤N→rd N=.none)(hd:∀j,l.dst=some j→j<As)(h:Ci E.named l fr rd=some p):clP p:=by
 have hso:∀x,cl (so E.named.G fr x):=fun x=>by
  cases x with
  |t i=>exact hfr i
  |k c=>exact BS c
  |g i=>
   simp only[so]
   cases E.named.G i with
   |nil=>exact JV
   |cons c cs=>exact BS _
 have hop:∀p,A1 E.named rd (so E.named.G fr) l.dst l.op=some p→clP p:=fun p h=>by
  have hdd:l.dst.getD 0<As:=by
   cases hl:l.dst with
   |none=>decide
   |some j=>exact hd j hl
  unfold A1 at h;split at h
  ·obtain⟨v,hv,rfl⟩:=Aa.1 h;exact⟨PV hso hrd hN hv,fun o ho=>by cases ho⟩
  ·obtain⟨v,hv,rfl⟩:=Aa.1 h;exact⟨PV hso hrd hN hv,fun o ho=>by cases ho⟩
  ·obtain⟨⟨v,o⟩,hv,rfl⟩:=Aa.1 h;obtain⟨h1,h2⟩:=Vo hso hdd hv;exact⟨h1,fun o' ho=>by cases ho;exact h2⟩
  ·cases h
  ·cases h
  ·split at h
   ·exact PU hd h
   ·split at h<;>(try cases h;done);exact PU hd h
   ·cases h
 unfold Ci at h;split at h
 ·exact hop _ h
 ·split at h
  ·split at h
   ·exact hop _ h
   ·cases h;exact⟨BS _,fun o ho=>by cases ho⟩
  ·cases h;exact⟨BS _,fun o ho=>by cases ho⟩
  ·cases h
theorem Vp{st s:St}{d:Option Nat}{p:SV×Option Ob}(hs:Cl st)(hp:clP p)(h:put st d p=some s):Cl s:=by
 have hfr:∀v i,cl v→cl (upd st.fr i v i):=fun v i hv=>by rw[AZ];exact hv
 obtain⟨v,o⟩:=p
 cases o with
 |none=>
  cases h
  cases d with
  |none=>exact hs
  |some d=>
   refine⟨fun i=> ?_,hs.ob⟩;show cl (upd st.fr d v i);rw[BK];split
   ·exact hp.1
   ·exact hs.fr i
 |some o=>
  simp only[put,By]at h
  cases d with
  |none=>cases h
  |some d=>
   simp only at h;split at h<;>(try cases h;done);cases h;refine⟨fun i=> ?_,fun j hj=> ?_⟩
   ·show cl (upd st.fr d v i);rw[BK];split
    ·exact hp.1
    ·exact hs.fr i
   ·show DV (upd st.ob d o j);rw[BK];split
    ·exact hp.2 o rfl
    ·exact hs.ob j hj
theorem Vr{n o:Nat}{ob ob':Ob}{v:SV}(ho:DV ob)(hv:cl v)(h:DO n o ob v=some ob'):DV ob':=by
 unfold DO at h;split at h<;>(try cases h;done);rename_i cs bt;split at h
 ·split at h<;>cases h;intro cs' _ hcs s hs;cases hcs;unfold Fq at hs;simp only[List.mem_append]at hs;rcases hs with(hs|hs)|hs
  ·exact ho cs _ rfl s (List.mem_of_mem_take hs)
  ·obtain⟨c,_,rfl⟩:=List.mem_map.1 hs;exact BS c
  ·exact ho cs _ rfl s (List.mem_of_mem_drop hs)
 ·split at h<;>cases h;intro cs' _ hcs s hs;cases hcs;rcases List.mem_or_eq_of_mem_set hs with hs|hs
  ·exact ho cs _ rfl s hs
  ·subst hs;exact hv
end
def low(st:St):St:={fr:=st.fr,ob:=Ca st.ob}
def merge(s st:St):St:={fr:=s.fr,ob:=fun i=>if As≤i then st.ob i else s.ob i}
def efL(E:Env)(l:SL)(fr:Nat→SV):Option (Eff×List SO×List CV):=
 match l.op with
 | .call f args=>match E.ef f with
  |some e=>some (e,args,[])
  |none=>none
 | .callv f args=>match so E.G fr f with
  | .c (.fn f caps)=>match E.ef f with
   |some e=>some (e,args,caps)
   |none=>none
  |_=>none
 |_=>none
def BN(E:Env)(l:SL)(fr:Nat→SV):Option (Eff×List SO×List CV):=if gd l fr=some true then efL E l fr else none
section
variable {E:Env} {A D:List Nat}
theorem Nf{rd:Nat→Ob}{l:SL}{st:St}:B3 E rd l st=(gd l st.fr).bind fun t=>if t=true then A4 E rd st l.dst l.op else some (st.set l.dst Bn):=by
 unfold B3 gd
 cases l.guard with
 |none=>rfl
 |some p=>
  obtain⟨g,want⟩:=p;simp only;generalize st.fr g=q
  cases q with
  |c v=>
   cases v with
   |bool b=>by_cases hb:b=want<;>simp[hb]
   |tup l=>cases l<;>rfl
   |_=>rfl
  |_=>rfl
theorem VN{l:SL}{fr:Nat→SV}{q:Eff×List SO×List CV}(h:efL E l fr=some q):l.op.calls=true:=by
 unfold efL at h;split at h
 ·rename_i ho;rw[ho];rfl
 ·rename_i ho;rw[ho];rfl
 ·cases h
theorem Ml{l:SL}{fr:Nat→SV}{q:Eff×List SO×List CV}(h:BN E l fr=some q):l.op.calls=true:=by
 unfold BN at h;split at h
 ·exact VN h
 ·cases h
theorem Mm{l:SL}{fr fr':Nat→SV}(h:∀i∈l.looks,fr i=fr' i):BN E l fr=BN E l fr':=by
 unfold BN;rw[Nl h]
 have:efL E l fr=efL E l fr':=by
  unfold efL;cases ho:l.op<;>simp only;rename_i f args;rw[Ej (fr':=fr') f fun i hi=>h i (by simp[SL.looks,ho,SOp.slots,hi])]
 rw[this]
theorem MC{op:SOp}(h:op.calls=true):op.hard=false:=by
 cases op<;>first|rfl|cases h
theorem MB{l:SL}(h:l.op.calls=true):l.own A=none:=Ly (MC h)
theorem Od{l:SL}{rd:Nat→Ob}{st:St}(h:efL E l st.fr=none):A4 E rd st l.dst l.op=A4 E.still rd st l.dst l.op:=by
 unfold efL at h;cases ho:l.op<;>rw[ho]at h<;>try rfl
 ·rename_i f args;simp only at h
  cases he:E.ef f with
  |some e=>rw[he]at h;cases h
  |none=>
   simp only[A4,SOp.cls,he];rfl
 ·rename_i f args;simp only at h
  show(match so E.G st.fr f with
   | .c (.fn f caps)=>match E.ef f with
    |some e=>CP (so E.G st.fr) st l.dst e args caps
    |none=>Dc E rd (so E.G st.fr) st l.dst f args caps
   |_=>none)=(match so E.G st.fr f with
   | .c (.fn f caps)=>Dc E rd (so E.G st.fr) st l.dst f args caps
   |_=>none)
  generalize so E.G st.fr f=q at h;cases q<;>try rfl
  rename_i c;cases c<;>try rfl
  rename_i g caps;simp only at h⊢
  cases he:E.ef g with
  |some e=>rw[he]at h;cases h
  |none=>rfl
theorem X3{l:SL}{st:St}(ht:BN E l st.fr=none):CQ E D l st=(gd l st.fr).bind fun t=>if t=true then A4 E.still (A2 (some (hid l.op D)) (Ca st.ob)) st l.dst l.op else some (st.set l.dst Bn):=by
 unfold CQ;rw[Nf];unfold BN at ht
 cases hg:gd l st.fr with
 |none=>rfl
 |some t=>
  cases t with
  |false=>rfl
  |true=>
   rw[hg,if_pos rfl]at ht;simp only[Option.bind_some,if_true];exact Od ht
theorem Zd{l:SL}{rd:Nat→Ob}{st:St}(hh:l.op.hard=false):(Ci E l st.fr rd).bind (put st l.dst)=(gd l st.fr).bind fun t=>if t=true then A4 E.still rd st l.dst l.op else some (st.set l.dst Bn):=by
 unfold Ci gd
 cases l.guard with
 |none=>simp only[Option.bind_some,if_true];exact(HU hh).symm
 |some p=>
  obtain⟨g,want⟩:=p;simp only;generalize st.fr g=q
  cases q with
  |c v=>
   cases v with
   |bool b=>
    by_cases hb:b=want
    ·simp only[hb,if_true,Option.bind_some,decide_true];exact(HU hh).symm
    ·simp[hb,put]
   |tup l=>cases l<;>simp[put]
   |_=>rfl
  |_=>rfl
theorem NH{l:SL}{st:St}(hh:l.op.hard=false)(ht:BN E l st.fr=none):CQ E D l st=(Ci E l st.fr (A2 (some (hid l.op D)) (Ca st.ob))).bind (put st l.dst):=by
 rw[X3 ht,Zd hh]
theorem Ys{st s:St}{d:Option Nat}{p:SV×Option Ob}(hd:∀j,d=some j→j<As)(h:put st d p=some s):put (low st) d p=some (low s)∧∀i,As≤i→s.ob i=st.ob i:=by
 obtain⟨v,o⟩:=p
 cases o with
 |none=>
  cases h;cases d<;>exact⟨rfl,fun _ _=>rfl⟩
 |some o=>
  simp only[put,By]at h⊢
  cases d with
  |none=>cases h
  |some d=>
   have hdd:=hd d rfl;simp only at h⊢;split at h<;>(try cases h;done);rename_i hn;cases h;have hl:(low st).ob d=.none:=by show(if As≤d then Ob.none else st.ob d)=_;rw[if_neg (by omega),hn]
   refine⟨?_,fun i hi=>A0 _ _ (by omega)⟩;rw[hl];simp only[low,Ac,St.mk.injEq,true_and];funext i;simp only[BK,Ca];by_cases h1:i=d
   ·subst h1;rw[if_pos rfl,if_pos rfl,if_neg (by omega)]
   ·rw[if_neg h1,if_neg h1]
theorem Ol{st t:St}{d:Option Nat}{p:SV×Option Ob}(hd:∀j,d=some j→j<As)(h:put (low st) d p=some t):put st d p=some (merge t st)∧low (merge t st)=t:=by
 obtain⟨v,o⟩:=p
 cases o with
 |none=>
  cases h
  have key:∀st':St,st'.ob=st.ob→merge (low st') st=st'∧low (merge (low st') st)=low st':=fun st' hob=>by
   have h1:merge (low st') st=st':=by
    cases st' with
    |mk fr ob=>
     cases hob;simp only[merge,low,St.mk.injEq,true_and];funext i;simp only[Ca];split<;>rfl
   exact⟨h1,by rw[h1]⟩
  have e:(low st).set d v=low (st.set d v):=by cases d<;>rfl
  obtain⟨k1,k2⟩:=key (st.set d v) (by cases d<;>rfl);rw[e];exact⟨by rw[k1];rfl,k2⟩
 |some o=>
  simp only[put,By]at h⊢
  cases d with
  |none=>cases h
  |some d=>
   have hdd:=hd d rfl;have hl:(low st).ob d=st.ob d:=by show(if As≤d then Ob.none else st.ob d)=_;rw[if_neg (by omega)]
   simp only[hl]at h⊢;split at h<;>(try cases h;done);rename_i hn;cases h;constructor
   ·simp only[merge,low,Ac,St.mk.injEq,true_and];funext i;simp only[BK,Ca];by_cases h1:i=d
    ·subst h1;rw[if_pos rfl,if_neg (by omega),if_pos rfl]
    ·rw[if_neg h1,if_neg h1];split<;>rfl
   ·simp only[merge,low,St.mk.injEq,true_and];funext i;simp only[BK,Ca];by_cases h1:i=d
    ·subst h1;rw[if_neg (by omega),if_neg (by omega)]
    ·rw[if_neg h1];split<;>rfl
structure Em (A D:List Nat) (l:SL):Prop where
 hard:l.op.hard=true→∃k,l.own A=some k∧k<As
 dst:∀j,l.dst=some j→j<As
 makes:l.op.makes=true→∀j,l.dst=some j→D.contains j=true
open Classical in
noncomputable def evR(E:Env)(A D:List Nat)(l:SL)(st:St):Option St:=if Cl st∧okS A l st=true then CQ E.named D l st else none
theorem I1{l:SL}{st s:St}(h:evR E A D l st=some s):Cl st∧okS A l st=true∧CQ E.named D l st=some s:=by
 unfold evR at h;split at h
 ·rename_i hh;exact⟨hh.1,hh.2,h⟩
 ·cases h
theorem Kq{l:SL}{st s:St}(h1:Cl st)(h2:okS A l st=true)(h3:CQ E.named D l st=some s):evR E A D l st=some s:=by
 unfold evR;rw[if_pos ⟨h1,h2⟩,h3]
theorem Lx{l:SL}{k:Nat}(hl:l.own A=some k):∃n x,(∀i∈x.slot,i∈l.looks)∧∀(st:St) (o:Nat),st.fr k=.ptr k o→CQ E D l st=(DO n o (st.ob k) (so E.G st.fr x)).map (fun b=>{st with ob:=upd st.ob k b})∧Aw E (some D) l st=(DO n o (st.ob k) (so E.G st.fr x)).map fun b=>{st with ob:=upd st.ob k b}:=by
 obtain⟨n,x,h1,h2⟩:=FP hl;refine⟨n,x,fun i hi=>by simp[SL.looks,h1,SOp.slots,hi],fun st o ho=> ?_⟩
 have key:∀(E':Env) rd,E'.G=E.G→A4 E' rd st l.dst l.op=(DO n o (st.ob k) (so E.G st.fr x)).map fun b=>{st with ob:=upd st.ob k b}:=fun E' rd hG=>by
  simp only[h1,A4,SOp.cls,AY,hG];rw[show so E.G st.fr (.t k)=.ptr k o from ho];simp only[DO,deref];cases hb:st.ob k<;>simp only[hb]<;>try rfl
  generalize so E.G st.fr x=v
  cases v with
  |c cv=>cases cv<;>(simp only;split<;>rfl)
  |_=>simp only;split<;>rfl
 constructor
 ·unfold CQ B3;rw[h2];exact key E _ rfl
 ·unfold Aw;rw[h2];exact key _ _ DS
theorem Lq{l:SL}{k:Nat}{st:St}(hl:l.own A=some k)(h:okS A l st=true):∃o,st.fr k=.ptr k o:=by
 unfold okS at h;rw[hl]at h;simp only at h;split at h
 ·rename_i j o hj;have:j=k:=by simpa using h
  subst this;exact⟨o,hj⟩
 ·cases h
theorem Ln{l:SL}(hok:Em A D l){st s:St}(ht:BN E.named l st.fr=none)(h:evR E A D l st=some s):evT E.named A D l (low st)=some (low s)∧∀i,As≤i→s.ob i=st.ob i:=by
 obtain⟨hcl,hos,h⟩:=I1 h;have hos':okS A l (low st)=true:=hos
 cases hh:l.op.hard with
 |false=>
  rw[NH hh ht,Ab]at h;obtain⟨p,h1,h2⟩:=h;obtain⟨h3,h4⟩:=Ys hok.dst h2;refine⟨EI hos' ?_,h4⟩;rw[Cj hh,Ab];exact⟨p,h1,h3⟩
 |true=>
  obtain⟨k,hk,hkt⟩:=hok.hard hh;obtain⟨o,ho⟩:=Lq hk hos;obtain⟨n,x,hx,hf⟩:=Lx (E:=E.named) (D:=D) hk;rw[(hf st o ho).1,Aa]at h;obtain⟨b,h1,rfl⟩:=h;have hl:(low st).ob k=st.ob k:=by show(if As≤k then Ob.none else st.ob k)=_;rw[if_neg (by omega)]
  refine⟨EI hos' ?_,fun i hi=>A0 _ _ (by omega)⟩;rw[(hf (low st) o ho).2,hl];show(DO n o (st.ob k) (so E.named.G st.fr x)).map _=_;rw[h1];simp only[low,Option.map_some,Ac,St.mk.injEq,true_and];funext i;simp only[BK,Ca];by_cases h1:i=k
  ·subst h1;rw[if_pos rfl,if_pos rfl,if_neg (by omega)]
  ·rw[if_neg h1,if_neg h1]
theorem Lo{l:SL}(hok:Em A D l){st t:St}(hcl:Cl st)(ht:BN E.named l st.fr=none)(h:evT E.named A D l (low st)=some t):evR E A D l st=some (merge t st)∧low (merge t st)=t:=by
 obtain⟨hos,h⟩:=FD h;have hos':okS A l st=true:=hos
 cases hh:l.op.hard with
 |false=>
  rw[Cj hh,Ab]at h;obtain⟨p,h1,h2⟩:=h;obtain⟨h3,h4⟩:=Ol hok.dst h2;refine⟨Kq hcl hos' ?_,h4⟩;rw[NH hh ht,Ab];exact⟨p,h1,h3⟩
 |true=>
  obtain⟨k,hk,hkt⟩:=hok.hard hh;obtain⟨o,ho⟩:=Lq hk hos';obtain⟨n,x,hx,hf⟩:=Lx (E:=E.named) (D:=D) hk;rw[(hf (low st) o ho).2,Aa]at h;obtain⟨b,h1,rfl⟩:=h;have hl:(low st).ob k=st.ob k:=by show(if As≤k then Ob.none else st.ob k)=_;rw[if_neg (by omega)]
  rw[hl]at h1;have h1':DO n o (st.ob k) (so E.named.G st.fr x)=some b:=h1
  have e:merge {low st with ob:=upd (low st).ob k b} st={st with ob:=upd st.ob k b}:=by
   simp only[merge,low,St.mk.injEq,true_and];funext i;simp only[BK,Ca];by_cases h1:i=k
   ·subst h1;rw[if_pos rfl,if_neg (by omega),if_pos rfl]
   ·rw[if_neg h1,if_neg h1];split<;>rfl
  constructor
  ·refine Kq hcl hos' ?_;rw[(hf st o ho).1,h1',e];rfl
  ·rw[e];simp only[low,St.mk.injEq,true_and];funext i;simp only[BK,Ca];by_cases h1:i=k
   ·subst h1;rw[if_pos rfl,if_pos rfl,if_neg (by omega)]
   ·rw[if_neg h1,if_neg h1]
theorem NV{l:SL}(hok:Em A D l){st s:St}(ht:BN E.named l st.fr=none)(h:evR E A D l st=some s):Cl s:=by
 obtain⟨hcl,hos,h⟩:=I1 h
 cases hh:l.op.hard with
 |false=>
  rw[NH hh ht,Ab]at h;obtain⟨p,h1,h2⟩:=h;refine Vp hcl (Vq hcl.fr (fun j=> ?_) (fun N hN=> ?_) hok.dst h1) h2
  ·intro cs _ hcs;simp only[A2,Ca]at hcs;split at hcs
   ·cases hcs
   ·split at hcs
    ·cases hcs
    ·exact hcl.ob j (by omega) cs _ hcs
  ·simp only[A2,Ca];rw[if_pos hN];split<;>rfl
 |true=>
  obtain⟨k,hk,hkt⟩:=hok.hard hh;obtain⟨o,ho⟩:=Lq hk hos;obtain⟨n,x,hx,hf⟩:=Lx (E:=E.named) (D:=D) hk;rw[(hf st o ho).1,Aa]at h;obtain⟨b,h1,rfl⟩:=h
  have hv:cl (so E.named.G st.fr x):=by
   cases x with
   |t i=>exact hcl.fr i
   |k c=>exact BS c
   |g i=>
    simp only[so]
    cases E.named.G i with
    |nil=>exact JV
    |cons c cs=>exact BS _
  refine⟨hcl.fr,fun j hj=> ?_⟩;show DV (upd st.ob k b j);rw[BK];split
  ·exact Vr (hcl.ob k hkt) hv h1
  ·exact hcl.ob j hj
theorem Lm{l:SL}(hok:Em A D l){L t:St}(h:evT E.named A D l L=some t){i:Nat}(hi:l.dst≠some i):t.fr i=L.fr i:=by
 obtain⟨hos,h⟩:=FD h
 cases hh:l.op.hard with
 |false=>exact OC hh h hi
 |true=>
  obtain⟨k,hk,hkt⟩:=hok.hard hh;obtain⟨o,ho⟩:=Lq hk hos;obtain⟨n,x,hx,hf⟩:=Lx (E:=E.named) (D:=D) hk;rw[(hf L o ho).2,Aa]at h;obtain⟨b,h1,rfl⟩:=h;rfl
theorem RV{f:FuncId}{e:Eff}(h:E.named.ef f=some e):∀N,e.T.contains N=true→As≤N:=by
 have h':(match E.ef f with
  |some e=>if(e.T.all fun N=>Nat.ble As N)=true then some e else none
  |none=>none)=some e:=h
 split at h'<;>(try cases h';done);split at h'<;>(try cases h';done);rename_i hh;cases h';intro N hN;rw[List.all_eq_true]at hh;exact Ah (hh N (by simpa using hN))
theorem ZG{l:SL}{fr:Nat→SV}{q:Eff×List SO×List CV}(h:BN E.named l fr=some q):∀N,q.1.T.contains N=true→As≤N:=by
 unfold BN efL at h;split at h<;>(try cases h;done);split at h<;>(try cases h;done)
 ·split at h<;>(try cases h;done);rename_i e he;cases h;exact RV he
 ·split at h<;>(try cases h;done);split at h<;>(try cases h;done);rename_i e he;cases h;exact RV he
theorem R5{T:List Nat}(hT:∀N,T.contains N=true→As≤N){s:SV}(h:cl s):Au T s=s:=by
 have key:∀id,s.ref=some id→¬T.contains id=true:=fun id hr hc=>by
  have:=h id hr;have:=hT id hc;omega
 cases s<;>simp only[Au]<;>first
  |rfl
  |(rw[if_neg (key _ rfl)])
def hiT(T:List Nat)(H:Nat→Ob)(ob:Nat→Ob):Nat→Ob:=fun i=>if T.contains i=true then H i else BZ T (ob i)
theorem ZF{T:List Nat}(hT:∀N,T.contains N=true→As≤N){H:Nat→Ob}{st:St}(h:Cl st):Ck T H st={fr:=st.fr,ob:=fun i=>if As≤i then hiT T H st.ob i else st.ob i}:=by
 unfold Ck;simp only[St.mk.injEq];refine⟨funext fun i=>R5 hT (h.fr i),funext fun i=> ?_⟩;split
 ·rename_i hc;rw[if_pos (hT i hc)];show H i=(if _ then _ else _);rw[if_pos hc]
 ·rename_i hc;split
  ·show _=(if _ then _ else _);rw[if_neg hc]
  ·rename_i hi
   cases hob:st.ob i with
   |box cs=>
    simp only[BZ,Ob.box.injEq,and_true];have h1:=h.ob i (by omega) cs _ hob;have h2:∀s∈cs,Au T s=s:=fun s hs=>R5 hT (h1 s hs);exact(List.map_congr_left h2).trans (List.map_id _)
   |_=>rfl
theorem Yb{T:List Nat}(hT:∀N,T.contains N=true→As≤N){ob ob':Nat→Ob}(h:∀i,As≤i→ob' i=ob i):Cy T ob'=Cy T ob:=by
 funext i;unfold Cy;split
 ·rename_i hc;rw[h i (hT i hc)]
 ·rfl
theorem X1{l:SL}{fr:Nat→SV}{q:Eff×List SO×List CV}(h:BN E l fr=some q):∀x∈q.2.1,∀i∈x.slot,i∈l.looks:=by
 unfold BN efL at h;split at h<;>(try cases h;done);split at h<;>(try cases h;done)
 ·rename_i ho;split at h<;>(try cases h;done);cases h;intro x hx i hi;simp only[SL.looks,ho,SOp.slots,List.mem_append,List.mem_flatMap];exact .inl ⟨x,hx,hi⟩
 ·rename_i ho;split at h<;>(try cases h;done);split at h<;>(try cases h;done);cases h;intro x hx i hi;simp only[SL.looks,ho,SOp.slots,List.mem_append,List.mem_flatMap];exact .inl (.inr ⟨x,hx,hi⟩)
theorem RD{l:SL}{st:St}{q:Eff×List SO×List CV}(h:BN E l st.fr=some q):CQ E D l st=CP (so E.G st.fr) st l.dst q.1 q.2.1 q.2.2:=by
 unfold CQ;rw[Nf];unfold BN at h;split at h<;>(try cases h;done);rename_i hg;rw[hg];simp only[Option.bind_some,if_true];unfold efL at h;split at h<;>(try cases h;done)
 ·rename_i ho;split at h<;>(try cases h;done);rename_i e he;cases h;simp only[ho,A4,SOp.cls,he]
 ·rename_i ho;split at h<;>(try cases h;done);rename_i hf;split at h<;>(try cases h;done);rename_i e he;cases h;simp only[ho,A4,SOp.cls,hf,he]
theorem P7{α β:Type}{f g:α→Option β}:∀{l:List α},(∀x∈l,f x=g x)→Aq f l=Aq g l
 | [],_=>rfl
 |x::l,h=>by
  simp only[Aq];rw[h x (by simp),P7 (l:=l) fun y hy=>h y (by simp[hy])]
theorem MZ{l:SL}{st s:St}{q:Eff×List SO×List CV}(ht:BN E.named l st.fr=some q)(h:evR E A D l st=some s):
  ∃(c:CV) (hi:Nat→Ob),s={fr:=(st.set l.dst (.c c)).fr,ob:=fun i=>if As≤i then hi i else st.ob i}∧∀st',(∀i∈l.looks,st'.fr i=st.fr i)→(∀i,As≤i→st'.ob i=st.ob i)→Cl st'→
   evR E A D l st'=some {fr:=(st'.set l.dst (.c c)).fr,ob:=fun i=>if As≤i then hi i else st'.ob i}:=by
 obtain⟨hcl,hos,h⟩:=I1 h;have hT:=ZG ht;rw[RD ht]at h;unfold CP at h;obtain⟨ls,h1,h⟩:=Ab.1 h;obtain⟨⟨c,H⟩,h2,h3⟩:=Ab.1 h
 have form:∀st0:St,Cl st0→(Ck q.1.T H st0).set l.dst (.c c)={fr:=(st0.set l.dst (.c c)).fr,ob:=fun i=>if As≤i then hiT q.1.T H st0.ob i else st0.ob i}:=fun st0 h0=>by
  rw[ZF hT h0];cases l.dst<;>rfl
 refine⟨c,hiT q.1.T H st.ob, ?_,fun st' hf hh hcl'=> ?_⟩
 ·cases h3;exact form st hcl
 ·have ht':BN E.named l st'.fr=some q:=by rw[Mm hf];exact ht
  refine Kq hcl' (by unfold okS;rw[MB (Ml ht)]) ?_;rw[RD ht'];unfold CP
  have e1:Aq (fun x=>closed (so E.named.G st'.fr x)) q.2.1=Aq (fun x=>closed (so E.named.G st.fr x)) q.2.1:=P7 fun x hx=>by
   rw[Ej (fr':=st.fr) x fun i hi=>hf i (X1 ht x hx i hi)]
  rw[e1,h1,Option.bind_some,Yb hT hh,h2,Option.bind_some,form st' hcl'];simp only[Ac,St.mk.injEq,true_and];funext i;split
  ·rename_i hi;simp only[hiT,hh i hi]
  ·rfl
theorem Q4{st:St}(h:Cl st)(d:Option Nat)(c:CV)(hi:Nat→Ob):Cl {fr:=(st.set d (.c c)).fr,ob:=fun i=>if As≤i then hi i else st.ob i}:=by
 refine⟨fun i=> ?_,fun j hj=> ?_⟩
 ·cases d with
  |none=>exact h.fr i
  |some d=>
   show cl (upd st.fr d (.c c) i);rw[BK];split
   ·exact BS c
   ·exact h.fr i
 ·show DV (if As≤j then hi j else st.ob j);rw[if_neg (by omega)];exact h.ob j hj
def Jw(d:Option Nat)(c:CV):SL:=⟨d,.mov (.k c),none⟩
theorem LU{L:St}{d:Option Nat}{c:CV}:evT E A D (Jw d c) L=some (L.set d (.c c)):=EI rfl rfl
theorem Le{st:St}(d:Option Nat)(c:CV)(hi:Nat→Ob):low {fr:=(st.set d (.c c)).fr,ob:=fun i=>if As≤i then hi i else st.ob i}=(low st).set d (.c c):=by
 have e:(low st).set d (.c c)=low (st.set d (.c c)):=by cases d<;>rfl
 rw[e];simp only[low,St.mk.injEq,true_and];funext i;simp only[Ca];split
 ·rfl
 ·cases d<;>rfl
theorem Nq{op:SOp}{D:List Nat}{i:Nat}(h:(hid op D).contains i=true):D.contains i=true:=by
 unfold hid at h;split at h
 ·simp only[List.contains_eq_mem,List.mem_filter,decide_eq_true_eq]at h⊢;exact h.1
 ·exact h
theorem Rb{a b:SL}(q1:(a.dst.all fun d=> !b.looks.contains d&&b.dst !=some d)=true)(q2:(b.dst.all fun d=> !a.looks.contains d)=true)
  (q3:(a.op.hard=false∧b.op.hard=false∧(a.op.makes=true→(a.dst.all fun d=>(hid b.op D).contains d)=true)∧(b.op.makes=true→(b.dst.all fun d=>(hid a.op D).contains d)=true))∨(∃k,a.own A=none∧b.own A=some k∧a.op.hard=false∧(hid a.op D).contains k=true)∨(∃k,a.own A=some k∧b.own A=none∧b.op.hard=false∧(hid b.op D).contains k=true)):CG A D a b=true:=by
 unfold CG FE;rw[q1,q2];rcases q3 with⟨h1,h2,h3,h4⟩|⟨k,h1,h2,h3,h4⟩|⟨k,h1,h2,h3,h4⟩
 ·rw[h1,h2]
  have e3:(!a.op.makes||(a.dst.all fun d=>(hid b.op D).contains d))=true:=by
   cases hm:a.op.makes with
   |false=>rfl
   |true=>rw[h3 hm];rfl
  have e4:(!b.op.makes||(b.dst.all fun d=>(hid a.op D).contains d))=true:=by
   cases hm:b.op.makes with
   |false=>rfl
   |true=>rw[h4 hm];rfl
  rw[e3,e4];rfl
 ·rw[h1,h2,h3];simp only[h4];simp
 ·rw[h1,h2,h3];simp only[h4];simp
theorem W1{a b:SL}(ha:a.op.calls=true)(h:CG A D a b=true):(a.dst.all fun d=> !b.looks.contains d&&b.dst !=some d)=true∧(b.dst.all fun d=> !a.looks.contains d)=true∧
  ((b.op.hard=false∧(b.op.makes=true→(b.dst.all fun d=>(hid a.op D).contains d)=true))∨∃k,b.own A=some k∧(hid a.op D).contains k=true):=by
 have h1:a.op.grows=false:=by revert ha;cases a.op<;>simp[SOp.calls,SOp.grows]
 have h2:a.op.calm=false:=by revert ha;cases a.op<;>simp[SOp.calls,SOp.calm]
 have h3:a.op.still=false:=by revert ha;cases a.op<;>simp[SOp.calls,SOp.still]
 have h5:a.op.moves=false:=by revert ha;cases a.op<;>simp[SOp.calls,SOp.moves]
 have h6:a.op.loads=false:=by revert ha;cases a.op<;>simp[SOp.calls,SOp.loads]
 have h7:a.op.copies=false:=by revert ha;cases a.op<;>simp[SOp.calls,SOp.copies]
 have h8:a.op.flat=false:=by revert ha;cases a.op<;>simp[SOp.calls,SOp.flat]
 unfold CG FE at h;rw[MB ha,MC ha,h1,h2,h3,h5,h6,h7,h8]at h;simp only[Bool.not_false,Bool.true_and,Bool.false_and,Bool.and_false,Bool.or_false]at h;rw[Aj]at h;rcases h with h|h
 ·simp only[Af,Aj,Bool.not_eq_true']at h;refine⟨?_, ?_,.inl ⟨h.2.1.1,fun hm=> ?_⟩⟩
  ·simpa only[Af,Bool.not_eq_true']using h.1.1
  ·simpa only[Bool.not_eq_true']using h.1.2
  ·rcases h.2.2 with h4|h4
   ·rw[hm]at h4;cases h4
   ·exact h4
 ·rw[Af,Af]at h;refine⟨h.1.1,h.1.2,.inr ?_⟩;have h4:=h.2;split at h4
  ·rename_i hn _;cases hn
  ·rename_i hn _;cases hn
  ·rename_i k _ hb;exact⟨k,hb,h4⟩
  ·cases h4
theorem W2{a b:SL}(hb:b.op.calls=true)(h:CG A D a b=true):(a.dst.all fun d=> !b.looks.contains d&&b.dst !=some d)=true∧(b.dst.all fun d=> !a.looks.contains d)=true∧
  ((a.op.hard=false∧(a.op.makes=true→(a.dst.all fun d=>(hid b.op D).contains d)=true))∨∃k,a.own A=some k∧(hid b.op D).contains k=true):=by
 have h1:b.op.entry=false:=by revert hb;cases b.op<;>simp[SOp.calls,SOp.entry]
 have h2:b.op.stores=false:=by revert hb;cases b.op<;>simp[SOp.calls,SOp.stores]
 have h3:b.op.tame=false:=by revert hb;cases b.op<;>simp[SOp.calls,SOp.tame]
 have h5:b.op.grows=false:=by revert hb;cases b.op<;>simp[SOp.calls,SOp.grows]
 have h6:b.op.puts=false:=by revert hb;cases b.op<;>simp[SOp.calls,SOp.puts]
 have h7:b.op.copies=false:=by revert hb;cases b.op<;>simp[SOp.calls,SOp.copies]
 have h8:b.op.flat=false:=by revert hb;cases b.op<;>simp[SOp.calls,SOp.flat]
 unfold CG FE at h;rw[MB hb,MC hb,h1,h2,h3,h5,h6,h7,h8]at h;simp only[Bool.not_false,Bool.true_and,Bool.false_and,Bool.and_false,Bool.or_false]at h;rw[Aj]at h;rcases h with h|h
 ·simp only[Af,Aj,Bool.not_eq_true']at h;refine⟨?_, ?_,.inl ⟨h.2.1,fun hm=> ?_⟩⟩
  ·simpa only[Af,Bool.not_eq_true']using h.1.1
  ·simpa only[Bool.not_eq_true']using h.1.2
  ·rcases h.2.2.1 with h4|h4
   ·rw[hm]at h4;cases h4
   ·exact h4
 ·rw[Af,Af]at h;refine⟨h.1.1,h.1.2,.inr ?_⟩;have h4:=h.2;split at h4
  ·rename_i hn;cases hn
  ·rename_i k ha _;exact⟨k,ha,h4⟩
  ·rename_i hn;cases hn
  ·cases h4
theorem PA{d:Option Nat}{op:SOp}(h:(d.all fun d=>(hid op D).contains d)=true):(d.all fun d=>D.contains d)=true:=by
 cases d with
 |none=>rfl
 |some d=>exact Nq h
theorem W3{a b:SL}(ha:a.op.calls=true)(c:CV)(h:CG A D a b=true):CG A D (Jw a.dst c) b=true:=by
 obtain⟨q1,q2,q3⟩:=W1 ha h;refine Rb q1 (by cases b.dst<;>rfl) ?_;rcases q3 with⟨q3,q4⟩|⟨k,q3,q4⟩
 ·exact .inl ⟨rfl,q3,fun hm=>(by cases hm),fun hm=>PA (q4 hm)⟩
 ·exact .inr (.inl ⟨k,rfl,q3,rfl,Nq q4⟩)
theorem W4{a b:SL}(hb:b.op.calls=true)(c:CV)(h:CG A D a b=true):CG A D a (Jw b.dst c)=true:=by
 obtain⟨q1,q2,q3⟩:=W2 hb h;refine Rb ?_ q2 ?_
 ·cases ha:a.dst with
  |none=>rfl
  |some d=>
   rw[ha]at q1;simp only[Option.all_some,Af]at q1⊢;exact⟨rfl,q1.2⟩
 ·rcases q3 with⟨q3,q4⟩|⟨k,q3,q4⟩
  ·exact .inl ⟨q3,rfl,fun hm=>PA (q4 hm),fun hm=>(by cases hm)⟩
  ·exact .inr (.inr ⟨k,q3,rfl,rfl,Nq q4⟩)
theorem Tq{st:St}{d:Option Nat}{v:SV}{i:Nat}(h:d≠some i):(st.set d v).fr i=st.fr i:=by
 cases d with
 |none=>rfl
 |some d=>exact A0 _ _ (fun e=>h (by rw[e]))
theorem NG{s t:St}(h1:low s=low t)(h2:∀i,As≤i→s.ob i=t.ob i):s=t:=by
 obtain⟨f1,o1⟩:=s;obtain⟨f2,o2⟩:=t;simp only[low,St.mk.injEq]at h1;simp only[St.mk.injEq];refine⟨h1.1,funext fun i=> ?_⟩;by_cases hi:As≤i
 ·exact h2 i hi
 ·have:=congrFun h1.2 i;simp only[Ca,if_neg hi]at this;exact this
theorem Zr{a b:SL}(hf:CG A D a b=true)(hcc:(a.op.calls&&b.op.calls)=false)(la:Em A D a)(lb:Em A D b){st s1 s2:St}(h1:evR E A D a st=some s1)(h2:evR E A D b s1=some s2):∃s,evR E A D b st=some s∧evR E A D a s=some s2:=by
 have hcl:Cl st:=(I1 h1).1
 have g1:(a.dst.all fun d=> !b.looks.contains d&&b.dst !=some d)=true∧(b.dst.all fun d=> !a.looks.contains d)=true:=by
  unfold CG FE at hf;rw[Aj]at hf;rcases hf with hf|hf
  ·rw[Af,Af]at hf;exact hf.1
  ·rw[Af,Af]at hf;exact hf.1
 have hab:∀i∈b.looks,a.dst≠some i:=fun i hi e=>by
  have:=g1.1;rw[e]at this;simp[hi]at this
 have hba:∀i∈a.looks,b.dst≠some i:=fun i hi e=>by
  have:=g1.2;rw[e]at this;simp[hi]at this
 cases ha:BN E.named a st.fr with
 |some q=>
  have hac:=Ml ha;have hbc:b.op.calls=false:=by rw[hac]at hcc;simpa using hcc
  have hbt:∀fr,BN E.named b fr=none:=fun fr=>by
   cases ht:BN E.named b fr with
   |none=>rfl
   |some q'=>have:=Ml ht;rw[hbc]at this;cases this
  obtain⟨c,hi,rfl,hform⟩:=MZ ha h1;obtain⟨k1,k2⟩:=Ln lb (hbt _) h2;rw[Le]at k1;have hset:evT E.named A D (Jw a.dst c) (low st)=some ((low st).set a.dst (.c c)):=LU;obtain⟨t,t1,t2⟩:=KH (W3 hac c hf) (fun hm=>by cases hm) lb.makes hset k1;rw[LU,Ac]at t2;obtain⟨m1,m2⟩:=Lo lb hcl (hbt _) t1;have hcs:Cl (merge t st):=NV lb (hbt _) m1;refine⟨merge t st,m1, ?_⟩;rw[hform (merge t st) (fun i hi'=>Lm lb t1 (hba i hi')) (fun i hi'=>by show(if As≤i then st.ob i else t.ob i)=_;rw[if_pos hi']) hcs,Ac];refine NG ?_ fun i hi'=> ?_
  ·rw[Le,m2,t2]
  ·rw[k2 i hi'];show(if As≤i then hi i else(merge t st).ob i)=if As≤i then hi i else st.ob i;rw[if_pos hi',if_pos hi']
 |none=>
  obtain⟨j1,j2⟩:=Ln la ha h1;have hfa:∀i∈b.looks,s1.fr i=st.fr i:=fun i hi=>Lm la j1 (hab i hi)
  cases hb:BN E.named b s1.fr with
  |none=>
   obtain⟨k1,k2⟩:=Ln lb hb h2;obtain⟨t,t1,t2⟩:=KH hf la.makes lb.makes j1 k1;have hb':BN E.named b st.fr=none:=by rw[←Mm hfa];exact hb
   obtain⟨m1,m2⟩:=Lo lb hcl hb' t1;have hcs:Cl (merge t st):=NV lb hb' m1
   have ha':BN E.named a (merge t st).fr=none:=by
    rw[Mm (fr':=st.fr) (show ∀i∈a.looks,(merge t st).fr i=st.fr i from fun i hi=>Lm lb t1 (hba i hi))];exact ha
   rw[←m2]at t2;obtain⟨n1,n2⟩:=Lo la hcs ha' t2;refine⟨merge t st,m1, ?_⟩;rw[n1,Ac];refine NG n2 fun i hi=> ?_;rw[k2 i hi,j2 i hi];show(if As≤i then(if As≤i then st.ob i else t.ob i)else _)=_;rw[if_pos hi,if_pos hi]
  |some q=>
   have hbc:=Ml hb;obtain⟨c,hi,rfl,hform⟩:=MZ hb h2;have hset:evT E.named A D (Jw b.dst c) (low s1)=some ((low s1).set b.dst (.c c)):=LU;obtain⟨t,t1,t2⟩:=KH (W4 hbc c hf) la.makes (fun hm=>by cases hm) j1 hset;rw[LU,Ac]at t1;subst t1;have m1:=hform st (fun i hi=>(hfa i hi).symm) (fun i hi=>(j2 i hi).symm) hcl;refine⟨_,m1, ?_⟩;have hcs:=Q4 hcl b.dst c hi
   have ha':BN E.named a (st.set b.dst (.c c)).fr=none:=by
    rw[Mm (fr':=st.fr) fun i hi=>Tq (hba i hi)];exact ha
   rw[←Le b.dst c hi]at t2;obtain⟨n1,n2⟩:=Lo la hcs ha' t2;rw[n1,Ac];refine NG ?_ fun i hi'=> ?_
   ·rw[n2,Le]
   ·show(if As≤i then(if As≤i then hi i else st.ob i)else _)=if As≤i then hi i else s1.ob i;rw[if_pos hi',if_pos hi',if_pos hi']
end
def Dt(step:SL→St→Option St)(ls:List SL):List Nat→St→Option St
 | [],st=>some st
 |i::is,st=>match ls[i]? with
  |some l=>(step l st).bind (Dt step ls is)
  |none=>none
section
variable {step:SL→St→Option St} {R:SL→SL→Prop} {ops:Array Oper} {ls:List SL}
theorem RT(hsw:∀a b st s1 s2,R a b→step a st=some s1→step b s1=some s2→∃s,step b st=some s∧step a s=some s2){i:Nat}{b:SL}(hb:ls[i]? =some b)(q:List Nat):∀(p:List Nat) {st st':St},(∀j∈p,∃a,ls[j]? =some a∧R a b)→Dt step ls (p++i::q) st=some st'→Dt step ls (i::(p++q)) st=some st'
 | [],_,_,_,h=>h
 |j::p,st,st',hf,h=>by
  obtain⟨a,ha,hfr⟩:=hf j (by simp);simp only[List.cons_append,Dt,ha,Ab]at h;obtain⟨s1,h1,h2⟩:=h;have h3:=RT hsw hb q p (fun j hj=>hf j (by simp[hj])) h2;simp only[Dt,hb,Ab]at h3;obtain⟨s2,h3,h4⟩:=h3;obtain⟨s,g1,g2⟩:=hsw a b st s1 s2 hfr h1 h3;simp only[List.cons_append,Dt,hb,ha,g1,g2,Option.bind_some,h4]
theorem WP(hsw:∀a b st s1 s2,R a b→step a st=some s1→step b s1=some s2→∃s,step b st=some s∧step a s=some s2)(hlen:ls.length=ops.size)
  (hfree:∀j<ls.length,∀i<j,Fz ops ls.length i j=true∨∃x y,ls[i]? =some x∧ls[j]? =some y∧R x y) {L:Array Bool} {is:List Nat} (hg:CB ops L is):
  (∀i o,L.getD i false=true→ops[i]? =some o→∀e∈o.after,Region.binds .any e=true→L.getD e.on false=true)→L.size=ops.size→∀{st st':St},Dt step ls (left ops.size L) st=some st'→Dt step ls is st=some st':=by
 induction hg with
 |nil h=>
  intro _ _ st st' hv;rw[h]at hv;exact hv
 | @cons L i is hi hL he hg ih=>
  intro hdown hsz st st' hv;obtain⟨p,q,e1,e2,e3⟩:=KX ops.size L i hi hL;have hb:ls[i]? =some (ls[i]'(by omega)):=Ai _;rw[e1]at hv
  have hv':=RT hsw hb q p (fun j hj=>by
   obtain⟨hji,hjL⟩:=e3 j hj;rcases hfree i (by omega) j hji with ha|⟨x,y,hx,hy,hf⟩
   ·have:=JM hdown _ j i he ha;have hjs:j<L.size:=by omega
    simp[Array.getD_eq_getD_getElem?,Array.getElem?_eq_getElem hjs]at this hjL;rw[this]at hjL;cases hjL
   ·rw[hb]at hy;cases hy
    exact⟨x,hx,hf⟩) hv
  simp only[Dt,hb,Ab]at hv'⊢;obtain⟨s,h1,h2⟩:=hv';refine⟨s,h1,ih ?_ (by simp[hsz]) (by rw[e2];exact h2)⟩;intro k o hk ho e hem heb;rw[Ht L i _ _ hL]at hk⊢;split
  ·rfl
  ·split at hk
   ·rename_i e';subst e';exact he o ho e hem heb
   ·exact hdown k o hk ho e hem heb
end
def N9(A:List Nat)(l:SL):Bool:=(!l.op.hard||(match l.own A with
 |some k=>Nat.blt k As
 |none=>false))&&l.dst.all fun j=>Nat.blt j As
def Kh(P:Program)(ops:Array Oper)(A D:List Nat)(ls:List SL):Bool:=
 (ls.any fun l=>l.op.calls)&&(ls.all (N9 A))&&CO P ops A D ls&&
 ((List.range ls.length).all fun j=>match ls[j]? with
   |some y=> !y.op.calls||(List.range j).all fun i=>((D5 ops ls.length).getD j 0).testBit i||match ls[i]? with
    |some x=> !x.op.calls
    |none=>false
   |none=>false)
section
variable {P:Program} {E:Env} {n:Nat} {ops:Array Oper} {A D:List Nat} {ls:List SL}
theorem Xt{l:SL}(h:N9 A l=true)(hm:l.op.makes=true→∀j,l.dst=some j→D.contains j=true):Em A D l:=by
 simp only[N9,Af,Aj,Bool.not_eq_true']at h;refine⟨fun hh=> ?_,fun j hj=> ?_,hm⟩
 ·rcases h.1 with h1|h1
  ·rw[hh]at h1;cases h1
  ·split at h1
   ·rename_i k hk;exact⟨k,hk,Nat.lt_of_succ_le (Ah h1)⟩
   ·cases h1
 ·have:=h.2;rw[hj]at this;exact Nat.lt_of_succ_le (Ah this)
noncomputable def lsR(E:Env)(A D:List Nat):List SL→St→Option St
 | [],st=>some st
 |l::ls,st=>(evR E A D l st).bind (lsR E A D ls)
theorem ZJ{l:SL}{st s:St}{a:Nat}(hl:l.own A=some a)(h:CQ E D l st=some s)(hf:st.fr a=.undef):False:=by
 obtain⟨n,x,h1,h2⟩:=FP hl;unfold CQ B3 at h;rw[h2]at h;simp only[h1,A4,SOp.cls,AY]at h;rw[show so E.G st.fr (.t a)=.undef from hf]at h;cases h
theorem Sn:∀(ls:List SL) (m:List Nat) {st s:St},(∀l∈ls,Em A D l)→(∀a∈m,st.fr a=.ptr a 0∨st.fr a=.undef)→Cl st→HB A m ls=true→EJ E.named D ls st=some s→lsR E A D ls st=some s
 | [],_,_,_,_,_,_,_,h=>h
 |l::ls,m,st,s,hok,hm,hcl,hk,h=>by
  simp only[EJ,Ab]at h;obtain⟨s1,h1,h2⟩:=h;simp only[HB,Af]at hk;obtain⟨k1,k2⟩:=hk;have hlo:=hok l (by simp)
  have hos:okS A l st=true:=by
   unfold okS
   cases hl:l.own A with
   |none=>rfl
   |some a=>
    rw[hl]at k1;simp only[List.contains_iff_mem]at k1;rcases hm a k1 with e|e
    ·simp[e]
    ·exact(ZJ hl h1 e).elim
  have hev:=Kq hcl hos h1;simp only[lsR,hev,Option.bind_some]
  have hnext:Cl s1∧(∀i,l.dst≠some i→s1.fr i=st.fr i):=by
   cases ht:BN E.named l st.fr with
   |none=>
    refine⟨NV hlo ht hev,fun i hi=> ?_⟩;exact Lm hlo (Ln hlo ht hev).1 hi
   |some q=>
    obtain⟨c,hi,rfl,_⟩:=MZ ht hev;exact⟨Q4 hcl _ _ _,fun i hd=>Tq hd⟩
  refine Sn ls _ (fun l hl=>hok l (by simp[hl])) ?_ hnext.1 k2 h2
  have hkeep:∀a∈m,l.dst≠some a→s1.fr a=.ptr a 0∨s1.fr a=.undef:=by
   intro a ha hd;rw[hnext.2 a hd];exact hm a ha
  intro a ha;unfold NR at ha;split at ha
  ·rename_i z d g1 g2 g3;by_cases had:a=d
   ·subst had;unfold CQ B3 at h1;simp only[g2,g1,A4,SOp.cls,Bw,Option.bind_some,g3,Option.getD_some,By]at h1;split at h1
    ·cases h1;exact .inl (AZ _ _ _)
    ·cases h1
   ·rcases List.mem_cons.1 ha with e|e
    ·exact(had e).elim
    ·exact hkeep a e (fun hh=>had (by rw[g3]at hh;cases hh;rfl))
  ·rename_i d g2 g1;rw[List.mem_filter]at ha;exact hkeep a ha.1 (fun hh=>by rw[g2]at hh;cases hh;simp at ha)
  ·rename_i g1;exact hkeep a ha (fun hh=>by rw[g1]at hh;cases hh)
theorem RE:∀(ls:List SL) (pre:List SL) (st:St),Dt (evR E A D) (pre++ls) (List.range' pre.length ls.length) st=lsR E A D ls st
 | [],_,_=>rfl
 |l::ls,pre,st=>by
  have h:=RE ls (pre++ [l]);simp only[List.length_append,List.length_cons,List.length_nil,List.append_assoc,List.cons_append,List.nil_append]at h;simp only[List.length_cons,List.range'_succ,Dt,lsR];rw[show(pre++l::ls)[pre.length]? =some l by simp];simp only
  congr 1
  funext s;exact h s
theorem VG(hc:Aq (De P n ops) ops.toList=some ls)(hd:Kh P ops A D ls=true){st st':St}(hcl:Cl st)(hv:EJ E.named D ls st=some st')(t:Nat):
  Dt (evR E A D) ls (Region.schedule (P.follows .mixedOrders) ops t) st=some st':=by
 have hlen:ls.length=ops.size:=by rw[DB hc];simp
 simp only[Kh,Af]at hd;obtain⟨⟨⟨_,hlb⟩,hdo⟩,hcb⟩:=hd;simp only[CO,Af]at hdo;obtain⟨⟨⟨⟨hm,hown⟩,hback⟩,hmk⟩,hfr⟩:=hdo
 have hmk':∀l∈ls,l.op.makes=true→∀j,l.dst=some j→D.contains j=true:=by
  intro l hl hmake j hj;rw[List.all_eq_true]at hmk;have:=hmk l hl;simpa[hmake,hj]using this
 have hok:∀l∈ls,Em A D l:=fun l hl=>by
  rw[List.all_eq_true]at hlb;exact Xt (hlb l hl) (hmk' l hl)
 have hv:=Sn ls [] hok (by simp) hcl hown hv;simp only[Region.schedule,hm,Bool.true_or,if_true,Region.linearise]
 have hleft:left ops.size (Array.replicate ops.size false)=List.range ops.size:=by
  simp only[left];rw[List.filter_eq_self];intro i hi;have:=List.mem_range.1 hi;simp[Array.getD_eq_getD_getElem?,this]
 have hback':∀i o,ops[i]? =some o→∀e∈o.after,Region.binds .any e=true→e.on<i:=by
  intro i o ho e he hb;rw[List.all_eq_true]at hback
  have hmem:(o,i)∈ops.toList.zipIdx:=by
   rw[List.mem_zipIdx_iff_getElem?];simpa using ho
  have:=hback _ hmem;rw[Array.all_eq_true']at this;have:=this e he;simpa[hb]using this
 refine WP (R:=fun a b=>CG A D a b=true∧(a.op.calls&&b.op.calls)=false∧Em A D a∧Em A D b) (fun a b st s1 s2 hR h1 h2=>Zr hR.1 hR.2.1 hR.2.2.1 hR.2.2.2 h1 h2) hlen ?_ (IQ hback' ops.size t _ (by simp) (by rw[hleft];simp)) ?_ (by simp) ?_
 ·intro j hj i hij;rw[List.all_eq_true]at hfr hcb;have h1:=hfr j (List.mem_range.2 hj);rw[List.all_eq_true]at h1;have h1:=h1 i (List.mem_range.2 hij);rw[Aj]at h1;rcases h1 with h|h
  ·rw[FK ops hj]at h;exact .inl (H6 ops hj h)
  ·have hcj:=hcb j (List.mem_range.2 hj);split at h
   ·rename_i x y hx hy;rw[hy]at hcj;simp only[Aj,Bool.not_eq_true',List.all_eq_true]at hcj;have hx':=List.mem_of_getElem? hx;have hy':=List.mem_of_getElem? hy;rcases hcj with hcj|hcj
    ·exact .inr ⟨x,y,hx,hy,h,by rw[hcj,Bool.and_false],hok x hx',hok y hy'⟩
    ·rcases hcj i (List.mem_range.2 hij)with h2|h2
     ·rw[FK ops hj]at h2;exact .inl (H6 ops hj h2)
     ·rw[hx]at h2;simp only[Bool.not_eq_true']at h2;exact .inr ⟨x,y,hx,hy,h,by rw[h2,Bool.false_and],hok x hx',hok y hy'⟩
   ·cases h
 ·intro i o hi;exfalso;rw[Array.getD_eq_getD_getElem?,Array.getElem?_replicate]at hi;split at hi<;>cases hi
 ·rw[hleft,List.range_eq_range',←hlen];have:=RE (E:=E) (A:=A) (D:=D) ls [] st;simp only[List.nil_append,List.length_nil]at this;rw[this];exact hv
variable {w0:WL} {M0:MM}
theorem Tk(hE:EOk P E)(hc:Aq (De P n ops) ops.toList=some ls){Q:Exit→Act→World→Prop}:∀{is:List Nat} {st st':St} {a:Act} {w:World} {z:Cz},SR P E.G w0 M0 n st a w z→
  Dt (evR E A D) ls is st=some st'→(∀a' w' z',SR P E.G w0 M0 n st' a' w' z'→Q .normal a' w')→wpOps P ops Q is a w
 | [],st,st',a,w,z,h,hv,hK=>by
  simp only[Dt,Ac]at hv;subst hv;exact hK _ _ _ h
 |i::is,st,st',a,w,z,h,hv,hK=>by
  simp only[Dt]at hv;split at hv<;>(try cases hv;done);rename_i l hl;simp only[Ab]at hv;obtain⟨st1,h1,h2⟩:=hv;have hlen:=DB hc;have hi:i<ops.toList.length:=by rw[←hlen];exact(Ae.1 hl).1
  have ho:ops.toList[i]? =some (ops.toList[i]):=Ai hi;obtain⟨l',g1,g2⟩:=If hc ho;rw[hl]at g1;simp only[Ac]at g1;subst g1;have ho':ops[i]? =some (ops.toList[i]):=by rw[←Array.getElem?_toList];exact ho
  obtain⟨hcl,_,h1⟩:=I1 h1;refine QL (E:=E.named) hE.named h (rd:=A2 (some (hid l.op D)) (Ca st.ob)) (fun id=> ?_) ho' g2 h1 fun a' w' z' hS=>Tk hE hc hS h2 hK;simp only[A2,Ca];split
  ·exact .inl rfl
  ·split
   ·exact .inl rfl
   ·exact .inr rfl
end
def pos(π:List Nat)(i:Nat):Nat:=π.idxOf i
def HH(π:List Nat)(o:Oper):Oper:={o with after:=o.after.map fun e=>{e with on:=pos π e.on}}
def FR(π:List Nat)(ops:Array Oper):Array Oper:=(π.filterMap fun i=>(ops[i]?).map (HH π)).toArray
def permL(π:List Nat)(ls:List SL):List SL:=π.filterMap fun i=>ls[i]?
def FQ(π:List Nat)(L:Array Bool):Array Bool:=(π.map fun j=>L.getD j true).toArray
def CT(n:Nat)(π:List Nat):Bool:=π.length==n&&((List.range n).all fun k=>π.contains k&&Nat.blt (π.getD k n) n&&pos π (π.getD k n)==k)
theorem Ng{α β:Type}{f:α→Option β}:∀{l:List α},(∀x∈l,(f x).isSome=true)→∀k:Nat,(l.filterMap f)[k]? =(l[k]?).bind f
 | [],_,k=>by simp
 |x::l,h,k=>by
  obtain⟨y,hy⟩:=Option.isSome_iff_exists.1 (h x (by simp));rw[List.filterMap_cons_some hy]
  cases k with
  |zero=>simp[hy]
  |succ k=>simpa using Ng (fun z hz=>h z (by simp[hz])) k
section
variable {n:Nat} {π:List Nat}
theorem GF(hp:CT n π=true):π.length=n:=by
 simp only[CT,Af,beq_iff_eq]at hp;exact hp.1
theorem L1(hp:CT n π=true){k:Nat}(hk:k<n):∃j,π[k]? =some j∧j<n∧pos π j=k:=by
 have hlen:=GF hp;simp only[CT,Af,List.all_eq_true,List.mem_range]at hp;have h:=hp.2 k hk;have e:π[k]? =some (π[k]'(by omega)):=Ai _;simp only[List.getD_eq_getElem?_getD,e,Option.getD_some,beq_iff_eq]at h;exact⟨_,e,by simpa using h.1.2,h.2⟩
theorem Yi(hp:CT n π=true){i:Nat}(hi:i<n):i∈π:=by
 simp only[CT,Af,List.all_eq_true,List.mem_range]at hp;simpa using(hp.2 i hi).1.1
theorem Jg(hp:CT n π=true){i:Nat}(hi:i<n):pos π i<n∧π[pos π i]? =some i:=by
 have h:=Yi hp hi;have h1:π.idxOf i<π.length:=List.idxOf_lt_length_iff.2 h;refine⟨by rw[←GF hp];exact h1, ?_⟩;unfold pos;rw[Ai h1,List.getElem_idxOf]
theorem LA(hp:CT n π=true){j:Nat}(h:j∈π):j<n:=by
 obtain⟨k,hk⟩:=List.getElem?_of_mem h;have hkn:k<n:=by rw[←GF hp];exact(Ae.1 hk).1
 obtain⟨j',h1,h2,_⟩:=L1 hp hkn;rw[hk]at h1;cases h1;exact h2
theorem Oh(hp:CT n π=true){L:Array Bool}{i:Nat}(hi:i<n)(b:Bool)(hL:L.size=n):(FQ π L).getD (pos π i) b=L.getD i b:=by
 obtain⟨h1,h2⟩:=Jg hp hi;simp[FQ,Array.getD_eq_getD_getElem?,h2,Array.getElem?_eq_getElem (show i<L.size by omega)]
theorem Ye(hp:CT n π=true){L:Array Bool}{i:Nat}(hi:i<n)(hL:L.getD i true=false):FQ π (L.setIfInBounds i true)=(FQ π L).setIfInBounds (pos π i) true:=by
 obtain⟨h1,h2⟩:=Jg hp hi;have hlen:=GF hp;apply Array.ext_getElem?;intro k;simp only[FQ,List.getElem?_toArray,List.getElem?_map,Array.getElem?_setIfInBounds,List.size_toArray,List.length_map];by_cases hk:k<n
 ·obtain⟨j,g1,g2,g3⟩:=L1 hp hk;simp only[g1,Option.map_some,Ht L i j true hL];by_cases hj:j=i
  ·subst hj;simp[g3,hlen,hk]
  ·have:¬pos π i=k:=fun e=>hj (by rw[e,g1]at h2;exact Option.some.inj h2);simp[hj,this]
 ·have e:π[k]? =none:=List.getElem?_eq_none (by omega);have:¬pos π i=k:=by omega
  simp[e,this]
end
theorem Yh{π:List Nat}{ops:Array Oper}(hp:CT ops.size π=true){i:Nat}(hi:i<ops.size):(FR π ops)[pos π i]? =(ops[i]?).map (HH π):=by
 obtain⟨h1,h2⟩:=Jg hp hi;simp only[FR,List.getElem?_toArray];rw[Ng (fun x hx=> ?_),h2]
 ·rfl
 ·have:=LA hp hx;simp[Array.getElem?_eq_getElem this]
theorem L0{π:List Nat}{ops:Array Oper}(hp:CT ops.size π=true):(FR π ops).size=ops.size:=by
 have h:(π.filterMap fun i=>(ops[i]?).map (HH π)).length=π.length:=by
  have:∀(l:List Nat),(∀x∈l,x<ops.size)→(l.filterMap fun i=>(ops[i]?).map (HH π)).length=l.length:=by
   intro l
   induction l with
   |nil=>intro _;rfl
   |cons x l ih=>
    intro h;rw[List.filterMap_cons_some (b:=HH π (ops[x]'(h x (by simp)))) (by simp[Array.getElem?_eq_getElem (h x (by simp))])];simp[ih fun y hy=>h y (by simp[hy])]
  exact this π fun x hx=>LA hp hx
 simp only[FR,List.size_toArray,h,GF hp]
theorem WO{π:List Nat}{ops:Array Oper}(hp:CT ops.size π=true){L:Array Bool}{is:List Nat}(hg:CB ops L is):L.size=ops.size→CB (FR π ops) (FQ π L) (is.map (pos π)):=by
 induction hg with
 | @nil L h=>
  intro hs;refine .nil ?_;simp only[left]at h⊢;rw[List.filter_eq_nil_iff]at h⊢;intro k hk;rw[List.mem_range,L0 hp]at hk;obtain⟨j,g1,g2,g3⟩:=L1 hp hk;have:=h j (List.mem_range.2 g2);rw[←g3,Oh hp g2 _ hs];exact this
 | @cons L i is hi hL he hg ih=>
  intro hs;have hq:=Jg hp hi;refine .cons (by rw[L0 hp];exact hq.1) (by rw[Oh hp hi _ hs];exact hL) ?_ ?_
  ·intro o' ho' e' he' hb;rw[Yh hp hi]at ho';obtain⟨o,ho,rfl⟩:=Aa.1 ho';simp only[HH,Array.mem_map]at he';obtain⟨e,hem,rfl⟩:=he';have h1:=he o ho e hem hb
   have h2:e.on<ops.size:=by
    rw[←hs];rw[Array.getD_eq_getD_getElem?]at h1;by_cases hh:e.on<L.size
    ·exact hh
    ·simp[Array.getElem?_eq_none (Nat.le_of_not_lt hh)]at h1
   rw[Oh hp h2 _ hs];exact h1
  ·rw[←Ye hp hi hL];exact ih (by simp[hs])
section
variable {P:Program} {E:Env} {ops:Array Oper} {A D:List Nat} {ls:List SL}
theorem U2(h:(ops.toList.zipIdx.all fun p=>p.1.after.all fun e=> !(Region.binds .any e)||decide (e.on<p.2))=true):∀i o,ops[i]? =some o→∀e∈o.after,Region.binds .any e=true→e.on<i:=by
 intro i o ho e he hb;rw[List.all_eq_true]at h
 have hmem:(o,i)∈ops.toList.zipIdx:=by
  rw[List.mem_zipIdx_iff_getElem?];simpa using ho
 have:=h _ hmem;rw[Array.all_eq_true']at this;have:=this e he;simpa[hb]using this
theorem N7(n:Nat):left n (Array.replicate n false)=List.range n:=by
 simp only[left];rw[List.filter_eq_self];intro i hi;have:=List.mem_range.1 hi;simp[Array.getD_eq_getD_getElem?,this]
theorem Q1(hlen:ls.length=ops.size)(hd:CO P ops A D ls=true){st st':St}(hv:BU E (some D) ls st=some st'){is:List Nat}(hg:CB ops (Array.replicate ops.size false) is):
  Cq E (some D) ls is st=some st':=by
 simp only[CO,Af]at hd;obtain⟨⟨⟨⟨hm,hown⟩,hback⟩,hmk⟩,hfr⟩:=hd;have hv:=Of ls [] (by simp) hown hv;refine LT (A:=A) _ ?_;refine Nn hlen ?_ hg ?_ (by simp) ?_ ?_
 ·intro j hj i hij;rw[List.all_eq_true]at hfr;have:=hfr j (List.mem_range.2 hj);rw[List.all_eq_true]at this;have:=this i (List.mem_range.2 hij);rw[Aj]at this;rcases this with h|h
  ·rw[FK ops hj]at h;exact .inl (H6 ops hj h)
  ·refine .inr ?_;split at h
   ·rename_i x y hx hy;exact⟨x,y,hx,hy,h⟩
   ·cases h
 ·intro i o hi;exfalso;rw[Array.getD_eq_getD_getElem?,Array.getElem?_replicate]at hi;split at hi<;>cases hi
 ·intro k _ l hl hmake j hj;rw[List.all_eq_true]at hmk;have:=hmk l (List.mem_of_getElem? hl);simpa[hmake,hj]using this
 ·rw[N7,List.range_eq_range',←hlen];have:=Lf (E:=E) (A:=A) (D:=D) ls [] st;simp only[List.nil_append,List.length_nil]at this;rw[this];exact hv
def N3(ops:Array Oper)(ls:List SL):Nat→List Nat→List Nat
 |0,π=>π.reverse
 |k+1,π=>
  let ready:=(List.range ls.length).filter fun i=> !π.contains i&&((ops[i]?).map fun o=>o.after.all fun e=> !(Region.binds .any e)||π.contains e.on).getD false
  match ready.find? fun i=>(ls[i]?).all fun l=>match l.op with| .load .. =>false|_=>true with
  |some i=>N3 ops ls k (i::π)
  |none=>match ready with
   |i::_=>N3 ops ls k (i::π)
   | []=>π.reverse
def IK(ops:Array Oper)(ls:List SL):List Nat:=N3 ops ls ls.length []
def Uz(ops:Array Oper):Bool:=ops.toList.zipIdx.all fun p=>p.1.after.all fun e=> !(Region.binds .any e)||decide (e.on<p.2)
def MX(P:Program)(ops:Array Oper)(π A D:List Nat)(ls:List SL):Bool:=CT ops.size π&&Uz ops&&CO P (FR π ops) A D (permL π ls)
theorem Rj{L:Array Bool}{is:List Nat}(hg:CB ops L is):∀i∈is,i<ops.size:=by
 induction hg with
 |nil h=>intro i hi;cases hi
 |cons hi _ _ _ ih=>
  intro j hj;rcases List.mem_cons.1 hj with rfl|hj
  ·exact hi
  ·exact ih j hj
theorem Yf{π:List Nat}(hlen:ls.length=ops.size)(hp:CT ops.size π=true){i:Nat}(hi:i<ops.size):(permL π ls)[pos π i]? =ls[i]? :=by
 obtain⟨h1,h2⟩:=Jg hp hi;unfold permL;rw[Ng (fun x hx=> ?_),h2]
 ·rfl
 ·have:=LA hp hx;simp[Ai (show x<ls.length by omega)]
theorem Yg{π:List Nat}(hlen:ls.length=ops.size)(hp:CT ops.size π=true):(permL π ls).length=ops.size:=by
 have:∀(l:List Nat),(∀x∈l,x<ls.length)→(l.filterMap fun i=>ls[i]?).length=l.length:=by
  intro l
  induction l with
  |nil=>intro _;rfl
  |cons x l ih=>
   intro h;rw[List.filterMap_cons_some (Ai (h x (by simp)))];simp[ih fun y hy=>h y (by simp[hy])]
 rw[←GF hp];exact this π fun x hx=>by rw[hlen];exact LA hp hx
theorem Tl{π:List Nat}(hlen:ls.length=ops.size)(hp:CT ops.size π=true):∀(is:List Nat) (st:St),(∀i∈is,i<ops.size)→Cq E (some D) (permL π ls) (is.map (pos π)) st=Cq E (some D) ls is st
 | [],_,_=>rfl
 |i::is,st,h=>by
  simp only[List.map_cons,Cq,Yf hlen hp (h i (by simp))];split
  ·congr 1
   funext s;exact Tl hlen hp is s fun j hj=>h j (by simp[hj])
  ·rfl
theorem VH{n:Nat}(hc:Aq (De P n ops) ops.toList=some ls){π:List Nat}(hd:MX P ops π A D ls=true){st st':St}(hv:BU E (some D) (permL π ls) st=some st')(t:Nat):
  Cq E (some D) ls (Region.schedule (P.follows .mixedOrders) ops t) st=some st':=by
 have hlen:ls.length=ops.size:=by rw[DB hc];simp
 simp only[MX,Af]at hd;obtain⟨⟨hp,hb⟩,hd⟩:=hd
 have hm:P.follows .mixedOrders=true:=by
  have h:=hd;simp only[CO,Af]at h;exact h.1.1.1.1
 simp only[Region.schedule,hm,Bool.true_or,if_true,Region.linearise];have hg:=IQ (U2 hb) ops.size t (Array.replicate ops.size false) (by simp) (by rw[N7];simp);have hg':=WO hp hg (by simp)
 have hA:FQ π (Array.replicate ops.size false)=Array.replicate (FR π ops).size false:=by
  rw[L0 hp];apply Array.ext_getElem?;intro k;simp only[FQ,List.getElem?_toArray,List.getElem?_map,Array.getElem?_replicate];by_cases hk:k<ops.size
  ·obtain⟨j,g1,g2,_⟩:=L1 hp hk;simp[g1,hk,Array.getD_eq_getD_getElem?,g2]
  ·have e:π[k]? =none:=List.getElem?_eq_none (by rw[GF hp];omega);simp[e,hk]
 rw[hA]at hg';have h:=Q1 (E:=E) (by rw[Yg hlen hp,L0 hp]) hd hv hg';rw[Tl hlen hp _ _ (Rj hg)]at h;exact h
end
end WB
