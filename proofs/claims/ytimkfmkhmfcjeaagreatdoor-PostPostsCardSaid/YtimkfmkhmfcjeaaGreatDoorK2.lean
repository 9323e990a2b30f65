/-
  OWN TEXTS, MERGED (wip/merge.py): CoreL, CoreM, CoreN, CoreO, CoreP, CoreQ, CoreR, CoreS, CoreT, CoreU, CoreUe, CoreV. No condition of their own.
-/
import Derived.Test.YtimkfmkhmfcjeaaGreatDoorK1
import Derived.Laws.BytesArg
import Derived.Maps.RangeRun
import Derived.Maps.AppendAt
set_option linter.unusedVariables false
set_option linter.unusedSimpArgs false
open Go.IntKind (i64 u64 u8 u32)
namespace WB
open Go Go.RowKit
section
variable {G:Nat→List CV} {P:Program} {w:World} {M:MM} {B:Nat} {z:Cz} {ob rd:Nat→Ob} {fr:Nat→SV} {a:Act}
theorem Cy{o:Oper}{s:Sem Value}{sv:SV}(he:execOp a.eval o=(do pure (.value (←s)):Sem Next))(h:∃v,s.run P w=.ok v w∧At w M z ob sv v):Yes P w M z ob a o sv:=by
 obtain⟨v,h1,h2⟩:=h;exact⟨v,by rw[he];simp[h1],h2⟩
theorem R7{op:BinOp}{x y:CV}{c:CV}(h:D9 op x y=some c):(∃k n,x=.int k n)∨(∃s,x=.str s):=by
 cases x<;>(try simp only[D9,reduceCtorEq]at h;done)
 ·exact .inl ⟨_,_,rfl⟩
 ·exact .inr ⟨_,rfl⟩
theorem Ks(h:Ctx P G w M B z ob fr a){op:BinOp}{t:TypeId}{x y:Operand}{sx sy:SO}(hx:Ap x=some sx)(hy:Ap y=some sy){sv:SV}(hv:Ao rd (so G fr) (.bin op sx sy)=some sv):
  ∃v,(do eqGuard op t x y (a.eval x) (a.eval y);binOp op t (a.eval x) (a.eval y):Sem Value).run P w=.ok v w∧At w M z ob sv v:=by
 have hr:=h.opd hx;have hr2:=h.opd hy;simp only[Ao]at hv;generalize so G fr sx=q at hr hv;generalize so G fr sy=q2 at hr2 hv;split at hv
 ·rename_i c1 c2;simp only[Aa]at hv;obtain⟨c,hc,rfl⟩:=hv;obtain⟨v,g1,g2⟩:=US (P:=P) (t:=t) hr hr2 hc;refine⟨v, ?_,g2⟩
  have hg:(eqGuard op t x y (a.eval x) (a.eval y)).run P w=.ok () w:=by
   rcases R7 hc with⟨k,n,rfl⟩|⟨s,rfl⟩
   ·rw[BJ (w:=w) (M:=M) hr];exact GH op t x y ⟨(fun _ hh=>by cases hh),(fun hh=>by cases hh)⟩
   ·rw[C3 (w:=w) (M:=M) hr];exact GH op t x y ⟨(fun _ hh=>by cases hh),(fun hh=>by cases hh)⟩
  simp[hg,g1]
 ·cases hv
theorem VI(h:Ctx P G w M B z ob fr a){op:BinOp}(hop:op=.eql∨op=.neq){t:TypeId}(hu:P.underlying t=some .bool){x y:Operand}{sx sy:SO}(hx:Ap x=some sx)(hy:Ap y=some sy){sv:SV}(hv:Ao rd (so G fr) (.beq (CO op) sx sy)=some sv):
  ∃v,(do eqGuard op t x y (a.eval x) (a.eval y);binOp op t (a.eval x) (a.eval y):Sem Value).run P w=.ok v w∧At w M z ob sv v:=by
 have hr:=h.opd hx;have hr2:=h.opd hy;simp only[Ao]at hv;generalize so G fr sx=q at hr hv;generalize so G fr sy=q2 at hr2 hv;split at hv
 ·rename_i b1 b2;simp only[Ac]at hv;subst hv;rw[CZ (w:=w) (M:=M) hr,CZ (w:=w) (M:=M) hr2];have hg:=GH (P:=P) (w:=w) op t x y (va:=.bool b1) (vb:=.bool b2) ⟨(fun _ hh=>by cases hh),(fun hh=>by cases hh)⟩;have hb:=UR (w:=w) hu b1 b2;refine⟨_, ?_,Dz (w:=w) (M:=M)⟩;rcases hop with rfl|rfl
  ·simp[hg,hb.1,CO]
  ·simp[hg,hb.2,CO]
 ·cases hv
theorem VN(h:Ctx P G w M B z ob fr a){op:BinOp}(hop:op=.eql∨op=.neq){t:TypeId}{fs:Array Field}(hu:P.underlying t=some (.struct fs))(hp:P.stoodInHeld t=false)(hq:P.eqGuardType P.depth t=false)
  {ts:List KT} (hk:Ec P 0 fs.toList=some ts) {x y:Operand} {sx sy:SO} (hx:Ap x=some sx) (hy:Ap y=some sy) {sv:SV} (hv:Ao rd (so G fr) (.eqs (CO op) ts sx sy)=some sv):
  ∃v,(do eqGuard op t x y (a.eval x) (a.eval y);binOp op t (a.eval x) (a.eval y):Sem Value).run P w=.ok v w∧At w M z ob sv v:=by
 have hr:=h.opd hx;have hr2:=h.opd hy;simp only[Ao]at hv;generalize so G fr sx=q at hr hv;generalize so G fr sy=q2 at hr2 hv;split at hv
 ·rename_i c1 c2;simp only[Aa]at hv;obtain⟨r,hr',rfl⟩:=hv;obtain⟨⟨xs,e1⟩,⟨ys,e2⟩,he⟩:=Qh (w:=w) (M:=M) hu hp hk hr hr2 hr';rw[e1,e2]at he⊢;have hg:=run_eqGuard_agg (P:=P) w op t x y xs ys hq;have he':=he 9998;refine⟨_, ?_,Dz (w:=w) (M:=M)⟩;rcases hop with rfl|rfl
  ·simp[hg,run_eql_struct,he',CO]
  ·simp[hg,run_neq_struct,he',CO]
 ·cases hv
theorem Wd(h:Ctx P G w M B z ob fr a){op:UnOp}{x:Operand}{sx:SO}(hx:Ap x=some sx){sv:SV}(hv:Ao rd (so G fr) (.un op sx)=some sv):
  ∃v,(Op.unary op (a.eval x)).run P w=.ok v w∧At w M z ob sv v:=by
 have hr:=h.opd hx;simp only[Ao]at hv;generalize so G fr sx=q at hr hv;split at hv
 ·simp only[Aa]at hv;obtain⟨c,hc,rfl⟩:=hv;obtain⟨v,g1,g2⟩:=UY (P:=P) hr hc;exact⟨v,g1,g2⟩
 ·cases hv
theorem VQ(h:Ctx P G w M B z ob fr a){t:TypeId}{fs:Array Field}{f:Nat}{fd:Field}{s:Option Nat}(ht:P.underlying t=some (.struct fs))(hf:fs[f]? =some fd)(hs:CT P fd.type=some s)
  {x:Operand} {sx:SO} (hx:Ap x=some sx) {sv:SV} (hv:Ao rd (so G fr) (.field fd.offset s sx)=some sv):
  ∃v,(Instr.field t (a.eval x) f).run P w=.ok v w∧At w M z ob sv v:=by
 have hr:=h.opd hx;simp only[Ao]at hv;generalize so G fr sx=q at hr hv;split at hv
 ·simp only[Aa]at hv;obtain⟨c,hc,rfl⟩:=hv;unfold At An at hr;obtain⟨vs,e1,hl⟩:=hr;obtain⟨v,g1,g2⟩:=Qn (P:=P) hs hl hc;exact⟨v,by rw[e1];simp[Instr.field,run_underlying ht,hf,asAgg,g1],g2⟩
 ·cases hv
theorem I9:∀{es:List CV} {ns:List Int} {i:Nat} {e:CV},DX es=some ns→es[i]? =some e→∃n,e=.int .u8 n∧ns[i]? =some n
 | [],_,_,_,_,h=>by simp at h
 |c::es,ns,i,e,hb,h=>by
  unfold DX at hb;split at hb<;>(try cases hb;done)
  ·rename_i e';cases e'
  ·rename_i m es' heq;cases heq;obtain⟨ns',h1,rfl⟩:=Aa.1 hb
   cases i with
   |zero=>simp at h;subst h;exact⟨m,rfl,rfl⟩
   |succ i=>
    simp only[List.getElem?_cons_succ]at h⊢;exact I9 h1 h
theorem Nz:∀{es:List CV} {ns:List Int},DX es=some ns→ns.length=es.length
 | [],ns,h=>by cases h;rfl
 |c::es,ns,hb=>by
  unfold DX at hb;split at hb<;>(try cases hb;done)
  ·rename_i e';cases e'
  ·rename_i m es' heq;cases heq;obtain⟨ns',h1,rfl⟩:=Aa.1 hb;simp[Nz h1]
theorem Qd{src dst e:TypeId}(hs:P.underlying src=some (.slice e))(he:P.underlying e=some (.int .u8))(hd:P.underlying dst=some .string){es:List CV}{ns:List Int}(hb:DX es=some ns){v:Value}
  (hv:(∃l c,v=.slice none l c∧es= [])∨∃ad c,v=.slice (some ad) es.length c∧∀(k:Nat) el,es[k]? =some el→∃u,An w M el u∧w.cell? (ad.add k)=some u):
  (convert src dst v).run P w=.ok (.string ⟨⟨ns.map fun n=>UInt8.ofNat n.toNat⟩⟩) w:=by
 rcases hv with⟨l,c,rfl,rfl⟩|⟨ad,c,rfl,hc⟩
 ·cases hb;rw[run_convert_bytes_nil w src e hs he l c dst hd];rfl
 ·have hlen:=Nz hb
  have hl:(loadCells ad es.length).run P w=.ok (ns.map (Value.int .u8)).toArray w:=by
   have:=run_loadCells_list (P:=P) w ad (ns.map (Value.int .u8)) (fun j u hj=>by
    rw[List.getElem?_map,Aa]at hj;obtain⟨m,hm,rfl⟩:=hj;obtain⟨el,hel⟩:∃el,es[j]? =some el:=⟨_,Ai (by have:=(Ae.1 hm).1;omega)⟩;obtain⟨n',rfl,h2⟩:=I9 hb hel;obtain⟨u,h3,h4⟩:=hc j _ hel;rw[hm]at h2;cases h2;unfold An at h3
    rw[h4,h3])
   simpa[hlen]using this
  rw[run_convert_bytes_string w src dst e _ _ _ hs he hd,run_bytesToString w _ _ _ ns hl,foldl_push_bytes];simp[ByteArray.empty,ByteArray.emptyWithCapacity];rfl
theorem VL(h:Ctx P G w M B z ob fr a)(hrd:∀id,rd id=.none∨rd id=ob id){src dst:TypeId}{x:Operand}{sop:SOp}(hc:Fo P src dst x=some sop)(hcls:sop.cls=.val){sv:SV}(hv:Ao rd (so G fr) sop=some sv):
  ∃v,(convert src dst (a.eval x)).run P w=.ok v w∧At w M z ob sv v:=by
 unfold Fo at hc;split at hc
 ·rename_i k0 k h1 h2;simp only[Aa]at hc;obtain⟨sx,hx,rfl⟩:=hc;have hr:=h.opd hx;simp only[Ao]at hv;generalize so G fr sx=q at hr hv;split at hv
  ·simp only[Ac]at hv;subst hv;rw[BJ (w:=w) (M:=M) hr];exact⟨_,by simp[convert,run_underlying h1,run_underlying h2,Conv.intToInt],D0 (w:=w) (M:=M)⟩
  ·cases hv
 ·rename_i k0 h1 h2;simp only[Aa]at hc;obtain⟨sx,hx,rfl⟩:=hc;have hr:=h.opd hx;simp only[Ao]at hv;generalize so G fr sx=q at hr hv;split at hv
  ·simp only[Ac]at hv;subst hv;rw[BJ (w:=w) (M:=M) hr];exact⟨_,by simp[convert,run_underlying h1,run_underlying h2,Conv.intToString],JR (w:=w) (M:=M)⟩
  ·cases hv
 ·rename_i h1 h2;simp only[Aa]at hc;obtain⟨sx,hx,rfl⟩:=hc;have hr:=h.opd hx;simp only[Ao]at hv;generalize so G fr sx=q at hr hv;split at hv
  ·simp only[Ac]at hv;subst hv;rw[C3 (w:=w) (M:=M) hr];exact⟨_,by simp[convert,run_underlying h1,run_underlying h2],JR (w:=w) (M:=M)⟩
  ·cases hv
 ·split at hc
  ·simp only[Aa]at hc;obtain⟨sx,hx,rfl⟩:=hc;cases hcls
  ·cases hc
 ·rename_i e h1 h2;split at hc
  ·rename_i he;simp only[Aa]at hc;obtain⟨sx,hx,rfl⟩:=hc;have hr:=h.opd hx;simp only[Ao]at hv;generalize so G fr sx=q at hr hv;split at hv
   ·rename_i nl es;obtain⟨ns,hb,rfl⟩:=Aa.1 hv;refine⟨_,Qd (M:=M) h1 he h2 hb ?_,JR (w:=w) (M:=M)⟩;unfold At An at hr;obtain⟨ad,n',c,ev,hn,_,_,_,_,hm⟩:=hr;rw[ev]
    cases es with
    |nil=>
     cases ad with
     |none=>exact .inl ⟨_,_,rfl,rfl⟩
     |some ad=>exact .inr ⟨ad,c,by rw[hn],fun k el hk=>by simp at hk⟩
    |cons x es=>
     obtain⟨ad',size,e1,_,_,hE⟩:=hm (by simp);subst e1;refine .inr ⟨ad',c,by rw[hn],fun k el hk=> ?_⟩;obtain⟨m,rfl,_⟩:=I9 hb hk;obtain⟨u,g1,g2,g3⟩:=AQ.get hE hk;have g1':=g1;unfold An at g1';subst g1';have hsz:size=1:=by rw[←g2];rfl
     subst hsz;have:=g3 0 (.int .u8 m) rfl;refine⟨_,g1, ?_⟩;simpa using this
   ·rename_i id;split at hv<;>(try cases hv;done);rename_i et sz es ho;obtain⟨ns,hb,rfl⟩:=Aa.1 hv;refine⟨_,Qd (M:=M) h1 he h2 hb ?_,JR (w:=w) (M:=M)⟩;obtain⟨_,e1⟩:=hr
    have hob:ob id=.arr et sz es:=by
     rcases hrd id with e'|e'
     ·rw[e']at ho;cases ho
     ·rw[e']at ho;exact ho
    have hro:=h.ob id;rw[hob]at hro;obtain⟨xs,hown,hf⟩:=hro;rw[e1];rcases hown.2 with⟨e2,e3⟩|⟨g,cap,cur,ty,fz,e2,e3,e4,_,_,e5,e6,e7,e8⟩
    ·exact .inl ⟨_,_,e2,List.eq_nil_of_length_eq_zero e3⟩
    ·refine .inr ⟨⟨g,0,none⟩,cap,e2,fun k el hk=> ?_⟩;obtain⟨m,rfl,_⟩:=I9 hb hk;obtain⟨u,g1,g2,g3⟩:=Fg hf hk;have g1':=g1;unfold An at g1';subst g1';have hsz:sz=1:=by rw[←g2];rfl
     subst hsz;refine⟨_,g1, ?_⟩;rw[Df,cell_of_row w g _ cur ty fz e4];have h8:=g3 0 (.int .u8 m) rfl;rw[←e8,List.getElem?_take]at h8;split at h8
     ·simpa using h8
     ·cases h8
   ·cases hv
  ·cases hc
 ·cases hc
theorem R8(h:Ctx P G w M B z ob fr a){op:BinOp}{t:TypeId}{x y:Operand}{sop:SOp}(hc:IG P op t x y=some sop){sv:SV}(hv:Ao rd (so G fr) sop=some sv):
  ∃v,(do eqGuard op t x y (a.eval x) (a.eval y);binOp op t (a.eval x) (a.eval y):Sem Value).run P w=.ok v w∧At w M z ob sv v:=by
 by_cases hop:op=.eql∨op=.neq
 ·have hc':(match P.underlying t with
   |some (.int _)|some .string=>(Ap x).bind fun a=>(Ap y).map fun b=>SOp.bin op a b
   |some .bool=>(Ap x).bind fun a=>(Ap y).map fun b=>.beq (CO op) a b
   |some (.struct fs)=>if P.stoodInHeld t||P.eqGuardType P.depth t then none else
    (Ec P 0 fs.toList).bind fun ts=>(Ap x).bind fun a=>(Ap y).map fun b=>.eqs (CO op) ts a b
   |some d=>(HZ d y).bind fun kd=>(Ap x).map fun a=>.isnil kd (CO op) a
   |_=>none)=some sop:=by
   rcases hop with rfl|rfl<;>exact hc
  split at hc'
  ·simp only[Ab,Aa]at hc';obtain⟨sx,hx,sy,hy,rfl⟩:=hc';exact Ks h hx hy hv
  ·simp only[Ab,Aa]at hc';obtain⟨sx,hx,sy,hy,rfl⟩:=hc';exact Ks h hx hy hv
  ·rename_i hu;simp only[Ab,Aa]at hc';obtain⟨sx,hx,sy,hy,rfl⟩:=hc';exact VI h hop hu hx hy hv
  ·rename_i fs hu;split at hc'
   ·cases hc'
   ·rename_i hn;simp only[Aj,not_or,Bool.not_eq_true]at hn;simp only[Ab,Aa]at hc';obtain⟨ts,hts,sx,hx,sy,hy,rfl⟩:=hc';exact VN h hop hu hn.1 hn.2 hts hx hy hv
  ·rename_i d _ _ _ _ hu;simp only[Ab,Aa]at hc';obtain⟨kd,hkd,sx,hx,rfl⟩:=hc';exact VU h hu hop hkd hx hv
  ·cases hc'
 ·have hc':(match P.underlying t with
   |some (.int _)|some .string=>(Ap x).bind fun a=>(Ap y).map fun b=>SOp.bin op a b
   |_=>none)=some sop:=by
   cases op<;>first|exact hc|(exact absurd (.inl rfl) hop)|(exact absurd (.inr rfl) hop)
  split at hc'
  ·simp only[Ab,Aa]at hc';obtain⟨sx,hx,sy,hy,rfl⟩:=hc';exact Ks h hx hy hv
  ·simp only[Ab,Aa]at hc';obtain⟨sx,hx,sy,hy,rfl⟩:=hc';exact Ks h hx hy hv
  ·cases hc'
theorem VR(h:Ctx P G w M B z ob fr a){f:FuncId}(hf:DN f=none){captured:Array Operand}{l:List SO}(hl:Ar Ap captured.toList=some l){sv:SV}(hv:Ao rd (so G fr) (.fnv f l)=some sv):
  At w M z ob sv (.func (.func f) #[] (captured.map a.eval)):=by
 simp only[Ao,Aa]at hv;obtain⟨cs,hcs,rfl⟩:=hv;have hr:=JA h.fr h.glob hl hcs;show An _ _ _ _;unfold An;refine⟨captured.toList.map a.eval, ?_,hr⟩;unfold FnV;rw[hf];show _=_
 congr 1
 apply Array.toList_inj.1;simp
theorem VS(h:Ctx P G w M B z ob fr a){f:FuncId}{x:Operand}{l:List SO}(hl:Ar Ap [x]=some l){sv:SV}(hv:Ao rd (so G fr) (.fnv (F3+f) l)=some sv):
  At w M z ob sv (.func (.func f) #[a.eval x] #[]):=by
 simp only[Ao,Aa]at hv;obtain⟨cs,hcs,rfl⟩:=hv;have hr:=JA h.fr h.glob hl hcs;show An _ _ _ _;unfold An;refine⟨_, ?_,hr⟩;unfold FnV;rw[Ua];exact⟨a.eval x,rfl,rfl⟩
theorem QX(h:Ctx P G w M B z ob fr a){x:Operand}{sx:SO}(hx:Ap x=some sx){sv:SV}(hv:Ao rd (so G fr) (.nchk sx)=some sv):
  ∃ad,a.eval x=.pointer (some ad)∧At w M z ob sv (a.eval x):=by
 have hr:=h.opd hx;simp only[Ao]at hv;generalize so G fr sx=q at hr hv;split at hv<;>(try cases hv;done)
 all_goals
  cases hv;have hr':=hr
 ·unfold At An at hr';exact⟨_,hr',hr⟩
 ·unfold At An at hr';obtain⟨ad,vs,e,_⟩:=hr';exact⟨_,e,hr⟩
 ·unfold At An at hr';obtain⟨g,ty,vs,e,_⟩:=hr';exact⟨_,e,hr⟩
 ·obtain⟨_,g,_,e⟩:=hr';exact⟨_,e,hr⟩
 ·obtain⟨_,g,n,c,_,e⟩:=hr';exact⟨_,e,hr⟩
theorem VM(h:Ctx P G w M B z ob fr a){t:TypeId}{f:Nat}(hem:Lg P t f=true){x:Operand}{sx:SO}(hx:Ap x=some sx){sv:SV}(hv:Ao rd (so G fr) (.nchk sx)=some sv):
  ∃v,(Instr.fieldAt t (a.eval x) f).run P w=.ok v w∧At w M z ob sv v:=by
 unfold Lg at hem;split at hem<;>(try cases hem;done);rename_i fs hu;split at hem<;>(try cases hem;done);rename_i fd hf;split at hem<;>(try cases hem;done);rename_i i _ hi;simp only[Af,beq_iff_eq,bne_iff_ne,ne_eq]at hem;obtain⟨ad,e,hr⟩:=QX h hx hv;refine⟨_, ?_,hr⟩;simp[Instr.fieldAt,Instr.sureAddr,run_underlying hu,hf,e,fieldPlace,CF hi,hem.2,hem.1.2,add_zero]
theorem VK(h:Ctx P G w M B z ob fr a)(hrd:∀id,rd id=.none∨rd id=ob id){c:Call}{ty:TypeId}{sop:SOp}(hc:DC P c=some sop)(hcls:sop.cls=.val){sv:SV}(hv:Ao rd (so G fr) sop=some sv):
  ∃v,(do let d←resolve a.eval c ty;invoke d.target d.args:Sem Next).run P w=.ok (.value v) w∧At w M z ob sv v:=by
 obtain⟨callee,args,argTypes⟩:=c;unfold DC at hc;split at hc<;>(try cases hc;done)
 ·rename_i hcal;simp only at hcal;subst hcal;simp only at hc
  have hat:∃t,argTypes[0]? =some t:=by
   cases hh:argTypes[0]? with
   |none=>rw[hh]at hc;simp at hc
   |some t=>exact⟨t,rfl⟩
  obtain⟨t,hat⟩:=hat
  rw[hat]at hc;simp only[Option.bind_some]at hc
  have run:∀(x:Operand),args.toList= [x]→(do let d←resolve a.eval {callee:=.builtin .len,args:=args,argTypes:=argTypes} ty;invoke d.target d.args:Sem Next).run P w=((Builtin.len_ #[t] ty #[a.eval x]).run P w).andThen fun v w'=>.ok (.value v) w':=by
   intro x hx;obtain⟨l⟩:=args;simp only at hx;subst hx;have e:∀v:Array Value,Builtin.len_ argTypes ty v=Builtin.len_ #[t] ty v:=fun v=>by simp[Builtin.len_,hat]
   simp[resolve,invoke,builtin,e]
  split at hc
  ·rename_i x hu hx;simp only[Aa]at hc;obtain⟨sx,hsx,rfl⟩:=hc;simp only[Ao,Aa]at hv;obtain⟨n,hn,rfl⟩:=hv;rw[run x hx,MQ h hrd hu (.inl ⟨rfl,rfl⟩) hsx hn];exact⟨_,rfl,D0 (w:=w) (M:=M)⟩
  ·rename_i e x hu hx;simp only[Aa]at hc;obtain⟨sx,hsx,rfl⟩:=hc;simp only[Ao,Aa]at hv;obtain⟨n,hn,rfl⟩:=hv;rw[run x hx,MQ h hrd hu (.inr (.inl ⟨rfl,_,rfl⟩)) hsx hn];exact⟨_,rfl,D0 (w:=w) (M:=M)⟩
  ·rename_i k e x hu hx;simp only[Aa]at hc;obtain⟨sx,hsx,rfl⟩:=hc;simp only[Ao,Aa]at hv;obtain⟨n,hn,rfl⟩:=hv;rw[run x hx,MQ h hrd hu (.inr (.inr ⟨rfl,_,_,rfl⟩)) hsx hn];exact⟨_,rfl,D0 (w:=w) (M:=M)⟩
  ·rename_i n e x hu hx;simp only[Ac]at hc;subst hc;simp only[Ao,Ac]at hv;subst hv;rw[run x hx];exact⟨.int .i64 n,by simp[Builtin.len_,run_underlying hu,goInt],D0 (w:=w) (M:=M)⟩
  ·cases hc
 ·rename_i hcal;simp only at hcal;subst hcal;simp only[Aa]at hc;obtain⟨l,hl,rfl⟩:=hc;obtain⟨v,g1,g2⟩:=QW h hl hv argTypes ty;simp only[Ag,if_false]at g1;exact⟨v,by simp[resolve,invoke,builtin,g1],g2⟩
 ·rename_i hcal;simp only at hcal;subst hcal;simp only[Aa]at hc;obtain⟨l,hl,rfl⟩:=hc;obtain⟨v,g1,g2⟩:=QW h hl hv argTypes ty;simp only[if_true]at g1;exact⟨v,by simp[resolve,invoke,builtin,g1],g2⟩
 ·split at hc<;>(try cases hc;done);split at hc<;>(try cases hc;done);simp only[Ab,Ad,Ac]at hc;obtain⟨i,_,zv,_,sa,_,sb,_,_,rfl⟩:=hc;cases hcls
 ·split at hc<;>(try cases hc;done);rcases Es hc with⟨l,hl,rfl⟩|⟨_,_,_,_,_,_,_,rfl⟩<;>cases hcls
 ·simp only[Aa]at hc;obtain⟨l,hl,rfl⟩:=hc;cases hcls
theorem VW(h:Ctx P G w M B z ob fr a)(hrd:∀id,rd id=.none∨rd id=ob id){x:Operand}{sx:SO}(hx:Ap x=some sx){sv:SV}(hv:Ao rd (so G fr) (.mentry sx)=some sv):
  ∃v,(Instr.entry (a.eval x)).run P w=.ok v w∧At w M z ob sv v:=by
 have hr:=h.opd hx;simp only[Ao]at hv;generalize so G fr sx=q at hr hv;split at hv<;>(try cases hv;done);rename_i id;split at hv<;>(try cases hv;done);rename_i ks vs p ho;cases hv;obtain⟨hlive,e1⟩:=hr
 have hob:ob id=.miter ks vs (some p):=by
  rcases hrd id with e|e
  ·rw[e]at ho;cases ho
  ·rw[e]at ho;exact ho
 have hro:=h.ob id;rw[hob]at hro;obtain⟨r,mo,since,seen,e2,hh,hm⟩:=hro;rcases hm with⟨_,_,_,hc⟩|⟨m,ens,rem,e3,e4,e5,e6,e7,e8,e9,e10⟩
 ·cases hc
 ·obtain⟨s0,en,g1,g2,g3,g4⟩:=e10 p rfl;subst g1;subst e3;refine⟨.tuple #[en.key,en.val], ?_, ?_⟩
  ·rw[e1,e2];exact run_entry_at w r m since s0 ⟨ens⟩ since en hh e5 g2 e6.2.2
  ·show An _ _ (.tup _) _;unfold An;exact⟨[en.key,en.val],rfl,Am.cons g3 (Am.cons g4 Am.nil)⟩
theorem Wb(h:Ctx P G w M B z ob fr a)(hrd:∀id,rd id=.none∨rd id=ob id){o:Oper}{sop:SOp}(hc:Bs P o=some sop)(hcls:sop.cls=.val){sv:SV}(hv:Ao rd (so G fr) sop=some sv):
  Yes P w M z ob a o sv:=by
 unfold Bs at hc;split at hc<;>rename_i ho<;>(try cases hc;done)
 ·
  simp only[Aa]at hc;obtain⟨sx,hx,rfl⟩:=hc;simp only[Ao,Ac]at hv;subst hv;exact⟨_,by simp[execOp,ho],h.opd hx⟩
 ·
  simp only[Aa]at hc;obtain⟨sx,hx,rfl⟩:=hc;simp only[Ao,Ac]at hv;subst hv;exact⟨_,by simp[execOp,ho],h.opd hx⟩
 ·
  rename_i c x y;simp only[Ab,Aa]at hc;obtain⟨sc,hsc,sx,hsx,sy,hsy,rfl⟩:=hc;have hr:=h.opd hsc;have hr1:=h.opd hsx;have hr2:=h.opd hsy;simp only[Ao]at hv;generalize so G fr sc=q at hr hv;split at hv
  ·rename_i t;simp only[Ac]at hv;subst hv;have e:=CZ (w:=w) (M:=M) hr;refine⟨if t then a.eval x else a.eval y,by simp[execOp,ho,e,asBool], ?_⟩;cases t
   ·exact hr2
   ·exact hr1
  ·cases hv
 ·split at hc<;>(simp only[Ab,Aa]at hc;obtain⟨_,_,_,_,_,_,rfl⟩:=hc;cases hcls)
 ·simp only[Aa]at hc;obtain⟨_,_,rfl⟩:=hc;cases hcls
 ·
  simp only[Ab,Aa]at hc;obtain⟨i,hi,vz,hz,zc,hzc,ps,hps,rfl⟩:=hc;exact Cy (by simp only[execOp,ho]) (VJ h hi hz hzc hps hv)
 ·
  split at hc<;>(try cases hc;done);simp only[Ab,Ad,Ac]at hc;obtain⟨_,_,_,_,_,_,_,_,_,rfl⟩:=hc;cases hcls
 ·
  simp only[Ab,Aa]at hc;obtain⟨s,hs,sx,hx,rfl⟩:=hc;exact Cy (by simp only[execOp,ho]) (QV h hrd hs hx hv)
 ·simp only[Ab,Aa]at hc;obtain⟨_,_,_,_,_,_,rfl⟩:=hc;cases hcls
 ·exact Cy (by simp only[execOp,ho]) (R8 h hc hv)
 ·simp only[Aa]at hc;obtain⟨sx,hx,rfl⟩:=hc;exact Cy (by simp only[execOp,ho]) (Wd h hx hv)
 ·exact Cy (by simp only[execOp,ho]) (VL h hrd hc hcls hv)
 ·
  simp only[Aa]at hc;obtain⟨sx,hx,rfl⟩:=hc;obtain⟨ad,e,hr⟩:=QX h hx hv;exact⟨_,by simp only[execOp,ho,e];rfl,hr⟩
 ·
  rename_i f first captured
  split at hc<;>(try cases hc;done)
  ·rename_i hf;simp only[Ad,Aa]at hc;obtain⟨hb,l,hl,rfl⟩:=hc;have hf':first= #[]:=Array.toList_inj.1 (by simpa using hf)
   exact⟨_,by simp[execOp,ho,Instr.makeFunc,hf'],VR h (HB hb) hl hv⟩
  ·rename_i x hf hcap;simp only[Ad,Aa]at hc;obtain⟨hb,l,hl,rfl⟩:=hc;have hf':first= #[x]:=Array.toList_inj.1 (by simpa using hf)
   have hc':captured= #[]:=Array.toList_inj.1 (by simpa using hcap);exact⟨_,by simp[execOp,ho,Instr.makeFunc,hf',hc'],VS h hl hv⟩
 ·simp only[Aa]at hc;obtain⟨_,_,rfl⟩:=hc;cases hcls
 ·
  split at hc<;>(try cases hc;done);simp only[Ab,Ad,Ac]at hc;obtain⟨_,_,_,_,_,_,_,_,_,_,_,rfl⟩:=hc;cases hcls
 ·
  split at hc<;>(try cases hc;done);rename_i e hu;simp only[Ab,Aa]at hc;obtain⟨i,hi,sx,hx,sl,hl,sh,hh,sm,hm,rfl⟩:=hc;exact Cy (by simp only[execOp,ho,Option.map_some]) (Wa h hu hi hx hl hh hm hv)
 ·
  split at hc<;>(try cases hc;done)
  ·rename_i hu;simp only[Ab,Aa]at hc;obtain⟨sx,hx,sl,hl,sh,hh,rfl⟩:=hc;exact Cy (by simp only[execOp,ho,Option.map_none]) (Wc h hu hx hl hh hv)
  ·rename_i e hu;simp only[Ab,Aa]at hc;obtain⟨i,hi,sx,hx,sl,hl,sh,hh,rfl⟩:=hc;exact Cy (by simp only[execOp,ho,Option.map_none]) (VZ h hu hi hx hl hh hv)
  ·rename_i n e hu;split at hc<;>(try cases hc;done);simp only[Ab,Ad,Aa]at hc;obtain⟨i,hi,h1,sx,hx,rfl⟩:=hc;exact Cy (by simp only[execOp,ho,Option.map_none]) (VH h hu hi h1 hx hv)
 ·
  split at hc<;>(try cases hc;done)
  ·rename_i hem;simp only[Aa]at hc;obtain⟨sx,hx,rfl⟩:=hc;exact Cy (by simp only[execOp,ho]) (VM h hem hx hv)
  ·rename_i fs _ hu;simp only[Ab,Option.ite_none_left_eq_some,Aa]at hc;obtain⟨fd,hf,i,hi,h0,sx,hx,rfl⟩:=hc;exact Cy (by simp only[execOp,ho]) (VP h hrd hu hf hi h0 hx hv)
 ·
  split at hc<;>(try cases hc;done);rename_i fs hu;simp only[Ab,Aa]at hc;obtain⟨fd,hf,s,hs,sx,hx,rfl⟩:=hc;exact Cy (by simp only[execOp,ho]) (VQ h hu hf hs hx hv)
 ·
  split at hc<;>(try cases hc;done)
  ·rename_i e hu;simp only[Ab,Option.ite_none_left_eq_some,Aa]at hc;obtain⟨i,hi,h0,sx,hx,si,hix,rfl⟩:=hc;exact Cy (by simp only[execOp,ho]) (VT h hrd hu hi hx hix hv)
  ·rename_i n e hu;simp only[Ab,Option.ite_none_left_eq_some,Aa]at hc;obtain⟨i,hi,h0,sx,hx,si,hix,rfl⟩:=hc;exact Cy (by simp only[execOp,ho]) (VF h hu hi hx hix hv)
 ·
  split at hc<;>(try cases hc;done)
  ·rename_i hu;simp only[Ab,Aa]at hc;obtain⟨sx,hx,si,hix,rfl⟩:=hc;exact Cy (by simp only[execOp,ho]) (VY h hu hx hix hv)
  ·rename_i n e hu;simp only[Ab,Aa]at hc;obtain⟨i,hi,s,hs,sx,hx,si,hix,rfl⟩:=hc;exact Cy (by simp only[execOp,ho]) (VG h hu hi hs hx hix hv)
 ·
  simp only[Ab,Aa,Prod.exists]at hc;obtain⟨kt,zc,hmt,sx,hx,sk,hk,rfl⟩:=hc;simp only[Ao,Aa]at hv;obtain⟨c,hc',rfl⟩:=hv;obtain⟨v,g1,g2⟩:=VV h hrd hmt hx hk _ hc';exact Cy (by simp only[execOp,ho]) ⟨v,g1,g2⟩
 ·split at hc<;>(try cases hc;done);simp only[Ab,Aa]at hc;obtain⟨_,_,_,_,_,_,rfl⟩:=hc;cases hcls
 ·split at hc<;>(try cases hc;done);simp only[Ab,Aa]at hc;obtain⟨_,_,_,_,_,_,rfl⟩:=hc;cases hcls
 ·split at hc<;>(try cases hc;done);simp only[Ab,Aa]at hc;obtain⟨_,_,_,_,rfl⟩:=hc;cases hcls
 ·simp only[Ab,Aa]at hc;obtain⟨_,_,_,_,_,_,rfl⟩:=hc;cases hcls
 ·split at hc<;>(try cases hc;done);all_goals(simp only[Aa]at hc;obtain⟨_,_,rfl⟩:=hc;cases hcls)
 ·simp only[Aa]at hc;obtain⟨_,_,rfl⟩:=hc;cases hcls
 ·simp only[Aa]at hc;obtain⟨sx,hx,rfl⟩:=hc;exact Cy (by simp only[execOp,ho]) (VW h hrd hx hv)
 ·simp only[Aa]at hc;obtain⟨sx,hx,rfl⟩:=hc;exact Cy (by simp only[execOp,ho]) (VO h hx hv)
 ·obtain⟨v,g1,g2⟩:=VK (ty:=o.type) h hrd hc hcls hv;exact⟨v,by simp only[execOp,ho];exact g1,g2⟩
end
section
variable {P:Program} {G:Nat→List CV} {w0:WL} {M0:MM} {n:Nat} {st:St} {a:Act} {w w':World} {z:Cz}
theorem SR.low(h:SR P G w0 M0 n st a w z){id g:Nat}(hl:st.ob id≠ .none)(hb:blk (z.σ id)=some g)(hlt:g<w0.heap.size):w0.L id g:=by
 rcases(h.lo id g hl hb).1 with h1|h1
 ·omega
 ·exact h1
theorem SR.out(h:SR P G w0 M0 n st a w z){id g:Nat}(hl:st.ob id≠ .none)(hb:blk (z.σ id)=some g)(hT:¬w0.le.I id):¬M0 g:=fun hm=>hT (h.nam.lent _ _ (h.low hl hb (h.outer g hm))).2
theorem SR.globW(h:SR P G w0 M0 n st a w z):GOk G w (Aq M0 z st.ob):=
 h.glob.keep h.below.size (fun g hg hm=>h.below.block g hg fun id hL=>hm (h.nam.lent id g hL).1) fun g hlt hm=>by
  rcases hm with hm|⟨id,hl,hb⟩
  ·exact hm
  ·exact(h.nam.lent id g (h.low hl hb hlt)).1
theorem SR.ctx(h:SR P G w0 M0 n st a w z):Ctx P G w (Aq M0 z st.ob) 0 z st.ob st.fr a where
 fr:=h.fr
 ob:=h.ob
 glob:=fun i hi=>((h.globW) i hi).1
 told:=h.nam.told
theorem L4{M:MM}(hb:Below w.heap.size w w'):AR w M w' M:=⟨hb.size,fun g hg _=>hb.block g hg,fun _ _ h=>h,rfl⟩
theorem SR.grow(h:SR P G w0 M0 n st a w z)(hb:Below w.heap.size w w'):SR P G w0 M0 n st a w' z:=by
 have hk:=L4 (M:=Aq M0 z st.ob) hb;have hz:∀s:SV,Eo st.ob z st.ob z s:=fun s=>⟨fun _ _ hh=>hh,fun _ _ _=>rfl,fun _ _ _ _ _ hh=>hh⟩;refine⟨h.size,h.defers,h.below.trans (hb.mono h.below.size),h.outer,h.nam,h.glob,fun i=>At.keep hk (hz _) (h.fr i),fun id=> ?_,fun id g h1 h2=> ?_,h.apart⟩
 ·by_cases hl:st.ob id=.none
  ·rw[hl];trivial
  ·exact AI.keep hk (fun g hg=>hb.block g (h.lo id g hl hg).2) (fun _ _ _ _=>hz _) (fun _ _ hh=>hh) (h.ob id)
 ·have:=h.lo id g h1 h2;exact⟨this.1,Nat.lt_of_lt_of_le this.2 hb.size⟩
def Cz.new(z:Cz)(d:Nat)(v:Value):Cz:={σ:=upd z.σ d v,β:=fun id=>if id=d then fun _ _=>False else z.β id,al:=z.al}
theorem HG{v:Value}{d:Nat}{o:Ob}(hn:st.ob d=.none)(s:SV):Eo st.ob z (upd st.ob d o) (z.new d v) s where
 live:=fun id _ hl=>by
  have:id≠d:=fun e=>hl (e▸hn);rw[Az _ _ this];exact hl
 at_:=fun id _ hl=>by
  have:id≠d:=fun e=>hl (e▸hn);simp[Cz.new,upd,this]
 born:=fun id _ hl k b hh=>by
  have:id≠d:=fun e=>hl (e▸hn);simp[Cz.new,this,hh]
theorem Jh{v:Value}{d:Nat}{o:Ob}(hn:st.ob d=.none)(hb:Below w.heap.size w w')(hv:∀g,blk v=some g→w.heap.size≤g):
  AR w (Aq M0 z st.ob) w' (Aq M0 (z.new d v) (upd st.ob d o)):=⟨hb.size,fun g hg _=>hb.block g hg,fun g hlt hm=>by
 rcases hm with hm|⟨id,hl,hbk⟩
 ·exact .inl hm
 ·by_cases hid:id=d
  ·subst hid;simp[Cz.new,upd]at hbk;have:=hv g hbk;omega
  ·refine .inr ⟨id, ?_, ?_⟩
   ·rw[Az _ _ hid]at hl;exact hl
   ·simpa[Cz.new,upd,hid]using hbk,rfl⟩
theorem SR.new(h:SR P G w0 M0 n st a w z){d:Nat}(hd:d<n)(hn:st.ob d=.none){v:Value}{o:Ob}{sv:SV}(hb:Below w.heap.size w w')(hv:∀g,blk v=some g→w.heap.size≤g∧g<w'.heap.size)
  (ho:AI P w' (Aq M0 (z.new d v) (upd st.ob d o)) 0 (z.new d v) (upd st.ob d o) d v o) (hs:At w' (Aq M0 (z.new d v) (upd st.ob d o)) (z.new d v) (upd st.ob d o) sv v):
  SR P G w0 M0 n {fr:=upd st.fr d sv,ob:=upd st.ob d o} (a.put (some d) v) w' (z.new d v):=by
 have hk:=Jh (M0:=M0) (z:=z) (o:=o) hn hb (fun g hg=>(hv g hg).1);refine⟨by simpa[Act.put]using h.size,h.defers,h.below.trans (hb.mono h.below.size),h.outer,h.nam.of rfl (fun N cs hN hc=> ?_),h.glob,fun i=> ?_,fun id=> ?_,fun id g h1 h2=> ?_,fun i j g hij h1 h2 h3 h4=> ?_⟩
 ·have hNd:N≠d:=fun e=>by have:=h.nam.low;omega
  simp only[Az _ _ hNd]at hc;exact⟨cs,_,hc,by simp[Cz.new,upd,hNd]⟩
 ·rw[PE];by_cases hi:i=d
  ·subst hi;rw[if_pos ⟨rfl,by rw[h.size];exact hd⟩];simpa[AH]using hs
  ·rw[if_neg (fun hh=>hi hh.1)];simp only[Az _ _ hi];exact At.keep hk (HG hn _) (h.fr i)
 ·by_cases hid:id=d
  ·subst hid;simp only[AH];have:(z.new id v).σ id=v:=by simp[Cz.new,upd]
   rw[this];exact ho
  ·simp only[Az _ _ hid];have e:(z.new d v).σ id=z.σ id:=by simp[Cz.new,upd,hid]
   rw[e];by_cases hl:st.ob id=.none
   ·rw[hl];trivial
   ·exact AI.keep hk (fun g hg=>hb.block g (h.lo id g hl hg).2) (fun _ _ _ _=>HG hn _) (fun k b hh=>by simpa[Cz.new,hid]using hh) (h.ob id)
 ·by_cases hid:id=d
  ·subst hid;simp only[Cz.new,AH]at h2;have:=hv g h2;exact⟨.inl (Nat.le_trans h.below.size this.1),this.2⟩
  ·simp only[Az _ _ hid]at h1;simp only[Cz.new,Az _ _ hid]at h2;have:=h.lo id g h1 h2;exact⟨this.1,Nat.lt_of_lt_of_le this.2 hb.size⟩
 ·by_cases hi:i=d
  ·subst hi;have hj:j≠i:=fun e=>hij e.symm;simp only[Cz.new,AH]at h3;simp only[Cz.new,Az _ _ hj]at h4;simp only[Az _ _ hj]at h2;have e1:=(hv g h3).1;have e2:=(h.lo j g h2 h4).2;omega
  ·by_cases hj:j=d
   ·subst hj;simp only[Cz.new,AH]at h4;simp only[Cz.new,Az _ _ hi]at h3;simp only[Az _ _ hi]at h1;have e1:=(hv g h4).1;have e2:=(h.lo i g h1 h3).2;omega
   ·simp only[Cz.new,Az _ _ hi]at h3;simp only[Cz.new,Az _ _ hj]at h4;simp only[Az _ _ hi]at h1;simp only[Az _ _ hj]at h2;exact h.apart i j g hij h1 h2 h3 h4
end
theorem Fj(w:World)(o:Obj):Below w.heap.size w (w.alloc o):=(Below.refl _ _).alloc (Nat.le_refl _) _
theorem Qm{P:Program}(t:TypeId)(v:Value)(w:World):(newVar t v).run P w=.ok ⟨w.heap.size,0,none⟩ (w.alloc (.cells v.cells t)):=by
 simp[newVar,newRow]
theorem M8{P:Program}(t:TypeId)(c:Array Value)(w:World):(newRow t c).run P w=.ok ⟨w.heap.size,0,none⟩ (w.alloc (.cells c t)):=by
 simp[newRow]
theorem EF(w:World)(o:Obj):(w.alloc o).heap[w.heap.size]? =some o:=heap_alloc_new w o
section
variable {P:Program} {G:Nat→List CV} {w0:WL} {M0:MM} {n:Nat} {st:St} {a:Act} {w:World} {z:Cz}
theorem I4{M:MM}{size:Nat}:∀{cs:List CV} {vs:List Value},Am w M cs vs→(cs.all fun v=>AK v==size)=true→AG w M size cs (vs.flatMap fun v=>v.cells.toList)
 | [],vs,h,_=>by unfold Am at h;subst h;rfl
 |c::cs,vs,h,hs=>by
  unfold Am at h;obtain⟨v,vs',rfl,h1,h2⟩:=h;simp only[List.all_cons,Af,beq_iff_eq]at hs;exact⟨v,_,by simp,by rw[h1.cells_size,hs.1],h1,I4 h2 hs.2⟩
theorem TV(zc:Array Value)(n:Nat):(madeCells zc ((n+1)*zc.size)).toList=zc.toList++(madeCells zc (n*zc.size)).toList:=by
 have e:(n+1)*zc.size=zc.size+n*zc.size:=by rw[Nat.add_mul];omega
 rw[e];simp only[madeCells,Array.toList_map,Array.toList_range,List.range_add,List.map_append,List.map_map]
 congr 1
 ·apply List.ext_getElem
  ·simp
  ·intro i h1 h2;simp at h1;simp[Nat.mod_eq_of_lt h1,h1]
 ·apply List.map_congr_left;intro i _;simp
theorem Ng{M:MM}{c:CV}{v:Value}(h:An w M c v){size:Nat}(hs:v.cells.size=size):∀n,AG w M size (List.replicate n c) (madeCells v.cells (n*size)).toList
 |0=>by simp[AG,madeCells]
 |n+1=>by
  subst hs;rw[List.replicate_succ,TV];exact⟨v,_,rfl,rfl,h,Ng h rfl n⟩
theorem V5(zc:Array Value){a b:Nat}(h:a≤b):(madeCells zc b).toList.take a=(madeCells zc a).toList:=by
 simp only[madeCells,Array.toList_map,Array.toList_range,←List.map_take,List.take_range,Nat.min_eq_left h]
theorem Qu(h:SR P G w0 M0 n st a w z):∀{parts:List (Nat×Operand)} {i:Nat} {xs:List SO} {l:List CV},He i parts=some xs→Ar (fun x=>closed (so G st.fr x)) xs=some l→
  ∃vs:List Value,(parts.map fun p=>(p.1,a.eval p.2))=(List.range' i vs.length).zip vs∧Am w (Aq M0 z st.ob) l vs
 | [],i,xs,l,h1,h2=>by
  simp only[He,Ac]at h1;subst h1;simp only[Ar,Ac]at h2;subst h2;exact⟨[],rfl,Am.nil⟩
 |(j,x)::parts,i,xs,l,h1,h2=>by
  simp only[He,Ad,Ab,Aa]at h1;obtain⟨rfl,sx,hsx,ss,hss,rfl⟩:=h1;simp only[Ar,Ab,Aa]at h2;obtain⟨c,hc,cs,hcs,rfl⟩:=h2;obtain⟨vs,e1,e2⟩:=Qu h hss hcs
  have hcl:so G st.fr sx=.c c:=by
   cases hh:so G st.fr sx<;>rw[hh]at hc<;>simp[closed]at hc;rw[hc]
  exact⟨a.eval x::vs,by simp[e1,List.range'_succ],Am.cons (h.ctx.c hsx hcl) e2⟩
theorem Ou{size:Nat}:∀(vs:List Value) (k:Nat) (pre rest:List Value),pre.length=k*size→rest.length=vs.length*size→(∀v∈vs,v.cells.size=size)→
  Instr.fill (fun i=>some (i*size,size)) ⟨pre++rest⟩ ((List.range' k vs.length).zip vs)=some ⟨pre++vs.flatMap fun v=>v.cells.toList⟩
 | [],k,pre,rest,_,h2,_=>by
  have:rest= []:=List.eq_nil_of_length_eq_zero (by simpa using h2);subst this;rfl
 |v::vs,k,pre,rest,h1,h2,h3=>by
  have hv:=h3 v (by simp);simp only[List.length_cons,List.range'_succ,List.zip_cons_cons,Instr.fill];rw[if_neg (by simp[hv,h1,h2,Nat.add_mul])]
  have hfold:(v.cells.zipIdx.foldl (fun(cs:Array Value) (p:Value×Nat)=>cs.setIfInBounds (k*size+p.2) p.1) (⟨pre++rest⟩:Array Value))=⟨(pre++v.cells.toList)++rest.drop size⟩:=by
   apply Array.toList_inj.1;rw[←Array.foldl_toList,Array.toList_zipIdx];have:=Lu v.cells.toList ⟨pre++rest⟩ (k*size) 0 (by simp[hv,h1,h2,Nat.add_mul]);rw[this];simp[hv,←h1,List.drop_append]
  have ih:=Ou vs (k+1) (pre++v.cells.toList) (rest.drop size) (by simp[h1,hv,Nat.add_mul]) (by simp[h2,Nat.add_mul]) (fun u hu=>h3 u (by simp[hu]));have e:(v.cells.zipIdx.foldl (fun(cs:Array Value) (x:Value×Nat)=>match x with|(c,j)=>cs.setIfInBounds (k*size+j) c) (⟨pre++rest⟩:Array Value))=⟨(pre++v.cells.toList)++rest.drop size⟩:=hfold;rw[e,ih];simp
def Hm(P:Program)(G:Nat→List CV)(w0:WL)(M0:MM)(n:Nat)(st:St)(a:Act)(w:World)(o:Oper)(d:Nat)(sv:SV)(ob:Ob):Prop:=
 ∃v w' z',(execOp a.eval o).run P w=.ok (.value v) w'∧SR P G w0 M0 n {fr:=upd st.fr d sv,ob:=upd st.ob d ob} (a.put (some d) v) w' z'
theorem Gb(h:SR P G w0 M0 n st a w z){o:Oper}{d:Nat}(hd:d<n)(hn:st.ob d=.none){sv:SV}{ob:Ob}{s:Sem Value}{v:Value}{w':World}(he:execOp a.eval o=(do pure (.value (←s)):Sem Next))(hr:s.run P w=.ok v w')
  (hb:Below w.heap.size w w') (hv:∀g,blk v=some g→w.heap.size≤g∧g<w'.heap.size)
  (hk:AR w (Aq M0 z st.ob) w' (Aq M0 (z.new d v) (upd st.ob d ob))→(∀s,Eo st.ob z (upd st.ob d ob) (z.new d v) s)→AI P w' (Aq M0 (z.new d v) (upd st.ob d ob)) 0 (z.new d v) (upd st.ob d ob) d v ob∧At w' (Aq M0 (z.new d v) (upd st.ob d ob)) (z.new d v) (upd st.ob d ob) sv v):
  Hm P G w0 M0 n st a w o d sv ob:=by
 have k1:=Jh (M0:=M0) (z:=z) (o:=ob) hn hb (fun g hg=>(hv g hg).1);obtain⟨h1,h2⟩:=hk k1 (HG hn);exact⟨v,w',z.new d v,by rw[he];simp[hr],h.new hd hn hb hv h1 h2⟩
theorem E4{d:Nat}{ob:Ob}(h:ob≠ .none):upd st.ob d ob d≠ .none:=by rw[AH];exact h
theorem CE{d:Nat}{v:Value}:(z.new d v).σ d=v:=by simp[Cz.new,upd]
theorem LT(h:SR P G w0 M0 n st a w z){o:Oper}{d:Nat}(hd:d<n)(hn:st.ob d=.none){cs:List SV}{t:TypeId}{bt:Option TypeId}(hbt:∀T,bt=some T→t=T){vs:List Value}{s:Sem Value}(he:execOp a.eval o=(do pure (.value (←s)):Sem Next))
  (hr:s.run P w=.ok (.pointer (some ⟨w.heap.size,0,none⟩)) (w.alloc (.cells ⟨vs⟩ t))) (hs:Ay w (Aq M0 z st.ob) z st.ob cs vs):Hm P G w0 M0 n st a w o d (.ptr d 0) (.box cs bt):=by
 refine Gb h hd hn he hr (Fj _ _) (fun g hg=> ?_) fun hk hz=>⟨⟨w.heap.size,⟨t,hbt⟩,vs,rfl,EF _ _,Ay.keep hk (fun s _=>hz s) hs⟩,E4 (by simp),w.heap.size,CE,rfl⟩;simp only[blk,Ac]at hg;subst hg;exact⟨Nat.le_refl _,by simp⟩
theorem N4(h:SR P G w0 M0 n st a w z){s:SV}{v:Value}(hs:At w (Aq M0 z st.ob) z st.ob s v)(hc:∀cs,s≠ .c (.agg cs))(hu:s≠ .undef):v.cells= #[v]:=by
 have live:∀id,st.ob id≠ .none→(z.σ id).cells= #[z.σ id]:=by
  intro id hl;have ho:=h.ob id
  cases hob:st.ob id with
  |none=>exact absurd hob hl
  |box cs=>rw[hob]at ho;obtain⟨g,ty,vs,e,_⟩:=ho;rw[e];rfl
  |arr e size es=>
   rw[hob]at ho;obtain⟨xs,hown,_⟩:=ho;rcases hown.2 with⟨e,_⟩|⟨g,cap,cur,_,_,e,_⟩<;>rw[e]<;>rfl
  |map mt kt zc ks vs=>rw[hob]at ho;obtain⟨_,_,_,r,ens,clk,_,e,_⟩:=ho;rw[e];rfl
  |siter s pos=>rw[hob]at ho;obtain⟨r,e,_⟩:=ho;rw[e];rfl
  |miter ks vs cur=>rw[hob]at ho;obtain⟨r,mo,si,se,e,_⟩:=ho;rw[e];rfl
  |buf e s=>
   rw[hob]at ho;rcases ho.2 with⟨e,_⟩|⟨g,cap,cur,fz,e,_⟩<;>rw[e]<;>rfl
 cases s with
 |c cv=>exact Md hs (fun cs e=>hc cs (by rw[e]))
 |ptr id o=>obtain⟨_,g,_,e⟩:=hs;rw[e];rfl
 |eptr id i sz o=>obtain⟨_,g,n,c,_,e⟩:=hs;rw[e];rfl
 |osl id=>obtain⟨hl,e⟩:=hs;rw[e];exact live id hl
 |omap id=>obtain⟨hl,e⟩:=hs;rw[e];exact live id hl
 |iter id=>obtain⟨hl,e⟩:=hs;rw[e];exact live id hl
 |stamp id k=>obtain⟨_,b,_,e⟩:=hs;rw[e];rfl
 |ent id k cv=>obtain⟨_,b,u,_,e,_⟩:=hs;rw[e];rfl
 |undef=>exact absurd rfl hu
theorem FO{op:BinOp}{t:TypeId}{x y:Operand}{sop:SOp}(hc:IG P op t x y=some sop):sop.cls=.val:=by
 unfold IG at hc;split at hc
 all_goals
  split at hc<;>first
   |(cases hc;done)
   |(simp only[Ab,Aa]at hc;obtain⟨_,_,_,_,rfl⟩:=hc;rfl)
   |(split at hc<;>first
    |(cases hc;done)
    |(simp only[Ab,Aa]at hc;obtain⟨_,_,_,_,_,_,rfl⟩:=hc;rfl))
theorem G7{src dst:TypeId}{x:Operand}{sop:SOp}(hc:Fo P src dst x=some sop):sop.cls=.val∨sop.cls=.grow:=by
 unfold Fo at hc
 split at hc<;>first
  |(cases hc;done)
  |(simp only[Aa]at hc;obtain⟨_,_,rfl⟩:=hc;exact .inl rfl)
  |(split at hc<;>first
   |(cases hc;done)
   |(simp only[Aa]at hc;obtain⟨_,_,rfl⟩:=hc;first|exact .inl rfl|exact .inr rfl))
theorem Sb{c:Call}{sop:SOp}(hc:DC P c=some sop):sop.cls≠ .new:=by
 unfold DC at hc;split at hc<;>(try cases hc;done)
 ·split at hc<;>first
   |(cases hc;done)
   |(simp only[Aa]at hc;obtain⟨_,_,rfl⟩:=hc;intro hh;cases hh)
   |(simp only[Ac]at hc;subst hc;intro hh;cases hh)
 ·simp only[Aa]at hc;obtain⟨_,_,rfl⟩:=hc;intro hh;cases hh
 ·simp only[Aa]at hc;obtain⟨_,_,rfl⟩:=hc;intro hh;cases hh
 ·split at hc<;>(try cases hc;done);split at hc<;>(try cases hc;done);simp only[Ab,Ad,Ac]at hc;obtain⟨i,_,zv,_,sa,_,sb,_,_,rfl⟩:=hc;intro hh;cases hh
 ·split at hc<;>(try cases hc;done);rcases Es hc with⟨l,hl,rfl⟩|⟨_,_,_,_,_,_,_,rfl⟩<;>(intro hh;cases hh)
 ·simp only[Aa]at hc;obtain⟨_,_,rfl⟩:=hc;intro hh;cases hh
theorem Pg(h:SR P G w0 M0 n st a w z){t e:TypeId}{len:Nat}{parts:Array (Nat×Operand)}{i:TypeInfo}{vz:Value}{zc:CV}{xs:List SO}{l:List CV}(hu:P.underlying t=some (.slice e))(hi:P.info? e=some i)(hz:i.zero=some vz)(hzc:BZ vz=some zc)
  (hxs:He 0 parts.toList=some xs) (hlen:xs.length=len) (h0:0<i.size) (hsz:AK zc=i.size) (hle:len*i.size≤16777216) (hl:Ar (fun x=>closed (so G st.fr x)) xs=some l) (hall:(l.all fun v=>AK v==i.size)=true):
  ∃vs:List Value,Am w (Aq M0 z st.ob) l vs∧vs.length=len∧(Instr.buildSlice t len (parts.map fun(i,x)=>(i,a.eval x))).run P w=.ok (.slice (some ⟨w.heap.size,0,none⟩) len len) (w.alloc (.cells ⟨vs.flatMap fun v=>v.cells.toList⟩ e)):=by
 obtain⟨vs,e1,hrl⟩:=Qu h hxs hl;have hvz:vz.cells.size=i.size:=by rw[(Ev w ⟨fun _=>False,fun _=>0⟩ vz zc hzc).cells_size,hsz]
 have hvl:vs.length=len:=by rw[hrl.length,Dv hl,hlen]
 have hvs:∀v∈vs,v.cells.size=i.size:=by
  intro v hvm;obtain⟨j,hj,hjv⟩:=List.getElem_of_mem hvm;have hjc:l[j]? =some (l[j]'(by rw[←hrl.length];exact hj)):=Ai _;obtain⟨v',g1,g2⟩:=hrl.get hjc;have:v'=v:=by rw[Ai hj]at g1;simpa[hjv]using g1.symm
  subst this;rw[g2.cells_size];have:=List.all_eq_true.1 hall _ (List.mem_of_getElem? hjc);simpa using this
 have hfill:=Ou (size:=i.size) vs 0 [] (madeCells vz.cells (len*i.size)).toList (by simp) (by simp[size_madeCells,hvl]) hvs
 have run:(Instr.buildSlice t len (parts.map fun(i,x)=>(i,a.eval x))).run P w=.ok (.slice (some ⟨w.heap.size,0,none⟩) len len) (w.alloc (.cells ⟨vs.flatMap fun v=>v.cells.toList⟩ e)):=by
  have hp:(parts.map fun(p:Nat×Operand)=>(p.1,a.eval p.2)).toList=(List.range' 0 vs.length).zip vs:=by rw[Array.toList_map];exact e1
  have hz0:(madeCells vz.cells (len*i.size))=(Array.range (len*i.size)).map (vz.cells[· % vz.cells.size]!):=rfl;have hn24:¬(16777216<len*i.size):=by omega
  by_cases hnil:len*i.size=0
  ·have hl0:len=0:=by
    rcases Nat.eq_zero_or_pos len with h'|h'
    ·exact h'
    ·have:=Nat.mul_pos h' h0;omega
   have hvn:vs= []:=List.eq_nil_of_length_eq_zero (by omega);subst hvn;subst hl0
   have hpn:parts= #[]:=by
    have:parts.toList= []:=by simpa using e1
    exact Array.toList_inj.1 (by simpa using this)
   subst hpn;simp[Instr.buildSlice,run_underlying hu,CF hi,Instr.fill,M8]
   congr 2
   apply Array.toList_inj.1;simp
  ·have hf:Instr.fill (fun i_1=>some (i_1*i.size,i.size)) ((Array.range (len*i.size)).map (vz.cells[· % vz.cells.size]!)) (parts.map fun(p:Nat×Operand)=>(p.1,a.eval p.2)).toList=some ⟨vs.flatMap fun v=>v.cells.toList⟩:=by
    rw[hp,←hz0];simpa using hfill
   simp only[Instr.buildSlice,Sem.run_bind,run_underlying hu,Result.andThen_ok,CF hi];rw[show(2:Nat)^24=16777216 from rfl,if_neg (by omega)];simp only[Sem.run_bind,Sem.run_pure,Result.andThen_ok,if_neg hnil,Ip hi hz,hf,M8]
 exact⟨vs,hrl,hvl,run⟩
theorem Ud(h:SR P G w0 M0 n st a w z){o:Oper}{sop:SOp}(hc:Bs P o=some sop)(hcls:sop.cls=.new){d:Nat}{sv:SV}{ob:Ob}(hv:AV (so G st.fr) d sop=some (sv,ob))(hd:d<n)(hn:st.ob d=.none):
  Hm P G w0 M0 n st a w o d sv ob:=by
 unfold Bs at hc;split at hc<;>rename_i ho<;>(try cases hc;done)
 ·simp only[Aa]at hc;obtain⟨_,_,rfl⟩:=hc;cases hcls
 ·simp only[Aa]at hc;obtain⟨_,_,rfl⟩:=hc;cases hcls
 ·simp only[Ab,Aa]at hc;obtain⟨_,_,_,_,_,_,rfl⟩:=hc;cases hcls
 ·
  rename_i t
  split at hc<;>(
  simp only[Ab,Aa]at hc;obtain⟨i,hi,vz,hz,zc,hzc,rfl⟩:=hc;simp only[AV,Ac,Prod.mk.injEq]at hv;obtain⟨rfl,rfl⟩:=hv;refine LT h hd hn (by intro T hT;first|(cases hT;rfl)|cases hT) (t:=t) (vs:=vz.cells.toList) (s:=Instr.alloc t true (.tuple #[])) (by simp only[execOp,ho]) ?_ (Ay.of_c (An.cells (Ev _ _ vz zc hzc)))
  simp[Instr.alloc,Ip hi hz,Qm])
 ·
  rename_i t x;simp only[Aa]at hc;obtain⟨sx,hx,rfl⟩:=hc;have hr:=h.ctx.opd hx;simp only[AV]at hv
  have run:(Instr.box t (a.eval x)).run P w=.ok (.pointer (some ⟨w.heap.size,0,none⟩)) (w.alloc (.cells ⟨(a.eval x).cells.toList⟩ t)):=by
   simp[Instr.box,Qm]
  generalize so G st.fr sx=q at hr hv;split at hv
  ·rename_i cs;simp only[Ac,Prod.mk.injEq]at hv;obtain⟨rfl,rfl⟩:=hv;exact LT h hd hn (by intro T hT;cases hT) (by simp only[execOp,ho]) run (Ay.of_c (An.cells hr))
  ·cases hv
  ·rename_i hne hnu;simp only[Ac,Prod.mk.injEq]at hv;obtain⟨rfl,rfl⟩:=hv;have hcell:=N4 h hr hne hnu;rw[hcell]at run;exact LT h hd hn (by intro T hT;cases hT) (by simp only[execOp,ho]) run ⟨a.eval x,[],rfl,hr,rfl⟩
 ·simp only[Ab,Aa]at hc;obtain⟨_,_,_,_,_,_,_,_,rfl⟩:=hc;cases hcls
 ·
  rename_i t len parts;split at hc<;>(try cases hc;done);rename_i e hu;simp only[Ab,Ad,Ac]at hc;obtain⟨i,hi,vz,hz,zc,hzc,xs,hxs,⟨hlen,h0,hsz,hle⟩,rfl⟩:=hc;simp only[AV,Ab,Ad,Ac,Prod.mk.injEq]at hv;obtain⟨l,hl,hall,rfl,rfl⟩:=hv;obtain⟨vs,hrl,hvl,run⟩:=Pg h hu hi hz hzc hxs hlen h0 hsz hle hl hall
  have hxl:(vs.flatMap fun v=>v.cells.toList).length=len*i.size:=by
   have:=Ho (I4 hrl hall);rw[this,←hvl,hrl.length]
  refine Gb h hd hn (by simp only[execOp,ho]) run (Fj _ _) (fun g hg=> ?_) fun hk hz'=>⟨⟨vs.flatMap fun v=>v.cells.toList,Dr.of ⟨?_,.inr ⟨w.heap.size,len,⟨vs.flatMap fun v=>v.cells.toList⟩, ?_,Nat.zero_le _,EF _ _, ?_, ?_,by simp[hxl], ?_⟩⟩,AG.keep hk (I4 hrl hall)⟩,E4 (by simp),CE.symm⟩
  ·simp only[blk,Ac]at hg;subst hg;exact⟨Nat.le_refl _,by simp⟩
  ·rw[hxl,←hvl,hrl.length]
  ·rw[←hvl,hrl.length]
  ·rw[←hvl,hrl.length];exact Nat.le_refl _
  ·have hm:len≤len*i.size:=Nat.le_mul_of_pos_right _ h0;unfold maxLen;omega
  ·rw[←hrl.length,hvl];rw[List.take_of_length_le (by simp[hxl])]
 ·simp only[Ab,Aa]at hc;obtain⟨_,_,_,_,rfl⟩:=hc;cases hcls
 ·simp only[Ab,Aa]at hc;obtain⟨_,_,_,_,_,_,rfl⟩:=hc;cases hcls
 ·have:=FO hc;rw[hcls]at this;cases this
 ·simp only[Aa]at hc;obtain⟨_,_,rfl⟩:=hc;cases hcls
 ·have:=G7 hc;rw[hcls]at this;rcases this with h'|h'<;>cases h'
 ·simp only[Aa]at hc;obtain⟨_,_,rfl⟩:=hc;cases hcls
 ·split at hc<;>(try cases hc;done);all_goals(simp only[Ad,Aa]at hc;obtain⟨_,_,_,rfl⟩:=hc;cases hcls)
 ·
  rename_i t;simp only[Aa,Prod.exists]at hc;obtain⟨kt,zc,hmt,rfl⟩:=hc;simp only[AV,Ac,Prod.mk.injEq]at hv;obtain⟨rfl,rfl⟩:=hv
  refine Gb h hd hn (s:=Instr.makeMap t none) (v:=.map (some w.heap.size)) (w':=w.alloc (.map #[] 0)) (by simp only[execOp,ho,Option.map_none]) (by simp[Instr.makeMap]) (Fj _ _) (fun g hg=> ?_)
   fun hk hz=>⟨⟨hmt,[],[],w.heap.size,[],0,MP.refl rfl,rfl,EF _ _,Am.nil,Am.nil,(fun _ hh=>by cases hh),List.nodup_nil,(fun _ hh=>by cases hh),List.nodup_nil,fun k b hh=>by simp[Cz.new]at hh⟩,E4 (by simp),CE.symm⟩
  simp only[blk,Ac]at hg;subst hg;exact⟨Nat.le_refl _,by simp⟩
 ·
  rename_i t x y;split at hc<;>(try cases hc;done);rename_i e hu;simp only[Ab,Ad,Ac]at hc;obtain⟨i,hi,vz,hz,zc,hzc,sx,hx,sy,hy,⟨h0,hsz⟩,rfl⟩:=hc;have hr:=h.ctx.opd hx;have hr2:=h.ctx.opd hy;simp only[AV]at hv;generalize so G st.fr sx=q at hr hv;generalize so G st.fr sy=q2 at hr2 hv;split at hv<;>(try cases hv;done);rename_i k1 l k2 m;simp only[Ad,Ac,Prod.mk.injEq]at hv;obtain⟨⟨g1,g2,g3,g4⟩,rfl,rfl⟩:=hv;have e1:=BJ (w:=w) (M:=Aq M0 z st.ob) hr;have e2:=BJ (w:=w) (M:=Aq M0 z st.ob) hr2;have hvz:vz.cells.size=i.size:=by rw[(Ev w ⟨fun _=>False,fun _=>0⟩ vz zc hzc).cells_size,hsz]
  have hbytes:(i.bytes:Int)*m≤281474976710656:=by rw[Int.mul_comm];omega
  have run:=run_make (P:=P) w t e i vz hu hi hz k1 k2 l m g1 g2 hbytes (by omega)
  refine Gb h hd hn (s:=Instr.makeSlice t (a.eval x) (a.eval y)) (by simp only[execOp,ho]) (by rw[e1,e2];exact run) (Fj _ _) (fun g hg=> ?_)
   fun hk hz'=>⟨⟨(madeCells vz.cells (l.toNat*i.size)).toList,Dr.of ⟨?_,.inr ⟨w.heap.size,m.toNat,madeCells vz.cells (m.toNat*i.size), ?_,Nat.zero_le _,EF _ _, ?_, ?_,size_madeCells _ _, ?_⟩⟩,Ng (Ev _ _ vz zc hzc) hvz _⟩,E4 (by simp),CE.symm⟩
  ·simp only[blk,Ac]at hg;subst hg;exact⟨Nat.le_refl _,by simp⟩
  ·simp[size_madeCells]
  ·simp
  ·simp;omega
  ·unfold maxLen;omega
  ·rw[List.length_replicate];exact V5 _ (Nat.mul_le_mul_right _ (by omega))
 ·split at hc<;>(try cases hc;done);simp only[Ab,Aa]at hc;obtain⟨_,_,_,_,_,_,_,_,_,_,rfl⟩:=hc;cases hcls
 ·split at hc<;>(try cases hc;done)
  ·simp only[Ab,Aa]at hc;obtain⟨_,_,_,_,_,_,rfl⟩:=hc;cases hcls
  ·simp only[Ab,Aa]at hc;obtain⟨_,_,_,_,_,_,_,_,rfl⟩:=hc;cases hcls
  ·split at hc<;>(try cases hc;done);simp only[Ab,Ad,Aa]at hc;obtain⟨_,_,_,_,_,rfl⟩:=hc;cases hcls
 ·split at hc<;>(try cases hc;done)
  ·simp only[Aa]at hc;obtain⟨_,_,rfl⟩:=hc;cases hcls
  ·simp only[Ab,Option.ite_none_left_eq_some,Aa]at hc;obtain⟨_,_,_,_,_,_,_,rfl⟩:=hc;cases hcls
 ·split at hc<;>(try cases hc;done);simp only[Ab,Aa]at hc;obtain⟨_,_,_,_,_,_,rfl⟩:=hc;cases hcls
 ·split at hc<;>(try cases hc;done)
  ·simp only[Ab,Option.ite_none_left_eq_some,Aa]at hc;obtain⟨_,_,_,_,_,_,_,rfl⟩:=hc;cases hcls
  ·simp only[Ab,Option.ite_none_left_eq_some,Aa]at hc;obtain⟨_,_,_,_,_,_,_,rfl⟩:=hc;cases hcls
 ·split at hc<;>(try cases hc;done)
  ·simp only[Ab,Aa]at hc;obtain⟨_,_,_,_,rfl⟩:=hc;cases hcls
  ·simp only[Ab,Aa]at hc;obtain⟨_,_,_,_,_,_,_,_,rfl⟩:=hc;cases hcls
 ·simp only[Ab,Aa]at hc;obtain⟨_,_,_,_,_,_,rfl⟩:=hc;cases hcls
 ·split at hc<;>(try cases hc;done);simp only[Ab,Aa]at hc;obtain⟨_,_,_,_,_,_,rfl⟩:=hc;cases hcls
 ·split at hc<;>(try cases hc;done);simp only[Ab,Aa]at hc;obtain⟨_,_,_,_,_,_,rfl⟩:=hc;cases hcls
 ·split at hc<;>(try cases hc;done);simp only[Ab,Aa]at hc;obtain⟨_,_,_,_,rfl⟩:=hc;cases hcls
 ·simp only[Ab,Aa]at hc;obtain⟨_,_,_,_,_,_,rfl⟩:=hc;cases hcls
 ·
  rename_i t x;split at hc<;>(try cases hc;done)
  ·rename_i hu;simp only[Aa]at hc;obtain⟨sx,hx,rfl⟩:=hc;have hr:=h.ctx.opd hx;simp only[AV]at hv;generalize so G st.fr sx=q at hr hv;split at hv<;>(try cases hv;done);rename_i s;simp only[Ac,Prod.mk.injEq]at hv;obtain⟨rfl,rfl⟩:=hv;have e1:=C3 (w:=w) (M:=Aq M0 z st.ob) hr
   refine Gb h hd hn (s:=Instr.range t (a.eval x)) (v:=.pointer (some ⟨w.heap.size,0,none⟩)) (w':=w.alloc (.stringIter ⟨⟨s⟩⟩ 0)) (by simp only[execOp,ho]) (by rw[e1];simp[Instr.range,run_underlying hu]) (Fj _ _) (fun g hg=> ?_)
    fun hk hz=>⟨⟨w.heap.size,rfl,EF _ _⟩,E4 (by simp),CE.symm⟩
   simp only[blk,Ac]at hg;subst hg;exact⟨Nat.le_refl _,by simp⟩
  ·rename_i kt et hu;simp only[Aa]at hc;obtain⟨sx,hx,rfl⟩:=hc;have hr:=h.ctx.opd hx;simp only[AV]at hv;generalize so G st.fr sx=q at hr hv;split at hv<;>(try cases hv;done);rename_i nl ks vs;simp only[Ac,Prod.mk.injEq]at hv;obtain⟨rfl,rfl⟩:=hv;unfold At An at hr;obtain⟨mr,e1,_,_,hn0,hb⟩:=hr
   have mk:∀(mo:Option Nat) (since:Nat),(Instr.range t (a.eval x)).run P w=.ok (.pointer (some ⟨w.heap.size,0,none⟩)) (w.alloc (.mapIter mo since #[] since))→MIt w (Aq M0 z st.ob) mo since #[] ks vs none→Hm P G w0 M0 n st a w o d (.iter d) (.miter ks vs none):=by
    intro mo since hrun hm
    refine Gb h hd hn (s:=Instr.range t (a.eval x)) (by simp only[execOp,ho]) hrun (Fj _ _) (fun g hg=> ?_)
     fun hk hz=>⟨⟨w.heap.size,mo,since, #[],rfl,EF _ _,hm.keep hk⟩,E4 (by simp),CE.symm⟩
    simp only[blk,Ac]at hg;subst hg;exact⟨Nat.le_refl _,by simp⟩
   cases mr with
   |none=>
    obtain⟨hk0,hv0⟩:=hn0 rfl;exact mk none 0 (by rw[e1];simp[Instr.range,run_underlying hu]) (.inl ⟨rfl,hk0,hv0,rfl⟩)
   |some b=>
    obtain⟨hm,ens,ens',clk,hh,hE,hp,hk,hv⟩:=hb b rfl;refine mk (some b) clk ?_ (.inr ⟨b,ens,ens',rfl,hm,hh,hE,by rw[List.filter_eq_self.2 (by simp)];exact hp,hk,hv,fun p hp=>by cases hp⟩);rw[e1];simp[Instr.range,run_underlying hu,getObj,Sem.run,hh,Result.andThen]
 ·simp only[Aa]at hc;obtain⟨_,_,rfl⟩:=hc;cases hcls
 ·simp only[Aa]at hc;obtain⟨_,_,rfl⟩:=hc;cases hcls
 ·simp only[Aa]at hc;obtain⟨_,_,rfl⟩:=hc;cases hcls
 ·have:=Sb hc;rw[hcls]at this;exact absurd rfl this
end
section
variable {P:Program} {G:Nat→List CV} {w0:WL} {M0:MM} {n:Nat} {st:St} {a:Act} {w w':World} {z:Cz}
theorem HR{id g:Nat}(hl:st.ob id≠ .none)(hb:blk (z.σ id)=some g):Aq M0 z st.ob g:=.inr ⟨id,hl,hb⟩
theorem SR.to_grown(h:SR P G w0 M0 n st a w z){id:Nat}(hl:st.ob id≠ .none)(hg:w.grownBy w' (blk (z.σ id))):w0.To w':=
 ⟨hg.os.trans h.below.os,hg.tape.trans h.below.tape,hg.output.trans h.below.output,Nat.le_trans h.below.size hg.size,fun k hk hL=>
  (hg.block k (Nat.lt_of_lt_of_le hk h.below.size) fun e=>hL id (h.low hl e.symm hk)).trans (h.below.block k hk hL)⟩
theorem SR.turnK{id:Nat}(hl:st.ob id≠ .none){o':Ob}(hl':o'≠ .none)(hg:w.grownBy w' (blk (z.σ id))){β':CV→Nat→Prop}:
  AR w (Aq M0 z st.ob) w' (Aq M0 {z with β:=upd z.β id β'} (upd st.ob id o')):=by
 have live:∀i,upd st.ob id o' i≠ .none↔st.ob i≠ .none:=by
  intro i;by_cases hi:i=id
  ·subst hi;rw[AH];exact⟨fun _=>hl,fun _=>hl'⟩
  ·rw[Az _ _ hi]
 exact⟨hg.size,fun g hlt hm=>hg.block g hlt (fun e=>hm (HR hl e.symm)),fun g _ hm=>by
  rcases hm with hm|⟨i,h1,h2⟩
  ·exact .inl hm
  ·exact .inr ⟨i,(live i).1 h1,h2⟩,rfl⟩
theorem SR.turn(h:SR P G w0 M0 n st a w z){id:Nat}(hl:st.ob id≠ .none){o':Ob}(hl':o'≠ .none)(hg:w.grownBy w' (blk (z.σ id))){β':CV→Nat→Prop}(hβ:∀k b,z.β id k b→β' k b)(hbox:∀{bt} cs',o'=.box cs' bt→∃cs bt',st.ob id=.box cs bt')
  (ho:AR w (Aq M0 z st.ob) w' (Aq M0 {z with β:=upd z.β id β'} (upd st.ob id o'))→(∀s,Eo st.ob z (upd st.ob id o') {z with β:=upd z.β id β'} s)→
   AI P w' (Aq M0 {z with β:=upd z.β id β'} (upd st.ob id o')) 0 {z with β:=upd z.β id β'} (upd st.ob id o') id (z.σ id) o'):
  SR P G w0 M0 n {st with ob:=upd st.ob id o'} a w' {z with β:=upd z.β id β'}:=by
 have live:∀i,upd st.ob id o' i≠ .none↔st.ob i≠ .none:=by
  intro i;by_cases hi:i=id
  ·subst hi;rw[AH];exact⟨fun _=>hl,fun _=>hl'⟩
  ·rw[Az _ _ hi]
 have hk:AR w (Aq M0 z st.ob) w' (Aq M0 {z with β:=upd z.β id β'} (upd st.ob id o')):=⟨hg.size,fun g hlt hm=>hg.block g hlt (fun e=>hm (HR hl e.symm)),fun g _ hm=>by
  rcases hm with hm|⟨i,h1,h2⟩
  ·exact .inl hm
  ·exact .inr ⟨i,(live i).1 h1,h2⟩,rfl⟩
 have hz:∀s,Eo st.ob z (upd st.ob id o') {z with β:=upd z.β id β'} s:=fun s=>⟨fun i _ h1=>(live i).2 h1,fun _ _ _=>rfl,fun i _ _ k b hb=>by
  by_cases hi:i=id
  ·subst hi;simp only[AH];exact hβ k b hb
  ·simp only[Az _ _ hi];exact hb⟩
 refine⟨h.size,h.defers,h.to_grown hl hg,h.outer,h.nam.of rfl (fun N cs' hN hc=> ?_),h.glob,fun i=>At.keep hk (hz _) (h.fr i),fun i=> ?_,fun i g h1 h2=> ?_,fun i j g hij h1 h2=>h.apart i j g hij ((live i).1 h1) ((live j).1 h2)⟩
 ·by_cases hi:N=id
  ·subst hi;simp only[AH]at hc;obtain⟨cs,_,e⟩:=hbox cs' hc;exact⟨cs,_,e,rfl⟩
  ·simp only[Az _ _ hi]at hc;exact⟨cs',_,hc,rfl⟩
 ·by_cases hi:i=id
  ·subst hi;simp only[AH];exact ho hk hz
  ·simp only[Az _ _ hi];by_cases hli:st.ob i=.none
   ·rw[hli];trivial
   ·exact AI.keep hk (fun g hg'=>hg.block g (h.lo i g hli hg').2 (fun e=>h.apart i id g hi hli hl hg' e.symm)) (fun _ _ s _=>hz s) (fun k b hh=>by simpa[Az _ _ hi]using hh) (h.ob i)
 ·have:=h.lo i g ((live i).1 h1) h2;exact⟨this.1,Nat.lt_of_lt_of_le this.2 hg.size⟩
theorem SR.renew(h:SR P G w0 M0 n st a w z){id:Nat}(hl:st.ob id≠ .none){o':Ob}{v':Value}(hg:w.grownBy w' (blk (z.σ id)))(hv:∀g,blk v'=some g→blk (z.σ id)=some g∨(w.heap.size≤g∧g<w'.heap.size))(hbox:∀{bt} cs',o'≠ .box cs' bt)
  (ho:AR w (Aq M0 z st.ob) w' (Aq M0 (z.new id v') (upd (kill [id] st).ob id o'))→AI P w' (Aq M0 (z.new id v') (upd (kill [id] st).ob id o')) 0 (z.new id v') (upd (kill [id] st).ob id o') id v' o'):
  SR P G w0 M0 n {fr:=(kill [id] st).fr,ob:=upd (kill [id] st).ob id o'} a w' (z.new id v'):=by
 have live:∀i,i≠id→(upd (kill [id] st).ob id o' i≠ .none↔st.ob i≠ .none):=by
  intro i hi;rw[Az _ _ hi,EO];simp[hi]
 have σne:∀i,i≠id→(z.new id v').σ i=z.σ i:=fun i hi=>by simp[Cz.new,upd,hi]
 have hk:AR w (Aq M0 z st.ob) w' (Aq M0 (z.new id v') (upd (kill [id] st).ob id o')):=⟨hg.size,fun g hlt hm=>hg.block g hlt (fun e=>hm (HR hl e.symm)),fun g hlt hm=>by
  rcases hm with hm|⟨i,h1,h2⟩
  ·exact .inl hm
  ·by_cases hi:i=id
   ·subst hi;rw[CE]at h2;rcases hv g h2 with h3|h3
    ·exact HR hl h3
    ·omega
   ·rw[σne i hi]at h2
    exact HR ((live i hi).1 h1) h2,rfl⟩
 have hz:∀s:SV,∀v,At w (Aq M0 z st.ob) z st.ob s v→At w' (Aq M0 (z.new id v') (upd (kill [id] st).ob id o')) (z.new id v') (upd (kill [id] st).ob id o') (Av [id] s) v:=by
  intro s v hs
  cases hr:s.ref with
  |none=>
   cases s<;>simp[SV.ref]at hr
   ·exact An.keep hk _ _ hs
   ·trivial
  |some i=>
   by_cases hi:i=id
   ·subst hi;have:Av [i] s=.undef:=by cases s<;>simp_all[SV.ref,Av]
    rw[this];trivial
   ·have e:Av [id] s=s:=by cases s<;>simp_all[SV.ref,Av]
    rw[e];refine At.keep hk ⟨fun j hj h1=> ?_,fun j hj h1=> ?_,fun j hj h1 k b hb=> ?_⟩ hs;all_goals(rw[hr]at hj;cases hj)
    ·exact(live i hi).2 h1
    ·exact σne i hi
    ·simpa[Cz.new,hi]using hb
 have hzs:∀(cs:List SV) vs,Ay w (Aq M0 z st.ob) z st.ob cs vs→Ay w' (Aq M0 (z.new id v') (upd (kill [id] st).ob id o')) (z.new id v') (upd (kill [id] st).ob id o') (cs.map (Av [id])) vs:=by
  intro cs
  induction cs with
  |nil=>intro vs hh;exact hh
  |cons c cs ih=>
   intro vs hh;obtain⟨v,vs',e,h1,h2⟩:=hh;exact⟨v,vs',e,hz c v h1,ih vs' h2⟩
 refine⟨h.size,h.defers,h.to_grown hl hg,h.outer,h.nam.of rfl (fun N cs' hN hc=> ?_),h.glob,fun i=>hz _ _ (h.fr i),fun i=> ?_,fun i g h1 h2=> ?_,fun i j g hij h1 h2 h3 h4=> ?_⟩
 ·by_cases hi:N=id
  ·subst hi;simp only[AH]at hc;exact absurd hc (hbox cs')
  ·simp only[Az _ _ hi]at hc;refine(?_:∃cs bt',st.ob N=.box cs bt').imp fun cs e=>e.imp fun bt' e=>⟨e,σne N hi⟩;unfold kill at hc;simp only at hc;split at hc
   ·cases hc
   ·cases hob:st.ob N<;>rw[hob]at hc<;>cases hc;exact⟨_,_,rfl⟩
 ·by_cases hi:i=id
  ·subst hi;simp only[AH,CE];exact ho hk
  ·simp only[Az _ _ hi,σne i hi];have e:(kill [id] st).ob i=BO [id] (st.ob i):=by simp[kill,hi]
   rw[e];have hoi:=h.ob i
   cases hob:st.ob i with
   |none=>trivial
   |box cs=>
    rw[hob]at hoi;obtain⟨g,ty,vs,e1,e2,e3⟩:=hoi;have hli:st.ob i≠ .none:=by rw[hob];simp
    exact⟨g,ty,vs,e1,(hg.block g (h.lo i g hli (by rw[e1];rfl)).2 (fun e'=>h.apart i id g hi hli hl (by rw[e1];rfl) e'.symm)).trans e2,hzs cs vs e3⟩
   |_=>
    rw[hob]at hoi;have hli:st.ob i≠ .none:=by rw[hob];simp
    exact AI.keep hk (fun g hg'=>hg.block g (h.lo i g hli hg').2 (fun e=>h.apart i id g hi hli hl hg' e.symm)) (fun cs hc=>by cases hc) (fun k b hh=>by simpa[Cz.new,hi]using hh) hoi
 ·by_cases hi:i=id
  ·subst hi;simp only[CE]at h2;rcases hv g h2 with h3|h3
   ·have:=h.lo i g hl h3;exact⟨this.1,Nat.lt_of_lt_of_le this.2 hg.size⟩
   ·exact⟨.inl (Nat.le_trans h.below.size h3.1),h3.2⟩
  ·rw[σne i hi]at h2;have:=h.lo i g ((live i hi).1 h1) h2;exact⟨this.1,Nat.lt_of_lt_of_le this.2 hg.size⟩
 ·by_cases hi:i=id
  ·subst hi;have hj:j≠i:=fun e=>hij e.symm;rw[CE]at h3;rw[σne j hj]at h4;rcases hv g h3 with h5|h5
   ·exact h.apart i j g hij hl ((live j hj).1 h2) h5 h4
   ·have:=(h.lo j g ((live j hj).1 h2) h4).2;omega
  ·by_cases hj:j=id
   ·subst hj;rw[CE]at h4;rw[σne i hi]at h3;rcases hv g h4 with h5|h5
    ·exact h.apart i j g hij ((live i hi).1 h1) hl h3 h5
    ·have:=(h.lo i g ((live i hi).1 h1) h3).2;omega
   ·rw[σne i hi]at h3;rw[σne j hj]at h4;exact h.apart i j g hij ((live i hi).1 h1) ((live j hj).1 h2) h3 h4
theorem Pw{M:MM}{c:CV}{v:Value}(h:An w M c v)(hc:Cd c=true):v.oneCell'=true:=by
 cases c<;>simp[Cd]at hc<;>unfold An at h<;>first
  |(rcases h with rfl|rfl<;>rfl)
  |(subst h;rfl)
  |(obtain⟨_,_,rfl⟩:=h;rfl)
  |(obtain⟨_,_,_,rfl,_⟩:=h;rfl)
  |(obtain⟨_,hf,_⟩:=h;unfold FnV at hf;split at hf<;>first|(subst hf;rfl)|(obtain⟨_,_,rfl⟩:=hf;rfl))
  |(obtain⟨_,rfl,_⟩:=h;rfl)
  |(obtain⟨_,_,rfl,_⟩:=h;rfl)
theorem J8{M:MM}:∀{cs:List CV} {vs:List Value},Am w M cs vs→cs.all Cd=true→∀v∈vs,v.oneCell'=true
 | [],vs,h,_,v,hv=>by unfold Am at h;subst h;cases hv
 |c::cs,vs,h,hc,v,hv=>by
  unfold Am at h;obtain⟨u,us,rfl,h1,h2⟩:=h;simp only[List.all_cons,Af]at hc;rcases List.mem_cons.1 hv with rfl|hv
  ·exact Pw h1 hc.1
  ·exact J8 h2 hc.2 v hv
theorem O9(w:World)(g:Nat)(cs:Array Value):w.grownBy (w.setRow g cs) (some g):=by
 refine⟨rfl,rfl,rfl,by simp[World.setRow],fun k _ hk=> ?_⟩;simp only[World.setRow,Array.getElem?_modify];rw[if_neg (fun e=>hk (by rw[e]))]
end
section
variable {P:Program} {G:Nat→List CV} {w0:WL} {M0:MM} {n:Nat} {st:St} {a:Act} {w w':World} {z:Cz}
theorem Ay.append{M:MM}{ob:Nat→Ob}:∀{cs ds:List SV} {vs us:List Value},Ay w M z ob cs vs→Ay w M z ob ds us→Ay w M z ob (cs++ds) (vs++us)
 | [],_,_,_,h,k=>by unfold Ay at h;subst h;exact k
 |_::_,_,_,_,h,k=>by
  obtain⟨v,vs',rfl,h1,h2⟩:=h;exact⟨v,vs'++_,rfl,h1,Ay.append h2 k⟩
theorem Up(h:SR P G w0 M0 n st a w z){s:SV}{v:Value}(hs:At w (Aq M0 z st.ob) z st.ob s v)(h1:Gf s=true):v.oneCell'=true:=by
 have live:∀id,st.ob id≠ .none→(z.σ id).oneCell'=true:=by
  intro id hl;have ho:=h.ob id
  cases hob:st.ob id with
  |none=>exact absurd hob hl
  |box cs=>rw[hob]at ho;obtain⟨g,ty,vs,e,_⟩:=ho;rw[e];rfl
  |arr e size es=>
   rw[hob]at ho;obtain⟨xs,hown,_⟩:=ho;rcases hown.2 with⟨e,_⟩|⟨g,cap,cur,_,_,e,_⟩<;>rw[e]<;>rfl
  |map mt kt zc ks vs=>rw[hob]at ho;obtain⟨_,_,_,r,ens,clk,_,e,_⟩:=ho;rw[e];rfl
  |siter s pos=>rw[hob]at ho;obtain⟨r,e,_⟩:=ho;rw[e];rfl
  |miter ks vs cur=>rw[hob]at ho;obtain⟨r,mo,si,se,e,_⟩:=ho;rw[e];rfl
  |buf e s=>
   rw[hob]at ho;rcases ho.2 with⟨e,_⟩|⟨g,cap,cur,fz,e,_⟩<;>rw[e]<;>rfl
 cases s with
 |c cv=>exact Pw hs h1
 |ptr id o=>obtain⟨_,g,_,e⟩:=hs;rw[e];rfl
 |eptr id i sz o=>obtain⟨_,g,n,c,_,e⟩:=hs;rw[e];rfl
 |osl id=>obtain⟨hl,e⟩:=hs;rw[e];exact live id hl
 |omap id=>obtain⟨hl,e⟩:=hs;rw[e];exact live id hl
 |iter id=>obtain⟨hl,e⟩:=hs;rw[e];exact live id hl
 |stamp id k=>obtain⟨_,b,_,e⟩:=hs;rw[e];rfl
 |ent id k cv=>simp[Gf]at h1
 |undef=>simp[Gf]at h1
def Dt(P:Program)(G:Nat→List CV)(w0:WL)(M0:MM)(n:Nat)(st':St)(a:Act)(w:World)(o:Oper):Prop:=
 (∃v w' z',(execOp a.eval o).run P w=.ok (.value v) w'∧SR P G w0 M0 n st' (a.put o.dst v) w' z')∨
 (∃w' z',(execOp a.eval o).run P w=.ok .skip w'∧SR P G w0 M0 n st' (a.put o.dst undef) w' z')
theorem Vg{w:World}{g:Nat}{cs:Array Value}{t:TypeId}{fr:Nat×Nat}(h:w.heap[g]? =some (.cells cs t fr)):w.setRow g cs=w:=by
 have e:(w.setRow g cs).heap=w.heap:=by
  apply Array.ext_getElem?;intro k;by_cases hk:k=g
  ·subst hk;rw[setRow_heap w k _ _ _ _ h,h]
  ·exact setRow_other w g k cs hk
 cases w;simp only[World.setRow]at e⊢;rw[e]
theorem Qp(g o:Nat)(t:TypeId)(fz:Nat×Nat):∀(vs:List Value) (i:Nat) (cur:Array Value) (w:World),w.heap[g]? =some (.cells cur t fz)→(fz=(0,0)∨o+i+vs.length≤fz.1)→o+i+vs.length≤cur.size→(∀v∈vs,v.oneCell'=true)→
  (storeCells ⟨g,o,none⟩ vs i).run P w=.ok () (w.setRow g (cur.toList.take (o+i)++vs++cur.toList.drop (o+i+vs.length)).toArray)
 | [],i,cur,w,hg,_,_,_=>by
  simp only[storeCells,List.append_nil,List.length_nil,Nat.add_zero,List.take_append_drop,Array.toArray_toList];rw[setRow_self w g cur t fz hg];rfl
 |v::rest,i,cur,w,hg,hfz,hl,h1=>by
  have hi:o+i<cur.size:=by simp at hl;omega
  have hadd:(⟨g,o,none⟩:Addr).add i=⟨g,o+i,none⟩:=by unfold Addr.add;split<;>simp_all
  have hcell:w.cell? ⟨g,o+i,none⟩=some cur[o+i]:=by simp[World.cell?,hg,hi]
  have hfro:w.frozen? ⟨g,o+i,none⟩=false:=by
   obtain⟨lo,hi'⟩:=fz;simp only[World.frozen?,hg,Bool.and_eq_false_iff,decide_eq_false_iff_not];rcases hfz with hfz|hfz
   ·cases hfz;right;omega
   ·left;simp at hfz;omega
  have hst:(store ((⟨g,o,none⟩:Addr).add i) v).run P w=.ok () (w.setRow g (cur.setIfInBounds (o+i) v)):=by
   rw[hadd,run_store P w _ v _ (h1 v (by simp)),hcell];simp[hfro,setCell_eq_setRow w g (o+i) cur t fz v hg]
  have ih:=Qp g o t fz rest (i+1) (cur.setIfInBounds (o+i) v) (w.setRow g (cur.setIfInBounds (o+i) v)) (setRow_heap w g cur _ t _ hg) (by rcases hfz with hfz|hfz;exact .inl hfz;right;simp at hfz;omega) (by simp at hl⊢;omega) (fun x hx=>h1 x (by simp[hx]));simp only[storeCells,Sem.run_bind,hst,Result.andThen_ok,ih,setRow_setRow]
  congr 3
  have e:=list_seg_step cur.toList (o+i) v rest (by simp at hl⊢;omega);simpa[Array.toList_setIfInBounds,Nat.add_assoc]using e
theorem M9{t:TypeId}{i:TypeInfo}(hi:P.info? t=some i){g o:Nat}{vs us:List Value}{v:Value}{ty:TypeId}(hv:v.cells=⟨us⟩)(hs:us.length=i.size){fz:Nat×Nat}(hh:w.heap[g]? =some (.cells ⟨vs⟩ ty fz))(hle:o+us.length≤vs.length)
  (h1:∀u∈us,u.oneCell'=true) (hfz:fz=(0,0)∨o+us.length≤fz.1:=by exact .inl rfl):(storeVar t ⟨g,o,none⟩ v).run P w=.ok () (w.setRow g ⟨vs.take o++us++vs.drop (o+us.length)⟩):=by
 have:=Qp (P:=P) g o ty fz us 0 ⟨vs⟩ w hh (by simpa using hfz) (by simpa using hle) h1;simp only[Nat.add_zero]at this;simp[storeVar,CF hi,hv,hs,this]
theorem Nh{M:MM}{size:Nat}:∀{es:List CV} {xs:List Value} {i:Nat} {el':CV} {u':Value},AG w M size es xs→i<es.length→An w M el' u'→u'.cells.size=size→
  AG w M size (es.set i el') (xs.take (i*size)++u'.cells.toList++xs.drop (i*size+size))
 | [],xs,i,el',u',_,hi,_,_=>by simp at hi
 |e::es,xs,0,el',u',h,_,hr,hs=>by
  obtain⟨v,xs',rfl,h1,h2,h3⟩:=h;refine⟨u',xs', ?_,hs,hr,h3⟩;have:v.cells.toList.length=size:=by simpa using h1
  simp[this]
 |e::es,xs,i+1,el',u',h,hi,hr,hs=>by
  obtain⟨v,xs',rfl,h1,h2,h3⟩:=h;have hl:v.cells.toList.length=size:=by simpa using h1
  have ih:=Nh h3 (by simpa using hi) hr hs;refine⟨v,xs'.take (i*size)++u'.cells.toList++xs'.drop (i*size+size), ?_,h1,h2,ih⟩;rw[Nat.add_mul,Nat.one_mul];rw[List.take_append,List.drop_append,hl];rw[List.take_of_length_le (by omega),List.drop_eq_nil_of_le (by omega)];rw[show i*size+size-size=i*size by omega,show i*size+size+size-size=i*size+size by omega];simp
theorem S6(h:SR P G w0 M0 n st a w z){o:Oper}{t:TypeId}{ad x:Operand}(ho:o.op=.store t ad x)(hdst:o.dst=none){i:TypeInfo}(hi:P.info? t=some i){sa sx:SO}(hsa:Ap ad=some sa)(hsx:Ap x=some sx){st':St}
  (hv:AD none (so G st.fr) st (.store i.size sa sx)=some st'):Dt P G w0 M0 n st' a w o:=by
 have hr:=h.ctx.deref (rd:=st.ob) (fun _=>.inr rfl) (h.ctx.opd hsa);have hr2:=h.ctx.opd hsx;simp only[AD]at hv;generalize WB.deref st.ob (so G st.fr sa)=q at hr hv;generalize so G st.fr sx=q2 at hr2 hv
 have fin:∀{w' z'},(Instr.storeAt t (a.eval ad) (a.eval x)).run P w=.ok () w'→SR P G w0 M0 n st' a w' z'→Dt P G w0 M0 n st' a w o:=by
  intro w' z' hr hS;refine .inr ⟨w',z',by simp[execOp,ho,hr], ?_⟩;rw[hdst];exact hS
 cases q<;>(try simp only[reduceCtorEq]at hv;done)
 ·
  rename_i cv;cases cv<;>(try simp only[reduceCtorEq]at hv;done);rename_i cs
  cases cs with
  |nil=>cases hv
  |cons c0 cs=>
   cases cs with
   |cons _ _=>cases c0<;>cases hv
   |nil=>
    cases c0<;>(try cases hv;done);rename_i b;cases q2<;>(try cases hv;done);rename_i c2;cases c2<;>(try cases hv;done);rename_i b';simp only[Ad,Ac]at hv;obtain⟨⟨h1,rfl⟩,rfl⟩:=hv;unfold At An at hr hr2;obtain⟨g,ty,vs,e1,e2,e3,e4⟩:=hr;unfold Am An at e4;obtain⟨v,vs',rfl,rfl,e4⟩:=e4;unfold Am at e4;subst e4;refine fin (w':=w) (z':=z) ?_ h;have hrun:=M9 (P:=P) (t:=t) (w:=w) hi (g:=g) (o:=0) (vs:= [.bool b]) (us:= [.bool b]) (v:=.bool b) (ty:=ty) rfl (by simp[h1]) e2 (by simp) (by simp[Value.oneCell']);have hsame:w.setRow g ⟨[Value.bool b]⟩=w:=Vg e2;simp only[List.take_zero,List.nil_append,List.length_cons,List.length_nil,Nat.zero_add,List.drop_succ_cons,List.drop_zero,List.append_nil,List.cons_append,List.drop_nil]at hrun;rw[hsame]at hrun;simp[Instr.storeAt,Instr.sureAddr,e1,hr2,hrun]
 ·
  rename_i id off;obtain⟨hlive,g,e1,e2⟩:=hr;have ho':=h.ob id;cases hob:st.ob id<;>simp only[hob,reduceCtorEq]at hv;rename_i cs bt;rw[hob]at ho';obtain⟨g',ty,vs,e3,e4,e5⟩:=ho';rw[e1]at e3;simp only[Value.pointer.injEq,Ac,Addr.mk.injEq,and_true]at e3;subst e3;have hlen:=Ay.length e5
  have go:∀(us:List Value) (ss:List SV),(a.eval x).cells=⟨us⟩→us.length=i.size→off+us.length≤vs.length→(∀u∈us,u.oneCell'=true)→Ay w (Aq M0 z st.ob) z st.ob ss us→
    st'={st with ob:=upd st.ob id (.box (cs.take off++ss++cs.drop (off+us.length)) bt)}→Dt P G w0 M0 n st' a w o:=by
   intro us ss hus hsz hle h1 hss hst;subst hst;refine fin (w':=w.setRow g ⟨vs.take off++us++vs.drop (off+us.length)⟩) ?_ (SR.turn h hlive (by simp) (by rw[e1];exact O9 w g _) (fun _ _ hh=>hh) (fun _ _=>⟨_,_,hob⟩) fun hk hz=>⟨g,ty,_,e1,setRow_heap w g _ _ _ _ e4, ?_⟩)
   ·simp[Instr.storeAt,Instr.sureAddr,e2,M9 hi hus hsz e4 hle h1]
   ·exact Ay.keep hk (fun s _=>hz s) (((e5.take off).append hss).append (e5.drop _))
  have one:∀(v:SV),At w (Aq M0 z st.ob) z st.ob v (a.eval x)→(∀l,v≠ .c (.agg l))→(if i.size=1∧off<cs.length∧Gf v=true then some {st with ob:=upd st.ob id (.box (cs.set off v) bt)}else none)=some st'→Dt P G w0 M0 n st' a w o:=by
   intro v hrv hna hv;simp only[Ad,Ac]at hv;obtain⟨⟨h1,h2,h3⟩,rfl⟩:=hv;have hcell:=N4 h hrv hna (by rintro rfl;simp[Gf]at h3);have hone:(a.eval x).oneCell'=true:=Up h hrv h3;refine go [a.eval x] [v] hcell (by simp[h1]) (by simp[hlen];omega) (by simpa using hone) ⟨a.eval x,[],rfl,hrv,rfl⟩ ?_
   congr 3
   simp only[List.length_cons,List.length_nil,Nat.zero_add];rw[List.set_eq_take_append_cons_drop,if_pos h2];simp
  cases q2 with
  |c cv=>
   cases cv with
   |agg l=>
    simp only[Ad,Ac]at hv;obtain⟨⟨h1,h2,h3⟩,rfl⟩:=hv;unfold At An at hr2;obtain⟨us,e6,hl⟩:=hr2;have hul:=hl.length;refine go us (l.map .c) (by rw[e6];rfl) (by rw[hul,h1]) (by omega) (J8 hl h3) (Ay.of_c hl) ?_;simp[EY,hul]
   |_=>exact one _ hr2 (fun l hh=>by cases hh) hv
  |_=>exact one _ hr2 (fun l hh=>by cases hh) hv
 ·
  rename_i id j size off;obtain⟨hlive,g,n',c',e1,e2⟩:=hr;have ho':=h.ob id;cases hob:st.ob id<;>simp only[hob,reduceCtorEq]at hv;rename_i et sz es;rw[hob]at ho';obtain⟨xs,hown,hf⟩:=ho';cases q2<;>(try simp only[reduceCtorEq]at hv;done);rename_i cv;simp only[Ad,Ab,Ac]at hv;obtain⟨⟨rfl,hn0,hn,hone⟩,el,hel,hle,rfl⟩:=hv;have hjl:j<es.length:=(Ae.1 hel).1;have hxl:=Ho hf;obtain⟨u,hu1,hu2,hu3⟩:=Fg hf hel;have hus:=An.cells hr2
  have hul:(a.eval x).cells.toList.length=i.size:=by
   have:=hr2.cells_size;simpa[hn]using this
  have hel_size:AK el=size:=by rw[←hu1.cells_size,hu2]
  rcases hown.2 with⟨e3,e4⟩|⟨g',cap,cur,ty,fz,e3,e4,e5,k5,k6,e6,e7,e8,e9⟩
  ·omega
  ·rw[e1]at e3;simp only[Value.slice.injEq,Ac,Addr.mk.injEq,and_true]at e3;obtain⟨rfl,rfl,rfl⟩:=e3;have hcl:cur.toList.length=c'*size:=by simpa using e8
   have hbound:j*size+size≤es.length*size:=by
    have:=Nat.mul_le_mul_right size (show j+1≤es.length by omega);rw[Nat.add_mul,Nat.one_mul]at this;exact this
   have hcap:es.length*size≤c'*size:=Nat.mul_le_mul_right _ e6;have run:=M9 (P:=P) (w:=w) hi (g:=g) (o:=j*size+off) (vs:=cur.toList) (us:=(a.eval x).cells.toList) (v:=a.eval x) (ty:=ty) rfl hul (by simpa using e5) (by omega) (J8 hus hone) (by rcases k6 with k6|k6;exact .inl k6;right;omega)
   obtain⟨u',hu1',hu2'⟩:∃u',An w (Aq M0 z st.ob) (EU el off i.size cv) u'∧u'.cells.toList=u.cells.toList.take off++(a.eval x).cells.toList++u.cells.toList.drop (off+i.size):=by
    have hother:(∀l,el≠ .agg l)→EU el off i.size cv=cv→∃u',An w (Aq M0 z st.ob) (EU el off i.size cv) u'∧u'.cells.toList=u.cells.toList.take off++(a.eval x).cells.toList++u.cells.toList.drop (off+i.size):=by
     intro hna hp;have h1:AK el=1:=by cases el<;>first|rfl|exact absurd rfl (hna _)
     have h2:u.cells.toList.length=1:=by simpa[hu2,←hel_size]using h1
     have h3:off=0:=by omega
     have h4:i.size=1:=by omega
     refine⟨a.eval x,by rw[hp];exact hr2, ?_⟩;rw[h3,h4,List.drop_eq_nil_of_le (by omega)];simp
    cases el with
    |agg l=>
     have hu1c:=An.cells hu1;refine⟨.agg ⟨u.cells.toList.take off++(a.eval x).cells.toList++u.cells.toList.drop (off+i.size)⟩, ?_,rfl⟩;show An _ _ (.agg _) _;unfold An;exact⟨_,rfl,((hu1c.take off).append hus).append (hu1c.drop _)⟩
    |_=>exact hother (fun l hh=>by cases hh) rfl
   have hulen:u.cells.toList.length=size:=by simpa using hu2
   have hu's:u'.cells.size=size:=by
    have:u'.cells.toList.length=size:=by
     rw[hu2'];simp only[List.length_append,List.length_take,List.length_drop,hul,hulen];omega
    simpa using this
   have hchunk:u.cells.toList=(cur.toList.drop (j*size)).take size:=by
    apply List.ext_getElem?;intro k;by_cases hk:k<size
    ·have hku:u.cells.toList[k]? =some (u.cells.toList[k]'(by omega)):=Ai _;have h1:=hu3 k (u.cells.toList[k]'(by omega)) (by rw[←Array.getElem?_toList];exact hku);rw[←e9,List.getElem?_take]at h1;split at h1
     ·rw[hku,List.getElem?_take,if_pos hk,List.getElem?_drop];exact h1.symm
     ·cases h1
    ·rw[List.getElem?_eq_none (by omega),List.getElem?_eq_none (by simp;omega)]
   have hrow:cur.toList.take (j*size+off)++(a.eval x).cells.toList++cur.toList.drop (j*size+off+(a.eval x).cells.toList.length)=cur.toList.take (j*size)++u'.cells.toList++cur.toList.drop (j*size+size):=by
    rw[hu2',hchunk,hul];rw[List.take_take,Nat.min_eq_left (by omega),List.drop_take];have t1:cur.toList.take (j*size+off)=cur.toList.take (j*size)++(cur.toList.drop (j*size)).take off:=by rw[List.take_add]
    have t2:cur.toList.drop (j*size+off+i.size)=((cur.toList.drop (j*size)).drop (off+i.size)).take (size-(off+i.size))++cur.toList.drop (j*size+size):=by
     have:cur.toList.drop (j*size+size)=((cur.toList.drop (j*size)).drop (off+i.size)).drop (size-(off+i.size)):=by
      rw[List.drop_drop,List.drop_drop];congr 1;omega
     rw[this,List.take_append_drop,List.drop_drop];congr 1;omega
    rw[t1,t2];simp only[List.append_assoc]
   rw[hrow]at run
   have hcurl:(cur.toList.take (j*size)++u'.cells.toList++cur.toList.drop (j*size+size)).length=c'*size:=by
    have hu'l:u'.cells.toList.length=size:=by simpa using hu's
    simp only[List.length_append,List.length_take,List.length_drop,hu'l,hcl];omega
   have hx':(cur.toList.take (j*size)++u'.cells.toList++cur.toList.drop (j*size+size)).take (es.length*size)=xs.take (j*size)++u'.cells.toList++xs.drop (j*size+size):=by
    have hu'l:u'.cells.toList.length=size:=by simpa using hu's
    have hp:(cur.toList.take (j*size)++u'.cells.toList).length=j*size+size:=by
     simp only[List.length_append,List.length_take,hu'l,hcl];omega
    rw[List.take_append,List.take_of_length_le (by omega),hp];rw[←e9,List.take_take,Nat.min_eq_left (by omega),List.drop_take]
   refine fin (w':=w.setRow g ⟨cur.toList.take (j*size)++u'.cells.toList++cur.toList.drop (j*size+size)⟩) ?_ (SR.turn h hlive (by simp) (by rw[e1];exact O9 w g _) (fun _ _ hh=>hh) (fun _ hh=>by cases hh) fun hk hz=>⟨xs.take (j*size)++u'.cells.toList++xs.drop (j*size+size),⟨?_,.inr ⟨g,c',⟨cur.toList.take (j*size)++u'.cells.toList++cur.toList.drop (j*size+size)⟩,ty,fz, ?_,e4,setRow_heap w g _ _ _ _ e5,k5,k6, ?_,e7,by simpa using hcurl, ?_⟩⟩,AG.keep hk (Nh hf hjl hu1' hu's)⟩)
   ·simp[Instr.storeAt,Instr.sureAddr,e2,run]
   ·rw[←hx',List.length_take,List.length_set,hcurl];omega
   ·rw[e1,List.length_set]
   ·rw[List.length_set];exact e6
   ·rw[List.length_set];exact hx'
end
section
variable {P:Program} {G:Nat→List CV} {w0:WL} {M0:MM} {n:Nat} {st:St} {a:Act} {w w':World} {z:Cz}
theorem Nd{M:MM}{ad:Addr}{size:Nat}:∀{i:Nat} {es:List CV},AQ w M ad size i es→∃xs,AG w M size es xs∧∀(j:Nat) u,xs[j]? =some u→w.cell? (ad.add (i*size+j))=some u
 |i,[],_=>⟨[],rfl,fun j u hu=>by simp at hu⟩
 |i,e::es,h=>by
  unfold AQ at h;obtain⟨⟨v,h1,h2,h3⟩,h4⟩:=h;obtain⟨xs,g1,g2⟩:=Nd h4;refine⟨v.cells.toList++xs,⟨v,xs,rfl,h2,h1,g1⟩,fun j u hu=> ?_⟩;have hl:v.cells.toList.length=size:=by simpa using h2
  by_cases hj:j<size
  ·rw[List.getElem?_append_left (by omega)]at hu;exact h3 j u (by simpa using hu)
  ·rw[List.getElem?_append_right (by omega),hl]at hu;have:=g2 _ u hu;rw[show(i+1)*size+(j-size)=i*size+j by rw[Nat.add_mul];omega]at this;exact this
theorem Ku{M:MM}{size:Nat}:∀{es:List CV} {xs:List Value},AG w M size es xs→(es.all fun v=>v.cells.all Cd)=true→∀u∈xs,u.oneCell'=true
 | [],xs,h,_,u,hu=>by unfold AG at h;subst h;cases hu
 |e::es,xs,h,h1,u,hu=>by
  obtain⟨v,xs',rfl,g1,g2,g3⟩:=h;simp only[List.all_cons,Af]at h1;rcases List.mem_append.1 hu with hu|hu
  ·exact J8 (An.cells g2) h1.1 u hu
  ·exact Ku g3 h1.2 u hu
theorem Pq(h:SR P G w0 M0 n st a w z){s:SV}{v:Value}(hs:At w (Aq M0 z st.ob) z st.ob s v){news:List CV}(hn:CR st s=some news){size:Nat}(hsz:(news.all fun v=>AK v==size)=true):
  ∃A c xs,v=.slice A news.length c∧AG w (Aq M0 z st.ob) size news xs∧(A=none→news= [])∧∀ad,A=some ad→∀(j:Nat) u,xs[j]? =some u→w.cell? (ad.add j)=some u:=by
 cases s<;>(try simp only[CR,reduceCtorEq]at hn;done)
 ·rename_i cv;cases cv<;>(try simp only[CR,reduceCtorEq]at hn;done);rename_i nl es;simp only[CR,Ac]at hn;subst hn;unfold At An at hs;obtain⟨A,len,c,e1,e2,_,_,_,e3,e4⟩:=hs;subst e2;by_cases hes:es= []
  ·subst hes;exact⟨A,c,[],e1,rfl,fun _=>rfl,fun ad _ j u hu=>by simp at hu⟩
  ·obtain⟨ad,size',e5,_,_,hE⟩:=e4 hes;subst e5;obtain⟨xs,g1,g2⟩:=Nd hE
   have hss:size'=size:=by
    cases es with
    |nil=>exact absurd rfl hes
    |cons e es=>
     obtain⟨v,xs',_,k1,k2,_⟩:=g1;simp only[List.all_cons,Af,beq_iff_eq]at hsz;rw[←k1,k2.cells_size,hsz.1]
   subst hss;refine⟨some ad,c,xs,e1,g1,(fun hh=>by cases hh),fun ad' hh j u hu=> ?_⟩;cases hh;have:=g2 j u hu;simpa using this
 ·rename_i id;obtain⟨hlive,e1⟩:=hs;have ho:=h.ob id;simp only[CR]at hn;cases hob:st.ob id<;>simp only[hob,reduceCtorEq,Ac]at hn;rename_i et sz es;subst hn;rw[hob]at ho;obtain⟨xs,hown,hf⟩:=ho
  have hss:es= []∨sz=size:=by
   cases es with
   |nil=>exact .inl rfl
   |cons e es=>
    obtain⟨v,xs',_,k1,k2,_⟩:=hf;simp only[List.all_cons,Af,beq_iff_eq]at hsz;exact .inr (by rw[←k1,k2.cells_size,hsz.1])
  rcases hss with rfl|rfl
  ·have:xs= []:=by unfold AG at hf;exact hf
   subst this;rcases hown.2 with⟨e2,_⟩|⟨g,cap,cur,_,_,e2,_⟩
   ·exact⟨none,0,[],by rw[e1,e2];rfl,rfl,fun _=>rfl,fun ad _ j u hu=>by simp at hu⟩
   ·exact⟨_,cap,[],by rw[e1,e2],rfl,fun _=>rfl,fun ad _ j u hu=>by simp at hu⟩
  ·rcases Nat.eq_zero_or_pos es.length with h0|h0
   ·have:es= []:=List.eq_nil_of_length_eq_zero h0;subst this;have:xs= []:=by unfold AG at hf;exact hf
    subst this;rcases hown.2 with⟨e2,_⟩|⟨g,cap,cur,_,_,e2,_⟩
    ·exact⟨none,0,[],by rw[e1,e2];rfl,rfl,fun _=>rfl,fun ad _ j u hu=>by simp at hu⟩
    ·exact⟨_,cap,[],by rw[e1,e2],rfl,fun _=>rfl,fun ad _ j u hu=>by simp at hu⟩
   ·obtain⟨g,cap,cur,e2,_,hc⟩:=JD hown h0;refine⟨some ⟨g,0,none⟩,cap,xs,by rw[e1,e2],hf,(fun hh=>by cases hh),fun ad hh j u hu=> ?_⟩;cases hh;rw[Df];simpa using hc j u hu
theorem UQ(base:Nat)(t ty e:TypeId)(i:TypeInfo)(size:Nat)(ht:P.underlying t=some (.slice e))(hi:P.info? e=some i)
  (v:Value) (n:Nat) (xs:List Value) (hown:w.ownsRow base e size v n xs) (c:Nat):(Builtin.append_ #[t,t] ty #[v,.slice none 0 c]).run P w=.ok v w:=by
 rcases hown.2 with⟨rfl,rfl⟩|⟨g,cap,cur,rfl,_,_,hnc,_⟩
 ·simp[Builtin.append_,run_underlying ht,Go.sizeOf,typeInfo,hi,Builtin.lenOf,Builtin.firstCells]
 ·simp[Builtin.append_,run_underlying ht,Go.sizeOf,typeInfo,hi,Builtin.lenOf,Builtin.firstCells,hnc,storeCells]
theorem P5{v:Value}{B e size n:Nat}{xs:List Value}(h:w.ownsRow B e size v n xs):v.ownBlock=blk v:=by
 rcases h.2 with⟨rfl,_⟩|⟨g,cap,cur,rfl,_⟩<;>rfl
theorem M4(base:Nat)(t ty e:TypeId)(i:TypeInfo)(zv:Value)(ht:P.underlying t=some (.slice e))(hi:P.info? e=some i)(hz:i.zero=some zv)
  (hzs:zv.cells.size=i.size) (hsz:0<i.size) (v:Value) (n:Nat) (xs:List Value) (hown:w.ownsRow base e i.size v n xs)
  (A:Option Addr) (m c:Nat) (news:List Value) (hnl:news.length=m*i.size) (hA:A=none→m=0) (hc:∀ad,A=some ad→∀(j:Nat) u,news[j]? =some u→w.cell? (ad.add j)=some u) (h1:∀u∈news,u.oneCell'=true)
  (h63:n+m≤maxLen) (hbytes:(n+m)*i.bytes≤140737488355328) (hbase:base≤w.heap.size):
  ∃v' w',(Builtin.append_ #[t,t] ty #[v,.slice A m c]).run P w=.ok v' w'∧w'.ownsRow base e i.size v' (n+m) (xs++news)∧w.grownBy w' (blk v)∧
   (blk v'=blk v∨blk v'=some w.heap.size):=by
 cases A with
 |none=>
  have hm:=hA rfl;subst hm;have hn:news= []:=List.eq_nil_of_length_eq_zero (by simpa using hnl);subst hn;exact⟨v,w,UQ base t ty e i i.size ht hi v n xs hown c,by simpa using hown,World.grownBy.refl w _,.inl rfl⟩
 |some ad=>
  obtain⟨v',w',hrun,h2,h3,_,h5⟩:=run_append_own_at (P:=P) w base t ty e i zv i.size i.bytes ht hi hz rfl rfl hzs hsz v n xs hown ad m c news hnl (hc ad rfl) h1 h63 hbytes hbase;rw[P5 hown]at h3 h5;rw[P5 h2]at h5;exact⟨v',w',hrun,h2,h3,h5⟩
theorem S2(h:SR P G w0 M0 n st a w z){o:Oper}{t e:TypeId}{i:TypeInfo}{zv:Value}{x y:Operand}{args:Array Operand}{argTypes:Array TypeId}(ho:o.op=.call {callee:=.builtin .append,args:=args,argTypes:=argTypes})
  (hargs:args.toList= [x,y]) (hat:argTypes.toList= [t,t]) (ht:P.underlying t=some (.slice e)) (hi:P.info? e=some i) (hz:i.zero=some zv) (hzs:zv.cells.size=i.size) (hsz:0<i.size)
  (hd:∀j,o.dst=some j→j<n) {sx sy:SO} (hx:Ap x=some sx) (hy:Ap y=some sy) {st':St} (hv:AD o.dst (so G st.fr) st (.append e i.size i.bytes sx sy)=some st'):Dt P G w0 M0 n st' a w o:=by
 have hr:=h.ctx.opd hx;have hr2:=h.ctx.opd hy;simp only[AD]at hv;generalize so G st.fr sx=q at hr hv;generalize so G st.fr sy=q2 at hr2 hv
 cases hnews:CR st q2 with
 |none=>rw[hnews]at hv;cases hv
 |some news=>
  rw[hnews]at hv;simp only[Ad,Af]at hv;obtain⟨⟨hall,hone⟩,hv⟩:=hv;obtain⟨A,c,xs2,e1,hf2,hA,hcells⟩:=Pq h hr2 hnews hall;have hx2l:=Ho hf2;have hone':=Ku hf2 hone
  have fin:∀{v' w' z'},(Builtin.append_ #[t,t] o.type #[a.eval x,a.eval y]).run P w=.ok v' w'→SR P G w0 M0 n st' (a.put o.dst v') w' z'→Dt P G w0 M0 n st' a w o:=by
   intro v' w' z' hrun hS;refine .inl ⟨v',w',z', ?_,hS⟩;obtain⟨al⟩:=args;obtain⟨tl⟩:=argTypes;simp only at hargs hat
   subst hargs;subst hat
   simp[execOp,ho,resolve,invoke,builtin,hrun]
  cases q<;>(try simp only[reduceCtorEq]at hv;done)
  ·
   rename_i cv;cases cv<;>(try simp only[reduceCtorEq]at hv;done);rename_i nl es;cases nl<;>(try simp only[reduceCtorEq]at hv;done);rename_i b;cases b<;>(try simp only[reduceCtorEq]at hv;done);simp only[Ad]at hv;obtain⟨⟨hb1,hb2⟩,hv⟩:=hv
   cases hod:o.dst with
   |none=>rw[hod]at hv;cases hv
   |some d=>
    rw[hod]at hv;simp only[Ac]at hv;subst hv;unfold At An at hr;obtain⟨A',len,c',e2,e3,_,e4,_,e5,e6⟩:=hr;have hA':=e4 rfl;subst hA'
    have hes:es= []:=by
     cases es with
     |nil=>rfl
     |cons e es=>obtain⟨ad,size,hh,_⟩:=e6 (by simp);cases hh
    subst hes;have hc0:=e5 rfl;subst hc0;subst e3;have hk:=h.killed [d];have hown0:w.ownsRow 0 e i.size (.slice none 0 0) 0 []:=⟨by simp,.inl ⟨rfl,rfl⟩⟩;obtain⟨v',w',hrun,h2,h3,h4⟩:=M4 (P:=P) 0 t o.type e i zv ht hi hz hzs hsz (.slice none 0 0) 0 [] hown0 A news.length c xs2 hx2l (fun hh=>by simp[hA hh]) hcells hone' (by unfold maxLen;omega) (by simpa using hb1) (Nat.zero_le _);rw[e2,e1]at fin;refine fin (z':=z.new d v') hrun ?_;rw[hod];have hgb:Below w.heap.size w w':=⟨h3.os,h3.tape,h3.output,h3.size,fun k hk=>h3.block k hk (by simp[blk])⟩;have hnone:(kill [d] st).ob d=.none:=by simp[kill]
    have hlt:∀g,blk v'=some g→w.heap.size≤g∧g<w'.heap.size:=by
     intro g hg;rcases h4 with h4|h4
     ·rw[h4]at hg;simp[blk]at hg
     ·rw[hg]at h4;simp only[Ac]at h4;subst h4;rcases h2.2 with⟨e7,_⟩|⟨g',cap,cur,e7,_,e8,_⟩
      ·rw[e7]at hg;simp[blk]at hg
      ·rw[e7]at hg;simp only[blk,Ac]at hg;exact⟨Nat.le_refl _,by rw[←hg];exact Cc e8⟩
    have kn:=Jh (M0:=M0) (z:=z) (o:=.arr e i.size news) hnone hgb (fun g hg=>(hlt g hg).1);have hkk:AR w (Aq M0 z st.ob) w (Aq M0 z (kill [d] st).ob):=⟨Nat.le_refl _,fun _ _ _=>rfl,fun g _ hg=>Or.imp id If hg,rfl⟩;exact hk.new (hd d hod) hnone hgb hlt ⟨xs2,Dr.of (by simpa using h2),AG.keep kn (AG.keep hkk hf2)⟩ ⟨E4 (by simp),CE.symm⟩
  ·
   rename_i id;obtain⟨hlive,e2⟩:=hr;have ho':=h.ob id;cases hob:st.ob id<;>simp only[hob,reduceCtorEq]at hv;rename_i et sz es;simp only[Ad,Ac]at hv;obtain⟨⟨rfl,rfl,hb1,hb2⟩,rfl⟩:=hv;rw[hob]at ho';obtain⟨xs,hown,hf⟩:=ho';obtain⟨v',w',hrun,h2,h3,h4⟩:=M4 (P:=P) 0 t o.type et i zv ht hi hz hzs hsz (z.σ id) es.length xs (hown.own hi) A news.length c xs2 hx2l (fun hh=>by simp[hA hh]) hcells hone' (by unfold maxLen;omega) hb1 (Nat.zero_le _);rw[e2,e1]at fin;refine fin (z':=z.new id v') hrun ?_
   have hlt:∀g,blk v'=some g→blk (z.σ id)=some g∨(w.heap.size≤g∧g<w'.heap.size):=by
    intro g hg;rcases h4 with h4|h4
    ·exact .inl (h4▸hg)
    ·rw[hg]at h4;simp only[Ac]at h4;subst h4;rcases h2.2 with⟨e7,_⟩|⟨g',cap,cur,e7,_,e8,_⟩
     ·rw[e7]at hg;simp[blk]at hg
     ·rw[e7]at hg;simp only[blk,Ac]at hg;exact .inr ⟨Nat.le_refl _,by rw[←hg];exact Cc e8⟩
   have hS:=h.renew (o':=.arr et i.size (es++news)) hlive h3 hlt (fun _ hh=>by cases hh) fun hk=>⟨xs++xs2,Dr.of (by simpa using h2),AG.keep hk (Nf hf hf2)⟩;exact hS.put hd ⟨by simp[AH],CE.symm⟩
end
section
variable {P:Program} {G:Nat→List CV} {w0:WL} {M0:MM} {n:Nat} {st:St} {a:Act} {w w':World} {z:Cz}
def EZ(w:World)(r:Nat)(o:Obj):World:={w with heap:=w.heap.setIfInBounds r o}
theorem It{r:Nat}{o o':Obj}(h:w.heap[r]? =some o)(hm:∀c t f,o≠ .cells c t f):(setObj r o').run P w=.ok () (EZ w r o'):=by
 simp only[setObj,Sem.run,h];cases o<;>first|exact absurd rfl (hm _ _ _)|rfl
theorem Qy{r:Nat}{o o':Obj}(h:w.heap[r]? =some o):(EZ w r o').heap[r]? =some o':=by
 have:=Cc h;simp[EZ,this]
theorem MA(w:World)(r:Nat)(o:Obj):w.grownBy (EZ w r o) (some r):=by
 refine⟨rfl,rfl,rfl,by simp[EZ],fun k _ hk=> ?_⟩;simp only[EZ,Array.getElem?_setIfInBounds];rw[if_neg (fun e=>hk (by rw[e]))]
theorem GP(h:SR P G w0 M0 n st a w z){id:Nat}{mt:TypeId}{kt:KT}{zc:CV}{ks vs:List CV}(hob:st.ob id=.map mt kt zc ks vs):
  ES P mt=some (kt,zc)∧∃(ks' vs':List CV) (r:Nat) (ens:List MapEntry) (clk:Nat),MP ks vs ks' vs'∧z.σ id=.map (some r)∧w.heap[r]? =some (.map ⟨ens⟩ clk)∧I2 w (Aq M0 z st.ob) (z.β id) kt ks' vs' ens clk:=by
 have:=h.ob id;rw[hob]at this;exact this
theorem LM{id:Nat}{mt:TypeId}{kt:KT}{zc:CV}{ks vs:List CV}(hob:st.ob id=.map mt kt zc ks vs):st.ob id≠ .none:=by rw[hob];simp
theorem map_set(h:SR P G w0 M0 n st a w z){id:Nat}{mt:TypeId}{kt:KT}{zc:CV}{ks vs:List CV}{r:Nat}{ens:List MapEntry}{clk:Nat}(hσ:z.σ id=.map (some r))(hh:w.heap[r]? =some (.map ⟨ens⟩ clk))
  {ks0 vs0 ks1 vs1:List CV} (hob:st.ob id=.map mt kt zc ks0 vs0) (hmt:ES P mt=some (kt,zc)) (hB:I2 w (Aq M0 z st.ob) (z.β id) kt ks vs ens clk)
  {i:Nat} {k v:CV} (hmp:MP ks1 vs1 ks (vs.set i v)) {vk vv:Value} (hk:ks[i]? =some k) (hvk:An w (Aq M0 z st.ob) k vk) (hvv:An w (Aq M0 z st.ob) v vv) (β':CV→Nat→Prop) (hβ:∀k b,z.β id k b→β' k b)
  (hβ':∀k b,β' k b→z.β id k b∨∃en,ens[i]? =some en∧ks[i]? =some k∧en.born=b):
  SR P G w0 M0 n {st with ob:=upd st.ob id (.map mt kt zc ks1 vs1)} a (EZ w r (.map ((⟨ens⟩:Array MapEntry).modify i (fun e=>{e with key:=vk,val:=vv})) clk)) {z with β:=upd z.β id β'}:=by
 obtain⟨h1,h2,h3,h4,h5,h6,h7⟩:=hB;have hi:i<ks.length:=(Ae.1 hk).1;have hil:i<ens.length:=by have:=h1.length;rw[List.length_map]at this;omega
 have hE:ens[i]? =some (ens[i]'hil):=Ai _;obtain⟨v0,g1,g2⟩:=h1.get hk;rw[List.getElem?_map,hE]at g1;simp only[Option.map_some,Ac]at g1
 have hkey:ens[i].key=vk:=by
  rw[g1];exact(KV (h3 k (List.mem_of_getElem? hk)) g2 hvk).1
 have hl:((⟨ens⟩:Array MapEntry).modify i (fun e=>{e with key:=vk,val:=vv})).toList=ens.set i {ens[i]with key:=vk,val:=vv}:=by
  apply List.ext_getElem?;intro j;rw[Array.getElem?_toList,Array.getElem?_modify,List.getElem?_set];by_cases hj:i=j
  ·subst hj;simp[hil]
  ·simp[hj]
 have hkeys:((ens.set i {ens[i]with key:=vk,val:=vv}).map (·.key))=ens.map (·.key):=by
  rw[List.map_set];apply List.ext_getElem?;intro j;rw[List.getElem?_set];by_cases hj:i=j
  ·subst hj;simp[hil,hkey]
  ·simp[hj]
 have hborns:((ens.set i {ens[i]with key:=vk,val:=vv}).map (·.born))=ens.map (·.born):=by
  rw[List.map_set];apply List.ext_getElem?;intro j;rw[List.getElem?_set];by_cases hj:i=j
  ·subst hj;simp[hil]
  ·simp[hj]
 have hob':((⟨ens⟩:Array MapEntry).modify i (fun e=>{e with key:=vk,val:=vv}))=⟨ens.set i {ens[i]with key:=vk,val:=vv}⟩:=Array.toList_inj.1 hl;rw[hob'];refine SR.turn h (LM hob) (by simp) (by rw[hσ];exact MA w r _) hβ (fun _ hh=>by cases hh) fun hkp hz=>⟨hmt,_,_,r,_,clk,hmp,hσ,Qy hh, ?_, ?_,h3,h4, ?_, ?_, ?_⟩
 ·rw[hkeys];exact Am.keep hkp _ _ h1
 ·rw[List.map_set];exact Am.set i (Am.keep hkp _ _ h2) (An.keep hkp _ _ hvv)
 ·intro en hen;rcases List.mem_or_eq_of_mem_set hen with hen|hen
  ·exact h5 en hen
  ·rw[hen];exact h5 ens[i] (List.mem_of_getElem? hE)
 ·rw[hborns];exact h6
 ·intro k' b hb;simp only[AH]at hb
  have put:∀(j:Nat) (en:MapEntry),ens[j]? =some en→en.born=b→∃en',(ens.set i {ens[i]with key:=vk,val:=vv})[j]? =some en'∧en'.born=b:=by
   intro j en hj hb';rw[List.getElem?_set];by_cases hij:i=j
   ·subst hij;rw[hE]at hj;simp only[Ac]at hj;subst hj;exact⟨{ens[i]with key:=vk,val:=vv},by simp[hil],hb'⟩
   ·exact⟨en,by simp[hij,hj],hb'⟩
  rcases hβ' k' b hb with hb|⟨en,h8,h9,h10⟩
  ·obtain⟨j,en,g3,g4,g5⟩:=h7 k' b hb;obtain⟨en',g6,g7⟩:=put j en g4 g5;exact⟨j,en',g3,g6,g7⟩
  ·obtain⟨en',g6,g7⟩:=put i en h8 h10;exact⟨i,en',h9,g6,g7⟩
theorem Pa(h:SR P G w0 M0 n st a w z){id:Nat}{mt:TypeId}{kt:KT}{zc:CV}{ks vs:List CV}{r:Nat}{ens:List MapEntry}{clk:Nat}(hσ:z.σ id=.map (some r))(hh:w.heap[r]? =some (.map ⟨ens⟩ clk))
  {ks0 vs0 ks1 vs1:List CV} (hob:st.ob id=.map mt kt zc ks0 vs0) (hmt:ES P mt=some (kt,zc)) (hB:I2 w (Aq M0 z st.ob) (z.β id) kt ks vs ens clk)
  {k v:CV} (hmp:MP ks1 vs1 (ks++ [k]) (vs++ [v])) {vk vv:Value} (hc:A6 kt k=true) (hk:k∉ks) (hvk:An w (Aq M0 z st.ob) k vk) (hvv:An w (Aq M0 z st.ob) v vv) (β':CV→Nat→Prop) (hβ:∀k b,z.β id k b→β' k b)
  (hβ':∀k' b,β' k' b→z.β id k' b∨(k'=k∧b=clk)):
  SR P G w0 M0 n {st with ob:=upd st.ob id (.map mt kt zc ks1 vs1)} a (EZ w r (.map ((⟨ens⟩:Array MapEntry).push {key:=vk,val:=vv,born:=clk}) (clk+1))) {z with β:=upd z.β id β'}:=by
 obtain⟨h1,h2,h3,h4,h5,h6,h7⟩:=hB;have hp:(⟨ens⟩:Array MapEntry).push {key:=vk,val:=vv,born:=clk}=⟨ens++ [{key:=vk,val:=vv,born:=clk}]⟩:=Array.toList_inj.1 (by simp);rw[hp];have hkl:ks.length=ens.length:=by have:=h1.length;rw[List.length_map]at this;omega
 refine SR.turn h (LM hob) (by simp) (by rw[hσ];exact MA w r _) hβ (fun _ hh=>by cases hh) fun hkp hz=>⟨hmt,_,_,r,_,clk+1,hmp,hσ,Qy hh, ?_, ?_, ?_, ?_, ?_, ?_, ?_⟩
 ·rw[List.map_append];exact(Am.keep hkp _ _ h1).append (Am.cons (An.keep hkp _ _ hvk) Am.nil)
 ·rw[List.map_append];exact(Am.keep hkp _ _ h2).append (Am.cons (An.keep hkp _ _ hvv) Am.nil)
 ·intro c hcm;rcases List.mem_append.1 hcm with hcm|hcm
  ·exact h3 c hcm
  ·rw[List.mem_singleton.1 hcm];exact hc
 ·rw[List.nodup_append];refine⟨h4,by simp,fun x hx y hy=> ?_⟩;rw[List.mem_singleton.1 hy];intro e;exact hk (e▸hx)
 ·intro en hen;rcases List.mem_append.1 hen with hen|hen
  ·have:=h5 en hen;omega
  ·rw[List.mem_singleton.1 hen];simp
 ·rw[List.map_append,List.nodup_append];refine⟨h6,by simp,fun x hx y hy=> ?_⟩;simp only[List.map_cons,List.map_nil,List.mem_singleton]at hy;subst hy;obtain⟨en,hen,rfl⟩:=List.mem_map.1 hx;have:=h5 en hen;omega
 ·intro k' b hb;simp only[AH]at hb;rcases hβ' k' b hb with hb|⟨rfl,rfl⟩
  ·obtain⟨j,en,g3,g4,g5⟩:=h7 k' b hb;have hj1:=(Ae.1 g3).1;have hj2:=(Ae.1 g4).1;exact⟨j,en,by rw[List.getElem?_append_left hj1];exact g3,by rw[List.getElem?_append_left hj2];exact g4,g5⟩
  ·exact⟨ks.length,{key:=vk,val:=vv,born:=b},by simp,by rw[hkl];simp,rfl⟩
end
section
variable {P:Program} {G:Nat→List CV} {w0:WL} {M0:MM} {n:Nat} {st:St} {a:Act} {w w':World} {z:Cz}
theorem NT(h:SR P G w0 M0 n st a w z){o:Oper}{t:TypeId}{m k x:Operand}(ho:o.op=.mapUpdate t m k x∨o.op=.insert t m k x)(hdst:o.dst=none){sm sk sx:SO}(hm:Ap m=some sm)(hk:Ap k=some sk)(hx:Ap x=some sx){st':St}
  (hv:AD none (so G st.fr) st (.mapupd t sm sk sx)=some st'):Dt P G w0 M0 n st' a w o:=by
 have hr:=h.ctx.opd hm;have hr2:=h.ctx.opd hk;have hr3:=h.ctx.opd hx;simp only[AD]at hv;generalize so G st.fr sm=q at hr hv;generalize so G st.fr sk=q2 at hr2 hv;generalize so G st.fr sx=q3 at hr3 hv;split at hv<;>(try cases hv;done);rename_i id kc vc;obtain⟨hlive,e1⟩:=hr;cases hob:st.ob id<;>simp only[hob,reduceCtorEq]at hv;rename_i mt kt zc ks vs;simp only[Ad,Ac]at hv;obtain⟨⟨rfl,hc⟩,rfl⟩:=hv;obtain⟨hmt,ks',vs',r,ens,clk,hmp,e2,hh,hB⟩:=GP h hob;have hB0:=hB;obtain⟨h1,h2,h3,h4,h5,h6,h7⟩:=hB0;obtain⟨kty,ety,i,vz,hu,hkt,hi,hz,hzc⟩:=LU hmt;have hIP:=L2 hmp h4 hc vc;have rc:=M6 (P:=P) hkt false hr2 hc;have rf:=M7 (P:=P) hkt hr2 hc h1 h3
 have fin:∀{w' z' st'},(Instr.mapUpdate mt (a.eval m) (a.eval k) (a.eval x)).run P w=.ok () w'→SR P G w0 M0 n st' a w' z'→Dt P G w0 M0 n st' a w o:=by
  intro w' z' st' hrun hS;refine .inr ⟨w',z',by rcases ho with ho|ho<;>simp[execOp,ho,hrun], ?_⟩;rw[hdst];exact hS
 have base:(Instr.mapUpdate mt (a.eval m) (a.eval k) (a.eval x)).run P w=(match Bt ens (A7 kt kc ks')with
   |some (i,_)=>(do
    let key←Instr.keyThatStays ((((⟨ens⟩:Array MapEntry)[i]?).map MapEntry.key).getD (a.eval k)) (a.eval k)
    setObj r (.map ((⟨ens⟩:Array MapEntry).modify i fun e=>{e with key,val:=a.eval x}) clk):Sem Unit)
   |none=>setObj r (.map ((⟨ens⟩:Array MapEntry).push {key:=a.eval k,val:=a.eval x,born:=clk}) (clk+1))).run P w:=by
  rw[e1,e2];simp only[Instr.mapUpdate,Sem.run_bind,run_underlying hu,Result.andThen_ok,getObj,Sem.run,hh,rc,rf];cases Bt ens (A7 kt kc ks')<;>rfl
 cases hf:A7 kt kc ks' with
 |none=>
  have hfa:Bt ens (A7 kt kc ks')=none:=by rw[hf];rfl
  rw[hfa]at base;have e3:AM kt ks' kc=ks'++ [kc]:=by simp[AM,hf]
  have e4:AN kt ks' vs' kc vc=vs'++ [vc]:=by simp[AN,hf]
  rw[e3,e4]at hIP;have hS:=Pa h e2 hh hob hmt hB hIP hc (GJ hc hf) hr2 hr3 (z.β id) (fun _ _ hh=>hh) (fun _ _ hh=>.inl hh);refine fin ?_ hS;rw[base];exact It hh (fun _ _ _ hh=>by cases hh)
 |some i=>
  have hki:=Fz hf;have hil:i<ens.length:=by have:=h1.length;rw[List.length_map]at this;have:=(Ae.1 hki).1;omega
  have hE:ens[i]? =some (ens[i]'hil):=Ai _;have hfa:Bt ens (A7 kt kc ks')=some (i,ens[i].val):=by rw[hf];simp[Bt,hE]
  rw[hfa]at base;obtain⟨v0,g1,g2⟩:=h1.get hki;rw[List.getElem?_map,hE]at g1;simp only[Option.map_some,Ac]at g1;have e3:AM kt ks' kc=ks':=by simp[AM,hf]
  have e4:AN kt ks' vs' kc vc=vs'.set i vc:=by simp[AN,hf]
  rw[e3,e4]at hIP;have hS:=map_set h e2 hh hob hmt hB hIP hki hr2 hr3 (z.β id) (fun _ _ hh=>hh) (fun _ _ hh=>.inl hh);refine fin ?_ hS;rw[base];have hEa:(⟨ens⟩:Array MapEntry)[i]? =some ens[i]:=by rw[←Array.getElem?_toList];exact hE
  have hst:=QG (P:=P) hc (M:=Aq M0 z st.ob) (M':=Aq M0 z st.ob) (u:=ens[i].key) (v:=a.eval k) (by rw[g1];exact g2) hr2 w;simp only[hEa,Option.map_some,Option.getD_some,Sem.run_bind,hst,Result.andThen_ok];exact It hh (fun _ _ _ hh=>by cases hh)
theorem S4(h:SR P G w0 M0 n st a w z){o:Oper}{t:TypeId}{m k:Operand}(ho:o.op=.mapEntry t m k)(hd:∀j,o.dst=some j→j<n){sm sk:SO}(hm:Ap m=some sm)(hk:Ap k=some sk){st':St}
  (hv:AD o.dst (so G st.fr) st (.mapent t sm sk)=some st'):Dt P G w0 M0 n st' a w o:=by
 have hr:=h.ctx.opd hm;have hr2:=h.ctx.opd hk;simp only[AD]at hv;generalize so G st.fr sm=q at hr hv;generalize so G st.fr sk=q2 at hr2 hv;split at hv<;>(try cases hv;done);rename_i id kc;obtain⟨hlive,e1⟩:=hr;cases hob:st.ob id<;>simp only[hob,reduceCtorEq]at hv;rename_i mt kt zc ks vs;simp only[Ad,Ac]at hv;obtain⟨⟨rfl,hc,-⟩,rfl⟩:=hv;obtain⟨hmt,ks',vs',r,ens,clk,hmp,e2,hh,hB⟩:=GP h hob;have hB0:=hB;obtain⟨h1,h2,h3,h4,h5,h6,h7⟩:=hB0;obtain⟨kty,ety,i,vz,hu,hkt,hi,hz,hzc⟩:=LU hmt;have hIP:=fun v=>L2 hmp h4 hc v;rw[LQ (zc:=zc) hmp h4 hc];have rc:=M6 (P:=P) hkt false hr2 hc;have rf:=M7 (P:=P) hkt hr2 hc h1 h3
 have fin:∀{w' z' v st1},(Instr.mapEntry mt (a.eval m) (a.eval k)).run P w=.ok v w'→SR P G w0 M0 n st1 a w' z'→At w' (Aq M0 z' st1.ob) z' st1.ob (.ent id kc (AB kt zc ks' vs' kc).1) v→
   Dt P G w0 M0 n (St.set st1 o.dst (.ent id kc (AB kt zc ks' vs' kc).1)) a w o:=by
  intro w' z' v st1 hrun hS hs;exact .inl ⟨v,w',z',by simp[execOp,ho,hrun],hS.put hd hs⟩
 have base:(Instr.mapEntry mt (a.eval m) (a.eval k)).run P w=(match Bt ens (A7 kt kc ks')with
   |some (i,v)=>(do
    let key←Instr.keyThatStays ((((⟨ens⟩:Array MapEntry)[i]?).map MapEntry.key).getD (a.eval k)) (a.eval k)
    setObj r (.map ((⟨ens⟩:Array MapEntry).modify i fun e=>{e with key}) clk)
    pure (.tuple #[v,goInt ((((⟨ens⟩:Array MapEntry)[i]?).map (fun(x:MapEntry)=>(x.born:Int))).getD 0)]):Sem Value)
   |none=>(do
    let zero←zeroValue ety
    setObj r (.map ((⟨ens⟩:Array MapEntry).push {key:=a.eval k,val:=zero,born:=clk}) (clk+1))
    pure (.tuple #[zero,goInt clk]):Sem Value)).run P w:=by
  rw[e1,e2];simp only[Instr.mapEntry,Sem.run_bind,run_underlying hu,Result.andThen_ok,getObj,Sem.run,hh,rc,rf];cases Bt ens (A7 kt kc ks')<;>rfl
 cases hf:A7 kt kc ks' with
 |none=>
  have hfa:Bt ens (A7 kt kc ks')=none:=by rw[hf];rfl
  rw[hfa]at base;have hzr:An w (Aq M0 z st.ob) zc vz:=Ev _ _ _ _ hzc;have hlook:AB kt zc ks' vs' kc=(zc,false):=by simp[AB,hf]
  have e3:AM kt ks' kc=ks'++ [kc]:=by simp[AM,hf]
  have e4:AN kt ks' vs' kc zc=vs'++ [zc]:=by simp[AN,hf]
  have hIP:=hIP zc;rw[e3,e4]at hIP;have hS:=Pa h e2 hh hob hmt hB hIP hc (GJ hc hf) hr2 hzr (fun k' b=>z.β id k' b∨(k'=kc∧b=clk)) (fun _ _ hh=>.inl hh) (fun _ _ hh=>hh);rw[hlook]at fin⊢;refine fin (v:=.tuple #[vz,goInt clk]) ?_ hS ⟨by simp[AH],clk,vz,by simp[AH],rfl,Ev _ _ _ _ hzc⟩;rw[base];simp only[Sem.run_bind,Ip hi hz,Result.andThen_ok,It hh (fun _ _ _ hh=>by cases hh),Sem.run_pure]
 |some i=>
  have hki:=Fz hf;have hil:i<ens.length:=by have:=h1.length;rw[List.length_map]at this;have:=(Ae.1 hki).1;omega
  have hE:ens[i]? =some (ens[i]'hil):=Ai _;have hfa:Bt ens (A7 kt kc ks')=some (i,ens[i].val):=by rw[hf];simp[Bt,hE]
  rw[hfa]at base;obtain⟨v0,g1,g2⟩:=h1.get hki;rw[List.getElem?_map,hE]at g1;simp only[Option.map_some,Ac]at g1;have hvl:i<vs'.length:=by have:=h2.length;rw[List.length_map]at this;omega
  have hV:vs'[i]? =some (vs'[i]'hvl):=Ai _;obtain⟨v1,g3,g4⟩:=h2.get hV;rw[List.getElem?_map,hE]at g3;simp only[Option.map_some,Ac]at g3;have hlook:AB kt zc ks' vs' kc=(vs'[i],true):=by simp[AB,hf,hV]
  have e3:AM kt ks' kc=ks':=by simp[AM,hf]
  have e4:AN kt ks' vs' kc vs'[i]=vs'.set i vs'[i]:=by simp[AN,hf]
  have hIP:=hIP vs'[i];rw[e3,e4]at hIP
  have hS:=map_set h e2 hh hob hmt hB hIP hki hr2 (v:=vs'[i]) (vv:=ens[i].val) (by rw[g3];exact g4) (fun k' b=>z.β id k' b∨(k'=kc∧b=ens[i].born)) (fun _ _ hh=>.inl hh) (fun k' b hb=>by
   rcases hb with hb|⟨rfl,rfl⟩
   ·exact .inl hb
   ·exact .inr ⟨_,hE,hki,rfl⟩)
  rw[hlook]at fin⊢;have hEa:(⟨ens⟩:Array MapEntry)[i]? =some ens[i]:=by rw[←Array.getElem?_toList];exact hE
  have hmod:((⟨ens⟩:Array MapEntry).modify i fun e=>{e with key:=a.eval k})=((⟨ens⟩:Array MapEntry).modify i fun e=>{e with key:=a.eval k,val:=ens[i].val}):=by
   apply Array.ext_getElem?;intro j;rw[Array.getElem?_modify,Array.getElem?_modify];by_cases hj:i=j
   ·subst hj;simp[hil]
   ·simp[hj]
  refine fin (v:=.tuple #[ens[i].val,goInt ens[i].born]) ?_ hS ⟨by simp[AH],ens[i].born,ens[i].val,by simp[AH],rfl, ?_⟩
  ·rw[base];have hst:=QG (P:=P) hc (M:=Aq M0 z st.ob) (M':=Aq M0 z st.ob) (u:=ens[i].key) (v:=a.eval k) (by rw[g1];exact g2) hr2 w;simp only[hEa,Option.map_some,Option.getD_some,Sem.run_bind,hst,Result.andThen_ok,hmod,It hh (fun _ _ _ hh=>by cases hh),Sem.run_pure]
  ·rw[g3];exact An.keep (SR.turnK (LM hob) (by simp) (by rw[e2];exact MA w r _)) _ _ g4
theorem VB{o:Oper}{st':St}{z':Cz}(hdst:o.dst=none)(hS:SR P G w0 M0 n st' a w' z')(run:(execOp a.eval o).run P w=.ok .skip w'):Dt P G w0 M0 n st' a w o:=
 .inr ⟨w',z',run,by rw[hdst];exact hS⟩
theorem S3(h:SR P G w0 M0 n st a w z){o:Oper}{t:TypeId}{m s x:Operand}(ho:o.op=.entryStore t m s x)(hdst:o.dst=none){sm ss sx:SO}(hm:Ap m=some sm)(hs:Ap s=some ss)(hx:Ap x=some sx){st':St}
  (hv:AD none (so G st.fr) st (.entst sm ss sx)=some st'):Dt P G w0 M0 n st' a w o:=by
 have hr:=h.ctx.opd hm;have hr2:=h.ctx.opd hs;have hr3:=h.ctx.opd hx;simp only[AD]at hv;generalize so G st.fr sm=q at hr hv;generalize so G st.fr ss=q2 at hr2 hv;generalize so G st.fr sx=q3 at hr3 hv;split at hv<;>(try cases hv;done);rename_i id id' kc vc;obtain⟨hlive,e1⟩:=hr;obtain⟨_,b,hb,e5⟩:=hr2;cases hob:st.ob id<;>simp only[hob,reduceCtorEq]at hv;rename_i mt kt zc ks vs;simp only[Ad,Ac]at hv;obtain⟨rfl,rfl⟩:=hv;obtain⟨hmt,ks',vs',r,ens,clk,hmp,e2,hh,hB⟩:=GP h hob;have hB0:=hB;obtain⟨h1,h2,h3,h4,h5,h6,h7⟩:=hB0;obtain⟨i,en,hki,hE,hen⟩:=h7 kc b hb;have hc:=h3 kc (List.mem_of_getElem? hki);have hf:=Jg hc h4 hki;have hIP:=L2 hmp h4 hc vc;have hil:=(Ae.1 hE).1;have hE':ens[i]=en:=by rw[Ai hil]at hE;simpa using hE
 obtain⟨v0,g1,g2⟩:=h1.get hki;rw[List.getElem?_map,hE]at g1;simp only[Option.map_some,Ac]at g1
 have hfind:(⟨ens⟩:Array MapEntry).findIdx? (fun e=>(e.born:Int)==(b:Int))=some i:=by
  rw[Array.findIdx?_eq_some_iff_getElem];refine⟨by simpa using hil,by simp[hE',hen],fun j hj=> ?_⟩;have hjl:j<ens.length:=by omega
  simp only[beq_iff_eq,Int.natCast_inj];intro hbj;have e6:(ens.map (·.born))[j]? =some b:=by simp[Ai hjl];simpa using hbj
  have e7:(ens.map (·.born))[i]? =some b:=by simp[Ai hil,hE',hen]
  have:=(List.getElem?_inj (by simpa using hjl) h6).1 (e6.trans e7.symm);omega
 have e3:AM kt ks' kc=ks':=by simp[AM,hf]
 have e4:AN kt ks' vs' kc vc=vs'.set i vc:=by simp[AN,hf]
 rw[e3,e4]at hIP
 have e3':AM kt ks kc=ks:=by
  obtain⟨j,v,k1,k2,k3⟩:=hmp.symm.at_ hki;have hnn:ks.Nodup:=(hmp.ks.nodup_iff).1 h4;simp[AM,Jg hc hnn k2]
 rw[e3']at hIP;have hS:=map_set h e2 hh hob hmt hB hIP hki (vk:=ens[i].key) (by rw[hE',g1];exact g2) hr3 (z.β id) (fun _ _ hh=>hh) (fun _ _ hh=>.inl hh)
 have hmod:((⟨ens⟩:Array MapEntry).modify i fun e=>{e with val:=a.eval x})=((⟨ens⟩:Array MapEntry).modify i fun e=>{e with key:=ens[i].key,val:=a.eval x}):=by
  apply Array.ext_getElem?;intro j;rw[Array.getElem?_modify,Array.getElem?_modify];by_cases hj:i=j
  ·subst hj;simp[hil]
  ·simp[hj]
 have run:(Instr.entryStore t (a.eval m) (a.eval s) (a.eval x)).run P w=.ok () (EZ w r (.map ((⟨ens⟩:Array MapEntry).modify i fun e=>{e with key:=ens[i].key,val:=a.eval x}) clk)):=by
  rw[e1,e2,e5];simp only[Instr.entryStore,Sem.run_bind,getObj,Sem.run,hh,asInt,asIntOf,Sem.run_pure,Result.andThen_ok,hfind,hmod,It hh (fun _ _ _ hh=>by cases hh)]
 refine VB hdst hS ?_;simp only[execOp,ho,Sem.run_bind,run,Result.andThen_ok,Sem.run_pure]
def Gd:SOp→Bool
 | .store .. | .entst .. | .mapupd .. =>true
 |_=>false
theorem S5(h:SR P G w0 M0 n st a w z){o:Oper}{sop:SOp}(hc:Bs P o=some sop)(hcls:sop.cls=.eff)(hd:∀j,o.dst=some j→j<n)(hm:Gd sop=true→o.dst=none){st':St}
  (hv:AD o.dst (so G st.fr) st sop=some st'):Dt P G w0 M0 n st' a w o:=by
 unfold Bs at hc;split at hc<;>rename_i ho<;>(try cases hc;done)
 ·simp only[Aa]at hc;obtain⟨_,_,rfl⟩:=hc;cases hcls
 ·simp only[Aa]at hc;obtain⟨_,_,rfl⟩:=hc;cases hcls
 ·simp only[Ab,Aa]at hc;obtain⟨_,_,_,_,_,_,rfl⟩:=hc;cases hcls
 ·split at hc<;>(simp only[Ab,Aa]at hc;obtain⟨_,_,_,_,_,_,rfl⟩:=hc;cases hcls)
 ·simp only[Aa]at hc;obtain⟨_,_,rfl⟩:=hc;cases hcls
 ·simp only[Ab,Aa]at hc;obtain⟨_,_,_,_,_,_,_,_,rfl⟩:=hc;cases hcls
 ·split at hc<;>(try cases hc;done);simp only[Ab,Ad,Ac]at hc;obtain⟨_,_,_,_,_,_,_,_,_,rfl⟩:=hc;cases hcls
 ·simp only[Ab,Aa]at hc;obtain⟨_,_,_,_,rfl⟩:=hc;cases hcls
 ·
  simp only[Ab,Aa]at hc;obtain⟨i,hi,sa,hsa,sx,hsx,rfl⟩:=hc;have hdn:=hm rfl;rw[hdn]at hv;exact S6 h ho hdn hi hsa hsx hv
 ·have:=FO hc;rw[hcls]at this;cases this
 ·simp only[Aa]at hc;obtain⟨_,_,rfl⟩:=hc;cases hcls
 ·have:=G7 hc;rw[hcls]at this;rcases this with h'|h'<;>cases h'
 ·simp only[Aa]at hc;obtain⟨_,_,rfl⟩:=hc;cases hcls
 ·split at hc<;>(try cases hc;done);all_goals(simp only[Ad,Aa]at hc;obtain⟨_,_,_,rfl⟩:=hc;cases hcls)
 ·simp only[Aa,Prod.exists]at hc;obtain⟨_,_,_,rfl⟩:=hc;cases hcls
 ·split at hc<;>(try cases hc;done);simp only[Ab,Ad,Ac]at hc;obtain⟨_,_,_,_,_,_,_,_,_,_,_,rfl⟩:=hc;cases hcls
 ·split at hc<;>(try cases hc;done);simp only[Ab,Aa]at hc;obtain⟨_,_,_,_,_,_,_,_,_,_,rfl⟩:=hc;cases hcls
 ·split at hc<;>(try cases hc;done)
  ·simp only[Ab,Aa]at hc;obtain⟨_,_,_,_,_,_,rfl⟩:=hc;cases hcls
  ·simp only[Ab,Aa]at hc;obtain⟨_,_,_,_,_,_,_,_,rfl⟩:=hc;cases hcls
  ·split at hc<;>(try cases hc;done);simp only[Ab,Ad,Aa]at hc;obtain⟨_,_,_,_,_,rfl⟩:=hc;cases hcls
 ·split at hc<;>(try cases hc;done)
  ·simp only[Aa]at hc;obtain⟨_,_,rfl⟩:=hc;cases hcls
  ·simp only[Ab,Option.ite_none_left_eq_some,Aa]at hc;obtain⟨_,_,_,_,_,_,_,rfl⟩:=hc;cases hcls
 ·split at hc<;>(try cases hc;done);simp only[Ab,Aa]at hc;obtain⟨_,_,_,_,_,_,rfl⟩:=hc;cases hcls
 ·split at hc<;>(try cases hc;done)
  ·simp only[Ab,Option.ite_none_left_eq_some,Aa]at hc;obtain⟨_,_,_,_,_,_,_,rfl⟩:=hc;cases hcls
  ·simp only[Ab,Option.ite_none_left_eq_some,Aa]at hc;obtain⟨_,_,_,_,_,_,_,rfl⟩:=hc;cases hcls
 ·split at hc<;>(try cases hc;done)
  ·simp only[Ab,Aa]at hc;obtain⟨_,_,_,_,rfl⟩:=hc;cases hcls
  ·simp only[Ab,Aa]at hc;obtain⟨_,_,_,_,_,_,_,_,rfl⟩:=hc;cases hcls
 ·simp only[Ab,Aa]at hc;obtain⟨_,_,_,_,_,_,rfl⟩:=hc;cases hcls
 ·split at hc<;>(try cases hc;done);simp only[Ab,Aa]at hc;obtain⟨sm,hsm,sk,hsk,sx,hsx,rfl⟩:=hc;have hdn:=hm rfl;rw[hdn]at hv;exact NT h (.inl ho) hdn hsm hsk hsx hv
 ·split at hc<;>(try cases hc;done);simp only[Ab,Aa]at hc;obtain⟨sm,hsm,sk,hsk,sx,hsx,rfl⟩:=hc;have hdn:=hm rfl;rw[hdn]at hv;exact NT h (.inr ho) hdn hsm hsk hsx hv
 ·split at hc<;>(try cases hc;done);simp only[Ab,Aa]at hc;obtain⟨sm,hsm,sk,hsk,rfl⟩:=hc;exact S4 h ho hd hsm hsk hv
 ·simp only[Ab,Aa]at hc;obtain⟨sm,hsm,ss,hss,sx,hsx,rfl⟩:=hc;have hdn:=hm rfl;rw[hdn]at hv;exact S3 h ho hdn hsm hss hsx hv
 ·split at hc<;>(try cases hc;done);all_goals(simp only[Aa]at hc;obtain⟨_,_,rfl⟩:=hc;cases hcls)
 ·simp only[Aa]at hc;obtain⟨_,_,rfl⟩:=hc;cases hv
 ·simp only[Aa]at hc;obtain⟨_,_,rfl⟩:=hc;cases hcls
 ·simp only[Aa]at hc;obtain⟨_,_,rfl⟩:=hc;cases hcls
 ·
  rename_i c;obtain⟨callee,args,argTypes⟩:=c;unfold DC at hc;split at hc<;>(try cases hc;done)
  ·split at hc<;>first
    |(cases hc;done)
    |(simp only[Aa]at hc;obtain⟨_,_,rfl⟩:=hc;cases hcls)
    |(simp only[Ac]at hc;subst hc;cases hcls)
  ·simp only[Aa]at hc;obtain⟨_,_,rfl⟩:=hc;cases hcls
  ·simp only[Aa]at hc;obtain⟨_,_,rfl⟩:=hc;cases hcls
  ·rename_i hcal;simp only at hcal;subst hcal;split at hc<;>(try cases hc;done);rename_i x y t u hargs hat
   split at hc<;>(try cases hc;done);rename_i e _ hu _;simp only[Ab,Ad,Ac]at hc;obtain⟨i,hi,zv,hz,sx,hsx,sy,hsy,⟨rfl,h0,hzs⟩,rfl⟩:=hc;exact S2 h ho hargs hat hu hi hz hzs h0 hd hsx hsy hv
  ·split at hc<;>(try cases hc;done);rcases Es hc with⟨l,hl,rfl⟩|⟨_,_,_,_,_,_,_,rfl⟩<;>cases hcls
  ·simp only[Aa]at hc;obtain⟨_,_,rfl⟩:=hc;cases hcls
end
def z0(v:Value)(al:Nat→Nat:=fun _=>0):Cz:={σ:=fun _=>v,β:=fun _ _ _=>False,al:=al}
def ob0:Nat→Ob:=fun _=>.none
def FI(P:Program)(w:World)(M:MM)(B:Nat)(v:Value):Res→Prop
 | .val c=>An w M c v
 | .new o=>CN o=true∧(∀g,blk v=some g→B≤g∧g<w.heap.size)∧AI P w ⟨fun g=>M g∨blk v=some g,M.al⟩ B (z0 v) ob0 0 v o
def CallsTo(P:Program)(G:Nat→List CV)(f:FuncId)(args:List CV)(r:Res):Prop:=
 ∀(w:World) (M:MM) (vs:List Value),(∀g,M g→g<w.heap.size)→GOk G w M→Am w M args vs→
  Calls P f ⟨vs⟩ w fun e w'=>∃v,e=.returned v∧Below w.heap.size w w'∧FI P w' M w.heap.size v r
def Rd(P:Program)(f:FuncId):Prop:=∀(w:World) (bd clk:Nat) (ps:Option Nat) (ens:List MapEntry),w.heap[bd]? =some (.map ⟨[]⟩ clk)→
 ((ps=none∧ens= [])∨∃bs clk',ps=some bs∧bs≠bd∧w.heap[bs]? =some (.map ⟨ens⟩ clk')∧Ens ens clk')→
 (∀en:MapEntry,en∈ens→∃s:List UInt8,en.key=.string ⟨⟨s⟩⟩∧s.length≤9223372036854775807)→ens.length≤9223372036854775807→
 Calls P f ⟨[.map (some bd),.map ps]⟩ w fun e w'=>e=.returned (.tuple ⟨[]⟩)∧w.grownBy w' (some bd)∧∃(ens':List MapEntry) (clk':Nat),w'.heap[bd]? =some (.map ⟨ens'⟩ clk')∧Ens ens' clk'∧
  (ens'.map fun e=>(e.key,e.val)).Perm (ens.map fun e=>(e.key,e.val))
def MV(P:Program)(cp:FuncId→Bool):Prop:=∀f,cp f=true→AW P f=true∧Rd P f
def Rj(P:Program)(E:Env):Prop:=∀f args r,E.fn f args=some r→AW P f=true∧CallsTo P E.G f args r
structure Hl (P:Program) (w:World) (M:MM) (z:Cz) (T:List Nat) (H:Nat→Ob):Prop where
 ob:∀id,AI P w M 0 z H id (z.σ id) (H id)
 lo:∀id g,H id≠ .none→blk (z.σ id)=some g→g<w.heap.size∧M g
 apart:∀i j g,i≠j→H i≠ .none→H j≠ .none→blk (z.σ i)=some g→blk (z.σ j)≠some g
 told:∀{bt} N cs,Au≤N→H N=.box cs bt→z.σ N=.pointer (some ⟨z.al N,0,none⟩)
 only:∀id,H id≠ .none→T.contains id=true
 al:z.al=M.al
def Fe(P:Program)(G:Nat→List CV)(f:FuncId)(T:List Nat)(args:List CV)(H:Nat→Ob)(r:CV)(H':Nat→Ob):Prop:=
 ∀(w:World) (M:MM) (z:Cz) (vs:List Value),(∀g,M g→g<w.heap.size)→GOk G w M→Am w M args vs→Hl P w M z T H→
  Calls P f ⟨vs⟩ w fun e w'=>∃v z',e=.returned v∧(w'.os=w.os∧w'.tape=w.tape∧w'.output=w.output∧w.heap.size≤w'.heap.size∧∀g,g<w.heap.size→¬own z H g→w'.heap[g]? =w.heap[g]?)∧
   Hl P w' (Aq M z' H') z' T H'∧(∀id g,H' id≠ .none→blk (z'.σ id)=some g→(H id≠ .none∧blk (z.σ id)=some g)∨w.heap.size≤g)∧z'.al=M.al∧An w' (Aq M z' H') r v
def Em(P:Program)(G:Nat→List CV)(f:FuncId)(T:List Nat)(args:List CV)(H:Nat→Ob)(r:CV)(H':Nat→Ob):Prop:=match DN f with
 |none=>Fe P G f T args H r H'
 |some g=>∃l c,args=l++ [c]∧Fe P G g T (c::l) H r H'
def MW(P:Program)(E:Env):Prop:=∀f e,E.ef f=some e→AW P ((DN f).getD f)=true∧∀args H r H',e.fn args H=some (r,H')→Em P E.G f e.T args H r H'
structure EOk (P:Program) (E:Env):Prop where
 fn:Rj P E
 cp:MV P E.cp
 ef:MW P E
theorem EOk.at{P:Program}{E:Env}(h:EOk P E)(D:Option (List Nat)):EOk P (E.at D):=by
 cases D with
 |none=>exact h
 |some D=>exact⟨h.fn,h.cp,fun f e he=>by cases he⟩
theorem EOk.named{P:Program}{E:Env}(h:EOk P E):EOk P E.named:=⟨fun f l r hr=>by
 have hr':(match E.fn f l with
  |some (.new o)=>if CN o=true then some (.new o)else none
  |r=>r)=some r:=hr
 split at hr'
 ·rename_i o h1;split at hr'<;>(try cases hr';done);cases hr';exact h.fn f l _ h1
 ·exact h.fn f l _ hr',h.cp,fun f e he=>by
 have he':(match E.ef f with
  |some e=>if(e.T.all fun N=>Nat.ble Au N)=true then some e else none
  |none=>none)=some e:=he
 split at he'<;>(try cases he';done);split at he'<;>(try cases he';done);rename_i e' h1 h2;cases he'
 exact h.ef f e h1⟩
section
variable {P:Program} {w w':World} {M M':MM}
mutual
theorem LX(hal:M'.al=M.al):∀(c:CV) (v:Value),memless c=true→An w M c v→An w' M' c v
 | .int _ _,_,_,h=>by unfold An at*;exact h
 | .bool _,_,_,h=>by unfold An at*;exact h
 | .str _,_,_,h=>by unfold An at*;exact h
 | .nilif,_,_,h=>by unfold An at*;exact h
 | .nilfn,_,_,h=>by unfold An at*;exact h
 | .adr _,_,_,h=>by unfold An at*;exact h
 | .nilp,_,_,h=>by unfold An at*;exact h
 | .nam _,_,_,h=>by unfold An at*;rw[hal];exact h
 | .bptr _,_,_,h=>by unfold An at*;rw[hal];exact h
 | .agg cs,v,hm,h=>by
  unfold An at*;obtain⟨vs,e,hl⟩:=h;exact⟨vs,e,HY hal cs vs (by simpa[memless]using hm) hl⟩
 | .tup cs,v,hm,h=>by
  unfold An at*;obtain⟨vs,e,hl⟩:=h;exact⟨vs,e,HY hal cs vs (by simpa[memless]using hm) hl⟩
 | .sl _ _,_,hm,_=>by simp[memless]at hm
 | .map _ _ _,_,hm,_=>by simp[memless]at hm
 | .rp _,_,hm,_=>by simp[memless]at hm
 | .wp _,_,hm,_=>by simp[memless]at hm
 | .fn _ _,_,hm,_=>by simp[memless]at hm
 | .ifc,_,hm,_=>by simp[memless]at hm
theorem HY(hal:M'.al=M.al):∀(cs:List CV) (vs:List Value),BW cs=true→Am w M cs vs→Am w' M' cs vs
 | [],_,_,h=>by unfold Am at*;exact h
 |c::cs,vs,hm,h=>by
  unfold Am at*;obtain⟨v,vs',e,h1,h2⟩:=h;simp only[BW,Af]at hm;exact⟨v,vs',e,LX hal c v hm.1 h1,HY hal cs vs' hm.2 h2⟩
end
theorem Pc(hal:M'.al=M.al){size:Nat}:∀(cs:List CV) (xs:List Value),BW cs=true→AG w M size cs xs→AG w' M' size cs xs
 | [],_,_,h=>h
 |c::cs,xs,hm,h=>by
  obtain⟨v,xs',e,h1,h2,h3⟩:=h;simp only[BW,Af]at hm;exact⟨v,xs',e,h1,LX hal c v hm.1 h2,Pc hal cs xs' hm.2 h3⟩
theorem LW:∀(l:List CV),BW l=true↔∀c∈l,memless c=true
 | []=>by simp[BW]
 |c::l=>by simp[BW,LW l]
theorem Pd{l l':List CV}(h:l'.Perm l)(hm:BW l=true):BW l'=true:=
 (LW l').2 fun c hc=>(LW l).1 hm c (h.mem_iff.1 hc)
theorem Nj(hal:M'.al=M.al){B B' id id':Nat}{v:Value}{z z':Cz}{ob ob':Nat→Ob}{o:Ob}(hB:B'≤B)(hh:CN o=true)(hM:∀g,g<w.heap.size→M' g→M g)(hβ:∀k b,¬z'.β id k b)(h:AI P w M B z ob id' v o):AI P w M' B' z' ob' id v o:=by
 have hk:AR w M w M':=⟨Nat.le_refl _,fun _ _ _=>rfl,hM,hal⟩;cases o<;>simp[CN]at hh
 ·obtain⟨xs,h1,h2⟩:=h;exact⟨xs,h1.blk (fun _ _=>rfl) hB,AG.keep hk h2⟩
 ·obtain⟨hmt,ks',vs',r,ens,clk,hmp,e,g1,g2,g3,g4,g5,g6,g7,_⟩:=h;exact⟨hmt,ks',vs',r,ens,clk,hmp,e,g1,Am.keep hk _ _ g2,Am.keep hk _ _ g3,g4,g5,g6,g7,fun k b hb=>absurd hb (hβ k b)⟩
theorem Rr(hal:M'.al=M.al){B B' id id':Nat}{v:Value}{z z':Cz}{ob ob':Nat→Ob}{o:Ob}(hB:B'≤B)(hm:(Res.new o).memless=true)(hβ:∀k b,¬z'.β id k b)(h:AI P w M B z ob id' v o):AI P w M' B' z' ob' id v o:=by
 cases o<;>simp[Res.memless]at hm
 ·obtain⟨xs,h1,h2⟩:=h;exact⟨xs,h1.blk (fun _ _=>rfl) hB,Pc hal _ _ hm h2⟩
 ·obtain⟨hmt,ks',vs',r,ens,clk,hmp,e,g1,g2,g3,g4,g5,g6,g7,_⟩:=h;exact⟨hmt,ks',vs',r,ens,clk,hmp,e,g1,HY hal _ _ (Pd hmp.ks hm.1) g2,HY hal _ _ (Pd hmp.vs hm.2) g3,g4,g5,g6,g7,fun k b hb=>absurd hb (hβ k b)⟩
end
section
variable {P:Program} {E:Env} {w0:WL} {M0:MM} {n:Nat} {st:St} {a:Act} {w w':World} {z:Cz}
def mm0(w0:WL)(M0:MM)(z:Cz):MM:=⟨fun g=>M0 g∧∀id,¬w0.L id g,z.al⟩
theorem SR.outerW{G:Nat→List CV}(h:SR P G w0 M0 n st a w z):∀g,M0 g→g<w.heap.size:=fun g hg=>Nat.lt_of_lt_of_le (h.outer g hg) h.below.size
theorem SR.mutW{G:Nat→List CV}(h:SR P G w0 M0 n st a w z):∀g,Aq M0 z st.ob g→g<w.heap.size:=fun g hg=>by
 rcases hg with hg|⟨id,hl,hb⟩
 ·exact h.outerW g hg
 ·exact(h.lo id g hl hb).2
theorem KS{G:Nat→List CV}(h:SR P G w0 M0 n st a w z){rd:Nat→Ob}(hrd:∀id,rd id=.none∨rd id=st.ob id){s:SV}{v:Value}{c:CV}(hs:At w (Aq M0 z st.ob) z st.ob s v)(hc:BS rd s=some c):An w (mm0 w0 M0 z) c v:=by
 have hk:AR w (Aq M0 z st.ob) w (mm0 w0 M0 z):=⟨Nat.le_refl _,fun _ _ _=>rfl,fun g _ hg=>.inl hg.1,rfl⟩;have hout:∀id g,st.ob id≠ .none→blk (z.σ id)=some g→¬mm0 w0 M0 z g:=fun id g hl hb hm=>hm.2 id (h.low hl hb (h.outer g hm.1));cases s<;>(try simp only[BS,reduceCtorEq]at hc;done)
 ·simp only[BS,Ac]at hc;subst hc;exact An.keep hk _ _ hs
 ·rename_i id;obtain⟨hlive,e⟩:=hs;simp only[BS]at hc;rcases hrd id with e'|e'
  ·rw[e']at hc;cases hc
  ·rw[e']at hc;cases hob:st.ob id<;>rw[hob]at hc<;>(try simp only[reduceCtorEq]at hc;done);rename_i et sz es;simp only[Ac]at hc;subst hc;have ho:=h.ob id;rw[hob]at ho;obtain⟨xs,hown,hf⟩:=ho;unfold An;rcases hown.2 with⟨e1,e2⟩|⟨g,cap,cur,ty,fz,e1,e2,e3,_,_,e4,e5,e6,e7⟩
   ·refine⟨none,0,0,by rw[e,e1],e2.symm,Nat.le_refl _,(fun hh=>by cases hh),(fun hh=>by cases hh),fun _=>rfl,fun hne=> ?_⟩;exact absurd (List.eq_nil_of_length_eq_zero e2) hne
   ·refine⟨some ⟨g,0,none⟩,es.length,cap,by rw[e,e1],rfl,e4,(fun hh=>by cases hh),(fun hh=>by cases hh),(fun hh=>by cases hh),fun _=>⟨⟨g,0,none⟩,sz,rfl,Cc e3,hout id g hlive (by rw[e1];rfl), ?_⟩⟩;refine EE fun k el hel=> ?_;obtain⟨u,g1,g2,g3⟩:=Fg hf hel;refine⟨u,An.keep hk _ _ g1,g2,fun j u' hu=> ?_⟩;rw[Df,cell_of_row w g _ cur ty fz e3];have h8:=g3 j u' hu;rw[←e7,List.getElem?_take]at h8;split at h8
    ·simpa using h8
    ·cases h8
 ·rename_i id;obtain⟨hlive,e⟩:=hs;simp only[BS]at hc;rcases hrd id with e'|e'
  ·rw[e']at hc;cases hc
  ·rw[e']at hc;cases hob:st.ob id<;>rw[hob]at hc<;>(try simp only[reduceCtorEq]at hc;done);simp only[Ac]at hc;subst hc;obtain⟨hmt,ks',vs',r,ens,clk,hmp,e1,hh,h1,h2,h3,h4,h5,h6,_⟩:=GP h hob;obtain⟨ens',hp,h1',h2'⟩:=PQ hmp h1 h2;unfold An;refine⟨some r,by rw[e,e1],(fun hh=>by cases hh),(fun hh=>by cases hh),(fun hh=>by cases hh),fun b hb=> ?_⟩;cases hb;exact⟨hout id r hlive (by rw[e1];rfl),ens,ens',clk,hh,⟨Mb h3 h1 h4,h5,h6⟩,hp,Am.keep hk _ _ h1',Am.keep hk _ _ h2'⟩
theorem KU{G:Nat→List CV}(h:SR P G w0 M0 n st a w z){rd:Nat→Ob}(hrd:∀id,rd id=.none∨rd id=st.ob id):∀{xs:List Operand} {sxs:List SO} {l:List CV},Ar Ap xs=some sxs→Ar (fun x=>BS rd (so G st.fr x)) sxs=some l→
  Am w (mm0 w0 M0 z) l (xs.map a.eval)∧((sxs.all fun x=>isC (so G st.fr x))=true→Am w (Aq M0 z st.ob) l (xs.map a.eval))
 | [],sxs,l,h1,h2=>by
  simp only[Ar,Ac]at h1;subst h1;simp only[Ar,Ac]at h2;subst h2;exact⟨Am.nil,fun _=>Am.nil⟩
 |x::xs,sxs,l,h1,h2=>by
  simp only[Ar,Ab,Aa]at h1;obtain⟨s,hs,ss,hss,rfl⟩:=h1;simp only[Ar,Ab,Aa]at h2;obtain⟨c,hc,cs,hcs,rfl⟩:=h2;obtain⟨g1,g2⟩:=KU h hrd hss hcs;refine⟨Am.cons (KS h hrd (h.ctx.opd hs) hc) g1,fun hall=> ?_⟩;simp only[List.all_cons,Af]at hall;refine Am.cons ?_ (g2 hall.2);have hr:=h.ctx.opd hs;generalize so G st.fr s=q at hr hc hall;cases q<;>simp[isC]at hall;simp only[BS,Ac]at hc;subst hc;exact hr
theorem O6{G:Nat→List CV}(h:SR P G w0 M0 n st a w z):GOk G w (Aq M0 z st.ob):=h.globW
theorem Tj{G:Nat→List CV}(h:SR P G w0 M0 n st a w z):GOk G w (mm0 w0 M0 z):=
 h.globW.keep (Nat.le_refl _) (fun _ _ _=>rfl) fun g _ hm=>.inl hm.1
theorem RH(hE:EOk P E)(h:SR P E.G w0 M0 n st a w z){d:Option Nat}(hd:∀j,d=some j→j<n){f:FuncId}{l:List CV}{vs:List Value}{r:Res}{open_:Bool}(hf:E.fn f l=some r)
  (h1:Am w (mm0 w0 M0 z) l vs) (h2:open_=false→Am w (Aq M0 z st.ob) l vs) (hmem:open_=true→r.memless=true) {st':St} (hs:D3 st d r=some st'):
  Calls P f ⟨vs⟩ w fun e w'=>∃v,e=.returned v∧∃z',SR P E.G w0 M0 n st' (a.put d v) w' z':=by
 obtain⟨_,hc⟩:=hE.fn f l r hf
 cases open_ with
 |true=>
  have hm:=hmem rfl;refine(hc w (mm0 w0 M0 z) vs (fun g hg=>h.outerW g hg.1) (Tj h) h1).mono fun e w' ⟨v,he,hb,hr⟩=>⟨v,he, ?_⟩;have hg:=h.grow hb
  cases r with
  |val c=>
   simp only[D3,Ac]at hs;subst hs;exact⟨z,hg.put hd (LX (by rfl) c v hm hr)⟩
  |new o=>
   obtain⟨hh,hv,ho⟩:=hr;simp only[D3,AY]at hs
   cases d with
   |none=>cases hs
   |some d=>
    simp only at hs;split at hs<;>(try cases hs;done);rename_i hn;simp only[Ac,Option.getD_some]at hs;subst hs;refine⟨z.new d v,h.new (hd d rfl) hn hb hv (Rr (by rfl) (Nat.zero_le _) hm (fun k b hh=>by simp[Cz.new]at hh) ho) ?_⟩;cases o<;>simp[CN]at hh<;>exact⟨E4 (by simp),CE.symm⟩
 |false=>
  refine(hc w (Aq M0 z st.ob) vs h.mutW (O6 h) (h2 rfl)).mono fun e w' ⟨v,he,hb,hr⟩=>⟨v,he, ?_⟩;have hg:=h.grow hb
  cases r with
  |val c=>
   simp only[D3,Ac]at hs;subst hs;exact⟨z,hg.put hd hr⟩
  |new o=>
   obtain⟨hh,hv,ho⟩:=hr;simp only[D3,AY]at hs
   cases d with
   |none=>cases hs
   |some d=>
    simp only at hs;split at hs<;>(try cases hs;done);rename_i hn;simp only[Ac,Option.getD_some]at hs;subst hs;refine⟨z.new d v,h.new (hd d rfl) hn hb hv (Nj (by rfl) (Nat.zero_le _) hh (fun g _ hg=> ?_) (fun k b hh=>by simp[Cz.new]at hh) ho) ?_⟩
    ·rcases hg with hg|⟨id,hl,hb'⟩
     ·exact .inl (.inl hg)
     ·by_cases hid:id=d
      ·subst hid;rw[CE]at hb';exact .inr hb'
      ·rw[Az _ _ hid]at hl;exact .inl (.inr ⟨id,hl,by simpa[Cz.new,upd,hid]using hb'⟩)
    ·cases o<;>simp[CN]at hh<;>exact⟨E4 (by simp),CE.symm⟩
end
section
variable {P:Program} {E:Env} {w0:WL} {M0:MM} {n:Nat} {st:St} {a:Act} {w w':World} {z:Cz}
theorem O0{w w1:World}{g:Nat}(h:Below w.heap.size w w1)(hg:w.heap.size≤g)(o k:Nat):Below w.heap.size w (w1.freeze ⟨g,o,none⟩ k):=by
 unfold World.freeze;split
 ·exact h
 ·refine⟨h.os,h.tape,h.output,by simpa using h.size,fun j hj=> ?_⟩;simp only[Array.getElem?_modify];rw[if_neg (by omega)];exact h.block j hj
theorem O8{o:Oper}{sop:SOp}(hc:Bs P o=some sop)(hcls:sop.cls=.grow):∃src dst x,o.op=.convert src dst x∧Fo P src dst x=some sop:=by
 unfold Bs at hc
 split at hc<;>rename_i ho<;>first
  |(cases hc;done)
  |exact⟨_,_,_,ho,hc⟩
  |(exfalso;have:=FO hc;rw[hcls]at this;cases this;done)
  |(exfalso
    unfold DC at hc
    (repeat' split at hc)<;>try(rcases Es hc with⟨_,_,rfl⟩|⟨_,_,_,_,_,_,_,rfl⟩<;>(cases hcls;done))
    all_goals simp only[Ab,Aa,Ad,Ac,reduceCtorEq]at hc
    all_goals(repeat (first|(subst hc;cases hcls;done)|(obtain⟨_,hc⟩:=hc)))
    done)
  |(exfalso
    (repeat' split at hc)<;>simp only[Ab,Aa,Option.ite_none_left_eq_some,Ad,Ac,Prod.exists,reduceCtorEq]at hc
    all_goals(repeat (first|(subst hc;cases hcls;done)|(obtain⟨_,hc⟩:=hc)))
    done)
theorem N0{src dst e:TypeId}(hu1:P.underlying src=some .string)(hu2:P.underlying dst=some (.slice e))(hu3:P.underlying e=some (.int .u8))(s:List UInt8):
  ∃cap:Nat,s.length≤cap∧(s.length≤70368744177664→cap≤maxLen)∧(convert src dst (.string ⟨⟨s⟩⟩)).run P w=.ok (.slice (some ⟨w.heap.size,0,none⟩) s.length cap)
    (((w.drew).alloc (.cells (((⟨s⟩:Array UInt8).map fun b=>Value.int .u8 b.toNat)++Array.replicate (cap-s.length) (.int .u8 0)) e)).freeze ⟨w.heap.size,cap,none⟩ 1)∧
   (((w.drew).alloc (.cells (((⟨s⟩:Array UInt8).map fun b=>Value.int .u8 b.toNat)++Array.replicate (cap-s.length) (.int .u8 0)) e)).freeze ⟨w.heap.size,cap,none⟩ 1).heap[w.heap.size]? =some (.cells (((⟨s⟩:Array UInt8).map fun b=>Value.int .u8 b.toNat)++Array.replicate (cap-s.length) (.int .u8 0)) e (cap,cap+1)):=by
 let elems:Array Value:=(⟨s⟩:Array UInt8).map fun b=>.int .u8 b.toNat
 have hsz:(⟨⟨s⟩⟩:ByteArray).size=s.length:=rfl;have hcap:s.length≤Question.cut (.appendCap s.length 0 e) (w.tape w.drawn (.appendCap s.length 0 e)):=by simp[Question.cut]
 have hmax:s.length≤70368744177664→Question.cut (.appendCap s.length 0 e) (w.tape w.drawn (.appendCap s.length 0 e))≤maxLen:=fun hle=>by
  simp only[Question.cut,maxLen];have:=Nat.mod_lt (w.tape w.drawn (.appendCap s.length 0 e)) (show 0<2^63-s.length by omega);omega
 generalize hq:Question.cut (.appendCap s.length 0 e) (w.tape w.drawn (.appendCap s.length 0 e))=cap at hcap hmax;refine⟨cap,hcap,hmax, ?_, ?_⟩
 ·have hshape:(((w.drew).alloc (.cells (elems++Array.replicate (cap-s.length) (.int .u8 0)) e)).shape? w.heap.size)=some (e,cap):=by
   have:=EF w.drew (.cells (elems++Array.replicate (cap-s.length) (.int .u8 0)) e);have hw:w.drew.heap.size=w.heap.size:=rfl;rw[hw]at this;simp only[World.shape?,this];simp[elems];omega
  simp only[convert,Sem.run_bind,run_underlying hu1,run_underlying hu2,Result.andThen_ok,run_underlying hu3,Conv.stringToBytes,run_choose,hsz,Question.forced,Ag,if_false,hq,M8,markStringish,run_shape];have hw:({w with drawn:=w.drawn+1}:World)=w.drew:=rfl;rw[hw];simp only[elems]at hshape;rw[hshape];simp only[run_freeze,Result.andThen_ok,Sem.run_pure]
 ·have:=EF w.drew (.cells (elems++Array.replicate (cap-s.length) (.int .u8 0)) e);have hw:w.drew.heap.size=w.heap.size:=rfl;rw[hw]at this;unfold World.freeze;rw[if_neg (by omega)];simp only[Array.getElem?_modify,elems]at this⊢;simp only[this,if_true,Option.map_some];rfl
theorem Tp{G:Nat→List CV}(h:SR P G w0 M0 n st a w z){rd:Nat→Ob}{o:Oper}{sop:SOp}(hc:Bs P o=some sop)(hcls:sop.cls=.grow){sv:SV}(hv:Ao rd (so G st.fr) sop=some sv):
  ∃v w',(execOp a.eval o).run P w=.ok (.value v) w'∧Below w.heap.size w w'∧At w' (Aq M0 z st.ob) z st.ob sv v:=by
 obtain⟨src,dst,x,ho,hc⟩:=O8 hc hcls;unfold Fo at hc;split at hc<;>(try cases hc;done)
 ·simp only[Aa]at hc;obtain⟨_,_,rfl⟩:=hc;cases hcls
 ·simp only[Aa]at hc;obtain⟨_,_,rfl⟩:=hc;cases hcls
 ·simp only[Aa]at hc;obtain⟨_,_,rfl⟩:=hc;cases hcls
 ·rename_i e hu1 hu2;split at hc<;>(try cases hc;done);rename_i hu3;simp only[Aa]at hc;obtain⟨sx,hx,rfl⟩:=hc;have hr:=h.ctx.opd hx;simp only[Ao]at hv;generalize so G st.fr sx=q at hr hv;split at hv<;>(try cases hv;done);rename_i s;simp only[Ad,Ac]at hv;obtain⟨hle,rfl⟩:=hv;have e1:=C3 (w:=w) (M:=Aq M0 z st.ob) hr;let elems:Array Value:=(⟨s⟩:Array UInt8).map fun b=>.int .u8 b.toNat
  obtain⟨cap,hcap,_,run,hheap0⟩:=N0 (P:=P) (w:=w) hu1 hu2 hu3 s;rw[←e1]at run;have hb0:Below w.heap.size w ((w.drew).alloc (.cells (elems++Array.replicate (cap-s.length) (.int .u8 0)) e)):=((Below.refl _ w).drew).alloc (Nat.le_refl _) _;have hb:=O0 hb0 (Nat.le_refl w.heap.size) cap 1;refine⟨.slice (some ⟨w.heap.size,0,none⟩) s.length cap,_,by simp only[execOp,ho,Sem.run_bind,run,Result.andThen_ok,Sem.run_pure];rfl,hb, ?_⟩;show An _ _ _ _;unfold An;refine⟨some ⟨w.heap.size,0,none⟩,s.length,cap,rfl,by simp,hcap,(fun hh=>by cases hh),(fun _ hh=>by cases hh),(fun hh=>by cases hh),fun _=>⟨⟨w.heap.size,0,none⟩,1,rfl, ?_,fun hm=> ?_,EE fun k el hel=> ?_⟩⟩
  ·have:w.drew.heap.size=w.heap.size:=rfl;simp[World.freeze,this]
  ·have:=h.mutW _ hm;simp at this
  ·rw[List.getElem?_map,Aa]at hel;obtain⟨b,hb',rfl⟩:=hel;refine⟨.int .u8 b.toNat,D0,rfl,fun j u hu=> ?_⟩;have hk:=(Ae.1 hb').1
   have hj:j=0:=by
    have:=(Array.getElem?_eq_some_iff.1 hu).1;simp[Value.cells]at this;exact this
   subst hj;simp only[Value.cells]at hu;have hu':Value.int .u8 b.toNat=u:=by simpa using hu
   subst hu';rw[Df];rw[cell_of_row _ _ _ _ _ _ hheap0];have:0+((0+k)*1+0)=k:=by omega
   rw[this,Array.getElem?_append_left (by simp[elems];exact hk)];simp[elems,hb']
 ·split at hc<;>(try cases hc;done);simp only[Aa]at hc;obtain⟨_,_,rfl⟩:=hc;cases hcls
theorem PX{w:World}{M:MM}:∀(s:List UInt8),AG w M 1 (s.map fun b=>CV.int .u8 b.toNat) (s.map fun b=>Value.int .u8 b.toNat)
 | []=>rfl
 |b::s=>⟨.int .u8 b.toNat,s.map fun b=>Value.int .u8 b.toNat,rfl,rfl,D0,PX s⟩
theorem Ub{G:Nat→List CV}(h:SR P G w0 M0 n st a w z){o:Oper}{e e':Nat}{x:SO}(hc:Bs P o=some (.bytes e x))(he':P.info? e'=none){d:Nat}{sv:SV}{ob:Ob}(hv:AV (so G st.fr) d (.nbytes e' x)=some (sv,ob))(hd:d<n)(hn:st.ob d=.none):
  Hm P G w0 M0 n st a w o d sv ob:=by
 obtain⟨src,dst,x',ho,hc⟩:=O8 hc rfl;unfold Fo at hc;split at hc<;>(try cases hc;done)
 ·simp only[Aa]at hc;obtain⟨_,_,hh⟩:=hc;cases hh
 ·simp only[Aa]at hc;obtain⟨_,_,hh⟩:=hc;cases hh
 ·simp only[Aa]at hc;obtain⟨_,_,hh⟩:=hc;cases hh
 ·rename_i e0 hu1 hu2;split at hc<;>(try cases hc;done);rename_i hu3;simp only[Aa]at hc;obtain⟨sx,hx,hh⟩:=hc;cases hh;have hr:=h.ctx.opd hx;simp only[AV]at hv;generalize so G st.fr x=q at hr hv;split at hv<;>(try cases hv;done);rename_i s;simp only[Ad,Ac,Prod.mk.injEq]at hv;obtain⟨hle,rfl,rfl⟩:=hv;have e1:=C3 (w:=w) (M:=Aq M0 z st.ob) hr;obtain⟨cap,hcap,hmax,run,hheap⟩:=N0 (P:=P) (w:=w) hu1 hu2 hu3 s;rw[←e1]at run;have hb0:Below w.heap.size w ((w.drew).alloc (.cells (((⟨s⟩:Array UInt8).map fun b=>Value.int .u8 b.toNat)++Array.replicate (cap-s.length) (.int .u8 0)) e)):=((Below.refl _ w).drew).alloc (Nat.le_refl _) _;have hb:=O0 hb0 (Nat.le_refl w.heap.size) cap 1;refine Gb h hd hn (s:=convert src dst (a.eval x')) (by simp only[execOp,ho]) run hb (fun g hg=> ?_) fun hk hz=>⟨⟨s.map fun b=>.int .u8 b.toNat,⟨by simp,.inr ⟨w.heap.size,cap,_,e,(cap,cap+1),by simp,Nat.zero_le _,hheap,fun hi=>by simp[he']at hi,.inr (by simp),by simpa using hcap, ?_, ?_, ?_⟩⟩,PX s⟩,E4 (by simp),CE.symm⟩
  ·simp only[blk,Ac]at hg;subst hg;have:w.drew.heap.size=w.heap.size:=rfl;exact⟨Nat.le_refl _,by simp[World.freeze,this]⟩
  ·exact hmax hle
  ·simp;omega
  ·simp[List.take_append]
 ·split at hc<;>(try cases hc;done);simp only[Aa]at hc;obtain⟨_,_,hh⟩:=hc;cases hh
theorem TS{G:Nat→List CV}(h:SR P G w0 M0 n st a w z){rd:Nat→Ob}{o:Oper}{e s:Nat}{xs:List SO}(hc:Bs P o=some (.mksl e s xs)){sv:SV}(hv:Ao rd (so G st.fr) (.lsl e s xs)=some sv):
  ∃v w',(execOp a.eval o).run P w=.ok (.value v) w'∧Below w.heap.size w w'∧At w' (Aq M0 z st.ob) z st.ob sv v:=by
 have hb:∃t len parts,o.op=.buildSlice t len parts:=by
  unfold Bs at hc
  split at hc<;>rename_i ho<;>first
   |(cases hc;done)
   |exact⟨_,_,_,ho⟩
   |(exfalso;have:=FO hc;cases this;done)
   |(exfalso;have:=G7 hc;rcases this with h'|h'<;>cases h';done)
   |(exfalso
     unfold DC at hc
     (repeat' split at hc)<;>try(rcases Es hc with⟨_,_,h'⟩|⟨_,_,_,_,_,_,_,h'⟩<;>(cases h';done))
     all_goals simp only[Ab,Aa,Ad,Ac,reduceCtorEq,and_false,exists_false,false_and]at hc
     done)
   |(exfalso
     (repeat' split at hc)<;>simp only[Ab,Aa,Option.ite_none_left_eq_some,Ad,Ac,Prod.exists,reduceCtorEq,and_false,exists_false,false_and]at hc
     done)
 obtain⟨t,len,parts,ho⟩:=hb;unfold Bs at hc;rw[ho]at hc;simp only at hc;split at hc<;>(try cases hc;done);rename_i e' hu;simp only[Ab,Ad,Ac,SOp.mksl.injEq]at hc;obtain⟨i,hi,vz,hz,zc,hzc,xs',hxs,⟨hlen,h0,hsz,hle⟩,rfl,rfl,rfl⟩:=hc;simp only[Ao,Ab,Ad,Ac]at hv;obtain⟨l,hl,hall,rfl⟩:=hv;obtain⟨vs,hrl,hvl,run⟩:=Pg h hu hi hz hzc hxs hlen h0 hsz hle hl hall;have he:execOp a.eval o=(do pure (.value (←Instr.buildSlice t len (parts.map fun(i,x)=>(i,a.eval x)))):Sem Next):=by simp only[execOp,ho]
 refine⟨_,_,by rw[he];simp[run];exact⟨rfl,rfl⟩,Fj _ _, ?_⟩;have hf:=I4 hrl hall;have hk:AR w (Aq M0 z st.ob) (w.alloc (.cells ⟨vs.flatMap fun v=>v.cells.toList⟩ e')) (Aq M0 z st.ob):=L4 (Fj _ _);show An _ _ _ _;unfold An;refine⟨some ⟨w.heap.size,0,none⟩,len,len,rfl,by rw[←hvl,hrl.length],Nat.le_refl _,(fun hh=>by cases hh),(fun hh=>by cases hh),(fun hh=>by cases hh),fun _=>⟨⟨w.heap.size,0,none⟩,i.size,rfl,by simp,fun hm=> ?_,EE fun k el hel=> ?_⟩⟩
 ·have:=h.mutW _ hm;simp at this
 ·obtain⟨u,g1,g2,g3⟩:=Fg hf hel;refine⟨u,An.keep hk _ _ g1,g2,fun j u' hu'=> ?_⟩;rw[Df,cell_of_row _ _ _ _ _ _ (EF _ _)];have h8:=g3 j u' hu';simpa using h8
theorem RJ{G:Nat→List CV}(h:SR P G w0 M0 n st a w z){rd:Nat→Ob}{o:Oper}{e s b:Nat}{x y:SO}(hc:Bs P o=some (.append e s b x y)){sv:SV}(hv:Ao rd (so G st.fr) (.capp e s b x y)=some sv):
  ∃v w',(execOp a.eval o).run P w=.ok (.value v) w'∧Below w.heap.size w w'∧At w' (Aq M0 z st.ob) z st.ob sv v:=by
 have hb:∃c,o.op=.call c∧DC P c=some (.append e s b x y):=by
  unfold Bs at hc
  split at hc<;>rename_i ho<;>first
   |(cases hc;done)
   |exact⟨_,ho,hc⟩
   |(exfalso;have:=FO hc;cases this;done)
   |(exfalso;have:=G7 hc;rcases this with h'|h'<;>cases h';done)
   |(exfalso
     (repeat' split at hc)<;>simp only[Ab,Aa,Option.ite_none_left_eq_some,Ad,Ac,Prod.exists,reduceCtorEq,and_false,exists_false,false_and]at hc
     done)
 obtain⟨c,ho,hc⟩:=hb;obtain⟨callee,args,argTypes⟩:=c
 have hb2:callee=.builtin .append∧∃x' y' t e' i zv,args.toList= [x',y']∧argTypes.toList= [t,t]∧P.underlying t=some (.slice e')∧P.info? e'=some i∧i.zero=some zv∧Ap x'=some x∧Ap y'=some y∧0<i.size∧zv.cells.size=i.size∧e=e'∧s=i.size∧b=i.bytes:=by
  unfold DC at hc;split at hc<;>(try cases hc;done)
  all_goals first
   |(rename_i hcal
     simp only at hcal;subst hcal;split at hc<;>(try cases hc;done);rename_i x' y' t u hargs hat
     split at hc<;>(try cases hc;done);rename_i e' _ hu _;simp only[Ab,Ad,Ac]at hc;obtain⟨i,hi,zv,hz,sx,hsx,sy,hsy,⟨rfl,h0,hzs⟩,hh⟩:=hc;cases hh
     exact⟨rfl,_,_,_,_,_,_,hargs,hat,hu,hi,hz,hsx,hsy,h0,hzs,rfl,rfl,rfl⟩)
   |(exfalso
     (repeat' split at hc)<;>try(rcases Es hc with⟨_,_,h'⟩|⟨_,_,_,_,_,_,_,h'⟩<;>(cases h';done))
     all_goals simp only[Ab,Aa,Ad,Ac,reduceCtorEq,and_false,exists_false,false_and]at hc
     done)
 obtain⟨rfl,x',y',t,e',i,zv,hargs,hat,ht,hi,hz,hx,hy,hsz,hzs,rfl,rfl,rfl⟩:=hb2;have hr:=h.ctx.opd hx;have hr2:=h.ctx.opd hy;simp only[Ao]at hv;generalize so G st.fr x=q at hr hv;generalize so G st.fr y=q2 at hr2 hv;split at hv<;>(try cases hv;done);rename_i es0 nl2 es;simp only[Ad,Ac,Af]at hv;obtain⟨⟨⟨hall,hone⟩,hb1,hb2⟩,rfl⟩:=hv;obtain⟨A,c,xs2,e1,hf2,hA,hcells⟩:=Pq h hr2 (news:=es) rfl hall;have hx2l:=Ho hf2;have hone':=Ku hf2 hone;unfold At An at hr;obtain⟨A',len,c',e2,e3,_,e4,_,e5,e6⟩:=hr;have hA':=e4 rfl;subst hA'
 have hes:es0= []:=by
  cases es0 with
  |nil=>rfl
  |cons e es=>obtain⟨ad,size,hh,_⟩:=e6 (by simp);cases hh
 subst hes;have hc0:=e5 rfl;subst hc0;subst e3;have hown0:w.ownsRow 0 e i.size (.slice none 0 0) 0 []:=⟨by simp,.inl ⟨rfl,rfl⟩⟩;obtain⟨v',w',hrun,h2,h3,h4⟩:=M4 (P:=P) 0 t o.type e i zv ht hi hz hzs hsz (.slice none 0 0) 0 [] hown0 A es.length c xs2 hx2l (fun hh=>by simp[hA hh]) hcells hone' (by unfold maxLen;omega) (by simpa using hb1) (Nat.zero_le _);have hgb:Below w.heap.size w w':=⟨h3.os,h3.tape,h3.output,h3.size,fun k hk=>h3.block k hk (by simp[blk])⟩;have hk:AR w (Aq M0 z st.ob) w' (Aq M0 z st.ob):=L4 hgb;refine⟨v',w', ?_,hgb, ?_⟩
 ·obtain⟨al⟩:=args;obtain⟨tl⟩:=argTypes;simp only at hargs hat
  subst hargs;subst hat
  have e2':a.eval x'=.slice none 0 0:=e2;rw[←e2',←e1]at hrun;simp[execOp,ho,resolve,invoke,builtin,hrun]
 ·have hf:=AG.keep hk hf2;have hrow:=Dr.of (P:=P) h2;simp only[Nat.zero_add,List.nil_append]at hrow;show An _ _ _ _;unfold An;rcases Nat.eq_zero_or_pos es.length with h0|h0
  ·have:es= []:=List.eq_nil_of_length_eq_zero h0;subst this;rcases hrow.2 with⟨e7,_⟩|⟨g',cap,cur,ty,fz,e7,_⟩
   ·exact⟨none,0,0,e7,rfl,Nat.le_refl _,(fun hh=>by cases hh),(fun hh=>by cases hh),(fun _=>rfl),fun hh=>absurd rfl hh⟩
   ·exact⟨some ⟨g',0,none⟩,0,cap,by simpa using e7,rfl,Nat.zero_le _,(fun hh=>by cases hh),(fun hh=>by cases hh),(fun hh=>by cases hh),fun hh=>absurd rfl hh⟩
  ·rcases hrow.2 with⟨_,e8⟩|⟨g',cap,cur,ty,fz,e7,_,hheap,_,_,e8,_⟩
   ·omega
   ·obtain⟨g2,cap2,cur2,e9,_,hcell⟩:=JD hrow h0
    have hg:w.heap.size≤g2:=by
     rcases h4 with h4|h4
     ·rw[e9]at h4;cases h4
     ·rw[e9]at h4;simp only[blk,Ac]at h4;omega
    rw[e7]at e9;simp only[Value.slice.injEq,Ac,Addr.mk.injEq,and_true,true_and]at e9;obtain⟨rfl,rfl⟩:=e9;refine⟨some ⟨g',0,none⟩,es.length,cap,e7,rfl,e8,(fun hh=>by cases hh),(fun hh=>by cases hh),(fun hh=>by cases hh),fun _=>⟨⟨g',0,none⟩,i.size,rfl, ?_,fun hm=> ?_,EE fun k el hel=> ?_⟩⟩
    ·exact Cc hheap
    ·have:=h.mutW _ hm;simp only at this;omega
    ·obtain⟨u,g1,g2,g3⟩:=Fg hf hel;refine⟨u,g1,g2,fun j u' hu'=> ?_⟩;rw[Df];have h8:=g3 j u' hu';have:=hcell _ _ h8;simpa using this
end
section
variable {P:Program} {w:World} {M:MM} {z:Cz} {ob:Nat→Ob} {T:List Nat}
theorem DS{id:Nat}:Cg T ob id≠ .none↔T.contains id=true∧ob id≠ .none:=by
 unfold Cg
 cases h:T.contains id with
 |false=>simp
 |true=>simp only[if_true,true_and];cases ob id<;>simp[KX]
theorem At.cut{s:SV}{v:Value}(h:At w M z ob s v):At w M z (Cg T ob) (FP T s) v:=by
 unfold FP
 cases s<;>simp only[SV.ref]<;>first
  |exact h
  |trivial
  |(split
    ·rename_i hT;exact⟨DS.2 ⟨hT,h.1⟩,h.2⟩
    ·trivial)
theorem Ay.cut:∀{cs:List SV} {vs:List Value},Ay w M z ob cs vs→Ay w M z (Cg T ob) (cs.map (FP T)) vs
 | [],_,h=>h
 |c::cs,vs,h=>by
  obtain⟨v,vs',e,h1,h2⟩:=h;exact⟨v,vs',e,At.cut h1,Ay.cut h2⟩
theorem AI.cut{B id:Nat}{v:Value}:∀{o:Ob},AI P w M B z ob id v o→AI P w M B z (Cg T ob) id v (KX T o)
 | .none,_=>trivial
 | .box cs bt,h=>by
  obtain⟨g,ty,vs,e,hh,hs⟩:=h;exact⟨g,ty,vs,e,hh,Ay.cut hs⟩
 | .arr _ _ _,h=>h
 | .map _ _ _ _ _,h=>h
 | .siter _ _,h=>h
 | .miter _ _ _,h=>h
 | .buf _ _,h=>h
end
section
variable {P:Program} {E:Env} {w0:WL} {M0:MM} {n:Nat} {st:St} {a:Act} {w w':World} {z:Cz}
theorem P6{T:List Nat}{g:Nat}(h:own z (Cg T st.ob) g):own z st.ob g:=by
 obtain⟨id,h1,h2⟩:=h;exact⟨id,(DS.1 h1).2,h2⟩
theorem SR.lies{G:Nat→List CV}(h:SR P G w0 M0 n st a w z)(T:List Nat):Hl P w (Aq M0 z st.ob) z T (Cg T st.ob) where
 ob:=fun id=>by
  have:=AI.cut (T:=T) (h.ob id);show AI P w _ 0 z _ id _ (Cg T st.ob id);unfold Cg;split
  ·exact this
  ·trivial
 lo:=fun id g h1 h2=>⟨(h.lo id g (DS.1 h1).2 h2).2,.inr ⟨id,(DS.1 h1).2,h2⟩⟩
 apart:=fun i j g hij h1 h2=>h.apart i j g hij (DS.1 h1).2 (DS.1 h2).2
 told:=fun N cs hN hc=>by
  unfold Cg at hc;split at hc
  ·cases hob:st.ob N<;>rw[hob]at hc<;>cases hc;exact h.nam.told N _ hN hob
  ·cases hc
 only:=fun id h1=>(DS.1 h1).1
 al:=rfl
theorem SR.turned{G:Nat→List CV}(h:SR P G w0 M0 n st a w z){T:List Nat}{H':Nat→Ob}{z':Cz}(ho:w'.os=w.os)(ht:w'.tape=w.tape)(hop:w'.output=w.output)(hsz:w.heap.size≤w'.heap.size)
  (hb:∀g,g<w.heap.size→¬own z (Cg T st.ob) g→w'.heap[g]? =w.heap[g]?) (hL:Hl P w' (Aq (Aq M0 z st.ob) z' H') z' T H')
  (hlo:∀id g,H' id≠ .none→blk (z'.σ id)=some g→(Cg T st.ob id≠ .none∧blk (z.σ id)=some g)∨w.heap.size≤g) (hal:z'.al=z.al):
  ∃z2,SR P G w0 M0 n (BX T H' st) a w' z2∧∀{c:CV} {v:Value},An w' (Aq (Aq M0 z st.ob) z' H') c v→An w' (Aq M0 z2 (BX T H' st).ob) c v:=by
 let z2:Cz:={σ:=fun id=>if T.contains id=true then z'.σ id else z.σ id,β:=fun id=>if T.contains id=true then z'.β id else z.β id,al:=z.al};have σT:∀id,T.contains id=true→z2.σ id=z'.σ id:=fun id hT=>by show(if _ then _ else _)=_;rw[if_pos hT]
 have σN:∀id,¬T.contains id=true→z2.σ id=z.σ id:=fun id hT=>by show(if _ then _ else _)=_;rw[if_neg hT]
 have βN:∀id,¬T.contains id=true→z2.β id=z.β id:=fun id hT=>by show(if _ then _ else _)=_;rw[if_neg hT]
 have βT:∀id,T.contains id=true→z2.β id=z'.β id:=fun id hT=>by show(if _ then _ else _)=_;rw[if_pos hT]
 have obT:∀id,T.contains id=true→(BX T H' st).ob id=H' id:=fun id hT=>by show(if _ then _ else _)=_;rw[if_pos hT]
 have obN:∀id,¬T.contains id=true→(BX T H' st).ob id=BO T (st.ob id):=fun id hT=>by show(if _ then _ else _)=_;rw[if_neg hT]
 have liveN:∀id,¬T.contains id=true→((BX T H' st).ob id≠ .none↔st.ob id≠ .none):=fun id hT=>by rw[obN id hT];exact not_congr OJ
 have hless:∀g,Aq M0 z2 (BX T H' st).ob g→Aq (Aq M0 z st.ob) z' H' g:=fun g hg=>by
  rcases hg with hg|⟨id,h1,h2⟩
  ·exact .inl (.inl hg)
  ·by_cases hT:T.contains id=true
   ·rw[obT id hT]at h1;rw[σT id hT]at h2;exact .inr ⟨id,h1,h2⟩
   ·rw[σN id hT]at h2;exact .inl (.inr ⟨id,(liveN id hT).1 h1,h2⟩)
 have hless2:∀g,g<w.heap.size→Aq M0 z2 (BX T H' st).ob g→Aq M0 z st.ob g:=fun g hlt hg=>by
  rcases hless g hg with hg|⟨id,h1,h2⟩
  ·exact hg
  ·rcases hlo id g h1 h2 with⟨h3,h4⟩|h3
   ·exact .inr ⟨id,(DS.1 h3).2,h4⟩
   ·omega
 have hk:AR w (Aq M0 z st.ob) w' (Aq M0 z2 (BX T H' st).ob):=⟨hsz,fun g hlt hm=>hb g hlt fun ho=>hm (.inr (P6 ho)),hless2,rfl⟩;have hk':AR w' (Aq (Aq M0 z st.ob) z' H') w' (Aq M0 z2 (BX T H' st).ob):=⟨Nat.le_refl _,fun _ _ _=>rfl,fun g _ hg=>hless g hg,hal.symm⟩
 have hs:∀{s:SV} {v:Value},At w (Aq M0 z st.ob) z st.ob s v→At w' (Aq M0 z2 (BX T H' st).ob) z2 (BX T H' st).ob (Av T s) v:=by
  intro s v hv
  cases hr:s.ref with
  |none=>
   cases s<;>simp[SV.ref]at hr
   ·exact An.keep hk _ _ hv
   ·trivial
  |some i=>
   by_cases hi:T.contains i=true
   ·have:Av T s=.undef:=by cases s<;>simp_all[SV.ref,Av]
    rw[this];trivial
   ·have e:Av T s=s:=by cases s<;>simp_all[SV.ref,Av]
    rw[e];refine At.keep hk ⟨fun j hj h1=> ?_,fun j hj h1=> ?_,fun j hj h1 k b hb=> ?_⟩ hv;all_goals(rw[hr]at hj;cases hj)
    ·exact(liveN i hi).2 h1
    ·exact σN i hi
    ·rw[βN i hi];exact hb
 have hss:∀(cs:List SV) vs,Ay w (Aq M0 z st.ob) z st.ob cs vs→Ay w' (Aq M0 z2 (BX T H' st).ob) z2 (BX T H' st).ob (cs.map (Av T)) vs:=by
  intro cs
  induction cs with
  |nil=>intro vs hh;exact hh
  |cons c cs ih=>
   intro vs hh;obtain⟨v,vs',e,h1,h2⟩:=hh;exact⟨v,vs',e,hs h1,ih vs' h2⟩
 have hblk:∀id g,¬T.contains id=true→st.ob id≠ .none→blk (z.σ id)=some g→w'.heap[g]? =w.heap[g]? :=fun id g hT hl hg=>by
  refine hb g (h.lo id g hl hg).2 fun⟨i,h1,h2⟩=> ?_;have:=DS.1 h1;exact h.apart i id g (fun e=>hT (e▸this.1)) this.2 hl h2 hg
 refine⟨z2,⟨h.size,h.defers,⟨ho.trans h.below.os,ht.trans h.below.tape,hop.trans h.below.output,Nat.le_trans h.below.size hsz,fun k hk hL=> ?_⟩,h.outer, ?_,h.glob,fun i=>hs (h.fr i),fun id=> ?_,fun id g h1 h2=> ?_,fun i j g hij h1 h2 h3 h4=> ?_⟩,fun hc=>An.keep hk' _ _ hc⟩
 ·rw[hb k (Nat.lt_of_lt_of_le hk h.below.size) fun ho=> ?_]
  ·exact h.below.block k hk hL
  ·obtain⟨id,h1,h2⟩:=P6 ho;exact hL id (h.low h1 h2 hk)
 ·refine⟨h.nam.lent,fun N cs hN hc=> ?_,h.nam.names,h.nam.low⟩;by_cases hT:T.contains N=true
  ·rw[obT N hT]at hc;rw[σT N hT,hL.told N cs hN hc,hal]
  ·rw[obN N hT]at hc;rw[σN N hT];cases hob:st.ob N<;>rw[hob]at hc<;>cases hc;exact h.nam.told N _ hN hob
 ·by_cases hT:T.contains id=true
  ·rw[obT id hT,σT id hT];refine AI.keep hk' (fun _ _=>rfl) (fun cs _ s _=>⟨fun j hj h1=> ?_,fun j hj h1=> ?_,fun j hj h1 k b hb=> ?_⟩) (fun k b hh=>by rw[βT id hT]at hh;exact hh) (hL.ob id)
   ·rw[obT j (hL.only j h1)];exact h1
   ·exact σT j (hL.only j h1)
   ·rw[βT j (hL.only j h1)];exact hb
  ·rw[obN id hT,σN id hT];have hoi:=h.ob id
   cases hob:st.ob id with
   |none=>trivial
   |box cs=>
    rw[hob]at hoi;obtain⟨g,ty,vs,e1,e2,e3⟩:=hoi;exact⟨g,ty,vs,e1,(hblk id g hT (by rw[hob];simp) (by rw[e1];rfl)).trans e2,hss cs vs e3⟩
   |_=>
    rw[hob]at hoi;exact AI.keep hk (fun g hg=>hblk id g hT (by rw[hob];simp) hg) (fun cs hc=>by cases hc) (fun k b hh=>by rw[βN id hT]at hh;exact hh) hoi
 ·by_cases hT:T.contains id=true
  ·rw[obT id hT]at h1;rw[σT id hT]at h2;refine⟨?_,(hL.lo id g h1 h2).1⟩;rcases hlo id g h1 h2 with⟨h3,h4⟩|h3
   ·exact(h.lo id g (DS.1 h3).2 h4).1
   ·exact .inl (Nat.le_trans h.below.size h3)
  ·rw[σN id hT]at h2;have:=h.lo id g ((liveN id hT).1 h1) h2;exact⟨this.1,Nat.lt_of_lt_of_le this.2 hsz⟩
 ·by_cases hi:T.contains i=true
  ·by_cases hj:T.contains j=true
   ·rw[obT i hi]at h1;rw[obT j hj]at h2;rw[σT i hi]at h3;rw[σT j hj]at h4;exact hL.apart i j g hij h1 h2 h3 h4
   ·rw[obT i hi]at h1;rw[σT i hi]at h3;rw[σN j hj]at h4;have hl2:=(liveN j hj).1 h2;rcases hlo i g h1 h3 with⟨h5,h6⟩|h5
    ·exact h.apart i j g hij (DS.1 h5).2 hl2 h6 h4
    ·have:=(h.lo j g hl2 h4).2;omega
  ·by_cases hj:T.contains j=true
   ·rw[σN i hi]at h3;rw[obT j hj]at h2;rw[σT j hj]at h4;have hl1:=(liveN i hi).1 h1;rcases hlo j g h2 h4 with⟨h5,h6⟩|h5
    ·exact h.apart i j g hij hl1 (DS.1 h5).2 h3 h6
    ·have:=(h.lo i g hl1 h3).2;omega
   ·rw[σN i hi]at h3;rw[σN j hj]at h4;exact h.apart i j g hij ((liveN i hi).1 h1) ((liveN j hj).1 h2) h3 h4
theorem S7(hE:EOk P E)(h:SR P E.G w0 M0 n st a w z){d:Option Nat}(hd:∀j,d=some j→j<n){f:FuncId}{e:Eff}{l:List CV}{vs:List Value}(hl:Am w (Aq M0 z st.ob) l vs){r:CV}{H':Nat→Ob}(hC:Fe P E.G f e.T l (Cg e.T st.ob) r H'):
  Calls P f ⟨vs⟩ w fun en w'=>∃v,en=.returned v∧∃z',SR P E.G w0 M0 n ((BX e.T H' st).set d (.c r)) (a.put d v) w' z':=by
 refine(hC w (Aq M0 z st.ob) z vs h.mutW (O6 h) hl (h.lies e.T)).mono fun en w' ⟨v,z',hen,⟨h1,h2,h3,h4,h5⟩,h6,h7,h8,h9⟩=> ?_;obtain⟨z2,hS,hc⟩:=h.turned h1 h2 h3 h4 h5 h6 h7 h8;exact⟨v,hen,z2,hS.put hd (hc h9)⟩
theorem IE{G:Nat→List CV}(h:SR P G w0 M0 n st a w z):∀{xs:List Operand} {sxs:List SO} {l:List CV},Ar Ap xs=some sxs→Ar (fun x=>closed (so G st.fr x)) sxs=some l→Am w (Aq M0 z st.ob) l (xs.map a.eval)
 | [],sxs,l,h1,h2=>by
  simp only[Ar,Ac]at h1;subst h1;simp only[Ar,Ac]at h2;subst h2;exact Am.nil
 |x::xs,sxs,l,h1,h2=>by
  simp only[Ar,Ab,Aa]at h1;obtain⟨s,hs,ss,hss,rfl⟩:=h1;simp only[Ar,Ab,Aa]at h2;obtain⟨c,hc,cs,hcs,rfl⟩:=h2;refine Am.cons ?_ (IE h hss hcs);have hr:=h.ctx.opd hs;generalize so G st.fr s=q at hr hc;cases q<;>(try cases hc;done);cases hc;exact hr
end
section
variable {P:Program} {E:Env} {w0:WL} {M0:MM} {n:Nat} {st:St} {a:Act} {w w':World} {z:Cz}
theorem RG{o:Oper}{sop:SOp}(hc:Bs P o=some sop)(hcls:sop.cls=.call):∃c,o.op=.call c∧
  ((∃f l,c.callee=.value (.func f)∧AW P f=true∧Ar Ap c.args.toList=some l∧sop=.call f l)∨
   (∃t l,c.callee=.value (.tmp t)∧Ar Ap c.args.toList=some l∧sop=.callv (.t t) l)):=by
 unfold Bs at hc
 split at hc<;>rename_i ho<;>first
  |(cases hc;done)
  |(exfalso;have:=FO hc;rw[hcls]at this;cases this;done)
  |(exfalso;have:=G7 hc;rw[hcls]at this;rcases this with h'|h'<;>cases h')
  |(unfold DC at hc
    refine⟨_,ho, ?_⟩
    split at hc<;>first
     |(cases hc;done)
     |(rename_i f hcal
       split at hc
       ·rename_i hb;rcases Es hc with⟨l,hl,rfl⟩|⟨_,_,_,_,_,_,_,rfl⟩
        ·exact .inl ⟨f,l,hcal,hb,hl,rfl⟩
        ·cases hcls
       ·cases hc)
     |(rename_i t hcal
       simp only[Aa]at hc;obtain⟨l,hl,rfl⟩:=hc
       exact .inr ⟨t,l,hcal,hl,rfl⟩)
     |(exfalso
       (repeat' split at hc)<;>try(rcases Es hc with⟨_,_,rfl⟩|⟨_,_,_,_,_,_,_,rfl⟩<;>(cases hcls;done))
       all_goals simp only[Ab,Aa,Ad,Ac,reduceCtorEq]at hc
       all_goals(repeat (first|(subst hc;cases hcls;done)|(obtain⟨_,hc⟩:=hc)))
       done))
  |(exfalso
    (repeat' split at hc)<;>simp only[Ab,Aa,Option.ite_none_left_eq_some,Ad,Ac,Prod.exists,reduceCtorEq]at hc
    all_goals(repeat (first|(subst hc;cases hcls;done)|(obtain⟨_,hc⟩:=hc)))
    done)
theorem Sg{o:Oper}{sop:SOp}(hc:Bs P o=some sop)(hcls:sop.cls=.copy):∃c f x y sx sy,o.op=.call c∧c.callee=.value (.func f)∧AW P f=true∧c.args.toList= [x,y]∧Ap x=some sx∧Ap y=some sy∧sop=.mcopy f sx sy:=by
 unfold Bs at hc
 split at hc<;>rename_i ho<;>first
  |(cases hc;done)
  |(exfalso;have:=FO hc;rw[hcls]at this;cases this;done)
  |(exfalso;have:=G7 hc;rw[hcls]at this;rcases this with h'|h'<;>cases h')
  |(unfold DC at hc
    split at hc<;>first
     |(cases hc;done)
     |(rename_i f hcal
       split at hc
       ·rename_i hb;rcases Es hc with⟨l,hl,rfl⟩|⟨x,y,a,b,h1,h2,h3,rfl⟩
        ·cases hcls
        ·exact⟨_,f,x,y,a,b,ho,hcal,hb,h1,h2,h3,rfl⟩
       ·cases hc)
     |(exfalso
       (repeat' split at hc)<;>try(rcases Es hc with⟨_,_,rfl⟩|⟨_,_,_,_,_,_,_,rfl⟩<;>(cases hcls;done))
       all_goals simp only[Ab,Aa,Ad,Ac,reduceCtorEq]at hc
       all_goals(repeat (first|(subst hc;cases hcls;done)|(obtain⟨_,hc⟩:=hc)))
       done))
  |(exfalso
    (repeat' split at hc)<;>simp only[Ab,Aa,Option.ite_none_left_eq_some,Ad,Ac,Prod.exists,reduceCtorEq]at hc
    all_goals(repeat (first|(subst hc;cases hcls;done)|(obtain⟨_,hc⟩:=hc)))
    done)
theorem Vu{M:MM}{c:CV}{v:Value}(h:Gu c=true)(hr:An w M c v):∃s:List UInt8,v=.string ⟨⟨s⟩⟩∧s.length≤9223372036854775807:=by
 cases c<;>simp[Gu]at h;unfold An at hr;exact⟨_,hr,h⟩
theorem Vt{c:CV}(h:Gu c=true):A6 .str c=true:=by
 cases c<;>simp[Gu]at h;rfl
theorem M5{f:FuncId}(hb:AW P f=true)(args:Array Value):(callFunc f args).run P w=.ok (.enter f args) w:=by
 unfold AW at hb
 cases hf:P.funcs[f]? with
 |none=>rw[hf]at hb;cases hb
 |some fn=>
  rw[hf]at hb;simp only[Af,Bool.not_eq_true',Option.isSome_iff_exists]at hb;obtain⟨⟨⟨b,hb⟩,hn⟩,_⟩:=hb;have hn':¬fn.name= "runtime.NumGoroutine" :=by simpa using hn
  simp[callFunc,hf,hn',hb]
theorem N2{rd:Nat→Ob}{ρ:SO→SV}{d:Option Nat}{f:FuncId}{args:List SO}{caps:List CV}{st':St}(h:CJ E rd ρ st d f args caps=some st'):
  ∃l r,Ar (fun x=>BS rd (ρ x)) args=some l∧E.fn f (l++caps)=some r∧((args.all fun x=>isC (ρ x))=true∨r.memless=true)∧D3 st d r=some st':=by
 simp only[CJ,Ab,Ad,Aj]at h;obtain⟨l,hl,r,hr,hc,hs⟩:=h;exact⟨l,r,hl,hr,hc,hs⟩
theorem SM(hE:EOk P E)(h:SR P E.G w0 M0 n st a w z){rd:Nat→Ob}(hrd:∀id,rd id=.none∨rd id=st.ob id){o:Oper}{sop:SOp}(hc:Bs P o=some sop)(hd:∀j,o.dst=some j→j<n)(hm:Gd sop=true→o.dst=none){st':St}
  (hv:A2 E rd st o.dst sop=some st') {K:Act→World→Prop} {Q:Exit→Act→World→Prop} (hK:∀a' w' z',SR P E.G w0 M0 n st' a' w' z'→K a' w'):o.wp P a w K Q:=by
 unfold Oper.wp;unfold A2 at hv
 cases hcls:sop.cls with
 |val=>
  simp only[hcls,Aa]at hv;obtain⟨sv,hv,rfl⟩:=hv;obtain⟨v,h1,h2⟩:=Wb h.ctx hrd hc hcls hv;rw[h1];exact hK _ _ _ (h.put hd h2)
 |grow=>
  simp only[hcls,Aa]at hv;obtain⟨sv,hv,rfl⟩:=hv;obtain⟨v,w',h1,h2,h3⟩:=Tp h hc hcls hv;rw[h1];exact hK _ _ _ ((h.grow h2).put hd h3)
 |new=>
  simp only[hcls,Ab,Prod.exists]at hv;obtain⟨sv,ob,hv,ha⟩:=hv;unfold AY at ha
  cases hod:o.dst with
  |none=>rw[hod]at ha;cases ha
  |some d=>
   rw[hod]at ha hv;simp only[Option.getD_some]at ha hv;split at ha<;>(try cases ha;done);rename_i hn;simp only[Ac]at ha;subst ha;obtain⟨v,w',z',h1,h2⟩:=Ud h hc hcls hv (hd d hod) hn;rw[h1];refine hK _ _ z' ?_;rw[hod];exact h2
 |eff=>
  simp only[hcls]at hv;rcases S5 h hc hcls hd hm hv with⟨v,w',z',h1,h2⟩|⟨w',z',h1,h2⟩
  ·rw[h1];exact hK _ _ _ h2
  ·rw[h1];exact hK _ _ _ h2
 |copy=>
  simp only[hcls]at hv;obtain⟨c,f,x,y,sx,sy,ho,hcal,hb,hargs,hx,hy,rfl⟩:=Sg hc hcls;replace hv:Fp E (so E.G st.fr) st o.dst f sx sy=some st':=hv;unfold Fp at hv;split at hv<;>(try cases hv;done);rename_i hcp;have hr:=h.ctx.opd hx;have hr2:=h.ctx.opd hy;generalize so E.G st.fr sx=q at hr hv;generalize so E.G st.fr sy=q2 at hr2 hv;cases q<;>(try cases hv;done);cases q2<;>(try cases hv;done);rename_i id cv;cases cv<;>(try cases hv;done);rename_i nl ks vs;dsimp only at hv;split at hv<;>(try cases hv;done);rename_i mt zc hob;split at hv<;>(try cases hv;done);rename_i hg;obtain⟨hsk,hlen⟩:=hg;cases hv;obtain⟨hlive,e1⟩:=hr;obtain⟨hmt,ks',vs',r,ens,clk,hmp,e2,hh,hB⟩:=GP h hob;have hks':ks'= []:=List.eq_nil_of_length_eq_zero hmp.ks.length_eq;subst hks'
  have hens:ens= []:=by
   have:=hB.1;unfold Am at this;simpa using this
  subst hens;have hrm:Aq M0 z st.ob r:=.inr ⟨id,hlive,by rw[e2];rfl⟩;have hskA:∀k∈ks,Gu k=true:=List.all_eq_true.1 hsk
  have src:∃(ps:Option Nat) (es es':List MapEntry),a.eval y=.map ps∧((ps=none∧es= [])∨∃bs clk',ps=some bs∧bs≠r∧w.heap[bs]? =some (.map ⟨es⟩ clk')∧Ens es clk')∧es'.Perm es∧
    Am w (Aq M0 z st.ob) ks (es'.map (·.key))∧Am w (Aq M0 z st.ob) vs (es'.map (·.val)):=by
   unfold At An at hr2;obtain⟨rr,g1,_,_,g4,g5⟩:=hr2
   cases rr with
   |none=>
    obtain⟨rfl,rfl⟩:=g4 rfl;exact⟨none,[],[],g1,.inl ⟨rfl,rfl⟩,.refl _,Am.nil,Am.nil⟩
   |some bs=>
    obtain⟨g6,es,es',clk',g7,g8,g9,g10,g11⟩:=g5 bs rfl;exact⟨some bs,es,es',g1,.inr ⟨bs,clk',rfl,fun e=>g6 (e▸hrm),g7,g8⟩,g9,g10,g11⟩
  obtain⟨ps,es,es',g1,g2,g3,g4,g5⟩:=src
  have hkey:∀en:MapEntry,en∈es→∃s:List UInt8,en.key=.string ⟨⟨s⟩⟩∧s.length≤9223372036854775807:=by
   intro en hen;obtain⟨i,hi⟩:=List.mem_iff_getElem?.1 (g3.mem_iff.2 hen);obtain⟨k,k1,k2⟩:=g4.getR (i:=i) (v:=en.key) (by rw[List.getElem?_map,hi];rfl);exact Vu (hskA k (List.mem_of_getElem? k1)) k2
  have hlen':es.length≤9223372036854775807:=by
   have:=g4.length;rw[List.length_map,g3.length_eq]at this;omega
  have hrun:(execOp a.eval o).run P w=(callFunc f ⟨[.map (some r),.map ps]⟩).run P w:=by
   have e:(⟨c.args.toList.map a.eval⟩:Array Value)=c.args.map a.eval:=Array.toList_inj.1 (by simp)
   have e':(⟨[.map (some r),.map ps]⟩:Array Value)=c.args.map a.eval:=by
    rw[←e,hargs];simp only[List.map_cons,List.map_nil,g1,e1,e2]
   rw[e'];simp[execOp,ho,resolve,hcal,Act.eval,Deferred.ofValue,invoke]
  rw[hrun,M5 hb];refine((hE.cp f hcp).2 w r clk ps es hh g2 hkey hlen').mono fun e w' ⟨he,hgr,ens2,clk2,k1,k2,k3⟩=> ?_;subst he
  have k4:((ens2.map fun e=>({key:=e.key,val:=e.val,born:=0}:MapEntry))).Perm (es'.map fun e=>({key:=e.key,val:=e.val,born:=0}:MapEntry)):=by
   have q1:=k3.map (fun p:Value×Value=>({key:=p.1,val:=p.2,born:=0}:MapEntry));simp only[List.map_map]at q1;exact q1.trans (g3.symm.map _)
  refine hK _ _ _ (SR.put (SR.turn h hlive (o':=.map mt .str zc ks vs) (by simp) (by rw[e2];exact hgr) (β':=z.β id) (fun _ _ hh=>hh) (fun _ hh=>by cases hh) fun hkp hz=> ?_) hd ?_)
  ·have r1:=Am.keep hkp _ _ g4;have r2:=Am.keep hkp _ _ g5;obtain⟨ks2,vs2,m1,m2,m3⟩:=PO (ens':=es'.map fun e=>({key:=e.key,val:=e.val,born:=0}:MapEntry)) k4.symm (by simpa[List.map_map,Function.comp_def]using r1) (by simpa[List.map_map,Function.comp_def]using r2);simp only[List.map_map,Function.comp_def]at m2 m3;have hcf:∀k∈ks2,A6 .str k=true:=fun k hk=>Vt (hskA k (m1.ks.mem_iff.1 hk));refine⟨hmt,ks2,vs2,r,ens2,clk2,m1,e2,k1,m2,m3,hcf,Ma hcf m2 k2.1,k2.2.1,k2.2.2,fun k b hb=> ?_⟩;simp only[AH]at hb;obtain⟨i,en,q1,_⟩:=hB.2.2.2.2.2.2 k b hb;simp at q1
  ·show An _ _ (.tup []) _;unfold An;exact⟨[],rfl,Am.nil⟩
 |call=>
  obtain⟨c,ho,hcase⟩:=RG hc hcls
  have fin:∀{f:FuncId} {vs:List Value} {l:List CV} {r:Res} {b:Bool},AW P f=true→(execOp a.eval o).run P w=(callFunc f ⟨vs⟩).run P w→E.fn f l=some r→Am w (mm0 w0 M0 z) l vs→(b=false→Am w (Aq M0 z st.ob) l vs)→(b=true→r.memless=true)→D3 st o.dst r=some st'→
    o.upon P a K Q ((execOp a.eval o).run P w):=by
   intro f vs l r b hb hrun hf h1 h2 h3 h4;rw[hrun,M5 hb];refine(RH hE h hd hf h1 h2 h3 h4).mono fun e w' ⟨v,he,z',hS⟩=> ?_;subst he;exact hK _ _ _ hS
  have IW:∀{f:FuncId} {e:Eff} {vs:List Value} {l:List CV} {r:CV} {H':Nat→Ob},(execOp a.eval o).run P w=(callFunc f ⟨vs⟩).run P w→AW P f=true→Am w (Aq M0 z st.ob) l vs→Fe P E.G f e.T l (Cg e.T st.ob) r H'→(BX e.T H' st).set o.dst (.c r)=st'→
    o.upon P a K Q ((execOp a.eval o).run P w):=by
   intro f e vs l r H' hrun he hl hr hs;subst hs;rw[hrun,M5 he];refine(S7 hE h hd hl hr).mono fun e w' ⟨v,he,z',hS⟩=> ?_;subst he;exact hK _ _ _ hS
  rcases hcase with⟨f,args,hcal,hb,hargs,rfl⟩|⟨t,args,hcal,hargs,rfl⟩
  ·simp only[hcls]at hv
   have hrun:(execOp a.eval o).run P w=(callFunc f ⟨c.args.toList.map a.eval⟩).run P w:=by
    have e:(⟨c.args.toList.map a.eval⟩:Array Value)=c.args.map a.eval:=Array.toList_inj.1 (by simp);rw[e];simp[execOp,ho,resolve,hcal,Act.eval,Deferred.ofValue,invoke]
   cases hef:E.ef f with
   |some e=>
    simp only[hef,CA,Ab,Ac]at hv;obtain⟨l,hl,p,hp,hs⟩:=hv;rw[List.append_nil]at hp;have hm:=(hE.ef f e hef).2 _ _ _ _ hp;unfold Em at hm;rw[HB hb]at hm;exact IW hrun hb (IE h hargs hl) hm hs
   |none=>
    simp only[hef]at hv;obtain⟨l,r,hl,hf,hor,hs⟩:=N2 hv;obtain⟨g1,g2⟩:=KU h hrd hargs hl;rw[List.append_nil]at hf
    cases hall:args.all (fun x=>isC (so E.G st.fr x))with
    |true=>exact fin (b:=false) hb hrun hf g1 (fun _=>g2 hall) (fun hh=>by cases hh) hs
    |false=>
     rw[hall]at hor;exact fin (b:=true) hb hrun hf g1 (fun hh=>by cases hh) (fun _=>by simpa using hor) hs
  ·simp only[hcls]at hv;have hr:=h.fr t;have hso:so E.G st.fr (.t t)=st.fr t:=rfl;rw[hso]at hv;split at hv<;>(try cases hv;done);rename_i f caps hfr;rw[hfr]at hr;unfold At An at hr;obtain⟨cvs,e1,hcaps⟩:=hr
   have hrun:DN f=none→(execOp a.eval o).run P w=(callFunc f ⟨c.args.toList.map a.eval++cvs⟩).run P w:=fun hm=>by
    have e:(⟨c.args.toList.map a.eval++cvs⟩:Array Value)=c.args.map a.eval++⟨cvs⟩:=Array.toList_inj.1 (by simp);rw[e];unfold FnV at e1;rw[hm]at e1;simp only at e1;simp[execOp,ho,resolve,hcal,Act.eval,e1,Deferred.ofValue,invoke]
   cases hef:E.ef f with
   |some e=>
    simp only[hef,CA,Ab,Ac]at hv;obtain⟨l,hl,p,hp,hs⟩:=hv;obtain⟨hb,hC⟩:=hE.ef f e hef;have hC':=hC _ _ _ _ hp;unfold Em at hC'
    cases hm:DN f with
    |none=>
     rw[hm]at hb hC';exact IW (hrun hm) hb ((IE h hargs hl).append hcaps) hC' hs
    |some g=>
     rw[hm]at hb hC';simp only[Option.getD_some]at hb hC';unfold FnV at e1;rw[hm]at e1;obtain⟨r,rfl,e1⟩:=e1;obtain⟨l',c',e2,hC'⟩:=hC';have hcl:=hcaps.length
     obtain⟨c2,rfl⟩:∃c2,caps= [c2]:=by
      match caps,hcl with
      | [c2],_=>exact⟨c2,rfl⟩
     obtain⟨e4,e3⟩:=List.append_inj' e2 rfl;subst e4;have e5:c2=c':=by simpa using e3
     subst e5
     have hr2:An w (Aq M0 z st.ob) c2 r:=by
      obtain⟨v,vs',e4,h1,_⟩:=by unfold Am at hcaps;exact hcaps
      cases e4;exact h1
     have hrun2:(execOp a.eval o).run P w=(callFunc g ⟨r::c.args.toList.map a.eval⟩).run P w:=by
      have e:(⟨r::c.args.toList.map a.eval⟩:Array Value)= #[r]++c.args.map a.eval:=Array.toList_inj.1 (by simp);rw[e];simp[execOp,ho,resolve,hcal,Act.eval,e1,Deferred.ofValue,invoke]
     exact IW hrun2 hb (Am.cons hr2 (IE h hargs hl)) hC' hs
   |none=>
    simp only[hef]at hv;obtain⟨l,r,hl,hf,hor,hs⟩:=N2 hv;obtain⟨g1,g2⟩:=KU h hrd hargs hl;have hb:=(hE.fn f _ r hf).1;have hrun:=hrun (HB hb);have hk:AR w (Aq M0 z st.ob) w (mm0 w0 M0 z):=⟨Nat.le_refl _,fun _ _ _=>rfl,fun g _ hg=>.inl hg.1,rfl⟩
    cases hall:args.all (fun x=>isC (so E.G st.fr x))with
    |true=>exact fin (b:=false) hb hrun hf (g1.append (Am.keep hk _ _ hcaps)) (fun _=>(g2 hall).append hcaps) (fun hh=>by cases hh) hs
    |false=>
     rw[hall]at hor;exact fin (b:=true) hb hrun hf (g1.append (Am.keep hk _ _ hcaps)) (fun hh=>by cases hh) (fun _=>by simpa using hor) hs
def ST(P:Program)(d:Nat)(o:Oper):Bool:=
 match o.op with
 | .call c=>match c.callee with
  | .value (.func _)=>c.args.any fun x=>match x with
   | .tmp t=>t==d
   |_=>false
  |_=>false
 |_=>false
def TY(d:Nat)(o:Oper):Bool:=
 match o.op,o.dst with
 | .assign (.tmp t),some _=>t==d
 |_,_=>false
def ML:Nat:=1099511627776
def Ny(d:Nat)(o:Oper):Bool:=
 match o.op with
 | .build _ parts=>parts.toList.any fun p=>match p.2 with
  | .tmp t=>t==d
  |_=>false
 |_=>false
def RK(ops:Array Oper)(d:Nat)(o:Oper):Bool:=
 match o.op,o.dst with
 | .call c,some d'=>match c.callee,c.args.toList with
  | .builtin .append,[_,.tmp t]=>t==d&&ops.any (Ny d')
  |_,_=>false
 |_,_=>false
def Jw(P:Program)(ops:Array Oper)(d:Option Nat)(sop:SOp):SOp:=
 match sop,d with
 | .mksl e s xs,some d=>if(ops.any (ST P d)||ops.any (RK ops d))=true then .lsl e s xs else .mksl e s xs
 | .bytes e x,some d=>if(ops.any (TY d)&&(P.info? ML).isNone)=true then .nbytes ML x else .bytes e x
 | .append e s b x y,some d=>if ops.any (Ny d)=true then .capp e s b x y else .append e s b x y
 |op,_=>op
def I1(P:Program)(o:Oper)(op:SOp):Prop:=Bs P o=some op∨(∃e s xs,Bs P o=some (.mksl e s xs)∧op=.lsl e s xs)∨(∃e e' x,Bs P o=some (.bytes e x)∧op=.nbytes e' x∧P.info? e'=none)∨∃e s b x y,Bs P o=some (.append e s b x y)∧op=.capp e s b x y
theorem TR{P:Program}{o:Oper}{sop:SOp}(h:Bs P o=some sop)(ops:Array Oper)(d:Option Nat):I1 P o (Jw P ops d sop):=by
 unfold Jw;split
 ·rename_i e s xs d;split
  ·exact .inr (.inl ⟨e,s,xs,h,rfl⟩)
  ·exact .inl h
 ·rename_i e x d;split
  ·rename_i hh;simp only[Af,Option.isNone_iff_eq_none]at hh;exact .inr (.inr (.inl ⟨e,ML,x,h,rfl,hh.2⟩))
  ·exact .inl h
 ·rename_i e s b x y d;split
  ·exact .inr (.inr (.inr ⟨e,s,b,x,y,h,rfl⟩))
  ·exact .inl h
 ·exact .inl h
theorem Om(hE:EOk P E)(h:SR P E.G w0 M0 n st a w z){rd:Nat→Ob}(hrd:∀id,rd id=.none∨rd id=st.ob id){o:Oper}{sop:SOp}(hc:I1 P o sop)(hd:∀j,o.dst=some j→j<n)(hm:Gd sop=true→o.dst=none){st':St}
  (hv:A2 E rd st o.dst sop=some st') {K:Act→World→Prop} {Q:Exit→Act→World→Prop} (hK:∀a' w' z',SR P E.G w0 M0 n st' a' w' z'→K a' w'):o.wp P a w K Q:=by
 rcases hc with hc|⟨e,s,xs,hc,rfl⟩|⟨e,e',x,hc,rfl,he'⟩|⟨e,s,b,x,y,hc,rfl⟩
 ·exact SM hE h hrd hc hd hm hv hK
 ·unfold Oper.wp;unfold A2 at hv;simp only[SOp.cls,Aa]at hv;obtain⟨sv,hv,rfl⟩:=hv;obtain⟨v,w',h1,h2,h3⟩:=TS h hc hv;rw[h1];exact hK _ _ _ ((h.grow h2).put hd h3)
 ·unfold Oper.wp;unfold A2 at hv;simp only[SOp.cls,Ab,Prod.exists]at hv;obtain⟨sv,ob,hv,ha⟩:=hv;unfold AY at ha
  cases hod:o.dst with
  |none=>rw[hod]at ha;cases ha
  |some d=>
   rw[hod]at ha hv;simp only[Option.getD_some]at ha hv;split at ha<;>(try cases ha;done);rename_i hn;simp only[Ac]at ha;subst ha;obtain⟨v,w',z',h1,h2⟩:=Ub h hc he' hv (hd d hod) hn;rw[h1];refine hK _ _ z' ?_;rw[hod];exact h2
 ·unfold Oper.wp;unfold A2 at hv;simp only[SOp.cls,Aa]at hv;obtain⟨sv,hv,rfl⟩:=hv;obtain⟨v,w',h1,h2,h3⟩:=RJ h hc hv;rw[h1];exact hK _ _ _ ((h.grow h2).put hd h3)
def CM(P:Program)(n:Nat)(ops:Array Oper)(o:Oper):Option SL:=
 ((Bs P o).map (Jw P ops o.dst)).bind fun sop=>
   if(o.dst.all fun d=>decide (d<n))&&(!(Gd sop)||o.dst.isNone)then
    match o.guard with
    |none=>some ⟨o.dst,sop,none⟩
    |some (j,want)=>((ops[j]?).bind (·.dst)).map fun t=>⟨o.dst,sop,some (t,want)⟩
   else none
theorem Sd{ops:Array Oper}{o:Oper}{l:SL}(h:CM P n ops o=some l):I1 P o l.op∧l.dst=o.dst∧(∀j,o.dst=some j→j<n)∧(Gd l.op=true→o.dst=none)∧
  ((o.guard=none∧l.guard=none)∨∃j t want,o.guard=some (j,want)∧(ops[j]?).bind (·.dst)=some t∧l.guard=some (t,want)):=by
 simp only[CM,Ab,Ad,Af,Aj,Bool.not_eq_true']at h;obtain⟨sop,hs,⟨h1,h2⟩,h3⟩:=h;obtain⟨sop0,hs0,hs1⟩:=Aa.1 hs;replace hs:I1 P o sop:=hs1▸TR hs0 ops o.dst;have hd:∀j,o.dst=some j→j<n:=fun j hj=>by rw[hj]at h1;simpa using h1
 have hm:Gd sop=true→o.dst=none:=fun hm=>by
  rcases h2 with h2|h2
  ·rw[hm]at h2;cases h2
  ·simpa using h2
 split at h3
 ·rename_i hg;simp only[Ac]at h3;subst h3;exact⟨hs,rfl,hd,hm,.inl ⟨hg,rfl⟩⟩
 ·rename_i j want hg;simp only[Aa]at h3;obtain⟨t,ht,rfl⟩:=h3;exact⟨hs,rfl,hd,hm,.inr ⟨j,t,want,hg,ht,rfl⟩⟩
theorem Q2{G:Nat→List CV}(h:SR P G w0 M0 n st a w z){d:Option Nat}(hd:∀j,d=some j→j<n):SR P G w0 M0 n (st.set d AP) (a.put d undef) w z:=by
 refine h.put hd ?_;show An _ _ (.tup []) undef;unfold An;exact⟨[],rfl,Am.nil⟩
theorem Oh(hE:EOk P E)(h:SR P E.G w0 M0 n st a w z){rd:Nat→Ob}(hrd:∀id,rd id=.none∨rd id=st.ob id){ops:Array Oper}{i:Nat}{o:Oper}(ho:ops[i]? =some o){l:SL}(hc:CM P n ops o=some l){st':St}(hv:Bg E rd l st=some st')
  {rest:List Nat} {Q:Exit→Act→World→Prop} (hK:∀a' w' z',SR P E.G w0 M0 n st' a' w' z'→wpOps P ops Q rest a' w'):wpOps P ops Q (i::rest) a w:=by
 obtain⟨h1,h2,h3,h4,h5⟩:=Sd hc;simp only[wpOps,ho];unfold Bg at hv;rcases h5 with⟨hg,hlg⟩|⟨j,t,want,hg,ht,hlg⟩
 ·rw[hlg]at hv;simp only at hv;rw[if_pos (by simp[Region.wanted,hg])];rw[h2]at hv;exact .inl (Om hE h hrd h1 h3 h4 hv (fun a' w' z' hS=>hK a' w' z' hS))
 ·rw[hlg]at hv;simp only at hv;have hr:=h.fr t
  have hy:∀b,st.fr t=.c (.bool b)→yielded ops a.tmps j=some b:=by
   intro b hb;rw[hb]at hr;have e:=CZ (w:=w) (M:=Aq M0 z st.ob) hr
   have hlt:t<a.tmps.size:=by
    rcases Nat.lt_or_ge t a.tmps.size with hh|hh
    ·exact hh
    ·simp[Array.getD,Nat.not_lt.2 hh,undef]at e
   have e':a.tmps[t]? =some (.bool b):=by
    rw[Array.getElem?_eq_getElem hlt];simpa[Array.getD,hlt]using e
   simp only[yielded,ht,Option.bind_some,e']
  have hskip:st.fr t=.c (.tup [])→yielded ops a.tmps j=none:=by
   intro hb;rw[hb]at hr;unfold At An at hr;obtain⟨vs,e,_⟩:=hr;simp only[yielded,ht,Option.bind_some]
   cases ht':a.tmps[t]? with
   |none=>rfl
   |some v=>
    have:a.tmps.getD t undef=v:=by rw[Array.getD_eq_getD_getElem?,ht'];rfl
    rw[this]at e;rw[e]
  split at hv
  ·rename_i b hb;have hyb:=hy b hb;split at hv
   ·rename_i hbw;rw[if_pos (by simp[Region.wanted,hg,hyb,hbw])];rw[h2]at hv;exact .inl (Om hE h hrd h1 h3 h4 hv (fun a' w' z' hS=>hK a' w' z' hS))
   ·rename_i hbw;rw[if_neg (by simp[Region.wanted,hg,hyb,hbw])];simp only[Ac]at hv;subst hv;rw[h2]at hK;exact hK _ _ _ (Q2 h h3)
  ·rename_i hb;rw[if_neg (by simp[Region.wanted,hg,hskip hb])];simp only[Ac]at hv;subst hv;rw[h2]at hK;exact hK _ _ _ (Q2 h h3)
  ·cases hv
theorem IU(hE:EOk P E)(h:SR P E.G w0 M0 n st a w z){D:Option (List Nat)}{ops:Array Oper}{i:Nat}{o:Oper}(ho:ops[i]? =some o){l:SL}(hc:CM P n ops o=some l){st':St}(hv:Ax E D l st=some st')
  {rest:List Nat} {Q:Exit→Act→World→Prop} (hK:∀a' w' z',SR P E.G w0 M0 n st' a' w' z'→wpOps P ops Q rest a' w'):wpOps P ops Q (i::rest) a w:=by
 refine Oh (hE.at D) (CY▸h) (rd:=A9 (D.map (hid l.op)) st.ob) (fun id=> ?_) ho hc hv (fun a' w' z' hS=>hK a' w' z' (CY▸hS));generalize D.map (hid l.op)=D
 cases D with
 |none=>exact .inr rfl
 |some D=>unfold A9;simp only;split<;>first|exact .inl rfl|exact .inr rfl
def Ca(E:Env)(D:Option (List Nat))(ls:List SL):List Nat→St→Option St
 | [],st=>some st
 |i::is,st=>match ls[i]? with
  |some l=>(Ax E D l st).bind (Ca E D ls is)
  |none=>none
theorem H7(hE:EOk P E){D:Option (List Nat)}{ops:Array Oper}{ls:List SL}(hc:Ar (CM P n ops) ops.toList=some ls){Q:Exit→Act→World→Prop}:∀{is:List Nat} {st st':St} {a:Act} {w:World} {z:Cz},SR P E.G w0 M0 n st a w z→
  Ca E D ls is st=some st'→(∀a' w' z',SR P E.G w0 M0 n st' a' w' z'→Q .normal a' w')→wpOps P ops Q is a w
 | [],st,st',a,w,z,h,hv,hK=>by
  simp only[Ca,Ac]at hv;subst hv;exact hK _ _ _ h
 |i::is,st,st',a,w,z,h,hv,hK=>by
  simp only[Ca]at hv;split at hv<;>(try cases hv;done);rename_i l hl;simp only[Ab]at hv;obtain⟨st1,h1,h2⟩:=hv;have hlen:=Dv hc;have hi:i<ops.toList.length:=by rw[←hlen];exact(Ae.1 hl).1
  have ho:ops.toList[i]? =some (ops.toList[i]):=Ai hi;obtain⟨l',g1,g2⟩:=Hq hc ho;rw[hl]at g1;simp only[Ac]at g1;subst g1;have ho':ops[i]? =some (ops.toList[i]):=by rw[←Array.getElem?_toList];exact ho
  exact IU hE h ho' g2 h1 fun a' w' z' hS=>H7 hE hc hS h2 hK
end
end WB
