/-
  OWN TEXTS, MERGED (wip/merge.py): CoreL, CoreM, CoreN, CoreO, CoreP, CoreQ, CoreR, CoreS, CoreT, CoreU, CoreUe. No condition of their own.
-/
import Derived.Test.YtbajcpobojindaaGreatDoorK1
import Derived.Laws.BytesArg
import Derived.Maps.RangeRun
import Derived.Maps.AppendAt
import Derived.Laws.CopyRow
set_option linter.unusedVariables false
set_option linter.unusedSimpArgs false
open Go.IntKind (i64 u64 u8 u32)
namespace WB
open Go Go.RowKit
section
variable {G:Nat→List CV} {P:Program} {w:World} {M:MM} {B:Nat} {z:Cz} {ob rd:Nat→Ob} {fr:Nat→SV} {a:Act}
theorem C9{o:Oper}{s:Sem Value}{sv:SV}(he:execOp a.eval o=(do pure (.value (←s)):Sem Next))(h:∃v,s.run P w=.ok v w∧Ar w M z ob sv v):Yes P w M z ob a o sv:=by
 obtain⟨v,h1,h2⟩:=h;exact⟨v,by rw[he];simp[h1],h2⟩
theorem U8{op:BinOp}{x y:CV}{c:CV}(h:DT op x y=some c):(∃k n,x=.int k n)∨(∃s,x=.str s):=by
 cases x<;>(try simp only[DT,reduceCtorEq]at h;done)
 ·exact .inl ⟨_,_,rfl⟩
 ·exact .inr ⟨_,rfl⟩
theorem Mp(h:Ctx P G w M B z ob fr a){op:BinOp}{t:TypeId}{x y:Operand}{sx sy:SO}(hx:An x=some sx)(hy:An y=some sy){sv:SV}(hv:Am rd (so G fr) (.bin op sx sy)=some sv):
  ∃v,(do eqGuard op t x y (a.eval x) (a.eval y);binOp op t (a.eval x) (a.eval y):Sem Value).run P w=.ok v w∧Ar w M z ob sv v:=by
 have hr:=h.opd hx;have hr2:=h.opd hy;simp only[Am]at hv;generalize so G fr sx=q at hr hv;generalize so G fr sy=q2 at hr2 hv;split at hv
 ·rename_i c1 c2;simp only[Aa]at hv;obtain⟨c,hc,rfl⟩:=hv;obtain⟨v,g1,g2⟩:=YF (P:=P) (t:=t) hr hr2 hc;refine⟨v, ?_,g2⟩
  have hg:(eqGuard op t x y (a.eval x) (a.eval y)).run P w=.ok () w:=by
   rcases U8 hc with⟨k,n,rfl⟩|⟨s,rfl⟩
   ·rw[BR (w:=w) (M:=M) hr];exact Hw op t x y ⟨(fun _ hh=>by cases hh),(fun hh=>by cases hh)⟩
   ·rw[CH (w:=w) (M:=M) hr];exact Hw op t x y ⟨(fun _ hh=>by cases hh),(fun hh=>by cases hh)⟩
  simp[hg,g1]
 ·cases hv
theorem ZP(h:Ctx P G w M B z ob fr a){op:BinOp}(hop:op=.eql∨op=.neq){t:TypeId}(hu:P.underlying t=some .bool){x y:Operand}{sx sy:SO}(hx:An x=some sx)(hy:An y=some sy){sv:SV}(hv:Am rd (so G fr) (.beq (Dg op) sx sy)=some sv):
  ∃v,(do eqGuard op t x y (a.eval x) (a.eval y);binOp op t (a.eval x) (a.eval y):Sem Value).run P w=.ok v w∧Ar w M z ob sv v:=by
 have hr:=h.opd hx;have hr2:=h.opd hy;simp only[Am]at hv;generalize so G fr sx=q at hr hv;generalize so G fr sy=q2 at hr2 hv;split at hv
 ·rename_i b1 b2;simp only[Ac]at hv;subst hv;rw[Dp (w:=w) (M:=M) hr,Dp (w:=w) (M:=M) hr2];have hg:=Hw (P:=P) (w:=w) op t x y (va:=.bool b1) (vb:=.bool b2) ⟨(fun _ hh=>by cases hh),(fun hh=>by cases hh)⟩;have hb:=YE (w:=w) hu b1 b2;refine⟨_, ?_,DH (w:=w) (M:=M)⟩;rcases hop with rfl|rfl
  ·simp[hg,hb.1,Dg]
  ·simp[hg,hb.2,Dg]
 ·cases hv
theorem ZV(h:Ctx P G w M B z ob fr a){op:BinOp}(hop:op=.eql∨op=.neq){t:TypeId}{fs:Array Field}(hu:P.underlying t=some (.struct fs))(hp:P.stoodInHeld t=false)(hq:P.eqGuardType P.depth t=false)
  {ts:List KT} (hk:Ev P 0 fs.toList=some ts) {x y:Operand} {sx sy:SO} (hx:An x=some sx) (hy:An y=some sy) {sv:SV} (hv:Am rd (so G fr) (.eqs (Dg op) ts sx sy)=some sv):
  ∃v,(do eqGuard op t x y (a.eval x) (a.eval y);binOp op t (a.eval x) (a.eval y):Sem Value).run P w=.ok v w∧Ar w M z ob sv v:=by
 have hr:=h.opd hx;have hr2:=h.opd hy;simp only[Am]at hv;generalize so G fr sx=q at hr hv;generalize so G fr sy=q2 at hr2 hv;split at hv
 ·rename_i c1 c2;simp only[Aa]at hv;obtain⟨r,hr',rfl⟩:=hv;obtain⟨⟨xs,e1⟩,⟨ys,e2⟩,he⟩:=SX (w:=w) (M:=M) hu hp hk hr hr2 hr';rw[e1,e2]at he⊢;have hg:=run_eqGuard_agg (P:=P) w op t x y xs ys hq;have he':=he 9998;refine⟨_, ?_,DH (w:=w) (M:=M)⟩;rcases hop with rfl|rfl
  ·simp[hg,run_eql_struct,he',Dg]
  ·simp[hg,run_neq_struct,he',Dg]
 ·cases hv
theorem Aak(h:Ctx P G w M B z ob fr a){op:UnOp}{x:Operand}{sx:SO}(hx:An x=some sx){sv:SV}(hv:Am rd (so G fr) (.un op sx)=some sv):
  ∃v,(Op.unary op (a.eval x)).run P w=.ok v w∧Ar w M z ob sv v:=by
 have hr:=h.opd hx;simp only[Am]at hv;generalize so G fr sx=q at hr hv;split at hv
 ·simp only[Aa]at hv;obtain⟨c,hc,rfl⟩:=hv;obtain⟨v,g1,g2⟩:=YM (P:=P) hr hc;exact⟨v,g1,g2⟩
 ·cases hv
theorem ZY(h:Ctx P G w M B z ob fr a){t:TypeId}{fs:Array Field}{f:Nat}{fd:Field}{s:Option Nat}(ht:P.underlying t=some (.struct fs))(hf:fs[f]? =some fd)(hs:Dj P fd.type=some s)
  {x:Operand} {sx:SO} (hx:An x=some sx) {sv:SV} (hv:Am rd (so G fr) (.field fd.offset s sx)=some sv):
  ∃v,(Instr.field t (a.eval x) f).run P w=.ok v w∧Ar w M z ob sv v:=by
 have hr:=h.opd hx;simp only[Am]at hv;generalize so G fr sx=q at hr hv;split at hv
 ·simp only[Aa]at hv;obtain⟨c,hc,rfl⟩:=hv;unfold Ar RelC at hr;obtain⟨vs,e1,hl⟩:=hr;obtain⟨v,g1,g2⟩:=Td (P:=P) hs hl hc;exact⟨v,by rw[e1];simp[Instr.field,run_underlying ht,hf,asAgg,g1],g2⟩
 ·cases hv
theorem JP:∀{es:List CV} {ns:List Int} {i:Nat} {e:CV},Ep es=some ns→es[i]? =some e→∃n,e=.int .u8 n∧ns[i]? =some n
 | [],_,_,_,_,h=>by simp at h
 |c::es,ns,i,e,hb,h=>by
  unfold Ep at hb;split at hb<;>(try cases hb;done)
  ·rename_i e';cases e'
  ·rename_i m es' heq;cases heq;obtain⟨ns',h1,rfl⟩:=Aa.1 hb
   cases i with
   |zero=>simp at h;subst h;exact⟨m,rfl,rfl⟩
   |succ i=>
    simp only[List.getElem?_cons_succ]at h⊢;exact JP h1 h
theorem PG:∀{es:List CV} {ns:List Int},Ep es=some ns→ns.length=es.length
 | [],ns,h=>by cases h;rfl
 |c::es,ns,hb=>by
  unfold Ep at hb;split at hb<;>(try cases hb;done)
  ·rename_i e';cases e'
  ·rename_i m es' heq;cases heq;obtain⟨ns',h1,rfl⟩:=Aa.1 hb;simp[PG h1]
theorem SS{src dst e:TypeId}(hs:P.underlying src=some (.slice e))(he:P.underlying e=some (.int .u8))(hd:P.underlying dst=some .string){es:List CV}{ns:List Int}(hb:Ep es=some ns){v:Value}
  (hv:(∃l c,v=.slice none l c∧es= [])∨∃ad c,v=.slice (some ad) es.length c∧∀(k:Nat) el,es[k]? =some el→∃u,RelC w M el u∧w.cell? (ad.add k)=some u):
  (convert src dst v).run P w=.ok (.string ⟨⟨ns.map fun n=>UInt8.ofNat n.toNat⟩⟩) w:=by
 rcases hv with⟨l,c,rfl,rfl⟩|⟨ad,c,rfl,hc⟩
 ·cases hb;rw[run_convert_bytes_nil w src e hs he l c dst hd];rfl
 ·have hlen:=PG hb
  have hl:(loadCells ad es.length).run P w=.ok (ns.map (Value.int .u8)).toArray w:=by
   have:=run_loadCells_list (P:=P) w ad (ns.map (Value.int .u8)) (fun j u hj=>by
    rw[List.getElem?_map,Aa]at hj;obtain⟨m,hm,rfl⟩:=hj;obtain⟨el,hel⟩:∃el,es[j]? =some el:=⟨_,Ai (by have:=(Ae.1 hm).1;omega)⟩;obtain⟨n',rfl,h2⟩:=JP hb hel;obtain⟨u,h3,h4⟩:=hc j _ hel;rw[hm]at h2;cases h2;unfold RelC at h3
    rw[h4,h3])
   simpa[hlen]using this
  rw[run_convert_bytes_string w src dst e _ _ _ hs he hd,run_bytesToString w _ _ _ ns hl,foldl_push_bytes];simp[ByteArray.empty,ByteArray.emptyWithCapacity];rfl
theorem ZT(h:Ctx P G w M B z ob fr a)(hrd:∀id,rd id=.none∨rd id=ob id){src dst:TypeId}{x:Operand}{sop:SOp}(hc:F7 P src dst x=some sop)(hcls:sop.cls=.val){sv:SV}(hv:Am rd (so G fr) sop=some sv):
  ∃v,(convert src dst (a.eval x)).run P w=.ok v w∧Ar w M z ob sv v:=by
 unfold F7 at hc;split at hc
 ·rename_i k0 k h1 h2;simp only[Aa]at hc;obtain⟨sx,hx,rfl⟩:=hc;have hr:=h.opd hx;simp only[Am]at hv;generalize so G fr sx=q at hr hv;split at hv
  ·simp only[Ac]at hv;subst hv;rw[BR (w:=w) (M:=M) hr];exact⟨_,by simp[convert,run_underlying h1,run_underlying h2,Conv.intToInt],D8 (w:=w) (M:=M)⟩
  ·cases hv
 ·rename_i k0 h1 h2;simp only[Aa]at hc;obtain⟨sx,hx,rfl⟩:=hc;have hr:=h.opd hx;simp only[Am]at hv;generalize so G fr sx=q at hr hv;split at hv
  ·simp only[Ac]at hv;subst hv;rw[BR (w:=w) (M:=M) hr];exact⟨_,by simp[convert,run_underlying h1,run_underlying h2,Conv.intToString],LN (w:=w) (M:=M)⟩
  ·cases hv
 ·rename_i h1 h2;simp only[Aa]at hc;obtain⟨sx,hx,rfl⟩:=hc;have hr:=h.opd hx;simp only[Am]at hv;generalize so G fr sx=q at hr hv;split at hv
  ·simp only[Ac]at hv;subst hv;rw[CH (w:=w) (M:=M) hr];exact⟨_,by simp[convert,run_underlying h1,run_underlying h2],LN (w:=w) (M:=M)⟩
  ·cases hv
 ·split at hc
  ·simp only[Aa]at hc;obtain⟨sx,hx,rfl⟩:=hc;cases hcls
  ·cases hc
 ·rename_i e h1 h2;split at hc
  ·rename_i he;simp only[Aa]at hc;obtain⟨sx,hx,rfl⟩:=hc;have hr:=h.opd hx;simp only[Am]at hv;generalize so G fr sx=q at hr hv;split at hv
   ·rename_i nl es;obtain⟨ns,hb,rfl⟩:=Aa.1 hv;refine⟨_,SS (M:=M) h1 he h2 hb ?_,LN (w:=w) (M:=M)⟩;unfold Ar RelC at hr;obtain⟨ad,n',c,ev,hn,_,_,_,_,hm⟩:=hr;rw[ev]
    cases es with
    |nil=>
     cases ad with
     |none=>exact .inl ⟨_,_,rfl,rfl⟩
     |some ad=>exact .inr ⟨ad,c,by rw[hn],fun k el hk=>by simp at hk⟩
    |cons x es=>
     obtain⟨ad',size,e1,_,_,hE⟩:=hm (by simp);subst e1;refine .inr ⟨ad',c,by rw[hn],fun k el hk=> ?_⟩;obtain⟨m,rfl,_⟩:=JP hb hk;obtain⟨u,g1,g2,g3⟩:=Bo.get hE hk;have g1':=g1;unfold RelC at g1';subst g1';have hsz:size=1:=by rw[←g2];rfl
     subst hsz;have:=g3 0 (.int .u8 m) rfl;refine⟨_,g1, ?_⟩;simpa using this
   ·rename_i id;split at hv<;>(try cases hv;done);rename_i et sz es ho;obtain⟨ns,hb,rfl⟩:=Aa.1 hv;refine⟨_,SS (M:=M) h1 he h2 hb ?_,LN (w:=w) (M:=M)⟩;obtain⟨_,e1⟩:=hr
    have hob:ob id=.arr et sz es:=by
     rcases hrd id with e'|e'
     ·rw[e']at ho;cases ho
     ·rw[e']at ho;exact ho
    have hro:=h.ob id;rw[hob]at hro;obtain⟨xs,hown,hf⟩:=hro;rw[e1];rcases hown.2 with⟨e2,e3⟩|⟨g,cap,cur,ty,fz,e2,e3,e4,_,_,e5,e6,e7,e8⟩
    ·exact .inl ⟨_,_,e2,List.eq_nil_of_length_eq_zero e3⟩
    ·refine .inr ⟨⟨g,0,none⟩,cap,e2,fun k el hk=> ?_⟩;obtain⟨m,rfl,_⟩:=JP hb hk;obtain⟨u,g1,g2,g3⟩:=Fw hf hk;have g1':=g1;unfold RelC at g1';subst g1';have hsz:sz=1:=by rw[←g2];rfl
     subst hsz;refine⟨_,g1, ?_⟩;rw[Do,cell_of_row w g _ cur ty fz e4];have h8:=g3 0 (.int .u8 m) rfl;rw[←e8,List.getElem?_take]at h8;split at h8
     ·simpa using h8
     ·cases h8
   ·cases hv
  ·cases hc
 ·cases hc
theorem U9(h:Ctx P G w M B z ob fr a){op:BinOp}{t:TypeId}{x y:Operand}{sop:SOp}(hc:JZ P op t x y=some sop){sv:SV}(hv:Am rd (so G fr) sop=some sv):
  ∃v,(do eqGuard op t x y (a.eval x) (a.eval y);binOp op t (a.eval x) (a.eval y):Sem Value).run P w=.ok v w∧Ar w M z ob sv v:=by
 by_cases hop:op=.eql∨op=.neq
 ·have hc':(match P.underlying t with
   |some (.int _)|some .string=>(An x).bind fun a=>(An y).map fun b=>SOp.bin op a b
   |some .bool=>(An x).bind fun a=>(An y).map fun b=>.beq (Dg op) a b
   |some (.struct fs)=>if P.stoodInHeld t||P.eqGuardType P.depth t then none else
    (Ev P 0 fs.toList).bind fun ts=>(An x).bind fun a=>(An y).map fun b=>.eqs (Dg op) ts a b
   |some d=>(IY d y).bind fun kd=>(An x).map fun a=>.isnil kd (Dg op) a
   |_=>none)=some sop:=by
   rcases hop with rfl|rfl<;>exact hc
  split at hc'
  ·simp only[Ab,Aa]at hc';obtain⟨sx,hx,sy,hy,rfl⟩:=hc';exact Mp h hx hy hv
  ·simp only[Ab,Aa]at hc';obtain⟨sx,hx,sy,hy,rfl⟩:=hc';exact Mp h hx hy hv
  ·rename_i hu;simp only[Ab,Aa]at hc';obtain⟨sx,hx,sy,hy,rfl⟩:=hc';exact ZP h hop hu hx hy hv
  ·rename_i fs hu;split at hc'
   ·cases hc'
   ·rename_i hn;simp only[Aj,not_or,Bool.not_eq_true]at hn;simp only[Ab,Aa]at hc';obtain⟨ts,hts,sx,hx,sy,hy,rfl⟩:=hc';exact ZV h hop hu hn.1 hn.2 hts hx hy hv
  ·rename_i d _ _ _ _ hu;simp only[Ab,Aa]at hc';obtain⟨kd,hkd,sx,hx,rfl⟩:=hc';exact Aac h hu hop hkd hx hv
  ·cases hc'
 ·have hc':(match P.underlying t with
   |some (.int _)|some .string=>(An x).bind fun a=>(An y).map fun b=>SOp.bin op a b
   |_=>none)=some sop:=by
   cases op<;>first|exact hc|(exact absurd (.inl rfl) hop)|(exact absurd (.inr rfl) hop)
  split at hc'
  ·simp only[Ab,Aa]at hc';obtain⟨sx,hx,sy,hy,rfl⟩:=hc';exact Mp h hx hy hv
  ·simp only[Ab,Aa]at hc';obtain⟨sx,hx,sy,hy,rfl⟩:=hc';exact Mp h hx hy hv
  ·cases hc'
theorem ZZ(h:Ctx P G w M B z ob fr a){f:FuncId}(hf:DF f=none){captured:Array Operand}{l:List SO}(hl:Aq An captured.toList=some l){sv:SV}(hv:Am rd (so G fr) (.fnv f l)=some sv):
  Ar w M z ob sv (.func (.func f) #[] (captured.map a.eval)):=by
 simp only[Am,Aa]at hv;obtain⟨cs,hcs,rfl⟩:=hv;have hr:=Lt h.fr h.glob hl hcs;show RelC _ _ _ _;unfold RelC;refine⟨captured.toList.map a.eval, ?_,hr⟩;unfold FnV;rw[hf];show _=_
 congr 1
 apply Array.toList_inj.1;simp
theorem Aaa(h:Ctx P G w M B z ob fr a){f:FuncId}{x:Operand}{l:List SO}(hl:Aq An [x]=some l){sv:SV}(hv:Am rd (so G fr) (.fnv (FM+f) l)=some sv):
  Ar w M z ob sv (.func (.func f) #[a.eval x] #[]):=by
 simp only[Am,Aa]at hv;obtain⟨cs,hcs,rfl⟩:=hv;have hr:=Lt h.fr h.glob hl hcs;show RelC _ _ _ _;unfold RelC;refine⟨_, ?_,hr⟩;unfold FnV;rw[XB];exact⟨a.eval x,rfl,rfl⟩
theorem TW(h:Ctx P G w M B z ob fr a){x:Operand}{sx:SO}(hx:An x=some sx){sv:SV}(hv:Am rd (so G fr) (.nchk sx)=some sv):
  ∃ad,a.eval x=.pointer (some ad)∧Ar w M z ob sv (a.eval x):=by
 have hr:=h.opd hx;simp only[Am]at hv;generalize so G fr sx=q at hr hv;split at hv<;>(try cases hv;done)
 all_goals
  cases hv;have hr':=hr
 ·unfold Ar RelC at hr';exact⟨_,hr',hr⟩
 ·unfold Ar RelC at hr';obtain⟨ad,vs,e,_⟩:=hr';exact⟨_,e,hr⟩
 ·unfold Ar RelC at hr';obtain⟨g,ty,vs,e,_⟩:=hr';exact⟨_,e,hr⟩
 ·obtain⟨_,g,_,e⟩:=hr';exact⟨_,e,hr⟩
 ·obtain⟨_,g,n,c,_,e⟩:=hr';exact⟨_,e,hr⟩
theorem ZU(h:Ctx P G w M B z ob fr a){t:TypeId}{f:Nat}(hem:Na P t f=true){x:Operand}{sx:SO}(hx:An x=some sx){sv:SV}(hv:Am rd (so G fr) (.nchk sx)=some sv):
  ∃v,(Instr.fieldAt t (a.eval x) f).run P w=.ok v w∧Ar w M z ob sv v:=by
 unfold Na at hem;split at hem<;>(try cases hem;done);rename_i fs hu;split at hem<;>(try cases hem;done);rename_i fd hf;split at hem<;>(try cases hem;done);rename_i i _ hi;simp only[Af,beq_iff_eq,bne_iff_ne,ne_eq]at hem;obtain⟨ad,e,hr⟩:=TW h hx hv;refine⟨_, ?_,hr⟩;simp[Instr.fieldAt,Instr.sureAddr,run_underlying hu,hf,e,fieldPlace,CX hi,hem.2,hem.1.2,add_zero]
theorem ZR(h:Ctx P G w M B z ob fr a)(hrd:∀id,rd id=.none∨rd id=ob id){c:Call}{ty:TypeId}{sop:SOp}(hc:DX P c=some sop)(hcls:sop.cls=.val){sv:SV}(hv:Am rd (so G fr) sop=some sv):
  ∃v,(do let d←resolve a.eval c ty;invoke d.target d.args:Sem Next).run P w=.ok (.value v) w∧Ar w M z ob sv v:=by
 obtain⟨callee,args,argTypes⟩:=c;unfold DX at hc;split at hc<;>(try cases hc;done)
 ·rename_i hcal;simp only at hcal;subst hcal;simp only at hc
  have hat:∃t,argTypes[0]? =some t:=by
   cases hh:argTypes[0]? with
   |none=>rw[hh]at hc;simp at hc
   |some t=>exact⟨t,rfl⟩
  obtain⟨t,hat⟩:=hat
  rw[hat]at hc;simp only[Option.bind_some]at hc
  have run:∀(x:Operand),args.toList= [x]→(do let d←resolve a.eval {callee:=.builtin .len,args:=args,argTypes:=argTypes} ty;invoke d.target d.args:Sem Next).run P w=((Builtin.len_ #[t] ty #[a.eval x]).run P w).andThen fun v w'=>.ok (.value v) w':=by
   intro x hx;obtain⟨l⟩:=args;simp only at hx;subst hx;have e:∀v:Array Value,Builtin.len_ argTypes ty v=Builtin.len_ #[t] ty v:=fun v=>by simp[Builtin.len_,hat]
   simp[resolve,invoke,builtin,e]
  split at hc
  ·rename_i x hu hx;simp only[Aa]at hc;obtain⟨sx,hsx,rfl⟩:=hc;simp only[Am,Aa]at hv;obtain⟨n,hn,rfl⟩:=hv;rw[run x hx,OU h hrd hu (.inl ⟨rfl,rfl⟩) hsx hn];exact⟨_,rfl,D8 (w:=w) (M:=M)⟩
  ·rename_i e x hu hx;simp only[Aa]at hc;obtain⟨sx,hsx,rfl⟩:=hc;simp only[Am,Aa]at hv;obtain⟨n,hn,rfl⟩:=hv;rw[run x hx,OU h hrd hu (.inr (.inl ⟨rfl,_,rfl⟩)) hsx hn];exact⟨_,rfl,D8 (w:=w) (M:=M)⟩
  ·rename_i k e x hu hx;simp only[Aa]at hc;obtain⟨sx,hsx,rfl⟩:=hc;simp only[Am,Aa]at hv;obtain⟨n,hn,rfl⟩:=hv;rw[run x hx,OU h hrd hu (.inr (.inr ⟨rfl,_,_,rfl⟩)) hsx hn];exact⟨_,rfl,D8 (w:=w) (M:=M)⟩
  ·rename_i n e x hu hx;simp only[Ac]at hc;subst hc;simp only[Am,Ac]at hv;subst hv;rw[run x hx];exact⟨.int .i64 n,by simp[Builtin.len_,run_underlying hu,goInt],D8 (w:=w) (M:=M)⟩
  ·cases hc
 ·rename_i hcal;simp only at hcal;subst hcal;simp only[Aa]at hc;obtain⟨l,hl,rfl⟩:=hc;obtain⟨v,g1,g2⟩:=TV h hl hv argTypes ty;simp only[Ag,if_false]at g1;exact⟨v,by simp[resolve,invoke,builtin,g1],g2⟩
 ·rename_i hcal;simp only at hcal;subst hcal;simp only[Aa]at hc;obtain⟨l,hl,rfl⟩:=hc;obtain⟨v,g1,g2⟩:=TV h hl hv argTypes ty;simp only[if_true]at g1;exact⟨v,by simp[resolve,invoke,builtin,g1],g2⟩
 ·split at hc<;>(try cases hc;done);split at hc<;>(try cases hc;done);simp only[Ab,Ad,Ac]at hc;obtain⟨i,_,zv,_,sa,_,sb,_,_,rfl⟩:=hc;cases hcls
 ·split at hc<;>(try cases hc;done);split at hc<;>(try cases hc;done);simp only[Ab,Ad,Ac]at hc;obtain⟨i,_,sa,_,sb,_,_,rfl⟩:=hc;cases hcls
 ·split at hc<;>(try cases hc;done);rcases EA hc with⟨l,hl,rfl⟩|⟨_,_,_,_,_,_,_,rfl⟩<;>cases hcls
 ·simp only[Aa]at hc;obtain⟨l,hl,rfl⟩:=hc;cases hcls
theorem Aae(h:Ctx P G w M B z ob fr a)(hrd:∀id,rd id=.none∨rd id=ob id){x:Operand}{sx:SO}(hx:An x=some sx){sv:SV}(hv:Am rd (so G fr) (.mentry sx)=some sv):
  ∃v,(Instr.entry (a.eval x)).run P w=.ok v w∧Ar w M z ob sv v:=by
 have hr:=h.opd hx;simp only[Am]at hv;generalize so G fr sx=q at hr hv;split at hv<;>(try cases hv;done);rename_i id;split at hv<;>(try cases hv;done);rename_i ks vs p ho;cases hv;obtain⟨hlive,e1⟩:=hr
 have hob:ob id=.miter ks vs (some p):=by
  rcases hrd id with e|e
  ·rw[e]at ho;cases ho
  ·rw[e]at ho;exact ho
 have hro:=h.ob id;rw[hob]at hro;obtain⟨r,mo,since,seen,e2,hh,hm⟩:=hro;rcases hm with⟨_,_,_,hc⟩|⟨m,ens,rem,e3,e4,e5,e6,e7,e8,e9,e10⟩
 ·cases hc
 ·obtain⟨s0,en,g1,g2,g3,g4⟩:=e10 p rfl;subst g1;subst e3;refine⟨.tuple #[en.key,en.val], ?_, ?_⟩
  ·rw[e1,e2];exact run_entry_at w r m since s0 ⟨ens⟩ since en hh e5 g2 e6.2.2
  ·show RelC _ _ (.tup _) _;unfold RelC;exact⟨[en.key,en.val],rfl,RelL.cons g3 (RelL.cons g4 RelL.nil)⟩
theorem Aai(h:Ctx P G w M B z ob fr a)(hrd:∀id,rd id=.none∨rd id=ob id){o:Oper}{sop:SOp}(hc:BC P o=some sop)(hcls:sop.cls=.val){sv:SV}(hv:Am rd (so G fr) sop=some sv):
  Yes P w M z ob a o sv:=by
 unfold BC at hc;split at hc<;>rename_i ho<;>(try cases hc;done)
 ·
  simp only[Aa]at hc;obtain⟨sx,hx,rfl⟩:=hc;simp only[Am,Ac]at hv;subst hv;exact⟨_,by simp[execOp,ho],h.opd hx⟩
 ·
  simp only[Aa]at hc;obtain⟨sx,hx,rfl⟩:=hc;simp only[Am,Ac]at hv;subst hv;exact⟨_,by simp[execOp,ho],h.opd hx⟩
 ·
  rename_i c x y;simp only[Ab,Aa]at hc;obtain⟨sc,hsc,sx,hsx,sy,hsy,rfl⟩:=hc;have hr:=h.opd hsc;have hr1:=h.opd hsx;have hr2:=h.opd hsy;simp only[Am]at hv;generalize so G fr sc=q at hr hv;split at hv
  ·rename_i t;simp only[Ac]at hv;subst hv;have e:=Dp (w:=w) (M:=M) hr;refine⟨if t then a.eval x else a.eval y,by simp[execOp,ho,e,asBool], ?_⟩;cases t
   ·exact hr2
   ·exact hr1
  ·cases hv
 ·split at hc<;>(simp only[Ab,Aa]at hc;obtain⟨_,_,_,_,_,_,rfl⟩:=hc;cases hcls)
 ·simp only[Aa]at hc;obtain⟨_,_,rfl⟩:=hc;cases hcls
 ·
  simp only[Ab,Aa]at hc;obtain⟨i,hi,vz,hz,zc,hzc,ps,hps,rfl⟩:=hc;exact C9 (by simp only[execOp,ho]) (ZQ h hi hz hzc hps hv)
 ·
  split at hc<;>(try cases hc;done);simp only[Ab,Ad,Ac]at hc;obtain⟨_,_,_,_,_,_,_,_,_,rfl⟩:=hc;cases hcls
 ·
  simp only[Ab,Aa]at hc;obtain⟨s,hs,sx,hx,rfl⟩:=hc;exact C9 (by simp only[execOp,ho]) (TU h hrd hs hx hv)
 ·simp only[Ab,Aa]at hc;obtain⟨_,_,_,_,_,_,rfl⟩:=hc;cases hcls
 ·exact C9 (by simp only[execOp,ho]) (U9 h hc hv)
 ·simp only[Aa]at hc;obtain⟨sx,hx,rfl⟩:=hc;exact C9 (by simp only[execOp,ho]) (Aak h hx hv)
 ·exact C9 (by simp only[execOp,ho]) (ZT h hrd hc hcls hv)
 ·
  simp only[Aa]at hc;obtain⟨sx,hx,rfl⟩:=hc;obtain⟨ad,e,hr⟩:=TW h hx hv;exact⟨_,by simp only[execOp,ho,e];rfl,hr⟩
 ·
  rename_i f first captured
  split at hc<;>(try cases hc;done)
  ·rename_i hf;simp only[Ad,Aa]at hc;obtain⟨hb,l,hl,rfl⟩:=hc;have hf':first= #[]:=Array.toList_inj.1 (by simpa using hf)
   exact⟨_,by simp[execOp,ho,Instr.makeFunc,hf'],ZZ h (I9 hb) hl hv⟩
  ·rename_i x hf hcap;simp only[Ad,Aa]at hc;obtain⟨hb,l,hl,rfl⟩:=hc;have hf':first= #[x]:=Array.toList_inj.1 (by simpa using hf)
   have hc':captured= #[]:=Array.toList_inj.1 (by simpa using hcap);exact⟨_,by simp[execOp,ho,Instr.makeFunc,hf',hc'],Aaa h hl hv⟩
 ·simp only[Aa]at hc;obtain⟨_,_,rfl⟩:=hc;cases hcls
 ·
  split at hc<;>(try cases hc;done);simp only[Ab,Ad,Ac]at hc;obtain⟨_,_,_,_,_,_,_,_,_,_,_,rfl⟩:=hc;cases hcls
 ·
  split at hc<;>(try cases hc;done);rename_i e hu;simp only[Ab,Aa]at hc;obtain⟨i,hi,sx,hx,sl,hl,sh,hh,sm,hm,rfl⟩:=hc;exact C9 (by simp only[execOp,ho,Option.map_some]) (Aah h hu hi hx hl hh hm hv)
 ·
  split at hc<;>(try cases hc;done)
  ·rename_i hu;simp only[Ab,Aa]at hc;obtain⟨sx,hx,sl,hl,sh,hh,rfl⟩:=hc;exact C9 (by simp only[execOp,ho,Option.map_none]) (Aaj h hu hx hl hh hv)
  ·rename_i e hu;simp only[Ab,Aa]at hc;obtain⟨i,hi,sx,hx,sl,hl,sh,hh,rfl⟩:=hc;exact C9 (by simp only[execOp,ho,Option.map_none]) (Aag h hu hi hx hl hh hv)
  ·rename_i n e hu;split at hc<;>(try cases hc;done);simp only[Ab,Ad,Aa]at hc;obtain⟨i,hi,h1,sx,hx,rfl⟩:=hc;exact C9 (by simp only[execOp,ho,Option.map_none]) (ZO h hu hi h1 hx hv)
 ·
  split at hc<;>(try cases hc;done)
  ·rename_i hem;simp only[Aa]at hc;obtain⟨sx,hx,rfl⟩:=hc;exact C9 (by simp only[execOp,ho]) (ZU h hem hx hv)
  ·rename_i fs _ hu;simp only[Ab,Option.ite_none_left_eq_some,Aa]at hc;obtain⟨fd,hf,i,hi,h0,sx,hx,rfl⟩:=hc;exact C9 (by simp only[execOp,ho]) (ZX h hrd hu hf hi h0 hx hv)
 ·
  split at hc<;>(try cases hc;done);rename_i fs hu;simp only[Ab,Aa]at hc;obtain⟨fd,hf,s,hs,sx,hx,rfl⟩:=hc;exact C9 (by simp only[execOp,ho]) (ZY h hu hf hs hx hv)
 ·
  split at hc<;>(try cases hc;done)
  ·rename_i e hu;simp only[Ab,Option.ite_none_left_eq_some,Aa]at hc;obtain⟨i,hi,h0,sx,hx,si,hix,rfl⟩:=hc;exact C9 (by simp only[execOp,ho]) (Aab h hrd hu hi hx hix hv)
  ·rename_i n e hu;simp only[Ab,Option.ite_none_left_eq_some,Aa]at hc;obtain⟨i,hi,h0,sx,hx,si,hix,rfl⟩:=hc;exact C9 (by simp only[execOp,ho]) (ZM h hu hi hx hix hv)
 ·
  split at hc<;>(try cases hc;done)
  ·rename_i hu;simp only[Ab,Aa]at hc;obtain⟨sx,hx,si,hix,rfl⟩:=hc;exact C9 (by simp only[execOp,ho]) (Aaf h hu hx hix hv)
  ·rename_i n e hu;simp only[Ab,Aa]at hc;obtain⟨i,hi,s,hs,sx,hx,si,hix,rfl⟩:=hc;exact C9 (by simp only[execOp,ho]) (ZN h hu hi hs hx hix hv)
 ·
  simp only[Ab,Aa,Prod.exists]at hc;obtain⟨kt,zc,hmt,sx,hx,sk,hk,rfl⟩:=hc;simp only[Am,Aa]at hv;obtain⟨c,hc',rfl⟩:=hv;obtain⟨v,g1,g2⟩:=Aad h hrd hmt hx hk _ hc';exact C9 (by simp only[execOp,ho]) ⟨v,g1,g2⟩
 ·split at hc<;>(try cases hc;done);simp only[Ab,Aa]at hc;obtain⟨_,_,_,_,_,_,rfl⟩:=hc;cases hcls
 ·split at hc<;>(try cases hc;done);simp only[Ab,Aa]at hc;obtain⟨_,_,_,_,_,_,rfl⟩:=hc;cases hcls
 ·split at hc<;>(try cases hc;done);simp only[Ab,Aa]at hc;obtain⟨_,_,_,_,rfl⟩:=hc;cases hcls
 ·simp only[Ab,Aa]at hc;obtain⟨_,_,_,_,_,_,rfl⟩:=hc;cases hcls
 ·split at hc<;>(try cases hc;done);all_goals(simp only[Aa]at hc;obtain⟨_,_,rfl⟩:=hc;cases hcls)
 ·simp only[Aa]at hc;obtain⟨_,_,rfl⟩:=hc;cases hcls
 ·simp only[Aa]at hc;obtain⟨sx,hx,rfl⟩:=hc;exact C9 (by simp only[execOp,ho]) (Aae h hrd hx hv)
 ·simp only[Aa]at hc;obtain⟨sx,hx,rfl⟩:=hc;exact C9 (by simp only[execOp,ho]) (ZW h hx hv)
 ·obtain⟨v,g1,g2⟩:=ZR (ty:=o.type) h hrd hc hcls hv;exact⟨v,by simp only[execOp,ho];exact g1,g2⟩
end
section
variable {P:Program} {G:Nat→List CV} {w0:WL} {M0:MM} {n:Nat} {st:St} {a:Act} {w w':World} {z:Cz}
theorem SR.low(h:SR P G w0 M0 n st a w z){id g:Nat}(hl:st.ob id≠ .none)(hb:blk (z.σ id)=some g)(hlt:g<w0.heap.size):w0.L id g:=by
 rcases(h.lo id g hl hb).1 with h1|h1
 ·omega
 ·exact h1
theorem SR.out(h:SR P G w0 M0 n st a w z){id g:Nat}(hl:st.ob id≠ .none)(hb:blk (z.σ id)=some g)(hT:¬w0.le.I id):¬M0 g:=fun hm=>hT (h.nam.lent _ _ (h.low hl hb (h.outer g hm))).2
theorem SR.globW(h:SR P G w0 M0 n st a w z):GOk G w (Ao M0 z st.ob):=
 h.glob.keep h.below.size (fun g hg hm=>h.below.block g hg fun id hL=>hm (h.nam.lent id g hL).1) fun g hlt hm=>by
  rcases hm with hm|⟨id,hl,hb⟩
  ·exact hm
  ·exact(h.nam.lent id g (h.low hl hb hlt)).1
theorem SR.ctx(h:SR P G w0 M0 n st a w z):Ctx P G w (Ao M0 z st.ob) 0 z st.ob st.fr a where
 fr:=h.fr
 ob:=h.ob
 glob:=fun i hi=>((h.globW) i hi).1
 told:=h.nam.told
theorem Nw{M:MM}(hb:Below w.heap.size w w'):Br w M w' M:=⟨hb.size,fun g hg _=>hb.block g hg,fun _ _ h=>h,rfl⟩
theorem SR.grow(h:SR P G w0 M0 n st a w z)(hb:Below w.heap.size w w'):SR P G w0 M0 n st a w' z:=by
 have hk:=Nw (M:=Ao M0 z st.ob) hb;have hz:∀s:SV,E8 st.ob z st.ob z s:=fun s=>⟨fun _ _ hh=>hh,fun _ _ _=>rfl,fun _ _ _ _ _ hh=>hh⟩;refine⟨h.size,h.defers,h.below.trans (hb.mono h.below.size),h.outer,h.nam,h.glob,fun i=>Ar.keep hk (hz _) (h.fr i),fun id=> ?_,fun id g h1 h2=> ?_,h.apart⟩
 ·by_cases hl:st.ob id=.none
  ·rw[hl];trivial
  ·exact Bf.keep hk (fun g hg=>hb.block g (h.lo id g hl hg).2) (fun _ _ _ _=>hz _) (fun _ _ hh=>hh) (h.ob id)
 ·have:=h.lo id g h1 h2;exact⟨this.1,Nat.lt_of_lt_of_le this.2 hb.size⟩
def Cz.new(z:Cz)(d:Nat)(v:Value):Cz:={σ:=upd z.σ d v,β:=fun id=>if id=d then fun _ _=>False else z.β id,al:=z.al}
theorem IH{v:Value}{d:Nat}{o:Ob}(hn:st.ob d=.none)(s:SV):E8 st.ob z (upd st.ob d o) (z.new d v) s where
 live:=fun id _ hl=>by
  have:id≠d:=fun e=>hl (e▸hn);rw[A0 _ _ this];exact hl
 at_:=fun id _ hl=>by
  have:id≠d:=fun e=>hl (e▸hn);simp[Cz.new,upd,this]
 born:=fun id _ hl k b hh=>by
  have:id≠d:=fun e=>hl (e▸hn);simp[Cz.new,this,hh]
theorem KR{v:Value}{d:Nat}{o:Ob}(hn:st.ob d=.none)(hb:Below w.heap.size w w')(hv:∀g,blk v=some g→w.heap.size≤g):
  Br w (Ao M0 z st.ob) w' (Ao M0 (z.new d v) (upd st.ob d o)):=⟨hb.size,fun g hg _=>hb.block g hg,fun g hlt hm=>by
 rcases hm with hm|⟨id,hl,hbk⟩
 ·exact .inl hm
 ·by_cases hid:id=d
  ·subst hid;simp[Cz.new,upd]at hbk;have:=hv g hbk;omega
  ·refine .inr ⟨id, ?_, ?_⟩
   ·rw[A0 _ _ hid]at hl;exact hl
   ·simpa[Cz.new,upd,hid]using hbk,rfl⟩
theorem SR.new(h:SR P G w0 M0 n st a w z){d:Nat}(hd:d<n)(hn:st.ob d=.none){v:Value}{o:Ob}{sv:SV}(hb:Below w.heap.size w w')(hv:∀g,blk v=some g→w.heap.size≤g∧g<w'.heap.size)
  (ho:Bf P w' (Ao M0 (z.new d v) (upd st.ob d o)) 0 (z.new d v) (upd st.ob d o) d v o) (hs:Ar w' (Ao M0 (z.new d v) (upd st.ob d o)) (z.new d v) (upd st.ob d o) sv v):
  SR P G w0 M0 n {fr:=upd st.fr d sv,ob:=upd st.ob d o} (a.put (some d) v) w' (z.new d v):=by
 have hk:=KR (M0:=M0) (z:=z) (o:=o) hn hb (fun g hg=>(hv g hg).1);refine⟨by simpa[Act.put]using h.size,h.defers,h.below.trans (hb.mono h.below.size),h.outer,h.nam.of rfl (fun N cs hN hc=> ?_),h.glob,fun i=> ?_,fun id=> ?_,fun id g h1 h2=> ?_,fun i j g hij h1 h2 h3 h4=> ?_⟩
 ·have hNd:N≠d:=fun e=>by have:=h.nam.low;omega
  simp only[A0 _ _ hNd]at hc;exact⟨cs,_,hc,by simp[Cz.new,upd,hNd]⟩
 ·rw[S1];by_cases hi:i=d
  ·subst hi;rw[if_pos ⟨rfl,by rw[h.size];exact hd⟩];simpa[AZ]using hs
  ·rw[if_neg (fun hh=>hi hh.1)];simp only[A0 _ _ hi];exact Ar.keep hk (IH hn _) (h.fr i)
 ·by_cases hid:id=d
  ·subst hid;simp only[AZ];have:(z.new id v).σ id=v:=by simp[Cz.new,upd]
   rw[this];exact ho
  ·simp only[A0 _ _ hid];have e:(z.new d v).σ id=z.σ id:=by simp[Cz.new,upd,hid]
   rw[e];by_cases hl:st.ob id=.none
   ·rw[hl];trivial
   ·exact Bf.keep hk (fun g hg=>hb.block g (h.lo id g hl hg).2) (fun _ _ _ _=>IH hn _) (fun k b hh=>by simpa[Cz.new,hid]using hh) (h.ob id)
 ·by_cases hid:id=d
  ·subst hid;simp only[Cz.new,AZ]at h2;have:=hv g h2;exact⟨.inl (Nat.le_trans h.below.size this.1),this.2⟩
  ·simp only[A0 _ _ hid]at h1;simp only[Cz.new,A0 _ _ hid]at h2;have:=h.lo id g h1 h2;exact⟨this.1,Nat.lt_of_lt_of_le this.2 hb.size⟩
 ·by_cases hi:i=d
  ·subst hi;have hj:j≠i:=fun e=>hij e.symm;simp only[Cz.new,AZ]at h3;simp only[Cz.new,A0 _ _ hj]at h4;simp only[A0 _ _ hj]at h2;have e1:=(hv g h3).1;have e2:=(h.lo j g h2 h4).2;omega
  ·by_cases hj:j=d
   ·subst hj;simp only[Cz.new,AZ]at h4;simp only[Cz.new,A0 _ _ hi]at h3;simp only[A0 _ _ hi]at h1;have e1:=(hv g h4).1;have e2:=(h.lo i g h1 h3).2;omega
   ·simp only[Cz.new,A0 _ _ hi]at h3;simp only[Cz.new,A0 _ _ hj]at h4;simp only[A0 _ _ hi]at h1;simp only[A0 _ _ hj]at h2;exact h.apart i j g hij h1 h2 h3 h4
end
theorem F0(w:World)(o:Obj):Below w.heap.size w (w.alloc o):=(Below.refl _ _).alloc (Nat.le_refl _) _
theorem Tc{P:Program}(t:TypeId)(v:Value)(w:World):(newVar t v).run P w=.ok ⟨w.heap.size,0,none⟩ (w.alloc (.cells v.cells t)):=by
 simp[newVar,newRow]
theorem O4{P:Program}(t:TypeId)(c:Array Value)(w:World):(newRow t c).run P w=.ok ⟨w.heap.size,0,none⟩ (w.alloc (.cells c t)):=by
 simp[newRow]
theorem EY(w:World)(o:Obj):(w.alloc o).heap[w.heap.size]? =some o:=heap_alloc_new w o
section
variable {P:Program} {G:Nat→List CV} {w0:WL} {M0:MM} {n:Nat} {st:St} {a:Act} {w:World} {z:Cz}
theorem JK{M:MM}{size:Nat}:∀{cs:List CV} {vs:List Value},RelL w M cs vs→(cs.all fun v=>Bq v==size)=true→AW w M size cs (vs.flatMap fun v=>v.cells.toList)
 | [],vs,h,_=>by unfold RelL at h;subst h;rfl
 |c::cs,vs,h,hs=>by
  unfold RelL at h;obtain⟨v,vs',rfl,h1,h2⟩:=h;simp only[List.all_cons,Af,beq_iff_eq]at hs;exact⟨v,_,by simp,by rw[h1.cells_size,hs.1],h1,JK h2 hs.2⟩
theorem X6(zc:Array Value)(n:Nat):(madeCells zc ((n+1)*zc.size)).toList=zc.toList++(madeCells zc (n*zc.size)).toList:=by
 have e:(n+1)*zc.size=zc.size+n*zc.size:=by rw[Nat.add_mul];omega
 rw[e];simp only[madeCells,Array.toList_map,Array.toList_range,List.range_add,List.map_append,List.map_map]
 congr 1
 ·apply List.ext_getElem
  ·simp
  ·intro i h1 h2;simp at h1;simp[Nat.mod_eq_of_lt h1,h1]
 ·apply List.map_congr_left;intro i _;simp
theorem Pw{M:MM}{c:CV}{v:Value}(h:RelC w M c v){size:Nat}(hs:v.cells.size=size):∀n,AW w M size (List.replicate n c) (madeCells v.cells (n*size)).toList
 |0=>by simp[AW,madeCells]
 |n+1=>by
  subst hs;rw[List.replicate_succ,X6];exact⟨v,_,rfl,rfl,h,Pw h rfl n⟩
theorem Z2(zc:Array Value){a b:Nat}(h:a≤b):(madeCells zc b).toList.take a=(madeCells zc a).toList:=by
 simp only[madeCells,Array.toList_map,Array.toList_range,←List.map_take,List.take_range,Nat.min_eq_left h]
theorem Tj(h:SR P G w0 M0 n st a w z):∀{AK:List (Nat×Operand)} {i:Nat} {xs:List SO} {l:List CV},HN i AK=some xs→Aq (fun x=>closed (so G st.fr x)) xs=some l→
  ∃vs:List Value,(AK.map fun p=>(p.1,a.eval p.2))=(List.range' i vs.length).zip vs∧RelL w (Ao M0 z st.ob) l vs
 | [],i,xs,l,h1,h2=>by
  simp only[HN,Ac]at h1;subst h1;simp only[Aq,Ac]at h2;subst h2;exact⟨[],rfl,RelL.nil⟩
 |(j,x)::AK,i,xs,l,h1,h2=>by
  simp only[HN,Ad,Ab,Aa]at h1;obtain⟨rfl,sx,hsx,ss,hss,rfl⟩:=h1;simp only[Aq,Ab,Aa]at h2;obtain⟨c,hc,cs,hcs,rfl⟩:=h2;obtain⟨vs,e1,e2⟩:=Tj h hss hcs
  have hcl:so G st.fr sx=.c c:=by
   cases hh:so G st.fr sx<;>rw[hh]at hc<;>simp[closed]at hc;rw[hc]
  exact⟨a.eval x::vs,by simp[e1,List.range'_succ],RelL.cons (h.ctx.c hsx hcl) e2⟩
theorem QW{size:Nat}:∀(vs:List Value) (k:Nat) (pre rest:List Value),pre.length=k*size→rest.length=vs.length*size→(∀v∈vs,v.cells.size=size)→
  Instr.fill (fun i=>some (i*size,size)) ⟨pre++rest⟩ ((List.range' k vs.length).zip vs)=some ⟨pre++vs.flatMap fun v=>v.cells.toList⟩
 | [],k,pre,rest,_,h2,_=>by
  have:rest= []:=List.eq_nil_of_length_eq_zero (by simpa using h2);subst this;rfl
 |v::vs,k,pre,rest,h1,h2,h3=>by
  have hv:=h3 v (by simp);simp only[List.length_cons,List.range'_succ,List.zip_cons_cons,Instr.fill];rw[if_neg (by simp[hv,h1,h2,Nat.add_mul])]
  have hfold:(v.cells.zipIdx.foldl (fun(cs:Array Value) (p:Value×Nat)=>cs.setIfInBounds (k*size+p.2) p.1) (⟨pre++rest⟩:Array Value))=⟨(pre++v.cells.toList)++rest.drop size⟩:=by
   apply Array.toList_inj.1;rw[←Array.foldl_toList,Array.toList_zipIdx];have:=Nj v.cells.toList ⟨pre++rest⟩ (k*size) 0 (by simp[hv,h1,h2,Nat.add_mul]);rw[this];simp[hv,←h1,List.drop_append]
  have ih:=QW vs (k+1) (pre++v.cells.toList) (rest.drop size) (by simp[h1,hv,Nat.add_mul]) (by simp[h2,Nat.add_mul]) (fun u hu=>h3 u (by simp[hu]));have e:(v.cells.zipIdx.foldl (fun(cs:Array Value) (x:Value×Nat)=>match x with|(c,j)=>cs.setIfInBounds (k*size+j) c) (⟨pre++rest⟩:Array Value))=⟨(pre++v.cells.toList)++rest.drop size⟩:=hfold;rw[e,ih];simp
def Ie(P:Program)(G:Nat→List CV)(w0:WL)(M0:MM)(n:Nat)(st:St)(a:Act)(w:World)(o:Oper)(d:Nat)(sv:SV)(ob:Ob):Prop:=
 ∃v w' z',(execOp a.eval o).run P w=.ok (.value v) w'∧SR P G w0 M0 n {fr:=upd st.fr d sv,ob:=upd st.ob d ob} (a.put (some d) v) w' z'
theorem G5(h:SR P G w0 M0 n st a w z){o:Oper}{d:Nat}(hd:d<n)(hn:st.ob d=.none){sv:SV}{ob:Ob}{s:Sem Value}{v:Value}{w':World}(he:execOp a.eval o=(do pure (.value (←s)):Sem Next))(hr:s.run P w=.ok v w')
  (hb:Below w.heap.size w w') (hv:∀g,blk v=some g→w.heap.size≤g∧g<w'.heap.size)
  (hk:Br w (Ao M0 z st.ob) w' (Ao M0 (z.new d v) (upd st.ob d ob))→(∀s,E8 st.ob z (upd st.ob d ob) (z.new d v) s)→Bf P w' (Ao M0 (z.new d v) (upd st.ob d ob)) 0 (z.new d v) (upd st.ob d ob) d v ob∧Ar w' (Ao M0 (z.new d v) (upd st.ob d ob)) (z.new d v) (upd st.ob d ob) sv v):
  Ie P G w0 M0 n st a w o d sv ob:=by
 have k1:=KR (M0:=M0) (z:=z) (o:=ob) hn hb (fun g hg=>(hv g hg).1);obtain⟨h1,h2⟩:=hk k1 (IH hn);exact⟨v,w',z.new d v,by rw[he];simp[hr],h.new hd hn hb hv h1 h2⟩
theorem EO{d:Nat}{ob:Ob}(h:ob≠ .none):upd st.ob d ob d≠ .none:=by rw[AZ];exact h
theorem CW{d:Nat}{v:Value}:(z.new d v).σ d=v:=by simp[Cz.new,upd]
theorem NI(h:SR P G w0 M0 n st a w z){o:Oper}{d:Nat}(hd:d<n)(hn:st.ob d=.none){cs:List SV}{t:TypeId}{bt:Option TypeId}(hbt:∀T,bt=some T→t=T){vs:List Value}{s:Sem Value}(he:execOp a.eval o=(do pure (.value (←s)):Sem Next))
  (hr:s.run P w=.ok (.pointer (some ⟨w.heap.size,0,none⟩)) (w.alloc (.cells ⟨vs⟩ t))) (hs:Az w (Ao M0 z st.ob) z st.ob cs vs):Ie P G w0 M0 n st a w o d (.ptr d 0) (.box cs bt):=by
 refine G5 h hd hn he hr (F0 _ _) (fun g hg=> ?_) fun hk hz=>⟨⟨w.heap.size,⟨t,hbt⟩,vs,rfl,EY _ _,Az.keep hk (fun s _=>hz s) hs⟩,EO (by simp),w.heap.size,CW,rfl⟩;simp only[blk,Ac]at hg;subst hg;exact⟨Nat.le_refl _,by simp⟩
theorem PN(h:SR P G w0 M0 n st a w z){s:SV}{v:Value}(hs:Ar w (Ao M0 z st.ob) z st.ob s v)(hc:∀cs,s≠ .c (.agg cs))(hu:s≠ .undef):v.cells= #[v]:=by
 have live:∀id,st.ob id≠ .none→(z.σ id).cells= #[z.σ id]:=by
  intro id hl;have ho:=h.ob id
  cases hob:st.ob id with
  |none=>exact absurd hob hl
  |box cs=>rw[hob]at ho;obtain⟨g,ty,vs,e,_⟩:=ho;rw[e];rfl
  |arr e size es=>
   rw[hob]at ho;obtain⟨xs,hown,_⟩:=ho;rcases hown.2 with⟨e,_⟩|⟨g,cap,cur,_,_,e,_⟩<;>rw[e]<;>rfl
  |map mt kt zc ks vs=>rw[hob]at ho;obtain⟨_,_,_,r,ens,clk,_,e,_⟩:=ho;rw[e];rfl
  |siter s pos=>rw[hob]at ho;obtain⟨r,e,_⟩:=ho;rw[e];rfl
  |miter ks vs cur=>rw[hob]at ho;obtain⟨r,mo,si,se,e,_⟩:=ho;rw[e];rfl
  |buf e s=>
   rw[hob]at ho;rcases ho.2 with⟨e,_⟩|⟨g,cap,cur,fz,e,_⟩<;>rw[e]<;>rfl
 cases s with
 |c cv=>exact NY hs (fun cs e=>hc cs (by rw[e]))
 |ptr id o=>obtain⟨_,g,_,e⟩:=hs;rw[e];rfl
 |eptr id i sz o=>obtain⟨_,g,n,c,_,e⟩:=hs;rw[e];rfl
 |osl id=>obtain⟨hl,e⟩:=hs;rw[e];exact live id hl
 |omap id=>obtain⟨hl,e⟩:=hs;rw[e];exact live id hl
 |iter id=>obtain⟨hl,e⟩:=hs;rw[e];exact live id hl
 |stamp id k=>obtain⟨_,b,_,e⟩:=hs;rw[e];rfl
 |ent id k cv=>obtain⟨_,b,u,_,e,_⟩:=hs;rw[e];rfl
 |undef=>exact absurd rfl hu
theorem Gn{op:BinOp}{t:TypeId}{x y:Operand}{sop:SOp}(hc:JZ P op t x y=some sop):sop.cls=.val:=by
 unfold JZ at hc;split at hc
 all_goals
  split at hc<;>first
   |(cases hc;done)
   |(simp only[Ab,Aa]at hc;obtain⟨_,_,_,_,rfl⟩:=hc;rfl)
   |(split at hc<;>first
    |(cases hc;done)
    |(simp only[Ab,Aa]at hc;obtain⟨_,_,_,_,_,_,rfl⟩:=hc;rfl))
theorem Hg{src dst:TypeId}{x:Operand}{sop:SOp}(hc:F7 P src dst x=some sop):sop.cls=.val∨sop.cls=.grow:=by
 unfold F7 at hc
 split at hc<;>first
  |(cases hc;done)
  |(simp only[Aa]at hc;obtain⟨_,_,rfl⟩:=hc;exact .inl rfl)
  |(split at hc<;>first
   |(cases hc;done)
   |(simp only[Aa]at hc;obtain⟨_,_,rfl⟩:=hc;first|exact .inl rfl|exact .inr rfl))
theorem Vv{c:Call}{sop:SOp}(hc:DX P c=some sop):sop.cls≠ .new:=by
 unfold DX at hc;split at hc<;>(try cases hc;done)
 ·split at hc<;>first
   |(cases hc;done)
   |(simp only[Aa]at hc;obtain⟨_,_,rfl⟩:=hc;intro hh;cases hh)
   |(simp only[Ac]at hc;subst hc;intro hh;cases hh)
 ·simp only[Aa]at hc;obtain⟨_,_,rfl⟩:=hc;intro hh;cases hh
 ·simp only[Aa]at hc;obtain⟨_,_,rfl⟩:=hc;intro hh;cases hh
 ·split at hc<;>(try cases hc;done);split at hc<;>(try cases hc;done);simp only[Ab,Ad,Ac]at hc;obtain⟨i,_,zv,_,sa,_,sb,_,_,rfl⟩:=hc;intro hh;cases hh
 ·split at hc<;>(try cases hc;done);split at hc<;>(try cases hc;done);simp only[Ab,Ad,Ac]at hc;obtain⟨i,_,sa,_,sb,_,_,rfl⟩:=hc;intro hh;cases hh
 ·split at hc<;>(try cases hc;done);rcases EA hc with⟨l,hl,rfl⟩|⟨_,_,_,_,_,_,_,rfl⟩<;>(intro hh;cases hh)
 ·simp only[Aa]at hc;obtain⟨_,_,rfl⟩:=hc;intro hh;cases hh
theorem RM(h:SR P G w0 M0 n st a w z){t e:TypeId}{len:Nat}{AK:Array (Nat×Operand)}{i:TypeInfo}{vz:Value}{zc:CV}{xs:List SO}{l:List CV}(hu:P.underlying t=some (.slice e))(hi:P.info? e=some i)(hz:i.zero=some vz)(hzc:Cp vz=some zc)
  (hxs:HN 0 AK.toList=some xs) (hlen:xs.length=len) (h0:0<i.size) (hsz:Bq zc=i.size) (hle:len*i.size≤16777216) (hl:Aq (fun x=>closed (so G st.fr x)) xs=some l) (hall:(l.all fun v=>Bq v==i.size)=true):
  ∃vs:List Value,RelL w (Ao M0 z st.ob) l vs∧vs.length=len∧(Instr.buildSlice t len (AK.map fun(i,x)=>(i,a.eval x))).run P w=.ok (.slice (some ⟨w.heap.size,0,none⟩) len len) (w.alloc (.cells ⟨vs.flatMap fun v=>v.cells.toList⟩ e)):=by
 obtain⟨vs,e1,hrl⟩:=Tj h hxs hl;have hvz:vz.cells.size=i.size:=by rw[(ED w ⟨fun _=>False,fun _=>0⟩ vz zc hzc).cells_size,hsz]
 have hvl:vs.length=len:=by rw[hrl.length,DB hl,hlen]
 have hvs:∀v∈vs,v.cells.size=i.size:=by
  intro v hvm;obtain⟨j,hj,hjv⟩:=List.getElem_of_mem hvm;have hjc:l[j]? =some (l[j]'(by rw[←hrl.length];exact hj)):=Ai _;obtain⟨v',g1,g2⟩:=hrl.get hjc;have:v'=v:=by rw[Ai hj]at g1;simpa[hjv]using g1.symm
  subst this;rw[g2.cells_size];have:=List.all_eq_true.1 hall _ (List.mem_of_getElem? hjc);simpa using this
 have hfill:=QW (size:=i.size) vs 0 [] (madeCells vz.cells (len*i.size)).toList (by simp) (by simp[size_madeCells,hvl]) hvs
 have run:(Instr.buildSlice t len (AK.map fun(i,x)=>(i,a.eval x))).run P w=.ok (.slice (some ⟨w.heap.size,0,none⟩) len len) (w.alloc (.cells ⟨vs.flatMap fun v=>v.cells.toList⟩ e)):=by
  have hp:(AK.map fun(p:Nat×Operand)=>(p.1,a.eval p.2)).toList=(List.range' 0 vs.length).zip vs:=by rw[Array.toList_map];exact e1
  have hz0:(madeCells vz.cells (len*i.size))=(Array.range (len*i.size)).map (vz.cells[· % vz.cells.size]!):=rfl;have hn24:¬(16777216<len*i.size):=by omega
  by_cases hnil:len*i.size=0
  ·have hl0:len=0:=by
    rcases Nat.eq_zero_or_pos len with h'|h'
    ·exact h'
    ·have:=Nat.mul_pos h' h0;omega
   have hvn:vs= []:=List.eq_nil_of_length_eq_zero (by omega);subst hvn;subst hl0
   have hpn:AK= #[]:=by
    have:AK.toList= []:=by simpa using e1
    exact Array.toList_inj.1 (by simpa using this)
   subst hpn;simp[Instr.buildSlice,run_underlying hu,CX hi,Instr.fill,O4]
   congr 2
   apply Array.toList_inj.1;simp
  ·have hf:Instr.fill (fun i_1=>some (i_1*i.size,i.size)) ((Array.range (len*i.size)).map (vz.cells[· % vz.cells.size]!)) (AK.map fun(p:Nat×Operand)=>(p.1,a.eval p.2)).toList=some ⟨vs.flatMap fun v=>v.cells.toList⟩:=by
    rw[hp,←hz0];simpa using hfill
   simp only[Instr.buildSlice,Sem.run_bind,run_underlying hu,Result.andThen_ok,CX hi];rw[show(2:Nat)^24=16777216 from rfl,if_neg (by omega)];simp only[Sem.run_bind,Sem.run_pure,Result.andThen_ok,if_neg hnil,Jt hi hz,hf,O4]
 exact⟨vs,hrl,hvl,run⟩
theorem XE(h:SR P G w0 M0 n st a w z){o:Oper}{sop:SOp}(hc:BC P o=some sop)(hcls:sop.cls=.new){d:Nat}{sv:SV}{ob:Ob}(hv:Bw (so G st.fr) d sop=some (sv,ob))(hd:d<n)(hn:st.ob d=.none):
  Ie P G w0 M0 n st a w o d sv ob:=by
 unfold BC at hc;split at hc<;>rename_i ho<;>(try cases hc;done)
 ·simp only[Aa]at hc;obtain⟨_,_,rfl⟩:=hc;cases hcls
 ·simp only[Aa]at hc;obtain⟨_,_,rfl⟩:=hc;cases hcls
 ·simp only[Ab,Aa]at hc;obtain⟨_,_,_,_,_,_,rfl⟩:=hc;cases hcls
 ·
  rename_i t
  split at hc<;>(
  simp only[Ab,Aa]at hc;obtain⟨i,hi,vz,hz,zc,hzc,rfl⟩:=hc;simp only[Bw,Ac,Prod.mk.injEq]at hv;obtain⟨rfl,rfl⟩:=hv;refine NI h hd hn (by intro T hT;first|(cases hT;rfl)|cases hT) (t:=t) (vs:=vz.cells.toList) (s:=Instr.alloc t true (.tuple #[])) (by simp only[execOp,ho]) ?_ (Az.of_c (RelC.cells (ED _ _ vz zc hzc)))
  simp[Instr.alloc,Jt hi hz,Tc])
 ·
  rename_i t x;simp only[Aa]at hc;obtain⟨sx,hx,rfl⟩:=hc;have hr:=h.ctx.opd hx;simp only[Bw]at hv
  have run:(Instr.box t (a.eval x)).run P w=.ok (.pointer (some ⟨w.heap.size,0,none⟩)) (w.alloc (.cells ⟨(a.eval x).cells.toList⟩ t)):=by
   simp[Instr.box,Tc]
  generalize so G st.fr sx=q at hr hv;split at hv
  ·rename_i cs;simp only[Ac,Prod.mk.injEq]at hv;obtain⟨rfl,rfl⟩:=hv;exact NI h hd hn (by intro T hT;cases hT) (by simp only[execOp,ho]) run (Az.of_c (RelC.cells hr))
  ·cases hv
  ·rename_i hne hnu;simp only[Ac,Prod.mk.injEq]at hv;obtain⟨rfl,rfl⟩:=hv;have hcell:=PN h hr hne hnu;rw[hcell]at run;exact NI h hd hn (by intro T hT;cases hT) (by simp only[execOp,ho]) run ⟨a.eval x,[],rfl,hr,rfl⟩
 ·simp only[Ab,Aa]at hc;obtain⟨_,_,_,_,_,_,_,_,rfl⟩:=hc;cases hcls
 ·
  rename_i t len AK;split at hc<;>(try cases hc;done);rename_i e hu;simp only[Ab,Ad,Ac]at hc;obtain⟨i,hi,vz,hz,zc,hzc,xs,hxs,⟨hlen,h0,hsz,hle⟩,rfl⟩:=hc;simp only[Bw,Ab,Ad,Ac,Prod.mk.injEq]at hv;obtain⟨l,hl,hall,rfl,rfl⟩:=hv;obtain⟨vs,hrl,hvl,run⟩:=RM h hu hi hz hzc hxs hlen h0 hsz hle hl hall
  have hxl:(vs.flatMap fun v=>v.cells.toList).length=len*i.size:=by
   have:=Ge (JK hrl hall);rw[this,←hvl,hrl.length]
  refine G5 h hd hn (by simp only[execOp,ho]) run (F0 _ _) (fun g hg=> ?_) fun hk hz'=>⟨⟨vs.flatMap fun v=>v.cells.toList,Ds.of ⟨?_,.inr ⟨w.heap.size,len,⟨vs.flatMap fun v=>v.cells.toList⟩, ?_,Nat.zero_le _,EY _ _, ?_, ?_,by simp[hxl], ?_⟩⟩,AW.keep hk (JK hrl hall)⟩,EO (by simp),CW.symm⟩
  ·simp only[blk,Ac]at hg;subst hg;exact⟨Nat.le_refl _,by simp⟩
  ·rw[hxl,←hvl,hrl.length]
  ·rw[←hvl,hrl.length]
  ·rw[←hvl,hrl.length];exact Nat.le_refl _
  ·have hm:len≤len*i.size:=Nat.le_mul_of_pos_right _ h0;unfold maxLen;omega
  ·rw[←hrl.length,hvl];rw[List.take_of_length_le (by simp[hxl])]
 ·simp only[Ab,Aa]at hc;obtain⟨_,_,_,_,rfl⟩:=hc;cases hcls
 ·simp only[Ab,Aa]at hc;obtain⟨_,_,_,_,_,_,rfl⟩:=hc;cases hcls
 ·have:=Gn hc;rw[hcls]at this;cases this
 ·simp only[Aa]at hc;obtain⟨_,_,rfl⟩:=hc;cases hcls
 ·have:=Hg hc;rw[hcls]at this;rcases this with h'|h'<;>cases h'
 ·simp only[Aa]at hc;obtain⟨_,_,rfl⟩:=hc;cases hcls
 ·split at hc<;>(try cases hc;done);all_goals(simp only[Ad,Aa]at hc;obtain⟨_,_,_,rfl⟩:=hc;cases hcls)
 ·
  rename_i t;simp only[Aa,Prod.exists]at hc;obtain⟨kt,zc,hmt,rfl⟩:=hc;simp only[Bw,Ac,Prod.mk.injEq]at hv;obtain⟨rfl,rfl⟩:=hv
  refine G5 h hd hn (s:=Instr.makeMap t none) (v:=.map (some w.heap.size)) (w':=w.alloc (.map #[] 0)) (by simp only[execOp,ho,Option.map_none]) (by simp[Instr.makeMap]) (F0 _ _) (fun g hg=> ?_)
   fun hk hz=>⟨⟨hmt,[],[],w.heap.size,[],0,MP.refl rfl,rfl,EY _ _,RelL.nil,RelL.nil,(fun _ hh=>by cases hh),List.nodup_nil,(fun _ hh=>by cases hh),List.nodup_nil,fun k b hh=>by simp[Cz.new]at hh⟩,EO (by simp),CW.symm⟩
  simp only[blk,Ac]at hg;subst hg;exact⟨Nat.le_refl _,by simp⟩
 ·
  rename_i t x y;split at hc<;>(try cases hc;done);rename_i e hu;simp only[Ab,Ad,Ac]at hc;obtain⟨i,hi,vz,hz,zc,hzc,sx,hx,sy,hy,⟨h0,hsz⟩,rfl⟩:=hc;have hr:=h.ctx.opd hx;have hr2:=h.ctx.opd hy;simp only[Bw]at hv;generalize so G st.fr sx=q at hr hv;generalize so G st.fr sy=q2 at hr2 hv;split at hv<;>(try cases hv;done);rename_i k1 l k2 m;simp only[Ad,Ac,Prod.mk.injEq]at hv;obtain⟨⟨g1,g2,g3,g4⟩,rfl,rfl⟩:=hv;have e1:=BR (w:=w) (M:=Ao M0 z st.ob) hr;have e2:=BR (w:=w) (M:=Ao M0 z st.ob) hr2;have hvz:vz.cells.size=i.size:=by rw[(ED w ⟨fun _=>False,fun _=>0⟩ vz zc hzc).cells_size,hsz]
  have hbytes:(i.bytes:Int)*m≤281474976710656:=by rw[Int.mul_comm];omega
  have run:=run_make (P:=P) w t e i vz hu hi hz k1 k2 l m g1 g2 hbytes (by omega)
  refine G5 h hd hn (s:=Instr.makeSlice t (a.eval x) (a.eval y)) (by simp only[execOp,ho]) (by rw[e1,e2];exact run) (F0 _ _) (fun g hg=> ?_)
   fun hk hz'=>⟨⟨(madeCells vz.cells (l.toNat*i.size)).toList,Ds.of ⟨?_,.inr ⟨w.heap.size,m.toNat,madeCells vz.cells (m.toNat*i.size), ?_,Nat.zero_le _,EY _ _, ?_, ?_,size_madeCells _ _, ?_⟩⟩,Pw (ED _ _ vz zc hzc) hvz _⟩,EO (by simp),CW.symm⟩
  ·simp only[blk,Ac]at hg;subst hg;exact⟨Nat.le_refl _,by simp⟩
  ·simp[size_madeCells]
  ·simp
  ·simp;omega
  ·unfold maxLen;omega
  ·rw[List.length_replicate];exact Z2 _ (Nat.mul_le_mul_right _ (by omega))
 ·split at hc<;>(try cases hc;done);simp only[Ab,Aa]at hc;obtain⟨_,_,_,_,_,_,_,_,_,_,rfl⟩:=hc;cases hcls
 ·split at hc<;>(try cases hc;done)
  ·simp only[Ab,Aa]at hc;obtain⟨_,_,_,_,_,_,rfl⟩:=hc;cases hcls
  ·simp only[Ab,Aa]at hc;obtain⟨_,_,_,_,_,_,_,_,rfl⟩:=hc;cases hcls
  ·split at hc<;>(try cases hc;done);simp only[Ab,Ad,Aa]at hc;obtain⟨_,_,_,_,_,rfl⟩:=hc;cases hcls
 ·split at hc<;>(try cases hc;done)
  ·simp only[Aa]at hc;obtain⟨_,_,rfl⟩:=hc;cases hcls
  ·simp only[Ab,Option.ite_none_left_eq_some,Aa]at hc;obtain⟨_,_,_,_,_,_,_,rfl⟩:=hc;cases hcls
 ·split at hc<;>(try cases hc;done);simp only[Ab,Aa]at hc;obtain⟨_,_,_,_,_,_,rfl⟩:=hc;cases hcls
 ·split at hc<;>(try cases hc;done)
  ·simp only[Ab,Option.ite_none_left_eq_some,Aa]at hc;obtain⟨_,_,_,_,_,_,_,rfl⟩:=hc;cases hcls
  ·simp only[Ab,Option.ite_none_left_eq_some,Aa]at hc;obtain⟨_,_,_,_,_,_,_,rfl⟩:=hc;cases hcls
 ·split at hc<;>(try cases hc;done)
  ·simp only[Ab,Aa]at hc;obtain⟨_,_,_,_,rfl⟩:=hc;cases hcls
  ·simp only[Ab,Aa]at hc;obtain⟨_,_,_,_,_,_,_,_,rfl⟩:=hc;cases hcls
 ·simp only[Ab,Aa]at hc;obtain⟨_,_,_,_,_,_,rfl⟩:=hc;cases hcls
 ·split at hc<;>(try cases hc;done);simp only[Ab,Aa]at hc;obtain⟨_,_,_,_,_,_,rfl⟩:=hc;cases hcls
 ·split at hc<;>(try cases hc;done);simp only[Ab,Aa]at hc;obtain⟨_,_,_,_,_,_,rfl⟩:=hc;cases hcls
 ·split at hc<;>(try cases hc;done);simp only[Ab,Aa]at hc;obtain⟨_,_,_,_,rfl⟩:=hc;cases hcls
 ·simp only[Ab,Aa]at hc;obtain⟨_,_,_,_,_,_,rfl⟩:=hc;cases hcls
 ·
  rename_i t x;split at hc<;>(try cases hc;done)
  ·rename_i hu;simp only[Aa]at hc;obtain⟨sx,hx,rfl⟩:=hc;have hr:=h.ctx.opd hx;simp only[Bw]at hv;generalize so G st.fr sx=q at hr hv;split at hv<;>(try cases hv;done);rename_i s;simp only[Ac,Prod.mk.injEq]at hv;obtain⟨rfl,rfl⟩:=hv;have e1:=CH (w:=w) (M:=Ao M0 z st.ob) hr
   refine G5 h hd hn (s:=Instr.range t (a.eval x)) (v:=.pointer (some ⟨w.heap.size,0,none⟩)) (w':=w.alloc (.stringIter ⟨⟨s⟩⟩ 0)) (by simp only[execOp,ho]) (by rw[e1];simp[Instr.range,run_underlying hu]) (F0 _ _) (fun g hg=> ?_)
    fun hk hz=>⟨⟨w.heap.size,rfl,EY _ _⟩,EO (by simp),CW.symm⟩
   simp only[blk,Ac]at hg;subst hg;exact⟨Nat.le_refl _,by simp⟩
  ·rename_i kt et hu;simp only[Aa]at hc;obtain⟨sx,hx,rfl⟩:=hc;have hr:=h.ctx.opd hx;simp only[Bw]at hv;generalize so G st.fr sx=q at hr hv;split at hv<;>(try cases hv;done);rename_i nl ks vs;simp only[Ac,Prod.mk.injEq]at hv;obtain⟨rfl,rfl⟩:=hv;unfold Ar RelC at hr;obtain⟨mr,e1,_,_,hn0,hb⟩:=hr
   have mk:∀(mo:Option Nat) (since:Nat),(Instr.range t (a.eval x)).run P w=.ok (.pointer (some ⟨w.heap.size,0,none⟩)) (w.alloc (.mapIter mo since #[] since))→MIt w (Ao M0 z st.ob) mo since #[] ks vs none→Ie P G w0 M0 n st a w o d (.iter d) (.miter ks vs none):=by
    intro mo since hrun hm
    refine G5 h hd hn (s:=Instr.range t (a.eval x)) (by simp only[execOp,ho]) hrun (F0 _ _) (fun g hg=> ?_)
     fun hk hz=>⟨⟨w.heap.size,mo,since, #[],rfl,EY _ _,hm.keep hk⟩,EO (by simp),CW.symm⟩
    simp only[blk,Ac]at hg;subst hg;exact⟨Nat.le_refl _,by simp⟩
   cases mr with
   |none=>
    obtain⟨hk0,hv0⟩:=hn0 rfl;exact mk none 0 (by rw[e1];simp[Instr.range,run_underlying hu]) (.inl ⟨rfl,hk0,hv0,rfl⟩)
   |some b=>
    obtain⟨hm,ens,ens',clk,hh,hE,hp,hk,hv⟩:=hb b rfl;refine mk (some b) clk ?_ (.inr ⟨b,ens,ens',rfl,hm,hh,hE,by rw[List.filter_eq_self.2 (by simp)];exact hp,hk,hv,fun p hp=>by cases hp⟩);rw[e1];simp[Instr.range,run_underlying hu,getObj,Sem.run,hh,Result.andThen]
 ·simp only[Aa]at hc;obtain⟨_,_,rfl⟩:=hc;cases hcls
 ·simp only[Aa]at hc;obtain⟨_,_,rfl⟩:=hc;cases hcls
 ·simp only[Aa]at hc;obtain⟨_,_,rfl⟩:=hc;cases hcls
 ·have:=Vv hc;rw[hcls]at this;exact absurd rfl this
end
section
variable {P:Program} {G:Nat→List CV} {w0:WL} {M0:MM} {n:Nat} {st:St} {a:Act} {w w':World} {z:Cz}
theorem IR{id g:Nat}(hl:st.ob id≠ .none)(hb:blk (z.σ id)=some g):Ao M0 z st.ob g:=.inr ⟨id,hl,hb⟩
theorem SR.to_grown(h:SR P G w0 M0 n st a w z){id:Nat}(hl:st.ob id≠ .none)(hg:w.grownBy w' (blk (z.σ id))):w0.To w':=
 ⟨hg.os.trans h.below.os,hg.tape.trans h.below.tape,hg.output.trans h.below.output,Nat.le_trans h.below.size hg.size,fun k hk hL=>
  (hg.block k (Nat.lt_of_lt_of_le hk h.below.size) fun e=>hL id (h.low hl e.symm hk)).trans (h.below.block k hk hL)⟩
theorem SR.turnK{id:Nat}(hl:st.ob id≠ .none){o':Ob}(hl':o'≠ .none)(hg:w.grownBy w' (blk (z.σ id))){β':CV→Nat→Prop}:
  Br w (Ao M0 z st.ob) w' (Ao M0 {z with β:=upd z.β id β'} (upd st.ob id o')):=by
 have live:∀i,upd st.ob id o' i≠ .none↔st.ob i≠ .none:=by
  intro i;by_cases hi:i=id
  ·subst hi;rw[AZ];exact⟨fun _=>hl,fun _=>hl'⟩
  ·rw[A0 _ _ hi]
 exact⟨hg.size,fun g hlt hm=>hg.block g hlt (fun e=>hm (IR hl e.symm)),fun g _ hm=>by
  rcases hm with hm|⟨i,h1,h2⟩
  ·exact .inl hm
  ·exact .inr ⟨i,(live i).1 h1,h2⟩,rfl⟩
theorem SR.turn(h:SR P G w0 M0 n st a w z){id:Nat}(hl:st.ob id≠ .none){o':Ob}(hl':o'≠ .none)(hg:w.grownBy w' (blk (z.σ id))){β':CV→Nat→Prop}(hβ:∀k b,z.β id k b→β' k b)(hbox:∀{bt} cs',o'=.box cs' bt→∃cs bt',st.ob id=.box cs bt')
  (ho:Br w (Ao M0 z st.ob) w' (Ao M0 {z with β:=upd z.β id β'} (upd st.ob id o'))→(∀s,E8 st.ob z (upd st.ob id o') {z with β:=upd z.β id β'} s)→
   Bf P w' (Ao M0 {z with β:=upd z.β id β'} (upd st.ob id o')) 0 {z with β:=upd z.β id β'} (upd st.ob id o') id (z.σ id) o'):
  SR P G w0 M0 n {st with ob:=upd st.ob id o'} a w' {z with β:=upd z.β id β'}:=by
 have live:∀i,upd st.ob id o' i≠ .none↔st.ob i≠ .none:=by
  intro i;by_cases hi:i=id
  ·subst hi;rw[AZ];exact⟨fun _=>hl,fun _=>hl'⟩
  ·rw[A0 _ _ hi]
 have hk:Br w (Ao M0 z st.ob) w' (Ao M0 {z with β:=upd z.β id β'} (upd st.ob id o')):=⟨hg.size,fun g hlt hm=>hg.block g hlt (fun e=>hm (IR hl e.symm)),fun g _ hm=>by
  rcases hm with hm|⟨i,h1,h2⟩
  ·exact .inl hm
  ·exact .inr ⟨i,(live i).1 h1,h2⟩,rfl⟩
 have hz:∀s,E8 st.ob z (upd st.ob id o') {z with β:=upd z.β id β'} s:=fun s=>⟨fun i _ h1=>(live i).2 h1,fun _ _ _=>rfl,fun i _ _ k b hb=>by
  by_cases hi:i=id
  ·subst hi;simp only[AZ];exact hβ k b hb
  ·simp only[A0 _ _ hi];exact hb⟩
 refine⟨h.size,h.defers,h.to_grown hl hg,h.outer,h.nam.of rfl (fun N cs' hN hc=> ?_),h.glob,fun i=>Ar.keep hk (hz _) (h.fr i),fun i=> ?_,fun i g h1 h2=> ?_,fun i j g hij h1 h2=>h.apart i j g hij ((live i).1 h1) ((live j).1 h2)⟩
 ·by_cases hi:N=id
  ·subst hi;simp only[AZ]at hc;obtain⟨cs,_,e⟩:=hbox cs' hc;exact⟨cs,_,e,rfl⟩
  ·simp only[A0 _ _ hi]at hc;exact⟨cs',_,hc,rfl⟩
 ·by_cases hi:i=id
  ·subst hi;simp only[AZ];exact ho hk hz
  ·simp only[A0 _ _ hi];by_cases hli:st.ob i=.none
   ·rw[hli];trivial
   ·exact Bf.keep hk (fun g hg'=>hg.block g (h.lo i g hli hg').2 (fun e=>h.apart i id g hi hli hl hg' e.symm)) (fun _ _ s _=>hz s) (fun k b hh=>by simpa[A0 _ _ hi]using hh) (h.ob i)
 ·have:=h.lo i g ((live i).1 h1) h2;exact⟨this.1,Nat.lt_of_lt_of_le this.2 hg.size⟩
theorem SR.renew(h:SR P G w0 M0 n st a w z){id:Nat}(hl:st.ob id≠ .none){o':Ob}{v':Value}(hg:w.grownBy w' (blk (z.σ id)))(hv:∀g,blk v'=some g→blk (z.σ id)=some g∨(w.heap.size≤g∧g<w'.heap.size))(hbox:∀{bt} cs',o'≠ .box cs' bt)
  (ho:Br w (Ao M0 z st.ob) w' (Ao M0 (z.new id v') (upd (kill [id] st).ob id o'))→Bf P w' (Ao M0 (z.new id v') (upd (kill [id] st).ob id o')) 0 (z.new id v') (upd (kill [id] st).ob id o') id v' o'):
  SR P G w0 M0 n {fr:=(kill [id] st).fr,ob:=upd (kill [id] st).ob id o'} a w' (z.new id v'):=by
 have live:∀i,i≠id→(upd (kill [id] st).ob id o' i≠ .none↔st.ob i≠ .none):=by
  intro i hi;rw[A0 _ _ hi,Fi];simp[hi]
 have σne:∀i,i≠id→(z.new id v').σ i=z.σ i:=fun i hi=>by simp[Cz.new,upd,hi]
 have hk:Br w (Ao M0 z st.ob) w' (Ao M0 (z.new id v') (upd (kill [id] st).ob id o')):=⟨hg.size,fun g hlt hm=>hg.block g hlt (fun e=>hm (IR hl e.symm)),fun g hlt hm=>by
  rcases hm with hm|⟨i,h1,h2⟩
  ·exact .inl hm
  ·by_cases hi:i=id
   ·subst hi;rw[CW]at h2;rcases hv g h2 with h3|h3
    ·exact IR hl h3
    ·omega
   ·rw[σne i hi]at h2
    exact IR ((live i hi).1 h1) h2,rfl⟩
 have hz:∀s:SV,∀v,Ar w (Ao M0 z st.ob) z st.ob s v→Ar w' (Ao M0 (z.new id v') (upd (kill [id] st).ob id o')) (z.new id v') (upd (kill [id] st).ob id o') (Au [id] s) v:=by
  intro s v hs
  cases hr:s.ref with
  |none=>
   cases s<;>simp[SV.ref]at hr
   ·exact RelC.keep hk _ _ hs
   ·trivial
  |some i=>
   by_cases hi:i=id
   ·subst hi;have:Au [i] s=.undef:=by cases s<;>simp_all[SV.ref,Au]
    rw[this];trivial
   ·have e:Au [id] s=s:=by cases s<;>simp_all[SV.ref,Au]
    rw[e];refine Ar.keep hk ⟨fun j hj h1=> ?_,fun j hj h1=> ?_,fun j hj h1 k b hb=> ?_⟩ hs;all_goals(rw[hr]at hj;cases hj)
    ·exact(live i hi).2 h1
    ·exact σne i hi
    ·simpa[Cz.new,hi]using hb
 have hzs:∀(cs:List SV) vs,Az w (Ao M0 z st.ob) z st.ob cs vs→Az w' (Ao M0 (z.new id v') (upd (kill [id] st).ob id o')) (z.new id v') (upd (kill [id] st).ob id o') (cs.map (Au [id])) vs:=by
  intro cs
  induction cs with
  |nil=>intro vs hh;exact hh
  |cons c cs ih=>
   intro vs hh;obtain⟨v,vs',e,h1,h2⟩:=hh;exact⟨v,vs',e,hz c v h1,ih vs' h2⟩
 refine⟨h.size,h.defers,h.to_grown hl hg,h.outer,h.nam.of rfl (fun N cs' hN hc=> ?_),h.glob,fun i=>hz _ _ (h.fr i),fun i=> ?_,fun i g h1 h2=> ?_,fun i j g hij h1 h2 h3 h4=> ?_⟩
 ·by_cases hi:N=id
  ·subst hi;simp only[AZ]at hc;exact absurd hc (hbox cs')
  ·simp only[A0 _ _ hi]at hc;refine(?_:∃cs bt',st.ob N=.box cs bt').imp fun cs e=>e.imp fun bt' e=>⟨e,σne N hi⟩;unfold kill at hc;simp only at hc;split at hc
   ·cases hc
   ·cases hob:st.ob N<;>rw[hob]at hc<;>cases hc;exact⟨_,_,rfl⟩
 ·by_cases hi:i=id
  ·subst hi;simp only[AZ,CW];exact ho hk
  ·simp only[A0 _ _ hi,σne i hi];have e:(kill [id] st).ob i=BZ [id] (st.ob i):=by simp[kill,hi]
   rw[e];have hoi:=h.ob i
   cases hob:st.ob i with
   |none=>trivial
   |box cs=>
    rw[hob]at hoi;obtain⟨g,ty,vs,e1,e2,e3⟩:=hoi;have hli:st.ob i≠ .none:=by rw[hob];simp
    exact⟨g,ty,vs,e1,(hg.block g (h.lo i g hli (by rw[e1];rfl)).2 (fun e'=>h.apart i id g hi hli hl (by rw[e1];rfl) e'.symm)).trans e2,hzs cs vs e3⟩
   |_=>
    rw[hob]at hoi;have hli:st.ob i≠ .none:=by rw[hob];simp
    exact Bf.keep hk (fun g hg'=>hg.block g (h.lo i g hli hg').2 (fun e=>h.apart i id g hi hli hl hg' e.symm)) (fun cs hc=>by cases hc) (fun k b hh=>by simpa[Cz.new,hi]using hh) hoi
 ·by_cases hi:i=id
  ·subst hi;simp only[CW]at h2;rcases hv g h2 with h3|h3
   ·have:=h.lo i g hl h3;exact⟨this.1,Nat.lt_of_lt_of_le this.2 hg.size⟩
   ·exact⟨.inl (Nat.le_trans h.below.size h3.1),h3.2⟩
  ·rw[σne i hi]at h2;have:=h.lo i g ((live i hi).1 h1) h2;exact⟨this.1,Nat.lt_of_lt_of_le this.2 hg.size⟩
 ·by_cases hi:i=id
  ·subst hi;have hj:j≠i:=fun e=>hij e.symm;rw[CW]at h3;rw[σne j hj]at h4;rcases hv g h3 with h5|h5
   ·exact h.apart i j g hij hl ((live j hj).1 h2) h5 h4
   ·have:=(h.lo j g ((live j hj).1 h2) h4).2;omega
  ·by_cases hj:j=id
   ·subst hj;rw[CW]at h4;rw[σne i hi]at h3;rcases hv g h4 with h5|h5
    ·exact h.apart i j g hij ((live i hi).1 h1) hl h3 h5
    ·have:=(h.lo i g ((live i hi).1 h1) h3).2;omega
   ·rw[σne i hi]at h3;rw[σne j hj]at h4;exact h.apart i j g hij ((live i hi).1 h1) ((live j hj).1 h2) h3 h4
theorem Sc{M:MM}{c:CV}{v:Value}(h:RelC w M c v)(hc:Cw c=true):v.oneCell'=true:=by
 cases c<;>simp[Cw]at hc<;>unfold RelC at h<;>first
  |(rcases h with rfl|rfl<;>rfl)
  |(subst h;rfl)
  |(obtain⟨_,_,rfl⟩:=h;rfl)
  |(obtain⟨_,_,_,rfl,_⟩:=h;rfl)
  |(obtain⟨_,hf,_⟩:=h;unfold FnV at hf;split at hf<;>first|(subst hf;rfl)|(obtain⟨_,_,rfl⟩:=hf;rfl))
  |(obtain⟨_,rfl,_⟩:=h;rfl)
  |(obtain⟨_,_,rfl,_⟩:=h;rfl)
theorem Lr{M:MM}:∀{cs:List CV} {vs:List Value},RelL w M cs vs→cs.all Cw=true→∀v∈vs,v.oneCell'=true
 | [],vs,h,_,v,hv=>by unfold RelL at h;subst h;cases hv
 |c::cs,vs,h,hc,v,hv=>by
  unfold RelL at h;obtain⟨u,us,rfl,h1,h2⟩:=h;simp only[List.all_cons,Af]at hc;rcases List.mem_cons.1 hv with rfl|hv
  ·exact Sc h1 hc.1
  ·exact Lr h2 hc.2 v hv
theorem Np(w:World)(g:Nat)(cs:Array Value):w.grownBy (w.setRow g cs) (some g):=by
 refine⟨rfl,rfl,rfl,by simp[World.setRow],fun k _ hk=> ?_⟩;simp only[World.setRow,Array.getElem?_modify];rw[if_neg (fun e=>hk (by rw[e]))]
end
section
variable {P:Program} {G:Nat→List CV} {w0:WL} {M0:MM} {n:Nat} {st:St} {a:Act} {w w':World} {z:Cz}
theorem Az.append{M:MM}{ob:Nat→Ob}:∀{cs ds:List SV} {vs us:List Value},Az w M z ob cs vs→Az w M z ob ds us→Az w M z ob (cs++ds) (vs++us)
 | [],_,_,_,h,k=>by unfold Az at h;subst h;exact k
 |_::_,_,_,_,h,k=>by
  obtain⟨v,vs',rfl,h1,h2⟩:=h;exact⟨v,vs'++_,rfl,h1,Az.append h2 k⟩
theorem XS(h:SR P G w0 M0 n st a w z){s:SV}{v:Value}(hs:Ar w (Ao M0 z st.ob) z st.ob s v)(h1:GB s=true):v.oneCell'=true:=by
 have live:∀id,st.ob id≠ .none→(z.σ id).oneCell'=true:=by
  intro id hl;have ho:=h.ob id
  cases hob:st.ob id with
  |none=>exact absurd hob hl
  |box cs=>rw[hob]at ho;obtain⟨g,ty,vs,e,_⟩:=ho;rw[e];rfl
  |arr e size es=>
   rw[hob]at ho;obtain⟨xs,hown,_⟩:=ho;rcases hown.2 with⟨e,_⟩|⟨g,cap,cur,_,_,e,_⟩<;>rw[e]<;>rfl
  |map mt kt zc ks vs=>rw[hob]at ho;obtain⟨_,_,_,r,ens,clk,_,e,_⟩:=ho;rw[e];rfl
  |siter s pos=>rw[hob]at ho;obtain⟨r,e,_⟩:=ho;rw[e];rfl
  |miter ks vs cur=>rw[hob]at ho;obtain⟨r,mo,si,se,e,_⟩:=ho;rw[e];rfl
  |buf e s=>
   rw[hob]at ho;rcases ho.2 with⟨e,_⟩|⟨g,cap,cur,fz,e,_⟩<;>rw[e]<;>rfl
 cases s with
 |c cv=>exact Sc hs h1
 |ptr id o=>obtain⟨_,g,_,e⟩:=hs;rw[e];rfl
 |eptr id i sz o=>obtain⟨_,g,n,c,_,e⟩:=hs;rw[e];rfl
 |osl id=>obtain⟨hl,e⟩:=hs;rw[e];exact live id hl
 |omap id=>obtain⟨hl,e⟩:=hs;rw[e];exact live id hl
 |iter id=>obtain⟨hl,e⟩:=hs;rw[e];exact live id hl
 |stamp id k=>obtain⟨_,b,_,e⟩:=hs;rw[e];rfl
 |ent id k cv=>simp[GB]at h1
 |undef=>simp[GB]at h1
def Dn(P:Program)(G:Nat→List CV)(w0:WL)(M0:MM)(n:Nat)(st':St)(a:Act)(w:World)(o:Oper):Prop:=
 (∃v w' z',(execOp a.eval o).run P w=.ok (.value v) w'∧SR P G w0 M0 n st' (a.put o.dst v) w' z')∨
 (∃w' z',(execOp a.eval o).run P w=.ok .skip w'∧SR P G w0 M0 n st' (a.put o.dst undef) w' z')
theorem YT{w:World}{g:Nat}{cs:Array Value}{t:TypeId}{fr:Nat×Nat}(h:w.heap[g]? =some (.cells cs t fr)):w.setRow g cs=w:=by
 have e:(w.setRow g cs).heap=w.heap:=by
  apply Array.ext_getElem?;intro k;by_cases hk:k=g
  ·subst hk;rw[setRow_heap w k _ _ _ _ h,h]
  ·exact setRow_other w g k cs hk
 cases w;simp only[World.setRow]at e⊢;rw[e]
theorem Tf(g o:Nat)(t:TypeId)(fz:Nat×Nat):∀(vs:List Value) (i:Nat) (cur:Array Value) (w:World),w.heap[g]? =some (.cells cur t fz)→(fz=(0,0)∨o+i+vs.length≤fz.1)→o+i+vs.length≤cur.size→(∀v∈vs,v.oneCell'=true)→
  (storeCells ⟨g,o,none⟩ vs i).run P w=.ok () (w.setRow g (cur.toList.take (o+i)++vs++cur.toList.drop (o+i+vs.length)).toArray)
 | [],i,cur,w,hg,_,_,_=>by
  simp only[storeCells,List.append_nil,List.length_nil,Nat.add_zero,List.take_append_drop,Array.toArray_toList];rw[setRow_self w g cur t fz hg];rfl
 |v::rest,i,cur,w,hg,hfz,hl,h1=>by
  have hi:o+i<cur.size:=by simp at hl;omega
  have hadd:(⟨g,o,none⟩:Addr).add i=⟨g,o+i,none⟩:=by unfold Addr.add;split<;>simp_all
  have hcell:w.cell? ⟨g,o+i,none⟩=some cur[o+i]:=by simp[World.cell?,hg,hi]
  have hfro:w.frozen? ⟨g,o+i,none⟩=false:=by
   obtain⟨lo,hi'⟩:=fz;simp only[World.frozen?,hg,Bool.and_eq_false_iff,decide_eq_false_iff_not];rcases hfz with hfz|hfz
   ·cases hfz;right;omega
   ·left;simp at hfz;omega
  have hst:(store ((⟨g,o,none⟩:Addr).add i) v).run P w=.ok () (w.setRow g (cur.setIfInBounds (o+i) v)):=by
   rw[hadd,run_store P w _ v _ (h1 v (by simp)),hcell];simp[hfro,setCell_eq_setRow w g (o+i) cur t fz v hg]
  have ih:=Tf g o t fz rest (i+1) (cur.setIfInBounds (o+i) v) (w.setRow g (cur.setIfInBounds (o+i) v)) (setRow_heap w g cur _ t _ hg) (by rcases hfz with hfz|hfz;exact .inl hfz;right;simp at hfz;omega) (by simp at hl⊢;omega) (fun x hx=>h1 x (by simp[hx]));simp only[storeCells,Sem.run_bind,hst,Result.andThen_ok,ih,setRow_setRow]
  congr 3
  have e:=list_seg_step cur.toList (o+i) v rest (by simp at hl⊢;omega);simpa[Array.toList_setIfInBounds,Nat.add_assoc]using e
theorem O5{t:TypeId}{i:TypeInfo}(hi:P.info? t=some i){g o:Nat}{vs us:List Value}{v:Value}{ty:TypeId}(hv:v.cells=⟨us⟩)(hs:us.length=i.size){fz:Nat×Nat}(hh:w.heap[g]? =some (.cells ⟨vs⟩ ty fz))(hle:o+us.length≤vs.length)
  (h1:∀u∈us,u.oneCell'=true) (hfz:fz=(0,0)∨o+us.length≤fz.1:=by exact .inl rfl):(storeVar t ⟨g,o,none⟩ v).run P w=.ok () (w.setRow g ⟨vs.take o++us++vs.drop (o+us.length)⟩):=by
 have:=Tf (P:=P) g o ty fz us 0 ⟨vs⟩ w hh (by simpa using hfz) (by simpa using hle) h1;simp only[Nat.add_zero]at this;simp[storeVar,CX hi,hv,hs,this]
theorem Py{M:MM}{size:Nat}:∀{es:List CV} {xs:List Value} {i:Nat} {el':CV} {u':Value},AW w M size es xs→i<es.length→RelC w M el' u'→u'.cells.size=size→
  AW w M size (es.set i el') (xs.take (i*size)++u'.cells.toList++xs.drop (i*size+size))
 | [],xs,i,el',u',_,hi,_,_=>by simp at hi
 |e::es,xs,0,el',u',h,_,hr,hs=>by
  obtain⟨v,xs',rfl,h1,h2,h3⟩:=h;refine⟨u',xs', ?_,hs,hr,h3⟩;have:v.cells.toList.length=size:=by simpa using h1
  simp[this]
 |e::es,xs,i+1,el',u',h,hi,hr,hs=>by
  obtain⟨v,xs',rfl,h1,h2,h3⟩:=h;have hl:v.cells.toList.length=size:=by simpa using h1
  have ih:=Py h3 (by simpa using hi) hr hs;refine⟨v,xs'.take (i*size)++u'.cells.toList++xs'.drop (i*size+size), ?_,h1,h2,ih⟩;rw[Nat.add_mul,Nat.one_mul];rw[List.take_append,List.drop_append,hl];rw[List.take_of_length_le (by omega),List.drop_eq_nil_of_le (by omega)];rw[show i*size+size-size=i*size by omega,show i*size+size+size-size=i*size+size by omega];simp
theorem VY(h:SR P G w0 M0 n st a w z){o:Oper}{t:TypeId}{ad x:Operand}(ho:o.op=.store t ad x)(hdst:o.dst=none){i:TypeInfo}(hi:P.info? t=some i){sa sx:SO}(hsa:An ad=some sa)(hsx:An x=some sx){st':St}
  (hv:AY none (so G st.fr) st (.store i.size sa sx)=some st'):Dn P G w0 M0 n st' a w o:=by
 have hr:=h.ctx.deref (rd:=st.ob) (fun _=>.inr rfl) (h.ctx.opd hsa);have hr2:=h.ctx.opd hsx;simp only[AY]at hv;generalize WB.deref st.ob (so G st.fr sa)=q at hr hv;generalize so G st.fr sx=q2 at hr2 hv
 have fin:∀{w' z'},(Instr.storeAt t (a.eval ad) (a.eval x)).run P w=.ok () w'→SR P G w0 M0 n st' a w' z'→Dn P G w0 M0 n st' a w o:=by
  intro w' z' hr hS;refine .inr ⟨w',z',by simp[execOp,ho,hr], ?_⟩;rw[hdst];exact hS
 cases q<;>(try simp only[reduceCtorEq]at hv;done)
 ·
  rename_i cv;cases cv<;>(try simp only[reduceCtorEq]at hv;done);rename_i cs
  cases cs with
  |nil=>cases hv
  |cons c0 cs=>
   cases cs with
   |cons _ _=>cases c0<;>cases hv
   |nil=>
    cases c0<;>(try cases hv;done);rename_i b;cases q2<;>(try cases hv;done);rename_i c2;cases c2<;>(try cases hv;done);rename_i b';simp only[Ad,Ac]at hv;obtain⟨⟨h1,rfl⟩,rfl⟩:=hv;unfold Ar RelC at hr hr2;obtain⟨g,ty,vs,e1,e2,e3,e4⟩:=hr;unfold RelL RelC at e4;obtain⟨v,vs',rfl,rfl,e4⟩:=e4;unfold RelL at e4;subst e4;refine fin (w':=w) (z':=z) ?_ h;have hrun:=O5 (P:=P) (t:=t) (w:=w) hi (g:=g) (o:=0) (vs:= [.bool b]) (us:= [.bool b]) (v:=.bool b) (ty:=ty) rfl (by simp[h1]) e2 (by simp) (by simp[Value.oneCell']);have hsame:w.setRow g ⟨[Value.bool b]⟩=w:=YT e2;simp only[List.take_zero,List.nil_append,List.length_cons,List.length_nil,Nat.zero_add,List.drop_succ_cons,List.drop_zero,List.append_nil,List.cons_append,List.drop_nil]at hrun;rw[hsame]at hrun;simp[Instr.storeAt,Instr.sureAddr,e1,hr2,hrun]
 ·
  rename_i id off;obtain⟨hlive,g,e1,e2⟩:=hr;have ho':=h.ob id;cases hob:st.ob id<;>simp only[hob,reduceCtorEq]at hv;rename_i cs bt;rw[hob]at ho';obtain⟨g',ty,vs,e3,e4,e5⟩:=ho';rw[e1]at e3;simp only[Value.pointer.injEq,Ac,Addr.mk.injEq,and_true]at e3;subst e3;have hlen:=Az.length e5
  have go:∀(us:List Value) (ss:List SV),(a.eval x).cells=⟨us⟩→us.length=i.size→off+us.length≤vs.length→(∀u∈us,u.oneCell'=true)→Az w (Ao M0 z st.ob) z st.ob ss us→
    st'={st with ob:=upd st.ob id (.box (cs.take off++ss++cs.drop (off+us.length)) bt)}→Dn P G w0 M0 n st' a w o:=by
   intro us ss hus hsz hle h1 hss hst;subst hst;refine fin (w':=w.setRow g ⟨vs.take off++us++vs.drop (off+us.length)⟩) ?_ (SR.turn h hlive (by simp) (by rw[e1];exact Np w g _) (fun _ _ hh=>hh) (fun _ _=>⟨_,_,hob⟩) fun hk hz=>⟨g,ty,_,e1,setRow_heap w g _ _ _ _ e4, ?_⟩)
   ·simp[Instr.storeAt,Instr.sureAddr,e2,O5 hi hus hsz e4 hle h1]
   ·exact Az.keep hk (fun s _=>hz s) (((e5.take off).append hss).append (e5.drop _))
  have one:∀(v:SV),Ar w (Ao M0 z st.ob) z st.ob v (a.eval x)→(∀l,v≠ .c (.agg l))→(if i.size=1∧off<cs.length∧GB v=true then some {st with ob:=upd st.ob id (.box (cs.set off v) bt)}else none)=some st'→Dn P G w0 M0 n st' a w o:=by
   intro v hrv hna hv;simp only[Ad,Ac]at hv;obtain⟨⟨h1,h2,h3⟩,rfl⟩:=hv;have hcell:=PN h hrv hna (by rintro rfl;simp[GB]at h3);have hone:(a.eval x).oneCell'=true:=XS h hrv h3;refine go [a.eval x] [v] hcell (by simp[h1]) (by simp[hlen];omega) (by simpa using hone) ⟨a.eval x,[],rfl,hrv,rfl⟩ ?_
   congr 3
   simp only[List.length_cons,List.length_nil,Nat.zero_add];rw[List.set_eq_take_append_cons_drop,if_pos h2];simp
  cases q2 with
  |c cv=>
   cases cv with
   |agg l=>
    simp only[Ad,Ac]at hv;obtain⟨⟨h1,h2,h3⟩,rfl⟩:=hv;unfold Ar RelC at hr2;obtain⟨us,e6,hl⟩:=hr2;have hul:=hl.length;refine go us (l.map .c) (by rw[e6];rfl) (by rw[hul,h1]) (by omega) (Lr hl h3) (Az.of_c hl) ?_;simp[Fq,hul]
   |_=>exact one _ hr2 (fun l hh=>by cases hh) hv
  |_=>exact one _ hr2 (fun l hh=>by cases hh) hv
 ·
  rename_i id j size off;obtain⟨hlive,g,n',c',e1,e2⟩:=hr;have ho':=h.ob id;cases hob:st.ob id<;>simp only[hob,reduceCtorEq]at hv;rename_i et sz es;rw[hob]at ho';obtain⟨xs,hown,hf⟩:=ho';cases q2<;>(try simp only[reduceCtorEq]at hv;done);rename_i cv;simp only[Ad,Ab,Ac]at hv;obtain⟨⟨rfl,hn0,hn,hone⟩,el,hel,hle,rfl⟩:=hv;have hjl:j<es.length:=(Ae.1 hel).1;have hxl:=Ge hf;obtain⟨u,hu1,hu2,hu3⟩:=Fw hf hel;have hus:=RelC.cells hr2
  have hul:(a.eval x).cells.toList.length=i.size:=by
   have:=hr2.cells_size;simpa[hn]using this
  have hel_size:Bq el=size:=by rw[←hu1.cells_size,hu2]
  rcases hown.2 with⟨e3,e4⟩|⟨g',cap,cur,ty,fz,e3,e4,e5,k5,k6,e6,e7,e8,e9⟩
  ·omega
  ·rw[e1]at e3;simp only[Value.slice.injEq,Ac,Addr.mk.injEq,and_true]at e3;obtain⟨rfl,rfl,rfl⟩:=e3;have hcl:cur.toList.length=c'*size:=by simpa using e8
   have hbound:j*size+size≤es.length*size:=by
    have:=Nat.mul_le_mul_right size (show j+1≤es.length by omega);rw[Nat.add_mul,Nat.one_mul]at this;exact this
   have hcap:es.length*size≤c'*size:=Nat.mul_le_mul_right _ e6;have run:=O5 (P:=P) (w:=w) hi (g:=g) (o:=j*size+off) (vs:=cur.toList) (us:=(a.eval x).cells.toList) (v:=a.eval x) (ty:=ty) rfl hul (by simpa using e5) (by omega) (Lr hus hone) (by rcases k6 with k6|k6;exact .inl k6;right;omega)
   obtain⟨u',hu1',hu2'⟩:∃u',RelC w (Ao M0 z st.ob) (Fl el off i.size cv) u'∧u'.cells.toList=u.cells.toList.take off++(a.eval x).cells.toList++u.cells.toList.drop (off+i.size):=by
    have hother:(∀l,el≠ .agg l)→Fl el off i.size cv=cv→∃u',RelC w (Ao M0 z st.ob) (Fl el off i.size cv) u'∧u'.cells.toList=u.cells.toList.take off++(a.eval x).cells.toList++u.cells.toList.drop (off+i.size):=by
     intro hna hp;have h1:Bq el=1:=by cases el<;>first|rfl|exact absurd rfl (hna _)
     have h2:u.cells.toList.length=1:=by simpa[hu2,←hel_size]using h1
     have h3:off=0:=by omega
     have h4:i.size=1:=by omega
     refine⟨a.eval x,by rw[hp];exact hr2, ?_⟩;rw[h3,h4,List.drop_eq_nil_of_le (by omega)];simp
    cases el with
    |agg l=>
     have hu1c:=RelC.cells hu1;refine⟨.agg ⟨u.cells.toList.take off++(a.eval x).cells.toList++u.cells.toList.drop (off+i.size)⟩, ?_,rfl⟩;show RelC _ _ (.agg _) _;unfold RelC;exact⟨_,rfl,((hu1c.take off).append hus).append (hu1c.drop _)⟩
    |_=>exact hother (fun l hh=>by cases hh) rfl
   have hulen:u.cells.toList.length=size:=by simpa using hu2
   have hu's:u'.cells.size=size:=by
    have:u'.cells.toList.length=size:=by
     rw[hu2'];simp only[List.length_append,List.length_take,List.length_drop,hul,hulen];omega
    simpa using this
   have hchunk:u.cells.toList=(cur.toList.drop (j*size)).take size:=by
    apply List.ext_getElem?;intro k;by_cases hk:k<size
    ·have hku:u.cells.toList[k]? =some (u.cells.toList[k]'(by omega)):=Ai _;have h1:=hu3 k (u.cells.toList[k]'(by omega)) (by rw[←Array.getElem?_toList];exact hku);rw[←e9,List.getElem?_take]at h1;split at h1
     ·rw[hku,List.getElem?_take,if_pos hk,List.getElem?_drop];exact h1.symm
     ·cases h1
    ·rw[List.getElem?_eq_none (by omega),List.getElem?_eq_none (by simp;omega)]
   have hrow:cur.toList.take (j*size+off)++(a.eval x).cells.toList++cur.toList.drop (j*size+off+(a.eval x).cells.toList.length)=cur.toList.take (j*size)++u'.cells.toList++cur.toList.drop (j*size+size):=by
    rw[hu2',hchunk,hul];rw[List.take_take,Nat.min_eq_left (by omega),List.drop_take];have t1:cur.toList.take (j*size+off)=cur.toList.take (j*size)++(cur.toList.drop (j*size)).take off:=by rw[List.take_add]
    have t2:cur.toList.drop (j*size+off+i.size)=((cur.toList.drop (j*size)).drop (off+i.size)).take (size-(off+i.size))++cur.toList.drop (j*size+size):=by
     have:cur.toList.drop (j*size+size)=((cur.toList.drop (j*size)).drop (off+i.size)).drop (size-(off+i.size)):=by
      rw[List.drop_drop,List.drop_drop];congr 1;omega
     rw[this,List.take_append_drop,List.drop_drop];congr 1;omega
    rw[t1,t2];simp only[List.append_assoc]
   rw[hrow]at run
   have hcurl:(cur.toList.take (j*size)++u'.cells.toList++cur.toList.drop (j*size+size)).length=c'*size:=by
    have hu'l:u'.cells.toList.length=size:=by simpa using hu's
    simp only[List.length_append,List.length_take,List.length_drop,hu'l,hcl];omega
   have hx':(cur.toList.take (j*size)++u'.cells.toList++cur.toList.drop (j*size+size)).take (es.length*size)=xs.take (j*size)++u'.cells.toList++xs.drop (j*size+size):=by
    have hu'l:u'.cells.toList.length=size:=by simpa using hu's
    have hp:(cur.toList.take (j*size)++u'.cells.toList).length=j*size+size:=by
     simp only[List.length_append,List.length_take,hu'l,hcl];omega
    rw[List.take_append,List.take_of_length_le (by omega),hp];rw[←e9,List.take_take,Nat.min_eq_left (by omega),List.drop_take]
   refine fin (w':=w.setRow g ⟨cur.toList.take (j*size)++u'.cells.toList++cur.toList.drop (j*size+size)⟩) ?_ (SR.turn h hlive (by simp) (by rw[e1];exact Np w g _) (fun _ _ hh=>hh) (fun _ hh=>by cases hh) fun hk hz=>⟨xs.take (j*size)++u'.cells.toList++xs.drop (j*size+size),⟨?_,.inr ⟨g,c',⟨cur.toList.take (j*size)++u'.cells.toList++cur.toList.drop (j*size+size)⟩,ty,fz, ?_,e4,setRow_heap w g _ _ _ _ e5,k5,k6, ?_,e7,by simpa using hcurl, ?_⟩⟩,AW.keep hk (Py hf hjl hu1' hu's)⟩)
   ·simp[Instr.storeAt,Instr.sureAddr,e2,run]
   ·rw[←hx',List.length_take,List.length_set,hcurl];omega
   ·rw[e1,List.length_set]
   ·rw[List.length_set];exact e6
   ·rw[List.length_set];exact hx'
end
section
variable {P:Program} {G:Nat→List CV} {w0:WL} {M0:MM} {n:Nat} {st:St} {a:Act} {w w':World} {z:Cz}
theorem Pt{M:MM}{ad:Addr}{size:Nat}:∀{i:Nat} {es:List CV},Bo w M ad size i es→∃xs,AW w M size es xs∧∀(j:Nat) u,xs[j]? =some u→w.cell? (ad.add (i*size+j))=some u
 |i,[],_=>⟨[],rfl,fun j u hu=>by simp at hu⟩
 |i,e::es,h=>by
  unfold Bo at h;obtain⟨⟨v,h1,h2,h3⟩,h4⟩:=h;obtain⟨xs,g1,g2⟩:=Pt h4;refine⟨v.cells.toList++xs,⟨v,xs,rfl,h2,h1,g1⟩,fun j u hu=> ?_⟩;have hl:v.cells.toList.length=size:=by simpa using h2
  by_cases hj:j<size
  ·rw[List.getElem?_append_left (by omega)]at hu;exact h3 j u (by simpa using hu)
  ·rw[List.getElem?_append_right (by omega),hl]at hu;have:=g2 _ u hu;rw[show(i+1)*size+(j-size)=i*size+j by rw[Nat.add_mul];omega]at this;exact this
theorem JL{M:MM}{size:Nat}:∀{es:List CV} {xs:List Value},AW w M size es xs→(es.all fun v=>v.cells.all Cw)=true→∀u∈xs,u.oneCell'=true
 | [],xs,h,_,u,hu=>by unfold AW at h;subst h;cases hu
 |e::es,xs,h,h1,u,hu=>by
  obtain⟨v,xs',rfl,g1,g2,g3⟩:=h;simp only[List.all_cons,Af]at h1;rcases List.mem_append.1 hu with hu|hu
  ·exact Lr (RelC.cells g2) h1.1 u hu
  ·exact JL g3 h1.2 u hu
theorem NQ(h:SR P G w0 M0 n st a w z){s:SV}{v:Value}(hs:Ar w (Ao M0 z st.ob) z st.ob s v){news:List CV}(hn:Ct st s=some news){size:Nat}(hsz:(news.all fun v=>Bq v==size)=true):
  ∃A c xs,v=.slice A news.length c∧AW w (Ao M0 z st.ob) size news xs∧(A=none→news= [])∧∀ad,A=some ad→∀(j:Nat) u,xs[j]? =some u→w.cell? (ad.add j)=some u:=by
 cases s<;>(try simp only[Ct,reduceCtorEq]at hn;done)
 ·rename_i cv;cases cv<;>(try simp only[Ct,reduceCtorEq]at hn;done);rename_i nl es;simp only[Ct,Ac]at hn;subst hn;unfold Ar RelC at hs;obtain⟨A,len,c,e1,e2,_,_,_,e3,e4⟩:=hs;subst e2;by_cases hes:es= []
  ·subst hes;exact⟨A,c,[],e1,rfl,fun _=>rfl,fun ad _ j u hu=>by simp at hu⟩
  ·obtain⟨ad,size',e5,_,_,hE⟩:=e4 hes;subst e5;obtain⟨xs,g1,g2⟩:=Pt hE
   have hss:size'=size:=by
    cases es with
    |nil=>exact absurd rfl hes
    |cons e es=>
     obtain⟨v,xs',_,k1,k2,_⟩:=g1;simp only[List.all_cons,Af,beq_iff_eq]at hsz;rw[←k1,k2.cells_size,hsz.1]
   subst hss;refine⟨some ad,c,xs,e1,g1,(fun hh=>by cases hh),fun ad' hh j u hu=> ?_⟩;cases hh;have:=g2 j u hu;simpa using this
 ·rename_i id;obtain⟨hlive,e1⟩:=hs;have ho:=h.ob id;simp only[Ct]at hn;cases hob:st.ob id<;>simp only[hob,reduceCtorEq,Ac]at hn;rename_i et sz es;subst hn;rw[hob]at ho;obtain⟨xs,hown,hf⟩:=ho
  have hss:es= []∨sz=size:=by
   cases es with
   |nil=>exact .inl rfl
   |cons e es=>
    obtain⟨v,xs',_,k1,k2,_⟩:=hf;simp only[List.all_cons,Af,beq_iff_eq]at hsz;exact .inr (by rw[←k1,k2.cells_size,hsz.1])
  rcases hss with rfl|rfl
  ·have:xs= []:=by unfold AW at hf;exact hf
   subst this;rcases hown.2 with⟨e2,_⟩|⟨g,cap,cur,_,_,e2,_⟩
   ·exact⟨none,0,[],by rw[e1,e2];rfl,rfl,fun _=>rfl,fun ad _ j u hu=>by simp at hu⟩
   ·exact⟨_,cap,[],by rw[e1,e2],rfl,fun _=>rfl,fun ad _ j u hu=>by simp at hu⟩
  ·rcases Nat.eq_zero_or_pos es.length with h0|h0
   ·have:es= []:=List.eq_nil_of_length_eq_zero h0;subst this;have:xs= []:=by unfold AW at hf;exact hf
    subst this;rcases hown.2 with⟨e2,_⟩|⟨g,cap,cur,_,_,e2,_⟩
    ·exact⟨none,0,[],by rw[e1,e2];rfl,rfl,fun _=>rfl,fun ad _ j u hu=>by simp at hu⟩
    ·exact⟨_,cap,[],by rw[e1,e2],rfl,fun _=>rfl,fun ad _ j u hu=>by simp at hu⟩
   ·obtain⟨g,cap,cur,e2,_,hc⟩:=Lw hown h0;refine⟨some ⟨g,0,none⟩,cap,xs,by rw[e1,e2],hf,(fun hh=>by cases hh),fun ad hh j u hu=> ?_⟩;cases hh;rw[Do];simpa using hc j u hu
theorem YD(base:Nat)(t ty e:TypeId)(i:TypeInfo)(size:Nat)(ht:P.underlying t=some (.slice e))(hi:P.info? e=some i)
  (v:Value) (n:Nat) (xs:List Value) (hown:w.ownsRow base e size v n xs) (c:Nat):(Builtin.append_ #[t,t] ty #[v,.slice none 0 c]).run P w=.ok v w:=by
 rcases hown.2 with⟨rfl,rfl⟩|⟨g,cap,cur,rfl,_,_,hnc,_⟩
 ·simp[Builtin.append_,run_underlying ht,Go.sizeOf,typeInfo,hi,Builtin.lenOf,Builtin.firstCells]
 ·simp[Builtin.append_,run_underlying ht,Go.sizeOf,typeInfo,hi,Builtin.lenOf,Builtin.firstCells,hnc,storeCells]
theorem Sl{v:Value}{B e size n:Nat}{xs:List Value}(h:w.ownsRow B e size v n xs):v.ownBlock=blk v:=by
 rcases h.2 with⟨rfl,_⟩|⟨g,cap,cur,rfl,_⟩<;>rfl
theorem O0(base:Nat)(t ty e:TypeId)(i:TypeInfo)(zv:Value)(ht:P.underlying t=some (.slice e))(hi:P.info? e=some i)(hz:i.zero=some zv)
  (hzs:zv.cells.size=i.size) (hsz:0<i.size) (v:Value) (n:Nat) (xs:List Value) (hown:w.ownsRow base e i.size v n xs)
  (A:Option Addr) (m c:Nat) (news:List Value) (hnl:news.length=m*i.size) (hA:A=none→m=0) (hc:∀ad,A=some ad→∀(j:Nat) u,news[j]? =some u→w.cell? (ad.add j)=some u) (h1:∀u∈news,u.oneCell'=true)
  (h63:n+m≤maxLen) (hbytes:(n+m)*i.bytes≤140737488355328) (hbase:base≤w.heap.size):
  ∃v' w',(Builtin.append_ #[t,t] ty #[v,.slice A m c]).run P w=.ok v' w'∧w'.ownsRow base e i.size v' (n+m) (xs++news)∧w.grownBy w' (blk v)∧
   (blk v'=blk v∨blk v'=some w.heap.size):=by
 cases A with
 |none=>
  have hm:=hA rfl;subst hm;have hn:news= []:=List.eq_nil_of_length_eq_zero (by simpa using hnl);subst hn;exact⟨v,w,YD base t ty e i i.size ht hi v n xs hown c,by simpa using hown,World.grownBy.refl w _,.inl rfl⟩
 |some ad=>
  obtain⟨v',w',hrun,h2,h3,_,h5⟩:=run_append_own_at (P:=P) w base t ty e i zv i.size i.bytes ht hi hz rfl rfl hzs hsz v n xs hown ad m c news hnl (hc ad rfl) h1 h63 hbytes hbase;rw[Sl hown]at h3 h5;rw[Sl h2]at h5;exact⟨v',w',hrun,h2,h3,h5⟩
theorem VT(h:SR P G w0 M0 n st a w z){o:Oper}{t e:TypeId}{i:TypeInfo}{zv:Value}{x y:Operand}{args:Array Operand}{argTypes:Array TypeId}(ho:o.op=.call {callee:=.builtin .append,args:=args,argTypes:=argTypes})
  (hargs:args.toList= [x,y]) (hat:argTypes.toList= [t,t]) (ht:P.underlying t=some (.slice e)) (hi:P.info? e=some i) (hz:i.zero=some zv) (hzs:zv.cells.size=i.size) (hsz:0<i.size)
  (hd:∀j,o.dst=some j→j<n) {sx sy:SO} (hx:An x=some sx) (hy:An y=some sy) {st':St} (hv:AY o.dst (so G st.fr) st (.append e i.size i.bytes sx sy)=some st'):Dn P G w0 M0 n st' a w o:=by
 have hr:=h.ctx.opd hx;have hr2:=h.ctx.opd hy;simp only[AY]at hv;generalize so G st.fr sx=q at hr hv;generalize so G st.fr sy=q2 at hr2 hv
 cases hnews:Ct st q2 with
 |none=>rw[hnews]at hv;cases hv
 |some news=>
  rw[hnews]at hv;simp only[Ad,Af]at hv;obtain⟨⟨hall,hone⟩,hv⟩:=hv;obtain⟨A,c,xs2,e1,hf2,hA,hcells⟩:=NQ h hr2 hnews hall;have hx2l:=Ge hf2;have hone':=JL hf2 hone
  have fin:∀{v' w' z'},(Builtin.append_ #[t,t] o.type #[a.eval x,a.eval y]).run P w=.ok v' w'→SR P G w0 M0 n st' (a.put o.dst v') w' z'→Dn P G w0 M0 n st' a w o:=by
   intro v' w' z' hrun hS;refine .inl ⟨v',w',z', ?_,hS⟩;obtain⟨al⟩:=args;obtain⟨tl⟩:=argTypes;simp only at hargs hat
   subst hargs;subst hat
   simp[execOp,ho,resolve,invoke,builtin,hrun]
  cases q<;>(try simp only[reduceCtorEq]at hv;done)
  ·
   rename_i cv;cases cv<;>(try simp only[reduceCtorEq]at hv;done);rename_i nl es;cases nl<;>(try simp only[reduceCtorEq]at hv;done);rename_i b;cases b<;>(try simp only[reduceCtorEq]at hv;done);simp only[Ad]at hv;obtain⟨⟨hb1,hb2⟩,hv⟩:=hv
   cases hod:o.dst with
   |none=>rw[hod]at hv;cases hv
   |some d=>
    rw[hod]at hv;simp only[Ac]at hv;subst hv;unfold Ar RelC at hr;obtain⟨A',len,c',e2,e3,_,e4,_,e5,e6⟩:=hr;have hA':=e4 rfl;subst hA'
    have hes:es= []:=by
     cases es with
     |nil=>rfl
     |cons e es=>obtain⟨ad,size,hh,_⟩:=e6 (by simp);cases hh
    subst hes;have hc0:=e5 rfl;subst hc0;subst e3;have hk:=h.killed [d];have hown0:w.ownsRow 0 e i.size (.slice none 0 0) 0 []:=⟨by simp,.inl ⟨rfl,rfl⟩⟩;obtain⟨v',w',hrun,h2,h3,h4⟩:=O0 (P:=P) 0 t o.type e i zv ht hi hz hzs hsz (.slice none 0 0) 0 [] hown0 A news.length c xs2 hx2l (fun hh=>by simp[hA hh]) hcells hone' (by unfold maxLen;omega) (by simpa using hb1) (Nat.zero_le _);rw[e2,e1]at fin;refine fin (z':=z.new d v') hrun ?_;rw[hod];have hgb:Below w.heap.size w w':=⟨h3.os,h3.tape,h3.output,h3.size,fun k hk=>h3.block k hk (by simp[blk])⟩;have hnone:(kill [d] st).ob d=.none:=by simp[kill]
    have hlt:∀g,blk v'=some g→w.heap.size≤g∧g<w'.heap.size:=by
     intro g hg;rcases h4 with h4|h4
     ·rw[h4]at hg;simp[blk]at hg
     ·rw[hg]at h4;simp only[Ac]at h4;subst h4;rcases h2.2 with⟨e7,_⟩|⟨g',cap,cur,e7,_,e8,_⟩
      ·rw[e7]at hg;simp[blk]at hg
      ·rw[e7]at hg;simp only[blk,Ac]at hg;exact⟨Nat.le_refl _,by rw[←hg];exact heap_lt e8⟩
    have kn:=KR (M0:=M0) (z:=z) (o:=.arr e i.size news) hnone hgb (fun g hg=>(hlt g hg).1);have hkk:Br w (Ao M0 z st.ob) w (Ao M0 z (kill [d] st).ob):=⟨Nat.le_refl _,fun _ _ _=>rfl,fun g _ hg=>Or.imp id Je hg,rfl⟩;exact hk.new (hd d hod) hnone hgb hlt ⟨xs2,Ds.of (by simpa using h2),AW.keep kn (AW.keep hkk hf2)⟩ ⟨EO (by simp),CW.symm⟩
  ·
   rename_i id;obtain⟨hlive,e2⟩:=hr;have ho':=h.ob id;cases hob:st.ob id<;>simp only[hob,reduceCtorEq]at hv;rename_i et sz es;simp only[Ad,Ac]at hv;obtain⟨⟨rfl,rfl,hb1,hb2⟩,rfl⟩:=hv;rw[hob]at ho';obtain⟨xs,hown,hf⟩:=ho';obtain⟨v',w',hrun,h2,h3,h4⟩:=O0 (P:=P) 0 t o.type et i zv ht hi hz hzs hsz (z.σ id) es.length xs (hown.own hi) A news.length c xs2 hx2l (fun hh=>by simp[hA hh]) hcells hone' (by unfold maxLen;omega) hb1 (Nat.zero_le _);rw[e2,e1]at fin;refine fin (z':=z.new id v') hrun ?_
   have hlt:∀g,blk v'=some g→blk (z.σ id)=some g∨(w.heap.size≤g∧g<w'.heap.size):=by
    intro g hg;rcases h4 with h4|h4
    ·exact .inl (h4▸hg)
    ·rw[hg]at h4;simp only[Ac]at h4;subst h4;rcases h2.2 with⟨e7,_⟩|⟨g',cap,cur,e7,_,e8,_⟩
     ·rw[e7]at hg;simp[blk]at hg
     ·rw[e7]at hg;simp only[blk,Ac]at hg;exact .inr ⟨Nat.le_refl _,by rw[←hg];exact heap_lt e8⟩
   have hS:=h.renew (o':=.arr et i.size (es++news)) hlive h3 hlt (fun _ hh=>by cases hh) fun hk=>⟨xs++xs2,Ds.of (by simpa using h2),AW.keep hk (Mv hf hf2)⟩;exact hS.put hd ⟨by simp[AZ],CW.symm⟩
theorem Pz{w:World}{M:MM}{size:Nat}:∀{es:List CV} {xs:List Value} (k:Nat),AW w M size es xs→AW w M size (es.take k) (xs.take (k*size))
 | [],xs,k,h=>by
  have:xs= []:=h;subst this;simp[AW]
 |e::es,xs,0,h=>by simp[AW]
 |e::es,xs,k+1,h=>by
  obtain⟨v,xs',rfl,h1,h2,h3⟩:=h;have hl:v.cells.toList.length=size:=by simpa using h1
  refine⟨v,xs'.take (k*size), ?_,h1,h2,Pz k h3⟩;rw[Nat.add_mul,Nat.one_mul,List.take_append,List.take_of_length_le (by omega),hl]
  congr 2
  omega
theorem Pv{w:World}{M:MM}{size:Nat}:∀{es:List CV} {xs:List Value} (k:Nat),AW w M size es xs→AW w M size (es.drop k) (xs.drop (k*size))
 | [],xs,k,h=>by
  have:xs= []:=h;subst this;simp[AW]
 |e::es,xs,0,h=>by simpa using h
 |e::es,xs,k+1,h=>by
  obtain⟨v,xs',rfl,h1,h2,h3⟩:=h;have hl:v.cells.toList.length=size:=by simpa using h1
  have:=Pv k h3
  have e0:(v.cells.toList++xs').drop ((k+1)*size)=xs'.drop (k*size):=by
   rw[Nat.add_mul,Nat.one_mul,List.drop_append,List.drop_eq_nil_of_le (show v.cells.toList.length≤k*size+size by omega),List.nil_append,hl,show k*size+size-size=k*size by omega]
  rw[e0];exact this
theorem YI(w:World){dT sT ty elem:TypeId}{i:TypeInfo}{g dLen dCap:Nat}{A:Option Addr}{m c:Nat}{cur:Array Value}{t:TypeId}{cs:List Value}(hu:P.underlying dT=some (.slice elem))(hi:P.info? elem=some i)
  (hg:w.heap[g]? =some (.cells cur t (0,0))) (hl:cs.length=Nat.min m dLen*i.size) (hA:A=none→cs= []) (hsrc:∀ad,A=some ad→∀(j:Nat) v,cs[j]? =some v→w.cell? (ad.add j)=some v) (hfit:cs.length≤cur.size) (h1:∀v∈cs,v.oneCell'=true):
  (Builtin.copy_ #[dT,sT] ty #[.slice (some ⟨g,0,none⟩) dLen dCap,.slice A m c]).run P w=.ok (goInt (Nat.min m dLen)) (w.setRow g (cs++cur.toList.drop cs.length).toArray):=by
 have hst:=run_storeCells_at P g 0 t cs 0 cur w hg (by simpa using hfit) h1;simp only[Nat.zero_add,List.take_zero,List.nil_append]at hst
 cases A with
 |none=>
  have:=hA rfl;subst this;have e:w.setRow g cur=w:=setRow_self w g cur t (0,0) hg;simp[Builtin.copy_,run_underlying hu,Builtin.lenOf,Builtin.firstCells,Go.sizeOf,typeInfo,hi,storeCells,e]
 |some ad=>
  have hld:=run_loadCells_list (P:=P) w ad cs (hsrc ad rfl);rw[hl]at hld;simp[Builtin.copy_,run_underlying hu,Builtin.lenOf,Builtin.firstCells,Go.sizeOf,typeInfo,hi,hld,hst]
theorem VU(h:SR P G w0 M0 n st a w z){o:Oper}{t e:TypeId}{i:TypeInfo}{x y:Operand}{args:Array Operand}{argTypes:Array TypeId}(ho:o.op=.call {callee:=.builtin .copy,args:=args,argTypes:=argTypes})
  (hargs:args.toList= [x,y]) (hat:argTypes.toList= [t,t]) (ht:P.underlying t=some (.slice e)) (hi:P.info? e=some i) (hsz:0<i.size)
  (hd:∀j,o.dst=some j→j<n) {sx sy:SO} (hx:An x=some sx) (hy:An y=some sy) {st':St} (hv:AY o.dst (so G st.fr) st (.cpy e i.size sx sy)=some st'):Dn P G w0 M0 n st' a w o:=by
 have hr:=h.ctx.opd hx;have hr2:=h.ctx.opd hy;simp only[AY]at hv;generalize so G st.fr sx=q at hr hv;generalize so G st.fr sy=q2 at hr2 hv
 cases hnews:Ct st q2 with
 |none=>rw[hnews]at hv;cases hv
 |some news=>
  rw[hnews]at hv;cases q<;>(try simp only[reduceCtorEq]at hv;done);rename_i id;obtain⟨hlive,e2⟩:=hr;have ho':=h.ob id;cases hob:st.ob id<;>simp only[hob,reduceCtorEq]at hv;rename_i et sz es;simp only[Ad,Ac,Af]at hv;obtain⟨⟨⟨rfl,rfl⟩,hall,hone⟩,rfl⟩:=hv;rw[hob]at ho';obtain⟨xs,hrow,hf⟩:=ho';obtain⟨A,c,xs2,e1,hf2,hA,hcells⟩:=NQ h hr2 hnews hall;have hx2l:=Ge hf2;have hxl:=Ge hf;have hone':=JL hf2 hone
  have fin:∀{w' z'},(Builtin.copy_ #[t,t] o.type #[a.eval x,a.eval y]).run P w=.ok (goInt (Nat.min news.length es.length)) w'→SR P G w0 M0 n {st with ob:=upd st.ob id (.arr et i.size (news.take (min news.length es.length)++es.drop (min news.length es.length)))} a w' z'→Dn P G w0 M0 n (St.set {st with ob:=upd st.ob id (.arr et i.size (news.take (min news.length es.length)++es.drop (min news.length es.length)))} o.dst (.c (.int .i64 (min news.length es.length:Nat)))) a w o:=by
   intro w' z' hrun hS;refine .inl ⟨goInt (Nat.min news.length es.length),w',z', ?_,hS.put hd ?_⟩
   ·obtain⟨al⟩:=args;obtain⟨tl⟩:=argTypes;simp only at hargs hat
    subst hargs;subst hat
    simp[execOp,ho,resolve,invoke,builtin,hrun]
   ·show RelC _ _ _ _;exact D8
  have hrowO:=hrow.own hi;rw[e2,e1]at fin;rcases hrowO.2 with⟨e3,e4⟩|⟨g,cap,cur,e3,e4,e5,e6,e7,e8,e9⟩
  ·have hes:es= []:=List.eq_nil_of_length_eq_zero e4;subst hes;rw[e3]at fin;refine fin (w':=w) (z':=z) ?_ ?_
   ·cases A with
    |none=>simp[Builtin.copy_,run_underlying ht,Builtin.lenOf,Builtin.firstCells,Go.sizeOf,typeInfo,hi]
    |some ad=>
     have hld:=run_loadCells_list (P:=P) w ad [] (by simp);simp only[List.length_nil]at hld;simp[Builtin.copy_,run_underlying ht,Builtin.lenOf,Builtin.firstCells,Go.sizeOf,typeInfo,hi,hld]
   ·have:{st with ob:=upd st.ob id (.arr et i.size (news.take (min news.length ([]:List CV).length)++([]:List CV).drop (min news.length ([]:List CV).length)))}=st:=by
     have e:upd st.ob id (.arr et i.size (news.take (min news.length ([]:List CV).length)++([]:List CV).drop (min news.length ([]:List CV).length)))=st.ob:=by
      funext j;rw[BK];split
      ·rename_i hj;rw[hj,hob];simp
      ·rfl
     rw[e]
    rw[this];exact h
  ·have hk:Nat.min news.length es.length=min news.length es.length:=rfl;have hle1:min news.length es.length*i.size≤news.length*i.size:=Nat.mul_le_mul_right _ (Nat.min_le_left _ _);have hle2:min news.length es.length*i.size≤es.length*i.size:=Nat.mul_le_mul_right _ (Nat.min_le_right _ _);have hle3:es.length*i.size≤cap*i.size:=Nat.mul_le_mul_right _ e6;have hcsl:(xs2.take (min news.length es.length*i.size)).length=min news.length es.length*i.size:=by rw[List.length_take,hx2l];omega
   have hcl:cur.toList.length=cap*i.size:=by simpa using e8
   rw[e3]at fin
   have run:=YI (P:=P) (dT:=t) (sT:=t) (ty:=o.type) (dLen:=es.length) (dCap:=cap) (A:=A) (m:=news.length) (c:=c) (cs:=xs2.take (min news.length es.length*i.size)) w ht hi e5 (by rw[hcsl,hk]) (fun hh=>by
     have:=hA hh;subst this
     simp) (fun ad hh j v hv=>by
     rw[List.getElem?_take]at hv;split at hv
     ·exact hcells ad hh j v hv
     ·cases hv) (by rw[hcsl,←Array.length_toList,hcl];omega) (fun v hv=>hone' v (List.mem_of_mem_take hv))
   rw[hcsl]at run
   have hx':(xs2.take (min news.length es.length*i.size)++cur.toList.drop (min news.length es.length*i.size)).take (es.length*i.size)=xs2.take (min news.length es.length*i.size)++xs.drop (min news.length es.length*i.size):=by
    rw[List.take_append,List.take_of_length_le (by rw[hcsl];exact hle2),hcsl,←e9,List.drop_take]
   have hcurl:(xs2.take (min news.length es.length*i.size)++cur.toList.drop (min news.length es.length*i.size)).length=cap*i.size:=by
    rw[List.length_append,hcsl,List.length_drop,hcl];omega
   have hlen:(news.take (min news.length es.length)++es.drop (min news.length es.length)).length=es.length:=by
    rw[List.length_append,List.length_take,List.length_drop];omega
   refine fin run (SR.turn h hlive (by simp) (by rw[e3];exact Np w g _) (fun _ _ hh=>hh) (fun _ hh=>by cases hh) fun hkk hz=>⟨xs2.take (min news.length es.length*i.size)++xs.drop (min news.length es.length*i.size),Ds.of ⟨?_,.inr ⟨g,cap,_, ?_,e4,setRow_heap w g _ _ _ _ e5, ?_,e7,by simpa using hcurl, ?_⟩⟩,AW.keep hkk (Mv (Pz _ hf2) (Pv _ hf))⟩)
   ·rw[←hx',List.length_take,hlen,hcurl];omega
   ·rw[e3,hlen]
   ·rw[hlen];exact e6
   ·rw[hlen];exact hx'
end
section
variable {P:Program} {G:Nat→List CV} {w0:WL} {M0:MM} {n:Nat} {st:St} {a:Act} {w w':World} {z:Cz}
def Fr(w:World)(r:Nat)(o:Obj):World:={w with heap:=w.heap.setIfInBounds r o}
theorem Jx{r:Nat}{o o':Obj}(h:w.heap[r]? =some o)(hm:∀c t f,o≠ .cells c t f):(setObj r o').run P w=.ok () (Fr w r o'):=by
 simp only[setObj,Sem.run,h];cases o<;>first|exact absurd rfl (hm _ _ _)|rfl
theorem Tn{r:Nat}{o o':Obj}(h:w.heap[r]? =some o):(Fr w r o').heap[r]? =some o':=by
 have:=heap_lt h;simp[Fr,this]
theorem O6(w:World)(r:Nat)(o:Obj):w.grownBy (Fr w r o) (some r):=by
 refine⟨rfl,rfl,rfl,by simp[Fr],fun k _ hk=> ?_⟩;simp only[Fr,Array.getElem?_setIfInBounds];rw[if_neg (fun e=>hk (by rw[e]))]
theorem H5(h:SR P G w0 M0 n st a w z){id:Nat}{mt:TypeId}{kt:KT}{zc:CV}{ks vs:List CV}(hob:st.ob id=.map mt kt zc ks vs):
  Fk P mt=some (kt,zc)∧∃(ks' vs':List CV) (r:Nat) (ens:List MapEntry) (clk:Nat),MP ks vs ks' vs'∧z.σ id=.map (some r)∧w.heap[r]? =some (.map ⟨ens⟩ clk)∧JI w (Ao M0 z st.ob) (z.β id) kt ks' vs' ens clk:=by
 have:=h.ob id;rw[hob]at this;exact this
theorem NC{id:Nat}{mt:TypeId}{kt:KT}{zc:CV}{ks vs:List CV}(hob:st.ob id=.map mt kt zc ks vs):st.ob id≠ .none:=by rw[hob];simp
theorem map_set(h:SR P G w0 M0 n st a w z){id:Nat}{mt:TypeId}{kt:KT}{zc:CV}{ks vs:List CV}{r:Nat}{ens:List MapEntry}{clk:Nat}(hσ:z.σ id=.map (some r))(hh:w.heap[r]? =some (.map ⟨ens⟩ clk))
  {ks0 vs0 ks1 vs1:List CV} (hob:st.ob id=.map mt kt zc ks0 vs0) (hmt:Fk P mt=some (kt,zc)) (hB:JI w (Ao M0 z st.ob) (z.β id) kt ks vs ens clk)
  {i:Nat} {k v:CV} (hmp:MP ks1 vs1 ks (vs.set i v)) {vk vv:Value} (hk:ks[i]? =some k) (hvk:RelC w (Ao M0 z st.ob) k vk) (hvv:RelC w (Ao M0 z st.ob) v vv) (β':CV→Nat→Prop) (hβ:∀k b,z.β id k b→β' k b)
  (hβ':∀k b,β' k b→z.β id k b∨∃en,ens[i]? =some en∧ks[i]? =some k∧en.born=b):
  SR P G w0 M0 n {st with ob:=upd st.ob id (.map mt kt zc ks1 vs1)} a (Fr w r (.map ((⟨ens⟩:Array MapEntry).modify i (fun e=>{e with key:=vk,val:=vv})) clk)) {z with β:=upd z.β id β'}:=by
 obtain⟨h1,h2,h3,h4,h5,h6,h7⟩:=hB;have hi:i<ks.length:=(Ae.1 hk).1;have hil:i<ens.length:=by have:=h1.length;rw[List.length_map]at this;omega
 have hE:ens[i]? =some (ens[i]'hil):=Ai _;obtain⟨v0,g1,g2⟩:=h1.get hk;rw[List.getElem?_map,hE]at g1;simp only[Option.map_some,Ac]at g1
 have hkey:ens[i].key=vk:=by
  rw[g1];exact(MO (h3 k (List.mem_of_getElem? hk)) g2 hvk).1
 have hl:((⟨ens⟩:Array MapEntry).modify i (fun e=>{e with key:=vk,val:=vv})).toList=ens.set i {ens[i]with key:=vk,val:=vv}:=by
  apply List.ext_getElem?;intro j;rw[Array.getElem?_toList,Array.getElem?_modify,List.getElem?_set];by_cases hj:i=j
  ·subst hj;simp[hil]
  ·simp[hj]
 have hkeys:((ens.set i {ens[i]with key:=vk,val:=vv}).map (·.key))=ens.map (·.key):=by
  rw[List.map_set];apply List.ext_getElem?;intro j;rw[List.getElem?_set];by_cases hj:i=j
  ·subst hj;simp[hil,hkey]
  ·simp[hj]
 have hborns:((ens.set i {ens[i]with key:=vk,val:=vv}).map (·.born))=ens.map (·.born):=by
  rw[List.map_set];apply List.ext_getElem?;intro j;rw[List.getElem?_set];by_cases hj:i=j
  ·subst hj;simp[hil]
  ·simp[hj]
 have hob':((⟨ens⟩:Array MapEntry).modify i (fun e=>{e with key:=vk,val:=vv}))=⟨ens.set i {ens[i]with key:=vk,val:=vv}⟩:=Array.toList_inj.1 hl;rw[hob'];refine SR.turn h (NC hob) (by simp) (by rw[hσ];exact O6 w r _) hβ (fun _ hh=>by cases hh) fun hkp hz=>⟨hmt,_,_,r,_,clk,hmp,hσ,Tn hh, ?_, ?_,h3,h4, ?_, ?_, ?_⟩
 ·rw[hkeys];exact RelL.keep hkp _ _ h1
 ·rw[List.map_set];exact RelL.set i (RelL.keep hkp _ _ h2) (RelC.keep hkp _ _ hvv)
 ·intro en hen;rcases List.mem_or_eq_of_mem_set hen with hen|hen
  ·exact h5 en hen
  ·rw[hen];exact h5 ens[i] (List.mem_of_getElem? hE)
 ·rw[hborns];exact h6
 ·intro k' b hb;simp only[AZ]at hb
  have put:∀(j:Nat) (en:MapEntry),ens[j]? =some en→en.born=b→∃en',(ens.set i {ens[i]with key:=vk,val:=vv})[j]? =some en'∧en'.born=b:=by
   intro j en hj hb';rw[List.getElem?_set];by_cases hij:i=j
   ·subst hij;rw[hE]at hj;simp only[Ac]at hj;subst hj;exact⟨{ens[i]with key:=vk,val:=vv},by simp[hil],hb'⟩
   ·exact⟨en,by simp[hij,hj],hb'⟩
  rcases hβ' k' b hb with hb|⟨en,h8,h9,h10⟩
  ·obtain⟨j,en,g3,g4,g5⟩:=h7 k' b hb;obtain⟨en',g6,g7⟩:=put j en g4 g5;exact⟨j,en',g3,g6,g7⟩
  ·obtain⟨en',g6,g7⟩:=put i en h8 h10;exact⟨i,en',h9,g6,g7⟩
theorem RF(h:SR P G w0 M0 n st a w z){id:Nat}{mt:TypeId}{kt:KT}{zc:CV}{ks vs:List CV}{r:Nat}{ens:List MapEntry}{clk:Nat}(hσ:z.σ id=.map (some r))(hh:w.heap[r]? =some (.map ⟨ens⟩ clk))
  {ks0 vs0 ks1 vs1:List CV} (hob:st.ob id=.map mt kt zc ks0 vs0) (hmt:Fk P mt=some (kt,zc)) (hB:JI w (Ao M0 z st.ob) (z.β id) kt ks vs ens clk)
  {k v:CV} (hmp:MP ks1 vs1 (ks++ [k]) (vs++ [v])) {vk vv:Value} (hc:AI kt k=true) (hk:k∉ks) (hvk:RelC w (Ao M0 z st.ob) k vk) (hvv:RelC w (Ao M0 z st.ob) v vv) (β':CV→Nat→Prop) (hβ:∀k b,z.β id k b→β' k b)
  (hβ':∀k' b,β' k' b→z.β id k' b∨(k'=k∧b=clk)):
  SR P G w0 M0 n {st with ob:=upd st.ob id (.map mt kt zc ks1 vs1)} a (Fr w r (.map ((⟨ens⟩:Array MapEntry).push {key:=vk,val:=vv,born:=clk}) (clk+1))) {z with β:=upd z.β id β'}:=by
 obtain⟨h1,h2,h3,h4,h5,h6,h7⟩:=hB;have hp:(⟨ens⟩:Array MapEntry).push {key:=vk,val:=vv,born:=clk}=⟨ens++ [{key:=vk,val:=vv,born:=clk}]⟩:=Array.toList_inj.1 (by simp);rw[hp];have hkl:ks.length=ens.length:=by have:=h1.length;rw[List.length_map]at this;omega
 refine SR.turn h (NC hob) (by simp) (by rw[hσ];exact O6 w r _) hβ (fun _ hh=>by cases hh) fun hkp hz=>⟨hmt,_,_,r,_,clk+1,hmp,hσ,Tn hh, ?_, ?_, ?_, ?_, ?_, ?_, ?_⟩
 ·rw[List.map_append];exact(RelL.keep hkp _ _ h1).append (RelL.cons (RelC.keep hkp _ _ hvk) RelL.nil)
 ·rw[List.map_append];exact(RelL.keep hkp _ _ h2).append (RelL.cons (RelC.keep hkp _ _ hvv) RelL.nil)
 ·intro c hcm;rcases List.mem_append.1 hcm with hcm|hcm
  ·exact h3 c hcm
  ·rw[List.mem_singleton.1 hcm];exact hc
 ·rw[List.nodup_append];refine⟨h4,by simp,fun x hx y hy=> ?_⟩;rw[List.mem_singleton.1 hy];intro e;exact hk (e▸hx)
 ·intro en hen;rcases List.mem_append.1 hen with hen|hen
  ·have:=h5 en hen;omega
  ·rw[List.mem_singleton.1 hen];simp
 ·rw[List.map_append,List.nodup_append];refine⟨h6,by simp,fun x hx y hy=> ?_⟩;simp only[List.map_cons,List.map_nil,List.mem_singleton]at hy;subst hy;obtain⟨en,hen,rfl⟩:=List.mem_map.1 hx;have:=h5 en hen;omega
 ·intro k' b hb;simp only[AZ]at hb;rcases hβ' k' b hb with hb|⟨rfl,rfl⟩
  ·obtain⟨j,en,g3,g4,g5⟩:=h7 k' b hb;have hj1:=(Ae.1 g3).1;have hj2:=(Ae.1 g4).1;exact⟨j,en,by rw[List.getElem?_append_left hj1];exact g3,by rw[List.getElem?_append_left hj2];exact g4,g5⟩
  ·exact⟨ks.length,{key:=vk,val:=vv,born:=b},by simp,by rw[hkl];simp,rfl⟩
end
section
variable {P:Program} {G:Nat→List CV} {w0:WL} {M0:MM} {n:Nat} {st:St} {a:Act} {w w':World} {z:Cz}
theorem Q6(h:SR P G w0 M0 n st a w z){o:Oper}{t:TypeId}{m k x:Operand}(ho:o.op=.mapUpdate t m k x∨o.op=.insert t m k x)(hdst:o.dst=none){sm sk sx:SO}(hm:An m=some sm)(hk:An k=some sk)(hx:An x=some sx){st':St}
  (hv:AY none (so G st.fr) st (.mapupd t sm sk sx)=some st'):Dn P G w0 M0 n st' a w o:=by
 have hr:=h.ctx.opd hm;have hr2:=h.ctx.opd hk;have hr3:=h.ctx.opd hx;simp only[AY]at hv;generalize so G st.fr sm=q at hr hv;generalize so G st.fr sk=q2 at hr2 hv;generalize so G st.fr sx=q3 at hr3 hv;split at hv<;>(try cases hv;done);rename_i id kc vc;obtain⟨hlive,e1⟩:=hr;cases hob:st.ob id<;>simp only[hob,reduceCtorEq]at hv;rename_i mt kt zc ks vs;simp only[Ad,Ac]at hv;obtain⟨⟨rfl,hc⟩,rfl⟩:=hv;obtain⟨hmt,ks',vs',r,ens,clk,hmp,e2,hh,hB⟩:=H5 h hob;have hB0:=hB;obtain⟨h1,h2,h3,h4,h5,h6,h7⟩:=hB0;obtain⟨kty,ety,i,vz,hu,hkt,hi,hz,hzc⟩:=NJ hmt;have hIP:=Ns hmp h4 hc vc;have rc:=O2 (P:=P) hkt false hr2 hc;have rf:=O3 (P:=P) hkt hr2 hc h1 h3
 have fin:∀{w' z' st'},(Instr.mapUpdate mt (a.eval m) (a.eval k) (a.eval x)).run P w=.ok () w'→SR P G w0 M0 n st' a w' z'→Dn P G w0 M0 n st' a w o:=by
  intro w' z' st' hrun hS;refine .inr ⟨w',z',by rcases ho with ho|ho<;>simp[execOp,ho,hrun], ?_⟩;rw[hdst];exact hS
 have base:(Instr.mapUpdate mt (a.eval m) (a.eval k) (a.eval x)).run P w=(match BG ens (AJ kt kc ks')with
   |some (i,_)=>(do
    let key←Instr.keyThatStays ((((⟨ens⟩:Array MapEntry)[i]?).map MapEntry.key).getD (a.eval k)) (a.eval k)
    setObj r (.map ((⟨ens⟩:Array MapEntry).modify i fun e=>{e with key,val:=a.eval x}) clk):Sem Unit)
   |none=>setObj r (.map ((⟨ens⟩:Array MapEntry).push {key:=a.eval k,val:=a.eval x,born:=clk}) (clk+1))).run P w:=by
  rw[e1,e2];simp only[Instr.mapUpdate,Sem.run_bind,run_underlying hu,Result.andThen_ok,getObj,Sem.run,hh,rc,rf];cases BG ens (AJ kt kc ks')<;>rfl
 cases hf:AJ kt kc ks' with
 |none=>
  have hfa:BG ens (AJ kt kc ks')=none:=by rw[hf];rfl
  rw[hfa]at base;have e3:Bk kt ks' kc=ks'++ [kc]:=by simp[Bk,hf]
  have e4:Bl kt ks' vs' kc vc=vs'++ [vc]:=by simp[Bl,hf]
  rw[e3,e4]at hIP;have hS:=RF h e2 hh hob hmt hB hIP hc (H0 hc hf) hr2 hr3 (z.β id) (fun _ _ hh=>hh) (fun _ _ hh=>.inl hh);refine fin ?_ hS;rw[base];exact Jx hh (fun _ _ _ hh=>by cases hh)
 |some i=>
  have hki:=FI hf;have hil:i<ens.length:=by have:=h1.length;rw[List.length_map]at this;have:=(Ae.1 hki).1;omega
  have hE:ens[i]? =some (ens[i]'hil):=Ai _;have hfa:BG ens (AJ kt kc ks')=some (i,ens[i].val):=by rw[hf];simp[BG,hE]
  rw[hfa]at base;obtain⟨v0,g1,g2⟩:=h1.get hki;rw[List.getElem?_map,hE]at g1;simp only[Option.map_some,Ac]at g1;have e3:Bk kt ks' kc=ks':=by simp[Bk,hf]
  have e4:Bl kt ks' vs' kc vc=vs'.set i vc:=by simp[Bl,hf]
  rw[e3,e4]at hIP;have hS:=map_set h e2 hh hob hmt hB hIP hki hr2 hr3 (z.β id) (fun _ _ hh=>hh) (fun _ _ hh=>.inl hh);refine fin ?_ hS;rw[base];have hEa:(⟨ens⟩:Array MapEntry)[i]? =some ens[i]:=by rw[←Array.getElem?_toList];exact hE
  have hst:=T1 (P:=P) hc (M:=Ao M0 z st.ob) (M':=Ao M0 z st.ob) (u:=ens[i].key) (v:=a.eval k) (by rw[g1];exact g2) hr2 w;simp only[hEa,Option.map_some,Option.getD_some,Sem.run_bind,hst,Result.andThen_ok];exact Jx hh (fun _ _ _ hh=>by cases hh)
theorem VW(h:SR P G w0 M0 n st a w z){o:Oper}{t:TypeId}{m k:Operand}(ho:o.op=.mapEntry t m k)(hd:∀j,o.dst=some j→j<n){sm sk:SO}(hm:An m=some sm)(hk:An k=some sk){st':St}
  (hv:AY o.dst (so G st.fr) st (.mapent t sm sk)=some st'):Dn P G w0 M0 n st' a w o:=by
 have hr:=h.ctx.opd hm;have hr2:=h.ctx.opd hk;simp only[AY]at hv;generalize so G st.fr sm=q at hr hv;generalize so G st.fr sk=q2 at hr2 hv;split at hv<;>(try cases hv;done);rename_i id kc;obtain⟨hlive,e1⟩:=hr;cases hob:st.ob id<;>simp only[hob,reduceCtorEq]at hv;rename_i mt kt zc ks vs;simp only[Ad,Ac]at hv;obtain⟨⟨rfl,hc,-⟩,rfl⟩:=hv;obtain⟨hmt,ks',vs',r,ens,clk,hmp,e2,hh,hB⟩:=H5 h hob;have hB0:=hB;obtain⟨h1,h2,h3,h4,h5,h6,h7⟩:=hB0;obtain⟨kty,ety,i,vz,hu,hkt,hi,hz,hzc⟩:=NJ hmt;have hIP:=fun v=>Ns hmp h4 hc v;rw[NF (zc:=zc) hmp h4 hc];have rc:=O2 (P:=P) hkt false hr2 hc;have rf:=O3 (P:=P) hkt hr2 hc h1 h3
 have fin:∀{w' z' v st1},(Instr.mapEntry mt (a.eval m) (a.eval k)).run P w=.ok v w'→SR P G w0 M0 n st1 a w' z'→Ar w' (Ao M0 z' st1.ob) z' st1.ob (.ent id kc (AX kt zc ks' vs' kc).1) v→
   Dn P G w0 M0 n (St.set st1 o.dst (.ent id kc (AX kt zc ks' vs' kc).1)) a w o:=by
  intro w' z' v st1 hrun hS hs;exact .inl ⟨v,w',z',by simp[execOp,ho,hrun],hS.put hd hs⟩
 have base:(Instr.mapEntry mt (a.eval m) (a.eval k)).run P w=(match BG ens (AJ kt kc ks')with
   |some (i,v)=>(do
    let key←Instr.keyThatStays ((((⟨ens⟩:Array MapEntry)[i]?).map MapEntry.key).getD (a.eval k)) (a.eval k)
    setObj r (.map ((⟨ens⟩:Array MapEntry).modify i fun e=>{e with key}) clk)
    pure (.tuple #[v,goInt ((((⟨ens⟩:Array MapEntry)[i]?).map (fun(x:MapEntry)=>(x.born:Int))).getD 0)]):Sem Value)
   |none=>(do
    let zero←zeroValue ety
    setObj r (.map ((⟨ens⟩:Array MapEntry).push {key:=a.eval k,val:=zero,born:=clk}) (clk+1))
    pure (.tuple #[zero,goInt clk]):Sem Value)).run P w:=by
  rw[e1,e2];simp only[Instr.mapEntry,Sem.run_bind,run_underlying hu,Result.andThen_ok,getObj,Sem.run,hh,rc,rf];cases BG ens (AJ kt kc ks')<;>rfl
 cases hf:AJ kt kc ks' with
 |none=>
  have hfa:BG ens (AJ kt kc ks')=none:=by rw[hf];rfl
  rw[hfa]at base;have hzr:RelC w (Ao M0 z st.ob) zc vz:=ED _ _ _ _ hzc;have hlook:AX kt zc ks' vs' kc=(zc,false):=by simp[AX,hf]
  have e3:Bk kt ks' kc=ks'++ [kc]:=by simp[Bk,hf]
  have e4:Bl kt ks' vs' kc zc=vs'++ [zc]:=by simp[Bl,hf]
  have hIP:=hIP zc;rw[e3,e4]at hIP;have hS:=RF h e2 hh hob hmt hB hIP hc (H0 hc hf) hr2 hzr (fun k' b=>z.β id k' b∨(k'=kc∧b=clk)) (fun _ _ hh=>.inl hh) (fun _ _ hh=>hh);rw[hlook]at fin⊢;refine fin (v:=.tuple #[vz,goInt clk]) ?_ hS ⟨by simp[AZ],clk,vz,by simp[AZ],rfl,ED _ _ _ _ hzc⟩;rw[base];simp only[Sem.run_bind,Jt hi hz,Result.andThen_ok,Jx hh (fun _ _ _ hh=>by cases hh),Sem.run_pure]
 |some i=>
  have hki:=FI hf;have hil:i<ens.length:=by have:=h1.length;rw[List.length_map]at this;have:=(Ae.1 hki).1;omega
  have hE:ens[i]? =some (ens[i]'hil):=Ai _;have hfa:BG ens (AJ kt kc ks')=some (i,ens[i].val):=by rw[hf];simp[BG,hE]
  rw[hfa]at base;obtain⟨v0,g1,g2⟩:=h1.get hki;rw[List.getElem?_map,hE]at g1;simp only[Option.map_some,Ac]at g1;have hvl:i<vs'.length:=by have:=h2.length;rw[List.length_map]at this;omega
  have hV:vs'[i]? =some (vs'[i]'hvl):=Ai _;obtain⟨v1,g3,g4⟩:=h2.get hV;rw[List.getElem?_map,hE]at g3;simp only[Option.map_some,Ac]at g3;have hlook:AX kt zc ks' vs' kc=(vs'[i],true):=by simp[AX,hf,hV]
  have e3:Bk kt ks' kc=ks':=by simp[Bk,hf]
  have e4:Bl kt ks' vs' kc vs'[i]=vs'.set i vs'[i]:=by simp[Bl,hf]
  have hIP:=hIP vs'[i];rw[e3,e4]at hIP
  have hS:=map_set h e2 hh hob hmt hB hIP hki hr2 (v:=vs'[i]) (vv:=ens[i].val) (by rw[g3];exact g4) (fun k' b=>z.β id k' b∨(k'=kc∧b=ens[i].born)) (fun _ _ hh=>.inl hh) (fun k' b hb=>by
   rcases hb with hb|⟨rfl,rfl⟩
   ·exact .inl hb
   ·exact .inr ⟨_,hE,hki,rfl⟩)
  rw[hlook]at fin⊢;have hEa:(⟨ens⟩:Array MapEntry)[i]? =some ens[i]:=by rw[←Array.getElem?_toList];exact hE
  have hmod:((⟨ens⟩:Array MapEntry).modify i fun e=>{e with key:=a.eval k})=((⟨ens⟩:Array MapEntry).modify i fun e=>{e with key:=a.eval k,val:=ens[i].val}):=by
   apply Array.ext_getElem?;intro j;rw[Array.getElem?_modify,Array.getElem?_modify];by_cases hj:i=j
   ·subst hj;simp[hil]
   ·simp[hj]
  refine fin (v:=.tuple #[ens[i].val,goInt ens[i].born]) ?_ hS ⟨by simp[AZ],ens[i].born,ens[i].val,by simp[AZ],rfl, ?_⟩
  ·rw[base];have hst:=T1 (P:=P) hc (M:=Ao M0 z st.ob) (M':=Ao M0 z st.ob) (u:=ens[i].key) (v:=a.eval k) (by rw[g1];exact g2) hr2 w;simp only[hEa,Option.map_some,Option.getD_some,Sem.run_bind,hst,Result.andThen_ok,hmod,Jx hh (fun _ _ _ hh=>by cases hh),Sem.run_pure]
  ·rw[g3];exact RelC.keep (SR.turnK (NC hob) (by simp) (by rw[e2];exact O6 w r _)) _ _ g4
theorem ZH{o:Oper}{st':St}{z':Cz}(hdst:o.dst=none)(hS:SR P G w0 M0 n st' a w' z')(run:(execOp a.eval o).run P w=.ok .skip w'):Dn P G w0 M0 n st' a w o:=
 .inr ⟨w',z',run,by rw[hdst];exact hS⟩
theorem VV(h:SR P G w0 M0 n st a w z){o:Oper}{t:TypeId}{m s x:Operand}(ho:o.op=.entryStore t m s x)(hdst:o.dst=none){sm ss sx:SO}(hm:An m=some sm)(hs:An s=some ss)(hx:An x=some sx){st':St}
  (hv:AY none (so G st.fr) st (.entst sm ss sx)=some st'):Dn P G w0 M0 n st' a w o:=by
 have hr:=h.ctx.opd hm;have hr2:=h.ctx.opd hs;have hr3:=h.ctx.opd hx;simp only[AY]at hv;generalize so G st.fr sm=q at hr hv;generalize so G st.fr ss=q2 at hr2 hv;generalize so G st.fr sx=q3 at hr3 hv;split at hv<;>(try cases hv;done);rename_i id id' kc vc;obtain⟨hlive,e1⟩:=hr;obtain⟨_,b,hb,e5⟩:=hr2;cases hob:st.ob id<;>simp only[hob,reduceCtorEq]at hv;rename_i mt kt zc ks vs;simp only[Ad,Ac]at hv;obtain⟨rfl,rfl⟩:=hv;obtain⟨hmt,ks',vs',r,ens,clk,hmp,e2,hh,hB⟩:=H5 h hob;have hB0:=hB;obtain⟨h1,h2,h3,h4,h5,h6,h7⟩:=hB0;obtain⟨i,en,hki,hE,hen⟩:=h7 kc b hb;have hc:=h3 kc (List.mem_of_getElem? hki);have hf:=KQ hc h4 hki;have hIP:=Ns hmp h4 hc vc;have hil:=(Ae.1 hE).1;have hE':ens[i]=en:=by rw[Ai hil]at hE;simpa using hE
 obtain⟨v0,g1,g2⟩:=h1.get hki;rw[List.getElem?_map,hE]at g1;simp only[Option.map_some,Ac]at g1
 have hfind:(⟨ens⟩:Array MapEntry).findIdx? (fun e=>(e.born:Int)==(b:Int))=some i:=by
  rw[Array.findIdx?_eq_some_iff_getElem];refine⟨by simpa using hil,by simp[hE',hen],fun j hj=> ?_⟩;have hjl:j<ens.length:=by omega
  simp only[beq_iff_eq,Int.natCast_inj];intro hbj;have e6:(ens.map (·.born))[j]? =some b:=by simp[Ai hjl];simpa using hbj
  have e7:(ens.map (·.born))[i]? =some b:=by simp[Ai hil,hE',hen]
  have:=(List.getElem?_inj (by simpa using hjl) h6).1 (e6.trans e7.symm);omega
 have e3:Bk kt ks' kc=ks':=by simp[Bk,hf]
 have e4:Bl kt ks' vs' kc vc=vs'.set i vc:=by simp[Bl,hf]
 rw[e3,e4]at hIP
 have e3':Bk kt ks kc=ks:=by
  obtain⟨j,v,k1,k2,k3⟩:=hmp.symm.at_ hki;have hnn:ks.Nodup:=(hmp.ks.nodup_iff).1 h4;simp[Bk,KQ hc hnn k2]
 rw[e3']at hIP;have hS:=map_set h e2 hh hob hmt hB hIP hki (vk:=ens[i].key) (by rw[hE',g1];exact g2) hr3 (z.β id) (fun _ _ hh=>hh) (fun _ _ hh=>.inl hh)
 have hmod:((⟨ens⟩:Array MapEntry).modify i fun e=>{e with val:=a.eval x})=((⟨ens⟩:Array MapEntry).modify i fun e=>{e with key:=ens[i].key,val:=a.eval x}):=by
  apply Array.ext_getElem?;intro j;rw[Array.getElem?_modify,Array.getElem?_modify];by_cases hj:i=j
  ·subst hj;simp[hil]
  ·simp[hj]
 have run:(Instr.entryStore t (a.eval m) (a.eval s) (a.eval x)).run P w=.ok () (Fr w r (.map ((⟨ens⟩:Array MapEntry).modify i fun e=>{e with key:=ens[i].key,val:=a.eval x}) clk)):=by
  rw[e1,e2,e5];simp only[Instr.entryStore,Sem.run_bind,getObj,Sem.run,hh,asInt,asIntOf,Sem.run_pure,Result.andThen_ok,hfind,hmod,Jx hh (fun _ _ _ hh=>by cases hh)]
 refine ZH hdst hS ?_;simp only[execOp,ho,Sem.run_bind,run,Result.andThen_ok,Sem.run_pure]
def G8:SOp→Bool
 | .store .. | .entst .. | .mapupd .. =>true
 |_=>false
theorem VX(h:SR P G w0 M0 n st a w z){o:Oper}{sop:SOp}(hc:BC P o=some sop)(hcls:sop.cls=.eff)(hd:∀j,o.dst=some j→j<n)(hm:G8 sop=true→o.dst=none){st':St}
  (hv:AY o.dst (so G st.fr) st sop=some st'):Dn P G w0 M0 n st' a w o:=by
 unfold BC at hc;split at hc<;>rename_i ho<;>(try cases hc;done)
 ·simp only[Aa]at hc;obtain⟨_,_,rfl⟩:=hc;cases hcls
 ·simp only[Aa]at hc;obtain⟨_,_,rfl⟩:=hc;cases hcls
 ·simp only[Ab,Aa]at hc;obtain⟨_,_,_,_,_,_,rfl⟩:=hc;cases hcls
 ·split at hc<;>(simp only[Ab,Aa]at hc;obtain⟨_,_,_,_,_,_,rfl⟩:=hc;cases hcls)
 ·simp only[Aa]at hc;obtain⟨_,_,rfl⟩:=hc;cases hcls
 ·simp only[Ab,Aa]at hc;obtain⟨_,_,_,_,_,_,_,_,rfl⟩:=hc;cases hcls
 ·split at hc<;>(try cases hc;done);simp only[Ab,Ad,Ac]at hc;obtain⟨_,_,_,_,_,_,_,_,_,rfl⟩:=hc;cases hcls
 ·simp only[Ab,Aa]at hc;obtain⟨_,_,_,_,rfl⟩:=hc;cases hcls
 ·
  simp only[Ab,Aa]at hc;obtain⟨i,hi,sa,hsa,sx,hsx,rfl⟩:=hc;have hdn:=hm rfl;rw[hdn]at hv;exact VY h ho hdn hi hsa hsx hv
 ·have:=Gn hc;rw[hcls]at this;cases this
 ·simp only[Aa]at hc;obtain⟨_,_,rfl⟩:=hc;cases hcls
 ·have:=Hg hc;rw[hcls]at this;rcases this with h'|h'<;>cases h'
 ·simp only[Aa]at hc;obtain⟨_,_,rfl⟩:=hc;cases hcls
 ·split at hc<;>(try cases hc;done);all_goals(simp only[Ad,Aa]at hc;obtain⟨_,_,_,rfl⟩:=hc;cases hcls)
 ·simp only[Aa,Prod.exists]at hc;obtain⟨_,_,_,rfl⟩:=hc;cases hcls
 ·split at hc<;>(try cases hc;done);simp only[Ab,Ad,Ac]at hc;obtain⟨_,_,_,_,_,_,_,_,_,_,_,rfl⟩:=hc;cases hcls
 ·split at hc<;>(try cases hc;done);simp only[Ab,Aa]at hc;obtain⟨_,_,_,_,_,_,_,_,_,_,rfl⟩:=hc;cases hcls
 ·split at hc<;>(try cases hc;done)
  ·simp only[Ab,Aa]at hc;obtain⟨_,_,_,_,_,_,rfl⟩:=hc;cases hcls
  ·simp only[Ab,Aa]at hc;obtain⟨_,_,_,_,_,_,_,_,rfl⟩:=hc;cases hcls
  ·split at hc<;>(try cases hc;done);simp only[Ab,Ad,Aa]at hc;obtain⟨_,_,_,_,_,rfl⟩:=hc;cases hcls
 ·split at hc<;>(try cases hc;done)
  ·simp only[Aa]at hc;obtain⟨_,_,rfl⟩:=hc;cases hcls
  ·simp only[Ab,Option.ite_none_left_eq_some,Aa]at hc;obtain⟨_,_,_,_,_,_,_,rfl⟩:=hc;cases hcls
 ·split at hc<;>(try cases hc;done);simp only[Ab,Aa]at hc;obtain⟨_,_,_,_,_,_,rfl⟩:=hc;cases hcls
 ·split at hc<;>(try cases hc;done)
  ·simp only[Ab,Option.ite_none_left_eq_some,Aa]at hc;obtain⟨_,_,_,_,_,_,_,rfl⟩:=hc;cases hcls
  ·simp only[Ab,Option.ite_none_left_eq_some,Aa]at hc;obtain⟨_,_,_,_,_,_,_,rfl⟩:=hc;cases hcls
 ·split at hc<;>(try cases hc;done)
  ·simp only[Ab,Aa]at hc;obtain⟨_,_,_,_,rfl⟩:=hc;cases hcls
  ·simp only[Ab,Aa]at hc;obtain⟨_,_,_,_,_,_,_,_,rfl⟩:=hc;cases hcls
 ·simp only[Ab,Aa]at hc;obtain⟨_,_,_,_,_,_,rfl⟩:=hc;cases hcls
 ·split at hc<;>(try cases hc;done);simp only[Ab,Aa]at hc;obtain⟨sm,hsm,sk,hsk,sx,hsx,rfl⟩:=hc;have hdn:=hm rfl;rw[hdn]at hv;exact Q6 h (.inl ho) hdn hsm hsk hsx hv
 ·split at hc<;>(try cases hc;done);simp only[Ab,Aa]at hc;obtain⟨sm,hsm,sk,hsk,sx,hsx,rfl⟩:=hc;have hdn:=hm rfl;rw[hdn]at hv;exact Q6 h (.inr ho) hdn hsm hsk hsx hv
 ·split at hc<;>(try cases hc;done);simp only[Ab,Aa]at hc;obtain⟨sm,hsm,sk,hsk,rfl⟩:=hc;exact VW h ho hd hsm hsk hv
 ·simp only[Ab,Aa]at hc;obtain⟨sm,hsm,ss,hss,sx,hsx,rfl⟩:=hc;have hdn:=hm rfl;rw[hdn]at hv;exact VV h ho hdn hsm hss hsx hv
 ·split at hc<;>(try cases hc;done);all_goals(simp only[Aa]at hc;obtain⟨_,_,rfl⟩:=hc;cases hcls)
 ·simp only[Aa]at hc;obtain⟨_,_,rfl⟩:=hc;cases hv
 ·simp only[Aa]at hc;obtain⟨_,_,rfl⟩:=hc;cases hcls
 ·simp only[Aa]at hc;obtain⟨_,_,rfl⟩:=hc;cases hcls
 ·
  rename_i c;obtain⟨callee,args,argTypes⟩:=c;unfold DX at hc;split at hc<;>(try cases hc;done)
  ·split at hc<;>first
    |(cases hc;done)
    |(simp only[Aa]at hc;obtain⟨_,_,rfl⟩:=hc;cases hcls)
    |(simp only[Ac]at hc;subst hc;cases hcls)
  ·simp only[Aa]at hc;obtain⟨_,_,rfl⟩:=hc;cases hcls
  ·simp only[Aa]at hc;obtain⟨_,_,rfl⟩:=hc;cases hcls
  ·rename_i hcal;simp only at hcal;subst hcal;split at hc<;>(try cases hc;done);rename_i x y t u hargs hat
   split at hc<;>(try cases hc;done);rename_i e _ hu _;simp only[Ab,Ad,Ac]at hc;obtain⟨i,hi,zv,hz,sx,hsx,sy,hsy,⟨rfl,h0,hzs⟩,rfl⟩:=hc;exact VT h ho hargs hat hu hi hz hzs h0 hd hsx hsy hv
  ·rename_i hcal;simp only at hcal;subst hcal;split at hc<;>(try cases hc;done);rename_i x y t u hargs hat
   split at hc<;>(try cases hc;done);rename_i e _ hu _;simp only[Ab,Ad,Ac]at hc;obtain⟨i,hi,sx,hsx,sy,hsy,⟨rfl,h0⟩,rfl⟩:=hc;exact VU h ho hargs hat hu hi h0 hd hsx hsy hv
  ·split at hc<;>(try cases hc;done);rcases EA hc with⟨l,hl,rfl⟩|⟨_,_,_,_,_,_,_,rfl⟩<;>cases hcls
  ·simp only[Aa]at hc;obtain⟨_,_,rfl⟩:=hc;cases hcls
end
def z0(v:Value)(al:Nat→Nat:=fun _=>0):Cz:={σ:=fun _=>v,β:=fun _ _ _=>False,al:=al}
def ob0:Nat→Ob:=fun _=>.none
def Gf(P:Program)(w:World)(M:MM)(B:Nat)(v:Value):Res→Prop
 | .val c=>RelC w M c v
 | .new o=>DD o=true∧(∀g,blk v=some g→B≤g∧g<w.heap.size)∧Bf P w ⟨fun g=>M g∨blk v=some g,M.al⟩ B (z0 v) ob0 0 v o
def CallsTo(P:Program)(G:Nat→List CV)(f:FuncId)(args:List CV)(r:Res):Prop:=
 ∀(w:World) (M:MM) (vs:List Value),(∀g,M g→g<w.heap.size)→GOk G w M→RelL w M args vs→
  Calls P f ⟨vs⟩ w fun e w'=>∃v,e=.returned v∧Below w.heap.size w w'∧Gf P w' M w.heap.size v r
def Uf(P:Program)(f:FuncId):Prop:=∀(w:World) (bd clk:Nat) (ps:Option Nat) (ens:List MapEntry),w.heap[bd]? =some (.map ⟨[]⟩ clk)→
 ((ps=none∧ens= [])∨∃bs clk',ps=some bs∧bs≠bd∧w.heap[bs]? =some (.map ⟨ens⟩ clk')∧Ens ens clk')→
 (∀en:MapEntry,en∈ens→∃s:List UInt8,en.key=.string ⟨⟨s⟩⟩∧s.length≤9223372036854775807)→ens.length≤9223372036854775807→
 Calls P f ⟨[.map (some bd),.map ps]⟩ w fun e w'=>e=.returned (.tuple ⟨[]⟩)∧w.grownBy w' (some bd)∧∃(ens':List MapEntry) (clk':Nat),w'.heap[bd]? =some (.map ⟨ens'⟩ clk')∧Ens ens' clk'∧
  (ens'.map fun e=>(e.key,e.val)).Perm (ens.map fun e=>(e.key,e.val))
def Pa(P:Program)(cp:FuncId→Bool):Prop:=∀f,cp f=true→Bs P f=true∧Uf P f
def Ul(P:Program)(E:Env):Prop:=∀f args r,E.fn f args=some r→Bs P f=true∧CallsTo P E.G f args r
structure Id (P:Program) (w:World) (M:MM) (z:Cz) (T:List Nat) (H:Nat→Ob):Prop where
 ob:∀id,Bf P w M 0 z H id (z.σ id) (H id)
 lo:∀id g,H id≠ .none→blk (z.σ id)=some g→g<w.heap.size∧M g
 apart:∀i j g,i≠j→H i≠ .none→H j≠ .none→blk (z.σ i)=some g→blk (z.σ j)≠some g
 told:∀{bt} N cs,As≤N→H N=.box cs bt→z.σ N=.pointer (some ⟨z.al N,0,none⟩)
 only:∀id,H id≠ .none→T.contains id=true
 al:z.al=M.al
def Fu(P:Program)(G:Nat→List CV)(f:FuncId)(T:List Nat)(args:List CV)(H:Nat→Ob)(r:CV)(H':Nat→Ob):Prop:=
 ∀(w:World) (M:MM) (z:Cz) (vs:List Value),(∀g,M g→g<w.heap.size)→GOk G w M→RelL w M args vs→Id P w M z T H→
  Calls P f ⟨vs⟩ w fun e w'=>∃v z',e=.returned v∧(w'.os=w.os∧w'.tape=w.tape∧w'.output=w.output∧w.heap.size≤w'.heap.size∧∀g,g<w.heap.size→¬own z H g→w'.heap[g]? =w.heap[g]?)∧
   Id P w' (Ao M z' H') z' T H'∧(∀id g,H' id≠ .none→blk (z'.σ id)=some g→(H id≠ .none∧blk (z.σ id)=some g)∨w.heap.size≤g)∧z'.al=M.al∧RelC w' (Ao M z' H') r v
def E7(P:Program)(G:Nat→List CV)(f:FuncId)(T:List Nat)(args:List CV)(H:Nat→Ob)(r:CV)(H':Nat→Ob):Prop:=match DF f with
 |none=>Fu P G f T args H r H'
 |some g=>∃l c,args=l++ [c]∧Fu P G g T (c::l) H r H'
def Pb(P:Program)(E:Env):Prop:=∀f e,E.ef f=some e→Bs P ((DF f).getD f)=true∧∀args H r H',e.fn args H=some (r,H')→E7 P E.G f e.T args H r H'
structure EOk (P:Program) (E:Env):Prop where
 fn:Ul P E
 cp:Pa P E.cp
 ef:Pb P E
theorem EOk.at{P:Program}{E:Env}(h:EOk P E)(D:Option (List Nat)):EOk P (E.at D):=by
 cases D with
 |none=>exact h
 |some D=>exact⟨h.fn,h.cp,fun f e he=>by cases he⟩
theorem EOk.named{P:Program}{E:Env}(h:EOk P E):EOk P E.named:=⟨fun f l r hr=>by
 have hr':(match E.fn f l with
  |some (.new o)=>if DD o=true then some (.new o)else none
  |r=>r)=some r:=hr
 split at hr'
 ·rename_i o h1;split at hr'<;>(try cases hr';done);cases hr';exact h.fn f l _ h1
 ·exact h.fn f l _ hr',h.cp,fun f e he=>by
 have he':(match E.ef f with
  |some e=>if(e.T.all fun N=>Nat.ble As N)=true then some e else none
  |none=>none)=some e:=he
 split at he'<;>(try cases he';done);split at he'<;>(try cases he';done);rename_i e' h1 h2;cases he'
 exact h.ef f e h1⟩
section
variable {P:Program} {w w':World} {M M':MM}
mutual
theorem NN(hal:M'.al=M.al):∀(c:CV) (v:Value),memless c=true→RelC w M c v→RelC w' M' c v
 | .int _ _,_,_,h=>by unfold RelC at*;exact h
 | .bool _,_,_,h=>by unfold RelC at*;exact h
 | .str _,_,_,h=>by unfold RelC at*;exact h
 | .nilif,_,_,h=>by unfold RelC at*;exact h
 | .nilfn,_,_,h=>by unfold RelC at*;exact h
 | .adr _,_,_,h=>by unfold RelC at*;exact h
 | .nilp,_,_,h=>by unfold RelC at*;exact h
 | .nam _,_,_,h=>by unfold RelC at*;rw[hal];exact h
 | .bptr _,_,_,h=>by unfold RelC at*;rw[hal];exact h
 | .agg cs,v,hm,h=>by
  unfold RelC at*;obtain⟨vs,e,hl⟩:=h;exact⟨vs,e,IW hal cs vs (by simpa[memless]using hm) hl⟩
 | .tup cs,v,hm,h=>by
  unfold RelC at*;obtain⟨vs,e,hl⟩:=h;exact⟨vs,e,IW hal cs vs (by simpa[memless]using hm) hl⟩
 | .sl _ _,_,hm,_=>by simp[memless]at hm
 | .map _ _ _,_,hm,_=>by simp[memless]at hm
 | .rp _,_,hm,_=>by simp[memless]at hm
 | .wp _,_,hm,_=>by simp[memless]at hm
 | .fn _ _,_,hm,_=>by simp[memless]at hm
 | .ifc,_,hm,_=>by simp[memless]at hm
theorem IW(hal:M'.al=M.al):∀(cs:List CV) (vs:List Value),Cg cs=true→RelL w M cs vs→RelL w' M' cs vs
 | [],_,_,h=>by unfold RelL at*;exact h
 |c::cs,vs,hm,h=>by
  unfold RelL at*;obtain⟨v,vs',e,h1,h2⟩:=h;simp only[Cg,Af]at hm;exact⟨v,vs',e,NN hal c v hm.1 h1,IW hal cs vs' hm.2 h2⟩
end
theorem RH(hal:M'.al=M.al){size:Nat}:∀(cs:List CV) (xs:List Value),Cg cs=true→AW w M size cs xs→AW w' M' size cs xs
 | [],_,_,h=>h
 |c::cs,xs,hm,h=>by
  obtain⟨v,xs',e,h1,h2,h3⟩:=h;simp only[Cg,Af]at hm;exact⟨v,xs',e,h1,NN hal c v hm.1 h2,RH hal cs xs' hm.2 h3⟩
theorem NM:∀(l:List CV),Cg l=true↔∀c∈l,memless c=true
 | []=>by simp[Cg]
 |c::l=>by simp[Cg,NM l]
theorem RI{l l':List CV}(h:l'.Perm l)(hm:Cg l=true):Cg l'=true:=
 (NM l').2 fun c hc=>(NM l).1 hm c (h.mem_iff.1 hc)
theorem Up(hal:M'.al=M.al){B B' id id':Nat}{v:Value}{z z':Cz}{ob ob':Nat→Ob}{o:Ob}(hB:B'≤B)(hh:DD o=true)(hM:∀g,g<w.heap.size→M' g→M g)(hβ:∀k b,¬z'.β id k b)(h:Bf P w M B z ob id' v o):Bf P w M' B' z' ob' id v o:=by
 have hk:Br w M w M':=⟨Nat.le_refl _,fun _ _ _=>rfl,hM,hal⟩;cases o<;>simp[DD]at hh
 ·obtain⟨xs,h1,h2⟩:=h;exact⟨xs,h1.blk (fun _ _=>rfl) hB,AW.keep hk h2⟩
 ·obtain⟨hmt,ks',vs',r,ens,clk,hmp,e,g1,g2,g3,g4,g5,g6,g7,_⟩:=h;exact⟨hmt,ks',vs',r,ens,clk,hmp,e,g1,RelL.keep hk _ _ g2,RelL.keep hk _ _ g3,g4,g5,g6,g7,fun k b hb=>absurd hb (hβ k b)⟩
theorem Uq(hal:M'.al=M.al){B B' id id':Nat}{v:Value}{z z':Cz}{ob ob':Nat→Ob}{o:Ob}(hB:B'≤B)(hm:(Res.new o).memless=true)(hβ:∀k b,¬z'.β id k b)(h:Bf P w M B z ob id' v o):Bf P w M' B' z' ob' id v o:=by
 cases o<;>simp[Res.memless]at hm
 ·obtain⟨xs,h1,h2⟩:=h;exact⟨xs,h1.blk (fun _ _=>rfl) hB,RH hal _ _ hm h2⟩
 ·obtain⟨hmt,ks',vs',r,ens,clk,hmp,e,g1,g2,g3,g4,g5,g6,g7,_⟩:=h;exact⟨hmt,ks',vs',r,ens,clk,hmp,e,g1,IW hal _ _ (RI hmp.ks hm.1) g2,IW hal _ _ (RI hmp.vs hm.2) g3,g4,g5,g6,g7,fun k b hb=>absurd hb (hβ k b)⟩
end
section
variable {P:Program} {E:Env} {w0:WL} {M0:MM} {n:Nat} {st:St} {a:Act} {w w':World} {z:Cz}
def mm0(w0:WL)(M0:MM)(z:Cz):MM:=⟨fun g=>M0 g∧∀id,¬w0.L id g,z.al⟩
theorem SR.outerW{G:Nat→List CV}(h:SR P G w0 M0 n st a w z):∀g,M0 g→g<w.heap.size:=fun g hg=>Nat.lt_of_lt_of_le (h.outer g hg) h.below.size
theorem SR.mutW{G:Nat→List CV}(h:SR P G w0 M0 n st a w z):∀g,Ao M0 z st.ob g→g<w.heap.size:=fun g hg=>by
 rcases hg with hg|⟨id,hl,hb⟩
 ·exact h.outerW g hg
 ·exact(h.lo id g hl hb).2
theorem ML{G:Nat→List CV}(h:SR P G w0 M0 n st a w z){rd:Nat→Ob}(hrd:∀id,rd id=.none∨rd id=st.ob id){s:SV}{v:Value}{c:CV}(hs:Ar w (Ao M0 z st.ob) z st.ob s v)(hc:Cn rd s=some c):RelC w (mm0 w0 M0 z) c v:=by
 have hk:Br w (Ao M0 z st.ob) w (mm0 w0 M0 z):=⟨Nat.le_refl _,fun _ _ _=>rfl,fun g _ hg=>.inl hg.1,rfl⟩;have hout:∀id g,st.ob id≠ .none→blk (z.σ id)=some g→¬mm0 w0 M0 z g:=fun id g hl hb hm=>hm.2 id (h.low hl hb (h.outer g hm.1));cases s<;>(try simp only[Cn,reduceCtorEq]at hc;done)
 ·simp only[Cn,Ac]at hc;subst hc;exact RelC.keep hk _ _ hs
 ·rename_i id;obtain⟨hlive,e⟩:=hs;simp only[Cn]at hc;rcases hrd id with e'|e'
  ·rw[e']at hc;cases hc
  ·rw[e']at hc;cases hob:st.ob id<;>rw[hob]at hc<;>(try simp only[reduceCtorEq]at hc;done);rename_i et sz es;simp only[Ac]at hc;subst hc;have ho:=h.ob id;rw[hob]at ho;obtain⟨xs,hown,hf⟩:=ho;unfold RelC;rcases hown.2 with⟨e1,e2⟩|⟨g,cap,cur,ty,fz,e1,e2,e3,_,_,e4,e5,e6,e7⟩
   ·refine⟨none,0,0,by rw[e,e1],e2.symm,Nat.le_refl _,(fun hh=>by cases hh),(fun hh=>by cases hh),fun _=>rfl,fun hne=> ?_⟩;exact absurd (List.eq_nil_of_length_eq_zero e2) hne
   ·refine⟨some ⟨g,0,none⟩,es.length,cap,by rw[e,e1],rfl,e4,(fun hh=>by cases hh),(fun hh=>by cases hh),(fun hh=>by cases hh),fun _=>⟨⟨g,0,none⟩,sz,rfl,heap_lt e3,hout id g hlive (by rw[e1];rfl), ?_⟩⟩;refine E9 fun k el hel=> ?_;obtain⟨u,g1,g2,g3⟩:=Fw hf hel;refine⟨u,RelC.keep hk _ _ g1,g2,fun j u' hu=> ?_⟩;rw[Do,cell_of_row w g _ cur ty fz e3];have h8:=g3 j u' hu;rw[←e7,List.getElem?_take]at h8;split at h8
    ·simpa using h8
    ·cases h8
 ·rename_i id;obtain⟨hlive,e⟩:=hs;simp only[Cn]at hc;rcases hrd id with e'|e'
  ·rw[e']at hc;cases hc
  ·rw[e']at hc;cases hob:st.ob id<;>rw[hob]at hc<;>(try simp only[reduceCtorEq]at hc;done);simp only[Ac]at hc;subst hc;obtain⟨hmt,ks',vs',r,ens,clk,hmp,e1,hh,h1,h2,h3,h4,h5,h6,_⟩:=H5 h hob;obtain⟨ens',hp,h1',h2'⟩:=SG hmp h1 h2;unfold RelC;refine⟨some r,by rw[e,e1],(fun hh=>by cases hh),(fun hh=>by cases hh),(fun hh=>by cases hh),fun b hb=> ?_⟩;cases hb;exact⟨hout id r hlive (by rw[e1];rfl),ens,ens',clk,hh,⟨NU h3 h1 h4,h5,h6⟩,hp,RelL.keep hk _ _ h1',RelL.keep hk _ _ h2'⟩
theorem MN{G:Nat→List CV}(h:SR P G w0 M0 n st a w z){rd:Nat→Ob}(hrd:∀id,rd id=.none∨rd id=st.ob id):∀{xs:List Operand} {sxs:List SO} {l:List CV},Aq An xs=some sxs→Aq (fun x=>Cn rd (so G st.fr x)) sxs=some l→
  RelL w (mm0 w0 M0 z) l (xs.map a.eval)∧((sxs.all fun x=>isC (so G st.fr x))=true→RelL w (Ao M0 z st.ob) l (xs.map a.eval))
 | [],sxs,l,h1,h2=>by
  simp only[Aq,Ac]at h1;subst h1;simp only[Aq,Ac]at h2;subst h2;exact⟨RelL.nil,fun _=>RelL.nil⟩
 |x::xs,sxs,l,h1,h2=>by
  simp only[Aq,Ab,Aa]at h1;obtain⟨s,hs,ss,hss,rfl⟩:=h1;simp only[Aq,Ab,Aa]at h2;obtain⟨c,hc,cs,hcs,rfl⟩:=h2;obtain⟨g1,g2⟩:=MN h hrd hss hcs;refine⟨RelL.cons (ML h hrd (h.ctx.opd hs) hc) g1,fun hall=> ?_⟩;simp only[List.all_cons,Af]at hall;refine RelL.cons ?_ (g2 hall.2);have hr:=h.ctx.opd hs;generalize so G st.fr s=q at hr hc hall;cases q<;>simp[isC]at hall;simp only[Cn,Ac]at hc;subst hc;exact hr
theorem Ri{G:Nat→List CV}(h:SR P G w0 M0 n st a w z):GOk G w (Ao M0 z st.ob):=h.globW
theorem WM{G:Nat→List CV}(h:SR P G w0 M0 n st a w z):GOk G w (mm0 w0 M0 z):=
 h.globW.keep (Nat.le_refl _) (fun _ _ _=>rfl) fun g _ hm=>.inl hm.1
theorem UJ(hE:EOk P E)(h:SR P E.G w0 M0 n st a w z){d:Option Nat}(hd:∀j,d=some j→j<n){f:FuncId}{l:List CV}{vs:List Value}{r:Res}{open_:Bool}(hf:E.fn f l=some r)
  (h1:RelL w (mm0 w0 M0 z) l vs) (h2:open_=false→RelL w (Ao M0 z st.ob) l vs) (hmem:open_=true→r.memless=true) {st':St} (hs:DN st d r=some st'):
  Calls P f ⟨vs⟩ w fun e w'=>∃v,e=.returned v∧∃z',SR P E.G w0 M0 n st' (a.put d v) w' z':=by
 obtain⟨_,hc⟩:=hE.fn f l r hf
 cases open_ with
 |true=>
  have hm:=hmem rfl;refine(hc w (mm0 w0 M0 z) vs (fun g hg=>h.outerW g hg.1) (WM h) h1).mono fun e w' ⟨v,he,hb,hr⟩=>⟨v,he, ?_⟩;have hg:=h.grow hb
  cases r with
  |val c=>
   simp only[DN,Ac]at hs;subst hs;exact⟨z,hg.put hd (NN (by rfl) c v hm hr)⟩
  |new o=>
   obtain⟨hh,hv,ho⟩:=hr;simp only[DN,By]at hs
   cases d with
   |none=>cases hs
   |some d=>
    simp only at hs;split at hs<;>(try cases hs;done);rename_i hn;simp only[Ac,Option.getD_some]at hs;subst hs;refine⟨z.new d v,h.new (hd d rfl) hn hb hv (Uq (by rfl) (Nat.zero_le _) hm (fun k b hh=>by simp[Cz.new]at hh) ho) ?_⟩;cases o<;>simp[DD]at hh<;>exact⟨EO (by simp),CW.symm⟩
 |false=>
  refine(hc w (Ao M0 z st.ob) vs h.mutW (Ri h) (h2 rfl)).mono fun e w' ⟨v,he,hb,hr⟩=>⟨v,he, ?_⟩;have hg:=h.grow hb
  cases r with
  |val c=>
   simp only[DN,Ac]at hs;subst hs;exact⟨z,hg.put hd hr⟩
  |new o=>
   obtain⟨hh,hv,ho⟩:=hr;simp only[DN,By]at hs
   cases d with
   |none=>cases hs
   |some d=>
    simp only at hs;split at hs<;>(try cases hs;done);rename_i hn;simp only[Ac,Option.getD_some]at hs;subst hs;refine⟨z.new d v,h.new (hd d rfl) hn hb hv (Up (by rfl) (Nat.zero_le _) hh (fun g _ hg=> ?_) (fun k b hh=>by simp[Cz.new]at hh) ho) ?_⟩
    ·rcases hg with hg|⟨id,hl,hb'⟩
     ·exact .inl (.inl hg)
     ·by_cases hid:id=d
      ·subst hid;rw[CW]at hb';exact .inr hb'
      ·rw[A0 _ _ hid]at hl;exact .inl (.inr ⟨id,hl,by simpa[Cz.new,upd,hid]using hb'⟩)
    ·cases o<;>simp[DD]at hh<;>exact⟨EO (by simp),CW.symm⟩
end
section
variable {P:Program} {E:Env} {w0:WL} {M0:MM} {n:Nat} {st:St} {a:Act} {w w':World} {z:Cz}
theorem Rc{w w1:World}{g:Nat}(h:Below w.heap.size w w1)(hg:w.heap.size≤g)(o k:Nat):Below w.heap.size w (w1.freeze ⟨g,o,none⟩ k):=by
 unfold World.freeze;split
 ·exact h
 ·refine⟨h.os,h.tape,h.output,by simpa using h.size,fun j hj=> ?_⟩;simp only[Array.getElem?_modify];rw[if_neg (by omega)];exact h.block j hj
theorem Rl{o:Oper}{sop:SOp}(hc:BC P o=some sop)(hcls:sop.cls=.grow):∃src dst x,o.op=.convert src dst x∧F7 P src dst x=some sop:=by
 unfold BC at hc
 split at hc<;>rename_i ho<;>first
  |(cases hc;done)
  |exact⟨_,_,_,ho,hc⟩
  |(exfalso;have:=Gn hc;rw[hcls]at this;cases this;done)
  |(exfalso
    unfold DX at hc
    (repeat' split at hc)<;>try(rcases EA hc with⟨_,_,rfl⟩|⟨_,_,_,_,_,_,_,rfl⟩<;>(cases hcls;done))
    all_goals simp only[Ab,Aa,Ad,Ac,reduceCtorEq]at hc
    all_goals(repeat (first|(subst hc;cases hcls;done)|(obtain⟨_,hc⟩:=hc)))
    done)
  |(exfalso
    (repeat' split at hc)<;>simp only[Ab,Aa,Option.ite_none_left_eq_some,Ad,Ac,Prod.exists,reduceCtorEq]at hc
    all_goals(repeat (first|(subst hc;cases hcls;done)|(obtain⟨_,hc⟩:=hc)))
    done)
theorem PH{src dst e:TypeId}(hu1:P.underlying src=some .string)(hu2:P.underlying dst=some (.slice e))(hu3:P.underlying e=some (.int .u8))(s:List UInt8):
  ∃cap:Nat,s.length≤cap∧(s.length≤70368744177664→cap≤maxLen)∧(convert src dst (.string ⟨⟨s⟩⟩)).run P w=.ok (.slice (some ⟨w.heap.size,0,none⟩) s.length cap)
    (((w.drew).alloc (.cells (((⟨s⟩:Array UInt8).map fun b=>Value.int .u8 b.toNat)++Array.replicate (cap-s.length) (.int .u8 0)) e)).freeze ⟨w.heap.size,cap,none⟩ 1)∧
   (((w.drew).alloc (.cells (((⟨s⟩:Array UInt8).map fun b=>Value.int .u8 b.toNat)++Array.replicate (cap-s.length) (.int .u8 0)) e)).freeze ⟨w.heap.size,cap,none⟩ 1).heap[w.heap.size]? =some (.cells (((⟨s⟩:Array UInt8).map fun b=>Value.int .u8 b.toNat)++Array.replicate (cap-s.length) (.int .u8 0)) e (cap,cap+1)):=by
 let elems:Array Value:=(⟨s⟩:Array UInt8).map fun b=>.int .u8 b.toNat
 have hsz:(⟨⟨s⟩⟩:ByteArray).size=s.length:=rfl;have hcap:s.length≤Question.cut (.appendCap s.length 0 e) (w.tape w.drawn (.appendCap s.length 0 e)):=by simp[Question.cut]
 have hmax:s.length≤70368744177664→Question.cut (.appendCap s.length 0 e) (w.tape w.drawn (.appendCap s.length 0 e))≤maxLen:=fun hle=>by
  simp only[Question.cut,maxLen];have:=Nat.mod_lt (w.tape w.drawn (.appendCap s.length 0 e)) (show 0<2^63-s.length by omega);omega
 generalize hq:Question.cut (.appendCap s.length 0 e) (w.tape w.drawn (.appendCap s.length 0 e))=cap at hcap hmax;refine⟨cap,hcap,hmax, ?_, ?_⟩
 ·have hshape:(((w.drew).alloc (.cells (elems++Array.replicate (cap-s.length) (.int .u8 0)) e)).shape? w.heap.size)=some (e,cap):=by
   have:=EY w.drew (.cells (elems++Array.replicate (cap-s.length) (.int .u8 0)) e);have hw:w.drew.heap.size=w.heap.size:=rfl;rw[hw]at this;simp only[World.shape?,this];simp[elems];omega
  simp only[convert,Sem.run_bind,run_underlying hu1,run_underlying hu2,Result.andThen_ok,run_underlying hu3,Conv.stringToBytes,run_choose,hsz,Question.forced,Ag,if_false,hq,O4,markStringish,run_shape];have hw:({w with drawn:=w.drawn+1}:World)=w.drew:=rfl;rw[hw];simp only[elems]at hshape;rw[hshape];simp only[run_freeze,Result.andThen_ok,Sem.run_pure]
 ·have:=EY w.drew (.cells (elems++Array.replicate (cap-s.length) (.int .u8 0)) e);have hw:w.drew.heap.size=w.heap.size:=rfl;rw[hw]at this;unfold World.freeze;rw[if_neg (by omega)];simp only[Array.getElem?_modify,elems]at this⊢;simp only[this,if_true,Option.map_some];rfl
theorem WQ{G:Nat→List CV}(h:SR P G w0 M0 n st a w z){rd:Nat→Ob}{o:Oper}{sop:SOp}(hc:BC P o=some sop)(hcls:sop.cls=.grow){sv:SV}(hv:Am rd (so G st.fr) sop=some sv):
  ∃v w',(execOp a.eval o).run P w=.ok (.value v) w'∧Below w.heap.size w w'∧Ar w' (Ao M0 z st.ob) z st.ob sv v:=by
 obtain⟨src,dst,x,ho,hc⟩:=Rl hc hcls;unfold F7 at hc;split at hc<;>(try cases hc;done)
 ·simp only[Aa]at hc;obtain⟨_,_,rfl⟩:=hc;cases hcls
 ·simp only[Aa]at hc;obtain⟨_,_,rfl⟩:=hc;cases hcls
 ·simp only[Aa]at hc;obtain⟨_,_,rfl⟩:=hc;cases hcls
 ·rename_i e hu1 hu2;split at hc<;>(try cases hc;done);rename_i hu3;simp only[Aa]at hc;obtain⟨sx,hx,rfl⟩:=hc;have hr:=h.ctx.opd hx;simp only[Am]at hv;generalize so G st.fr sx=q at hr hv;split at hv<;>(try cases hv;done);rename_i s;simp only[Ad,Ac]at hv;obtain⟨hle,rfl⟩:=hv;have e1:=CH (w:=w) (M:=Ao M0 z st.ob) hr;let elems:Array Value:=(⟨s⟩:Array UInt8).map fun b=>.int .u8 b.toNat
  obtain⟨cap,hcap,_,run,hheap0⟩:=PH (P:=P) (w:=w) hu1 hu2 hu3 s;rw[←e1]at run;have hb0:Below w.heap.size w ((w.drew).alloc (.cells (elems++Array.replicate (cap-s.length) (.int .u8 0)) e)):=((Below.refl _ w).drew).alloc (Nat.le_refl _) _;have hb:=Rc hb0 (Nat.le_refl w.heap.size) cap 1;refine⟨.slice (some ⟨w.heap.size,0,none⟩) s.length cap,_,by simp only[execOp,ho,Sem.run_bind,run,Result.andThen_ok,Sem.run_pure];rfl,hb, ?_⟩;show RelC _ _ _ _;unfold RelC;refine⟨some ⟨w.heap.size,0,none⟩,s.length,cap,rfl,by simp,hcap,(fun hh=>by cases hh),(fun _ hh=>by cases hh),(fun hh=>by cases hh),fun _=>⟨⟨w.heap.size,0,none⟩,1,rfl, ?_,fun hm=> ?_,E9 fun k el hel=> ?_⟩⟩
  ·have:w.drew.heap.size=w.heap.size:=rfl;simp[World.freeze,this]
  ·have:=h.mutW _ hm;simp at this
  ·rw[List.getElem?_map,Aa]at hel;obtain⟨b,hb',rfl⟩:=hel;refine⟨.int .u8 b.toNat,D8,rfl,fun j u hu=> ?_⟩;have hk:=(Ae.1 hb').1
   have hj:j=0:=by
    have:=(Array.getElem?_eq_some_iff.1 hu).1;simp[Value.cells]at this;exact this
   subst hj;simp only[Value.cells]at hu;have hu':Value.int .u8 b.toNat=u:=by simpa using hu
   subst hu';rw[Do];rw[cell_of_row _ _ _ _ _ _ hheap0];have:0+((0+k)*1+0)=k:=by omega
   rw[this,Array.getElem?_append_left (by simp[elems];exact hk)];simp[elems,hb']
 ·split at hc<;>(try cases hc;done);simp only[Aa]at hc;obtain⟨_,_,rfl⟩:=hc;cases hcls
theorem SJ{w:World}{M:MM}:∀(s:List UInt8),AW w M 1 (s.map fun b=>CV.int .u8 b.toNat) (s.map fun b=>Value.int .u8 b.toNat)
 | []=>rfl
 |b::s=>⟨.int .u8 b.toNat,s.map fun b=>Value.int .u8 b.toNat,rfl,rfl,D8,SJ s⟩
theorem XD{G:Nat→List CV}(h:SR P G w0 M0 n st a w z){o:Oper}{e e':Nat}{x:SO}(hc:BC P o=some (.bytes e x))(he':P.info? e'=none){d:Nat}{sv:SV}{ob:Ob}(hv:Bw (so G st.fr) d (.nbytes e' x)=some (sv,ob))(hd:d<n)(hn:st.ob d=.none):
  Ie P G w0 M0 n st a w o d sv ob:=by
 obtain⟨src,dst,x',ho,hc⟩:=Rl hc rfl;unfold F7 at hc;split at hc<;>(try cases hc;done)
 ·simp only[Aa]at hc;obtain⟨_,_,hh⟩:=hc;cases hh
 ·simp only[Aa]at hc;obtain⟨_,_,hh⟩:=hc;cases hh
 ·simp only[Aa]at hc;obtain⟨_,_,hh⟩:=hc;cases hh
 ·rename_i e0 hu1 hu2;split at hc<;>(try cases hc;done);rename_i hu3;simp only[Aa]at hc;obtain⟨sx,hx,hh⟩:=hc;cases hh;have hr:=h.ctx.opd hx;simp only[Bw]at hv;generalize so G st.fr x=q at hr hv;split at hv<;>(try cases hv;done);rename_i s;simp only[Ad,Ac,Prod.mk.injEq]at hv;obtain⟨hle,rfl,rfl⟩:=hv;have e1:=CH (w:=w) (M:=Ao M0 z st.ob) hr;obtain⟨cap,hcap,hmax,run,hheap⟩:=PH (P:=P) (w:=w) hu1 hu2 hu3 s;rw[←e1]at run;have hb0:Below w.heap.size w ((w.drew).alloc (.cells (((⟨s⟩:Array UInt8).map fun b=>Value.int .u8 b.toNat)++Array.replicate (cap-s.length) (.int .u8 0)) e)):=((Below.refl _ w).drew).alloc (Nat.le_refl _) _;have hb:=Rc hb0 (Nat.le_refl w.heap.size) cap 1;refine G5 h hd hn (s:=convert src dst (a.eval x')) (by simp only[execOp,ho]) run hb (fun g hg=> ?_) fun hk hz=>⟨⟨s.map fun b=>.int .u8 b.toNat,⟨by simp,.inr ⟨w.heap.size,cap,_,e,(cap,cap+1),by simp,Nat.zero_le _,hheap,fun hi=>by simp[he']at hi,.inr (by simp),by simpa using hcap, ?_, ?_, ?_⟩⟩,SJ s⟩,EO (by simp),CW.symm⟩
  ·simp only[blk,Ac]at hg;subst hg;have:w.drew.heap.size=w.heap.size:=rfl;exact⟨Nat.le_refl _,by simp[World.freeze,this]⟩
  ·exact hmax hle
  ·simp;omega
  ·simp[List.take_append]
 ·split at hc<;>(try cases hc;done);simp only[Aa]at hc;obtain⟨_,_,hh⟩:=hc;cases hh
theorem X5{G:Nat→List CV}(h:SR P G w0 M0 n st a w z){rd:Nat→Ob}{o:Oper}{e s:Nat}{xs:List SO}(hc:BC P o=some (.mksl e s xs)){sv:SV}(hv:Am rd (so G st.fr) (.lsl e s xs)=some sv):
  ∃v w',(execOp a.eval o).run P w=.ok (.value v) w'∧Below w.heap.size w w'∧Ar w' (Ao M0 z st.ob) z st.ob sv v:=by
 have hb:∃t len AK,o.op=.buildSlice t len AK:=by
  unfold BC at hc
  split at hc<;>rename_i ho<;>first
   |(cases hc;done)
   |exact⟨_,_,_,ho⟩
   |(exfalso;have:=Gn hc;cases this;done)
   |(exfalso;have:=Hg hc;rcases this with h'|h'<;>cases h';done)
   |(exfalso
     unfold DX at hc
     (repeat' split at hc)<;>try(rcases EA hc with⟨_,_,h'⟩|⟨_,_,_,_,_,_,_,h'⟩<;>(cases h';done))
     all_goals simp only[Ab,Aa,Ad,Ac,reduceCtorEq,and_false,exists_false,false_and]at hc
     done)
   |(exfalso
     (repeat' split at hc)<;>simp only[Ab,Aa,Option.ite_none_left_eq_some,Ad,Ac,Prod.exists,reduceCtorEq,and_false,exists_false,false_and]at hc
     done)
 obtain⟨t,len,AK,ho⟩:=hb;unfold BC at hc;rw[ho]at hc;simp only at hc;split at hc<;>(try cases hc;done);rename_i e' hu;simp only[Ab,Ad,Ac,SOp.mksl.injEq]at hc;obtain⟨i,hi,vz,hz,zc,hzc,xs',hxs,⟨hlen,h0,hsz,hle⟩,rfl,rfl,rfl⟩:=hc;simp only[Am,Ab,Ad,Ac]at hv;obtain⟨l,hl,hall,rfl⟩:=hv;obtain⟨vs,hrl,hvl,run⟩:=RM h hu hi hz hzc hxs hlen h0 hsz hle hl hall;have he:execOp a.eval o=(do pure (.value (←Instr.buildSlice t len (AK.map fun(i,x)=>(i,a.eval x)))):Sem Next):=by simp only[execOp,ho]
 refine⟨_,_,by rw[he];simp[run];exact⟨rfl,rfl⟩,F0 _ _, ?_⟩;have hf:=JK hrl hall;have hk:Br w (Ao M0 z st.ob) (w.alloc (.cells ⟨vs.flatMap fun v=>v.cells.toList⟩ e')) (Ao M0 z st.ob):=Nw (F0 _ _);show RelC _ _ _ _;unfold RelC;refine⟨some ⟨w.heap.size,0,none⟩,len,len,rfl,by rw[←hvl,hrl.length],Nat.le_refl _,(fun hh=>by cases hh),(fun hh=>by cases hh),(fun hh=>by cases hh),fun _=>⟨⟨w.heap.size,0,none⟩,i.size,rfl,by simp,fun hm=> ?_,E9 fun k el hel=> ?_⟩⟩
 ·have:=h.mutW _ hm;simp at this
 ·obtain⟨u,g1,g2,g3⟩:=Fw hf hel;refine⟨u,RelC.keep hk _ _ g1,g2,fun j u' hu'=> ?_⟩;rw[Do,cell_of_row _ _ _ _ _ _ (EY _ _)];have h8:=g3 j u' hu';simpa using h8
theorem UN{G:Nat→List CV}(h:SR P G w0 M0 n st a w z){rd:Nat→Ob}{o:Oper}{e s b:Nat}{x y:SO}(hc:BC P o=some (.append e s b x y)){sv:SV}(hv:Am rd (so G st.fr) (.capp e s b x y)=some sv):
  ∃v w',(execOp a.eval o).run P w=.ok (.value v) w'∧Below w.heap.size w w'∧Ar w' (Ao M0 z st.ob) z st.ob sv v:=by
 have hb:∃c,o.op=.call c∧DX P c=some (.append e s b x y):=by
  unfold BC at hc
  split at hc<;>rename_i ho<;>first
   |(cases hc;done)
   |exact⟨_,ho,hc⟩
   |(exfalso;have:=Gn hc;cases this;done)
   |(exfalso;have:=Hg hc;rcases this with h'|h'<;>cases h';done)
   |(exfalso
     (repeat' split at hc)<;>simp only[Ab,Aa,Option.ite_none_left_eq_some,Ad,Ac,Prod.exists,reduceCtorEq,and_false,exists_false,false_and]at hc
     done)
 obtain⟨c,ho,hc⟩:=hb;obtain⟨callee,args,argTypes⟩:=c
 have hb2:callee=.builtin .append∧∃x' y' t e' i zv,args.toList= [x',y']∧argTypes.toList= [t,t]∧P.underlying t=some (.slice e')∧P.info? e'=some i∧i.zero=some zv∧An x'=some x∧An y'=some y∧0<i.size∧zv.cells.size=i.size∧e=e'∧s=i.size∧b=i.bytes:=by
  unfold DX at hc;split at hc<;>(try cases hc;done)
  all_goals first
   |(rename_i hcal
     simp only at hcal;subst hcal;split at hc<;>(try cases hc;done);rename_i x' y' t u hargs hat
     split at hc<;>(try cases hc;done);rename_i e' _ hu _;simp only[Ab,Ad,Ac]at hc;obtain⟨i,hi,zv,hz,sx,hsx,sy,hsy,⟨rfl,h0,hzs⟩,hh⟩:=hc;cases hh
     exact⟨rfl,_,_,_,_,_,_,hargs,hat,hu,hi,hz,hsx,hsy,h0,hzs,rfl,rfl,rfl⟩)
   |(exfalso
     (repeat' split at hc)<;>try(rcases EA hc with⟨_,_,h'⟩|⟨_,_,_,_,_,_,_,h'⟩<;>(cases h';done))
     all_goals simp only[Ab,Aa,Ad,Ac,reduceCtorEq,and_false,exists_false,false_and]at hc
     done)
 obtain⟨rfl,x',y',t,e',i,zv,hargs,hat,ht,hi,hz,hx,hy,hsz,hzs,rfl,rfl,rfl⟩:=hb2;have hr:=h.ctx.opd hx;have hr2:=h.ctx.opd hy;simp only[Am]at hv;generalize so G st.fr x=q at hr hv;generalize so G st.fr y=q2 at hr2 hv;split at hv<;>(try cases hv;done);rename_i es0 nl2 es;simp only[Ad,Ac,Af]at hv;obtain⟨⟨⟨hall,hone⟩,hb1,hb2⟩,rfl⟩:=hv;obtain⟨A,c,xs2,e1,hf2,hA,hcells⟩:=NQ h hr2 (news:=es) rfl hall;have hx2l:=Ge hf2;have hone':=JL hf2 hone;unfold Ar RelC at hr;obtain⟨A',len,c',e2,e3,_,e4,_,e5,e6⟩:=hr;have hA':=e4 rfl;subst hA'
 have hes:es0= []:=by
  cases es0 with
  |nil=>rfl
  |cons e es=>obtain⟨ad,size,hh,_⟩:=e6 (by simp);cases hh
 subst hes;have hc0:=e5 rfl;subst hc0;subst e3;have hown0:w.ownsRow 0 e i.size (.slice none 0 0) 0 []:=⟨by simp,.inl ⟨rfl,rfl⟩⟩;obtain⟨v',w',hrun,h2,h3,h4⟩:=O0 (P:=P) 0 t o.type e i zv ht hi hz hzs hsz (.slice none 0 0) 0 [] hown0 A es.length c xs2 hx2l (fun hh=>by simp[hA hh]) hcells hone' (by unfold maxLen;omega) (by simpa using hb1) (Nat.zero_le _);have hgb:Below w.heap.size w w':=⟨h3.os,h3.tape,h3.output,h3.size,fun k hk=>h3.block k hk (by simp[blk])⟩;have hk:Br w (Ao M0 z st.ob) w' (Ao M0 z st.ob):=Nw hgb;refine⟨v',w', ?_,hgb, ?_⟩
 ·obtain⟨al⟩:=args;obtain⟨tl⟩:=argTypes;simp only at hargs hat
  subst hargs;subst hat
  have e2':a.eval x'=.slice none 0 0:=e2;rw[←e2',←e1]at hrun;simp[execOp,ho,resolve,invoke,builtin,hrun]
 ·have hf:=AW.keep hk hf2;have hrow:=Ds.of (P:=P) h2;simp only[Nat.zero_add,List.nil_append]at hrow;show RelC _ _ _ _;unfold RelC;rcases Nat.eq_zero_or_pos es.length with h0|h0
  ·have:es= []:=List.eq_nil_of_length_eq_zero h0;subst this;rcases hrow.2 with⟨e7,_⟩|⟨g',cap,cur,ty,fz,e7,_⟩
   ·exact⟨none,0,0,e7,rfl,Nat.le_refl _,(fun hh=>by cases hh),(fun hh=>by cases hh),(fun _=>rfl),fun hh=>absurd rfl hh⟩
   ·exact⟨some ⟨g',0,none⟩,0,cap,by simpa using e7,rfl,Nat.zero_le _,(fun hh=>by cases hh),(fun hh=>by cases hh),(fun hh=>by cases hh),fun hh=>absurd rfl hh⟩
  ·rcases hrow.2 with⟨_,e8⟩|⟨g',cap,cur,ty,fz,e7,_,hheap,_,_,e8,_⟩
   ·omega
   ·obtain⟨g2,cap2,cur2,e9,_,hcell⟩:=Lw hrow h0
    have hg:w.heap.size≤g2:=by
     rcases h4 with h4|h4
     ·rw[e9]at h4;cases h4
     ·rw[e9]at h4;simp only[blk,Ac]at h4;omega
    rw[e7]at e9;simp only[Value.slice.injEq,Ac,Addr.mk.injEq,and_true,true_and]at e9;obtain⟨rfl,rfl⟩:=e9;refine⟨some ⟨g',0,none⟩,es.length,cap,e7,rfl,e8,(fun hh=>by cases hh),(fun hh=>by cases hh),(fun hh=>by cases hh),fun _=>⟨⟨g',0,none⟩,i.size,rfl, ?_,fun hm=> ?_,E9 fun k el hel=> ?_⟩⟩
    ·exact heap_lt hheap
    ·have:=h.mutW _ hm;simp only at this;omega
    ·obtain⟨u,g1,g2,g3⟩:=Fw hf hel;refine⟨u,g1,g2,fun j u' hu'=> ?_⟩;rw[Do];have h8:=g3 j u' hu';have:=hcell _ _ h8;simpa using this
end
section
variable {P:Program} {w:World} {M:MM} {z:Cz} {ob:Nat→Ob} {T:List Nat}
theorem Eh{id:Nat}:Cy T ob id≠ .none↔T.contains id=true∧ob id≠ .none:=by
 unfold Cy
 cases h:T.contains id with
 |false=>simp
 |true=>simp only[if_true,true_and];cases ob id<;>simp[MQ]
theorem Ar.cut{s:SV}{v:Value}(h:Ar w M z ob s v):Ar w M z (Cy T ob) (Gp T s) v:=by
 unfold Gp
 cases s<;>simp only[SV.ref]<;>first
  |exact h
  |trivial
  |(split
    ·rename_i hT;exact⟨Eh.2 ⟨hT,h.1⟩,h.2⟩
    ·trivial)
theorem Az.cut:∀{cs:List SV} {vs:List Value},Az w M z ob cs vs→Az w M z (Cy T ob) (cs.map (Gp T)) vs
 | [],_,h=>h
 |c::cs,vs,h=>by
  obtain⟨v,vs',e,h1,h2⟩:=h;exact⟨v,vs',e,Ar.cut h1,Az.cut h2⟩
theorem Bf.cut{B id:Nat}{v:Value}:∀{o:Ob},Bf P w M B z ob id v o→Bf P w M B z (Cy T ob) id v (MQ T o)
 | .none,_=>trivial
 | .box cs bt,h=>by
  obtain⟨g,ty,vs,e,hh,hs⟩:=h;exact⟨g,ty,vs,e,hh,Az.cut hs⟩
 | .arr _ _ _,h=>h
 | .map _ _ _ _ _,h=>h
 | .siter _ _,h=>h
 | .miter _ _ _,h=>h
 | .buf _ _,h=>h
end
section
variable {P:Program} {E:Env} {w0:WL} {M0:MM} {n:Nat} {st:St} {a:Act} {w w':World} {z:Cz}
theorem Sm{T:List Nat}{g:Nat}(h:own z (Cy T st.ob) g):own z st.ob g:=by
 obtain⟨id,h1,h2⟩:=h;exact⟨id,(Eh.1 h1).2,h2⟩
theorem SR.lies{G:Nat→List CV}(h:SR P G w0 M0 n st a w z)(T:List Nat):Id P w (Ao M0 z st.ob) z T (Cy T st.ob) where
 ob:=fun id=>by
  have:=Bf.cut (T:=T) (h.ob id);show Bf P w _ 0 z _ id _ (Cy T st.ob id);unfold Cy;split
  ·exact this
  ·trivial
 lo:=fun id g h1 h2=>⟨(h.lo id g (Eh.1 h1).2 h2).2,.inr ⟨id,(Eh.1 h1).2,h2⟩⟩
 apart:=fun i j g hij h1 h2=>h.apart i j g hij (Eh.1 h1).2 (Eh.1 h2).2
 told:=fun N cs hN hc=>by
  unfold Cy at hc;split at hc
  ·cases hob:st.ob N<;>rw[hob]at hc<;>cases hc;exact h.nam.told N _ hN hob
  ·cases hc
 only:=fun id h1=>(Eh.1 h1).1
 al:=rfl
theorem SR.turned{G:Nat→List CV}(h:SR P G w0 M0 n st a w z){T:List Nat}{H':Nat→Ob}{z':Cz}(ho:w'.os=w.os)(ht:w'.tape=w.tape)(hop:w'.output=w.output)(hsz:w.heap.size≤w'.heap.size)
  (hb:∀g,g<w.heap.size→¬own z (Cy T st.ob) g→w'.heap[g]? =w.heap[g]?) (hL:Id P w' (Ao (Ao M0 z st.ob) z' H') z' T H')
  (hlo:∀id g,H' id≠ .none→blk (z'.σ id)=some g→(Cy T st.ob id≠ .none∧blk (z.σ id)=some g)∨w.heap.size≤g) (hal:z'.al=z.al):
  ∃z2,SR P G w0 M0 n (Ck T H' st) a w' z2∧∀{c:CV} {v:Value},RelC w' (Ao (Ao M0 z st.ob) z' H') c v→RelC w' (Ao M0 z2 (Ck T H' st).ob) c v:=by
 let z2:Cz:={σ:=fun id=>if T.contains id=true then z'.σ id else z.σ id,β:=fun id=>if T.contains id=true then z'.β id else z.β id,al:=z.al};have σT:∀id,T.contains id=true→z2.σ id=z'.σ id:=fun id hT=>by show(if _ then _ else _)=_;rw[if_pos hT]
 have σN:∀id,¬T.contains id=true→z2.σ id=z.σ id:=fun id hT=>by show(if _ then _ else _)=_;rw[if_neg hT]
 have βN:∀id,¬T.contains id=true→z2.β id=z.β id:=fun id hT=>by show(if _ then _ else _)=_;rw[if_neg hT]
 have βT:∀id,T.contains id=true→z2.β id=z'.β id:=fun id hT=>by show(if _ then _ else _)=_;rw[if_pos hT]
 have obT:∀id,T.contains id=true→(Ck T H' st).ob id=H' id:=fun id hT=>by show(if _ then _ else _)=_;rw[if_pos hT]
 have obN:∀id,¬T.contains id=true→(Ck T H' st).ob id=BZ T (st.ob id):=fun id hT=>by show(if _ then _ else _)=_;rw[if_neg hT]
 have liveN:∀id,¬T.contains id=true→((Ck T H' st).ob id≠ .none↔st.ob id≠ .none):=fun id hT=>by rw[obN id hT];exact not_congr R4
 have hless:∀g,Ao M0 z2 (Ck T H' st).ob g→Ao (Ao M0 z st.ob) z' H' g:=fun g hg=>by
  rcases hg with hg|⟨id,h1,h2⟩
  ·exact .inl (.inl hg)
  ·by_cases hT:T.contains id=true
   ·rw[obT id hT]at h1;rw[σT id hT]at h2;exact .inr ⟨id,h1,h2⟩
   ·rw[σN id hT]at h2;exact .inl (.inr ⟨id,(liveN id hT).1 h1,h2⟩)
 have hless2:∀g,g<w.heap.size→Ao M0 z2 (Ck T H' st).ob g→Ao M0 z st.ob g:=fun g hlt hg=>by
  rcases hless g hg with hg|⟨id,h1,h2⟩
  ·exact hg
  ·rcases hlo id g h1 h2 with⟨h3,h4⟩|h3
   ·exact .inr ⟨id,(Eh.1 h3).2,h4⟩
   ·omega
 have hk:Br w (Ao M0 z st.ob) w' (Ao M0 z2 (Ck T H' st).ob):=⟨hsz,fun g hlt hm=>hb g hlt fun ho=>hm (.inr (Sm ho)),hless2,rfl⟩;have hk':Br w' (Ao (Ao M0 z st.ob) z' H') w' (Ao M0 z2 (Ck T H' st).ob):=⟨Nat.le_refl _,fun _ _ _=>rfl,fun g _ hg=>hless g hg,hal.symm⟩
 have hs:∀{s:SV} {v:Value},Ar w (Ao M0 z st.ob) z st.ob s v→Ar w' (Ao M0 z2 (Ck T H' st).ob) z2 (Ck T H' st).ob (Au T s) v:=by
  intro s v hv
  cases hr:s.ref with
  |none=>
   cases s<;>simp[SV.ref]at hr
   ·exact RelC.keep hk _ _ hv
   ·trivial
  |some i=>
   by_cases hi:T.contains i=true
   ·have:Au T s=.undef:=by cases s<;>simp_all[SV.ref,Au]
    rw[this];trivial
   ·have e:Au T s=s:=by cases s<;>simp_all[SV.ref,Au]
    rw[e];refine Ar.keep hk ⟨fun j hj h1=> ?_,fun j hj h1=> ?_,fun j hj h1 k b hb=> ?_⟩ hv;all_goals(rw[hr]at hj;cases hj)
    ·exact(liveN i hi).2 h1
    ·exact σN i hi
    ·rw[βN i hi];exact hb
 have hss:∀(cs:List SV) vs,Az w (Ao M0 z st.ob) z st.ob cs vs→Az w' (Ao M0 z2 (Ck T H' st).ob) z2 (Ck T H' st).ob (cs.map (Au T)) vs:=by
  intro cs
  induction cs with
  |nil=>intro vs hh;exact hh
  |cons c cs ih=>
   intro vs hh;obtain⟨v,vs',e,h1,h2⟩:=hh;exact⟨v,vs',e,hs h1,ih vs' h2⟩
 have hblk:∀id g,¬T.contains id=true→st.ob id≠ .none→blk (z.σ id)=some g→w'.heap[g]? =w.heap[g]? :=fun id g hT hl hg=>by
  refine hb g (h.lo id g hl hg).2 fun⟨i,h1,h2⟩=> ?_;have:=Eh.1 h1;exact h.apart i id g (fun e=>hT (e▸this.1)) this.2 hl h2 hg
 refine⟨z2,⟨h.size,h.defers,⟨ho.trans h.below.os,ht.trans h.below.tape,hop.trans h.below.output,Nat.le_trans h.below.size hsz,fun k hk hL=> ?_⟩,h.outer, ?_,h.glob,fun i=>hs (h.fr i),fun id=> ?_,fun id g h1 h2=> ?_,fun i j g hij h1 h2 h3 h4=> ?_⟩,fun hc=>RelC.keep hk' _ _ hc⟩
 ·rw[hb k (Nat.lt_of_lt_of_le hk h.below.size) fun ho=> ?_]
  ·exact h.below.block k hk hL
  ·obtain⟨id,h1,h2⟩:=Sm ho;exact hL id (h.low h1 h2 hk)
 ·refine⟨h.nam.lent,fun N cs hN hc=> ?_,h.nam.names,h.nam.low⟩;by_cases hT:T.contains N=true
  ·rw[obT N hT]at hc;rw[σT N hT,hL.told N cs hN hc,hal]
  ·rw[obN N hT]at hc;rw[σN N hT];cases hob:st.ob N<;>rw[hob]at hc<;>cases hc;exact h.nam.told N _ hN hob
 ·by_cases hT:T.contains id=true
  ·rw[obT id hT,σT id hT];refine Bf.keep hk' (fun _ _=>rfl) (fun cs _ s _=>⟨fun j hj h1=> ?_,fun j hj h1=> ?_,fun j hj h1 k b hb=> ?_⟩) (fun k b hh=>by rw[βT id hT]at hh;exact hh) (hL.ob id)
   ·rw[obT j (hL.only j h1)];exact h1
   ·exact σT j (hL.only j h1)
   ·rw[βT j (hL.only j h1)];exact hb
  ·rw[obN id hT,σN id hT];have hoi:=h.ob id
   cases hob:st.ob id with
   |none=>trivial
   |box cs=>
    rw[hob]at hoi;obtain⟨g,ty,vs,e1,e2,e3⟩:=hoi;exact⟨g,ty,vs,e1,(hblk id g hT (by rw[hob];simp) (by rw[e1];rfl)).trans e2,hss cs vs e3⟩
   |_=>
    rw[hob]at hoi;exact Bf.keep hk (fun g hg=>hblk id g hT (by rw[hob];simp) hg) (fun cs hc=>by cases hc) (fun k b hh=>by rw[βN id hT]at hh;exact hh) hoi
 ·by_cases hT:T.contains id=true
  ·rw[obT id hT]at h1;rw[σT id hT]at h2;refine⟨?_,(hL.lo id g h1 h2).1⟩;rcases hlo id g h1 h2 with⟨h3,h4⟩|h3
   ·exact(h.lo id g (Eh.1 h3).2 h4).1
   ·exact .inl (Nat.le_trans h.below.size h3)
  ·rw[σN id hT]at h2;have:=h.lo id g ((liveN id hT).1 h1) h2;exact⟨this.1,Nat.lt_of_lt_of_le this.2 hsz⟩
 ·by_cases hi:T.contains i=true
  ·by_cases hj:T.contains j=true
   ·rw[obT i hi]at h1;rw[obT j hj]at h2;rw[σT i hi]at h3;rw[σT j hj]at h4;exact hL.apart i j g hij h1 h2 h3 h4
   ·rw[obT i hi]at h1;rw[σT i hi]at h3;rw[σN j hj]at h4;have hl2:=(liveN j hj).1 h2;rcases hlo i g h1 h3 with⟨h5,h6⟩|h5
    ·exact h.apart i j g hij (Eh.1 h5).2 hl2 h6 h4
    ·have:=(h.lo j g hl2 h4).2;omega
  ·by_cases hj:T.contains j=true
   ·rw[σN i hi]at h3;rw[obT j hj]at h2;rw[σT j hj]at h4;have hl1:=(liveN i hi).1 h1;rcases hlo j g h2 h4 with⟨h5,h6⟩|h5
    ·exact h.apart i j g hij hl1 (Eh.1 h5).2 h3 h6
    ·have:=(h.lo i g hl1 h3).2;omega
   ·rw[σN i hi]at h3;rw[σN j hj]at h4;exact h.apart i j g hij ((liveN i hi).1 h1) ((liveN j hj).1 h2) h3 h4
theorem VZ(hE:EOk P E)(h:SR P E.G w0 M0 n st a w z){d:Option Nat}(hd:∀j,d=some j→j<n){f:FuncId}{e:Eff}{l:List CV}{vs:List Value}(hl:RelL w (Ao M0 z st.ob) l vs){r:CV}{H':Nat→Ob}(hC:Fu P E.G f e.T l (Cy e.T st.ob) r H'):
  Calls P f ⟨vs⟩ w fun en w'=>∃v,en=.returned v∧∃z',SR P E.G w0 M0 n ((Ck e.T H' st).set d (.c r)) (a.put d v) w' z':=by
 refine(hC w (Ao M0 z st.ob) z vs h.mutW (Ri h) hl (h.lies e.T)).mono fun en w' ⟨v,z',hen,⟨h1,h2,h3,h4,h5⟩,h6,h7,h8,h9⟩=> ?_;obtain⟨z2,hS,hc⟩:=h.turned h1 h2 h3 h4 h5 h6 h7 h8;exact⟨v,hen,z2,hS.put hd (hc h9)⟩
theorem JX{G:Nat→List CV}(h:SR P G w0 M0 n st a w z):∀{xs:List Operand} {sxs:List SO} {l:List CV},Aq An xs=some sxs→Aq (fun x=>closed (so G st.fr x)) sxs=some l→RelL w (Ao M0 z st.ob) l (xs.map a.eval)
 | [],sxs,l,h1,h2=>by
  simp only[Aq,Ac]at h1;subst h1;simp only[Aq,Ac]at h2;subst h2;exact RelL.nil
 |x::xs,sxs,l,h1,h2=>by
  simp only[Aq,Ab,Aa]at h1;obtain⟨s,hs,ss,hss,rfl⟩:=h1;simp only[Aq,Ab,Aa]at h2;obtain⟨c,hc,cs,hcs,rfl⟩:=h2;refine RelL.cons ?_ (JX h hss hcs);have hr:=h.ctx.opd hs;generalize so G st.fr s=q at hr hc;cases q<;>(try cases hc;done);cases hc;exact hr
end
end WB
