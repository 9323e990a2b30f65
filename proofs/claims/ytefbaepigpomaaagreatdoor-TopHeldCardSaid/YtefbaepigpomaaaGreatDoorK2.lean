/-
  OWN TEXTS, MERGED (wip/merge.py): CoreL, CoreM, CoreN, CoreO, CoreP, CoreQ, CoreR, CoreS, CoreT, CoreU, CoreUe. No condition of their own.
-/
import Derived.Test.YtefbaepigpomaaaGreatDoorK1
import Derived.Laws.BytesArg
import Derived.Maps.RangeRun
import Derived.Maps.AppendAt
import Derived.Laws.CopyRow
set_option linter.unusedVariables false
set_option linter.unusedSimpArgs false
open Go.IntKind (i64 u64 u8 u32)
namespace WB
open Go Go.RowKit
section
variable {G:Nat->List CV} {P:Program} {w:World} {M:MM} {B:Nat} {z:Cz} {ob rd:Nat->Ob} {fr:Nat->SV} {a:Act}
theorem Da{o:Oper}{s:Sem Value}{sv:SV}(b:execOp a.eval o=(do pure (.value (<-s)):Sem Next))(h:∃v,s.run P w=.ok v w/\Aw w M z ob sv v):Yes P w M z ob a o sv:=by
 obtain⟨v,d,c⟩:=h;exact⟨v,by rw[b];simp[d],c⟩
theorem Yu{op:BinOp}{x y:CV}{c:CV}(h:EG op x y=some c):(∃k n,x=.int k n)\/(∃s,x=.str s):=by
 cases x<;>(try simp only[EG,reduceCtorEq]at h;done)
 ·exact .inl ⟨_,_,rfl⟩
 ·exact .inr ⟨_,rfl⟩
theorem NL(h:aC P G w M B z ob fr a){op:BinOp}{t:TypeId}{x y:Operand}{sx g:SO}(l:Ap x=some sx)(j:Ap y=some g){sv:SV}(b:An rd (so G fr) (.bin op sx g)=some sv):
  ∃v,(do eqGuard op t x y (a.eval x) (a.eval y);binOp op t (a.eval x) (a.eval y):Sem Value).run P w=.ok v w/\Aw w M z ob sv v:=by
 have f:=h.opd l;have e:=h.opd j;simp only[An]at b;generalize so G fr sx=q at f b;generalize so G fr g=q2 at e b;split at b
 ·rename_i u r;simp only[Aa]at b;obtain⟨c,i,rfl⟩:=b;obtain⟨v,p,o⟩:=Afw (P:=P) (t:=t) f e i;refine⟨v, ?_,o⟩
  have m:(eqGuard op t x y (a.eval x) (a.eval y)).run P w=.ok () w:=by
   rcases Yu i with⟨k,n,rfl⟩|⟨s,rfl⟩
   ·rw[Cn (w:=w) (M:=M) f];exact Is op t x y ⟨(fun _ d=>by cases d),(fun d=>by cases d)⟩
   ·rw[Dl (w:=w) (M:=M) f];exact Is op t x y ⟨(fun _ d=>by cases d),(fun d=>by cases d)⟩
  simp[m,p]
 ·cases b
theorem Aii(h:aC P G w M B z ob fr a){op:BinOp}(e:op=.eql\/op=.neq){t:TypeId}(p:P.underlying t=some .bool){x y:Operand}{sx d:SO}(o:Ap x=some sx)(m:Ap y=some d){sv:SV}(b:An rd (so G fr) (.beq (D8 op) sx d)=some sv):
  ∃v,(do eqGuard op t x y (a.eval x) (a.eval y);binOp op t (a.eval x) (a.eval y):Sem Value).run P w=.ok v w/\Aw w M z ob sv v:=by
 have g:=h.opd o;have c:=h.opd m;simp only[An]at b;generalize so G fr sx=q at g b;generalize so G fr d=q2 at c b;split at b
 ·rename_i l k;simp only[Ac]at b;subst b;rw[DR (w:=w) (M:=M) g,DR (w:=w) (M:=M) c];have i:=Is (P:=P) (w:=w) op t x y (va:=.bool l) (vb:=.bool k) ⟨(fun _ f=>by cases f),(fun f=>by cases f)⟩;have j:=Afv (w:=w) p l k;refine⟨_, ?_,E5 (w:=w) (M:=M)⟩;rcases e with rfl|rfl
  ·simp[i,j.1,D8]
  ·simp[i,j.2,D8]
 ·cases b
theorem Ain(h:aC P G w M B z ob fr a){op:BinOp}(g:op=.eql\/op=.neq){t:TypeId}{m:Array Field}(A:P.underlying t=some (.struct m))(D:P.stoodInHeld t=false)(C:P.eqGuardType P.depth t=false)
  {i:List KT} (F:Fd P 0 m.toList=some i) {x y:Operand} {sx e:SO} (u:Ap x=some sx) (s:Ap y=some e) {sv:SV} (b:An rd (so G fr) (.eqs (D8 op) i sx e)=some sv):
  ∃v,(do eqGuard op t x y (a.eval x) (a.eval y);binOp op t (a.eval x) (a.eval y):Sem Value).run P w=.ok v w/\Aw w M z ob sv v:=by
 have j:=h.opd u;have c:=h.opd s;simp only[An]at b;generalize so G fr sx=q at j b;generalize so G fr e=q2 at c b;split at b
 ·rename_i K J;simp only[Aa]at b;obtain⟨r,f,rfl⟩:=b;obtain⟨⟨p,I⟩,⟨o,H⟩,l⟩:=WK (w:=w) (M:=M) A D F j c f;rw[I,H]at l⊢;have k:=run_eqGuard_agg (P:=P) w op t x y p o C;have d:=l 9998;refine⟨_, ?_,E5 (w:=w) (M:=M)⟩;rcases g with rfl|rfl
  ·simp[k,run_eql_struct,d,D8]
  ·simp[k,run_neq_struct,d,D8]
 ·cases b
theorem Ai2(h:aC P G w M B z ob fr a){op:UnOp}{x:Operand}{sx:SO}(e:Ap x=some sx){sv:SV}(b:An rd (so G fr) (.un op sx)=some sv):
  ∃v,(Op.unary op (a.eval x)).run P w=.ok v w/\Aw w M z ob sv v:=by
 have d:=h.opd e;simp only[An]at b;generalize so G fr sx=q at d b;split at b
 ·simp only[Aa]at b;obtain⟨c,f,rfl⟩:=b;obtain⟨v,i,g⟩:=Af3 (P:=P) d f;exact⟨v,i,g⟩
 ·cases b
theorem Aiq(h:aC P G w M B z ob fr a){t:TypeId}{e:Array Field}{f:Nat}{fd:Field}{s:Option Nat}(i:P.underlying t=some (.struct e))(l:e[f]? =some fd)(j:DG P fd.type=some s)
  {x:Operand} {sx:SO} (g:Ap x=some sx) {sv:SV} (b:An rd (so G fr) (.field fd.offset s sx)=some sv):
  ∃v,(Instr.field t (a.eval x) f).run P w=.ok v w/\Aw w M z ob sv v:=by
 have d:=h.opd g;simp only[An]at b;generalize so G fr sx=q at d b;split at b
 ·simp only[Aa]at b;obtain⟨c,m,rfl⟩:=b;unfold Aw RelC at d;obtain⟨vs,r,k⟩:=d;obtain⟨v,p,o⟩:=WR (P:=P) j k m;exact⟨v,by rw[r];simp[Instr.field,run_underlying i,l,asAgg,p],o⟩
 ·cases b
theorem Lz:∀{es:List CV} {b:List Int} {i:Nat} {e:CV},Fc es=some b->es[i]? =some e->∃n,e=.int .u8 n/\b[i]? =some n
 | [],_,_,_,_,h=>by simp at h
 |c::es,b,i,e,hb,h=>by
  unfold Fc at hb;split at hb<;>(try cases hb;done)
  ·rename_i k;cases k
  ·rename_i m j d;cases d;obtain⟨f,g,rfl⟩:=Aa.1 hb
   cases i with
   |zero=>simp at h;subst h;exact⟨m,rfl,rfl⟩
   |succ i=>
    simp only[List.getElem?_cons_succ]at h⊢;exact Lz g h
theorem Ti:∀{es:List CV} {b:List Int},Fc es=some b->b.length=es.length
 | [],b,h=>by cases h;rfl
 |c::es,b,hb=>by
  unfold Fc at hb;split at hb<;>(try cases hb;done)
  ·rename_i i;cases i
  ·rename_i m g d;cases d;obtain⟨e,f,rfl⟩:=Aa.1 hb;simp[Ti f]
theorem WG{src dst e:TypeId}(o:P.underlying src=some (.slice e))(r:P.underlying e=some (.int .u8))(hd:P.underlying dst=some .string){es:List CV}{b:List Int}(i:Fc es=some b){v:Value}
  (x:(∃l c,v=.slice none l c/\es= [])\/∃h c,v=.slice (some h) es.length c/\∀(k:Nat) g,es[k]? =some g->∃u,RelC w M g u/\w.cell? (h.add k)=some u):
  (convert src dst v).run P w=.ok (.string ⟨⟨b.map fun n=>UInt8.ofNat n.toNat⟩⟩) w:=by
 rcases x with⟨l,c,rfl,rfl⟩|⟨h,c,rfl,A⟩
 ·cases i;rw[run_convert_bytes_nil w src e o r l c dst hd];rfl
 ·have d:=Ti i
  have y:(loadCells h es.length).run P w=.ok (b.map (Value.int .u8)).toArray w:=by
   have:=run_loadCells_list (P:=P) w h (b.map (Value.int .u8)) (fun j u q=>by
    rw[List.getElem?_map,Aa]at q;obtain⟨m,p,rfl⟩:=q;obtain⟨g,f⟩:∃g,es[j]? =some g:=⟨_,Aj (by have:=(Af.1 p).1;omega)⟩;obtain⟨D,rfl,t⟩:=Lz i f;obtain⟨u,s,C⟩:=A j _ f;rw[p]at t;cases t;unfold RelC at s
    rw[C,s])
   simpa[d]using this
  rw[run_convert_bytes_string w src dst e _ _ _ o r hd,run_bytesToString w _ _ _ b y,foldl_push_bytes];simp[ByteArray.empty,ByteArray.emptyWithCapacity];rfl
theorem Ail(h:aC P G w M B z ob fr a)(I:∀id,rd id=.none\/rd id=ob id){src dst:TypeId}{x:Operand}{p:aa}(d:G0 P src dst x=some p)(A:p.cls=.val){sv:SV}(b:An rd (so G fr) p=some sv):
  ∃v,(convert src dst (a.eval x)).run P w=.ok v w/\Aw w M z ob sv v:=by
 unfold G0 at d;split at d
 ·rename_i Y k o l;simp only[Aa]at d;obtain⟨sx,j,rfl⟩:=d;have f:=h.opd j;simp only[An]at b;generalize so G fr sx=q at f b;split at b
  ·simp only[Ac]at b;subst b;rw[Cn (w:=w) (M:=M) f];exact⟨_,by simp[convert,run_underlying o,run_underlying l,Conv.intToInt],Ep (w:=w) (M:=M)⟩
  ·cases b
 ·rename_i Y o l;simp only[Aa]at d;obtain⟨sx,j,rfl⟩:=d;have f:=h.opd j;simp only[An]at b;generalize so G fr sx=q at f b;split at b
  ·simp only[Ac]at b;subst b;rw[Cn (w:=w) (M:=M) f];exact⟨_,by simp[convert,run_underlying o,run_underlying l,Conv.intToString],Nd (w:=w) (M:=M)⟩
  ·cases b
 ·rename_i o l;simp only[Aa]at d;obtain⟨sx,j,rfl⟩:=d;have f:=h.opd j;simp only[An]at b;generalize so G fr sx=q at f b;split at b
  ·simp only[Ac]at b;subst b;rw[Dl (w:=w) (M:=M) f];exact⟨_,by simp[convert,run_underlying o,run_underlying l],Nd (w:=w) (M:=M)⟩
  ·cases b
 ·split at d
  ·simp only[Aa]at d;obtain⟨sx,j,rfl⟩:=d;cases A
  ·cases d
 ·rename_i e o l;split at d
  ·rename_i U;simp only[Aa]at d;obtain⟨sx,j,rfl⟩:=d;have f:=h.opd j;simp only[An]at b;generalize so G fr sx=q at f b;split at b
   ·rename_i nl es;obtain⟨X,C,rfl⟩:=Aa.1 b;refine⟨_,WG (M:=M) o U l C ?_,Nd (w:=w) (M:=M)⟩;unfold Aw RelC at f;obtain⟨R,n',c,ev,S,_,_,_,_,Z⟩:=f;rw[ev]
    cases es with
    |nil=>
     cases R with
     |none=>exact .inl ⟨_,_,rfl,rfl⟩
     |some R=>exact .inr ⟨R,c,by rw[S],fun k V s=>by simp at s⟩
    |cons x es=>
     obtain⟨Q,size,N,_,_,hE⟩:=Z (by simp);subst N;refine .inr ⟨Q,c,by rw[S],fun k V s=> ?_⟩;obtain⟨m,rfl,_⟩:=Lz C s;obtain⟨u,D,K,g3⟩:=RelE.get hE s;have i:=D;unfold RelC at i;subst i;have r:size=1:=by rw[<-K];rfl
     subst r;have:=g3 0 (.int .u8 m) rfl;refine⟨_,D, ?_⟩;simpa using this
   ·rename_i id;split at b<;>(try cases b;done);rename_i et sz es F;obtain⟨X,C,rfl⟩:=Aa.1 b;refine⟨_,WG (M:=M) o U l C ?_,Nd (w:=w) (M:=M)⟩;obtain⟨_,N⟩:=f
    have J:ob id=.arr et sz es:=by
     rcases I id with e'|e'
     ·rw[e']at F;cases F
     ·rw[e']at F;exact F
    have t:=h.ob id;rw[J]at t;obtain⟨xs,y,hf⟩:=t;rw[N];rcases y.2 with⟨L,W⟩|⟨g,cap,O,ty,fz,L,W,e4,_,_,e5,e6,e7,e8⟩
    ·exact .inl ⟨_,_,L,List.eq_nil_of_length_eq_zero W⟩
    ·refine .inr ⟨⟨g,0,none⟩,cap,L,fun k V s=> ?_⟩;obtain⟨m,rfl,_⟩:=Lz C s;obtain⟨u,D,K,g3⟩:=Gs hf s;have i:=D;unfold RelC at i;subst i;have r:sz=1:=by rw[<-K];rfl
     subst r;refine⟨_,D, ?_⟩;rw[Eb,cell_of_row w g _ O ty fz e4];have H:=g3 0 (.int .u8 m) rfl;rw[<-e8,List.getElem?_take]at H;split at H
     ·simpa using H
     ·cases H
   ·cases b
  ·cases d
 ·cases d
theorem Yv(h:aC P G w M B z ob fr a){op:BinOp}{t:TypeId}{x y:Operand}{i:aa}(s:LD P op t x y=some i){sv:SV}(j:An rd (so G fr) i=some sv):
  ∃v,(do eqGuard op t x y (a.eval x) (a.eval y);binOp op t (a.eval x) (a.eval y):Sem Value).run P w=.ok v w/\Aw w M z ob sv v:=by
 by_cases f:op=.eql\/op=.neq
 ·have c:(match P.underlying t with
   |some (.int _)|some .string=>(Ap x).bind fun a=>(Ap y).map fun b=>aa.bin op a b
   |some .bool=>(Ap x).bind fun a=>(Ap y).map fun b=>.beq (D8 op) a b
   |some (.struct u)=>if P.stoodInHeld t||P.eqGuardType P.depth t then none else
    (Fd P 0 u.toList).bind fun q=>(Ap x).bind fun a=>(Ap y).map fun b=>.eqs (D8 op) q a b
   |some d=>(JZ d y).bind fun r=>(Ap x).map fun a=>.isnil r (D8 op) a
   |_=>none)=some i:=by
   rcases f with rfl|rfl<;>exact s
  split at c
  ·simp only[Ab,Aa]at c;obtain⟨sx,e,k,g,rfl⟩:=c;exact NL h e g j
  ·simp only[Ab,Aa]at c;obtain⟨sx,e,k,g,rfl⟩:=c;exact NL h e g j
  ·rename_i l;simp only[Ab,Aa]at c;obtain⟨sx,e,k,g,rfl⟩:=c;exact Aii h f l e g j
  ·rename_i u l;split at c
   ·cases c
   ·rename_i o;simp only[Ak,not_or,Bool.not_eq_true]at o;simp only[Ab,Aa]at c;obtain⟨q,m,sx,e,k,g,rfl⟩:=c;exact Ain h f l o.1 o.2 m e g j
  ·rename_i d _ _ _ _ l;simp only[Ab,Aa]at c;obtain⟨r,p,sx,e,rfl⟩:=c;exact Aiu h l f p e j
  ·cases c
 ·have c:(match P.underlying t with
   |some (.int _)|some .string=>(Ap x).bind fun a=>(Ap y).map fun b=>aa.bin op a b
   |_=>none)=some i:=by
   cases op<;>first|exact s|(exact absurd (.inl rfl) f)|(exact absurd (.inr rfl) f)
  split at c
  ·simp only[Ab,Aa]at c;obtain⟨sx,e,k,g,rfl⟩:=c;exact NL h e g j
  ·simp only[Ab,Aa]at c;obtain⟨sx,e,k,g,rfl⟩:=c;exact NL h e g j
  ·cases c
theorem Air(h:aC P G w M B z ob fr a){f:FuncId}(g:mvOf f=none){captured:Array Operand}{l:List SO}(e:Aq Ap captured.toList=some l){sv:SV}(c:An rd (so G fr) (.fnv f l)=some sv):
  Aw w M z ob sv (.func (.func f) #[] (captured.map a.eval)):=by
 simp only[An,Aa]at c;obtain⟨cs,b,rfl⟩:=c;have d:=MG h.fr h.glob e b;show RelC _ _ _ _;unfold RelC;refine⟨captured.toList.map a.eval, ?_,d⟩;unfold bT;rw[g];show _=_
 congr 1
 apply Array.toList_inj.1;simp
theorem Ais(h:aC P G w M B z ob fr a){f:FuncId}{x:Operand}{l:List SO}(e:Aq Ap [x]=some l){sv:SV}(c:An rd (so G fr) (.fnv (GB+f) l)=some sv):
  Aw w M z ob sv (.func (.func f) #[a.eval x] #[]):=by
 simp only[An,Aa]at c;obtain⟨cs,b,rfl⟩:=c;have d:=MG h.fr h.glob e b;show RelC _ _ _ _;unfold RelC;refine⟨_, ?_,d⟩;unfold bT;rw[Ad7];exact⟨a.eval x,rfl,rfl⟩
theorem XA(h:aC P G w M B z ob fr a){x:Operand}{sx:SO}(j:Ap x=some sx){sv:SV}(d:An rd (so G fr) (.nchk sx)=some sv):
  ∃i,a.eval x=.pointer (some i)/\Aw w M z ob sv (a.eval x):=by
 have f:=h.opd j;simp only[An]at d;generalize so G fr sx=q at f d;split at d<;>(try cases d;done)
 ·split at d<;>(try cases d;done);rename_i k;cases d;have b:a.eval x=C7 _ (M.al _):=f;rw[Qp k]at b;exact⟨_,b,f⟩
 all_goals
  cases d;have b:=f
 ·unfold Aw RelC at b;obtain⟨i,vs,e,_⟩:=b;exact⟨_,e,f⟩
 ·unfold Aw RelC at b;obtain⟨g,ty,vs,e,_⟩:=b;exact⟨_,e,f⟩
 ·obtain⟨_,g,_,e⟩:=b;exact⟨_,e,f⟩
 ·obtain⟨_,g,n,c,_,e⟩:=b;exact⟨_,e,f⟩
theorem Aim(h:aC P G w M B z ob fr a){t:TypeId}{f:Nat}(b:ON P t f=true){x:Operand}{sx:SO}(c:Ap x=some sx){sv:SV}(d:An rd (so G fr) (.nchk sx)=some sv):
  ∃v,(Instr.fieldAt t (a.eval x) f).run P w=.ok v w/\Aw w M z ob sv v:=by
 unfold ON at b;split at b<;>(try cases b;done);rename_i l g;split at b<;>(try cases b;done);rename_i fd k;split at b<;>(try cases b;done);rename_i i _ hi;simp only[Ag,beq_iff_eq,bne_iff_ne,ne_eq]at b;obtain⟨m,e,j⟩:=XA h c d;refine⟨_, ?_,j⟩;simp[Instr.fieldAt,Instr.sureAddr,run_underlying g,k,e,fieldPlace,Dz hi,b.2,b.1.2,add_zero]
theorem Aik(h:aC P G w M B z ob fr a)(s:∀id,rd id=.none\/rd id=ob id){c:Call}{ty:TypeId}{q:aa}(b:EJ P c=some q)(g:q.cls=.val){sv:SV}(o:An rd (so G fr) q=some sv):
  ∃v,(do let d<-resolve a.eval c ty;invoke d.target d.args:Sem Next).run P w=.ok (.value v) w/\Aw w M z ob sv v:=by
 obtain⟨callee,args,argTypes⟩:=c;unfold EJ at b;split at b<;>(try cases b;done)
 ·rename_i f;simp only at f;subst f;simp only at b
  have p:∃t,argTypes[0]? =some t:=by
   cases F:argTypes[0]? with
   |none=>rw[F]at b;simp at b
   |some t=>exact⟨t,rfl⟩
  obtain⟨t,p⟩:=p
  rw[p]at b;simp only[Option.bind_some]at b
  have run:∀(x:Operand),args.toList= [x]->(do let d<-resolve a.eval {callee:=.builtin .len,args:=args,argTypes:=argTypes} ty;invoke d.target d.args:Sem Next).run P w=((Builtin.len_ #[t] ty #[a.eval x]).run P w).andThen fun v w'=>.ok (.value v) w':=by
   intro x m;obtain⟨l⟩:=args;simp only at m;subst m;have e:∀v:Array Value,Builtin.len_ argTypes ty v=Builtin.len_ #[t] ty v:=fun v=>by simp[Builtin.len_,p]
   simp[resolve,invoke,builtin,e]
  split at b
  ·rename_i x r m;simp only[Aa]at b;obtain⟨sx,j,rfl⟩:=b;simp only[An,Aa]at o;obtain⟨n,u,rfl⟩:=o;rw[run x m,QS h s r (.inl ⟨rfl,rfl⟩) j u];exact⟨_,rfl,Ep (w:=w) (M:=M)⟩
  ·rename_i e x r m;simp only[Aa]at b;obtain⟨sx,j,rfl⟩:=b;simp only[An,Aa]at o;obtain⟨n,u,rfl⟩:=o;rw[run x m,QS h s r (.inr (.inl ⟨rfl,_,rfl⟩)) j u];exact⟨_,rfl,Ep (w:=w) (M:=M)⟩
  ·rename_i k e x r m;simp only[Aa]at b;obtain⟨sx,j,rfl⟩:=b;simp only[An,Aa]at o;obtain⟨n,u,rfl⟩:=o;rw[run x m,QS h s r (.inr (.inr ⟨rfl,_,_,rfl⟩)) j u];exact⟨_,rfl,Ep (w:=w) (M:=M)⟩
  ·rename_i n e x r m;simp only[Ac]at b;subst b;simp only[An,Ac]at o;subst o;rw[run x m];exact⟨.int .i64 n,by simp[Builtin.len_,run_underlying r,goInt],Ep (w:=w) (M:=M)⟩
  ·cases b
 ·rename_i f;simp only at f;subst f;simp only[Aa]at b;obtain⟨l,y,rfl⟩:=b;obtain⟨v,A,C⟩:=X9 h y o argTypes ty;simp only[Ah,if_false]at A;exact⟨v,by simp[resolve,invoke,builtin,A],C⟩
 ·rename_i f;simp only at f;subst f;simp only[Aa]at b;obtain⟨l,y,rfl⟩:=b;obtain⟨v,A,C⟩:=X9 h y o argTypes ty;simp only[if_true]at A;exact⟨v,by simp[resolve,invoke,builtin,A],C⟩
 ·split at b<;>(try cases b;done);split at b<;>(try cases b;done);simp only[Ab,Ae,Ac]at b;obtain⟨i,_,H,_,D,_,sb,_,_,rfl⟩:=b;cases g
 ·split at b<;>(try cases b;done);split at b<;>(try cases b;done);simp only[Ab,Ae,Ac]at b;obtain⟨i,_,D,_,sb,_,_,rfl⟩:=b;cases g
 ·split at b<;>(try cases b;done);rcases Fs b with⟨l,y,rfl⟩|⟨_,_,_,_,_,_,_,rfl⟩<;>cases g
 ·simp only[Aa]at b;obtain⟨l,y,rfl⟩:=b;cases g
theorem Aiw(h:aC P G w M B z ob fr a)(i:∀id,rd id=.none\/rd id=ob id){x:Operand}{sx:SO}(t:Ap x=some sx){sv:SV}(c:An rd (so G fr) (.mentry sx)=some sv):
  ∃v,(Instr.entry (a.eval x)).run P w=.ok v w/\Aw w M z ob sv v:=by
 have s:=h.opd t;simp only[An]at c;generalize so G fr sx=q at s c;split at c<;>(try cases c;done);rename_i id;split at c<;>(try cases c;done);rename_i ks vs p g;cases c;obtain⟨k,L⟩:=s
 have j:ob id=.miter ks vs (some p):=by
  rcases i id with e|e
  ·rw[e]at g;cases g
  ·rw[e]at g;exact g
 have d:=h.ob id;rw[j]at d;obtain⟨r,N,b,seen,K,y,u⟩:=d;rcases u with⟨_,_,_,A⟩|⟨m,l,rem,J,S,I,H,R,Q,O,o⟩
 ·cases A
 ·obtain⟨s0,f,F,D,g3,C⟩:=o p rfl;subst F;subst J;refine⟨.tuple #[f.key,f.val], ?_, ?_⟩
  ·rw[L,K];exact run_entry_at w r m b s0 ⟨l⟩ b f y I D H.2.2
  ·show RelC _ _ (.tup _) _;unfold RelC;exact⟨[f.key,f.val],rfl,RelL.cons g3 (RelL.cons C RelL.nil)⟩
theorem Ai0(h:aC P G w M B z ob fr a)(p:∀id,rd id=.none\/rd id=ob id){o:Oper}{A:aa}(b:BU P o=some A)(d:A.cls=.val){sv:SV}(j:An rd (so G fr) A=some sv):
  Yes P w M z ob a o sv:=by
 unfold BU at b;split at b<;>rename_i k<;>(try cases b;done)
 ·
  simp only[Aa]at b;obtain⟨sx,g,rfl⟩:=b;simp only[An,Ac]at j;subst j;exact⟨_,by simp[execOp,k],h.opd g⟩
 ·
  simp only[Aa]at b;obtain⟨sx,g,rfl⟩:=b;simp only[An,Ac]at j;subst j;exact⟨_,by simp[execOp,k],h.opd g⟩
 ·
  rename_i c x y;simp only[Ab,Aa]at b;obtain⟨sc,R,sx,Q,sy,O,rfl⟩:=b;have K:=h.opd R;have U:=h.opd Q;have S:=h.opd O;simp only[An]at j;generalize so G fr sc=q at K j;split at j
  ·rename_i t;simp only[Ac]at j;subst j;have e:=DR (w:=w) (M:=M) K;refine⟨if t then a.eval x else a.eval y,by simp[execOp,k,e,asBool], ?_⟩;cases t
   ·exact S
   ·exact U
  ·cases j
 ·split at b<;>(simp only[Ab,Aa]at b;obtain⟨_,_,_,_,_,_,rfl⟩:=b;cases d)
 ·simp only[Aa]at b;obtain⟨_,_,rfl⟩:=b;cases d
 ·
  simp only[Ab,Aa]at b;obtain⟨i,hi,vz,hz,zc,N,ps,V,rfl⟩:=b;exact Da (by simp only[execOp,k]) (Aij h hi hz N V j)
 ·
  split at b<;>(try cases b;done);simp only[Ab,Ae,Ac]at b;obtain⟨_,_,_,_,_,_,_,_,_,rfl⟩:=b;cases d
 ·
  simp only[Ab,Aa]at b;obtain⟨s,H,sx,g,rfl⟩:=b;exact Da (by simp only[execOp,k]) (X8 h p H g j)
 ·simp only[Ab,Aa]at b;obtain⟨_,_,_,_,_,_,rfl⟩:=b;cases d
 ·exact Da (by simp only[execOp,k]) (Yv h b j)
 ·simp only[Aa]at b;obtain⟨sx,g,rfl⟩:=b;exact Da (by simp only[execOp,k]) (Ai2 h g j)
 ·exact Da (by simp only[execOp,k]) (Ail h p b d j)
 ·
  simp only[Aa]at b;obtain⟨sx,g,rfl⟩:=b;obtain⟨ad,e,K⟩:=XA h g j;exact⟨_,by simp only[execOp,k,e];rfl,K⟩
 ·
  rename_i f first captured
  split at b<;>(try cases b;done)
  ·rename_i D;simp only[Ae,Aa]at b;obtain⟨hb,l,u,rfl⟩:=b;have C:first= #[]:=Array.toList_inj.1 (by simpa using D)
   exact⟨_,by simp[execOp,k,Instr.makeFunc,C],Air h (Iu hb) u j⟩
  ·rename_i x D J;simp only[Ae,Aa]at b;obtain⟨hb,l,u,rfl⟩:=b;have C:first= #[x]:=Array.toList_inj.1 (by simpa using D)
   have F:captured= #[]:=Array.toList_inj.1 (by simpa using J);exact⟨_,by simp[execOp,k,Instr.makeFunc,C,F],Ais h u j⟩
 ·simp only[Aa]at b;obtain⟨_,_,rfl⟩:=b;cases d
 ·
  split at b<;>(try cases b;done);simp only[Ab,Ae,Ac]at b;obtain⟨_,_,_,_,_,_,_,_,_,_,_,rfl⟩:=b;cases d
 ·
  split at b<;>(try cases b;done);rename_i e m;simp only[Ab,Aa]at b;obtain⟨i,hi,sx,g,sl,u,sh,I,sm,hm,rfl⟩:=b;exact Da (by simp only[execOp,k,Option.map_some]) (Aiz h m hi g u I hm j)
 ·
  split at b<;>(try cases b;done)
  ·rename_i m;simp only[Ab,Aa]at b;obtain⟨sx,g,sl,u,sh,I,rfl⟩:=b;exact Da (by simp only[execOp,k,Option.map_none]) (Ai1 h m g u I j)
  ·rename_i e m;simp only[Ab,Aa]at b;obtain⟨i,hi,sx,g,sl,u,sh,I,rfl⟩:=b;exact Da (by simp only[execOp,k,Option.map_none]) (Aiy h m hi g u I j)
  ·rename_i n e m;split at b<;>(try cases b;done);simp only[Ab,Ae,Aa]at b;obtain⟨i,hi,h1,sx,g,rfl⟩:=b;exact Da (by simp only[execOp,k,Option.map_none]) (Aih h m hi h1 g j)
 ·
  split at b<;>(try cases b;done)
  ·rename_i X;simp only[Aa]at b;obtain⟨sx,g,rfl⟩:=b;exact Da (by simp only[execOp,k]) (Aim h X g j)
  ·rename_i fs _ m;simp only[Ab,Option.ite_none_left_eq_some,Aa]at b;obtain⟨fd,D,i,hi,Y,sx,g,rfl⟩:=b;exact Da (by simp only[execOp,k]) (Aip h p m D hi Y g j)
 ·
  split at b<;>(try cases b;done);rename_i fs m;simp only[Ab,Aa]at b;obtain⟨fd,D,s,H,sx,g,rfl⟩:=b;exact Da (by simp only[execOp,k]) (Aiq h m D H g j)
 ·
  split at b<;>(try cases b;done)
  ·rename_i e m;simp only[Ab,Option.ite_none_left_eq_some,Aa]at b;obtain⟨i,hi,Y,sx,g,L,r,rfl⟩:=b;exact Da (by simp only[execOp,k]) (Ait h p m hi g r j)
  ·rename_i n e m;simp only[Ab,Option.ite_none_left_eq_some,Aa]at b;obtain⟨i,hi,Y,sx,g,L,r,rfl⟩:=b;exact Da (by simp only[execOp,k]) (Aif h m hi g r j)
 ·
  split at b<;>(try cases b;done)
  ·rename_i m;simp only[Ab,Aa]at b;obtain⟨sx,g,L,r,rfl⟩:=b;exact Da (by simp only[execOp,k]) (Aix h m g r j)
  ·rename_i n e m;simp only[Ab,Aa]at b;obtain⟨i,hi,s,H,sx,g,L,r,rfl⟩:=b;exact Da (by simp only[execOp,k]) (Aig h m hi H g r j)
 ·
  simp only[Ab,Aa,Prod.exists]at b;obtain⟨kt,zc,W,sx,g,sk,hk,rfl⟩:=b;simp only[An,Aa]at j;obtain⟨c,F,rfl⟩:=j;obtain⟨v,g1,Z⟩:=Aiv h p W g hk _ F;exact Da (by simp only[execOp,k]) ⟨v,g1,Z⟩
 ·split at b<;>(try cases b;done);simp only[Ab,Aa]at b;obtain⟨_,_,_,_,_,_,rfl⟩:=b;cases d
 ·split at b<;>(try cases b;done);simp only[Ab,Aa]at b;obtain⟨_,_,_,_,_,_,rfl⟩:=b;cases d
 ·split at b<;>(try cases b;done);simp only[Ab,Aa]at b;obtain⟨_,_,_,_,rfl⟩:=b;cases d
 ·simp only[Ab,Aa]at b;obtain⟨_,_,_,_,_,_,rfl⟩:=b;cases d
 ·split at b<;>(try cases b;done);all_goals(simp only[Aa]at b;obtain⟨_,_,rfl⟩:=b;cases d)
 ·simp only[Aa]at b;obtain⟨_,_,rfl⟩:=b;cases d
 ·simp only[Aa]at b;obtain⟨sx,g,rfl⟩:=b;exact Da (by simp only[execOp,k]) (Aiw h p g j)
 ·simp only[Aa]at b;obtain⟨sx,g,rfl⟩:=b;exact Da (by simp only[execOp,k]) (Aio h g j)
 ·obtain⟨v,g1,Z⟩:=Aik (ty:=o.type) h p b d j;exact⟨v,by simp only[execOp,k];exact g1,Z⟩
end
section
variable {P:Program} {G:Nat->List CV} {w0:WL} {M0:MM} {n:Nat} {st:St} {a:Act} {w w':World} {z:Cz}
theorem SR.low(h:SR P G w0 M0 n st a w z){id g:Nat}(c:st.ob id≠ .none)(d:blk (z.σ id)=some g)(b:g<w0.heap.size):w0.L id g:=by
 rcases(h.lo id g c d).1 with h1|h1
 ·omega
 ·exact h1
theorem SR.out(h:SR P G w0 M0 n st a w z){id g:Nat}(c:st.ob id≠ .none)(d:blk (z.σ id)=some g)(hT:¬w0.le.I id):¬M0 g:=fun b=>hT (h.nam.lent _ _ (h.low c d (h.outer g b))).2
theorem SR.globW(h:SR P G w0 M0 n st a w z):GOk G w (Ao M0 z st.ob):=
 h.glob.keep h.below.size (fun g d b=>h.below.block g d fun id e=>b (h.nam.lent id g e).1) fun g c b=>by
  rcases b with b|⟨id,hl,hb⟩
  ·exact b
  ·exact(h.nam.lent id g (h.low hl hb c)).1
theorem SR.ctx(h:SR P G w0 M0 n st a w z):aC P G w (Ao M0 z st.ob) 0 z st.ob st.fr a where
 fr:=h.fr
 ob:=h.ob
 glob:=fun i hi=>((h.globW) i hi).1
 told:=h.nam.told
theorem keeps_below{M:MM}(b:Below w.heap.size w w'):Bg w M w' M:=⟨b.size,fun g c _=>b.block g c,fun _ _ h=>h,rfl⟩
theorem SR.grow(h:SR P G w0 M0 n st a w z)(c:Below w.heap.size w w'):SR P G w0 M0 n st a w' z:=by
 have f:=keeps_below (M:=Ao M0 z st.ob) c;have d:∀s:SV,Fp st.ob z st.ob z s:=fun s=>⟨fun _ _ b=>b,fun _ _ _=>rfl,fun _ _ _ _ _ b=>b⟩;refine⟨h.size,h.defers,h.below.trans (c.mono h.below.size),h.outer,h.nam,h.glob,fun i=>Aw.keep f (d _) (h.fr i),fun id=> ?_,fun id g l k=> ?_,h.apart⟩
 ·by_cases e:st.ob id=.none
  ·rw[e];trivial
  ·exact AV.keep f (fun g j=>c.block g (h.lo id g e j).2) (fun _ _ _ _=>d _) (fun _ _ b=>b) (h.ob id)
 ·have:=h.lo id g l k;exact⟨this.1,Nat.lt_of_lt_of_le this.2 c.size⟩
def Cz.new(z:Cz)(d:Nat)(v:Value):Cz:={σ:=ac z.σ d v,β:=fun id=>if id=d then fun _ _=>False else z.β id,al:=z.al}
theorem JG{v:Value}{d:Nat}{o:Ob}(f:st.ob d=.none)(s:SV):Fp st.ob z (ac st.ob d o) (z.new d v) s where
 live:=fun id _ c=>by
  have:id≠d:=fun e=>c (e▸f);rw[A8 _ _ this];exact c
 at_:=fun id _ c=>by
  have:id≠d:=fun e=>c (e▸f);simp[Cz.new,ac,this]
 born:=fun id _ c k b g=>by
  have:id≠d:=fun e=>c (e▸f);simp[Cz.new,this,g]
theorem Ml{v:Value}{d:Nat}{o:Ob}(i:st.ob d=.none)(c:Below w.heap.size w w')(e:∀g,blk v=some g->w.heap.size≤g):
  Bg w (Ao M0 z st.ob) w' (Ao M0 (z.new d v) (ac st.ob d o)):=⟨c.size,fun g h _=>c.block g h,fun g f b=>by
 rcases b with b|⟨id,hl,hbk⟩
 ·exact .inl b
 ·by_cases ag:id=d
  ·subst ag;simp[Cz.new,ac]at hbk;have:=e g hbk;omega
  ·refine .inr ⟨id, ?_, ?_⟩
   ·rw[A8 _ _ ag]at hl;exact hl
   ·simpa[Cz.new,ac,ag]using hbk,rfl⟩
theorem SR.new(h:SR P G w0 M0 n st a w z){d:Nat}(hd:d<n)(u:st.ob d=.none){v:Value}{o:Ob}{sv:SV}(t:Below w.heap.size w w')(s:∀g,blk v=some g->w.heap.size≤g/\g<w'.heap.size)
  (H:AV P w' (Ao M0 (z.new d v) (ac st.ob d o)) 0 (z.new d v) (ac st.ob d o) d v o) (F:Aw w' (Ao M0 (z.new d v) (ac st.ob d o)) (z.new d v) (ac st.ob d o) sv v):
  SR P G w0 M0 n {fr:=ac st.fr d sv,ob:=ac st.ob d o} (a.put (some d) v) w' (z.new d v):=by
 have C:=Ml (M0:=M0) (z:=z) (o:=o) u t (fun g y=>(s g y).1);refine⟨by simpa[Act.put]using h.size,h.defers,h.below.trans (t.mono h.below.size),h.outer,h.nam.of rfl (fun N K D=> ?_),h.glob,fun i=> ?_,fun id=> ?_,fun id g f c=> ?_,fun i j g q f c p m=> ?_⟩
 ·have r:N≠d:=fun e=>by have:=h.nam.low;omega
  simp only[A8 _ _ r]at D;exact⟨D,by simp[Cz.new,ac,r]⟩
 ·rw[Wm];by_cases hi:i=d
  ·subst hi;rw[if_pos ⟨rfl,by rw[h.size];exact hd⟩];simpa[AR]using F
  ·rw[if_neg (fun x=>hi x.1)];simp only[A8 _ _ hi];exact Aw.keep C (JG u _) (h.fr i)
 ·by_cases ag:id=d
  ·subst ag;simp only[AR];have:(z.new id v).σ id=v:=by simp[Cz.new,ac]
   rw[this];exact H
  ·simp only[A8 _ _ ag];have e:(z.new d v).σ id=z.σ id:=by simp[Cz.new,ac,ag]
   rw[e];by_cases A:st.ob id=.none
   ·rw[A];trivial
   ·exact AV.keep C (fun g y=>t.block g (h.lo id g A y).2) (fun _ _ _ _=>JG u _) (fun k b x=>by simpa[Cz.new,ag]using x) (h.ob id)
 ·by_cases ag:id=d
  ·subst ag;simp only[Cz.new,AR]at c;have:=s g c;exact⟨.inl (Nat.le_trans h.below.size this.1),this.2⟩
  ·simp only[A8 _ _ ag]at f;simp only[Cz.new,A8 _ _ ag]at c;have:=h.lo id g f c;exact⟨this.1,Nat.lt_of_lt_of_le this.2 t.size⟩
 ·by_cases hi:i=d
  ·subst hi;have l:j≠i:=fun e=>q e.symm;simp only[Cz.new,AR]at p;simp only[Cz.new,A8 _ _ l]at m;simp only[A8 _ _ l]at c;have J:=(s g p).1;have I:=(h.lo j g c m).2;omega
  ·by_cases l:j=d
   ·subst l;simp only[Cz.new,AR]at m;simp only[Cz.new,A8 _ _ hi]at p;simp only[A8 _ _ hi]at f;have J:=(s g m).1;have I:=(h.lo i g f p).2;omega
   ·simp only[Cz.new,A8 _ _ hi]at p;simp only[Cz.new,A8 _ _ l]at m;simp only[A8 _ _ hi]at f;simp only[A8 _ _ l]at c;exact h.apart i j g q f c p m
end
theorem Gv(w:World)(o:Obj):Below w.heap.size w (w.alloc o):=(Below.refl _ _).alloc (Nat.le_refl _) _
theorem WQ{P:Program}(t:TypeId)(v:Value)(w:World):(newVar t v).run P w=.ok ⟨w.heap.size,0,none⟩ (w.alloc (.cells v.cells t)):=by
 simp[newVar,newRow]
theorem Q1{P:Program}(t:TypeId)(c:Array Value)(w:World):(newRow t c).run P w=.ok ⟨w.heap.size,0,none⟩ (w.alloc (.cells c t)):=by
 simp[newRow]
theorem FP(w:World)(o:Obj):(w.alloc o).heap[w.heap.size]? =some o:=heap_alloc_new w o
section
variable {P:Program} {G:Nat->List CV} {w0:WL} {M0:MM} {n:Nat} {st:St} {a:Act} {w:World} {z:Cz}
theorem La{M:MM}{size:Nat}:∀{cs:List CV} {vs:List Value},RelL w M cs vs->(cs.all fun v=>AX v==size)=true->AG w M size cs (vs.flatMap fun v=>v.cells.toList)
 | [],vs,h,_=>by unfold RelL at h;subst h;rfl
 |c::cs,vs,h,hs=>by
  unfold RelL at h;obtain⟨v,d,rfl,b,e⟩:=h;simp only[List.all_cons,Ag,beq_iff_eq]at hs;exact⟨v,_,by simp,by rw[b.cells_size,hs.1],b,La e hs.2⟩
theorem Ady(zc:Array Value)(n:Nat):(madeCells zc ((n+1)*zc.size)).toList=zc.toList++(madeCells zc (n*zc.size)).toList:=by
 have e:(n+1)*zc.size=zc.size+n*zc.size:=by rw[Nat.add_mul];omega
 rw[e];simp only[madeCells,Array.toList_map,Array.toList_range,List.range_add,List.map_append,List.map_map]
 congr 1
 ·apply List.ext_getElem
  ·simp
  ·intro i b c;simp at b;simp[Nat.mod_eq_of_lt b,b]
 ·apply List.map_congr_left;intro i _;simp
theorem S4{M:MM}{c:CV}{v:Value}(h:RelC w M c v){size:Nat}(b:v.cells.size=size):∀n,AG w M size (List.replicate n c) (madeCells v.cells (n*size)).toList
 |0=>by simp[AG,madeCells]
 |n+1=>by
  subst b;rw[List.replicate_succ,Ady];exact⟨v,_,rfl,rfl,h,S4 h rfl n⟩
theorem Ahx(zc:Array Value){a b:Nat}(h:a≤b):(madeCells zc b).toList.take a=(madeCells zc a).toList:=by
 simp only[madeCells,Array.toList_map,Array.toList_range,<-List.map_take,List.take_range,Nat.min_eq_left h]
theorem Xc(h:SR P G w0 M0 n st a w z):∀{parts:List (Nat×Operand)} {i:Nat} {b:List SO} {l:List CV},IN i parts=some b->Aq (fun x=>closed (so G st.fr x)) b=some l->
  ∃vs:List Value,(parts.map fun p=>(p.1,a.eval p.2))=(List.range' i vs.length).zip vs/\RelL w (Ao M0 z st.ob) l vs
 | [],i,b,l,h1,h2=>by
  simp only[IN,Ac]at h1;subst h1;simp only[Aq,Ac]at h2;subst h2;exact⟨[],rfl,RelL.nil⟩
 |(j,x)::parts,i,b,l,h1,h2=>by
  simp only[IN,Ae,Ab,Aa]at h1;obtain⟨rfl,sx,d,r,e,rfl⟩:=h1;simp only[Aq,Ab,Aa]at h2;obtain⟨c,k,cs,f,rfl⟩:=h2;obtain⟨vs,q,o⟩:=Xc h e f
  have g:so G st.fr sx=.c c:=by
   cases m:so G st.fr sx<;>rw[m]at k<;>simp[closed]at k;rw[k]
  exact⟨a.eval x::vs,by simp[q,List.range'_succ],RelL.cons (h.ctx.c d g) o⟩
theorem Uz{size:Nat}:∀(vs:List Value) (k:Nat) (pre rest:List Value),pre.length=k*size->rest.length=vs.length*size->(∀v∈vs,v.cells.size=size)->
  Instr.fill (fun i=>some (i*size,size)) ⟨pre++rest⟩ ((List.range' k vs.length).zip vs)=some ⟨pre++vs.flatMap fun v=>v.cells.toList⟩
 | [],k,pre,rest,_,h2,_=>by
  have:rest= []:=List.eq_nil_of_length_eq_zero (by simpa using h2);subst this;rfl
 |v::vs,k,pre,rest,h1,h2,h3=>by
  have d:=h3 v (by simp);simp only[List.length_cons,List.range'_succ,List.zip_cons_cons,Instr.fill];rw[if_neg (by simp[d,h1,h2,Nat.add_mul])]
  have b:(v.cells.zipIdx.foldl (fun(cs:Array Value) (p:Value×Nat)=>cs.setIfInBounds (k*size+p.2) p.1) (⟨pre++rest⟩:Array Value))=⟨(pre++v.cells.toList)++rest.drop size⟩:=by
   apply Array.toList_inj.1;rw[<-Array.foldl_toList,Array.toList_zipIdx];have:=Pj v.cells.toList ⟨pre++rest⟩ (k*size) 0 (by simp[d,h1,h2,Nat.add_mul]);rw[this];simp[d,<-h1,List.drop_append]
  have f:=Uz vs (k+1) (pre++v.cells.toList) (rest.drop size) (by simp[h1,d,Nat.add_mul]) (by simp[h2,Nat.add_mul]) (fun u g=>h3 u (by simp[g]));have e:(v.cells.zipIdx.foldl (fun(cs:Array Value) (x:Value×Nat)=>match x with|(c,j)=>cs.setIfInBounds (k*size+j) c) (⟨pre++rest⟩:Array Value))=⟨(pre++v.cells.toList)++rest.drop size⟩:=b;rw[e,f];simp
def IW(P:Program)(G:Nat->List CV)(w0:WL)(M0:MM)(n:Nat)(st:St)(a:Act)(w:World)(o:Oper)(d:Nat)(sv:SV)(ob:Ob):Prop:=
 ∃v w' z',(execOp a.eval o).run P w=.ok (.value v) w'/\SR P G w0 M0 n {fr:=ac st.fr d sv,ob:=ac st.ob d ob} (a.put (some d) v) w' z'
theorem H3(h:SR P G w0 M0 n st a w z){o:Oper}{d:Nat}(hd:d<n)(b:st.ob d=.none){sv:SV}{ob:Ob}{s:Sem Value}{v:Value}{w':World}(l:execOp a.eval o=(do pure (.value (<-s)):Sem Next))(i:s.run P w=.ok v w')
  (e:Below w.heap.size w w') (c:∀g,blk v=some g->w.heap.size≤g/\g<w'.heap.size)
  (j:Bg w (Ao M0 z st.ob) w' (Ao M0 (z.new d v) (ac st.ob d ob))->(∀s,Fp st.ob z (ac st.ob d ob) (z.new d v) s)->AV P w' (Ao M0 (z.new d v) (ac st.ob d ob)) 0 (z.new d v) (ac st.ob d ob) d v ob/\Aw w' (Ao M0 (z.new d v) (ac st.ob d ob)) (z.new d v) (ac st.ob d ob) sv v):
  IW P G w0 M0 n st a w o d sv ob:=by
 have f:=Ml (M0:=M0) (z:=z) (o:=ob) b e (fun g k=>(c g k).1);obtain⟨p,m⟩:=j f (JG b);exact⟨v,w',z.new d v,by rw[l];simp[i],h.new hd b e c p m⟩
theorem F7{d:Nat}{ob:Ob}(h:ob≠ .none):ac st.ob d ob d≠ .none:=by rw[AR];exact h
theorem Dy{d:Nat}{v:Value}:(z.new d v).σ d=v:=by simp[Cz.new,ac]
theorem PK(h:SR P G w0 M0 n st a w z){o:Oper}{d:Nat}(hd:d<n)(j:st.ob d=.none){cs:List SV}{t:TypeId}{bt:Option TypeId}(b:∀T,bt=some T->t=T){vs:List Value}{s:Sem Value}(l:execOp a.eval o=(do pure (.value (<-s)):Sem Next))
  (i:s.run P w=.ok (.pointer (some ⟨w.heap.size,0,none⟩)) (w.alloc (.cells ⟨vs⟩ t))) (f:A3 w (Ao M0 z st.ob) z st.ob cs vs):IW P G w0 M0 n st a w o d (.ptr d 0) (.box cs bt):=by
 refine H3 h hd j l i (Gv _ _) (fun g c=> ?_) fun k e=>⟨⟨w.heap.size,⟨t,b⟩,vs,rfl,FP _ _,A3.keep k (fun s _=>e s) f⟩,F7 (by simp),w.heap.size,Dy,rfl⟩;simp only[blk,Ac]at c;subst c;exact⟨Nat.le_refl _,by simp⟩
theorem Tp(h:SR P G w0 M0 n st a w z){s:SV}{v:Value}(j:Aw w (Ao M0 z st.ob) z st.ob s v)(t:∀cs,s≠ .c (.agg cs))(q:s≠ .undef):v.cells= #[v]:=by
 have live:∀id,st.ob id≠ .none->(z.σ id).cells= #[z.σ id]:=by
  intro id l;have f:=h.ob id
  cases d:st.ob id with
  |none=>exact absurd d l
  |box cs=>rw[d]at f;obtain⟨g,ty,vs,e,_⟩:=f;rw[e];rfl
  |arr e size es=>
   rw[d]at f;obtain⟨A,m,_⟩:=f;rcases m.2 with⟨e,_⟩|⟨g,cap,p,_,_,e,_⟩<;>rw[e]<;>rfl
  |map mt kt zc ks vs=>rw[d]at f;obtain⟨_,_,_,r,x,y,_,e,_⟩:=f;rw[e];rfl
  |siter s pos=>rw[d]at f;obtain⟨r,e,_⟩:=f;rw[e];rfl
  |miter ks vs p=>rw[d]at f;obtain⟨r,F,C,D,e,_⟩:=f;rw[e];rfl
  |buf e s=>
   rw[d]at f;rcases f.2 with⟨e,_⟩|⟨g,cap,p,H,e,_⟩<;>rw[e]<;>rfl
 cases s with
 |c cv=>exact PZ j (fun cs e=>t cs (by rw[e]))
 |ptr id o=>obtain⟨_,g,_,e⟩:=j;rw[e];rfl
 |eptr id i sz o=>obtain⟨_,g,n,c,_,e⟩:=j;rw[e];rfl
 |osl id=>obtain⟨l,e⟩:=j;rw[e];exact live id l
 |omap id=>obtain⟨l,e⟩:=j;rw[e];exact live id l
 |iter id=>obtain⟨l,e⟩:=j;rw[e];exact live id l
 |stamp id k=>obtain⟨_,b,_,e⟩:=j;rw[e];rfl
 |ent id k cv=>obtain⟨_,b,u,_,e,_⟩:=j;rw[e];rfl
 |undef=>exact absurd rfl q
theorem Ho{op:BinOp}{t:TypeId}{x y:Operand}{c:aa}(b:LD P op t x y=some c):c.cls=.val:=by
 unfold LD at b;split at b
 all_goals
  split at b<;>first
   |(cases b;done)
   |(simp only[Ab,Aa]at b;obtain⟨_,_,_,_,rfl⟩:=b;rfl)
   |(split at b<;>first
    |(cases b;done)
    |(simp only[Ab,Aa]at b;obtain⟨_,_,_,_,_,_,rfl⟩:=b;rfl))
theorem Ib{src dst:TypeId}{x:Operand}{c:aa}(b:G0 P src dst x=some c):c.cls=.val\/c.cls=.grow:=by
 unfold G0 at b
 split at b<;>first
  |(cases b;done)
  |(simp only[Aa]at b;obtain⟨_,_,rfl⟩:=b;exact .inl rfl)
  |(split at b<;>first
   |(cases b;done)
   |(simp only[Aa]at b;obtain⟨_,_,rfl⟩:=b;first|exact .inl rfl|exact .inr rfl))
theorem YV{c:Call}{e:aa}(b:EJ P c=some e):e.cls≠ .new:=by
 unfold EJ at b;split at b<;>(try cases b;done)
 ·split at b<;>first
   |(cases b;done)
   |(simp only[Aa]at b;obtain⟨_,_,rfl⟩:=b;intro d;cases d)
   |(simp only[Ac]at b;subst b;intro d;cases d)
 ·simp only[Aa]at b;obtain⟨_,_,rfl⟩:=b;intro d;cases d
 ·simp only[Aa]at b;obtain⟨_,_,rfl⟩:=b;intro d;cases d
 ·split at b<;>(try cases b;done);split at b<;>(try cases b;done);simp only[Ab,Ae,Ac]at b;obtain⟨i,_,g,_,f,_,sb,_,_,rfl⟩:=b;intro d;cases d
 ·split at b<;>(try cases b;done);split at b<;>(try cases b;done);simp only[Ab,Ae,Ac]at b;obtain⟨i,_,f,_,sb,_,_,rfl⟩:=b;intro d;cases d
 ·split at b<;>(try cases b;done);rcases Fs b with⟨l,h,rfl⟩|⟨_,_,_,_,_,_,_,rfl⟩<;>(intro d;cases d)
 ·simp only[Aa]at b;obtain⟨_,_,rfl⟩:=b;intro d;cases d
theorem V6(h:SR P G w0 M0 n st a w z){t e:TypeId}{len:Nat}{parts:Array (Nat×Operand)}{i:TypeInfo}{b:Value}{zc:CV}{q:List SO}{l:List CV}(K:P.underlying t=some (.slice e))(hi:P.info? e=some i)(U:i.zero=some b)(s:CD b=some zc)
  (y:IN 0 parts.toList=some q) (k:q.length=len) (Z:0<i.size) (F:AX zc=i.size) (X:len*i.size≤16777216) (N:Aq (fun x=>closed (so G st.fr x)) q=some l) (o:(l.all fun v=>AX v==i.size)=true):
  ∃vs:List Value,RelL w (Ao M0 z st.ob) l vs/\vs.length=len/\(Instr.buildSlice t len (parts.map fun(i,x)=>(i,a.eval x))).run P w=.ok (.slice (some ⟨w.heap.size,0,none⟩) len len) (w.alloc (.cells ⟨vs.flatMap fun v=>v.cells.toList⟩ e)):=by
 obtain⟨vs,R,c⟩:=Xc h y N;have V:b.cells.size=i.size:=by rw[(Fx w ⟨fun _=>False,fun _=>0⟩ b zc s).cells_size,F]
 have f:vs.length=len:=by rw[c.length,D3 N,k]
 have A:∀v∈vs,v.cells.size=i.size:=by
  intro v D;obtain⟨j,O,J⟩:=List.getElem_of_mem D;have m:l[j]? =some (l[j]'(by rw[<-c.length];exact O)):=Aj _;obtain⟨S,Q,g2⟩:=c.get m;have:S=v:=by rw[Aj O]at Q;simpa[J]using Q.symm
  subst this;rw[g2.cells_size];have:=List.all_eq_true.1 o _ (List.mem_of_getElem? m);simpa using this
 have d:=Uz (size:=i.size) vs 0 [] (madeCells b.cells (len*i.size)).toList (by simp) (by simp[size_madeCells,f]) A
 have run:(Instr.buildSlice t len (parts.map fun(i,x)=>(i,a.eval x))).run P w=.ok (.slice (some ⟨w.heap.size,0,none⟩) len len) (w.alloc (.cells ⟨vs.flatMap fun v=>v.cells.toList⟩ e)):=by
  have W:(parts.map fun(p:Nat×Operand)=>(p.1,a.eval p.2)).toList=(List.range' 0 vs.length).zip vs:=by rw[Array.toList_map];exact R
  have u:(madeCells b.cells (len*i.size))=(Array.range (len*i.size)).map (b.cells[· % b.cells.size]!):=rfl;have L:¬(16777216<len*i.size):=by omega
  by_cases g:len*i.size=0
  ·have I:len=0:=by
    rcases Nat.eq_zero_or_pos len with h'|h'
    ·exact h'
    ·have:=Nat.mul_pos h' Z;omega
   have C:vs= []:=List.eq_nil_of_length_eq_zero (by omega);subst C;subst I
   have H:parts= #[]:=by
    have:parts.toList= []:=by simpa using R
    exact Array.toList_inj.1 (by simpa using this)
   subst H;simp[Instr.buildSlice,run_underlying K,Dz hi,Instr.fill,Q1]
   congr 2
   apply Array.toList_inj.1;simp
  ·have Y:Instr.fill (fun r=>some (r*i.size,i.size)) ((Array.range (len*i.size)).map (b.cells[· % b.cells.size]!)) (parts.map fun(p:Nat×Operand)=>(p.1,a.eval p.2)).toList=some ⟨vs.flatMap fun v=>v.cells.toList⟩:=by
    rw[W,<-u];simpa using d
   simp only[Instr.buildSlice,Sem.run_bind,run_underlying K,Result.andThen_ok,Dz hi];rw[show(2:Nat)^24=16777216 from rfl,if_neg (by omega)];simp only[Sem.run_bind,Sem.run_pure,Result.andThen_ok,if_neg g,Kw hi U,Y,Q1]
 exact⟨vs,c,f,run⟩
theorem Aea(h:SR P G w0 M0 n st a w z){o:Oper}{S:aa}(c:BU P o=some S)(f:S.cls=.new){d:Nat}{sv:SV}{ob:Ob}(j:Bl (so G st.fr) d S=some (sv,ob))(hd:d<n)(O:st.ob d=.none):
  IW P G w0 M0 n st a w o d sv ob:=by
 unfold BU at c;split at c<;>rename_i N<;>(try cases c;done)
 ·simp only[Aa]at c;obtain⟨_,_,rfl⟩:=c;cases f
 ·simp only[Aa]at c;obtain⟨_,_,rfl⟩:=c;cases f
 ·simp only[Ab,Aa]at c;obtain⟨_,_,_,_,_,_,rfl⟩:=c;cases f
 ·
  rename_i t
  split at c<;>(
  simp only[Ab,Aa]at c;obtain⟨i,hi,I,K,zc,D,rfl⟩:=c;simp only[Bl,Ac,Prod.mk.injEq]at j;obtain⟨rfl,rfl⟩:=j;refine PK h hd O (by intro T hT;first|(cases hT;rfl)|cases hT) (t:=t) (vs:=I.cells.toList) (s:=Instr.alloc t true (.tuple #[])) (by simp only[execOp,N]) ?_ (A3.of_c (RelC.cells (Fx _ _ I zc D)))
  simp[Instr.alloc,Kw hi K,WQ])
 ·
  rename_i t x;simp only[Aa]at c;obtain⟨sx,V,rfl⟩:=c;have A:=h.ctx.opd V;simp only[Bl]at j
  have run:(Instr.box t (a.eval x)).run P w=.ok (.pointer (some ⟨w.heap.size,0,none⟩)) (w.alloc (.cells ⟨(a.eval x).cells.toList⟩ t)):=by
   simp[Instr.box,WQ]
  generalize so G st.fr sx=q at A j;split at j
  ·rename_i cs;simp only[Ac,Prod.mk.injEq]at j;obtain⟨rfl,rfl⟩:=j;exact PK h hd O (by intro T hT;cases hT) (by simp only[execOp,N]) run (A3.of_c (RelC.cells A))
  ·cases j
  ·rename_i hne hnu;simp only[Ac,Prod.mk.injEq]at j;obtain⟨rfl,rfl⟩:=j;have X:=Tp h A hne hnu;rw[X]at run;exact PK h hd O (by intro T hT;cases hT) (by simp only[execOp,N]) run ⟨a.eval x,[],rfl,A,rfl⟩
 ·simp only[Ab,Aa]at c;obtain⟨_,_,_,_,_,_,_,_,rfl⟩:=c;cases f
 ·
  rename_i t len parts;split at c<;>(try cases c;done);rename_i e L;simp only[Ab,Ae,Ac]at c;obtain⟨i,hi,I,K,zc,D,xs,hxs,⟨hlen,h0,W,hle⟩,rfl⟩:=c;simp only[Bl,Ab,Ae,Ac,Prod.mk.injEq]at j;obtain⟨l,hl,H,rfl,rfl⟩:=j;obtain⟨vs,u,F,run⟩:=V6 h L hi K D hxs hlen h0 W hle hl H
  have U:(vs.flatMap fun v=>v.cells.toList).length=len*i.size:=by
   have:=GY (La u H);rw[this,<-F,u.length]
  refine H3 h hd O (by simp only[execOp,N]) run (Gv _ _) (fun g C=> ?_) fun Q hz'=>⟨⟨vs.flatMap fun v=>v.cells.toList,DC.of ⟨?_,.inr ⟨w.heap.size,len,⟨vs.flatMap fun v=>v.cells.toList⟩, ?_,Nat.zero_le _,FP _ _, ?_, ?_,by simp[U], ?_⟩⟩,AG.keep Q (La u H)⟩,F7 (by simp),Dy.symm⟩
  ·simp only[blk,Ac]at C;subst C;exact⟨Nat.le_refl _,by simp⟩
  ·rw[U,<-F,u.length]
  ·rw[<-F,u.length]
  ·rw[<-F,u.length];exact Nat.le_refl _
  ·have hm:len≤len*i.size:=Nat.le_mul_of_pos_right _ h0;unfold maxLen;omega
  ·rw[<-u.length,F];rw[List.take_of_length_le (by simp[U])]
 ·simp only[Ab,Aa]at c;obtain⟨_,_,_,_,rfl⟩:=c;cases f
 ·simp only[Ab,Aa]at c;obtain⟨_,_,_,_,_,_,rfl⟩:=c;cases f
 ·have:=Ho c;rw[f]at this;cases this
 ·simp only[Aa]at c;obtain⟨_,_,rfl⟩:=c;cases f
 ·have:=Ib c;rw[f]at this;rcases this with h'|h'<;>cases h'
 ·simp only[Aa]at c;obtain⟨_,_,rfl⟩:=c;cases f
 ·split at c<;>(try cases c;done);all_goals(simp only[Ae,Aa]at c;obtain⟨_,_,_,rfl⟩:=c;cases f)
 ·
  rename_i t;simp only[Aa,Prod.exists]at c;obtain⟨kt,zc,hmt,rfl⟩:=c;simp only[Bl,Ac,Prod.mk.injEq]at j;obtain⟨rfl,rfl⟩:=j
  refine H3 h hd O (s:=Instr.makeMap t none) (v:=.map (some w.heap.size)) (w':=w.alloc (.map #[] 0)) (by simp only[execOp,N,Option.map_none]) (by simp[Instr.makeMap]) (Gv _ _) (fun g C=> ?_)
   fun Q K=>⟨⟨hmt,[],[],w.heap.size,[],0,MP.refl rfl,rfl,FP _ _,RelL.nil,RelL.nil,(fun _ R=>by cases R),List.nodup_nil,(fun _ R=>by cases R),List.nodup_nil,fun k b R=>by simp[Cz.new]at R⟩,F7 (by simp),Dy.symm⟩
  simp only[blk,Ac]at C;subst C;exact⟨Nat.le_refl _,by simp⟩
 ·
  rename_i t x y;split at c<;>(try cases c;done);rename_i e L;simp only[Ab,Ae,Ac]at c;obtain⟨i,hi,I,K,zc,D,sx,V,sy,hy,⟨h0,W⟩,rfl⟩:=c;have A:=h.ctx.opd V;have hr2:=h.ctx.opd hy;simp only[Bl]at j;generalize so G st.fr sx=q at A j;generalize so G st.fr sy=q2 at hr2 j;split at j<;>(try cases j;done);rename_i k1 l k2 m;simp only[Ae,Ac,Prod.mk.injEq]at j;obtain⟨⟨g1,g2,g3,g4⟩,rfl,rfl⟩:=j;have Y:=Cn (w:=w) (M:=Ao M0 z st.ob) A;have e2:=Cn (w:=w) (M:=Ao M0 z st.ob) hr2;have hvz:I.cells.size=i.size:=by rw[(Fx w ⟨fun _=>False,fun _=>0⟩ I zc D).cells_size,W]
  have J:(i.bytes:Int)*m≤281474976710656:=by rw[Int.mul_comm];omega
  have run:=run_make (P:=P) w t e i I L hi K k1 k2 l m g1 g2 J (by omega)
  refine H3 h hd O (s:=Instr.makeSlice t (a.eval x) (a.eval y)) (by simp only[execOp,N]) (by rw[Y,e2];exact run) (Gv _ _) (fun g C=> ?_)
   fun Q hz'=>⟨⟨(madeCells I.cells (l.toNat*i.size)).toList,DC.of ⟨?_,.inr ⟨w.heap.size,m.toNat,madeCells I.cells (m.toNat*i.size), ?_,Nat.zero_le _,FP _ _, ?_, ?_,size_madeCells _ _, ?_⟩⟩,S4 (Fx _ _ I zc D) hvz _⟩,F7 (by simp),Dy.symm⟩
  ·simp only[blk,Ac]at C;subst C;exact⟨Nat.le_refl _,by simp⟩
  ·simp[size_madeCells]
  ·simp
  ·simp;omega
  ·unfold maxLen;omega
  ·rw[List.length_replicate];exact Ahx _ (Nat.mul_le_mul_right _ (by omega))
 ·split at c<;>(try cases c;done);simp only[Ab,Aa]at c;obtain⟨_,_,_,_,_,_,_,_,_,_,rfl⟩:=c;cases f
 ·split at c<;>(try cases c;done)
  ·simp only[Ab,Aa]at c;obtain⟨_,_,_,_,_,_,rfl⟩:=c;cases f
  ·simp only[Ab,Aa]at c;obtain⟨_,_,_,_,_,_,_,_,rfl⟩:=c;cases f
  ·split at c<;>(try cases c;done);simp only[Ab,Ae,Aa]at c;obtain⟨_,_,_,_,_,rfl⟩:=c;cases f
 ·split at c<;>(try cases c;done)
  ·simp only[Aa]at c;obtain⟨_,_,rfl⟩:=c;cases f
  ·simp only[Ab,Option.ite_none_left_eq_some,Aa]at c;obtain⟨_,_,_,_,_,_,_,rfl⟩:=c;cases f
 ·split at c<;>(try cases c;done);simp only[Ab,Aa]at c;obtain⟨_,_,_,_,_,_,rfl⟩:=c;cases f
 ·split at c<;>(try cases c;done)
  ·simp only[Ab,Option.ite_none_left_eq_some,Aa]at c;obtain⟨_,_,_,_,_,_,_,rfl⟩:=c;cases f
  ·simp only[Ab,Option.ite_none_left_eq_some,Aa]at c;obtain⟨_,_,_,_,_,_,_,rfl⟩:=c;cases f
 ·split at c<;>(try cases c;done)
  ·simp only[Ab,Aa]at c;obtain⟨_,_,_,_,rfl⟩:=c;cases f
  ·simp only[Ab,Aa]at c;obtain⟨_,_,_,_,_,_,_,_,rfl⟩:=c;cases f
 ·simp only[Ab,Aa]at c;obtain⟨_,_,_,_,_,_,rfl⟩:=c;cases f
 ·split at c<;>(try cases c;done);simp only[Ab,Aa]at c;obtain⟨_,_,_,_,_,_,rfl⟩:=c;cases f
 ·split at c<;>(try cases c;done);simp only[Ab,Aa]at c;obtain⟨_,_,_,_,_,_,rfl⟩:=c;cases f
 ·split at c<;>(try cases c;done);simp only[Ab,Aa]at c;obtain⟨_,_,_,_,rfl⟩:=c;cases f
 ·simp only[Ab,Aa]at c;obtain⟨_,_,_,_,_,_,rfl⟩:=c;cases f
 ·
  rename_i t x;split at c<;>(try cases c;done)
  ·rename_i L;simp only[Aa]at c;obtain⟨sx,V,rfl⟩:=c;have A:=h.ctx.opd V;simp only[Bl]at j;generalize so G st.fr sx=q at A j;split at j<;>(try cases j;done);rename_i s;simp only[Ac,Prod.mk.injEq]at j;obtain⟨rfl,rfl⟩:=j;have Y:=Dl (w:=w) (M:=Ao M0 z st.ob) A
   refine H3 h hd O (s:=Instr.range t (a.eval x)) (v:=.pointer (some ⟨w.heap.size,0,none⟩)) (w':=w.alloc (.stringIter ⟨⟨s⟩⟩ 0)) (by simp only[execOp,N]) (by rw[Y];simp[Instr.range,run_underlying L]) (Gv _ _) (fun g C=> ?_)
    fun Q K=>⟨⟨w.heap.size,rfl,FP _ _⟩,F7 (by simp),Dy.symm⟩
   simp only[blk,Ac]at C;subst C;exact⟨Nat.le_refl _,by simp⟩
  ·rename_i kt et L;simp only[Aa]at c;obtain⟨sx,V,rfl⟩:=c;have A:=h.ctx.opd V;simp only[Bl]at j;generalize so G st.fr sx=q at A j;split at j<;>(try cases j;done);rename_i nl ks vs;simp only[Ac,Prod.mk.injEq]at j;obtain⟨rfl,rfl⟩:=j;unfold Aw RelC at A;obtain⟨mr,Y,_,_,hn0,hb⟩:=A
   have mk:∀(mo:Option Nat) (r:Nat),(Instr.range t (a.eval x)).run P w=.ok (.pointer (some ⟨w.heap.size,0,none⟩)) (w.alloc (.mapIter mo r #[] r))->cU w (Ao M0 z st.ob) mo r #[] ks vs none->IW P G w0 M0 n st a w o d (.iter d) (.miter ks vs none):=by
    intro mo r Z hm
    refine H3 h hd O (s:=Instr.range t (a.eval x)) (by simp only[execOp,N]) Z (Gv _ _) (fun g C=> ?_)
     fun Q K=>⟨⟨w.heap.size,mo,r, #[],rfl,FP _ _,hm.keep Q⟩,F7 (by simp),Dy.symm⟩
    simp only[blk,Ac]at C;subst C;exact⟨Nat.le_refl _,by simp⟩
   cases mr with
   |none=>
    obtain⟨hk0,hv0⟩:=hn0 rfl;exact mk none 0 (by rw[Y];simp[Instr.range,run_underlying L]) (.inl ⟨rfl,hk0,hv0,rfl⟩)
   |some b=>
    obtain⟨hm,ens,ens',clk,R,hE,hp,Q,j⟩:=hb b rfl;refine mk (some b) clk ?_ (.inr ⟨b,ens,ens',rfl,hm,R,hE,by rw[List.filter_eq_self.2 (by simp)];exact hp,Q,j,fun p hp=>by cases hp⟩);rw[Y];simp[Instr.range,run_underlying L,getObj,Sem.run,R,Result.andThen]
 ·simp only[Aa]at c;obtain⟨_,_,rfl⟩:=c;cases f
 ·simp only[Aa]at c;obtain⟨_,_,rfl⟩:=c;cases f
 ·simp only[Aa]at c;obtain⟨_,_,rfl⟩:=c;cases f
 ·have:=YV c;rw[f]at this;exact absurd rfl this
end
section
variable {P:Program} {G:Nat->List CV} {w0:WL} {M0:MM} {n:Nat} {st:St} {a:Act} {w w':World} {z:Cz}
theorem JM{id g:Nat}(b:st.ob id≠ .none)(c:blk (z.σ id)=some g):Ao M0 z st.ob g:=.inr ⟨id,b,c⟩
theorem SR.to_grown(h:SR P G w0 M0 n st a w z){id:Nat}(f:st.ob id≠ .none)(b:w.grownBy w' (blk (z.σ id))):w0.To w':=
 ⟨b.os.trans h.below.os,b.tape.trans h.below.tape,b.output.trans h.below.output,Nat.le_trans h.below.size b.size,fun k c d=>
  (b.block k (Nat.lt_of_lt_of_le c h.below.size) fun e=>d id (h.low f e.symm c)).trans (h.below.block k c d)⟩
theorem SR.turnK{id:Nat}(f:st.ob id≠ .none){o':Ob}(d:o'≠ .none)(h:w.grownBy w' (blk (z.σ id))){β':CV->Nat->Prop}:
  Bg w (Ao M0 z st.ob) w' (Ao M0 {z with β:=ac z.β id β'} (ac st.ob id o')):=by
 have live:∀i,ac st.ob id o' i≠ .none<->st.ob i≠ .none:=by
  intro i;by_cases hi:i=id
  ·subst hi;rw[AR];exact⟨fun _=>f,fun _=>d⟩
  ·rw[A8 _ _ hi]
 exact⟨h.size,fun g c b=>h.block g c (fun e=>b (JM f e.symm)),fun g _ b=>by
  rcases b with b|⟨i,h1,h2⟩
  ·exact .inl b
  ·exact .inr ⟨i,(live i).1 h1,h2⟩,rfl⟩
theorem SR.turn(h:SR P G w0 M0 n st a w z){id:Nat}(q:st.ob id≠ .none){o':Ob}(x:o'≠ .none)(m:w.grownBy w' (blk (z.σ id))){β':CV->Nat->Prop}(t:∀k b,z.β id k b->β' k b)(o:bu o'=true->bu (st.ob id)=true)
  (D:Bg w (Ao M0 z st.ob) w' (Ao M0 {z with β:=ac z.β id β'} (ac st.ob id o'))->(∀s,Fp st.ob z (ac st.ob id o') {z with β:=ac z.β id β'} s)->
   AV P w' (Ao M0 {z with β:=ac z.β id β'} (ac st.ob id o')) 0 {z with β:=ac z.β id β'} (ac st.ob id o') id (z.σ id) o'):
  SR P G w0 M0 n {st with ob:=ac st.ob id o'} a w' {z with β:=ac z.β id β'}:=by
 have live:∀i,ac st.ob id o' i≠ .none<->st.ob i≠ .none:=by
  intro i;by_cases hi:i=id
  ·subst hi;rw[AR];exact⟨fun _=>q,fun _=>x⟩
  ·rw[A8 _ _ hi]
 have y:Bg w (Ao M0 z st.ob) w' (Ao M0 {z with β:=ac z.β id β'} (ac st.ob id o')):=⟨m.size,fun g v f=>m.block g v (fun e=>f (JM q e.symm)),fun g _ f=>by
  rcases f with f|⟨i,d,p⟩
  ·exact .inl f
  ·exact .inr ⟨i,(live i).1 d,p⟩,rfl⟩
 have u:∀s,Fp st.ob z (ac st.ob id o') {z with β:=ac z.β id β'} s:=fun s=>⟨fun i _ d=>(live i).2 d,fun _ _ _=>rfl,fun i _ _ k b C=>by
  by_cases hi:i=id
  ·subst hi;simp only[AR];exact t k b C
  ·simp only[A8 _ _ hi];exact C⟩
 refine⟨h.size,h.defers,h.to_grown q m,h.outer,h.nam.of rfl (fun N H r=> ?_),h.glob,fun i=>Aw.keep y (u _) (h.fr i),fun i=> ?_,fun i g d p=> ?_,fun i j g A d p=>h.apart i j g A ((live i).1 d) ((live j).1 p)⟩
 ·by_cases hi:N=id
  ·subst hi;simp only[AR]at r;exact⟨o r,rfl⟩
  ·simp only[A8 _ _ hi]at r;exact⟨r,rfl⟩
 ·by_cases hi:i=id
  ·subst hi;simp only[AR];exact D y u
  ·simp only[A8 _ _ hi];by_cases c:st.ob i=.none
   ·rw[c];trivial
   ·exact AV.keep y (fun g l=>m.block g (h.lo i g c l).2 (fun e=>h.apart i id g hi c q l e.symm)) (fun _ _ s _=>u s) (fun k b F=>by simpa[A8 _ _ hi]using F) (h.ob i)
 ·have:=h.lo i g ((live i).1 d) p;exact⟨this.1,Nat.lt_of_lt_of_le this.2 m.size⟩
theorem SR.renew(h:SR P G w0 M0 n st a w z){id:Nat}(y:st.ob id≠ .none){o':Ob}{o:Value}(A:w.grownBy w' (blk (z.σ id)))(L:∀g,blk o=some g->blk (z.σ id)=some g\/(w.heap.size≤g/\g<w'.heap.size))(K:bu o'=false)
  (W:Bg w (Ao M0 z st.ob) w' (Ao M0 (z.new id o) (ac (kill [id] st).ob id o'))->AV P w' (Ao M0 (z.new id o) (ac (kill [id] st).ob id o')) 0 (z.new id o) (ac (kill [id] st).ob id o') id o o'):
  SR P G w0 M0 n {fr:=(kill [id] st).fr,ob:=ac (kill [id] st).ob id o'} a w' (z.new id o):=by
 have live:∀i,i≠id->(ac (kill [id] st).ob id o' i≠ .none<->st.ob i≠ .none):=by
  intro i hi;rw[A8 _ _ hi,Gd];simp[hi]
 have d:∀i,i≠id->(z.new id o).σ i=z.σ i:=fun i hi=>by simp[Cz.new,ac,hi]
 have O:Bg w (Ao M0 z st.ob) w' (Ao M0 (z.new id o) (ac (kill [id] st).ob id o')):=⟨A.size,fun g H F=>A.block g H (fun e=>F (JM y e.symm)),fun g H F=>by
  rcases F with F|⟨i,m,l⟩
  ·exact .inl F
  ·by_cases hi:i=id
   ·subst hi;rw[Dy]at l;rcases L g l with f|f
    ·exact JM y f
    ·omega
   ·rw[d i hi]at l
    exact JM ((live i hi).1 m) l,rfl⟩
 have S:∀s:SV,∀v,Aw w (Ao M0 z st.ob) z st.ob s v->Aw w' (Ao M0 (z.new id o) (ac (kill [id] st).ob id o')) (z.new id o) (ac (kill [id] st).ob id o') (Ay [id] s) v:=by
  intro s v U
  cases V:s.ref with
  |none=>
   cases s<;>simp[SV.ref]at V
   ·exact RelC.keep O _ _ U
   ·trivial
  |some i=>
   by_cases hi:i=id
   ·subst hi;have:Ay [i] s=.undef:=by cases s<;>simp_all[SV.ref,Ay]
    rw[this];trivial
   ·have e:Ay [id] s=s:=by cases s<;>simp_all[SV.ref,Ay]
    rw[e];refine Aw.keep O ⟨fun j p m=> ?_,fun j p m=> ?_,fun j p m k b X=> ?_⟩ U;all_goals(rw[V]at p;cases p)
    ·exact(live i hi).2 m
    ·exact d i hi
    ·simpa[Cz.new,hi]using X
 have Q:∀(cs:List SV) vs,A3 w (Ao M0 z st.ob) z st.ob cs vs->A3 w' (Ao M0 (z.new id o) (ac (kill [id] st).ob id o')) (z.new id o) (ac (kill [id] st).ob id o') (cs.map (Ay [id])) vs:=by
  intro cs
  induction cs with
  |nil=>intro vs I;exact I
  |cons c cs ih=>
   intro vs I;obtain⟨v,D,e,m,l⟩:=I;exact⟨v,D,e,S c v m,ih D l⟩
 refine⟨h.size,h.defers,h.to_grown y A,h.outer,h.nam.of rfl (fun N hN q=> ?_),h.glob,fun i=>S _ _ (h.fr i),fun i=> ?_,fun i g m l=> ?_,fun i j g x m l f C=> ?_⟩
 ·by_cases hi:N=id
  ·subst hi;simp only[AR]at q;rw[K]at q;cases q
  ·simp only[A8 _ _ hi]at q;refine⟨?_,d N hi⟩;unfold kill at q;simp only at q;split at q
   ·cases q
   ·rw[PV]at q;exact q
 ·by_cases hi:i=id
  ·subst hi;simp only[AR,Dy];exact W O
  ·simp only[A8 _ _ hi,d i hi];have e:(kill [id] st).ob i=Ch [id] (st.ob i):=by simp[kill,hi]
   rw[e];have t:=h.ob i
   cases u:st.ob i with
   |none=>trivial
   |box cs=>
    rw[u]at t;obtain⟨g,ty,vs,R,Z,Y⟩:=t;have r:st.ob i≠ .none:=by rw[u];simp
    exact⟨g,ty,vs,R,(A.block g (h.lo i g r (by rw[R];rfl)).2 (fun e'=>h.apart i id g hi r y (by rw[R];rfl) e'.symm)).trans Z,Q cs vs Y⟩
   |_=>
    rw[u]at t;have r:st.ob i≠ .none:=by rw[u];simp
    exact AV.keep O (fun g J=>A.block g (h.lo i g r J).2 (fun e=>h.apart i id g hi r y J e.symm)) (fun cs q=>by cases q) (fun k b I=>by simpa[Cz.new,hi]using I) t
 ·by_cases hi:i=id
  ·subst hi;simp only[Dy]at l;rcases L g l with f|f
   ·have:=h.lo i g y f;exact⟨this.1,Nat.lt_of_lt_of_le this.2 A.size⟩
   ·exact⟨.inl (Nat.le_trans h.below.size f.1),f.2⟩
  ·rw[d i hi]at l;have:=h.lo i g ((live i hi).1 m) l;exact⟨this.1,Nat.lt_of_lt_of_le this.2 A.size⟩
 ·by_cases hi:i=id
  ·subst hi;have p:j≠i:=fun e=>x e.symm;rw[Dy]at f;rw[d j p]at C;rcases L g f with h5|h5
   ·exact h.apart i j g x y ((live j p).1 l) h5 C
   ·have:=(h.lo j g ((live j p).1 l) C).2;omega
  ·by_cases p:j=id
   ·subst p;rw[Dy]at C;rw[d i hi]at f;rcases L g C with h5|h5
    ·exact h.apart i j g x ((live i hi).1 m) y f h5
    ·have:=(h.lo i g ((live i hi).1 m) f).2;omega
   ·rw[d i hi]at f;rw[d j p]at C;exact h.apart i j g x ((live i hi).1 m) ((live j p).1 l) f C
theorem VL{M:MM}{c:CV}{v:Value}(h:RelC w M c v)(d:Cv c=true):v.oneCell'=true:=by
 cases c<;>simp[Cv]at d<;>unfold RelC at h<;>first
  |(rcases h with rfl|rfl<;>first|rfl|exact Ww _ _)
  |(subst h;rfl)
  |(subst h;exact Ww _ _)
  |(obtain⟨_,_,rfl⟩:=h;rfl)
  |(obtain⟨_,_,_,rfl,_⟩:=h;rfl)
  |(obtain⟨_,b,_⟩:=h;unfold bT at b;split at b<;>first|(subst b;rfl)|(obtain⟨_,_,rfl⟩:=b;rfl))
  |(obtain⟨_,rfl,_⟩:=h;rfl)
  |(obtain⟨_,_,rfl,_⟩:=h;rfl)
theorem MF{M:MM}:∀{cs:List CV} {vs:List Value},RelL w M cs vs->cs.all Cv=true->∀v∈vs,v.oneCell'=true
 | [],vs,h,_,v,hv=>by unfold RelL at h;subst h;cases hv
 |c::cs,vs,h,hc,v,hv=>by
  unfold RelL at h;obtain⟨u,us,rfl,d,b⟩:=h;simp only[List.all_cons,Ag]at hc;rcases List.mem_cons.1 hv with rfl|hv
  ·exact VL d hc.1
  ·exact MF b hc.2 v hv
theorem Pp(w:World)(g:Nat)(cs:Array Value):w.grownBy (w.setRow g cs) (some g):=by
 refine⟨rfl,rfl,rfl,by simp[World.setRow],fun k _ b=> ?_⟩;simp only[World.setRow,Array.getElem?_modify];rw[if_neg (fun e=>b (by rw[e]))]
end
section
variable {P:Program} {G:Nat->List CV} {w0:WL} {M0:MM} {n:Nat} {st:St} {a:Act} {w w':World} {z:Cz}
theorem A3.append{M:MM}{ob:Nat->Ob}:∀{cs c:List SV} {vs us:List Value},A3 w M z ob cs vs->A3 w M z ob c us->A3 w M z ob (cs++c) (vs++us)
 | [],_,_,_,h,k=>by unfold A3 at h;subst h;exact k
 |_::_,_,_,_,h,k=>by
  obtain⟨v,b,rfl,e,d⟩:=h;exact⟨v,b++_,rfl,e,A3.append d k⟩
theorem Aem(h:SR P G w0 M0 n st a w z){s:SV}{v:Value}(j:Aw w (Ao M0 z st.ob) z st.ob s v)(q:H8 s=true):v.oneCell'=true:=by
 have live:∀id,st.ob id≠ .none->(z.σ id).oneCell'=true:=by
  intro id l;have f:=h.ob id
  cases d:st.ob id with
  |none=>exact absurd d l
  |box cs=>rw[d]at f;obtain⟨g,ty,vs,e,_⟩:=f;rw[e];rfl
  |arr e size es=>
   rw[d]at f;obtain⟨x,m,_⟩:=f;rcases m.2 with⟨e,_⟩|⟨g,cap,p,_,_,e,_⟩<;>rw[e]<;>rfl
  |map mt kt zc ks vs=>rw[d]at f;obtain⟨_,_,_,r,t,u,_,e,_⟩:=f;rw[e];rfl
  |siter s pos=>rw[d]at f;obtain⟨r,e,_⟩:=f;rw[e];rfl
  |miter ks vs p=>rw[d]at f;obtain⟨r,C,y,A,e,_⟩:=f;rw[e];rfl
  |buf e s=>
   rw[d]at f;rcases f.2 with⟨e,_⟩|⟨g,cap,p,D,e,_⟩<;>rw[e]<;>rfl
 cases s with
 |c cv=>exact VL j q
 |ptr id o=>obtain⟨_,g,_,e⟩:=j;rw[e];rfl
 |eptr id i sz o=>obtain⟨_,g,n,c,_,e⟩:=j;rw[e];rfl
 |osl id=>obtain⟨l,e⟩:=j;rw[e];exact live id l
 |omap id=>obtain⟨l,e⟩:=j;rw[e];exact live id l
 |iter id=>obtain⟨l,e⟩:=j;rw[e];exact live id l
 |stamp id k=>obtain⟨_,b,_,e⟩:=j;rw[e];rfl
 |ent id k cv=>simp[H8]at q
 |undef=>simp[H8]at q
def DM(P:Program)(G:Nat->List CV)(w0:WL)(M0:MM)(n:Nat)(st':St)(a:Act)(w:World)(o:Oper):Prop:=
 (∃v w' z',(execOp a.eval o).run P w=.ok (.value v) w'/\SR P G w0 M0 n st' (a.put o.dst v) w' z')\/
 (∃w' z',(execOp a.eval o).run P w=.ok .skip w'/\SR P G w0 M0 n st' (a.put o.dst undef) w' z')
theorem Agg{w:World}{g:Nat}{cs:Array Value}{t:TypeId}{fr:Nat×Nat}(h:w.heap[g]? =some (.cells cs t fr)):w.setRow g cs=w:=by
 have e:(w.setRow g cs).heap=w.heap:=by
  apply Array.ext_getElem?;intro k;by_cases b:k=g
  ·subst b;rw[setRow_heap w k _ _ _ _ h,h]
  ·exact setRow_other w g k cs b
 cases w;simp only[World.setRow]at e⊢;rw[e]
theorem WT(g o:Nat)(t:TypeId)(d:Nat×Nat):∀(vs:List Value) (i:Nat) (b:Array Value) (w:World),w.heap[g]? =some (.cells b t d)->(d=(0,0)\/o+i+vs.length≤d.1)->o+i+vs.length≤b.size->(∀v∈vs,v.oneCell'=true)->
  (storeCells ⟨g,o,none⟩ vs i).run P w=.ok () (w.setRow g (b.toList.take (o+i)++vs++b.toList.drop (o+i+vs.length)).toArray)
 | [],i,b,w,hg,_,_,_=>by
  simp only[storeCells,List.append_nil,List.length_nil,Nat.add_zero,List.take_append_drop,Array.toArray_toList];rw[setRow_self w g b t d hg];rfl
 |v::rest,i,b,w,hg,hfz,hl,h1=>by
  have hi:o+i<b.size:=by simp at hl;omega
  have h:(⟨g,o,none⟩:Addr).add i=⟨g,o+i,none⟩:=by unfold Addr.add;split<;>simp_all
  have c:w.cell? ⟨g,o+i,none⟩=some b[o+i]:=by simp[World.cell?,hg,hi]
  have f:w.frozen? ⟨g,o+i,none⟩=false:=by
   obtain⟨lo,m⟩:=d;simp only[World.frozen?,hg,Bool.and_eq_false_iff,decide_eq_false_iff_not];rcases hfz with hfz|hfz
   ·cases hfz;right;omega
   ·left;simp at hfz;omega
  have j:(store ((⟨g,o,none⟩:Addr).add i) v).run P w=.ok () (w.setRow g (b.setIfInBounds (o+i) v)):=by
   rw[h,run_store P w _ v _ (h1 v (by simp)),c];simp[f,setCell_eq_setRow w g (o+i) b t d v hg]
  have k:=WT g o t d rest (i+1) (b.setIfInBounds (o+i) v) (w.setRow g (b.setIfInBounds (o+i) v)) (setRow_heap w g b _ t _ hg) (by rcases hfz with hfz|hfz;exact .inl hfz;right;simp at hfz;omega) (by simp at hl⊢;omega) (fun x l=>h1 x (by simp[l]));simp only[storeCells,Sem.run_bind,j,Result.andThen_ok,k,setRow_setRow]
  congr 3
  have e:=list_seg_step b.toList (o+i) v rest (by simp at hl⊢;omega);simpa[Array.toList_setIfInBounds,Nat.add_assoc]using e
theorem Q2{t:TypeId}{i:TypeInfo}(hi:P.info? t=some i){g o:Nat}{vs us:List Value}{v:Value}{ty:TypeId}(e:v.cells=⟨us⟩)(f:us.length=i.size){b:Nat×Nat}(h:w.heap[g]? =some (.cells ⟨vs⟩ ty b))(c:o+us.length≤vs.length)
  (j:∀u∈us,u.oneCell'=true) (d:b=(0,0)\/o+us.length≤b.1:=by exact .inl rfl):(storeVar t ⟨g,o,none⟩ v).run P w=.ok () (w.setRow g ⟨vs.take o++us++vs.drop (o+us.length)⟩):=by
 have:=WT (P:=P) g o ty b us 0 ⟨vs⟩ w h (by simpa using d) (by simpa using c) j;simp only[Nat.add_zero]at this;simp[storeVar,Dz hi,e,f,this]
theorem S5{M:MM}{size:Nat}:∀{es:List CV} {f:List Value} {i:Nat} {b:CV} {d:Value},AG w M size es f->i<es.length->RelC w M b d->d.cells.size=size->
  AG w M size (es.set i b) (f.take (i*size)++d.cells.toList++f.drop (i*size+size))
 | [],f,i,b,d,_,hi,_,_=>by simp at hi
 |e::es,f,0,b,d,h,_,hr,hs=>by
  obtain⟨v,c,rfl,g,k,j⟩:=h;refine⟨d,c, ?_,hs,hr,j⟩;have:v.cells.toList.length=size:=by simpa using g
  simp[this]
 |e::es,f,i+1,b,d,h,hi,hr,hs=>by
  obtain⟨v,c,rfl,g,k,j⟩:=h;have m:v.cells.toList.length=size:=by simpa using g
  have l:=S5 j (by simpa using hi) hr hs;refine⟨v,c.take (i*size)++d.cells.toList++c.drop (i*size+size), ?_,g,k,l⟩;rw[Nat.add_mul,Nat.one_mul];rw[List.take_append,List.drop_append,m];rw[List.take_of_length_le (by omega),List.drop_eq_nil_of_le (by omega)];rw[show i*size+size-size=i*size by omega,show i*size+size+size-size=i*size+size by omega];simp
theorem Z1(h:SR P G w0 M0 n st a w z){o:Oper}{t:TypeId}{ad x:Operand}(ho:o.op=.store t ad x)(hdst:o.dst=none){i:TypeInfo}(hi:P.info? t=some i){sa sx:SO}(hsa:Ap ad=some sa)(hsx:Ap x=some sx){st':St}
  (e:AJ none (so G st.fr) st (.store i.size sa sx)=some st'):DM P G w0 M0 n st' a w o:=by
 have hr:=h.ctx.deref (rd:=st.ob) (fun _=>.inr rfl) (h.ctx.opd hsa);have f:=h.ctx.opd hsx;simp only[AJ]at e;generalize WB.deref st.ob (so G st.fr sa)=q at hr e;generalize so G st.fr sx=q2 at f e
 have ay:∀{w' z'},(Instr.storeAt t (a.eval ad) (a.eval x)).run P w=.ok () w'->SR P G w0 M0 n st' a w' z'->DM P G w0 M0 n st' a w o:=by
  intro w' z' hr hS;refine .inr ⟨w',z',by simp[execOp,ho,hr], ?_⟩;rw[hdst];exact hS
 cases q<;>(try simp only[reduceCtorEq]at e;done)
 ·
  rename_i Y;cases Y<;>(try simp only[reduceCtorEq]at e;done);rename_i cs
  cases cs with
  |nil=>cases e
  |cons c0 cs=>
   cases cs with
   |cons _ _=>cases c0<;>cases e
   |nil=>
    cases c0<;>(try cases e;done);rename_i b;cases q2<;>(try cases e;done);rename_i c2;cases c2<;>(try cases e;done);rename_i b';simp only[Ae,Ac]at e;obtain⟨⟨r,rfl⟩,rfl⟩:=e;unfold Aw RelC at hr f;obtain⟨g,ty,vs,U,e2,S,N⟩:=hr;unfold RelL RelC at N;obtain⟨v,vs',rfl,rfl,N⟩:=N;unfold RelL at N;subst N;refine ay (w':=w) (z':=z) ?_ h;have H:=Q2 (P:=P) (t:=t) (w:=w) hi (g:=g) (o:=0) (vs:= [.bool b]) (us:= [.bool b]) (v:=.bool b) (ty:=ty) rfl (by simp[r]) e2 (by simp) (by simp[Value.oneCell']);have hsame:w.setRow g ⟨[Value.bool b]⟩=w:=Agg e2;simp only[List.take_zero,List.nil_append,List.length_cons,List.length_nil,Nat.zero_add,List.drop_succ_cons,List.drop_zero,List.append_nil,List.cons_append,List.drop_nil]at H;rw[hsame]at H;simp[Instr.storeAt,Instr.sureAddr,U,f,H]
 ·
  rename_i id off;obtain⟨p,g,U,e2⟩:=hr;have J:=h.ob id;cases A:st.ob id<;>simp only[A,reduceCtorEq]at e;rename_i cs bt;rw[A]at J;obtain⟨g',ty,vs,S,N,e5⟩:=J;rw[U]at S;simp only[Value.pointer.injEq,Ac,Addr.mk.injEq,and_true]at S;subst S;have hlen:=A3.length e5
  have go:∀(us:List Value) (ss:List SV),(a.eval x).cells=⟨us⟩->us.length=i.size->off+us.length≤vs.length->(∀u∈us,u.oneCell'=true)->A3 w (Ao M0 z st.ob) z st.ob ss us->
    st'={st with ob:=ac st.ob id (.box (cs.take off++ss++cs.drop (off+us.length)) bt)}->DM P G w0 M0 n st' a w o:=by
   intro us ss O hsz hle r hss hst;subst hst;refine ay (w':=w.setRow g ⟨vs.take off++us++vs.drop (off+us.length)⟩) ?_ (SR.turn h p (by simp) (by rw[U];exact Pp w g _) (fun _ _ K=>K) (fun _=>by rw[A];rfl) fun hk hz=>⟨g,ty,_,U,setRow_heap w g _ _ _ _ N, ?_⟩)
   ·simp[Instr.storeAt,Instr.sureAddr,e2,Q2 hi O hsz N hle r]
   ·exact A3.keep hk (fun s _=>hz s) (((e5.take off).append hss).append (e5.drop _))
  have one:∀(v:SV),Aw w (Ao M0 z st.ob) z st.ob v (a.eval x)->(∀l,v≠ .c (.agg l))->(if i.size=1/\off<cs.length/\H8 v=true then some {st with ob:=ac st.ob id (.box (cs.set off v) bt)}else none)=some st'->DM P G w0 M0 n st' a w o:=by
   intro v hrv hna e;simp only[Ae,Ac]at e;obtain⟨⟨r,h2,h3⟩,rfl⟩:=e;have hcell:=Tp h hrv hna (by rintro rfl;simp[H8]at h3);have I:(a.eval x).oneCell'=true:=Aem h hrv h3;refine go [a.eval x] [v] hcell (by simp[r]) (by simp[hlen];omega) (by simpa using I) ⟨a.eval x,[],rfl,hrv,rfl⟩ ?_
   congr 3
   simp only[List.length_cons,List.length_nil,Nat.zero_add];rw[List.set_eq_take_append_cons_drop,if_pos h2];simp
  cases q2 with
  |c Y=>
   cases Y with
   |agg l=>
    simp only[Ae,Ac]at e;obtain⟨⟨r,h2,h3⟩,rfl⟩:=e;unfold Aw RelC at f;obtain⟨us,e6,hl⟩:=f;have y:=hl.length;refine go us (l.map .c) (by rw[e6];rfl) (by rw[y,r]) (by omega) (MF hl h3) (A3.of_c hl) ?_;simp[FD,y]
   |_=>exact one _ f (fun l K=>by cases K) e
  |_=>exact one _ f (fun l K=>by cases K) e
 ·
  rename_i id j size off;obtain⟨p,g,n',c',U,e2⟩:=hr;have J:=h.ob id;cases A:st.ob id<;>simp only[A,reduceCtorEq]at e;rename_i et sz es;rw[A]at J;obtain⟨xs,hown,hf⟩:=J;cases q2<;>(try simp only[reduceCtorEq]at e;done);rename_i Y;simp only[Ae,Ab,Ac]at e;obtain⟨⟨rfl,hn0,hn,I⟩,X,hel,hle,rfl⟩:=e;have hjl:j<es.length:=(Af.1 hel).1;have hxl:=GY hf;obtain⟨u,hu1,hu2,hu3⟩:=Gs hf hel;have O:=RelC.cells f
  have y:(a.eval x).cells.toList.length=i.size:=by
   have:=f.cells_size;simpa[hn]using this
  have C:AX X=size:=by rw[<-hu1.cells_size,hu2]
  rcases hown.2 with⟨S,N⟩|⟨g',cap,d,ty,fz,S,N,e5,k5,k6,e6,e7,e8,e9⟩
  ·omega
  ·rw[U]at S;simp only[Value.slice.injEq,Ac,Addr.mk.injEq,and_true]at S;obtain⟨rfl,rfl,rfl⟩:=S;have hcl:d.toList.length=c'*size:=by simpa using e8
   have hbound:j*size+size≤es.length*size:=by
    have:=Nat.mul_le_mul_right size (show j+1≤es.length by omega);rw[Nat.add_mul,Nat.one_mul]at this;exact this
   have hcap:es.length*size≤c'*size:=Nat.mul_le_mul_right _ e6;have run:=Q2 (P:=P) (w:=w) hi (g:=g) (o:=j*size+off) (vs:=d.toList) (us:=(a.eval x).cells.toList) (v:=a.eval x) (ty:=ty) rfl y (by simpa using e5) (by omega) (MF O I) (by rcases k6 with k6|k6;exact .inl k6;right;omega)
   obtain⟨m,hu1',V⟩:∃m,RelC w (Ao M0 z st.ob) (Gj X off i.size Y) m/\m.cells.toList=u.cells.toList.take off++(a.eval x).cells.toList++u.cells.toList.drop (off+i.size):=by
    have Q:(∀l,X≠ .agg l)->Gj X off i.size Y=Y->∃m,RelC w (Ao M0 z st.ob) (Gj X off i.size Y) m/\m.cells.toList=u.cells.toList.take off++(a.eval x).cells.toList++u.cells.toList.drop (off+i.size):=by
     intro hna hp;have r:AX X=1:=by cases X<;>first|rfl|exact absurd rfl (hna _)
     have h2:u.cells.toList.length=1:=by simpa[hu2,<-C]using r
     have h3:off=0:=by omega
     have h4:i.size=1:=by omega
     refine⟨a.eval x,by rw[hp];exact f, ?_⟩;rw[h3,h4,List.drop_eq_nil_of_le (by omega)];simp
    cases X with
    |agg l=>
     have W:=RelC.cells hu1;refine⟨.agg ⟨u.cells.toList.take off++(a.eval x).cells.toList++u.cells.toList.drop (off+i.size)⟩, ?_,rfl⟩;show RelC _ _ (.agg _) _;unfold RelC;exact⟨_,rfl,((W.take off).append O).append (W.drop _)⟩
    |_=>exact Q (fun l K=>by cases K) rfl
   have Z:u.cells.toList.length=size:=by simpa using hu2
   have D:m.cells.size=size:=by
    have:m.cells.toList.length=size:=by
     rw[V];simp only[List.length_append,List.length_take,List.length_drop,y,Z];omega
    simpa using this
   have R:u.cells.toList=(d.toList.drop (j*size)).take size:=by
    apply List.ext_getElem?;intro k;by_cases hk:k<size
    ·have hku:u.cells.toList[k]? =some (u.cells.toList[k]'(by omega)):=Aj _;have r:=hu3 k (u.cells.toList[k]'(by omega)) (by rw[<-Array.getElem?_toList];exact hku);rw[<-e9,List.getElem?_take]at r;split at r
     ·rw[hku,List.getElem?_take,if_pos hk,List.getElem?_drop];exact r.symm
     ·cases r
    ·rw[List.getElem?_eq_none (by omega),List.getElem?_eq_none (by simp;omega)]
   have hrow:d.toList.take (j*size+off)++(a.eval x).cells.toList++d.toList.drop (j*size+off+(a.eval x).cells.toList.length)=d.toList.take (j*size)++m.cells.toList++d.toList.drop (j*size+size):=by
    rw[V,R,y];rw[List.take_take,Nat.min_eq_left (by omega),List.drop_take];have t1:d.toList.take (j*size+off)=d.toList.take (j*size)++(d.toList.drop (j*size)).take off:=by rw[List.take_add]
    have t2:d.toList.drop (j*size+off+i.size)=((d.toList.drop (j*size)).drop (off+i.size)).take (size-(off+i.size))++d.toList.drop (j*size+size):=by
     have:d.toList.drop (j*size+size)=((d.toList.drop (j*size)).drop (off+i.size)).drop (size-(off+i.size)):=by
      rw[List.drop_drop,List.drop_drop];congr 1;omega
     rw[this,List.take_append_drop,List.drop_drop];congr 1;omega
    rw[t1,t2];simp only[List.append_assoc]
   rw[hrow]at run
   have L:(d.toList.take (j*size)++m.cells.toList++d.toList.drop (j*size+size)).length=c'*size:=by
    have F:m.cells.toList.length=size:=by simpa using D
    simp only[List.length_append,List.length_take,List.length_drop,F,hcl];omega
   have hx':(d.toList.take (j*size)++m.cells.toList++d.toList.drop (j*size+size)).take (es.length*size)=xs.take (j*size)++m.cells.toList++xs.drop (j*size+size):=by
    have F:m.cells.toList.length=size:=by simpa using D
    have hp:(d.toList.take (j*size)++m.cells.toList).length=j*size+size:=by
     simp only[List.length_append,List.length_take,F,hcl];omega
    rw[List.take_append,List.take_of_length_le (by omega),hp];rw[<-e9,List.take_take,Nat.min_eq_left (by omega),List.drop_take]
   refine ay (w':=w.setRow g ⟨d.toList.take (j*size)++m.cells.toList++d.toList.drop (j*size+size)⟩) ?_ (SR.turn h p (by simp) (by rw[U];exact Pp w g _) (fun _ _ K=>K) (fun K=>by cases K) fun hk hz=>⟨xs.take (j*size)++m.cells.toList++xs.drop (j*size+size),⟨?_,.inr ⟨g,c',⟨d.toList.take (j*size)++m.cells.toList++d.toList.drop (j*size+size)⟩,ty,fz, ?_,N,setRow_heap w g _ _ _ _ e5,k5,k6, ?_,e7,by simpa using L, ?_⟩⟩,AG.keep hk (S5 hf hjl hu1' D)⟩)
   ·simp[Instr.storeAt,Instr.sureAddr,e2,run]
   ·rw[<-hx',List.length_take,List.length_set,L];omega
   ·rw[U,List.length_set]
   ·rw[List.length_set];exact e6
   ·rw[List.length_set];exact hx'
end
section
variable {P:Program} {G:Nat->List CV} {w0:WL} {M0:MM} {n:Nat} {st:St} {a:Act} {w w':World} {z:Cz}
theorem S2{M:MM}{f:Addr}{size:Nat}:∀{i:Nat} {es:List CV},RelE w M f size i es->∃c,AG w M size es c/\∀(j:Nat) u,c[j]? =some u->w.cell? (f.add (i*size+j))=some u
 |i,[],_=>⟨[],rfl,fun j u b=>by simp at b⟩
 |i,e::es,h=>by
  unfold RelE at h;obtain⟨⟨v,m,d,l⟩,k⟩:=h;obtain⟨c,p,o⟩:=S2 k;refine⟨v.cells.toList++c,⟨v,c,rfl,d,m,p⟩,fun j u b=> ?_⟩;have g:v.cells.toList.length=size:=by simpa using d
  by_cases q:j<size
  ·rw[List.getElem?_append_left (by omega)]at b;exact l j u (by simpa using b)
  ·rw[List.getElem?_append_right (by omega),g]at b;have:=o _ u b;rw[show(i+1)*size+(j-size)=i*size+j by rw[Nat.add_mul];omega]at this;exact this
theorem Lb{M:MM}{size:Nat}:∀{es:List CV} {b:List Value},AG w M size es b->(es.all fun v=>v.cells.all Cv)=true->∀u∈b,u.oneCell'=true
 | [],b,h,_,u,hu=>by unfold AG at h;subst h;cases hu
 |e::es,b,h,h1,u,hu=>by
  obtain⟨v,c,rfl,f,d,g3⟩:=h;simp only[List.all_cons,Ag]at h1;rcases List.mem_append.1 hu with hu|hu
  ·exact MF (RelC.cells d) h1.1 u hu
  ·exact Lb g3 h1.2 u hu
theorem PS(h:SR P G w0 M0 n st a w z){s:SV}{v:Value}(H:Aw w (Ao M0 z st.ob) z st.ob s v){news:List CV}(q:C6 st s=some news){size:Nat}(k:(news.all fun v=>AX v==size)=true):
  ∃A c l,v=.slice A news.length c/\AG w (Ao M0 z st.ob) size news l/\(A=none->news= [])/\∀i,A=some i->∀(j:Nat) u,l[j]? =some u->w.cell? (i.add j)=some u:=by
 cases s<;>(try simp only[C6,reduceCtorEq]at q;done)
 ·rename_i R;cases R<;>(try simp only[C6,reduceCtorEq]at q;done);rename_i U es;simp only[C6,Ac]at q;subst q;unfold Aw RelC at H;obtain⟨A,len,c,m,f,_,_,_,W,Q⟩:=H;subst f;by_cases t:es= []
  ·subst t;exact⟨A,c,[],m,rfl,fun _=>rfl,fun i _ j u b=>by simp at b⟩
  ·obtain⟨i,o,O,_,_,hE⟩:=Q t;subst O;obtain⟨l,K,N⟩:=S2 hE
   have p:o=size:=by
    cases es with
    |nil=>exact absurd rfl t
    |cons e es=>
     obtain⟨v,D,_,F,k2,_⟩:=K;simp only[List.all_cons,Ag,beq_iff_eq]at k;rw[<-F,k2.cells_size,k.1]
   subst p;refine⟨some i,c,l,m,K,(fun r=>by cases r),fun S r j u b=> ?_⟩;cases r;have:=N j u b;simpa using this
 ·rename_i id;obtain⟨I,m⟩:=H;have J:=h.ob id;simp only[C6]at q;cases y:st.ob id<;>simp only[y,reduceCtorEq,Ac]at q;rename_i V sz es;subst q;rw[y]at J;obtain⟨l,d,x⟩:=J
  have p:es= []\/sz=size:=by
   cases es with
   |nil=>exact .inl rfl
   |cons e es=>
    obtain⟨v,D,_,F,k2,_⟩:=x;simp only[List.all_cons,Ag,beq_iff_eq]at k;exact .inr (by rw[<-F,k2.cells_size,k.1])
  rcases p with rfl|rfl
  ·have:l= []:=by unfold AG at x;exact x
   subst this;rcases d.2 with⟨f,_⟩|⟨g,cap,C,_,_,f,_⟩
   ·exact⟨none,0,[],by rw[m,f];rfl,rfl,fun _=>rfl,fun i _ j u b=>by simp at b⟩
   ·exact⟨_,cap,[],by rw[m,f],rfl,fun _=>rfl,fun i _ j u b=>by simp at b⟩
  ·rcases Nat.eq_zero_or_pos es.length with h0|h0
   ·have:es= []:=List.eq_nil_of_length_eq_zero h0;subst this;have:l= []:=by unfold AG at x;exact x
    subst this;rcases d.2 with⟨f,_⟩|⟨g,cap,C,_,_,f,_⟩
    ·exact⟨none,0,[],by rw[m,f];rfl,rfl,fun _=>rfl,fun i _ j u b=>by simp at b⟩
    ·exact⟨_,cap,[],by rw[m,f],rfl,fun _=>rfl,fun i _ j u b=>by simp at b⟩
   ·obtain⟨g,cap,C,f,_,L⟩:=MK d h0;refine⟨some ⟨g,0,none⟩,cap,l,by rw[m,f],x,(fun r=>by cases r),fun i r j u b=> ?_⟩;cases r;rw[Eb];simpa using L j u b
theorem Afu(base:Nat)(t ty e:TypeId)(i:TypeInfo)(size:Nat)(f:P.underlying t=some (.slice e))(hi:P.info? e=some i)
  (v:Value) (n:Nat) (h:List Value) (b:w.ownsRow base e size v n h) (c:Nat):(Builtin.append_ #[t,t] ty #[v,.slice none 0 c]).run P w=.ok v w:=by
 rcases b.2 with⟨rfl,rfl⟩|⟨g,cap,j,rfl,_,_,d,_⟩
 ·simp[Builtin.append_,run_underlying f,Go.sizeOf,typeInfo,hi,Builtin.lenOf,Builtin.firstCells]
 ·simp[Builtin.append_,run_underlying f,Go.sizeOf,typeInfo,hi,Builtin.lenOf,Builtin.firstCells,d,storeCells]
theorem VW{v:Value}{B e size n:Nat}{b:List Value}(h:w.ownsRow B e size v n b):v.ownBlock=blk v:=by
 rcases h.2 with⟨rfl,_⟩|⟨g,cap,c,rfl,_⟩<;>rfl
theorem Qy(base:Nat)(t ty e:TypeId)(i:TypeInfo)(p:Value)(y:P.underlying t=some (.slice e))(hi:P.info? e=some i)(F:i.zero=some p)
  (q:p.cells.size=i.size) (r:0<i.size) (v:Value) (n:Nat) (o:List Value) (b:w.ownsRow base e i.size v n o)
  (A:Option Addr) (m c:Nat) (news:List Value) (k:news.length=m*i.size) (K:A=none->m=0) (J:∀l,A=some l->∀(j:Nat) u,news[j]? =some u->w.cell? (l.add j)=some u) (L:∀u∈news,u.oneCell'=true)
  (s:n+m≤maxLen) (d:(n+m)*i.bytes≤140737488355328) (f:base≤w.heap.size):
  ∃g w',(Builtin.append_ #[t,t] ty #[v,.slice A m c]).run P w=.ok g w'/\w'.ownsRow base e i.size g (n+m) (o++news)/\w.grownBy w' (blk v)/\
   (blk g=blk v\/blk g=some w.heap.size):=by
 cases A with
 |none=>
  have I:=K rfl;subst I;have H:news= []:=List.eq_nil_of_length_eq_zero (by simpa using k);subst H;exact⟨v,w,Afu base t ty e i i.size y hi v n o b c,by simpa using b,World.grownBy.refl w _,.inl rfl⟩
 |some l=>
  obtain⟨g,w',h,D,C,_,x⟩:=run_append_own_at (P:=P) w base t ty e i p i.size i.bytes y hi F rfl rfl q r v n o b l m c news k (J l rfl) L s d f;rw[VW b]at C x;rw[VW D]at x;exact⟨g,w',h,D,C,x⟩
theorem Zw(h:SR P G w0 M0 n st a w z){o:Oper}{t e:TypeId}{i:TypeInfo}{zv:Value}{x y:Operand}{args:Array Operand}{argTypes:Array TypeId}(ho:o.op=.call {callee:=.builtin .append,args:=args,argTypes:=argTypes})
  (C:args.toList= [x,y]) (hat:argTypes.toList= [t,t]) (ht:P.underlying t=some (.slice e)) (hi:P.info? e=some i) (hz:i.zero=some zv) (S:zv.cells.size=i.size) (U:0<i.size)
  (hd:∀j,o.dst=some j->j<n) {sx sy:SO} (hx:Ap x=some sx) (hy:Ap y=some sy) {st':St} (f:AJ o.dst (so G st.fr) st (.append e i.size i.bytes sx sy)=some st'):DM P G w0 M0 n st' a w o:=by
 have hr:=h.ctx.opd hx;have V:=h.ctx.opd hy;simp only[AJ]at f;generalize so G st.fr sx=q at hr f;generalize so G st.fr sy=q2 at V f
 cases p:C6 st q2 with
 |none=>rw[p]at f;cases f
 |some news=>
  rw[p]at f;simp only[Ae,Ag]at f;obtain⟨⟨hall,X⟩,f⟩:=f;obtain⟨A,c,F,e1,J,hA,s⟩:=PS h V p hall;have K:=GY J;have u:=Lb J X
  have ay:∀{D w' z'},(Builtin.append_ #[t,t] o.type #[a.eval x,a.eval y]).run P w=.ok D w'->SR P G w0 M0 n st' (a.put o.dst D) w' z'->DM P G w0 M0 n st' a w o:=by
   intro D w' z' m hS;refine .inl ⟨D,w',z', ?_,hS⟩;obtain⟨al⟩:=args;obtain⟨tl⟩:=argTypes;simp only at C hat
   subst C;subst hat
   simp[execOp,ho,resolve,invoke,builtin,m]
  cases q<;>(try simp only[reduceCtorEq]at f;done)
  ·
   rename_i cv;cases cv<;>(try simp only[reduceCtorEq]at f;done);rename_i nl es;cases nl<;>(try simp only[reduceCtorEq]at f;done);rename_i b;cases b<;>(try simp only[reduceCtorEq]at f;done);simp only[Ae]at f;obtain⟨⟨O,hb2⟩,f⟩:=f
   cases H:o.dst with
   |none=>rw[H]at f;cases f
   |some d=>
    rw[H]at f;simp only[Ac]at f;subst f;unfold Aw RelC at hr;obtain⟨A',len,c',e2,e3,_,e4,_,e5,e6⟩:=hr;have hA':=e4 rfl;subst hA'
    have hes:es= []:=by
     cases es with
     |nil=>rfl
     |cons e es=>obtain⟨ad,size,hh,_⟩:=e6 (by simp);cases hh
    subst hes;have hc0:=e5 rfl;subst hc0;subst e3;have hk:=h.killed [d];have L:w.ownsRow 0 e i.size (.slice none 0 0) 0 []:=⟨by simp,.inl ⟨rfl,rfl⟩⟩;obtain⟨D,w',m,h2,Q,r⟩:=Qy (P:=P) 0 t o.type e i zv ht hi hz S U (.slice none 0 0) 0 [] L A news.length c F K (fun hh=>by simp[hA hh]) s u (by unfold maxLen;omega) (by simpa using O) (Nat.zero_le _);rw[e2,e1]at ay;refine ay (z':=z.new d D) m ?_;rw[H];have hgb:Below w.heap.size w w':=⟨Q.os,Q.tape,Q.output,Q.size,fun k hk=>Q.block k hk (by simp[blk])⟩;have v:(kill [d] st).ob d=.none:=by simp[kill]
    have I:∀g,blk D=some g->w.heap.size≤g/\g<w'.heap.size:=by
     intro g l;rcases r with r|r
     ·rw[r]at l;simp[blk]at l
     ·rw[l]at r;simp only[Ac]at r;subst r;rcases h2.2 with⟨R,_⟩|⟨g',cap,cur,R,_,e8,_⟩
      ·rw[R]at l;simp[blk]at l
      ·rw[R]at l;simp only[blk,Ac]at l;exact⟨Nat.le_refl _,by rw[<-l];exact C2 e8⟩
    have kn:=Ml (M0:=M0) (z:=z) (o:=.arr e i.size news) v hgb (fun g l=>(I g l).1);have hkk:Bg w (Ao M0 z st.ob) w (Ao M0 z (kill [d] st).ob):=⟨Nat.le_refl _,fun _ _ _=>rfl,fun g _ l=>Or.imp id Ke l,rfl⟩;exact hk.new (hd d H) v hgb I ⟨F,DC.of (by simpa using h2),AG.keep kn (AG.keep hkk J)⟩ ⟨F7 (by simp),Dy.symm⟩
  ·
   rename_i id;obtain⟨N,e2⟩:=hr;have Z:=h.ob id;cases Y:st.ob id<;>simp only[Y,reduceCtorEq]at f;rename_i et sz es;simp only[Ae,Ac]at f;obtain⟨⟨rfl,rfl,O,hb2⟩,rfl⟩:=f;rw[Y]at Z;obtain⟨xs,W,hf⟩:=Z;obtain⟨D,w',m,h2,Q,r⟩:=Qy (P:=P) 0 t o.type et i zv ht hi hz S U (z.σ id) es.length xs (W.own hi) A news.length c F K (fun hh=>by simp[hA hh]) s u (by unfold maxLen;omega) O (Nat.zero_le _);rw[e2,e1]at ay;refine ay (z':=z.new id D) m ?_
   have I:∀g,blk D=some g->blk (z.σ id)=some g\/(w.heap.size≤g/\g<w'.heap.size):=by
    intro g l;rcases r with r|r
    ·exact .inl (r▸l)
    ·rw[l]at r;simp only[Ac]at r;subst r;rcases h2.2 with⟨R,_⟩|⟨g',cap,cur,R,_,e8,_⟩
     ·rw[R]at l;simp[blk]at l
     ·rw[R]at l;simp only[blk,Ac]at l;exact .inr ⟨Nat.le_refl _,by rw[<-l];exact C2 e8⟩
   have hS:=h.renew (o':=.arr et i.size (es++news)) N Q I rfl fun hk=>⟨xs++F,DC.of (by simpa using h2),AG.keep hk (Ol hf J)⟩;exact hS.put hd ⟨by simp[AR],Dy.symm⟩
theorem S6{w:World}{M:MM}{size:Nat}:∀{es:List CV} {b:List Value} (k:Nat),AG w M size es b->AG w M size (es.take k) (b.take (k*size))
 | [],b,k,h=>by
  have:b= []:=h;subst this;simp[AG]
 |e::es,b,0,h=>by simp[AG]
 |e::es,b,k+1,h=>by
  obtain⟨v,c,rfl,d,i,g⟩:=h;have f:v.cells.toList.length=size:=by simpa using d
  refine⟨v,c.take (k*size), ?_,d,i,S6 k g⟩;rw[Nat.add_mul,Nat.one_mul,List.take_append,List.take_of_length_le (by omega),f]
  congr 2
  omega
theorem S3{w:World}{M:MM}{size:Nat}:∀{es:List CV} {b:List Value} (k:Nat),AG w M size es b->AG w M size (es.drop k) (b.drop (k*size))
 | [],b,k,h=>by
  have:b= []:=h;subst this;simp[AG]
 |e::es,b,0,h=>by simpa using h
 |e::es,b,k+1,h=>by
  obtain⟨v,c,rfl,g,j,f⟩:=h;have d:v.cells.toList.length=size:=by simpa using g
  have:=S3 k f
  have i:(v.cells.toList++c).drop ((k+1)*size)=c.drop (k*size):=by
   rw[Nat.add_mul,Nat.one_mul,List.drop_append,List.drop_eq_nil_of_le (show v.cells.toList.length≤k*size+size by omega),List.nil_append,d,show k*size+size-size=k*size by omega]
  rw[i];exact this
theorem Afz(w:World){dT sT ty elem:TypeId}{i:TypeInfo}{g dLen dCap:Nat}{A:Option Addr}{m c:Nat}{b:Array Value}{t:TypeId}{cs:List Value}(o:P.underlying dT=some (.slice elem))(hi:P.info? elem=some i)
  (p:w.heap[g]? =some (.cells b t (0,0))) (q:cs.length=Nat.min m dLen*i.size) (r:A=none->cs= []) (f:∀l,A=some l->∀(j:Nat) v,cs[j]? =some v->w.cell? (l.add j)=some v) (k:cs.length≤b.size) (s:∀v∈cs,v.oneCell'=true):
  (Builtin.copy_ #[dT,sT] ty #[.slice (some ⟨g,0,none⟩) dLen dCap,.slice A m c]).run P w=.ok (goInt (Nat.min m dLen)) (w.setRow g (cs++b.toList.drop cs.length).toArray):=by
 have d:=run_storeCells_at P g 0 t cs 0 b w p (by simpa using k) s;simp only[Nat.zero_add,List.take_zero,List.nil_append]at d
 cases A with
 |none=>
  have:=r rfl;subst this;have e:w.setRow g b=w:=setRow_self w g b t (0,0) p;simp[Builtin.copy_,run_underlying o,Builtin.lenOf,Builtin.firstCells,Go.sizeOf,typeInfo,hi,storeCells,e]
 |some l=>
  have h:=run_loadCells_list (P:=P) w l cs (f l rfl);rw[q]at h;simp[Builtin.copy_,run_underlying o,Builtin.lenOf,Builtin.firstCells,Go.sizeOf,typeInfo,hi,h,d]
theorem Zx(h:SR P G w0 M0 n st a w z){o:Oper}{t e:TypeId}{i:TypeInfo}{x y:Operand}{args:Array Operand}{argTypes:Array TypeId}(ho:o.op=.call {callee:=.builtin .copy,args:=args,argTypes:=argTypes})
  (r:args.toList= [x,y]) (X:argTypes.toList= [t,t]) (ht:P.underlying t=some (.slice e)) (hi:P.info? e=some i) (hsz:0<i.size)
  (hd:∀j,o.dst=some j->j<n) {sx sy:SO} (hx:Ap x=some sx) (hy:Ap y=some sy) {st':St} (d:AJ o.dst (so G st.fr) st (.cpy e i.size sx sy)=some st'):DM P G w0 M0 n st' a w o:=by
 have hr:=h.ctx.opd hx;have Q:=h.ctx.opd hy;simp only[AJ]at d;generalize so G st.fr sx=q at hr d;generalize so G st.fr sy=q2 at Q d
 cases f:C6 st q2 with
 |none=>rw[f]at d;cases d
 |some news=>
  rw[f]at d;cases q<;>(try simp only[reduceCtorEq]at d;done);rename_i id;obtain⟨F,e2⟩:=hr;have S:=h.ob id;cases D:st.ob id<;>simp only[D,reduceCtorEq]at d;rename_i et sz es;simp only[Ae,Ac,Ag]at d;obtain⟨⟨⟨rfl,rfl⟩,Y,R⟩,rfl⟩:=d;rw[D]at S;obtain⟨xs,O,hf⟩:=S;obtain⟨A,c,l,e1,I,hA,s⟩:=PS h Q f Y;have K:=GY I;have hxl:=GY hf;have C:=Lb I R
  have ay:∀{w' z'},(Builtin.copy_ #[t,t] o.type #[a.eval x,a.eval y]).run P w=.ok (goInt (Nat.min news.length es.length)) w'->SR P G w0 M0 n {st with ob:=ac st.ob id (.arr et i.size (news.take (min news.length es.length)++es.drop (min news.length es.length)))} a w' z'->DM P G w0 M0 n (St.set {st with ob:=ac st.ob id (.arr et i.size (news.take (min news.length es.length)++es.drop (min news.length es.length)))} o.dst (.c (.int .i64 (min news.length es.length:Nat)))) a w o:=by
   intro w' z' N hS;refine .inl ⟨goInt (Nat.min news.length es.length),w',z', ?_,hS.put hd ?_⟩
   ·obtain⟨al⟩:=args;obtain⟨tl⟩:=argTypes;simp only at r X
    subst r;subst X
    simp[execOp,ho,resolve,invoke,builtin,N]
   ·show RelC _ _ _ _;exact Ep
  have u:=O.own hi;rw[e2,e1]at ay;rcases u.2 with⟨Z,e4⟩|⟨g,cap,J,Z,e4,e5,e6,e7,e8,e9⟩
  ·have hes:es= []:=List.eq_nil_of_length_eq_zero e4;subst hes;rw[Z]at ay;refine ay (w':=w) (z':=z) ?_ ?_
   ·cases A with
    |none=>simp[Builtin.copy_,run_underlying ht,Builtin.lenOf,Builtin.firstCells,Go.sizeOf,typeInfo,hi]
    |some ad=>
     have V:=run_loadCells_list (P:=P) w ad [] (by simp);simp only[List.length_nil]at V;simp[Builtin.copy_,run_underlying ht,Builtin.lenOf,Builtin.firstCells,Go.sizeOf,typeInfo,hi,V]
   ·have:{st with ob:=ac st.ob id (.arr et i.size (news.take (min news.length ([]:List CV).length)++([]:List CV).drop (min news.length ([]:List CV).length)))}=st:=by
     have e:ac st.ob id (.arr et i.size (news.take (min news.length ([]:List CV).length)++([]:List CV).drop (min news.length ([]:List CV).length)))=st.ob:=by
      funext j;rw[BS];split
      ·rename_i hj;rw[hj,D];simp
      ·rfl
     rw[e]
    rw[this];exact h
  ·have hk:Nat.min news.length es.length=min news.length es.length:=rfl;have hle1:min news.length es.length*i.size≤news.length*i.size:=Nat.mul_le_mul_right _ (Nat.min_le_left _ _);have U:min news.length es.length*i.size≤es.length*i.size:=Nat.mul_le_mul_right _ (Nat.min_le_right _ _);have hle3:es.length*i.size≤cap*i.size:=Nat.mul_le_mul_right _ e6;have b:(l.take (min news.length es.length*i.size)).length=min news.length es.length*i.size:=by rw[List.length_take,K];omega
   have W:J.toList.length=cap*i.size:=by simpa using e8
   rw[Z]at ay
   have run:=Afz (P:=P) (dT:=t) (sT:=t) (ty:=o.type) (dLen:=es.length) (dCap:=cap) (A:=A) (m:=news.length) (c:=c) (cs:=l.take (min news.length es.length*i.size)) w ht hi e5 (by rw[b,hk]) (fun H=>by
     have:=hA H;subst this
     simp) (fun ad H j v d=>by
     rw[List.getElem?_take]at d;split at d
     ·exact s ad H j v d
     ·cases d) (by rw[b,<-Array.length_toList,W];omega) (fun v d=>C v (List.mem_of_mem_take d))
   rw[b]at run
   have L:(l.take (min news.length es.length*i.size)++J.toList.drop (min news.length es.length*i.size)).take (es.length*i.size)=l.take (min news.length es.length*i.size)++xs.drop (min news.length es.length*i.size):=by
    rw[List.take_append,List.take_of_length_le (by rw[b];exact U),b,<-e9,List.drop_take]
   have p:(l.take (min news.length es.length*i.size)++J.toList.drop (min news.length es.length*i.size)).length=cap*i.size:=by
    rw[List.length_append,b,List.length_drop,W];omega
   have k:(news.take (min news.length es.length)++es.drop (min news.length es.length)).length=es.length:=by
    rw[List.length_append,List.length_take,List.length_drop];omega
   refine ay run (SR.turn h F (by simp) (by rw[Z];exact Pp w g _) (fun _ _ H=>H) (fun H=>by cases H) fun hkk hz=>⟨l.take (min news.length es.length*i.size)++xs.drop (min news.length es.length*i.size),DC.of ⟨?_,.inr ⟨g,cap,_, ?_,e4,setRow_heap w g _ _ _ _ e5, ?_,e7,by simpa using p, ?_⟩⟩,AG.keep hkk (Ol (S6 _ I) (S3 _ hf))⟩)
   ·rw[<-L,List.length_take,k,p];omega
   ·rw[Z,k]
   ·rw[k];exact e6
   ·rw[k];exact L
end
section
variable {P:Program} {G:Nat->List CV} {w0:WL} {M0:MM} {n:Nat} {st:St} {a:Act} {w w':World} {z:Cz}
def Gm(w:World)(r:Nat)(o:Obj):World:={w with heap:=w.heap.setIfInBounds r o}
theorem K0{r:Nat}{o o':Obj}(h:w.heap[r]? =some o)(b:∀c t f,o≠ .cells c t f):(setObj r o').run P w=.ok () (Gm w r o'):=by
 simp only[setObj,Sem.run,h];cases o<;>first|exact absurd rfl (b _ _ _)|rfl
theorem Xh{r:Nat}{o o':Obj}(h:w.heap[r]? =some o):(Gm w r o').heap[r]? =some o':=by
 have:=C2 h;simp[Gm,this]
theorem Q4(w:World)(r:Nat)(o:Obj):w.grownBy (Gm w r o) (some r):=by
 refine⟨rfl,rfl,rfl,by simp[Gm],fun k _ b=> ?_⟩;simp only[Gm,Array.getElem?_setIfInBounds];rw[if_neg (fun e=>b (by rw[e]))]
theorem I2(h:SR P G w0 M0 n st a w z){id:Nat}{mt:TypeId}{kt:KT}{zc:CV}{ks vs:List CV}(f:st.ob id=.map mt kt zc ks vs):
  Gg P mt=some (kt,zc)/\∃(c b:List CV) (r:Nat) (d:List MapEntry) (e:Nat),MP ks vs c b/\z.σ id=.map (some r)/\w.heap[r]? =some (.map ⟨d⟩ e)/\KZ w (Ao M0 z st.ob) (z.β id) kt c b d e:=by
 have:=h.ob id;rw[f]at this;exact this
theorem PA{id:Nat}{mt:TypeId}{kt:KT}{zc:CV}{ks vs:List CV}(b:st.ob id=.map mt kt zc ks vs):st.ob id≠ .none:=by rw[b];simp
theorem map_set(h:SR P G w0 M0 n st a w z){id:Nat}{mt:TypeId}{kt:KT}{zc:CV}{ks vs:List CV}{r:Nat}{c:List MapEntry}{p:Nat}(x:z.σ id=.map (some r))(hh:w.heap[r]? =some (.map ⟨c⟩ p))
  {K J u t:List CV} (C:st.ob id=.map mt kt zc K J) (Q:Gg P mt=some (kt,zc)) (hB:KZ w (Ao M0 z st.ob) (z.β id) kt ks vs c p)
  {i:Nat} {k v:CV} (R:MP u t ks (vs.set i v)) {vk vv:Value} (S:ks[i]? =some k) (O:RelC w (Ao M0 z st.ob) k vk) (N:RelC w (Ao M0 z st.ob) v vv) (β':CV->Nat->Prop) (L:∀k b,z.β id k b->β' k b)
  (y:∀k b,β' k b->z.β id k b\/∃g,c[i]? =some g/\ks[i]? =some k/\g.born=b):
  SR P G w0 M0 n {st with ob:=ac st.ob id (.map mt kt zc u t)} a (Gm w r (.map ((⟨c⟩:Array MapEntry).modify i (fun e=>{e with key:=vk,val:=vv})) p)) {z with β:=ac z.β id β'}:=by
 obtain⟨U,h2,h3,h4,Z,h6,h7⟩:=hB;have hi:i<ks.length:=(Af.1 S).1;have l:i<c.length:=by have:=U.length;rw[List.length_map]at this;omega
 have hE:c[i]? =some (c[i]'l):=Aj _;obtain⟨v0,X,g2⟩:=U.get S;rw[List.getElem?_map,hE]at X;simp only[Option.map_some,Ac]at X
 have D:c[i].key=vk:=by
  rw[X];exact(OC (h3 k (List.mem_of_getElem? S)) g2 O).1
 have hl:((⟨c⟩:Array MapEntry).modify i (fun e=>{e with key:=vk,val:=vv})).toList=c.set i {c[i]with key:=vk,val:=vv}:=by
  apply List.ext_getElem?;intro j;rw[Array.getElem?_toList,Array.getElem?_modify,List.getElem?_set];by_cases d:i=j
  ·subst d;simp[l]
  ·simp[d]
 have s:((c.set i {c[i]with key:=vk,val:=vv}).map (·.key))=c.map (·.key):=by
  rw[List.map_set];apply List.ext_getElem?;intro j;rw[List.getElem?_set];by_cases d:i=j
  ·subst d;simp[l,D]
  ·simp[d]
 have o:((c.set i {c[i]with key:=vk,val:=vv}).map (·.born))=c.map (·.born):=by
  rw[List.map_set];apply List.ext_getElem?;intro j;rw[List.getElem?_set];by_cases d:i=j
  ·subst d;simp[l]
  ·simp[d]
 have A:((⟨c⟩:Array MapEntry).modify i (fun e=>{e with key:=vk,val:=vv}))=⟨c.set i {c[i]with key:=vk,val:=vv}⟩:=Array.toList_inj.1 hl;rw[A];refine SR.turn h (PA C) (by simp) (by rw[x];exact Q4 w r _) L (fun _=>by rw[C];rfl) fun q hz=>⟨Q,_,_,r,_,p,R,x,Xh hh, ?_, ?_,h3,h4, ?_, ?_, ?_⟩
 ·rw[s];exact RelL.keep q _ _ U
 ·rw[List.map_set];exact RelL.set i (RelL.keep q _ _ h2) (RelC.keep q _ _ N)
 ·intro g m;rcases List.mem_or_eq_of_mem_set m with m|m
  ·exact Z g m
  ·rw[m];exact Z c[i] (List.mem_of_getElem? hE)
 ·rw[o];exact h6
 ·intro Y b I;simp only[AR]at I
  have put:∀(j:Nat) (g:MapEntry),c[j]? =some g->g.born=b->∃f,(c.set i {c[i]with key:=vk,val:=vv})[j]? =some f/\f.born=b:=by
   intro j g d H;rw[List.getElem?_set];by_cases F:i=j
   ·subst F;rw[hE]at d;simp only[Ac]at d;subst d;exact⟨{c[i]with key:=vk,val:=vv},by simp[l],H⟩
   ·exact⟨g,by simp[F,d],H⟩
  rcases y Y b I with I|⟨g,h8,h9,h10⟩
  ·obtain⟨j,g,g3,g4,g5⟩:=h7 Y b I;obtain⟨f,W,V⟩:=put j g g4 g5;exact⟨j,f,g3,W,V⟩
  ·obtain⟨f,W,V⟩:=put i g h8 h10;exact⟨i,f,h9,W,V⟩
theorem Vw(h:SR P G w0 M0 n st a w z){id:Nat}{mt:TypeId}{kt:KT}{zc:CV}{ks vs:List CV}{r:Nat}{g:List MapEntry}{d:Nat}(q:z.σ id=.map (some r))(Y:w.heap[r]? =some (.map ⟨g⟩ d))
  {F D p o:List CV} (t:st.ob id=.map mt kt zc F D) (L:Gg P mt=some (kt,zc)) (hB:KZ w (Ao M0 z st.ob) (z.β id) kt ks vs g d)
  {k v:CV} (N:MP p o (ks++ [k]) (vs++ [v])) {vk vv:Value} (Z:AE kt k=true) (X:k∉ks) (K:RelC w (Ao M0 z st.ob) k vk) (J:RelC w (Ao M0 z st.ob) v vv) (β':CV->Nat->Prop) (H:∀k b,z.β id k b->β' k b)
  (s:∀m b,β' m b->z.β id m b\/(m=k/\b=d)):
  SR P G w0 M0 n {st with ob:=ac st.ob id (.map mt kt zc p o)} a (Gm w r (.map ((⟨g⟩:Array MapEntry).push {key:=vk,val:=vv,born:=d}) (d+1))) {z with β:=ac z.β id β'}:=by
 obtain⟨U,h2,h3,h4,S,h6,h7⟩:=hB;have W:(⟨g⟩:Array MapEntry).push {key:=vk,val:=vv,born:=d}=⟨g++ [{key:=vk,val:=vv,born:=d}]⟩:=Array.toList_inj.1 (by simp);rw[W];have O:ks.length=g.length:=by have:=U.length;rw[List.length_map]at this;omega
 refine SR.turn h (PA t) (by simp) (by rw[q];exact Q4 w r _) H (fun _=>by rw[t];rfl) fun l hz=>⟨L,_,_,r,_,d+1,N,q,Xh Y, ?_, ?_, ?_, ?_, ?_, ?_, ?_⟩
 ·rw[List.map_append];exact(RelL.keep l _ _ U).append (RelL.cons (RelC.keep l _ _ K) RelL.nil)
 ·rw[List.map_append];exact(RelL.keep l _ _ h2).append (RelL.cons (RelC.keep l _ _ J) RelL.nil)
 ·intro c i;rcases List.mem_append.1 i with i|i
  ·exact h3 c i
  ·rw[List.mem_singleton.1 i];exact Z
 ·rw[List.nodup_append];refine⟨h4,by simp,fun x I y A=> ?_⟩;rw[List.mem_singleton.1 A];intro e;exact X (e▸I)
 ·intro u f;rcases List.mem_append.1 f with f|f
  ·have:=S u f;omega
  ·rw[List.mem_singleton.1 f];simp
 ·rw[List.map_append,List.nodup_append];refine⟨h6,by simp,fun x I y A=> ?_⟩;simp only[List.map_cons,List.map_nil,List.mem_singleton]at A;subst A;obtain⟨u,f,rfl⟩:=List.mem_map.1 I;have:=S u f;omega
 ·intro m b C;simp only[AR]at C;rcases s m b C with C|⟨rfl,rfl⟩
  ·obtain⟨j,u,g3,V,g5⟩:=h7 m b C;have R:=(Af.1 g3).1;have Q:=(Af.1 V).1;exact⟨j,u,by rw[List.getElem?_append_left R];exact g3,by rw[List.getElem?_append_left Q];exact V,g5⟩
  ·exact⟨ks.length,{key:=vk,val:=vv,born:=b},by simp,by rw[O];simp,rfl⟩
end
section
variable {P:Program} {G:Nat->List CV} {w0:WL} {M0:MM} {n:Nat} {st:St} {a:Act} {w w':World} {z:Cz}
theorem TS(h:SR P G w0 M0 n st a w z){o:Oper}{t:TypeId}{m k x:Operand}(Q:o.op=.mapUpdate t m k x\/o.op=.insert t m k x)(N:o.dst=none){sm sk sx:SO}(hm:Ap m=some sm)(hk:Ap k=some sk)(hx:Ap x=some sx){st':St}
  (l:AJ none (so G st.fr) st (.mapupd t sm sk sx)=some st'):DM P G w0 M0 n st' a w o:=by
 have hr:=h.ctx.opd hm;have f:=h.ctx.opd hk;have A:=h.ctx.opd hx;simp only[AJ]at l;generalize so G st.fr sm=q at hr l;generalize so G st.fr sk=q2 at f l;generalize so G st.fr sx=q3 at A l;split at l<;>(try cases l;done);rename_i id g J;obtain⟨U,e1⟩:=hr;cases p:st.ob id<;>simp only[p,reduceCtorEq]at l;rename_i mt kt zc ks vs;simp only[Ae,Ac]at l;obtain⟨⟨rfl,I⟩,rfl⟩:=l;obtain⟨C,c,j,r,b,H,S,e2,d,Y⟩:=I2 h p;have X:=Y;obtain⟨Z,h2,h3,h4,h5,h6,h7⟩:=X;obtain⟨kty,ety,i,vz,hu,L,hi,hz,hzc⟩:=PL C;have s:=Ps S h4 I J;have rc:=Qz (P:=P) L false f I;have rf:=Q0 (P:=P) L f I Z h3
 have ay:∀{w' z' st'},(Instr.mapUpdate mt (a.eval m) (a.eval k) (a.eval x)).run P w=.ok () w'->SR P G w0 M0 n st' a w' z'->DM P G w0 M0 n st' a w o:=by
  intro w' z' st' K O;refine .inr ⟨w',z',by rcases Q with Q|Q<;>simp[execOp,Q,K], ?_⟩;rw[N];exact O
 have base:(Instr.mapUpdate mt (a.eval m) (a.eval k) (a.eval x)).run P w=(match BY b (AH kt g c)with
   |some (i,_)=>(do
    let key<-Instr.keyThatStays ((((⟨b⟩:Array MapEntry)[i]?).map MapEntry.key).getD (a.eval k)) (a.eval k)
    setObj r (.map ((⟨b⟩:Array MapEntry).modify i fun e=>{e with key,val:=a.eval x}) H):Sem Unit)
   |none=>setObj r (.map ((⟨b⟩:Array MapEntry).push {key:=a.eval k,val:=a.eval x,born:=H}) (H+1))).run P w:=by
  rw[e1,e2];simp only[Instr.mapUpdate,Sem.run_bind,run_underlying hu,Result.andThen_ok,getObj,Sem.run,d,rc,rf];cases BY b (AH kt g c)<;>rfl
 cases y:AH kt g c with
 |none=>
  have F:BY b (AH kt g c)=none:=by rw[y];rfl
  rw[F]at base;have e3:Bc kt c g=c++ [g]:=by simp[Bc,y]
  have e4:Be kt c j g J=j++ [J]:=by simp[Be,y]
  rw[e3,e4]at s;have O:=Vw h e2 d p C Y s I (Iw I y) f A (z.β id) (fun _ _ d=>d) (fun _ _ d=>.inl d);refine ay ?_ O;rw[base];exact K0 d (fun _ _ _ d=>by cases d)
 |some i=>
  have D:=G7 y;have V:i<b.length:=by have:=Z.length;rw[List.length_map]at this;have:=(Af.1 D).1;omega
  have hE:b[i]? =some (b[i]'V):=Aj _;have F:BY b (AH kt g c)=some (i,b[i].val):=by rw[y];simp[BY,hE]
  rw[F]at base;obtain⟨v0,g1,g2⟩:=Z.get D;rw[List.getElem?_map,hE]at g1;simp only[Option.map_some,Ac]at g1;have e3:Bc kt c g=c:=by simp[Bc,y]
  have e4:Be kt c j g J=j.set i J:=by simp[Be,y]
  rw[e3,e4]at s;have O:=map_set h e2 d p C Y s D f A (z.β id) (fun _ _ d=>d) (fun _ _ d=>.inl d);refine ay ?_ O;rw[base];have W:(⟨b⟩:Array MapEntry)[i]? =some b[i]:=by rw[<-Array.getElem?_toList];exact hE
  have R:=cg (P:=P) I (M:=Ao M0 z st.ob) (M':=Ao M0 z st.ob) (u:=b[i].key) (v:=a.eval k) (by rw[g1];exact g2) f w;simp only[W,Option.map_some,Option.getD_some,Sem.run_bind,R,Result.andThen_ok];exact K0 d (fun _ _ _ d=>by cases d)
theorem Zz(h:SR P G w0 M0 n st a w z){o:Oper}{t:TypeId}{m k:Operand}(ho:o.op=.mapEntry t m k)(hd:∀j,o.dst=some j->j<n){sm sk:SO}(hm:Ap m=some sm)(hk:Ap k=some sk){st':St}
  (I:AJ o.dst (so G st.fr) st (.mapent t sm sk)=some st'):DM P G w0 M0 n st' a w o:=by
 have hr:=h.ctx.opd hm;have A:=h.ctx.opd hk;simp only[AJ]at I;generalize so G st.fr sm=q at hr I;generalize so G st.fr sk=q2 at A I;split at I<;>(try cases I;done);rename_i id g;obtain⟨hlive,e1⟩:=hr;cases D:st.ob id<;>simp only[D,reduceCtorEq]at I;rename_i mt kt zc ks vs;simp only[Ae,Ac]at I;obtain⟨⟨rfl,L,-⟩,rfl⟩:=I;obtain⟨J,f,d,r,c,y,R,X,s,hB⟩:=I2 h D;have hB0:=hB;obtain⟨h1,h2,h3,h4,h5,h6,h7⟩:=hB0;obtain⟨kty,ety,i,Y,hu,U,hi,hz,O⟩:=PL J;have l:=fun v=>Ps R h4 L v;rw[PF (zc:=zc) R h4 L];have rc:=Qz (P:=P) U false A L;have rf:=Q0 (P:=P) U A L h1 h3
 have ay:∀{w' z' v C},(Instr.mapEntry mt (a.eval m) (a.eval k)).run P w=.ok v w'->SR P G w0 M0 n C a w' z'->Aw w' (Ao M0 z' C.ob) z' C.ob (.ent id g (AK kt zc f d g).1) v->
   DM P G w0 M0 n (St.set C o.dst (.ent id g (AK kt zc f d g).1)) a w o:=by
  intro w' z' v C Q W hs;exact .inl ⟨v,w',z',by simp[execOp,ho,Q],W.put hd hs⟩
 have base:(Instr.mapEntry mt (a.eval m) (a.eval k)).run P w=(match BY c (AH kt g f)with
   |some (i,v)=>(do
    let key<-Instr.keyThatStays ((((⟨c⟩:Array MapEntry)[i]?).map MapEntry.key).getD (a.eval k)) (a.eval k)
    setObj r (.map ((⟨c⟩:Array MapEntry).modify i fun e=>{e with key}) y)
    pure (.tuple #[v,goInt ((((⟨c⟩:Array MapEntry)[i]?).map (fun(x:MapEntry)=>(x.born:Int))).getD 0)]):Sem Value)
   |none=>(do
    let zero<-zeroValue ety
    setObj r (.map ((⟨c⟩:Array MapEntry).push {key:=a.eval k,val:=zero,born:=y}) (y+1))
    pure (.tuple #[zero,goInt y]):Sem Value)).run P w:=by
  rw[e1,X];simp only[Instr.mapEntry,Sem.run_bind,run_underlying hu,Result.andThen_ok,getObj,Sem.run,s,rc,rf];cases BY c (AH kt g f)<;>rfl
 cases F:AH kt g f with
 |none=>
  have K:BY c (AH kt g f)=none:=by rw[F];rfl
  rw[K]at base;have Z:RelC w (Ao M0 z st.ob) zc Y:=Fx _ _ _ _ O;have p:AK kt zc f d g=(zc,false):=by simp[AK,F]
  have e3:Bc kt f g=f++ [g]:=by simp[Bc,F]
  have e4:Be kt f d g zc=d++ [zc]:=by simp[Be,F]
  have l:=l zc;rw[e3,e4]at l;have W:=Vw h X s D J hB l L (Iw L F) A Z (fun N b=>z.β id N b\/(N=g/\b=y)) (fun _ _ s=>.inl s) (fun _ _ s=>s);rw[p]at ay⊢;refine ay (v:=.tuple #[Y,goInt y]) ?_ W ⟨by simp[AR],y,Y,by simp[AR],rfl,Fx _ _ _ _ O⟩;rw[base];simp only[Sem.run_bind,Kw hi hz,Result.andThen_ok,K0 s (fun _ _ _ s=>by cases s),Sem.run_pure]
 |some i=>
  have H:=G7 F;have V:i<c.length:=by have:=h1.length;rw[List.length_map]at this;have:=(Af.1 H).1;omega
  have hE:c[i]? =some (c[i]'V):=Aj _;have K:BY c (AH kt g f)=some (i,c[i].val):=by rw[F];simp[BY,hE]
  rw[K]at base;obtain⟨v0,g1,g2⟩:=h1.get H;rw[List.getElem?_map,hE]at g1;simp only[Option.map_some,Ac]at g1;have hvl:i<d.length:=by have:=h2.length;rw[List.length_map]at this;omega
  have hV:d[i]? =some (d[i]'hvl):=Aj _;obtain⟨v1,g3,g4⟩:=h2.get hV;rw[List.getElem?_map,hE]at g3;simp only[Option.map_some,Ac]at g3;have p:AK kt zc f d g=(d[i],true):=by simp[AK,F,hV]
  have e3:Bc kt f g=f:=by simp[Bc,F]
  have e4:Be kt f d g d[i]=d.set i d[i]:=by simp[Be,F]
  have l:=l d[i];rw[e3,e4]at l
  have W:=map_set h X s D J hB l H A (v:=d[i]) (vv:=c[i].val) (by rw[g3];exact g4) (fun N b=>z.β id N b\/(N=g/\b=c[i].born)) (fun _ _ s=>.inl s) (fun N b hb=>by
   rcases hb with hb|⟨rfl,rfl⟩
   ·exact .inl hb
   ·exact .inr ⟨_,hE,H,rfl⟩)
  rw[p]at ay⊢;have hEa:(⟨c⟩:Array MapEntry)[i]? =some c[i]:=by rw[<-Array.getElem?_toList];exact hE
  have S:((⟨c⟩:Array MapEntry).modify i fun e=>{e with key:=a.eval k})=((⟨c⟩:Array MapEntry).modify i fun e=>{e with key:=a.eval k,val:=c[i].val}):=by
   apply Array.ext_getElem?;intro j;rw[Array.getElem?_modify,Array.getElem?_modify];by_cases hj:i=j
   ·subst hj;simp[V]
   ·simp[hj]
  refine ay (v:=.tuple #[c[i].val,goInt c[i].born]) ?_ W ⟨by simp[AR],c[i].born,c[i].val,by simp[AR],rfl, ?_⟩
  ·rw[base];have hst:=cg (P:=P) L (M:=Ao M0 z st.ob) (M':=Ao M0 z st.ob) (u:=c[i].key) (v:=a.eval k) (by rw[g1];exact g2) A w;simp only[hEa,Option.map_some,Option.getD_some,Sem.run_bind,hst,Result.andThen_ok,S,K0 s (fun _ _ _ s=>by cases s),Sem.run_pure]
  ·rw[g3];exact RelC.keep (SR.turnK (PA D) (by simp) (by rw[X];exact Q4 w r _)) _ _ g4
theorem Ah8{o:Oper}{st':St}{z':Cz}(b:o.dst=none)(c:SR P G w0 M0 n st' a w' z')(run:(execOp a.eval o).run P w=.ok .skip w'):DM P G w0 M0 n st' a w o:=
 .inr ⟨w',z',run,by rw[b];exact c⟩
theorem Zy(h:SR P G w0 M0 n st a w z){o:Oper}{t:TypeId}{m s x:Operand}(ho:o.op=.entryStore t m s x)(N:o.dst=none){sm Q sx:SO}(hm:Ap m=some sm)(hs:Ap s=some Q)(hx:Ap x=some sx){st':St}
  (f:AJ none (so G st.fr) st (.entst sm Q sx)=some st'):DM P G w0 M0 n st' a w o:=by
 have hr:=h.ctx.opd hm;have I:=h.ctx.opd hs;have H:=h.ctx.opd hx;simp only[AJ]at f;generalize so G st.fr sm=q at hr f;generalize so G st.fr Q=q2 at I f;generalize so G st.fr sx=q3 at H f;split at f<;>(try cases f;done);rename_i id id' F O;obtain⟨U,e1⟩:=hr;obtain⟨_,b,hb,e5⟩:=I;cases p:st.ob id<;>simp only[p,reduceCtorEq]at f;rename_i mt kt zc ks vs;simp only[Ae,Ac]at f;obtain⟨rfl,rfl⟩:=f;obtain⟨S,l,D,r,c,clk,u,e2,k,hB⟩:=I2 h p;have Y:=hB;obtain⟨h1,h2,h3,Z,h5,h6,h7⟩:=Y;obtain⟨i,en,d,hE,L⟩:=h7 F b hb;have W:=h3 F (List.mem_of_getElem? d);have hf:=Mk W Z d;have A:=Ps u Z W O;have g:=(Af.1 hE).1;have C:c[i]=en:=by rw[Aj g]at hE;simpa using hE
 obtain⟨v0,g1,g2⟩:=h1.get d;rw[List.getElem?_map,hE]at g1;simp only[Option.map_some,Ac]at g1
 have y:(⟨c⟩:Array MapEntry).findIdx? (fun e=>(e.born:Int)==(b:Int))=some i:=by
  rw[Array.findIdx?_eq_some_iff_getElem];refine⟨by simpa using g,by simp[C,L],fun j V=> ?_⟩;have K:j<c.length:=by omega
  simp only[beq_iff_eq,Int.natCast_inj];intro X;have e6:(c.map (·.born))[j]? =some b:=by simp[Aj K];simpa using X
  have e7:(c.map (·.born))[i]? =some b:=by simp[Aj g,C,L]
  have:=(List.getElem?_inj (by simpa using K) h6).1 (e6.trans e7.symm);omega
 have e3:Bc kt l F=l:=by simp[Bc,hf]
 have e4:Be kt l D F O=D.set i O:=by simp[Be,hf]
 rw[e3,e4]at A
 have e3':Bc kt ks F=ks:=by
  obtain⟨j,v,k1,k2,k3⟩:=u.symm.at_ d;have R:ks.Nodup:=(u.ks.nodup_iff).1 Z;simp[Bc,Mk W R k2]
 rw[e3']at A;have hS:=map_set h e2 k p S hB A d (vk:=c[i].key) (by rw[C,g1];exact g2) H (z.β id) (fun _ _ k=>k) (fun _ _ k=>.inl k)
 have J:((⟨c⟩:Array MapEntry).modify i fun e=>{e with val:=a.eval x})=((⟨c⟩:Array MapEntry).modify i fun e=>{e with key:=c[i].key,val:=a.eval x}):=by
  apply Array.ext_getElem?;intro j;rw[Array.getElem?_modify,Array.getElem?_modify];by_cases V:i=j
  ·subst V;simp[g]
  ·simp[V]
 have run:(Instr.entryStore t (a.eval m) (a.eval s) (a.eval x)).run P w=.ok () (Gm w r (.map ((⟨c⟩:Array MapEntry).modify i fun e=>{e with key:=c[i].key,val:=a.eval x}) clk)):=by
  rw[e1,e2,e5];simp only[Instr.entryStore,Sem.run_bind,getObj,Sem.run,k,asInt,asIntOf,Sem.run_pure,Result.andThen_ok,y,J,K0 k (fun _ _ _ k=>by cases k)]
 refine Ah8 N hS ?_;simp only[execOp,ho,Sem.run_bind,run,Result.andThen_ok,Sem.run_pure]
def H5:aa->Bool
 | .store .. | .entst .. | .mapupd .. =>true
 |_=>false
theorem Z0(h:SR P G w0 M0 n st a w z){o:Oper}{s:aa}(b:BU P o=some s)(d:s.cls=.eff)(hd:∀j,o.dst=some j->j<n)(D:H5 s=true->o.dst=none){st':St}
  (q:AJ o.dst (so G st.fr) st s=some st'):DM P G w0 M0 n st' a w o:=by
 unfold BU at b;split at b<;>rename_i A<;>(try cases b;done)
 ·simp only[Aa]at b;obtain⟨_,_,rfl⟩:=b;cases d
 ·simp only[Aa]at b;obtain⟨_,_,rfl⟩:=b;cases d
 ·simp only[Ab,Aa]at b;obtain⟨_,_,_,_,_,_,rfl⟩:=b;cases d
 ·split at b<;>(simp only[Ab,Aa]at b;obtain⟨_,_,_,_,_,_,rfl⟩:=b;cases d)
 ·simp only[Aa]at b;obtain⟨_,_,rfl⟩:=b;cases d
 ·simp only[Ab,Aa]at b;obtain⟨_,_,_,_,_,_,_,_,rfl⟩:=b;cases d
 ·split at b<;>(try cases b;done);simp only[Ab,Ae,Ac]at b;obtain⟨_,_,_,_,_,_,_,_,_,rfl⟩:=b;cases d
 ·simp only[Ab,Aa]at b;obtain⟨_,_,_,_,rfl⟩:=b;cases d
 ·
  simp only[Ab,Aa]at b;obtain⟨i,hi,R,J,sx,f,rfl⟩:=b;have g:=D rfl;rw[g]at q;exact Z1 h A g hi J f q
 ·have:=Ho b;rw[d]at this;cases this
 ·simp only[Aa]at b;obtain⟨_,_,rfl⟩:=b;cases d
 ·have:=Ib b;rw[d]at this;rcases this with h'|h'<;>cases h'
 ·simp only[Aa]at b;obtain⟨_,_,rfl⟩:=b;cases d
 ·split at b<;>(try cases b;done);all_goals(simp only[Ae,Aa]at b;obtain⟨_,_,_,rfl⟩:=b;cases d)
 ·simp only[Aa,Prod.exists]at b;obtain⟨_,_,_,rfl⟩:=b;cases d
 ·split at b<;>(try cases b;done);simp only[Ab,Ae,Ac]at b;obtain⟨_,_,_,_,_,_,_,_,_,_,_,rfl⟩:=b;cases d
 ·split at b<;>(try cases b;done);simp only[Ab,Aa]at b;obtain⟨_,_,_,_,_,_,_,_,_,_,rfl⟩:=b;cases d
 ·split at b<;>(try cases b;done)
  ·simp only[Ab,Aa]at b;obtain⟨_,_,_,_,_,_,rfl⟩:=b;cases d
  ·simp only[Ab,Aa]at b;obtain⟨_,_,_,_,_,_,_,_,rfl⟩:=b;cases d
  ·split at b<;>(try cases b;done);simp only[Ab,Ae,Aa]at b;obtain⟨_,_,_,_,_,rfl⟩:=b;cases d
 ·split at b<;>(try cases b;done)
  ·simp only[Aa]at b;obtain⟨_,_,rfl⟩:=b;cases d
  ·simp only[Ab,Option.ite_none_left_eq_some,Aa]at b;obtain⟨_,_,_,_,_,_,_,rfl⟩:=b;cases d
 ·split at b<;>(try cases b;done);simp only[Ab,Aa]at b;obtain⟨_,_,_,_,_,_,rfl⟩:=b;cases d
 ·split at b<;>(try cases b;done)
  ·simp only[Ab,Option.ite_none_left_eq_some,Aa]at b;obtain⟨_,_,_,_,_,_,_,rfl⟩:=b;cases d
  ·simp only[Ab,Option.ite_none_left_eq_some,Aa]at b;obtain⟨_,_,_,_,_,_,_,rfl⟩:=b;cases d
 ·split at b<;>(try cases b;done)
  ·simp only[Ab,Aa]at b;obtain⟨_,_,_,_,rfl⟩:=b;cases d
  ·simp only[Ab,Aa]at b;obtain⟨_,_,_,_,_,_,_,_,rfl⟩:=b;cases d
 ·simp only[Ab,Aa]at b;obtain⟨_,_,_,_,_,_,rfl⟩:=b;cases d
 ·split at b<;>(try cases b;done);simp only[Ab,Aa]at b;obtain⟨sm,m,sk,r,sx,f,rfl⟩:=b;have g:=D rfl;rw[g]at q;exact TS h (.inl A) g m r f q
 ·split at b<;>(try cases b;done);simp only[Ab,Aa]at b;obtain⟨sm,m,sk,r,sx,f,rfl⟩:=b;have g:=D rfl;rw[g]at q;exact TS h (.inr A) g m r f q
 ·split at b<;>(try cases b;done);simp only[Ab,Aa]at b;obtain⟨sm,m,sk,r,rfl⟩:=b;exact Zz h A hd m r q
 ·simp only[Ab,Aa]at b;obtain⟨sm,m,Q,I,sx,f,rfl⟩:=b;have g:=D rfl;rw[g]at q;exact Zy h A g m I f q
 ·split at b<;>(try cases b;done);all_goals(simp only[Aa]at b;obtain⟨_,_,rfl⟩:=b;cases d)
 ·simp only[Aa]at b;obtain⟨_,_,rfl⟩:=b;cases q
 ·simp only[Aa]at b;obtain⟨_,_,rfl⟩:=b;cases d
 ·simp only[Aa]at b;obtain⟨_,_,rfl⟩:=b;cases d
 ·
  rename_i c;obtain⟨callee,args,argTypes⟩:=c;unfold EJ at b;split at b<;>(try cases b;done)
  ·split at b<;>first
    |(cases b;done)
    |(simp only[Aa]at b;obtain⟨_,_,rfl⟩:=b;cases d)
    |(simp only[Ac]at b;subst b;cases d)
  ·simp only[Aa]at b;obtain⟨_,_,rfl⟩:=b;cases d
  ·simp only[Aa]at b;obtain⟨_,_,rfl⟩:=b;cases d
  ·rename_i k;simp only at k;subst k;split at b<;>(try cases b;done);rename_i x y t u p C
   split at b<;>(try cases b;done);rename_i e _ H _;simp only[Ab,Ae,Ac]at b;obtain⟨i,hi,O,N,sx,f,L,v,⟨rfl,K,F⟩,rfl⟩:=b;exact Zw h A p C H hi N F K hd f v q
  ·rename_i k;simp only at k;subst k;split at b<;>(try cases b;done);rename_i x y t u p C
   split at b<;>(try cases b;done);rename_i e _ H _;simp only[Ab,Ae,Ac]at b;obtain⟨i,hi,sx,f,L,v,⟨rfl,K⟩,rfl⟩:=b;exact Zx h A p C H hi K hd f v q
  ·split at b<;>(try cases b;done);rcases Fs b with⟨l,S,rfl⟩|⟨_,_,_,_,_,_,_,rfl⟩<;>cases d
  ·simp only[Aa]at b;obtain⟨_,_,rfl⟩:=b;cases d
end
def z0(v:Value)(al:Nat->Nat:=fun _=>0):Cz:={σ:=fun _=>v,β:=fun _ _ _=>False,al:=al}
def ob0:Nat->Ob:=fun _=>.none
def Lc(P:Program)(w:World)(M:MM)(B:Nat)(v:Value):be->Prop
 | .val c=>RelC w M c v
 | .new o=>Ey o=true/\(∀g,blk v=some g->B≤g/\g<w.heap.size)/\AV P w ⟨fun g=>M g\/blk v=some g,M.al⟩ B (z0 v) ob0 0 v o
def CallsTo(P:Program)(G:Nat->List CV)(f:FuncId)(args:List CV)(r:be):Prop:=
 ∀(w:World) (M:MM) (vs:List Value),(∀g,M g->g<w.heap.size)->GOk G w M->RelL w M args vs->
  Calls P f ⟨vs⟩ w fun e w'=>∃v,e=.returned v/\Below w.heap.size w w'/\Lc P w' M w.heap.size v r
def Rc(P:Program)(f:FuncId):Prop:=∀(w:World) (d h:Nat) (g:Option Nat) (c:List MapEntry),w.heap[d]? =some (.map ⟨[]⟩ h)->
 ((g=none/\c= [])\/∃bs b,g=some bs/\bs≠d/\w.heap[bs]? =some (.map ⟨c⟩ b)/\cH c b)->
 (∀i:MapEntry,i∈c->∃s:List UInt8,i.key=.string ⟨⟨s⟩⟩/\s.length≤9223372036854775807)->c.length≤9223372036854775807->
 Calls P f ⟨[.map (some d),.map g]⟩ w fun e w'=>e=.returned (.tuple ⟨[]⟩)/\w.grownBy w' (some d)/\∃(ens':List MapEntry) (b:Nat),w'.heap[d]? =some (.map ⟨ens'⟩ b)/\cH ens' b/\
  (ens'.map fun e=>(e.key,e.val)).Perm (c.map fun e=>(e.key,e.val))
def Od(P:Program)(cp:FuncId->Bool):Prop:=∀f,cp f=true->hasBody P f=true/\Rc P f
def SortC(P:Program)(f g:FuncId)(e size:Nat)(es c:List CV):Prop:=∀(w:World) (M:MM) (v:Value) (d:List Value),w.ownsRow 0 e size v es.length d->AG w M size es d->
 Calls P f ⟨[v,.func (.func g) #[] #[]]⟩ w fun k w'=>k=.returned (.tuple ⟨[]⟩)/\w.grownBy w' (blk v)/\∃b,w'.ownsRow 0 e size v c.length b/\∀h i,AG h i size c b
def S9(P:Program)(srt:FuncId->FuncId->TypeId->Nat->List CV->Option (List CV)):Prop:=∀f g e size es b,srt f g e size es=some b->
 hasBody P f=true/\(P.info? e).isSome=true/\mvOf g=none/\SortC P f g e size es b
def XL(P:Program)(E:ah):Prop:=∀f args r,E.fn f args=some r->hasBody P f=true/\CallsTo P E.G f args r
structure Gq (P:Program) (w:World) (M:MM) (z:Cz) (T:List Nat) (H:Nat->Ob):Prop where
 ob:∀id,AV P w M 0 z H id (z.σ id) (H id)
 lo:∀id g,H id≠ .none->blk (z.σ id)=some g->g<w.heap.size/\M g
 apart:∀i j g,i≠j->H i≠ .none->H j≠ .none->blk (z.σ i)=some g->blk (z.σ j)≠some g
 told:∀N,As≤N->bu (H N)=true->z.σ N=C7 N (z.al N)
 only:∀id,H id≠ .none->T.contains id=true
 al:z.al=M.al
def Fn(P:Program)(G:Nat->List CV)(f:FuncId)(T:List Nat)(args:List CV)(H:Nat->Ob)(r:CV)(b:Nat->Ob):Prop:=
 ∀(w:World) (M:MM) (z:Cz) (vs:List Value),(∀g,M g->g<w.heap.size)->GOk G w M->RelL w M args vs->Gq P w M z T H->
  Calls P f ⟨vs⟩ w fun e w'=>∃v z',e=.returned v/\(w'.os=w.os/\w'.tape=w.tape/\w'.output=w.output/\w.heap.size≤w'.heap.size/\∀g,g<w.heap.size->¬own z H g->w'.heap[g]? =w.heap[g]?)/\
   Gq P w' (Ao M z' b) z' T b/\(∀id g,b id≠ .none->blk (z'.σ id)=some g->(H id≠ .none/\blk (z.σ id)=some g)\/w.heap.size≤g)/\z'.al=M.al/\RelC w' (Ao M z' b) r v
def Fo(P:Program)(G:Nat->List CV)(f:FuncId)(T:List Nat)(args:List CV)(H:Nat->Ob)(r:CV)(b:Nat->Ob):Prop:=match mvOf f with
 |none=>Fn P G f T args H r b
 |some g=>∃l c,args=l++ [c]/\Fn P G g T (c::l) H r b
def Rd(P:Program)(E:ah):Prop:=∀f e,E.ef f=some e->hasBody P ((mvOf f).getD f)=true/\∀args H r b,e.fn args H=some (r,b)->Fo P E.G f e.T args H r b
structure aV (P:Program) (E:ah):Prop where
 fn:XL P E
 cp:Od P E.cp
 ef:Rd P E
 srt:S9 P E.srt
theorem aV.at{P:Program}{E:ah}(h:aV P E)(D:Option (List Nat)):aV P (E.at D):=by
 cases D with
 |none=>exact h
 |some D=>exact⟨h.fn,h.cp,(fun f e b=>by cases b),h.srt⟩
theorem aV.named{P:Program}{E:ah}(h:aV P E):aV P E.named:=⟨fun f l r g=>by
 have b:(match E.fn f l with
  |some (.new o)=>if Ey o=true then some (.new o)else none
  |r=>r)=some r:=g
 split at b
 ·rename_i o d;split at b<;>(try cases b;done);cases b;exact h.fn f l _ d
 ·exact h.fn f l _ b,h.cp,(fun f e i=>by
 have c:(match E.ef f with
  |some e=>if(e.T.all fun N=>Nat.ble As N)=true then some e else none
  |none=>none)=some e:=i
 split at c<;>(try cases c;done);split at c<;>(try cases c;done);rename_i k d j;cases c
 exact h.ef f e d),h.srt⟩
section
variable {P:Program} {w w':World} {M M':MM}
mutual
theorem PN(b:M'.al=M.al):∀(c:CV) (v:Value),memless c=true->RelC w M c v->RelC w' M' c v
 | .int _ _,_,_,h=>by unfold RelC at*;exact h
 | .bool _,_,_,h=>by unfold RelC at*;exact h
 | .str _,_,_,h=>by unfold RelC at*;exact h
 | .nilif,_,_,h=>by unfold RelC at*;exact h
 | .nilfn,_,_,h=>by unfold RelC at*;exact h
 | .adr _,_,_,h=>by unfold RelC at*;exact h
 | .nilp,_,_,h=>by unfold RelC at*;exact h
 | .nam _,_,_,h=>by unfold RelC at*;rw[b];exact h
 | .bptr _,_,_,h=>by unfold RelC at*;rw[b];exact h
 | .agg cs,v,hm,h=>by
  unfold RelC at*;obtain⟨vs,e,f⟩:=h;exact⟨vs,e,JV b cs vs (by simpa[memless]using hm) f⟩
 | .tup cs,v,hm,h=>by
  unfold RelC at*;obtain⟨vs,e,f⟩:=h;exact⟨vs,e,JV b cs vs (by simpa[memless]using hm) f⟩
 | .sl _ _,_,hm,_=>by simp[memless]at hm
 | .map _ _ _,_,hm,_=>by simp[memless]at hm
 | .rp _,_,hm,_=>by simp[memless]at hm
 | .wp _,_,hm,_=>by simp[memless]at hm
 | .fn _ _,_,hm,_=>by simp[memless]at hm
 | .ifc,_,hm,_=>by simp[memless]at hm
theorem JV(b:M'.al=M.al):∀(cs:List CV) (vs:List Value),C4 cs=true->RelL w M cs vs->RelL w' M' cs vs
 | [],_,_,h=>by unfold RelL at*;exact h
 |c::cs,vs,hm,h=>by
  unfold RelL at*;obtain⟨v,d,e,i,g⟩:=h;simp only[C4,Ag]at hm;exact⟨v,d,e,PN b c v hm.1 i,JV b cs d hm.2 g⟩
end
theorem V1(d:M'.al=M.al){size:Nat}:∀(cs:List CV) (f:List Value),C4 cs=true->AG w M size cs f->AG w' M' size cs f
 | [],_,_,h=>h
 |c::cs,f,hm,h=>by
  obtain⟨v,b,e,j,i,g⟩:=h;simp only[C4,Ag]at hm;exact⟨v,b,e,j,PN d c v hm.1 i,V1 d cs b hm.2 g⟩
theorem PM:∀(l:List CV),C4 l=true<->∀c∈l,memless c=true
 | []=>by simp[C4]
 |c::l=>by simp[C4,PM l]
theorem V2{l l':List CV}(h:l'.Perm l)(b:C4 l=true):C4 l'=true:=
 (PM l').2 fun c d=>(PM l).1 b c (h.mem_iff.1 d)
theorem XQ(q:M'.al=M.al){B B' id i:Nat}{v:Value}{z z':Cz}{ob d:Nat->Ob}{o:Ob}(C:B'≤B)(x:Ey o=true)(A:∀g,g<w.heap.size->M' g->M g)(j:∀k b,¬z'.β id k b)(h:AV P w M B z ob i v o):AV P w M' B' z' d id v o:=by
 have p:Bg w M w M':=⟨Nat.le_refl _,fun _ _ _=>rfl,A,q⟩;cases o<;>simp[Ey]at x
 ·obtain⟨u,F,D⟩:=h;exact⟨u,F.blk (fun _ _=>rfl) C,AG.keep p D⟩
 ·obtain⟨l,f,c,r,s,t,m,e,N,L,g3,K,J,I,H,_⟩:=h;exact⟨l,f,c,r,s,t,m,e,N,RelL.keep p _ _ L,RelL.keep p _ _ g3,K,J,I,H,fun k b y=>absurd y (j k b)⟩
theorem XR(d:M'.al=M.al){B B' id l:Nat}{v:Value}{z z':Cz}{ob i:Nat->Ob}{o:Ob}(x:B'≤B)(f:(be.new o).memless=true)(m:∀k b,¬z'.β id k b)(h:AV P w M B z ob l v o):AV P w M' B' z' i id v o:=by
 cases o<;>simp[be.memless]at f
 ·obtain⟨t,A,y⟩:=h;exact⟨t,A.blk (fun _ _=>rfl) x,V1 d _ _ f y⟩
 ·obtain⟨p,j,g,r,q,s,c,e,J,I,g3,H,F,D,C,_⟩:=h;exact⟨p,j,g,r,q,s,c,e,J,JV d _ _ (V2 c.ks f.1) I,JV d _ _ (V2 c.vs f.2) g3,H,F,D,C,fun k b u=>absurd u (m k b)⟩
end
section
variable {P:Program} {E:ah} {w0:WL} {M0:MM} {n:Nat} {st:St} {a:Act} {w w':World} {z:Cz}
def bJ(w0:WL)(M0:MM)(z:Cz):MM:=⟨fun g=>M0 g/\∀id,¬w0.L id g,z.al⟩
theorem SR.outerW{G:Nat->List CV}(h:SR P G w0 M0 n st a w z):∀g,M0 g->g<w.heap.size:=fun g b=>Nat.lt_of_lt_of_le (h.outer g b) h.below.size
theorem SR.mutW{G:Nat->List CV}(h:SR P G w0 M0 n st a w z):∀g,Ao M0 z st.ob g->g<w.heap.size:=fun g b=>by
 rcases b with b|⟨id,hl,hb⟩
 ·exact h.outerW g b
 ·exact(h.lo id g hl hb).2
theorem OA{G:Nat->List CV}(h:SR P G w0 M0 n st a w z){rd:Nat->Ob}(p:∀id,rd id=.none\/rd id=st.ob id){s:SV}{v:Value}{c:CV}(y:Aw w (Ao M0 z st.ob) z st.ob s v)(d:Cy rd s=some c):RelC w (bJ w0 M0 z) c v:=by
 have t:Bg w (Ao M0 z st.ob) w (bJ w0 M0 z):=⟨Nat.le_refl _,fun _ _ _=>rfl,fun g _ hg=>.inl hg.1,rfl⟩;have m:∀id g,st.ob id≠ .none->blk (z.σ id)=some g->¬bJ w0 M0 z g:=fun id g hl F Q=>Q.2 id (h.low hl F (h.outer g Q.1));cases s<;>(try simp only[Cy,reduceCtorEq]at d;done)
 ·simp only[Cy,Ac]at d;subst d;exact RelC.keep t _ _ y
 ·rename_i id;obtain⟨i,e⟩:=y;simp only[Cy]at d;rcases p id with e'|e'
  ·rw[e']at d;cases d
  ·rw[e']at d;cases l:st.ob id<;>rw[l]at d<;>(try simp only[reduceCtorEq]at d;done);rename_i et sz es;simp only[Ac]at d;subst d;have O:=h.ob id;rw[l]at O;obtain⟨xs,q,hf⟩:=O;unfold RelC;rcases q.2 with⟨o,K⟩|⟨g,cap,L,ty,fz,o,K,S,_,_,e4,e5,e6,e7⟩
   ·refine⟨none,0,0,by rw[e,o],K.symm,Nat.le_refl _,(fun f=>by cases f),(fun f=>by cases f),fun _=>rfl,fun A=> ?_⟩;exact absurd (List.eq_nil_of_length_eq_zero K) A
   ·refine⟨some ⟨g,0,none⟩,es.length,cap,by rw[e,o],rfl,e4,(fun f=>by cases f),(fun f=>by cases f),(fun f=>by cases f),fun _=>⟨⟨g,0,none⟩,sz,rfl,C2 S,m id g i (by rw[o];rfl), ?_⟩⟩;refine FL fun k el D=> ?_;obtain⟨u,g1,g2,g3⟩:=Gs hf D;refine⟨u,RelC.keep t _ _ g1,g2,fun j V X=> ?_⟩;rw[Eb,cell_of_row w g _ L ty fz S];have x:=g3 j V X;rw[<-e7,List.getElem?_take]at x;split at x
    ·simpa using x
    ·cases x
 ·rename_i id;obtain⟨i,e⟩:=y;simp only[Cy]at d;rcases p id with e'|e'
  ·rw[e']at d;cases d
  ·rw[e']at d;cases l:st.ob id<;>rw[l]at d<;>(try simp only[reduceCtorEq]at d;done);simp only[Ac]at d;subst d;obtain⟨Z,W,U,r,J,N,C,o,f,R,h2,h3,h4,h5,h6,_⟩:=I2 h l;obtain⟨ens',Y,I,H⟩:=Wy C R h2;unfold RelC;refine⟨some r,by rw[e,o],(fun f=>by cases f),(fun f=>by cases f),(fun f=>by cases f),fun b F=> ?_⟩;cases F;exact⟨m id r i (by rw[o];rfl),J,ens',N,f,⟨PX h3 R h4,h5,h6⟩,Y,RelL.keep t _ _ I,RelL.keep t _ _ H⟩
theorem OB{G:Nat->List CV}(h:SR P G w0 M0 n st a w z){rd:Nat->Ob}(e:∀id,rd id=.none\/rd id=st.ob id):∀{f:List Operand} {d:List SO} {l:List CV},Aq Ap f=some d->Aq (fun x=>Cy rd (so G st.fr x)) d=some l->
  RelL w (bJ w0 M0 z) l (f.map a.eval)/\((d.all fun x=>bN (so G st.fr x))=true->RelL w (Ao M0 z st.ob) l (f.map a.eval))
 | [],d,l,h1,h2=>by
  simp only[Aq,Ac]at h1;subst h1;simp only[Aq,Ac]at h2;subst h2;exact⟨RelL.nil,fun _=>RelL.nil⟩
 |x::f,d,l,h1,h2=>by
  simp only[Aq,Ab,Aa]at h1;obtain⟨s,k,r,i,rfl⟩:=h1;simp only[Aq,Ab,Aa]at h2;obtain⟨c,g,cs,j,rfl⟩:=h2;obtain⟨p,o⟩:=OB h e i j;refine⟨RelL.cons (OA h e (h.ctx.opd k) g) p,fun b=> ?_⟩;simp only[List.all_cons,Ag]at b;refine RelL.cons ?_ (o b.2);have m:=h.ctx.opd k;generalize so G st.fr s=q at m g b;cases q<;>simp[bN]at b;simp only[Cy,Ac]at g;subst g;exact m
theorem UJ{G:Nat->List CV}(h:SR P G w0 M0 n st a w z):GOk G w (Ao M0 z st.ob):=h.globW
theorem Acn{G:Nat->List CV}(h:SR P G w0 M0 n st a w z):GOk G w (bJ w0 M0 z):=
 h.globW.keep (Nat.le_refl _) (fun _ _ _=>rfl) fun g _ b=>.inl b.1
theorem Y6(hE:aV P E)(h:SR P E.G w0 M0 n st a w z){d:Option Nat}(hd:∀j,d=some j->j<n){f:FuncId}{l:List CV}{vs:List Value}{r:be}{m:Bool}(H:E.fn f l=some r)
  (J:RelL w (bJ w0 M0 z) l vs) (I:m=false->RelL w (Ao M0 z st.ob) l vs) (t:m=true->r.memless=true) {st':St} (i:E8 st d r=some st'):
  Calls P f ⟨vs⟩ w fun e w'=>∃v,e=.returned v/\∃z',SR P E.G w0 M0 n st' (a.put d v) w' z':=by
 obtain⟨_,F⟩:=hE.fn f l r H
 cases m with
 |true=>
  have D:=t rfl;refine(F w (bJ w0 M0 z) vs (fun g p=>h.outerW g p.1) (Acn h) J).mono fun e w' ⟨v,C,u,s⟩=>⟨v,C, ?_⟩;have p:=h.grow u
  cases r with
  |val c=>
   simp only[E8,Ac]at i;subst i;exact⟨z,p.put hd (PN (by rfl) c v D s)⟩
  |new o=>
   obtain⟨q,x,y⟩:=s;simp only[E8,Bz]at i
   cases d with
   |none=>cases i
   |some d=>
    simp only at i;split at i<;>(try cases i;done);rename_i A;simp only[Ac,Option.getD_some]at i;subst i;refine⟨z.new d v,h.new (hd d rfl) A u x (XR (by rfl) (Nat.zero_le _) D (fun k b q=>by simp[Cz.new]at q) y) ?_⟩;cases o<;>simp[Ey]at q<;>exact⟨F7 (by simp),Dy.symm⟩
 |false=>
  refine(F w (Ao M0 z st.ob) vs h.mutW (UJ h) (I rfl)).mono fun e w' ⟨v,C,u,s⟩=>⟨v,C, ?_⟩;have p:=h.grow u
  cases r with
  |val c=>
   simp only[E8,Ac]at i;subst i;exact⟨z,p.put hd s⟩
  |new o=>
   obtain⟨q,x,y⟩:=s;simp only[E8,Bz]at i
   cases d with
   |none=>cases i
   |some d=>
    simp only at i;split at i<;>(try cases i;done);rename_i A;simp only[Ac,Option.getD_some]at i;subst i;refine⟨z.new d v,h.new (hd d rfl) A u x (XQ (by rfl) (Nat.zero_le _) q (fun g _ p=> ?_) (fun k b q=>by simp[Cz.new]at q) y) ?_⟩
    ·rcases p with p|⟨id,hl,hb'⟩
     ·exact .inl (.inl p)
     ·by_cases ag:id=d
      ·subst ag;rw[Dy]at hb';exact .inr hb'
      ·rw[A8 _ _ ag]at hl;exact .inl (.inr ⟨id,hl,by simpa[Cz.new,ac,ag]using hb'⟩)
    ·cases o<;>simp[Ey]at q<;>exact⟨F7 (by simp),Dy.symm⟩
end
section
variable {P:Program} {E:ah} {w0:WL} {M0:MM} {n:Nat} {st:St} {a:Act} {w w':World} {z:Cz}
theorem U8{w w1:World}{g:Nat}(h:Below w.heap.size w w1)(c:w.heap.size≤g)(o k:Nat):Below w.heap.size w (w1.freeze ⟨g,o,none⟩ k):=by
 unfold World.freeze;split
 ·exact h
 ·refine⟨h.os,h.tape,h.output,by simpa using h.size,fun j b=> ?_⟩;simp only[Array.getElem?_modify];rw[if_neg (by omega)];exact h.block j b
theorem UN{o:Oper}{d:aa}(b:BU P o=some d)(c:d.cls=.grow):∃src dst x,o.op=.convert src dst x/\G0 P src dst x=some d:=by
 unfold BU at b
 split at b<;>rename_i e<;>first
  |(cases b;done)
  |exact⟨_,_,_,e,b⟩
  |(exfalso;have:=Ho b;rw[c]at this;cases this;done)
  |(exfalso
    unfold EJ at b
    (repeat' split at b)<;>try(rcases Fs b with⟨_,_,rfl⟩|⟨_,_,_,_,_,_,_,rfl⟩<;>(cases c;done))
    all_goals simp only[Ab,Aa,Ae,Ac,reduceCtorEq]at b
    all_goals(repeat (first|(subst b;cases c;done)|(obtain⟨_,b⟩:=b)))
    done)
  |(exfalso
    (repeat' split at b)<;>simp only[Ab,Aa,Option.ite_none_left_eq_some,Ae,Ac,Prod.exists,reduceCtorEq]at b
    all_goals(repeat (first|(subst b;cases c;done)|(obtain⟨_,b⟩:=b)))
    done)
theorem Tj{src dst e:TypeId}(k:P.underlying src=some .string)(j:P.underlying dst=some (.slice e))(i:P.underlying e=some (.int .u8))(s:List UInt8):
  ∃cap:Nat,s.length≤cap/\(s.length≤70368744177664->cap≤maxLen)/\(convert src dst (.string ⟨⟨s⟩⟩)).run P w=.ok (.slice (some ⟨w.heap.size,0,none⟩) s.length cap)
    (((w.drew).alloc (.cells (((⟨s⟩:Array UInt8).map fun b=>Value.int .u8 b.toNat)++Array.replicate (cap-s.length) (.int .u8 0)) e)).freeze ⟨w.heap.size,cap,none⟩ 1)/\
   (((w.drew).alloc (.cells (((⟨s⟩:Array UInt8).map fun b=>Value.int .u8 b.toNat)++Array.replicate (cap-s.length) (.int .u8 0)) e)).freeze ⟨w.heap.size,cap,none⟩ 1).heap[w.heap.size]? =some (.cells (((⟨s⟩:Array UInt8).map fun b=>Value.int .u8 b.toNat)++Array.replicate (cap-s.length) (.int .u8 0)) e (cap,cap+1)):=by
 let c:Array Value:=(⟨s⟩:Array UInt8).map fun b=>.int .u8 b.toNat
 have l:(⟨⟨s⟩⟩:ByteArray).size=s.length:=rfl;have g:s.length≤Question.cut (.appendCap s.length 0 e) (w.tape w.drawn (.appendCap s.length 0 e)):=by simp[Question.cut]
 have f:s.length≤70368744177664->Question.cut (.appendCap s.length 0 e) (w.tape w.drawn (.appendCap s.length 0 e))≤maxLen:=fun m=>by
  simp only[Question.cut,maxLen];have:=Nat.mod_lt (w.tape w.drawn (.appendCap s.length 0 e)) (show 0<2^63-s.length by omega);omega
 generalize hq:Question.cut (.appendCap s.length 0 e) (w.tape w.drawn (.appendCap s.length 0 e))=cap at g f;refine⟨cap,g,f, ?_, ?_⟩
 ·have d:(((w.drew).alloc (.cells (c++Array.replicate (cap-s.length) (.int .u8 0)) e)).shape? w.heap.size)=some (e,cap):=by
   have:=FP w.drew (.cells (c++Array.replicate (cap-s.length) (.int .u8 0)) e);have h:w.drew.heap.size=w.heap.size:=rfl;rw[h]at this;simp only[World.shape?,this];simp[c];omega
  simp only[convert,Sem.run_bind,run_underlying k,run_underlying j,Result.andThen_ok,run_underlying i,Conv.stringToBytes,run_choose,l,Question.forced,Ah,if_false,hq,Q1,markStringish,run_shape];have h:({w with drawn:=w.drawn+1}:World)=w.drew:=rfl;rw[h];simp only[c]at d;rw[d];simp only[run_freeze,Result.andThen_ok,Sem.run_pure]
 ·have:=FP w.drew (.cells (c++Array.replicate (cap-s.length) (.int .u8 0)) e);have h:w.drew.heap.size=w.heap.size:=rfl;rw[h]at this;unfold World.freeze;rw[if_neg (by omega)];simp only[Array.getElem?_modify,c]at this⊢;simp only[this,if_true,Option.map_some];rfl
theorem Acq{G:Nat->List CV}(h:SR P G w0 M0 n st a w z){rd:Nat->Ob}{o:Oper}{i:aa}(c:BU P o=some i)(d:i.cls=.grow){sv:SV}(l:An rd (so G st.fr) i=some sv):
  ∃v w',(execOp a.eval o).run P w=.ok (.value v) w'/\Below w.heap.size w w'/\Aw w' (Ao M0 z st.ob) z st.ob sv v:=by
 obtain⟨src,dst,x,K,c⟩:=UN c d;unfold G0 at c;split at c<;>(try cases c;done)
 ·simp only[Aa]at c;obtain⟨_,_,rfl⟩:=c;cases d
 ·simp only[Aa]at c;obtain⟨_,_,rfl⟩:=c;cases d
 ·simp only[Aa]at c;obtain⟨_,_,rfl⟩:=c;cases d
 ·rename_i e C A;split at c<;>(try cases c;done);rename_i y;simp only[Aa]at c;obtain⟨sx,J,rfl⟩:=c;have I:=h.ctx.opd J;simp only[An]at l;generalize so G st.fr sx=q at I l;split at l<;>(try cases l;done);rename_i s;simp only[Ae,Ac]at l;obtain⟨N,rfl⟩:=l;have S:=Dl (w:=w) (M:=Ao M0 z st.ob) I;let f:Array Value:=(⟨s⟩:Array UInt8).map fun b=>.int .u8 b.toNat
  obtain⟨cap,r,_,run,g⟩:=Tj (P:=P) (w:=w) C A y s;rw[<-S]at run;have H:Below w.heap.size w ((w.drew).alloc (.cells (f++Array.replicate (cap-s.length) (.int .u8 0)) e)):=((Below.refl _ w).drew).alloc (Nat.le_refl _) _;have R:=U8 H (Nat.le_refl w.heap.size) cap 1;refine⟨.slice (some ⟨w.heap.size,0,none⟩) s.length cap,_,by simp only[execOp,K,Sem.run_bind,run,Result.andThen_ok,Sem.run_pure];rfl,R, ?_⟩;show RelC _ _ _ _;unfold RelC;refine⟨some ⟨w.heap.size,0,none⟩,s.length,cap,rfl,by simp,r,(fun m=>by cases m),(fun _ m=>by cases m),(fun m=>by cases m),fun _=>⟨⟨w.heap.size,0,none⟩,1,rfl, ?_,fun L=> ?_,FL fun k U p=> ?_⟩⟩
  ·have:w.drew.heap.size=w.heap.size:=rfl;simp[World.freeze,this]
  ·have:=h.mutW _ L;simp at this
  ·rw[List.getElem?_map,Aa]at p;obtain⟨b,t,rfl⟩:=p;refine⟨.int .u8 b.toNat,Ep,rfl,fun j u F=> ?_⟩;have O:=(Af.1 t).1
   have Q:j=0:=by
    have:=(Array.getElem?_eq_some_iff.1 F).1;simp[Value.cells]at this;exact this
   subst Q;simp only[Value.cells]at F;have D:Value.int .u8 b.toNat=u:=by simpa using F
   subst D;rw[Eb];rw[cell_of_row _ _ _ _ _ _ g];have:0+((0+k)*1+0)=k:=by omega
   rw[this,Array.getElem?_append_left (by simp[f];exact O)];simp[f,t]
 ·split at c<;>(try cases c;done);simp only[Aa]at c;obtain⟨_,_,rfl⟩:=c;cases d
theorem W9{w:World}{M:MM}:∀(s:List UInt8),AG w M 1 (s.map fun b=>CV.int .u8 b.toNat) (s.map fun b=>Value.int .u8 b.toNat)
 | []=>rfl
 |b::s=>⟨.int .u8 b.toNat,s.map fun b=>Value.int .u8 b.toNat,rfl,rfl,Ep,W9 s⟩
theorem Ad9{G:Nat->List CV}(h:SR P G w0 M0 n st a w z){o:Oper}{e C:Nat}{x:SO}(c:BU P o=some (.bytes e x))(u:P.info? C=none){d:Nat}{sv:SV}{ob:Ob}(j:Bl (so G st.fr) d (.nbytes C x)=some (sv,ob))(hd:d<n)(I:st.ob d=.none):
  IW P G w0 M0 n st a w o d sv ob:=by
 obtain⟨src,dst,D,H,c⟩:=UN c rfl;unfold G0 at c;split at c<;>(try cases c;done)
 ·simp only[Aa]at c;obtain⟨_,_,f⟩:=c;cases f
 ·simp only[Aa]at c;obtain⟨_,_,f⟩:=c;cases f
 ·simp only[Aa]at c;obtain⟨_,_,f⟩:=c;cases f
 ·rename_i O r p;split at c<;>(try cases c;done);rename_i m;simp only[Aa]at c;obtain⟨sx,F,f⟩:=c;cases f;have y:=h.ctx.opd F;simp only[Bl]at j;generalize so G st.fr x=q at y j;split at j<;>(try cases j;done);rename_i s;simp only[Ae,Ac,Prod.mk.injEq]at j;obtain⟨t,rfl,rfl⟩:=j;have K:=Dl (w:=w) (M:=Ao M0 z st.ob) y;obtain⟨cap,l,k,run,i⟩:=Tj (P:=P) (w:=w) r p m s;rw[<-K]at run;have v:Below w.heap.size w ((w.drew).alloc (.cells (((⟨s⟩:Array UInt8).map fun b=>Value.int .u8 b.toNat)++Array.replicate (cap-s.length) (.int .u8 0)) e)):=((Below.refl _ w).drew).alloc (Nat.le_refl _) _;have J:=U8 v (Nat.le_refl w.heap.size) cap 1;refine H3 h hd I (s:=convert src dst (a.eval D)) (by simp only[execOp,H]) run J (fun g A=> ?_) fun N L=>⟨⟨s.map fun b=>.int .u8 b.toNat,⟨by simp,.inr ⟨w.heap.size,cap,_,e,(cap,cap+1),by simp,Nat.zero_le _,i,fun hi=>by simp[u]at hi,.inr (by simp),by simpa using l, ?_, ?_, ?_⟩⟩,W9 s⟩,F7 (by simp),Dy.symm⟩
  ·simp only[blk,Ac]at A;subst A;have:w.drew.heap.size=w.heap.size:=rfl;exact⟨Nat.le_refl _,by simp[World.freeze,this]⟩
  ·exact k t
  ·simp;omega
  ·simp[List.take_append]
 ·split at c<;>(try cases c;done);simp only[Aa]at c;obtain⟨_,_,f⟩:=c;cases f
theorem Adx{G:Nat->List CV}(h:SR P G w0 M0 n st a w z){rd:Nat->Ob}{o:Oper}{e s:Nat}{H:List SO}(b:BU P o=some (.mksl e s H)){sv:SV}(I:An rd (so G st.fr) (.lsl e s H)=some sv):
  ∃v w',(execOp a.eval o).run P w=.ok (.value v) w'/\Below w.heap.size w w'/\Aw w' (Ao M0 z st.ob) z st.ob sv v:=by
 have V:∃t len parts,o.op=.buildSlice t len parts:=by
  unfold BU at b
  split at b<;>rename_i p<;>first
   |(cases b;done)
   |exact⟨_,_,_,p⟩
   |(exfalso;have:=Ho b;cases this;done)
   |(exfalso;have:=Ib b;rcases this with m|m<;>cases m;done)
   |(exfalso
     unfold EJ at b
     (repeat' split at b)<;>try(rcases Fs b with⟨_,_,m⟩|⟨_,_,_,_,_,_,_,m⟩<;>(cases m;done))
     all_goals simp only[Ab,Aa,Ae,Ac,reduceCtorEq,and_false,exists_false,false_and]at b
     done)
   |(exfalso
     (repeat' split at b)<;>simp only[Ab,Aa,Option.ite_none_left_eq_some,Ae,Ac,Prod.exists,reduceCtorEq,and_false,exists_false,false_and]at b
     done)
 obtain⟨t,len,parts,p⟩:=V;unfold BU at b;rw[p]at b;simp only at b;split at b<;>(try cases b;done);rename_i e' N;simp only[Ab,Ae,Ac,aa.mksl.injEq]at b;obtain⟨i,hi,vz,L,zc,q,J,r,⟨f,X,C,D⟩,rfl,rfl,rfl⟩:=b;simp only[An,Ab,Ae,Ac]at I;obtain⟨l,Q,c,rfl⟩:=I;obtain⟨vs,d,y,run⟩:=V6 h N hi L q r f X C D Q c;have U:execOp a.eval o=(do pure (.value (<-Instr.buildSlice t len (parts.map fun(i,x)=>(i,a.eval x)))):Sem Next):=by simp only[execOp,p]
 refine⟨_,_,by rw[U];simp[run];exact⟨rfl,rfl⟩,Gv _ _, ?_⟩;have S:=La d c;have R:Bg w (Ao M0 z st.ob) (w.alloc (.cells ⟨vs.flatMap fun v=>v.cells.toList⟩ e')) (Ao M0 z st.ob):=keeps_below (Gv _ _);show RelC _ _ _ _;unfold RelC;refine⟨some ⟨w.heap.size,0,none⟩,len,len,rfl,by rw[<-y,d.length],Nat.le_refl _,(fun g=>by cases g),(fun g=>by cases g),(fun g=>by cases g),fun _=>⟨⟨w.heap.size,0,none⟩,i.size,rfl,by simp,fun O=> ?_,FL fun k el F=> ?_⟩⟩
 ·have:=h.mutW _ O;simp at this
 ·obtain⟨u,Z,Y,g3⟩:=Gs S F;refine⟨u,RelC.keep R _ _ Z,Y,fun j K A=> ?_⟩;rw[Eb,cell_of_row _ _ _ _ _ _ (FP _ _)];have W:=g3 j K A;simpa using W
theorem Y8{G:Nat->List CV}(h:SR P G w0 M0 n st a w z){rd:Nat->Ob}{o:Oper}{e s b:Nat}{x y:SO}(f:BU P o=some (.append e s b x y)){sv:SV}(F:An rd (so G st.fr) (.capp e s b x y)=some sv):
  ∃v w',(execOp a.eval o).run P w=.ok (.value v) w'/\Below w.heap.size w w'/\Aw w' (Ao M0 z st.ob) z st.ob sv v:=by
 have hb:∃c,o.op=.call c/\EJ P c=some (.append e s b x y):=by
  unfold BU at f
  split at f<;>rename_i ho<;>first
   |(cases f;done)
   |exact⟨_,ho,f⟩
   |(exfalso;have:=Ho f;cases this;done)
   |(exfalso;have:=Ib f;rcases this with h'|h'<;>cases h';done)
   |(exfalso
     (repeat' split at f)<;>simp only[Ab,Aa,Option.ite_none_left_eq_some,Ae,Ac,Prod.exists,reduceCtorEq,and_false,exists_false,false_and]at f
     done)
 obtain⟨c,ho,f⟩:=hb;obtain⟨callee,args,argTypes⟩:=c
 have X:callee=.builtin .append/\∃R y' t e' i Q,args.toList= [R,y']/\argTypes.toList= [t,t]/\P.underlying t=some (.slice e')/\P.info? e'=some i/\i.zero=some Q/\Ap R=some x/\Ap y'=some y/\0<i.size/\Q.cells.size=i.size/\e=e'/\s=i.size/\b=i.bytes:=by
  unfold EJ at f;split at f<;>(try cases f;done)
  all_goals first
   |(rename_i C
     simp only at C;subst C;split at f<;>(try cases f;done);rename_i R y' t u g p
     split at f<;>(try cases f;done);rename_i e' _ hu _;simp only[Ab,Ae,Ac]at f;obtain⟨i,hi,Q,hz,sx,hsx,sy,hsy,⟨rfl,h0,D⟩,d⟩:=f;cases d
     exact⟨rfl,_,_,_,_,_,_,g,p,hu,hi,hz,hsx,hsy,h0,D,rfl,rfl,rfl⟩)
   |(exfalso
     (repeat' split at f)<;>try(rcases Fs f with⟨_,_,h'⟩|⟨_,_,_,_,_,_,_,h'⟩<;>(cases h';done))
     all_goals simp only[Ab,Aa,Ae,Ac,reduceCtorEq,and_false,exists_false,false_and]at f
     done)
 obtain⟨rfl,R,y',t,e',i,Q,g,p,ht,hi,hz,hx,hy,hsz,D,rfl,rfl,rfl⟩:=X;have hr:=h.ctx.opd hx;have U:=h.ctx.opd hy;simp only[An]at F;generalize so G st.fr x=q at hr F;generalize so G st.fr y=q2 at U F;split at F<;>(try cases F;done);rename_i es0 nl2 es;simp only[Ae,Ac,Ag]at F;obtain⟨⟨⟨Y,V⟩,hb1,X⟩,rfl⟩:=F;obtain⟨A,c,xs2,e1,K,hA,m⟩:=PS h U (news:=es) rfl Y;have S:=GY K;have I:=Lb K V;unfold Aw RelC at hr;obtain⟨A',len,c',e2,e3,_,e4,_,e5,e6⟩:=hr;have hA':=e4 rfl;subst hA'
 have hes:es0= []:=by
  cases es0 with
  |nil=>rfl
  |cons e es=>obtain⟨ad,size,d,_⟩:=e6 (by simp);cases d
 subst hes;have hc0:=e5 rfl;subst hc0;subst e3;have H:w.ownsRow 0 e i.size (.slice none 0 0) 0 []:=⟨by simp,.inl ⟨rfl,rfl⟩⟩;obtain⟨v',w',r,h2,Z,N⟩:=Qy (P:=P) 0 t o.type e i Q ht hi hz D hsz (.slice none 0 0) 0 [] H A es.length c xs2 S (fun d=>by simp[hA d]) m I (by unfold maxLen;omega) (by simpa using hb1) (Nat.zero_le _);have W:Below w.heap.size w w':=⟨Z.os,Z.tape,Z.output,Z.size,fun k hk=>Z.block k hk (by simp[blk])⟩;have hk:Bg w (Ao M0 z st.ob) w' (Ao M0 z st.ob):=keeps_below W;refine⟨v',w', ?_,W, ?_⟩
 ·obtain⟨al⟩:=args;obtain⟨tl⟩:=argTypes;simp only at g p
  subst g;subst p
  have e2':a.eval R=.slice none 0 0:=e2;rw[<-e2',<-e1]at r;simp[execOp,ho,resolve,invoke,builtin,r]
 ·have hf:=AG.keep hk K;have l:=DC.of (P:=P) h2;simp only[Nat.zero_add,List.nil_append]at l;show RelC _ _ _ _;unfold RelC;rcases Nat.eq_zero_or_pos es.length with h0|h0
  ·have:es= []:=List.eq_nil_of_length_eq_zero h0;subst this;rcases l.2 with⟨O,_⟩|⟨g',cap,cur,ty,fz,O,_⟩
   ·exact⟨none,0,0,O,rfl,Nat.le_refl _,(fun d=>by cases d),(fun d=>by cases d),(fun _=>rfl),fun d=>absurd rfl d⟩
   ·exact⟨some ⟨g',0,none⟩,0,cap,by simpa using O,rfl,Nat.zero_le _,(fun d=>by cases d),(fun d=>by cases d),(fun d=>by cases d),fun d=>absurd rfl d⟩
  ·rcases l.2 with⟨_,e8⟩|⟨g',cap,cur,ty,fz,O,_,J,_,_,e8,_⟩
   ·omega
   ·obtain⟨g2,cap2,cur2,e9,_,L⟩:=MK l h0
    have hg:w.heap.size≤g2:=by
     rcases N with N|N
     ·rw[e9]at N;cases N
     ·rw[e9]at N;simp only[blk,Ac]at N;omega
    rw[O]at e9;simp only[Value.slice.injEq,Ac,Addr.mk.injEq,and_true,true_and]at e9;obtain⟨rfl,rfl⟩:=e9;refine⟨some ⟨g',0,none⟩,es.length,cap,O,rfl,e8,(fun d=>by cases d),(fun d=>by cases d),(fun d=>by cases d),fun _=>⟨⟨g',0,none⟩,i.size,rfl, ?_,fun hm=> ?_,FL fun k el hel=> ?_⟩⟩
    ·exact C2 J
    ·have:=h.mutW _ hm;simp only at this;omega
    ·obtain⟨u,g1,g2,g3⟩:=Gs hf hel;refine⟨u,g1,g2,fun j u' hu'=> ?_⟩;rw[Eb];have h8:=g3 j u' hu';have:=L _ _ h8;simpa using this
end
section
variable {P:Program} {w:World} {M:MM} {z:Cz} {ob:Nat->Ob} {T:List Nat}
theorem EV{id:Nat}:CH T ob id≠ .none<->T.contains id=true/\ob id≠ .none:=by
 unfold CH
 cases h:T.contains id with
 |false=>simp
 |true=>simp only[if_true,true_and];cases ob id<;>simp[LJ]
theorem Aw.cut{s:SV}{v:Value}(h:Aw w M z ob s v):Aw w M z (CH T ob) (Hp T s) v:=by
 unfold Hp
 cases s<;>simp only[SV.ref]<;>first
  |exact h
  |trivial
  |(split
    ·rename_i hT;exact⟨EV.2 ⟨hT,h.1⟩,h.2⟩
    ·trivial)
theorem A3.cut:∀{cs:List SV} {vs:List Value},A3 w M z ob cs vs->A3 w M z (CH T ob) (cs.map (Hp T)) vs
 | [],_,h=>h
 |c::cs,vs,h=>by
  obtain⟨v,b,e,f,d⟩:=h;exact⟨v,b,e,Aw.cut f,A3.cut d⟩
theorem AV.cut{B id:Nat}{v:Value}:∀{o:Ob},AV P w M B z ob id v o->AV P w M B z (CH T ob) id v (LJ T o)
 | .none,_=>trivial
 | .box cs bt,h=>by
  obtain⟨g,ty,vs,e,c,b⟩:=h;exact⟨g,ty,vs,e,c,A3.cut b⟩
 | .arr _ _ _,h=>h
 | .map _ _ _ _ _,h=>h
 | .siter _ _,h=>h
 | .miter _ _ _,h=>h
 | .buf _ _,h=>h
end
section
variable {P:Program} {E:ah} {w0:WL} {M0:MM} {n:Nat} {st:St} {a:Act} {w w':World} {z:Cz}
theorem VX{T:List Nat}{g:Nat}(h:own z (CH T st.ob) g):own z st.ob g:=by
 obtain⟨id,c,b⟩:=h;exact⟨id,(EV.1 c).2,b⟩
theorem Aeh(T:List Nat)(o:Ob):bu (LJ T o)=bu o:=by cases o<;>rfl
theorem SR.lies{G:Nat->List CV}(h:SR P G w0 M0 n st a w z)(T:List Nat):Gq P w (Ao M0 z st.ob) z T (CH T st.ob) where
 ob:=fun id=>by
  have:=AV.cut (T:=T) (h.ob id);show AV P w _ 0 z _ id _ (CH T st.ob id);unfold CH;split
  ·exact this
  ·trivial
 lo:=fun id g b d=>⟨(h.lo id g (EV.1 b).2 d).2,.inr ⟨id,(EV.1 b).2,d⟩⟩
 apart:=fun i j g e b d=>h.apart i j g e (EV.1 b).2 (EV.1 d).2
 told:=fun N f c=>by
  unfold CH at c;split at c
  ·rw[Aeh]at c;exact h.nam.told N f c
  ·cases c
 only:=fun id b=>(EV.1 b).1
 al:=rfl
theorem SR.turned{G:Nat->List CV}(h:SR P G w0 M0 n st a w z){T:List Nat}{m:Nat->Ob}{z':Cz}(Y:w'.os=w.os)(ht:w'.tape=w.tape)(hop:w'.output=w.output)(R:w.heap.size≤w'.heap.size)
  (U:∀g,g<w.heap.size->¬own z (CH T st.ob) g->w'.heap[g]? =w.heap[g]?) (C:Gq P w' (Ao (Ao M0 z st.ob) z' m) z' T m)
  (H:∀id g,m id≠ .none->blk (z'.σ id)=some g->(CH T st.ob id≠ .none/\blk (z.σ id)=some g)\/w.heap.size≤g) (hal:z'.al=z.al):
  ∃t,SR P G w0 M0 n (C9 T m st) a w' t/\∀{c:CV} {v:Value},RelC w' (Ao (Ao M0 z st.ob) z' m) c v->RelC w' (Ao M0 t (C9 T m st).ob) c v:=by
 let t:Cz:={σ:=fun id=>if T.contains id=true then z'.σ id else z.σ id,β:=fun id=>if T.contains id=true then z'.β id else z.β id,al:=z.al};have o:∀id,T.contains id=true->t.σ id=z'.σ id:=fun id hT=>by show(if _ then _ else _)=_;rw[if_pos hT]
 have p:∀id,¬T.contains id=true->t.σ id=z.σ id:=fun id hT=>by show(if _ then _ else _)=_;rw[if_neg hT]
 have W:∀id,¬T.contains id=true->t.β id=z.β id:=fun id hT=>by show(if _ then _ else _)=_;rw[if_neg hT]
 have V:∀id,T.contains id=true->t.β id=z'.β id:=fun id hT=>by show(if _ then _ else _)=_;rw[if_pos hT]
 have q:∀id,T.contains id=true->(C9 T m st).ob id=m id:=fun id hT=>by show(if _ then _ else _)=_;rw[if_pos hT]
 have Q:∀id,¬T.contains id=true->(C9 T m st).ob id=Ch T (st.ob id):=fun id hT=>by show(if _ then _ else _)=_;rw[if_neg hT]
 have f:∀id,¬T.contains id=true->((C9 T m st).ob id≠ .none<->st.ob id≠ .none):=fun id hT=>by rw[Q id hT];exact not_congr Vc
 have A:∀g,Ao M0 t (C9 T m st).ob g->Ao (Ao M0 z st.ob) z' m g:=fun g x=>by
  rcases x with x|⟨id,d,l⟩
  ·exact .inl (.inl x)
  ·by_cases hT:T.contains id=true
   ·rw[q id hT]at d;rw[o id hT]at l;exact .inr ⟨id,d,l⟩
   ·rw[p id hT]at l;exact .inl (.inr ⟨id,(f id hT).1 d,l⟩)
 have I:∀g,g<w.heap.size->Ao M0 t (C9 T m st).ob g->Ao M0 z st.ob g:=fun g Z x=>by
  rcases A g x with x|⟨id,d,l⟩
  ·exact x
  ·rcases H id g d l with⟨u,y⟩|u
   ·exact .inr ⟨id,(EV.1 u).2,y⟩
   ·omega
 have S:Bg w (Ao M0 z st.ob) w' (Ao M0 t (C9 T m st).ob):=⟨R,fun g Z hm=>U g Z fun Y=>hm (.inr (VX Y)),I,rfl⟩;have hk':Bg w' (Ao (Ao M0 z st.ob) z' m) w' (Ao M0 t (C9 T m st).ob):=⟨Nat.le_refl _,fun _ _ _=>rfl,fun g _ x=>A g x,hal.symm⟩
 have hs:∀{s:SV} {v:Value},Aw w (Ao M0 z st.ob) z st.ob s v->Aw w' (Ao M0 t (C9 T m st).ob) t (C9 T m st).ob (Ay T s) v:=by
  intro s v hv
  cases hr:s.ref with
  |none=>
   cases s<;>simp[SV.ref]at hr
   ·exact RelC.keep S _ _ hv
   ·trivial
  |some i=>
   by_cases hi:T.contains i=true
   ·have:Ay T s=.undef:=by cases s<;>simp_all[SV.ref,Ay]
    rw[this];trivial
   ·have e:Ay T s=s:=by cases s<;>simp_all[SV.ref,Ay]
    rw[e];refine Aw.keep S ⟨fun j r d=> ?_,fun j r d=> ?_,fun j r d k b U=> ?_⟩ hv;all_goals(rw[hr]at r;cases r)
    ·exact(f i hi).2 d
    ·exact p i hi
    ·rw[W i hi];exact U
 have hss:∀(cs:List SV) vs,A3 w (Ao M0 z st.ob) z st.ob cs vs->A3 w' (Ao M0 t (C9 T m st).ob) t (C9 T m st).ob (cs.map (Ay T)) vs:=by
  intro cs
  induction cs with
  |nil=>intro vs K;exact K
  |cons c cs ih=>
   intro vs K;obtain⟨v,X,e,d,l⟩:=K;exact⟨v,X,e,hs d,ih X l⟩
 have O:∀id g,¬T.contains id=true->st.ob id≠ .none->blk (z.σ id)=some g->w'.heap[g]? =w.heap[g]? :=fun id g hT hl x=>by
  refine U g (h.lo id g hl x).2 fun⟨i,d,l⟩=> ?_;have:=EV.1 d;exact h.apart i id g (fun e=>hT (e▸this.1)) this.2 hl l x
 refine⟨t,⟨h.size,h.defers,⟨Y.trans h.below.os,ht.trans h.below.tape,hop.trans h.below.output,Nat.le_trans h.below.size R,fun k S C=> ?_⟩,h.outer, ?_,h.glob,fun i=>hs (h.fr i),fun id=> ?_,fun id g d l=> ?_,fun i j g J d l u y=> ?_⟩,fun L=>RelC.keep hk' _ _ L⟩
 ·rw[U k (Nat.lt_of_lt_of_le S h.below.size) fun Y=> ?_]
  ·exact h.below.block k S C
  ·obtain⟨id,d,l⟩:=VX Y;exact C id (h.low d l S)
 ·refine⟨h.nam.lent,fun N hN L=> ?_,h.nam.names,h.nam.low⟩;by_cases hT:T.contains N=true
  ·rw[q N hT]at L;rw[o N hT,C.told N hN L,hal]
  ·rw[Q N hT,PV]at L;rw[p N hT];exact h.nam.told N hN L
 ·by_cases hT:T.contains id=true
  ·rw[q id hT,o id hT];refine AV.keep hk' (fun _ _=>rfl) (fun cs _ s _=>⟨fun j r d=> ?_,fun j r d=> ?_,fun j r d k b U=> ?_⟩) (fun k b K=>by rw[V id hT]at K;exact K) (C.ob id)
   ·rw[q j (C.only j d)];exact d
   ·exact o j (C.only j d)
   ·rw[V j (C.only j d)];exact U
  ·rw[Q id hT,p id hT];have D:=h.ob id
   cases F:st.ob id with
   |none=>trivial
   |box cs=>
    rw[F]at D;obtain⟨g,ty,vs,e1,e2,e3⟩:=D;exact⟨g,ty,vs,e1,(O id g hT (by rw[F];simp) (by rw[e1];rfl)).trans e2,hss cs vs e3⟩
   |_=>
    rw[F]at D;exact AV.keep S (fun g x=>O id g hT (by rw[F];simp) x) (fun cs L=>by cases L) (fun k b K=>by rw[W id hT]at K;exact K) D
 ·by_cases hT:T.contains id=true
  ·rw[q id hT]at d;rw[o id hT]at l;refine⟨?_,(C.lo id g d l).1⟩;rcases H id g d l with⟨u,y⟩|u
   ·exact(h.lo id g (EV.1 u).2 y).1
   ·exact .inl (Nat.le_trans h.below.size u)
  ·rw[p id hT]at l;have:=h.lo id g ((f id hT).1 d) l;exact⟨this.1,Nat.lt_of_lt_of_le this.2 R⟩
 ·by_cases hi:T.contains i=true
  ·by_cases r:T.contains j=true
   ·rw[q i hi]at d;rw[q j r]at l;rw[o i hi]at u;rw[o j r]at y;exact C.apart i j g J d l u y
   ·rw[q i hi]at d;rw[o i hi]at u;rw[p j r]at y;have hl2:=(f j r).1 l;rcases H i g d u with⟨h5,h6⟩|h5
    ·exact h.apart i j g J (EV.1 h5).2 hl2 h6 y
    ·have:=(h.lo j g hl2 y).2;omega
  ·by_cases r:T.contains j=true
   ·rw[p i hi]at u;rw[q j r]at l;rw[o j r]at y;have hl1:=(f i hi).1 d;rcases H j g l y with⟨h5,h6⟩|h5
    ·exact h.apart i j g J hl1 (EV.1 h5).2 u h6
    ·have:=(h.lo i g hl1 u).2;omega
   ·rw[p i hi]at u;rw[p j r]at y;exact h.apart i j g J ((f i hi).1 d) ((f j r).1 l) u y
theorem Z2(hE:aV P E)(h:SR P E.G w0 M0 n st a w z){d:Option Nat}(hd:∀j,d=some j->j<n){f:FuncId}{e:bF}{l:List CV}{vs:List Value}(m:RelL w (Ao M0 z st.ob) l vs){r:CV}{i:Nat->Ob}(q:Fn P E.G f e.T l (CH e.T st.ob) r i):
  Calls P f ⟨vs⟩ w fun g w'=>∃v,g=.returned v/\∃z',SR P E.G w0 M0 n ((C9 e.T i st).set d (.c r)) (a.put d v) w' z':=by
 refine(q w (Ao M0 z st.ob) z vs h.mutW (UJ h) m (h.lies e.T)).mono fun g w' ⟨v,z',b,⟨F,D,C,A,y⟩,x,u,t,s⟩=> ?_;obtain⟨k,p,o⟩:=h.turned F D C A y x u t;exact⟨v,b,k,p.put hd (o s)⟩
theorem L7{G:Nat->List CV}(h:SR P G w0 M0 n st a w z):∀{d:List Operand} {b:List SO} {l:List CV},Aq Ap d=some b->Aq (fun x=>closed (so G st.fr x)) b=some l->RelL w (Ao M0 z st.ob) l (d.map a.eval)
 | [],b,l,h1,h2=>by
  simp only[Aq,Ac]at h1;subst h1;simp only[Aq,Ac]at h2;subst h2;exact RelL.nil
 |x::d,b,l,h1,h2=>by
  simp only[Aq,Ab,Aa]at h1;obtain⟨s,j,k,e,rfl⟩:=h1;simp only[Aq,Ab,Aa]at h2;obtain⟨c,g,cs,f,rfl⟩:=h2;refine RelL.cons ?_ (L7 h e f);have i:=h.ctx.opd j;generalize so G st.fr s=q at i g;cases q<;>(try cases g;done);cases g;exact i
end
end WB
