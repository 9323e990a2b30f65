/-
  Own texts. No condition of their own.
-/
import Derived.Test.YtefbaepigpomaaaGreatDoorK1
import Derived.Laws.BytesArg
import Derived.Maps.RangeRun
import Derived.Maps.AppendAt
import Derived.Laws.CopyRow
set_option linter.unusedVariables false
set_option linter.unusedSimpArgs false
open Go.IntKind (i64 u64 u8 u32)
namespace WB
open Go Go.RowKit
section
variable {G:Nat->List CV} {P:Program} {w:World} {M:MM} {B:Nat} {z:Cz} {ob rd:Nat->Ob} {fr:Nat->SV} {a:Act}
theorem Dm{o:Oper}{s:Sem Value}{sv:SV}(b:execOp a.eval o=(do pure (.value (<-s)):Sem Next))(h:∃v,s.run P w=.ok v w/\AA w M z ob sv v):Yes P w M z ob a o sv:=by
 obtain⟨v,d,c⟩:=h;exact⟨v,by rw[b];simp[d],c⟩
theorem Zx{op:BinOp}{x y:CV}{c:CV}(h:EV op x y=some c):(∃k n,x=.int k n)\/(∃s,x=.str s):=by
 cases x<;>(try simp only[EV,reduceCtorEq]at h;done)
 ·exact .inl ⟨_,_,rfl⟩
 ·exact .inr ⟨_,rfl⟩
theorem Oq(h:aC P G w M B z ob fr a){op:BinOp}{t:TypeId}{x y:Operand}{sx g:SO}(l:A4 x=some sx)(j:A4 y=some g){sv:SV}(b:A2 rd (so G fr) (.bin op sx g)=some sv):
  ∃v,(do eqGuard op t x y (a.eval x) (a.eval y);binOp op t (a.eval x) (a.eval y):Sem Value).run P w=.ok v w/\AA w M z ob sv v:=by
 have f:=h.opd l;have e:=h.opd j;simp only[A2]at b;generalize so G fr sx=q at f b;generalize so G fr g=q2 at e b;split at b
 ·rename_i u r;simp only[Aa]at b;obtain⟨c,i,rfl⟩:=b;obtain⟨v,p,o⟩:=Ahq (P:=P) (t:=t) f e i;refine⟨v, ?_,o⟩
  have m:(eqGuard op t x y (a.eval x) (a.eval y)).run P w=.ok () w:=by
   rcases Zx i with⟨k,n,rfl⟩|⟨s,rfl⟩
   ·rw[Cw (w:=w) (M:=M) f];exact II op t x y ⟨(fun _ d=>by cases d),(fun d=>by cases d)⟩
   ·rw[Dy (w:=w) (M:=M) f];exact II op t x y ⟨(fun _ d=>by cases d),(fun d=>by cases d)⟩
  simp[m,p]
 ·cases b
theorem Akk(h:aC P G w M B z ob fr a){op:BinOp}(e:op=.eql\/op=.neq){t:TypeId}(p:P.underlying t=some .bool){x y:Operand}{sx d:SO}(o:A4 x=some sx)(m:A4 y=some d){sv:SV}(b:A2 rd (so G fr) (.beq (DM op) sx d)=some sv):
  ∃v,(do eqGuard op t x y (a.eval x) (a.eval y);binOp op t (a.eval x) (a.eval y):Sem Value).run P w=.ok v w/\AA w M z ob sv v:=by
 have g:=h.opd o;have c:=h.opd m;simp only[A2]at b;generalize so G fr sx=q at g b;generalize so G fr d=q2 at c b;split at b
 ·rename_i l k;simp only[Ac]at b;subst b;rw[Ee (w:=w) (M:=M) g,Ee (w:=w) (M:=M) c];have i:=II (P:=P) (w:=w) op t x y (va:=.bool l) (vb:=.bool k) ⟨(fun _ f=>by cases f),(fun f=>by cases f)⟩;have j:=Ahp (w:=w) p l k;refine⟨_, ?_,EI (w:=w) (M:=M)⟩;rcases e with rfl|rfl
  ·simp[i,j.1,DM]
  ·simp[i,j.2,DM]
 ·cases b
theorem Akp(h:aC P G w M B z ob fr a){op:BinOp}(g:op=.eql\/op=.neq){t:TypeId}{m:Array Field}(u:P.underlying t=some (.struct m))(C:P.stoodInHeld t=false)(A:P.eqGuardType P.depth t=false)
  {i:List KT} (D:Fu P 0 m.toList=some i) {x y:Operand} {sx e:SO} (s:A4 x=some sx) (p:A4 y=some e) {sv:SV} (b:A2 rd (so G fr) (.eqs (DM op) i sx e)=some sv):
  ∃v,(do eqGuard op t x y (a.eval x) (a.eval y);binOp op t (a.eval x) (a.eval y):Sem Value).run P w=.ok v w/\AA w M z ob sv v:=by
 have j:=h.opd s;have c:=h.opd p;simp only[A2]at b;generalize so G fr sx=q at j b;generalize so G fr e=q2 at c b;split at b
 ·rename_i J I;simp only[Aa]at b;obtain⟨r,f,rfl⟩:=b;obtain⟨⟨xs,H⟩,⟨o,F⟩,l⟩:=XJ (w:=w) (M:=M) u C D j c f;rw[H,F]at l⊢;have k:=run_eqGuard_agg (P:=P) w op t x y xs o A;have d:=l 9998;refine⟨_, ?_,EI (w:=w) (M:=M)⟩;rcases g with rfl|rfl
  ·simp[k,run_eql_struct,d,DM]
  ·simp[k,run_neq_struct,d,DM]
 ·cases b
theorem Ak4(h:aC P G w M B z ob fr a){op:UnOp}{x:Operand}{sx:SO}(e:A4 x=some sx){sv:SV}(b:A2 rd (so G fr) (.un op sx)=some sv):
  ∃v,(Op.unary op (a.eval x)).run P w=.ok v w/\AA w M z ob sv v:=by
 have d:=h.opd e;simp only[A2]at b;generalize so G fr sx=q at d b;split at b
 ·simp only[Aa]at b;obtain⟨c,f,rfl⟩:=b;obtain⟨v,i,g⟩:=Ahx (P:=P) d f;exact⟨v,i,g⟩
 ·cases b
theorem Aks(h:aC P G w M B z ob fr a){t:TypeId}{e:Array Field}{f:Nat}{fd:Field}{s:Option Nat}(i:P.underlying t=some (.struct e))(l:e[f]? =some fd)(j:DS P fd.type=some s)
  {x:Operand} {sx:SO} (g:A4 x=some sx) {sv:SV} (b:A2 rd (so G fr) (.field fd.offset s sx)=some sv):
  ∃v,(Instr.field t (a.eval x) f).run P w=.ok v w/\AA w M z ob sv v:=by
 have d:=h.opd g;simp only[A2]at b;generalize so G fr sx=q at d b;split at b
 ·simp only[Aa]at b;obtain⟨c,m,rfl⟩:=b;unfold AA RelC at d;obtain⟨vs,r,k⟩:=d;obtain⟨v,p,o⟩:=XP (P:=P) j k m;exact⟨v,by rw[r];simp[Instr.field,run_underlying i,l,asAgg,p],o⟩
 ·cases b
theorem LY:∀{es:List CV} {ns:List Int} {i:Nat} {e:CV},Fs es=some ns->es[i]? =some e->∃n,e=.int .u8 n/\ns[i]? =some n
 | [],_,_,_,_,h=>by simp at h
 |c::es,ns,i,e,hb,h=>by
  unfold Fs at hb;split at hb<;>(try cases hb;done)
  ·rename_i j;cases j
  ·rename_i m g b;cases b;obtain⟨d,f,rfl⟩:=Aa.1 hb
   cases i with
   |zero=>simp at h;subst h;exact⟨m,rfl,rfl⟩
   |succ i=>
    simp only[List.getElem?_cons_succ]at h⊢;exact LY f h
theorem Ue:∀{es:List CV} {ns:List Int},Fs es=some ns->ns.length=es.length
 | [],ns,h=>by cases h;rfl
 |c::es,ns,hb=>by
  unfold Fs at hb;split at hb<;>(try cases hb;done)
  ·rename_i g;cases g
  ·rename_i m f b;cases b;obtain⟨d,e,rfl⟩:=Aa.1 hb;simp[Ue e]
theorem XF{src dst e:TypeId}(i:P.underlying src=some (.slice e))(q:P.underlying e=some (.int .u8))(r:P.underlying dst=some .string){es:List CV}{ns:List Int}(h:Fs es=some ns){v:Value}
  (x:(∃l c,v=.slice none l c/\es= [])\/∃g c,v=.slice (some g) es.length c/\∀(k:Nat) f,es[k]? =some f->∃u,RelC w M f u/\w.cell? (g.add k)=some u):
  (convert src dst v).run P w=.ok (.string ⟨⟨ns.map fun n=>UInt8.ofNat n.toNat⟩⟩) w:=by
 rcases x with⟨l,c,rfl,rfl⟩|⟨g,c,rfl,A⟩
 ·cases h;rw[run_convert_bytes_nil w src e i q l c dst r];rfl
 ·have b:=Ue h
  have y:(loadCells g es.length).run P w=.ok (ns.map (Value.int .u8)).toArray w:=by
   have:=run_loadCells_list (P:=P) w g (ns.map (Value.int .u8)) (fun j u p=>by
    rw[List.getElem?_map,Aa]at p;obtain⟨m,o,rfl⟩:=p;obtain⟨f,d⟩:∃f,es[j]? =some f:=⟨_,Aj (by have:=(Af.1 o).1;omega)⟩;obtain⟨D,rfl,t⟩:=LY h d;obtain⟨u,s,C⟩:=A j _ d;rw[o]at t;cases t;unfold RelC at s
    rw[C,s])
   simpa[b]using this
  rw[run_convert_bytes_string w src dst e _ _ _ i q r,run_bytesToString w _ _ _ ns y,foldl_push_bytes];simp[ByteArray.empty,ByteArray.emptyWithCapacity];rfl
theorem Akn(h:aC P G w M B z ob fr a)(I:∀id,rd id=.none\/rd id=ob id){src dst:TypeId}{x:Operand}{p:aa}(d:GO P src dst x=some p)(A:p.cls=.val){sv:SV}(b:A2 rd (so G fr) p=some sv):
  ∃v,(convert src dst (a.eval x)).run P w=.ok v w/\AA w M z ob sv v:=by
 unfold GO at d;split at d
 ·rename_i Y k o l;simp only[Aa]at d;obtain⟨sx,j,rfl⟩:=d;have f:=h.opd j;simp only[A2]at b;generalize so G fr sx=q at f b;split at b
  ·simp only[Ac]at b;subst b;rw[Cw (w:=w) (M:=M) f];exact⟨_,by simp[convert,run_underlying o,run_underlying l,Conv.intToInt],E4 (w:=w) (M:=M)⟩
  ·cases b
 ·rename_i Y o l;simp only[Aa]at d;obtain⟨sx,j,rfl⟩:=d;have f:=h.opd j;simp only[A2]at b;generalize so G fr sx=q at f b;split at b
  ·simp only[Ac]at b;subst b;rw[Cw (w:=w) (M:=M) f];exact⟨_,by simp[convert,run_underlying o,run_underlying l,Conv.intToString],NA (w:=w) (M:=M)⟩
  ·cases b
 ·rename_i o l;simp only[Aa]at d;obtain⟨sx,j,rfl⟩:=d;have f:=h.opd j;simp only[A2]at b;generalize so G fr sx=q at f b;split at b
  ·simp only[Ac]at b;subst b;rw[Dy (w:=w) (M:=M) f];exact⟨_,by simp[convert,run_underlying o,run_underlying l],NA (w:=w) (M:=M)⟩
  ·cases b
 ·split at d
  ·simp only[Aa]at d;obtain⟨sx,j,rfl⟩:=d;cases A
  ·cases d
 ·rename_i e o l;split at d
  ·rename_i V;simp only[Aa]at d;obtain⟨sx,j,rfl⟩:=d;have f:=h.opd j;simp only[A2]at b;generalize so G fr sx=q at f b;split at b
   ·rename_i nl es;obtain⟨ns,C,rfl⟩:=Aa.1 b;refine⟨_,XF (M:=M) o V l C ?_,NA (w:=w) (M:=M)⟩;unfold AA RelC at f;obtain⟨S,n',c,ev,U,_,_,_,_,Z⟩:=f;rw[ev]
    cases es with
    |nil=>
     cases S with
     |none=>exact .inl ⟨_,_,rfl,rfl⟩
     |some S=>exact .inr ⟨S,c,by rw[U],fun k W s=>by simp at s⟩
    |cons x es=>
     obtain⟨R,size,O,_,_,hE⟩:=Z (by simp);subst O;refine .inr ⟨R,c,by rw[U],fun k W s=> ?_⟩;obtain⟨m,rfl,_⟩:=LY C s;obtain⟨u,D,L,K⟩:=RelE.get hE s;have i:=D;unfold RelC at i;subst i;have r:size=1:=by rw[<-L];rfl
     subst r;have:=K 0 (.int .u8 m) rfl;refine⟨_,D, ?_⟩;simpa using this
   ·rename_i id;split at b<;>(try cases b;done);rename_i et sz es F;obtain⟨ns,C,rfl⟩:=Aa.1 b;refine⟨_,XF (M:=M) o V l C ?_,NA (w:=w) (M:=M)⟩;obtain⟨_,O⟩:=f
    have J:ob id=.arr et sz es:=by
     rcases I id with e'|e'
     ·rw[e']at F;cases F
     ·rw[e']at F;exact F
    have t:=h.ob id;rw[J]at t;obtain⟨xs,y,hf⟩:=t;rw[O];rcases y.2 with⟨N,X⟩|⟨g,cap,Q,ty,fz,N,X,e4,_,_,e5,e6,e7,e8⟩
    ·exact .inl ⟨_,_,N,Aw X⟩
    ·refine .inr ⟨⟨g,0,none⟩,cap,N,fun k W s=> ?_⟩;obtain⟨m,rfl,_⟩:=LY C s;obtain⟨u,D,L,K⟩:=GE hf s;have i:=D;unfold RelC at i;subst i;have r:sz=1:=by rw[<-L];rfl
     subst r;refine⟨_,D, ?_⟩;rw[DY,cell_of_row w g _ Q ty fz e4];have H:=K 0 (.int .u8 m) rfl;rw[<-e8,List.getElem?_take]at H;split at H
     ·simpa using H
     ·cases H
   ·cases b
  ·cases d
 ·cases d
theorem Zy(h:aC P G w M B z ob fr a){op:BinOp}{t:TypeId}{x y:Operand}{i:aa}(s:Ml P op t x y=some i){sv:SV}(j:A2 rd (so G fr) i=some sv):
  ∃v,(do eqGuard op t x y (a.eval x) (a.eval y);binOp op t (a.eval x) (a.eval y):Sem Value).run P w=.ok v w/\AA w M z ob sv v:=by
 by_cases f:op=.eql\/op=.neq
 ·have c:(match P.underlying t with
   |some (.int _)|some .string=>(A4 x).bind fun a=>(A4 y).map fun b=>aa.bin op a b
   |some .bool=>(A4 x).bind fun a=>(A4 y).map fun b=>.beq (DM op) a b
   |some (.struct u)=>if P.stoodInHeld t||P.eqGuardType P.depth t then none else
    (Fu P 0 u.toList).bind fun q=>(A4 x).bind fun a=>(A4 y).map fun b=>.eqs (DM op) q a b
   |some d=>(KC d y).bind fun r=>(A4 x).map fun a=>.isnil r (DM op) a
   |_=>none)=some i:=by
   rcases f with rfl|rfl<;>exact s
  split at c
  ·simp only[Ab,Aa]at c;obtain⟨sx,e,k,g,rfl⟩:=c;exact Oq h e g j
  ·simp only[Ab,Aa]at c;obtain⟨sx,e,k,g,rfl⟩:=c;exact Oq h e g j
  ·rename_i l;simp only[Ab,Aa]at c;obtain⟨sx,e,k,g,rfl⟩:=c;exact Akk h f l e g j
  ·rename_i u l;split at c
   ·cases c
   ·rename_i o;simp only[Ak,not_or,Bool.not_eq_true]at o;simp only[Ab,Aa]at c;obtain⟨q,m,sx,e,k,g,rfl⟩:=c;exact Akp h f l o.1 o.2 m e g j
  ·rename_i d _ _ _ _ l;simp only[Ab,Aa]at c;obtain⟨r,p,sx,e,rfl⟩:=c;exact Akw h l f p e j
  ·cases c
 ·have c:(match P.underlying t with
   |some (.int _)|some .string=>(A4 x).bind fun a=>(A4 y).map fun b=>aa.bin op a b
   |_=>none)=some i:=by
   cases op<;>first|exact s|(exact absurd (.inl rfl) f)|(exact absurd (.inr rfl) f)
  split at c
  ·simp only[Ab,Aa]at c;obtain⟨sx,e,k,g,rfl⟩:=c;exact Oq h e g j
  ·simp only[Ab,Aa]at c;obtain⟨sx,e,k,g,rfl⟩:=c;exact Oq h e g j
  ·cases c
theorem Akt(h:aC P G w M B z ob fr a){f:FuncId}(g:mvOf f=none){captured:Array Operand}{l:List SO}(e:A5 A4 captured.toList=some l){sv:SV}(c:A2 rd (so G fr) (.fnv f l)=some sv):
  AA w M z ob sv (.func (.func f) #[] (captured.map a.eval)):=by
 simp only[A2,Aa]at c;obtain⟨cs,b,rfl⟩:=c;have d:=Ns h.fr h.glob e b;show RelC _ _ _ _;unfold RelC;refine⟨captured.toList.map a.eval, ?_,d⟩;unfold bV;rw[g];show _=_
 congr 1
 apply Array.toList_inj.1;simp
theorem Aku(h:aC P G w M B z ob fr a){f:FuncId}{x:Operand}{l:List SO}(e:A5 A4 [x]=some l){sv:SV}(c:A2 rd (so G fr) (.fnv (GZ+f) l)=some sv):
  AA w M z ob sv (.func (.func f) #[a.eval x] #[]):=by
 simp only[A2,Aa]at c;obtain⟨cs,b,rfl⟩:=c;have d:=Ns h.fr h.glob e b;show RelC _ _ _ _;unfold RelC;refine⟨_, ?_,d⟩;unfold bV;rw[Af1];exact⟨a.eval x,rfl,rfl⟩
theorem YD(h:aC P G w M B z ob fr a){x:Operand}{sx:SO}(j:A4 x=some sx){sv:SV}(d:A2 rd (so G fr) (.nchk sx)=some sv):
  ∃i,a.eval x=.pointer (some i)/\AA w M z ob sv (a.eval x):=by
 have f:=h.opd j;simp only[A2]at d;generalize so G fr sx=q at f d;split at d<;>(try cases d;done)
 ·split at d<;>(try cases d;done);rename_i k;cases d;have b:a.eval x=CG _ (M.al _):=f;rw[QU k]at b;exact⟨_,b,f⟩
 all_goals
  cases d;have b:=f
 ·unfold AA RelC at b;obtain⟨i,vs,e,_⟩:=b;exact⟨_,e,f⟩
 ·unfold AA RelC at b;obtain⟨g,ty,vs,e,_⟩:=b;exact⟨_,e,f⟩
 ·obtain⟨_,g,_,e⟩:=b;exact⟨_,e,f⟩
 ·obtain⟨_,g,n,c,_,e⟩:=b;exact⟨_,e,f⟩
theorem Ako(h:aC P G w M B z ob fr a){t:TypeId}{f:Nat}(b:Pz P t f=true){x:Operand}{sx:SO}(c:A4 x=some sx){sv:SV}(d:A2 rd (so G fr) (.nchk sx)=some sv):
  ∃v,(Instr.fieldAt t (a.eval x) f).run P w=.ok v w/\AA w M z ob sv v:=by
 unfold Pz at b;split at b<;>(try cases b;done);rename_i l g;split at b<;>(try cases b;done);rename_i fd k;split at b<;>(try cases b;done);rename_i i _ hi;simp only[Ag,beq_iff_eq,bne_iff_ne,ne_eq]at b;obtain⟨m,e,j⟩:=YD h c d;refine⟨_, ?_,j⟩;simp[Instr.fieldAt,Instr.sureAddr,run_underlying g,k,e,fieldPlace,DC hi,b.2,b.1.2,add_zero]
theorem Akm(h:aC P G w M B z ob fr a)(s:∀id,rd id=.none\/rd id=ob id){c:Call}{ty:TypeId}{q:aa}(b:EY P c=some q)(g:q.cls=.val){sv:SV}(o:A2 rd (so G fr) q=some sv):
  ∃v,(do let d<-resolve a.eval c ty;invoke d.target d.args:Sem Next).run P w=.ok (.value v) w/\AA w M z ob sv v:=by
 obtain⟨callee,args,argTypes⟩:=c;unfold EY at b;split at b<;>(try cases b;done)
 ·rename_i f;simp only at f;subst f;simp only at b
  have p:∃t,argTypes[0]? =some t:=by
   cases F:argTypes[0]? with
   |none=>rw[F]at b;simp at b
   |some t=>exact⟨t,rfl⟩
  obtain⟨t,p⟩:=p
  rw[p]at b;simp only[Ap]at b
  have run:∀(x:Operand),args.toList= [x]->(do let d<-resolve a.eval {callee:=.builtin .len,args:=args,argTypes:=argTypes} ty;invoke d.target d.args:Sem Next).run P w=((Builtin.len_ #[t] ty #[a.eval x]).run P w).andThen fun v w'=>.ok (.value v) w':=by
   intro x m;obtain⟨l⟩:=args;simp only at m;subst m;have e:∀v:Array Value,Builtin.len_ argTypes ty v=Builtin.len_ #[t] ty v:=fun v=>by simp[Builtin.len_,p]
   simp[resolve,invoke,builtin,e]
  split at b
  ·rename_i x r m;simp only[Aa]at b;obtain⟨sx,j,rfl⟩:=b;simp only[A2,Aa]at o;obtain⟨n,u,rfl⟩:=o;rw[run x m,RA h s r (.inl ⟨rfl,rfl⟩) j u];exact⟨_,rfl,E4 (w:=w) (M:=M)⟩
  ·rename_i e x r m;simp only[Aa]at b;obtain⟨sx,j,rfl⟩:=b;simp only[A2,Aa]at o;obtain⟨n,u,rfl⟩:=o;rw[run x m,RA h s r (.inr (.inl ⟨rfl,_,rfl⟩)) j u];exact⟨_,rfl,E4 (w:=w) (M:=M)⟩
  ·rename_i k e x r m;simp only[Aa]at b;obtain⟨sx,j,rfl⟩:=b;simp only[A2,Aa]at o;obtain⟨n,u,rfl⟩:=o;rw[run x m,RA h s r (.inr (.inr ⟨rfl,_,_,rfl⟩)) j u];exact⟨_,rfl,E4 (w:=w) (M:=M)⟩
  ·rename_i n e x r m;simp only[Ac]at b;subst b;simp only[A2,Ac]at o;subst o;rw[run x m];exact⟨.int .i64 n,by simp[Builtin.len_,run_underlying r,goInt],E4 (w:=w) (M:=M)⟩
  ·cases b
 ·rename_i f;simp only at f;subst f;simp only[Aa]at b;obtain⟨l,y,rfl⟩:=b;obtain⟨v,A,C⟩:=YC h y o argTypes ty;simp only[Ah,if_false]at A;exact⟨v,by simp[resolve,invoke,builtin,A],C⟩
 ·rename_i f;simp only at f;subst f;simp only[Aa]at b;obtain⟨l,y,rfl⟩:=b;obtain⟨v,A,C⟩:=YC h y o argTypes ty;simp only[if_true]at A;exact⟨v,by simp[resolve,invoke,builtin,A],C⟩
 ·split at b<;>(try cases b;done);split at b<;>(try cases b;done);simp only[Ab,Ae,Ac]at b;obtain⟨i,_,H,_,D,_,sb,_,_,rfl⟩:=b;cases g
 ·split at b<;>(try cases b;done);split at b<;>(try cases b;done);simp only[Ab,Ae,Ac]at b;obtain⟨i,_,D,_,sb,_,_,rfl⟩:=b;cases g
 ·split at b<;>(try cases b;done);rcases FC b with⟨l,y,rfl⟩|⟨_,_,_,_,_,_,_,rfl⟩<;>cases g
 ·simp only[Aa]at b;obtain⟨l,y,rfl⟩:=b;cases g
theorem Aky(h:aC P G w M B z ob fr a)(i:∀id,rd id=.none\/rd id=ob id){x:Operand}{sx:SO}(t:A4 x=some sx){sv:SV}(c:A2 rd (so G fr) (.mentry sx)=some sv):
  ∃v,(Instr.entry (a.eval x)).run P w=.ok v w/\AA w M z ob sv v:=by
 have s:=h.opd t;simp only[A2]at c;generalize so G fr sx=q at s c;split at c<;>(try cases c;done);rename_i id;split at c<;>(try cases c;done);rename_i ks vs p g;cases c;obtain⟨k,N⟩:=s
 have j:ob id=.miter ks vs (some p):=by
  rcases i id with e|e
  ·rw[e]at g;cases g
  ·rw[e]at g;exact g
 have d:=h.ob id;rw[j]at d;obtain⟨r,O,b,seen,L,y,u⟩:=d;rcases u with⟨_,_,_,A⟩|⟨m,l,rem,K,U,J,I,S,R,Q,o⟩
 ·cases A
 ·obtain⟨s0,f,H,F,D,C⟩:=o p rfl;subst H;subst K;refine⟨.tuple #[f.key,f.val], ?_, ?_⟩
  ·rw[N,L];exact run_entry_at w r m b s0 ⟨l⟩ b f y J F I.2.2
  ·show RelC _ _ (.tup _) _;unfold RelC;exact⟨[f.key,f.val],rfl,RelL.cons D (RelL.cons C RelL.nil)⟩
theorem Ak2(h:aC P G w M B z ob fr a)(p:∀id,rd id=.none\/rd id=ob id){o:Oper}{A:aa}(b:Cf P o=some A)(d:A.cls=.val){sv:SV}(j:A2 rd (so G fr) A=some sv):
  Yes P w M z ob a o sv:=by
 unfold Cf at b;split at b<;>rename_i k<;>(try cases b;done)
 ·
  simp only[Aa]at b;obtain⟨sx,g,rfl⟩:=b;simp only[A2,Ac]at j;subst j;exact⟨_,by simp[execOp,k],h.opd g⟩
 ·
  simp only[Aa]at b;obtain⟨sx,g,rfl⟩:=b;simp only[A2,Ac]at j;subst j;exact⟨_,by simp[execOp,k],h.opd g⟩
 ·
  rename_i c x y;simp only[Ab,Aa]at b;obtain⟨sc,R,sx,Q,sy,O,rfl⟩:=b;have K:=h.opd R;have U:=h.opd Q;have S:=h.opd O;simp only[A2]at j;generalize so G fr sc=q at K j;split at j
  ·rename_i t;simp only[Ac]at j;subst j;have e:=Ee (w:=w) (M:=M) K;refine⟨if t then a.eval x else a.eval y,by simp[execOp,k,e,asBool], ?_⟩;cases t
   ·exact S
   ·exact U
  ·cases j
 ·split at b<;>(simp only[Ab,Aa]at b;obtain⟨_,_,_,_,_,_,rfl⟩:=b;cases d)
 ·simp only[Aa]at b;obtain⟨_,_,rfl⟩:=b;cases d
 ·
  simp only[Ab,Aa]at b;obtain⟨i,hi,vz,hz,zc,N,ps,V,rfl⟩:=b;exact Dm (by simp only[execOp,k]) (Akl h hi hz N V j)
 ·
  split at b<;>(try cases b;done);simp only[Ab,Ae,Ac]at b;obtain⟨_,_,_,_,_,_,_,_,_,rfl⟩:=b;cases d
 ·
  simp only[Ab,Aa]at b;obtain⟨s,H,sx,g,rfl⟩:=b;exact Dm (by simp only[execOp,k]) (YB h p H g j)
 ·simp only[Ab,Aa]at b;obtain⟨_,_,_,_,_,_,rfl⟩:=b;cases d
 ·exact Dm (by simp only[execOp,k]) (Zy h b j)
 ·simp only[Aa]at b;obtain⟨sx,g,rfl⟩:=b;exact Dm (by simp only[execOp,k]) (Ak4 h g j)
 ·exact Dm (by simp only[execOp,k]) (Akn h p b d j)
 ·
  simp only[Aa]at b;obtain⟨sx,g,rfl⟩:=b;obtain⟨ad,e,K⟩:=YD h g j;exact⟨_,by simp only[execOp,k,e];rfl,K⟩
 ·
  rename_i f first captured
  split at b<;>(try cases b;done)
  ·rename_i D;simp only[Ae,Aa]at b;obtain⟨hb,l,u,rfl⟩:=b;have C:first= #[]:=Array.toList_inj.1 (by simpa using D)
   exact⟨_,by simp[execOp,k,Instr.makeFunc,C],Akt h (IJ hb) u j⟩
  ·rename_i x D J;simp only[Ae,Aa]at b;obtain⟨hb,l,u,rfl⟩:=b;have C:first= #[x]:=Array.toList_inj.1 (by simpa using D)
   have F:captured= #[]:=Array.toList_inj.1 (by simpa using J);exact⟨_,by simp[execOp,k,Instr.makeFunc,C,F],Aku h u j⟩
 ·simp only[Aa]at b;obtain⟨_,_,rfl⟩:=b;cases d
 ·
  split at b<;>(try cases b;done);simp only[Ab,Ae,Ac]at b;obtain⟨_,_,_,_,_,_,_,_,_,_,_,rfl⟩:=b;cases d
 ·
  split at b<;>(try cases b;done);rename_i e m;simp only[Ab,Aa]at b;obtain⟨i,hi,sx,g,sl,u,sh,I,sm,hm,rfl⟩:=b;exact Dm (by simp only[execOp,k,Aq]) (Ak1 h m hi g u I hm j)
 ·
  split at b<;>(try cases b;done)
  ·rename_i m;simp only[Ab,Aa]at b;obtain⟨sx,g,sl,u,sh,I,rfl⟩:=b;exact Dm (by simp only[execOp,k,Option.map_none]) (Ak3 h m g u I j)
  ·rename_i e m;simp only[Ab,Aa]at b;obtain⟨i,hi,sx,g,sl,u,sh,I,rfl⟩:=b;exact Dm (by simp only[execOp,k,Option.map_none]) (Ak0 h m hi g u I j)
  ·rename_i n e m;split at b<;>(try cases b;done);simp only[Ab,Ae,Aa]at b;obtain⟨i,hi,h1,sx,g,rfl⟩:=b;exact Dm (by simp only[execOp,k,Option.map_none]) (Akj h m hi h1 g j)
 ·
  split at b<;>(try cases b;done)
  ·rename_i X;simp only[Aa]at b;obtain⟨sx,g,rfl⟩:=b;exact Dm (by simp only[execOp,k]) (Ako h X g j)
  ·rename_i fs _ m;simp only[Ab,Option.ite_none_left_eq_some,Aa]at b;obtain⟨fd,D,i,hi,Y,sx,g,rfl⟩:=b;exact Dm (by simp only[execOp,k]) (Akr h p m D hi Y g j)
 ·
  split at b<;>(try cases b;done);rename_i fs m;simp only[Ab,Aa]at b;obtain⟨fd,D,s,H,sx,g,rfl⟩:=b;exact Dm (by simp only[execOp,k]) (Aks h m D H g j)
 ·
  split at b<;>(try cases b;done)
  ·rename_i e m;simp only[Ab,Option.ite_none_left_eq_some,Aa]at b;obtain⟨i,hi,Y,sx,g,L,r,rfl⟩:=b;exact Dm (by simp only[execOp,k]) (Akv h p m hi g r j)
  ·rename_i n e m;simp only[Ab,Option.ite_none_left_eq_some,Aa]at b;obtain⟨i,hi,Y,sx,g,L,r,rfl⟩:=b;exact Dm (by simp only[execOp,k]) (Akh h m hi g r j)
 ·
  split at b<;>(try cases b;done)
  ·rename_i m;simp only[Ab,Aa]at b;obtain⟨sx,g,L,r,rfl⟩:=b;exact Dm (by simp only[execOp,k]) (Akz h m g r j)
  ·rename_i n e m;simp only[Ab,Aa]at b;obtain⟨i,hi,s,H,sx,g,L,r,rfl⟩:=b;exact Dm (by simp only[execOp,k]) (Aki h m hi H g r j)
 ·
  simp only[Ab,Aa,Prod.exists]at b;obtain⟨kt,zc,W,sx,g,sk,hk,rfl⟩:=b;simp only[A2,Aa]at j;obtain⟨c,F,rfl⟩:=j;obtain⟨v,g1,Z⟩:=Akx h p W g hk _ F;exact Dm (by simp only[execOp,k]) ⟨v,g1,Z⟩
 ·split at b<;>(try cases b;done);simp only[Ab,Aa]at b;obtain⟨_,_,_,_,_,_,rfl⟩:=b;cases d
 ·split at b<;>(try cases b;done);simp only[Ab,Aa]at b;obtain⟨_,_,_,_,_,_,rfl⟩:=b;cases d
 ·split at b<;>(try cases b;done);simp only[Ab,Aa]at b;obtain⟨_,_,_,_,rfl⟩:=b;cases d
 ·simp only[Ab,Aa]at b;obtain⟨_,_,_,_,_,_,rfl⟩:=b;cases d
 ·split at b<;>(try cases b;done);all_goals(simp only[Aa]at b;obtain⟨_,_,rfl⟩:=b;cases d)
 ·simp only[Aa]at b;obtain⟨_,_,rfl⟩:=b;cases d
 ·simp only[Aa]at b;obtain⟨sx,g,rfl⟩:=b;exact Dm (by simp only[execOp,k]) (Aky h p g j)
 ·simp only[Aa]at b;obtain⟨sx,g,rfl⟩:=b;exact Dm (by simp only[execOp,k]) (Akq h g j)
 ·obtain⟨v,g1,Z⟩:=Akm (ty:=o.type) h p b d j;exact⟨v,by simp only[execOp,k];exact g1,Z⟩
end
section
variable {P:Program} {G:Nat->List CV} {w0:WL} {M0:MM} {n:Nat} {st:St} {a:Act} {w w':World} {z:Cz}
theorem SR.low(h:SR P G w0 M0 n st a w z){id g:Nat}(c:st.ob id≠ .none)(d:blk (z.σ id)=some g)(b:g<w0.heap.size):w0.L id g:=by
 rcases(h.lo id g c d).1 with h1|h1
 ·omega
 ·exact h1
theorem SR.out(h:SR P G w0 M0 n st a w z){id g:Nat}(c:st.ob id≠ .none)(d:blk (z.σ id)=some g)(hT:¬w0.le.I id):¬M0 g:=fun b=>hT (h.nam.lent _ _ (h.low c d (h.outer g b))).2
theorem SR.globW(h:SR P G w0 M0 n st a w z):GOk G w (A3 M0 z st.ob):=
 h.glob.keep h.below.size (fun g d b=>h.below.block g d fun id e=>b (h.nam.lent id g e).1) fun g c b=>by
  rcases b with b|⟨id,hl,hb⟩
  ·exact b
  ·exact(h.nam.lent id g (h.low hl hb c)).1
theorem SR.ctx(h:SR P G w0 M0 n st a w z):aC P G w (A3 M0 z st.ob) 0 z st.ob st.fr a where
 fr:=h.fr
 ob:=h.ob
 glob:=fun i hi=>((h.globW) i hi).1
 told:=h.nam.told
theorem keeps_below{M:MM}(b:Below w.heap.size w w'):Bu w M w' M:=⟨b.size,fun g c _=>b.block g c,fun _ _ h=>h,rfl⟩
theorem SR.grow(h:SR P G w0 M0 n st a w z)(c:Below w.heap.size w w'):SR P G w0 M0 n st a w' z:=by
 have f:=keeps_below (M:=A3 M0 z st.ob) c;have d:∀s:SV,F7 st.ob z st.ob z s:=fun s=>⟨fun _ _ b=>b,fun _ _ _=>rfl,fun _ _ _ _ _ b=>b⟩;refine⟨h.size,h.defers,h.below.trans (c.mono h.below.size),h.outer,h.nam,h.glob,fun i=>AA.keep f (d _) (h.fr i),fun id=> ?_,fun id g l k=> ?_,h.apart⟩
 ·by_cases e:st.ob id=.none
  ·rw[e];trivial
  ·exact Bg.keep f (fun g j=>c.block g (h.lo id g e j).2) (fun _ _ _ _=>d _) (fun _ _ b=>b) (h.ob id)
 ·have:=h.lo id g l k;exact⟨this.1,Nat.lt_of_lt_of_le this.2 c.size⟩
def Cz.new(z:Cz)(d:Nat)(v:Value):Cz:={σ:=ac z.σ d v,β:=fun id=>if id=d then fun _ _=>False else z.β id,al:=z.al}
theorem Kh{v:Value}{d:Nat}{o:Ob}(f:st.ob d=.none)(s:SV):F7 st.ob z (ac st.ob d o) (z.new d v) s where
 live:=fun id _ c=>by
  have:id≠d:=fun e=>c (e▸f);rw[AL _ _ this];exact c
 at_:=fun id _ c=>by
  have:id≠d:=fun e=>c (e▸f);simp[Cz.new,ac,this]
 born:=fun id _ c k b g=>by
  have:id≠d:=fun e=>c (e▸f);simp[Cz.new,this,g]
theorem MK{v:Value}{d:Nat}{o:Ob}(i:st.ob d=.none)(c:Below w.heap.size w w')(e:∀g,blk v=some g->w.heap.size<=g):
  Bu w (A3 M0 z st.ob) w' (A3 M0 (z.new d v) (ac st.ob d o)):=⟨c.size,fun g h _=>c.block g h,fun g f b=>by
 rcases b with b|⟨id,hl,hbk⟩
 ·exact .inl b
 ·by_cases af:id=d
  ·subst af;simp[Cz.new,ac]at hbk;have:=e g hbk;omega
  ·refine .inr ⟨id, ?_, ?_⟩
   ·rw[AL _ _ af]at hl;exact hl
   ·simpa[Cz.new,ac,af]using hbk,rfl⟩
theorem SR.new(h:SR P G w0 M0 n st a w z){d:Nat}(I:d<n)(u:st.ob d=.none){v:Value}{o:Ob}{sv:SV}(t:Below w.heap.size w w')(s:∀g,blk v=some g->w.heap.size<=g/\g<w'.heap.size)
  (H:Bg P w' (A3 M0 (z.new d v) (ac st.ob d o)) 0 (z.new d v) (ac st.ob d o) d v o) (F:AA w' (A3 M0 (z.new d v) (ac st.ob d o)) (z.new d v) (ac st.ob d o) sv v):
  SR P G w0 M0 n {fr:=ac st.fr d sv,ob:=ac st.ob d o} (a.put (some d) v) w' (z.new d v):=by
 have C:=MK (M0:=M0) (z:=z) (o:=o) u t (fun g y=>(s g y).1);refine⟨by simpa[Act.put]using h.size,h.defers,h.below.trans (t.mono h.below.size),h.outer,h.nam.of rfl (fun N L D=> ?_),h.glob,fun i=> ?_,fun id=> ?_,fun id g f c=> ?_,fun i j g q f c p m=> ?_⟩
 ·have r:N≠d:=fun e=>by have:=h.nam.low;omega
  simp only[AL _ _ r]at D;exact⟨D,by simp[Cz.new,ac,r]⟩
 ·rw[Xn];by_cases hi:i=d
  ·subst hi;rw[Ao ⟨rfl,by rw[h.size];exact I⟩];simpa[Be]using F
  ·rw[An (fun x=>hi x.1)];simp only[AL _ _ hi];exact AA.keep C (Kh u _) (h.fr i)
 ·by_cases af:id=d
  ·subst af;simp only[Be];have:(z.new id v).σ id=v:=by simp[Cz.new,ac]
   rw[this];exact H
  ·simp only[AL _ _ af];have e:(z.new d v).σ id=z.σ id:=by simp[Cz.new,ac,af]
   rw[e];by_cases A:st.ob id=.none
   ·rw[A];trivial
   ·exact Bg.keep C (fun g y=>t.block g (h.lo id g A y).2) (fun _ _ _ _=>Kh u _) (fun k b x=>by simpa[Cz.new,af]using x) (h.ob id)
 ·by_cases af:id=d
  ·subst af;simp only[Cz.new,Be]at c;have:=s g c;exact⟨.inl (Nat.le_trans h.below.size this.1),this.2⟩
  ·simp only[AL _ _ af]at f;simp only[Cz.new,AL _ _ af]at c;have:=h.lo id g f c;exact⟨this.1,Nat.lt_of_lt_of_le this.2 t.size⟩
 ·by_cases hi:i=d
  ·subst hi;have l:j≠i:=fun e=>q e.symm;simp only[Cz.new,Be]at p;simp only[Cz.new,AL _ _ l]at m;simp only[AL _ _ l]at c;have K:=(s g p).1;have J:=(h.lo j g c m).2;omega
  ·by_cases l:j=d
   ·subst l;simp only[Cz.new,Be]at m;simp only[Cz.new,AL _ _ hi]at p;simp only[AL _ _ hi]at f;have K:=(s g m).1;have J:=(h.lo i g f p).2;omega
   ·simp only[Cz.new,AL _ _ hi]at p;simp only[Cz.new,AL _ _ l]at m;simp only[AL _ _ hi]at f;simp only[AL _ _ l]at c;exact h.apart i j g q f c p m
end
theorem GH(w:World)(o:Obj):Below w.heap.size w (w.alloc o):=(Below.refl _ _).alloc (Nat.le_refl _) _
theorem XO{P:Program}(t:TypeId)(v:Value)(w:World):(newVar t v).run P w=.ok ⟨w.heap.size,0,none⟩ (w.alloc (.cells v.cells t)):=by
 simp[newVar,newRow]
theorem Rg{P:Program}(t:TypeId)(c:Array Value)(w:World):(newRow t c).run P w=.ok ⟨w.heap.size,0,none⟩ (w.alloc (.cells c t)):=by
 simp[newRow]
theorem Gk(w:World)(o:Obj):(w.alloc o).heap[w.heap.size]? =some o:=heap_alloc_new w o
section
variable {P:Program} {G:Nat->List CV} {w0:WL} {M0:MM} {n:Nat} {st:St} {a:Act} {w:World} {z:Cz}
theorem L1{M:MM}{size:Nat}:∀{cs:List CV} {vs:List Value},RelL w M cs vs->(cs.all fun v=>Bk v==size)=true->AU w M size cs (vs.flatMap fun v=>v.cells.toList)
 | [],vs,h,_=>by unfold RelL at h;subst h;rfl
 |c::cs,vs,h,hs=>by
  unfold RelL at h;obtain⟨v,d,rfl,b,e⟩:=h;simp only[List.all_cons,Ag,beq_iff_eq]at hs;exact⟨v,_,by simp,by rw[b.cells_size,hs.1],b,L1 e hs.2⟩
theorem Afs(zc:Array Value)(n:Nat):(madeCells zc ((n+1)*zc.size)).toList=zc.toList++(madeCells zc (n*zc.size)).toList:=by
 have e:(n+1)*zc.size=zc.size+n*zc.size:=by rw[Nat.add_mul];omega
 rw[e];simp only[madeCells,Array.toList_map,Array.toList_range,List.range_add,List.map_append,List.map_map]
 congr 1
 ·apply List.ext_getElem
  ·simp
  ·intro i b c;simp at b;simp[Nat.mod_eq_of_lt b,b]
 ·apply List.map_congr_left;intro i _;simp
theorem Tt{M:MM}{c:CV}{v:Value}(h:RelC w M c v){size:Nat}(b:v.cells.size=size):∀n,AU w M size (List.replicate n c) (madeCells v.cells (n*size)).toList
 |0=>by simp[AU,madeCells]
 |n+1=>by
  subst b;rw[List.replicate_succ,Afs];exact⟨v,_,rfl,rfl,h,Tt h rfl n⟩
theorem Aju(zc:Array Value){a b:Nat}(h:a<=b):(madeCells zc b).toList.take a=(madeCells zc a).toList:=by
 simp only[madeCells,Array.toList_map,Array.toList_range,<-List.map_take,List.take_range,Nat.min_eq_left h]
theorem Yc(h:SR P G w0 M0 n st a w z):∀{parts:List (Nat×Operand)} {i:Nat} {xs:List SO} {l:List CV},Jn i parts=some xs->A5 (fun x=>closed (so G st.fr x)) xs=some l->
  ∃vs:List Value,(parts.map fun p=>(p.1,a.eval p.2))=(List.range' i vs.length).zip vs/\RelL w (A3 M0 z st.ob) l vs
 | [],i,xs,l,h1,h2=>by
  simp only[Jn,Ac]at h1;subst h1;simp only[A5,Ac]at h2;subst h2;exact⟨[],rfl,RelL.nil⟩
 |(j,x)::parts,i,xs,l,h1,h2=>by
  simp only[Jn,Ae,Ab,Aa]at h1;obtain⟨rfl,sx,b,q,d,rfl⟩:=h1;simp only[A5,Ab,Aa]at h2;obtain⟨c,g,cs,e,rfl⟩:=h2;obtain⟨vs,o,m⟩:=Yc h d e
  have f:so G st.fr sx=.c c:=by
   cases k:so G st.fr sx<;>rw[k]at g<;>simp[closed]at g;rw[g]
  exact⟨a.eval x::vs,by simp[o,List.range'_succ],RelL.cons (h.ctx.c b f) m⟩
theorem Vn{size:Nat}:∀(vs:List Value) (k:Nat) (pre rest:List Value),pre.length=k*size->rest.length=vs.length*size->(∀v∈vs,v.cells.size=size)->
  Instr.fill (fun i=>some (i*size,size)) ⟨pre++rest⟩ ((List.range' k vs.length).zip vs)=some ⟨pre++vs.flatMap fun v=>v.cells.toList⟩
 | [],k,pre,rest,_,h2,_=>by
  have:rest= []:=Aw (by simpa using h2);subst this;rfl
 |v::vs,k,pre,rest,h1,h2,h3=>by
  have d:=h3 v (by simp);simp only[Au,List.range'_succ,List.zip_cons_cons,Instr.fill];rw[An (by simp[d,h1,h2,Nat.add_mul])]
  have b:(v.cells.zipIdx.foldl (fun(cs:Array Value) (p:Value×Nat)=>cs.setIfInBounds (k*size+p.2) p.1) (⟨pre++rest⟩:Array Value))=⟨(pre++v.cells.toList)++rest.drop size⟩:=by
   apply Array.toList_inj.1;rw[<-Array.foldl_toList,Array.toList_zipIdx];have:=PM v.cells.toList ⟨pre++rest⟩ (k*size) 0 (by simp[d,h1,h2,Nat.add_mul]);rw[this];simp[d,<-h1,List.drop_append]
  have f:=Vn vs (k+1) (pre++v.cells.toList) (rest.drop size) (by simp[h1,d,Nat.add_mul]) (by simp[h2,Nat.add_mul]) (fun u g=>h3 u (by simp[g]));have e:(v.cells.zipIdx.foldl (fun(cs:Array Value) (x:Value×Nat)=>match x with|(c,j)=>cs.setIfInBounds (k*size+j) c) (⟨pre++rest⟩:Array Value))=⟨(pre++v.cells.toList)++rest.drop size⟩:=b;rw[e,f];simp
def Jw(P:Program)(G:Nat->List CV)(w0:WL)(M0:MM)(n:Nat)(st:St)(a:Act)(w:World)(o:Oper)(d:Nat)(sv:SV)(ob:Ob):Prop:=
 ∃v w' z',(execOp a.eval o).run P w=.ok (.value v) w'/\SR P G w0 M0 n {fr:=ac st.fr d sv,ob:=ac st.ob d ob} (a.put (some d) v) w' z'
theorem HU(h:SR P G w0 M0 n st a w z){o:Oper}{d:Nat}(m:d<n)(b:st.ob d=.none){sv:SV}{ob:Ob}{s:Sem Value}{v:Value}{w':World}(l:execOp a.eval o=(do pure (.value (<-s)):Sem Next))(i:s.run P w=.ok v w')
  (e:Below w.heap.size w w') (c:∀g,blk v=some g->w.heap.size<=g/\g<w'.heap.size)
  (j:Bu w (A3 M0 z st.ob) w' (A3 M0 (z.new d v) (ac st.ob d ob))->(∀s,F7 st.ob z (ac st.ob d ob) (z.new d v) s)->Bg P w' (A3 M0 (z.new d v) (ac st.ob d ob)) 0 (z.new d v) (ac st.ob d ob) d v ob/\AA w' (A3 M0 (z.new d v) (ac st.ob d ob)) (z.new d v) (ac st.ob d ob) sv v):
  Jw P G w0 M0 n st a w o d sv ob:=by
 have f:=MK (M0:=M0) (z:=z) (o:=ob) b e (fun g k=>(c g k).1);obtain⟨q,p⟩:=j f (Kh b);exact⟨v,w',z.new d v,by rw[l];simp[i],h.new m b e c q p⟩
theorem FS{d:Nat}{ob:Ob}(h:ob≠ .none):ac st.ob d ob d≠ .none:=by rw[Be];exact h
theorem DB{d:Nat}{v:Value}:(z.new d v).σ d=v:=by simp[Cz.new,ac]
theorem Qy(h:SR P G w0 M0 n st a w z){o:Oper}{d:Nat}(m:d<n)(j:st.ob d=.none){cs:List SV}{t:TypeId}{bt:Option TypeId}(b:∀T,bt=some T->t=T){vs:List Value}{s:Sem Value}(l:execOp a.eval o=(do pure (.value (<-s)):Sem Next))
  (i:s.run P w=.ok (.pointer (some ⟨w.heap.size,0,none⟩)) (w.alloc (.cells ⟨vs⟩ t))) (f:AH w (A3 M0 z st.ob) z st.ob cs vs):Jw P G w0 M0 n st a w o d (.ptr d 0) (.box cs bt):=by
 refine HU h m j l i (GH _ _) (fun g c=> ?_) fun k e=>⟨⟨w.heap.size,⟨t,b⟩,vs,rfl,Gk _ _,AH.keep k (fun s _=>e s) f⟩,FS (by simp),w.heap.size,DB,rfl⟩;simp only[blk,Ac]at c;subst c;exact⟨Nat.le_refl _,by simp⟩
theorem Uk(h:SR P G w0 M0 n st a w z){s:SV}{v:Value}(j:AA w (A3 M0 z st.ob) z st.ob s v)(t:∀cs,s≠ .c (.agg cs))(q:s≠ .undef):v.cells= #[v]:=by
 have live:∀id,st.ob id≠ .none->(z.σ id).cells= #[z.σ id]:=by
  intro id l;have f:=h.ob id
  cases d:st.ob id with
  |none=>exact absurd d l
  |box cs=>rw[d]at f;obtain⟨g,ty,vs,e,_⟩:=f;rw[e];rfl
  |arr e size es=>
   rw[d]at f;obtain⟨xs,m,_⟩:=f;rcases m.2 with⟨e,_⟩|⟨g,cap,p,_,_,e,_⟩<;>rw[e]<;>rfl
  |map mt kt zc ks vs=>rw[d]at f;obtain⟨_,_,_,r,x,y,_,e,_⟩:=f;rw[e];rfl
  |siter s bj=>rw[d]at f;obtain⟨r,e,_⟩:=f;rw[e];rfl
  |miter ks vs p=>rw[d]at f;obtain⟨r,D,A,C,e,_⟩:=f;rw[e];rfl
  |buf e s=>
   rw[d]at f;rcases f.2 with⟨e,_⟩|⟨g,cap,p,F,e,_⟩<;>rw[e]<;>rfl
 cases s with
 |c cv=>exact QE j (fun cs e=>t cs (by rw[e]))
 |ptr id o=>obtain⟨_,g,_,e⟩:=j;rw[e];rfl
 |eptr id i sz o=>obtain⟨_,g,n,c,_,e⟩:=j;rw[e];rfl
 |osl id=>obtain⟨l,e⟩:=j;rw[e];exact live id l
 |omap id=>obtain⟨l,e⟩:=j;rw[e];exact live id l
 |iter id=>obtain⟨l,e⟩:=j;rw[e];exact live id l
 |stamp id k=>obtain⟨_,b,_,e⟩:=j;rw[e];rfl
 |ent id k cv=>obtain⟨_,b,u,_,e,_⟩:=j;rw[e];rfl
 |undef=>exact absurd rfl q
theorem HE{op:BinOp}{t:TypeId}{x y:Operand}{c:aa}(b:Ml P op t x y=some c):c.cls=.val:=by
 unfold Ml at b;split at b
 all_goals
  split at b<;>first
   |(cases b;done)
   |(simp only[Ab,Aa]at b;obtain⟨_,_,_,_,rfl⟩:=b;rfl)
   |(split at b<;>first
    |(cases b;done)
    |(simp only[Ab,Aa]at b;obtain⟨_,_,_,_,_,_,rfl⟩:=b;rfl))
theorem I1{src dst:TypeId}{x:Operand}{c:aa}(b:GO P src dst x=some c):c.cls=.val\/c.cls=.grow:=by
 unfold GO at b
 split at b<;>first
  |(cases b;done)
  |(simp only[Aa]at b;obtain⟨_,_,rfl⟩:=b;exact .inl rfl)
  |(split at b<;>first
   |(cases b;done)
   |(simp only[Aa]at b;obtain⟨_,_,rfl⟩:=b;first|exact .inl rfl|exact .inr rfl))
theorem ZZ{c:Call}{e:aa}(b:EY P c=some e):e.cls≠ .new:=by
 unfold EY at b;split at b<;>(try cases b;done)
 ·split at b<;>first
   |(cases b;done)
   |(simp only[Aa]at b;obtain⟨_,_,rfl⟩:=b;intro d;cases d)
   |(simp only[Ac]at b;subst b;intro d;cases d)
 ·simp only[Aa]at b;obtain⟨_,_,rfl⟩:=b;intro d;cases d
 ·simp only[Aa]at b;obtain⟨_,_,rfl⟩:=b;intro d;cases d
 ·split at b<;>(try cases b;done);split at b<;>(try cases b;done);simp only[Ab,Ae,Ac]at b;obtain⟨i,_,g,_,f,_,sb,_,_,rfl⟩:=b;intro d;cases d
 ·split at b<;>(try cases b;done);split at b<;>(try cases b;done);simp only[Ab,Ae,Ac]at b;obtain⟨i,_,f,_,sb,_,_,rfl⟩:=b;intro d;cases d
 ·split at b<;>(try cases b;done);rcases FC b with⟨l,h,rfl⟩|⟨_,_,_,_,_,_,_,rfl⟩<;>(intro d;cases d)
 ·simp only[Aa]at b;obtain⟨_,_,rfl⟩:=b;intro d;cases d
theorem Wy(h:SR P G w0 M0 n st a w z){t e:TypeId}{len:Nat}{parts:Array (Nat×Operand)}{i:TypeInfo}{b:Value}{zc:CV}{xs:List SO}{l:List CV}(J:P.underlying t=some (.slice e))(hi:P.info? e=some i)(S:i.zero=some b)(r:CM b=some zc)
  (u:Jn 0 parts.toList=some xs) (k:xs.length=len) (Y:0<i.size) (D:Bk zc=i.size) (W:len*i.size<=16777216) (L:A5 (fun x=>closed (so G st.fr x)) xs=some l) (o:(l.all fun v=>Bk v==i.size)=true):
  ∃vs:List Value,RelL w (A3 M0 z st.ob) l vs/\vs.length=len/\(Instr.buildSlice t len (parts.map fun(i,x)=>(i,a.eval x))).run P w=.ok (.slice (some ⟨w.heap.size,0,none⟩) len len) (w.alloc (.cells ⟨vs.flatMap fun v=>v.cells.toList⟩ e)):=by
 obtain⟨vs,Q,c⟩:=Yc h u L;have U:b.cells.size=i.size:=by rw[(FI w ⟨fun _=>False,fun _=>0⟩ b zc r).cells_size,D]
 have f:vs.length=len:=by rw[c.length,DF L,k]
 have y:∀v∈vs,v.cells.size=i.size:=by
  intro v C;obtain⟨j,N,I⟩:=List.getElem_of_mem C;have m:l[j]? =some (l[j]'(by rw[<-c.length];exact N)):=Aj _;obtain⟨R,O,Z⟩:=c.get m;have:R=v:=by rw[Aj N]at O;simpa[I]using O.symm
  subst this;rw[Z.cells_size];have:=As.1 o _ (List.mem_of_getElem? m);simpa using this
 have d:=Vn (size:=i.size) vs 0 [] (madeCells b.cells (len*i.size)).toList (by simp) (by simp[size_madeCells,f]) y
 have run:(Instr.buildSlice t len (parts.map fun(i,x)=>(i,a.eval x))).run P w=.ok (.slice (some ⟨w.heap.size,0,none⟩) len len) (w.alloc (.cells ⟨vs.flatMap fun v=>v.cells.toList⟩ e)):=by
  have V:(parts.map fun(p:Nat×Operand)=>(p.1,a.eval p.2)).toList=(List.range' 0 vs.length).zip vs:=by rw[Array.toList_map];exact Q
  have s:(madeCells b.cells (len*i.size))=(Array.range (len*i.size)).map (b.cells[· % b.cells.size]!):=rfl;have K:¬(16777216<len*i.size):=by omega
  by_cases g:len*i.size=0
  ·have H:len=0:=by
    rcases Nat.eq_zero_or_pos len with h'|h'
    ·exact h'
    ·have:=Nat.mul_pos h' Y;omega
   have A:vs= []:=Aw (by omega);subst A;subst H
   have F:parts= #[]:=by
    have:parts.toList= []:=by simpa using Q
    exact Array.toList_inj.1 (by simpa using this)
   subst F;simp[Instr.buildSlice,run_underlying J,DC hi,Instr.fill,Rg]
   congr 2
   apply Array.toList_inj.1;simp
  ·have X:Instr.fill (fun q=>some (q*i.size,i.size)) ((Array.range (len*i.size)).map (b.cells[· % b.cells.size]!)) (parts.map fun(p:Nat×Operand)=>(p.1,a.eval p.2)).toList=some ⟨vs.flatMap fun v=>v.cells.toList⟩:=by
    rw[V,<-s];simpa using d
   simp only[Instr.buildSlice,Sem.run_bind,run_underlying J,Result.andThen_ok,DC hi];rw[show(2:Nat)^24=16777216 from rfl,An (by omega)];simp only[Sem.run_bind,Sem.run_pure,Result.andThen_ok,An g,Lb hi S,X,Rg]
 exact⟨vs,c,f,run⟩
theorem Af4(h:SR P G w0 M0 n st a w z){o:Oper}{U:aa}(c:Cf P o=some U)(f:U.cls=.new){d:Nat}{sv:SV}{ob:Ob}(j:By (so G st.fr) d U=some (sv,ob))(S:d<n)(O:st.ob d=.none):
  Jw P G w0 M0 n st a w o d sv ob:=by
 unfold Cf at c;split at c<;>rename_i N<;>(try cases c;done)
 ·simp only[Aa]at c;obtain⟨_,_,rfl⟩:=c;cases f
 ·simp only[Aa]at c;obtain⟨_,_,rfl⟩:=c;cases f
 ·simp only[Ab,Aa]at c;obtain⟨_,_,_,_,_,_,rfl⟩:=c;cases f
 ·
  rename_i t
  split at c<;>(
  simp only[Ab,Aa]at c;obtain⟨i,hi,I,K,zc,D,rfl⟩:=c;simp only[By,Ac,Prod.mk.injEq]at j;obtain⟨rfl,rfl⟩:=j;refine Qy h S O (by intro T hT;first|(cases hT;rfl)|cases hT) (t:=t) (vs:=I.cells.toList) (s:=Instr.alloc t true (.tuple #[])) (by simp only[execOp,N]) ?_ (AH.of_c (RelC.cells (FI _ _ I zc D)))
  simp[Instr.alloc,Lb hi K,XO])
 ·
  rename_i t x;simp only[Aa]at c;obtain⟨sx,W,rfl⟩:=c;have A:=h.ctx.opd W;simp only[By]at j
  have run:(Instr.box t (a.eval x)).run P w=.ok (.pointer (some ⟨w.heap.size,0,none⟩)) (w.alloc (.cells ⟨(a.eval x).cells.toList⟩ t)):=by
   simp[Instr.box,XO]
  generalize so G st.fr sx=q at A j;split at j
  ·rename_i cs;simp only[Ac,Prod.mk.injEq]at j;obtain⟨rfl,rfl⟩:=j;exact Qy h S O (by intro T hT;cases hT) (by simp only[execOp,N]) run (AH.of_c (RelC.cells A))
  ·cases j
  ·rename_i hne hnu;simp only[Ac,Prod.mk.injEq]at j;obtain⟨rfl,rfl⟩:=j;have Y:=Uk h A hne hnu;rw[Y]at run;exact Qy h S O (by intro T hT;cases hT) (by simp only[execOp,N]) run ⟨a.eval x,[],rfl,A,rfl⟩
 ·simp only[Ab,Aa]at c;obtain⟨_,_,_,_,_,_,_,_,rfl⟩:=c;cases f
 ·
  rename_i t len parts;split at c<;>(try cases c;done);rename_i e L;simp only[Ab,Ae,Ac]at c;obtain⟨i,hi,I,K,zc,D,xs,hxs,⟨hlen,h0,X,hle⟩,rfl⟩:=c;simp only[By,Ab,Ae,Ac,Prod.mk.injEq]at j;obtain⟨l,hl,H,rfl,rfl⟩:=j;obtain⟨vs,u,F,run⟩:=Wy h L hi K D hxs hlen h0 X hle hl H
  have V:(vs.flatMap fun v=>v.cells.toList).length=len*i.size:=by
   have:=Hz (L1 u H);rw[this,<-F,u.length]
  refine HU h S O (by simp only[execOp,N]) run (GH _ _) (fun g C=> ?_) fun Q hz'=>⟨⟨vs.flatMap fun v=>v.cells.toList,DO.of ⟨?_,.inr ⟨w.heap.size,len,⟨vs.flatMap fun v=>v.cells.toList⟩, ?_,Nat.zero_le _,Gk _ _, ?_, ?_,by simp[V], ?_⟩⟩,AU.keep Q (L1 u H)⟩,FS (by simp),DB.symm⟩
  ·simp only[blk,Ac]at C;subst C;exact⟨Nat.le_refl _,by simp⟩
  ·rw[V,<-F,u.length]
  ·rw[<-F,u.length]
  ·rw[<-F,u.length];exact Nat.le_refl _
  ·have hm:len<=len*i.size:=Nat.le_mul_of_pos_right _ h0;unfold maxLen;omega
  ·rw[<-u.length,F];rw[List.take_of_length_le (by simp[V])]
 ·simp only[Ab,Aa]at c;obtain⟨_,_,_,_,rfl⟩:=c;cases f
 ·simp only[Ab,Aa]at c;obtain⟨_,_,_,_,_,_,rfl⟩:=c;cases f
 ·have:=HE c;rw[f]at this;cases this
 ·simp only[Aa]at c;obtain⟨_,_,rfl⟩:=c;cases f
 ·have:=I1 c;rw[f]at this;rcases this with h'|h'<;>cases h'
 ·simp only[Aa]at c;obtain⟨_,_,rfl⟩:=c;cases f
 ·split at c<;>(try cases c;done);all_goals(simp only[Ae,Aa]at c;obtain⟨_,_,_,rfl⟩:=c;cases f)
 ·
  rename_i t;simp only[Aa,Prod.exists]at c;obtain⟨kt,zc,hmt,rfl⟩:=c;simp only[By,Ac,Prod.mk.injEq]at j;obtain⟨rfl,rfl⟩:=j
  refine HU h S O (s:=Instr.makeMap t none) (v:=.map (some w.heap.size)) (w':=w.alloc (.map #[] 0)) (by simp only[execOp,N,Option.map_none]) (by simp[Instr.makeMap]) (GH _ _) (fun g C=> ?_)
   fun Q K=>⟨⟨hmt,[],[],w.heap.size,[],0,MP.refl rfl,rfl,Gk _ _,RelL.nil,RelL.nil,(fun _ R=>by cases R),List.nodup_nil,(fun _ R=>by cases R),List.nodup_nil,fun k b R=>by simp[Cz.new]at R⟩,FS (by simp),DB.symm⟩
  simp only[blk,Ac]at C;subst C;exact⟨Nat.le_refl _,by simp⟩
 ·
  rename_i t x y;split at c<;>(try cases c;done);rename_i e L;simp only[Ab,Ae,Ac]at c;obtain⟨i,hi,I,K,zc,D,sx,W,sy,hy,⟨h0,X⟩,rfl⟩:=c;have A:=h.ctx.opd W;have hr2:=h.ctx.opd hy;simp only[By]at j;generalize so G st.fr sx=q at A j;generalize so G st.fr sy=q2 at hr2 j;split at j<;>(try cases j;done);rename_i k1 l k2 m;simp only[Ae,Ac,Prod.mk.injEq]at j;obtain⟨⟨g1,g2,g3,g4⟩,rfl,rfl⟩:=j;have Z:=Cw (w:=w) (M:=A3 M0 z st.ob) A;have e2:=Cw (w:=w) (M:=A3 M0 z st.ob) hr2;have hvz:I.cells.size=i.size:=by rw[(FI w ⟨fun _=>False,fun _=>0⟩ I zc D).cells_size,X]
  have J:(i.bytes:Int)*m<=281474976710656:=by rw[Int.mul_comm];omega
  have run:=run_make (P:=P) w t e i I L hi K k1 k2 l m g1 g2 J (by omega)
  refine HU h S O (s:=Instr.makeSlice t (a.eval x) (a.eval y)) (by simp only[execOp,N]) (by rw[Z,e2];exact run) (GH _ _) (fun g C=> ?_)
   fun Q hz'=>⟨⟨(madeCells I.cells (l.toNat*i.size)).toList,DO.of ⟨?_,.inr ⟨w.heap.size,m.toNat,madeCells I.cells (m.toNat*i.size), ?_,Nat.zero_le _,Gk _ _, ?_, ?_,size_madeCells _ _, ?_⟩⟩,Tt (FI _ _ I zc D) hvz _⟩,FS (by simp),DB.symm⟩
  ·simp only[blk,Ac]at C;subst C;exact⟨Nat.le_refl _,by simp⟩
  ·simp[size_madeCells]
  ·simp
  ·simp;omega
  ·unfold maxLen;omega
  ·rw[List.length_replicate];exact Aju _ (Nat.mul_le_mul_right _ (by omega))
 ·split at c<;>(try cases c;done);simp only[Ab,Aa]at c;obtain⟨_,_,_,_,_,_,_,_,_,_,rfl⟩:=c;cases f
 ·split at c<;>(try cases c;done)
  ·simp only[Ab,Aa]at c;obtain⟨_,_,_,_,_,_,rfl⟩:=c;cases f
  ·simp only[Ab,Aa]at c;obtain⟨_,_,_,_,_,_,_,_,rfl⟩:=c;cases f
  ·split at c<;>(try cases c;done);simp only[Ab,Ae,Aa]at c;obtain⟨_,_,_,_,_,rfl⟩:=c;cases f
 ·split at c<;>(try cases c;done)
  ·simp only[Aa]at c;obtain⟨_,_,rfl⟩:=c;cases f
  ·simp only[Ab,Option.ite_none_left_eq_some,Aa]at c;obtain⟨_,_,_,_,_,_,_,rfl⟩:=c;cases f
 ·split at c<;>(try cases c;done);simp only[Ab,Aa]at c;obtain⟨_,_,_,_,_,_,rfl⟩:=c;cases f
 ·split at c<;>(try cases c;done)
  ·simp only[Ab,Option.ite_none_left_eq_some,Aa]at c;obtain⟨_,_,_,_,_,_,_,rfl⟩:=c;cases f
  ·simp only[Ab,Option.ite_none_left_eq_some,Aa]at c;obtain⟨_,_,_,_,_,_,_,rfl⟩:=c;cases f
 ·split at c<;>(try cases c;done)
  ·simp only[Ab,Aa]at c;obtain⟨_,_,_,_,rfl⟩:=c;cases f
  ·simp only[Ab,Aa]at c;obtain⟨_,_,_,_,_,_,_,_,rfl⟩:=c;cases f
 ·simp only[Ab,Aa]at c;obtain⟨_,_,_,_,_,_,rfl⟩:=c;cases f
 ·split at c<;>(try cases c;done);simp only[Ab,Aa]at c;obtain⟨_,_,_,_,_,_,rfl⟩:=c;cases f
 ·split at c<;>(try cases c;done);simp only[Ab,Aa]at c;obtain⟨_,_,_,_,_,_,rfl⟩:=c;cases f
 ·split at c<;>(try cases c;done);simp only[Ab,Aa]at c;obtain⟨_,_,_,_,rfl⟩:=c;cases f
 ·simp only[Ab,Aa]at c;obtain⟨_,_,_,_,_,_,rfl⟩:=c;cases f
 ·
  rename_i t x;split at c<;>(try cases c;done)
  ·rename_i L;simp only[Aa]at c;obtain⟨sx,W,rfl⟩:=c;have A:=h.ctx.opd W;simp only[By]at j;generalize so G st.fr sx=q at A j;split at j<;>(try cases j;done);rename_i s;simp only[Ac,Prod.mk.injEq]at j;obtain⟨rfl,rfl⟩:=j;have Z:=Dy (w:=w) (M:=A3 M0 z st.ob) A
   refine HU h S O (s:=Instr.range t (a.eval x)) (v:=.pointer (some ⟨w.heap.size,0,none⟩)) (w':=w.alloc (.stringIter ⟨⟨s⟩⟩ 0)) (by simp only[execOp,N]) (by rw[Z];simp[Instr.range,run_underlying L]) (GH _ _) (fun g C=> ?_)
    fun Q K=>⟨⟨w.heap.size,rfl,Gk _ _⟩,FS (by simp),DB.symm⟩
   simp only[blk,Ac]at C;subst C;exact⟨Nat.le_refl _,by simp⟩
  ·rename_i kt et L;simp only[Aa]at c;obtain⟨sx,W,rfl⟩:=c;have A:=h.ctx.opd W;simp only[By]at j;generalize so G st.fr sx=q at A j;split at j<;>(try cases j;done);rename_i nl ks vs;simp only[Ac,Prod.mk.injEq]at j;obtain⟨rfl,rfl⟩:=j;unfold AA RelC at A;obtain⟨mr,Z,_,_,hn0,hb⟩:=A
   have mk:∀(mo:Option Nat) (r:Nat),(Instr.range t (a.eval x)).run P w=.ok (.pointer (some ⟨w.heap.size,0,none⟩)) (w.alloc (.mapIter mo r #[] r))->dj w (A3 M0 z st.ob) mo r #[] ks vs none->Jw P G w0 M0 n st a w o d (.iter d) (.miter ks vs none):=by
    intro mo r hrun hm
    refine HU h S O (s:=Instr.range t (a.eval x)) (by simp only[execOp,N]) hrun (GH _ _) (fun g C=> ?_)
     fun Q K=>⟨⟨w.heap.size,mo,r, #[],rfl,Gk _ _,hm.keep Q⟩,FS (by simp),DB.symm⟩
    simp only[blk,Ac]at C;subst C;exact⟨Nat.le_refl _,by simp⟩
   cases mr with
   |none=>
    obtain⟨hk0,hv0⟩:=hn0 rfl;exact mk none 0 (by rw[Z];simp[Instr.range,run_underlying L]) (.inl ⟨rfl,hk0,hv0,rfl⟩)
   |some b=>
    obtain⟨hm,ens,ens',clk,R,hE,hp,Q,j⟩:=hb b rfl;refine mk (some b) clk ?_ (.inr ⟨b,ens,ens',rfl,hm,R,hE,by rw[List.filter_eq_self.2 (by simp)];exact hp,Q,j,fun p hp=>by cases hp⟩);rw[Z];simp[Instr.range,run_underlying L,getObj,Sem.run,R,Result.andThen]
 ·simp only[Aa]at c;obtain⟨_,_,rfl⟩:=c;cases f
 ·simp only[Aa]at c;obtain⟨_,_,rfl⟩:=c;cases f
 ·simp only[Aa]at c;obtain⟨_,_,rfl⟩:=c;cases f
 ·have:=ZZ c;rw[f]at this;exact absurd rfl this
end
section
variable {P:Program} {G:Nat->List CV} {w0:WL} {M0:MM} {n:Nat} {st:St} {a:Act} {w w':World} {z:Cz}
theorem Kn{id g:Nat}(b:st.ob id≠ .none)(c:blk (z.σ id)=some g):A3 M0 z st.ob g:=.inr ⟨id,b,c⟩
theorem SR.to_grown(h:SR P G w0 M0 n st a w z){id:Nat}(f:st.ob id≠ .none)(b:w.grownBy w' (blk (z.σ id))):w0.To w':=
 ⟨b.os.trans h.below.os,b.tape.trans h.below.tape,b.output.trans h.below.output,Nat.le_trans h.below.size b.size,fun k c d=>
  (b.block k (Nat.lt_of_lt_of_le c h.below.size) fun e=>d id (h.low f e.symm c)).trans (h.below.block k c d)⟩
theorem SR.turnK{id:Nat}(f:st.ob id≠ .none){o':Ob}(d:o'≠ .none)(h:w.grownBy w' (blk (z.σ id))){β':CV->Nat->Prop}:
  Bu w (A3 M0 z st.ob) w' (A3 M0 {z with β:=ac z.β id β'} (ac st.ob id o')):=by
 have live:∀i,ac st.ob id o' i≠ .none<->st.ob i≠ .none:=by
  intro i;by_cases hi:i=id
  ·subst hi;rw[Be];exact⟨fun _=>f,fun _=>d⟩
  ·rw[AL _ _ hi]
 exact⟨h.size,fun g c b=>h.block g c (fun e=>b (Kn f e.symm)),fun g _ b=>by
  rcases b with b|⟨i,h1,h2⟩
  ·exact .inl b
  ·exact .inr ⟨i,(live i).1 h1,h2⟩,rfl⟩
theorem SR.turn(h:SR P G w0 M0 n st a w z){id:Nat}(q:st.ob id≠ .none){o':Ob}(x:o'≠ .none)(m:w.grownBy w' (blk (z.σ id))){β':CV->Nat->Prop}(t:∀k b,z.β id k b->β' k b)(o:bA o'=true->bA (st.ob id)=true)
  (D:Bu w (A3 M0 z st.ob) w' (A3 M0 {z with β:=ac z.β id β'} (ac st.ob id o'))->(∀s,F7 st.ob z (ac st.ob id o') {z with β:=ac z.β id β'} s)->
   Bg P w' (A3 M0 {z with β:=ac z.β id β'} (ac st.ob id o')) 0 {z with β:=ac z.β id β'} (ac st.ob id o') id (z.σ id) o'):
  SR P G w0 M0 n {st with ob:=ac st.ob id o'} a w' {z with β:=ac z.β id β'}:=by
 have live:∀i,ac st.ob id o' i≠ .none<->st.ob i≠ .none:=by
  intro i;by_cases hi:i=id
  ·subst hi;rw[Be];exact⟨fun _=>q,fun _=>x⟩
  ·rw[AL _ _ hi]
 have y:Bu w (A3 M0 z st.ob) w' (A3 M0 {z with β:=ac z.β id β'} (ac st.ob id o')):=⟨m.size,fun g v f=>m.block g v (fun e=>f (Kn q e.symm)),fun g _ f=>by
  rcases f with f|⟨i,d,p⟩
  ·exact .inl f
  ·exact .inr ⟨i,(live i).1 d,p⟩,rfl⟩
 have u:∀s,F7 st.ob z (ac st.ob id o') {z with β:=ac z.β id β'} s:=fun s=>⟨fun i _ d=>(live i).2 d,fun _ _ _=>rfl,fun i _ _ k b C=>by
  by_cases hi:i=id
  ·subst hi;simp only[Be];exact t k b C
  ·simp only[AL _ _ hi];exact C⟩
 refine⟨h.size,h.defers,h.to_grown q m,h.outer,h.nam.of rfl (fun N H r=> ?_),h.glob,fun i=>AA.keep y (u _) (h.fr i),fun i=> ?_,fun i g d p=> ?_,fun i j g A d p=>h.apart i j g A ((live i).1 d) ((live j).1 p)⟩
 ·by_cases hi:N=id
  ·subst hi;simp only[Be]at r;exact⟨o r,rfl⟩
  ·simp only[AL _ _ hi]at r;exact⟨r,rfl⟩
 ·by_cases hi:i=id
  ·subst hi;simp only[Be];exact D y u
  ·simp only[AL _ _ hi];by_cases c:st.ob i=.none
   ·rw[c];trivial
   ·exact Bg.keep y (fun g l=>m.block g (h.lo i g c l).2 (fun e=>h.apart i id g hi c q l e.symm)) (fun _ _ s _=>u s) (fun k b F=>by simpa[AL _ _ hi]using F) (h.ob i)
 ·have:=h.lo i g ((live i).1 d) p;exact⟨this.1,Nat.lt_of_lt_of_le this.2 m.size⟩
theorem SR.renew(h:SR P G w0 M0 n st a w z){id:Nat}(y:st.ob id≠ .none){o':Ob}{o:Value}(A:w.grownBy w' (blk (z.σ id)))(L:∀g,blk o=some g->blk (z.σ id)=some g\/(w.heap.size<=g/\g<w'.heap.size))(K:bA o'=false)
  (W:Bu w (A3 M0 z st.ob) w' (A3 M0 (z.new id o) (ac (kill [id] st).ob id o'))->Bg P w' (A3 M0 (z.new id o) (ac (kill [id] st).ob id o')) 0 (z.new id o) (ac (kill [id] st).ob id o') id o o'):
  SR P G w0 M0 n {fr:=(kill [id] st).fr,ob:=ac (kill [id] st).ob id o'} a w' (z.new id o):=by
 have live:∀i,i≠id->(ac (kill [id] st).ob id o' i≠ .none<->st.ob i≠ .none):=by
  intro i hi;rw[AL _ _ hi,Gz];simp[hi]
 have d:∀i,i≠id->(z.new id o).σ i=z.σ i:=fun i hi=>by simp[Cz.new,ac,hi]
 have O:Bu w (A3 M0 z st.ob) w' (A3 M0 (z.new id o) (ac (kill [id] st).ob id o')):=⟨A.size,fun g H F=>A.block g H (fun e=>F (Kn y e.symm)),fun g H F=>by
  rcases F with F|⟨i,m,l⟩
  ·exact .inl F
  ·by_cases hi:i=id
   ·subst hi;rw[DB]at l;rcases L g l with f|f
    ·exact Kn y f
    ·omega
   ·rw[d i hi]at l
    exact Kn ((live i hi).1 m) l,rfl⟩
 have S:∀s:SV,∀v,AA w (A3 M0 z st.ob) z st.ob s v->AA w' (A3 M0 (z.new id o) (ac (kill [id] st).ob id o')) (z.new id o) (ac (kill [id] st).ob id o') (AD [id] s) v:=by
  intro s v U
  cases V:s.ref with
  |none=>
   cases s<;>simp[SV.ref]at V
   ·exact RelC.keep O _ _ U
   ·trivial
  |some i=>
   by_cases hi:i=id
   ·subst hi;have:AD [i] s=.undef:=by cases s<;>simp_all[SV.ref,AD]
    rw[this];trivial
   ·have e:AD [id] s=s:=by cases s<;>simp_all[SV.ref,AD]
    rw[e];refine AA.keep O ⟨fun j p m=> ?_,fun j p m=> ?_,fun j p m k b X=> ?_⟩ U;all_goals(rw[V]at p;cases p)
    ·exact(live i hi).2 m
    ·exact d i hi
    ·simpa[Cz.new,hi]using X
 have Q:∀(cs:List SV) vs,AH w (A3 M0 z st.ob) z st.ob cs vs->AH w' (A3 M0 (z.new id o) (ac (kill [id] st).ob id o')) (z.new id o) (ac (kill [id] st).ob id o') (cs.map (AD [id])) vs:=by
  intro cs
  induction cs with
  |nil=>intro vs I;exact I
  |cons c cs ih=>
   intro vs I;obtain⟨v,D,e,m,l⟩:=I;exact⟨v,D,e,S c v m,ih D l⟩
 refine⟨h.size,h.defers,h.to_grown y A,h.outer,h.nam.of rfl (fun N hN q=> ?_),h.glob,fun i=>S _ _ (h.fr i),fun i=> ?_,fun i g m l=> ?_,fun i j g x m l f C=> ?_⟩
 ·by_cases hi:N=id
  ·subst hi;simp only[Be]at q;rw[K]at q;cases q
  ·simp only[AL _ _ hi]at q;refine⟨?_,d N hi⟩;unfold kill at q;simp only at q;split at q
   ·cases q
   ·rw[QA]at q;exact q
 ·by_cases hi:i=id
  ·subst hi;simp only[Be,DB];exact W O
  ·simp only[AL _ _ hi,d i hi];have e:(kill [id] st).ob i=Cp [id] (st.ob i):=by simp[kill,hi]
   rw[e];have t:=h.ob i
   cases u:st.ob i with
   |none=>trivial
   |box cs=>
    rw[u]at t;obtain⟨g,ty,vs,R,Z,Y⟩:=t;have r:st.ob i≠ .none:=by rw[u];simp
    exact⟨g,ty,vs,R,(A.block g (h.lo i g r (by rw[R];rfl)).2 (fun e'=>h.apart i id g hi r y (by rw[R];rfl) e'.symm)).trans Z,Q cs vs Y⟩
   |_=>
    rw[u]at t;have r:st.ob i≠ .none:=by rw[u];simp
    exact Bg.keep O (fun g J=>A.block g (h.lo i g r J).2 (fun e=>h.apart i id g hi r y J e.symm)) (fun cs q=>by cases q) (fun k b I=>by simpa[Cz.new,hi]using I) t
 ·by_cases hi:i=id
  ·subst hi;simp only[DB]at l;rcases L g l with f|f
   ·have:=h.lo i g y f;exact⟨this.1,Nat.lt_of_lt_of_le this.2 A.size⟩
   ·exact⟨.inl (Nat.le_trans h.below.size f.1),f.2⟩
  ·rw[d i hi]at l;have:=h.lo i g ((live i hi).1 m) l;exact⟨this.1,Nat.lt_of_lt_of_le this.2 A.size⟩
 ·by_cases hi:i=id
  ·subst hi;have p:j≠i:=fun e=>x e.symm;rw[DB]at f;rw[d j p]at C;rcases L g f with h5|h5
   ·exact h.apart i j g x y ((live j p).1 l) h5 C
   ·have:=(h.lo j g ((live j p).1 l) C).2;omega
  ·by_cases p:j=id
   ·subst p;rw[DB]at C;rw[d i hi]at f;rcases L g C with h5|h5
    ·exact h.apart i j g x ((live i hi).1 m) y f h5
    ·have:=(h.lo i g ((live i hi).1 m) f).2;omega
   ·rw[d i hi]at f;rw[d j p]at C;exact h.apart i j g x ((live i hi).1 m) ((live j p).1 l) f C
theorem WM{M:MM}{c:CV}{v:Value}(h:RelC w M c v)(d:C7 c=true):v.oneCell'=true:=by
 cases c<;>simp[C7]at d<;>unfold RelC at h<;>first
  |(rcases h with rfl|rfl<;>first|rfl|exact Xy _ _)
  |(subst h;rfl)
  |(subst h;exact Xy _ _)
  |(obtain⟨_,_,rfl⟩:=h;rfl)
  |(obtain⟨_,_,_,rfl,_⟩:=h;rfl)
  |(obtain⟨_,b,_⟩:=h;unfold bV at b;split at b<;>first|(subst b;rfl)|(obtain⟨_,_,rfl⟩:=b;rfl))
  |(obtain⟨_,rfl,_⟩:=h;rfl)
  |(obtain⟨_,_,rfl,_⟩:=h;rfl)
theorem Nr{M:MM}:∀{cs:List CV} {vs:List Value},RelL w M cs vs->cs.all C7=true->∀v∈vs,v.oneCell'=true
 | [],vs,h,_,v,hv=>by unfold RelL at h;subst h;cases hv
 |c::cs,vs,h,hc,v,hv=>by
  unfold RelL at h;obtain⟨u,us,rfl,d,b⟩:=h;simp only[List.all_cons,Ag]at hc;rcases List.mem_cons.1 hv with rfl|hv
  ·exact WM d hc.1
  ·exact Nr b hc.2 v hv
theorem PS(w:World)(g:Nat)(cs:Array Value):w.grownBy (w.setRow g cs) (some g):=by
 refine⟨rfl,rfl,rfl,by simp[World.setRow],fun k _ b=> ?_⟩;simp only[World.setRow,Array.getElem?_modify];rw[An (fun e=>b (by rw[e]))]
end
section
variable {P:Program} {G:Nat->List CV} {w0:WL} {M0:MM} {n:Nat} {st:St} {a:Act} {w w':World} {z:Cz}
theorem AH.append{M:MM}{ob:Nat->Ob}:∀{cs c:List SV} {vs us:List Value},AH w M z ob cs vs->AH w M z ob c us->AH w M z ob (cs++c) (vs++us)
 | [],_,_,_,h,k=>by unfold AH at h;subst h;exact k
 |_::_,_,_,_,h,k=>by
  obtain⟨v,b,rfl,e,d⟩:=h;exact⟨v,b++_,rfl,e,AH.append d k⟩
theorem Agg(h:SR P G w0 M0 n st a w z){s:SV}{v:Value}(j:AA w (A3 M0 z st.ob) z st.ob s v)(q:HY s=true):v.oneCell'=true:=by
 have live:∀id,st.ob id≠ .none->(z.σ id).oneCell'=true:=by
  intro id l;have f:=h.ob id
  cases d:st.ob id with
  |none=>exact absurd d l
  |box cs=>rw[d]at f;obtain⟨g,ty,vs,e,_⟩:=f;rw[e];rfl
  |arr e size es=>
   rw[d]at f;obtain⟨xs,m,_⟩:=f;rcases m.2 with⟨e,_⟩|⟨g,cap,p,_,_,e,_⟩<;>rw[e]<;>rfl
  |map mt kt zc ks vs=>rw[d]at f;obtain⟨_,_,_,r,t,u,_,e,_⟩:=f;rw[e];rfl
  |siter s bj=>rw[d]at f;obtain⟨r,e,_⟩:=f;rw[e];rfl
  |miter ks vs p=>rw[d]at f;obtain⟨r,A,x,y,e,_⟩:=f;rw[e];rfl
  |buf e s=>
   rw[d]at f;rcases f.2 with⟨e,_⟩|⟨g,cap,p,C,e,_⟩<;>rw[e]<;>rfl
 cases s with
 |c cv=>exact WM j q
 |ptr id o=>obtain⟨_,g,_,e⟩:=j;rw[e];rfl
 |eptr id i sz o=>obtain⟨_,g,n,c,_,e⟩:=j;rw[e];rfl
 |osl id=>obtain⟨l,e⟩:=j;rw[e];exact live id l
 |omap id=>obtain⟨l,e⟩:=j;rw[e];exact live id l
 |iter id=>obtain⟨l,e⟩:=j;rw[e];exact live id l
 |stamp id k=>obtain⟨_,b,_,e⟩:=j;rw[e];rfl
 |ent id k cv=>simp[HY]at q
 |undef=>simp[HY]at q
def DX(P:Program)(G:Nat->List CV)(w0:WL)(M0:MM)(n:Nat)(st':St)(a:Act)(w:World)(o:Oper):Prop:=
 (∃v w' z',(execOp a.eval o).run P w=.ok (.value v) w'/\SR P G w0 M0 n st' (a.put o.dst v) w' z')\/
 (∃w' z',(execOp a.eval o).run P w=.ok .skip w'/\SR P G w0 M0 n st' (a.put o.dst undef) w' z')
theorem Aib{w:World}{g:Nat}{cs:Array Value}{t:TypeId}{fr:Nat×Nat}(h:w.heap[g]? =some (.cells cs t fr)):w.setRow g cs=w:=by
 have e:(w.setRow g cs).heap=w.heap:=by
  apply Array.ext_getElem?;intro k;by_cases b:k=g
  ·subst b;rw[setRow_heap w k _ _ _ _ h,h]
  ·exact setRow_other w g k cs b
 cases w;simp only[World.setRow]at e⊢;rw[e]
theorem XR(g o:Nat)(t:TypeId)(d:Nat×Nat):∀(vs:List Value) (i:Nat) (b:Array Value) (w:World),w.heap[g]? =some (.cells b t d)->(d=(0,0)\/o+i+vs.length<=d.1)->o+i+vs.length<=b.size->(∀v∈vs,v.oneCell'=true)->
  (storeCells ⟨g,o,none⟩ vs i).run P w=.ok () (w.setRow g (b.toList.take (o+i)++vs++b.toList.drop (o+i+vs.length)).toArray)
 | [],i,b,w,hg,_,_,_=>by
  simp only[storeCells,List.append_nil,Av,Nat.add_zero,List.take_append_drop,Array.toArray_toList];rw[setRow_self w g b t d hg];rfl
 |v::rest,i,b,w,hg,hfz,hl,h1=>by
  have hi:o+i<b.size:=by simp at hl;omega
  have h:(⟨g,o,none⟩:Addr).add i=⟨g,o+i,none⟩:=by unfold Addr.add;split<;>simp_all
  have c:w.cell? ⟨g,o+i,none⟩=some b[o+i]:=by simp[World.cell?,hg,hi]
  have f:w.frozen? ⟨g,o+i,none⟩=false:=by
   obtain⟨lo,m⟩:=d;simp only[World.frozen?,hg,Bool.and_eq_false_iff,decide_eq_false_iff_not];rcases hfz with hfz|hfz
   ·cases hfz;right;omega
   ·left;simp at hfz;omega
  have j:(store ((⟨g,o,none⟩:Addr).add i) v).run P w=.ok () (w.setRow g (b.setIfInBounds (o+i) v)):=by
   rw[h,run_store P w _ v _ (h1 v (by simp)),c];simp[f,setCell_eq_setRow w g (o+i) b t d v hg]
  have k:=XR g o t d rest (i+1) (b.setIfInBounds (o+i) v) (w.setRow g (b.setIfInBounds (o+i) v)) (setRow_heap w g b _ t _ hg) (by rcases hfz with hfz|hfz;exact .inl hfz;right;simp at hfz;omega) (by simp at hl⊢;omega) (fun x l=>h1 x (by simp[l]));simp only[storeCells,Sem.run_bind,j,Result.andThen_ok,k,setRow_setRow]
  congr 3
  have e:=list_seg_step b.toList (o+i) v rest (by simp at hl⊢;omega);simpa[Array.toList_setIfInBounds,Nat.add_assoc]using e
theorem Rh{t:TypeId}{i:TypeInfo}(hi:P.info? t=some i){g o:Nat}{vs us:List Value}{v:Value}{ty:TypeId}(e:v.cells=⟨us⟩)(f:us.length=i.size){b:Nat×Nat}(h:w.heap[g]? =some (.cells ⟨vs⟩ ty b))(c:o+us.length<=vs.length)
  (j:∀u∈us,u.oneCell'=true) (d:b=(0,0)\/o+us.length<=b.1:=by exact .inl rfl):(storeVar t ⟨g,o,none⟩ v).run P w=.ok () (w.setRow g ⟨vs.take o++us++vs.drop (o+us.length)⟩):=by
 have:=XR (P:=P) g o ty b us 0 ⟨vs⟩ w h (by simpa using d) (by simpa using c) j;simp only[Nat.add_zero]at this;simp[storeVar,DC hi,e,f,this]
theorem Tu{M:MM}{size:Nat}:∀{es:List CV} {xs:List Value} {i:Nat} {b:CV} {d:Value},AU w M size es xs->i<es.length->RelC w M b d->d.cells.size=size->
  AU w M size (es.set i b) (xs.take (i*size)++d.cells.toList++xs.drop (i*size+size))
 | [],xs,i,b,d,_,hi,_,_=>by simp at hi
 |e::es,xs,0,b,d,h,_,hr,hs=>by
  obtain⟨v,c,rfl,f,j,g⟩:=h;refine⟨d,c, ?_,hs,hr,g⟩;have:v.cells.toList.length=size:=by simpa using f
  simp[this]
 |e::es,xs,i+1,b,d,h,hi,hr,hs=>by
  obtain⟨v,c,rfl,f,j,g⟩:=h;have l:v.cells.toList.length=size:=by simpa using f
  have k:=Tu g (by simpa using hi) hr hs;refine⟨v,c.take (i*size)++d.cells.toList++c.drop (i*size+size), ?_,f,j,k⟩;rw[Nat.add_mul,Nat.one_mul];rw[List.take_append,List.drop_append,l];rw[List.take_of_length_le (by omega),List.drop_eq_nil_of_le (by omega)];rw[show i*size+size-size=i*size by omega,show i*size+size+size-size=i*size+size by omega];simp
theorem Aa5(h:SR P G w0 M0 n st a w z){o:Oper}{t:TypeId}{ad x:Operand}(ho:o.op=.store t ad x)(hdst:o.dst=none){i:TypeInfo}(hi:P.info? t=some i){sa sx:SO}(hsa:A4 ad=some sa)(hsx:A4 x=some sx){st':St}
  (e:AY none (so G st.fr) st (.store i.size sa sx)=some st'):DX P G w0 M0 n st' a w o:=by
 have hr:=h.ctx.deref (rd:=st.ob) (fun _=>.inr rfl) (h.ctx.opd hsa);have f:=h.ctx.opd hsx;simp only[AY]at e;generalize WB.deref st.ob (so G st.fr sa)=q at hr e;generalize so G st.fr sx=q2 at f e
 have av:∀{w' z'},(Instr.storeAt t (a.eval ad) (a.eval x)).run P w=.ok () w'->SR P G w0 M0 n st' a w' z'->DX P G w0 M0 n st' a w o:=by
  intro w' z' hr hS;refine .inr ⟨w',z',by simp[execOp,ho,hr], ?_⟩;rw[hdst];exact hS
 cases q<;>(try simp only[reduceCtorEq]at e;done)
 ·
  rename_i Y;cases Y<;>(try simp only[reduceCtorEq]at e;done);rename_i cs
  cases cs with
  |nil=>cases e
  |cons c0 cs=>
   cases cs with
   |cons _ _=>cases c0<;>cases e
   |nil=>
    cases c0<;>(try cases e;done);rename_i b;cases q2<;>(try cases e;done);rename_i c2;cases c2<;>(try cases e;done);rename_i b';simp only[Ae,Ac]at e;obtain⟨⟨r,rfl⟩,rfl⟩:=e;unfold AA RelC at hr f;obtain⟨g,ty,vs,U,e2,S,N⟩:=hr;unfold RelL RelC at N;obtain⟨v,vs',rfl,rfl,N⟩:=N;unfold RelL at N;subst N;refine av (w':=w) (z':=z) ?_ h;have H:=Rh (P:=P) (t:=t) (w:=w) hi (g:=g) (o:=0) (vs:= [.bool b]) (us:= [.bool b]) (v:=.bool b) (ty:=ty) rfl (by simp[r]) e2 (by simp) (by simp[Value.oneCell']);have hsame:w.setRow g ⟨[Value.bool b]⟩=w:=Aib e2;simp only[List.take_zero,Ay,Au,Av,Nat.zero_add,List.drop_succ_cons,List.drop_zero,List.append_nil,List.cons_append,List.drop_nil]at H;rw[hsame]at H;simp[Instr.storeAt,Instr.sureAddr,U,f,H]
 ·
  rename_i id off;obtain⟨p,g,U,e2⟩:=hr;have J:=h.ob id;cases A:st.ob id<;>simp only[A,reduceCtorEq]at e;rename_i cs bt;rw[A]at J;obtain⟨g',ty,vs,S,N,e5⟩:=J;rw[U]at S;simp only[Value.pointer.injEq,Ac,Addr.mk.injEq,and_true]at S;subst S;have hlen:=AH.length e5
  have go:∀(us:List Value) (ss:List SV),(a.eval x).cells=⟨us⟩->us.length=i.size->off+us.length<=vs.length->(∀u∈us,u.oneCell'=true)->AH w (A3 M0 z st.ob) z st.ob ss us->
    st'={st with ob:=ac st.ob id (.box (cs.take off++ss++cs.drop (off+us.length)) bt)}->DX P G w0 M0 n st' a w o:=by
   intro us ss O hsz hle r hss hst;subst hst;refine av (w':=w.setRow g ⟨vs.take off++us++vs.drop (off+us.length)⟩) ?_ (SR.turn h p (by simp) (by rw[U];exact PS w g _) (fun _ _ K=>K) (fun _=>by rw[A];rfl) fun hk hz=>⟨g,ty,_,U,setRow_heap w g _ _ _ _ N, ?_⟩)
   ·simp[Instr.storeAt,Instr.sureAddr,e2,Rh hi O hsz N hle r]
   ·exact AH.keep hk (fun s _=>hz s) (((e5.take off).append hss).append (e5.drop _))
  have one:∀(v:SV),AA w (A3 M0 z st.ob) z st.ob v (a.eval x)->(∀l,v≠ .c (.agg l))->(if i.size=1/\off<cs.length/\HY v=true then some {st with ob:=ac st.ob id (.box (cs.set off v) bt)}else none)=some st'->DX P G w0 M0 n st' a w o:=by
   intro v hrv hna e;simp only[Ae,Ac]at e;obtain⟨⟨r,h2,h3⟩,rfl⟩:=e;have hcell:=Uk h hrv hna (by rintro rfl;simp[HY]at h3);have I:(a.eval x).oneCell'=true:=Agg h hrv h3;refine go [a.eval x] [v] hcell (by simp[r]) (by simp[hlen];omega) (by simpa using I) ⟨a.eval x,[],rfl,hrv,rfl⟩ ?_
   congr 3
   simp only[Au,Av,Nat.zero_add];rw[List.set_eq_take_append_cons_drop,Ao h2];simp
  cases q2 with
  |c Y=>
   cases Y with
   |agg l=>
    simp only[Ae,Ac]at e;obtain⟨⟨r,h2,h3⟩,rfl⟩:=e;unfold AA RelC at f;obtain⟨us,e6,hl⟩:=f;have y:=hl.length;refine go us (l.map .c) (by rw[e6];rfl) (by rw[y,r]) (by omega) (Nr hl h3) (AH.of_c hl) ?_;simp[FY,y]
   |_=>exact one _ f (fun l K=>by cases K) e
  |_=>exact one _ f (fun l K=>by cases K) e
 ·
  rename_i id j size off;obtain⟨p,g,n',c',U,e2⟩:=hr;have J:=h.ob id;cases A:st.ob id<;>simp only[A,reduceCtorEq]at e;rename_i et sz es;rw[A]at J;obtain⟨xs,hown,hf⟩:=J;cases q2<;>(try simp only[reduceCtorEq]at e;done);rename_i Y;simp only[Ae,Ab,Ac]at e;obtain⟨⟨rfl,hn0,hn,I⟩,X,hel,hle,rfl⟩:=e;have hjl:j<es.length:=(Af.1 hel).1;have hxl:=Hz hf;obtain⟨u,hu1,hu2,hu3⟩:=GE hf hel;have O:=RelC.cells f
  have y:(a.eval x).cells.toList.length=i.size:=by
   have:=f.cells_size;simpa[hn]using this
  have C:Bk X=size:=by rw[<-hu1.cells_size,hu2]
  rcases hown.2 with⟨S,N⟩|⟨g',cap,d,ty,fz,S,N,e5,k5,k6,e6,e7,e8,e9⟩
  ·omega
  ·rw[U]at S;simp only[Value.slice.injEq,Ac,Addr.mk.injEq,and_true]at S;obtain⟨rfl,rfl,rfl⟩:=S;have hcl:d.toList.length=c'*size:=by simpa using e8
   have hbound:j*size+size<=es.length*size:=by
    have:=Nat.mul_le_mul_right size (show j+1<=es.length by omega);rw[Nat.add_mul,Nat.one_mul]at this;exact this
   have hcap:es.length*size<=c'*size:=Nat.mul_le_mul_right _ e6;have run:=Rh (P:=P) (w:=w) hi (g:=g) (o:=j*size+off) (vs:=d.toList) (us:=(a.eval x).cells.toList) (v:=a.eval x) (ty:=ty) rfl y (by simpa using e5) (by omega) (Nr O I) (by rcases k6 with k6|k6;exact .inl k6;right;omega)
   obtain⟨m,hu1',V⟩:∃m,RelC w (A3 M0 z st.ob) (G5 X off i.size Y) m/\m.cells.toList=u.cells.toList.take off++(a.eval x).cells.toList++u.cells.toList.drop (off+i.size):=by
    have Q:(∀l,X≠ .agg l)->G5 X off i.size Y=Y->∃m,RelC w (A3 M0 z st.ob) (G5 X off i.size Y) m/\m.cells.toList=u.cells.toList.take off++(a.eval x).cells.toList++u.cells.toList.drop (off+i.size):=by
     intro hna hp;have r:Bk X=1:=by cases X<;>first|rfl|exact absurd rfl (hna _)
     have h2:u.cells.toList.length=1:=by simpa[hu2,<-C]using r
     have h3:off=0:=by omega
     have h4:i.size=1:=by omega
     refine⟨a.eval x,by rw[hp];exact f, ?_⟩;rw[h3,h4,List.drop_eq_nil_of_le (by omega)];simp
    cases X with
    |agg l=>
     have W:=RelC.cells hu1;refine⟨.agg ⟨u.cells.toList.take off++(a.eval x).cells.toList++u.cells.toList.drop (off+i.size)⟩, ?_,rfl⟩;show RelC _ _ (.agg _) _;unfold RelC;exact⟨_,rfl,((W.take off).append O).append (W.drop _)⟩
    |_=>exact Q (fun l K=>by cases K) rfl
   have Z:u.cells.toList.length=size:=by simpa using hu2
   have D:m.cells.size=size:=by
    have:m.cells.toList.length=size:=by
     rw[V];simp only[List.length_append,List.length_take,List.length_drop,y,Z];omega
    simpa using this
   have R:u.cells.toList=(d.toList.drop (j*size)).take size:=by
    apply List.ext_getElem?;intro k;by_cases hk:k<size
    ·have hku:u.cells.toList[k]? =some (u.cells.toList[k]'(by omega)):=Aj _;have r:=hu3 k (u.cells.toList[k]'(by omega)) (by rw[<-Array.getElem?_toList];exact hku);rw[<-e9,List.getElem?_take]at r;split at r
     ·rw[hku,List.getElem?_take,Ao hk,List.getElem?_drop];exact r.symm
     ·cases r
    ·rw[List.getElem?_eq_none (by omega),List.getElem?_eq_none (by simp;omega)]
   have hrow:d.toList.take (j*size+off)++(a.eval x).cells.toList++d.toList.drop (j*size+off+(a.eval x).cells.toList.length)=d.toList.take (j*size)++m.cells.toList++d.toList.drop (j*size+size):=by
    rw[V,R,y];rw[List.take_take,Nat.min_eq_left (by omega),List.drop_take];have t1:d.toList.take (j*size+off)=d.toList.take (j*size)++(d.toList.drop (j*size)).take off:=by rw[List.take_add]
    have t2:d.toList.drop (j*size+off+i.size)=((d.toList.drop (j*size)).drop (off+i.size)).take (size-(off+i.size))++d.toList.drop (j*size+size):=by
     have:d.toList.drop (j*size+size)=((d.toList.drop (j*size)).drop (off+i.size)).drop (size-(off+i.size)):=by
      rw[List.drop_drop,List.drop_drop];congr 1;omega
     rw[this,List.take_append_drop,List.drop_drop];congr 1;omega
    rw[t1,t2];simp only[Ax]
   rw[hrow]at run
   have L:(d.toList.take (j*size)++m.cells.toList++d.toList.drop (j*size+size)).length=c'*size:=by
    have F:m.cells.toList.length=size:=by simpa using D
    simp only[List.length_append,List.length_take,List.length_drop,F,hcl];omega
   have hx':(d.toList.take (j*size)++m.cells.toList++d.toList.drop (j*size+size)).take (es.length*size)=xs.take (j*size)++m.cells.toList++xs.drop (j*size+size):=by
    have F:m.cells.toList.length=size:=by simpa using D
    have hp:(d.toList.take (j*size)++m.cells.toList).length=j*size+size:=by
     simp only[List.length_append,List.length_take,F,hcl];omega
    rw[List.take_append,List.take_of_length_le (by omega),hp];rw[<-e9,List.take_take,Nat.min_eq_left (by omega),List.drop_take]
   refine av (w':=w.setRow g ⟨d.toList.take (j*size)++m.cells.toList++d.toList.drop (j*size+size)⟩) ?_ (SR.turn h p (by simp) (by rw[U];exact PS w g _) (fun _ _ K=>K) (fun K=>by cases K) fun hk hz=>⟨xs.take (j*size)++m.cells.toList++xs.drop (j*size+size),⟨?_,.inr ⟨g,c',⟨d.toList.take (j*size)++m.cells.toList++d.toList.drop (j*size+size)⟩,ty,fz, ?_,N,setRow_heap w g _ _ _ _ e5,k5,k6, ?_,e7,by simpa using L, ?_⟩⟩,AU.keep hk (Tu hf hjl hu1' D)⟩)
   ·simp[Instr.storeAt,Instr.sureAddr,e2,run]
   ·rw[<-hx',List.length_take,List.length_set,L];omega
   ·rw[U,List.length_set]
   ·rw[List.length_set];exact e6
   ·rw[List.length_set];exact hx'
end
section
variable {P:Program} {G:Nat->List CV} {w0:WL} {M0:MM} {n:Nat} {st:St} {a:Act} {w w':World} {z:Cz}
theorem Tr{M:MM}{d:Addr}{size:Nat}:∀{i:Nat} {es:List CV},RelE w M d size i es->∃xs,AU w M size es xs/\∀(j:Nat) u,xs[j]? =some u->w.cell? (d.add (i*size+j))=some u
 |i,[],_=>⟨[],rfl,fun j u b=>by simp at b⟩
 |i,e::es,h=>by
  unfold RelE at h;obtain⟨⟨v,l,c,k⟩,g⟩:=h;obtain⟨xs,o,m⟩:=Tr g;refine⟨v.cells.toList++xs,⟨v,xs,rfl,c,l,o⟩,fun j u b=> ?_⟩;have f:v.cells.toList.length=size:=by simpa using c
  by_cases p:j<size
  ·rw[List.getElem?_append_left (by omega)]at b;exact k j u (by simpa using b)
  ·rw[List.getElem?_append_right (by omega),f]at b;have:=m _ u b;rw[show(i+1)*size+(j-size)=i*size+j by rw[Nat.add_mul];omega]at this;exact this
theorem L2{M:MM}{size:Nat}:∀{es:List CV} {xs:List Value},AU w M size es xs->(es.all fun v=>v.cells.all C7)=true->∀u∈xs,u.oneCell'=true
 | [],xs,h,_,u,hu=>by unfold AU at h;subst h;cases hu
 |e::es,xs,h,h1,u,hu=>by
  obtain⟨v,b,rfl,f,d,c⟩:=h;simp only[List.all_cons,Ag]at h1;rcases List.mem_append.1 hu with hu|hu
  ·exact Nr (RelC.cells d) h1.1 u hu
  ·exact L2 c h1.2 u hu
theorem Q8(h:SR P G w0 M0 n st a w z){s:SV}{v:Value}(H:AA w (A3 M0 z st.ob) z st.ob s v){news:List CV}(p:CF st s=some news){size:Nat}(k:(news.all fun v=>Bk v==size)=true):
  ∃A c xs,v=.slice A news.length c/\AU w (A3 M0 z st.ob) size news xs/\(A=none->news= [])/\∀i,A=some i->∀(j:Nat) u,xs[j]? =some u->w.cell? (i.add j)=some u:=by
 cases s<;>(try simp only[CF,reduceCtorEq]at p;done)
 ·rename_i R;cases R<;>(try simp only[CF,reduceCtorEq]at p;done);rename_i U es;simp only[CF,Ac]at p;subst p;unfold AA RelC at H;obtain⟨A,len,c,l,f,_,_,_,V,Q⟩:=H;subst f;by_cases r:es= []
  ·subst r;exact⟨A,c,[],l,rfl,fun _=>rfl,fun i _ j u b=>by simp at b⟩
  ·obtain⟨i,m,O,_,_,hE⟩:=Q r;subst O;obtain⟨xs,K,N⟩:=Tr hE
   have o:m=size:=by
    cases es with
    |nil=>exact absurd rfl r
    |cons e es=>
     obtain⟨v,C,_,F,D,_⟩:=K;simp only[List.all_cons,Ag,beq_iff_eq]at k;rw[<-F,D.cells_size,k.1]
   subst o;refine⟨some i,c,xs,l,K,(fun q=>by cases q),fun S q j u b=> ?_⟩;cases q;have:=N j u b;simpa using this
 ·rename_i id;obtain⟨I,l⟩:=H;have J:=h.ob id;simp only[CF]at p;cases x:st.ob id<;>simp only[x,reduceCtorEq,Ac]at p;rename_i et sz es;subst p;rw[x]at J;obtain⟨xs,d,t⟩:=J
  have o:es= []\/sz=size:=by
   cases es with
   |nil=>exact .inl rfl
   |cons e es=>
    obtain⟨v,C,_,F,D,_⟩:=t;simp only[List.all_cons,Ag,beq_iff_eq]at k;exact .inr (by rw[<-F,D.cells_size,k.1])
  rcases o with rfl|rfl
  ·have:xs= []:=by unfold AU at t;exact t
   subst this;rcases d.2 with⟨f,_⟩|⟨g,cap,y,_,_,f,_⟩
   ·exact⟨none,0,[],by rw[l,f];rfl,rfl,fun _=>rfl,fun i _ j u b=>by simp at b⟩
   ·exact⟨_,cap,[],by rw[l,f],rfl,fun _=>rfl,fun i _ j u b=>by simp at b⟩
  ·rcases Nat.eq_zero_or_pos es.length with h0|h0
   ·have:es= []:=Aw h0;subst this;have:xs= []:=by unfold AU at t;exact t
    subst this;rcases d.2 with⟨f,_⟩|⟨g,cap,y,_,_,f,_⟩
    ·exact⟨none,0,[],by rw[l,f];rfl,rfl,fun _=>rfl,fun i _ j u b=>by simp at b⟩
    ·exact⟨_,cap,[],by rw[l,f],rfl,fun _=>rfl,fun i _ j u b=>by simp at b⟩
   ·obtain⟨g,cap,y,f,_,L⟩:=Nv d h0;refine⟨some ⟨g,0,none⟩,cap,xs,by rw[l,f],t,(fun q=>by cases q),fun i q j u b=> ?_⟩;cases q;rw[DY];simpa using L j u b
theorem Aho(base:Nat)(t ty e:TypeId)(i:TypeInfo)(size:Nat)(f:P.underlying t=some (.slice e))(hi:P.info? e=some i)
  (v:Value) (n:Nat) (xs:List Value) (b:w.ownsRow base e size v n xs) (c:Nat):(Builtin.append_ #[t,t] ty #[v,.slice none 0 c]).run P w=.ok v w:=by
 rcases b.2 with⟨rfl,rfl⟩|⟨g,cap,h,rfl,_,_,d,_⟩
 ·simp[Builtin.append_,run_underlying f,Go.sizeOf,typeInfo,hi,Builtin.lenOf,Builtin.firstCells]
 ·simp[Builtin.append_,run_underlying f,Go.sizeOf,typeInfo,hi,Builtin.lenOf,Builtin.firstCells,d,storeCells]
theorem WX{v:Value}{B e size n:Nat}{xs:List Value}(h:w.ownsRow B e size v n xs):v.ownBlock=blk v:=by
 rcases h.2 with⟨rfl,_⟩|⟨g,cap,b,rfl,_⟩<;>rfl
theorem Rd(base:Nat)(t ty e:TypeId)(i:TypeInfo)(o:Value)(x:P.underlying t=some (.slice e))(hi:P.info? e=some i)(D:i.zero=some o)
  (p:o.cells.size=i.size) (q:0<i.size) (v:Value) (n:Nat) (xs:List Value) (b:w.ownsRow base e i.size v n xs)
  (A:Option Addr) (m c:Nat) (news:List Value) (k:news.length=m*i.size) (J:A=none->m=0) (I:∀l,A=some l->∀(j:Nat) u,news[j]? =some u->w.cell? (l.add j)=some u) (K:∀u∈news,u.oneCell'=true)
  (r:n+m<=maxLen) (d:(n+m)*i.bytes<=140737488355328) (f:base<=w.heap.size):
  ∃g w',(Builtin.append_ #[t,t] ty #[v,.slice A m c]).run P w=.ok g w'/\w'.ownsRow base e i.size g (n+m) (xs++news)/\w.grownBy w' (blk v)/\
   (blk g=blk v\/blk g=some w.heap.size):=by
 cases A with
 |none=>
  have H:=J rfl;subst H;have F:news= []:=Aw (by simpa using k);subst F;exact⟨v,w,Aho base t ty e i i.size x hi v n xs b c,by simpa using b,World.grownBy.refl w _,.inl rfl⟩
 |some l=>
  obtain⟨g,w',h,C,y,_,s⟩:=run_append_own_at (P:=P) w base t ty e i o i.size i.bytes x hi D rfl rfl p q v n xs b l m c news k (I l rfl) K r d f;rw[WX b]at y s;rw[WX C]at s;exact⟨g,w',h,C,y,s⟩
theorem Aa0(h:SR P G w0 M0 n st a w z){o:Oper}{t e:TypeId}{i:TypeInfo}{zv:Value}{x y:Operand}{args:Array Operand}{argTypes:Array TypeId}(ho:o.op=.call {callee:=.builtin .append,args:=args,argTypes:=argTypes})
  (C:args.toList= [x,y]) (hat:argTypes.toList= [t,t]) (ht:P.underlying t=some (.slice e)) (hi:P.info? e=some i) (hz:i.zero=some zv) (S:zv.cells.size=i.size) (U:0<i.size)
  (hd:∀j,o.dst=some j->j<n) {sx sy:SO} (hx:A4 x=some sx) (hy:A4 y=some sy) {st':St} (f:AY o.dst (so G st.fr) st (.append e i.size i.bytes sx sy)=some st'):DX P G w0 M0 n st' a w o:=by
 have hr:=h.ctx.opd hx;have V:=h.ctx.opd hy;simp only[AY]at f;generalize so G st.fr sx=q at hr f;generalize so G st.fr sy=q2 at V f
 cases p:CF st q2 with
 |none=>rw[p]at f;cases f
 |some news=>
  rw[p]at f;simp only[Ae,Ag]at f;obtain⟨⟨hall,X⟩,f⟩:=f;obtain⟨A,c,F,e1,J,hA,s⟩:=Q8 h V p hall;have K:=Hz J;have u:=L2 J X
  have av:∀{D w' z'},(Builtin.append_ #[t,t] o.type #[a.eval x,a.eval y]).run P w=.ok D w'->SR P G w0 M0 n st' (a.put o.dst D) w' z'->DX P G w0 M0 n st' a w o:=by
   intro D w' z' m hS;refine .inl ⟨D,w',z', ?_,hS⟩;obtain⟨al⟩:=args;obtain⟨tl⟩:=argTypes;simp only at C hat
   subst C;subst hat
   simp[execOp,ho,resolve,invoke,builtin,m]
  cases q<;>(try simp only[reduceCtorEq]at f;done)
  ·
   rename_i cv;cases cv<;>(try simp only[reduceCtorEq]at f;done);rename_i nl es;cases nl<;>(try simp only[reduceCtorEq]at f;done);rename_i b;cases b<;>(try simp only[reduceCtorEq]at f;done);simp only[Ae]at f;obtain⟨⟨O,hb2⟩,f⟩:=f
   cases H:o.dst with
   |none=>rw[H]at f;cases f
   |some d=>
    rw[H]at f;simp only[Ac]at f;subst f;unfold AA RelC at hr;obtain⟨A',len,c',e2,e3,_,e4,_,e5,e6⟩:=hr;have hA':=e4 rfl;subst hA'
    have hes:es= []:=by
     cases es with
     |nil=>rfl
     |cons e es=>obtain⟨ad,size,hh,_⟩:=e6 (by simp);cases hh
    subst hes;have hc0:=e5 rfl;subst hc0;subst e3;have hk:=h.killed [d];have L:w.ownsRow 0 e i.size (.slice none 0 0) 0 []:=⟨by simp,.inl ⟨rfl,rfl⟩⟩;obtain⟨D,w',m,h2,Q,r⟩:=Rd (P:=P) 0 t o.type e i zv ht hi hz S U (.slice none 0 0) 0 [] L A news.length c F K (fun hh=>by simp[hA hh]) s u (by unfold maxLen;omega) (by simpa using O) (Nat.zero_le _);rw[e2,e1]at av;refine av (z':=z.new d D) m ?_;rw[H];have hgb:Below w.heap.size w w':=⟨Q.os,Q.tape,Q.output,Q.size,fun k hk=>Q.block k hk (by simp[blk])⟩;have v:(kill [d] st).ob d=.none:=by simp[kill]
    have I:∀g,blk D=some g->w.heap.size<=g/\g<w'.heap.size:=by
     intro g l;rcases r with r|r
     ·rw[r]at l;simp[blk]at l
     ·rw[l]at r;simp only[Ac]at r;subst r;rcases h2.2 with⟨R,_⟩|⟨g',cap,cur,R,_,e8,_⟩
      ·rw[R]at l;simp[blk]at l
      ·rw[R]at l;simp only[blk,Ac]at l;exact⟨Nat.le_refl _,by rw[<-l];exact C1 e8⟩
    have kn:=MK (M0:=M0) (z:=z) (o:=.arr e i.size news) v hgb (fun g l=>(I g l).1);have hkk:Bu w (A3 M0 z st.ob) w (A3 M0 z (kill [d] st).ob):=⟨Nat.le_refl _,fun _ _ _=>rfl,fun g _ l=>Or.imp id KI l,rfl⟩;exact hk.new (hd d H) v hgb I ⟨F,DO.of (by simpa using h2),AU.keep kn (AU.keep hkk J)⟩ ⟨FS (by simp),DB.symm⟩
  ·
   rename_i id;obtain⟨N,e2⟩:=hr;have Z:=h.ob id;cases Y:st.ob id<;>simp only[Y,reduceCtorEq]at f;rename_i et sz es;simp only[Ae,Ac]at f;obtain⟨⟨rfl,rfl,O,hb2⟩,rfl⟩:=f;rw[Y]at Z;obtain⟨xs,W,hf⟩:=Z;obtain⟨D,w',m,h2,Q,r⟩:=Rd (P:=P) 0 t o.type et i zv ht hi hz S U (z.σ id) es.length xs (W.own hi) A news.length c F K (fun hh=>by simp[hA hh]) s u (by unfold maxLen;omega) O (Nat.zero_le _);rw[e2,e1]at av;refine av (z':=z.new id D) m ?_
   have I:∀g,blk D=some g->blk (z.σ id)=some g\/(w.heap.size<=g/\g<w'.heap.size):=by
    intro g l;rcases r with r|r
    ·exact .inl (r▸l)
    ·rw[l]at r;simp only[Ac]at r;subst r;rcases h2.2 with⟨R,_⟩|⟨g',cap,cur,R,_,e8,_⟩
     ·rw[R]at l;simp[blk]at l
     ·rw[R]at l;simp only[blk,Ac]at l;exact .inr ⟨Nat.le_refl _,by rw[<-l];exact C1 e8⟩
   have hS:=h.renew (o':=.arr et i.size (es++news)) N Q I rfl fun hk=>⟨xs++F,DO.of (by simpa using h2),AU.keep hk (OM hf J)⟩;exact hS.put hd ⟨by simp[Be],DB.symm⟩
theorem Tv{w:World}{M:MM}{size:Nat}:∀{es:List CV} {xs:List Value} (k:Nat),AU w M size es xs->AU w M size (es.take k) (xs.take (k*size))
 | [],xs,k,h=>by
  have:xs= []:=h;subst this;simp[AU]
 |e::es,xs,0,h=>by simp[AU]
 |e::es,xs,k+1,h=>by
  obtain⟨v,b,rfl,c,g,f⟩:=h;have d:v.cells.toList.length=size:=by simpa using c
  refine⟨v,b.take (k*size), ?_,c,g,Tv k f⟩;rw[Nat.add_mul,Nat.one_mul,List.take_append,List.take_of_length_le (by omega),d]
  congr 2
  omega
theorem Ts{w:World}{M:MM}{size:Nat}:∀{es:List CV} {xs:List Value} (k:Nat),AU w M size es xs->AU w M size (es.drop k) (xs.drop (k*size))
 | [],xs,k,h=>by
  have:xs= []:=h;subst this;simp[AU]
 |e::es,xs,0,h=>by simpa using h
 |e::es,xs,k+1,h=>by
  obtain⟨v,b,rfl,f,i,d⟩:=h;have c:v.cells.toList.length=size:=by simpa using f
  have:=Ts k d
  have g:(v.cells.toList++b).drop ((k+1)*size)=b.drop (k*size):=by
   rw[Nat.add_mul,Nat.one_mul,List.drop_append,List.drop_eq_nil_of_le (show v.cells.toList.length<=k*size+size by omega),Ay,c,show k*size+size-size=k*size by omega]
  rw[g];exact this
theorem Aht(w:World){dT sT ty elem:TypeId}{i:TypeInfo}{g dLen dCap:Nat}{A:Option Addr}{m c:Nat}{b:Array Value}{t:TypeId}{cs:List Value}(o:P.underlying dT=some (.slice elem))(hi:P.info? elem=some i)
  (p:w.heap[g]? =some (.cells b t (0,0))) (q:cs.length=Nat.min m dLen*i.size) (r:A=none->cs= []) (f:∀l,A=some l->∀(j:Nat) v,cs[j]? =some v->w.cell? (l.add j)=some v) (k:cs.length<=b.size) (s:∀v∈cs,v.oneCell'=true):
  (Builtin.copy_ #[dT,sT] ty #[.slice (some ⟨g,0,none⟩) dLen dCap,.slice A m c]).run P w=.ok (goInt (Nat.min m dLen)) (w.setRow g (cs++b.toList.drop cs.length).toArray):=by
 have d:=run_storeCells_at P g 0 t cs 0 b w p (by simpa using k) s;simp only[Nat.zero_add,List.take_zero,Ay]at d
 cases A with
 |none=>
  have:=r rfl;subst this;have e:w.setRow g b=w:=setRow_self w g b t (0,0) p;simp[Builtin.copy_,run_underlying o,Builtin.lenOf,Builtin.firstCells,Go.sizeOf,typeInfo,hi,storeCells,e]
 |some l=>
  have h:=run_loadCells_list (P:=P) w l cs (f l rfl);rw[q]at h;simp[Builtin.copy_,run_underlying o,Builtin.lenOf,Builtin.firstCells,Go.sizeOf,typeInfo,hi,h,d]
theorem Aa1(h:SR P G w0 M0 n st a w z){o:Oper}{t e:TypeId}{i:TypeInfo}{x y:Operand}{args:Array Operand}{argTypes:Array TypeId}(ho:o.op=.call {callee:=.builtin .copy,args:=args,argTypes:=argTypes})
  (r:args.toList= [x,y]) (X:argTypes.toList= [t,t]) (ht:P.underlying t=some (.slice e)) (hi:P.info? e=some i) (hsz:0<i.size)
  (hd:∀j,o.dst=some j->j<n) {sx sy:SO} (hx:A4 x=some sx) (hy:A4 y=some sy) {st':St} (d:AY o.dst (so G st.fr) st (.cpy e i.size sx sy)=some st'):DX P G w0 M0 n st' a w o:=by
 have hr:=h.ctx.opd hx;have Q:=h.ctx.opd hy;simp only[AY]at d;generalize so G st.fr sx=q at hr d;generalize so G st.fr sy=q2 at Q d
 cases f:CF st q2 with
 |none=>rw[f]at d;cases d
 |some news=>
  rw[f]at d;cases q<;>(try simp only[reduceCtorEq]at d;done);rename_i id;obtain⟨F,e2⟩:=hr;have S:=h.ob id;cases D:st.ob id<;>simp only[D,reduceCtorEq]at d;rename_i et sz es;simp only[Ae,Ac,Ag]at d;obtain⟨⟨⟨rfl,rfl⟩,Y,R⟩,rfl⟩:=d;rw[D]at S;obtain⟨xs,O,hf⟩:=S;obtain⟨A,c,l,e1,I,hA,s⟩:=Q8 h Q f Y;have K:=Hz I;have hxl:=Hz hf;have C:=L2 I R
  have av:∀{w' z'},(Builtin.copy_ #[t,t] o.type #[a.eval x,a.eval y]).run P w=.ok (goInt (Nat.min news.length es.length)) w'->SR P G w0 M0 n {st with ob:=ac st.ob id (.arr et i.size (news.take (min news.length es.length)++es.drop (min news.length es.length)))} a w' z'->DX P G w0 M0 n (St.set {st with ob:=ac st.ob id (.arr et i.size (news.take (min news.length es.length)++es.drop (min news.length es.length)))} o.dst (.c (.int .i64 (min news.length es.length:Nat)))) a w o:=by
   intro w' z' N hS;refine .inl ⟨goInt (Nat.min news.length es.length),w',z', ?_,hS.put hd ?_⟩
   ·obtain⟨al⟩:=args;obtain⟨tl⟩:=argTypes;simp only at r X
    subst r;subst X
    simp[execOp,ho,resolve,invoke,builtin,N]
   ·show RelC _ _ _ _;exact E4
  have u:=O.own hi;rw[e2,e1]at av;rcases u.2 with⟨Z,e4⟩|⟨g,cap,J,Z,e4,e5,e6,e7,e8,e9⟩
  ·have hes:es= []:=Aw e4;subst hes;rw[Z]at av;refine av (w':=w) (z':=z) ?_ ?_
   ·cases A with
    |none=>simp[Builtin.copy_,run_underlying ht,Builtin.lenOf,Builtin.firstCells,Go.sizeOf,typeInfo,hi]
    |some ad=>
     have V:=run_loadCells_list (P:=P) w ad [] (by simp);simp only[Av]at V;simp[Builtin.copy_,run_underlying ht,Builtin.lenOf,Builtin.firstCells,Go.sizeOf,typeInfo,hi,V]
   ·have:{st with ob:=ac st.ob id (.arr et i.size (news.take (min news.length ([]:List CV).length)++([]:List CV).drop (min news.length ([]:List CV).length)))}=st:=by
     have e:ac st.ob id (.arr et i.size (news.take (min news.length ([]:List CV).length)++([]:List CV).drop (min news.length ([]:List CV).length)))=st.ob:=by
      funext j;rw[Cc];split
      ·rename_i hj;rw[hj,D];simp
      ·rfl
     rw[e]
    rw[this];exact h
  ·have hk:Nat.min news.length es.length=min news.length es.length:=rfl;have hle1:min news.length es.length*i.size<=news.length*i.size:=Nat.mul_le_mul_right _ (Nat.min_le_left _ _);have U:min news.length es.length*i.size<=es.length*i.size:=Nat.mul_le_mul_right _ (Nat.min_le_right _ _);have hle3:es.length*i.size<=cap*i.size:=Nat.mul_le_mul_right _ e6;have b:(l.take (min news.length es.length*i.size)).length=min news.length es.length*i.size:=by rw[List.length_take,K];omega
   have W:J.toList.length=cap*i.size:=by simpa using e8
   rw[Z]at av
   have run:=Aht (P:=P) (dT:=t) (sT:=t) (ty:=o.type) (dLen:=es.length) (dCap:=cap) (A:=A) (m:=news.length) (c:=c) (cs:=l.take (min news.length es.length*i.size)) w ht hi e5 (by rw[b,hk]) (fun H=>by
     have:=hA H;subst this
     simp) (fun ad H j v d=>by
     rw[List.getElem?_take]at d;split at d
     ·exact s ad H j v d
     ·cases d) (by rw[b,<-Array.length_toList,W];omega) (fun v d=>C v (List.mem_of_mem_take d))
   rw[b]at run
   have L:(l.take (min news.length es.length*i.size)++J.toList.drop (min news.length es.length*i.size)).take (es.length*i.size)=l.take (min news.length es.length*i.size)++xs.drop (min news.length es.length*i.size):=by
    rw[List.take_append,List.take_of_length_le (by rw[b];exact U),b,<-e9,List.drop_take]
   have p:(l.take (min news.length es.length*i.size)++J.toList.drop (min news.length es.length*i.size)).length=cap*i.size:=by
    rw[List.length_append,b,List.length_drop,W];omega
   have k:(news.take (min news.length es.length)++es.drop (min news.length es.length)).length=es.length:=by
    rw[List.length_append,List.length_take,List.length_drop];omega
   refine av run (SR.turn h F (by simp) (by rw[Z];exact PS w g _) (fun _ _ H=>H) (fun H=>by cases H) fun hkk hz=>⟨l.take (min news.length es.length*i.size)++xs.drop (min news.length es.length*i.size),DO.of ⟨?_,.inr ⟨g,cap,_, ?_,e4,setRow_heap w g _ _ _ _ e5, ?_,e7,by simpa using p, ?_⟩⟩,AU.keep hkk (OM (Tv _ I) (Ts _ hf))⟩)
   ·rw[<-L,List.length_take,k,p];omega
   ·rw[Z,k]
   ·rw[k];exact e6
   ·rw[k];exact L
end
section
variable {P:Program} {G:Nat->List CV} {w0:WL} {M0:MM} {n:Nat} {st:St} {a:Act} {w w':World} {z:Cz}
def G8(w:World)(r:Nat)(o:Obj):World:={w with heap:=w.heap.setIfInBounds r o}
theorem Lf{r:Nat}{o o':Obj}(h:w.heap[r]? =some o)(b:∀c t f,o≠ .cells c t f):(setObj r o').run P w=.ok () (G8 w r o'):=by
 simp only[setObj,Sem.run,h];cases o<;>first|exact absurd rfl (b _ _ _)|rfl
theorem Yh{r:Nat}{o o':Obj}(h:w.heap[r]? =some o):(G8 w r o').heap[r]? =some o':=by
 have:=C1 h;simp[G8,this]
theorem Rj(w:World)(r:Nat)(o:Obj):w.grownBy (G8 w r o) (some r):=by
 refine⟨rfl,rfl,rfl,by simp[G8],fun k _ b=> ?_⟩;simp only[G8,Array.getElem?_setIfInBounds];rw[An (fun e=>b (by rw[e]))]
theorem IR(h:SR P G w0 M0 n st a w z){id:Nat}{mt:TypeId}{kt:KT}{zc:CV}{ks vs:List CV}(f:st.ob id=.map mt kt zc ks vs):
  G3 P mt=some (kt,zc)/\∃(c b:List CV) (r:Nat) (d:List MapEntry) (e:Nat),MP ks vs c b/\z.σ id=.map (some r)/\w.heap[r]? =some (.map ⟨d⟩ e)/\L0 w (A3 M0 z st.ob) (z.β id) kt c b d e:=by
 have:=h.ob id;rw[f]at this;exact this
theorem Qq{id:Nat}{mt:TypeId}{kt:KT}{zc:CV}{ks vs:List CV}(b:st.ob id=.map mt kt zc ks vs):st.ob id≠ .none:=by rw[b];simp
theorem map_set(h:SR P G w0 M0 n st a w z){id:Nat}{mt:TypeId}{kt:KT}{zc:CV}{ks vs:List CV}{r:Nat}{c:List MapEntry}{p:Nat}(x:z.σ id=.map (some r))(hh:w.heap[r]? =some (.map ⟨c⟩ p))
  {K J u t:List CV} (C:st.ob id=.map mt kt zc K J) (Q:G3 P mt=some (kt,zc)) (hB:L0 w (A3 M0 z st.ob) (z.β id) kt ks vs c p)
  {i:Nat} {k v:CV} (R:MP u t ks (vs.set i v)) {vk vv:Value} (S:ks[i]? =some k) (O:RelC w (A3 M0 z st.ob) k vk) (N:RelC w (A3 M0 z st.ob) v vv) (β':CV->Nat->Prop) (L:∀k b,z.β id k b->β' k b)
  (y:∀k b,β' k b->z.β id k b\/∃g,c[i]? =some g/\ks[i]? =some k/\g.born=b):
  SR P G w0 M0 n {st with ob:=ac st.ob id (.map mt kt zc u t)} a (G8 w r (.map ((⟨c⟩:Array MapEntry).modify i (fun e=>{e with key:=vk,val:=vv})) p)) {z with β:=ac z.β id β'}:=by
 obtain⟨U,h2,Z,h4,Y,h6,h7⟩:=hB;have hi:i<ks.length:=(Af.1 S).1;have l:i<c.length:=by have:=U.length;rw[List.length_map]at this;omega
 have hE:c[i]? =some (c[i]'l):=Aj _;obtain⟨v0,W,g2⟩:=U.get S;rw[List.getElem?_map,hE]at W;simp only[Aq,Ac]at W
 have D:c[i].key=vk:=by
  rw[W];exact(Po (Z k (List.mem_of_getElem? S)) g2 O).1
 have hl:((⟨c⟩:Array MapEntry).modify i (fun e=>{e with key:=vk,val:=vv})).toList=c.set i {c[i]with key:=vk,val:=vv}:=by
  apply List.ext_getElem?;intro j;rw[Array.getElem?_toList,Array.getElem?_modify,List.getElem?_set];by_cases d:i=j
  ·subst d;simp[l]
  ·simp[d]
 have s:((c.set i {c[i]with key:=vk,val:=vv}).map (·.key))=c.map (·.key):=by
  rw[List.map_set];apply List.ext_getElem?;intro j;rw[List.getElem?_set];by_cases d:i=j
  ·subst d;simp[l,D]
  ·simp[d]
 have o:((c.set i {c[i]with key:=vk,val:=vv}).map (·.born))=c.map (·.born):=by
  rw[List.map_set];apply List.ext_getElem?;intro j;rw[List.getElem?_set];by_cases d:i=j
  ·subst d;simp[l]
  ·simp[d]
 have A:((⟨c⟩:Array MapEntry).modify i (fun e=>{e with key:=vk,val:=vv}))=⟨c.set i {c[i]with key:=vk,val:=vv}⟩:=Array.toList_inj.1 hl;rw[A];refine SR.turn h (Qq C) (by simp) (by rw[x];exact Rj w r _) L (fun _=>by rw[C];rfl) fun q hz=>⟨Q,_,_,r,_,p,R,x,Yh hh, ?_, ?_,Z,h4, ?_, ?_, ?_⟩
 ·rw[s];exact RelL.keep q _ _ U
 ·rw[List.map_set];exact RelL.set i (RelL.keep q _ _ h2) (RelC.keep q _ _ N)
 ·intro g m;rcases List.mem_or_eq_of_mem_set m with m|m
  ·exact Y g m
  ·rw[m];exact Y c[i] (List.mem_of_getElem? hE)
 ·rw[o];exact h6
 ·intro X b I;simp only[Be]at I
  have put:∀(j:Nat) (g:MapEntry),c[j]? =some g->g.born=b->∃f,(c.set i {c[i]with key:=vk,val:=vv})[j]? =some f/\f.born=b:=by
   intro j g d H;rw[List.getElem?_set];by_cases F:i=j
   ·subst F;rw[hE]at d;simp only[Ac]at d;subst d;exact⟨{c[i]with key:=vk,val:=vv},by simp[l],H⟩
   ·exact⟨g,by simp[F,d],H⟩
  rcases y X b I with I|⟨g,h8,h9,h10⟩
  ·obtain⟨j,g,g3,g4,g5⟩:=h7 X b I;obtain⟨f,V,g7⟩:=put j g g4 g5;exact⟨j,f,g3,V,g7⟩
  ·obtain⟨f,V,g7⟩:=put i g h8 h10;exact⟨i,f,h9,V,g7⟩
theorem Wo(h:SR P G w0 M0 n st a w z){id:Nat}{mt:TypeId}{kt:KT}{zc:CV}{ks vs:List CV}{r:Nat}{g:List MapEntry}{d:Nat}(q:z.σ id=.map (some r))(Z:w.heap[r]? =some (.map ⟨g⟩ d))
  {F D p o:List CV} (t:st.ob id=.map mt kt zc F D) (L:G3 P mt=some (kt,zc)) (hB:L0 w (A3 M0 z st.ob) (z.β id) kt ks vs g d)
  {k v:CV} (N:MP p o (ks++ [k]) (vs++ [v])) {vk vv:Value} (hc:AR kt k=true) (Y:k∉ks) (K:RelC w (A3 M0 z st.ob) k vk) (J:RelC w (A3 M0 z st.ob) v vv) (β':CV->Nat->Prop) (H:∀k b,z.β id k b->β' k b)
  (s:∀m b,β' m b->z.β id m b\/(m=k/\b=d)):
  SR P G w0 M0 n {st with ob:=ac st.ob id (.map mt kt zc p o)} a (G8 w r (.map ((⟨g⟩:Array MapEntry).push {key:=vk,val:=vv,born:=d}) (d+1))) {z with β:=ac z.β id β'}:=by
 obtain⟨U,h2,h3,h4,S,h6,h7⟩:=hB;have X:(⟨g⟩:Array MapEntry).push {key:=vk,val:=vv,born:=d}=⟨g++ [{key:=vk,val:=vv,born:=d}]⟩:=Array.toList_inj.1 (by simp);rw[X];have O:ks.length=g.length:=by have:=U.length;rw[List.length_map]at this;omega
 refine SR.turn h (Qq t) (by simp) (by rw[q];exact Rj w r _) H (fun _=>by rw[t];rfl) fun l hz=>⟨L,_,_,r,_,d+1,N,q,Yh Z, ?_, ?_, ?_, ?_, ?_, ?_, ?_⟩
 ·rw[List.map_append];exact(RelL.keep l _ _ U).append (RelL.cons (RelC.keep l _ _ K) RelL.nil)
 ·rw[List.map_append];exact(RelL.keep l _ _ h2).append (RelL.cons (RelC.keep l _ _ J) RelL.nil)
 ·intro c i;rcases List.mem_append.1 i with i|i
  ·exact h3 c i
  ·rw[List.mem_singleton.1 i];exact hc
 ·rw[List.nodup_append];refine⟨h4,by simp,fun x I y A=> ?_⟩;rw[List.mem_singleton.1 A];intro e;exact Y (e▸I)
 ·intro u f;rcases List.mem_append.1 f with f|f
  ·have:=S u f;omega
  ·rw[List.mem_singleton.1 f];simp
 ·rw[List.map_append,List.nodup_append];refine⟨h6,by simp,fun x I y A=> ?_⟩;simp only[List.map_cons,List.map_nil,List.mem_singleton]at A;subst A;obtain⟨u,f,rfl⟩:=List.mem_map.1 I;have:=S u f;omega
 ·intro m b C;simp only[Be]at C;rcases s m b C with C|⟨rfl,rfl⟩
  ·obtain⟨j,u,W,V,g5⟩:=h7 m b C;have R:=(Af.1 W).1;have Q:=(Af.1 V).1;exact⟨j,u,by rw[List.getElem?_append_left R];exact W,by rw[List.getElem?_append_left Q];exact V,g5⟩
  ·exact⟨ks.length,{key:=vk,val:=vv,born:=b},by simp,by rw[O];simp,rfl⟩
end
section
variable {P:Program} {G:Nat->List CV} {w0:WL} {M0:MM} {n:Nat} {st:St} {a:Act} {w w':World} {z:Cz}
theorem UH(h:SR P G w0 M0 n st a w z){o:Oper}{t:TypeId}{m k x:Operand}(Q:o.op=.mapUpdate t m k x\/o.op=.insert t m k x)(N:o.dst=none){sm sk sx:SO}(hm:A4 m=some sm)(hk:A4 k=some sk)(hx:A4 x=some sx){st':St}
  (l:AY none (so G st.fr) st (.mapupd t sm sk sx)=some st'):DX P G w0 M0 n st' a w o:=by
 have hr:=h.ctx.opd hm;have f:=h.ctx.opd hk;have A:=h.ctx.opd hx;simp only[AY]at l;generalize so G st.fr sm=q at hr l;generalize so G st.fr sk=q2 at f l;generalize so G st.fr sx=q3 at A l;split at l<;>(try cases l;done);rename_i id g J;obtain⟨U,e1⟩:=hr;cases p:st.ob id<;>simp only[p,reduceCtorEq]at l;rename_i mt kt zc ks vs;simp only[Ae,Ac]at l;obtain⟨⟨rfl,I⟩,rfl⟩:=l;obtain⟨C,c,j,r,b,H,S,e2,d,Y⟩:=IR h p;have X:=Y;obtain⟨Z,h2,h3,h4,h5,h6,h7⟩:=X;obtain⟨kty,ety,i,vz,hu,L,hi,hz,hzc⟩:=Qz C;have s:=PW S h4 I J;have rc:=Re (P:=P) L false f I;have rf:=Rf (P:=P) L f I Z h3
 have av:∀{w' z' st'},(Instr.mapUpdate mt (a.eval m) (a.eval k) (a.eval x)).run P w=.ok () w'->SR P G w0 M0 n st' a w' z'->DX P G w0 M0 n st' a w o:=by
  intro w' z' st' K O;refine .inr ⟨w',z',by rcases Q with Q|Q<;>simp[execOp,Q,K], ?_⟩;rw[N];exact O
 have base:(Instr.mapUpdate mt (a.eval m) (a.eval k) (a.eval x)).run P w=(match Ci b (AV kt g c)with
   |some (i,_)=>(do
    let key<-Instr.keyThatStays ((((⟨b⟩:Array MapEntry)[i]?).map MapEntry.key).getD (a.eval k)) (a.eval k)
    setObj r (.map ((⟨b⟩:Array MapEntry).modify i fun e=>{e with key,val:=a.eval x}) H):Sem Unit)
   |none=>setObj r (.map ((⟨b⟩:Array MapEntry).push {key:=a.eval k,val:=a.eval x,born:=H}) (H+1))).run P w:=by
  rw[e1,e2];simp only[Instr.mapUpdate,Sem.run_bind,run_underlying hu,Result.andThen_ok,getObj,Sem.run,d,rc,rf];cases Ci b (AV kt g c)<;>rfl
 cases y:AV kt g c with
 |none=>
  have F:Ci b (AV kt g c)=none:=by rw[y];rfl
  rw[F]at base;have e3:Bp kt c g=c++ [g]:=by simp[Bp,y]
  have e4:Bq kt c j g J=j++ [J]:=by simp[Bq,y]
  rw[e3,e4]at s;have O:=Wo h e2 d p C Y s I (IL I y) f A (z.β id) (fun _ _ d=>d) (fun _ _ d=>.inl d);refine av ?_ O;rw[base];exact Lf d (fun _ _ _ d=>by cases d)
 |some i=>
  have D:=GV y;have V:i<b.length:=by have:=Z.length;rw[List.length_map]at this;have:=(Af.1 D).1;omega
  have hE:b[i]? =some (b[i]'V):=Aj _;have F:Ci b (AV kt g c)=some (i,b[i].val):=by rw[y];simp[Ci,hE]
  rw[F]at base;obtain⟨v0,g1,g2⟩:=Z.get D;rw[List.getElem?_map,hE]at g1;simp only[Aq,Ac]at g1;have e3:Bp kt c g=c:=by simp[Bp,y]
  have e4:Bq kt c j g J=j.set i J:=by simp[Bq,y]
  rw[e3,e4]at s;have O:=map_set h e2 d p C Y s D f A (z.β id) (fun _ _ d=>d) (fun _ _ d=>.inl d);refine av ?_ O;rw[base];have W:(⟨b⟩:Array MapEntry)[i]? =some b[i]:=by rw[<-Array.getElem?_toList];exact hE
  have R:=Yy (P:=P) I (M:=A3 M0 z st.ob) (M':=A3 M0 z st.ob) (u:=b[i].key) (v:=a.eval k) (by rw[g1];exact g2) f w;simp only[W,Aq,Option.getD_some,Sem.run_bind,R,Result.andThen_ok];exact Lf d (fun _ _ _ d=>by cases d)
theorem Aa3(h:SR P G w0 M0 n st a w z){o:Oper}{t:TypeId}{m k:Operand}(ho:o.op=.mapEntry t m k)(hd:∀j,o.dst=some j->j<n){sm sk:SO}(hm:A4 m=some sm)(hk:A4 k=some sk){st':St}
  (I:AY o.dst (so G st.fr) st (.mapent t sm sk)=some st'):DX P G w0 M0 n st' a w o:=by
 have hr:=h.ctx.opd hm;have A:=h.ctx.opd hk;simp only[AY]at I;generalize so G st.fr sm=q at hr I;generalize so G st.fr sk=q2 at A I;split at I<;>(try cases I;done);rename_i id g;obtain⟨hlive,e1⟩:=hr;cases D:st.ob id<;>simp only[D,reduceCtorEq]at I;rename_i mt kt zc ks vs;simp only[Ae,Ac]at I;obtain⟨⟨rfl,L,-⟩,rfl⟩:=I;obtain⟨J,f,d,r,c,y,R,Y,s,hB⟩:=IR h D;have hB0:=hB;obtain⟨h1,h2,h3,h4,h5,h6,h7⟩:=hB0;obtain⟨kty,ety,i,Z,hu,U,hi,hz,O⟩:=Qz J;have l:=fun v=>PW R h4 L v;rw[Qv (zc:=zc) R h4 L];have rc:=Re (P:=P) U false A L;have rf:=Rf (P:=P) U A L h1 h3
 have av:∀{w' z' v C},(Instr.mapEntry mt (a.eval m) (a.eval k)).run P w=.ok v w'->SR P G w0 M0 n C a w' z'->AA w' (A3 M0 z' C.ob) z' C.ob (.ent id g (AZ kt zc f d g).1) v->
   DX P G w0 M0 n (St.set C o.dst (.ent id g (AZ kt zc f d g).1)) a w o:=by
  intro w' z' v C Q W hs;exact .inl ⟨v,w',z',by simp[execOp,ho,Q],W.put hd hs⟩
 have base:(Instr.mapEntry mt (a.eval m) (a.eval k)).run P w=(match Ci c (AV kt g f)with
   |some (i,v)=>(do
    let key<-Instr.keyThatStays ((((⟨c⟩:Array MapEntry)[i]?).map MapEntry.key).getD (a.eval k)) (a.eval k)
    setObj r (.map ((⟨c⟩:Array MapEntry).modify i fun e=>{e with key}) y)
    pure (.tuple #[v,goInt ((((⟨c⟩:Array MapEntry)[i]?).map (fun(x:MapEntry)=>(x.born:Int))).getD 0)]):Sem Value)
   |none=>(do
    let zero<-zeroValue ety
    setObj r (.map ((⟨c⟩:Array MapEntry).push {key:=a.eval k,val:=zero,born:=y}) (y+1))
    pure (.tuple #[zero,goInt y]):Sem Value)).run P w:=by
  rw[e1,Y];simp only[Instr.mapEntry,Sem.run_bind,run_underlying hu,Result.andThen_ok,getObj,Sem.run,s,rc,rf];cases Ci c (AV kt g f)<;>rfl
 cases F:AV kt g f with
 |none=>
  have K:Ci c (AV kt g f)=none:=by rw[F];rfl
  rw[K]at base;have hzr:RelC w (A3 M0 z st.ob) zc Z:=FI _ _ _ _ O;have p:AZ kt zc f d g=(zc,false):=by simp[AZ,F]
  have e3:Bp kt f g=f++ [g]:=by simp[Bp,F]
  have e4:Bq kt f d g zc=d++ [zc]:=by simp[Bq,F]
  have l:=l zc;rw[e3,e4]at l;have W:=Wo h Y s D J hB l L (IL L F) A hzr (fun N b=>z.β id N b\/(N=g/\b=y)) (fun _ _ s=>.inl s) (fun _ _ s=>s);rw[p]at av⊢;refine av (v:=.tuple #[Z,goInt y]) ?_ W ⟨by simp[Be],y,Z,by simp[Be],rfl,FI _ _ _ _ O⟩;rw[base];simp only[Sem.run_bind,Lb hi hz,Result.andThen_ok,Lf s (fun _ _ _ s=>by cases s),Sem.run_pure]
 |some i=>
  have H:=GV F;have V:i<c.length:=by have:=h1.length;rw[List.length_map]at this;have:=(Af.1 H).1;omega
  have hE:c[i]? =some (c[i]'V):=Aj _;have K:Ci c (AV kt g f)=some (i,c[i].val):=by rw[F];simp[Ci,hE]
  rw[K]at base;obtain⟨v0,g1,g2⟩:=h1.get H;rw[List.getElem?_map,hE]at g1;simp only[Aq,Ac]at g1;have hvl:i<d.length:=by have:=h2.length;rw[List.length_map]at this;omega
  have hV:d[i]? =some (d[i]'hvl):=Aj _;obtain⟨v1,X,g4⟩:=h2.get hV;rw[List.getElem?_map,hE]at X;simp only[Aq,Ac]at X;have p:AZ kt zc f d g=(d[i],true):=by simp[AZ,F,hV]
  have e3:Bp kt f g=f:=by simp[Bp,F]
  have e4:Bq kt f d g d[i]=d.set i d[i]:=by simp[Bq,F]
  have l:=l d[i];rw[e3,e4]at l
  have W:=map_set h Y s D J hB l H A (v:=d[i]) (vv:=c[i].val) (by rw[X];exact g4) (fun N b=>z.β id N b\/(N=g/\b=c[i].born)) (fun _ _ s=>.inl s) (fun N b hb=>by
   rcases hb with hb|⟨rfl,rfl⟩
   ·exact .inl hb
   ·exact .inr ⟨_,hE,H,rfl⟩)
  rw[p]at av⊢;have hEa:(⟨c⟩:Array MapEntry)[i]? =some c[i]:=by rw[<-Array.getElem?_toList];exact hE
  have S:((⟨c⟩:Array MapEntry).modify i fun e=>{e with key:=a.eval k})=((⟨c⟩:Array MapEntry).modify i fun e=>{e with key:=a.eval k,val:=c[i].val}):=by
   apply Array.ext_getElem?;intro j;rw[Array.getElem?_modify,Array.getElem?_modify];by_cases hj:i=j
   ·subst hj;simp[V]
   ·simp[hj]
  refine av (v:=.tuple #[c[i].val,goInt c[i].born]) ?_ W ⟨by simp[Be],c[i].born,c[i].val,by simp[Be],rfl, ?_⟩
  ·rw[base];have hst:=Yy (P:=P) L (M:=A3 M0 z st.ob) (M':=A3 M0 z st.ob) (u:=c[i].key) (v:=a.eval k) (by rw[g1];exact g2) A w;simp only[hEa,Aq,Option.getD_some,Sem.run_bind,hst,Result.andThen_ok,S,Lf s (fun _ _ _ s=>by cases s),Sem.run_pure]
  ·rw[X];exact RelC.keep (SR.turnK (Qq D) (by simp) (by rw[Y];exact Rj w r _)) _ _ g4
theorem Aka{o:Oper}{st':St}{z':Cz}(b:o.dst=none)(c:SR P G w0 M0 n st' a w' z')(run:(execOp a.eval o).run P w=.ok .skip w'):DX P G w0 M0 n st' a w o:=
 .inr ⟨w',z',run,by rw[b];exact c⟩
theorem Aa2(h:SR P G w0 M0 n st a w z){o:Oper}{t:TypeId}{m s x:Operand}(ho:o.op=.entryStore t m s x)(N:o.dst=none){sm Q sx:SO}(hm:A4 m=some sm)(hs:A4 s=some Q)(hx:A4 x=some sx){st':St}
  (f:AY none (so G st.fr) st (.entst sm Q sx)=some st'):DX P G w0 M0 n st' a w o:=by
 have hr:=h.ctx.opd hm;have I:=h.ctx.opd hs;have H:=h.ctx.opd hx;simp only[AY]at f;generalize so G st.fr sm=q at hr f;generalize so G st.fr Q=q2 at I f;generalize so G st.fr sx=q3 at H f;split at f<;>(try cases f;done);rename_i id id' F O;obtain⟨U,e1⟩:=hr;obtain⟨_,b,hb,e5⟩:=I;cases p:st.ob id<;>simp only[p,reduceCtorEq]at f;rename_i mt kt zc ks vs;simp only[Ae,Ac]at f;obtain⟨rfl,rfl⟩:=f;obtain⟨S,l,D,r,c,clk,u,e2,k,hB⟩:=IR h p;have Y:=hB;obtain⟨h1,h2,h3,Z,h5,h6,h7⟩:=Y;obtain⟨i,en,d,hE,L⟩:=h7 F b hb;have W:=h3 F (List.mem_of_getElem? d);have hf:=MJ W Z d;have A:=PW u Z W O;have g:=(Af.1 hE).1;have C:c[i]=en:=by rw[Aj g]at hE;simpa using hE
 obtain⟨v0,g1,g2⟩:=h1.get d;rw[List.getElem?_map,hE]at g1;simp only[Aq,Ac]at g1
 have y:(⟨c⟩:Array MapEntry).findIdx? (fun e=>(e.born:Int)==(b:Int))=some i:=by
  rw[Array.findIdx?_eq_some_iff_getElem];refine⟨by simpa using g,by simp[C,L],fun j V=> ?_⟩;have K:j<c.length:=by omega
  simp only[beq_iff_eq,Int.natCast_inj];intro X;have e6:(c.map (·.born))[j]? =some b:=by simp[Aj K];simpa using X
  have e7:(c.map (·.born))[i]? =some b:=by simp[Aj g,C,L]
  have:=(List.getElem?_inj (by simpa using K) h6).1 (e6.trans e7.symm);omega
 have e3:Bp kt l F=l:=by simp[Bp,hf]
 have e4:Bq kt l D F O=D.set i O:=by simp[Bq,hf]
 rw[e3,e4]at A
 have e3':Bp kt ks F=ks:=by
  obtain⟨j,v,k1,k2,k3⟩:=u.symm.at_ d;have R:ks.Nodup:=(u.ks.nodup_iff).1 Z;simp[Bp,MJ W R k2]
 rw[e3']at A;have hS:=map_set h e2 k p S hB A d (vk:=c[i].key) (by rw[C,g1];exact g2) H (z.β id) (fun _ _ k=>k) (fun _ _ k=>.inl k)
 have J:((⟨c⟩:Array MapEntry).modify i fun e=>{e with val:=a.eval x})=((⟨c⟩:Array MapEntry).modify i fun e=>{e with key:=c[i].key,val:=a.eval x}):=by
  apply Array.ext_getElem?;intro j;rw[Array.getElem?_modify,Array.getElem?_modify];by_cases V:i=j
  ·subst V;simp[g]
  ·simp[V]
 have run:(Instr.entryStore t (a.eval m) (a.eval s) (a.eval x)).run P w=.ok () (G8 w r (.map ((⟨c⟩:Array MapEntry).modify i fun e=>{e with key:=c[i].key,val:=a.eval x}) clk)):=by
  rw[e1,e2,e5];simp only[Instr.entryStore,Sem.run_bind,getObj,Sem.run,k,asInt,asIntOf,Sem.run_pure,Result.andThen_ok,y,J,Lf k (fun _ _ _ k=>by cases k)]
 refine Aka N hS ?_;simp only[execOp,ho,Sem.run_bind,run,Result.andThen_ok,Sem.run_pure]
def HW:aa->Bool
 | .store .. | .entst .. | .mapupd .. =>true
 |_=>false
theorem Aa4(h:SR P G w0 M0 n st a w z){o:Oper}{s:aa}(b:Cf P o=some s)(d:s.cls=.eff)(K:∀j,o.dst=some j->j<n)(D:HW s=true->o.dst=none){st':St}
  (q:AY o.dst (so G st.fr) st s=some st'):DX P G w0 M0 n st' a w o:=by
 unfold Cf at b;split at b<;>rename_i A<;>(try cases b;done)
 ·simp only[Aa]at b;obtain⟨_,_,rfl⟩:=b;cases d
 ·simp only[Aa]at b;obtain⟨_,_,rfl⟩:=b;cases d
 ·simp only[Ab,Aa]at b;obtain⟨_,_,_,_,_,_,rfl⟩:=b;cases d
 ·split at b<;>(simp only[Ab,Aa]at b;obtain⟨_,_,_,_,_,_,rfl⟩:=b;cases d)
 ·simp only[Aa]at b;obtain⟨_,_,rfl⟩:=b;cases d
 ·simp only[Ab,Aa]at b;obtain⟨_,_,_,_,_,_,_,_,rfl⟩:=b;cases d
 ·split at b<;>(try cases b;done);simp only[Ab,Ae,Ac]at b;obtain⟨_,_,_,_,_,_,_,_,_,rfl⟩:=b;cases d
 ·simp only[Ab,Aa]at b;obtain⟨_,_,_,_,rfl⟩:=b;cases d
 ·
  simp only[Ab,Aa]at b;obtain⟨i,hi,S,J,sx,f,rfl⟩:=b;have g:=D rfl;rw[g]at q;exact Aa5 h A g hi J f q
 ·have:=HE b;rw[d]at this;cases this
 ·simp only[Aa]at b;obtain⟨_,_,rfl⟩:=b;cases d
 ·have:=I1 b;rw[d]at this;rcases this with h'|h'<;>cases h'
 ·simp only[Aa]at b;obtain⟨_,_,rfl⟩:=b;cases d
 ·split at b<;>(try cases b;done);all_goals(simp only[Ae,Aa]at b;obtain⟨_,_,_,rfl⟩:=b;cases d)
 ·simp only[Aa,Prod.exists]at b;obtain⟨_,_,_,rfl⟩:=b;cases d
 ·split at b<;>(try cases b;done);simp only[Ab,Ae,Ac]at b;obtain⟨_,_,_,_,_,_,_,_,_,_,_,rfl⟩:=b;cases d
 ·split at b<;>(try cases b;done);simp only[Ab,Aa]at b;obtain⟨_,_,_,_,_,_,_,_,_,_,rfl⟩:=b;cases d
 ·split at b<;>(try cases b;done)
  ·simp only[Ab,Aa]at b;obtain⟨_,_,_,_,_,_,rfl⟩:=b;cases d
  ·simp only[Ab,Aa]at b;obtain⟨_,_,_,_,_,_,_,_,rfl⟩:=b;cases d
  ·split at b<;>(try cases b;done);simp only[Ab,Ae,Aa]at b;obtain⟨_,_,_,_,_,rfl⟩:=b;cases d
 ·split at b<;>(try cases b;done)
  ·simp only[Aa]at b;obtain⟨_,_,rfl⟩:=b;cases d
  ·simp only[Ab,Option.ite_none_left_eq_some,Aa]at b;obtain⟨_,_,_,_,_,_,_,rfl⟩:=b;cases d
 ·split at b<;>(try cases b;done);simp only[Ab,Aa]at b;obtain⟨_,_,_,_,_,_,rfl⟩:=b;cases d
 ·split at b<;>(try cases b;done)
  ·simp only[Ab,Option.ite_none_left_eq_some,Aa]at b;obtain⟨_,_,_,_,_,_,_,rfl⟩:=b;cases d
  ·simp only[Ab,Option.ite_none_left_eq_some,Aa]at b;obtain⟨_,_,_,_,_,_,_,rfl⟩:=b;cases d
 ·split at b<;>(try cases b;done)
  ·simp only[Ab,Aa]at b;obtain⟨_,_,_,_,rfl⟩:=b;cases d
  ·simp only[Ab,Aa]at b;obtain⟨_,_,_,_,_,_,_,_,rfl⟩:=b;cases d
 ·simp only[Ab,Aa]at b;obtain⟨_,_,_,_,_,_,rfl⟩:=b;cases d
 ·split at b<;>(try cases b;done);simp only[Ab,Aa]at b;obtain⟨sm,m,sk,r,sx,f,rfl⟩:=b;have g:=D rfl;rw[g]at q;exact UH h (.inl A) g m r f q
 ·split at b<;>(try cases b;done);simp only[Ab,Aa]at b;obtain⟨sm,m,sk,r,sx,f,rfl⟩:=b;have g:=D rfl;rw[g]at q;exact UH h (.inr A) g m r f q
 ·split at b<;>(try cases b;done);simp only[Ab,Aa]at b;obtain⟨sm,m,sk,r,rfl⟩:=b;exact Aa3 h A K m r q
 ·simp only[Ab,Aa]at b;obtain⟨sm,m,R,I,sx,f,rfl⟩:=b;have g:=D rfl;rw[g]at q;exact Aa2 h A g m I f q
 ·split at b<;>(try cases b;done);all_goals(simp only[Aa]at b;obtain⟨_,_,rfl⟩:=b;cases d)
 ·simp only[Aa]at b;obtain⟨_,_,rfl⟩:=b;cases q
 ·simp only[Aa]at b;obtain⟨_,_,rfl⟩:=b;cases d
 ·simp only[Aa]at b;obtain⟨_,_,rfl⟩:=b;cases d
 ·
  rename_i c;obtain⟨callee,args,argTypes⟩:=c;unfold EY at b;split at b<;>(try cases b;done)
  ·split at b<;>first
    |(cases b;done)
    |(simp only[Aa]at b;obtain⟨_,_,rfl⟩:=b;cases d)
    |(simp only[Ac]at b;subst b;cases d)
  ·simp only[Aa]at b;obtain⟨_,_,rfl⟩:=b;cases d
  ·simp only[Aa]at b;obtain⟨_,_,rfl⟩:=b;cases d
  ·rename_i k;simp only at k;subst k;split at b<;>(try cases b;done);rename_i x y t u p C
   split at b<;>(try cases b;done);rename_i e _ H _;simp only[Ab,Ae,Ac]at b;obtain⟨i,hi,Q,O,sx,f,N,v,⟨rfl,L,F⟩,rfl⟩:=b;exact Aa0 h A p C H hi O F L K f v q
  ·rename_i k;simp only at k;subst k;split at b<;>(try cases b;done);rename_i x y t u p C
   split at b<;>(try cases b;done);rename_i e _ H _;simp only[Ab,Ae,Ac]at b;obtain⟨i,hi,sx,f,N,v,⟨rfl,L⟩,rfl⟩:=b;exact Aa1 h A p C H hi L K f v q
  ·split at b<;>(try cases b;done);rcases FC b with⟨l,U,rfl⟩|⟨_,_,_,_,_,_,_,rfl⟩<;>cases d
  ·simp only[Aa]at b;obtain⟨_,_,rfl⟩:=b;cases d
end
def z0(v:Value)(al:Nat->Nat:=fun _=>0):Cz:={σ:=fun _=>v,β:=fun _ _ _=>False,al:=al}
def ob0:Nat->Ob:=fun _=>.none
def Im(P:Program)(w:World)(M:MM)(B:Nat)(v:Value):bh->Prop
 | .val c=>RelC w M c v
 | .new o=>ED o=true/\(∀g,blk v=some g->B<=g/\g<w.heap.size)/\Bg P w ⟨fun g=>M g\/blk v=some g,M.al⟩ B (z0 v) ob0 0 v o
def CallsTo(P:Program)(G:Nat->List CV)(f:FuncId)(args:List CV)(r:bh):Prop:=
 ∀(w:World) (M:MM) (vs:List Value),(∀g,M g->g<w.heap.size)->GOk G w M->RelL w M args vs->
  Calls P f ⟨vs⟩ w fun e w'=>∃v,e=.returned v/\Below w.heap.size w w'/\Im P w' M w.heap.size v r
def RM(P:Program)(f:FuncId):Prop:=∀(w:World) (d h:Nat) (g:Option Nat) (c:List MapEntry),w.heap[d]? =some (.map ⟨[]⟩ h)->
 ((g=none/\c= [])\/∃bs b,g=some bs/\bs≠d/\w.heap[bs]? =some (.map ⟨c⟩ b)/\cS c b)->
 (∀i:MapEntry,i∈c->∃s:List UInt8,i.key=.string ⟨⟨s⟩⟩/\s.length<=9223372036854775807)->c.length<=9223372036854775807->
 Calls P f ⟨[.map (some d),.map g]⟩ w fun e w'=>e=.returned (.tuple ⟨[]⟩)/\w.grownBy w' (some d)/\∃(ens':List MapEntry) (b:Nat),w'.heap[d]? =some (.map ⟨ens'⟩ b)/\cS ens' b/\
  (ens'.map fun e=>(e.key,e.val)).Perm (c.map fun e=>(e.key,e.val))
def OD(P:Program)(cp:FuncId->Bool):Prop:=∀f,cp f=true->hasBody P f=true/\RM P f
def SortC(P:Program)(f g:FuncId)(e size:Nat)(es c:List CV):Prop:=∀(w:World) (M:MM) (v:Value) (xs:List Value),w.ownsRow 0 e size v es.length xs->AU w M size es xs->
 Calls P f ⟨[v,.func (.func g) #[] #[]]⟩ w fun k w'=>k=.returned (.tuple ⟨[]⟩)/\w.grownBy w' (blk v)/\∃b,w'.ownsRow 0 e size v c.length b/\∀d h,AU d h size c b
def Tz(P:Program)(srt:FuncId->FuncId->TypeId->Nat->List CV->Option (List CV)):Prop:=∀f g e size es b,srt f g e size es=some b->
 hasBody P f=true/\(P.info? e).isSome=true/\mvOf g=none/\SortC P f g e size es b
def YP(P:Program)(E:ah):Prop:=∀f args r,E.fn f args=some r->hasBody P f=true/\CallsTo P E.G f args r
structure GC (P:Program) (w:World) (M:MM) (z:Cz) (T:List Nat) (H:Nat->Ob):Prop where
 ob:∀id,Bg P w M 0 z H id (z.σ id) (H id)
 lo:∀id g,H id≠ .none->blk (z.σ id)=some g->g<w.heap.size/\M g
 apart:∀i j g,i≠j->H i≠ .none->H j≠ .none->blk (z.σ i)=some g->blk (z.σ j)≠some g
 told:∀N,A9<=N->bA (H N)=true->z.σ N=CG N (z.al N)
 only:∀id,H id≠ .none->T.contains id=true
 al:z.al=M.al
def F5(P:Program)(G:Nat->List CV)(f:FuncId)(T:List Nat)(args:List CV)(H:Nat->Ob)(r:CV)(b:Nat->Ob):Prop:=
 ∀(w:World) (M:MM) (z:Cz) (vs:List Value),(∀g,M g->g<w.heap.size)->GOk G w M->RelL w M args vs->GC P w M z T H->
  Calls P f ⟨vs⟩ w fun e w'=>∃v z',e=.returned v/\(w'.os=w.os/\w'.tape=w.tape/\w'.output=w.output/\w.heap.size<=w'.heap.size/\∀g,g<w.heap.size->¬own z H g->w'.heap[g]? =w.heap[g]?)/\
   GC P w' (A3 M z' b) z' T b/\(∀id g,b id≠ .none->blk (z'.σ id)=some g->(H id≠ .none/\blk (z.σ id)=some g)\/w.heap.size<=g)/\z'.al=M.al/\RelC w' (A3 M z' b) r v
def F6(P:Program)(G:Nat->List CV)(f:FuncId)(T:List Nat)(args:List CV)(H:Nat->Ob)(r:CV)(b:Nat->Ob):Prop:=match mvOf f with
 |none=>F5 P G f T args H r b
 |some g=>∃l c,args=l++ [c]/\F5 P G g T (c::l) H r b
def RN(P:Program)(E:ah):Prop:=∀f e,E.ef f=some e->hasBody P ((mvOf f).getD f)=true/\∀args H r b,e.fn args H=some (r,b)->F6 P E.G f e.T args H r b
structure aV (P:Program) (E:ah):Prop where
 fn:YP P E
 cp:OD P E.cp
 ef:RN P E
 srt:Tz P E.srt
theorem aV.at{P:Program}{E:ah}(h:aV P E)(D:Option (List Nat)):aV P (E.at D):=by
 cases D with
 |none=>exact h
 |some D=>exact⟨h.fn,h.cp,(fun f e b=>by cases b),h.srt⟩
theorem aV.named{P:Program}{E:ah}(h:aV P E):aV P E.named:=⟨fun f l r g=>by
 have b:(match E.fn f l with
  |some (.new o)=>if ED o=true then some (.new o)else none
  |r=>r)=some r:=g
 split at b
 ·rename_i o d;split at b<;>(try cases b;done);cases b;exact h.fn f l _ d
 ·exact h.fn f l _ b,h.cp,(fun f e i=>by
 have c:(match E.ef f with
  |some e=>if(e.T.all fun N=>Nat.ble A9 N)=true then some e else none
  |none=>none)=some e:=i
 split at c<;>(try cases c;done);split at c<;>(try cases c;done);rename_i k d j;cases c
 exact h.ef f e d),h.srt⟩
section
variable {P:Program} {w w':World} {M M':MM}
mutual
theorem Q4(b:M'.al=M.al):∀(c:CV) (v:Value),memless c=true->RelC w M c v->RelC w' M' c v
 | .int _ _,_,_,h=>by unfold RelC at*;exact h
 | .bool _,_,_,h=>by unfold RelC at*;exact h
 | .str _,_,_,h=>by unfold RelC at*;exact h
 | .nilif,_,_,h=>by unfold RelC at*;exact h
 | .nilfn,_,_,h=>by unfold RelC at*;exact h
 | .adr _,_,_,h=>by unfold RelC at*;exact h
 | .nilp,_,_,h=>by unfold RelC at*;exact h
 | .nam _,_,_,h=>by unfold RelC at*;rw[b];exact h
 | .bptr _,_,_,h=>by unfold RelC at*;rw[b];exact h
 | .agg cs,v,hm,h=>by
  unfold RelC at*;obtain⟨vs,e,f⟩:=h;exact⟨vs,e,Ky b cs vs (by simpa[memless]using hm) f⟩
 | .tup cs,v,hm,h=>by
  unfold RelC at*;obtain⟨vs,e,f⟩:=h;exact⟨vs,e,Ky b cs vs (by simpa[memless]using hm) f⟩
 | .sl _ _,_,hm,_=>by simp[memless]at hm
 | .map _ _ _,_,hm,_=>by simp[memless]at hm
 | .rp _,_,hm,_=>by simp[memless]at hm
 | .wp _,_,hm,_=>by simp[memless]at hm
 | .fn _ _,_,hm,_=>by simp[memless]at hm
 | .ifc,_,hm,_=>by simp[memless]at hm
theorem Ky(b:M'.al=M.al):∀(cs:List CV) (vs:List Value),CD cs=true->RelL w M cs vs->RelL w' M' cs vs
 | [],_,_,h=>by unfold RelL at*;exact h
 |c::cs,vs,hm,h=>by
  unfold RelL at*;obtain⟨v,d,e,i,g⟩:=h;simp only[CD,Ag]at hm;exact⟨v,d,e,Q4 b c v hm.1 i,Ky b cs d hm.2 g⟩
end
theorem Wt(d:M'.al=M.al){size:Nat}:∀(cs:List CV) (xs:List Value),CD cs=true->AU w M size cs xs->AU w' M' size cs xs
 | [],_,_,h=>h
 |c::cs,xs,hm,h=>by
  obtain⟨v,b,e,i,g,f⟩:=h;simp only[CD,Ag]at hm;exact⟨v,b,e,i,Q4 d c v hm.1 g,Wt d cs b hm.2 f⟩
theorem Q3:∀(l:List CV),CD l=true<->∀c∈l,memless c=true
 | []=>by simp[CD]
 |c::l=>by simp[CD,Q3 l]
theorem Wu{l l':List CV}(h:l'.Perm l)(b:CD l=true):CD l'=true:=
 (Q3 l').2 fun c d=>(Q3 l).1 b c (h.mem_iff.1 d)
theorem YU(q:M'.al=M.al){B B' id i:Nat}{v:Value}{z z':Cz}{ob d:Nat->Ob}{o:Ob}(A:B'<=B)(u:ED o=true)(y:∀g,g<w.heap.size->M' g->M g)(j:∀k b,¬z'.β id k b)(h:Bg P w M B z ob i v o):Bg P w M' B' z' d id v o:=by
 have p:Bu w M w M':=⟨Nat.le_refl _,fun _ _ _=>rfl,y,q⟩;cases o<;>simp[ED]at u
 ·obtain⟨xs,D,C⟩:=h;exact⟨xs,D.blk (fun _ _=>rfl) A,AU.keep p C⟩
 ·obtain⟨l,f,c,r,s,t,m,e,L,K,J,I,H,F,g7,_⟩:=h;exact⟨l,f,c,r,s,t,m,e,L,RelL.keep p _ _ K,RelL.keep p _ _ J,I,H,F,g7,fun k b x=>absurd x (j k b)⟩
theorem YV(d:M'.al=M.al){B B' id l:Nat}{v:Value}{z z':Cz}{ob i:Nat->Ob}{o:Ob}(u:B'<=B)(f:(bh.new o).memless=true)(m:∀k b,¬z'.β id k b)(h:Bg P w M B z ob l v o):Bg P w M' B' z' i id v o:=by
 cases o<;>simp[bh.memless]at f
 ·obtain⟨xs,y,x⟩:=h;exact⟨xs,y.blk (fun _ _=>rfl) u,Wt d _ _ f x⟩
 ·obtain⟨p,j,g,r,q,s,c,e,I,H,F,D,C,A,g7,_⟩:=h;exact⟨p,j,g,r,q,s,c,e,I,Ky d _ _ (Wu c.ks f.1) H,Ky d _ _ (Wu c.vs f.2) F,D,C,A,g7,fun k b t=>absurd t (m k b)⟩
end
section
variable {P:Program} {E:ah} {w0:WL} {M0:MM} {n:Nat} {st:St} {a:Act} {w w':World} {z:Cz}
def bP(w0:WL)(M0:MM)(z:Cz):MM:=⟨fun g=>M0 g/\∀id,¬w0.L id g,z.al⟩
theorem SR.outerW{G:Nat->List CV}(h:SR P G w0 M0 n st a w z):∀g,M0 g->g<w.heap.size:=fun g b=>Nat.lt_of_lt_of_le (h.outer g b) h.below.size
theorem SR.mutW{G:Nat->List CV}(h:SR P G w0 M0 n st a w z):∀g,A3 M0 z st.ob g->g<w.heap.size:=fun g b=>by
 rcases b with b|⟨id,hl,hb⟩
 ·exact h.outerW g b
 ·exact(h.lo id g hl hb).2
theorem Pm{G:Nat->List CV}(h:SR P G w0 M0 n st a w z){rd:Nat->Ob}(p:∀id,rd id=.none\/rd id=st.ob id){s:SV}{v:Value}{c:CV}(y:AA w (A3 M0 z st.ob) z st.ob s v)(d:C9 rd s=some c):RelC w (bP w0 M0 z) c v:=by
 have t:Bu w (A3 M0 z st.ob) w (bP w0 M0 z):=⟨Nat.le_refl _,fun _ _ _=>rfl,fun g _ hg=>.inl hg.1,rfl⟩;have m:∀id g,st.ob id≠ .none->blk (z.σ id)=some g->¬bP w0 M0 z g:=fun id g hl F Q=>Q.2 id (h.low hl F (h.outer g Q.1));cases s<;>(try simp only[C9,reduceCtorEq]at d;done)
 ·simp only[C9,Ac]at d;subst d;exact RelC.keep t _ _ y
 ·rename_i id;obtain⟨i,e⟩:=y;simp only[C9]at d;rcases p id with e'|e'
  ·rw[e']at d;cases d
  ·rw[e']at d;cases l:st.ob id<;>rw[l]at d<;>(try simp only[reduceCtorEq]at d;done);rename_i et sz es;simp only[Ac]at d;subst d;have O:=h.ob id;rw[l]at O;obtain⟨xs,q,hf⟩:=O;unfold RelC;rcases q.2 with⟨o,K⟩|⟨g,cap,L,ty,fz,o,K,S,_,_,e4,e5,e6,e7⟩
   ·refine⟨none,0,0,by rw[e,o],K.symm,Nat.le_refl _,(fun f=>by cases f),(fun f=>by cases f),fun _=>rfl,fun A=> ?_⟩;exact absurd (Aw K) A
   ·refine⟨some ⟨g,0,none⟩,es.length,cap,by rw[e,o],rfl,e4,(fun f=>by cases f),(fun f=>by cases f),(fun f=>by cases f),fun _=>⟨⟨g,0,none⟩,sz,rfl,C1 S,m id g i (by rw[o];rfl), ?_⟩⟩;refine F9 fun k el D=> ?_;obtain⟨u,g1,g2,g3⟩:=GE hf D;refine⟨u,RelC.keep t _ _ g1,g2,fun j V X=> ?_⟩;rw[DY,cell_of_row w g _ L ty fz S];have x:=g3 j V X;rw[<-e7,List.getElem?_take]at x;split at x
    ·simpa using x
    ·cases x
 ·rename_i id;obtain⟨i,e⟩:=y;simp only[C9]at d;rcases p id with e'|e'
  ·rw[e']at d;cases d
  ·rw[e']at d;cases l:st.ob id<;>rw[l]at d<;>(try simp only[reduceCtorEq]at d;done);simp only[Ac]at d;subst d;obtain⟨Z,W,U,r,J,N,C,o,f,R,h2,h3,h4,h5,h6,_⟩:=IR h l;obtain⟨ens',Y,I,H⟩:=X1 C R h2;unfold RelC;refine⟨some r,by rw[e,o],(fun f=>by cases f),(fun f=>by cases f),(fun f=>by cases f),fun b F=> ?_⟩;cases F;exact⟨m id r i (by rw[o];rfl),J,ens',N,f,⟨QC h3 R h4,h5,h6⟩,Y,RelL.keep t _ _ I,RelL.keep t _ _ H⟩
theorem Pn{G:Nat->List CV}(h:SR P G w0 M0 n st a w z){rd:Nat->Ob}(e:∀id,rd id=.none\/rd id=st.ob id):∀{xs:List Operand} {d:List SO} {l:List CV},A5 A4 xs=some d->A5 (fun x=>C9 rd (so G st.fr x)) d=some l->
  RelL w (bP w0 M0 z) l (xs.map a.eval)/\((d.all fun x=>bT (so G st.fr x))=true->RelL w (A3 M0 z st.ob) l (xs.map a.eval))
 | [],d,l,h1,h2=>by
  simp only[A5,Ac]at h1;subst h1;simp only[A5,Ac]at h2;subst h2;exact⟨RelL.nil,fun _=>RelL.nil⟩
 |x::xs,d,l,h1,h2=>by
  simp only[A5,Ab,Aa]at h1;obtain⟨s,j,p,g,rfl⟩:=h1;simp only[A5,Ab,Aa]at h2;obtain⟨c,f,cs,i,rfl⟩:=h2;obtain⟨o,m⟩:=Pn h e g i;refine⟨RelL.cons (Pm h e (h.ctx.opd j) f) o,fun b=> ?_⟩;simp only[List.all_cons,Ag]at b;refine RelL.cons ?_ (m b.2);have k:=h.ctx.opd j;generalize so G st.fr s=q at k f b;cases q<;>simp[bT]at b;simp only[C9,Ac]at f;subst f;exact k
theorem V7{G:Nat->List CV}(h:SR P G w0 M0 n st a w z):GOk G w (A3 M0 z st.ob):=h.globW
theorem Aek{G:Nat->List CV}(h:SR P G w0 M0 n st a w z):GOk G w (bP w0 M0 z):=
 h.globW.keep (Nat.le_refl _) (fun _ _ _=>rfl) fun g _ b=>.inl b.1
theorem Z9(hE:aV P E)(h:SR P E.G w0 M0 n st a w z){d:Option Nat}(x:∀j,d=some j->j<n){f:FuncId}{l:List CV}{vs:List Value}{r:bh}{m:Bool}(I:E.fn f l=some r)
  (K:RelL w (bP w0 M0 z) l vs) (J:m=false->RelL w (A3 M0 z st.ob) l vs) (t:m=true->r.memless=true) {st':St} (i:EM st d r=some st'):
  Calls P f ⟨vs⟩ w fun e w'=>∃v,e=.returned v/\∃z',SR P E.G w0 M0 n st' (a.put d v) w' z':=by
 obtain⟨_,H⟩:=hE.fn f l r I
 cases m with
 |true=>
  have F:=t rfl;refine(H w (bP w0 M0 z) vs (fun g p=>h.outerW g p.1) (Aek h) K).mono fun e w' ⟨v,D,u,s⟩=>⟨v,D, ?_⟩;have p:=h.grow u
  cases r with
  |val c=>
   simp only[EM,Ac]at i;subst i;exact⟨z,p.put x (Q4 (by rfl) c v F s)⟩
  |new o=>
   obtain⟨q,y,A⟩:=s;simp only[EM,B1]at i
   cases d with
   |none=>cases i
   |some d=>
    simp only at i;split at i<;>(try cases i;done);rename_i C;simp only[Ac,Option.getD_some]at i;subst i;refine⟨z.new d v,h.new (x d rfl) C u y (YV (by rfl) (Nat.zero_le _) F (fun k b q=>by simp[Cz.new]at q) A) ?_⟩;cases o<;>simp[ED]at q<;>exact⟨FS (by simp),DB.symm⟩
 |false=>
  refine(H w (A3 M0 z st.ob) vs h.mutW (V7 h) (J rfl)).mono fun e w' ⟨v,D,u,s⟩=>⟨v,D, ?_⟩;have p:=h.grow u
  cases r with
  |val c=>
   simp only[EM,Ac]at i;subst i;exact⟨z,p.put x s⟩
  |new o=>
   obtain⟨q,y,A⟩:=s;simp only[EM,B1]at i
   cases d with
   |none=>cases i
   |some d=>
    simp only at i;split at i<;>(try cases i;done);rename_i C;simp only[Ac,Option.getD_some]at i;subst i;refine⟨z.new d v,h.new (x d rfl) C u y (YU (by rfl) (Nat.zero_le _) q (fun g _ p=> ?_) (fun k b q=>by simp[Cz.new]at q) A) ?_⟩
    ·rcases p with p|⟨id,hl,hb'⟩
     ·exact .inl (.inl p)
     ·by_cases af:id=d
      ·subst af;rw[DB]at hb';exact .inr hb'
      ·rw[AL _ _ af]at hl;exact .inl (.inr ⟨id,hl,by simpa[Cz.new,ac,af]using hb'⟩)
    ·cases o<;>simp[ED]at q<;>exact⟨FS (by simp),DB.symm⟩
end
section
variable {P:Program} {E:ah} {w0:WL} {M0:MM} {n:Nat} {st:St} {a:Act} {w w':World} {z:Cz}
theorem Vw{w w1:World}{g:Nat}(h:Below w.heap.size w w1)(c:w.heap.size<=g)(o k:Nat):Below w.heap.size w (w1.freeze ⟨g,o,none⟩ k):=by
 unfold World.freeze;split
 ·exact h
 ·refine⟨h.os,h.tape,h.output,by simpa using h.size,fun j b=> ?_⟩;simp only[Array.getElem?_modify];rw[An (by omega)];exact h.block j b
theorem VB{o:Oper}{d:aa}(b:Cf P o=some d)(c:d.cls=.grow):∃src dst x,o.op=.convert src dst x/\GO P src dst x=some d:=by
 unfold Cf at b
 split at b<;>rename_i e<;>first
  |(cases b;done)
  |exact⟨_,_,_,e,b⟩
  |(exfalso;have:=HE b;rw[c]at this;cases this;done)
  |(exfalso
    unfold EY at b
    (repeat' split at b)<;>try(rcases FC b with⟨_,_,rfl⟩|⟨_,_,_,_,_,_,_,rfl⟩<;>(cases c;done))
    all_goals simp only[Ab,Aa,Ae,Ac,reduceCtorEq]at b
    all_goals(repeat (first|(subst b;cases c;done)|(obtain⟨_,b⟩:=b)))
    done)
  |(exfalso
    (repeat' split at b)<;>simp only[Ab,Aa,Option.ite_none_left_eq_some,Ae,Ac,Prod.exists,reduceCtorEq]at b
    all_goals(repeat (first|(subst b;cases c;done)|(obtain⟨_,b⟩:=b)))
    done)
theorem Uf{src dst e:TypeId}(k:P.underlying src=some .string)(j:P.underlying dst=some (.slice e))(i:P.underlying e=some (.int .u8))(s:List UInt8):
  ∃cap:Nat,s.length<=cap/\(s.length<=70368744177664->cap<=maxLen)/\(convert src dst (.string ⟨⟨s⟩⟩)).run P w=.ok (.slice (some ⟨w.heap.size,0,none⟩) s.length cap)
    (((w.drew).alloc (.cells (((⟨s⟩:Array UInt8).map fun b=>Value.int .u8 b.toNat)++Array.replicate (cap-s.length) (.int .u8 0)) e)).freeze ⟨w.heap.size,cap,none⟩ 1)/\
   (((w.drew).alloc (.cells (((⟨s⟩:Array UInt8).map fun b=>Value.int .u8 b.toNat)++Array.replicate (cap-s.length) (.int .u8 0)) e)).freeze ⟨w.heap.size,cap,none⟩ 1).heap[w.heap.size]? =some (.cells (((⟨s⟩:Array UInt8).map fun b=>Value.int .u8 b.toNat)++Array.replicate (cap-s.length) (.int .u8 0)) e (cap,cap+1)):=by
 let c:Array Value:=(⟨s⟩:Array UInt8).map fun b=>.int .u8 b.toNat
 have l:(⟨⟨s⟩⟩:ByteArray).size=s.length:=rfl;have g:s.length<=Question.cut (.appendCap s.length 0 e) (w.tape w.drawn (.appendCap s.length 0 e)):=by simp[Question.cut]
 have f:s.length<=70368744177664->Question.cut (.appendCap s.length 0 e) (w.tape w.drawn (.appendCap s.length 0 e))<=maxLen:=fun m=>by
  simp only[Question.cut,maxLen];have:=Nat.mod_lt (w.tape w.drawn (.appendCap s.length 0 e)) (show 0<2^63-s.length by omega);omega
 generalize hq:Question.cut (.appendCap s.length 0 e) (w.tape w.drawn (.appendCap s.length 0 e))=cap at g f;refine⟨cap,g,f, ?_, ?_⟩
 ·have d:(((w.drew).alloc (.cells (c++Array.replicate (cap-s.length) (.int .u8 0)) e)).shape? w.heap.size)=some (e,cap):=by
   have:=Gk w.drew (.cells (c++Array.replicate (cap-s.length) (.int .u8 0)) e);have h:w.drew.heap.size=w.heap.size:=rfl;rw[h]at this;simp only[World.shape?,this];simp[c];omega
  simp only[convert,Sem.run_bind,run_underlying k,run_underlying j,Result.andThen_ok,run_underlying i,Conv.stringToBytes,run_choose,l,Question.forced,Ah,if_false,hq,Rg,markStringish,run_shape];have h:({w with drawn:=w.drawn+1}:World)=w.drew:=rfl;rw[h];simp only[c]at d;rw[d];simp only[run_freeze,Result.andThen_ok,Sem.run_pure]
 ·have:=Gk w.drew (.cells (c++Array.replicate (cap-s.length) (.int .u8 0)) e);have h:w.drew.heap.size=w.heap.size:=rfl;rw[h]at this;unfold World.freeze;rw[An (by omega)];simp only[Array.getElem?_modify,c]at this⊢;simp only[this,if_true,Aq];rfl
theorem Aen{G:Nat->List CV}(h:SR P G w0 M0 n st a w z){rd:Nat->Ob}{o:Oper}{i:aa}(c:Cf P o=some i)(d:i.cls=.grow){sv:SV}(l:A2 rd (so G st.fr) i=some sv):
  ∃v w',(execOp a.eval o).run P w=.ok (.value v) w'/\Below w.heap.size w w'/\AA w' (A3 M0 z st.ob) z st.ob sv v:=by
 obtain⟨src,dst,x,K,c⟩:=VB c d;unfold GO at c;split at c<;>(try cases c;done)
 ·simp only[Aa]at c;obtain⟨_,_,rfl⟩:=c;cases d
 ·simp only[Aa]at c;obtain⟨_,_,rfl⟩:=c;cases d
 ·simp only[Aa]at c;obtain⟨_,_,rfl⟩:=c;cases d
 ·rename_i e C A;split at c<;>(try cases c;done);rename_i y;simp only[Aa]at c;obtain⟨sx,J,rfl⟩:=c;have I:=h.ctx.opd J;simp only[A2]at l;generalize so G st.fr sx=q at I l;split at l<;>(try cases l;done);rename_i s;simp only[Ae,Ac]at l;obtain⟨N,rfl⟩:=l;have S:=Dy (w:=w) (M:=A3 M0 z st.ob) I;let f:Array Value:=(⟨s⟩:Array UInt8).map fun b=>.int .u8 b.toNat
  obtain⟨cap,r,_,run,g⟩:=Uf (P:=P) (w:=w) C A y s;rw[<-S]at run;have H:Below w.heap.size w ((w.drew).alloc (.cells (f++Array.replicate (cap-s.length) (.int .u8 0)) e)):=((Below.refl _ w).drew).alloc (Nat.le_refl _) _;have R:=Vw H (Nat.le_refl w.heap.size) cap 1;refine⟨.slice (some ⟨w.heap.size,0,none⟩) s.length cap,_,by simp only[execOp,K,Sem.run_bind,run,Result.andThen_ok,Sem.run_pure];rfl,R, ?_⟩;show RelC _ _ _ _;unfold RelC;refine⟨some ⟨w.heap.size,0,none⟩,s.length,cap,rfl,by simp,r,(fun m=>by cases m),(fun _ m=>by cases m),(fun m=>by cases m),fun _=>⟨⟨w.heap.size,0,none⟩,1,rfl, ?_,fun L=> ?_,F9 fun k U p=> ?_⟩⟩
  ·have:w.drew.heap.size=w.heap.size:=rfl;simp[World.freeze,this]
  ·have:=h.mutW _ L;simp at this
  ·rw[List.getElem?_map,Aa]at p;obtain⟨b,t,rfl⟩:=p;refine⟨.int .u8 b.toNat,E4,rfl,fun j u F=> ?_⟩;have O:=(Af.1 t).1
   have Q:j=0:=by
    have:=(Array.getElem?_eq_some_iff.1 F).1;simp[Value.cells]at this;exact this
   subst Q;simp only[Value.cells]at F;have D:Value.int .u8 b.toNat=u:=by simpa using F
   subst D;rw[DY];rw[cell_of_row _ _ _ _ _ _ g];have:0+((0+k)*1+0)=k:=by omega
   rw[this,Array.getElem?_append_left (by simp[f];exact O)];simp[f,t]
 ·split at c<;>(try cases c;done);simp only[Aa]at c;obtain⟨_,_,rfl⟩:=c;cases d
theorem X8{w:World}{M:MM}:∀(s:List UInt8),AU w M 1 (s.map fun b=>CV.int .u8 b.toNat) (s.map fun b=>Value.int .u8 b.toNat)
 | []=>rfl
 |b::s=>⟨.int .u8 b.toNat,s.map fun b=>Value.int .u8 b.toNat,rfl,rfl,E4,X8 s⟩
theorem Af3{G:Nat->List CV}(h:SR P G w0 M0 n st a w z){o:Oper}{e C:Nat}{x:SO}(c:Cf P o=some (.bytes e x))(u:P.info? C=none){d:Nat}{sv:SV}{ob:Ob}(j:By (so G st.fr) d (.nbytes C x)=some (sv,ob))(J:d<n)(I:st.ob d=.none):
  Jw P G w0 M0 n st a w o d sv ob:=by
 obtain⟨src,dst,D,H,c⟩:=VB c rfl;unfold GO at c;split at c<;>(try cases c;done)
 ·simp only[Aa]at c;obtain⟨_,_,f⟩:=c;cases f
 ·simp only[Aa]at c;obtain⟨_,_,f⟩:=c;cases f
 ·simp only[Aa]at c;obtain⟨_,_,f⟩:=c;cases f
 ·rename_i Q r p;split at c<;>(try cases c;done);rename_i m;simp only[Aa]at c;obtain⟨sx,F,f⟩:=c;cases f;have y:=h.ctx.opd F;simp only[By]at j;generalize so G st.fr x=q at y j;split at j<;>(try cases j;done);rename_i s;simp only[Ae,Ac,Prod.mk.injEq]at j;obtain⟨t,rfl,rfl⟩:=j;have L:=Dy (w:=w) (M:=A3 M0 z st.ob) y;obtain⟨cap,l,k,run,i⟩:=Uf (P:=P) (w:=w) r p m s;rw[<-L]at run;have v:Below w.heap.size w ((w.drew).alloc (.cells (((⟨s⟩:Array UInt8).map fun b=>Value.int .u8 b.toNat)++Array.replicate (cap-s.length) (.int .u8 0)) e)):=((Below.refl _ w).drew).alloc (Nat.le_refl _) _;have K:=Vw v (Nat.le_refl w.heap.size) cap 1;refine HU h J I (s:=convert src dst (a.eval D)) (by simp only[execOp,H]) run K (fun g A=> ?_) fun O N=>⟨⟨s.map fun b=>.int .u8 b.toNat,⟨by simp,.inr ⟨w.heap.size,cap,_,e,(cap,cap+1),by simp,Nat.zero_le _,i,fun hi=>by simp[u]at hi,.inr (by simp),by simpa using l, ?_, ?_, ?_⟩⟩,X8 s⟩,FS (by simp),DB.symm⟩
  ·simp only[blk,Ac]at A;subst A;have:w.drew.heap.size=w.heap.size:=rfl;exact⟨Nat.le_refl _,by simp[World.freeze,this]⟩
  ·exact k t
  ·simp;omega
  ·simp[List.take_append]
 ·split at c<;>(try cases c;done);simp only[Aa]at c;obtain⟨_,_,f⟩:=c;cases f
theorem Afr{G:Nat->List CV}(h:SR P G w0 M0 n st a w z){rd:Nat->Ob}{o:Oper}{e s:Nat}{xs:List SO}(b:Cf P o=some (.mksl e s xs)){sv:SV}(H:A2 rd (so G st.fr) (.lsl e s xs)=some sv):
  ∃v w',(execOp a.eval o).run P w=.ok (.value v) w'/\Below w.heap.size w w'/\AA w' (A3 M0 z st.ob) z st.ob sv v:=by
 have U:∃t len parts,o.op=.buildSlice t len parts:=by
  unfold Cf at b
  split at b<;>rename_i p<;>first
   |(cases b;done)
   |exact⟨_,_,_,p⟩
   |(exfalso;have:=HE b;cases this;done)
   |(exfalso;have:=I1 b;rcases this with m|m<;>cases m;done)
   |(exfalso
     unfold EY at b
     (repeat' split at b)<;>try(rcases FC b with⟨_,_,m⟩|⟨_,_,_,_,_,_,_,m⟩<;>(cases m;done))
     all_goals simp only[Ab,Aa,Ae,Ac,reduceCtorEq,and_false,exists_false,false_and]at b
     done)
   |(exfalso
     (repeat' split at b)<;>simp only[Ab,Aa,Option.ite_none_left_eq_some,Ae,Ac,Prod.exists,reduceCtorEq,and_false,exists_false,false_and]at b
     done)
 obtain⟨t,len,parts,p⟩:=U;unfold Cf at b;rw[p]at b;simp only at b;split at b<;>(try cases b;done);rename_i e' L;simp only[Ab,Ae,Ac,aa.mksl.injEq]at b;obtain⟨i,hi,vz,K,zc,q,I,r,⟨f,W,C,D⟩,rfl,rfl,rfl⟩:=b;simp only[A2,Ab,Ae,Ac]at H;obtain⟨l,O,c,rfl⟩:=H;obtain⟨vs,d,y,run⟩:=Wy h L hi K q r f W C D O c;have S:execOp a.eval o=(do pure (.value (<-Instr.buildSlice t len (parts.map fun(i,x)=>(i,a.eval x)))):Sem Next):=by simp only[execOp,p]
 refine⟨_,_,by rw[S];simp[run];exact⟨rfl,rfl⟩,GH _ _, ?_⟩;have R:=L1 d c;have Q:Bu w (A3 M0 z st.ob) (w.alloc (.cells ⟨vs.flatMap fun v=>v.cells.toList⟩ e')) (A3 M0 z st.ob):=keeps_below (GH _ _);show RelC _ _ _ _;unfold RelC;refine⟨some ⟨w.heap.size,0,none⟩,len,len,rfl,by rw[<-y,d.length],Nat.le_refl _,(fun g=>by cases g),(fun g=>by cases g),(fun g=>by cases g),fun _=>⟨⟨w.heap.size,0,none⟩,i.size,rfl,by simp,fun N=> ?_,F9 fun k el F=> ?_⟩⟩
 ·have:=h.mutW _ N;simp at this
 ·obtain⟨u,Z,Y,X⟩:=GE R F;refine⟨u,RelC.keep Q _ _ Z,Y,fun j J A=> ?_⟩;rw[DY,cell_of_row _ _ _ _ _ _ (Gk _ _)];have V:=X j J A;simpa using V
theorem ZB{G:Nat->List CV}(h:SR P G w0 M0 n st a w z){rd:Nat->Ob}{o:Oper}{e s b:Nat}{x y:SO}(f:Cf P o=some (.append e s b x y)){sv:SV}(F:A2 rd (so G st.fr) (.capp e s b x y)=some sv):
  ∃v w',(execOp a.eval o).run P w=.ok (.value v) w'/\Below w.heap.size w w'/\AA w' (A3 M0 z st.ob) z st.ob sv v:=by
 have hb:∃c,o.op=.call c/\EY P c=some (.append e s b x y):=by
  unfold Cf at f
  split at f<;>rename_i ho<;>first
   |(cases f;done)
   |exact⟨_,ho,f⟩
   |(exfalso;have:=HE f;cases this;done)
   |(exfalso;have:=I1 f;rcases this with h'|h'<;>cases h';done)
   |(exfalso
     (repeat' split at f)<;>simp only[Ab,Aa,Option.ite_none_left_eq_some,Ae,Ac,Prod.exists,reduceCtorEq,and_false,exists_false,false_and]at f
     done)
 obtain⟨c,ho,f⟩:=hb;obtain⟨callee,args,argTypes⟩:=c
 have X:callee=.builtin .append/\∃R y' t e' i Q,args.toList= [R,y']/\argTypes.toList= [t,t]/\P.underlying t=some (.slice e')/\P.info? e'=some i/\i.zero=some Q/\A4 R=some x/\A4 y'=some y/\0<i.size/\Q.cells.size=i.size/\e=e'/\s=i.size/\b=i.bytes:=by
  unfold EY at f;split at f<;>(try cases f;done)
  all_goals first
   |(rename_i C
     simp only at C;subst C;split at f<;>(try cases f;done);rename_i R y' t u g p
     split at f<;>(try cases f;done);rename_i e' _ hu _;simp only[Ab,Ae,Ac]at f;obtain⟨i,hi,Q,hz,sx,hsx,sy,hsy,⟨rfl,h0,D⟩,d⟩:=f;cases d
     exact⟨rfl,_,_,_,_,_,_,g,p,hu,hi,hz,hsx,hsy,h0,D,rfl,rfl,rfl⟩)
   |(exfalso
     (repeat' split at f)<;>try(rcases FC f with⟨_,_,h'⟩|⟨_,_,_,_,_,_,_,h'⟩<;>(cases h';done))
     all_goals simp only[Ab,Aa,Ae,Ac,reduceCtorEq,and_false,exists_false,false_and]at f
     done)
 obtain⟨rfl,R,y',t,e',i,Q,g,p,ht,hi,hz,hx,hy,hsz,D,rfl,rfl,rfl⟩:=X;have hr:=h.ctx.opd hx;have U:=h.ctx.opd hy;simp only[A2]at F;generalize so G st.fr x=q at hr F;generalize so G st.fr y=q2 at U F;split at F<;>(try cases F;done);rename_i es0 nl2 es;simp only[Ae,Ac,Ag]at F;obtain⟨⟨⟨Y,V⟩,hb1,X⟩,rfl⟩:=F;obtain⟨A,c,xs2,e1,K,hA,m⟩:=Q8 h U (news:=es) rfl Y;have S:=Hz K;have I:=L2 K V;unfold AA RelC at hr;obtain⟨A',len,c',e2,e3,_,e4,_,e5,e6⟩:=hr;have hA':=e4 rfl;subst hA'
 have hes:es0= []:=by
  cases es0 with
  |nil=>rfl
  |cons e es=>obtain⟨ad,size,d,_⟩:=e6 (by simp);cases d
 subst hes;have hc0:=e5 rfl;subst hc0;subst e3;have H:w.ownsRow 0 e i.size (.slice none 0 0) 0 []:=⟨by simp,.inl ⟨rfl,rfl⟩⟩;obtain⟨v',w',r,h2,Z,N⟩:=Rd (P:=P) 0 t o.type e i Q ht hi hz D hsz (.slice none 0 0) 0 [] H A es.length c xs2 S (fun d=>by simp[hA d]) m I (by unfold maxLen;omega) (by simpa using hb1) (Nat.zero_le _);have W:Below w.heap.size w w':=⟨Z.os,Z.tape,Z.output,Z.size,fun k hk=>Z.block k hk (by simp[blk])⟩;have hk:Bu w (A3 M0 z st.ob) w' (A3 M0 z st.ob):=keeps_below W;refine⟨v',w', ?_,W, ?_⟩
 ·obtain⟨al⟩:=args;obtain⟨tl⟩:=argTypes;simp only at g p
  subst g;subst p
  have e2':a.eval R=.slice none 0 0:=e2;rw[<-e2',<-e1]at r;simp[execOp,ho,resolve,invoke,builtin,r]
 ·have hf:=AU.keep hk K;have l:=DO.of (P:=P) h2;simp only[Nat.zero_add,Ay]at l;show RelC _ _ _ _;unfold RelC;rcases Nat.eq_zero_or_pos es.length with h0|h0
  ·have:es= []:=Aw h0;subst this;rcases l.2 with⟨O,_⟩|⟨g',cap,cur,ty,fz,O,_⟩
   ·exact⟨none,0,0,O,rfl,Nat.le_refl _,(fun d=>by cases d),(fun d=>by cases d),(fun _=>rfl),fun d=>absurd rfl d⟩
   ·exact⟨some ⟨g',0,none⟩,0,cap,by simpa using O,rfl,Nat.zero_le _,(fun d=>by cases d),(fun d=>by cases d),(fun d=>by cases d),fun d=>absurd rfl d⟩
  ·rcases l.2 with⟨_,e8⟩|⟨g',cap,cur,ty,fz,O,_,J,_,_,e8,_⟩
   ·omega
   ·obtain⟨g2,cap2,cur2,e9,_,L⟩:=Nv l h0
    have hg:w.heap.size<=g2:=by
     rcases N with N|N
     ·rw[e9]at N;cases N
     ·rw[e9]at N;simp only[blk,Ac]at N;omega
    rw[O]at e9;simp only[Value.slice.injEq,Ac,Addr.mk.injEq,and_true,true_and]at e9;obtain⟨rfl,rfl⟩:=e9;refine⟨some ⟨g',0,none⟩,es.length,cap,O,rfl,e8,(fun d=>by cases d),(fun d=>by cases d),(fun d=>by cases d),fun _=>⟨⟨g',0,none⟩,i.size,rfl, ?_,fun hm=> ?_,F9 fun k el hel=> ?_⟩⟩
    ·exact C1 J
    ·have:=h.mutW _ hm;simp only at this;omega
    ·obtain⟨u,g1,g2,g3⟩:=GE hf hel;refine⟨u,g1,g2,fun j u' hu'=> ?_⟩;rw[DY];have h8:=g3 j u' hu';have:=L _ _ h8;simpa using this
end
section
variable {P:Program} {w:World} {M:MM} {z:Cz} {ob:Nat->Ob} {T:List Nat}
theorem Fl{id:Nat}:CS T ob id≠ .none<->T.contains id=true/\ob id≠ .none:=by
 unfold CS
 cases h:T.contains id with
 |false=>simp
 |true=>simp only[if_true,true_and];cases ob id<;>simp[Mp]
theorem AA.cut{s:SV}{v:Value}(h:AA w M z ob s v):AA w M z (CS T ob) (HF T s) v:=by
 unfold HF
 cases s<;>simp only[SV.ref]<;>first
  |exact h
  |trivial
  |(split
    ·rename_i hT;exact⟨Fl.2 ⟨hT,h.1⟩,h.2⟩
    ·trivial)
theorem AH.cut:∀{cs:List SV} {vs:List Value},AH w M z ob cs vs->AH w M z (CS T ob) (cs.map (HF T)) vs
 | [],_,h=>h
 |c::cs,vs,h=>by
  obtain⟨v,b,e,f,d⟩:=h;exact⟨v,b,e,AA.cut f,AH.cut d⟩
theorem Bg.cut{B id:Nat}{v:Value}:∀{o:Ob},Bg P w M B z ob id v o->Bg P w M B z (CS T ob) id v (Mp T o)
 | .none,_=>trivial
 | .box cs bt,h=>by
  obtain⟨g,ty,vs,e,c,b⟩:=h;exact⟨g,ty,vs,e,c,AH.cut b⟩
 | .arr _ _ _,h=>h
 | .map _ _ _ _ _,h=>h
 | .siter _ _,h=>h
 | .miter _ _ _,h=>h
 | .buf _ _,h=>h
end
section
variable {P:Program} {E:ah} {w0:WL} {M0:MM} {n:Nat} {st:St} {a:Act} {w w':World} {z:Cz}
theorem WY{T:List Nat}{g:Nat}(h:own z (CS T st.ob) g):own z st.ob g:=by
 obtain⟨id,c,b⟩:=h;exact⟨id,(Fl.1 c).2,b⟩
theorem Agb(T:List Nat)(o:Ob):bA (Mp T o)=bA o:=by cases o<;>rfl
theorem SR.lies{G:Nat->List CV}(h:SR P G w0 M0 n st a w z)(T:List Nat):GC P w (A3 M0 z st.ob) z T (CS T st.ob) where
 ob:=fun id=>by
  have:=Bg.cut (T:=T) (h.ob id);show Bg P w _ 0 z _ id _ (CS T st.ob id);unfold CS;split
  ·exact this
  ·trivial
 lo:=fun id g b d=>⟨(h.lo id g (Fl.1 b).2 d).2,.inr ⟨id,(Fl.1 b).2,d⟩⟩
 apart:=fun i j g e b d=>h.apart i j g e (Fl.1 b).2 (Fl.1 d).2
 told:=fun N f c=>by
  unfold CS at c;split at c
  ·rw[Agb]at c;exact h.nam.told N f c
  ·cases c
 only:=fun id b=>(Fl.1 b).1
 al:=rfl
theorem SR.turned{G:Nat->List CV}(h:SR P G w0 M0 n st a w z){T:List Nat}{m:Nat->Ob}{z':Cz}(Y:w'.os=w.os)(ht:w'.tape=w.tape)(hop:w'.output=w.output)(R:w.heap.size<=w'.heap.size)
  (U:∀g,g<w.heap.size->¬own z (CS T st.ob) g->w'.heap[g]? =w.heap[g]?) (C:GC P w' (A3 (A3 M0 z st.ob) z' m) z' T m)
  (H:∀id g,m id≠ .none->blk (z'.σ id)=some g->(CS T st.ob id≠ .none/\blk (z.σ id)=some g)\/w.heap.size<=g) (hal:z'.al=z.al):
  ∃t,SR P G w0 M0 n (CI T m st) a w' t/\∀{c:CV} {v:Value},RelC w' (A3 (A3 M0 z st.ob) z' m) c v->RelC w' (A3 M0 t (CI T m st).ob) c v:=by
 let t:Cz:={σ:=fun id=>if T.contains id=true then z'.σ id else z.σ id,β:=fun id=>if T.contains id=true then z'.β id else z.β id,al:=z.al};have o:∀id,T.contains id=true->t.σ id=z'.σ id:=fun id hT=>by show(if _ then _ else _)=_;rw[Ao hT]
 have p:∀id,¬T.contains id=true->t.σ id=z.σ id:=fun id hT=>by show(if _ then _ else _)=_;rw[An hT]
 have W:∀id,¬T.contains id=true->t.β id=z.β id:=fun id hT=>by show(if _ then _ else _)=_;rw[An hT]
 have V:∀id,T.contains id=true->t.β id=z'.β id:=fun id hT=>by show(if _ then _ else _)=_;rw[Ao hT]
 have q:∀id,T.contains id=true->(CI T m st).ob id=m id:=fun id hT=>by show(if _ then _ else _)=_;rw[Ao hT]
 have Q:∀id,¬T.contains id=true->(CI T m st).ob id=Cp T (st.ob id):=fun id hT=>by show(if _ then _ else _)=_;rw[An hT]
 have f:∀id,¬T.contains id=true->((CI T m st).ob id≠ .none<->st.ob id≠ .none):=fun id hT=>by rw[Q id hT];exact not_congr VP
 have A:∀g,A3 M0 t (CI T m st).ob g->A3 (A3 M0 z st.ob) z' m g:=fun g x=>by
  rcases x with x|⟨id,d,l⟩
  ·exact .inl (.inl x)
  ·by_cases hT:T.contains id=true
   ·rw[q id hT]at d;rw[o id hT]at l;exact .inr ⟨id,d,l⟩
   ·rw[p id hT]at l;exact .inl (.inr ⟨id,(f id hT).1 d,l⟩)
 have I:∀g,g<w.heap.size->A3 M0 t (CI T m st).ob g->A3 M0 z st.ob g:=fun g Z x=>by
  rcases A g x with x|⟨id,d,l⟩
  ·exact x
  ·rcases H id g d l with⟨u,y⟩|u
   ·exact .inr ⟨id,(Fl.1 u).2,y⟩
   ·omega
 have S:Bu w (A3 M0 z st.ob) w' (A3 M0 t (CI T m st).ob):=⟨R,fun g Z hm=>U g Z fun Y=>hm (.inr (WY Y)),I,rfl⟩;have hk':Bu w' (A3 (A3 M0 z st.ob) z' m) w' (A3 M0 t (CI T m st).ob):=⟨Nat.le_refl _,fun _ _ _=>rfl,fun g _ x=>A g x,hal.symm⟩
 have hs:∀{s:SV} {v:Value},AA w (A3 M0 z st.ob) z st.ob s v->AA w' (A3 M0 t (CI T m st).ob) t (CI T m st).ob (AD T s) v:=by
  intro s v hv
  cases hr:s.ref with
  |none=>
   cases s<;>simp[SV.ref]at hr
   ·exact RelC.keep S _ _ hv
   ·trivial
  |some i=>
   by_cases hi:T.contains i=true
   ·have:AD T s=.undef:=by cases s<;>simp_all[SV.ref,AD]
    rw[this];trivial
   ·have e:AD T s=s:=by cases s<;>simp_all[SV.ref,AD]
    rw[e];refine AA.keep S ⟨fun j r d=> ?_,fun j r d=> ?_,fun j r d k b U=> ?_⟩ hv;all_goals(rw[hr]at r;cases r)
    ·exact(f i hi).2 d
    ·exact p i hi
    ·rw[W i hi];exact U
 have hss:∀(cs:List SV) vs,AH w (A3 M0 z st.ob) z st.ob cs vs->AH w' (A3 M0 t (CI T m st).ob) t (CI T m st).ob (cs.map (AD T)) vs:=by
  intro cs
  induction cs with
  |nil=>intro vs K;exact K
  |cons c cs ih=>
   intro vs K;obtain⟨v,X,e,d,l⟩:=K;exact⟨v,X,e,hs d,ih X l⟩
 have O:∀id g,¬T.contains id=true->st.ob id≠ .none->blk (z.σ id)=some g->w'.heap[g]? =w.heap[g]? :=fun id g hT hl x=>by
  refine U g (h.lo id g hl x).2 fun⟨i,d,l⟩=> ?_;have:=Fl.1 d;exact h.apart i id g (fun e=>hT (e▸this.1)) this.2 hl l x
 refine⟨t,⟨h.size,h.defers,⟨Y.trans h.below.os,ht.trans h.below.tape,hop.trans h.below.output,Nat.le_trans h.below.size R,fun k S C=> ?_⟩,h.outer, ?_,h.glob,fun i=>hs (h.fr i),fun id=> ?_,fun id g d l=> ?_,fun i j g J d l u y=> ?_⟩,fun L=>RelC.keep hk' _ _ L⟩
 ·rw[U k (Nat.lt_of_lt_of_le S h.below.size) fun Y=> ?_]
  ·exact h.below.block k S C
  ·obtain⟨id,d,l⟩:=WY Y;exact C id (h.low d l S)
 ·refine⟨h.nam.lent,fun N hN L=> ?_,h.nam.names,h.nam.low⟩;by_cases hT:T.contains N=true
  ·rw[q N hT]at L;rw[o N hT,C.told N hN L,hal]
  ·rw[Q N hT,QA]at L;rw[p N hT];exact h.nam.told N hN L
 ·by_cases hT:T.contains id=true
  ·rw[q id hT,o id hT];refine Bg.keep hk' (fun _ _=>rfl) (fun cs _ s _=>⟨fun j r d=> ?_,fun j r d=> ?_,fun j r d k b U=> ?_⟩) (fun k b K=>by rw[V id hT]at K;exact K) (C.ob id)
   ·rw[q j (C.only j d)];exact d
   ·exact o j (C.only j d)
   ·rw[V j (C.only j d)];exact U
  ·rw[Q id hT,p id hT];have D:=h.ob id
   cases F:st.ob id with
   |none=>trivial
   |box cs=>
    rw[F]at D;obtain⟨g,ty,vs,e1,e2,e3⟩:=D;exact⟨g,ty,vs,e1,(O id g hT (by rw[F];simp) (by rw[e1];rfl)).trans e2,hss cs vs e3⟩
   |_=>
    rw[F]at D;exact Bg.keep S (fun g x=>O id g hT (by rw[F];simp) x) (fun cs L=>by cases L) (fun k b K=>by rw[W id hT]at K;exact K) D
 ·by_cases hT:T.contains id=true
  ·rw[q id hT]at d;rw[o id hT]at l;refine⟨?_,(C.lo id g d l).1⟩;rcases H id g d l with⟨u,y⟩|u
   ·exact(h.lo id g (Fl.1 u).2 y).1
   ·exact .inl (Nat.le_trans h.below.size u)
  ·rw[p id hT]at l;have:=h.lo id g ((f id hT).1 d) l;exact⟨this.1,Nat.lt_of_lt_of_le this.2 R⟩
 ·by_cases hi:T.contains i=true
  ·by_cases r:T.contains j=true
   ·rw[q i hi]at d;rw[q j r]at l;rw[o i hi]at u;rw[o j r]at y;exact C.apart i j g J d l u y
   ·rw[q i hi]at d;rw[o i hi]at u;rw[p j r]at y;have hl2:=(f j r).1 l;rcases H i g d u with⟨h5,h6⟩|h5
    ·exact h.apart i j g J (Fl.1 h5).2 hl2 h6 y
    ·have:=(h.lo j g hl2 y).2;omega
  ·by_cases r:T.contains j=true
   ·rw[p i hi]at u;rw[q j r]at l;rw[o j r]at y;have hl1:=(f i hi).1 d;rcases H j g l y with⟨h5,h6⟩|h5
    ·exact h.apart i j g J hl1 (Fl.1 h5).2 u h6
    ·have:=(h.lo i g hl1 u).2;omega
   ·rw[p i hi]at u;rw[p j r]at y;exact h.apart i j g J ((f i hi).1 d) ((f j r).1 l) u y
theorem Aa6(hE:aV P E)(h:SR P E.G w0 M0 n st a w z){d:Option Nat}(o:∀j,d=some j->j<n){f:FuncId}{e:bL}{l:List CV}{vs:List Value}(m:RelL w (A3 M0 z st.ob) l vs){r:CV}{i:Nat->Ob}(s:F5 P E.G f e.T l (CS e.T st.ob) r i):
  Calls P f ⟨vs⟩ w fun g w'=>∃v,g=.returned v/\∃z',SR P E.G w0 M0 n ((CI e.T i st).set d (.c r)) (a.put d v) w' z':=by
 refine(s w (A3 M0 z st.ob) z vs h.mutW (V7 h) m (h.lies e.T)).mono fun g w' ⟨v,z',b,⟨H,F,D,C,A⟩,y,x,u,t⟩=> ?_;obtain⟨k,q,p⟩:=h.turned H F D C A y x u;exact⟨v,b,k,q.put o (p t)⟩
theorem Mh{G:Nat->List CV}(h:SR P G w0 M0 n st a w z):∀{xs:List Operand} {b:List SO} {l:List CV},A5 A4 xs=some b->A5 (fun x=>closed (so G st.fr x)) b=some l->RelL w (A3 M0 z st.ob) l (xs.map a.eval)
 | [],b,l,h1,h2=>by
  simp only[A5,Ac]at h1;subst h1;simp only[A5,Ac]at h2;subst h2;exact RelL.nil
 |x::xs,b,l,h1,h2=>by
  simp only[A5,Ab,Aa]at h1;obtain⟨s,i,j,d,rfl⟩:=h1;simp only[A5,Ab,Aa]at h2;obtain⟨c,f,cs,e,rfl⟩:=h2;refine RelL.cons ?_ (Mh h d e);have g:=h.ctx.opd i;generalize so G st.fr s=q at g f;cases q<;>(try cases f;done);cases f;exact g
end
end WB
