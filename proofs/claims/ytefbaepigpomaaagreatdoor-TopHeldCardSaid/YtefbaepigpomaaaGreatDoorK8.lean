/-
  OWN TEXTS, MERGED (wip/merge.py): Piter, Pgd, Pfold, Pu64, Pknuth, Pdg, LibCt, LibCl, LibSl. No condition of their own.
-/
import Derived.Test.YtefbaepigpomaaaGreatDoorK7
import Derived.Lib.Mul64
import Derived.Laws.Bits64b
import Derived.Laws.BitsLemmas
import Derived.Lib.ItoaNum
import Derived.Shelf.SlSortCmp.WholeK
import Derived.Shelf.SlSortCmp.NoneTotal
set_option linter.unusedVariables false
set_option linter.unusedSimpArgs false
open Go.IntKind (i64 u64 u8 u32)
namespace WB
open Go Go.RowKit
theorem bs{α β:Type}(a:α)(f:α->Option β):(some a).bind f=f a:=(Option.bind_some a f).trans (Eq.refl _)
theorem ms{α β:Type}(a:α)(f:α->β):(some a).map f=some (f a):=(Option.map_some (f:=f) (a:=a)).trans (Eq.refl _)
theorem UY{S T:Type}{b:S->Option (S⊕T)}{t:T}(I:Nat->S->Prop)(h:∀n s,I n s->(∃s',b s=some (.inl s')/\∃m,m<n/\I m s')\/b s=some (.inr t)):∀n s,I n s->iter b s=some t:=by
 intro n
 induction n using Nat.strongRecOn with
 |_ n ih=>
  intro s c;rw[Pu];rcases h n s c with⟨s',a,m,d,e⟩|a
  ·rw[a];exact ih m d s' e
  ·rw[a];rfl
theorem H0{α:Type}{c:List α}{i:Nat}{a:α}(h:c[i]? =some a):ap c (i:Int)=some a:=by
 have:=(Af.1 h).1;unfold ap;rw[if_pos ⟨by omega,by omega⟩];simpa using h
theorem WY{s:List UInt8}{i:Nat}{b:UInt8}(h:s[i]? =some b):bQ s (i:Int)=some (b.toNat:Int):=by
 have:=(Af.1 h).1;unfold bQ;rw[if_pos ⟨by omega,by omega⟩];simp[h]
theorem A7{n:Int}(c: -9223372036854775808≤n)(a:n≤9223372036854775807):i64.wrap n=n:=Go.IntWalk.i64_in n ⟨c,a⟩
theorem Lj{α β:Type}{eq:α->α->Bool}(d:∀a b,eq a b=true<->a=b)(z:β)(k c:α) [Decidable (k=c)](v:β):∀(m:List (α×β)),AP eq z k (Bk eq c v m)=if k=c then(v,true)else AP eq z k m
 | []=>by
  unfold Bk AP;by_cases h:k=c
  ·subst h;simp[(d k k).2 rfl]
  ·have:eq k c=false:=by
    cases i:eq k c with
    |false=>rfl
    |true=>exact absurd ((d _ _).1 i) h
   simp[this,h,AP]
 |p::m=>by
  unfold Bk;by_cases f:eq c p.1=true
  ·rw[if_pos f];have e:=(d _ _).1 f;unfold AP;by_cases h:k=c
   ·subst h;simp[f]
   ·have:eq k p.1=false:=by
     cases i:eq k p.1 with
     |false=>rfl
     |true=>exact absurd (((d _ _).1 i).trans e.symm) h
    simp[this,h]
  ·rw[if_neg f];unfold AP;by_cases g:eq k p.1=true
   ·have e:=(d _ _).1 g;have:k≠c:=fun h=>f ((d _ _).2 (h.symm.trans e));simp[g,this]
   ·simp only[g,Ah,if_false];exact Lj d z k c v m
section
variable {α β γ δ:Type} {p:Prop} [Decidable p]
theorem aN(X:Option α)(f:α->Option β):(if p then X else none).bind f=if p then X.bind f else none:=by by_cases h:p<;>simp[h]
theorem aL(X:Option α)(f:α->β):(if p then X else none).map f=if p then X.map f else none:=by by_cases h:p<;>simp[h]
theorem aK(Y Z:Option β)(W:Option β):(if p then(if p then Z else W)else Y)=if p then Z else Y:=by by_cases h:p<;>simp[h]
theorem gM(A:Option α)(B:Option α->Option β)(K:Option β->Option γ):(Option.bind (if p then A.map some else some none) fun x=>Option.bind (if p then(B x).map some else some none) K)=Option.bind (if p then(A.bind fun v=>B (some v)).map some else some none) K:=by by_cases h:p<;>cases A<;>simp[h]
theorem aR(A:Option α)(B:Option α->Option β)(C:Option α->Option β->Option γ)(K:Option γ->Option δ):(Option.bind (if p then A.map some else some none) fun x=>Option.bind (if p then(B x).map some else some none) fun y=>Option.bind (if p then(C x y).map some else some none) K)=Option.bind (if p then(A.bind fun v=>(B (some v)).bind fun w=>C (some v) (some w)).map some else some none) K:=by
 by_cases h:p
 ·cases A with
  |none=>simp[h]
  |some v=>simp only[h,if_true,Option.map_some,Option.bind_some];cases B (some v)<;>simp
 ·simp[h]
theorem Bq(c:Bool)(A:Option α)(B:Option α->Option Bool)(K:Bool->Option β):(Option.bind (if c=true then A.map some else some none) fun x=>Option.bind (if c=true then B x else some false) K)=Option.bind (if c=true then A.bind fun v=>B (some v)else some false) K:=by cases c<;>cases A<;>simp
theorem aO(c:Bool)(A:Option α)(B:Option α->Option Bool)(K:Bool->Option β):(Option.bind (if c=false then A.map some else some none) fun x=>Option.bind (if c=true then some true else B x) K)=Option.bind (if c=true then some true else A.bind fun v=>B (some v)) K:=by cases c<;>cases A<;>simp
theorem Br(A B:Option Bool)(K:Option Bool->Option β):(Option.bind (if p then A.map some else some none) fun g=>Option.bind (if g=some true then B.map some else some none) fun x=>Option.bind (if p then(g.bind fun z=>if z=true then x else some false).map some else some none) K)=Option.bind (if p then(A.bind fun z=>if z=true then B else some false).map some else some none) K:=by
 by_cases h:p
 ·cases A with
  |none=>simp[h]
  |some v=>cases v<;>cases B<;>simp[h]
 ·simp[h]
theorem Bw(A B:Option Bool)(K:Option Bool->Option β):(Option.bind (if p then A.map some else some none) fun g=>Option.bind (if g=some false then B.map some else some none) fun x=>Option.bind (if p then(g.bind fun z=>if z=true then some true else x).map some else some none) K)=Option.bind (if p then(A.bind fun z=>if z=true then some true else B).map some else some none) K:=by
 by_cases h:p
 ·cases A with
  |none=>simp[h]
  |some v=>cases v<;>cases B<;>simp[h]
 ·simp[h]
theorem aT(c:Bool)(A:Option Bool)(B:Option α)(C:Option α->Option Bool)(K:Bool->Option β):(Option.bind (if c=true then A.map some else some none) fun g=>Option.bind (if g=some true then B.map some else some none) fun x=>Option.bind (if c=true then g.bind fun z=>if z=true then C x else some false else some false) K)=Option.bind (if c=true then A.bind fun z=>if z=true then B.bind fun v=>C (some v)else some false else some false) K:=by
 cases c<;>cases A<;>first|(simp;done)|(rename_i v;cases v<;>cases B<;>simp)
theorem aS(c:Bool)(A:Option Bool)(B:Option α)(C:Option α->Option Bool)(K:Bool->Option β):(Option.bind (if c=false then A.map some else some none) fun g=>Option.bind (if g=some true then B.map some else some none) fun x=>Option.bind (if c=true then some true else g.bind fun z=>if z=true then C x else some false) K)=Option.bind (if c=true then some true else A.bind fun z=>if z=true then B.bind fun v=>C (some v)else some false) K:=by
 cases c<;>cases A<;>first|(simp;done)|(rename_i v;cases v<;>cases B<;>simp)
theorem aQ(c:Bool)(A:Option Bool)(B:Option α)(C:Option α->Option Bool)(K:Bool->Option β):(Option.bind (if c=true then A.map some else some none) fun g=>Option.bind (if g=some false then B.map some else some none) fun x=>Option.bind (if c=true then g.bind fun z=>if z=true then some true else C x else some false) K)=Option.bind (if c=true then A.bind fun z=>if z=true then some true else B.bind fun v=>C (some v)else some false) K:=by
 cases c<;>cases A<;>first|(simp;done)|(rename_i v;cases v<;>cases B<;>simp)
theorem aP(c:Bool)(A:Option Bool)(B:Option α)(C:Option α->Option Bool)(K:Bool->Option β):(Option.bind (if c=false then A.map some else some none) fun g=>Option.bind (if g=some false then B.map some else some none) fun x=>Option.bind (if c=true then some true else g.bind fun z=>if z=true then some true else C x) K)=Option.bind (if c=true then some true else A.bind fun z=>if z=true then some true else B.bind fun v=>C (some v)) K:=by
 cases c<;>cases A<;>first|(simp;done)|(rename_i v;cases v<;>cases B<;>simp)
theorem Bn(c:Bool)(A:Option Bool)(B:Option α)(C:Option α->Option Bool)(F:Bool->Option Bool)(K:Bool->Option β):(Option.bind (if c=true then A.map some else some none) fun g=>Option.bind (if g=some true then B.map some else some none) fun x=>Option.bind (if c=true then(g.bind fun z=>if z=true then C x else some false).bind F else some false) K)=Option.bind (if c=true then(A.bind fun z=>if z=true then B.bind fun v=>C (some v)else some false).bind F else some false) K:=by
 cases c<;>cases A<;>first|(simp;done)|(rename_i v;cases v<;>cases B<;>simp)
theorem Bp(c:Bool)(A:Option Bool)(B:Option α)(C:Option α->Option Bool)(F:Bool->Option Bool)(K:Bool->Option β):(Option.bind (if c=false then A.map some else some none) fun g=>Option.bind (if g=some true then B.map some else some none) fun x=>Option.bind (if c=true then some true else(g.bind fun z=>if z=true then C x else some false).bind F) K)=Option.bind (if c=true then some true else(A.bind fun z=>if z=true then B.bind fun v=>C (some v)else some false).bind F) K:=by
 cases c<;>cases A<;>first|(simp;done)|(rename_i v;cases v<;>cases B<;>simp)
theorem Bs(c:Bool)(A:Option Bool)(B:Option α)(C:Option α->Option Bool)(F:Bool->Option Bool)(K:Bool->Option β):(Option.bind (if c=true then A.map some else some none) fun g=>Option.bind (if g=some false then B.map some else some none) fun x=>Option.bind (if c=true then(g.bind fun z=>if z=true then some true else C x).bind F else some false) K)=Option.bind (if c=true then(A.bind fun z=>if z=true then some true else B.bind fun v=>C (some v)).bind F else some false) K:=by
 cases c<;>cases A<;>first|(simp;done)|(rename_i v;cases v<;>cases B<;>simp)
theorem Bv(c:Bool)(A:Option Bool)(B:Option α)(C:Option α->Option Bool)(F:Bool->Option Bool)(K:Bool->Option β):(Option.bind (if c=false then A.map some else some none) fun g=>Option.bind (if g=some false then B.map some else some none) fun x=>Option.bind (if c=true then some true else(g.bind fun z=>if z=true then some true else C x).bind F) K)=Option.bind (if c=true then some true else(A.bind fun z=>if z=true then some true else B.bind fun v=>C (some v)).bind F) K:=by
 cases c<;>cases A<;>first|(simp;done)|(rename_i v;cases v<;>cases B<;>simp)
theorem Bo(A:Option Bool)(B:Option α)(C:Option α->Option Bool)(F:Bool->Option γ)(K:Option γ->Option β):(Option.bind (if p then A.map some else some none) fun g=>Option.bind (if g=some true then B.map some else some none) fun x=>Option.bind (if p then((g.bind fun z=>if z=true then C x else some false).bind F).map some else some none) K)=Option.bind (if p then((A.bind fun z=>if z=true then B.bind fun v=>C (some v)else some false).bind F).map some else some none) K:=by
 by_cases h:p<;>cases A<;>first|(simp[h];done)|(rename_i v;cases v<;>cases B<;>simp[h])
theorem Bu(A:Option Bool)(B:Option α)(C:Option α->Option Bool)(F:Bool->Option γ)(K:Option γ->Option β):(Option.bind (if p then A.map some else some none) fun g=>Option.bind (if g=some false then B.map some else some none) fun x=>Option.bind (if p then((g.bind fun z=>if z=true then some true else C x).bind F).map some else some none) K)=Option.bind (if p then((A.bind fun z=>if z=true then some true else B.bind fun v=>C (some v)).bind F).map some else some none) K:=by
 by_cases h:p<;>cases A<;>first|(simp[h];done)|(rename_i v;cases v<;>cases B<;>simp[h])
theorem B4(A:Option α)(X Y:α->Option β)(R:α->β->Option γ)(Z:Option γ):(if p then(A.bind fun v=>(if p then X v else Y v).bind (R v))else Z)=if p then(A.bind fun v=>(X v).bind (R v))else Z:=by by_cases h:p<;>simp[h]
theorem B5(A:Option α)(X Y:α->Option β)(R:α->β->γ)(Z:Option γ):(if p then(A.bind fun v=>(if p then X v else Y v).map (R v))else Z)=if p then(A.bind fun v=>(X v).map (R v))else Z:=by by_cases h:p<;>simp[h]
theorem B6(X Y:Option β)(R:β->Option γ)(Z:Option γ):(if p then((if p then X else Y).bind R)else Z)=if p then(X.bind R)else Z:=by by_cases h:p<;>simp[h]
theorem B7(X Y:Option β)(R:β->γ)(Z:Option γ):(if p then((if p then X else Y).map R)else Z)=if p then(X.map R)else Z:=by by_cases h:p<;>simp[h]
theorem BA(c:Bool)(X Y:Option β)(R:β->Option γ)(Z:Option γ):(if c=true then Z else((if c=false then X else Y).bind R))=if c=true then Z else X.bind R:=by cases c<;>simp
theorem BB(c:Bool)(A:Option α)(X Y:α->Option β)(R:α->β->Option γ)(Z:Option γ):(if c=true then Z else(A.bind fun v=>(if c=false then X v else Y v).bind (R v)))=if c=true then Z else(A.bind fun v=>(X v).bind (R v)):=by cases c<;>simp
theorem BC(c:Bool)(A:Option α)(X Y:α->Option β)(R:α->β->γ)(Z:Option γ):(if c=true then Z else(A.bind fun v=>(if c=false then X v else Y v).map (R v)))=if c=true then Z else(A.bind fun v=>(X v).map (R v)):=by cases c<;>simp
theorem BE(c:Bool)(X Y:Option β)(R:β->γ)(Z:Option γ):(if c=true then Z else((if c=false then X else Y).map R))=if c=true then Z else X.map R:=by cases c<;>simp
theorem aM(X:Option α)(Y W:α->Option β)(Z:Option β):(if p then(X.bind fun z=>if p then Y z else W z)else Z)=if p then X.bind Y else Z:=by by_cases h:p<;>simp[h]
theorem aJ(v:α)(Z:Option (Option α)):(if p then some (some v)else Z)=if p then(some v).map some else Z:=rfl
theorem am(X:Option α):X.map (fun z=>z)=X:=by cases X<;>rfl
theorem B3(X:Option α):(X.bind fun z=>some z)=X:=by cases X<;>rfl
theorem aY(X:Option α)(f:α->β)(g:β->Option γ):(X.map f).bind g=X.bind fun v=>g (f v):=by cases X<;>rfl
theorem aX(X:Option α)(f:α->β)(g:β->γ):(X.map f).map g=X.map fun v=>g (f v):=by cases X<;>rfl
theorem aZ(X:Option α)(f:α->Option β)(g:β->γ):(X.bind f).map g=X.bind fun v=>(f v).map g:=by cases X<;>rfl
theorem b3(X:Option α)(f:α->Option β)(g:β->Option γ):(X.bind f).bind g=X.bind fun v=>(f v).bind g:=by cases X<;>rfl
end
theorem PJ{α:Type}{l:List α}{i:Nat}{x:α}(h:l[i]? =some x):decide ((i:Int)<(l.length:Int))=true:=
 Am (by have:=(Af.1 h).1;omega)
theorem Aeg{α:Type}(l:List α):decide ((l.length:Int)<(l.length:Int))=false:=Al (by omega)
theorem QT{i:Nat}(h:i<9223372036854775807):i64.wrap ((i:Int)+1)=((i+1:Nat):Int):=by
 rw[A7 (by omega) (by omega)];simp
theorem Ov{α:Type}{c a:List α}{k:Int}(e:c.length+a.length≤1000000)(d:0≤k/\k≤1000){β:Type}{f:Option β}:
  (if((c.length:Int)+(a.length:Int))*k≤140737488355328/\(c.length:Int)+(a.length:Int)≤4611686018427387904 then f else none)=f:=by
 rw[if_pos];refine⟨?_,by omega⟩;have g:((c.length:Int)+(a.length:Int))*k≤1000000*1000:=Int.mul_le_mul (by omega) d.2 d.1 (by omega);omega
theorem Es{n:Nat}(h:n<18446744073709551616):u64.wrap (n:Int)=(n:Int):=by rw[IntKind.wrap_u64];omega
theorem Et{n:Int}(c:0≤n)(a:n<18446744073709551616):u64.wrap n=n:=by rw[IntKind.wrap_u64];omega
theorem XF(n:Nat):u64.wrap (n:Int)=((n % 18446744073709551616:Nat):Int):=by rw[IntKind.wrap_u64];omega
theorem Te(op:BinOp)(k:IntKind)(x y:Int)(h:op=.and\/op=.or):BI op k x y=bits op k x y:=by
 rcases h with rfl|rfl<;>rfl
theorem JS{n:Nat}(h:n<18446744073709551616):BI .and .u64 (n:Int) 4294967295=((n % 4294967296:Nat):Int):=by
 rw[Te _ _ _ _ (.inl rfl)];have a:=bits_and_u64_nat n 4294967295 h (by omega);have e:n&&&4294967295=n % 4294967296:=Nat.and_two_pow_sub_one_eq_mod n 32;rw[e]at a;exact a
theorem GQ(n:Nat):(if(32:Int)<0 then none else some ((n:Int).fdiv (2^(min (32:Int).toNat 64))))=some ((n/4294967296:Nat):Int):=by
 rw[if_neg (by decide)];have e:(2:Int)^(min (32:Int).toNat 64)=4294967296:=by decide
 rw[e,Int.fdiv_eq_ediv_of_nonneg _ (by decide)]
 congr 1
end WB
namespace WB
section
variable {b p z u n q r:Nat}
theorem Vf(h:q*p+r=u):b*r+n<q*z<->u*b+n<q*(p*b+z):=by
 have c:q*(p*b+z)=q*p*b+q*z:=by rw[Nat.mul_add,Nat.mul_assoc]
 have a:u*b=q*p*b+b*r:=by rw[<-h,Nat.add_mul,Nat.mul_comm r b]
 omega
theorem Ac6{d N:Nat}(hd:0<d):N<q*d<->N/d<q:=(Nat.div_lt_iff_lt_mul hd).symm
theorem Pv(c:n<b)(a:u<p*b+z):(u*b+n)/(p*b+z)<b:=by
 have hd:0<p*b+z:=by omega
 rw[Nat.div_lt_iff_lt_mul hd];have:(u+1)*b≤(p*b+z)*b:=Nat.mul_le_mul_right b a;rw[Nat.add_mul]at this;rw[Nat.mul_comm b];omega
theorem Ve(h:b≤2*p)(a:0<p)(e:z<b)(g:n<b)(f:u<p*b+z):(u*b+n)/(p*b+z)≤u/p/\u/p≤b+1:=by
 have hd:0<p*b+z:=by omega
 constructor
 ·rw[Nat.le_div_iff_mul_le a];have d:(u*b+n)/(p*b+z)*(p*b+z)≤u*b+n:=Nat.div_mul_le_self _ _;generalize (u*b+n)/(p*b+z)=Q at d;have i:Q*(p*b+z)=Q*p*b+Q*z:=by rw[Nat.mul_add,Nat.mul_assoc]
  have c:Q*p*b<(u+1)*b:=by rw[Nat.add_mul];omega
  have:=Nat.lt_of_mul_lt_mul_right c;omega
 ·rw[<-Nat.lt_succ_iff,Nat.div_lt_iff_lt_mul a];have:(b+1+1)*p=b*p+2*p:=by rw[show b+1+1=b+2 by omega,Nat.add_mul]
  rw[Nat.succ_eq_add_one,this,Nat.mul_comm b p];omega
theorem Ac5(a:b≤r)(c:q≤b)(d:z<b)(h:q*p+r=u):q*(p*b+z)≤u*b+n:=by
 have i:q*(p*b+z)=q*p*b+q*z:=by rw[Nat.mul_add,Nat.mul_assoc]
 have g:u*b=q*p*b+r*b:=by rw[<-h,Nat.add_mul]
 have f:q*z≤b*b:=Nat.mul_le_mul c (by omega);have e:b*b≤r*b:=Nat.mul_le_mul_right b a;omega
end
end WB
namespace WB
open Go Go.RowKit
def H2(e size bytes:Nat):GW:=⟨8,.seq (.reg false [] [⟨some 2,.mov (.k (.sl (some true) [])),none⟩]) (.seq (.seq (.reg false [] [⟨some 3,.mov (.t 0),none⟩,⟨some 4,.isnil 1 false (.t 3),none⟩]) (.cond (.t 4) (.seq (.reg false [] [⟨some 2,.mov (.k (.sl (some true) [])),none⟩]) .ret) .skip)) (.seq (.reg false [5] [⟨some 5,.mksl e size [],none⟩,⟨some 6,.mov (.t 0),none⟩,⟨some 7,.append e size bytes (.t 5) (.t 6),none⟩,⟨some 2,.mov (.t 7),none⟩]) .ret)),[.tmp 2]⟩
theorem YI{E:ah}{e size bytes:Nat}:br E (H2 e size bytes).code (ay (H2 e size bytes).res (.sl (some true) [])) (Eh [.sl (some true) []]):=by
 unfold H2;refine⟨_,rfl,_,rfl,true,rfl,fun _=>⟨_,rfl, ?_⟩,fun h=>by cases h⟩;exact U0 rfl
theorem YH{E:ah}{e size bytes:Nat}{es:List CV}{st:St}(s:st.fr 0=.c (.sl (some false) es))(o:(es.all fun v=>AX v==size)=true)(m:(es.all fun v=>v.cells.all Cv)=true)(l:es.length*bytes≤140737488355328)(j:es.length≤4611686018427387904):
  ∃st',Cf E false [5] [⟨some 5,.mksl e size [],none⟩,⟨some 6,.mov (.t 0),none⟩,⟨some 7,.append e size bytes (.t 5) (.t 6),none⟩,⟨some 2,.mov (.t 7),none⟩] st=some st'/\st'.fr 2=.osl 5/\st'.ob 5=.arr e size es:=by
 have i:(((es.all fun v=>AX v==size)&&es.all fun v=>v.cells.all Cv)=true):=by rw[o,m];rfl
 have h:(kill [5] st).ob 5=.none:=by simp[kill]
 have a:(kill [5] st).fr 0=.c (.sl (some false) es):=Mn s
 have g:Ar E none ⟨some 5,.mksl e size [],none⟩ (kill [5] st)=some {fr:=ac (kill [5] st).fr 5 (.osl 5),ob:=ac (kill [5] st).ob 5 (.arr e size [])}:=by
  simp only[Ar,A9,aa.cls,Bl,Aq,Option.bind_some,List.all_nil,if_true,Option.getD_some,Bz,h]
 generalize hs1:({fr:=ac (kill [5] st).fr 5 (.osl 5),ob:=ac (kill [5] st).ob 5 (.arr e size [])}:St)=s1 at g;have I:s1.fr 0=.c (.sl (some false) es):=by subst hs1;simp[ac,a]
 have H:s1.fr 5=.osl 5:=by subst hs1;simp[ac]
 have F:s1.ob 5=.arr e size []:=by subst hs1;simp[ac]
 have f:Ar E none ⟨some 6,.mov (.t 0),none⟩ s1=some (s1.set (some 6) (.c (.sl (some false) es))):=by
  have:so E.G s1.fr (.t 0)=.c (.sl (some false) es):=I;simp only[Ar,A9,aa.cls,An,Dp,this,Option.map_some]
 generalize hs2:s1.set (some 6) (.c (.sl (some false) es))=s2 at f;have D:s2.fr 5=.osl 5:=by subst hs2;simp[St.set,ac,H]
 have C:s2.fr 6=.c (.sl (some false) es):=by subst hs2;simp[St.set,ac]
 have B:s2.ob 5=.arr e size []:=by subst hs2;exact F
 have d:Ar E none ⟨some 7,.append e size bytes (.t 5) (.t 6),none⟩ s2=some (St.set {kill [5] s2 with ob:=ac (kill [5] s2).ob 5 (.arr e size es)} (some 7) (.osl 5)):=by
  have x:so E.G s2.fr (.t 5)=.osl 5:=D;have w:so E.G s2.fr (.t 6)=.c (.sl (some false) es):=C;simp only[Ar,A9,aa.cls,AJ,Dp,x,w,C6,B];rw[if_pos i];simp only[List.length_nil,Nat.zero_add,true_and,List.nil_append];rw[if_pos ⟨l,j⟩]
 generalize hs3:St.set {kill [5] s2 with ob:=ac (kill [5] s2).ob 5 (.arr e size es)} (some 7) (.osl 5)=s3 at d;have A:s3.fr 7=.osl 5:=by subst hs3;simp[St.set,ac]
 have y:s3.ob 5=.arr e size es:=by subst hs3;simp[St.set,ac]
 have J:Ar E none ⟨some 2,.mov (.t 7),none⟩ s3=some (s3.set (some 2) (.osl 5)):=by
  have:so E.G s3.fr (.t 7)=.osl 5:=A;simp only[Ar,A9,aa.cls,An,Dp,this,Option.map_some]
 refine⟨s3.set (some 2) (.osl 5), ?_,by simp[St.set,ac],y⟩;simp only[Cf,Ah,if_false,List.isEmpty_cons,Ce,g,f,d,J,Option.bind_some]
theorem YK{E:ah}{e size bytes:Nat}{es:List CV}(g:(es.all fun v=>AX v==size)=true)(f:(es.all fun v=>v.cells.all Cv)=true)(d:es.length*bytes≤140737488355328)(a:es.length≤4611686018427387904):
  br E (H2 e size bytes).code (ay (H2 e size bytes).res (.sl none es)) (Eh [.sl (some false) es]):=by
 unfold H2;refine⟨_,rfl,_,rfl,false,rfl,(fun h=>by cases h),fun _=> ?_⟩;obtain⟨st',j,i,g3⟩:=YH (E:=E) (e:=e) (size:=size) (bytes:=bytes) (st:=(((Eh [.sl (some false) es]).set (some 2) (.c (.sl (some true) []))).set (some 3) (.c (.sl (some false) es))).set (some 4) (.c (.bool false))) (es:=es) rfl g f d a;exact⟨st',j,U0 (by simp[DU,Aq,EU,Fk,Cy,i,g3])⟩
def Tw(bytes:Nat){t:Ty}(x:List (D t)):Option (List (D t)):=if x.length*bytes≤140737488355328/\x.length≤4611686018427387904 then some x else none
theorem YJ{P:Program}{E:ah}(hE:aV P E){f e size bytes:Nat}(N:Dc P f=some (H2 e size bytes)){t:Ty}(Q:(t.val&&t.ok)=true)(Y:AQ (BL t)=some size)(s:Fh (BL t)=true){x:D (.one (.sl t))}{l:List CV}{y:D (.sl t)}(H:Can (.one (.sl t)) x l)(F:Tw bytes (t:=t) x=some y):
  hasBody P f=true/\CallsTo P E.G f l (.val (enc (.sl t) y)):=by
 simp only[Ag]at Q;simp only[Tw]at F;split at F
 case isFalse=>cases F
 rename_i h;cases F;unfold Can at H;obtain⟨c,rfl,H⟩:=H;have o:=H;unfold Can at o;obtain⟨nl,es,e',d⟩:=o;cases e';have A:=d.length;have m:=Jn Q.1 Y s d;simp only[Ag]at m;have W:hasBody P f=true:=LH N;refine⟨W,fun w M vs R S B=> ?_⟩;unfold RelL at B;obtain⟨v,U,rfl,X,B⟩:=B;unfold RelL at B;subst B;have i:∀j,Can (.sl t) x [.sl j es]:=fun j=>by unfold Can;exact⟨j,es,rfl,d⟩
 have C:=X;unfold RelC at C;obtain⟨I,n,cp,rfl,T,g2,g3,g4,g5,Z⟩:=C
 cases I with
 |none=>
  have O:=g5 rfl;subst O;have L:n=0:=by omega
  subst L;have V:es= []:=List.eq_nil_of_length_eq_zero T.symm;subst V
  have a:=(Pg hE N (l:= [.sl (some true) []]) (r:=.sl (some true) []) (show 1≤8 by decide) YI).2 w M [.slice none 0 0] R S (RelL.cons (by
   unfold RelC
   exact⟨none,0,0,rfl,rfl,Nat.le_refl _,(fun _=>rfl),(fun g=>by cases g),(fun _=>rfl),(fun g=>absurd rfl g)⟩) RelL.nil)
  refine a.mono fun e w' ⟨u,K,k2,J⟩=>⟨u,K,k2, ?_⟩;exact RelC.enc (i (some true)) J
 |some I=>
  have a:=(Pg hE N (l:= [.sl (some false) es]) (r:=.sl none es) (show 1≤8 by decide) (YK m.1 m.2 (by rw[A];exact h.1) (by rw[A];exact h.2))).2 w M [.slice (some I) n cp] R S (RelL.cons (by
   unfold RelC
   exact⟨some I,n,cp,rfl,T,g2,(fun g=>by cases g),(fun _ g=>by cases g),(fun g=>by cases g),Z⟩) RelL.nil)
  refine a.mono fun e w' ⟨u,K,k2,J⟩=>⟨u,K,k2, ?_⟩;exact RelC.enc (i none) J
end WB
namespace WB
open Go Go.RowKit Go.Proofs Go.Sort Go.Shelf
def sortBy{α:Type} [Inhabited α](cf:α->α->Int)(l:List α):List α:=(pdq (ltOf cf) l.toArray 0 l.length (Lib.bitLen l.length) true true).toList
theorem Xu{α:Type} [Inhabited α]{cf:α->α->Int}(a:SWO (ltOf cf))(l:List α):
  PermIn 0 l.toArray.size l.toArray (sortBy cf l).toArray/\SortedIn (ltOf cf) 0 l.toArray.size (sortBy cf l).toArray:=
 pdq_sorts (ltOf cf) a l.toArray 0 l.toArray.size (Lib.bitLen l.toArray.size) true true (Nat.zero_le _) (Nat.le_refl _) (Or.inl rfl)
theorem QG{α:Type} [Inhabited α]{cf:α->α->Int}(c:SWO (ltOf cf))(l:List α):(sortBy cf l).Perm l:=by
 have h:=(Xu c l).1;obtain⟨d,_,a⟩:=h
 have f:(sortBy cf l).toArray.extract 0 l.toArray.size=(sortBy cf l).toArray:=by
  rw[<-d];exact Array.extract_size
 have e:l.toArray.extract 0 l.toArray.size=l.toArray:=Array.extract_size;rw[f,e]at a;exact a
section
variable {α:Type} (encV:α->List Value) (k:Nat)
def Ew(l:List α):List Value:=l.flatMap encV
theorem LZ(a:∀x,(encV x).length=k):∀l:List α,(Ew encV l).length=l.length*k
 | []=>by simp[Ew]
 |x::l=>by
  have h:=LZ a l;unfold Ew at*;rw[List.flatMap_cons,List.length_append,a,h,List.length_cons,Nat.add_mul,Nat.one_mul,Nat.add_comm]
theorem U4 [Inhabited α](c:∀x,(encV x).length=k):∀(l:List α) (t:Nat),t<l.length*k->(Ew encV l)[t]? =some (encV (l.toArray[t/k]!))[t % k]!
 | [],t,h=>by simp at h
 |x::l,t,h=>by
  have f:0<k:=by rcases Nat.eq_zero_or_pos k with e|e;·subst e;simp at h
                 ·exact e
  unfold Ew;rw[List.flatMap_cons];by_cases a:t<k
  ·rw[List.getElem?_append_left (by rw[c];exact a),Nat.div_eq_of_lt a,Nat.mod_eq_of_lt a];have e:(x::l).toArray[0]! =x:=rfl;rw[e,Aj (by rw[c];exact a),getElem!_pos]
  ·have a:=Nat.le_of_not_lt a;rw[List.getElem?_append_right (by rw[c];exact a),c];have g:t-k<l.length*k:=by rw[List.length_cons,Nat.add_mul,Nat.one_mul]at h;omega
   have d:=U4 c l (t-k) g;unfold Ew at d;obtain⟨u,rfl⟩:∃u,t=u+k:=⟨t-k,by omega⟩;rw[Nat.add_sub_cancel]at d⊢;rw[d,Nat.add_div_right _ f,Nat.add_mod_right]
   congr 2
   simp
theorem U3 [Inhabited α](c:∀x,(encV x).length=k)(l:List α):Go.Sort.flatK encV k l.toArray=(Ew encV l).toArray:=by
 refine ext_get! ?_ fun t a=> ?_
 ·rw[size_flatK,List.size_toArray,List.size_toArray,LZ encV k c]
 ·rw[size_flatK,List.size_toArray]at a;rw[get_flatK _ _ _ _ (by rw[List.size_toArray];exact a)];have h:=U4 encV k c l t a;have d:t<(Ew encV l).length:=by rw[LZ encV k c];exact a
  rw[Aj d]at h;rw[getElem!_pos _ t (by rw[List.size_toArray];exact d),List.getElem_toArray];exact(Option.some.inj h).symm
end
theorem sort_ok{P:Program}{ρ:Ren}(L:SlLaysF0.n6 P ρ){t:Ty} [Inhabited (D t)](encV:D t->List Value){k:Nat}{e:TypeId}{g:Nat}{cf:D t->D t->Int}
  (aE:∀w,(isAgg (ρ.t 24)).run P w=.ok true w) (zE:∀w,(Go.sizeOf (ρ.t 24)).run P w=.ok k w) (hk:∀x,(encV x).length=k) (U:∀x,∀v∈encV x,v.oneCell'=true) (hO:SWO (ltOf cf))
  (eg:∀args w,(callFunc g args).run P w=.ok (.enter g args) w)
  (hcl:∀x y w,Calls P g #[.agg (encV x).toArray,.agg (encV y).toArray] w fun e w'=>e=.returned (.int .i64 (cf x y))/\∃q os',w'=grow (w.drewN q) os')
  (hto:∀x c (w:World) M v,Can t x [c]->RelC w M c v->v.cells=(encV x).toArray)
  (hfr:∀x (w:World) M,∃v,RelC w M (enc t x) v/\v.cells=(encV x).toArray):
  ∀a es G,CanAll (fun x c=>Can t x [c]) a es->(if a.length<4611686018427387904 then some (sortBy cf a)else none)=some G->SortC P (ρ.f 6) g e k es (G.map (enc t)):=by
 intro a es G X H w M v fl s hrel;have J:es.length=a.length:=X.length
 have Z:a.length<4611686018427387904:=by
  by_cases h:a.length<4611686018427387904
  ·exact h
  ·rw[if_neg h]at H;cases H
 rw[if_pos Z]at H;cases H;have l:=QG hO a;have d:((sortBy cf a).map (enc t)).length=a.length:=by rw[List.length_map,l.length_eq]
 have R:∀(a:List (D t)) (es:List CV) (fl:List Value),CanAll (fun x c=>Can t x [c]) a es->AG w M k es fl->fl=Ew encV a:=by
  intro a
  induction a with
  |nil=>intro es fl U N;unfold CanAll at U;subst U;unfold AG at N;subst N;rfl
  |cons x a ih=>
   intro es fl U N;unfold CanAll at U;obtain⟨c,cs,rfl,W,T⟩:=U;unfold AG at N;obtain⟨v,fl',rfl,_,h5,h6⟩:=N;rw[ih cs fl' T h6,hto x c w M v W h5];rfl
 have hfl:=R a es fl X hrel
 have E:∀(G:List (D t)) (O:World) (V:MM),AG O V k (G.map (enc t)) (Ew encV G):=by
  intro G O V
  induction G with
  |nil=>unfold AG;rfl
  |cons y G ih=>
   obtain⟨v,W,T⟩:=hfr y O V;rw[List.map_cons];unfold AG;refine⟨v,Ew encV G, ?_, ?_,W,ih⟩
   ·rw[T];rfl
   ·rw[T,List.size_toArray,hk]
 obtain⟨Q,s⟩:=s;rcases s with⟨rfl,h0⟩|⟨b,cap,o,rfl,_,hb,hcap,hmax,S,Y⟩
 ·have hx0:a= []:=List.eq_nil_of_length_eq_zero (by omega);subst hx0;have hs0:sortBy cf ([]:List (D t))= []:=List.eq_nil_of_length_eq_zero (by rw[l.length_eq];rfl);refine(AnyF.slices_SortFunc_none L none 0 (.func (.func g) #[] #[]) w).mono ?_
  rintro e w' ⟨rfl,rfl⟩
  refine⟨rfl,⟨rfl,rfl,rfl,Nat.le_refl _,fun _ _ _=>rfl⟩,[],⟨?_,Or.inl ⟨rfl, ?_⟩⟩,fun O V=> ?_⟩
  ·rw[d];simp
  ·rw[d];rfl
  ·rw[hs0];exact E [] O V
 ·have K:b<w.heap.size:=C2 hb;rw[J]at Y Q
  have hH:HoldsK encV k w b 0 a.toArray:=by
   unfold HoldsK;rw[U3 encV k hk,<-hfl];intro j hj;rw[List.size_toArray,Q]at hj;have N:o.toList[j]? =fl[j]? :=by rw[<-Y,List.getElem?_take_of_lt hj]
   have W:j<o.size:=by rw[S];exact Nat.lt_of_lt_of_le hj (Nat.mul_le_mul_right k (by omega))
   have T:j<fl.length:=by rw[Q];exact hj
   refine⟨?_, ?_⟩
   ·unfold World.cell?;rw[Nat.zero_add,hb];rw[Aj (by rw[Array.length_toList];exact W),Aj T]at N;simp only[getElem!_pos (c:=fl.toArray) (i:=j) (by rw[List.size_toArray];exact T),List.getElem_toArray];rw[<-Option.some.inj N];simp[W]
   ·simp[World.frozen?,hb]
  have B:=AnyQ.slices_SortFunc_eq L k aE zE encV hk U cf hO g #[] b 0 cap a.toArray w eg (fun m os dk _ x y=>hcl x y _) hH K (by rw[List.size_toArray];exact Z);rw[List.size_toArray]at B;rw[J];refine B.mono ?_
  rintro e2 w' ⟨rfl,n,os,rfl⟩
  have hp:pdq (ltOf cf) a.toArray 0 a.length (Lib.bitLen a.length) true true=(sortBy cf a).toArray:=by unfold sortBy;rw[Array.toArray_toList]
  rw[hp];unfold sortWorldK putRowK;rw[U3 encV k hk];have I:(Ew encV (sortBy cf a)).length=a.length*k:=by rw[LZ encV k hk,l.length_eq]
  generalize hF:Ew encV (sortBy cf a)=F at I
  have A:∀i,i<w.heap.size->(grow (putRow id (Sort.ahead w n) b 0 F.toArray) os).heap[i]? =if b=i then some (.cells (putCells id 0 F.toArray o) e (0,0))else w.heap[i]? :=by
   intro i hi;unfold grow putRow mapBlock;show(((Sort.ahead w n).heap.modify b (onCells (putCells id 0 F.toArray)))++os)[i]? =_;have ehp:(Sort.ahead w n).heap=w.heap:=rfl;rw[ehp,Array.getElem?_append_left (by rw[Array.size_modify];exact hi),Array.getElem?_modify];by_cases C:b=i
   ·subst C;rw[if_pos rfl,if_pos rfl,hb];rfl
   ·rw[if_neg C,if_neg C]
  refine⟨rfl,⟨rfl,rfl,rfl, ?_, ?_⟩,F,⟨?_,Or.inr ⟨b,cap,putCells id 0 F.toArray o, ?_,Nat.zero_le _, ?_, ?_,hmax, ?_, ?_⟩⟩,fun O V=> ?_⟩
  ·unfold grow putRow mapBlock;show w.heap.size≤(((Sort.ahead w n).heap.modify b (onCells (putCells id 0 F.toArray)))++os).size;rw[Array.size_append,Array.size_modify];exact Nat.le_add_right _ _
  ·intro i hi hne;rw[A i hi,if_neg];intro C;exact hne (by subst C;rfl)
  ·rw[d,I]
  ·rw[d]
  ·rw[A b K,if_pos rfl]
  ·rw[d];omega
  ·rw[putCells,Array.size_mapIdx,S]
  ·rw[d];have hle:a.length*k≤o.size:=by rw[S];exact Nat.mul_le_mul_right k (by omega)
   apply List.ext_getElem?;intro i;by_cases hi:i<a.length*k
   ·rw[List.getElem?_take_of_lt hi];have h5:i<F.length:=by rw[I];exact hi
    have h6:i<o.size:=Nat.lt_of_lt_of_le hi hle;rw[Array.getElem?_toList,putCells,Array.getElem?_mapIdx,Array.getElem?_eq_getElem h6,Option.map_some,if_pos ⟨Nat.zero_le _,by rw[List.size_toArray];omega⟩,Nat.sub_zero,getElem!_pos _ i (by rw[List.size_toArray];exact h5),List.getElem_toArray,Aj h5];rfl
   ·rw[List.getElem?_take_eq_none (Nat.le_of_not_lt hi),List.getElem?_eq_none (by rw[I];exact Nat.le_of_not_lt hi)]
  ·rw[<-hF];exact E _ O V
theorem wp_cut_exact{P:Program}{d:Array Oper}{id c:Nat}{Q:Exit->Act->World->Prop}{a:Act}{w:World}(A:P.follows .mixedOrders=true)(C:c<d.size)
  (f:(d.toList.zipIdx.all fun p=>p.1.after.all fun e=> !Region.binds .any e||Nat.blt e.on p.2)=true)
  (m:((List.range d.size).all fun j=>Nat.blt j c||(List.range c).all fun i=>FQ d d.size i j)=true)
  (h:∀l g,Good (d.extract 0 c) (Array.replicate c false) l->Good d (firstC c d.size) g->wpOps P d Q (l++g) a (w.drewN 1)):(Code.region id d true).wp P Q a w:=by
 have x:∀i o,d[i]? =some o->∀e∈o.after,Region.binds .any e=true->e.on<i:=by
  intro i o F e G H;rw[List.all_eq_true]at f
  have s:(o,i)∈d.toList.zipIdx:=by
   rw[List.mem_zipIdx_iff_getElem?];simpa using F
  have:=f _ s;rw[Array.all_eq_true']at this;have:=this e G;rw[H]at this;simpa using this
 refine wp_region_draw fun t=> ?_
 have B:Good d (Array.replicate d.size false) (Region.schedule (P.follows .mixedOrders) d t):=by
  simp only[Region.schedule,A,Bool.true_or,if_true,Region.linearise];exact lin_good x d.size t _ (by simp) (by rw[left_all];simp)
 obtain⟨l,g,J,D,I⟩:=Pm (N:=d.size) C x (fun j y v i hi=>by
  rw[List.all_eq_true]at m;have:=m j (List.mem_range.2 (by omega));rw[Ak]at this;rcases this with h|h
  ·have:j<c:=Ai h;omega
  ·rw[List.all_eq_true]at h
   exact h i (List.mem_range.2 hi)) B (by simp) (fun j _ v=>by simp[Array.getD_eq_getD_getElem?,v]) (fun i o hi=>by
  exfalso;rw[Array.getD_eq_getD_getElem?,Array.getElem?_replicate]at hi
  split at hi<;>cases hi)
 rw[J]
 have E:(Array.replicate d.size false).extract 0 c=Array.replicate c false:=by
  apply Array.ext_getElem?;intro j;by_cases y:j<c
  ·rw[Ga y,Array.getElem?_replicate,Array.getElem?_replicate,if_pos (by omega),if_pos y]
  ·rw[Array.getElem?_eq_none (by simp;omega),Array.getElem?_replicate,if_neg y]
 rw[E]at D;exact h l g D I
end WB
