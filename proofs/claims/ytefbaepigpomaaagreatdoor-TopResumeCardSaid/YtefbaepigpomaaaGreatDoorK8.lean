/-
  Own texts. No condition of their own.
-/
import Derived.Test.YtefbaepigpomaaaGreatDoorK7
import Derived.Lib.Mul64
import Derived.Laws.Bits64b
import Derived.Laws.BitsLemmas
import Derived.Sort.KeysCollected
import Derived.Shelf.SlSortCmp.WholeK
import Derived.Shelf.SlSortCmp.NoneTotal
set_option linter.unusedVariables false
set_option linter.unusedSimpArgs false
open Go.IntKind (i64 u64 u8 u32)
namespace WB
open Go Go.RowKit
theorem bs{α β:Type}(a:α)(f:α->Option β):(some a).bind f=f a:=(Ap a f).trans (Eq.refl _)
theorem ms{α β:Type}(a:α)(f:α->β):(some a).map f=some (f a):=(Aq (f:=f) (a:=a)).trans (Eq.refl _)
theorem VK{S T:Type}{b:S->Option (S⊕T)}{t:T}(I:Nat->S->Prop)(h:∀n s,I n s->(∃s',b s=some (.inl s')/\∃m,m<n/\I m s')\/b s=some (.inr t)):∀n s,I n s->iter b s=some t:=by
 intro n
 induction n using Nat.strongRecOn with
 |_ n ih=>
  intro s c;rw[Kg];rcases h n s c with⟨s',a,m,d,e⟩|a
  ·rw[a];exact ih m d s' e
  ·rw[a];rfl
theorem Kj{α:Type}{xs:List α}{i:Nat}{a:α}(h:xs[i]? =some a):an xs (i:Int)=some a:=by
 have:=(Af.1 h).1;unfold an;rw[Ao ⟨by omega,by omega⟩];simpa using h
theorem XX{s:List UInt8}{i:Nat}{b:UInt8}(h:s[i]? =some b):bX s (i:Int)=some (b.toNat:Int):=by
 have:=(Af.1 h).1;unfold bX;rw[Ao ⟨by omega,by omega⟩];simp[h]
theorem VV{α:Type}{xs:List α}{i j:Nat}(c:i<=j)(a:j<=xs.length):Fv xs (i:Int) (j:Int)=some ((xs.take j).drop i):=by
 unfold Fv;rw[Ao ⟨by omega,by omega,by omega⟩];simp
theorem AI{n:Int}(c: -9223372036854775808<=n)(a:n<=9223372036854775807):i64.wrap n=n:=Go.IntWalk.i64_in n ⟨c,a⟩
theorem LD{α β:Type}{eq:α->α->Bool}(d:∀a b,eq a b=true<->a=b)(z:β)(k c:α) [Decidable (k=c)](v:β):∀(m:List (α×β)),AW eq z k (Bw eq c v m)=if k=c then(v,true)else AW eq z k m
 | []=>by
  unfold Bw AW;by_cases h:k=c
  ·subst h;simp[(d k k).2 rfl]
  ·have:eq k c=false:=by
    cases i:eq k c with
    |false=>rfl
    |true=>exact absurd ((d _ _).1 i) h
   simp[this,h,AW]
 |p::m=>by
  unfold Bw;by_cases f:eq c p.1=true
  ·rw[Ao f];have e:=(d _ _).1 f;unfold AW;by_cases h:k=c
   ·subst h;simp[f]
   ·have:eq k p.1=false:=by
     cases i:eq k p.1 with
     |false=>rfl
     |true=>exact absurd (((d _ _).1 i).trans e.symm) h
    simp[this,h]
  ·rw[An f];unfold AW;by_cases g:eq k p.1=true
   ·have e:=(d _ _).1 g;have:k≠c:=fun h=>f ((d _ _).2 (h.symm.trans e));simp[g,this]
   ·simp only[g,Ah,if_false];exact LD d z k c v m
section
variable {α β γ δ:Type} {p:Prop} [Decidable p]
theorem aO(X:Option α)(f:α->Option β):(if p then X else none).bind f=if p then X.bind f else none:=by by_cases h:p<;>simp[h]
theorem aM(X:Option α)(f:α->β):(if p then X else none).map f=if p then X.map f else none:=by by_cases h:p<;>simp[h]
theorem aL(Y Z:Option β)(W:Option β):(if p then(if p then Z else W)else Y)=if p then Z else Y:=by by_cases h:p<;>simp[h]
theorem gM(A:Option α)(B:Option α->Option β)(K:Option β->Option γ):(Option.bind (if p then A.map some else some none) fun x=>Option.bind (if p then(B x).map some else some none) K)=Option.bind (if p then(A.bind fun v=>B (some v)).map some else some none) K:=by by_cases h:p<;>cases A<;>simp[h]
theorem aS(A:Option α)(B:Option α->Option β)(C:Option α->Option β->Option γ)(K:Option γ->Option δ):(Option.bind (if p then A.map some else some none) fun x=>Option.bind (if p then(B x).map some else some none) fun y=>Option.bind (if p then(C x y).map some else some none) K)=Option.bind (if p then(A.bind fun v=>(B (some v)).bind fun w=>C (some v) (some w)).map some else some none) K:=by
 by_cases h:p
 ·cases A with
  |none=>simp[h]
  |some v=>simp only[h,if_true,Aq,Ap];cases B (some v)<;>simp
 ·simp[h]
theorem B5(c:Bool)(A:Option α)(B:Option α->Option Bool)(K:Bool->Option β):(Option.bind (if c=true then A.map some else some none) fun x=>Option.bind (if c=true then B x else some false) K)=Option.bind (if c=true then A.bind fun v=>B (some v)else some false) K:=by cases c<;>cases A<;>simp
theorem aP(c:Bool)(A:Option α)(B:Option α->Option Bool)(K:Bool->Option β):(Option.bind (if c=false then A.map some else some none) fun x=>Option.bind (if c=true then some true else B x) K)=Option.bind (if c=true then some true else A.bind fun v=>B (some v)) K:=by cases c<;>cases A<;>simp
theorem B6(A B:Option Bool)(K:Option Bool->Option β):(Option.bind (if p then A.map some else some none) fun g=>Option.bind (if g=some true then B.map some else some none) fun x=>Option.bind (if p then(g.bind fun z=>if z=true then x else some false).map some else some none) K)=Option.bind (if p then(A.bind fun z=>if z=true then B else some false).map some else some none) K:=by
 by_cases h:p
 ·cases A with
  |none=>simp[h]
  |some v=>cases v<;>cases B<;>simp[h]
 ·simp[h]
theorem BC(A B:Option Bool)(K:Option Bool->Option β):(Option.bind (if p then A.map some else some none) fun g=>Option.bind (if g=some false then B.map some else some none) fun x=>Option.bind (if p then(g.bind fun z=>if z=true then some true else x).map some else some none) K)=Option.bind (if p then(A.bind fun z=>if z=true then some true else B).map some else some none) K:=by
 by_cases h:p
 ·cases A with
  |none=>simp[h]
  |some v=>cases v<;>cases B<;>simp[h]
 ·simp[h]
theorem aU(c:Bool)(A:Option Bool)(B:Option α)(C:Option α->Option Bool)(K:Bool->Option β):(Option.bind (if c=true then A.map some else some none) fun g=>Option.bind (if g=some true then B.map some else some none) fun x=>Option.bind (if c=true then g.bind fun z=>if z=true then C x else some false else some false) K)=Option.bind (if c=true then A.bind fun z=>if z=true then B.bind fun v=>C (some v)else some false else some false) K:=by
 cases c<;>cases A<;>first|(simp;done)|(rename_i v;cases v<;>cases B<;>simp)
theorem aT(c:Bool)(A:Option Bool)(B:Option α)(C:Option α->Option Bool)(K:Bool->Option β):(Option.bind (if c=false then A.map some else some none) fun g=>Option.bind (if g=some true then B.map some else some none) fun x=>Option.bind (if c=true then some true else g.bind fun z=>if z=true then C x else some false) K)=Option.bind (if c=true then some true else A.bind fun z=>if z=true then B.bind fun v=>C (some v)else some false) K:=by
 cases c<;>cases A<;>first|(simp;done)|(rename_i v;cases v<;>cases B<;>simp)
theorem aR(c:Bool)(A:Option Bool)(B:Option α)(C:Option α->Option Bool)(K:Bool->Option β):(Option.bind (if c=true then A.map some else some none) fun g=>Option.bind (if g=some false then B.map some else some none) fun x=>Option.bind (if c=true then g.bind fun z=>if z=true then some true else C x else some false) K)=Option.bind (if c=true then A.bind fun z=>if z=true then some true else B.bind fun v=>C (some v)else some false) K:=by
 cases c<;>cases A<;>first|(simp;done)|(rename_i v;cases v<;>cases B<;>simp)
theorem aQ(c:Bool)(A:Option Bool)(B:Option α)(C:Option α->Option Bool)(K:Bool->Option β):(Option.bind (if c=false then A.map some else some none) fun g=>Option.bind (if g=some false then B.map some else some none) fun x=>Option.bind (if c=true then some true else g.bind fun z=>if z=true then some true else C x) K)=Option.bind (if c=true then some true else A.bind fun z=>if z=true then some true else B.bind fun v=>C (some v)) K:=by
 cases c<;>cases A<;>first|(simp;done)|(rename_i v;cases v<;>cases B<;>simp)
theorem B2(c:Bool)(A:Option Bool)(B:Option α)(C:Option α->Option Bool)(F:Bool->Option Bool)(K:Bool->Option β):(Option.bind (if c=true then A.map some else some none) fun g=>Option.bind (if g=some true then B.map some else some none) fun x=>Option.bind (if c=true then(g.bind fun z=>if z=true then C x else some false).bind F else some false) K)=Option.bind (if c=true then(A.bind fun z=>if z=true then B.bind fun v=>C (some v)else some false).bind F else some false) K:=by
 cases c<;>cases A<;>first|(simp;done)|(rename_i v;cases v<;>cases B<;>simp)
theorem B4(c:Bool)(A:Option Bool)(B:Option α)(C:Option α->Option Bool)(F:Bool->Option Bool)(K:Bool->Option β):(Option.bind (if c=false then A.map some else some none) fun g=>Option.bind (if g=some true then B.map some else some none) fun x=>Option.bind (if c=true then some true else(g.bind fun z=>if z=true then C x else some false).bind F) K)=Option.bind (if c=true then some true else(A.bind fun z=>if z=true then B.bind fun v=>C (some v)else some false).bind F) K:=by
 cases c<;>cases A<;>first|(simp;done)|(rename_i v;cases v<;>cases B<;>simp)
theorem B7(c:Bool)(A:Option Bool)(B:Option α)(C:Option α->Option Bool)(F:Bool->Option Bool)(K:Bool->Option β):(Option.bind (if c=true then A.map some else some none) fun g=>Option.bind (if g=some false then B.map some else some none) fun x=>Option.bind (if c=true then(g.bind fun z=>if z=true then some true else C x).bind F else some false) K)=Option.bind (if c=true then(A.bind fun z=>if z=true then some true else B.bind fun v=>C (some v)).bind F else some false) K:=by
 cases c<;>cases A<;>first|(simp;done)|(rename_i v;cases v<;>cases B<;>simp)
theorem BB(c:Bool)(A:Option Bool)(B:Option α)(C:Option α->Option Bool)(F:Bool->Option Bool)(K:Bool->Option β):(Option.bind (if c=false then A.map some else some none) fun g=>Option.bind (if g=some false then B.map some else some none) fun x=>Option.bind (if c=true then some true else(g.bind fun z=>if z=true then some true else C x).bind F) K)=Option.bind (if c=true then some true else(A.bind fun z=>if z=true then some true else B.bind fun v=>C (some v)).bind F) K:=by
 cases c<;>cases A<;>first|(simp;done)|(rename_i v;cases v<;>cases B<;>simp)
theorem B3(A:Option Bool)(B:Option α)(C:Option α->Option Bool)(F:Bool->Option γ)(K:Option γ->Option β):(Option.bind (if p then A.map some else some none) fun g=>Option.bind (if g=some true then B.map some else some none) fun x=>Option.bind (if p then((g.bind fun z=>if z=true then C x else some false).bind F).map some else some none) K)=Option.bind (if p then((A.bind fun z=>if z=true then B.bind fun v=>C (some v)else some false).bind F).map some else some none) K:=by
 by_cases h:p<;>cases A<;>first|(simp[h];done)|(rename_i v;cases v<;>cases B<;>simp[h])
theorem BA(A:Option Bool)(B:Option α)(C:Option α->Option Bool)(F:Bool->Option γ)(K:Option γ->Option β):(Option.bind (if p then A.map some else some none) fun g=>Option.bind (if g=some false then B.map some else some none) fun x=>Option.bind (if p then((g.bind fun z=>if z=true then some true else C x).bind F).map some else some none) K)=Option.bind (if p then((A.bind fun z=>if z=true then some true else B.bind fun v=>C (some v)).bind F).map some else some none) K:=by
 by_cases h:p<;>cases A<;>first|(simp[h];done)|(rename_i v;cases v<;>cases B<;>simp[h])
theorem BH(A:Option α)(X Y:α->Option β)(R:α->β->Option γ)(Z:Option γ):(if p then(A.bind fun v=>(if p then X v else Y v).bind (R v))else Z)=if p then(A.bind fun v=>(X v).bind (R v))else Z:=by by_cases h:p<;>simp[h]
theorem BI(A:Option α)(X Y:α->Option β)(R:α->β->γ)(Z:Option γ):(if p then(A.bind fun v=>(if p then X v else Y v).map (R v))else Z)=if p then(A.bind fun v=>(X v).map (R v))else Z:=by by_cases h:p<;>simp[h]
theorem BJ(X Y:Option β)(R:β->Option γ)(Z:Option γ):(if p then((if p then X else Y).bind R)else Z)=if p then(X.bind R)else Z:=by by_cases h:p<;>simp[h]
theorem BK(X Y:Option β)(R:β->γ)(Z:Option γ):(if p then((if p then X else Y).map R)else Z)=if p then(X.map R)else Z:=by by_cases h:p<;>simp[h]
theorem BL(c:Bool)(X Y:Option β)(R:β->Option γ)(Z:Option γ):(if c=true then Z else((if c=false then X else Y).bind R))=if c=true then Z else X.bind R:=by cases c<;>simp
theorem BM(c:Bool)(A:Option α)(X Y:α->Option β)(R:α->β->Option γ)(Z:Option γ):(if c=true then Z else(A.bind fun v=>(if c=false then X v else Y v).bind (R v)))=if c=true then Z else(A.bind fun v=>(X v).bind (R v)):=by cases c<;>simp
theorem BN(c:Bool)(A:Option α)(X Y:α->Option β)(R:α->β->γ)(Z:Option γ):(if c=true then Z else(A.bind fun v=>(if c=false then X v else Y v).map (R v)))=if c=true then Z else(A.bind fun v=>(X v).map (R v)):=by cases c<;>simp
theorem BO(c:Bool)(X Y:Option β)(R:β->γ)(Z:Option γ):(if c=true then Z else((if c=false then X else Y).map R))=if c=true then Z else X.map R:=by cases c<;>simp
theorem aN(X:Option α)(Y W:α->Option β)(Z:Option β):(if p then(X.bind fun z=>if p then Y z else W z)else Z)=if p then X.bind Y else Z:=by by_cases h:p<;>simp[h]
theorem aK(v:α)(Z:Option (Option α)):(if p then some (some v)else Z)=if p then(some v).map some else Z:=rfl
theorem ao(X:Option α):X.map (fun z=>z)=X:=by cases X<;>rfl
theorem BG(X:Option α):(X.bind fun z=>some z)=X:=by cases X<;>rfl
theorem aX(X:Option α)(f:α->β)(g:β->Option γ):(X.map f).bind g=X.bind fun v=>g (f v):=by cases X<;>rfl
theorem aW(X:Option α)(f:α->β)(g:β->γ):(X.map f).map g=X.map fun v=>g (f v):=by cases X<;>rfl
theorem aY(X:Option α)(f:α->Option β)(g:β->γ):(X.bind f).map g=X.bind fun v=>(f v).map g:=by cases X<;>rfl
theorem aZ(X:Option α)(f:α->Option β)(g:β->Option γ):(X.bind f).bind g=X.bind fun v=>(f v).bind g:=by cases X<;>rfl
end
theorem Wn{α:Type}{l:List α}{i:Nat}{x:α}(h:l[i]? =some x):decide ((i:Int)<(l.length:Int))=true:=
 Am (by have:=(Af.1 h).1;omega)
theorem Aga{α:Type}(l:List α):decide ((l.length:Int)<(l.length:Int))=false:=Al (by omega)
theorem YH{i:Nat}(h:i<9223372036854775807):i64.wrap ((i:Int)+1)=((i+1:Nat):Int):=by
 rw[AI (by omega) (by omega)];simp
theorem OW{α:Type}{xs a:List α}{k:Int}(d:xs.length+a.length<=1000000)(c:0<=k/\k<=1000){β:Type}{f:Option β}:
  (if((xs.length:Int)+(a.length:Int))*k<=140737488355328/\(xs.length:Int)+(a.length:Int)<=4611686018427387904 then f else none)=f:=by
 rw[Ao];refine⟨?_,by omega⟩;have e:((xs.length:Int)+(a.length:Int))*k<=1000000*1000:=Int.mul_le_mul (by omega) c.2 c.1 (by omega);omega
theorem E6{n:Nat}(h:n<18446744073709551616):u64.wrap (n:Int)=(n:Int):=by rw[IntKind.wrap_u64];omega
theorem E7{n:Int}(c:0<=n)(a:n<18446744073709551616):u64.wrap n=n:=by rw[IntKind.wrap_u64];omega
theorem YI(n:Nat):u64.wrap (n:Int)=((n % 18446744073709551616:Nat):Int):=by rw[IntKind.wrap_u64];omega
theorem Ua(op:BinOp)(k:IntKind)(x y:Int)(h:op=.and\/op=.or):BS op k x y=bits op k x y:=by
 rcases h with rfl|rfl<;>rfl
theorem Kv{n:Nat}(h:n<18446744073709551616):BS .and .u64 (n:Int) 4294967295=((n % 4294967296:Nat):Int):=by
 rw[Ua _ _ _ _ (.inl rfl)];have a:=bits_and_u64_nat n 4294967295 h (by omega);have e:n&&&4294967295=n % 4294967296:=Nat.and_two_pow_sub_one_eq_mod n 32;rw[e]at a;exact a
theorem Ho(n:Nat):(if(32:Int)<0 then none else some ((n:Int).fdiv (2^(min (32:Int).toNat 64))))=some ((n/4294967296:Nat):Int):=by
 rw[An (by decide)];have e:(2:Int)^(min (32:Int).toNat 64)=4294967296:=by decide
 rw[e,Int.fdiv_eq_ediv_of_nonneg _ (by decide)]
 congr 1
end WB
namespace WB
section
variable {b p z u n q r:Nat}
theorem VS(h:q*p+r=u):b*r+n<q*z<->u*b+n<q*(p*b+z):=by
 have c:q*(p*b+z)=q*p*b+q*z:=by rw[Nat.mul_add,Nat.mul_assoc]
 have a:u*b=q*p*b+b*r:=by rw[<-h,Nat.add_mul,Nat.mul_comm r b]
 omega
theorem Ae0{d N:Nat}(a:0<d):N<q*d<->N/d<q:=(Nat.div_lt_iff_lt_mul a).symm
theorem PZ(d:n<b)(a:u<p*b+z):(u*b+n)/(p*b+z)<b:=by
 have c:0<p*b+z:=by omega
 rw[Nat.div_lt_iff_lt_mul c];have:(u+1)*b<=(p*b+z)*b:=Nat.mul_le_mul_right b a;rw[Nat.add_mul]at this;rw[Nat.mul_comm b];omega
theorem VR(i:b<=2*p)(a:0<p)(e:z<b)(g:n<b)(f:u<p*b+z):(u*b+n)/(p*b+z)<=u/p/\u/p<=b+1:=by
 have h:0<p*b+z:=by omega
 constructor
 ·rw[Nat.le_div_iff_mul_le a];have d:(u*b+n)/(p*b+z)*(p*b+z)<=u*b+n:=Nat.div_mul_le_self _ _;generalize (u*b+n)/(p*b+z)=Q at d;have j:Q*(p*b+z)=Q*p*b+Q*z:=by rw[Nat.mul_add,Nat.mul_assoc]
  have c:Q*p*b<(u+1)*b:=by rw[Nat.add_mul];omega
  have:=Nat.lt_of_mul_lt_mul_right c;omega
 ·rw[<-Nat.lt_succ_iff,Nat.div_lt_iff_lt_mul a];have:(b+1+1)*p=b*p+2*p:=by rw[show b+1+1=b+2 by omega,Nat.add_mul]
  rw[Nat.succ_eq_add_one,this,Nat.mul_comm b p];omega
theorem Aez(a:b<=r)(c:q<=b)(d:z<b)(h:q*p+r=u):q*(p*b+z)<=u*b+n:=by
 have i:q*(p*b+z)=q*p*b+q*z:=by rw[Nat.mul_add,Nat.mul_assoc]
 have g:u*b=q*p*b+r*b:=by rw[<-h,Nat.add_mul]
 have f:q*z<=b*b:=Nat.mul_le_mul c (by omega);have e:b*b<=r*b:=Nat.mul_le_mul_right b a;omega
end
end WB
namespace WB
open Go Go.RowKit
def cH(n:Nat):UInt8:=UInt8.ofNat (48+n)
theorem Mv{n:Nat}(h:n<10):Lib.decDigits n= [cH n]:=Lib.decDigits_one h
theorem UE{n:Nat}(h:¬n<10):Lib.decDigits n=Lib.decDigits (n/10)++ [cH (n % 10)]:=by rw[Lib.decDigits,dif_neg h];rfl
theorem Mu:∀{n k:Nat},0<k->n<10^k->(Lib.decDigits n).length<=k:=by
 intro n k
 induction k generalizing n with
 |zero=>intro h;omega
 |succ k ih=>
  intro _ h;by_cases a:n<10
  ·rw[Mv a];simp
  ·rw[UE a,List.length_append]
   have:0<k:=by
    rcases Nat.eq_zero_or_pos k with rfl|h0
    ·simp at h;omega
    ·exact h0
   have:=ih (n:=n/10) this (by rw[Nat.pow_succ]at h;omega);simp only[List.length_singleton];omega
def HR(e size bytes:Nat):Hx:=⟨8,.seq (.reg false [] [⟨some 2,.mov (.k (.sl (some true) [])),none⟩]) (.seq (.seq (.reg false [] [⟨some 3,.mov (.t 0),none⟩,⟨some 4,.isnil 1 false (.t 3),none⟩]) (.cond (.t 4) (.seq (.reg false [] [⟨some 2,.mov (.k (.sl (some true) [])),none⟩]) .ret) .skip)) (.seq (.reg false [5] [⟨some 5,.mksl e size [],none⟩,⟨some 6,.mov (.t 0),none⟩,⟨some 7,.append e size bytes (.t 5) (.t 6),none⟩,⟨some 2,.mov (.t 7),none⟩]) .ret)),[.tmp 2]⟩
theorem ZM{E:ah}{e size bytes:Nat}:bz E (HR e size bytes).code (av (HR e size bytes).res (.sl (some true) [])) (Ev [.sl (some true) []]):=by
 unfold HR;refine⟨_,rfl,_,rfl,true,rfl,fun _=>⟨_,rfl, ?_⟩,fun h=>by cases h⟩;exact Vo rfl
theorem ZL{E:ah}{e size bytes:Nat}{es:List CV}{st:St}(s:st.fr 0=.c (.sl (some false) es))(o:(es.all fun v=>Bk v==size)=true)(m:(es.all fun v=>v.cells.all C7)=true)(l:es.length*bytes<=140737488355328)(j:es.length<=4611686018427387904):
  ∃st',Co E false [5] [⟨some 5,.mksl e size [],none⟩,⟨some 6,.mov (.t 0),none⟩,⟨some 7,.append e size bytes (.t 5) (.t 6),none⟩,⟨some 2,.mov (.t 7),none⟩] st=some st'/\st'.fr 2=.osl 5/\st'.ob 5=.arr e size es:=by
 have i:(((es.all fun v=>Bk v==size)&&es.all fun v=>v.cells.all C7)=true):=by rw[o,m];rfl
 have h:(kill [5] st).ob 5=.none:=by simp[kill]
 have a:(kill [5] st).fr 0=.c (.sl (some false) es):=MO s
 have g:A6 E none ⟨some 5,.mksl e size [],none⟩ (kill [5] st)=some {fr:=ac (kill [5] st).fr 5 (.osl 5),ob:=ac (kill [5] st).ob 5 (.arr e size [])}:=by
  simp only[A6,AM,aa.cls,By,A5,Ap,List.all_nil,if_true,Option.getD_some,B1,h]
 generalize hs1:({fr:=ac (kill [5] st).fr 5 (.osl 5),ob:=ac (kill [5] st).ob 5 (.arr e size [])}:St)=s1 at g;have I:s1.fr 0=.c (.sl (some false) es):=by subst hs1;simp[ac,a]
 have H:s1.fr 5=.osl 5:=by subst hs1;simp[ac]
 have F:s1.ob 5=.arr e size []:=by subst hs1;simp[ac]
 have f:A6 E none ⟨some 6,.mov (.t 0),none⟩ s1=some (s1.set (some 6) (.c (.sl (some false) es))):=by
  have:so E.G s1.fr (.t 0)=.c (.sl (some false) es):=I;simp only[A6,AM,aa.cls,A2,D4,this,Aq]
 generalize hs2:s1.set (some 6) (.c (.sl (some false) es))=s2 at f;have D:s2.fr 5=.osl 5:=by subst hs2;simp[St.set,ac,H]
 have C:s2.fr 6=.c (.sl (some false) es):=by subst hs2;simp[St.set,ac]
 have B:s2.ob 5=.arr e size []:=by subst hs2;exact F
 have d:A6 E none ⟨some 7,.append e size bytes (.t 5) (.t 6),none⟩ s2=some (St.set {kill [5] s2 with ob:=ac (kill [5] s2).ob 5 (.arr e size es)} (some 7) (.osl 5)):=by
  have x:so E.G s2.fr (.t 5)=.osl 5:=D;have w:so E.G s2.fr (.t 6)=.c (.sl (some false) es):=C;simp only[A6,AM,aa.cls,AY,D4,x,w,CF,B];rw[Ao i];simp only[Av,Nat.zero_add,true_and,Ay];rw[Ao ⟨l,j⟩]
 generalize hs3:St.set {kill [5] s2 with ob:=ac (kill [5] s2).ob 5 (.arr e size es)} (some 7) (.osl 5)=s3 at d;have A:s3.fr 7=.osl 5:=by subst hs3;simp[St.set,ac]
 have y:s3.ob 5=.arr e size es:=by subst hs3;simp[St.set,ac]
 have J:A6 E none ⟨some 2,.mov (.t 7),none⟩ s3=some (s3.set (some 2) (.osl 5)):=by
  have:so E.G s3.fr (.t 7)=.osl 5:=A;simp only[A6,AM,aa.cls,A2,D4,this,Aq]
 refine⟨s3.set (some 2) (.osl 5), ?_,by simp[St.set,ac],y⟩;simp only[Co,Ah,if_false,List.isEmpty_cons,Cn,g,f,d,J,Ap]
theorem ZO{E:ah}{e size bytes:Nat}{es:List CV}(g:(es.all fun v=>Bk v==size)=true)(f:(es.all fun v=>v.cells.all C7)=true)(d:es.length*bytes<=140737488355328)(a:es.length<=4611686018427387904):
  bz E (HR e size bytes).code (av (HR e size bytes).res (.sl none es)) (Ev [.sl (some false) es]):=by
 unfold HR;refine⟨_,rfl,_,rfl,false,rfl,(fun h=>by cases h),fun _=> ?_⟩;obtain⟨st',l,j,i⟩:=ZL (E:=E) (e:=e) (size:=size) (bytes:=bytes) (st:=(((Ev [.sl (some false) es]).set (some 2) (.c (.sl (some true) []))).set (some 3) (.c (.sl (some false) es))).set (some 4) (.c (.bool false))) (es:=es) rfl g f d a;exact⟨st',l,Vo (by simp[Eh,A5,Fk,F1,C9,j,i])⟩
def Ur(bytes:Nat){t:Ty}(x:List (D t)):Option (List (D t)):=if x.length*bytes<=140737488355328/\x.length<=4611686018427387904 then some x else none
theorem ZN{P:Program}{E:ah}(hE:aV P E){f e size bytes:Nat}(O:Dq P f=some (HR e size bytes)){t:Ty}(R:(t.val&&t.ok)=true)(Z:Bc (BV t)=some size)(s:Fy (BV t)=true){x:D (.one (.sl t))}{l:List CV}{y:D (.sl t)}(H:Can (.one (.sl t)) x l)(F:Ur bytes (t:=t) x=some y):
  hasBody P f=true/\CallsTo P E.G f l (.val (enc (.sl t) y)):=by
 simp only[Ag]at R;simp only[Ur]at F;split at F
 case isFalse=>cases F
 rename_i h;cases F;unfold Can at H;obtain⟨c,rfl,H⟩:=H;have o:=H;unfold Can at o;obtain⟨nl,es,e',d⟩:=o;cases e';have A:=d.length;have m:=JE R.1 Z s d;simp only[Ag]at m;have X:hasBody P f=true:=Mm O;refine⟨X,fun w M vs S T B=> ?_⟩;unfold RelL at B;obtain⟨v,V,rfl,Y,B⟩:=B;unfold RelL at B;subst B;have i:∀j,Can (.sl t) x [.sl j es]:=fun j=>by unfold Can;exact⟨j,es,rfl,d⟩
 have C:=Y;unfold RelC at C;obtain⟨I,n,cp,rfl,U,g2,g3,g4,g5,g6⟩:=C
 cases I with
 |none=>
  have Q:=g5 rfl;subst Q;have N:n=0:=by omega
  subst N;have W:es= []:=Aw U.symm;subst W
  have a:=(PJ hE O (l:= [.sl (some true) []]) (r:=.sl (some true) []) (show 1<=8 by decide) ZM).2 w M [.slice none 0 0] S T (RelL.cons (by
   unfold RelC
   exact⟨none,0,0,rfl,rfl,Nat.le_refl _,(fun _=>rfl),(fun g=>by cases g),(fun _=>rfl),(fun g=>absurd rfl g)⟩) RelL.nil)
  refine a.mono fun e w' ⟨u,L,K,J⟩=>⟨u,L,K, ?_⟩;exact RelC.enc (i (some true)) J
 |some I=>
  have a:=(PJ hE O (l:= [.sl (some false) es]) (r:=.sl none es) (show 1<=8 by decide) (ZO m.1 m.2 (by rw[A];exact h.1) (by rw[A];exact h.2))).2 w M [.slice (some I) n cp] S T (RelL.cons (by
   unfold RelC
   exact⟨some I,n,cp,rfl,U,g2,(fun g=>by cases g),(fun _ g=>by cases g),(fun g=>by cases g),g6⟩) RelL.nil)
  refine a.mono fun e w' ⟨u,L,K,J⟩=>⟨u,L,K, ?_⟩;exact RelC.enc (i none) J
def strconv_Itoa:Int->Option (List UInt8):=fun x=>if-9223372036854775808<=x/\x<=9223372036854775807 then some (Lib.itoa x)else none
theorem Ajc{P:Program}{B:TB}{f:Nat}(C:hasBody P f=true){g:Nat}(s:P.globalNamed "internal/strconv.uint64pow10" =some g)(E:B.G g=Lib.pow10Tab.map fun z=>CV.int .u64 z)
  (A:∀(n:Int) (_: -9223372036854775808<=n) (_:n<=9223372036854775807) (w:World) (_:Lib.TabIs P w "internal/strconv.uint64pow10" .u64 Lib.pow10Tab),
   Calls P f #[.int .i64 n] w fun e w'=>e=.returned (.string ⟨(Lib.itoa n).toArray⟩)/\∃k os,w'=Sort.grow (w.drewN k) os)
  {x:D (.one (.int .i64))} {l:List CV} {y:D .str} (a:Can (.one (.int .i64)) x l) (j:strconv_Itoa x=some y):hasBody P f=true/\CallsTo P B.G f l (.val (enc .str y)):=by
 refine⟨C,fun w M vs I m i=> ?_⟩;simp only[strconv_Itoa]at j;split at j
 ·rename_i h;obtain⟨H,F⟩:=h;cases j;unfold Can at a;obtain⟨c,rfl,a⟩:=a;unfold Can at a;cases a;unfold RelL RelC at i;obtain⟨v,o,rfl,rfl,i⟩:=i;unfold RelL at i;subst i;have d:Lib.TabIs P w "internal/strconv.uint64pow10" .u64 Lib.pow10Tab:=m.tab s E (by simp[Lib.pow10Tab]);refine(A x H F w d).mono fun e w' t=> ?_;obtain⟨rfl,k,os,rfl⟩:=t;refine⟨_,rfl,Lib.below_grow _ _ (Nat.le_refl _) _ _, ?_⟩;simp[Im,enc,encL,RelC]
 ·cases j
end WB
namespace WB
open Go Go.RowKit Go.Maps Go.Sort
open Go.WideElems (Fit rg)
open Go.WideMaps (keyOf_string_mk)
open Go.Proofs (encStr)
def bY(x y:List UInt8):Bool:=decide (x<=y)
def F3{β:Type}:List (List UInt8×β)->Option (List (List UInt8)):=fun m=>if m.length<=1000000/\(m.all fun p=>decide (p.1.length<=1000000))=true then some ((m.map (·.1)).mergeSort bY)else none
theorem Ae2{a b:List (List UInt8)}(h:a.Perm b):a.mergeSort bY=b.mergeSort bY:=by
 have f:∀l:List (List UInt8),(l.mergeSort bY).Pairwise fun x y=>bY x y=true:=fun l=>List.pairwise_mergeSort (fun a b c e d=>by
  simp only[bY,decide_eq_true_eq]at*
  exact List.le_trans e d) (fun a b=>by
  simp only[bY,Ak,decide_eq_true_eq]
  exact List.le_total a b) l
 refine List.Perm.eq_of_pairwise (le:=fun x y=>bY x y=true) (fun a b _ _ e d=> ?_) (f a) (f b) (((List.mergeSort_perm a bY).trans h).trans (List.mergeSort_perm b bY).symm);simp only[bY,decide_eq_true_eq]at e d;exact List.le_antisymm e d
theorem VO{w:World}{M:MM}{β:Type}:∀{m:List (List UInt8×β)} {ks:List CV} {vs:List Value},CanAll (fun(x:List UInt8×β) c=>Can .str x.1 [c]) m ks->RelL w M ks vs->vs=m.map fun p=>Value.string ⟨⟨p.1⟩⟩
 | [],ks,vs,h,a=>by
  unfold CanAll at h;subst h;unfold RelL at a;subst a;rfl
 |p::m,ks,vs,h,a=>by
  unfold CanAll at h;obtain⟨c,g,rfl,e,i⟩:=h;unfold Can at e;cases e;unfold RelL at a;obtain⟨v,f,rfl,d,a⟩:=a;unfold RelC at d;subst d;rw[VO i a];rfl
theorem Ahl{w:World}{M:MM}{B:Nat}{et:TypeId}{c:List (List UInt8)}{v:Value}(E:∀g,M g->g<B)(h:w.ownsRow B et 1 v c.length (c.map encStr)):RelC w M (enc (.sl .str) c) v:=by
 have l:enc (.sl .str) c=.sl none (c.map fun s=>CV.str s):=by simp[enc,encL]
 rw[l];unfold RelC;rcases h.2 with⟨m,x⟩|⟨g,cap,e,m,x,t,G,J,I,F⟩
 ·have:c= []:=Aw x;subst this;exact⟨none,0,0,m,rfl,Nat.le_refl _,(fun a=>by cases a),(fun a=>by cases a),fun _=>rfl,fun i=>absurd rfl i⟩
 ·refine⟨some ⟨g,0,none⟩,c.length,cap,m,by simp,G,(fun a=>by cases a),(fun a=>by cases a),(fun a=>by cases a),fun _=>⟨⟨g,0,none⟩,1,rfl,C1 t,fun C=> ?_, ?_⟩⟩
  ·have:=E g C;omega
  refine F9 fun k H d=> ?_;rw[List.getElem?_map,Aa]at d;obtain⟨s,A,rfl⟩:=d;refine⟨.string ⟨⟨s⟩⟩,by unfold RelC;rfl,rfl,fun j y o=> ?_⟩
  have D:j=0/\y=.string ⟨⟨s⟩⟩:=by
   cases j with
   |zero=>exact⟨rfl,by simpa[Value.cells]using o.symm⟩
   |succ j=>simp[Value.cells]at o
  obtain⟨rfl,rfl⟩:=D;rw[DY,cell_of_row w g _ e et (0,0) t]
  have f:(e.toList.take (c.length*1))[k]? =some (.string ⟨⟨s⟩⟩):=by
   rw[F,List.getElem?_map,A];rfl
  rw[List.getElem?_take]at f;split at f
  ·simpa using f
  ·cases f
theorem Rq{P:Program}{B:TB}{f g:Nat}{kT:TypeId}{t:Ty}(hb:hasBody P f=true)(hmv:mvOf g=none)(hk:P.underlying kT=some .string)
  (hc:∀(F b nn:Nat) (D0:DataW Value) (R:Value->Option (DataW Value×List MemPlace)) (w:World),F<w.heap.size->w.cell? ⟨F,0,none⟩=some (.map (some b))->w.ownsMap P kT R b nn D0->Maps.size D0<=maxLen->Maps.size D0*16<=140737488355328->
   Calls P f #[.func (.func g) #[] #[.pointer (some ⟨F,0,none⟩)]] w fun e w'=>∃(v:Value) (i:List (List UInt8)),e=.returned v/\i.Perm (strKeys D0)/\w'.ownsRow w.heap.size kT 1 v i.length ((i.mergeSort (fun x y=>decide (x<=y))).map encStr)/\(v=.slice none 0 0<->i= [])/\Below w.heap.size w w')
  (hn:∀(F:Nat) (w:World),F<w.heap.size->w.cell? ⟨F,0,none⟩=some (.map none)->
   Calls P f #[.func (.func g) #[] #[.pointer (some ⟨F,0,none⟩)]] w fun e w'=>∃(v:Value) (i:List (List UInt8)),e=.returned v/\i= []/\w'.ownsRow w.heap.size kT 1 v i.length ((i.mergeSort (fun x y=>decide (x<=y))).map encStr)/\(v=.slice none 0 0<->i= [])/\Below w.heap.size w w')
  {x:D (.one (.clo g (.one (.pt (.one (.map .str t))))))} {l:List CV} {y:D (.sl .str)} (d:Can (.one (.clo g (.one (.pt (.one (.map .str t)))))) x l) (I:F3 x=some y):
  hasBody P f=true/\CallsTo P B.G f l (.val (enc (.sl .str) y)):=by
 refine⟨hb,fun w M vs hM hGk E=> ?_⟩;simp only[F3]at I;split at I
 case isFalse=>cases I
 rename_i Y;obtain⟨hlen,Z⟩:=Y;cases I;unfold Can at d;obtain⟨c,rfl,d⟩:=d;unfold Can at d;obtain⟨l1,e,d⟩:=d;cases e;unfold Can at d;obtain⟨c,rfl,d⟩:=d;unfold Can at d;obtain⟨l1,e,d⟩:=d;cases e;unfold Can at d;obtain⟨c,rfl,d⟩:=d;unfold Can at d;obtain⟨nl,ks,us,e,W,hus⟩:=d;cases e;unfold RelL at E;obtain⟨v,S,rfl,m,E⟩:=E;unfold RelL at E;subst E;unfold RelC at m;obtain⟨caps,K,m⟩:=m;unfold bV at K;rw[hmv]at K;simp only at K;subst K;unfold RelL at m;obtain⟨v,S,rfl,m,E⟩:=m;unfold RelL at E;subst E;unfold RelC at m;obtain⟨F,ty,vs2,rfl,o,hnm,m⟩:=m;unfold RelL at m;obtain⟨v,S,rfl,m,E⟩:=m;unfold RelL at E;subst E;unfold RelC at m;obtain⟨r,rfl,_,_,U,N⟩:=m
 have A:w.cell? ⟨F,0,none⟩=some (.map r):=by
  simp[World.cell?,o]
 have V:=C1 o
 have av:∀{e:Ending} {w':World} {i:List (List UInt8)} {v:Value},e=.returned v->i.Perm (x.map (·.1))->w'.ownsRow w.heap.size kT 1 v i.length ((i.mergeSort (fun x y=>decide (x<=y))).map encStr)->Below w.heap.size w w'->
   ∃v,e=.returned v/\Below w.heap.size w w'/\Im P w' M w.heap.size v (.val (enc (.sl .str) ((x.map (·.1)).mergeSort bY))):=by
  intro e w' i v X hp h C;refine⟨v,X,C, ?_⟩;show RelC _ M _ _;rw[<-Ae2 hp];refine Ahl (B:=w.heap.size) (et:=kT) hM ?_;rw[List.length_mergeSort];exact h
 cases r with
 |none=>
  obtain⟨rfl,rfl⟩:=U rfl
  have hx0:x= []:=by
   have:=W.length;exact Aw (by simpa using this.symm)
  subst hx0;refine(hn F w V A).mono fun e w' ⟨v,i,X,L,h,_,C⟩=>av X (by rw[L];exact List.Perm.refl _) h C
 |some b=>
  obtain⟨_,a,ens',clk,hh,hE,O,hrk,_⟩:=N b rfl;have j:=VO W hrk
  have cn:∀H∈a,∃y,Go.WideElems.rd P kT C2 H=some y:=by
   intro H Q;have:H.key∈ens'.map (·.key):=List.mem_map_of_mem (O.mem_iff.2 Q);rw[j,List.mem_map]at this;obtain⟨p,hp,hpe⟩:=this
   have hl:p.1.length<=1000000:=by
    have:=As.1 Z p hp;simpa using this
   unfold Go.WideElems.rd;rw[<-hpe,keyOf_string_mk hk (by simp only[ByteArray.size,List.size_toArray];unfold maxLen;omega)];exact⟨_,rfl⟩
  have hlen2:a.length=x.length:=by
   have h3:=congrArg List.length j;rw[List.length_map,List.length_map]at h3;rw[<-O.length_eq,h3]
  have ho:w.ownsMap P kT C2 b a.length (.map ((a.map (rg P kT C2)).foldr DataW.insert [])):=
   ⟨⟨a⟩,clk,hh,⟨by simp only[List.size_toArray];unfold maxLen;omega,⟨hE.2.1,hE.2.2,hE.1⟩,cn⟩,by simp,rfl⟩
  have T:Maps.size (DataW.map ((a.map (rg P kT C2)).foldr DataW.insert []))=a.length:=by
   show((a.map (rg P kT C2)).foldr DataW.insert []).length=_;rw[(WideShapes.sorted_perm _).length_eq,List.length_map]
  refine(hc F b a.length _ C2 w V A ho (by rw[T];unfold maxLen;omega) (by rw[T];omega)).mono fun e w' ⟨v,i,X,L,h,_,C⟩=>av X ?_ h C;refine L.trans ?_;have p1:=(WideShapes.sorted_perm (a.map (rg P kT C2))).map fun p=>strOf p.1;refine p1.trans ?_;rw[List.map_map]
  have e1:a.map ((fun p=>strOf p.1)∘rg P kT C2)=a.map fun H=>(match H.key with| .string s=>s.data.toList|_=> []):=List.map_congr_left fun H Q=>by
   obtain⟨y,I⟩:=cn H Q;simp only[Function.comp_apply];unfold rg;rw[I];unfold Go.WideElems.rd at I;simp only[Ab,C2,Aq,Ac]at I;obtain⟨lt,J,rfl⟩:=I;rw[keyOf_string hk]at J;cases hq:H.key<;>rw[hq]at J<;>simp[mapKey,hk]at J;obtain⟨_,rfl⟩:=J;simp[strOf]
  rw[e1]
  have e2:(a.map fun H=>(match H.key with| .string s=>s.data.toList|_=> []))=(a.map (·.key)).map fun v=>(match v with| .string s=>s.data.toList|_=> []):=by
   rw[List.map_map];rfl
  rw[e2];have p3:=(O.symm.map (·.key)).map fun v=>(match v with| .string s=>s.data.toList|_=>([]:List UInt8));refine p3.trans ?_;rw[j,List.map_map];exact List.Perm.refl _
end WB
namespace WB
open Go Go.RowKit Go.Maps Go.Sort
def Jp{β γ δ:Type}:(List (List UInt8×β))⊕((List (List UInt8×γ))⊕(List (List UInt8×δ)))->Option (List (List UInt8))
 | .inl m=>F3 m
 | .inr (.inl m)=>F3 m
 | .inr (.inr m)=>F3 m
theorem Aip{P:Program}{B:TB}{f m j i:Nat}{h g d:Ty}
  (v:∀{x:D (.one (.clo m (.one (.pt (.one (.map .str h))))))} {l:List CV} {y:D (.sl .str)},Can (.one (.clo m (.one (.pt (.one (.map .str h)))))) x l->F3 x=some y->hasBody P f=true/\CallsTo P B.G f l (.val (enc (.sl .str) y)))
  (t:∀{x:D (.one (.clo j (.one (.pt (.one (.map .str g))))))} {l:List CV} {y:D (.sl .str)},Can (.one (.clo j (.one (.pt (.one (.map .str g)))))) x l->F3 x=some y->hasBody P f=true/\CallsTo P B.G f l (.val (enc (.sl .str) y)))
  (s:∀{x:D (.one (.clo i (.one (.pt (.one (.map .str d))))))} {l:List CV} {y:D (.sl .str)},Can (.one (.clo i (.one (.pt (.one (.map .str d)))))) x l->F3 x=some y->hasBody P f=true/\CallsTo P B.G f l (.val (enc (.sl .str) y)))
  {x:D (.one (.falt m (.one (.pt (.one (.map .str h)))) (.falt j (.one (.pt (.one (.map .str g)))) (.clo i (.one (.pt (.one (.map .str d))))))))} {l:List CV} {y:D (.sl .str)}
  (a:Can (.one (.falt m (.one (.pt (.one (.map .str h)))) (.falt j (.one (.pt (.one (.map .str g)))) (.clo i (.one (.pt (.one (.map .str d)))))))) x l) (o:Jp (β:=D h) (γ:=D g) (δ:=D d) x=some y):
  hasBody P f=true/\CallsTo P B.G f l (.val (enc (.sl .str) y)):=by
 rcases x with x|x|x
 ·refine v (x:=x) ?_ o;unfold Can at a⊢;obtain⟨c,e,a⟩:=a;refine⟨c,e, ?_⟩;unfold Can at a⊢;exact a
 ·refine t (x:=x) ?_ o;unfold Can at a⊢;obtain⟨c,e,a⟩:=a;refine⟨c,e, ?_⟩;unfold Can at a;have a:=a.2;unfold Can at a⊢;exact a
 ·refine s (x:=x) ?_ o;unfold Can at a⊢;obtain⟨c,e,a⟩:=a;refine⟨c,e, ?_⟩;unfold Can at a;have a:=a.2;unfold Can at a;exact a.2
end WB
namespace WB
open Go Go.RowKit Go.Proofs Go.Sort Go.Shelf
def sortBy{α:Type} [Inhabited α](cf:α->α->Int)(l:List α):List α:=(pdq (ltOf cf) l.toArray 0 l.length (Lib.bitLen l.length) true true).toList
theorem Yx{α:Type} [Inhabited α]{cf:α->α->Int}(a:SWO (ltOf cf))(l:List α):
  PermIn 0 l.toArray.size l.toArray (sortBy cf l).toArray/\SortedIn (ltOf cf) 0 l.toArray.size (sortBy cf l).toArray:=
 pdq_sorts (ltOf cf) a l.toArray 0 l.toArray.size (Lib.bitLen l.toArray.size) true true (Nat.zero_le _) (Nat.le_refl _) (Or.inl rfl)
theorem Rx{α:Type} [Inhabited α]{cf:α->α->Int}(c:SWO (ltOf cf))(l:List α):(sortBy cf l).Perm l:=by
 have h:=(Yx c l).1;obtain⟨d,_,a⟩:=h
 have f:(sortBy cf l).toArray.extract 0 l.toArray.size=(sortBy cf l).toArray:=by
  rw[<-d];exact Array.extract_size
 have e:l.toArray.extract 0 l.toArray.size=l.toArray:=Array.extract_size;rw[f,e]at a;exact a
section
variable {α:Type} (encV:α->List Value) (k:Nat)
def EC(l:List α):List Value:=l.flatMap encV
theorem M8(a:∀x,(encV x).length=k):∀l:List α,(EC encV l).length=l.length*k
 | []=>by simp[EC]
 |x::l=>by
  have h:=M8 a l;unfold EC at*;rw[List.flatMap_cons,List.length_append,a,h,Au,Nat.add_mul,Nat.one_mul,Nat.add_comm]
theorem Vs [Inhabited α](c:∀x,(encV x).length=k):∀(l:List α) (t:Nat),t<l.length*k->(EC encV l)[t]? =some (encV (l.toArray[t/k]!))[t % k]!
 | [],t,h=>by simp at h
 |x::l,t,h=>by
  have f:0<k:=by rcases Nat.eq_zero_or_pos k with e|e;·subst e;simp at h
                 ·exact e
  unfold EC;rw[List.flatMap_cons];by_cases a:t<k
  ·rw[List.getElem?_append_left (by rw[c];exact a),Nat.div_eq_of_lt a,Nat.mod_eq_of_lt a];have e:(x::l).toArray[0]! =x:=rfl;rw[e,Aj (by rw[c];exact a),getElem!_pos]
  ·have a:=Nat.le_of_not_lt a;rw[List.getElem?_append_right (by rw[c];exact a),c];have g:t-k<l.length*k:=by rw[Au,Nat.add_mul,Nat.one_mul]at h;omega
   have d:=Vs c l (t-k) g;unfold EC at d;obtain⟨u,rfl⟩:∃u,t=u+k:=⟨t-k,by omega⟩;rw[Nat.add_sub_cancel]at d⊢;rw[d,Nat.add_div_right _ f,Nat.add_mod_right]
   congr 2
   simp
theorem Vr [Inhabited α](c:∀x,(encV x).length=k)(l:List α):Go.Sort.flatK encV k l.toArray=(EC encV l).toArray:=by
 refine ext_get! ?_ fun t a=> ?_
 ·rw[size_flatK,List.size_toArray,List.size_toArray,M8 encV k c]
 ·rw[size_flatK,List.size_toArray]at a;rw[get_flatK _ _ _ _ (by rw[List.size_toArray];exact a)];have h:=Vs encV k c l t a;have d:t<(EC encV l).length:=by rw[M8 encV k c];exact a
  rw[Aj d]at h;rw[getElem!_pos _ t (by rw[List.size_toArray];exact d),List.getElem_toArray];exact(Option.some.inj h).symm
end
theorem sort_ok{P:Program}{ρ:Ren}(L:SlLaysF0.n6 P ρ){t:Ty} [Inhabited (D t)](encV:D t->List Value){k:Nat}{e:TypeId}{g:Nat}{cf:D t->D t->Int}
  (aE:∀w,(isAgg (ρ.t 24)).run P w=.ok true w) (zE:∀w,(Go.sizeOf (ρ.t 24)).run P w=.ok k w) (hk:∀x,(encV x).length=k) (T:∀x,∀v∈encV x,v.oneCell'=true) (hO:SWO (ltOf cf))
  (eg:∀args w,(callFunc g args).run P w=.ok (.enter g args) w)
  (hcl:∀x y w,Calls P g #[.agg (encV x).toArray,.agg (encV y).toArray] w fun e w'=>e=.returned (.int .i64 (cf x y))/\∃q os',w'=grow (w.drewN q) os')
  (hto:∀x c (w:World) M v,Can t x [c]->RelC w M c v->v.cells=(encV x).toArray)
  (hfr:∀x (w:World) M,∃v,RelC w M (enc t x) v/\v.cells=(encV x).toArray):
  ∀xs es E,CanAll (fun x c=>Can t x [c]) xs es->(if xs.length<4611686018427387904 then some (sortBy cf xs)else none)=some E->SortC P (ρ.f 6) g e k es (E.map (enc t)):=by
 intro xs es E W G w M v fl o Z;have I:es.length=xs.length:=W.length
 have Y:xs.length<4611686018427387904:=by
  by_cases h:xs.length<4611686018427387904
  ·exact h
  ·rw[An h]at G;cases G
 rw[Ao Y]at G;cases G;have d:=Rx hO xs;have a:((sortBy cf xs).map (enc t)).length=xs.length:=by rw[List.length_map,d.length_eq]
 have Q:∀(xs:List (D t)) (es:List CV) (fl:List Value),CanAll (fun x c=>Can t x [c]) xs es->AU w M k es fl->fl=EC encV xs:=by
  intro xs
  induction xs with
  |nil=>intro es fl T K;unfold CanAll at T;subst T;unfold AU at K;subst K;rfl
  |cons x xs ih=>
   intro es fl T K;unfold CanAll at T;obtain⟨c,cs,rfl,V,S⟩:=T;unfold AU at K;obtain⟨v,fl',rfl,_,h5,h6⟩:=K;rw[ih cs fl' S h6,hto x c w M v V h5];rfl
 have hfl:=Q xs es fl W Z
 have C:∀(E:List (D t)) (N:World) (U:MM),AU N U k (E.map (enc t)) (EC encV E):=by
  intro E N U
  induction E with
  |nil=>unfold AU;rfl
  |cons y E ih=>
   obtain⟨v,V,S⟩:=hfr y N U;rw[List.map_cons];unfold AU;refine⟨v,EC encV E, ?_, ?_,V,ih⟩
   ·rw[S];rfl
   ·rw[S,List.size_toArray,hk]
 obtain⟨O,o⟩:=o;rcases o with⟨rfl,h0⟩|⟨b,cap,l,rfl,_,hb,hcap,hmax,R,X⟩
 ·have hx0:xs= []:=Aw (by omega);subst hx0;have hs0:sortBy cf ([]:List (D t))= []:=Aw (by rw[d.length_eq];rfl);refine(AnyF.slices_SortFunc_none L none 0 (.func (.func g) #[] #[]) w).mono ?_
  rintro e w' ⟨rfl,rfl⟩
  refine⟨rfl,⟨rfl,rfl,rfl,Nat.le_refl _,fun _ _ _=>rfl⟩,[],⟨?_,Or.inl ⟨rfl, ?_⟩⟩,fun N U=> ?_⟩
  ·rw[a];simp
  ·rw[a];rfl
  ·rw[hs0];exact C [] N U
 ·have J:b<w.heap.size:=C1 hb;rw[I]at X O
  have hH:HoldsK encV k w b 0 xs.toArray:=by
   unfold HoldsK;rw[Vr encV k hk,<-hfl];intro j hj;rw[List.size_toArray,O]at hj;have K:l.toList[j]? =fl[j]? :=by rw[<-X,List.getElem?_take_of_lt hj]
   have V:j<l.size:=by rw[R];exact Nat.lt_of_lt_of_le hj (Nat.mul_le_mul_right k (by omega))
   have S:j<fl.length:=by rw[O];exact hj
   refine⟨?_, ?_⟩
   ·unfold World.cell?;rw[Nat.zero_add,hb];rw[Aj (by rw[Array.length_toList];exact V),Aj S]at K;simp only[getElem!_pos (c:=fl.toArray) (i:=j) (by rw[List.size_toArray];exact S),List.getElem_toArray];rw[<-Option.some.inj K];simp[V]
   ·simp[World.frozen?,hb]
  have A:=AnyQ.slices_SortFunc_eq L k aE zE encV hk T cf hO g #[] b 0 cap xs.toArray w eg (fun m os dk _ x y=>hcl x y _) hH J (by rw[List.size_toArray];exact Y);rw[List.size_toArray]at A;rw[I];refine A.mono ?_
  rintro e2 w' ⟨rfl,n,os,rfl⟩
  have hp:pdq (ltOf cf) xs.toArray 0 xs.length (Lib.bitLen xs.length) true true=(sortBy cf xs).toArray:=by unfold sortBy;rw[Array.toArray_toList]
  rw[hp];unfold sortWorldK putRowK;rw[Vr encV k hk];have H:(EC encV (sortBy cf xs)).length=xs.length*k:=by rw[M8 encV k hk,d.length_eq]
  generalize hF:EC encV (sortBy cf xs)=F at H
  have s:∀i,i<w.heap.size->(grow (putRow id (Sort.ahead w n) b 0 F.toArray) os).heap[i]? =if b=i then some (.cells (putCells id 0 F.toArray l) e (0,0))else w.heap[i]? :=by
   intro i hi;unfold grow putRow mapBlock;show(((Sort.ahead w n).heap.modify b (onCells (putCells id 0 F.toArray)))++os)[i]? =_;have ehp:(Sort.ahead w n).heap=w.heap:=rfl;rw[ehp,Array.getElem?_append_left (by rw[Array.size_modify];exact hi),Array.getElem?_modify];by_cases B:b=i
   ·subst B;rw[Ao rfl,Ao rfl,hb];rfl
   ·rw[An B,An B]
  refine⟨rfl,⟨rfl,rfl,rfl, ?_, ?_⟩,F,⟨?_,Or.inr ⟨b,cap,putCells id 0 F.toArray l, ?_,Nat.zero_le _, ?_, ?_,hmax, ?_, ?_⟩⟩,fun N U=> ?_⟩
  ·unfold grow putRow mapBlock;show w.heap.size<=(((Sort.ahead w n).heap.modify b (onCells (putCells id 0 F.toArray)))++os).size;rw[Array.size_append,Array.size_modify];exact Nat.le_add_right _ _
  ·intro i hi hne;rw[s i hi,An];intro B;exact hne (by subst B;rfl)
  ·rw[a,H]
  ·rw[a]
  ·rw[s b J,Ao rfl]
  ·rw[a];omega
  ·rw[putCells,Array.size_mapIdx,R]
  ·rw[a];have hle:xs.length*k<=l.size:=by rw[R];exact Nat.mul_le_mul_right k (by omega)
   apply List.ext_getElem?;intro i;by_cases hi:i<xs.length*k
   ·rw[List.getElem?_take_of_lt hi];have h5:i<F.length:=by rw[H];exact hi
    have h6:i<l.size:=Nat.lt_of_lt_of_le hi hle;rw[Array.getElem?_toList,putCells,Array.getElem?_mapIdx,Array.getElem?_eq_getElem h6,Aq,Ao ⟨Nat.zero_le _,by rw[List.size_toArray];omega⟩,Nat.sub_zero,getElem!_pos _ i (by rw[List.size_toArray];exact h5),List.getElem_toArray,Aj h5];rfl
   ·rw[List.getElem?_take_eq_none (Nat.le_of_not_lt hi),List.getElem?_eq_none (by rw[H];exact Nat.le_of_not_lt hi)]
  ·rw[<-hF];exact C _ N U
theorem wp_cut_exact{P:Program}{d:Array Oper}{id c:Nat}{Q:Exit->Act->World->Prop}{a:Act}{w:World}(A:P.follows .mixedOrders=true)(C:c<d.size)
  (f:(d.toList.zipIdx.all fun p=>p.1.after.all fun e=> !Region.binds .any e||Nat.blt e.on p.2)=true)
  (m:((List.range d.size).all fun j=>Nat.blt j c||(List.range c).all fun i=>Gl d d.size i j)=true)
  (h:∀l g,Good (d.extract 0 c) (Array.replicate c false) l->Good d (firstC c d.size) g->wpOps P d Q (l++g) a (w.drewN 1)):(Code.region id d true).wp P Q a w:=by
 have x:∀i o,d[i]? =some o->∀e∈o.after,Region.binds .any e=true->e.on<i:=by
  intro i o F e G H;rw[As]at f
  have s:(o,i)∈d.toList.zipIdx:=by
   rw[List.mem_zipIdx_iff_getElem?];simpa using F
  have:=f _ s;rw[Array.all_eq_true']at this;have:=this e G;rw[H]at this;simpa using this
 refine wp_region_draw fun t=> ?_
 have B:Good d (Array.replicate d.size false) (Region.schedule (P.follows .mixedOrders) d t):=by
  simp only[Region.schedule,A,Bool.true_or,if_true,Region.linearise];exact lin_good x d.size t _ (by simp) (by rw[left_all];simp)
 obtain⟨l,g,J,D,I⟩:=PO (N:=d.size) C x (fun j y v i hi=>by
  rw[As]at m;have:=m j (Az.2 (by omega));rw[Ak]at this;rcases this with h|h
  ·have:j<c:=Ai h;omega
  ·rw[As]at h
   exact h i (Az.2 hi)) B (by simp) (fun j _ v=>by simp[Ar,v]) (fun i o hi=>by
  exfalso;rw[Ar,Array.getElem?_replicate]at hi
  split at hi<;>cases hi)
 rw[J]
 have E:(Array.replicate d.size false).extract 0 c=Array.replicate c false:=by
  apply Array.ext_getElem?;intro j;by_cases y:j<c
  ·rw[Gw y,Array.getElem?_replicate,Array.getElem?_replicate,Ao (by omega),Ao y]
  ·rw[Array.getElem?_eq_none (by simp;omega),Array.getElem?_replicate,An y]
 rw[E]at D;exact h l g D I
end WB
