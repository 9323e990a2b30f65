/-
  OWN TEXTS, MERGED (wip/merge.py): Piter, Pgd, Pfold, Pu64, Pknuth, LibCt, LibCl, PG, PrA, PrB, PrC, Pnm, Pfp, Psp. No condition of their own.
-/
import Derived.Test.YtimkfmkhmfcjeaaGreatDoorK6
import Derived.Lib.Mul64
import Derived.Laws.Bits64b
import Derived.Laws.BitsLemmas
import Derived.Lib.BitFns
set_option linter.unusedVariables false
set_option linter.unusedSimpArgs false
open Go.IntKind (i64 u64 u8 u32)
namespace WB
open Go Go.RowKit
theorem bs{α β:Type}(a:α)(f:α→Option β):(some a).bind f=f a:=(Option.bind_some a f).trans (Eq.refl _)
theorem ms{α β:Type}(a:α)(f:α→β):(some a).map f=some (f a):=(Option.map_some (f:=f) (a:=a)).trans (Eq.refl _)
theorem OF{S T:Type}{b:S→Option (S⊕T)}{t:T}(I:Nat→S→Prop)(h:∀n s,I n s→(∃s',b s=some (.inl s')∧∃m,m<n∧I m s')∨b s=some (.inr t)):∀n s,I n s→iter b s=some t:=by
 intro n
 induction n using Nat.strongRecOn with
 |_ n ih=>
  intro s hs;rw[Fy];rcases h n s hs with⟨s',h1,m,hm,h2⟩|h1
  ·rw[h1];exact ih m hm s' h2
  ·rw[h1];rfl
theorem CP{α:Type}{xs:List α}{i:Nat}{a:α}(h:xs[i]? =some a):lAt xs (i:Int)=some a:=by
 have:=(Ae.1 h).1;unfold lAt;rw[if_pos ⟨by omega,by omega⟩];simpa using h
theorem Qq{s:List UInt8}{i:Nat}{b:UInt8}(h:s[i]? =some b):sAt s (i:Int)=some (b.toNat:Int):=by
 have:=(Ae.1 h).1;unfold sAt;rw[if_pos ⟨by omega,by omega⟩];simp[h]
theorem Jl{α:Type}{xs:List α}{i j:Nat}(h1:i≤j)(h2:j≤xs.length):CQ xs (i:Int) (j:Int)=some ((xs.take j).drop i):=by
 unfold CQ;rw[if_pos ⟨by omega,by omega,by omega⟩];simp
theorem BK{n:Int}(h1: -9223372036854775808≤n)(h2:n≤9223372036854775807):i64.wrap n=n:=Go.IntWalk.i64_in n ⟨h1,h2⟩
section
variable {α β γ δ:Type} {p:Prop} [Decidable p]
theorem gPb(X:Option α)(f:α→Option β):(if p then X else none).bind f=if p then X.bind f else none:=by by_cases h:p<;>simp[h]
theorem gPm(X:Option α)(f:α→β):(if p then X else none).map f=if p then X.map f else none:=by by_cases h:p<;>simp[h]
theorem gPs(Y Z:Option β)(W:Option β):(if p then(if p then Z else W)else Y)=if p then Z else Y:=by by_cases h:p<;>simp[h]
theorem gM(A:Option α)(B:Option α→Option β)(K:Option β→Option γ):(Option.bind (if p then A.map some else some none) fun x=>Option.bind (if p then(B x).map some else some none) K)=Option.bind (if p then(A.bind fun v=>B (some v)).map some else some none) K:=by by_cases h:p<;>cases A<;>simp[h]
theorem gM2(A:Option α)(B:Option α→Option β)(C:Option α→Option β→Option γ)(K:Option γ→Option δ):(Option.bind (if p then A.map some else some none) fun x=>Option.bind (if p then(B x).map some else some none) fun y=>Option.bind (if p then(C x y).map some else some none) K)=Option.bind (if p then(A.bind fun v=>(B (some v)).bind fun w=>C (some v) (some w)).map some else some none) K:=by
 by_cases h:p
 ·cases A with
  |none=>simp[h]
  |some v=>simp only[h,if_true,Option.map_some,Option.bind_some];cases B (some v)<;>simp
 ·simp[h]
theorem By(c:Bool)(A:Option α)(B:Option α→Option Bool)(K:Bool→Option β):(Option.bind (if c=true then A.map some else some none) fun x=>Option.bind (if c=true then B x else some false) K)=Option.bind (if c=true then A.bind fun v=>B (some v)else some false) K:=by cases c<;>cases A<;>simp
theorem gOr(c:Bool)(A:Option α)(B:Option α→Option Bool)(K:Bool→Option β):(Option.bind (if c=false then A.map some else some none) fun x=>Option.bind (if c=true then some true else B x) K)=Option.bind (if c=true then some true else A.bind fun v=>B (some v)) K:=by cases c<;>cases A<;>simp
theorem Bz(A B:Option Bool)(K:Option Bool→Option β):(Option.bind (if p then A.map some else some none) fun g=>Option.bind (if g=some true then B.map some else some none) fun x=>Option.bind (if p then(g.bind fun z=>if z=true then x else some false).map some else some none) K)=Option.bind (if p then(A.bind fun z=>if z=true then B else some false).map some else some none) K:=by
 by_cases h:p
 ·cases A with
  |none=>simp[h]
  |some v=>cases v<;>cases B<;>simp[h]
 ·simp[h]
theorem B3(A B:Option Bool)(K:Option Bool→Option β):(Option.bind (if p then A.map some else some none) fun g=>Option.bind (if g=some false then B.map some else some none) fun x=>Option.bind (if p then(g.bind fun z=>if z=true then some true else x).map some else some none) K)=Option.bind (if p then(A.bind fun z=>if z=true then some true else B).map some else some none) K:=by
 by_cases h:p
 ·cases A with
  |none=>simp[h]
  |some v=>cases v<;>cases B<;>simp[h]
 ·simp[h]
theorem gAA(c:Bool)(A:Option Bool)(B:Option α)(C:Option α→Option Bool)(K:Bool→Option β):(Option.bind (if c=true then A.map some else some none) fun g=>Option.bind (if g=some true then B.map some else some none) fun x=>Option.bind (if c=true then g.bind fun z=>if z=true then C x else some false else some false) K)=Option.bind (if c=true then A.bind fun z=>if z=true then B.bind fun v=>C (some v)else some false else some false) K:=by
 cases c<;>cases A<;>first|(simp;done)|(rename_i v;cases v<;>cases B<;>simp)
theorem gAO(c:Bool)(A:Option Bool)(B:Option α)(C:Option α→Option Bool)(K:Bool→Option β):(Option.bind (if c=false then A.map some else some none) fun g=>Option.bind (if g=some true then B.map some else some none) fun x=>Option.bind (if c=true then some true else g.bind fun z=>if z=true then C x else some false) K)=Option.bind (if c=true then some true else A.bind fun z=>if z=true then B.bind fun v=>C (some v)else some false) K:=by
 cases c<;>cases A<;>first|(simp;done)|(rename_i v;cases v<;>cases B<;>simp)
theorem gOA(c:Bool)(A:Option Bool)(B:Option α)(C:Option α→Option Bool)(K:Bool→Option β):(Option.bind (if c=true then A.map some else some none) fun g=>Option.bind (if g=some false then B.map some else some none) fun x=>Option.bind (if c=true then g.bind fun z=>if z=true then some true else C x else some false) K)=Option.bind (if c=true then A.bind fun z=>if z=true then some true else B.bind fun v=>C (some v)else some false) K:=by
 cases c<;>cases A<;>first|(simp;done)|(rename_i v;cases v<;>cases B<;>simp)
theorem gOO(c:Bool)(A:Option Bool)(B:Option α)(C:Option α→Option Bool)(K:Bool→Option β):(Option.bind (if c=false then A.map some else some none) fun g=>Option.bind (if g=some false then B.map some else some none) fun x=>Option.bind (if c=true then some true else g.bind fun z=>if z=true then some true else C x) K)=Option.bind (if c=true then some true else A.bind fun z=>if z=true then some true else B.bind fun v=>C (some v)) K:=by
 cases c<;>cases A<;>first|(simp;done)|(rename_i v;cases v<;>cases B<;>simp)
theorem Bv(c:Bool)(A:Option Bool)(B:Option α)(C:Option α→Option Bool)(F:Bool→Option Bool)(K:Bool→Option β):(Option.bind (if c=true then A.map some else some none) fun g=>Option.bind (if g=some true then B.map some else some none) fun x=>Option.bind (if c=true then(g.bind fun z=>if z=true then C x else some false).bind F else some false) K)=Option.bind (if c=true then(A.bind fun z=>if z=true then B.bind fun v=>C (some v)else some false).bind F else some false) K:=by
 cases c<;>cases A<;>first|(simp;done)|(rename_i v;cases v<;>cases B<;>simp)
theorem Bx(c:Bool)(A:Option Bool)(B:Option α)(C:Option α→Option Bool)(F:Bool→Option Bool)(K:Bool→Option β):(Option.bind (if c=false then A.map some else some none) fun g=>Option.bind (if g=some true then B.map some else some none) fun x=>Option.bind (if c=true then some true else(g.bind fun z=>if z=true then C x else some false).bind F) K)=Option.bind (if c=true then some true else(A.bind fun z=>if z=true then B.bind fun v=>C (some v)else some false).bind F) K:=by
 cases c<;>cases A<;>first|(simp;done)|(rename_i v;cases v<;>cases B<;>simp)
theorem B0(c:Bool)(A:Option Bool)(B:Option α)(C:Option α→Option Bool)(F:Bool→Option Bool)(K:Bool→Option β):(Option.bind (if c=true then A.map some else some none) fun g=>Option.bind (if g=some false then B.map some else some none) fun x=>Option.bind (if c=true then(g.bind fun z=>if z=true then some true else C x).bind F else some false) K)=Option.bind (if c=true then(A.bind fun z=>if z=true then some true else B.bind fun v=>C (some v)).bind F else some false) K:=by
 cases c<;>cases A<;>first|(simp;done)|(rename_i v;cases v<;>cases B<;>simp)
theorem B2(c:Bool)(A:Option Bool)(B:Option α)(C:Option α→Option Bool)(F:Bool→Option Bool)(K:Bool→Option β):(Option.bind (if c=false then A.map some else some none) fun g=>Option.bind (if g=some false then B.map some else some none) fun x=>Option.bind (if c=true then some true else(g.bind fun z=>if z=true then some true else C x).bind F) K)=Option.bind (if c=true then some true else(A.bind fun z=>if z=true then some true else B.bind fun v=>C (some v)).bind F) K:=by
 cases c<;>cases A<;>first|(simp;done)|(rename_i v;cases v<;>cases B<;>simp)
theorem Bw(A:Option Bool)(B:Option α)(C:Option α→Option Bool)(F:Bool→Option γ)(K:Option γ→Option β):(Option.bind (if p then A.map some else some none) fun g=>Option.bind (if g=some true then B.map some else some none) fun x=>Option.bind (if p then((g.bind fun z=>if z=true then C x else some false).bind F).map some else some none) K)=Option.bind (if p then((A.bind fun z=>if z=true then B.bind fun v=>C (some v)else some false).bind F).map some else some none) K:=by
 by_cases h:p<;>cases A<;>first|(simp[h];done)|(rename_i v;cases v<;>cases B<;>simp[h])
theorem B1(A:Option Bool)(B:Option α)(C:Option α→Option Bool)(F:Bool→Option γ)(K:Option γ→Option β):(Option.bind (if p then A.map some else some none) fun g=>Option.bind (if g=some false then B.map some else some none) fun x=>Option.bind (if p then((g.bind fun z=>if z=true then some true else C x).bind F).map some else some none) K)=Option.bind (if p then((A.bind fun z=>if z=true then some true else B.bind fun v=>C (some v)).bind F).map some else some none) K:=by
 by_cases h:p<;>cases A<;>first|(simp[h];done)|(rename_i v;cases v<;>cases B<;>simp[h])
theorem B9(A:Option α)(X Y:α→Option β)(R:α→β→Option γ)(Z:Option γ):(if p then(A.bind fun v=>(if p then X v else Y v).bind (R v))else Z)=if p then(A.bind fun v=>(X v).bind (R v))else Z:=by by_cases h:p<;>simp[h]
theorem BA(A:Option α)(X Y:α→Option β)(R:α→β→γ)(Z:Option γ):(if p then(A.bind fun v=>(if p then X v else Y v).map (R v))else Z)=if p then(A.bind fun v=>(X v).map (R v))else Z:=by by_cases h:p<;>simp[h]
theorem BB(X Y:Option β)(R:β→Option γ)(Z:Option γ):(if p then((if p then X else Y).bind R)else Z)=if p then(X.bind R)else Z:=by by_cases h:p<;>simp[h]
theorem BC(X Y:Option β)(R:β→γ)(Z:Option γ):(if p then((if p then X else Y).map R)else Z)=if p then(X.map R)else Z:=by by_cases h:p<;>simp[h]
theorem BD(c:Bool)(X Y:Option β)(R:β→Option γ)(Z:Option γ):(if c=true then Z else((if c=false then X else Y).bind R))=if c=true then Z else X.bind R:=by cases c<;>simp
theorem BE(c:Bool)(A:Option α)(X Y:α→Option β)(R:α→β→Option γ)(Z:Option γ):(if c=true then Z else(A.bind fun v=>(if c=false then X v else Y v).bind (R v)))=if c=true then Z else(A.bind fun v=>(X v).bind (R v)):=by cases c<;>simp
theorem BF(c:Bool)(A:Option α)(X Y:α→Option β)(R:α→β→γ)(Z:Option γ):(if c=true then Z else(A.bind fun v=>(if c=false then X v else Y v).map (R v)))=if c=true then Z else(A.bind fun v=>(X v).map (R v)):=by cases c<;>simp
theorem BG(c:Bool)(X Y:Option β)(R:β→γ)(Z:Option γ):(if c=true then Z else((if c=false then X else Y).map R))=if c=true then Z else X.map R:=by cases c<;>simp
theorem gPi(X:Option α)(Y W:α→Option β)(Z:Option β):(if p then(X.bind fun z=>if p then Y z else W z)else Z)=if p then X.bind Y else Z:=by by_cases h:p<;>simp[h]
theorem gSS(v:α)(Z:Option (Option α)):(if p then some (some v)else Z)=if p then(some v).map some else Z:=rfl
theorem gId(X:Option α):X.map (fun z=>z)=X:=by cases X<;>rfl
theorem B8(X:Option α):(X.bind fun z=>some z)=X:=by cases X<;>rfl
theorem gMb(X:Option α)(f:α→β)(g:β→Option γ):(X.map f).bind g=X.bind fun v=>g (f v):=by cases X<;>rfl
theorem gMm(X:Option α)(f:α→β)(g:β→γ):(X.map f).map g=X.map fun v=>g (f v):=by cases X<;>rfl
theorem gBm(X:Option α)(f:α→Option β)(g:β→γ):(X.bind f).map g=X.bind fun v=>(f v).map g:=by cases X<;>rfl
theorem gBb(X:Option α)(f:α→Option β)(g:β→Option γ):(X.bind f).bind g=X.bind fun v=>(f v).bind g:=by cases X<;>rfl
end
def AZ{α A T:Type}(step:A→α→A⊕T)(fin:A→T):A→List α→T
 |a,[]=>fin a
 |a,x::l=>match step a x with
  | .inl a'=>AZ step fin a' l
  | .inr t=>t
def QU{S A T:Type}(mk:A→S):A⊕T→S⊕T
 | .inl a=>.inl (mk a)
 | .inr t=>.inr t
theorem OE{α S T A:Type}{b:S→Option (S⊕T)}(mk:Nat→A→S)(step:A→α→A⊕T)(fin:A→T)(I:Nat→A→Prop)(l0:List α)
  (hs:∀i x a,l0[i]? =some x→I i a→b (mk i a)=some (QU (mk (i+1)) (step a x)))
  (hI:∀i x a a',l0[i]? =some x→I i a→step a x=.inl a'→I (i+1) a')
  (he:∀a,I l0.length a→b (mk l0.length a)=some (.inr (fin a))):
  ∀(l:List α) (i:Nat) (a:A),l0.drop i=l→i≤l0.length→I i a→iter b (mk i a)=some (AZ step fin a l)
 | [],i,a,hd,hi,h=>by
  have:i=l0.length:=by
   have:=congrArg List.length hd;simp at this;omega
  subst this;rw[Fy,he a h];rfl
 |x::l,i,a,hd,hi,h=>by
  have hx:l0[i]? =some x:=by
   have:=congrArg (fun q=>q[0]?) hd;simpa using this
  have hlt:i<l0.length:=(Ae.1 hx).1;rw[Fy,hs i x a hx h]
  cases hst:step a x with
  |inl a'=>
   have e:=OE mk step fin I l0 hs hI he l (i+1) a' (by rw[←List.tail_drop,hd];rfl) hlt (hI i x a a' hx h hst);show iter b (mk (i+1) a')=_;rw[e,AZ,hst]
  |inr t=>
   show some t=_;rw[AZ,hst]
theorem DH{α S T A:Type}{b:S→Option (S⊕T)}(mk:Nat→A→S)(step:A→α→A⊕T)(fin:A→T)(I:Nat→A→Prop)(l:List α){a:A}(h:I 0 a)
  (hs:∀i x a,l[i]? =some x→I i a→b (mk i a)=some (QU (mk (i+1)) (step a x)))
  (hI:∀i x a a',l[i]? =some x→I i a→step a x=.inl a'→I (i+1) a')
  (he:∀a,I l.length a→b (mk l.length a)=some (.inr (fin a))):iter b (mk 0 a)=some (AZ step fin a l):=
 OE mk step fin I l hs hI he l 0 a rfl (by omega) h
theorem DM{α:Type}{l:List α}{i:Nat}{x:α}(h:l[i]? =some x):decide ((i:Int)<(l.length:Int))=true:=
 Al (by have:=(Ae.1 h).1;omega)
theorem DO{α:Type}(l:List α):decide ((l.length:Int)<(l.length:Int))=false:=Ak (by omega)
theorem CU{i:Nat}(h:i<9223372036854775807):i64.wrap ((i:Int)+1)=((i+1:Nat):Int):=by
 rw[BK (by omega) (by omega)];simp
theorem Jk{α:Type}{pre t:List α}{b:α}:lAt (pre++b::t) (pre.length:Int)=some b:=CP (by simp)
theorem I6{α:Type}{xs ys:List α}{k:Int}(hx:xs.length+ys.length≤1000000)(hk:0≤k∧k≤1000){β:Type}{f:Option β}:
  (if((xs.length:Int)+(ys.length:Int))*k≤140737488355328∧(xs.length:Int)+(ys.length:Int)≤4611686018427387904 then f else none)=f:=by
 rw[if_pos];refine⟨?_,by omega⟩;have h1:((xs.length:Int)+(ys.length:Int))*k≤1000000*1000:=Int.mul_le_mul (by omega) hk.2 hk.1 (by omega);omega
theorem IY{α β T:Type}(f:α→List β)(fin:List β→T):∀(l:List α) (a:List β),AZ (fun a x=>Sum.inl (a++f x)) fin a l=fin (a++l.flatMap f)
 | [],a=>by simp[AZ]
 |x::l,a=>by rw[AZ];simp only;rw[IY f fin l (a++f x)];simp
theorem D6{n:Nat}(h:n<18446744073709551616):u64.wrap (n:Int)=(n:Int):=by rw[IntKind.wrap_u64];omega
theorem Cx{n:Int}(h1:0≤n)(h2:n<18446744073709551616):u64.wrap n=n:=by rw[IntKind.wrap_u64];omega
theorem Rc(n:Nat):u64.wrap (n:Int)=((n % 18446744073709551616:Nat):Int):=by rw[IntKind.wrap_u64];omega
theorem Nw(op:BinOp)(k:IntKind)(x y:Int)(h:op=.and∨op=.or):Dg op k x y=bits op k x y:=by
 rcases h with rfl|rfl<;>rfl
theorem HW{n:Nat}(h:n<18446744073709551616):Dg .and .u64 (n:Int) 4294967295=((n % 4294967296:Nat):Int):=by
 rw[Nw _ _ _ _ (.inl rfl)];have h1:=bits_and_u64_nat n 4294967295 h (by omega);have e:n&&&4294967295=n % 4294967296:=Nat.and_two_pow_sub_one_eq_mod n 32;rw[e]at h1;exact h1
theorem FA(n:Nat):(if(32:Int)<0 then none else some ((n:Int).fdiv (2^(min (32:Int).toNat 64))))=some ((n/4294967296:Nat):Int):=by
 rw[if_neg (by decide)];have e:(2:Int)^(min (32:Int).toNat 64)=4294967296:=by decide
 rw[e,Int.fdiv_eq_ediv_of_nonneg _ (by decide)]
 congr 1
end WB
namespace WB
section
variable {b p z u n q r:Nat}
theorem OM(h:q*p+r=u):b*r+n<q*z↔u*b+n<q*(p*b+z):=by
 have e1:q*(p*b+z)=q*p*b+q*z:=by rw[Nat.mul_add,Nat.mul_assoc]
 have e2:u*b=q*p*b+b*r:=by rw[←h,Nat.add_mul,Nat.mul_comm r b]
 omega
theorem T2{d N:Nat}(hd:0<d):N<q*d↔N/d<q:=(Nat.div_lt_iff_lt_mul hd).symm
theorem L5(hn:n<b)(hu:u<p*b+z):(u*b+n)/(p*b+z)<b:=by
 have hd:0<p*b+z:=by omega
 rw[Nat.div_lt_iff_lt_mul hd];have:(u+1)*b≤(p*b+z)*b:=Nat.mul_le_mul_right b hu;rw[Nat.add_mul]at this;rw[Nat.mul_comm b];omega
theorem OL(hb:b≤2*p)(hp:0<p)(hz:z<b)(hn:n<b)(hu:u<p*b+z):(u*b+n)/(p*b+z)≤u/p∧u/p≤b+1:=by
 have hd:0<p*b+z:=by omega
 constructor
 ·rw[Nat.le_div_iff_mul_le hp];have h1:(u*b+n)/(p*b+z)*(p*b+z)≤u*b+n:=Nat.div_mul_le_self _ _;generalize (u*b+n)/(p*b+z)=Q at h1;have e1:Q*(p*b+z)=Q*p*b+Q*z:=by rw[Nat.mul_add,Nat.mul_assoc]
  have h2:Q*p*b<(u+1)*b:=by rw[Nat.add_mul];omega
  have:=Nat.lt_of_mul_lt_mul_right h2;omega
 ·rw[←Nat.lt_succ_iff,Nat.div_lt_iff_lt_mul hp];have:(b+1+1)*p=b*p+2*p:=by rw[show b+1+1=b+2 by omega,Nat.add_mul]
  rw[Nat.succ_eq_add_one,this,Nat.mul_comm b p];omega
theorem T1(hr:b≤r)(hq:q≤b)(hz:z<b)(h:q*p+r=u):q*(p*b+z)≤u*b+n:=by
 have e1:q*(p*b+z)=q*p*b+q*z:=by rw[Nat.mul_add,Nat.mul_assoc]
 have e2:u*b=q*p*b+r*b:=by rw[←h,Nat.add_mul]
 have h1:q*z≤b*b:=Nat.mul_le_mul hq (by omega);have h2:b*b≤r*b:=Nat.mul_le_mul_right b hr;omega
end
end WB
namespace WB
open Go Go.RowKit
def strings_Count:List UInt8×List UInt8→Option Int:=fun x=>match x.2 with
 | [c]=>some (x.1.count c:Int)
 |_=>none
theorem strings_Count_ok{P:Program}{B:TB}{f:Nat}(hb:AW P f=true)
  (hc:∀(s:ByteArray) (c:UInt8) (w:World),Calls P f #[.string s,.string ⟨#[c]⟩] w fun e w'=>e=.returned (.int .i64 (Lib.countByte s.data.toList c))∧w'=w)
  {x:D (.cons .str (.one .str))} {l:List CV} {y:D (.int .i64)} (hx:Can (.cons .str (.one .str)) x l) (hy:strings_Count x=some y):AW P f=true∧CallsTo P B.G f l (.val (enc (.int .i64) y)):=by
 refine⟨hb,fun w M vs hM hGk hL=> ?_⟩;rw[PP hx hL];obtain⟨s,b⟩:=x;simp only[strings_Count]at hy;split at hy<;>(try cases hy;done);rename_i c;cases hy;refine(hc ⟨⟨s⟩⟩ c w).mono fun e w' he=> ?_;obtain⟨rfl,rfl⟩:=he;refine⟨_,rfl,Below.refl _ _, ?_⟩;simp[FI,enc,AA,An,Lib.countByte]
def Ga(e size bytes:Nat):FE:=⟨8,.seq (.reg false [] [⟨some 2,.mov (.k (.sl (some true) [])),none⟩]) (.seq (.seq (.reg false [] [⟨some 3,.mov (.t 0),none⟩,⟨some 4,.isnil 1 false (.t 3),none⟩]) (.cond (.t 4) (.seq (.reg false [] [⟨some 2,.mov (.k (.sl (some true) [])),none⟩]) .ret) .skip)) (.seq (.reg false [5] [⟨some 5,.mksl e size [],none⟩,⟨some 6,.mov (.t 0),none⟩,⟨some 7,.append e size bytes (.t 5) (.t 6),none⟩,⟨some 2,.mov (.t 7),none⟩]) .ret)),[.tmp 2]⟩
theorem RY{E:Env}{e size bytes:Nat}:pwp E (Ga e size bytes).code (fin (Ga e size bytes).res (.sl (some true) [])) (Ea [.sl (some true) []]):=by
 unfold Ga;refine⟨_,rfl,_,rfl,true,rfl,fun _=>⟨_,rfl, ?_⟩,fun h=>by cases h⟩;exact Ov rfl
theorem RX{E:Env}{e size bytes:Nat}{es:List CV}{st:St}(h0:st.fr 0=.c (.sl (some false) es))(h1:(es.all fun v=>AK v==size)=true)(h2:(es.all fun v=>v.cells.all Cd)=true)(h3:es.length*bytes≤140737488355328)(h4:es.length≤4611686018427387904):
  ∃st',BN E false [5] [⟨some 5,.mksl e size [],none⟩,⟨some 6,.mov (.t 0),none⟩,⟨some 7,.append e size bytes (.t 5) (.t 6),none⟩,⟨some 2,.mov (.t 7),none⟩] st=some st'∧st'.fr 2=.osl 5∧st'.ob 5=.arr e size es:=by
 have hc:(((es.all fun v=>AK v==size)&&es.all fun v=>v.cells.all Cd)=true):=by rw[h1,h2];rfl
 have hk:(kill [5] st).ob 5=.none:=by simp[kill]
 have hk0:(kill [5] st).fr 0=.c (.sl (some false) es):=Jj h0
 have a1:Ax E none ⟨some 5,.mksl e size [],none⟩ (kill [5] st)=some {fr:=upd (kill [5] st).fr 5 (.osl 5),ob:=upd (kill [5] st).ob 5 (.arr e size [])}:=by
  simp only[Ax,A2,SOp.cls,AV,Ar,Option.bind_some,List.all_nil,if_true,Option.getD_some,AY,hk]
 generalize hs1:({fr:=upd (kill [5] st).fr 5 (.osl 5),ob:=upd (kill [5] st).ob 5 (.arr e size [])}:St)=s1 at a1;have b1:s1.fr 0=.c (.sl (some false) es):=by subst hs1;simp[upd,hk0]
 have b2:s1.fr 5=.osl 5:=by subst hs1;simp[upd]
 have b3:s1.ob 5=.arr e size []:=by subst hs1;simp[upd]
 have a2:Ax E none ⟨some 6,.mov (.t 0),none⟩ s1=some (s1.set (some 6) (.c (.sl (some false) es))):=by
  have:so E.G s1.fr (.t 0)=.c (.sl (some false) es):=b1;simp only[Ax,A2,SOp.cls,Ao,CY,this,Option.map_some]
 generalize hs2:s1.set (some 6) (.c (.sl (some false) es))=s2 at a2;have c1:s2.fr 5=.osl 5:=by subst hs2;simp[St.set,upd,b2]
 have c2:s2.fr 6=.c (.sl (some false) es):=by subst hs2;simp[St.set,upd]
 have c3:s2.ob 5=.arr e size []:=by subst hs2;exact b3
 have a3:Ax E none ⟨some 7,.append e size bytes (.t 5) (.t 6),none⟩ s2=some (St.set {kill [5] s2 with ob:=upd (kill [5] s2).ob 5 (.arr e size es)} (some 7) (.osl 5)):=by
  have e1:so E.G s2.fr (.t 5)=.osl 5:=c1;have e2:so E.G s2.fr (.t 6)=.c (.sl (some false) es):=c2;simp only[Ax,A2,SOp.cls,AD,CY,e1,e2,CR,c3];rw[if_pos hc];simp only[List.length_nil,Nat.zero_add,true_and,List.nil_append];rw[if_pos ⟨h3,h4⟩]
 generalize hs3:St.set {kill [5] s2 with ob:=upd (kill [5] s2).ob 5 (.arr e size es)} (some 7) (.osl 5)=s3 at a3;have d1:s3.fr 7=.osl 5:=by subst hs3;simp[St.set,upd]
 have d2:s3.ob 5=.arr e size es:=by subst hs3;simp[St.set,upd]
 have a4:Ax E none ⟨some 2,.mov (.t 7),none⟩ s3=some (s3.set (some 2) (.osl 5)):=by
  have:so E.G s3.fr (.t 7)=.osl 5:=d1;simp only[Ax,A2,SOp.cls,Ao,CY,this,Option.map_some]
 refine⟨s3.set (some 2) (.osl 5), ?_,by simp[St.set,upd],d2⟩;simp only[BN,Ag,if_false,List.isEmpty_cons,B7,a1,a2,a3,a4,Option.bind_some]
theorem RZ{E:Env}{e size bytes:Nat}{es:List CV}(h1:(es.all fun v=>AK v==size)=true)(h2:(es.all fun v=>v.cells.all Cd)=true)(h3:es.length*bytes≤140737488355328)(h4:es.length≤4611686018427387904):
  pwp E (Ga e size bytes).code (fin (Ga e size bytes).res (.sl none es)) (Ea [.sl (some false) es]):=by
 unfold Ga;refine⟨_,rfl,_,rfl,false,rfl,(fun h=>by cases h),fun _=> ?_⟩;obtain⟨st',g1,g2,g3⟩:=RX (E:=E) (e:=e) (size:=size) (bytes:=bytes) (st:=(((Ea [.sl (some false) es]).set (some 2) (.c (.sl (some true) []))).set (some 3) (.c (.sl (some false) es))).set (some 4) (.c (.bool false))) (es:=es) rfl h1 h2 h3 h4;exact⟨st',g1,Ov (by simp[Db,Ar,DR,Gk,BS,g2,g3])⟩
def N8(bytes:Nat){t:Ty}(x:List (D t)):Option (List (D t)):=if x.length*bytes≤140737488355328∧x.length≤4611686018427387904 then some x else none
theorem clone_ok{P:Program}{E:Env}(hE:EOk P E){f e size bytes:Nat}(hf:C7 P f=some (Ga e size bytes)){t:Ty}(ht:(t.val&&t.ok)=true)(h1:AE (Bq t)=some size)(hone:E5 (Bq t)=true){x:D (.one (.sl t))}{l:List CV}{y:D (.sl t)}(hx:Can (.one (.sl t)) x l)(hy:N8 bytes (t:=t) x=some y):
  AW P f=true∧CallsTo P E.G f l (.val (enc (.sl t) y)):=by
 simp only[Af]at ht;simp only[N8]at hy;split at hy
 case isFalse=>cases hy
 rename_i hlen;cases hy;unfold Can at hx;obtain⟨c,rfl,hx⟩:=hx;have hx':=hx;unfold Can at hx';obtain⟨nl,es,e',hall⟩:=hx';cases e';have hl2:=hall.length;have hsz:=IB ht.1 h1 hone hall;simp only[Af]at hsz;have hb:AW P f=true:=Sc hf;refine⟨hb,fun w M vs hM hG hL=> ?_⟩;unfold Am at hL;obtain⟨v,vs',rfl,h2,hL⟩:=hL;unfold Am at hL;subst hL;have hcan:∀nl',Can (.sl t) x [.sl nl' es]:=fun nl'=>by unfold Can;exact⟨nl',es,rfl,hall⟩
 have h1':=h2;unfold An at h1';obtain⟨ad,n,cp,rfl,g1,g2,g3,g4,g5,g6⟩:=h1'
 cases ad with
 |none=>
  have hc0:=g5 rfl;subst hc0;have hn0:n=0:=by omega
  subst hn0;have he:es= []:=List.eq_nil_of_length_eq_zero g1.symm;subst he
  have hcall:=(Lt hE hf (l:= [.sl (some true) []]) (r:=.sl (some true) []) (show 1≤8 by decide) RY).2 w M [.slice none 0 0] hM hG (Am.cons (by
   unfold An
   exact⟨none,0,0,rfl,rfl,Nat.le_refl _,(fun _=>rfl),(fun hh=>by cases hh),(fun _=>rfl),(fun hh=>absurd rfl hh)⟩) Am.nil)
  refine hcall.mono fun e w' ⟨u,k1,k2,k3⟩=>⟨u,k1,k2, ?_⟩;exact An.enc (hcan (some true)) k3
 |some ad=>
  have hcall:=(Lt hE hf (l:= [.sl (some false) es]) (r:=.sl none es) (show 1≤8 by decide) (RZ hsz.1 hsz.2 (by rw[hl2];exact hlen.1) (by rw[hl2];exact hlen.2))).2 w M [.slice (some ad) n cp] hM hG (Am.cons (by
   unfold An
   exact⟨some ad,n,cp,rfl,g1,g2,(fun hh=>by cases hh),(fun _ hh=>by cases hh),(fun hh=>by cases hh),g6⟩) Am.nil)
  refine hcall.mono fun e w' ⟨u,k1,k2,k3⟩=>⟨u,k1,k2, ?_⟩;exact An.enc (hcan none) k3
set_option linter.unusedVariables false
noncomputable def law34_great(a:(Int×Int×(List (Int×List UInt8×Int)))×(List (List UInt8×Int))):Option Bool:=let x0:=a.1;let x1:=a.2;let x7:=(x0.2.2.length:Int);let x8:=(decide (x7>60));let x10:=(if x8=false then some x1 else none);Option.bind (if x8=false then(x10.map (fun z=>(z.length:Int))).map some else some none) fun x11=>Option.bind (if x8=false then((x11.bind (fun z=>some (z,(70:Int)))).map (fun u=>(decide (u.1>u.2)))).map some else some none) fun x12=>Option.bind (if x8 then some true else x12.map (fun z=>z)) fun x13=>some x13
noncomputable def Kd(s:List Int×Int×Int×Unit):Option ((List Int×Int×Int×Unit)⊕(Unit⊕Bool)):=let x17:=s.1;let x18:=s.2.1;let x19:=s.2.2.1;let x20:=(decide (x19<x18));if x20 then(Option.bind ((lAt x17 x19).map (fun y=>y)) fun x21=>Option.bind (show Option ((List Int×Int×Int×Bool×Unit))from(let x25:=(decide (x21≥97));let x27:=(if x25=true then some x21 else none);Option.bind (if x25=true then((x27.bind (fun z=>some (z,(122:Int)))).map (fun u=>(decide (u.1≤u.2)))).map some else some none) fun x28=>(if x25 then x28 else some false).bind fun x29=>if x29 then(some (x17,x18,x19,x29,()))else(let x31:=(decide (x21≥48));let x33:=(if x31=true then some x21 else none);Option.bind (if x31=true then((x33.bind (fun z=>some (z,(57:Int)))).map (fun u=>(decide (u.1≤u.2)))).map some else some none) fun x34=>(if x31 then x34 else some false).bind fun x35=>if x35 then(some (x17,x18,x19,x35,()))else(let x37:=(x21==46);if x37 then(some (x17,x18,x19,x37,()))else(let x39:=(x21==95);if x39 then(some (x17,x18,x19,x39,()))else(let x41:=(x21==45);some (x17,x18,x19,x41,()))))))) fun o=>let x17:=o.1;let x18:=o.2.1;let x19:=o.2.2.1;let x23:=o.2.2.2.1;if x23 then(let x42:=i64.wrap (x19+1);some (Sum.inl (x17,x18,x42,())))else(some (Sum.inr (Sum.inr false))))else(some (Sum.inr (Sum.inl (()))))
noncomputable def slip_code(a:List UInt8):Option Bool:=let x0:=a;let x6:=((x0==([]:List UInt8)));let x8:=(if x6=false then some x0 else none);Option.bind (if x6=false then((x8.bind (fun z=>some (z,([45]:List UInt8)))).map (fun u=>((u.1==u.2)))).map some else some none) fun x9=>Option.bind (if x6 then some true else x9.map (fun z=>z)) fun x10=>let x12:=(if x10=false then some x0 else none);Option.bind (if x10=false then(x12.map (fun z=>(z.length:Int))).map some else some none) fun x13=>Option.bind (if x10=false then((x13.bind (fun z=>some (z,(32:Int)))).map (fun u=>(decide (u.1>u.2)))).map some else some none) fun x14=>Option.bind (if x10 then some true else x14.map (fun z=>z)) fun x15=>if x15 then(some false)else(Option.bind (if x0.length≤70368744177664 then some (x0.map fun b=>(b.toNat:Int))else none) fun x17=>let x18:=(x17.length:Int);Option.bind (iter Kd (x17,x18,0,())) fun o=>match o with|Sum.inl p160=>(some true)|Sum.inr q161=>(some q161))
noncomputable def cents_Fits(a:Int):Option Bool:=let x0:=a;let x4:=(decide (x0≥(-1125899906842624)));let x6:=(if x4=true then some x0 else none);Option.bind (if x4=true then((x6.bind (fun z=>some (z,(1125899906842624:Int)))).map (fun u=>(decide (u.1≤u.2)))).map some else some none) fun x7=>(if x4 then x7 else some false).bind fun x8=>some x8
noncomputable def slip_line(a:(Int×List UInt8×Int)):Option Int:=let x0:=a;let x6:=(decide (x0.1<0));let x8:=(if x6=false then some ()else none);Option.bind (if x6=false then(x8.map (fun z=>x0.1)).map some else some none) fun x9=>Option.bind (if x6=false then((x9.bind (fun z=>some (z,(7:Int)))).map (fun u=>(decide (u.1≥u.2)))).map some else some none) fun x10=>Option.bind (if x6 then some true else x10.map (fun z=>z)) fun x11=>if x11 then(some (11:Int))else((slip_code x0.2.1).bind fun x15=>let x16:=(!x15);if x16 then(some (12:Int))else(let x20:=(x0.2.2==0);if x20 then(some (22:Int))else((cents_Fits x0.2.2).bind fun x24=>let x25:=(!x24);if x25 then(some (9:Int))else(some (0:Int)))))
noncomputable def slip_less(a:(Int×List UInt8×Int)×(Int×List UInt8×Int)):Option Bool:=let x0:=a.1;let x1:=a.2;let x9:=(decide (x0.1<x1.1));let x11:=(if x9=false then some ()else none);Option.bind (if x9=false then(x11.map (fun z=>x0.1)).map some else some none) fun x12=>let x13:=(if x9=false then some ()else none);Option.bind (if x9=false then(x13.map (fun z=>x1.1)).map some else some none) fun x14=>Option.bind (if x9=false then((x12.bind (fun z=>x14.map (fun u=>(z,u)))).map (fun v=>(v.1==v.2))).map some else some none) fun x15=>Option.bind (if x9=false then x15.map some else some none) fun x16=>let x17:=(if x16=some true then some ()else none);Option.bind (if x16=some true then(x17.map (fun z=>x0.2.1)).map some else some none) fun x18=>let x19:=(if x16=some true then some ()else none);Option.bind (if x16=some true then(x19.map (fun z=>x1.2.1)).map some else some none) fun x20=>Option.bind (if x16=some true then((x18.bind (fun z=>x20.map (fun u=>(z,u)))).map (fun v=>(Ei v.1 v.2))).map some else some none) fun x21=>Option.bind (if x9=false then(x16.bind (fun z=>if z then x21 else some false)).map some else some none) fun x22=>Option.bind (if x9 then some true else x22.map (fun z=>z)) fun x23=>some x23
noncomputable def Kc(s:(List (Int×List UInt8×Int))×Int×Int×Int×Int×(List (Int×List UInt8×Int))×Unit×Unit×Unit):Option (((List (Int×List UInt8×Int))×Int×Int×Int×Int×(List (Int×List UInt8×Int))×Unit×Unit×Unit)⊕(Unit⊕Int)):=let x30:=s.1;let x31:=s.2.1;let x32:=s.2.2.1;let c1_0:=s.2.2.2.1;let c1_1:=s.2.2.2.2.1;let c1_2:=s.2.2.2.2.2.1;let x33:=(decide (x32<x31));if x33 then(Option.bind (show Option (((List (Int×List UInt8×Int))×Int×Int×Int×Int×(List (Int×List UInt8×Int))×Unit×Unit×Unit)⊕Int)from(Option.bind ((lAt x30 x32).map (fun y=>y)) fun x35=>(slip_line (x35.1,x35.2.1,x35.2.2)).bind fun x38=>let x40:=(x38 !=0);if x40 then(some (Sum.inr x38))else(let x43:=(x32==0);if x43 then(some (Sum.inl (x30,x31,x32,c1_0,c1_1,c1_2,(),(),())))else(let x47:=i64.wrap (x32-1);Option.bind ((lAt c1_2 x47).map (fun y=>y)) fun x48=>let x55:=(x48.1==x35.1);let x57:=(if x55=true then some ()else none);Option.bind (if x55=true then(x57.map (fun z=>x48.2.1)).map some else some none) fun x58=>let x59:=(if x55=true then some ()else none);Option.bind (if x55=true then(x59.map (fun z=>x35.2.1)).map some else some none) fun x60=>Option.bind (if x55=true then((x58.bind (fun z=>x60.map (fun u=>(z,u)))).map (fun v=>((v.1==v.2)))).map some else some none) fun x61=>(if x55 then x61 else some false).bind fun x62=>if x62 then(some (Sum.inr (7:Int)))else(Option.bind (slip_less ((x48.1,x48.2.1,x48.2.2),(x35.1,x35.2.1,x35.2.2))) fun x66=>let x67:=(!x66);if x67 then(some (Sum.inr (8:Int)))else(some (Sum.inl (x30,x31,x32,c1_0,c1_1,c1_2,(),(),())))))))) fun o=>match o with|Sum.inl p151=>(let x30:=p151.1;let x31:=p151.2.1;let x32:=p151.2.2.1;let c1_0:=p151.2.2.2.1;let c1_1:=p151.2.2.2.2.1;let c1_2:=p151.2.2.2.2.2.1;let x68:=i64.wrap (x32+1);some (Sum.inl (x30,x31,x68,c1_0,c1_1,c1_2,(),(),())))|Sum.inr q152=>(some (Sum.inr (Sum.inr q152))))else(some (Sum.inr (Sum.inl (()))))
noncomputable def slip_Check(a:(Int×Int×(List (Int×List UInt8×Int)))):Option Int:=let x0:=a;Option.bind (show Option ((Bool×Int×Int×(List (Int×List UInt8×Int))×Unit×Unit×Unit))from(let x10:=(decide (x0.1<1900));let x12:=(if x10=false then some ()else none);Option.bind (if x10=false then(x12.map (fun z=>x0.1)).map some else some none) fun x13=>Option.bind (if x10=false then((x13.bind (fun z=>some (z,(2199:Int)))).map (fun u=>(decide (u.1>u.2)))).map some else some none) fun x14=>Option.bind (if x10 then some true else x14.map (fun z=>z)) fun x15=>if x15 then(some (x15,x0.1,x0.2.1,x0.2.2,(),(),()))else(let x18:=(decide (x0.2.1<1));let x20:=(if x18=false then some ()else none);Option.bind (if x18=false then(x20.map (fun z=>x0.2.1)).map some else some none) fun x21=>Option.bind (if x18=false then((x21.bind (fun z=>some (z,(400:Int)))).map (fun u=>(decide (u.1>u.2)))).map some else some none) fun x22=>Option.bind (if x18 then some true else x22.map (fun z=>z)) fun x23=>some (x23,x0.1,x0.2.1,x0.2.2,(),(),())))) fun o=>let x7:=o.1;let c1_0:=o.2.1;let c1_1:=o.2.2.1;let c1_2:=o.2.2.2.1;if x7 then(some (2:Int))else(let x27:=(c1_2.length:Int);let x28:=(decide (x27>448));if x28 then(some (5:Int))else(let x31:=(c1_2.length:Int);Option.bind (iter Kc (c1_2,x31,0,c1_0,c1_1,c1_2,(),(),())) fun o=>match o with|Sum.inl p153=>(some (0:Int))|Sum.inr q154=>(some q154)))
noncomputable def fact_known(a:Int):Option Bool:=let x0:=a;let x4:=(decide (x0≥1));let x6:=(if x4=true then some x0 else none);Option.bind (if x4=true then((x6.bind (fun z=>some (z,(18:Int)))).map (fun u=>(decide (u.1≤u.2)))).map some else some none) fun x7=>(if x4 then x7 else some false).bind fun x8=>some x8
noncomputable def H8(s:List UInt8×Int×Int×Unit):Option ((List UInt8×Int×Int×Unit)⊕((List UInt8×Unit)⊕Bool)):=let x0:=s.1;let x6:=s.2.1;let x7:=s.2.2.1;let x8:=(decide (x7<x6));if x8 then((sAt x0 x7).bind fun x12=>let x14:=(decide (x12<97));let x16:=(if x14=false then some x12 else none);Option.bind (if x14=false then((x16.bind (fun z=>some (z,(122:Int)))).map (fun u=>(decide (u.1>u.2)))).map some else some none) fun x17=>Option.bind (if x14 then some true else x17.map (fun z=>z)) fun x18=>let x20:=(if x18=true then some x12 else none);Option.bind (if x18=true then((x20.bind (fun z=>some (z,(48:Int)))).map (fun u=>(decide (u.1<u.2)))).map some else some none) fun x21=>Option.bind (if x18=true then x21.map some else some none) fun x22=>let x23:=(if x22=some false then some x12 else none);Option.bind (if x22=some false then((x23.bind (fun z=>some (z,(57:Int)))).map (fun u=>(decide (u.1>u.2)))).map some else some none) fun x24=>Option.bind (if x18=true then(x22.bind (fun z=>if z then some true else x24.map (fun u=>u))).map some else some none) fun x25=>(if x18 then x25 else some false).bind fun x26=>let x28:=(if x26=true then some x12 else none);Option.bind (if x26=true then((x28.bind (fun z=>some (z,(46:Int)))).map (fun u=>(u.1 !=u.2))).map some else some none) fun x29=>(if x26 then x29 else some false).bind fun x30=>let x32:=(if x30=true then some x12 else none);Option.bind (if x30=true then((x32.bind (fun z=>some (z,(95:Int)))).map (fun u=>(u.1 !=u.2))).map some else some none) fun x33=>(if x30 then x33 else some false).bind fun x34=>let x36:=(if x34=true then some x12 else none);Option.bind (if x34=true then((x36.bind (fun z=>some (z,(45:Int)))).map (fun u=>(u.1 !=u.2))).map some else some none) fun x37=>(if x34 then x37 else some false).bind fun x38=>if x38 then(some (Sum.inr (Sum.inr false)))else(let x39:=i64.wrap (x7+1);some (Sum.inl (x0,x6,x39,()))))else(some (Sum.inr (Sum.inl (x0,()))))
noncomputable def fact_isName(a:List UInt8):Option Bool:=let x0:=a;let x6:=(x0.length:Int);Option.bind (iter H8 (x0,x6,0,())) fun o=>match o with|Sum.inl p358=>(let x0:=p358.1;let x41:=(!(x0==([]:List UInt8)));let x43:=(if x41=true then some x0 else none);Option.bind (if x41=true then((x43.bind (fun z=>some (z,([45]:List UInt8)))).map (fun u=>(!(u.1==u.2)))).map some else some none) fun x44=>(if x41 then x44 else some false).bind fun x45=>let x47:=(if x45=true then some x0 else none);Option.bind (if x45=true then(x47.map (fun z=>(z.length:Int))).map some else some none) fun x48=>Option.bind (if x45=true then((x48.bind (fun z=>some (z,(32:Int)))).map (fun u=>(decide (u.1≤u.2)))).map some else some none) fun x49=>(if x45 then x49 else some false).bind fun x50=>some x50)|Sum.inr q359=>(some q359)
noncomputable def fact_rules_1(a:List UInt8):Option Bool:=let x0:=a;let x4:=((x0==([]:List UInt8)));let x6:=(if x4=false then some x0 else none);Option.bind (if x4=false then((x6.map (fun z=>z)).bind (fun u=>fact_isName u)).map some else some none) fun x7=>Option.bind (if x4 then some true else x7.map (fun z=>z)) fun x8=>some x8
noncomputable def fact_rules_2(a:(Int×Int×Int×Int×Int×List UInt8×Int×List UInt8)):Option Bool:=let x0:=a;(fact_isName x0.2.2.2.2.2.2.2).bind fun x5=>some x5
noncomputable def SS(s:List UInt8×Int×Int×Unit):Option ((List UInt8×Int×Int×Unit)⊕(Unit⊕Bool)):=let x0:=s.1;let x5:=s.2.1;let x6:=s.2.2.1;let x7:=(decide (x6<x5));if x7 then((sAt x0 x6).bind fun x11=>let x12:=(decide (x11<32));let x14:=(if x12=false then some x0 else none);let x15:=(if x12=false then some x6 else none);Option.bind (if x12=false then((x14.bind (fun z=>x15.map (fun u=>(z,u)))).bind (fun v=>sAt v.1 v.2)).map some else some none) fun x16=>Option.bind (if x12=false then((x16.bind (fun z=>some (z,(126:Int)))).map (fun u=>(decide (u.1>u.2)))).map some else some none) fun x17=>Option.bind (if x12 then some true else x17.map (fun z=>z)) fun x18=>if x18 then(some (Sum.inr (Sum.inr false)))else(let x19:=i64.wrap (x6+1);some (Sum.inl (x0,x5,x19,()))))else(some (Sum.inr (Sum.inl (()))))
noncomputable def fact_plain(a:List UInt8):Option Bool:=let x0:=a;let x5:=(x0.length:Int);Option.bind (iter SS (x0,x5,0,())) fun o=>match o with|Sum.inl p120=>(some true)|Sum.inr q121=>(some q121)
noncomputable def fact_rules_3(a:(Int×Int×Int×Int×Int×List UInt8×Int×List UInt8)):Option Bool:=let x0:=a;(fact_plain x0.2.2.2.2.2.2.2).bind fun x5=>some x5
noncomputable def fact_rules_4(a:(Int×Int×Int×Int×Int×List UInt8×Int×List UInt8)):Option Bool:=let x0:=a;let x5:=(!(x0.2.2.2.2.2.2.2==([]:List UInt8)));let x7:=(if x5=true then some ()else none);Option.bind (if x5=true then(x7.map (fun z=>x0.2.2.2.2.2.2.2)).map some else some none) fun x8=>Option.bind (if x5=true then((x8.map (fun z=>z)).bind (fun u=>fact_plain u)).map some else some none) fun x9=>(if x5 then x9 else some false).bind fun x10=>some x10
noncomputable def fact_empty(a:List UInt8):Option Bool:=let x0:=a;let x4:=((x0==([]:List UInt8)));some x4
noncomputable def fact_silent(a:(Int×Int×Int×Int×Int×List UInt8×Int×List UInt8)):Option Bool:=let x0:=a;let x5:=((x0.2.2.2.2.2.2.2==([]:List UInt8)));some x5
noncomputable def fact_weekly(a:(Int×Int×Int×Int×Int×List UInt8×Int×List UInt8)):Option Bool:=let x0:=a;none
noncomputable def fact_rules_5(a:(Int×Int×Int×Int×Int×List UInt8×Int×List UInt8)):Option Bool:=let x0:=a;none
noncomputable def fact_night(a:(Int×Int×Int×Int×Int×List UInt8×Int×List UInt8)):Option Bool:=let x0:=a;none
noncomputable def fact_absence(a:List UInt8):Option Bool:=let x0:=a;none
noncomputable def fact_rules_6(a:(Int×Int×Int×Int×Int×List UInt8×Int×List UInt8)):Option Bool:=let x0:=a;none
noncomputable def fact_rules(a:Unit):Option (List UInt8×Bool×Bool×((Unit⊕((Unit⊕((Unit⊕((Unit⊕Unit))))))))×Int×Int×((Unit⊕((Unit⊕((Unit⊕((Unit⊕((Unit⊕((Unit⊕((Unit⊕((Unit⊕Unit))))))))))))))))×List UInt8×Bool×Bool×((Unit⊕((Unit⊕((Unit⊕((Unit⊕Unit))))))))×Int×Int×((Unit⊕((Unit⊕((Unit⊕((Unit⊕((Unit⊕((Unit⊕((Unit⊕((Unit⊕Unit))))))))))))))))×List UInt8×Bool×Bool×((Unit⊕((Unit⊕((Unit⊕((Unit⊕Unit))))))))×Int×Int×((Unit⊕((Unit⊕((Unit⊕((Unit⊕((Unit⊕((Unit⊕((Unit⊕((Unit⊕Unit))))))))))))))))×List UInt8×Bool×Bool×((Unit⊕((Unit⊕((Unit⊕((Unit⊕Unit))))))))×Int×Int×((Unit⊕((Unit⊕((Unit⊕((Unit⊕((Unit⊕((Unit⊕((Unit⊕((Unit⊕Unit))))))))))))))))×List UInt8×Bool×Bool×((Unit⊕((Unit⊕((Unit⊕((Unit⊕Unit))))))))×Int×Int×((Unit⊕((Unit⊕((Unit⊕((Unit⊕((Unit⊕((Unit⊕((Unit⊕((Unit⊕Unit))))))))))))))))×List UInt8×Bool×Bool×((Unit⊕((Unit⊕((Unit⊕((Unit⊕Unit))))))))×Int×Int×((Unit⊕((Unit⊕((Unit⊕((Unit⊕((Unit⊕((Unit⊕((Unit⊕((Unit⊕Unit))))))))))))))))×List UInt8×Bool×Bool×((Unit⊕((Unit⊕((Unit⊕((Unit⊕Unit))))))))×Int×Int×((Unit⊕((Unit⊕((Unit⊕((Unit⊕((Unit⊕((Unit⊕((Unit⊕((Unit⊕Unit))))))))))))))))×List UInt8×Bool×Bool×((Unit⊕((Unit⊕((Unit⊕((Unit⊕Unit))))))))×Int×Int×((Unit⊕((Unit⊕((Unit⊕((Unit⊕((Unit⊕((Unit⊕((Unit⊕((Unit⊕Unit))))))))))))))))×List UInt8×Bool×Bool×((Unit⊕((Unit⊕((Unit⊕((Unit⊕Unit))))))))×Int×Int×((Unit⊕((Unit⊕((Unit⊕((Unit⊕((Unit⊕((Unit⊕((Unit⊕((Unit⊕Unit))))))))))))))))×List UInt8×Bool×Bool×((Unit⊕((Unit⊕((Unit⊕((Unit⊕Unit))))))))×Int×Int×((Unit⊕((Unit⊕((Unit⊕((Unit⊕((Unit⊕((Unit⊕((Unit⊕((Unit⊕Unit))))))))))))))))×List UInt8×Bool×Bool×((Unit⊕((Unit⊕((Unit⊕((Unit⊕Unit))))))))×Int×Int×((Unit⊕((Unit⊕((Unit⊕((Unit⊕((Unit⊕((Unit⊕((Unit⊕((Unit⊕Unit))))))))))))))))×List UInt8×Bool×Bool×((Unit⊕((Unit⊕((Unit⊕((Unit⊕Unit))))))))×Int×Int×((Unit⊕((Unit⊕((Unit⊕((Unit⊕((Unit⊕((Unit⊕((Unit⊕((Unit⊕Unit))))))))))))))))×List UInt8×Bool×Bool×((Unit⊕((Unit⊕((Unit⊕((Unit⊕Unit))))))))×Int×Int×((Unit⊕((Unit⊕((Unit⊕((Unit⊕((Unit⊕((Unit⊕((Unit⊕((Unit⊕Unit))))))))))))))))×List UInt8×Bool×Bool×((Unit⊕((Unit⊕((Unit⊕((Unit⊕Unit))))))))×Int×Int×((Unit⊕((Unit⊕((Unit⊕((Unit⊕((Unit⊕((Unit⊕((Unit⊕((Unit⊕Unit))))))))))))))))×List UInt8×Bool×Bool×((Unit⊕((Unit⊕((Unit⊕((Unit⊕Unit))))))))×Int×Int×((Unit⊕((Unit⊕((Unit⊕((Unit⊕((Unit⊕((Unit⊕((Unit⊕((Unit⊕Unit))))))))))))))))×List UInt8×Bool×Bool×((Unit⊕((Unit⊕((Unit⊕((Unit⊕Unit))))))))×Int×Int×((Unit⊕((Unit⊕((Unit⊕((Unit⊕((Unit⊕((Unit⊕((Unit⊕((Unit⊕Unit))))))))))))))))×List UInt8×Bool×Bool×((Unit⊕((Unit⊕((Unit⊕((Unit⊕Unit))))))))×Int×Int×((Unit⊕((Unit⊕((Unit⊕((Unit⊕((Unit⊕((Unit⊕((Unit⊕((Unit⊕Unit))))))))))))))))×List UInt8×Bool×Bool×((Unit⊕((Unit⊕((Unit⊕((Unit⊕Unit))))))))×Int×Int×((Unit⊕((Unit⊕((Unit⊕((Unit⊕((Unit⊕((Unit⊕((Unit⊕((Unit⊕Unit))))))))))))))))×List UInt8×Bool×Bool×((Unit⊕((Unit⊕((Unit⊕((Unit⊕Unit))))))))×Int×Int×((Unit⊕((Unit⊕((Unit⊕((Unit⊕((Unit⊕((Unit⊕((Unit⊕((Unit⊕Unit))))))))))))))))):=let x1:=();let x2:=();let x3:=();let x4:=();some (([]:List UInt8),false,false,(Sum.inr (Sum.inr (Sum.inr (Sum.inr ()))):(Unit⊕((Unit⊕((Unit⊕((Unit⊕Unit)))))))),(0:Int),(0:Int),(Sum.inr (Sum.inr (Sum.inr (Sum.inr (Sum.inr (Sum.inr (Sum.inr (Sum.inr ()))))))):(Unit⊕((Unit⊕((Unit⊕((Unit⊕((Unit⊕((Unit⊕((Unit⊕((Unit⊕Unit)))))))))))))))),([101,109,112,108,111,121]:List UInt8),false,true,(Sum.inl ():(Unit⊕((Unit⊕((Unit⊕((Unit⊕Unit)))))))),(0:Int),(1:Int),(Sum.inl ():(Unit⊕((Unit⊕((Unit⊕((Unit⊕((Unit⊕((Unit⊕((Unit⊕((Unit⊕Unit)))))))))))))))),([115,97,108,97,114,121]:List UInt8),false,true,(Sum.inl ():(Unit⊕((Unit⊕((Unit⊕((Unit⊕Unit)))))))),(0:Int),(1125899906842624:Int),(Sum.inl ():(Unit⊕((Unit⊕((Unit⊕((Unit⊕((Unit⊕((Unit⊕((Unit⊕((Unit⊕Unit)))))))))))))))),([112,97,114,116]:List UInt8),false,true,(Sum.inl ():(Unit⊕((Unit⊕((Unit⊕((Unit⊕Unit)))))))),(0:Int),(1000000:Int),(Sum.inl ():(Unit⊕((Unit⊕((Unit⊕((Unit⊕((Unit⊕((Unit⊕((Unit⊕((Unit⊕Unit)))))))))))))))),([104,111,117,114,115]:List UInt8),false,true,(Sum.inl ():(Unit⊕((Unit⊕((Unit⊕((Unit⊕Unit)))))))),(0:Int),(0:Int),(Sum.inr (Sum.inl ()):(Unit⊕((Unit⊕((Unit⊕((Unit⊕((Unit⊕((Unit⊕((Unit⊕((Unit⊕Unit)))))))))))))))),([99,111,115,116]:List UInt8),false,true,(Sum.inl ():(Unit⊕((Unit⊕((Unit⊕((Unit⊕Unit)))))))),(0:Int),(0:Int),(Sum.inr (Sum.inr (Sum.inl ())):(Unit⊕((Unit⊕((Unit⊕((Unit⊕((Unit⊕((Unit⊕((Unit⊕((Unit⊕Unit)))))))))))))))),([115,104,101,101,116]:List UInt8),false,false,(Sum.inr (Sum.inl x1):(Unit⊕((Unit⊕((Unit⊕((Unit⊕Unit)))))))),(0:Int),(1440:Int),(Sum.inr (Sum.inr (Sum.inr (Sum.inl ()))):(Unit⊕((Unit⊕((Unit⊕((Unit⊕((Unit⊕((Unit⊕((Unit⊕((Unit⊕Unit)))))))))))))))),([97,98,115,101,110,116]:List UInt8),false,true,(Sum.inr (Sum.inr (Sum.inl ())):(Unit⊕((Unit⊕((Unit⊕((Unit⊕Unit)))))))),(0:Int),(1000000:Int),(Sum.inl ():(Unit⊕((Unit⊕((Unit⊕((Unit⊕((Unit⊕((Unit⊕((Unit⊕((Unit⊕Unit)))))))))))))))),([98,111,110,117,115]:List UInt8),false,false,(Sum.inr (Sum.inr (Sum.inr (Sum.inl ()))):(Unit⊕((Unit⊕((Unit⊕((Unit⊕Unit)))))))),(-1125899906842624:Int),(1125899906842624:Int),(Sum.inl ():(Unit⊕((Unit⊕((Unit⊕((Unit⊕((Unit⊕((Unit⊕((Unit⊕((Unit⊕Unit)))))))))))))))),([101,110,114,111,108]:List UInt8),false,true,(Sum.inr (Sum.inr (Sum.inr (Sum.inl ()))):(Unit⊕((Unit⊕((Unit⊕((Unit⊕Unit)))))))),(0:Int),(1125899906842624:Int),(Sum.inl ():(Unit⊕((Unit⊕((Unit⊕((Unit⊕((Unit⊕((Unit⊕((Unit⊕((Unit⊕Unit)))))))))))))))),([100,101,100,117,99,116]:List UInt8),false,true,(Sum.inr (Sum.inr (Sum.inr (Sum.inl ()))):(Unit⊕((Unit⊕((Unit⊕((Unit⊕Unit)))))))),(0:Int),(1125899906842624:Int),(Sum.inl ():(Unit⊕((Unit⊕((Unit⊕((Unit⊕((Unit⊕((Unit⊕((Unit⊕((Unit⊕Unit)))))))))))))))),([99,97,114,100]:List UInt8),false,true,(Sum.inl ():(Unit⊕((Unit⊕((Unit⊕((Unit⊕Unit)))))))),(0:Int),(1125899906842624:Int),(Sum.inr (Sum.inr (Sum.inr (Sum.inr (Sum.inl x2)))):(Unit⊕((Unit⊕((Unit⊕((Unit⊕((Unit⊕((Unit⊕((Unit⊕((Unit⊕Unit)))))))))))))))),([97,116,116,97,99,104]:List UInt8),false,true,(Sum.inr (Sum.inr (Sum.inr (Sum.inl ()))):(Unit⊕((Unit⊕((Unit⊕((Unit⊕Unit)))))))),(0:Int),(1125899906842624:Int),(Sum.inr (Sum.inr (Sum.inr (Sum.inr (Sum.inr (Sum.inl ()))))):(Unit⊕((Unit⊕((Unit⊕((Unit⊕((Unit⊕((Unit⊕((Unit⊕((Unit⊕Unit)))))))))))))))),([98,97,110,107]:List UInt8),false,true,(Sum.inl ():(Unit⊕((Unit⊕((Unit⊕((Unit⊕Unit)))))))),(0:Int),(0:Int),(Sum.inr (Sum.inr (Sum.inr (Sum.inr (Sum.inl x2)))):(Unit⊕((Unit⊕((Unit⊕((Unit⊕((Unit⊕((Unit⊕((Unit⊕((Unit⊕Unit)))))))))))))))),([114,117,108,101]:List UInt8),true,true,(Sum.inr (Sum.inr (Sum.inr (Sum.inl ()))):(Unit⊕((Unit⊕((Unit⊕((Unit⊕Unit)))))))),(-1125899906842624:Int),(1125899906842624:Int),(Sum.inr (Sum.inr (Sum.inr (Sum.inr (Sum.inr (Sum.inr (Sum.inl x3)))))):(Unit⊕((Unit⊕((Unit⊕((Unit⊕((Unit⊕((Unit⊕((Unit⊕((Unit⊕Unit)))))))))))))))),([101,108,101,109,101,110,116]:List UInt8),true,true,(Sum.inr (Sum.inr (Sum.inr (Sum.inl ()))):(Unit⊕((Unit⊕((Unit⊕((Unit⊕Unit)))))))),(0:Int),(0:Int),(Sum.inr (Sum.inr (Sum.inr (Sum.inr (Sum.inr (Sum.inr (Sum.inr (Sum.inl x4))))))):(Unit⊕((Unit⊕((Unit⊕((Unit⊕((Unit⊕((Unit⊕((Unit⊕((Unit⊕Unit)))))))))))))))),([104,111,108,105,100,97,121]:List UInt8),true,false,(Sum.inl ():(Unit⊕((Unit⊕((Unit⊕((Unit⊕Unit)))))))),(0:Int),(0:Int),(Sum.inl ():(Unit⊕((Unit⊕((Unit⊕((Unit⊕((Unit⊕((Unit⊕((Unit⊕((Unit⊕Unit)))))))))))))))),([103,114,97,110,116]:List UInt8),false,false,(Sum.inl ():(Unit⊕((Unit⊕((Unit⊕((Unit⊕Unit)))))))),(0:Int),(100000:Int),(Sum.inl ():(Unit⊕((Unit⊕((Unit⊕((Unit⊕((Unit⊕((Unit⊕((Unit⊕((Unit⊕Unit)))))))))))))))),([99,97,110,99,101,108]:List UInt8),true,false,(Sum.inl ():(Unit⊕((Unit⊕((Unit⊕((Unit⊕Unit)))))))),(1:Int),(4096:Int),(Sum.inl ():(Unit⊕((Unit⊕((Unit⊕((Unit⊕((Unit⊕((Unit⊕((Unit⊕((Unit⊕Unit)))))))))))))))))
noncomputable def fact_Fact_days(a:(Int×Int×Int×Int×Int×List UInt8×Int×List UInt8)×(List UInt8×Bool×Bool×((Unit⊕((Unit⊕((Unit⊕((Unit⊕Unit))))))))×Int×Int×((Unit⊕((Unit⊕((Unit⊕((Unit⊕((Unit⊕((Unit⊕((Unit⊕((Unit⊕Unit)))))))))))))))))):Option Int:=let x0:=a.1;let x1:=a.2;Option.bind (show Option ((Bool×Int×Int×Int×Int×Int×List UInt8×Int×List UInt8×List UInt8×Bool×Bool×((Unit⊕((Unit⊕((Unit⊕((Unit⊕Unit))))))))×Int×Int×((Unit⊕((Unit⊕((Unit⊕((Unit⊕((Unit⊕((Unit⊕((Unit⊕((Unit⊕Unit))))))))))))))))×Unit×Unit×Unit×Unit×Unit))from(let x8:=(x0.2.2.1==18);let x10:=(if x8=true then some ()else none);Option.bind (if x8=true then(x10.map (fun z=>x0.2.2.2.1)).map some else some none) fun x11=>Option.bind (if x8=true then((x11.bind (fun z=>some (z,(0:Int)))).map (fun u=>(u.1 !=u.2))).map some else some none) fun x12=>(if x8 then x12 else some false).bind fun x13=>if x13 then(some (x13,x0.1,x0.2.1,x0.2.2.1,x0.2.2.2.1,x0.2.2.2.2.1,x0.2.2.2.2.2.1,x0.2.2.2.2.2.2.1,x0.2.2.2.2.2.2.2,x1.1,x1.2.1,x1.2.2.1,x1.2.2.2.1,x1.2.2.2.2.1,x1.2.2.2.2.2.1,x1.2.2.2.2.2.2,(),(),(),(),()))else(let x16:=(decide (x0.2.2.2.1<(-25567)));let x18:=(if x16=false then some ()else none);Option.bind (if x16=false then(x18.map (fun z=>x0.2.2.2.1)).map some else some none) fun x19=>Option.bind (if x16=false then((x19.bind (fun z=>some (z,(84005:Int)))).map (fun u=>(decide (u.1>u.2)))).map some else some none) fun x20=>Option.bind (if x16 then some true else x20.map (fun z=>z)) fun x21=>some (x21,x0.1,x0.2.1,x0.2.2.1,x0.2.2.2.1,x0.2.2.2.2.1,x0.2.2.2.2.2.1,x0.2.2.2.2.2.2.1,x0.2.2.2.2.2.2.2,x1.1,x1.2.1,x1.2.2.1,x1.2.2.2.1,x1.2.2.2.2.1,x1.2.2.2.2.2.1,x1.2.2.2.2.2.2,(),(),(),(),())))) fun o=>let oq6:=o.2.2.2.2.2.2;let oq12:=oq6.2.2.2.2.2.2;let x5:=o.1;let c2_0:=o.2.1;let c2_1:=o.2.2.1;let c2_2:=o.2.2.2.1;let c2_3:=o.2.2.2.2.1;let c2_4:=o.2.2.2.2.2.1;let c2_5:=oq6.1;let c2_6:=oq6.2.1;let c2_7:=oq6.2.2.1;let c3_0:=oq6.2.2.2.1;let c3_1:=oq6.2.2.2.2.1;let c3_2:=oq6.2.2.2.2.2.1;let c3_3:=oq12.1;let c3_4:=oq12.2.1;let c3_5:=oq12.2.2.1;let c3_6:=oq12.2.2.2.1;if x5 then(some (15:Int))else(let x25:=(c2_4 !=0);let x27:=(if x25=true then some ()else none);Option.bind (if x25=true then(x27.map (fun z=>c3_2)).map some else some none) fun x28=>Option.bind (if x25=true then(x28.map (fun z=>(!z))).map some else some none) fun x29=>Option.bind (if x25=true then x29.map some else some none) fun x30=>let x31:=(if x30=some false then some ()else none);Option.bind (if x30=some false then(x31.map (fun z=>c2_4)).map some else some none) fun x32=>let x33:=(if x30=some false then some ()else none);Option.bind (if x30=some false then(x33.map (fun z=>c2_3)).map some else some none) fun x34=>Option.bind (if x30=some false then((x32.bind (fun z=>x34.map (fun u=>(z,u)))).map (fun v=>(decide (v.1≤v.2)))).map some else some none) fun x35=>Option.bind (if x25=true then(x30.bind (fun z=>if z then some true else x35.map (fun u=>u))).map some else some none) fun x36=>(if x25 then x36 else some false).bind fun x37=>if x37 then(some (24:Int))else(let x41:=(decide (c2_4>84006));if x41 then(some (15:Int))else(some (0:Int))))
noncomputable def fact_Fact_Check(a:(Int×Int×Int×Int×Int×List UInt8×Int×List UInt8)):Option Int:=let x0:=a;(fact_known x0.2.2.1).bind fun x7=>let x8:=(!x7);if x8 then(some (11:Int))else((fact_rules ()).bind fun x9=>let x9q6:=x9.2.2.2.2.2.2;let x9q12:=x9q6.2.2.2.2.2.2;let x9q18:=x9q12.2.2.2.2.2.2;let x9q24:=x9q18.2.2.2.2.2.2;let x9q30:=x9q24.2.2.2.2.2.2;let x9q36:=x9q30.2.2.2.2.2.2;let x9q42:=x9q36.2.2.2.2.2.2;let x9q48:=x9q42.2.2.2.2.2.2;let x9q54:=x9q48.2.2.2.2.2.2;let x9q60:=x9q54.2.2.2.2.2.2;let x9q66:=x9q60.2.2.2.2.2.2;let x9q72:=x9q66.2.2.2.2.2.2;let x9q78:=x9q72.2.2.2.2.2.2;let x9q84:=x9q78.2.2.2.2.2.2;let x9q90:=x9q84.2.2.2.2.2.2;let x9q96:=x9q90.2.2.2.2.2.2;let x9q102:=x9q96.2.2.2.2.2.2;let x9q108:=x9q102.2.2.2.2.2.2;let x9q114:=x9q108.2.2.2.2.2.2;let x9q120:=x9q114.2.2.2.2.2.2;let x9q126:=x9q120.2.2.2.2.2.2;let x9q132:=x9q126.2.2.2.2.2.2;Option.bind (lAt ([(x9.1,x9.2.1,x9.2.2.1,x9.2.2.2.1,x9.2.2.2.2.1,x9.2.2.2.2.2.1,x9q6.1),(x9q6.2.1,x9q6.2.2.1,x9q6.2.2.2.1,x9q6.2.2.2.2.1,x9q6.2.2.2.2.2.1,x9q12.1,x9q12.2.1),(x9q12.2.2.1,x9q12.2.2.2.1,x9q12.2.2.2.2.1,x9q12.2.2.2.2.2.1,x9q18.1,x9q18.2.1,x9q18.2.2.1),(x9q18.2.2.2.1,x9q18.2.2.2.2.1,x9q18.2.2.2.2.2.1,x9q24.1,x9q24.2.1,x9q24.2.2.1,x9q24.2.2.2.1),(x9q24.2.2.2.2.1,x9q24.2.2.2.2.2.1,x9q30.1,x9q30.2.1,x9q30.2.2.1,x9q30.2.2.2.1,x9q30.2.2.2.2.1),(x9q30.2.2.2.2.2.1,x9q36.1,x9q36.2.1,x9q36.2.2.1,x9q36.2.2.2.1,x9q36.2.2.2.2.1,x9q36.2.2.2.2.2.1),(x9q42.1,x9q42.2.1,x9q42.2.2.1,x9q42.2.2.2.1,x9q42.2.2.2.2.1,x9q42.2.2.2.2.2.1,x9q48.1),(x9q48.2.1,x9q48.2.2.1,x9q48.2.2.2.1,x9q48.2.2.2.2.1,x9q48.2.2.2.2.2.1,x9q54.1,x9q54.2.1),(x9q54.2.2.1,x9q54.2.2.2.1,x9q54.2.2.2.2.1,x9q54.2.2.2.2.2.1,x9q60.1,x9q60.2.1,x9q60.2.2.1),(x9q60.2.2.2.1,x9q60.2.2.2.2.1,x9q60.2.2.2.2.2.1,x9q66.1,x9q66.2.1,x9q66.2.2.1,x9q66.2.2.2.1),(x9q66.2.2.2.2.1,x9q66.2.2.2.2.2.1,x9q72.1,x9q72.2.1,x9q72.2.2.1,x9q72.2.2.2.1,x9q72.2.2.2.2.1),(x9q72.2.2.2.2.2.1,x9q78.1,x9q78.2.1,x9q78.2.2.1,x9q78.2.2.2.1,x9q78.2.2.2.2.1,x9q78.2.2.2.2.2.1),(x9q84.1,x9q84.2.1,x9q84.2.2.1,x9q84.2.2.2.1,x9q84.2.2.2.2.1,x9q84.2.2.2.2.2.1,x9q90.1),(x9q90.2.1,x9q90.2.2.1,x9q90.2.2.2.1,x9q90.2.2.2.2.1,x9q90.2.2.2.2.2.1,x9q96.1,x9q96.2.1),(x9q96.2.2.1,x9q96.2.2.2.1,x9q96.2.2.2.2.1,x9q96.2.2.2.2.2.1,x9q102.1,x9q102.2.1,x9q102.2.2.1),(x9q102.2.2.2.1,x9q102.2.2.2.2.1,x9q102.2.2.2.2.2.1,x9q108.1,x9q108.2.1,x9q108.2.2.1,x9q108.2.2.2.1),(x9q108.2.2.2.2.1,x9q108.2.2.2.2.2.1,x9q114.1,x9q114.2.1,x9q114.2.2.1,x9q114.2.2.2.1,x9q114.2.2.2.2.1),(x9q114.2.2.2.2.2.1,x9q120.1,x9q120.2.1,x9q120.2.2.1,x9q120.2.2.2.1,x9q120.2.2.2.2.1,x9q120.2.2.2.2.2.1),(x9q126.1,x9q126.2.1,x9q126.2.2.1,x9q126.2.2.2.1,x9q126.2.2.2.2.1,x9q126.2.2.2.2.2.1,x9q132)]:List (List UInt8×Bool×Bool×((Unit⊕((Unit⊕((Unit⊕((Unit⊕Unit))))))))×Int×Int×((Unit⊕((Unit⊕((Unit⊕((Unit⊕((Unit⊕((Unit⊕((Unit⊕((Unit⊕Unit)))))))))))))))))) x0.2.2.1) fun x12=>let x17:=(x0.2.1==0);let x18:=(!(x12.2.1==x17));if x18 then(some (2:Int))else(Option.bind (fact_Fact_days ((x0.1,x0.2.1,x0.2.2.1,x0.2.2.2.1,x0.2.2.2.2.1,x0.2.2.2.2.2.1,x0.2.2.2.2.2.2.1,x0.2.2.2.2.2.2.2),(x12.1,x12.2.1,x12.2.2.1,x12.2.2.2.1,x12.2.2.2.2.1,x12.2.2.2.2.2.1,x12.2.2.2.2.2.2))) fun x21=>let x23:=(x21 !=0);if x23 then(some x21)else(Option.bind (match x12.2.2.2.1 with|Sum.inl c110=>(fact_empty x0.2.2.2.2.2.1).map (fun v109=>v109)|Sum.inr c111=>(match c111 with|Sum.inl c113=>(fact_rules_1 x0.2.2.2.2.2.1).map (fun v112=>v112)|Sum.inr c114=>(match c114 with|Sum.inl c116=>(fact_absence x0.2.2.2.2.2.1).map (fun v115=>v115)|Sum.inr c117=>(match c117 with|Sum.inl c119=>(fact_isName x0.2.2.2.2.2.1).map (fun v118=>v118)|Sum.inr c120=>(none))))) fun x30=>let x31:=(!x30);if x31 then(some (12:Int))else(let x37:=(decide (x0.2.2.2.2.2.2.1<x12.2.2.2.2.1));let x39:=(if x37=false then some ()else none);Option.bind (if x37=false then(x39.map (fun z=>x0.2.2.2.2.2.2.1)).map some else some none) fun x40=>let x41:=(if x37=false then some ()else none);Option.bind (if x37=false then(x41.map (fun z=>x12.2.2.2.2.2.1)).map some else some none) fun x42=>Option.bind (if x37=false then((x40.bind (fun z=>x42.map (fun u=>(z,u)))).map (fun v=>(decide (v.1>v.2)))).map some else some none) fun x43=>Option.bind (if x37 then some true else x43.map (fun z=>z)) fun x44=>if x44 then(some (2:Int))else(let x48:=(x0.2.2.2.2.2.2.2.length:Int);let x49:=(decide (x48>4096));if x49 then(some (4:Int))else(Option.bind (match x12.2.2.2.2.2.2 with|Sum.inl c188=>(fact_silent (x0.1,x0.2.1,x0.2.2.1,x0.2.2.2.1,x0.2.2.2.2.1,x0.2.2.2.2.2.1,x0.2.2.2.2.2.2.1,x0.2.2.2.2.2.2.2)).map (fun v187=>v187)|Sum.inr c189=>(match c189 with|Sum.inl c191=>(fact_weekly (x0.1,x0.2.1,x0.2.2.1,x0.2.2.2.1,x0.2.2.2.2.1,x0.2.2.2.2.2.1,x0.2.2.2.2.2.2.1,x0.2.2.2.2.2.2.2)).map (fun v190=>v190)|Sum.inr c192=>(match c192 with|Sum.inl c194=>(fact_rules_5 (x0.1,x0.2.1,x0.2.2.1,x0.2.2.2.1,x0.2.2.2.2.1,x0.2.2.2.2.2.1,x0.2.2.2.2.2.2.1,x0.2.2.2.2.2.2.2)).map (fun v193=>v193)|Sum.inr c195=>(match c195 with|Sum.inl c197=>(fact_night (x0.1,x0.2.1,x0.2.2.1,x0.2.2.2.1,x0.2.2.2.2.1,x0.2.2.2.2.2.1,x0.2.2.2.2.2.2.1,x0.2.2.2.2.2.2.2)).map (fun v196=>v196)|Sum.inr c198=>(match c198 with|Sum.inl c200=>(fact_rules_2 (x0.1,x0.2.1,x0.2.2.1,x0.2.2.2.1,x0.2.2.2.2.1,x0.2.2.2.2.2.1,x0.2.2.2.2.2.2.1,x0.2.2.2.2.2.2.2)).map (fun v199=>v199)|Sum.inr c201=>(match c201 with|Sum.inl c203=>(fact_rules_6 (x0.1,x0.2.1,x0.2.2.1,x0.2.2.2.1,x0.2.2.2.2.1,x0.2.2.2.2.2.1,x0.2.2.2.2.2.2.1,x0.2.2.2.2.2.2.2)).map (fun v202=>v202)|Sum.inr c204=>(match c204 with|Sum.inl c206=>(fact_rules_3 (x0.1,x0.2.1,x0.2.2.1,x0.2.2.2.1,x0.2.2.2.2.1,x0.2.2.2.2.2.1,x0.2.2.2.2.2.2.1,x0.2.2.2.2.2.2.2)).map (fun v205=>v205)|Sum.inr c207=>(match c207 with|Sum.inl c209=>(fact_rules_4 (x0.1,x0.2.1,x0.2.2.1,x0.2.2.2.1,x0.2.2.2.2.1,x0.2.2.2.2.2.1,x0.2.2.2.2.2.2.1,x0.2.2.2.2.2.2.2)).map (fun v208=>v208)|Sum.inr c210=>(none))))))))) fun x54=>let x55:=(!x54);if x55 then(some (3:Int))else(some (0:Int))))))))
noncomputable def post_name(a:List UInt8):Option Bool:=let x0:=a;Option.bind (fact_Fact_Check (0,1,13,0,0,([]:List UInt8),0,x0)) fun x5=>let x6:=(x5==0);some x6
noncomputable def JL(s:(List (List UInt8×Int))×Int×Int×(List (List UInt8×Bool))×Unit×Unit):Option (((List (List UInt8×Int))×Int×Int×(List (List UInt8×Bool))×Unit×Unit)⊕(Unit⊕Int)):=let x10:=s.1;let x11:=s.2.1;let x12:=s.2.2.1;let l9:=s.2.2.2.1;let x13:=(decide (x12<x11));if x13 then(Option.bind ((lAt x10 x12).map (fun y=>y)) fun x14=>(post_name x14.1).bind fun x19=>let x20:=(!x19);if x20 then(some (Sum.inr (Sum.inr (12:Int))))else(Option.bind (show Option (((List (List UInt8×Int))×Int×Int×Bool×List UInt8×Int×(List (List UInt8×Bool))×Unit×Unit×Unit×Unit))from(let x24:=(decide (x14.2<1));if x24 then(some (x10,x11,x12,x24,x14.1,x14.2,l9,(),(),(),()))else(let x27:=(decide (x14.2>1000000));some (x10,x11,x12,x27,x14.1,x14.2,l9,(),(),(),())))) fun o=>let x10:=o.1;let x11:=o.2.1;let x12:=o.2.2.1;let x21:=o.2.2.2.1;let c5_0:=o.2.2.2.2.1;let c5_1:=o.2.2.2.2.2.1;let l9:=o.2.2.2.2.2.2.1;if x21 then(some (Sum.inr (Sum.inr (2:Int))))else(let x32:=(BL (eqZ .str) (Bj .bool) c5_0 l9).1;if x32 then(some (Sum.inr (Sum.inr (7:Int))))else(let l9:=Bu (eqZ .str) c5_0 true l9;let x36:=i64.wrap (x12+1);some (Sum.inl (x10,x11,x36,l9,(),()))))))else(some (Sum.inr (Sum.inl (()))))
noncomputable def post_check(a:(List (List UInt8×Int))):Option Int:=let x0:=a;let x7:=(x0.length:Int);let x8:=(decide (x7>64));if x8 then(some (5:Int))else(let x11:=(x0.length:Int);Option.bind (iter JL (x0,x11,(0:Int),([]:List (List UInt8×Bool)),(),())) fun o=>match o with|Sum.inl p1=>(some (0:Int))|Sum.inr q2=>(some q2))
noncomputable def share_fits(a:Int):Option Bool:=let x0:=a;let x4:=(decide (x0≥(-1125899906842624)));let x6:=(if x4=true then some x0 else none);Option.bind (if x4=true then((x6.bind (fun z=>some (z,(1125899906842624:Int)))).map (fun u=>(decide (u.1≤u.2)))).map some else some none) fun x7=>(if x4 then x7 else some false).bind fun x8=>some x8
noncomputable def Ka(s:Int×List Int×Int×Int×Unit):Option ((Int×List Int×Int×Int×Unit)⊕((Int×Unit)⊕(Int×Int))):=let x4:=s.1;let x15:=s.2.1;let x16:=s.2.2.1;let x17:=s.2.2.2.1;let x18:=(decide (x17<x16));if x18 then(Option.bind ((lAt x15 x17).map (fun y=>y)) fun x19=>let x22:=(decide (x19<0));let x24:=(if x22=false then some x19 else none);Option.bind (if x22=false then((x24.bind (fun z=>some (z,(1125899906842624:Int)))).map (fun u=>(decide (u.1>u.2)))).map some else some none) fun x25=>Option.bind (if x22 then some true else x25.map (fun z=>z)) fun x26=>if x26 then(some (Sum.inr (Sum.inr ((0:Int),(2:Int)))))else(let x29:=u64.wrap x19;let x30:=u64.wrap (x4+x29);let x31:=i64.wrap (x17+1);some (Sum.inl (x30,x15,x16,x31,()))))else(some (Sum.inr (Sum.inl (x4,()))))
noncomputable def share_sum(a:List Int):Option (Int×Int):=let x0:=a;let x9:=(x0.length:Int);let x10:=(x9==0);if x10 then(some ((0:Int),(10:Int)))else(let x13:=(x0.length:Int);let x14:=(decide (x13>64));if x14 then(some ((0:Int),(5:Int)))else(let x16:=(x0.length:Int);Option.bind (iter Ka (0,x0,x16,0,())) fun o=>match o with|Sum.inl p77=>(let x4:=p77.1;let x33:=(x4==0);if x33 then(some ((0:Int),(22:Int)))else(some (x4,(0:Int))))|Sum.inr q78=>(some q78)))
noncomputable def math_bits_Mul64(a:Int×Int):Option (Int×Int):=let x0:=a.1;let x1:=a.2;let x15:=Dg .and .u64 x0 (4294967295:Int);Option.bind (if(32:Int)<0 then none else some (x0.fdiv (2^(min (32:Int).toNat 64)))) fun x17=>let x19:=Dg .and .u64 x1 (4294967295:Int);Option.bind (if(32:Int)<0 then none else some (x1.fdiv (2^(min (32:Int).toNat 64)))) fun x21=>let x24:=u64.wrap (x15*x19);let x27:=u64.wrap (x17*x19);Option.bind (if(32:Int)<0 then none else some (x24.fdiv (2^(min (32:Int).toNat 64)))) fun x29=>let x30:=u64.wrap (x27+x29);let x32:=Dg .and .u64 x30 (4294967295:Int);Option.bind (if(32:Int)<0 then none else some (x30.fdiv (2^(min (32:Int).toNat 64)))) fun x34=>let x38:=u64.wrap (x15*x21);let x39:=u64.wrap (x32+x38);let x42:=u64.wrap (x17*x21);let x44:=u64.wrap (x42+x34);Option.bind (if(32:Int)<0 then none else some (x39.fdiv (2^(min (32:Int).toNat 64)))) fun x46=>let x47:=u64.wrap (x44+x46);let x50:=u64.wrap (x0*x1);some (x47,x50)
noncomputable def math_bits_Len64(a:Int):Option Int:=let x0:=a;Option.bind (show Option ((Int×Int×Unit))from(let x4:=(decide (x0≥4294967296));if x4 then(Option.bind (if(32:Int)<0 then none else some (x0.fdiv (2^(min (32:Int).toNat 64)))) fun x6=>some (x6,(32:Int),()))else(some (x0,(0:Int),())))) fun o=>let x0:=o.1;let x2:=o.2.1;Option.bind (show Option ((Int×Int×Unit))from(let x8:=(decide (x0≥65536));if x8 then(Option.bind (if(16:Int)<0 then none else some (x0.fdiv (2^(min (16:Int).toNat 64)))) fun x10=>let x12:=i64.wrap (x2+16);some (x10,x12,()))else(some (x0,x2,())))) fun o=>let x0:=o.1;let x2:=o.2.1;Option.bind (show Option ((Int×Int×Unit))from(let x14:=(decide (x0≥256));if x14 then(Option.bind (if(8:Int)<0 then none else some (x0.fdiv (2^(min (8:Int).toNat 64)))) fun x16=>let x18:=i64.wrap (x2+8);some (x16,x18,()))else(some (x0,x2,())))) fun o=>let x0:=o.1;let x2:=o.2.1;let x21:=u8.wrap x0;Option.bind (sAt ([0,1,2,2,3,3,3,3,4,4,4,4,4,4,4,4,5,5,5,5,5,5,5,5,5,5,5,5,5,5,5,5,6,6,6,6,6,6,6,6,6,6,6,6,6,6,6,6,6,6,6,6,6,6,6,6,6,6,6,6,6,6,6,6,7,7,7,7,7,7,7,7,7,7,7,7,7,7,7,7,7,7,7,7,7,7,7,7,7,7,7,7,7,7,7,7,7,7,7,7,7,7,7,7,7,7,7,7,7,7,7,7,7,7,7,7,7,7,7,7,7,7,7,7,7,7,7,7,8,8,8,8,8,8,8,8,8,8,8,8,8,8,8,8,8,8,8,8,8,8,8,8,8,8,8,8,8,8,8,8,8,8,8,8,8,8,8,8,8,8,8,8,8,8,8,8,8,8,8,8,8,8,8,8,8,8,8,8,8,8,8,8,8,8,8,8,8,8,8,8,8,8,8,8,8,8,8,8,8,8,8,8,8,8,8,8,8,8,8,8,8,8,8,8,8,8,8,8,8,8,8,8,8,8,8,8,8,8,8,8,8,8,8,8,8,8,8,8,8,8,8,8,8,8,8,8]:List UInt8) x21) fun x22=>let x23:=i64.wrap x22;let x24:=i64.wrap (x2+x23);some x24
noncomputable def math_bits_LeadingZeros64(a:Int):Option Int:=let x0:=a;(math_bits_Len64 x0).bind fun x4=>let x5:=i64.wrap ((64:Int)-x4);some x5
noncomputable def Jy(s:Int×Int×Int×Int×Int×Int×Int×Int×Int×Unit):Option ((Int×Int×Int×Int×Int×Int×Int×Int×Int×Unit)⊕((Int×Int×Int×Int×Int×Int×Int×Int×Unit))):=let x2:=s.1;let x8:=s.2.1;let x9:=s.2.2.1;let x10:=s.2.2.2.1;let x11:=s.2.2.2.2.1;let x13:=s.2.2.2.2.2.1;let x14:=s.2.2.2.2.2.2.1;let x15:=s.2.2.2.2.2.2.2.1;let x16:=s.2.2.2.2.2.2.2.2.1;let x68:=(decide (x15≥4294967296));let x70:=(if x68=false then some x15 else none);let x71:=(if x68=false then some x10 else none);Option.bind (if x68=false then((x70.bind (fun z=>x71.map (fun u=>(z,u)))).map (fun v=>u64.wrap (v.1*v.2))).map some else some none) fun x72=>let x73:=(if x68=false then some x16 else none);Option.bind (if x68=false then((x73.map (fun z=>((4294967296:Int),z))).map (fun u=>u64.wrap (u.1*u.2))).map some else some none) fun x74=>let x75:=(if x68=false then some x13 else none);Option.bind (if x68=false then((x74.bind (fun z=>x75.map (fun u=>(z,u)))).map (fun v=>u64.wrap (v.1+v.2))).map some else some none) fun x76=>Option.bind (if x68=false then((x72.bind (fun z=>x76.map (fun u=>(z,u)))).map (fun v=>(decide (v.1>v.2)))).map some else some none) fun x77=>Option.bind (if x68 then some true else x77.map (fun z=>z)) fun x78=>if x78 then(let x80:=u64.wrap (x15-1);let x83:=u64.wrap (x16+x9);let x85:=(decide (x83≥4294967296));if x85 then(some (Sum.inr (x2,x8,x9,x10,x11,x13,x14,x80,())))else(some (Sum.inl (x2,x8,x9,x10,x11,x13,x14,x80,x83,()))))else(some (Sum.inr (x2,x8,x9,x10,x11,x13,x14,x15,())))
noncomputable def Jz(s:Int×Int×Int×Int×Int×Int×Int×Int×Int×Unit):Option ((Int×Int×Int×Int×Int×Int×Int×Int×Int×Unit)⊕((Int×Int×Int×Int×Int×Int×Unit))):=let x2:=s.1;let x8:=s.2.1;let x9:=s.2.2.1;let x10:=s.2.2.2.1;let x14:=s.2.2.2.2.1;let x15:=s.2.2.2.2.2.1;let x16:=s.2.2.2.2.2.2.1;let x17:=s.2.2.2.2.2.2.2.1;let x18:=s.2.2.2.2.2.2.2.2.1;let x103:=(decide (x18≥4294967296));let x105:=(if x103=false then some x18 else none);let x106:=(if x103=false then some x10 else none);Option.bind (if x103=false then((x105.bind (fun z=>x106.map (fun u=>(z,u)))).map (fun v=>u64.wrap (v.1*v.2))).map some else some none) fun x107=>let x108:=(if x103=false then some x16 else none);Option.bind (if x103=false then((x108.map (fun z=>((4294967296:Int),z))).map (fun u=>u64.wrap (u.1*u.2))).map some else some none) fun x109=>let x110:=(if x103=false then some x14 else none);Option.bind (if x103=false then((x109.bind (fun z=>x110.map (fun u=>(z,u)))).map (fun v=>u64.wrap (v.1+v.2))).map some else some none) fun x111=>Option.bind (if x103=false then((x107.bind (fun z=>x111.map (fun u=>(z,u)))).map (fun v=>(decide (v.1>v.2)))).map some else some none) fun x112=>Option.bind (if x103 then some true else x112.map (fun z=>z)) fun x113=>if x113 then(let x115:=u64.wrap (x18-1);let x118:=u64.wrap (x16+x9);let x120:=(decide (x118≥4294967296));if x120 then(some (Sum.inr (x2,x8,x14,x15,x17,x115,())))else(some (Sum.inl (x2,x8,x9,x10,x14,x15,x118,x17,x115,()))))else(some (Sum.inr (x2,x8,x14,x15,x17,x18,())))
noncomputable def math_bits_Div64(a:Int×Int×Int):Option (Int×Int):=let x0:=a.1;let x1:=a.2.1;let x2:=a.2.2;let x20:=(x2==0);if x20 then(none)else(let x24:=(decide (x2≤x0));if x24 then(none)else(let x27:=(x0==0);if x27 then(Option.bind (if x2=0 then none else some (u64.wrap (x1.tdiv x2))) fun x30=>Option.bind (if x2=0 then none else some (x1.tmod x2)) fun x33=>some (x30,x33))else((math_bits_LeadingZeros64 x2).bind fun x35=>let x36:=u64.wrap x35;Option.bind (if x36<0 then none else some (u64.wrap (x2*2^(min x36.toNat 64)))) fun x39=>Option.bind (if(32:Int)<0 then none else some (x39.fdiv (2^(min (32:Int).toNat 64)))) fun x41=>let x43:=Dg .and .u64 x39 (4294967295:Int);Option.bind (if x36<0 then none else some (u64.wrap (x0*2^(min x36.toNat 64)))) fun x46=>let x49:=u64.wrap ((64:Int)-x36);Option.bind (if x49<0 then none else some (x1.fdiv (2^(min x49.toNat 64)))) fun x50=>let x51:=Dg .or .u64 x46 x50;Option.bind (if x36<0 then none else some (u64.wrap (x1*2^(min x36.toNat 64)))) fun x54=>Option.bind (if(32:Int)<0 then none else some (x54.fdiv (2^(min (32:Int).toNat 64)))) fun x56=>let x58:=Dg .and .u64 x54 (4294967295:Int);Option.bind (if x41=0 then none else some (u64.wrap (x51.tdiv x41))) fun x61=>let x65:=u64.wrap (x61*x41);let x66:=u64.wrap (x51-x65);Option.bind (show Option ((Int×Int×Int×Int×Int×Int×Int×Int×Unit))from(Option.bind (iter Jy (x39,x36,x41,x43,x51,x56,x58,x61,x66,())) fun o=>let x2:=o.1;let x8:=o.2.1;let x9:=o.2.2.1;let x10:=o.2.2.2.1;let x11:=o.2.2.2.2.1;let x13:=o.2.2.2.2.2.1;let x14:=o.2.2.2.2.2.2.1;let x15:=o.2.2.2.2.2.2.2.1;some (x2,x8,x9,x10,x11,x13,x14,x15,()))) fun o=>let x2:=o.1;let x8:=o.2.1;let x9:=o.2.2.1;let x10:=o.2.2.2.1;let x11:=o.2.2.2.2.1;let x13:=o.2.2.2.2.2.1;let x14:=o.2.2.2.2.2.2.1;let x15:=o.2.2.2.2.2.2.2.1;let x87:=u64.wrap (x11*4294967296);let x89:=u64.wrap (x87+x13);let x92:=u64.wrap (x15*x2);let x93:=u64.wrap (x89-x92);Option.bind (if x9=0 then none else some (u64.wrap (x93.tdiv x9))) fun x96=>let x100:=u64.wrap (x96*x9);let x101:=u64.wrap (x93-x100);Option.bind (show Option ((Int×Int×Int×Int×Int×Int×Unit))from(Option.bind (iter Jz (x2,x8,x9,x10,x14,x15,x101,x93,x96,())) fun o=>let x2:=o.1;let x8:=o.2.1;let x14:=o.2.2.1;let x15:=o.2.2.2.1;let x17:=o.2.2.2.2.1;let x18:=o.2.2.2.2.2.1;some (x2,x8,x14,x15,x17,x18,()))) fun o=>let x2:=o.1;let x8:=o.2.1;let x14:=o.2.2.1;let x15:=o.2.2.2.1;let x17:=o.2.2.2.2.1;let x18:=o.2.2.2.2.2.1;let x122:=u64.wrap (x15*4294967296);let x124:=u64.wrap (x122+x18);let x126:=u64.wrap (x17*4294967296);let x128:=u64.wrap (x126+x14);let x131:=u64.wrap (x18*x2);let x132:=u64.wrap (x128-x131);Option.bind (if x8<0 then none else some (x132.fdiv (2^(min x8.toNat 64)))) fun x134=>some (x124,x134))))
noncomputable def share_part(a:Int×Int×Int):Option (Int×Int):=let x0:=a.1;let x1:=a.2.1;let x2:=a.2.2;(math_bits_Mul64 (x0,x1)).bind fun x13=>(math_bits_Div64 (x13.1,x13.2,x2)).bind fun x19=>some (x19.1,x19.2)
noncomputable def Gs(s:Int×Int×Int×Int×List Int×List Int×Unit×Unit×Unit×Unit):Option ((Int×Int×Int×Int×List Int×List Int×Unit×Unit×Unit×Unit)⊕((Int×Int×List Int×List Int×Unit×Unit×Unit))):=let x9:=s.1;let x14:=s.2.1;let x57:=s.2.2.1;let x58:=s.2.2.2.1;let l19:=s.2.2.2.2.1;let l22:=s.2.2.2.2.2.1;let x59:=(decide (x58<x57));if x59 then(Option.bind (show Option ((Int×Int×Int×Int×List Int×List Int×Unit×Unit×Unit×Unit))from(Option.bind (if 0≤x58∧x58<(l22.length:Int)then some x58.toNat else none) fun x61=>Option.bind ((l22[x61]?).map (fun y=>y)) fun x62=>Option.bind (if 0≤x14∧x14<(l22.length:Int)then some x14.toNat else none) fun x66=>Option.bind ((l22[x66]?).map (fun y=>y)) fun x67=>let x68:=(decide (x62>x67));if x68 then(some (x9,x58,x57,x58,l19,l22,(),(),(),()))else(some (x9,x14,x57,x58,l19,l22,(),(),(),())))) fun o=>let x9:=o.1;let x14:=o.2.1;let x57:=o.2.2.1;let x58:=o.2.2.2.1;let l19:=o.2.2.2.2.1;let l22:=o.2.2.2.2.2.1;let x70:=i64.wrap (x58+1);some (Sum.inl (x9,x14,x57,x70,l19,l22,(),(),(),())))else(some (Sum.inr (x9,x14,l19,l22,(),(),())))
noncomputable def Hf(s:Int×List Int×List Int×Unit×Unit×Unit):Option ((Int×List Int×List Int×Unit×Unit×Unit)⊕((List Int×Unit×Unit))):=let x9:=s.1;let l19:=s.2.1;let l22:=s.2.2.1;let x53:=(decide (x9>0));if x53 then(let x57:=(l22.length:Int);Option.bind (iter Gs (x9,0,x57,0,l19,l22,(),(),(),())) fun o=>let x9:=o.1;let x14:=o.2.1;let l19:=o.2.2.1;let l22:=o.2.2.2.1;Option.bind (if 0≤x14∧x14<(l19.length:Int)then some x14.toNat else none) fun x73=>Option.bind ((l19[x73]?).map (fun y=>y)) fun x74=>let x75:=i64.wrap (x74+1);Option.bind (if 0≤x14∧x14<(l19.length:Int)then some x14.toNat else none) fun x76=>Option.bind ((l19[x76]?).map (fun el65=>l19.set x76 x75)) fun l19=>Option.bind (if 0≤x14∧x14<(l22.length:Int)then some x14.toNat else none) fun x79=>Option.bind ((l22[x79]?).map (fun el67=>l22.set x79 (0:Int))) fun l22=>let x55:=u64.wrap (x9-1);some (Sum.inl (x55,l19,l22,(),(),())))else(some (Sum.inr (l19,(),())))
noncomputable def Hg(s:Int×Int×Int×List Int×Int×Int×List Int×List Int×Unit×Unit×Unit):Option ((Int×Int×Int×List Int×Int×Int×List Int×List Int×Unit×Unit×Unit)⊕((Int×List Int×List Int×Unit×Unit×Unit))):=let x0:=s.1;let x1:=s.2.1;let x9:=s.2.2.1;let x24:=s.2.2.2.1;let x25:=s.2.2.2.2.1;let x26:=s.2.2.2.2.2.1;let l19:=s.2.2.2.2.2.2.1;let l22:=s.2.2.2.2.2.2.2.1;let x27:=(decide (x26<x25));if x27 then(Option.bind ((lAt x24 x26).map (fun y=>y)) fun x29=>let x34:=u64.wrap x29;(share_part (x0,x34,x1)).bind fun x36=>let x44:=i64.wrap x36.1;Option.bind (if 0≤x26∧x26<(l19.length:Int)then some x26.toNat else none) fun x46=>Option.bind ((l19[x46]?).map (fun el33=>l19.set x46 x44)) fun l19=>Option.bind (if 0≤x26∧x26<(l22.length:Int)then some x26.toNat else none) fun x47=>Option.bind ((l22[x47]?).map (fun el34=>l22.set x47 x36.2)) fun l22=>let x50:=u64.wrap (x9-x36.1);let x51:=i64.wrap (x26+1);some (Sum.inl (x0,x1,x50,x24,x25,x51,l19,l22,(),(),())))else(some (Sum.inr (x9,l19,l22,(),(),())))
noncomputable def share_split(a:Int×Int×List Int):Option (List Int):=let x0:=a.1;let x1:=a.2.1;let x2:=a.2.2;let x18:=(x2.length:Int);Option.bind (if 0≤x18∧x18≤x18∧x18*8≤140737488355328∧x18≤4611686018427387904 then some (List.replicate x18.toNat (0:Int))else none) fun l19=>let x21:=(x2.length:Int);Option.bind (if 0≤x21∧x21≤x21∧x21*8≤140737488355328∧x21≤4611686018427387904 then some (List.replicate x21.toNat (0:Int))else none) fun l22=>let x25:=(x2.length:Int);Option.bind (iter Hg (x0,x1,x0,x2,x25,0,l19,l22,(),(),())) fun o=>let x9:=o.1;let l19:=o.2.1;let l22:=o.2.2.1;Option.bind (iter Hf (x9,l19,l22,(),(),())) fun o=>let l19:=o.1;some l19
noncomputable def JZ(s:Int×Int×List Int×Unit×Unit):Option ((Int×Int×List Int×Unit×Unit)⊕((List Int×Unit×Unit))):=let x35:=s.1;let x36:=s.2.1;let l33:=s.2.2.1;let x37:=(decide (x36<x35));if x37 then(Option.bind (if 0≤x36∧x36<(l33.length:Int)then some x36.toNat else none) fun x43=>Option.bind ((l33[x43]?).map (fun y=>y)) fun x44=>let x45:=i64.wrap (0-x44);Option.bind (if 0≤x36∧x36<(l33.length:Int)then some x36.toNat else none) fun x46=>Option.bind ((l33[x46]?).map (fun el16=>l33.set x46 x45)) fun l33=>let x47:=i64.wrap (x36+1);some (Sum.inl (x35,x47,l33,(),())))else(some (Sum.inr (l33,(),())))
noncomputable def share_Split(a:Int×List Int):Option (List Int×Int):=let x0:=a.1;let x1:=a.2;(share_fits x0).bind fun x11=>let x12:=(!x11);if x12 then(some (([]:List Int),(9:Int)))else((share_sum x1).bind fun x15=>let x19:=(x15.2 !=0);if x19 then(some (([]:List Int),x15.2))else(let x22:=(decide (x0≥0));if x22 then(let x24:=u64.wrap x0;(share_split (x24,x15.1,x1)).bind fun l27=>some (l27,(0:Int)))else(let x29:=i64.wrap (0-x0);let x30:=u64.wrap x29;(share_split (x30,x15.1,x1)).bind fun l33=>let x35:=(l33.length:Int);Option.bind (iter JZ (x35,0,l33,(),())) fun o=>let l33:=o.1;some (l33,(0:Int)))))
noncomputable def post_entry(a:List UInt8×List UInt8×Int×List UInt8):Option (List (List UInt8×List UInt8×Int×List UInt8)):=let x0:=a.1;let x1:=a.2.1;let x2:=a.2.2.1;let x3:=a.2.2.2;Option.bind (show Option ((List UInt8×List UInt8×Int×List UInt8×Unit)⊕(List (List UInt8×List UInt8×Int×List UInt8)))from(let x11:=(x2==0);if x11 then(some (Sum.inr ([]:List (List UInt8×List UInt8×Int×List UInt8))))else(let x14:=(decide (x2<0));if x14 then(let x18:=i64.wrap (0-x2);some (Sum.inl (x1,x0,x18,x3,())))else(some (Sum.inl (x0,x1,x2,x3,())))))) fun o=>match o with|Sum.inl p1=>(let x0:=p1.1;let x1:=p1.2.1;let x2:=p1.2.2.1;let x3:=p1.2.2.2.1;let l24:=([(x0,x1,x2,x3)]:List (List UInt8×List UInt8×Int×List UInt8));some l24)|Sum.inr q2=>(some q2)
noncomputable def post_split(a:(List (List UInt8×Int))×List UInt8×((Unit⊕Unit))):Option ((((List (List UInt8×Int)))×(List UInt8)×(((Unit⊕Unit))))):=let x0:=a.1;let x1:=a.2.1;let x2:=a.2.2;some (x0,x1,x2)
noncomputable def post_ways_1(a:(Int×List UInt8×Int)):Option (List UInt8):=let x0:=a;let x2:=([]:List UInt8);let x2:=([110,101,116]:List UInt8);some x2
noncomputable def post_owed(a:List UInt8):Option (((List UInt8))):=let x0:=a;some x0
noncomputable def post_ways_2(a:(Int×List UInt8×Int)):Option (List UInt8):=let x0:=a;let x2:=([]:List UInt8);Option.bind (if([111,119,101,100,47,115,111,99,105,97,108,47]:List UInt8).length+x0.2.1.length≤4611686018427387904 then some (([111,119,101,100,47,115,111,99,105,97,108,47]:List UInt8)++x0.2.1)else none) fun x5=>some x5
noncomputable def post_ways(a:(List (List UInt8×Int))):Option ((((((List (List UInt8×Int)))×(List UInt8)×(((Unit⊕Unit))))⊕((List UInt8))))×(((((List (List UInt8×Int)))×(List UInt8)×(((Unit⊕Unit))))⊕((List UInt8))))×(((((List (List UInt8×Int)))×(List UInt8)×(((Unit⊕Unit))))⊕((List UInt8))))×(((((List (List UInt8×Int)))×(List UInt8)×(((Unit⊕Unit))))⊕((List UInt8))))×(((((List (List UInt8×Int)))×(List UInt8)×(((Unit⊕Unit))))⊕((List UInt8))))×(((((List (List UInt8×Int)))×(List UInt8)×(((Unit⊕Unit))))⊕((List UInt8))))×(((((List (List UInt8×Int)))×(List UInt8)×(((Unit⊕Unit))))⊕((List UInt8))))):=let x0:=a;Option.bind (post_split (x0,([119,97,103,101,115]:List UInt8),(Sum.inl ():(Unit⊕Unit)))) fun x4=>(post_owed ([98,101,102,111,114,101]:List UInt8)).bind fun x5=>(post_owed ([119,111,114,107,101,114]:List UInt8)).bind fun x6=>(post_owed ([116,97,120]:List UInt8)).bind fun x7=>(post_owed ([97,102,116,101,114]:List UInt8)).bind fun x8=>(post_owed ([111,114,100,101,114,115]:List UInt8)).bind fun x9=>Option.bind (post_split (x0,([102,105,114,109]:List UInt8),(Sum.inr ():(Unit⊕Unit)))) fun x11=>some ((Sum.inl x4:((((List (List UInt8×Int)))×(List UInt8)×(((Unit⊕Unit))))⊕((List UInt8)))),(Sum.inr x5:((((List (List UInt8×Int)))×(List UInt8)×(((Unit⊕Unit))))⊕((List UInt8)))),(Sum.inr x6:((((List (List UInt8×Int)))×(List UInt8)×(((Unit⊕Unit))))⊕((List UInt8)))),(Sum.inr x7:((((List (List UInt8×Int)))×(List UInt8)×(((Unit⊕Unit))))⊕((List UInt8)))),(Sum.inr x8:((((List (List UInt8×Int)))×(List UInt8)×(((Unit⊕Unit))))⊕((List UInt8)))),(Sum.inr x9:((((List (List UInt8×Int)))×(List UInt8)×(((Unit⊕Unit))))⊕((List UInt8)))),(Sum.inl x11:((((List (List UInt8×Int)))×(List UInt8)×(((Unit⊕Unit))))⊕((List UInt8)))))
noncomputable def JM(s:((List (List UInt8×Int)))×(List UInt8)×(((Unit⊕Unit)))×List Int×Int×Int×Int×List UInt8×Int×(List (List UInt8×List UInt8×Int×List UInt8))×Unit×Unit×Unit×Unit):Option ((((List (List UInt8×Int)))×(List UInt8)×(((Unit⊕Unit)))×List Int×Int×Int×Int×List UInt8×Int×(List (List UInt8×List UInt8×Int×List UInt8))×Unit×Unit×Unit×Unit)⊕(((List (List UInt8×List UInt8×Int×List UInt8))×Unit×Unit))):=let x1:=s.1;let x2:=s.2.1;let x3:=s.2.2.1;let x33:=s.2.2.2.1;let x34:=s.2.2.2.2.1;let x35:=s.2.2.2.2.2.1;let c4_0:=s.2.2.2.2.2.2.1;let c4_1:=s.2.2.2.2.2.2.2.1;let c4_2:=s.2.2.2.2.2.2.2.2.1;let l1011:=s.2.2.2.2.2.2.2.2.2.1;let x36:=(decide (x35<x34));if x36 then(Option.bind ((lAt x33 x35).map (fun y=>y)) fun x38=>Option.bind (if x2.length+([47]:List UInt8).length≤4611686018427387904 then some (x2++([47]:List UInt8))else none) fun x42=>Option.bind ((lAt x1 x35).map (fun y=>y)) fun x45=>Option.bind (if x42.length+x45.1.length≤4611686018427387904 then some (x42++x45.1)else none) fun x48=>Option.bind (match x3 with|Sum.inl c62=>(post_ways_1 (c4_0,c4_1,c4_2)).map (fun v61=>v61)|Sum.inr c63=>((post_ways_2 (c4_0,c4_1,c4_2)).map (fun v64=>v64))) fun x51=>(post_entry (x48,x51,x38,c4_1)).bind fun x55=>Option.bind (if((l1011.length:Int)+(x55.length:Int))*56≤140737488355328∧(l1011.length:Int)+(x55.length:Int)≤4611686018427387904 then some (l1011++x55)else none) fun l1011=>let x57:=i64.wrap (x35+1);some (Sum.inl (x1,x2,x3,x33,x34,x57,c4_0,c4_1,c4_2,l1011,(),(),(),())))else(some (Sum.inr (l1011,(),())))
noncomputable def JN(s:((List (List UInt8×Int)))×(List UInt8)×(((Unit⊕Unit)))×(List (List UInt8×Int))×Int×Int×Int×List UInt8×Int×List Int×Unit×Unit×Unit×Unit):Option ((((List (List UInt8×Int)))×(List UInt8)×(((Unit⊕Unit)))×(List (List UInt8×Int))×Int×Int×Int×List UInt8×Int×List Int×Unit×Unit×Unit×Unit)⊕((((List (List UInt8×Int)))×(List UInt8)×(((Unit⊕Unit)))×Int×List UInt8×Int×List Int×Unit×Unit×Unit×Unit))):=let x1:=s.1;let x2:=s.2.1;let x3:=s.2.2.1;let x14:=s.2.2.2.1;let x15:=s.2.2.2.2.1;let x16:=s.2.2.2.2.2.1;let c4_0:=s.2.2.2.2.2.2.1;let c4_1:=s.2.2.2.2.2.2.2.1;let c4_2:=s.2.2.2.2.2.2.2.2.1;let l1006:=s.2.2.2.2.2.2.2.2.2.1;let x17:=(decide (x16<x15));if x17 then(Option.bind ((lAt x14 x16).map (fun y=>y)) fun x18=>let l23:=([x18.2]:List Int);Option.bind (if((l1006.length:Int)+(l23.length:Int))*8≤140737488355328∧(l1006.length:Int)+(l23.length:Int)≤4611686018427387904 then some (l1006++l23)else none) fun l1006=>let x25:=i64.wrap (x16+1);some (Sum.inl (x1,x2,x3,x14,x15,x25,c4_0,c4_1,c4_2,l1006,(),(),(),())))else(some (Sum.inr (x1,x2,x3,c4_0,c4_1,c4_2,l1006,(),(),(),())))
noncomputable def post_split_1(a:(Int×List UInt8×Int)×((List (List UInt8×Int)))×(List UInt8)×(((Unit⊕Unit)))):Option (List (List UInt8×List UInt8×Int×List UInt8)):=let x0:=a.1;let x1:=a.2.1;let x2:=a.2.2.1;let x3:=a.2.2.2;let x15:=(x1.length:Int);Option.bind (iter JN (x1,x2,x3,x1,x15,0,x0.1,x0.2.1,x0.2.2,([]:List Int),(),(),(),())) fun o=>let x1:=o.1;let x2:=o.2.1;let x3:=o.2.2.1;let c4_0:=o.2.2.2.1;let c4_1:=o.2.2.2.2.1;let c4_2:=o.2.2.2.2.2.1;let l1006:=o.2.2.2.2.2.2.1;(share_Split (c4_2,l1006)).bind fun x30=>let x34:=(x30.1.length:Int);Option.bind (iter JM (x1,x2,x3,x30.1,x34,(0:Int),c4_0,c4_1,c4_2,([]:List (List UInt8×List UInt8×Int×List UInt8)),(),(),(),())) fun o=>let l1011:=o.1;some l1011
noncomputable def post_owed_1(a:(Int×List UInt8×Int)×(List UInt8)):Option (List (List UInt8×List UInt8×Int×List UInt8)):=let x0:=a.1;let x1:=a.2;Option.bind (if([111,119,101,100,47]:List UInt8).length+x1.length≤4611686018427387904 then some (([111,119,101,100,47]:List UInt8)++x1)else none) fun x5=>Option.bind (if x5.length+([47]:List UInt8).length≤4611686018427387904 then some (x5++([47]:List UInt8))else none) fun x6=>Option.bind (if x6.length+x0.2.1.length≤4611686018427387904 then some (x6++x0.2.1)else none) fun x9=>Option.bind (post_entry (([110,101,116]:List UInt8),x9,x0.2.2,x0.2.1)) fun x14=>some x14
noncomputable def Ij(s:(List (Int×List UInt8×Int))×Int×Int×(((((List (List UInt8×Int)))×(List UInt8)×(((Unit⊕Unit))))⊕((List UInt8))))×(((((List (List UInt8×Int)))×(List UInt8)×(((Unit⊕Unit))))⊕((List UInt8))))×(((((List (List UInt8×Int)))×(List UInt8)×(((Unit⊕Unit))))⊕((List UInt8))))×(((((List (List UInt8×Int)))×(List UInt8)×(((Unit⊕Unit))))⊕((List UInt8))))×(((((List (List UInt8×Int)))×(List UInt8)×(((Unit⊕Unit))))⊕((List UInt8))))×(((((List (List UInt8×Int)))×(List UInt8)×(((Unit⊕Unit))))⊕((List UInt8))))×(((((List (List UInt8×Int)))×(List UInt8)×(((Unit⊕Unit))))⊕((List UInt8))))×(List (List UInt8×List UInt8×Int×List UInt8))×Unit×Unit×Unit×Unit):Option (((List (Int×List UInt8×Int))×Int×Int×(((((List (List UInt8×Int)))×(List UInt8)×(((Unit⊕Unit))))⊕((List UInt8))))×(((((List (List UInt8×Int)))×(List UInt8)×(((Unit⊕Unit))))⊕((List UInt8))))×(((((List (List UInt8×Int)))×(List UInt8)×(((Unit⊕Unit))))⊕((List UInt8))))×(((((List (List UInt8×Int)))×(List UInt8)×(((Unit⊕Unit))))⊕((List UInt8))))×(((((List (List UInt8×Int)))×(List UInt8)×(((Unit⊕Unit))))⊕((List UInt8))))×(((((List (List UInt8×Int)))×(List UInt8)×(((Unit⊕Unit))))⊕((List UInt8))))×(((((List (List UInt8×Int)))×(List UInt8)×(((Unit⊕Unit))))⊕((List UInt8))))×(List (List UInt8×List UInt8×Int×List UInt8))×Unit×Unit×Unit×Unit)⊕(((List (List UInt8×List UInt8×Int×List UInt8))×Unit×Unit))):=let x30:=s.1;let x31:=s.2.1;let x32:=s.2.2.1;let c8_0:=s.2.2.2.1;let c8_1:=s.2.2.2.2.1;let c8_2:=s.2.2.2.2.2.1;let c8_3:=s.2.2.2.2.2.2.1;let c8_4:=s.2.2.2.2.2.2.2.1;let c8_5:=s.2.2.2.2.2.2.2.2.1;let c8_6:=s.2.2.2.2.2.2.2.2.2.1;let l1009:=s.2.2.2.2.2.2.2.2.2.2.1;let x33:=(decide (x32<x31));if x33 then(Option.bind ((lAt x30 x32).map (fun y=>y)) fun x34=>Option.bind (if 0≤x34.1∧x34.1<7 then some x34.1.toNat else none) fun x39=>Option.bind (([c8_0,c8_1,c8_2,c8_3,c8_4,c8_5,c8_6]:List (((((List (List UInt8×Int)))×(List UInt8)×(((Unit⊕Unit))))⊕((List UInt8)))))[x39]?) fun x41=>Option.bind (match x41 with|Sum.inl c62=>(post_split_1 ((x34.1,x34.2.1,x34.2.2),c62.1,c62.2.1,c62.2.2)).map (fun v61=>v61)|Sum.inr c63=>((post_owed_1 ((x34.1,x34.2.1,x34.2.2),c63)).map (fun v64=>v64))) fun x43=>Option.bind (if((l1009.length:Int)+(x43.length:Int))*56≤140737488355328∧(l1009.length:Int)+(x43.length:Int)≤4611686018427387904 then some (l1009++x43)else none) fun l1009=>let x45:=i64.wrap (x32+1);some (Sum.inl (x30,x31,x45,c8_0,c8_1,c8_2,c8_3,c8_4,c8_5,c8_6,l1009,(),(),(),())))else(some (Sum.inr (l1009,(),())))
noncomputable def post_Of(a:(Int×Int×(List (Int×List UInt8×Int)))×(List (List UInt8×Int))):Option ((List (List UInt8×List UInt8×Int×List UInt8))×Int):=let x0:=a.1;let x1:=a.2;(slip_Check (x0.1,x0.2.1,x0.2.2)).bind fun x13=>let x15:=(x13 !=0);if x15 then(some (([]:List (List UInt8×List UInt8×Int×List UInt8)),x13))else((post_check x1).bind fun x18=>let x20:=(x18 !=0);if x20 then(some (([]:List (List UInt8×List UInt8×Int×List UInt8)),x18))else(Option.bind (show Option (((List (List UInt8×Int))×Int×Int×(List (Int×List UInt8×Int))×Unit×Unit×Unit))from(let x23:=(x1.length:Int);let x24:=(x23==0);if x24 then(let l26:=([(([102,105,114,109]:List UInt8),(1:Int))]:List (List UInt8×Int));some (l26,x0.1,x0.2.1,x0.2.2,(),(),()))else(some (x1,x0.1,x0.2.1,x0.2.2,(),(),())))) fun o=>let x1:=o.1;let c2_0:=o.2.1;let c2_1:=o.2.2.1;let c2_2:=o.2.2.2.1;(post_ways x1).bind fun x28=>let x31:=(c2_2.length:Int);Option.bind (iter Ij (c2_2,x31,(0:Int),x28.1,x28.2.1,x28.2.2.1,x28.2.2.2.1,x28.2.2.2.2.1,x28.2.2.2.2.2.1,x28.2.2.2.2.2.2,([]:List (List UInt8×List UInt8×Int×List UInt8)),(),(),(),())) fun o=>let l1009:=o.1;some (l1009,(0:Int))))
noncomputable def law34_awake(a:Unit):Option Bool:=let l7:=([((0:Int),([115,97,108,97,114,121]:List UInt8),(100:Int))]:List (Int×List UInt8×Int));let l11:=([(([97]:List UInt8),(1:Int)),(([98]:List UInt8),(2:Int))]:List (List UInt8×Int));Option.bind (post_Of (((2024:Int),(1:Int),l7),l11)) fun x12=>let l17:=([((0:Int),([115,97,108,97,114,121]:List UInt8),(-100:Int))]:List (Int×List UInt8×Int));Option.bind (post_Of (((2024:Int),(1:Int),l17),([]:List (List UInt8×Int)))) fun x19=>let x23:=(x12.2==0);let x25:=(if x23=true then some x12.1 else none);Option.bind (if x23=true then(x25.map (fun z=>(z.length:Int))).map some else some none) fun x26=>Option.bind (if x23=true then((x26.bind (fun z=>some (z,(2:Int)))).map (fun u=>(u.1==u.2))).map some else some none) fun x27=>(if x23 then x27 else some false).bind fun x28=>let x30:=(if x28=true then some x12.1 else none);Option.bind (if x28=true then((x30.bind (fun z=>some (z,(1:Int)))).bind (fun u=>(lAt u.1 u.2).map (fun y=>y))).map some else some none) fun x31=>Option.bind (if x28=true then(x31.map (fun z=>z)).map some else some none) fun x32=>let x33:=(if x28=true then some (([119,97,103,101,115,47,98]:List UInt8),([110,101,116]:List UInt8),(67:Int),([115,97,108,97,114,121]:List UInt8))else none);Option.bind (if x28=true then((x32.bind (fun z=>x33.map (fun u=>(z,u)))).map (fun v=>((v.1.1==v.2.1)&&((v.1.2.1==v.2.2.1)&&((v.1.2.2.1==v.2.2.2.1)&&(v.1.2.2.2==v.2.2.2.2)))))).map some else some none) fun x34=>(if x28 then x34 else some false).bind fun x35=>let x37:=(if x35=true then some x19.2 else none);Option.bind (if x35=true then((x37.bind (fun z=>some (z,(0:Int)))).map (fun u=>(u.1==u.2))).map some else some none) fun x38=>(if x35 then x38 else some false).bind fun x39=>let x41:=(if x39=true then some x19.1 else none);Option.bind (if x39=true then(x41.map (fun z=>(z.length:Int))).map some else some none) fun x42=>Option.bind (if x39=true then((x42.bind (fun z=>some (z,(1:Int)))).map (fun u=>(u.1==u.2))).map some else some none) fun x43=>(if x39 then x43 else some false).bind fun x44=>let x46:=(if x44=true then some x19.1 else none);Option.bind (if x44=true then((x46.bind (fun z=>some (z,(0:Int)))).bind (fun u=>(lAt u.1 u.2).map (fun y=>y))).map some else some none) fun x47=>Option.bind (if x44=true then(x47.map (fun z=>z)).map some else some none) fun x48=>let x49:=(if x44=true then some (([110,101,116]:List UInt8),([119,97,103,101,115,47,102,105,114,109]:List UInt8),(100:Int),([115,97,108,97,114,121]:List UInt8))else none);Option.bind (if x44=true then((x48.bind (fun z=>x49.map (fun u=>(z,u)))).map (fun v=>((v.1.1==v.2.1)&&((v.1.2.1==v.2.2.1)&&((v.1.2.2.1==v.2.2.2.1)&&(v.1.2.2.2==v.2.2.2.2)))))).map some else some none) fun x50=>(if x44 then x50 else some false).bind fun x51=>some x51
noncomputable def law34_begins(a:List UInt8×List UInt8):Option Bool:=let x0:=a.1;let x1:=a.2;let x6:=(x0.length:Int);let x8:=(x1.length:Int);let x9:=(decide (x6≥x8));let x11:=(if x9=true then some x0 else none);let x12:=(if x9=true then some x1 else none);Option.bind (if x9=true then(x12.map (fun z=>(z.length:Int))).map some else some none) fun x13=>Option.bind (if x9=true then(((x11.bind (fun z=>x13.map (fun u=>(z,u)))).map (fun v=>(v.1,(0:Int),v.2))).bind (fun w=>CQ w.1 w.2.1 w.2.2)).map some else some none) fun x14=>let x15:=(if x9=true then some x1 else none);Option.bind (if x9=true then((x14.bind (fun z=>x15.map (fun u=>(z,u)))).map (fun v=>((v.1==v.2)))).map some else some none) fun x16=>(if x9 then x16 else some false).bind fun x17=>some x17
noncomputable def Jm(s:(List (List UInt8×List UInt8×Int×List UInt8))×List UInt8×Int×Int×Unit):Option (((List (List UInt8×List UInt8×Int×List UInt8))×List UInt8×Int×Int×Unit)⊕((Int×Unit))):=let x0:=s.1;let x1:=s.2.1;let x5:=s.2.2.1;let x6:=s.2.2.2.1;let x9:=(x0.length:Int);let x10:=(decide (x6<x9));if x10 then(Option.bind (show Option (((List (List UInt8×List UInt8×Int×List UInt8))×List UInt8×Int×Int×Unit))from(Option.bind (show Option (((List (List UInt8×List UInt8×Int×List UInt8))×List UInt8×Int×Int×Unit))from(Option.bind ((lAt x0 x6).map (fun y=>y)) fun x15=>(law34_begins (x15.1,x1)).bind fun x19=>if x19 then(Option.bind ((lAt x0 x6).map (fun y=>y)) fun x23=>let x26:=i64.wrap (x5+x23.2.2.1);some (x0,x1,x26,x6,()))else(some (x0,x1,x5,x6,())))) fun o=>let x0:=o.1;let x1:=o.2.1;let x5:=o.2.2.1;let x6:=o.2.2.2.1;Option.bind ((lAt x0 x6).map (fun y=>y)) fun x29=>(law34_begins (x29.2.1,x1)).bind fun x33=>if x33 then(Option.bind ((lAt x0 x6).map (fun y=>y)) fun x37=>let x40:=i64.wrap (x5-x37.2.2.1);some (x0,x1,x40,x6,()))else(some (x0,x1,x5,x6,())))) fun o=>let x0:=o.1;let x1:=o.2.1;let x5:=o.2.2.1;let x6:=o.2.2.2.1;let x12:=i64.wrap (x6+1);some (Sum.inl (x0,x1,x5,x12,())))else(some (Sum.inr (x5,())))
noncomputable def law34_sum(a:(List (List UInt8×List UInt8×Int×List UInt8))×List UInt8):Option Int:=let x0:=a.1;let x1:=a.2;Option.bind (iter Jm (x0,x1,0,0,())) fun o=>let x5:=o.1;some x5
theorem Rn{n m:Nat}(hn:n<18446744073709551616)(hm:m<18446744073709551616):
  math_bits_Mul64 ((n:Int),(m:Int))=some (((n*m/18446744073709551616:Nat):Int),((n*m % 18446744073709551616:Nat):Int)):=by
 unfold math_bits_Mul64;obtain⟨h1,h2,h3,h4⟩:=Go.Lib.mul64_hi n m hn hm;have l:∀{a:Nat},a<18446744073709551616→u64.wrap (a:Int)=(a:Int):=fun h=>D6 h
 have h6:n*m/18446744073709551616<18446744073709551616:=by
  rw[Nat.div_lt_iff_lt_mul (by decide)];exact Nat.mul_lt_mul'' hn hm
 have e1:=Int.natCast_mul (n % 4294967296) (m % 4294967296);have e2:=Int.natCast_mul (n/4294967296) (m % 4294967296);have e3:=Int.natCast_mul (n % 4294967296) (m/4294967296);have e4:=Int.natCast_mul (n/4294967296) (m/4294967296);have e5:=Int.natCast_mul n m;dsimp only;rw[FA,bs,FA,bs,HW hn,HW hm,←e1,←e2,←e3,←e4,←e5];generalize n % 4294967296*(m % 4294967296)=A at*;generalize n/4294967296*(m % 4294967296)=B at*;generalize n % 4294967296*(m/4294967296)=C at*;generalize n/4294967296*(m/4294967296)=E at*;generalize n*m=F at*;rw[D6 h1,FA,bs,D6 (show B<18446744073709551616 by omega),←Int.natCast_add,D6 h2,FA,bs,HW h2,D6 (show C<18446744073709551616 by omega),←Int.natCast_add,D6 h3,FA,bs,D6 (show E<18446744073709551616 by omega),←Int.natCast_add,D6 (show E+(B+A/4294967296)/4294967296<18446744073709551616 by omega),←Int.natCast_add,h4,D6 h6,Rc]
theorem Kb(n k:Nat)(hk:k≤64):(if(k:Int)<0 then none else some ((n:Int).fdiv (2^(min (k:Int).toNat 64))))=some ((n/2^k:Nat):Int):=by
 rw[if_neg (by omega),Int.toNat_natCast,Nat.min_eq_left hk,Int.fdiv_eq_ediv_of_nonneg _ (Int.pow_nonneg (by decide))]
 congr 1
theorem Vh(n:Nat):(if(16:Int)<0 then none else some ((n:Int).fdiv (2^(min (16:Int).toNat 64))))=some ((n/65536:Nat):Int):=Kb n 16 (by decide)
theorem Vi(n:Nat):(if(8:Int)<0 then none else some ((n:Int).fdiv (2^(min (8:Int).toNat 64))))=some ((n/256:Nat):Int):=Kb n 8 (by decide)
theorem T4:∀n:Fin 256,([0,1,2,2,3,3,3,3,4,4,4,4,4,4,4,4,5,5,5,5,5,5,5,5,5,5,5,5,5,5,5,5,6,6,6,6,6,6,6,6,6,6,6,6,6,6,6,6,6,6,6,6,6,6,6,6,6,6,6,6,6,6,6,6,7,7,7,7,7,7,7,7,7,7,7,7,7,7,7,7,7,7,7,7,7,7,7,7,7,7,7,7,7,7,7,7,7,7,7,7,7,7,7,7,7,7,7,7,7,7,7,7,7,7,7,7,7,7,7,7,7,7,7,7,7,7,7,7,8,8,8,8,8,8,8,8,8,8,8,8,8,8,8,8,8,8,8,8,8,8,8,8,8,8,8,8,8,8,8,8,8,8,8,8,8,8,8,8,8,8,8,8,8,8,8,8,8,8,8,8,8,8,8,8,8,8,8,8,8,8,8,8,8,8,8,8,8,8,8,8,8,8,8,8,8,8,8,8,8,8,8,8,8,8,8,8,8,8,8,8,8,8,8,8,8,8,8,8,8,8,8,8,8,8,8,8,8,8,8,8,8,8,8,8,8,8,8,8,8,8,8,8,8,8,8,8]:List UInt8)[n.val]? =some (UInt8.ofNat (Go.Lib.bitLen n.val)):=by decide+kernel
theorem Rl{n:Nat}(hn:n<18446744073709551616):math_bits_Len64 (n:Int)=some (Go.Lib.bitLen n:Int):=by
 unfold math_bits_Len64
 have a1:∃n1 k1:Nat,n1<4294967296∧k1≤32∧Go.Lib.bitLen n=k1+Go.Lib.bitLen n1∧(if decide ((n:Int)≥(4294967296:Int))=true then
   Option.bind (if(32:Int)<0 then none else some ((n:Int).fdiv (2^(min (32:Int).toNat 64)))) fun x6=>some (x6,(32:Int),())else some ((n:Int),(0:Int),()))=some ((n1:Int),(k1:Int),()):=by
  by_cases h:4294967296≤n
  ·refine⟨n/4294967296,32,by omega,by omega,Go.Lib.bitLen_shift32 n h hn, ?_⟩;rw[if_pos (by simpa using by omega),FA];rfl
  ·refine⟨n,0,by omega,by omega,by omega, ?_⟩;rw[if_neg (by simpa using by omega)];rfl
 obtain⟨n1,k1,hn1,hk1,hl1,he1⟩:=a1
 have a2:∃n2 k2:Nat,n2<65536∧k2≤48∧Go.Lib.bitLen n=k2+Go.Lib.bitLen n2∧(if decide ((n1:Int)≥(65536:Int))=true then
   Option.bind (if(16:Int)<0 then none else some ((n1:Int).fdiv (2^(min (16:Int).toNat 64)))) fun x6=>some (x6,i64.wrap ((k1:Int)+(16:Int)),())else some ((n1:Int),(k1:Int),()))=some ((n2:Int),(k2:Int),()):=by
  by_cases h:65536≤n1
  ·refine⟨n1/65536,k1+16,by omega,by omega,by rw[hl1,Go.Lib.bitLen_shift16 n1 h (by omega)];omega, ?_⟩;rw[if_pos (by simpa using by omega),Vh,BK (by omega) (by omega)];rfl
  ·refine⟨n1,k1,by omega,by omega,by omega, ?_⟩;rw[if_neg (by simpa using by omega)]
 obtain⟨n2,k2,hn2,hk2,hl2,he2⟩:=a2
 have a3:∃n3 k3:Nat,n3<256∧k3≤56∧Go.Lib.bitLen n=k3+Go.Lib.bitLen n3∧(if decide ((n2:Int)≥(256:Int))=true then
   Option.bind (if(8:Int)<0 then none else some ((n2:Int).fdiv (2^(min (8:Int).toNat 64)))) fun x6=>some (x6,i64.wrap ((k2:Int)+(8:Int)),())else some ((n2:Int),(k2:Int),()))=some ((n3:Int),(k3:Int),()):=by
  by_cases h:256≤n2
  ·refine⟨n2/256,k2+8,by omega,by omega,by rw[hl2,Go.Lib.bitLen_shift8 n2 h (by omega)];omega, ?_⟩;rw[if_pos (by simpa using by omega),Vi,BK (by omega) (by omega)];rfl
  ·refine⟨n2,k2,by omega,by omega,by omega, ?_⟩;rw[if_neg (by simpa using by omega)]
 obtain⟨n3,k3,hn3,hk3,hl3,he3⟩:=a3;have h8:Go.Lib.bitLen n3≤8:=Go.Lib.bitLen_le8 ⟨n3,hn3⟩;dsimp only;rw[he1,bs];dsimp only;rw[he2,bs];dsimp only;rw[he3,bs];dsimp only;have hw:u8.wrap (n3:Int)=(n3:Int):=by rw[IntKind.wrap_u8];omega
 rw[hw,Qq (T4 ⟨n3,hn3⟩),bs];have hb:((UInt8.ofNat (Go.Lib.bitLen n3)).toNat)=Go.Lib.bitLen n3:=by rw[UInt8.toNat_ofNat'];omega
 rw[hb,BK (n:=(Go.Lib.bitLen n3:Int)) (by omega) (by omega),BK (by omega) (by omega),hl3];rfl
theorem Rk{n:Nat}(hn:n<18446744073709551616):math_bits_LeadingZeros64 (n:Int)=some (64-(Go.Lib.bitLen n:Int)):=by
 unfold math_bits_LeadingZeros64;have:Go.Lib.bitLen n≤64:=Go.Lib.bitLen_le n 64 (by omega) hn;dsimp only;rw[Rl hn,bs,BK (by omega) (by omega)]
theorem R9:∀(n:Nat),n<18446744073709551616→n≠0→2^Go.Lib.bitLen n≤2*n∧n<2^Go.Lib.bitLen n:=by
 intro n
 induction n using Nat.strongRecOn with
 |_ n ih=>
  intro h h0;rw[Go.Lib.bitLen_half n h0 h];by_cases h1:n/2=0
  ·have:n=1:=by omega
   subst this;decide
  ·obtain⟨a,b⟩:=ih (n/2) (by omega) (by omega) h1;rw[Nat.add_comm 1,Nat.pow_succ];omega
section
variable {p z u n:Nat}
theorem ON(hz:z<4294967296)(hn:n<4294967296)(hu:u<p*4294967296+z){q r:Nat}(h:q*p+r=u)(hQ:(u*4294967296+n)/(p*4294967296+z)≤q)(hq:q≤4294967297)(hr:r<4294967296):
  q*z<18446744073709551616∧4294967296*r+n<18446744073709551616∧
  ((q<4294967296∧q*z≤4294967296*r+n→q=(u*4294967296+n)/(p*4294967296+z))
  ∧(4294967296≤q∨4294967296*r+n<q*z→1≤q∧(q-1)*p+(r+p)=u∧(u*4294967296+n)/(p*4294967296+z)≤q-1∧(4294967296≤r+p→q-1=(u*4294967296+n)/(p*4294967296+z)))):=by
 have hd:0<p*4294967296+z:=by omega
 have h1:q*z≤4294967297*4294967295:=Nat.mul_le_mul hq (by omega);refine⟨by omega,by omega,fun⟨a,b⟩=> ?_,fun a=> ?_⟩
 ·refine Nat.le_antisymm ?_ hQ;rw[Nat.le_div_iff_mul_le hd];have:=(OM (b:=4294967296) (z:=z) (n:=n) h);omega
 ·have hlt:(u*4294967296+n)/(p*4294967296+z)<q:=by
   rcases a with a|a
   ·exact Nat.lt_of_lt_of_le (L5 hn hu) a
   ·exact(T2 hd).1 ((OM h).1 a)
  have h1:1≤q:=Nat.lt_of_le_of_lt (Nat.zero_le _) hlt
  have e:(q-1)*p+(r+p)=u:=by
   obtain⟨k,rfl⟩:∃k,q=k+1:=⟨q-1,by omega⟩;rw[Nat.add_mul]at h;simp only[Nat.add_sub_cancel];omega
  refine⟨h1,e,Nat.le_sub_one_of_lt hlt,fun hb=> ?_⟩;refine Nat.le_antisymm ?_ (Nat.le_sub_one_of_lt hlt);rw[Nat.le_div_iff_mul_le hd];exact T1 hb (by omega) hz e
theorem Rf(hp:2147483648≤p)(hp2:p<4294967296)(hz:z<4294967296)(hn:n<4294967296)(hu:u<p*4294967296+z)(y s n0:Int):
  iter Jy (y,s,(p:Int),(z:Int),(u:Int),(n:Int),n0,((u/p:Nat):Int),((u % p:Nat):Int),())=some (y,s,(p:Int),(z:Int),(u:Int),(n:Int),n0,(((u*4294967296+n)/(p*4294967296+z):Nat):Int),()):=by
 obtain⟨f1,f2⟩:=OL (b:=4294967296) (p:=p) (by omega) (by omega) hz hn hu;refine OF (fun m st=>∃q r:Nat,st=(y,s,(p:Int),(z:Int),(u:Int),(n:Int),n0,(q:Int),(r:Int),())∧q*p+r=u∧(u*4294967296+n)/(p*4294967296+z)≤q∧q≤4294967297∧r<4294967296∧m=q) ?_ (u/p) _ ⟨u/p,u % p,rfl,Nat.div_add_mod' u p,f1,by omega,Nat.lt_of_lt_of_le (Nat.mod_lt _ (by omega)) (by omega),rfl⟩
 rintro m st ⟨q,r,rfl,h1,h2,h3,h4,hm⟩
 obtain⟨b1,b2,c1,c2⟩:=ON hz hn hu h1 h2 h3 h4;have w1:u64.wrap ((q:Int)*(z:Int))=((q*z:Nat):Int):=by rw[←Int.natCast_mul];exact D6 b1
 have w2:u64.wrap ((4294967296:Int)*(r:Int))=((4294967296*r:Nat):Int):=by rw[Cx (by omega) (by omega)];omega
 have w3:u64.wrap (((4294967296*r:Nat):Int)+(n:Int))=((4294967296*r+n:Nat):Int):=by rw[Cx (by omega) (by omega)];omega
 have w5:u64.wrap ((r:Int)+(p:Int))=((r+p:Nat):Int):=by rw[Cx (by omega) (by omega)];omega
 have hT:∃t:Bool,(t=true↔(4294967296≤q∨4294967296*r+n<q*z))∧Jy (y,s,(p:Int),(z:Int),(u:Int),(n:Int),n0,(q:Int),(r:Int),())=(if t then(if 4294967296≤r+p then some (Sum.inr (y,s,(p:Int),(z:Int),(u:Int),(n:Int),n0,u64.wrap ((q:Int)-1),()))else some (Sum.inl (y,s,(p:Int),(z:Int),(u:Int),(n:Int),n0,u64.wrap ((q:Int)-1),((r+p:Nat):Int),())))else some (Sum.inr (y,s,(p:Int),(z:Int),(u:Int),(n:Int),n0,(q:Int),()))):=by
  unfold Jy;dsimp only;rw[w5];have g2:decide (((r+p:Nat):Int)≥4294967296)=decide (4294967296≤r+p):=by apply decide_eq_decide.2;omega
  rw[g2];by_cases hb:4294967296≤q
  ·have g1:decide ((q:Int)≥4294967296)=true:=by simpa using by omega
   refine⟨true,by simp[hb], ?_⟩;simp only[g1,Bool.true_eq_false,if_false,if_true,bs,decide_eq_true_eq]
  ·have g1:decide ((q:Int)≥4294967296)=false:=by simpa using by omega
   refine⟨decide (4294967296*r+n<q*z),by simp[hb], ?_⟩;have g3:decide (((q*z:Nat):Int)>((4294967296*r+n:Nat):Int))=decide (4294967296*r+n<q*z):=by apply decide_eq_decide.2;omega
   simp only[g1,if_true,bs,ms,w1,w2,w3,g3,Ag,if_false,decide_eq_true_eq]
 obtain⟨t,ht,e⟩:=hT;rw[e]
 cases t with
 |false=>
  refine .inr ?_;have:=c1 (by have:=mt ht.2 (by decide);omega);rw[if_neg (by decide),←this]
 |true=>
  obtain⟨d1,d2,d3,d4⟩:=c2 (ht.1 rfl);have w6:u64.wrap ((q:Int)-1)=((q-1:Nat):Int):=by rw[Cx (by omega) (by omega)];omega
  rw[if_pos rfl,w6];by_cases hb:4294967296≤r+p
  ·rw[if_pos hb,d4 hb];exact .inr rfl
  ·rw[if_neg hb];exact .inl ⟨_,rfl,q-1,by omega,q-1,r+p,rfl,d2,d3,by omega,by omega,rfl⟩
theorem Rg(hp:2147483648≤p)(hp2:p<4294967296)(hz:z<4294967296)(hn:n<4294967296)(hu:u<p*4294967296+z)(y s x15 x17:Int):
  iter Jz (y,s,(p:Int),(z:Int),(n:Int),x15,((u % p:Nat):Int),x17,((u/p:Nat):Int),())=some (y,s,(n:Int),x15,x17,(((u*4294967296+n)/(p*4294967296+z):Nat):Int),()):=by
 obtain⟨f1,f2⟩:=OL (b:=4294967296) (p:=p) (by omega) (by omega) hz hn hu;refine OF (fun m st=>∃q r:Nat,st=(y,s,(p:Int),(z:Int),(n:Int),x15,(r:Int),x17,(q:Int),())∧q*p+r=u∧(u*4294967296+n)/(p*4294967296+z)≤q∧q≤4294967297∧r<4294967296∧m=q) ?_ (u/p) _ ⟨u/p,u % p,rfl,Nat.div_add_mod' u p,f1,by omega,Nat.lt_of_lt_of_le (Nat.mod_lt _ (by omega)) (by omega),rfl⟩
 rintro m st ⟨q,r,rfl,h1,h2,h3,h4,hm⟩
 obtain⟨b1,b2,c1,c2⟩:=ON hz hn hu h1 h2 h3 h4;have w1:u64.wrap ((q:Int)*(z:Int))=((q*z:Nat):Int):=by rw[←Int.natCast_mul];exact D6 b1
 have w2:u64.wrap ((4294967296:Int)*(r:Int))=((4294967296*r:Nat):Int):=by rw[Cx (by omega) (by omega)];omega
 have w3:u64.wrap (((4294967296*r:Nat):Int)+(n:Int))=((4294967296*r+n:Nat):Int):=by rw[Cx (by omega) (by omega)];omega
 have w5:u64.wrap ((r:Int)+(p:Int))=((r+p:Nat):Int):=by rw[Cx (by omega) (by omega)];omega
 have hT:∃t:Bool,(t=true↔(4294967296≤q∨4294967296*r+n<q*z))∧Jz (y,s,(p:Int),(z:Int),(n:Int),x15,(r:Int),x17,(q:Int),())=(if t then(if 4294967296≤r+p then some (Sum.inr (y,s,(n:Int),x15,x17,u64.wrap ((q:Int)-1),()))else some (Sum.inl (y,s,(p:Int),(z:Int),(n:Int),x15,((r+p:Nat):Int),x17,u64.wrap ((q:Int)-1),())))else some (Sum.inr (y,s,(n:Int),x15,x17,(q:Int),()))):=by
  unfold Jz;dsimp only;rw[w5];have g2:decide (((r+p:Nat):Int)≥4294967296)=decide (4294967296≤r+p):=by apply decide_eq_decide.2;omega
  rw[g2];by_cases hb:4294967296≤q
  ·have g1:decide ((q:Int)≥4294967296)=true:=by simpa using by omega
   refine⟨true,by simp[hb], ?_⟩;simp only[g1,Bool.true_eq_false,if_false,if_true,bs,decide_eq_true_eq]
  ·have g1:decide ((q:Int)≥4294967296)=false:=by simpa using by omega
   refine⟨decide (4294967296*r+n<q*z),by simp[hb], ?_⟩;have g3:decide (((q*z:Nat):Int)>((4294967296*r+n:Nat):Int))=decide (4294967296*r+n<q*z):=by apply decide_eq_decide.2;omega
   simp only[g1,if_true,bs,ms,w1,w2,w3,g3,Ag,if_false,decide_eq_true_eq]
 obtain⟨t,ht,e⟩:=hT;rw[e]
 cases t with
 |false=>
  refine .inr ?_;have:=c1 (by have:=mt ht.2 (by decide);omega);rw[if_neg (by decide),←this]
 |true=>
  obtain⟨d1,d2,d3,d4⟩:=c2 (ht.1 rfl);have w6:u64.wrap ((q:Int)-1)=((q-1:Nat):Int):=by rw[Cx (by omega) (by omega)];omega
  rw[if_pos rfl,w6];by_cases hb:4294967296≤r+p
  ·rw[if_pos hb,d4 hb];exact .inr rfl
  ·rw[if_neg hb];exact .inl ⟨_,rfl,q-1,by omega,q-1,r+p,rfl,d2,d3,by omega,by omega,rfl⟩
end
theorem MB(n k:Nat)(hk:k≤64):(if(k:Int)<0 then none else some (u64.wrap ((n:Int)*2^(min (k:Int).toNat 64))))=some ((n*2^k % 18446744073709551616:Nat):Int):=by
 rw[if_neg (by omega),Int.toNat_natCast,Nat.min_eq_left hk];refine congrArg some ?_;rw[show(n:Int)*2^k=((n*2^k:Nat):Int) by rw[Int.natCast_mul,Int.natCast_pow];rfl];exact Rc _
theorem orJ{x y k:Nat}(hx:x % 2^k=0)(hx1:x<18446744073709551616)(hy:y<2^k)(hy1:y<18446744073709551616):Dg .or .u64 (x:Int) (y:Int)=((x+y:Nat):Int):=by
 rw[Nw _ _ _ _ (.inr rfl)]
 have h:=bits_join .u64 64 (by decide) (fun n h1 h2=>Cx h1 (by simpa using h2)) k (x:Int) (y:Int) (by omega) (by
   have:((x % 2^k:Nat):Int)=0:=by rw[hx];rfl
   rw[Int.natCast_emod,Int.natCast_pow]at this
   exact this) (by have:((2:Int)^64)=18446744073709551616:=by decide
                   omega) (by omega) (by
   have:(y:Int)<((2^k:Nat):Int):=by omega
   rw[Int.natCast_pow]at this
   exact this) (by have:((2:Int)^64)=18446744073709551616:=by decide
                   omega)
 rw[h];omega
theorem Mx{a b:Nat}(hb:b≠0)(ha:a<18446744073709551616):(if(b:Int)=0 then none else some (u64.wrap ((a:Int).tdiv (b:Int))))=some ((a/b:Nat):Int):=by
 rw[if_neg (by omega)]
 congr 1
 rw[Int.tdiv_eq_ediv_of_nonneg (by omega),←Int.natCast_ediv];exact D6 (Nat.lt_of_le_of_lt (Nat.div_le_self _ _) ha)
theorem UI{a b:Nat}(hb:b≠0):(if(b:Int)=0 then none else some ((a:Int).tmod (b:Int)))=some ((a % b:Nat):Int):=by
 rw[if_neg (by omega)]
 congr 1
theorem OR{a b m q:Nat}(hd:0<m)(hm:m<18446744073709551616)(h:q=(a*4294967296+b)/m):
  u64.wrap (u64.wrap (u64.wrap ((a:Int)*4294967296)+(b:Int))-u64.wrap ((q:Int)*(m:Int)))=(((a*4294967296+b)% m:Nat):Int):=by
 have h1:=Nat.div_add_mod (a*4294967296+b) m;rw[←h]at h1;have h2:=Nat.mod_lt (a*4294967296+b) hd;generalize (a*4294967296+b)% m=r at*;rw[←Int.natCast_mul,Nat.mul_comm q m];generalize m*q=t at*;simp only[IntKind.wrap_u64];omega
theorem V8{u vh vl w A1 A0 r v:Nat}(h1:A1+w=u*4294967296+vh)(h2:A0+r=w*4294967296+vl)(h3:vh*4294967296+vl=v):u*18446744073709551616+v=A1*4294967296+A0+r:=by
 have e:u*18446744073709551616=u*4294967296*4294967296:=by rw[Nat.mul_assoc]
 rw[e,←h3,←Nat.add_assoc,←Nat.add_mul,←h1,Nat.add_mul,Nat.add_assoc,←h2,Nat.add_assoc]
theorem Re{hi lo y:Nat}(hy:y<18446744073709551616)(hlo:lo<18446744073709551616)(hh:hi<y):
  math_bits_Div64 ((hi:Int),(lo:Int),(y:Int))=some ((((hi*18446744073709551616+lo)/y:Nat):Int),(((hi*18446744073709551616+lo)% y:Nat):Int)):=by
 have hy0:y≠0:=by omega
 have g1:((y:Int)==0)=false:=by simpa using by omega
 have g2:decide ((y:Int)≤(hi:Int))=false:=by simpa using by omega
 by_cases h0:hi=0
 ·subst h0;unfold math_bits_Div64;dsimp only;rw[g1,g2,Mx hy0 hlo,UI hy0];simp
 obtain⟨k1,k2⟩:=R9 y hy hy0;have k3:Go.Lib.bitLen y≤64:=Go.Lib.bitLen_le y 64 (by omega) hy
 have k4:1≤Go.Lib.bitLen y:=by
  rcases Nat.eq_zero_or_pos (Go.Lib.bitLen y)with h|h
  ·rw[h]at k2;omega
  ·exact h
 obtain⟨s,hs⟩:∃s,s=64-Go.Lib.bitLen y:=⟨_,rfl⟩
 have e64:2^Go.Lib.bitLen y*2^s=18446744073709551616:=by
  rw[←Nat.pow_add,show Go.Lib.bitLen y+s=64 by omega]
 have ps:0<2^s:=Nat.pow_pos (by decide)
 have n1:9223372036854775808≤y*2^s:=by
  have:=Nat.mul_le_mul_right (2^s) k1;rw[Nat.mul_assoc]at this;omega
 have n2:y*2^s<18446744073709551616:=by rw[←e64];exact Nat.mul_lt_mul_of_pos_right k2 ps
 have n3:hi*2^s+2^s≤y*2^s:=by
  have:=Nat.mul_le_mul_right (2^s) (show hi+1≤y from hh)
  rwa [Nat.add_mul,Nat.one_mul]at this
 have n4:lo/2^Go.Lib.bitLen y<2^s:=by rw[Nat.div_lt_iff_lt_mul (Nat.pow_pos (by decide)),Nat.mul_comm,e64];exact hlo
 have n5:lo*2^s/18446744073709551616=lo/2^Go.Lib.bitLen y:=by rw[←e64,Nat.mul_div_mul_right _ _ ps]
 have n6:=Nat.div_add_mod (lo*2^s) 18446744073709551616;rw[n5]at n6;have n7:lo*2^s % 18446744073709551616<18446744073709551616:=Nat.mod_lt _ (by decide)
 have n8:(hi*18446744073709551616+lo)*2^s=(hi*2^s+lo/2^Go.Lib.bitLen y)*18446744073709551616+lo*2^s % 18446744073709551616:=by
  rw[Nat.add_mul,Nat.add_mul,Nat.mul_right_comm];omega
 have o1:=orJ (x:=hi*2^s) (y:=lo/2^Go.Lib.bitLen y) (k:=s) (Nat.mul_mod_left _ _) (by omega) n4 (by omega);unfold math_bits_Div64;dsimp only;have g3:((hi:Int)==0)=false:=by simpa using by omega
 have a0:u64.wrap (64-(Go.Lib.bitLen y:Int))=(s:Int):=by rw[Cx (by omega) (by omega)];omega
 have a1:u64.wrap (64-(s:Int))=(Go.Lib.bitLen y:Int):=by rw[Cx (by omega) (by omega)];omega
 rw[g1,g2,g3,Rk hy];simp only[Ag,if_false];rw[bs,a0,a1,MB y s (by omega),bs,MB hi s (by omega),MB lo s (by omega),Nat.mod_eq_of_lt n2,Nat.mod_eq_of_lt (show hi*2^s<18446744073709551616 by omega),Kb lo _ k3];simp only[bs];rw[o1,HW n2,FA,FA,HW n7];simp only[bs];generalize hP:y*2^s=Y at*;generalize hU:hi*2^s+lo/2^Go.Lib.bitLen y=u at*;generalize hV:lo*2^s % 18446744073709551616=v at*;have eY:Y/4294967296*4294967296+Y % 4294967296=Y:=Nat.div_add_mod' Y 4294967296;have eV:v/4294967296*4294967296+v % 4294967296=v:=Nat.div_add_mod' v 4294967296;have hu:u<Y:=by omega
 have hp0:Y/4294967296≠0:=by omega
 have qr (a:Nat) (ha:a<18446744073709551616):u64.wrap ((a:Int)-u64.wrap (((a/(Y/4294967296):Nat):Int)*((Y/4294967296:Nat):Int)))=((a %(Y/4294967296):Nat):Int):=by
  have h1:=Nat.div_add_mod' a (Y/4294967296);rw[←Int.natCast_mul];generalize a/(Y/4294967296)*(Y/4294967296)=t at*;generalize a %(Y/4294967296)=r at*;rw[D6 (show t<18446744073709551616 by omega),Cx (by omega) (by omega)];omega
 rw[Mx hp0 (show u<18446744073709551616 by omega),bs,qr u (by omega)];rw[Rf (by omega) (by omega) (by omega) (by omega) (by rw[eY];exact hu),eY];simp only[bs];obtain⟨q1,hq1⟩:∃x,(u*4294967296+v/4294967296)/Y=x:=⟨_,rfl⟩;rw[hq1];have l1:=OR (show 0<Y by omega) n2 hq1.symm;rw[l1];obtain⟨w,hw⟩:∃x,(u*4294967296+v/4294967296)% Y=x:=⟨_,rfl⟩;rw[hw];have hw1:w<Y:=by rw[←hw];exact Nat.mod_lt _ (by omega)
 rw[Mx hp0 (show w<18446744073709551616 by omega),bs,qr w (by omega)];rw[Rg (by omega) (by omega) (by omega) (by omega) (by rw[eY];exact hw1),eY];simp only[bs];obtain⟨q0,hq0⟩:∃x,(w*4294967296+v % 4294967296)/Y=x:=⟨_,rfl⟩;rw[hq0];have l2:=OR (show 0<Y by omega) n2 hq0.symm;rw[l2,Kb _ s (by omega),bs];have e1:=Nat.div_add_mod (u*4294967296+v/4294967296) Y;have e2:=Nat.div_add_mod (w*4294967296+v % 4294967296) Y;have r1:(w*4294967296+v % 4294967296)% Y<Y:=Nat.mod_lt _ (by omega);rw[hq1,hw]at e1;rw[hq0]at e2;obtain⟨r,hr0⟩:∃x,(w*4294967296+v % 4294967296)% Y=x:=⟨_,rfl⟩;rw[hr0]at e2 r1;rw[hr0];have d0:q0<4294967296:=by rw[←hq0,←eY];exact L5 (by omega) (by rw[eY];exact hw1)
 have d1:q1<4294967296:=by rw[←hq1];conv=>lhs;rw[←eY]
                           exact L5 (by omega) (by rw[eY];exact hu)
 have tot:(hi*18446744073709551616+lo)*2^s=y*(q1*4294967296+q0)*2^s+r:=by
  have h3:Y*(q1*4294967296+q0)=Y*q1*4294967296+Y*q0:=by rw[Nat.mul_add,←Nat.mul_assoc]
  rw[Nat.mul_right_comm y,hP,n8,h3];exact V8 e1 e2 eV
 have rm:2^s∣r:=by
  have h1:2^s∣(hi*18446744073709551616+lo)*2^s:=Nat.dvd_mul_left _ _;rw[tot]at h1;exact(Nat.dvd_add_right (Nat.dvd_mul_left _ _)).1 h1
 obtain⟨c,hc⟩:=rm;have hr:r/2^s=c:=by rw[hc,Nat.mul_div_cancel_left _ ps]
 have tot2:hi*18446744073709551616+lo=y*(q1*4294967296+q0)+c:=by
  rw[hc,Nat.mul_comm (2^s) c,←Nat.add_mul]at tot;exact Nat.eq_of_mul_eq_mul_right ps tot
 have hcy:c<y:=by
  rw[hc,←hP,Nat.mul_comm]at r1;exact Nat.lt_of_mul_lt_mul_right r1
 rw[tot2,Nat.mul_add_div (by omega),Nat.mul_add_mod,Nat.div_eq_of_lt hcy,Nat.mod_eq_of_lt hcy,hr,Nat.add_zero]
 have f1:u64.wrap (u64.wrap ((q1:Int)*4294967296)+(q0:Int))=((q1*4294967296+q0:Nat):Int):=by
  simp only[IntKind.wrap_u64];omega
 rw[f1]
theorem itL{S T:Type}{b:S→Option (S⊕T)}{s s':S}(h:b s=some (.inl s')):iter b s=iter b s':=by rw[Fy,h];rfl
theorem itR{S T:Type}{b:S→Option (S⊕T)}{s:S}{t:T}(h:b s=some (.inr t)):iter b s=some t:=by rw[Fy,h];rfl
theorem UZ{pre t:List UInt8}{b:UInt8}:sAt (pre++b::t) (pre.length:Int)=some (b.toNat:Int):=Qq (by simp)
def okb(b:UInt8):Bool:= !((decide ((b.toNat:Int)<97)||decide ((b.toNat:Int)>122))&&(decide ((b.toNat:Int)<48)||decide ((b.toNat:Int)>57))&&((b.toNat:Int) !=46)&&((b.toNat:Int) !=95)&&((b.toNat:Int) !=45))
def Bc(s:List UInt8):Bool:=s.all okb&& !(s== [])&& !(s== [45])&&decide ((s.length:Int)≤32)
theorem OD{pre t:List UInt8}{b:UInt8}{n:Int}(c:decide ((pre.length:Int)<n)=true):
  H8 (pre++b::t,n,(pre.length:Int),())=some (if okb b=true then .inl (pre++b::t,n,i64.wrap ((pre.length:Int)+1),())else .inr (.inr false)):=by
 unfold H8;dsimp only;simp only[gPi,gSS,gPb,gPm,gPs,gM,gM2,By,gOr,Bz,B3,gAA,gAO,gOA,gOO,Bv,Bx,B0,B2,Bw,B1,gId];simp only[B9,BA,BB,BC,BD,BE,BF,BG,gId,B8,gMb,gMm,gBm,gBb,bs,ms];simp only[c,if_true,UZ,bs];unfold okb;generalize decide ((b.toNat:Int)<97)=q1;generalize decide ((b.toNat:Int)>122)=q2;generalize decide ((b.toNat:Int)<48)=q3;generalize decide ((b.toNat:Int)>57)=q4;generalize ((b.toNat:Int) !=46)=q5;generalize ((b.toNat:Int) !=95)=q6;generalize ((b.toNat:Int) !=45)=q7;cases q1<;>cases q2<;>cases q3<;>cases q4<;>cases q5<;>cases q6<;>cases q7<;>rfl
theorem OC:∀(t pre:List UInt8),pre.length+t.length≤4611686018427387904→iter H8 (pre++t,((pre++t).length:Int),(pre.length:Int),())=some (if t.all okb then .inl (pre++t,())else .inr false)
 | [],pre,h2=>by
  refine itR ?_;unfold H8;dsimp only;have c:decide ((pre.length:Int)<(((pre++ []):List UInt8).length:Int))=false:=Ak (by simp);simp only[c,Ag,if_false,List.all_nil,if_true]
 |b::t,pre,h2=>by
  simp only[List.length_cons]at h2;have w1:i64.wrap ((pre.length:Int)+1)=((pre++ [b]).length:Int):=by rw[BK (by omega) (by omega)];simp
  have c:decide ((pre.length:Int)<(((pre++b::t):List UInt8).length:Int))=true:=Al (by simp;omega);by_cases hd:okb b=true
  ·have e:=OC t (pre++ [b]) (by simp;omega);rw[List.append_assoc,List.singleton_append]at e;refine(itL (s':=(pre++b::t,((pre++b::t).length:Int),((pre++ [b]).length:Int),())) ?_).trans (e.trans ?_)
   ·rw[OD c,if_pos hd,w1]
   ·simp[hd]
  ·refine(itR (t:=Sum.inr false) ?_).trans ?_
   ·rw[OD c,if_neg hd]
   ·simp[hd]
theorem Tu{s:List UInt8}(h:s.length≤4611686018427387904):fact_isName s=some (Bc s):=by
 unfold fact_isName;dsimp only;simp only[gPi,gSS,gPb,gPm,gPs,gM,gM2,By,gOr,Bz,B3,gAA,gAO,gOA,gOO,Bv,Bx,B0,B2,Bw,B1,gId];simp only[B9,BA,BB,BC,BD,BE,BF,BG,gId,B8,gMb,gMm,gBm,gBb,bs,ms];have:=OC s [] (by simpa using h);simp only[List.nil_append,List.length_nil]at this;rw[show((0:Nat):Int)=0 from rfl]at this;rw[this];unfold Bc
 cases hh:s.all okb with
 |true=>
  simp only[if_true,bs];cases s== []<;>cases s== [45]<;>rfl
 |false=>rfl
theorem U9{s:List UInt8}:post_name s=some (Bc s):=by
 unfold post_name;dsimp only
 have key:fact_Fact_Check (0,1,13,0,0,[],0,s)=some (if Bc s=true then 0 else if decide ((s.length:Int)>4096)=true then 4 else 3):=by
  unfold fact_Fact_Check;dsimp only;rw[show fact_known 13=some true from rfl];rw[show fact_rules ()=some _ from rfl];simp only[gPi,gSS,gPb,gPm,gPs,gM,gM2,By,gOr,Bz,B3,gAA,gAO,gOA,gOO,Bv,Bx,B0,B2,Bw,B1,gId];simp only[B9,BA,BB,BC,BD,BE,BF,BG,gId,B8,gMb,gMm,gBm,gBb,bs,ms];rw[if_neg (by decide)];rw[show lAt _ (13:Int)=some _ from CP (i:=13) rfl,bs];dsimp only;rw[if_neg (by decide)];rw[show fact_Fact_days ((0,1,13,0,0,[],0,s),[98,97,110,107],false,true,Sum.inl (),0,0,Sum.inr (Sum.inr (Sum.inr (Sum.inr (Sum.inl ())))))=some 0 from rfl,bs];rw[if_neg (by decide)];rw[show fact_empty []=some true from rfl,bs];rw[if_neg (by decide)];rw[show(if decide ((0:Int)<0)=true then some true else some (decide ((0:Int)>0)))=some false from rfl,bs];rw[if_neg (by decide)];by_cases h:(s.length:Int)>4096
  ·have d:decide ((s.length:Int)>4096)=true:=Al h
   have e:Bc s=false:=by
    have:decide ((s.length:Int)≤32)=false:=Ak (by omega);simp[Bc,this]
   rw[d,if_pos rfl,e,if_neg (by decide),if_pos rfl]
  ·have d:decide ((s.length:Int)>4096)=false:=Ak h;rw[d,if_neg (by decide)];unfold fact_rules_2;dsimp only;rw[Tu (by omega),bs,bs];cases Bc s<;>rfl
 rw[key,bs];by_cases h:Bc s=true
 ·rw[if_pos h,h];rfl
 ·rw[if_neg h];have:Bc s=false:=by simpa using h
  rw[this];split<;>rfl
theorem Uw{a w s:Nat}(ha:a≤1125899906842624)(hw:w≤s)(hs:0<s)(hs2:s≤72057594037927936):share_part ((a:Int),(w:Int),(s:Int))=some (((a*w/s:Nat):Int),((a*w % s:Nat):Int)):=by
 have h1:a*w≤1125899906842624*s:=Nat.mul_le_mul ha hw
 have hhi:a*w/18446744073709551616<s:=by
  rw[Nat.div_lt_iff_lt_mul (by decide)];omega
 have e:a*w/18446744073709551616*18446744073709551616+a*w % 18446744073709551616=a*w:=by
  have:=Nat.div_add_mod (a*w) 18446744073709551616;omega
 unfold share_part;dsimp only;rw[Rn (by omega) (by omega),bs];dsimp only;rw[Re (by omega) (Nat.mod_lt _ (by decide)) hhi,bs,e]
theorem Kk:∀(l:List Int),(∀x∈l,0≤x∧x≤1125899906842624)→0≤l.sum∧l.sum≤1125899906842624*l.length
 | [],_=>by simp
 |x::l,h=>by
  have h1:=h x (by simp);obtain⟨h2,h3⟩:=Kk l fun y hy=>h y (by simp[hy]);simp only[List.sum_cons,List.length_cons];constructor<;>omega
theorem MJ{l:List Int}(h0:l≠ [])(hl:l.length≤64)(hx:∀x∈l,1≤x∧x≤1000000):share_sum l=some (l.sum,0)∧0<l.sum∧l.sum≤64000000:=by
 have hpos:0<l.length:=List.length_pos_iff.2 h0
 have hb:∀(m:List Int),(∀x∈m,1≤x∧x≤1000000)→(m.length:Int)≤m.sum∧m.sum≤1000000*m.length:=by
  intro m
  induction m with
  |nil=>intro _;simp
  |cons x m ih=>
   intro h;have h1:=h x (by simp);obtain⟨h2,h3⟩:=ih fun y hy=>h y (by simp[hy]);simp only[List.sum_cons,List.length_cons];constructor<;>omega
 have hb0:=hb l hx
 have key:=DH (b:=Ka) (α:=Int) (A:=Int) (fun i s=>(s,l,(l.length:Int),(i:Int),())) (fun s x=>.inl (s+x)) (fun s=>.inl (s,())) (fun i s=>s=(l.take i).sum) l (a:=0) (by simp) (fun i x s hx' hs=>by
  have hi:=(Ae.1 hx').1;have hxx:=hx x (List.mem_of_getElem? hx');have hbi:=hb (l.take i) (fun y hy=>hx y (List.mem_of_mem_take hy));rw[List.length_take]at hbi;unfold Ka;dsimp only;simp only[gPi,gSS,gPb,gPm,gPs,gM,gM2,By,gOr,Bz,B3,gAA,gAO,gOA,gOO,Bv,Bx,B0,B2,Bw,B1,gId];try simp only[B9,BA,BB,BC,BD,BE,BF,BG,gId,B8,gMb,gMm,gBm,gBb,bs,ms]
  rw[DM hx',if_pos rfl,CP hx',bs,Ak (by omega),if_neg (by decide),Ak (by omega),bs,if_neg (by decide),CU (by omega),Cx (n:=x) (by omega) (by omega),Cx (n:=s+x) (by omega) (by omega)]
  rfl) (fun i x s s' hx' hs e=>by cases e;rw[List.take_add_one,hx',hs];simp) (fun s hs=>by
  unfold Ka;dsimp only
  rw[DO,if_neg (by decide)])
 have hf:∀(m:List Int) (s:Int),AZ (fun s x=>(Sum.inl (s+x):Int⊕((Int×Unit)⊕(Int×Int)))) (fun s=>Sum.inl (s,())) s m=.inl (s+m.sum,()):=by
  intro m
  induction m with
  |nil=>intro s;simp[AZ]
  |cons x m ih=>intro s;rw[AZ];simp only;rw[ih,List.sum_cons,Int.add_assoc]
 rw[hf,Int.zero_add]at key;rw[show((0:Nat):Int)=0 from rfl]at key;refine⟨?_,by omega,by omega⟩;unfold share_sum;dsimp only;rw[if_neg (by simpa using h0),Ak (by omega),if_neg (by decide),key,bs];dsimp only;rw[if_neg (by simp;omega)]
def qN(a s:Nat)(w:Int):Int:=((a*w.toNat/s:Nat):Int)
theorem JO{a s:Nat}(hs:0<s):∀(l:List Int),(∀x∈l,1≤x∧x≤1000000)→0≤(l.map (qN a s)).sum∧(l.map (qN a s)).sum*s≤a*l.sum
 | [],_=>by simp
 |x::l,h=>by
  have h1:=h x (by simp);obtain⟨h2,h3⟩:=JO (a:=a) hs l fun y hy=>h y (by simp[hy]);simp only[List.map_cons,List.sum_cons];have h4:a*x.toNat/s*s≤a*x.toNat:=Nat.div_mul_le_self _ _
  have h5:qN a s x*s≤a*x:=by
   obtain⟨k,rfl⟩:=Int.eq_ofNat_of_zero_le (show 0≤x by omega);unfold qN;simp only[Int.toNat_natCast]
   exact_mod_cast h4
  have h6:0≤qN a s x:=Int.natCast_nonneg _;rw[Int.add_mul,Int.mul_add];constructor<;>omega
theorem PM{a s:Nat}{x:Int}(hx:1≤x)(hs:x≤s):0≤qN a s x∧qN a s x≤a:=by
 unfold qN;have h:a*x.toNat≤a*s:=Nat.mul_le_mul_left _ (by omega)
 have:a*x.toNat/s≤a:=by
  rcases Nat.eq_zero_or_pos s with h0|h0
  ·subst h0;simp
  ·exact Nat.div_le_of_le_mul (by rw[Nat.mul_comm s a];exact h)
 exact⟨Int.natCast_nonneg _,by exact_mod_cast this⟩
theorem EN{i n:Nat}(h:i<n):(if 0≤(i:Int)∧(i:Int)<(n:Int)then some (i:Int).toNat else none)=some i:=by
 rw[if_pos ⟨by omega,by omega⟩];simp
def rN(a s:Nat)(w:Int):Int:=((a*w.toNat % s:Nat):Int)
theorem ME{a s:Nat}(ha:a≤1125899906842624)(hs:0<s)(hs2:s≤64000000):∀(l pre:List Int),pre.length+l.length≤64→(∀x∈pre++l,1≤x∧x≤1000000)→(pre++l).sum=s→
  iter Hg ((a:Int),(s:Int),(a:Int)-(pre.map (qN a s)).sum,pre++l,((pre++l).length:Int),(pre.length:Int),pre.map (qN a s)++List.replicate l.length 0,pre.map (rN a s)++List.replicate l.length 0,(),(),())=
   some ((a:Int)-((pre++l).map (qN a s)).sum,(pre++l).map (qN a s),(pre++l).map (rN a s),(),(),())
 | [],pre,hn,hx,hsum=>by
  refine itR ?_;unfold Hg;dsimp only;have c:decide ((pre.length:Int)<(((pre++ []):List Int).length:Int))=false:=Ak (by simp);rw[c,if_neg (by decide)];simp
 |x::l,pre,hn,hx,hsum=>by
  simp only[List.length_cons]at hn;have w1:i64.wrap ((pre.length:Int)+1)=((pre++ [x]).length:Int):=by rw[BK (by omega) (by omega)];simp
  have c:decide ((pre.length:Int)<(((pre++x::l):List Int).length:Int))=true:=Al (by simp;omega);have hx0:=hx x (by simp);have hl:=Kk l (fun y hy=>by have:=hx y (by simp[hy]);omega);have hp:=Kk pre (fun y hy=>by have:=hx y (by simp[hy]);omega);have hxs:x≤s:=by rw[List.sum_append,List.sum_cons]at hsum;omega
  obtain⟨k,rfl⟩:=Int.eq_ofNat_of_zero_le (show 0≤x by omega);have hq:=PM (a:=a) hx0.1 hxs;have hpart:=Uw (a:=a) (w:=k) (s:=s) ha (by omega) hs (by omega);have hqk:((a*k/s:Nat):Int)=qN a s (k:Int):=by unfold qN;simp
  rw[hqk]at hpart
  have hall:=JO (a:=a) hs (pre++ [(k:Int)]) (fun y hy=>hx y (by
   rcases List.mem_append.1 hy with h|h
   ·simp[h]
   ·rw[List.mem_singleton.1 h];simp))
  have hle:((pre++ [(k:Int)]).map (qN a s)).sum≤a:=by
   have h1:(pre++ [(k:Int)]).sum≤s:=by
    rw[List.sum_append,List.sum_cons]at hsum;rw[List.sum_append,List.sum_cons,List.sum_nil];omega
   have h2:(a:Int)*(pre++ [(k:Int)]).sum≤(a:Int)*s:=Int.mul_le_mul_of_nonneg_left h1 (by omega);exact Int.le_of_mul_le_mul_right (Int.le_trans hall.2 h2) (by omega)
  have hpre:=(JO (a:=a) hs pre (fun y hy=>hx y (by simp[hy]))).1;have hsumE:((pre++ [(k:Int)]).map (qN a s)).sum=(pre.map (qN a s)).sum+qN a s k:=by simp
  have hout:(pre.map (qN a s)++List.replicate (l.length+1) 0).set pre.length (qN a s k)=(pre++ [(k:Int)]).map (qN a s)++List.replicate l.length 0:=by
   rw[List.replicate_succ,List.set_append_right _ _ (by simp)];simp
  have hres:(pre.map (rN a s)++List.replicate (l.length+1) 0).set pre.length (rN a s k)=(pre++ [(k:Int)]).map (rN a s)++List.replicate l.length 0:=by
   rw[List.replicate_succ,List.set_append_right _ _ (by simp)];simp
  have hrk:((a*k % s:Nat):Int)=rN a s (k:Int):=by unfold rN;simp
  rw[hrk]at hpart;have e2:=ME ha hs hs2 l (pre++ [(k:Int)]) (by simp;omega) (by simpa using hx) (by simpa using hsum);rw[List.append_assoc,List.singleton_append]at e2;refine(itL (s':=_) ?_).trans e2;unfold Hg;dsimp only;rw[c,if_pos rfl,Jk,ms,bs,Cx (n:=(k:Int)) (by omega) (by omega),hpart,bs];dsimp only;rw[BK (n:=qN a s k) (by omega) (by omega)];rw[EN (by simp),bs];rw[List.length_cons,show(pre.map (qN a s)++List.replicate (l.length+1) 0)[pre.length]? =some 0 by simp[List.replicate_succ],ms,bs,hout];rw[EN (by simp),bs];rw[show(pre.map (rN a s)++List.replicate (l.length+1) 0)[pre.length]? =some 0 by simp[List.replicate_succ],ms,bs,hres,w1,Cx (n:=(a:Int)-(pre.map (qN a s)).sum-qN a s k) (by omega) (by omega),hsumE];rw[show(a:Int)-(pre.map (qN a s)).sum-qN a s k=(a:Int)-((pre.map (qN a s)).sum+qN a s k) by omega]
theorem KD{x9:Int}{out rests:List Int}:∀(m i best:Nat),i+m=rests.length→best<rests.length→rests.length≤64→
  ∃best',best'<rests.length∧iter Gs (x9,(best:Int),(rests.length:Int),(i:Int),out,rests,(),(),(),())=some (x9,(best':Int),out,rests,(),(),())
 |0,i,best,h1,h2,h3=>by
  refine⟨best,h2,itR ?_⟩;unfold Gs;dsimp only;rw[Ak (by omega),if_neg (by decide)]
 |m+1,i,best,h1,h2,h3=>by
  have hi:i<rests.length:=by omega
  obtain⟨u,hu⟩:∃v,rests[i]? =some v:=⟨_,Ai hi⟩;obtain⟨v,hv⟩:∃v,rests[best]? =some v:=⟨_,Ai h2⟩;by_cases h:u>v
  ·obtain⟨b,e1,e2⟩:=KD (x9:=x9) (out:=out) m (i+1) i (by omega) hi h3;refine⟨b,e1,(itL (s':=(x9,(i:Int),(rests.length:Int),((i+1:Nat):Int),out,rests,(),(),(),())) ?_).trans e2⟩;unfold Gs;dsimp only;rw[Al (show(i:Int)<(rests.length:Int) by omega),if_pos rfl,EN hi,bs,hu,ms,bs,EN h2,bs,hv,ms,bs,Al h,if_pos rfl,bs];dsimp only;rw[CU (by omega)]
  ·obtain⟨b,e1,e2⟩:=KD (x9:=x9) (out:=out) m (i+1) best (by omega) h2 h3;refine⟨b,e1,(itL (s':=(x9,(best:Int),(rests.length:Int),((i+1:Nat):Int),out,rests,(),(),(),())) ?_).trans e2⟩;unfold Gs;dsimp only;rw[Al (show(i:Int)<(rests.length:Int) by omega),if_pos rfl,EN hi,bs,hu,ms,bs,EN h2,bs,hv,ms,bs,Ak h,if_neg (by decide),bs];dsimp only;rw[CU (by omega)]
theorem QM:∀{l:List Int} {i:Nat} {v:Int},l[i]? =some v→(l.set i (v+1)).sum=l.sum+1
 | [],i,v,h=>by simp at h
 |x::l,0,v,h=>by simp at h;subst h;simp only[List.set_cons_zero,List.sum_cons];omega
 |x::l,i+1,v,h=>by
  simp only[List.getElem?_cons_succ]at h;simp only[List.set_cons_succ,List.sum_cons,QM h];omega
theorem QB:∀(left:Nat) (out rests:List Int),out.length=rests.length→0<out.length→out.length≤64→(∀x∈out,0≤x∧x+left≤4503599627370496)→left≤1125899906842624→
  ∃out',out'.length=out.length∧out'.sum=out.sum+left∧(∀x∈out',0≤x∧x≤4503599627370496)∧iter Hf ((left:Int),out,rests,(),(),())=some (out',(),())
 |0,out,rests,h1,h2,h3,hx,hl=>by
  refine⟨out,rfl,by simp,fun x hx'=>by have:=hx x hx';omega,itR ?_⟩;unfold Hf;dsimp only;rw[Ak (by omega),if_neg (by decide)]
 |left+1,out,rests,h1,h2,h3,hx,hl=>by
  obtain⟨b,b1,b2⟩:=KD (x9:=((left+1:Nat):Int)) (out:=out) (rests:=rests) rests.length 0 0 (by omega) (by omega) (by omega);rw[show((0:Nat):Int)=0 from rfl]at b2;obtain⟨u,hu⟩:∃v,out[b]? =some v:=⟨_,Ai (by omega)⟩;obtain⟨v,hv⟩:∃v,rests[b]? =some v:=⟨_,Ai b1⟩;have hu0:=hx u (List.mem_of_getElem? hu)
  obtain⟨out',e1,e2,e3,e4⟩:=QB left (out.set b (u+1)) (rests.set b 0) (by simp[h1]) (by simpa using h2) (by simpa using h3) (fun x hx'=>by
   rcases List.mem_or_eq_of_mem_set hx' with h|h
   ·have:=hx x h;omega
   ·subst h;omega) (by omega)
  refine⟨out',by simpa using e1,by rw[e2,QM hu];omega,e3,(itL (s':=((left:Int),out.set b (u+1),rests.set b 0,(),(),())) ?_).trans e4⟩;unfold Hf;dsimp only;rw[Al (show((left+1:Nat):Int)>0 by omega),if_pos rfl,b2,bs];dsimp only;rw[EN (show b<out.length by omega),bs,hu,ms,bs,BK (n:=u+1) (by omega) (by omega),bs];try rw[hu,ms,bs]
  rw[EN b1,bs,hv,ms,bs,Cx (n:=((left+1:Nat):Int)-1) (by omega) (by omega)];rw[show((left+1:Nat):Int)-1=(left:Int) by omega]
theorem Vn{a s:Nat}{ws:List Int}(ha:a≤1125899906842624)(h0:ws≠ [])(hn:ws.length≤64)(hx:∀x∈ws,1≤x∧x≤1000000)(hs:ws.sum=s):
  ∃out,share_split ((a:Int),(s:Int),ws)=some out∧out.length=ws.length∧out.sum=a∧∀x∈out,0≤x∧x≤4503599627370496:=by
 have hpos:0<ws.length:=List.length_pos_iff.2 h0;obtain⟨g1,g2,g3⟩:=MJ h0 hn hx;have hs0:0<s:=by omega
 have r2:=ME (a:=a) ha hs0 (by omega) ws [] (by simpa using hn) (by simpa using hx) (by simpa using hs);simp only[List.nil_append,List.length_nil,List.map_nil,List.sum_nil]at r2;rw[show((0:Nat):Int)=0 from rfl,Int.sub_zero]at r2;have hq:=JO (a:=a) hs0 ws hx
 have hle:(ws.map (qN a s)).sum≤a:=by
  rw[hs]at hq;exact Int.le_of_mul_le_mul_right hq.2 (by omega)
 obtain⟨left,hleft⟩:=Int.eq_ofNat_of_zero_le (show 0≤(a:Int)-(ws.map (qN a s)).sum by omega)
 obtain⟨out,o1,o2,o3,o4⟩:=QB left (ws.map (qN a s)) (ws.map (rN a s)) (by simp) (by simpa using hpos) (by simpa using hn) (fun x hxm=>by
  obtain⟨w,hw,rfl⟩:=List.mem_map.1 hxm
  have hws:w≤s:=by
   have:∀(m:List Int),(∀x∈m,1≤x∧x≤1000000)→w∈m→w≤m.sum:=by
    intro m
    induction m with
    |nil=>intro _ h;cases h
    |cons y m ih=>
        intro h hm;have h1:=h y (by simp);have h2:=(Kk m fun z hz=>by have:=h z (by simp[hz]);omega).1;rw[List.sum_cons];rcases List.mem_cons.1 hm with rfl|hm
        ·omega
        ·have:=ih (fun z hz=>h z (by simp[hz])) hm;omega
   rw[←hs];exact this ws hx hw
  have:=PM (a:=a) (hx w hw).1 hws
  omega) (by omega)
 refine⟨out, ?_,by simpa using o1,by rw[o2];omega,o3⟩;have hk:((ws.length:Int))*8≤140737488355328:=by omega
 unfold share_split;dsimp only;have hmk:(0:Int)≤(ws.length:Int)∧(ws.length:Int)≤(ws.length:Int)∧(ws.length:Int)*8≤140737488355328∧(ws.length:Int)≤4611686018427387904:=⟨by omega,by omega,hk,by omega⟩;simp only[if_pos hmk,bs,Int.toNat_natCast];rw[r2,bs];dsimp only;rw[hleft,o4,bs]
theorem Po:∀(l pre:List Int),(∀x∈l,0≤x∧x≤4503599627370496)→pre.length+l.length≤64→
  iter JZ (((pre++l).length:Int),(pre.length:Int),pre++l,(),())=some (pre++l.map (fun x=>0-x),(),())
 | [],pre,hx,hn=>by
  refine itR ?_;unfold JZ;dsimp only;have c:decide ((pre.length:Int)<(((pre++ []):List Int).length:Int))=false:=Ak (by simp);rw[c,if_neg (by decide)];simp
 |x::l,pre,hx,hn=>by
  simp only[List.length_cons]at hn;have w1:i64.wrap ((pre.length:Int)+1)=((pre++ [0-x]).length:Int):=by rw[BK (by omega) (by omega)];simp
  have c:decide ((pre.length:Int)<(((pre++x::l):List Int).length:Int))=true:=Al (by simp;omega);have hx0:=hx x (by simp);have e:=Po l (pre++ [0-x]) (fun y hy=>hx y (by simp[hy])) (by simp;omega);have hlen:((pre++ [0-x]++l).length:Int)=((pre++x::l).length:Int):=by simp
  rw[hlen]at e;refine(itL (s':=(((pre++x::l).length:Int),((pre++ [0-x]).length:Int),pre++ [0-x]++l,(),())) ?_).trans (e.trans (by simp));unfold JZ;dsimp only;rw[c,if_pos rfl,EN (by simp),bs,show(pre++x::l)[pre.length]? =some x by simp,ms,bs,BK (n:=0-x) (by omega) (by omega),bs,show(pre++x::l)[pre.length]? =some x by simp,ms,bs,w1];rw[show(pre++x::l).set pre.length (0-x)=pre++ [0-x]++l by rw[List.set_append_right _ _ (by simp)];simp]
noncomputable def Ek(ws:List Int)(a:Nat):List Int:=(share_split ((a:Int),ws.sum,ws)).getD []
noncomputable def BQ(ws:List Int)(c:Int):List Int:=if 0≤c then Ek ws c.toNat else(Ek ws (-c).toNat).map (fun x=>0-x)
structure Hp (ws:List Int):Prop where
 ne:ws≠ []
 len:ws.length≤64
 r:∀x∈ws,1≤x∧x≤1000000
theorem Iv{ws:List Int}(h:Hp ws){a:Nat}(ha:a≤1125899906842624):share_split ((a:Int),ws.sum,ws)=some (Ek ws a)∧(Ek ws a).length=ws.length∧(Ek ws a).sum=a∧∀x∈Ek ws a,0≤x∧x≤4503599627370496:=by
 obtain⟨g1,g2,g3⟩:=MJ h.ne h.len h.r;obtain⟨s,hs⟩:=Int.eq_ofNat_of_zero_le (show 0≤ws.sum by omega);obtain⟨out,o1,o2,o3,o4⟩:=Vn ha h.ne h.len h.r hs;have e:share_split ((a:Int),ws.sum,ws)=some out:=by rw[hs];exact o1
 have e2:Ek ws a=out:=by unfold Ek;rw[e];rfl
 rw[e2];exact⟨e,o2,o3,o4⟩
theorem QL:∀(l:List Int),(l.map fun x=>0-x).sum= -l.sum
 | []=>by simp
 |x::l=>by rw[List.map_cons,List.sum_cons,List.sum_cons,QL l];omega
theorem P9{ws:List Int}(h:Hp ws){c:Int}(hc: -1125899906842624≤c∧c≤1125899906842624):share_Split (c,ws)=some (BQ ws c,0)∧(BQ ws c).length=ws.length∧(BQ ws c).sum=c∧∀x∈BQ ws c,-4503599627370496≤x∧x≤4503599627370496:=by
 obtain⟨g1,g2,g3⟩:=MJ h.ne h.len h.r
 have hf:share_fits c=some true:=by
  unfold share_fits;dsimp only;simp only[gPi,gSS,gPb,gPm,gPs,gM,gM2,By,gOr,Bz,B3,gAA,gAO,gOA,gOO,Bv,Bx,B0,B2,Bw,B1,gId];try simp only[B9,BA,BB,BC,BD,BE,BF,BG,gId,B8,gMb,gMm,gBm,gBb,bs,ms]
  rw[Al (show c≥ -1125899906842624 by omega),if_pos rfl,Al (show c≤1125899906842624 by omega)]
 unfold share_Split BQ;dsimp only;rw[hf,bs,if_neg (by decide),g1,bs];dsimp only;rw[if_neg (by decide)];by_cases h0:0≤c
 ·obtain⟨n,rfl⟩:=Int.eq_ofNat_of_zero_le h0;obtain⟨k1,k2,k3,k4⟩:=Iv h (a:=n) (by omega);rw[Al h0,if_pos rfl,if_pos h0,Cx (by omega) (by omega),k1,bs,Int.toNat_natCast];exact⟨rfl,k2,k3,fun x hx=>by have:=k4 x hx;omega⟩
 ·obtain⟨n,hn⟩:=Int.eq_ofNat_of_zero_le (show 0≤ -c by omega);obtain⟨k1,k2,k3,k4⟩:=Iv h (a:=n) (by omega);rw[Ak h0,if_neg (by decide),if_neg h0,BK (n:=0-c) (by omega) (by omega),show 0-c=(n:Int) by omega,Cx (by omega) (by omega),k1,bs];have e:=Po (Ek ws n) [] k4 (by simp;rw[k2];exact h.len);simp only[List.nil_append,List.length_nil]at e;rw[show((0:Nat):Int)=0 from rfl]at e;rw[e,bs,hn,Int.toNat_natCast];refine⟨rfl,by simp[k2],by rw[QL,k3];omega,fun x hx=> ?_⟩;obtain⟨y,hy,rfl⟩:=List.mem_map.1 hx;have:=k4 y hy;omega
end WB
