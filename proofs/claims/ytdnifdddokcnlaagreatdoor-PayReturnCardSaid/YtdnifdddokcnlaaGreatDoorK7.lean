/-
  OWN TEXTS, MERGED (wip/merge.py): Piter, Pgd, Pfold, Pu64, Pdg, LibJn, LibIt, LibPx, LibCt, LibTr, LibIx, LibBf, LibCl, LibGr. No condition of their own.
-/
import Derived.Test.YtdnifdddokcnlaaGreatDoorK6
import Derived.Lib.Mul64
import Derived.Laws.Bits64b
import Derived.Laws.BitsLemmas
import Derived.Lib.ItoaNum
import Derived.Lib.Join
import Derived.Shelf.Pu.ParseUintPublic10
import Derived.Lib.SmallJoins
import Derived.Lib.AtoiErrMem
import Derived.Lib.SlTrimSet
import Derived.Lib.IndexAny
import Derived.Lib.Index
import Derived.Lib.Replace
import Derived.Lib.AppendZerosOnto
set_option linter.unusedVariables false
set_option linter.unusedSimpArgs false
open Go.IntKind (i64 u64 u8 u32)
namespace WB
open Go Go.RowKit
theorem bs{α β:Type}(a:α)(f:α→Option β):(some a).bind f=f a:=(Option.bind_some a f).trans (Eq.refl _)
theorem ms{α β:Type}(a:α)(f:α→β):(some a).map f=some (f a):=(Option.map_some (f:=f) (a:=a)).trans (Eq.refl _)
theorem Ct{α:Type}{xs:List α}{i:Nat}{a:α}(h:xs[i]? =some a):lAt xs (i:Int)=some a:=by
 have:=(Ae.1 h).1;unfold lAt;rw[if_pos ⟨by omega,by omega⟩];simpa using h
theorem Gs{s:List UInt8}{i:Nat}{b:UInt8}(h:s[i]? =some b):sAt s (i:Int)=some (b.toNat:Int):=by
 have:=(Ae.1 h).1;unfold sAt;rw[if_pos ⟨by omega,by omega⟩];simp[h]
theorem De{α:Type}{xs:List α}{i j:Nat}(h1:i≤j)(h2:j≤xs.length):AJ xs (i:Int) (j:Int)=some ((xs.take j).drop i):=by
 unfold AJ;rw[if_pos ⟨by omega,by omega,by omega⟩];simp
theorem AR{n:Int}(h1: -9223372036854775808≤n)(h2:n≤9223372036854775807):i64.wrap n=n:=Go.IntWalk.i64_in n ⟨h1,h2⟩
section
variable {α β γ δ:Type} {p:Prop} [Decidable p]
theorem gPb(X:Option α)(f:α→Option β):(if p then X else none).bind f=if p then X.bind f else none:=by by_cases h:p<;>simp[h]
theorem gPm(X:Option α)(f:α→β):(if p then X else none).map f=if p then X.map f else none:=by by_cases h:p<;>simp[h]
theorem gPs(Y Z:Option β)(W:Option β):(if p then(if p then Z else W)else Y)=if p then Z else Y:=by by_cases h:p<;>simp[h]
theorem gM(A:Option α)(B:Option α→Option β)(K:Option β→Option γ):(Option.bind (if p then A.map some else some none) fun x=>Option.bind (if p then(B x).map some else some none) K)=Option.bind (if p then(A.bind fun v=>B (some v)).map some else some none) K:=by by_cases h:p<;>cases A<;>simp[h]
theorem gM2(A:Option α)(B:Option α→Option β)(C:Option α→Option β→Option γ)(K:Option γ→Option δ):(Option.bind (if p then A.map some else some none) fun x=>Option.bind (if p then(B x).map some else some none) fun y=>Option.bind (if p then(C x y).map some else some none) K)=Option.bind (if p then(A.bind fun v=>(B (some v)).bind fun w=>C (some v) (some w)).map some else some none) K:=by
 by_cases h:p
 ·cases A with
  |none=>simp[h]
  |some v=>simp only[h,if_true,Option.map_some,Option.bind_some];cases B (some v)<;>simp
 ·simp[h]
theorem Bm(c:Bool)(A:Option α)(B:Option α→Option Bool)(K:Bool→Option β):(Option.bind (if c=true then A.map some else some none) fun x=>Option.bind (if c=true then B x else some false) K)=Option.bind (if c=true then A.bind fun v=>B (some v)else some false) K:=by cases c<;>cases A<;>simp
theorem gOr(c:Bool)(A:Option α)(B:Option α→Option Bool)(K:Bool→Option β):(Option.bind (if c=false then A.map some else some none) fun x=>Option.bind (if c=true then some true else B x) K)=Option.bind (if c=true then some true else A.bind fun v=>B (some v)) K:=by cases c<;>cases A<;>simp
theorem Bn(A B:Option Bool)(K:Option Bool→Option β):(Option.bind (if p then A.map some else some none) fun g=>Option.bind (if g=some true then B.map some else some none) fun x=>Option.bind (if p then(g.bind fun z=>if z=true then x else some false).map some else some none) K)=Option.bind (if p then(A.bind fun z=>if z=true then B else some false).map some else some none) K:=by
 by_cases h:p
 ·cases A with
  |none=>simp[h]
  |some v=>cases v<;>cases B<;>simp[h]
 ·simp[h]
theorem Br(A B:Option Bool)(K:Option Bool→Option β):(Option.bind (if p then A.map some else some none) fun g=>Option.bind (if g=some false then B.map some else some none) fun x=>Option.bind (if p then(g.bind fun z=>if z=true then some true else x).map some else some none) K)=Option.bind (if p then(A.bind fun z=>if z=true then some true else B).map some else some none) K:=by
 by_cases h:p
 ·cases A with
  |none=>simp[h]
  |some v=>cases v<;>cases B<;>simp[h]
 ·simp[h]
theorem gAA(c:Bool)(A:Option Bool)(B:Option α)(C:Option α→Option Bool)(K:Bool→Option β):(Option.bind (if c=true then A.map some else some none) fun g=>Option.bind (if g=some true then B.map some else some none) fun x=>Option.bind (if c=true then g.bind fun z=>if z=true then C x else some false else some false) K)=Option.bind (if c=true then A.bind fun z=>if z=true then B.bind fun v=>C (some v)else some false else some false) K:=by
 cases c<;>cases A<;>first|(simp;done)|(rename_i v;cases v<;>cases B<;>simp)
theorem gAO(c:Bool)(A:Option Bool)(B:Option α)(C:Option α→Option Bool)(K:Bool→Option β):(Option.bind (if c=false then A.map some else some none) fun g=>Option.bind (if g=some true then B.map some else some none) fun x=>Option.bind (if c=true then some true else g.bind fun z=>if z=true then C x else some false) K)=Option.bind (if c=true then some true else A.bind fun z=>if z=true then B.bind fun v=>C (some v)else some false) K:=by
 cases c<;>cases A<;>first|(simp;done)|(rename_i v;cases v<;>cases B<;>simp)
theorem gOA(c:Bool)(A:Option Bool)(B:Option α)(C:Option α→Option Bool)(K:Bool→Option β):(Option.bind (if c=true then A.map some else some none) fun g=>Option.bind (if g=some false then B.map some else some none) fun x=>Option.bind (if c=true then g.bind fun z=>if z=true then some true else C x else some false) K)=Option.bind (if c=true then A.bind fun z=>if z=true then some true else B.bind fun v=>C (some v)else some false) K:=by
 cases c<;>cases A<;>first|(simp;done)|(rename_i v;cases v<;>cases B<;>simp)
theorem gOO(c:Bool)(A:Option Bool)(B:Option α)(C:Option α→Option Bool)(K:Bool→Option β):(Option.bind (if c=false then A.map some else some none) fun g=>Option.bind (if g=some false then B.map some else some none) fun x=>Option.bind (if c=true then some true else g.bind fun z=>if z=true then some true else C x) K)=Option.bind (if c=true then some true else A.bind fun z=>if z=true then some true else B.bind fun v=>C (some v)) K:=by
 cases c<;>cases A<;>first|(simp;done)|(rename_i v;cases v<;>cases B<;>simp)
theorem Bj(c:Bool)(A:Option Bool)(B:Option α)(C:Option α→Option Bool)(F:Bool→Option Bool)(K:Bool→Option β):(Option.bind (if c=true then A.map some else some none) fun g=>Option.bind (if g=some true then B.map some else some none) fun x=>Option.bind (if c=true then(g.bind fun z=>if z=true then C x else some false).bind F else some false) K)=Option.bind (if c=true then(A.bind fun z=>if z=true then B.bind fun v=>C (some v)else some false).bind F else some false) K:=by
 cases c<;>cases A<;>first|(simp;done)|(rename_i v;cases v<;>cases B<;>simp)
theorem Bl(c:Bool)(A:Option Bool)(B:Option α)(C:Option α→Option Bool)(F:Bool→Option Bool)(K:Bool→Option β):(Option.bind (if c=false then A.map some else some none) fun g=>Option.bind (if g=some true then B.map some else some none) fun x=>Option.bind (if c=true then some true else(g.bind fun z=>if z=true then C x else some false).bind F) K)=Option.bind (if c=true then some true else(A.bind fun z=>if z=true then B.bind fun v=>C (some v)else some false).bind F) K:=by
 cases c<;>cases A<;>first|(simp;done)|(rename_i v;cases v<;>cases B<;>simp)
theorem Bo(c:Bool)(A:Option Bool)(B:Option α)(C:Option α→Option Bool)(F:Bool→Option Bool)(K:Bool→Option β):(Option.bind (if c=true then A.map some else some none) fun g=>Option.bind (if g=some false then B.map some else some none) fun x=>Option.bind (if c=true then(g.bind fun z=>if z=true then some true else C x).bind F else some false) K)=Option.bind (if c=true then(A.bind fun z=>if z=true then some true else B.bind fun v=>C (some v)).bind F else some false) K:=by
 cases c<;>cases A<;>first|(simp;done)|(rename_i v;cases v<;>cases B<;>simp)
theorem Bq(c:Bool)(A:Option Bool)(B:Option α)(C:Option α→Option Bool)(F:Bool→Option Bool)(K:Bool→Option β):(Option.bind (if c=false then A.map some else some none) fun g=>Option.bind (if g=some false then B.map some else some none) fun x=>Option.bind (if c=true then some true else(g.bind fun z=>if z=true then some true else C x).bind F) K)=Option.bind (if c=true then some true else(A.bind fun z=>if z=true then some true else B.bind fun v=>C (some v)).bind F) K:=by
 cases c<;>cases A<;>first|(simp;done)|(rename_i v;cases v<;>cases B<;>simp)
theorem Bk(A:Option Bool)(B:Option α)(C:Option α→Option Bool)(F:Bool→Option γ)(K:Option γ→Option β):(Option.bind (if p then A.map some else some none) fun g=>Option.bind (if g=some true then B.map some else some none) fun x=>Option.bind (if p then((g.bind fun z=>if z=true then C x else some false).bind F).map some else some none) K)=Option.bind (if p then((A.bind fun z=>if z=true then B.bind fun v=>C (some v)else some false).bind F).map some else some none) K:=by
 by_cases h:p<;>cases A<;>first|(simp[h];done)|(rename_i v;cases v<;>cases B<;>simp[h])
theorem Bp(A:Option Bool)(B:Option α)(C:Option α→Option Bool)(F:Bool→Option γ)(K:Option γ→Option β):(Option.bind (if p then A.map some else some none) fun g=>Option.bind (if g=some false then B.map some else some none) fun x=>Option.bind (if p then((g.bind fun z=>if z=true then some true else C x).bind F).map some else some none) K)=Option.bind (if p then((A.bind fun z=>if z=true then some true else B.bind fun v=>C (some v)).bind F).map some else some none) K:=by
 by_cases h:p<;>cases A<;>first|(simp[h];done)|(rename_i v;cases v<;>cases B<;>simp[h])
theorem Bx(A:Option α)(X Y:α→Option β)(R:α→β→Option γ)(Z:Option γ):(if p then(A.bind fun v=>(if p then X v else Y v).bind (R v))else Z)=if p then(A.bind fun v=>(X v).bind (R v))else Z:=by by_cases h:p<;>simp[h]
theorem By(A:Option α)(X Y:α→Option β)(R:α→β→γ)(Z:Option γ):(if p then(A.bind fun v=>(if p then X v else Y v).map (R v))else Z)=if p then(A.bind fun v=>(X v).map (R v))else Z:=by by_cases h:p<;>simp[h]
theorem Bz(X Y:Option β)(R:β→Option γ)(Z:Option γ):(if p then((if p then X else Y).bind R)else Z)=if p then(X.bind R)else Z:=by by_cases h:p<;>simp[h]
theorem B0(X Y:Option β)(R:β→γ)(Z:Option γ):(if p then((if p then X else Y).map R)else Z)=if p then(X.map R)else Z:=by by_cases h:p<;>simp[h]
theorem B1(c:Bool)(X Y:Option β)(R:β→Option γ)(Z:Option γ):(if c=true then Z else((if c=false then X else Y).bind R))=if c=true then Z else X.bind R:=by cases c<;>simp
theorem B2(c:Bool)(A:Option α)(X Y:α→Option β)(R:α→β→Option γ)(Z:Option γ):(if c=true then Z else(A.bind fun v=>(if c=false then X v else Y v).bind (R v)))=if c=true then Z else(A.bind fun v=>(X v).bind (R v)):=by cases c<;>simp
theorem B3(c:Bool)(A:Option α)(X Y:α→Option β)(R:α→β→γ)(Z:Option γ):(if c=true then Z else(A.bind fun v=>(if c=false then X v else Y v).map (R v)))=if c=true then Z else(A.bind fun v=>(X v).map (R v)):=by cases c<;>simp
theorem B4(c:Bool)(X Y:Option β)(R:β→γ)(Z:Option γ):(if c=true then Z else((if c=false then X else Y).map R))=if c=true then Z else X.map R:=by cases c<;>simp
theorem gPi(X:Option α)(Y W:α→Option β)(Z:Option β):(if p then(X.bind fun z=>if p then Y z else W z)else Z)=if p then X.bind Y else Z:=by by_cases h:p<;>simp[h]
theorem gSS(v:α)(Z:Option (Option α)):(if p then some (some v)else Z)=if p then(some v).map some else Z:=rfl
theorem gId(X:Option α):X.map (fun z=>z)=X:=by cases X<;>rfl
theorem Bw(X:Option α):(X.bind fun z=>some z)=X:=by cases X<;>rfl
theorem gMb(X:Option α)(f:α→β)(g:β→Option γ):(X.map f).bind g=X.bind fun v=>g (f v):=by cases X<;>rfl
theorem gMm(X:Option α)(f:α→β)(g:β→γ):(X.map f).map g=X.map fun v=>g (f v):=by cases X<;>rfl
theorem gBm(X:Option α)(f:α→Option β)(g:β→γ):(X.bind f).map g=X.bind fun v=>(f v).map g:=by cases X<;>rfl
theorem gBb(X:Option α)(f:α→Option β)(g:β→Option γ):(X.bind f).bind g=X.bind fun v=>(f v).bind g:=by cases X<;>rfl
end
def A3{α A T:Type}(step:A→α→A⊕T)(fin:A→T):A→List α→T
 |a,[]=>fin a
 |a,x::l=>match step a x with
  | .inl a'=>A3 step fin a' l
  | .inr t=>t
def Gx{S A T:Type}(mk:A→S):A⊕T→S⊕T
 | .inl a=>.inl (mk a)
 | .inr t=>.inr t
theorem Qe{α S T A:Type}{b:S→Option (S⊕T)}(mk:Nat→A→S)(step:A→α→A⊕T)(fin:A→T)(I:Nat→A→Prop)(l0:List α)
  (hs:∀i x a,l0[i]? =some x→I i a→b (mk i a)=some (Gx (mk (i+1)) (step a x)))
  (hI:∀i x a a',l0[i]? =some x→I i a→step a x=.inl a'→I (i+1) a')
  (he:∀a,I l0.length a→b (mk l0.length a)=some (.inr (fin a))):
  ∀(l:List α) (i:Nat) (a:A),l0.drop i=l→i≤l0.length→I i a→iter b (mk i a)=some (A3 step fin a l)
 | [],i,a,hd,hi,h=>by
  have:i=l0.length:=by
   have:=congrArg List.length hd;simp at this;omega
  subst this;rw[Ck,he a h];rfl
 |x::l,i,a,hd,hi,h=>by
  have hx:l0[i]? =some x:=by
   have:=congrArg (fun q=>q[0]?) hd;simpa using this
  have hlt:i<l0.length:=(Ae.1 hx).1;rw[Ck,hs i x a hx h]
  cases hst:step a x with
  |inl a'=>
   have e:=Qe mk step fin I l0 hs hI he l (i+1) a' (by rw[←List.tail_drop,hd];rfl) hlt (hI i x a a' hx h hst);show iter b (mk (i+1) a')=_;rw[e,A3,hst]
  |inr t=>
   show some t=_;rw[A3,hst]
theorem DU{α S T A:Type}{b:S→Option (S⊕T)}(mk:Nat→A→S)(step:A→α→A⊕T)(fin:A→T)(I:Nat→A→Prop)(l:List α){a:A}(h:I 0 a)
  (hs:∀i x a,l[i]? =some x→I i a→b (mk i a)=some (Gx (mk (i+1)) (step a x)))
  (hI:∀i x a a',l[i]? =some x→I i a→step a x=.inl a'→I (i+1) a')
  (he:∀a,I l.length a→b (mk l.length a)=some (.inr (fin a))):iter b (mk 0 a)=some (A3 step fin a l):=
 Qe mk step fin I l hs hI he l 0 a rfl (by omega) h
theorem CC{α:Type}{l:List α}{i:Nat}{x:α}(h:l[i]? =some x):decide ((i:Int)<(l.length:Int))=true:=
 Al (by have:=(Ae.1 h).1;omega)
theorem CP{α:Type}(l:List α):decide ((l.length:Int)<(l.length:Int))=false:=Ak (by omega)
theorem Cb{i:Nat}(h:i<9223372036854775807):i64.wrap ((i:Int)+1)=((i+1:Nat):Int):=by
 rw[AR (by omega) (by omega)];simp
theorem Lv{α:Type}{xs ys:List α}{k:Int}(hx:xs.length+ys.length≤1000000)(hk:0≤k∧k≤1000){β:Type}{f:Option β}:
  (if((xs.length:Int)+(ys.length:Int))*k≤140737488355328∧(xs.length:Int)+(ys.length:Int)≤4611686018427387904 then f else none)=f:=by
 rw[if_pos];refine⟨?_,by omega⟩;have h1:((xs.length:Int)+(ys.length:Int))*k≤1000000*1000:=Int.mul_le_mul (by omega) hk.2 hk.1 (by omega);omega
theorem Jx{α β T:Type}(f:α→List β)(fin:List β→T):∀(l:List α) (a:List β),A3 (fun a x=>Sum.inl (a++f x)) fin a l=fin (a++l.flatMap f)
 | [],a=>by simp[A3]
 |x::l,a=>by rw[A3];simp only;rw[Jx f fin l (a++f x)];simp
theorem XZ{n:Nat}(h:n<18446744073709551616):u64.wrap (n:Int)=(n:Int):=by rw[IntKind.wrap_u64];omega
theorem Ya{n:Int}(h1:0≤n)(h2:n<18446744073709551616):u64.wrap n=n:=by rw[IntKind.wrap_u64];omega
def dgt(b:UInt8):Bool:= !(decide ((b.toNat:Int)<48)||decide ((b.toNat:Int)>57))
def AE(a:Nat)(s:List UInt8):Nat:=s.foldl (fun a c=>a*10+(c.toNat-48)) a
theorem JV:∀(s:List UInt8) (a:Nat),a≤AE a s
 | [],a=>Nat.le_refl _
 |c::s,a=>by
  have:=JV s (a*10+(c.toNat-48));show a≤AE (a*10+(c.toNat-48)) s;omega
theorem Dp{b:UInt8}:dgt b=true↔48≤b.toNat∧b.toNat≤57:=by
 unfold dgt;by_cases h1:(b.toNat:Int)<48<;>by_cases h2:(b.toNat:Int)>57<;>simp[h1,h2]<;>omega
def Cx(s:List UInt8):Bool:= !(s== [])&& !(decide ((s.length:Int)>1)&&s.head? ==some 48)&&s.all dgt
theorem QJ(a:Nat)(s:List UInt8)(b:UInt8):AE a (s++ [b])=AE a s*10+(b.toNat-48):=by simp[AE]
def Ij(w:List UInt8):Bool:=decide ((w.length:Int)>1)&&w.head? ==some 48
theorem LA(w:List UInt8)(h:w.all dgt=true):Cx w=(!(w== [])&& !Ij w):=by
 unfold Cx Ij;rw[h,Bool.and_true]
def dg9(n:Nat):UInt8:=UInt8.ofNat (48+n)
theorem FV{n:Nat}(h:n<10):(dg9 n).toNat=48+n:=by
 unfold dg9;show(48+n)% 256=48+n;omega
theorem Jl{n:Nat}(h:n<10):dgt (dg9 n)=true:=Dp.2 (by rw[FV h];omega)
theorem DC{n:Nat}(h:n<10):Lib.decDigits n= [dg9 n]:=Lib.decDigits_one h
theorem FW{n:Nat}(h:¬n<10):Lib.decDigits n=Lib.decDigits (n/10)++ [dg9 (n % 10)]:=by rw[Lib.decDigits,dif_neg h];rfl
theorem Pv:∀(n:Nat),(Lib.decDigits n).all dgt=true:=by
 intro n
 induction n using Nat.strongRecOn with
 |_ n ih=>
  by_cases h:n<10
  ·rw[DC h];simp[Jl h]
  ·rw[FW h,List.all_append,ih _ (by omega)];have h2:n % 10<10:=Nat.mod_lt _ (by omega);simp[Jl h2]
theorem HE(n:Nat):Lib.decDigits n≠ []:=by
 by_cases h:n<10
 ·rw[DC h];simp
 ·rw[FW h];simp
theorem Fu:∀(n:Nat),AE 0 (Lib.decDigits n)=n:=by
 intro n
 induction n using Nat.strongRecOn with
 |_ n ih=>
  by_cases h:n<10
  ·rw[DC h];show 0*10+((dg9 n).toNat-48)=n;rw[FV h];omega
  ·rw[FW h,QJ,ih (n/10) (by omega),FV (Nat.mod_lt _ (by omega))];omega
theorem Va{α:Type}{l m:List α}(h:l≠ []):(l++m).head? =l.head? :=by
 cases l with
 |nil=>exact absurd rfl h
 |cons _ _=>rfl
theorem TZ{n:Nat}(h:0<n):(Lib.decDigits n).head? ≠some 48:=by
 induction n using Nat.strongRecOn with
 |_ n ih=>
  by_cases h9:n<10
  ·rw[DC h9];intro e;have:(dg9 n).toNat=48:=by simp at e;rw[e];rfl
   rw[FV h9]at this;omega
  ·rw[FW h9,Va (HE _)];exact ih _ (by omega) (by omega)
theorem Pt{b:UInt8}(h:dgt b=true):dg9 (b.toNat-48)=b:=by
 have h3:=Dp.1 h;apply UInt8.toNat_inj.1;rw[FV (by omega)];omega
theorem VR:∀{s:List UInt8} {a:Nat},0<a→0<AE a s:=fun{s a} h=>Nat.lt_of_lt_of_le h (JV s a)
theorem VQ{c:UInt8}{s:List UInt8}(h:dgt c=true)(h0:c≠48):0<AE 0 (c::s):=by
 have h3:=Dp.1 h;have:c.toNat≠48:=fun e=>h0 (UInt8.toNat_inj.1 e);exact VR (s:=s) (a:=0*10+(c.toNat-48)) (by omega)
theorem OK(n:Nat):Cx (Lib.decDigits n)=true:=by
 rw[LA _ (Pv n)];have h1:(Lib.decDigits n== [])=false:=by simpa using HE n
 rw[h1];unfold Ij;by_cases h:n<10
 ·rw[DC h];rfl
 ·have h2:=TZ (n:=n) (by omega);have:((Lib.decDigits n).head? ==some 48)=false:=by simpa using h2
  rw[this];simp
theorem Ub{D:List UInt8}:Cx D=true→Lib.decDigits (AE 0 D)=D:=by
 induction hn:D.length using Nat.strongRecOn generalizing D with
 |_ n ih=>
  intro hc
  have hd:D.all dgt=true:=by
   unfold Cx at hc;simp only[Af]at hc;exact hc.2
  rw[LA D hd]at hc;simp only[Af,Bool.not_eq_true',beq_eq_false_iff_ne]at hc;rcases List.eq_nil_or_concat D with rfl|⟨Q,x,rfl⟩
  ·exact absurd rfl hc.1
  ·simp only[List.concat_eq_append]at*;rw[List.all_append,Af]at hd;replace hd:Q.all dgt=true∧dgt x=true:=⟨hd.1,by simpa using hd.2⟩;have hx:=Dp.1 hd.2;rw[QJ];by_cases hQ:Q= []
   ·subst hQ;have:AE 0 []*10+(x.toNat-48)=x.toNat-48:=by show 0*10+_=_;omega
    rw[this,DC (by omega),Pt hd.2];rfl
   ·cases Q with
    |nil=>exact absurd rfl hQ
    |cons q Q=>
     have hq:q≠48:=by
      intro e;have:=hc.2;unfold Ij at this;rw[e]at this;simp at this;omega
     have hd1:=hd.1;simp only[List.all_cons,Af]at hd1;have hp:=VQ (s:=Q) hd1.1 hq
     have hcQ:Cx (q::Q)=true:=by
      rw[LA _ hd.1];unfold Ij;have:((q::Q).head? ==some 48)=false:=by simpa using hq
      rw[this];simp
     have i:=ih (q::Q).length (by rw[←hn];simp) rfl hcQ;rw[FW (by omega),show(AE 0 (q::Q)*10+(x.toNat-48))/10=AE 0 (q::Q) by omega,show(AE 0 (q::Q)*10+(x.toNat-48))% 10=x.toNat-48 by omega,i,Pt hd.2]
theorem Ua{m n:Nat}(h:Lib.decDigits m=Lib.decDigits n):m=n:=by rw[←Fu m,h,Fu]
theorem Es:∀{n k:Nat},0<k→n<10^k→(Lib.decDigits n).length≤k:=by
 intro n k
 induction k generalizing n with
 |zero=>intro h;omega
 |succ k ih=>
  intro _ h;by_cases h9:n<10
  ·rw[DC h9];simp
  ·rw[FW h9,List.length_append]
   have:0<k:=by
    rcases Nat.eq_zero_or_pos k with rfl|h0
    ·simp at h;omega
    ·exact h0
   have:=ih (n:=n/10) this (by rw[Nat.pow_succ]at h;omega);simp only[List.length_singleton];omega
theorem Ap.len{α:Type}{p:α→CV→Prop}:∀{xs:List α} {es:List CV},Ap p xs es→es.length=xs.length
 | [],es,h=>by unfold Ap at h;subst h;rfl
 |x::xs,es,h=>by
  unfold Ap at h;obtain⟨c,es',rfl,_,h2⟩:=h;simp[Ap.len h2]
theorem Su{w:World}{M:MM}{ad:Addr}{size:Nat}:∀{xs:List (List UInt8)} {es:List CV} {i:Nat},Ap (fun x c=>Can .str x [c]) xs es→AG w M ad size i es→∀(j:Nat) s,xs[j]? =some s→w.cell? (ad.add (i+j))=some (.string ⟨⟨s⟩⟩)
 | [],es,i,_,_,j,s,hj=>by simp at hj
 |x::xs,es,i,h,hr,j,s,hj=>by
  unfold Ap at h;obtain⟨c,es',rfl,h1,h2⟩:=h;unfold Can at h1;cases h1;unfold AG at hr;obtain⟨⟨v,g1,g2,g3⟩,hr⟩:=hr;unfold RelC at g1;subst g1;have hs:size=1:=by rw[←g2];rfl
  subst hs
  cases j with
  |zero=>
   simp only[List.getElem?_cons_zero,Ac]at hj;subst hj;have:=g3 0 (.string ⟨⟨x⟩⟩) rfl;rw[Nat.mul_one]at this;exact this
  |succ j=>
   have:=Su h2 hr j s (by simpa using hj);rw[show i+(j+1)=i+1+j by omega];exact this
def strings_Join:List (List UInt8)×List UInt8→Option (List UInt8):=fun x=>if(Lib.join x.1 x.2).length≤140737488355328∧x.1.length≤140737488355328 then some (Lib.join x.1 x.2)else none
theorem Xh{P:Program}{B:TB}{f:Nat}(hb:hasBody P f=true)
  (hn:∀(a:Option Addr) (c:Nat) (sep:ByteArray) (w:World),Calls P f #[.slice a 0 c,.string sep] w fun e w'=>e=.returned (.string ⟨#[]⟩)∧w'=w)
  (hc:∀(bk o c:Nat) (xs:List ByteArray) (sep:ByteArray) (w:World) (_:∀(j:Nat) x,xs[j]? =some x→w.cell? ⟨bk,o+j,none⟩=some (.string x)) (_:bk<w.heap.size) (_:xs.length≤140737488355328) (_:xs.length≤c) (_:(Lib.join (xs.map (·.data.toList)) sep.data.toList).length≤140737488355328),
   Calls P f #[.slice (some ⟨bk,o,none⟩) xs.length c,.string sep] w fun e w'=>e=.returned (.string ⟨(Lib.join (xs.map (·.data.toList)) sep.data.toList).toArray⟩)∧Below w.heap.size w w')
  {x:D (.cons (.sl .str) (.one .str))} {l:List CV} {y:D .str} (hx:Can (.cons (.sl .str) (.one .str)) x l) (hy:strings_Join x=some y):hasBody P f=true∧CallsTo P B.G f l (.val (enc .str y)):=by
 refine⟨hb,fun w M vs hM hGk hL=> ?_⟩;obtain⟨xs,sep⟩:=x;simp only[strings_Join]at hy;split at hy
 ·rename_i h;obtain⟨h0,h1⟩:=h;cases hy;unfold Can at hx;obtain⟨c1,l',rfl,h2,h3⟩:=hx;unfold Can at h2 h3;obtain⟨nl,es,h4,h5⟩:=h2;obtain⟨c',rfl,h3⟩:=h3;unfold Can at h3;cases h3;cases h4;have hlen:=h5.len;unfold RelL RelC at hL;obtain⟨v,vs',rfl,⟨a,n,c,rfl,g1,g2,g3,g4,g5,g6⟩,hL⟩:=hL;unfold RelL RelC at hL;obtain⟨v,vs',rfl,rfl,hL⟩:=hL;unfold RelL at hL;subst hL
  cases xs with
  |nil=>
   have hes:es= []:=List.eq_nil_of_length_eq_zero (by simpa using hlen);subst hes;simp only[List.length_nil]at g1;subst g1;refine(hn a c ⟨⟨sep⟩⟩ w).mono fun e w' he=> ?_;obtain⟨rfl,rfl⟩:=he;refine⟨_,rfl,Below.refl _ _, ?_⟩;simp[D6,enc,Av,RelC,Lib.join_nil]
  |cons x0 xr=>
   have hne:es≠ []:=by
    intro hh;rw[hh]at hlen;simp at hlen
   obtain⟨ad,size,rfl,k1,k2,k3⟩:=g6 hne;have hcell:=Su h5 k3;simp only[Nat.zero_add]at hcell
   have hspot:ad.spot=none:=by
    have:=hcell 0 x0 rfl;unfold World.cell? at this;rw[add_zero]at this;split at this
    ·split at this
     ·cases this
     ·rename_i hsp;simpa using hsp
    ·cases this
   obtain⟨bk,o,sp⟩:=ad;simp only at hspot k1;subst hspot;have hm:((x0::xr).map fun s=>(⟨⟨s⟩⟩:ByteArray)).map (·.data.toList)=x0::xr:=by simp[List.map_map,Function.comp_def]
   have:=hc bk o c ((x0::xr).map fun s=>⟨⟨s⟩⟩) ⟨⟨sep⟩⟩ w (fun j b hj=>by
    rw[List.getElem?_map,Aa]at hj;obtain⟨s,hs,rfl⟩:=hj;have:=hcell j s hs;unfold Addr.add at this;split at this
    ·rename_i hj0;rw[hj0];exact this
    ·exact this) k1 (by rw[List.length_map];exact h1) (by rw[List.length_map,←hlen,←g1];exact g2) (by rw[hm];exact h0)
   rw[hm,List.length_map,←hlen,←g1]at this;refine this.mono fun e w' he=> ?_;obtain⟨rfl,hbw⟩:=he;refine⟨_,rfl,hbw, ?_⟩;simp[D6,enc,Av,RelC]
 ·cases hy
def strconv_Itoa:Int→Option (List UInt8):=fun x=>if-9223372036854775808≤x∧x≤9223372036854775807 then some (Lib.itoa x)else none
theorem Xe{P:Program}{B:TB}{f:Nat}(hb:hasBody P f=true){g:Nat}(hg:P.globalNamed "internal/strconv.uint64pow10" =some g)(hG:B.G g=Lib.pow10Tab.map fun z=>CV.int .u64 z)
  (hc:∀(n:Int) (_: -9223372036854775808≤n) (_:n≤9223372036854775807) (w:World) (_:Lib.TabIs P w "internal/strconv.uint64pow10" .u64 Lib.pow10Tab),
   Calls P f #[.int .i64 n] w fun e w'=>e=.returned (.string ⟨(Lib.itoa n).toArray⟩)∧∃k os,w'=Sort.grow (w.drewN k) os)
  {x:D (.one (.int .i64))} {l:List CV} {y:D .str} (hx:Can (.one (.int .i64)) x l) (hy:strconv_Itoa x=some y):hasBody P f=true∧CallsTo P B.G f l (.val (enc .str y)):=by
 refine⟨hb,fun w M vs hM hGk hL=> ?_⟩;simp only[strconv_Itoa]at hy;split at hy
 ·rename_i h;obtain⟨h0,h1⟩:=h;cases hy;unfold Can at hx;obtain⟨c,rfl,hx⟩:=hx;unfold Can at hx;cases hx;unfold RelL RelC at hL;obtain⟨v,vs',rfl,rfl,hL⟩:=hL;unfold RelL at hL;subst hL;have htab:Lib.TabIs P w "internal/strconv.uint64pow10" .u64 Lib.pow10Tab:=hGk.tab hg hG (by simp[Lib.pow10Tab]);refine(hc x h0 h1 w htab).mono fun e w' he=> ?_;obtain⟨rfl,k,os,rfl⟩:=he;refine⟨_,rfl,Lib.below_grow _ _ (Nat.le_refl _) _ _, ?_⟩;simp[D6,enc,Av,RelC]
 ·cases hy
theorem Px.err_of{G:Nat→List CV}{w:World}{M:MM}(h:GOk G w M){g:Nat}(hG:G g= [.ifc]):∃te pe,w.cell? ⟨g,0,none⟩=some (.iface te pe):=by
 obtain⟨h1,_⟩:=h g (by rw[hG];simp);rw[hG]at h1;unfold RelC at h1;obtain⟨ad,vs,e,_,_,hl,hc⟩:=h1;cases e;unfold RelL RelC at hl;obtain⟨v,vs',rfl,⟨te,pe,rfl⟩,_⟩:=hl;refine⟨te,pe, ?_⟩;have:=hc 0 (.iface te pe) (by simp);simpa[Addr.add]using this
def IB:List UInt8×Int×Int→Option (Int×Bool):=fun x=>
 if x.2.1=10∧x.2.2=64∧x.1.length≤281474976710656 then some (match Lib.parseUintB 64 x.1 with| .ok n=>((n:Int),true)| .range=>(18446744073709551615,false)|_=>(0,false))else none
theorem Xf{P:Program}{B:TB}{f g0 g1:Nat}(hb:hasBody P f=true)(hg0:B.G g0= [.ifc])(hg1:B.G g1= [.ifc]){e8 t1 t2:TypeId}{n1:ByteArray}
  (h_ok:∀(s:ByteArray) (_:s.size≤9223372036854775806) (v:Nat) (_:Lib.parseUintB 64 s.data.toList=.ok v) (w:World),Calls P f #[.string s,.int .i64 10,.int .i64 64] w fun e w'=>e=.returned (.tuple #[.int .u64 v,.nilIface])∧(w'=w∨w'=Lib.bytesWorld w e8 s))
  (h_syn:∀(s:ByteArray) (_:s.size≤281474976710656) (_:Lib.parseUintB 64 s.data.toList=Lib.NumEnd.syntax) (ev:Value) (w:World) (_:w.cell? ⟨g0,0,none⟩=some ev) (_:ev=.nilIface∨∃te pe,ev=.iface te pe),Calls P f #[.string s,.int .i64 10,.int .i64 64] w fun e w'=>∃N,e=.returned (.tuple #[.int .u64 0,.iface t1 (.pointer (some ⟨N,0,none⟩))])∧w.heap.size≤N∧w'.heap[N]? =some (.cells #[.string n1,.string s,ev] t2 (0,0))∧Below w.heap.size w w')
  (h_rng:∀(s:ByteArray) (_:s.size≤281474976710656) (_:Lib.parseUintB 64 s.data.toList=Lib.NumEnd.range) (ev:Value) (w:World) (_:w.cell? ⟨g1,0,none⟩=some ev) (_:ev=.nilIface∨∃te pe,ev=.iface te pe),Calls P f #[.string s,.int .i64 10,.int .i64 64] w fun e w'=>∃N,e=.returned (.tuple #[.int .u64 18446744073709551615,.iface t1 (.pointer (some ⟨N,0,none⟩))])∧w.heap.size≤N∧w'.heap[N]? =some (.cells #[.string n1,.string s,ev] t2 (0,0))∧Below w.heap.size w w')
  {x:D (.cons .str (.cons (.int .i64) (.one (.int .i64))))} {l:List CV} {y:D (.tup (.cons (.int .u64) (.one .err)))} (hx:Can (.cons .str (.cons (.int .i64) (.one (.int .i64)))) x l) (hy:IB x=some y):
  hasBody P f=true∧CallsTo P B.G f l (.val (enc (.tup (.cons (.int .u64) (.one .err))) y)):=by
 refine⟨hb,fun w M vs hM hGk hL=> ?_⟩;obtain⟨te0,pe0,ev0⟩:=Px.err_of hGk hg0;obtain⟨te1,pe1,ev1⟩:=Px.err_of hGk hg1;obtain⟨s,b,k⟩:=x;simp only[IB]at hy;split at hy<;>(try cases hy;done);rename_i h;obtain⟨rfl,rfl,h1⟩:=h;simp only[Ac]at hy;unfold Can at hx;obtain⟨c1,l',rfl,h2,h3⟩:=hx;unfold Can at h2 h3;obtain⟨c2,l'',rfl,h4,h5⟩:=h3;unfold Can at h4 h5;obtain⟨c3,rfl,h6⟩:=h5;unfold Can at h6;cases h2;cases h4;cases h6;unfold RelL RelC at hL;obtain⟨v,vs',rfl,rfl,hL⟩:=hL;unfold RelL RelC at hL;obtain⟨v,vs',rfl,rfl,hL⟩:=hL;unfold RelL RelC at hL;obtain⟨v,vs',rfl,rfl,hL⟩:=hL;unfold RelL at hL;subst hL;have hsz:(⟨⟨s⟩⟩:ByteArray).size=s.length:=rfl;rcases hp:Lib.parseUintB 64 s with n|_|_
 ·
  rw[hp]at hy;subst hy;refine(h_ok ⟨⟨s⟩⟩ (by rw[hsz];omega) n hp w).mono fun e w' he=> ?_;obtain⟨rfl,hw⟩:=he
  have hbw:Below w.heap.size w w':=by
   rcases hw with rfl|rfl
   ·exact Below.refl _ _
   ·exact(by first|exact Lib.bytesWorld_below _ _ _|exact Go.Joins.below_bytesWorld _ _ _ _ (Nat.le_refl _)|exact below_bytesWorld _ _ _ _ (Nat.le_refl _))
  exact⟨_,rfl,hbw,_,rfl,_,_,rfl,rfl,_,_,rfl,rfl,rfl⟩
 ·
  rw[hp]at hy;subst hy;refine(h_syn ⟨⟨s⟩⟩ (by rw[hsz];exact h1) hp _ w ev0 (.inr ⟨_,_,rfl⟩)).mono fun e w' he=> ?_;obtain⟨N,rfl,_,_,hbw⟩:=he;exact⟨_,rfl,hbw,_,rfl,_,_,rfl,rfl,_,_,rfl,⟨_,_,rfl⟩,rfl⟩
 ·
  rw[hp]at hy;subst hy;refine(h_rng ⟨⟨s⟩⟩ (by rw[hsz];exact h1) hp _ w ev1 (.inr ⟨_,_,rfl⟩)).mono fun e w' he=> ?_;obtain⟨N,rfl,_,_,hbw⟩:=he;exact⟨_,rfl,hbw,_,rfl,_,_,rfl,rfl,_,_,rfl,⟨_,_,rfl⟩,rfl⟩
def IC:List UInt8×List UInt8→Option Int:=fun x=>match x.2 with
 | [c]=>some (x.1.count c:Int)
 |_=>none
theorem Xg{P:Program}{B:TB}{f:Nat}(hb:hasBody P f=true)
  (hc:∀(s:ByteArray) (c:UInt8) (w:World),Calls P f #[.string s,.string ⟨#[c]⟩] w fun e w'=>e=.returned (.int .i64 (Lib.countByte s.data.toList c))∧w'=w)
  {x:D (.cons .str (.one .str))} {l:List CV} {y:D (.int .i64)} (hx:Can (.cons .str (.one .str)) x l) (hy:IC x=some y):hasBody P f=true∧CallsTo P B.G f l (.val (enc (.int .i64) y)):=by
 refine⟨hb,fun w M vs hM hGk hL=> ?_⟩;rw[Rp hx hL];obtain⟨s,b⟩:=x;simp only[IC]at hy;split at hy<;>(try cases hy;done);rename_i c;cases hy;refine(hc ⟨⟨s⟩⟩ c w).mono fun e w' he=> ?_;obtain⟨rfl,rfl⟩:=he;refine⟨_,rfl,Below.refl _ _, ?_⟩;simp[D6,enc,Av,RelC,Lib.countByte]
theorem Ix.int_of{G:Nat→List CV}{w:World}{M:MM}(h:GOk G w M){g:Nat}{m:Int}(hG:G g= [.int .i64 m]):w.cell? ⟨g,0,none⟩=some (.int .i64 m):=by
 obtain⟨h1,_⟩:=h g (by rw[hG];simp);rw[hG]at h1;unfold RelC at h1;obtain⟨ad,vs,e,_,_,hl,hc⟩:=h1;cases e;unfold RelL RelC at hl;obtain⟨v,vs',rfl,rfl,_⟩:=hl;have:=hc 0 (.int .i64 m) (by simp);simpa[Addr.add]using this
def KZ:List UInt8×List UInt8→Option Int:=fun x=>match x.2 with
 | [c]=>some (Lib.indexByte x.1 c)
 |sub=>if x.1.length<4294967281 then some (Lib.index x.1 sub)else none
theorem Xj{P:Program}{B:TB}{f g:Nat}{m:Int}(hb:hasBody P f=true)(hG:B.G g= [.int .i64 m])
  (h1:∀(s:ByteArray) (c:UInt8) (w:World),Calls P f #[.string s,.string ⟨#[c]⟩] w fun e w'=>e=.returned (.int .i64 (Lib.indexByte s.data.toList c))∧w'=w)
  (hc:∀(s sub:ByteArray) (m:Int) (w:World) (_:s.size<4294967281) (_:w.cell? ⟨g,0,none⟩=some (.int .i64 m)),Calls P f #[.string s,.string sub] w fun e w'=>e=.returned (.int .i64 (Lib.index s.data.toList sub.data.toList))∧w'=w)
  {x:D (.cons .str (.one .str))} {l:List CV} {y:D (.int .i64)} (hx:Can (.cons .str (.one .str)) x l) (hy:KZ x=some y):hasBody P f=true∧CallsTo P B.G f l (.val (enc (.int .i64) y)):=by
 refine⟨hb,fun w M vs hM hGk hL=> ?_⟩;have hm:=Ix.int_of hGk hG;rw[Rp hx hL];obtain⟨s,b⟩:=x;unfold KZ at hy;split at hy
 ·rename_i c hcc;simp only at hcc;subst hcc;cases hy;refine(h1 ⟨⟨s⟩⟩ c w).mono fun e w' he=> ?_;obtain⟨rfl,rfl⟩:=he;refine⟨_,rfl,Below.refl _ _, ?_⟩;simp[D6,enc,Av,RelC]
 ·split at hy<;>(try cases hy;done);rename_i hs;cases hy;refine(hc ⟨⟨s⟩⟩ ⟨⟨b⟩⟩ m w hs hm).mono fun e w' he=> ?_;obtain⟨rfl,rfl⟩:=he;refine⟨_,rfl,Below.refl _ _, ?_⟩;simp[D6,enc,Av,RelC]
@[reducible] def bldΘ(N K T e:Nat):TC:= [(.o K,.buf e),(.c N 0,.v (.bptr N)),(.c N 1,.own K),(.o N,.box 2 (some T))]
def strings_Builder_WriteString(x:Unit×List UInt8)(θ:List UInt8×Unit×Unit×Unit×Unit):Option ((Int×Bool)×(List UInt8×Unit×Unit×Unit×Unit)):=
 if θ.1.length+x.2.length≤140737488355328 then some (((x.2.length:Int),true),(θ.1++x.2,(),(),(),()))else none
def strings_Builder_String(_:Unit)(θ:List UInt8×Unit×Unit×Unit×Unit):Option (List UInt8×(List UInt8×Unit×Unit×Unit×Unit)):=some (θ.1,θ)
noncomputable def writeF(N K T e:Nat):A9:=⟨bldΘ N K T e,.cons (.nam N) (.one .str),.tup (.cons (.int .i64) (.one .err)),strings_Builder_WriteString⟩
noncomputable def stringF(N K T e:Nat):A9:=⟨bldΘ N K T e,.one (.nam N),.str,strings_Builder_String⟩
def Gd(e size bytes:Nat):Fh:=⟨8,.seq (.reg false [] [⟨some 2,.mov (.k (.sl (some true) [])),none⟩]) (.seq (.seq (.reg false [] [⟨some 3,.mov (.t 0),none⟩,⟨some 4,.isnil 1 false (.t 3),none⟩]) (.cond (.t 4) (.seq (.reg false [] [⟨some 2,.mov (.k (.sl (some true) [])),none⟩]) .ret) .skip)) (.seq (.reg false [5] [⟨some 5,.mksl e size [],none⟩,⟨some 6,.mov (.t 0),none⟩,⟨some 7,.append e size bytes (.t 5) (.t 6),none⟩,⟨some 2,.mov (.t 7),none⟩]) .ret)),[.tmp 2]⟩
theorem T9{E:Env}{e size bytes:Nat}:pwp E (Gd e size bytes).code (fin (Gd e size bytes).res (.sl (some true) [])) (CO [.sl (some true) []]):=by
 unfold Gd;refine⟨_,rfl,_,rfl,true,rfl,fun _=>⟨_,rfl, ?_⟩,fun h=>by cases h⟩;exact PK rfl
theorem T8{E:Env}{e size bytes:Nat}{es:List CV}{st:St}(h0:st.fr 0=.c (.sl (some false) es))(h1:(es.all fun v=>AP v==size)=true)(h2:(es.all fun v=>v.cells.all BY)=true)(h3:es.length*bytes≤140737488355328)(h4:es.length≤4611686018427387904):
  ∃st',BF E false [5] [⟨some 5,.mksl e size [],none⟩,⟨some 6,.mov (.t 0),none⟩,⟨some 7,.append e size bytes (.t 5) (.t 6),none⟩,⟨some 2,.mov (.t 7),none⟩] st=some st'∧st'.fr 2=.osl 5∧st'.ob 5=.arr e size es:=by
 have hc:(((es.all fun v=>AP v==size)&&es.all fun v=>v.cells.all BY)=true):=by rw[h1,h2];rfl
 have hk:(kill [5] st).ob 5=.none:=by simp[kill]
 have hk0:(kill [5] st).fr 0=.c (.sl (some false) es):=JA h0
 have a1:As E none ⟨some 5,.mksl e size [],none⟩ (kill [5] st)=some {fr:=upd (kill [5] st).fr 5 (.osl 5),ob:=upd (kill [5] st).ob 5 (.arr e size [])}:=by
  simp only[As,Aw,SOp.cls,AT,Ao,Option.bind_some,List.all_nil,if_true,Option.getD_some,AU,hk]
 generalize hs1:({fr:=upd (kill [5] st).fr 5 (.osl 5),ob:=upd (kill [5] st).ob 5 (.arr e size [])}:St)=s1 at a1;have b1:s1.fr 0=.c (.sl (some false) es):=by subst hs1;simp[upd,hk0]
 have b2:s1.fr 5=.osl 5:=by subst hs1;simp[upd]
 have b3:s1.ob 5=.arr e size []:=by subst hs1;simp[upd]
 have a2:As E none ⟨some 6,.mov (.t 0),none⟩ s1=some (s1.set (some 6) (.c (.sl (some false) es))):=by
  have:so E.G s1.fr (.t 0)=.c (.sl (some false) es):=b1;simp only[As,Aw,SOp.cls,Am,CK,this,Option.map_some]
 generalize hs2:s1.set (some 6) (.c (.sl (some false) es))=s2 at a2;have c1:s2.fr 5=.osl 5:=by subst hs2;simp[St.set,upd,b2]
 have c2:s2.fr 6=.c (.sl (some false) es):=by subst hs2;simp[St.set,upd]
 have c3:s2.ob 5=.arr e size []:=by subst hs2;exact b3
 have a3:As E none ⟨some 7,.append e size bytes (.t 5) (.t 6),none⟩ s2=some (St.set {kill [5] s2 with ob:=upd (kill [5] s2).ob 5 (.arr e size es)} (some 7) (.osl 5)):=by
  have e1:so E.G s2.fr (.t 5)=.osl 5:=c1;have e2:so E.G s2.fr (.t 6)=.c (.sl (some false) es):=c2;simp only[As,Aw,SOp.cls,A6,CK,e1,e2,CE,c3];rw[if_pos hc];simp only[List.length_nil,Nat.zero_add,true_and,List.nil_append];rw[if_pos ⟨h3,h4⟩]
 generalize hs3:St.set {kill [5] s2 with ob:=upd (kill [5] s2).ob 5 (.arr e size es)} (some 7) (.osl 5)=s3 at a3;have d1:s3.fr 7=.osl 5:=by subst hs3;simp[St.set,upd]
 have d2:s3.ob 5=.arr e size es:=by subst hs3;simp[St.set,upd]
 have a4:As E none ⟨some 2,.mov (.t 7),none⟩ s3=some (s3.set (some 2) (.osl 5)):=by
  have:so E.G s3.fr (.t 7)=.osl 5:=d1;simp only[As,Aw,SOp.cls,Am,CK,this,Option.map_some]
 refine⟨s3.set (some 2) (.osl 5), ?_,by simp[St.set,upd],d2⟩;simp only[BF,Ag,if_false,List.isEmpty_cons,BA,a1,a2,a3,a4,Option.bind_some]
theorem TD{E:Env}{e size bytes:Nat}{es:List CV}(h1:(es.all fun v=>AP v==size)=true)(h2:(es.all fun v=>v.cells.all BY)=true)(h3:es.length*bytes≤140737488355328)(h4:es.length≤4611686018427387904):
  pwp E (Gd e size bytes).code (fin (Gd e size bytes).res (.sl none es)) (CO [.sl (some false) es]):=by
 unfold Gd;refine⟨_,rfl,_,rfl,false,rfl,(fun h=>by cases h),fun _=> ?_⟩;obtain⟨st',g1,g2,g3⟩:=T8 (E:=E) (e:=e) (size:=size) (bytes:=bytes) (st:=(((CO [.sl (some false) es]).set (some 2) (.c (.sl (some true) []))).set (some 3) (.c (.sl (some false) es))).set (some 4) (.c (.bool false))) (es:=es) rfl h1 h2 h3 h4;exact⟨st',g1,PK (by simp[CR,Ao,DJ,Eb,BC,g2,g3])⟩
def OZ(bytes:Nat){t:Ty}(x:List (D t)):Option (List (D t)):=if x.length*bytes≤140737488355328∧x.length≤4611686018427387904 then some x else none
theorem TA{P:Program}{E:Env}(hE:EOk P E){f e size bytes:Nat}(hf:BN P f=some (Gd e size bytes)){t:Ty}(ht:(t.val&&t.ok)=true)(h1:A4 (B6 t)=some size)(hone:EY (B6 t)=true){x:D (.one (.sl t))}{l:List CV}{y:D (.sl t)}(hx:Can (.one (.sl t)) x l)(hy:OZ bytes (t:=t) x=some y):
  hasBody P f=true∧CallsTo P E.G f l (.val (enc (.sl t) y)):=by
 simp only[Af]at ht;simp only[OZ]at hy;split at hy
 case isFalse=>cases hy
 rename_i hlen;cases hy;unfold Can at hx;obtain⟨c,rfl,hx⟩:=hx;have hx':=hx;unfold Can at hx';obtain⟨nl,es,e',hall⟩:=hx';cases e';have hl2:=hall.length;have hsz:=LH ht.1 h1 hone hall;simp only[Af]at hsz;have hb:hasBody P f=true:=Jg hf;refine⟨hb,fun w M vs hM hG hL=> ?_⟩;unfold RelL at hL;obtain⟨v,vs',rfl,h2,hL⟩:=hL;unfold RelL at hL;subst hL;have hcan:∀nl',Can (.sl t) x [.sl nl' es]:=fun nl'=>by unfold Can;exact⟨nl',es,rfl,hall⟩
 have h1':=h2;unfold RelC at h1';obtain⟨ad,n,cp,rfl,g1,g2,g3,g4,g5,g6⟩:=h1'
 cases ad with
 |none=>
  have hc0:=g5 rfl;subst hc0;have hn0:n=0:=by omega
  subst hn0;have he:es= []:=List.eq_nil_of_length_eq_zero g1.symm;subst he
  have hcall:=(Mj hE hf (l:= [.sl (some true) []]) (r:=.sl (some true) []) (show 1≤8 by decide) T9).2 w M [.slice none 0 0] hM hG (RelL.cons (by
   unfold RelC
   exact⟨none,0,0,rfl,rfl,Nat.le_refl _,(fun _=>rfl),(fun hh=>by cases hh),(fun _=>rfl),(fun hh=>absurd rfl hh)⟩) RelL.nil)
  refine hcall.mono fun e w' ⟨u,k1,k2,k3⟩=>⟨u,k1,k2, ?_⟩;exact RelC.enc (hcan (some true)) k3
 |some ad=>
  have hcall:=(Mj hE hf (l:= [.sl (some false) es]) (r:=.sl none es) (show 1≤8 by decide) (TD hsz.1 hsz.2 (by rw[hl2];exact hlen.1) (by rw[hl2];exact hlen.2))).2 w M [.slice (some ad) n cp] hM hG (RelL.cons (by
   unfold RelC
   exact⟨some ad,n,cp,rfl,g1,g2,(fun hh=>by cases hh),(fun _ hh=>by cases hh),(fun hh=>by cases hh),g6⟩) RelL.nil)
  refine hcall.mono fun e w' ⟨u,k1,k2,k3⟩=>⟨u,k1,k2, ?_⟩;exact RelC.enc (hcan none) k3
def PX(bytes:Nat){t:Ty}(x:Unit×Int):Option (List (D t)):=if 0≤x.2∧x.2*(bytes:Int)≤140737488355328∧x.2≤4611686018427387904 then some []else none
theorem UX{P:Program}{G:Nat→List CV}{f e size bytes:Nat}{i0:TypeInfo}{z:Value}(hi:P.info? e=some i0)(hz:i0.zero=some z)(hsi:i0.size=size)(hby:i0.bytes=bytes)(hb:hasBody P f=true)(hsz:0<size)(hzs:z.cells.size=size)
  (hroom:∀w,Calls P f #[.slice none 0 0,.int .i64 ((0:Nat):Int)] w fun e w'=>e=.returned (.slice none 0 0)∧w'=w)
  (hgrow:P.info? e=some i0→i0.zero=some z→0<i0.size→∀(n:Nat) (w:World),0<0+n→(0+n)*i0.bytes≤140737488355328→0+n≤4611686018427387904→Calls P f #[.slice none 0 0,.int .i64 (n:Int)] w fun e' w'=>
   e'=.returned (.slice (some ⟨w.heap.size,0,none⟩) 0 (grownCap w (0+n) 0 e))∧w'=w.drew.alloc (.cells (([]:List Value).toArray++Builtin.zeroCells z.cells (0+n-0)++Builtin.zeroCells z.cells (grownCap w (0+n) 0 e-(0+n))) e))
  {t:Ty} (ht:(t.val&&t.ok)=true):FL P G f ⟨.cons .nsl (.one (.int .i64)),.nw e size t,PX bytes (t:=t)⟩:=by
 refine⟨ht,fun x l y hx hy=>⟨hb,fun w M vs hM hG hL=> ?_⟩⟩;simp only[PX]at hy;split at hy
 case isFalse=>cases hy
 rename_i hn;cases hy;unfold Can at hx;obtain⟨c,l2,rfl,h1,h2⟩:=hx;unfold Can at h1 h2;cases h1;obtain⟨c2,rfl,h3⟩:=h2;unfold Can at h3;cases h3;unfold RelL at hL;obtain⟨v,vs',rfl,k1,hL⟩:=hL;unfold RelL at hL;obtain⟨v2,vs2,rfl,k2,hL⟩:=hL;unfold RelL at hL;subst hL;have e1:=MV k1;have e2:=Bt (w:=w) (M:=M) k2;subst e1;subst e2;obtain⟨n,hnn⟩:=Int.eq_ofNat_of_zero_le hn.1;obtain⟨_,xn⟩:=x;simp only at hnn hn;subst hnn;rcases Nat.eq_zero_or_pos n with h0|h0
 ·subst h0;refine(hroom w).mono fun e' w' ⟨q1,q2⟩=>⟨_,q1, ?_, ?_⟩
  ·subst q2;exact Below.refl _ _
  ·refine⟨rfl,fun g hg=>by simp[blk]at hg,[],⟨by simp,.inl ⟨rfl,rfl⟩⟩,rfl⟩
 ·have hb1:(0+n)*bytes≤140737488355328:=by
   have h8:=hn.2.1;rw[Nat.zero_add];have h9:((n*bytes:Nat):Int)≤140737488355328:=by rw[Int.natCast_mul];exact h8
   omega
  have hcap1:0+n≤grownCap w (0+n) 0 e:=grownCap_ge w _ _ _;have hcap2:grownCap w (0+n) 0 e≤maxLen:=grownCap_le_maxLen w (0+n) 0 e (by unfold maxLen;omega);refine(hgrow hi hz (by rw[hsi];exact hsz) n w (by omega) (by rw[hby];exact hb1) (by omega)).mono fun e' w' ⟨q1,q2⟩=>⟨_,q1, ?_, ?_⟩
  ·subst q2;exact((Below.refl _ w).drew).alloc (Nat.le_refl _) _
  ·subst q2;have hw:w.drew.heap.size=w.heap.size:=rfl;have hal:=EG w.drew (.cells (([]:List Value).toArray++Builtin.zeroCells z.cells (0+n-0)++Builtin.zeroCells z.cells (grownCap w (0+n) 0 e-(0+n))) e);rw[hw]at hal;refine⟨rfl,fun g hg=> ?_,[],Dh.of ⟨by simp,.inr ⟨w.heap.size,grownCap w (0+n) 0 e,_,rfl,Nat.le_refl _,hal,Nat.zero_le _,hcap2, ?_,by simp⟩⟩,rfl⟩
   ·simp only[blk,Ac]at hg;subst hg;exact⟨Nat.le_refl _,heap_lt hal⟩
   ·rw[Array.size_append,Array.size_append,size_zeroCells,size_zeroCells,hzs,List.size_toArray,List.length_nil,Nat.zero_add,←Nat.add_mul];generalize grownCap w (0+n) 0 e=k at hcap1⊢;rw[show 0+n-0+(k-(0+n))=k by omega]
end WB
