/-
  OWN TEXTS, MERGED (wip/merge.py): Piter, Pgd, Pfold, Pu64, Pdg, LibPx, LibPj, LibCt, LibAt, LibSi. No condition of their own.
-/
import Derived.Test.YtbajcpobojindaaGreatDoorK6
import Derived.Lib.Mul64
import Derived.Laws.Bits64b
import Derived.Laws.BitsLemmas
import Derived.Lib.ItoaNum
import Derived.Shelf.Pu.ParseUintPublic10
import Derived.Lib.SmallJoins
import Derived.Lib.AtoiErrMem
import Derived.Shelf.Strconv.ParseIntPublic10
import Derived.Lib.AtoiAll
import Derived.Lib.SlKeysI
import Derived.Maps.RangeWalk
set_option linter.unusedVariables false
set_option linter.unusedSimpArgs false
open Go.IntKind (i64 u64 u8 u32)
namespace WB
open Go Go.RowKit
theorem bs{α β:Type}(a:α)(f:α→Option β):(some a).bind f=f a:=(Option.bind_some a f).trans (Eq.refl _)
theorem ms{α β:Type}(a:α)(f:α→β):(some a).map f=some (f a):=(Option.map_some (f:=f) (a:=a)).trans (Eq.refl _)
theorem Bd{α:Type}{xs:List α}{i:Nat}{a:α}(h:xs[i]? =some a):lAt xs (i:Int)=some a:=by
 have:=(Ae.1 h).1;unfold lAt;rw[if_pos ⟨by omega,by omega⟩];simpa using h
theorem DL{s:List UInt8}{i:Nat}{b:UInt8}(h:s[i]? =some b):sAt s (i:Int)=some (b.toNat:Int):=by
 have:=(Ae.1 h).1;unfold sAt;rw[if_pos ⟨by omega,by omega⟩];simp[h]
theorem CU{α:Type}{xs:List α}{i j:Nat}(h1:i≤j)(h2:j≤xs.length):Be xs (i:Int) (j:Int)=some ((xs.take j).drop i):=by
 unfold Be;rw[if_pos ⟨by omega,by omega,by omega⟩];simp
theorem A3{n:Int}(h1: -9223372036854775808≤n)(h2:n≤9223372036854775807):i64.wrap n=n:=Go.IntWalk.i64_in n ⟨h1,h2⟩
theorem Mx{α β:Type}{eq:α→α→Bool}(he:∀a b,eq a b=true↔a=b)(z:β)(k k':α) [Decidable (k=k')](v:β):∀(m:List (α×β)),Bh eq z k (B0 eq k' v m)=if k=k' then(v,true)else Bh eq z k m
 | []=>by
  unfold B0 Bh;by_cases h:k=k'
  ·subst h;simp[(he k k).2 rfl]
  ·have:eq k k'=false:=by
    cases hh:eq k k' with
    |false=>rfl
    |true=>exact absurd ((he _ _).1 hh) h
   simp[this,h,Bh]
 |p::m=>by
  unfold B0;by_cases hp:eq k' p.1=true
  ·rw[if_pos hp];have e:=(he _ _).1 hp;unfold Bh;by_cases h:k=k'
   ·subst h;simp[hp]
   ·have:eq k p.1=false:=by
     cases hh:eq k p.1 with
     |false=>rfl
     |true=>exact absurd (((he _ _).1 hh).trans e.symm) h
    simp[this,h]
  ·rw[if_neg hp];unfold Bh;by_cases hq:eq k p.1=true
   ·have e:=(he _ _).1 hq;have:k≠k':=fun h=>hp ((he _ _).2 (h.symm.trans e));simp[hq,this]
   ·simp only[hq,Ag,if_false];exact Mx he z k k' v m
section
variable {α β γ δ:Type} {p:Prop} [Decidable p]
theorem gPb(X:Option α)(f:α→Option β):(if p then X else none).bind f=if p then X.bind f else none:=by by_cases h:p<;>simp[h]
theorem gPm(X:Option α)(f:α→β):(if p then X else none).map f=if p then X.map f else none:=by by_cases h:p<;>simp[h]
theorem gPs(Y Z:Option β)(W:Option β):(if p then(if p then Z else W)else Y)=if p then Z else Y:=by by_cases h:p<;>simp[h]
theorem gM(A:Option α)(B:Option α→Option β)(K:Option β→Option γ):(Option.bind (if p then A.map some else some none) fun x=>Option.bind (if p then(B x).map some else some none) K)=Option.bind (if p then(A.bind fun v=>B (some v)).map some else some none) K:=by by_cases h:p<;>cases A<;>simp[h]
theorem gM2(A:Option α)(B:Option α→Option β)(C:Option α→Option β→Option γ)(K:Option γ→Option δ):(Option.bind (if p then A.map some else some none) fun x=>Option.bind (if p then(B x).map some else some none) fun y=>Option.bind (if p then(C x y).map some else some none) K)=Option.bind (if p then(A.bind fun v=>(B (some v)).bind fun w=>C (some v) (some w)).map some else some none) K:=by
 by_cases h:p
 ·cases A with
  |none=>simp[h]
  |some v=>simp only[h,if_true,Option.map_some,Option.bind_some];cases B (some v)<;>simp
 ·simp[h]
theorem A9(c:Bool)(A:Option α)(B:Option α→Option Bool)(K:Bool→Option β):(Option.bind (if c=true then A.map some else some none) fun x=>Option.bind (if c=true then B x else some false) K)=Option.bind (if c=true then A.bind fun v=>B (some v)else some false) K:=by cases c<;>cases A<;>simp
theorem gOr(c:Bool)(A:Option α)(B:Option α→Option Bool)(K:Bool→Option β):(Option.bind (if c=false then A.map some else some none) fun x=>Option.bind (if c=true then some true else B x) K)=Option.bind (if c=true then some true else A.bind fun v=>B (some v)) K:=by cases c<;>cases A<;>simp
theorem AA(A B:Option Bool)(K:Option Bool→Option β):(Option.bind (if p then A.map some else some none) fun g=>Option.bind (if g=some true then B.map some else some none) fun x=>Option.bind (if p then(g.bind fun z=>if z=true then x else some false).map some else some none) K)=Option.bind (if p then(A.bind fun z=>if z=true then B else some false).map some else some none) K:=by
 by_cases h:p
 ·cases A with
  |none=>simp[h]
  |some v=>cases v<;>cases B<;>simp[h]
 ·simp[h]
theorem AG(A B:Option Bool)(K:Option Bool→Option β):(Option.bind (if p then A.map some else some none) fun g=>Option.bind (if g=some false then B.map some else some none) fun x=>Option.bind (if p then(g.bind fun z=>if z=true then some true else x).map some else some none) K)=Option.bind (if p then(A.bind fun z=>if z=true then some true else B).map some else some none) K:=by
 by_cases h:p
 ·cases A with
  |none=>simp[h]
  |some v=>cases v<;>cases B<;>simp[h]
 ·simp[h]
theorem gAA(c:Bool)(A:Option Bool)(B:Option α)(C:Option α→Option Bool)(K:Bool→Option β):(Option.bind (if c=true then A.map some else some none) fun g=>Option.bind (if g=some true then B.map some else some none) fun x=>Option.bind (if c=true then g.bind fun z=>if z=true then C x else some false else some false) K)=Option.bind (if c=true then A.bind fun z=>if z=true then B.bind fun v=>C (some v)else some false else some false) K:=by
 cases c<;>cases A<;>first|(simp;done)|(rename_i v;cases v<;>cases B<;>simp)
theorem gAO(c:Bool)(A:Option Bool)(B:Option α)(C:Option α→Option Bool)(K:Bool→Option β):(Option.bind (if c=false then A.map some else some none) fun g=>Option.bind (if g=some true then B.map some else some none) fun x=>Option.bind (if c=true then some true else g.bind fun z=>if z=true then C x else some false) K)=Option.bind (if c=true then some true else A.bind fun z=>if z=true then B.bind fun v=>C (some v)else some false) K:=by
 cases c<;>cases A<;>first|(simp;done)|(rename_i v;cases v<;>cases B<;>simp)
theorem gOA(c:Bool)(A:Option Bool)(B:Option α)(C:Option α→Option Bool)(K:Bool→Option β):(Option.bind (if c=true then A.map some else some none) fun g=>Option.bind (if g=some false then B.map some else some none) fun x=>Option.bind (if c=true then g.bind fun z=>if z=true then some true else C x else some false) K)=Option.bind (if c=true then A.bind fun z=>if z=true then some true else B.bind fun v=>C (some v)else some false) K:=by
 cases c<;>cases A<;>first|(simp;done)|(rename_i v;cases v<;>cases B<;>simp)
theorem gOO(c:Bool)(A:Option Bool)(B:Option α)(C:Option α→Option Bool)(K:Bool→Option β):(Option.bind (if c=false then A.map some else some none) fun g=>Option.bind (if g=some false then B.map some else some none) fun x=>Option.bind (if c=true then some true else g.bind fun z=>if z=true then some true else C x) K)=Option.bind (if c=true then some true else A.bind fun z=>if z=true then some true else B.bind fun v=>C (some v)) K:=by
 cases c<;>cases A<;>first|(simp;done)|(rename_i v;cases v<;>cases B<;>simp)
theorem A6(c:Bool)(A:Option Bool)(B:Option α)(C:Option α→Option Bool)(F:Bool→Option Bool)(K:Bool→Option β):(Option.bind (if c=true then A.map some else some none) fun g=>Option.bind (if g=some true then B.map some else some none) fun x=>Option.bind (if c=true then(g.bind fun z=>if z=true then C x else some false).bind F else some false) K)=Option.bind (if c=true then(A.bind fun z=>if z=true then B.bind fun v=>C (some v)else some false).bind F else some false) K:=by
 cases c<;>cases A<;>first|(simp;done)|(rename_i v;cases v<;>cases B<;>simp)
theorem A8(c:Bool)(A:Option Bool)(B:Option α)(C:Option α→Option Bool)(F:Bool→Option Bool)(K:Bool→Option β):(Option.bind (if c=false then A.map some else some none) fun g=>Option.bind (if g=some true then B.map some else some none) fun x=>Option.bind (if c=true then some true else(g.bind fun z=>if z=true then C x else some false).bind F) K)=Option.bind (if c=true then some true else(A.bind fun z=>if z=true then B.bind fun v=>C (some v)else some false).bind F) K:=by
 cases c<;>cases A<;>first|(simp;done)|(rename_i v;cases v<;>cases B<;>simp)
theorem AB(c:Bool)(A:Option Bool)(B:Option α)(C:Option α→Option Bool)(F:Bool→Option Bool)(K:Bool→Option β):(Option.bind (if c=true then A.map some else some none) fun g=>Option.bind (if g=some false then B.map some else some none) fun x=>Option.bind (if c=true then(g.bind fun z=>if z=true then some true else C x).bind F else some false) K)=Option.bind (if c=true then(A.bind fun z=>if z=true then some true else B.bind fun v=>C (some v)).bind F else some false) K:=by
 cases c<;>cases A<;>first|(simp;done)|(rename_i v;cases v<;>cases B<;>simp)
theorem AE(c:Bool)(A:Option Bool)(B:Option α)(C:Option α→Option Bool)(F:Bool→Option Bool)(K:Bool→Option β):(Option.bind (if c=false then A.map some else some none) fun g=>Option.bind (if g=some false then B.map some else some none) fun x=>Option.bind (if c=true then some true else(g.bind fun z=>if z=true then some true else C x).bind F) K)=Option.bind (if c=true then some true else(A.bind fun z=>if z=true then some true else B.bind fun v=>C (some v)).bind F) K:=by
 cases c<;>cases A<;>first|(simp;done)|(rename_i v;cases v<;>cases B<;>simp)
theorem A7(A:Option Bool)(B:Option α)(C:Option α→Option Bool)(F:Bool→Option γ)(K:Option γ→Option β):(Option.bind (if p then A.map some else some none) fun g=>Option.bind (if g=some true then B.map some else some none) fun x=>Option.bind (if p then((g.bind fun z=>if z=true then C x else some false).bind F).map some else some none) K)=Option.bind (if p then((A.bind fun z=>if z=true then B.bind fun v=>C (some v)else some false).bind F).map some else some none) K:=by
 by_cases h:p<;>cases A<;>first|(simp[h];done)|(rename_i v;cases v<;>cases B<;>simp[h])
theorem AD(A:Option Bool)(B:Option α)(C:Option α→Option Bool)(F:Bool→Option γ)(K:Option γ→Option β):(Option.bind (if p then A.map some else some none) fun g=>Option.bind (if g=some false then B.map some else some none) fun x=>Option.bind (if p then((g.bind fun z=>if z=true then some true else C x).bind F).map some else some none) K)=Option.bind (if p then((A.bind fun z=>if z=true then some true else B.bind fun v=>C (some v)).bind F).map some else some none) K:=by
 by_cases h:p<;>cases A<;>first|(simp[h];done)|(rename_i v;cases v<;>cases B<;>simp[h])
theorem AL(A:Option α)(X Y:α→Option β)(R:α→β→Option γ)(Z:Option γ):(if p then(A.bind fun v=>(if p then X v else Y v).bind (R v))else Z)=if p then(A.bind fun v=>(X v).bind (R v))else Z:=by by_cases h:p<;>simp[h]
theorem AM(A:Option α)(X Y:α→Option β)(R:α→β→γ)(Z:Option γ):(if p then(A.bind fun v=>(if p then X v else Y v).map (R v))else Z)=if p then(A.bind fun v=>(X v).map (R v))else Z:=by by_cases h:p<;>simp[h]
theorem AN(X Y:Option β)(R:β→Option γ)(Z:Option γ):(if p then((if p then X else Y).bind R)else Z)=if p then(X.bind R)else Z:=by by_cases h:p<;>simp[h]
theorem AO(X Y:Option β)(R:β→γ)(Z:Option γ):(if p then((if p then X else Y).map R)else Z)=if p then(X.map R)else Z:=by by_cases h:p<;>simp[h]
theorem AP(c:Bool)(X Y:Option β)(R:β→Option γ)(Z:Option γ):(if c=true then Z else((if c=false then X else Y).bind R))=if c=true then Z else X.bind R:=by cases c<;>simp
theorem AQ(c:Bool)(A:Option α)(X Y:α→Option β)(R:α→β→Option γ)(Z:Option γ):(if c=true then Z else(A.bind fun v=>(if c=false then X v else Y v).bind (R v)))=if c=true then Z else(A.bind fun v=>(X v).bind (R v)):=by cases c<;>simp
theorem AR(c:Bool)(A:Option α)(X Y:α→Option β)(R:α→β→γ)(Z:Option γ):(if c=true then Z else(A.bind fun v=>(if c=false then X v else Y v).map (R v)))=if c=true then Z else(A.bind fun v=>(X v).map (R v)):=by cases c<;>simp
theorem AS(c:Bool)(X Y:Option β)(R:β→γ)(Z:Option γ):(if c=true then Z else((if c=false then X else Y).map R))=if c=true then Z else X.map R:=by cases c<;>simp
theorem gPi(X:Option α)(Y W:α→Option β)(Z:Option β):(if p then(X.bind fun z=>if p then Y z else W z)else Z)=if p then X.bind Y else Z:=by by_cases h:p<;>simp[h]
theorem gSS(v:α)(Z:Option (Option α)):(if p then some (some v)else Z)=if p then(some v).map some else Z:=rfl
theorem gId(X:Option α):X.map (fun z=>z)=X:=by cases X<;>rfl
theorem AV(X:Option α):(X.bind fun z=>some z)=X:=by cases X<;>rfl
theorem gMb(X:Option α)(f:α→β)(g:β→Option γ):(X.map f).bind g=X.bind fun v=>g (f v):=by cases X<;>rfl
theorem gMm(X:Option α)(f:α→β)(g:β→γ):(X.map f).map g=X.map fun v=>g (f v):=by cases X<;>rfl
theorem gBm(X:Option α)(f:α→Option β)(g:β→γ):(X.bind f).map g=X.bind fun v=>(f v).map g:=by cases X<;>rfl
theorem gBb(X:Option α)(f:α→Option β)(g:β→Option γ):(X.bind f).bind g=X.bind fun v=>(f v).bind g:=by cases X<;>rfl
end
def Bg{α A T:Type}(step:A→α→A⊕T)(fin:A→T):A→List α→T
 |a,[]=>fin a
 |a,x::l=>match step a x with
  | .inl a'=>Bg step fin a' l
  | .inr t=>t
def EU{S A T:Type}(mk:A→S):A⊕T→S⊕T
 | .inl a=>.inl (mk a)
 | .inr t=>.inr t
theorem Rw{α S T A:Type}{b:S→Option (S⊕T)}(mk:Nat→A→S)(step:A→α→A⊕T)(fin:A→T)(I:Nat→A→Prop)(l0:List α)
  (hs:∀i x a,l0[i]? =some x→I i a→b (mk i a)=some (EU (mk (i+1)) (step a x)))
  (hI:∀i x a a',l0[i]? =some x→I i a→step a x=.inl a'→I (i+1) a')
  (he:∀a,I l0.length a→b (mk l0.length a)=some (.inr (fin a))):
  ∀(l:List α) (i:Nat) (a:A),l0.drop i=l→i≤l0.length→I i a→iter b (mk i a)=some (Bg step fin a l)
 | [],i,a,hd,hi,h=>by
  have:i=l0.length:=by
   have:=congrArg List.length hd;simp at this;omega
  subst this;rw[BV,he a h];rfl
 |x::l,i,a,hd,hi,h=>by
  have hx:l0[i]? =some x:=by
   have:=congrArg (fun q=>q[0]?) hd;simpa using this
  have hlt:i<l0.length:=(Ae.1 hx).1;rw[BV,hs i x a hx h]
  cases hst:step a x with
  |inl a'=>
   have e:=Rw mk step fin I l0 hs hI he l (i+1) a' (by rw[←List.tail_drop,hd];rfl) hlt (hI i x a a' hx h hst);show iter b (mk (i+1) a')=_;rw[e,Bg,hst]
  |inr t=>
   show some t=_;rw[Bg,hst]
theorem Eu{α S T A:Type}{b:S→Option (S⊕T)}(mk:Nat→A→S)(step:A→α→A⊕T)(fin:A→T)(I:Nat→A→Prop)(l:List α){a:A}(h:I 0 a)
  (hs:∀i x a,l[i]? =some x→I i a→b (mk i a)=some (EU (mk (i+1)) (step a x)))
  (hI:∀i x a a',l[i]? =some x→I i a→step a x=.inl a'→I (i+1) a')
  (he:∀a,I l.length a→b (mk l.length a)=some (.inr (fin a))):iter b (mk 0 a)=some (Bg step fin a l):=
 Rw mk step fin I l hs hI he l 0 a rfl (by omega) h
theorem BP{α:Type}{l:List α}{i:Nat}{x:α}(h:l[i]? =some x):decide ((i:Int)<(l.length:Int))=true:=
 Al (by have:=(Ae.1 h).1;omega)
theorem Cb{α:Type}(l:List α):decide ((l.length:Int)<(l.length:Int))=false:=Ak (by omega)
theorem Bu{i:Nat}(h:i<9223372036854775807):i64.wrap ((i:Int)+1)=((i+1:Nat):Int):=by
 rw[A3 (by omega) (by omega)];simp
theorem FZ{n:Int}(h1:0≤n)(h2:n<18446744073709551616):u64.wrap n=n:=by rw[IntKind.wrap_u64];omega
def dgt(b:UInt8):Bool:= !(decide ((b.toNat:Int)<48)||decide ((b.toNat:Int)>57))
def Ay(a:Nat)(s:List UInt8):Nat:=s.foldl (fun a c=>a*10+(c.toNat-48)) a
theorem GA:∀(s:List UInt8) (a:Nat),a≤Ay a s
 | [],a=>Nat.le_refl _
 |c::s,a=>by
  have:=GA s (a*10+(c.toNat-48));show a≤Ay (a*10+(c.toNat-48)) s;omega
theorem Cu{b:UInt8}:dgt b=true↔48≤b.toNat∧b.toNat≤57:=by
 unfold dgt;by_cases h1:(b.toNat:Int)<48<;>by_cases h2:(b.toNat:Int)>57<;>simp[h1,h2]<;>omega
def BB(s:List UInt8):Bool:= !(s== [])&& !(decide ((s.length:Int)>1)&&s.head? ==some 48)&&s.all dgt
theorem Ja(a:Nat)(s:List UInt8)(b:UInt8):Ay a (s++ [b])=Ay a s*10+(b.toNat-48):=by simp[Ay]
def Cv(w:List UInt8):Bool:=decide ((w.length:Int)>1)&&w.head? ==some 48
theorem Ha(w:List UInt8)(h:w.all dgt=true):BB w=(!(w== [])&& !Cv w):=by
 unfold BB Cv;rw[h,Bool.and_true]
def dg9(n:Nat):UInt8:=UInt8.ofNat (48+n)
theorem Gr{n:Nat}(h:n<10):(dg9 n).toNat=48+n:=by
 unfold dg9;show(48+n)% 256=48+n;omega
theorem Kg{n:Nat}(h:n<10):dgt (dg9 n)=true:=Cu.2 (by rw[Gr h];omega)
theorem EE{n:Nat}(h:n<10):Lib.decDigits n= [dg9 n]:=Lib.decDigits_one h
theorem Gs{n:Nat}(h:¬n<10):Lib.decDigits n=Lib.decDigits (n/10)++ [dg9 (n % 10)]:=by rw[Lib.decDigits,dif_neg h];rfl
theorem VC:∀(n:Nat),(Lib.decDigits n).all dgt=true:=by
 intro n
 induction n using Nat.strongRecOn with
 |_ n ih=>
  by_cases h:n<10
  ·rw[EE h];simp[Kg h]
  ·rw[Gs h,List.all_append,ih _ (by omega)];have h2:n % 10<10:=Nat.mod_lt _ (by omega);simp[Kg h2]
theorem Qz(n:Nat):Lib.decDigits n≠ []:=by
 by_cases h:n<10
 ·rw[EE h];simp
 ·rw[Gs h];simp
theorem VE:∀(n:Nat),Ay 0 (Lib.decDigits n)=n:=by
 intro n
 induction n using Nat.strongRecOn with
 |_ n ih=>
  by_cases h:n<10
  ·rw[EE h];show 0*10+((dg9 n).toNat-48)=n;rw[Gr h];omega
  ·rw[Gs h,Ja,ih (n/10) (by omega),Gr (Nat.mod_lt _ (by omega))];omega
theorem WT{α:Type}{l m:List α}(h:l≠ []):(l++m).head? =l.head? :=by
 cases l with
 |nil=>exact absurd rfl h
 |cons _ _=>rfl
theorem VD{n:Nat}(h:0<n):(Lib.decDigits n).head? ≠some 48:=by
 induction n using Nat.strongRecOn with
 |_ n ih=>
  by_cases h9:n<10
  ·rw[EE h9];intro e;have:(dg9 n).toNat=48:=by simp at e;rw[e];rfl
   rw[Gr h9]at this;omega
  ·rw[Gs h9,WT (Qz _)];exact ih _ (by omega) (by omega)
theorem Kf{b:UInt8}(h:dgt b=true):dg9 (b.toNat-48)=b:=by
 have h3:=Cu.1 h;apply UInt8.toNat_inj.1;rw[Gr (by omega)];omega
theorem XN:∀{s:List UInt8} {a:Nat},0<a→0<Ay a s:=fun{s a} h=>Nat.lt_of_lt_of_le h (GA s a)
theorem XM{c:UInt8}{s:List UInt8}(h:dgt c=true)(h0:c≠48):0<Ay 0 (c::s):=by
 have h3:=Cu.1 h;have:c.toNat≠48:=fun e=>h0 (UInt8.toNat_inj.1 e);exact XN (s:=s) (a:=0*10+(c.toNat-48)) (by omega)
theorem UM(n:Nat):BB (Lib.decDigits n)=true:=by
 rw[Ha _ (VC n)];have h1:(Lib.decDigits n== [])=false:=by simpa using Qz n
 rw[h1];unfold Cv;by_cases h:n<10
 ·rw[EE h];rfl
 ·have h2:=VD (n:=n) (by omega);have:((Lib.decDigits n).head? ==some 48)=false:=by simpa using h2
  rw[this];simp
theorem Q0{D:List UInt8}:BB D=true→Lib.decDigits (Ay 0 D)=D:=by
 induction hn:D.length using Nat.strongRecOn generalizing D with
 |_ n ih=>
  intro hc
  have hd:D.all dgt=true:=by
   unfold BB at hc;simp only[Af]at hc;exact hc.2
  rw[Ha D hd]at hc;simp only[Af,Bool.not_eq_true',beq_eq_false_iff_ne]at hc;rcases List.eq_nil_or_concat D with rfl|⟨Q,x,rfl⟩
  ·exact absurd rfl hc.1
  ·simp only[List.concat_eq_append]at*;rw[List.all_append,Af]at hd;replace hd:Q.all dgt=true∧dgt x=true:=⟨hd.1,by simpa using hd.2⟩;have hx:=Cu.1 hd.2;rw[Ja];by_cases hQ:Q= []
   ·subst hQ;have:Ay 0 []*10+(x.toNat-48)=x.toNat-48:=by show 0*10+_=_;omega
    rw[this,EE (by omega),Kf hd.2];rfl
   ·cases Q with
    |nil=>exact absurd rfl hQ
    |cons q Q=>
     have hq:q≠48:=by
      intro e;have:=hc.2;unfold Cv at this;rw[e]at this;simp at this;omega
     have hd1:=hd.1;simp only[List.all_cons,Af]at hd1;have hp:=XM (s:=Q) hd1.1 hq
     have hcQ:BB (q::Q)=true:=by
      rw[Ha _ hd.1];unfold Cv;have:((q::Q).head? ==some 48)=false:=by simpa using hq
      rw[this];simp
     have i:=ih (q::Q).length (by rw[←hn];simp) rfl hcQ;rw[Gs (by omega),show(Ay 0 (q::Q)*10+(x.toNat-48))/10=Ay 0 (q::Q) by omega,show(Ay 0 (q::Q)*10+(x.toNat-48))% 10=x.toNat-48 by omega,i,Kf hd.2]
theorem Qx:∀{n k:Nat},0<k→n<10^k→(Lib.decDigits n).length≤k:=by
 intro n k
 induction k generalizing n with
 |zero=>intro h;omega
 |succ k ih=>
  intro _ h;by_cases h9:n<10
  ·rw[EE h9];simp
  ·rw[Gs h9,List.length_append]
   have:0<k:=by
    rcases Nat.eq_zero_or_pos k with rfl|h0
    ·simp at h;omega
    ·exact h0
   have:=ih (n:=n/10) this (by rw[Nat.pow_succ]at h;omega);simp only[List.length_singleton];omega
theorem Px.err_of{G:Nat→List CV}{w:World}{M:MM}(h:GOk G w M){g:Nat}(hG:G g= [.ifc]):∃te pe,w.cell? ⟨g,0,none⟩=some (.iface te pe):=by
 obtain⟨h1,_⟩:=h g (by rw[hG];simp);rw[hG]at h1;unfold RelC at h1;obtain⟨ad,vs,e,_,_,hl,hc⟩:=h1;cases e;unfold RelL RelC at hl;obtain⟨v,vs',rfl,⟨te,pe,rfl⟩,_⟩:=hl;refine⟨te,pe, ?_⟩;have:=hc 0 (.iface te pe) (by simp);simpa[Addr.add]using this
def JB:List UInt8×Int×Int→Option (Int×Bool):=fun x=>
 if x.2.1=10∧x.2.2=64∧x.1.length≤281474976710656 then some (match Lib.parseUintB 64 x.1 with| .ok n=>((n:Int),true)| .range=>(18446744073709551615,false)|_=>(0,false))else none
theorem Zn{P:Program}{B:TB}{f g0 g1:Nat}(hb:Bs P f=true)(hg0:B.G g0= [.ifc])(hg1:B.G g1= [.ifc]){e8 t1 t2:TypeId}{n1:ByteArray}
  (h_ok:∀(s:ByteArray) (_:s.size≤9223372036854775806) (v:Nat) (_:Lib.parseUintB 64 s.data.toList=.ok v) (w:World),Calls P f #[.string s,.int .i64 10,.int .i64 64] w fun e w'=>e=.returned (.tuple #[.int .u64 v,.nilIface])∧(w'=w∨w'=Lib.bytesWorld w e8 s))
  (h_syn:∀(s:ByteArray) (_:s.size≤281474976710656) (_:Lib.parseUintB 64 s.data.toList=Lib.NumEnd.syntax) (ev:Value) (w:World) (_:w.cell? ⟨g0,0,none⟩=some ev) (_:ev=.nilIface∨∃te pe,ev=.iface te pe),Calls P f #[.string s,.int .i64 10,.int .i64 64] w fun e w'=>∃N,e=.returned (.tuple #[.int .u64 0,.iface t1 (.pointer (some ⟨N,0,none⟩))])∧w.heap.size≤N∧w'.heap[N]? =some (.cells #[.string n1,.string s,ev] t2 (0,0))∧Below w.heap.size w w')
  (h_rng:∀(s:ByteArray) (_:s.size≤281474976710656) (_:Lib.parseUintB 64 s.data.toList=Lib.NumEnd.range) (ev:Value) (w:World) (_:w.cell? ⟨g1,0,none⟩=some ev) (_:ev=.nilIface∨∃te pe,ev=.iface te pe),Calls P f #[.string s,.int .i64 10,.int .i64 64] w fun e w'=>∃N,e=.returned (.tuple #[.int .u64 18446744073709551615,.iface t1 (.pointer (some ⟨N,0,none⟩))])∧w.heap.size≤N∧w'.heap[N]? =some (.cells #[.string n1,.string s,ev] t2 (0,0))∧Below w.heap.size w w')
  {x:D (.cons .str (.cons (.int .i64) (.one (.int .i64))))} {l:List CV} {y:D (.tup (.cons (.int .u64) (.one .err)))} (hx:Can (.cons .str (.cons (.int .i64) (.one (.int .i64)))) x l) (hy:JB x=some y):
  Bs P f=true∧CallsTo P B.G f l (.val (enc (.tup (.cons (.int .u64) (.one .err))) y)):=by
 refine⟨hb,fun w M vs hM hGk hL=> ?_⟩;obtain⟨te0,pe0,ev0⟩:=Px.err_of hGk hg0;obtain⟨te1,pe1,ev1⟩:=Px.err_of hGk hg1;obtain⟨s,b,k⟩:=x;simp only[JB]at hy;split at hy<;>(try cases hy;done);rename_i h;obtain⟨rfl,rfl,h1⟩:=h;simp only[Ac]at hy;unfold Can at hx;obtain⟨c1,l',rfl,h2,h3⟩:=hx;unfold Can at h2 h3;obtain⟨c2,l'',rfl,h4,h5⟩:=h3;unfold Can at h4 h5;obtain⟨c3,rfl,h6⟩:=h5;unfold Can at h6;cases h2;cases h4;cases h6;unfold RelL RelC at hL;obtain⟨v,vs',rfl,rfl,hL⟩:=hL;unfold RelL RelC at hL;obtain⟨v,vs',rfl,rfl,hL⟩:=hL;unfold RelL RelC at hL;obtain⟨v,vs',rfl,rfl,hL⟩:=hL;unfold RelL at hL;subst hL;have hsz:(⟨⟨s⟩⟩:ByteArray).size=s.length:=rfl;rcases hp:Lib.parseUintB 64 s with n|_|_
 ·
  rw[hp]at hy;subst hy;refine(h_ok ⟨⟨s⟩⟩ (by rw[hsz];omega) n hp w).mono fun e w' he=> ?_;obtain⟨rfl,hw⟩:=he
  have hbw:Below w.heap.size w w':=by
   rcases hw with rfl|rfl
   ·exact Below.refl _ _
   ·exact(by first|exact Lib.bytesWorld_below _ _ _|exact Go.Joins.below_bytesWorld _ _ _ _ (Nat.le_refl _)|exact below_bytesWorld _ _ _ _ (Nat.le_refl _))
  exact⟨_,rfl,hbw,_,rfl,_,_,rfl,rfl,_,_,rfl,rfl,rfl⟩
 ·
  rw[hp]at hy;subst hy;refine(h_syn ⟨⟨s⟩⟩ (by rw[hsz];exact h1) hp _ w ev0 (.inr ⟨_,_,rfl⟩)).mono fun e w' he=> ?_;obtain⟨N,rfl,_,_,hbw⟩:=he;exact⟨_,rfl,hbw,_,rfl,_,_,rfl,rfl,_,_,rfl,⟨_,_,rfl⟩,rfl⟩
 ·
  rw[hp]at hy;subst hy;refine(h_rng ⟨⟨s⟩⟩ (by rw[hsz];exact h1) hp _ w ev1 (.inr ⟨_,_,rfl⟩)).mono fun e w' he=> ?_;obtain⟨N,rfl,_,_,hbw⟩:=he;exact⟨_,rfl,hbw,_,rfl,_,_,rfl,rfl,_,_,rfl,⟨_,_,rfl⟩,rfl⟩
theorem Pj.err_of{G:Nat→List CV}{w:World}{M:MM}(h:GOk G w M){g:Nat}(hG:G g= [.ifc]):∃te pe,w.cell? ⟨g,0,none⟩=some (.iface te pe):=by
 obtain⟨h1,_⟩:=h g (by rw[hG];simp);rw[hG]at h1;unfold RelC at h1;obtain⟨ad,vs,e,_,_,hl,hc⟩:=h1;cases e;unfold RelL RelC at hl;obtain⟨v,vs',rfl,⟨te,pe,rfl⟩,_⟩:=hl;refine⟨te,pe, ?_⟩;have:=hc 0 (.iface te pe) (by simp);simpa[Addr.add]using this
def JC:List UInt8×List UInt8→Option Int:=fun x=>match x.2 with
 | [c]=>some (x.1.count c:Int)
 |_=>none
theorem Zo{P:Program}{B:TB}{f:Nat}(hb:Bs P f=true)
  (hc:∀(s:ByteArray) (c:UInt8) (w:World),Calls P f #[.string s,.string ⟨#[c]⟩] w fun e w'=>e=.returned (.int .i64 (Lib.countByte s.data.toList c))∧w'=w)
  {x:D (.cons .str (.one .str))} {l:List CV} {y:D (.int .i64)} (hx:Can (.cons .str (.one .str)) x l) (hy:JC x=some y):Bs P f=true∧CallsTo P B.G f l (.val (enc (.int .i64) y)):=by
 refine⟨hb,fun w M vs hM hGk hL=> ?_⟩;rw[SF hx hL];obtain⟨s,b⟩:=x;simp only[JC]at hy;split at hy<;>(try cases hy;done);rename_i c;cases hy;refine(hc ⟨⟨s⟩⟩ c w).mono fun e w' he=> ?_;obtain⟨rfl,rfl⟩:=he;refine⟨_,rfl,Below.refl _ _, ?_⟩;simp[Gf,enc,AU,RelC,Lib.countByte]
theorem At.err_of{G:Nat→List CV}{w:World}{M:MM}(h:GOk G w M){g:Nat}(hG:G g= [.ifc]):∃te pe,w.cell? ⟨g,0,none⟩=some (.iface te pe):=by
 obtain⟨h1,_⟩:=h g (by rw[hG];simp);rw[hG]at h1;unfold RelC at h1;obtain⟨ad,vs,e,_,_,hl,hc⟩:=h1;cases e;unfold RelL RelC at hl;obtain⟨v,vs',rfl,⟨te,pe,rfl⟩,_⟩:=hl;refine⟨te,pe, ?_⟩;have:=hc 0 (.iface te pe) (by simp);simpa[Addr.add]using this
def JA:List UInt8→Option (Int×Bool):=fun x=>
 if x.length≤281474976710656 then some (match Lib.atoiAll x with| .ok n=>(n,true)| .range=>(Lib.atoiSat x,false)|_=>(0,false))else none
theorem strconv_Atoi_ok{P:Program}{B:TB}{f g0 g1:Nat}(hb:Bs P f=true)(hg0:B.G g0= [.ifc])(hg1:B.G g1= [.ifc]){e8 t1 t2:TypeId}{n1:ByteArray}
  (h_ok:∀(s:ByteArray) (_:s.size≤9223372036854775806) (v:Int) (_:Lib.atoiAll s.data.toList=.ok v) (w:World),Calls P f #[.string s] w fun e w'=>e=.returned (.tuple #[.int .i64 v,.nilIface])∧(w'=w∨∃t,w'=Lib.bytesWorld w e8 t))
  (h_syn:∀(s:ByteArray) (_:s.size≤281474976710656) (_:Lib.atoiAll s.data.toList=Lib.NumEnd.syntax) (ev:Value) (w:World) (_:w.cell? ⟨g0,0,none⟩=some ev) (_:ev=.nilIface∨∃te pe,ev=.iface te pe),Calls P f #[.string s] w fun e w'=>∃N,e=.returned (.tuple #[.int .i64 0,.iface t1 (.pointer (some ⟨N,0,none⟩))])∧w.heap.size≤N∧w'.heap[N]? =some (.cells #[.string n1,.string s,ev] t2 (0,0))∧Below w.heap.size w w')
  (h_rng:∀(s:ByteArray) (_:s.size≤281474976710656) (_:Lib.atoiAll s.data.toList=Lib.NumEnd.range) (ev:Value) (w:World) (_:w.cell? ⟨g1,0,none⟩=some ev) (_:ev=.nilIface∨∃te pe,ev=.iface te pe),Calls P f #[.string s] w fun e w'=>∃N,e=.returned (.tuple #[.int .i64 (Lib.atoiSat s.data.toList),.iface t1 (.pointer (some ⟨N,0,none⟩))])∧w.heap.size≤N∧w'.heap[N]? =some (.cells #[.string n1,.string s,ev] t2 (0,0))∧Below w.heap.size w w')
  {s:D (.one .str)} {l:List CV} {y:D (.tup (.cons (.int .i64) (.one .err)))} (hx:Can (.one .str) s l) (hy:JA s=some y):
  Bs P f=true∧CallsTo P B.G f l (.val (enc (.tup (.cons (.int .i64) (.one .err))) y)):=by
 refine⟨hb,fun w M vs hM hGk hL=> ?_⟩;obtain⟨te0,pe0,ev0⟩:=At.err_of hGk hg0;obtain⟨te1,pe1,ev1⟩:=At.err_of hGk hg1;simp only[JA]at hy;split at hy<;>(try cases hy;done);rename_i h1;simp only[Ac]at hy;unfold Can at hx;obtain⟨c1,rfl,h2⟩:=hx;unfold Can at h2;cases h2;unfold RelL RelC at hL;obtain⟨v,vs',rfl,rfl,hL⟩:=hL;unfold RelL at hL;subst hL;have hsz:(⟨⟨s⟩⟩:ByteArray).size=List.length s:=rfl;rcases hp:Lib.atoiAll s with n|_|_
 ·
  rw[hp]at hy;subst hy;refine(h_ok ⟨⟨s⟩⟩ (by rw[hsz];omega) n hp w).mono fun e w' he=> ?_;obtain⟨rfl,hw⟩:=he
  have hbw:Below w.heap.size w w':=by
   rcases hw with rfl|⟨t,rfl⟩
   ·exact Below.refl _ _
   ·exact(by first|exact Lib.bytesWorld_below _ _ _|exact Go.Joins.below_bytesWorld _ _ _ _ (Nat.le_refl _)|exact below_bytesWorld _ _ _ _ (Nat.le_refl _))
  exact⟨_,rfl,hbw,_,rfl,_,_,rfl,rfl,_,_,rfl,rfl,rfl⟩
 ·
  rw[hp]at hy;subst hy;refine(h_syn ⟨⟨s⟩⟩ (by rw[hsz];exact h1) hp _ w ev0 (.inr ⟨_,_,rfl⟩)).mono fun e w' he=> ?_;obtain⟨N,rfl,_,_,hbw⟩:=he;exact⟨_,rfl,hbw,_,rfl,_,_,rfl,rfl,_,_,rfl,⟨_,_,rfl⟩,rfl⟩
 ·
  rw[hp]at hy;subst hy;refine(h_rng ⟨⟨s⟩⟩ (by rw[hsz];exact h1) hp _ w ev1 (.inr ⟨_,_,rfl⟩)).mono fun e w' he=> ?_;obtain⟨N,rfl,_,_,hbw⟩:=he;exact⟨_,rfl,hbw,_,rfl,_,_,rfl,rfl,_,_,rfl,⟨_,_,rfl⟩,rfl⟩
end WB
namespace WB
open Go Go.RowKit Go.Maps Go.Sort
open Go.WideElems (Fit rd rg)
def leZ(x y:Int):Bool:=decide (x≤y)
def HQ{β:Type}:List (Int×β)→Option (List Int):=fun m=>if m.length≤1000000∧(m.all fun p=>decide (-9223372036854775808≤p.1∧p.1≤9223372036854775807))=true then some ((m.map (·.1)).mergeSort leZ)else none
theorem Xq{a b:List Int}(h:a.Perm b):a.mergeSort leZ=b.mergeSort leZ:=by
 have hp:∀l:List Int,(l.mergeSort leZ).Pairwise fun x y=>leZ x y=true:=fun l=>List.pairwise_mergeSort (fun a b c h1 h2=>by
  simp only[leZ,decide_eq_true_eq]at*
  omega) (fun a b=>by
  simp only[leZ,Aj,decide_eq_true_eq]
  omega) l
 refine List.Perm.eq_of_pairwise (le:=fun x y=>leZ x y=true) (fun a b _ _ h1 h2=> ?_) (hp a) (hp b) (((List.mergeSort_perm a leZ).trans h).trans (List.mergeSort_perm b leZ).symm);simp only[leZ,decide_eq_true_eq]at h1 h2;omega
theorem R3{w:World}{M:MM}{β:Type}:∀{m:List (Int×β)} {ks:List CV} {vs:List Value},Ap (fun(x:Int×β) c=>Can (.int .i64) x.1 [c]) m ks→RelL w M ks vs→vs=m.map fun p=>Value.int .i64 p.1
 | [],ks,vs,h,hl=>by
  unfold Ap at h;subst h;unfold RelL at hl;subst hl;rfl
 |p::m,ks,vs,h,hl=>by
  unfold Ap at h;obtain⟨c,ks',rfl,h1,h2⟩:=h;unfold Can at h1;cases h1;unfold RelL at hl;obtain⟨v,vs',rfl,h3,hl⟩:=hl;unfold RelC at h3;subst h3;rw[R3 h2 hl];rfl
theorem YA{w:World}{M:MM}{B:Nat}{et:TypeId}{ss:List Int}{v:Value}(hB:∀g,M g→g<B)(h:w.ownsRow B et 1 v ss.length (ss.map encZ)):RelC w M (enc (.sl (.int .i64)) ss) v:=by
 have hes:enc (.sl (.int .i64)) ss=.sl none (ss.map fun s=>CV.int .i64 s):=by simp[enc,AU]
 rw[hes];unfold RelC;rcases h.2 with⟨e1,e2⟩|⟨g,cap,cur,e1,e2,e3,e4,e5,e6,e7⟩
 ·have:ss= []:=List.eq_nil_of_length_eq_zero e2;subst this;exact⟨none,0,0,e1,rfl,Nat.le_refl _,(fun hh=>by cases hh),(fun hh=>by cases hh),fun _=>rfl,fun hne=>absurd rfl hne⟩
 ·refine⟨some ⟨g,0,none⟩,ss.length,cap,e1,by simp,e4,(fun hh=>by cases hh),(fun hh=>by cases hh),(fun hh=>by cases hh),fun _=>⟨⟨g,0,none⟩,1,rfl,heap_lt e3,fun hm=> ?_, ?_⟩⟩
  ·have:=hB g hm;omega
  refine E9 fun k el hel=> ?_;rw[List.getElem?_map,Aa]at hel;obtain⟨s,hs,rfl⟩:=hel;refine⟨.int .i64 s,by unfold RelC;rfl,rfl,fun j u' hu=> ?_⟩
  have hj:j=0∧u'=.int .i64 s:=by
   cases j with
   |zero=>exact⟨rfl,by simpa[Value.cells]using hu.symm⟩
   |succ j=>simp[Value.cells]at hu
  obtain⟨rfl,rfl⟩:=hj;rw[Do,cell_of_row w g _ cur et (0,0) e3]
  have h8:(cur.toList.take (ss.length*1))[k]? =some (.int .i64 s):=by
   rw[e7,List.getElem?_map,hs];rfl
  rw[List.getElem?_take]at h8;split at h8
  ·simpa using h8
  ·cases h8
theorem Zc{P:Program}{B:TB}{f g:Nat}{kT:TypeId}{t:Ty}(hb:Bs P f=true)(hmv:DF g=none)(hk:P.underlying kT=some (.int .i64))
  (hc:∀(Bm b nn:Nat) (D0:DataW Value) (R:Value→Option (DataW Value×List MemPlace)) (w:World),Bm<w.heap.size→w.cell? ⟨Bm,0,none⟩=some (.map (some b))→w.ownsMap P kT R b nn D0→Maps.size D0≤maxLen→Maps.size D0*8≤140737488355328→
   Calls P f #[.func (.func g) #[] #[.pointer (some ⟨Bm,0,none⟩)]] w fun e w'=>∃(v:Value) (ss:List Int),e=.returned v∧ss.Perm (intKeys D0)∧w'.ownsRow w.heap.size kT 1 v ss.length ((ss.mergeSort (fun x y=>decide (x≤y))).map encZ)∧(v=.slice none 0 0↔ss= [])∧Below w.heap.size w w')
  (hn:∀(Bm:Nat) (w:World),Bm<w.heap.size→w.cell? ⟨Bm,0,none⟩=some (.map none)→
   Calls P f #[.func (.func g) #[] #[.pointer (some ⟨Bm,0,none⟩)]] w fun e w'=>∃(v:Value) (ss:List Int),e=.returned v∧ss= []∧w'.ownsRow w.heap.size kT 1 v ss.length ((ss.mergeSort (fun x y=>decide (x≤y))).map encZ)∧(v=.slice none 0 0↔ss= [])∧Below w.heap.size w w')
  {x:D (.one (.clo g (.one (.pt (.one (.map (.int .i64) t))))))} {l:List CV} {y:D (.sl (.int .i64))} (hx:Can (.one (.clo g (.one (.pt (.one (.map (.int .i64) t)))))) x l) (hy:HQ x=some y):
  Bs P f=true∧CallsTo P B.G f l (.val (enc (.sl (.int .i64)) y)):=by
 refine⟨hb,fun w M vs hM hGk hL=> ?_⟩;simp only[HQ]at hy;split at hy
 case isFalse=>cases hy
 rename_i hdom;obtain⟨hlen,hall⟩:=hdom;cases hy;unfold Can at hx;obtain⟨c,rfl,hx⟩:=hx;unfold Can at hx;obtain⟨l1,e,hx⟩:=hx;cases e;unfold Can at hx;obtain⟨c,rfl,hx⟩:=hx;unfold Can at hx;obtain⟨l1,e,hx⟩:=hx;cases e;unfold Can at hx;obtain⟨c,rfl,hx⟩:=hx;unfold Can at hx;obtain⟨nl,ks,us,e,hks,hus⟩:=hx;cases e;unfold RelL at hL;obtain⟨v,vs',rfl,h1,hL⟩:=hL;unfold RelL at hL;subst hL;unfold RelC at h1;obtain⟨caps,hfn,h1⟩:=h1;unfold FnV at hfn;rw[hmv]at hfn;simp only at hfn;subst hfn;unfold RelL at h1;obtain⟨v,vs',rfl,h1,hL⟩:=h1;unfold RelL at hL;subst hL;unfold RelC at h1;obtain⟨Bm,ty,vs2,rfl,hheap,hnm,h1⟩:=h1;unfold RelL at h1;obtain⟨v,vs',rfl,h1,hL⟩:=h1;unfold RelL at hL;subst hL;unfold RelC at h1;obtain⟨r,rfl,_,_,hnil,hsome⟩:=h1
 have hcell:w.cell? ⟨Bm,0,none⟩=some (.map r):=by
  simp[World.cell?,hheap]
 have hlt:=heap_lt hheap
 have fin:∀{e:Ending} {w':World} {ss:List Int} {v:Value},e=.returned v→ss.Perm (x.map (·.1))→w'.ownsRow w.heap.size kT 1 v ss.length ((ss.mergeSort (fun x y=>decide (x≤y))).map encZ)→Below w.heap.size w w'→
   ∃v,e=.returned v∧Below w.heap.size w w'∧Gf P w' M w.heap.size v (.val (enc (.sl (.int .i64)) ((x.map (·.1)).mergeSort leZ))):=by
  intro e w' ss v he hp hrow hbw;refine⟨v,he,hbw, ?_⟩;show RelC _ M _ _;rw[←Xq hp];refine YA (B:=w.heap.size) (et:=kT) hM ?_;rw[List.length_mergeSort];exact hrow
 cases r with
 |none=>
  obtain⟨rfl,rfl⟩:=hnil rfl
  have hx0:x= []:=by
   have:=hks.length;exact List.eq_nil_of_length_eq_zero (by simpa using this.symm)
  subst hx0;refine(hn Bm w hlt hcell).mono fun e w' ⟨v,ss,he,hss,hrow,_,hbw⟩=>fin he (by rw[hss];exact List.Perm.refl _) hrow hbw
 |some b=>
  obtain⟨_,ens,ens',clk,hh,hE,hpm,hrk,_⟩:=hsome b rfl;have hkeys:=R3 hks hrk
  have rdE:∀en∈ens,∃y,rd P kT Fm en=some y:=by
   intro en hen;have:en.key∈ens'.map (·.key):=List.mem_map_of_mem (hpm.mem_iff.2 hen);rw[hkeys,List.mem_map]at this;obtain⟨p,hp,hpe⟩:=this
   have hl: -9223372036854775808≤p.1∧p.1≤9223372036854775807:=by
    have:=List.all_eq_true.1 hall p hp;simpa using this
   unfold rd
   rw[←hpe,Go.Maps.keyOf_int_mk hk (by
    have m1:IntKind.i64.min= -9223372036854775808:=by decide
    have m2:IntKind.i64.max=9223372036854775807:=by decide
    simp only[Lit.wf,m1,m2,Af,decide_eq_true_eq]
    exact hl)]
   exact⟨_,rfl⟩
  have hlen2:ens.length=x.length:=by
   have h3:=congrArg List.length hkeys;rw[List.length_map,List.length_map]at h3;rw[←hpm.length_eq,h3]
  have ho:w.ownsMap P kT Fm b ens.length (.map ((ens.map (rg P kT Fm)).foldr DataW.insert [])):=
   ⟨⟨ens⟩,clk,hh,⟨by simp only[List.size_toArray];unfold maxLen;omega,⟨hE.2.1,hE.2.2,hE.1⟩,rdE⟩,by simp,rfl⟩
  have hsz:Maps.size (DataW.map ((ens.map (rg P kT Fm)).foldr DataW.insert []))=ens.length:=by
   show((ens.map (rg P kT Fm)).foldr DataW.insert []).length=_;rw[(WideShapes.sorted_perm _).length_eq,List.length_map]
  refine(hc Bm b ens.length _ Fm w hlt hcell ho (by rw[hsz];unfold maxLen;omega) (by rw[hsz];omega)).mono fun e w' ⟨v,ss,he,hss,hrow,_,hbw⟩=>fin he ?_ hrow hbw;refine hss.trans ?_;have p1:=(WideShapes.sorted_perm (ens.map (rg P kT Fm))).map fun p=>Go.intOf p.1;refine p1.trans ?_;rw[List.map_map]
  have e1:ens.map ((fun p=>Go.intOf p.1)∘rg P kT Fm)=ens.map fun en=>(match en.key with| .int _ n=>n|_=>0):=List.map_congr_left fun en hen=>by
   obtain⟨y,hy⟩:=rdE en hen;simp only[Function.comp_apply];unfold rg;rw[hy];unfold rd at hy;simp only[Ab,Fm,Option.map_some,Ac]at hy;obtain⟨lt,hl1,rfl⟩:=hy;obtain⟨n,hn1,rfl,_⟩:=Maps.keyOf_int_inv hk hl1;rw[hn1];rfl
  rw[e1]
  have e2:(ens.map fun en=>(match en.key with| .int _ n=>n|_=>(0:Int)))=(ens.map (·.key)).map fun v=>(match v with| .int _ n=>n|_=>(0:Int)):=by
   rw[List.map_map];rfl
  rw[e2];have p3:=(hpm.symm.map (·.key)).map fun v=>(match v with| .int _ n=>n|_=>(0:Int));refine p3.trans ?_;rw[hkeys,List.map_map];exact List.Perm.refl _
end WB
