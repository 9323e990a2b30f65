/-
  OWN TEXTS, MERGED (wip/merge.py): Piter, Pgd, Pfold, Pu64, Pdg, LibJn, LibIt, LibAt, LibCt, LibTr. No condition of their own.
-/
import Derived.Test.YtcakkedgkahhfaaGreatDoorK6
import Derived.Lib.Mul64
import Derived.Laws.Bits64b
import Derived.Laws.BitsLemmas
import Derived.Lib.ItoaNum
import Derived.Lib.Join
import Derived.Lib.AtoiAll
import Derived.Lib.SmallJoins
import Derived.Lib.AtoiErrMem
import Derived.Lib.SlTrimSet
import Derived.Lib.IndexAny
set_option linter.unusedVariables false
set_option linter.unusedSimpArgs false
open Go.IntKind (i64 u64 u8 u32)
namespace WB
open Go Go.RowKit
theorem bs{α β:Type}(a:α)(f:α→Option β):(some a).bind f=f a:=(Option.bind_some a f).trans (Eq.refl _)
theorem ms{α β:Type}(a:α)(f:α→β):(some a).map f=some (f a):=(Option.map_some (f:=f) (a:=a)).trans (Eq.refl _)
theorem Dq{α:Type}{xs:List α}{i:Nat}{a:α}(h:xs[i]? =some a):lAt xs (i:Int)=some a:=by
 have:=(Ae.1 h).1;unfold lAt;rw[if_pos ⟨by omega,by omega⟩];simpa using h
theorem NN{s:List UInt8}{i:Nat}{b:UInt8}(h:s[i]? =some b):sAt s (i:Int)=some (b.toNat:Int):=by
 have:=(Ae.1 h).1;unfold sAt;rw[if_pos ⟨by omega,by omega⟩];simp[h]
theorem HR{α:Type}{xs:List α}{i j:Nat}(h1:i≤j)(h2:j≤xs.length):B4 xs (i:Int) (j:Int)=some ((xs.take j).drop i):=by
 unfold B4;rw[if_pos ⟨by omega,by omega,by omega⟩];simp
theorem E8{n:Int}(h1: -9223372036854775808≤n)(h2:n≤9223372036854775807):i64.wrap n=n:=Go.IntWalk.i64_in n ⟨h1,h2⟩
section
variable {α β γ δ:Type} {p:Prop} [Decidable p]
theorem gPb(X:Option α)(f:α→Option β):(if p then X else none).bind f=if p then X.bind f else none:=by by_cases h:p<;>simp[h]
theorem gPm(X:Option α)(f:α→β):(if p then X else none).map f=if p then X.map f else none:=by by_cases h:p<;>simp[h]
theorem gPs(Y Z:Option β)(W:Option β):(if p then(if p then Z else W)else Y)=if p then Z else Y:=by by_cases h:p<;>simp[h]
theorem gM(A:Option α)(B:Option α→Option β)(K:Option β→Option γ):(Option.bind (if p then A.map some else some none) fun x=>Option.bind (if p then(B x).map some else some none) K)=Option.bind (if p then(A.bind fun v=>B (some v)).map some else some none) K:=by by_cases h:p<;>cases A<;>simp[h]
theorem gM2(A:Option α)(B:Option α→Option β)(C:Option α→Option β→Option γ)(K:Option γ→Option δ):(Option.bind (if p then A.map some else some none) fun x=>Option.bind (if p then(B x).map some else some none) fun y=>Option.bind (if p then(C x y).map some else some none) K)=Option.bind (if p then(A.bind fun v=>(B (some v)).bind fun w=>C (some v) (some w)).map some else some none) K:=by
 by_cases h:p
 ·cases A with
  |none=>simp[h]
  |some v=>simp only[h,if_true,Option.map_some,Option.bind_some];cases B (some v)<;>simp
 ·simp[h]
theorem Cg(c:Bool)(A:Option α)(B:Option α→Option Bool)(K:Bool→Option β):(Option.bind (if c=true then A.map some else some none) fun x=>Option.bind (if c=true then B x else some false) K)=Option.bind (if c=true then A.bind fun v=>B (some v)else some false) K:=by cases c<;>cases A<;>simp
theorem gOr(c:Bool)(A:Option α)(B:Option α→Option Bool)(K:Bool→Option β):(Option.bind (if c=false then A.map some else some none) fun x=>Option.bind (if c=true then some true else B x) K)=Option.bind (if c=true then some true else A.bind fun v=>B (some v)) K:=by cases c<;>cases A<;>simp
theorem Ch(A B:Option Bool)(K:Option Bool→Option β):(Option.bind (if p then A.map some else some none) fun g=>Option.bind (if g=some true then B.map some else some none) fun x=>Option.bind (if p then(g.bind fun z=>if z=true then x else some false).map some else some none) K)=Option.bind (if p then(A.bind fun z=>if z=true then B else some false).map some else some none) K:=by
 by_cases h:p
 ·cases A with
  |none=>simp[h]
  |some v=>cases v<;>cases B<;>simp[h]
 ·simp[h]
theorem Cm(A B:Option Bool)(K:Option Bool→Option β):(Option.bind (if p then A.map some else some none) fun g=>Option.bind (if g=some false then B.map some else some none) fun x=>Option.bind (if p then(g.bind fun z=>if z=true then some true else x).map some else some none) K)=Option.bind (if p then(A.bind fun z=>if z=true then some true else B).map some else some none) K:=by
 by_cases h:p
 ·cases A with
  |none=>simp[h]
  |some v=>cases v<;>cases B<;>simp[h]
 ·simp[h]
theorem gAA(c:Bool)(A:Option Bool)(B:Option α)(C:Option α→Option Bool)(K:Bool→Option β):(Option.bind (if c=true then A.map some else some none) fun g=>Option.bind (if g=some true then B.map some else some none) fun x=>Option.bind (if c=true then g.bind fun z=>if z=true then C x else some false else some false) K)=Option.bind (if c=true then A.bind fun z=>if z=true then B.bind fun v=>C (some v)else some false else some false) K:=by
 cases c<;>cases A<;>first|(simp;done)|(rename_i v;cases v<;>cases B<;>simp)
theorem gAO(c:Bool)(A:Option Bool)(B:Option α)(C:Option α→Option Bool)(K:Bool→Option β):(Option.bind (if c=false then A.map some else some none) fun g=>Option.bind (if g=some true then B.map some else some none) fun x=>Option.bind (if c=true then some true else g.bind fun z=>if z=true then C x else some false) K)=Option.bind (if c=true then some true else A.bind fun z=>if z=true then B.bind fun v=>C (some v)else some false) K:=by
 cases c<;>cases A<;>first|(simp;done)|(rename_i v;cases v<;>cases B<;>simp)
theorem gOA(c:Bool)(A:Option Bool)(B:Option α)(C:Option α→Option Bool)(K:Bool→Option β):(Option.bind (if c=true then A.map some else some none) fun g=>Option.bind (if g=some false then B.map some else some none) fun x=>Option.bind (if c=true then g.bind fun z=>if z=true then some true else C x else some false) K)=Option.bind (if c=true then A.bind fun z=>if z=true then some true else B.bind fun v=>C (some v)else some false) K:=by
 cases c<;>cases A<;>first|(simp;done)|(rename_i v;cases v<;>cases B<;>simp)
theorem gOO(c:Bool)(A:Option Bool)(B:Option α)(C:Option α→Option Bool)(K:Bool→Option β):(Option.bind (if c=false then A.map some else some none) fun g=>Option.bind (if g=some false then B.map some else some none) fun x=>Option.bind (if c=true then some true else g.bind fun z=>if z=true then some true else C x) K)=Option.bind (if c=true then some true else A.bind fun z=>if z=true then some true else B.bind fun v=>C (some v)) K:=by
 cases c<;>cases A<;>first|(simp;done)|(rename_i v;cases v<;>cases B<;>simp)
theorem Cd(c:Bool)(A:Option Bool)(B:Option α)(C:Option α→Option Bool)(F:Bool→Option Bool)(K:Bool→Option β):(Option.bind (if c=true then A.map some else some none) fun g=>Option.bind (if g=some true then B.map some else some none) fun x=>Option.bind (if c=true then(g.bind fun z=>if z=true then C x else some false).bind F else some false) K)=Option.bind (if c=true then(A.bind fun z=>if z=true then B.bind fun v=>C (some v)else some false).bind F else some false) K:=by
 cases c<;>cases A<;>first|(simp;done)|(rename_i v;cases v<;>cases B<;>simp)
theorem Cf(c:Bool)(A:Option Bool)(B:Option α)(C:Option α→Option Bool)(F:Bool→Option Bool)(K:Bool→Option β):(Option.bind (if c=false then A.map some else some none) fun g=>Option.bind (if g=some true then B.map some else some none) fun x=>Option.bind (if c=true then some true else(g.bind fun z=>if z=true then C x else some false).bind F) K)=Option.bind (if c=true then some true else(A.bind fun z=>if z=true then B.bind fun v=>C (some v)else some false).bind F) K:=by
 cases c<;>cases A<;>first|(simp;done)|(rename_i v;cases v<;>cases B<;>simp)
theorem Ci(c:Bool)(A:Option Bool)(B:Option α)(C:Option α→Option Bool)(F:Bool→Option Bool)(K:Bool→Option β):(Option.bind (if c=true then A.map some else some none) fun g=>Option.bind (if g=some false then B.map some else some none) fun x=>Option.bind (if c=true then(g.bind fun z=>if z=true then some true else C x).bind F else some false) K)=Option.bind (if c=true then(A.bind fun z=>if z=true then some true else B.bind fun v=>C (some v)).bind F else some false) K:=by
 cases c<;>cases A<;>first|(simp;done)|(rename_i v;cases v<;>cases B<;>simp)
theorem Ck(c:Bool)(A:Option Bool)(B:Option α)(C:Option α→Option Bool)(F:Bool→Option Bool)(K:Bool→Option β):(Option.bind (if c=false then A.map some else some none) fun g=>Option.bind (if g=some false then B.map some else some none) fun x=>Option.bind (if c=true then some true else(g.bind fun z=>if z=true then some true else C x).bind F) K)=Option.bind (if c=true then some true else(A.bind fun z=>if z=true then some true else B.bind fun v=>C (some v)).bind F) K:=by
 cases c<;>cases A<;>first|(simp;done)|(rename_i v;cases v<;>cases B<;>simp)
theorem Ce(A:Option Bool)(B:Option α)(C:Option α→Option Bool)(F:Bool→Option γ)(K:Option γ→Option β):(Option.bind (if p then A.map some else some none) fun g=>Option.bind (if g=some true then B.map some else some none) fun x=>Option.bind (if p then((g.bind fun z=>if z=true then C x else some false).bind F).map some else some none) K)=Option.bind (if p then((A.bind fun z=>if z=true then B.bind fun v=>C (some v)else some false).bind F).map some else some none) K:=by
 by_cases h:p<;>cases A<;>first|(simp[h];done)|(rename_i v;cases v<;>cases B<;>simp[h])
theorem Cj(A:Option Bool)(B:Option α)(C:Option α→Option Bool)(F:Bool→Option γ)(K:Option γ→Option β):(Option.bind (if p then A.map some else some none) fun g=>Option.bind (if g=some false then B.map some else some none) fun x=>Option.bind (if p then((g.bind fun z=>if z=true then some true else C x).bind F).map some else some none) K)=Option.bind (if p then((A.bind fun z=>if z=true then some true else B.bind fun v=>C (some v)).bind F).map some else some none) K:=by
 by_cases h:p<;>cases A<;>first|(simp[h];done)|(rename_i v;cases v<;>cases B<;>simp[h])
theorem H6(A:Option α)(X Y:α→Option β)(R:α→β→Option γ)(Z:Option γ):(if p then(A.bind fun v=>(if p then X v else Y v).bind (R v))else Z)=if p then(A.bind fun v=>(X v).bind (R v))else Z:=by by_cases h:p<;>simp[h]
theorem H7(A:Option α)(X Y:α→Option β)(R:α→β→γ)(Z:Option γ):(if p then(A.bind fun v=>(if p then X v else Y v).map (R v))else Z)=if p then(A.bind fun v=>(X v).map (R v))else Z:=by by_cases h:p<;>simp[h]
theorem H8(X Y:Option β)(R:β→Option γ)(Z:Option γ):(if p then((if p then X else Y).bind R)else Z)=if p then(X.bind R)else Z:=by by_cases h:p<;>simp[h]
theorem H9(X Y:Option β)(R:β→γ)(Z:Option γ):(if p then((if p then X else Y).map R)else Z)=if p then(X.map R)else Z:=by by_cases h:p<;>simp[h]
theorem HC(c:Bool)(X Y:Option β)(R:β→Option γ)(Z:Option γ):(if c=true then Z else((if c=false then X else Y).bind R))=if c=true then Z else X.bind R:=by cases c<;>simp
theorem HD(c:Bool)(A:Option α)(X Y:α→Option β)(R:α→β→Option γ)(Z:Option γ):(if c=true then Z else(A.bind fun v=>(if c=false then X v else Y v).bind (R v)))=if c=true then Z else(A.bind fun v=>(X v).bind (R v)):=by cases c<;>simp
theorem HE(c:Bool)(A:Option α)(X Y:α→Option β)(R:α→β→γ)(Z:Option γ):(if c=true then Z else(A.bind fun v=>(if c=false then X v else Y v).map (R v)))=if c=true then Z else(A.bind fun v=>(X v).map (R v)):=by cases c<;>simp
theorem HF(c:Bool)(X Y:Option β)(R:β→γ)(Z:Option γ):(if c=true then Z else((if c=false then X else Y).map R))=if c=true then Z else X.map R:=by cases c<;>simp
theorem gPi(X:Option α)(Y W:α→Option β)(Z:Option β):(if p then(X.bind fun z=>if p then Y z else W z)else Z)=if p then X.bind Y else Z:=by by_cases h:p<;>simp[h]
theorem gSS(v:α)(Z:Option (Option α)):(if p then some (some v)else Z)=if p then(some v).map some else Z:=rfl
theorem gId(X:Option α):X.map (fun z=>z)=X:=by cases X<;>rfl
theorem H5(X:Option α):(X.bind fun z=>some z)=X:=by cases X<;>rfl
theorem gMb(X:Option α)(f:α→β)(g:β→Option γ):(X.map f).bind g=X.bind fun v=>g (f v):=by cases X<;>rfl
theorem gMm(X:Option α)(f:α→β)(g:β→γ):(X.map f).map g=X.map fun v=>g (f v):=by cases X<;>rfl
theorem gBm(X:Option α)(f:α→Option β)(g:β→γ):(X.bind f).map g=X.bind fun v=>(f v).map g:=by cases X<;>rfl
theorem gBb(X:Option α)(f:α→Option β)(g:β→Option γ):(X.bind f).bind g=X.bind fun v=>(f v).bind g:=by cases X<;>rfl
end
theorem G5{α:Type}{l:List α}{i:Nat}{x:α}(h:l[i]? =some x):decide ((i:Int)<(l.length:Int))=true:=
 Al (by have:=(Ae.1 h).1;omega)
theorem MZ{α:Type}(l:List α):decide ((l.length:Int)<(l.length:Int))=false:=Ak (by omega)
theorem DF{i:Nat}(h:i<9223372036854775807):i64.wrap ((i:Int)+1)=((i+1:Nat):Int):=by
 rw[E8 (by omega) (by omega)];simp
theorem As.len{α:Type}{p:α→CV→Prop}:∀{xs:List α} {es:List CV},As p xs es→es.length=xs.length
 | [],es,h=>by unfold As at h;subst h;rfl
 |x::xs,es,h=>by
  unfold As at h;obtain⟨c,es',rfl,_,h2⟩:=h;simp[As.len h2]
theorem Ot{w:World}{M:MM}{ad:Addr}{size:Nat}:∀{xs:List (List UInt8)} {es:List CV} {i:Nat},As (fun x c=>Can .str x [c]) xs es→AH w M ad size i es→∀(j:Nat) s,xs[j]? =some s→w.cell? (ad.add (i+j))=some (.string ⟨⟨s⟩⟩)
 | [],es,i,_,_,j,s,hj=>by simp at hj
 |x::xs,es,i,h,hr,j,s,hj=>by
  unfold As at h;obtain⟨c,es',rfl,h1,h2⟩:=h;unfold Can at h1;cases h1;unfold AH at hr;obtain⟨⟨v,g1,g2,g3⟩,hr⟩:=hr;unfold An at g1;subst g1;have hs:size=1:=by rw[←g2];rfl
  subst hs
  cases j with
  |zero=>
   simp only[List.getElem?_cons_zero,Ac]at hj;subst hj;have:=g3 0 (.string ⟨⟨x⟩⟩) rfl;rw[Nat.mul_one]at this;exact this
  |succ j=>
   have:=Ot h2 hr j s (by simpa using hj);rw[show i+(j+1)=i+1+j by omega];exact this
def strings_Join:List (List UInt8)×List UInt8→Option (List UInt8):=fun x=>if(Lib.join x.1 x.2).length≤140737488355328∧x.1.length≤140737488355328 then some (Lib.join x.1 x.2)else none
theorem Se{P:Program}{B:TB}{f:Nat}(hb:AO P f=true)
  (hn:∀(a:Option Addr) (c:Nat) (sep:ByteArray) (w:World),Calls P f #[.slice a 0 c,.string sep] w fun e w'=>e=.returned (.string ⟨#[]⟩)∧w'=w)
  (hc:∀(bk o c:Nat) (xs:List ByteArray) (sep:ByteArray) (w:World) (_:∀(j:Nat) x,xs[j]? =some x→w.cell? ⟨bk,o+j,none⟩=some (.string x)) (_:bk<w.heap.size) (_:xs.length≤140737488355328) (_:xs.length≤c) (_:(Lib.join (xs.map (·.data.toList)) sep.data.toList).length≤140737488355328),
   Calls P f #[.slice (some ⟨bk,o,none⟩) xs.length c,.string sep] w fun e w'=>e=.returned (.string ⟨(Lib.join (xs.map (·.data.toList)) sep.data.toList).toArray⟩)∧Below w.heap.size w w')
  {x:D (.cons (.sl .str) (.one .str))} {l:List CV} {y:D .str} (hx:Can (.cons (.sl .str) (.one .str)) x l) (hy:strings_Join x=some y):AO P f=true∧CallsTo P B.G f l (.val (enc .str y)):=by
 refine⟨hb,fun w M vs hM hGk hL=> ?_⟩;obtain⟨xs,sep⟩:=x;simp only[strings_Join]at hy;split at hy
 ·rename_i h;obtain⟨h0,h1⟩:=h;cases hy;unfold Can at hx;obtain⟨c1,l',rfl,h2,h3⟩:=hx;unfold Can at h2 h3;obtain⟨nl,es,h4,h5⟩:=h2;obtain⟨c',rfl,h3⟩:=h3;unfold Can at h3;cases h3;cases h4;have hlen:=h5.len;unfold Am An at hL;obtain⟨v,vs',rfl,⟨a,n,c,rfl,g1,g2,g3,g4,g5,g6⟩,hL⟩:=hL;unfold Am An at hL;obtain⟨v,vs',rfl,rfl,hL⟩:=hL;unfold Am at hL;subst hL
  cases xs with
  |nil=>
   have hes:es= []:=List.eq_nil_of_length_eq_zero (by simpa using hlen);subst hes;simp only[List.length_nil]at g1;subst g1;refine(hn a c ⟨⟨sep⟩⟩ w).mono fun e w' he=> ?_;obtain⟨rfl,rfl⟩:=he;refine⟨_,rfl,Below.refl _ _, ?_⟩;simp[Dk,enc,A3,An,Lib.join_nil]
  |cons x0 xr=>
   have hne:es≠ []:=by
    intro hh;rw[hh]at hlen;simp at hlen
   obtain⟨ad,size,rfl,k1,k2,k3⟩:=g6 hne;have hcell:=Ot h5 k3;simp only[Nat.zero_add]at hcell
   have hspot:ad.spot=none:=by
    have:=hcell 0 x0 rfl;unfold World.cell? at this;rw[add_zero]at this;split at this
    ·split at this
     ·cases this
     ·rename_i hsp;simpa using hsp
    ·cases this
   obtain⟨bk,o,sp⟩:=ad;simp only at hspot k1;subst hspot;have hm:((x0::xr).map fun s=>(⟨⟨s⟩⟩:ByteArray)).map (·.data.toList)=x0::xr:=by simp[List.map_map,Function.comp_def]
   have:=hc bk o c ((x0::xr).map fun s=>⟨⟨s⟩⟩) ⟨⟨sep⟩⟩ w (fun j b hj=>by
    rw[List.getElem?_map,Aa]at hj;obtain⟨s,hs,rfl⟩:=hj;have:=hcell j s hs;unfold Addr.add at this;split at this
    ·rename_i hj0;rw[hj0];exact this
    ·exact this) k1 (by rw[List.length_map];exact h1) (by rw[List.length_map,←hlen,←g1];exact g2) (by rw[hm];exact h0)
   rw[hm,List.length_map,←hlen,←g1]at this;refine this.mono fun e w' he=> ?_;obtain⟨rfl,hbw⟩:=he;refine⟨_,rfl,hbw, ?_⟩;simp[Dk,enc,A3,An]
 ·cases hy
def strconv_Itoa:Int→Option (List UInt8):=fun x=>if-9223372036854775808≤x∧x≤9223372036854775807 then some (Lib.itoa x)else none
theorem Sb{P:Program}{B:TB}{f:Nat}(hb:AO P f=true){g:Nat}(hg:P.globalNamed "internal/strconv.uint64pow10" =some g)(hG:B.G g=Lib.pow10Tab.map fun z=>CV.int .u64 z)
  (hc:∀(n:Int) (_: -9223372036854775808≤n) (_:n≤9223372036854775807) (w:World) (_:Lib.TabIs P w "internal/strconv.uint64pow10" .u64 Lib.pow10Tab),
   Calls P f #[.int .i64 n] w fun e w'=>e=.returned (.string ⟨(Lib.itoa n).toArray⟩)∧∃k os,w'=Sort.grow (w.drewN k) os)
  {x:D (.one (.int .i64))} {l:List CV} {y:D .str} (hx:Can (.one (.int .i64)) x l) (hy:strconv_Itoa x=some y):AO P f=true∧CallsTo P B.G f l (.val (enc .str y)):=by
 refine⟨hb,fun w M vs hM hGk hL=> ?_⟩;simp only[strconv_Itoa]at hy;split at hy
 ·rename_i h;obtain⟨h0,h1⟩:=h;cases hy;unfold Can at hx;obtain⟨c,rfl,hx⟩:=hx;unfold Can at hx;cases hx;unfold Am An at hL;obtain⟨v,vs',rfl,rfl,hL⟩:=hL;unfold Am at hL;subst hL;have htab:Lib.TabIs P w "internal/strconv.uint64pow10" .u64 Lib.pow10Tab:=hGk.tab hg hG (by simp[Lib.pow10Tab]);refine(hc x h0 h1 w htab).mono fun e w' he=> ?_;obtain⟨rfl,k,os,rfl⟩:=he;refine⟨_,rfl,Lib.below_grow _ _ (Nat.le_refl _) _ _, ?_⟩;simp[Dk,enc,A3,An]
 ·cases hy
theorem At.err_of{G:Nat→List CV}{w:World}{M:MM}(h:GOk G w M){g:Nat}(hG:G g= [.ifc]):∃te pe,w.cell? ⟨g,0,none⟩=some (.iface te pe):=by
 obtain⟨h1,_⟩:=h g (by rw[hG];simp);rw[hG]at h1;unfold An at h1;obtain⟨ad,vs,e,_,_,hl,hc⟩:=h1;cases e;unfold Am An at hl;obtain⟨v,vs',rfl,⟨te,pe,rfl⟩,_⟩:=hl;refine⟨te,pe, ?_⟩;have:=hc 0 (.iface te pe) (by simp);simpa[Addr.add]using this
def IH:List UInt8→Option (Int×Bool):=fun x=>
 if x.length≤281474976710656 then some (match Lib.atoiAll x with| .ok n=>(n,true)| .range=>(Lib.atoiSat x,false)|_=>(0,false))else none
theorem strconv_Atoi_ok{P:Program}{B:TB}{f g0 g1:Nat}(hb:AO P f=true)(hg0:B.G g0= [.ifc])(hg1:B.G g1= [.ifc]){e8 t1 t2:TypeId}{n1:ByteArray}
  (h_ok:∀(s:ByteArray) (_:s.size≤9223372036854775806) (v:Int) (_:Lib.atoiAll s.data.toList=.ok v) (w:World),Calls P f #[.string s] w fun e w'=>e=.returned (.tuple #[.int .i64 v,.nilIface])∧(w'=w∨∃t,w'=Lib.bytesWorld w e8 t))
  (h_syn:∀(s:ByteArray) (_:s.size≤281474976710656) (_:Lib.atoiAll s.data.toList=Lib.NumEnd.syntax) (ev:Value) (w:World) (_:w.cell? ⟨g0,0,none⟩=some ev) (_:ev=.nilIface∨∃te pe,ev=.iface te pe),Calls P f #[.string s] w fun e w'=>∃N,e=.returned (.tuple #[.int .i64 0,.iface t1 (.pointer (some ⟨N,0,none⟩))])∧w.heap.size≤N∧w'.heap[N]? =some (.cells #[.string n1,.string s,ev] t2 (0,0))∧Below w.heap.size w w')
  (h_rng:∀(s:ByteArray) (_:s.size≤281474976710656) (_:Lib.atoiAll s.data.toList=Lib.NumEnd.range) (ev:Value) (w:World) (_:w.cell? ⟨g1,0,none⟩=some ev) (_:ev=.nilIface∨∃te pe,ev=.iface te pe),Calls P f #[.string s] w fun e w'=>∃N,e=.returned (.tuple #[.int .i64 (Lib.atoiSat s.data.toList),.iface t1 (.pointer (some ⟨N,0,none⟩))])∧w.heap.size≤N∧w'.heap[N]? =some (.cells #[.string n1,.string s,ev] t2 (0,0))∧Below w.heap.size w w')
  {s:D (.one .str)} {l:List CV} {y:D (.tup (.cons (.int .i64) (.one .err)))} (hx:Can (.one .str) s l) (hy:IH s=some y):
  AO P f=true∧CallsTo P B.G f l (.val (enc (.tup (.cons (.int .i64) (.one .err))) y)):=by
 refine⟨hb,fun w M vs hM hGk hL=> ?_⟩;obtain⟨te0,pe0,ev0⟩:=At.err_of hGk hg0;obtain⟨te1,pe1,ev1⟩:=At.err_of hGk hg1;simp only[IH]at hy;split at hy<;>(try cases hy;done);rename_i h1;simp only[Ac]at hy;unfold Can at hx;obtain⟨c1,rfl,h2⟩:=hx;unfold Can at h2;cases h2;unfold Am An at hL;obtain⟨v,vs',rfl,rfl,hL⟩:=hL;unfold Am at hL;subst hL;have hsz:(⟨⟨s⟩⟩:ByteArray).size=List.length s:=rfl;rcases hp:Lib.atoiAll s with n|_|_
 ·
  rw[hp]at hy;subst hy;refine(h_ok ⟨⟨s⟩⟩ (by rw[hsz];omega) n hp w).mono fun e w' he=> ?_;obtain⟨rfl,hw⟩:=he
  have hbw:Below w.heap.size w w':=by
   rcases hw with rfl|⟨t,rfl⟩
   ·exact Below.refl _ _
   ·exact(by first|exact Lib.bytesWorld_below _ _ _|exact Go.Joins.below_bytesWorld _ _ _ _ (Nat.le_refl _)|exact below_bytesWorld _ _ _ _ (Nat.le_refl _))
  exact⟨_,rfl,hbw,_,rfl,_,_,rfl,rfl,_,_,rfl,rfl,rfl⟩
 ·
  rw[hp]at hy;subst hy;refine(h_syn ⟨⟨s⟩⟩ (by rw[hsz];exact h1) hp _ w ev0 (.inr ⟨_,_,rfl⟩)).mono fun e w' he=> ?_;obtain⟨N,rfl,_,_,hbw⟩:=he;exact⟨_,rfl,hbw,_,rfl,_,_,rfl,rfl,_,_,rfl,⟨_,_,rfl⟩,rfl⟩
 ·
  rw[hp]at hy;subst hy;refine(h_rng ⟨⟨s⟩⟩ (by rw[hsz];exact h1) hp _ w ev1 (.inr ⟨_,_,rfl⟩)).mono fun e w' he=> ?_;obtain⟨N,rfl,_,_,hbw⟩:=he;exact⟨_,rfl,hbw,_,rfl,_,_,rfl,rfl,_,_,rfl,⟨_,_,rfl⟩,rfl⟩
def GR:List UInt8×List UInt8→Option Int:=fun x=>match x.2 with
 | [c]=>some (x.1.count c:Int)
 |_=>none
theorem Sd{P:Program}{B:TB}{f:Nat}(hb:AO P f=true)
  (hc:∀(s:ByteArray) (c:UInt8) (w:World),Calls P f #[.string s,.string ⟨#[c]⟩] w fun e w'=>e=.returned (.int .i64 (Lib.countByte s.data.toList c))∧w'=w)
  {x:D (.cons .str (.one .str))} {l:List CV} {y:D (.int .i64)} (hx:Can (.cons .str (.one .str)) x l) (hy:GR x=some y):AO P f=true∧CallsTo P B.G f l (.val (enc (.int .i64) y)):=by
 refine⟨hb,fun w M vs hM hGk hL=> ?_⟩;rw[I2 hx hL];obtain⟨s,b⟩:=x;simp only[GR]at hy;split at hy<;>(try cases hy;done);rename_i c;cases hy;refine(hc ⟨⟨s⟩⟩ c w).mono fun e w' he=> ?_;obtain⟨rfl,rfl⟩:=he;refine⟨_,rfl,Below.refl _ _, ?_⟩;simp[Dk,enc,A3,An,Lib.countByte]
def IX(l:List UInt8):Bool:=l.all fun b=>decide (b.toNat<128)
theorem Lt{l:List UInt8}(h:IX l=true)(j:Nat)(b:UInt8)(hj:l[j]? =some b):b.toNat<128:=by
 simpa using List.all_eq_true.1 h b (List.mem_of_getElem? hj)
def FR:List UInt8×List UInt8→Option (List UInt8):=fun x=>if x.1.length≤140737488355328∧x.2.length≤1000∧IX x.2=true then some (Lib.trimS x.1 x.2)else none
theorem Sf{P:Program}{B:TB}{f:Nat}(hb:AO P f=true)
  (hc:∀(s c:ByteArray) (w:World) (_:s.size≤9223372036854775807) (_:c.size<4294967281) (_:∀(j:Nat) b,c.data.toList[j]? =some b→b.toNat<128),Calls P f #[.string s,.string c] w fun e w'=>e=.returned (.string ⟨(Lib.trimS s.data.toList c.data.toList).toArray⟩)∧Below w.heap.size w w')
  {x:D (.cons .str (.one .str))} {l:List CV} {y:D .str} (hx:Can (.cons .str (.one .str)) x l) (hy:FR x=some y):AO P f=true∧CallsTo P B.G f l (.val (enc .str y)):=by
 refine⟨hb,fun w M vs hM hGk hL=> ?_⟩;rw[I2 hx hL];obtain⟨s,b⟩:=x;simp only[FR]at hy;split at hy<;>(try cases hy;done);rename_i h;obtain⟨h1,h2,h3⟩:=h;cases hy;have hs:(⟨⟨s⟩⟩:ByteArray).size=s.length:=rfl;have hb:(⟨⟨b⟩⟩:ByteArray).size=b.length:=rfl;refine(hc ⟨⟨s⟩⟩ ⟨⟨b⟩⟩ w (by rw[hs];omega) (by rw[hb];omega) fun j x hj=>Lt h3 j x hj).mono fun e w' he=> ?_;obtain⟨rfl,h4⟩:=he;refine⟨_,rfl,h4, ?_⟩;simp[Dk,enc,A3,An]
def strings_ContainsAny:List UInt8×List UInt8→Option Bool:=fun x=>if x.1.length≤4294967280∧x.2.length≤1000∧IX x.2=true then some (Lib.containsAny x.1 x.2)else none
theorem Sc{P:Program}{B:TB}{f:Nat}(hb:AO P f=true)
  (hc:∀(s c:ByteArray) (w:World) (_:s.size<4294967281) (_:c.size≤1000000) (_:∀(j:Nat) b,c.data.toList[j]? =some b→b.toNat<128),Calls P f #[.string s,.string c] w fun e w'=>e=.returned (.bool (Lib.containsAny s.data.toList c.data.toList))∧Below w.heap.size w w')
  {x:D (.cons .str (.one .str))} {l:List CV} {y:D .bool} (hx:Can (.cons .str (.one .str)) x l) (hy:strings_ContainsAny x=some y):AO P f=true∧CallsTo P B.G f l (.val (enc .bool y)):=by
 refine⟨hb,fun w M vs hM hGk hL=> ?_⟩;rw[I2 hx hL];obtain⟨s,b⟩:=x;simp only[strings_ContainsAny]at hy;split at hy<;>(try cases hy;done);rename_i h;obtain⟨h1,h2,h3⟩:=h;cases hy;have hs:(⟨⟨s⟩⟩:ByteArray).size=s.length:=rfl;have hb:(⟨⟨b⟩⟩:ByteArray).size=b.length:=rfl;refine(hc ⟨⟨s⟩⟩ ⟨⟨b⟩⟩ w (by rw[hs];omega) (by rw[hb];omega) fun j x hj=>Lt h3 j x hj).mono fun e w' he=> ?_;obtain⟨rfl,h4⟩:=he;refine⟨_,rfl,h4, ?_⟩;simp[Dk,enc,A3,An]
end WB
