/-
  OWN TEXTS, MERGED (wip/merge.py): Pcv, Pcw, Pcy, Pcz, Pfh, Pfj, Pfm, Pfq, Pfr. No condition of their own.
-/
import Derived.Test.YtlglbkbfmhelcaaGreatDoorK9
import Derived.Test.YtlglbkbfmhelcaaGreatDoorK7
import Derived.Test.YtlglbkbfmhelcaaGreatDoorK12
import Derived.Test.YtlglbkbfmhelcaaGreatDoorK10
set_option linter.unusedVariables false
set_option linter.unusedSimpArgs false
open Go.IntKind (i64 u64 u8 u32)
namespace WB
open Go Go.RowKit
set_option linter.unusedSimpArgs false
set_option linter.unusedVariables false
theorem cvL{S T:Type}{b:S→Option (S⊕T)}{s s':S}(h:b s=some (.inl s')):iter b s=iter b s':=by rw[Co,h];rfl
theorem cvR{S T:Type}{b:S→Option (S⊕T)}{s:S}{t:T}(h:b s=some (.inr t)):iter b s=some t:=by rw[Co,h];rfl
def lpN(y:Nat):Bool:=y % 4==0&&(y % 100 !=0||y % 400==0)
def FI:List Nat:= [31,28,31,30,31,30,31,31,30,31,30,31]
def mdN(y m:Nat):Nat:=if m=2∧lpN y=true then 29 else FI.getD (m-1) 0
def stN(y:Nat):Nat:=(365*(y-1900)+(y-1)/4+(y-1)/400)-((y-1)/100+460)
def msN(y:Nat):Nat→Nat
 |0=>0
 |m+1=>msN y m+mdN y (m+1)
theorem XU:∀k,k<300→stN (1900+k+1)=stN (1900+k)+msN (1900+k) 12:=by decide+kernel
theorem SB:∀k,k<301→stN (1900+k)≤366*k:=by decide+kernel
theorem XV:∀k,k<301→(1900+k-1)/100+460≤365*k+(1900+k-1)/4+(1900+k-1)/400:=by decide+kernel
theorem Lv:stN 2200=109573:=by decide
theorem Jm{y:Nat}(h:1900≤y∧y≤2199):stN (y+1)=stN y+msN y 12:=by
 have:=XU (y-1900) (by omega);rw[show 1900+(y-1900)=y by omega]at this;exact this
theorem Wt{y:Nat}:J9 (y:Int)=some (lpN y):=by
 unfold J9 lpN;dsimp only;try simp only[gPi,gSS,gPb,gPm,gPs,gM,gM2,Ay,gOr,Az,A3,gAA,gAO,gOA,gOO,Av,Ax,A0,A2,Aw,A1,gId]
 try simp only[A5,A6,A7,A8,A9,AA,AB,AD,gId,AG,gMb,gMm,gBm,gBb,bs,ms]
 have h4:((y:Int)).tmod 4=((y % 4:Nat):Int):=by rw[Int.tmod_eq_emod_of_nonneg (by omega)];rfl
 have h100:((y:Int)).tmod 100=((y % 100:Nat):Int):=by rw[Int.tmod_eq_emod_of_nonneg (by omega)];rfl
 have h400:((y:Int)).tmod 400=((y % 400:Nat):Int):=by rw[Int.tmod_eq_emod_of_nonneg (by omega)];rfl
 rw[h4,h100,h400];simp only[bs,show ¬((4:Int)=0) by decide,show ¬((100:Int)=0) by decide,show ¬((400:Int)=0) by decide,if_false];have c:∀n:Nat,((n:Int)==0)=(n==0):=fun n=>by rw[Bool.eq_iff_iff,beq_iff_eq,beq_iff_eq];omega
 have c':∀n:Nat,((n:Int) !=0)=(n !=0):=fun n=>by rw[Bool.eq_iff_iff,bne_iff_ne,bne_iff_ne];omega
 rw[c,c,c'];cases (y % 4==0)<;>cases (y % 100 !=0)<;>rfl
theorem H4{y m:Nat}(hy:1900≤y∧y≤2199)(hm:1≤m∧m≤12):ER ((y:Int),(m:Int))=some (mdN y m:Int):=by
 unfold ER mdN;dsimp only;try simp only[gPi,gSS,gPb,gPm,gPs,gM,gM2,Ay,gOr,Az,A3,gAA,gAO,gOA,gOO,Av,Ax,A0,A2,Aw,A1,gId]
 try simp only[A5,A6,A7,A8,A9,AA,AB,AD,gId,AG,gMb,gMm,gBm,gBb,bs,ms]
 rw[Ak (show ¬((y:Int)<1900) by omega),Ak (show ¬((y:Int)>2199) by omega),Ak (show ¬((m:Int)<1) by omega),Ak (show ¬((m:Int)>12) by omega)];simp only[Ag,if_false,bs];have w:i64.wrap ((m:Int)-1)=((m-1:Nat):Int):=by rw[Au (by omega) (by omega)];omega
 have hl:lAt [(31:Int),28,31,30,31,30,31,31,30,31,30,31] ((m-1:Nat):Int)=some ((FI.getD (m-1) 0:Nat):Int):=by
  have:∀k:Nat,k<12→lAt [(31:Int),28,31,30,31,30,31,31,30,31,30,31] (k:Int)=some ((FI.getD k 0:Nat):Int):=by decide
  exact this _ (by omega)
 rw[w,Wt];by_cases h2:m=2
 ·have d:((m:Int)==2)=true:=by rw[beq_iff_eq];omega
  rw[d,if_pos rfl,bs]
  cases hp:lpN y with
  |true=>rw[if_pos rfl,if_pos ⟨h2,rfl⟩];rfl
  |false=>rw[if_neg (by decide),if_neg (fun h=>by cases h.2)];exact hl
 ·have d:((m:Int)==2)=false:=by rw[beq_eq_false_iff_ne];omega
  rw[d,if_neg (by decide),bs,if_neg (by decide),if_neg (fun h=>h2 h.1)];exact hl
theorem Jl{y:Nat}(hy:1900≤y∧y≤2200):GW (y:Int)=some (stN y:Int):=by
 unfold GW;dsimp only;try simp only[gPi,gSS,gPb,gPm,gPs,gM,gM2,Ay,gOr,Az,A3,gAA,gAO,gOA,gOO,Av,Ax,A0,A2,Aw,A1,gId]
 try simp only[A5,A6,A7,A8,A9,AA,AB,AD,gId,AG,gMb,gMm,gBm,gBb,bs,ms]
 have hs:=XV (y-1900) (by omega);rw[show 1900+(y-1900)=y by omega]at hs;have w1:i64.wrap ((y:Int)-1)=((y-1:Nat):Int):=by rw[Au (by omega) (by omega)];omega
 have h4:(((y-1:Nat):Int)).tdiv 4=(((y-1)/4:Nat):Int):=by rw[Int.tdiv_eq_ediv_of_nonneg (by omega)];rfl
 have h100:(((y-1:Nat):Int)).tdiv 100=(((y-1)/100:Nat):Int):=by rw[Int.tdiv_eq_ediv_of_nonneg (by omega)];rfl
 have h400:(((y-1:Nat):Int)).tdiv 400=(((y-1)/400:Nat):Int):=by rw[Int.tdiv_eq_ediv_of_nonneg (by omega)];rfl
 rw[w1,h4,h100,h400];simp only[bs,show ¬((4:Int)=0) by decide,show ¬((100:Int)=0) by decide,show ¬((400:Int)=0) by decide,if_false];have b1:(y-1)/4≤1000:=by omega
 have b2:(y-1)/100≤1000:=by omega
 have b3:(y-1)/400≤1000:=by omega
 have e:(stN y:Int)=365*((y:Int)-1900)+(((y-1)/4:Nat):Int)-(((y-1)/100:Nat):Int)+(((y-1)/400:Nat):Int)-460:=by
  unfold stN;omega
 rw[e];generalize (y-1)/4=q1 at*;generalize (y-1)/100=q2 at*;generalize (y-1)/400=q3 at*
 congr 1
 rw[Au (n:=(y:Int)-1900) (by omega) (by omega),Au (n:=365*((y:Int)-1900)) (by omega) (by omega),Au (n:=(q1:Int)) (by omega) (by omega),Au (n:=(q2:Int)) (by omega) (by omega),Au (n:=(q3:Int)) (by omega) (by omega),Au (n:=365*((y:Int)-1900)+(q1:Int)) (by omega) (by omega),Au (n:=365*((y:Int)-1900)+(q1:Int)-(q2:Int)) (by omega) (by omega),Au (n:=365*((y:Int)-1900)+(q1:Int)-(q2:Int)+(q3:Int)) (by omega) (by omega),Au (by omega) (by omega)]
theorem Ze{n:Nat}{a b c:Int}(hn:n<109573):∀(m y:Nat),1900≤y→y≤2199→2199-y≤m→stN y≤n→∃Y,1900≤Y∧Y≤2199∧stN Y≤n∧n<stN (Y+1)∧iter Ii ((n:Int),(y:Int),a,b,c,(),(),())=some ((n:Int),(Y:Int),a,b,c,(),(),()):=by
 intro m
 induction m with
 |zero=>
  intro y h1 h2 h3 h4;have hy:y=2199:=by omega
  refine⟨y,h1,h2,h4,by rw[hy,Lv];exact hn,cvR ?_⟩;unfold Ii;dsimp only;have w:i64.wrap ((y:Int)+1)=((y+1:Nat):Int):=by rw[Au (by omega) (by omega)];omega
  rw[w,Jl ⟨by omega,by omega⟩,bs,Ak (by rw[hy,Lv];omega),if_neg (by decide)]
 |succ m ih=>
  intro y h1 h2 h3 h4;have w:i64.wrap ((y:Int)+1)=((y+1:Nat):Int):=by rw[Au (by omega) (by omega)];omega
  by_cases h:stN (y+1)≤n
  ·have hy:y≠2199:=fun e=>by rw[e,Lv]at h;omega
   obtain⟨Y,k1,k2,k3,k4,k5⟩:=ih (y+1) (by omega) (by omega) (by omega) h;refine⟨Y,k1,k2,k3,k4,(cvL ?_).trans k5⟩;unfold Ii;dsimp only;rw[w,Jl ⟨by omega,by omega⟩,bs,Al (show((stN (y+1):Nat):Int)≤(n:Int) by omega),if_pos rfl]
  ·refine⟨y,h1,h2,h4,by omega,cvR ?_⟩;unfold Ii;dsimp only;rw[w,Jl ⟨by omega,by omega⟩,bs,Ak (show ¬(((stN (y+1):Nat):Int)≤(n:Int)) by omega),if_neg (by decide)]
theorem WD{y:Nat}{a b c:Int}(hy:1900≤y∧y≤2199):∀(j m n:Nat),1≤m→m≤12→12-m≤j→n<1000→n+msN y (m-1)<msN y 12→∃M dd,1≤M∧M≤12∧dd<mdN y M∧n+msN y (m-1)=msN y (M-1)+dd∧iter Ih ((n:Int),(y:Int),(m:Int),a,b,c,(),(),())=some ((dd:Int),(y:Int),(M:Int),a,b,c,(),(),()):=by
 intro j
 induction j with
 |zero=>
  intro m n h1 h2 h3 hn h4;have hm:m=12:=by omega
  subst hm;have h5:msN y 12=msN y 11+mdN y 12:=rfl
  have h6:n<mdN y 12:=by
   have:msN y (12-1)=msN y 11:=rfl;omega
  refine⟨12,n,by omega,by omega,h6,Nat.add_comm _ _,cvR ?_⟩;unfold Ih;dsimp only;rw[show((12:Nat):Int)=((12:Nat):Int)from rfl,H4 hy ⟨by omega,by omega⟩,bs,Ak (by omega),if_neg (by decide)]
 |succ j ih=>
  intro m n h1 h2 h3 hn h4;by_cases h:mdN y m≤n
  ·have e1:msN y m=msN y (m-1)+mdN y m:=by
    cases m with
    |zero=>omega
    |succ m=>rfl
   have hm:m≠12:=fun e=>by
    subst e;omega
   have w1:i64.wrap ((n:Int)-(mdN y m:Int))=((n-mdN y m:Nat):Int):=by rw[Au (by omega) (by omega)];omega
   have w2:i64.wrap ((m:Int)+1)=((m+1:Nat):Int):=by rw[Au (by omega) (by omega)];omega
   obtain⟨M,dd,k1,k2,k3,k4,k5⟩:=ih (m+1) (n-mdN y m) (by omega) (by omega) (by omega) (by omega) (by
    rw[show m+1-1=m by omega,e1];omega)
   refine⟨M,dd,k1,k2,k3, ?_,(cvL ?_).trans k5⟩
   ·rw[show m+1-1=m by omega,e1]at k4;omega
   ·unfold Ih;dsimp only;try simp only[gPi,gSS,gPb,gPm,gPs,gM,gM2,Ay,gOr,Az,A3,gAA,gAO,gOA,gOO,Av,Ax,A0,A2,Aw,A1,gId]
    try simp only[A5,A6,A7,A8,A9,AA,AB,AD,gId,AG,gMb,gMm,gBm,gBb,bs,ms]
    rw[H4 hy ⟨h1,h2⟩,bs,Al (show(n:Int)≥(mdN y m:Int) by omega),if_pos rfl,bs,w1,w2]
  ·refine⟨m,n,h1,h2,by omega,Nat.add_comm _ _,cvR ?_⟩;unfold Ih;dsimp only;try simp only[gPi,gSS,gPb,gPm,gPs,gM,gM2,Ay,gOr,Az,A3,gAA,gAO,gOA,gOO,Av,Ax,A0,A2,Aw,A1,gId]
   try simp only[A5,A6,A7,A8,A9,AA,AB,AD,gId,AG,gMb,gMm,gBm,gBb,bs,ms]
   rw[H4 hy ⟨h1,h2⟩,bs,Ak (show ¬((n:Int)≥(mdN y m:Int)) by omega),if_neg (by decide)]
theorem KI{y:Nat}:∀m,msN y m≤31*m
 |0=>by simp[msN]
 |m+1=>by
  have:=KI (y:=y) m
  have h:mdN y (m+1)≤31:=by
   unfold mdN;split
   ·omega
   ·have:∀k,FI.getD k 0≤31:=fun k=>by
     by_cases hk:k<12
     ·have:∀k,k<12→FI.getD k 0≤31:=by decide
      exact this k hk
     ·rw[List.getD_eq_getElem?_getD,List.getElem?_eq_none (by have:FI.length=12:=rfl;omega)];simp
    exact this _
  show msN y m+mdN y (m+1)≤_;omega
theorem M8(d:Int):Ik d=some (decide (-25567≤d∧d≤84005)):=by
 unfold Ik;dsimp only;try simp only[gPi,gSS,gPb,gPm,gPs,gM,gM2,Ay,gOr,Az,A3,gAA,gAO,gOA,gOO,Av,Ax,A0,A2,Aw,A1,gId]
 try simp only[A5,A6,A7,A8,A9,AA,AB,AD,gId,AG,gMb,gMm,gBm,gBb,bs,ms]
 by_cases h1: -25567≤d
 ·by_cases h2:d≤84005
  ·rw[Al (show d≥ -25567 from h1),if_pos rfl,Al (show d<84006 by omega),Al ⟨h1,h2⟩]
  ·rw[Al (show d≥ -25567 from h1),if_pos rfl,Ak (show ¬(d<84006) by omega),Ak (fun h=>h2 h.2)]
 ·rw[Ak (show ¬(d≥ -25567)from h1),if_neg (by decide),Ak (fun h=>h1 h.1)]
structure Ju (d:Int) (Y M dd:Nat):Prop where
 y:1900≤Y∧Y≤2199
 m:1≤M∧M≤12
 dl:dd<mdN Y M
 n:d+25567=((stN Y+msN Y (M-1)+dd:Nat):Int)
 to:Gk d=some ((Y:Int),(M:Int),((dd+1:Nat):Int))
theorem IP(y m:Nat):mdN y (m+1)≤31:=by
 unfold mdN;split
 ·omega
 ·by_cases hk:m<12
  ·have:∀k,k<12→FI.getD k 0≤31:=by decide
   exact this _ hk
  ·rw[List.getD_eq_getElem?_getD,List.getElem?_eq_none (by have:FI.length=12:=rfl;omega)];simp
theorem LI{d:Int}(h: -25567≤d∧d≤84005):∃Y M dd,Ju d Y M dd:=by
 obtain⟨n,hn⟩:=Int.eq_ofNat_of_zero_le (show 0≤d- -25567 by omega);have hn2:n<109573:=by omega
 have h0:stN (1900+n/366)≤n:=by
  have:=SB (n/366) (by omega);omega
 obtain⟨Y,y1,y2,y3,y4,y5⟩:=Ze (a:=0) (b:=0) (c:=0) hn2 300 (1900+n/366) (by omega) (by omega) (by omega) h0;have hnx:=Jm ⟨y1,y2⟩;have hms:=KI (y:=Y) 12
 obtain⟨M,dd,m1,m2,m3,m4,m5⟩:=WD (a:=0) (b:=0) (c:=0) ⟨y1,y2⟩ 12 1 (n-stN Y) (by omega) (by omega) (by omega) (by omega) (by
  have:msN Y (1-1)=0:=rfl
  omega)
 have e0:msN Y (1-1)=0:=rfl
 have hd31:mdN Y M≤31:=by
  obtain⟨k,rfl⟩:∃k,M=k+1:=⟨M-1,by omega⟩;exact IP Y k
 refine⟨Y,M,dd,⟨y1,y2⟩,⟨m1,m2⟩,m3,by omega, ?_⟩;unfold Gk;dsimp only;try simp only[gPi,gSS,gPb,gPm,gPs,gM,gM2,Ay,gOr,Az,A3,gAA,gAO,gOA,gOO,Av,Ax,A0,A2,Aw,A1,gId]
 try simp only[A5,A6,A7,A8,A9,AA,AB,AD,gId,AG,gMb,gMm,gBm,gBb,bs,ms]
 have w1:i64.wrap (d- -25567)=(n:Int):=by rw[hn];exact Au (by omega) (by omega)
 have t1:(n:Int).tdiv 366=((n/366:Nat):Int):=by rw[Int.tdiv_eq_ediv_of_nonneg (by omega)];rfl
 have w2:i64.wrap (1900+((n/366:Nat):Int))=((1900+n/366:Nat):Int):=by rw[Au (by omega) (by omega)];omega
 rw[M8,bs,Al h,if_neg (by decide),if_neg (by decide),bs,w1,t1,Au (n:=((n/366:Nat):Int)) (by omega) (by omega),w2];rw[y5,bs];dsimp only;have w3:i64.wrap ((n:Int)-(stN Y:Int))=((n-stN Y:Nat):Int):=by rw[Au (by omega) (by omega)];omega
 rw[Jl ⟨by omega,by omega⟩,bs,w3];rw[show((1:Nat):Int)=(1:Int)from rfl]at m5;rw[m5,bs];dsimp only;have w4:i64.wrap ((dd:Int)+1)=((dd+1:Nat):Int):=by rw[Au (by omega) (by omega)];omega
 rw[w4]
theorem WR{y M D:Nat}(hy:1900≤y∧y≤2199)(hM:M≤12):∀(j m n:Nat),1≤m→m≤M→M-m≤j→n+31*j≤1000000→iter Ig ((n:Int),(m:Int),(y:Int),(M:Int),(D:Int),(),(),())=some (((n+(msN y (M-1)-msN y (m-1)):Nat):Int),(y:Int),(M:Int),(D:Int),(),(),()):=by
 intro j
 induction j with
 |zero=>
  intro m n h1 h2 h3 hn;have:m=M:=by omega
  subst this;refine cvR ?_;unfold Ig;dsimp only;rw[Ak (by omega),if_neg (by decide)];simp
 |succ j ih=>
  intro m n h1 h2 h3 hn;by_cases h:m=M
  ·subst h;refine cvR ?_;unfold Ig;dsimp only;rw[Ak (by omega),if_neg (by decide)];simp
  ·have e1:msN y m=msN y (m-1)+mdN y m:=by
    cases m with
    |zero=>omega
    |succ m=>rfl
   have hmono:∀k i,msN y i≤msN y (i+k):=by
    intro k
    induction k with
    |zero=>intro i;exact Nat.le_refl _
    |succ k ihk=>intro i;have:=ihk i;show msN y i≤msN y (i+k)+mdN y (i+k+1);omega
   have hle:=hmono (M-1-m) m;rw[show m+(M-1-m)=M-1 by omega]at hle;have hms:=KI (y:=y) (M-1)
   have h31:mdN y m≤31:=by
    obtain⟨k,rfl⟩:∃k,m=k+1:=⟨m-1,by omega⟩;exact IP y k
   have w1:i64.wrap ((n:Int)+(mdN y m:Int))=((n+mdN y m:Nat):Int):=by rw[Au (by omega) (by omega)];omega
   have w2:i64.wrap ((m:Int)+1)=((m+1:Nat):Int):=by rw[Au (by omega) (by omega)];omega
   refine(cvL (s':=(((n+mdN y m:Nat):Int),((m+1:Nat):Int),(y:Int),(M:Int),(D:Int),(),(),())) ?_).trans ?_
   ·unfold Ig;dsimp only;try simp only[gPi,gSS,gPb,gPm,gPs,gM,gM2,Ay,gOr,Az,A3,gAA,gAO,gOA,gOO,Av,Ax,A0,A2,Aw,A1,gId]
    try simp only[A5,A6,A7,A8,A9,AA,AB,AD,gId,AG,gMb,gMm,gBm,gBb,bs,ms]
    rw[Al (show(m:Int)<(M:Int) by omega),if_pos rfl,H4 hy ⟨h1,by omega⟩,bs,w1,w2]
   ·rw[ih (m+1) (n+mdN y m) (by omega) (by omega) (by omega) (by omega),show m+1-1=m by omega];have e2:n+mdN y m+(msN y (M-1)-msN y m)=n+(msN y (M-1)-msN y (m-1)):=by omega
    rw[e2]
theorem OH{d:Int}{Y M dd:Nat}(hd: -25567≤d∧d≤84005)(h:Ju d Y M dd):Ea ((Y:Int),(M:Int),((dd+1:Nat):Int))=some (d,0):=by
 have hn:=h.n;have hms:=KI (y:=Y) (M-1);have h1:=h.y;have h2:=h.m;have h3:=h.dl
 have hst:stN Y≤366*300:=by
  have:=SB (Y-1900) (by omega);rw[show 1900+(Y-1900)=Y by omega]at this;omega
 have h31:mdN Y M≤31:=by
  obtain⟨k,hk⟩:∃k,M=k+1:=⟨M-1,by omega⟩;rw[hk];exact IP Y k
 unfold Ea;dsimp only;try simp only[gPi,gSS,gPb,gPm,gPs,gM,gM2,Ay,gOr,Az,A3,gAA,gAO,gOA,gOO,Av,Ax,A0,A2,Aw,A1,gId]
 try simp only[A5,A6,A7,A8,A9,AA,AB,AD,gId,AG,gMb,gMm,gBm,gBb,bs,ms]
 rw[Ak (show ¬(((dd+1:Nat):Int)<1) by omega),if_neg (by decide),H4 h.y h.m,bs,bs,Ak (show ¬(((dd+1:Nat):Int)>(mdN Y M:Int)) by omega),if_neg (by decide),Jl ⟨by omega,by omega⟩,bs];have w1:i64.wrap ((stN Y:Int)+((dd+1:Nat):Int))=((stN Y+dd+1:Nat):Int):=by rw[Au (by omega) (by omega)];omega
 have w2:i64.wrap (((stN Y+dd+1:Nat):Int)-1)=((stN Y+dd:Nat):Int):=by rw[Au (by omega) (by omega)];omega
 have hl:=WR (D:=dd+1) h.y (by omega:M≤12) 12 1 (stN Y+dd) (by omega) (by omega) (by omega) (by omega);have e0:msN Y (1-1)=0:=rfl;rw[e0,show((1:Nat):Int)=(1:Int)from rfl]at hl;rw[w1,w2,hl,bs];dsimp only;have w3:i64.wrap (((stN Y+dd+(msN Y (M-1)-0):Nat):Int)+ -25567)=d:=by rw[Au (by omega) (by omega)];omega
 rw[w3,h.to,bs];have e1:(!((Y:Int)==(Y:Int)&&((M:Int)==(M:Int)&&((dd+1:Nat):Int)==((dd+1:Nat):Int))))=false:=by simp
 dsimp only;rw[e1,if_neg (by decide)]
theorem XK{d:Nat}(h:d<10):(Utf8.encode (IntKind.i32.wrap (i64.wrap (48+(d:Int))))).data.toList= [dg9 d]:=by
 have:∀k:Fin 10,(Utf8.encode (IntKind.i32.wrap (i64.wrap (48+(k.val:Int))))).data.toList= [dg9 k.val]:=by decide
 exact this ⟨d,h⟩
theorem Hf{n:Nat}{s:List UInt8}{many i:Int}(hn:n≤1000000)(hs:s.length≤1000)(hi:i<many)(hi2:0≤i∧i≤1000):Ij ((n:Int),s,many,i,())=some (.inl (((n/10:Nat):Int),dg9 (n % 10)::s,many,i+1,())):=by
 unfold Ij;dsimp only;try simp only[gPi,gSS,gPb,gPm,gPs,gM,gM2,Ay,gOr,Az,A3,gAA,gAO,gOA,gOO,Av,Ax,A0,A2,Aw,A1,gId]
 try simp only[A5,A6,A7,A8,A9,AA,AB,AD,gId,AG,gMb,gMm,gBm,gBb,bs,ms]
 have h1:(n:Int).tmod 10=((n % 10:Nat):Int):=by rw[Int.tmod_eq_emod_of_nonneg (by omega)];rfl
 have h2:(n:Int).tdiv 10=((n/10:Nat):Int):=by rw[Int.tdiv_eq_ediv_of_nonneg (by omega)];rfl
 rw[Al hi,if_pos rfl,if_neg (by decide),bs,h1,XK (Nat.mod_lt _ (by decide)),if_pos (by simp;omega),if_neg (by decide),bs,h2,Au (n:=((n/10:Nat):Int)) (by omega) (by omega),Au (n:=i+1) (by omega) (by omega)];rfl
theorem PK{n:Int}{s:List UInt8}{many:Int}:Ij (n,s,many,many,())=some (.inr (s,())):=by
 unfold Ij;dsimp only;rw[Ak (by omega),if_neg (by decide)]
def dg2(n:Nat):List UInt8:= [dg9 (n/10 % 10),dg9 (n % 10)]
def dg4(n:Nat):List UInt8:= [dg9 (n/10/10/10 % 10),dg9 (n/10/10 % 10),dg9 (n/10 % 10),dg9 (n % 10)]
theorem JM{n:Nat}(hn:n≤1000000):DB ((n:Int),2)=some (dg2 n):=by
 unfold DB;dsimp only;rw[cvL (Hf hn (by decide) (by decide) (by decide)),show(0:Int)+1=1 from rfl,cvL (Hf (by omega) (by simp) (by decide) (by decide)),show(1:Int)+1=2 from rfl,cvR PK,bs];rfl
theorem PL{n:Nat}(hn:n≤1000000):DB ((n:Int),4)=some (dg4 n):=by
 unfold DB;dsimp only;rw[cvL (Hf hn (by decide) (by decide) (by decide)),show(0:Int)+1=1 from rfl,cvL (Hf (by omega) (by simp) (by decide) (by decide)),show(1:Int)+1=2 from rfl,cvL (Hf (by omega) (by simp) (by decide) (by decide)),show(2:Int)+1=3 from rfl,cvL (Hf (by omega) (by simp) (by decide) (by decide)),show(3:Int)+1=4 from rfl,cvR PK,bs];rfl
theorem Rl:∀(D:List UInt8) (n:Nat),Bj (fun n b=>if dgt b=true then(Sum.inl (n*10+(b.toNat-48)):Nat⊕((Int×Unit)⊕(Int×Bool)))else .inr (.inr (0,false))) (fun n=>.inl ((n:Int),())) n D=if D.all dgt=true then .inl ((Ar n D:Int),())else .inr (0,false)
 | [],n=>rfl
 |b::D,n=>by
  rw[Bj,List.all_cons]
  cases h:dgt b with
  |false=>rw[if_neg (by decide),Bool.false_and,if_neg (by decide)]
  |true=>rw[if_pos rfl,Bool.true_and];exact Rl D _
theorem GY{D:List UInt8}(hD:D.length≤9):E0 D=some (if D.all dgt=true then((Ar 0 D:Int),true)else(0,false)):=by
 unfold E0;dsimp only;try simp only[gPi,gSS,gPb,gPm,gPs,gM,gM2,Ay,gOr,Az,A3,gAA,gAO,gOA,gOO,Av,Ax,A0,A2,Aw,A1,gId]
 try simp only[A5,A6,A7,A8,A9,AA,AB,AD,gId,AG,gMb,gMm,gBm,gBb,bs,ms]
 rw[if_pos (by omega)];generalize hL:List.map (fun b:UInt8=>(b.toNat:Int)) D=L;have hlen:L.length=D.length:=by rw[←hL];simp
 have key:=Fd (b:=JA) (α:=UInt8) (A:=Nat) (fun k n=>((n:Int),L,(L.length:Int),(k:Int),())) (fun n b=>if dgt b=true then(Sum.inl (n*10+(b.toNat-48)):Nat⊕((Int×Unit)⊕(Int×Bool)))else .inr (.inr (0,false))) (fun n=>.inl ((n:Int),())) (fun i n=>n<10^i) D (a:=0) (by decide) (fun i b n hx hn=>by
   have hi:=(Ae.1 hx).1;have hn':n<10^9:=Nat.lt_of_lt_of_le hn (Nat.pow_le_pow_right (by decide) (by omega));have hp:(10:Nat)^9=1000000000:=rfl;have hx':L[i]? =some (b.toNat:Int):=by rw[←hL,List.getElem?_map,hx];rfl
   unfold JA;dsimp only;try simp only[gPi,gSS,gPb,gPm,gPs,gM,gM2,Ay,gOr,Az,A3,gAA,gAO,gOA,gOO,Av,Ax,A0,A2,Aw,A1,gId]
   try simp only[A5,A6,A7,A8,A9,AA,AB,AD,gId,AG,gMb,gMm,gBm,gBb,bs,ms]
   rw[DO hx',if_pos rfl];simp only[Bn hx',bs];by_cases hd:dgt b=true
   ·have hb:=B0.1 hd;rw[Ak (show ¬((b.toNat:Int)<48) by omega),if_neg (by decide),bs,Ak (show ¬((b.toNat:Int)>57) by omega),if_neg (by decide),if_pos hd];have u:u8.wrap ((b.toNat:Int)-48)=(b.toNat:Int)-48:=by rw[IntKind.wrap_u8];omega
    rw[u,Au (n:=(b.toNat:Int)-48) (by omega) (by omega),Au (n:=10*(n:Int)) (by omega) (by omega),Au (by omega) (by omega),Db (by omega)];have e:10*(n:Int)+((b.toNat:Int)-48)=((n*10+(b.toNat-48):Nat):Int):=by omega
    rw[e];rfl
   ·rw[if_neg hd];by_cases h1:(b.toNat:Int)<48
    ·rw[Al h1];rfl
    ·have h2:(b.toNat:Int)>57:=by
      refine Classical.byContradiction fun h2=>hd (B0.2 ⟨by omega,by omega⟩)
     rw[Ak h1,if_neg (by decide),bs,Al h2];rfl) (fun i b n n' _ hn hst=>by
   split at hst
   ·rename_i hd;have hb:=B0.1 hd;cases hst;rw[Nat.pow_succ];omega
   ·cases hst) (fun _ _=>by
   unfold JA;dsimp only
   rw[←hlen,ED,if_neg (by decide)])
 rw[Rl]at key;rw[show(0:Int)=((0:Nat):Int)from rfl,key,bs];cases D.all dgt<;>rfl
theorem F7{n:Nat}(h:n<100):(dg2 n).all dgt=true∧Ar 0 (dg2 n)=n:=by
 have a:=Ds (show n/10 % 10<10 by omega);have b:=Ds (show n % 10<10 by omega);refine⟨by simp[dg2,Ec (show n/10 % 10<10 by omega),Ec (show n % 10<10 by omega)], ?_⟩;simp only[Ar,dg2,List.foldl_cons,List.foldl_nil,a,b];omega
theorem JK{n:Nat}(h:n<10000):(dg4 n).all dgt=true∧Ar 0 (dg4 n)=n:=by
 have a:=Ds (show n/10/10/10 % 10<10 by omega);have b:=Ds (show n/10/10 % 10<10 by omega);have c:=Ds (show n/10 % 10<10 by omega);have d:=Ds (show n % 10<10 by omega);refine⟨by simp[dg4,Ec (show n/10/10/10 % 10<10 by omega),Ec (show n/10/10 % 10<10 by omega),Ec (show n/10 % 10<10 by omega),Ec (show n % 10<10 by omega)], ?_⟩;simp only[Ar,dg4,List.foldl_cons,List.foldl_nil,a,b,c,d];omega
def Eb(Y M D:Nat):List UInt8:=dg4 Y++ [45]++dg2 M++ [45]++dg2 D
theorem U2{d:Int}(hd: -25567≤d∧d≤84005):∃Y M D,Df d=some (Eb Y M D)∧C2 (Eb Y M D)=some (d,0):=by
 obtain⟨Y,M,dd,h⟩:=LI hd;have h1:=h.y;have h2:=h.m;have h3:=h.dl
 have h31:mdN Y M≤31:=by
  obtain⟨k,hk⟩:∃k,M=k+1:=⟨M-1,by omega⟩;rw[hk];exact IP Y k
 refine⟨Y,M,dd+1, ?_, ?_⟩
 ·unfold Df;dsimp only;try simp only[gPi,gSS,gPb,gPm,gPs,gM,gM2,Ay,gOr,Az,A3,gAA,gAO,gOA,gOO,Av,Ax,A0,A2,Aw,A1,gId]
  try simp only[A5,A6,A7,A8,A9,AA,AB,AD,gId,AG,gMb,gMm,gBm,gBb,bs,ms]
  rw[M8,bs,Al hd,if_neg (by decide),h.to,bs];dsimp only;rw[PL (by omega),bs,if_pos (by simp[dg4]),JM (by omega),bs,if_pos (by simp[dg4,dg2]),if_pos (by simp[dg4,dg2]),JM (by omega),bs,if_pos (by simp[dg4,dg2])];rfl
 ·have n1:=JK (n:=Y) (by omega);have n2:=F7 (n:=M) (by omega);have n3:=F7 (n:=dd+1) (by omega);have l1:(dg4 Y).length=4:=rfl;have l2:(dg2 M).length=2:=rfl;have l3:(dg2 (dd+1)).length=2:=rfl;unfold C2 Eb;generalize dg4 Y=A at*;generalize dg2 M=B at*;generalize dg2 (dd+1)=C at*;dsimp only;try simp only[gPi,gSS,gPb,gPm,gPs,gM,gM2,Ay,gOr,Az,A3,gAA,gAO,gOA,gOO,Av,Ax,A0,A2,Aw,A1,gId]
  try simp only[A5,A6,A7,A8,A9,AA,AB,AD,gId,AG,gMb,gMm,gBm,gBb,bs,ms]
  match A,l1 with
  | [a1,a2,a3,a4],_=>
   match B,l2 with
   | [b1,b2],_=>
    match C,l3 with
    | [c1,c2],_=>
     have s4:sAt ([a1,a2,a3,a4]++ [45]++ [b1,b2]++ [45]++ [c1,c2]) 4=some (((45:UInt8).toNat:Nat):Int):=CB (i:=4) rfl;have s7:sAt ([a1,a2,a3,a4]++ [45]++ [b1,b2]++ [45]++ [c1,c2]) 7=some (((45:UInt8).toNat:Nat):Int):=CB (i:=7) rfl;have u1:AV ([a1,a2,a3,a4]++ [45]++ [b1,b2]++ [45]++ [c1,c2]) 0 4=some [a1,a2,a3,a4]:=BY (i:=0) (j:=4) (by omega) (by simp);have u2:AV ([a1,a2,a3,a4]++ [45]++ [b1,b2]++ [45]++ [c1,c2]) 5 7=some [b1,b2]:=BY (i:=5) (j:=7) (by omega) (by simp);have u3:AV ([a1,a2,a3,a4]++ [45]++ [b1,b2]++ [45]++ [c1,c2]) 8 ((([a1,a2,a3,a4]++ [45]++ [b1,b2]++ [45]++ [c1,c2]:List UInt8).length:Nat):Int)=some [c1,c2]:=BY (i:=8) (j:=10) (by omega) (by simp);rw[if_neg (by simp),s4,bs,bs,if_neg (by decide),s7,bs,bs,if_neg (by decide),u1,bs,GY (by simp),bs,u2,bs,GY (by simp),bs,u3,bs,GY (by simp),bs];rw[n1.1,n2.1,n3.1];simp only[if_true,Bool.not_true,Ag,if_false,bs];rw[n1.2,n2.2,n3.2,OH hd h,bs]
theorem Uz(Y M D:Nat):∀b∈Eb Y M D,dgt b=true∨b=45:=by
 intro b hb;have h:∀n,dgt (dg9 (n % 10))=true:=fun n=>Ec (Nat.mod_lt _ (by decide));simp only[Eb,dg4,dg2,List.mem_append,List.mem_cons,List.not_mem_nil,or_false]at hb;rcases hb with((((rfl|rfl|rfl|rfl)|rfl)|rfl|rfl)|rfl)|rfl|rfl<;>first|exact .inl (h _)|exact .inr rfl
theorem U0(Y M D:Nat):(Eb Y M D).length=10:=rfl
set_option linter.unusedSimpArgs false
set_option linter.unusedVariables false
theorem IR(y:Nat):∀{a b:Nat},a≤b→msN y a≤msN y b:=by
 intro a b h
 induction h with
 |refl=>exact Nat.le_refl _
 |step _ ih=>exact Nat.le_trans ih (Nat.le_add_right _ _)
theorem Lw:∀(k y:Nat),1900≤y→y+k≤2200→stN y≤stN (y+k)
 |0,y,_,_=>Nat.le_refl _
 |k+1,y,h1,h2=>by
  have:=Lw k y h1 (by omega);have:=Jm (y:=y+k) ⟨by omega,by omega⟩;rw[show y+(k+1)=y+k+1 by omega];omega
theorem Nf{y m dd:Nat}(hm:1≤m∧m≤12)(hd:dd<mdN y m):msN y (m-1)+dd<msN y m:=by
 obtain⟨k,rfl⟩:∃k,m=k+1:=⟨m-1,by omega⟩;show msN y k+dd<msN y k+mdN y (k+1);omega
theorem U1{Y M dd Y' M' dd':Nat}(hY:1900≤Y∧Y≤2199)(hM:1≤M∧M≤12)(hd:dd<mdN Y M)(hY':1900≤Y'∧Y'≤2199)(hM':1≤M'∧M'≤12)(hd':dd'<mdN Y' M')(h:stN Y+msN Y (M-1)+dd=stN Y'+msN Y' (M'-1)+dd'):Y=Y'∧M=M'∧dd=dd':=by
 have a1:=Nf hM hd;have a2:=Nf hM' hd';have b1:=IR Y hM.2;have b2:=IR Y' hM'.2;have c1:=Jm hY;have c2:=Jm hY'
 have e:Y=Y':=by
  rcases Nat.lt_trichotomy Y Y' with h1|h1|h1
  ·have:=Lw (Y'-(Y+1)) (Y+1) (by omega) (by omega);rw[show Y+1+(Y'-(Y+1))=Y' by omega]at this;omega
  ·exact h1
  ·have:=Lw (Y-(Y'+1)) (Y'+1) (by omega) (by omega);rw[show Y'+1+(Y-(Y'+1))=Y by omega]at this;omega
 subst e
 have e:M=M':=by
  rcases Nat.lt_trichotomy M M' with h1|h1|h1
  ·have:=IR Y (show M≤M'-1 by omega);omega
  ·exact h1
  ·have:=IR Y (show M'≤M-1 by omega);omega
 subst e;exact⟨rfl,rfl,by omega⟩
def F3(Y M D:Nat):Int:=((stN Y+msN Y (M-1)+(D-1):Nat):Int)-25567
def Ft(Y M D:Nat):Prop:=(1900≤Y∧Y≤2199)∧(1≤M∧M≤12)∧1≤D∧D≤mdN Y M
theorem KH{y m:Nat}(hm:1≤m):mdN y m≤31:=by
 obtain⟨k,rfl⟩:∃k,m=k+1:=⟨m-1,by omega⟩;exact IP y k
theorem JI{Y M D:Nat}(h:Ft Y M D): -25567≤F3 Y M D∧F3 Y M D≤84005:=by
 obtain⟨hY,hM,h1,h2⟩:=h;have a1:=Nf (y:=Y) (dd:=D-1) hM (by omega);have b1:=IR Y hM.2;have c1:=Jm hY;have:=Lw (2200-(Y+1)) (Y+1) (by omega) (by omega);rw[show Y+1+(2200-(Y+1))=2200 by omega,Lv]at this;unfold F3;omega
theorem PC{Y M D:Nat}(h:Ft Y M D):Ju (F3 Y M D) Y M (D-1):=by
 obtain⟨Y',M',dd',hd⟩:=LI (JI h);have hn:=hd.n;unfold F3 at hn;obtain⟨hY,hM,h1,h2⟩:=h;obtain⟨e1,e2,e3⟩:=U1 hY hM (show D-1<mdN Y M by omega) hd.y hd.m hd.dl (by omega);subst e1 e2 e3;exact hd
def IsD(w:List UInt8)(d:Int):Prop:=∃Y M D,Ft Y M D∧w=Eb Y M D∧d=F3 Y M D
theorem PD{d:Int}{Y M dd:Nat}(hd: -25567≤d∧d≤84005)(h:Ju d Y M dd):Df d=some (Eb Y M (dd+1)):=by
 have h1:=h.y;have h2:=h.m;have h3:=h.dl;have h31:=KH (y:=Y) h2.1;unfold Df;dsimp only;try simp only[gPi,gSS,gPb,gPm,gPs,gM,gM2,Ay,gOr,Az,A3,gAA,gAO,gOA,gOO,Av,Ax,A0,A2,Aw,A1,gId]
 try simp only[A5,A6,A7,A8,A9,AA,AB,AD,gId,AG,gMb,gMm,gBm,gBb,bs,ms]
 rw[M8,bs,Al hd,if_neg (by decide),h.to,bs];dsimp only;rw[PL (by omega),bs,if_pos (by simp[dg4]),JM (by omega),bs,if_pos (by simp[dg4,dg2]),if_pos (by simp[dg4,dg2]),JM (by omega),bs,if_pos (by simp[dg4,dg2])];rfl
theorem IsD.text{w:List UInt8}{d:Int}(h:IsD w d):(-25567≤d∧d≤84005)∧Df d=some w:=by
 obtain⟨Y,M,D,h1,rfl,rfl⟩:=h;refine⟨JI h1, ?_⟩;rw[PD (JI h1) (PC h1),show D-1+1=D by have:=h1.2.2.1;omega]
theorem IsD.of{d:Int}(h: -25567≤d∧d≤84005):∃w,Df d=some w∧IsD w d:=by
 obtain⟨Y,M,dd,hd⟩:=LI h;have h1:=hd.dl;refine⟨_,PD h hd,Y,M,dd+1,⟨hd.y,hd.m,by omega,by omega⟩,rfl, ?_⟩;have hn:=hd.n;unfold F3;omega
theorem W9(y m:Nat):ER ((y:Int),(m:Int))=some ((if(1900≤y∧y≤2199)∧(1≤m∧m≤12)then mdN y m else 0:Nat):Int):=by
 by_cases h:(1900≤y∧y≤2199)∧(1≤m∧m≤12)
 ·rw[if_pos h];exact H4 h.1 h.2
 ·rw[if_neg h];unfold ER;dsimp only;by_cases h1:(y:Int)<1900
  ·rw[Al h1];rfl
  by_cases h2:(y:Int)>2199
  ·rw[Ak h1,Al h2];rfl
  by_cases h3:(m:Int)<1
  ·rw[Ak h1,Ak h2,Al h3];rfl
  ·rw[Ak h1,Ak h2,Ak h3,Al (show(m:Int)>12 by omega)];rfl
theorem Tk{y m d:Nat}(h:¬Ft y m d):Ea ((y:Int),(m:Int),(d:Int))=some (0,15):=by
 unfold Ea;dsimp only;try simp only[gPi,gSS,gPb,gPm,gPs,gM,gM2,Ay,gOr,Az,A3,gAA,gAO,gOA,gOO,Av,Ax,A0,A2,Aw,A1,gId]
 try simp only[A5,A6,A7,A8,A9,AA,AB,AD,gId,AG,gMb,gMm,gBm,gBb,bs,ms]
 by_cases h1:(d:Int)<1
 ·rw[Al h1];rfl
 ·rw[Ak h1,if_neg (by decide),W9,bs]
  have:((d:Int)>((if(1900≤y∧y≤2199)∧(1≤m∧m≤12)then mdN y m else 0:Nat):Int)):=by
   split
   ·rename_i hh;have:¬(d≤mdN y m):=fun hc=>h ⟨hh.1,hh.2,by omega,hc⟩;omega
   ·omega
  rw[Al this,bs];rfl
theorem Tj(y m d:Nat):(Ft y m d∧Ea ((y:Int),(m:Int),(d:Int))=some (F3 y m d,0))∨(¬Ft y m d∧Ea ((y:Int),(m:Int),(d:Int))=some (0,15)):=by
 by_cases h:Ft y m d
 ·left;refine⟨h, ?_⟩;have:=OH (JI h) (PC h);rw[show d-1+1=d by have:=h.2.2.1;omega]at this;exact this
 ·exact .inr ⟨h,Tk h⟩
theorem He{b:UInt8}(h:dgt b=true):dg9 (b.toNat-48)=b:=by
 have:=B0.1 h;unfold dg9;apply UInt8.toNat.inj;show(48+(b.toNat-48))% 256=b.toNat
 omega
theorem PH{a b:UInt8}(ha:dgt a=true)(hb:dgt b=true):Ar 0 [a,b]<100∧dg2 (Ar 0 [a,b])= [a,b]:=by
 have h1:=B0.1 ha;have h2:=B0.1 hb;have e:Ar 0 [a,b]=(a.toNat-48)*10+(b.toNat-48):=by simp[Ar]
 rw[e];refine⟨by omega, ?_⟩;unfold dg2;rw[show((a.toNat-48)*10+(b.toNat-48))/10 % 10=a.toNat-48 by omega,show((a.toNat-48)*10+(b.toNat-48))% 10=b.toNat-48 by omega,He ha,He hb]
theorem U7{a b c d:UInt8}(ha:dgt a=true)(hb:dgt b=true)(hc:dgt c=true)(hd:dgt d=true):Ar 0 [a,b,c,d]<10000∧dg4 (Ar 0 [a,b,c,d])= [a,b,c,d]:=by
 have h1:=B0.1 ha;have h2:=B0.1 hb;have h3:=B0.1 hc;have h4:=B0.1 hd;have e:Ar 0 [a,b,c,d]=(((a.toNat-48)*10+(b.toNat-48))*10+(c.toNat-48))*10+(d.toNat-48):=by simp[Ar]
 rw[e];generalize he:(((a.toNat-48)*10+(b.toNat-48))*10+(c.toNat-48))*10+(d.toNat-48)=n;refine⟨by omega, ?_⟩;unfold dg4;rw[show n/10/10/10 % 10=a.toNat-48 by omega,show n/10/10 % 10=b.toNat-48 by omega,show n/10 % 10=c.toNat-48 by omega,show n % 10=d.toNat-48 by omega,He ha,He hb,He hc,He hd]
def LC(w:List UInt8)(A B C:List UInt8):Prop:=w=A++ [45]++B++ [45]++C∧A.length=4∧B.length=2∧C.length=2
theorem Vl{w:List UInt8}(h:w.length=10)(h4:w[4]? =some 45)(h7:w[7]? =some 45):∃A B C,LC w A B C:=by
 match w,h with
 | [a1,a2,a3,a4,p,b1,b2,q,c1,c2],_=>
  simp only[List.getElem?_cons_succ,List.getElem?_cons_zero,Ac]at h4 h7;subst h4 h7;exact⟨[a1,a2,a3,a4],[b1,b2],[c1,c2],rfl,rfl,rfl,rfl⟩
theorem Vm{w A B C:List UInt8}(h:LC w A B C)(hA:A.all dgt=true)(hB:B.all dgt=true)(hC:C.all dgt=true):w=Eb (Ar 0 A) (Ar 0 B) (Ar 0 C):=by
 obtain⟨rfl,l1,l2,l3⟩:=h
 match A,l1 with
 | [a1,a2,a3,a4],_=>
  match B,l2 with
  | [b1,b2],_=>
   match C,l3 with
   | [c1,c2],_=>
    simp only[List.all_cons,List.all_nil,Bool.and_true,Af]at hA hB hC;unfold Eb;rw[(U7 hA.1 hA.2.1 hA.2.2.1 hA.2.2.2).2,(PH hB.1 hB.2).2,(PH hC.1 hC.2).2]
theorem Q0{w:List UInt8}{d:Int}(h:IsD w d):∃A B C,LC w A B C∧A.all dgt=true∧B.all dgt=true∧C.all dgt=true∧Ft (Ar 0 A) (Ar 0 B) (Ar 0 C):=by
 obtain⟨Y,M,D,h1,rfl,rfl⟩:=h;have h31:=KH (y:=Y) h1.2.1.1;have n1:=JK (n:=Y) (by have:=h1.1;omega);have n2:=F7 (n:=M) (by have:=h1.2.1;omega);have n3:=F7 (n:=D) (by have:=h1.2.2;omega);refine⟨dg4 Y,dg2 M,dg2 D,⟨rfl,rfl,rfl,rfl⟩,n1.1,n2.1,n3.1, ?_⟩;rw[n1.2,n2.2,n3.2];exact h1
theorem IsD.uniq{w:List UInt8}{d d':Int}(h:IsD w d)(h':IsD w d'):d=d':=by
 obtain⟨Y,M,D,h1,e1,rfl⟩:=h;obtain⟨Y',M',D',h1',e1',rfl⟩:=h';have h31:=KH (y:=Y) h1.2.1.1;have h31':=KH (y:=Y') h1'.2.1.1;rw[e1]at e1';have n1:=JK (n:=Y) (by have:=h1.1;omega);have n2:=F7 (n:=M) (by have:=h1.2.1;omega);have n3:=F7 (n:=D) (by have:=h1.2.2;omega);have m1:=JK (n:=Y') (by have:=h1'.1;omega);have m2:=F7 (n:=M') (by have:=h1'.2.1;omega);have m3:=F7 (n:=D') (by have:=h1'.2.2;omega);unfold Eb at e1'
 have k1:dg4 Y=dg4 Y':=by
  have:=congrArg (List.take 4) e1';exact this
 have k2:dg2 M=dg2 M':=by
  have:=congrArg (fun l=>(l.drop 5).take 2) e1';exact this
 have k3:dg2 D=dg2 D':=by
  have:=congrArg (List.drop 8) e1';exact this
 rw[←n1.2,←n2.2,←n3.2,←m1.2,←m2.2,←m3.2,k1,k2,k3]
theorem Su{w:List UInt8}{i:Nat}(h:i<w.length):sAt w (i:Int)=some ((w[i].toNat:Nat):Int):=CB (Ai h)
theorem LS{b:UInt8}:(((b.toNat:Nat):Int) !=45)=(b !=45):=by
 rw[Bool.eq_iff_iff,bne_iff_ne,bne_iff_ne];constructor
 ·intro h e;rw[e]at h;exact h rfl
 ·intro h e;apply h;apply UInt8.toNat.inj;show b.toNat=45;omega
theorem LU(w:List UInt8):(∃d,IsD w d∧C2 w=some (d,0))∨((∀d,¬IsD w d)∧∃e,e≠0∧C2 w=some (0,e)):=by
 by_cases hl:w.length=10
 case neg=>
  right;refine⟨fun d h=> ?_,3,by decide, ?_⟩
  ·obtain⟨Y,M,D,_,rfl,_⟩:=h;exact hl rfl
  ·unfold C2;dsimp only;try simp only[gPi,gSS,gPb,gPm,gPs,gM,gM2,Ay,gOr,Az,A3,gAA,gAO,gOA,gOO,Av,Ax,A0,A2,Aw,A1,gId]
   try simp only[A5,A6,A7,A8,A9,AA,AB,AD,gId,AG,gMb,gMm,gBm,gBb,bs,ms]
   have c:((w.length:Int) !=10)=true:=by rw[bne_iff_ne];omega
   rw[c];rfl
 have c:((w.length:Int) !=10)=false:=by rw[bne_eq_false_iff_eq];omega
 by_cases h4:w[4]? =some 45
 case neg=>
  right;refine⟨fun d h=> ?_,3,by decide, ?_⟩
  ·obtain⟨Y,M,D,_,rfl,_⟩:=h;exact h4 rfl
  ·unfold C2;dsimp only;try simp only[gPi,gSS,gPb,gPm,gPs,gM,gM2,Ay,gOr,Az,A3,gAA,gAO,gOA,gOO,Av,Ax,A0,A2,Aw,A1,gId]
   try simp only[A5,A6,A7,A8,A9,AA,AB,AD,gId,AG,gMb,gMm,gBm,gBb,bs,ms]
   have e4:sAt w 4=some ((w[4].toNat:Nat):Int):=Su (i:=4) (by omega)
   have:(w[4] !=45)=true:=by
    rw[bne_iff_ne];intro e;apply h4;rw[Ai (by omega),e]
   rw[c,if_neg (by decide),e4,bs,LS,this];rfl
 have e4:sAt w 4=some (((45:UInt8).toNat:Nat):Int):=CB (i:=4) h4;by_cases h7:w[7]? =some 45
 case neg=>
  right;refine⟨fun d h=> ?_,3,by decide, ?_⟩
  ·obtain⟨Y,M,D,_,rfl,_⟩:=h;exact h7 rfl
  ·unfold C2;dsimp only;try simp only[gPi,gSS,gPb,gPm,gPs,gM,gM2,Ay,gOr,Az,A3,gAA,gAO,gOA,gOO,Av,Ax,A0,A2,Aw,A1,gId]
   try simp only[A5,A6,A7,A8,A9,AA,AB,AD,gId,AG,gMb,gMm,gBm,gBb,bs,ms]
   have e7:sAt w 7=some ((w[7].toNat:Nat):Int):=Su (i:=7) (by omega)
   have:(w[7] !=45)=true:=by
    rw[bne_iff_ne];intro e;apply h7;rw[Ai (by omega),e]
   rw[c,if_neg (by decide),e4,bs,LS];rw[show((45:UInt8) !=45)=false from rfl,bs,if_neg (by decide),e7,bs,LS,this];rfl
 have e7:sAt w 7=some (((45:UInt8).toNat:Nat):Int):=CB (i:=7) h7;obtain⟨A,B,C,hf⟩:=Vl hl h4 h7;have hf0:=hf;obtain⟨hw,l1,l2,l3⟩:=hf
 have u1:AV w 0 4=some A:=by
  rw[hw];refine(BY (i:=0) (j:=4) (by omega) (by simp;omega)).trans ?_;rw[List.drop_zero,←l1];simp
 have u2:AV w 5 7=some B:=by
  rw[hw];refine(BY (i:=5) (j:=7) (by omega) (by simp;omega)).trans ?_
  match A,l1 with
  | [a1,a2,a3,a4],_=>
   match B,l2 with
   | [b1,b2],_=>rfl
 have u3:AV w 8 (w.length:Int)=some C:=by
  rw[hl,hw];refine(BY (i:=8) (j:=10) (by omega) (by simp;omega)).trans ?_
  match A,l1 with
  | [a1,a2,a3,a4],_=>
   match B,l2 with
   | [b1,b2],_=>
    match C,l3 with
    | [c1,c2],_=>rfl
 have hp:C2 w=if A.all dgt&&B.all dgt&&C.all dgt then(Ea ((Ar 0 A:Int),(Ar 0 B:Int),(Ar 0 C:Int))).bind fun x=>some (x.1,x.2)else some (0,3):=by
  unfold C2;dsimp only;try simp only[gPi,gSS,gPb,gPm,gPs,gM,gM2,Ay,gOr,Az,A3,gAA,gAO,gOA,gOO,Av,Ax,A0,A2,Aw,A1,gId]
  try simp only[A5,A6,A7,A8,A9,AA,AB,AD,gId,AG,gMb,gMm,gBm,gBb,bs,ms]
  rw[c,if_neg (by decide),e4,bs,bs,if_neg (by decide),e7,bs,bs,if_neg (by decide),u1,bs,GY (by omega),bs,u2,bs,GY (by omega),bs,u3,bs,GY (by omega),bs]
  cases A.all dgt with
  |false=>rfl
  |true=>
   cases B.all dgt with
   |false=>rfl
   |true=>
    cases C.all dgt with
    |false=>rfl
    |true=>rfl
 rw[hp]
 have not:(A.all dgt&&B.all dgt&&C.all dgt)=false→∀d,¬IsD w d:=fun hn d h=>by
  obtain⟨A',B',C',⟨hw',l1',l2',l3'⟩,a1,a2,a3,_⟩:=Q0 h;rw[hw]at hw';have k:=List.append_inj hw' (by simp[l1,l2,l1',l2']);have k2:=List.append_inj k.1 (by simp[l1,l2,l1',l2']);have k3:=List.append_inj k2.1 (by simp[l1,l1']);have k4:=List.append_inj k3.1 (by simp[l1,l1']);rw[k4.1,k3.2,k.2,a1,a2,a3]at hn;cases hn
 cases hall:(A.all dgt&&B.all dgt&&C.all dgt)with
 |false=>exact .inr ⟨not hall,3,by decide,by rw[if_neg (by decide)]⟩
 |true=>
  rw[if_pos rfl];simp only[Af]at hall;have hdt:=Vm hf0 hall.1.1 hall.1.2 hall.2;rcases Tj (Ar 0 A) (Ar 0 B) (Ar 0 C)with⟨h1,h2⟩|⟨h1,h2⟩
  ·left;exact⟨_,⟨_,_,_,h1,hdt,rfl⟩,by rw[h2];rfl⟩
  ·right;refine⟨fun d h=> ?_,15,by decide,by rw[h2];rfl⟩;obtain⟨A',B',C',⟨hw',l1',l2',l3'⟩,_,_,_,h4⟩:=Q0 h;rw[hw]at hw';have k:=List.append_inj hw' (by simp[l1,l2,l1',l2']);have k2:=List.append_inj k.1 (by simp[l1,l2,l1',l2']);have k3:=List.append_inj k2.1 (by simp[l1,l1']);have k4:=List.append_inj k3.1 (by simp[l1,l1']);rw[←k4.1,←k3.2,←k.2]at h4;exact h1 h4
set_option linter.unusedSimpArgs false
set_option linter.unusedVariables false
set_option linter.unusedSimpArgs false
set_option linter.unusedVariables false
set_option linter.unusedSimpArgs false
set_option linter.unusedVariables false
set_option maxHeartbeats 1000000
theorem checked{a p k fr to:Int}{cd:List UInt8}{n:Int}{tx:List UInt8}(h:AT (a,p,k,fr,to,cd,n,tx)=0):
  (1≤k∧k≤18)∧EV k (Gq k) fr to=0∧∀to',EV k (Gq k) fr to'=0→AT (a,p,k,fr,to',cd,n,tx)=0:=by
 have hr:1≤k∧k≤18:=by
  by_cases h':1≤k∧k≤18
  ·exact h'
  ·unfold AT at h;dsimp only at h;rw[if_neg h']at h;cases h
 have hD:EV k (Gq k) fr to=0:=by
  have:=h;unfold AT at this;dsimp only at this;rw[if_pos hr]at this;unfold Ie at this;by_cases h1:(!(Mz k==(p==0)))=true
  ·rw[if_pos h1]at this;cases this
  ·rw[if_neg h1]at this;by_cases h2:EV k (Gq k) fr to=0
   ·exact h2
   ·have h3:(EV k (Gq k) fr to !=0)=true:=by simpa using h2
    rw[if_pos h3]at this;exact absurd this h2
 refine⟨hr,hD,fun to' h'=> ?_⟩;unfold AT at h⊢;dsimp only at h⊢;rw[hD]at h;rw[h'];exact h
set_option linter.unusedSimpArgs false
set_option linter.unusedVariables false
set_option maxHeartbeats 1000000
abbrev Fct:=Int×Int×Int×Int×Int×List UInt8×Int×List UInt8
structure HU (x:Fct):Prop where
 k:1≤x.2.2.1∧x.2.2.1≤18
 fr: -25567≤x.2.2.2.1∧x.2.2.2.1≤84005
 to:x.2.2.2.2.1=0∨x.2.2.2.2.1=84006∨(-25567≤x.2.2.2.2.1∧x.2.2.2.2.1≤84005)
 cd:GZ x.2.2.1 x.2.2.2.2.2.1=true
 nm: -1125899906842624≤x.2.2.2.2.2.2.1∧x.2.2.2.2.2.2.1≤1125899906842624
 tx:x.2.2.2.2.2.2.2.length≤4096
theorem W6(k:Int): -1125899906842624≤KD k∧Kn k≤1125899906842624:=by
 unfold KD Kn;constructor
 ·split
  ·omega
  ·split<;>omega
 ·split
  ·omega
  ·split
   ·omega
   ·split
    ·omega
    ·split
     ·omega
     ·split
      ·omega
      ·split<;>omega
theorem HU.of{x:Fct}(h:AT x=0):HU x:=by
 obtain⟨a,p,k,fr,to,cd,n,tx⟩:=x;obtain⟨h1,h2,_⟩:=checked h;unfold AT at h;dsimp only at h;rw[if_pos h1,h2]at h;unfold Ie at h;by_cases g1:(!(Mz k==(p==0)))=true
 ·rw[if_pos g1]at h;cases h
 ·rw[if_neg g1,if_neg (by decide)]at h;by_cases g2:(!GZ k cd)=true
  ·rw[if_pos g2]at h;cases h
  ·rw[if_neg g2]at h;by_cases g3:(decide (n<KD k)||decide (n>Kn k))=true
   ·rw[if_pos g3]at h;cases h
   ·rw[if_neg g3]at h;by_cases g4:decide ((tx.length:Int)>4096)=true
    ·rw[if_pos g4]at h;cases h
    ·have g4':¬((tx.length:Int)>4096):=fun h=>g4 (Al h);simp only[Aj,decide_eq_true_eq,not_or]at g3;have lh:=W6 k;unfold EV at h2;by_cases q1:((k==18&&fr !=0)||decide (fr< -25567)||decide (fr>84005))=true
     ·rw[if_pos q1]at h2;cases h2
     ·rw[if_neg q1]at h2;by_cases q2:((to !=0)&&(!Gq k||decide (to≤fr)))=true
      ·rw[if_pos q2]at h2;cases h2
      ·rw[if_neg q2]at h2;by_cases q3:decide (to>84006)=true
       ·rw[if_pos q3]at h2;cases h2
       ·have q3':¬(to>84006):=fun h=>q3 (Al h);simp only[Aj,decide_eq_true_eq,not_or]at q1
        have hto:to=0∨fr<to:=by
         by_cases t0:to=0
         ·exact .inl t0
         ·right;refine Classical.byContradiction fun hlt=>q2 ?_;have d1:(to !=0)=true:=by simpa using t0
          have d2:decide (to≤fr)=true:=Al (by omega);rw[d1,d2,Bool.or_true,Bool.and_true]
        refine⟨h1,⟨by dsimp only;omega,by dsimp only;omega⟩, ?_,by simpa using g2,⟨by dsimp only;omega,by dsimp only;omega⟩,by dsimp only;omega⟩;dsimp only;omega
def noB(s:List UInt8):Prop:=(∀b∈s,b≠32)∧s≠ []
theorem PI{b:UInt8}(h:dgt b=true):b≠32:=by
 have:=B0.1 h
 rintro rfl
 revert this;decide
theorem G3(n:Int):Lib.itoa n=(if n<0 then [45]else [])++Lib.decDigits n.natAbs:=by
 unfold Lib.itoa;by_cases h:n<0
 ·rw[if_pos h,if_pos h];rfl
 ·rw[if_neg h,if_neg h,show n.toNat=n.natAbs by omega];rfl
theorem FG(n:Int):noB (Lib.itoa n):=by
 rw[G3];refine⟨fun b hb=> ?_, ?_⟩
 ·rcases List.mem_append.1 hb with hb|hb
  ·split at hb
   ·rw[List.mem_singleton.1 hb];decide
   ·cases hb
  ·exact PI (List.all_eq_true.1 (Hg n.natAbs) b hb)
 ·intro e;have:=(List.append_eq_nil_iff.1 e).2;exact Gt _ this
theorem QB{k:Int}(h:1≤k∧k≤18):noB (Cp k):=by
 have h0:∀i:Nat,i<19→1≤i→(∀b∈Cp (i:Int),b≠32)∧Cp (i:Int)≠ []:=by decide
 obtain⟨n,rfl⟩:=Int.eq_ofNat_of_zero_le (show 0≤k by omega);exact h0 n (by omega) (by omega)
theorem WU{b:UInt8}(h:okb b=true):b≠32:=by rintro rfl;revert h;decide
theorem Ra{s:List UInt8}(h:DP s=true):noB s∧s≠ [45]∧s.length≤32:=by
 unfold DP at h;simp only[Af,decide_eq_true_eq,Bool.not_eq_true',beq_eq_false_iff_ne]at h;exact⟨⟨fun b hb=>WU (List.all_eq_true.1 h.1.1.1 b hb),h.1.1.2⟩,h.1.2,by omega⟩
theorem Tr{s:List UInt8}(h:HV s=true):noB s∧s≠ [45]∧s.length≤32:=by
 unfold HV at h;simp only[Aj,beq_iff_eq]at h;rcases h with((rfl|rfl)|rfl)|rfl<;>exact⟨⟨by decide,by decide⟩,by decide,by decide⟩
theorem JD{k:Int}{s:List UInt8}(h:GZ k s=true):s= []∨(noB s∧s≠ [45]∧s.length≤32):=by
 unfold GZ at h;split at h
 ·rw[Aj,beq_iff_eq]at h;rcases h with h|h
  ·exact .inl h
  ·exact .inr (Ra h)
 ·split at h
  ·exact .inr (Tr h)
  ·split at h
   ·exact .inr (Ra h)
   ·exact .inl (beq_iff_eq.1 h)
def C3(s:List UInt8):List UInt8:=if s= []then [45]else s
theorem Uy(s:List UInt8):JY s=some (C3 s):=by
 unfold JY C3;dsimp only
 cases s with
 |nil=>rfl
 |cons a s=>rw[if_neg (by simp),if_neg (by simp)]
theorem PA{k:Int}{s:List UInt8}(h:GZ k s=true):noB (C3 s)∧(C3 s= [45]→s= [])∧(C3 s≠ [45]→C3 s=s)∧(C3 s).length≤32:=by
 unfold C3;rcases JD h with rfl|⟨h1,h2,h3⟩
 ·rw[if_pos rfl];exact⟨⟨by decide,by decide⟩,fun _=>rfl,fun h=>absurd rfl h,by decide⟩
 ·rw[if_neg h1.2];exact⟨h1,fun e=>absurd e h2,fun _=>rfl,h3⟩
theorem PB{d:Int}(hd: -25567≤d∧d≤84005):∃t,Df d=some t∧C2 t=some (d,0)∧noB t∧t.length=10:=by
 obtain⟨Y,M,D,h1,h2⟩:=U2 hd;refine⟨_,h1,h2,⟨fun b hb=> ?_,fun e=> ?_⟩,rfl⟩
 ·rcases Uz Y M D b hb with h|rfl
  ·exact PI h
  ·decide
 ·have:=congrArg List.length e;rw[U0]at this;cases this
theorem Y9{to:Int}(h:to=0∨to=84006∨(-25567≤to∧to≤84005)):∃t,Ho to=some t∧Ef t=some (to,true)∧noB t∧t.length≤10:=by
 by_cases h0:to=0
 ·subst h0;exact⟨[45],rfl,rfl,⟨by decide,by decide⟩,by decide⟩
 ·by_cases h1:to=84006
  ·subst h1;exact⟨[101,110,100],rfl,rfl,⟨by decide,by decide⟩,by decide⟩
  ·obtain⟨t,t1,t2,t3,t4⟩:=PB (d:=to) (by omega);refine⟨t, ?_, ?_,t3,by omega⟩
   ·unfold Ho;dsimp only;rw[if_neg (by simpa using h0),if_neg (by simpa using h1)];rw[t1,bs]
   ·unfold Ef;dsimp only;try simp only[gPi,gSS,gPb,gPm,gPs,gM,gM2,Ay,gOr,Az,A3,gAA,gAO,gOA,gOO,Av,Ax,A0,A2,Aw,A1,gId]
    try simp only[A5,A6,A7,A8,A9,AA,AB,AD,gId,AG,gMb,gMm,gBm,gBb,bs,ms]
    have e1:(t== [45])=false:=by rw[beq_eq_false_iff_ne];intro e;rw[e]at t4;cases t4
    have e2:(t== [101,110,100])=false:=by rw[beq_eq_false_iff_ne];intro e;rw[e]at t4;cases t4
    have e3:(to !=0)=true:=by simpa using h0
    rw[e1,if_neg (by decide),e2,if_neg (by decide),t2,bs];dsimp only;rw[if_pos (show((0:Int)==0)=true from rfl),bs,e3]
theorem Rm{w:List UInt8}(h:w.length≤281474976710656)(g:Bool):Fa (w,()) (g,(),())=some (u32.wrap (EJ w),(g&&Bu w 4294967295,(),())):=by
 unfold Fa;dsimp only;try simp only[gPi,gSS,gPb,gPm,gPs,gM,gM2,Ay,gOr,Az,A3,gAA,gAO,gOA,gOO,Av,Ax,A0,A2,Aw,A1,gId]
 try simp only[A5,A6,A7,A8,A9,AA,AB,AD,gId,AG,gMb,gMm,gBm,gBb,bs,ms]
 rw[Gz h (by decide),bs];cases g<;>rfl
theorem Rn{w:List UInt8}(h:Bu w 4294967295=true):u32.wrap (EJ w)=(Ar 0 w:Int):=by
 have h2:=h;unfold Bu at h2;simp only[Af,decide_eq_true_eq]at h2;rw[SJ h (by decide),IntKind.wrap_u32];omega
theorem Mk{s:List UInt8}(h:s.head? ≠some 45):Et (s,[45])=some (s,false):=by
 unfold Et I8 Hx;dsimp only;try simp only[gPi,gSS,gPb,gPm,gPs,gM,gM2,Ay,gOr,Az,A3,gAA,gAO,gOA,gOO,Av,Ax,A0,A2,Aw,A1,gId]
 try simp only[A5,A6,A7,A8,A9,AA,AB,AD,gId,AG,gMb,gMm,gBm,gBb,bs,ms]
 cases s with
 |nil=>rfl
 |cons a s=>
  have ha:([a]== [(45:UInt8)])=false:=by
   rw[beq_eq_false_iff_ne];intro e;apply h;rw[List.head?_cons];exact congrArg some (List.cons.inj e).1
  have hs:AV (a::s) 0 (([(45:UInt8)].length:Nat):Int)=some [a]:=BY (i:=0) (j:=1) (by omega) (by simp);rw[Al (show(((a::s).length:Nat):Int)≥(([(45:UInt8)].length:Nat):Int) by simp;omega),if_pos rfl,hs,bs,bs,ha,if_pos (show(!false)=true from rfl),bs]
theorem Ml(s:List UInt8):Et (45::s,[45])=some (s,true):=by
 unfold Et I8 Hx;dsimp only;try simp only[gPi,gSS,gPb,gPm,gPs,gM,gM2,Ay,gOr,Az,A3,gAA,gAO,gOA,gOO,Av,Ax,A0,A2,Aw,A1,gId]
 try simp only[A5,A6,A7,A8,A9,AA,AB,AD,gId,AG,gMb,gMm,gBm,gBb,bs,ms]
 have hs:AV (45::s) 0 (([(45:UInt8)].length:Nat):Int)=some [45]:=BY (i:=0) (j:=1) (by omega) (by simp)
 have hs2:AV (45::s) (([(45:UInt8)].length:Nat):Int) (((45::s).length:Nat):Int)=some s:=by
  have:=BY (xs:=(45:UInt8)::s) (i:=1) (j:=(45::s).length) (by simp) (by omega);rw[List.take_length]at this;exact this
 rw[Al (show(((45::s).length:Nat):Int)≥(([(45:UInt8)].length:Nat):Int) by simp;omega),if_pos rfl,hs,bs,bs,if_neg (by decide),hs2,bs,bs]
theorem I6(n:Nat):(Lib.decDigits n).head? ≠some 45:=by
 intro e
 cases hD:Lib.decDigits n with
 |nil=>exact Gt n hD
 |cons a r=>
  rw[hD]at e;have ha:a=45:=Option.some.inj e;have:=Hg n;rw[hD,List.all_cons,Af]at this;rw[ha]at this;exact absurd this.1 (by decide)
theorem Nx{n:Nat}(h:n≤9223372036854775808):Lib.parseUintB 64 (Lib.decDigits n)=.ok n:=by
 unfold Lib.parseUintB;rw[if_neg (Gt n),Nv (M:=2^64-1) (by omega) _ 0 (Hg n) (by omega),F8,if_pos (by omega)]
theorem S5{n:Int}(h: -9223372036854775808≤n∧n≤9223372036854775807):DG (Lib.itoa n)=some (n,true):=by
 have hl:(Lib.decDigits n.natAbs).length≤20:=JN (by decide) (by have:(10:Nat)^20=100000000000000000000:=rfl;omega)
 have ht:Bu (Lib.decDigits n.natAbs) 9223372036854775808=true:=by
  unfold Bu;rw[LZ,F8,Al (by omega)];rfl
 have hcut:Et (Lib.itoa n,[45])=some (Lib.decDigits n.natAbs,decide (n<0)):=by
  rw[G3];by_cases hn:n<0
  ·rw[if_pos hn,Al hn];exact Ml _
  ·rw[if_neg hn,Ak hn];exact Mk (I6 _)
 have hp:FV (Lib.itoa n,10,64)=some (n,true):=by
  unfold FV;dsimp only;rw[if_pos ⟨rfl,rfl,by rw[G3];simp only[List.length_append];split<;>simp<;>omega⟩]
  have e:Lib.parseIntB 64 (Lib.itoa n)=.ok n:=by
   rw[G3];by_cases hn:n<0
   ·rw[if_pos hn,List.singleton_append];unfold Lib.parseIntB;dsimp only;rw[if_pos (.inr rfl),Nx (by omega)];dsimp only;rw[if_neg (by simp),if_neg (by simp;omega),if_pos (show UInt8.toNat 45=45 from rfl)]
    congr 1
    omega
   ·rw[if_neg hn,List.nil_append];have hh:=I6 n.natAbs
    cases hD:Lib.decDigits n.natAbs with
    |nil=>exact absurd hD (Gt _)
    |cons c r=>
     rw[hD]at hh;have ha:=Hg n.natAbs;rw[hD,List.all_cons,Af]at ha;have hc:=B0.1 ha.1;unfold Lib.parseIntB;dsimp only;rw[if_neg (by omega),←hD,Nx (by omega)];dsimp only;rw[if_neg (by omega),if_neg (by omega),if_neg (by omega)]
     congr 1
     omega
  rw[e]
 unfold DG;dsimp only;try simp only[gPi,gSS,gPb,gPm,gPs,gM,gM2,Ay,gOr,Az,A3,gAA,gAO,gOA,gOO,Av,Ax,A0,A2,Aw,A1,gId]
 try simp only[A5,A6,A7,A8,A9,AA,AB,AD,gId,AG,gMb,gMm,gBm,gBb,bs,ms]
 rw[hcut,bs];dsimp only;rw[Gz (by omega) (by decide),bs,ht,if_neg (show ¬((!true)=true) by decide)]
 have d:(if decide (n<0)=true then some (Lib.decDigits n.natAbs== [48])else some false)=some false:=by
  by_cases hn:n<0
  ·rw[Al hn,if_pos rfl]
   congr 1
   rw[beq_eq_false_iff_ne];intro e;have:=F8 n.natAbs;rw[e]at this;have h0:Ar 0 [48]=0:=rfl;omega
  ·rw[Ak hn,if_neg (by decide)]
 rw[d,bs,if_neg (by decide),hp,bs]
set_option linter.unusedSimpArgs false
set_option linter.unusedVariables false
set_option maxHeartbeats 1000000
theorem ID(a b:List UInt8)(r:List (List UInt8)):Lib.join (a::b::r) [32]=a++32::Lib.join (b::r) [32]:=by
 rw[Lib.join_cons,Lib.join_cons];simp[Lib.joinTail]
theorem Q4:∀(l:List (List UInt8)),(Lib.join l [32]).length≤(l.map List.length).sum+l.length
 | []=>by simp[Lib.join_nil]
 | [a]=>by simp[Lib.join_one]
 |a::b::r=>by
  have h:=Q4 (b::r);rw[ID];simp only[List.length_append,List.length_cons,List.map_cons,List.sum_cons]at h⊢;omega
theorem NN:∀(l:List (List UInt8)) (k:Nat) (last:List UInt8),(∀w∈l,∀b∈w,b≠32)→l.length≤k→(l.length=k∨∀b∈last,b≠32)→last≠ []→AW 32 k [] (Lib.join (l++ [last]) [32])=l++ [last]
 | [],k,last,_,_,h,hne=>by
  rw[List.nil_append,Lib.join_one];rcases h with h|h
  ·have:k=0:=h.symm;subst this
   cases last with
   |nil=>exact absurd rfl hne
   |cons a s=>rfl
  ·rw[NO 32 last [] k h];rfl
 |a::l,k,last,hw,hl,h,hne=>by
  cases k with
  |zero=>simp at hl
  |succ k=>
   have ej:Lib.join (a::l++ [last]) [32]=a++32::Lib.join (l++ [last]) [32]:=by
    cases l with
    |nil=>exact ID a last []
    |cons b l=>exact ID a b (l++ [last])
   rw[ej,NM 32 a _ [] k (hw a (by simp)),NN l k last (fun w hm=>hw w (by simp[hm])) (by simpa using hl) (by simpa using h) hne];rfl
def CI(x:Fct)(t u:List UInt8):List (List UInt8):= [Cp x.2.2.1,Lib.itoa x.1,Lib.itoa x.2.1,t,u,C3 x.2.2.2.2.2.1,Lib.itoa x.2.2.2.2.2.2.1]
def BD(x:Fct)(t u:List UInt8):List (List UInt8):=if x.2.2.2.2.2.2.2= []then CI x t u else CI x t u++ [x.2.2.2.2.2.2.2]
structure Fv (x:Fct) (t u:List UInt8):Prop where
 r:HU x
 id:0≤x.1∧x.1≤4294967295
 p:0≤x.2.1∧x.2.1≤4294967295
 t1:Df x.2.2.2.1=some t
 t2:C2 t=some (x.2.2.2.1,0)
 t3:noB t∧t.length≤10
 u1:Ho x.2.2.2.2.1=some u
 u2:Ef u=some (x.2.2.2.2.1,true)
 u3:noB u∧u.length≤10
theorem Xm{x:Fct}(h:AT x=0)(hid:0≤x.1∧x.1≤4294967295)(hp:0≤x.2.1∧x.2.1≤4294967295):∃t u,Fv x t u:=by
 have r:=HU.of h;obtain⟨t,t1,t2,t3,t4⟩:=PB r.fr;obtain⟨u,u1,u2,u3,u4⟩:=Y9 r.to;exact⟨t,u,r,hid,hp,t1,t2,⟨t3,by omega⟩,u1,u2,u3,u4⟩
theorem S2{x:Fct}{t u:List UInt8}(P:Fv x t u):(∀w∈CI x t u,noB w)∧((CI x t u).map List.length).sum≤200:=by
 have hk:(Cp x.2.2.1).length≤10:=by
  have h0:∀i:Nat,i<19→(Cp (i:Int)).length≤10:=by decide
  obtain⟨n,hn⟩:=Int.eq_ofNat_of_zero_le (show 0≤x.2.2.1 by have:=P.r.k.1;omega);rw[hn];exact h0 n (by have:=P.r.k.2;omega)
 have hi:∀n:Int,-1125899906842624≤n∧n≤1125899906842624→(Lib.itoa n).length≤21:=fun n h=>by
  rw[G3];have hl:(Lib.decDigits n.natAbs).length≤20:=JN (by decide) (by have:(10:Nat)^20=100000000000000000000:=rfl;omega);simp only[List.length_append];split<;>simp<;>omega
 have h1:=hi x.1 (by have:=P.id;omega);have h2:=hi x.2.1 (by have:=P.p;omega);have h3:=hi _ P.r.nm;have h4:=(PA P.r.cd).2.2.2;have h5:=P.t3.2;have h6:=P.u3.2;refine⟨fun w hw=> ?_, ?_⟩
 ·unfold CI at hw;simp only[List.mem_cons,List.not_mem_nil,or_false]at hw;rcases hw with rfl|rfl|rfl|rfl|rfl|rfl|rfl
  ·exact QB P.r.k
  ·exact FG _
  ·exact FG _
  ·exact P.t3.1
  ·exact P.u3.1
  ·exact(PA P.r.cd).1
  ·exact FG _
 ·simp only[CI,List.map_cons,List.map_nil,List.sum_cons,List.sum_nil];omega
theorem I5{x:Fct}{t u:List UInt8}(P:Fv x t u):(Lib.join (BD x t u) [32]).length≤4500∧((BD x t u).length=7∨(BD x t u).length=8):=by
 have h1:=(S2 P).2;have h2:=Q4 (BD x t u);have h3:=P.r.tx;have h7:(CI x t u).length=7:=rfl;unfold BD at h2⊢;split at h2
 ·rename_i he;rw[if_pos he];exact⟨by omega,.inl rfl⟩
 ·rename_i he;rw[if_neg he];simp only[List.map_append,List.sum_append,List.map_cons,List.map_nil,List.sum_cons,List.sum_nil,List.length_append,List.length_cons,List.length_nil]at h2⊢;exact⟨by omega,.inr (by omega)⟩
theorem OF{x:Fct}{t u:List UInt8}(P:Fv x t u)(h:AT x=0):Dv x=some (Lib.join (BD x t u) [32],0):=by
 have hcd:x.2.2.2.2.2.1.length≤4200:=by
  rcases JD P.r.cd with e|⟨_,_,e⟩
  ·rw[e];decide
  ·omega
 have hl:=(I5 P).1
 have fu:∀n:Int,0≤n∧n≤4294967295→Es (u64.wrap n,10)=some (Lib.itoa n):=fun n hn=>by
  unfold Es;have:u64.wrap n=n:=by rw[IntKind.wrap_u64];omega
  rw[this,if_pos ⟨rfl,by omega,by omega⟩]
 have fi:FU (x.2.2.2.2.2.2.1,10)=some (Lib.itoa x.2.2.2.2.2.2.1):=by
  have:=P.r.nm;unfold FU;rw[if_pos ⟨rfl,by omega,by omega⟩]
 unfold Dv;dsimp only;try simp only[gPi,gSS,gPb,gPm,gPs,gM,gM2,Ay,gOr,Az,A3,gAA,gAO,gOA,gOO,Av,Ax,A0,A2,Aw,A1,gId]
 try simp only[A5,A6,A7,A8,A9,AA,AB,AD,gId,AG,gMb,gMm,gBm,gBb,bs,ms]
 have hc:AR (x.1,x.2.1,x.2.2.1,x.2.2.2.1,x.2.2.2.2.1,x.2.2.2.2.2.1,x.2.2.2.2.2.2.1,x.2.2.2.2.2.2.2)=some 0:=by
  rw[show AR (x.1,x.2.1,x.2.2.1,x.2.2.2.1,x.2.2.2.2.1,x.2.2.2.2.2.1,x.2.2.2.2.2.2.1,x.2.2.2.2.2.2.2)=some (AT x)from J8 x hcd (by have:=P.r.tx;omega),h]
 rw[hc,bs,if_neg (by decide),Qj,bs,fu _ P.id,bs,fu _ P.p,bs,P.t1,bs,P.u1,bs,Uy,bs,fi,bs]
 have hj:∀l:List (List UInt8),l=BD x t u→strings_Join (l,[32])=some (Lib.join (BD x t u) [32]):=fun l e=>by
  subst e;unfold strings_Join;dsimp only;rw[if_pos ⟨by omega,by rcases(I5 P).2 with e|e<;>omega⟩]
 by_cases he:x.2.2.2.2.2.2.2= []
 ·rw[he,if_neg (by decide),bs];dsimp only;rw[hj _ (by unfold BD;rw[if_pos he];rfl),bs]
 ·have d:(!(x.2.2.2.2.2.2.2== []))=true:=by simpa using he
  rw[d,if_pos rfl,if_pos (by simp),bs];dsimp only;rw[hj _ (by unfold BD;rw[if_neg he];rfl),bs]
theorem XS{x:Fct}{t u:List UInt8}(P:Fv x t u):Fr (Lib.join (BD x t u) [32],[32],8)=some (BD x t u):=by
 have hl:=(I5 P).1;have hs:=(S2 P).1;have e:=Jy (c:=32) (s:=Lib.join (BD x t u) [32]) (by omega) (k:=7) (by omega);rw[show(((7+1:Nat)):Int)=8 from rfl]at e;rw[e]
 congr 1
 have h6:CI x t u= [Cp x.2.2.1,Lib.itoa x.1,Lib.itoa x.2.1,t,u,C3 x.2.2.2.2.2.1]++ [Lib.itoa x.2.2.2.2.2.2.1]:=rfl;by_cases he:x.2.2.2.2.2.2.2= []
 ·have ef:BD x t u=CI x t u:=by unfold BD;rw[if_pos he]
  rw[ef,h6];refine NN _ 7 _ (fun w hw=>(hs w (by rw[h6];exact List.mem_append.2 (.inl hw))).1) (by simp) (.inr (FG _).1) (FG _).2
 ·have ef:BD x t u=CI x t u++ [x.2.2.2.2.2.2.2]:=by unfold BD;rw[if_neg he]
  rw[ef];exact NN _ 7 _ (fun w hw=>(hs w hw).1) (by show 7≤7;omega) (.inl rfl) he
theorem Ti{x:Fct}(hc:x.2.2.2.2.2.1.length≤4200)(ht:x.2.2.2.2.2.2.2.length≤4200)(h:AT x≠0):Dv x=some ([],AT x):=by
 unfold Dv;dsimp only;try simp only[gPi,gSS,gPb,gPm,gPs,gM,gM2,Ay,gOr,Az,A3,gAA,gAO,gOA,gOO,Av,Ax,A0,A2,Aw,A1,gId]
 try simp only[A5,A6,A7,A8,A9,AA,AB,AD,gId,AG,gMb,gMm,gBm,gBb,bs,ms]
 have d:(AT x !=0)=true:=by simpa using h
 rw[show AR (x.1,x.2.1,x.2.2.1,x.2.2.2.1,x.2.2.2.2.1,x.2.2.2.2.2.1,x.2.2.2.2.2.2.1,x.2.2.2.2.2.2.2)=some (AT x)from J8 x hc ht,bs,d,if_pos rfl]
set_option linter.unusedSimpArgs false
set_option linter.unusedVariables false
set_option maxHeartbeats 1000000
theorem E9{n:Int}(h:0≤n):Lib.itoa n=Lib.decDigits n.natAbs:=by rw[G3,if_neg (by omega)];rfl
theorem G4{n:Int}(h:n<0):Lib.itoa n=45::Lib.decDigits n.natAbs:=by rw[G3,if_pos h];rfl
theorem Jr{n m:Int}(h:0≤n∧n≤m):Bu (Lib.itoa n) m=true∧(Ar 0 (Lib.itoa n):Int)=n:=by
 rw[E9 h.1];unfold Bu;rw[LZ,F8,Al (by omega)];exact⟨rfl,by omega⟩
theorem Ks{w:List UInt8}{m:Int}(h:Bu w m=true):w=Lib.itoa (Ar 0 w:Int)∧(Ar 0 w:Int)≤m:=by
 unfold Bu at h;simp only[Af,decide_eq_true_eq]at h;rw[E9 (by omega)];refine⟨?_,h.2⟩;rw[show((Ar 0 w:Nat):Int).natAbs=Ar 0 w by omega];exact(Ms h.1).symm
theorem VT(w:List UInt8):(∃D,w=45::D)∨w.head? ≠some 45:=by
 cases w with
 |nil=>exact .inr (by simp)
 |cons a D=>
  by_cases h:a=45
  ·exact .inl ⟨D,by rw[h]⟩
  ·exact .inr (by simp[h])
theorem NJ{w D:List UInt8}{neg:Bool}(hl:w.length≤1000000)(hD:D.length≤1000000)(hcut:Et (w,[45])=some (D,neg))(h:Bu D 9223372036854775808=false∨(neg=true∧D= [48])):DG w=some (0,false):=by
 unfold DG;dsimp only;try simp only[gPi,gSS,gPb,gPm,gPs,gM,gM2,Ay,gOr,Az,A3,gAA,gAO,gOA,gOO,Av,Ax,A0,A2,Aw,A1,gId]
 try simp only[A5,A6,A7,A8,A9,AA,AB,AD,gId,AG,gMb,gMm,gBm,gBb,bs,ms]
 rw[hcut,bs];dsimp only;rw[Gz (by omega) (by decide),bs];rcases h with h|⟨h1,h2⟩
 ·rw[h];rfl
 ·subst h1 h2;rfl
theorem S4{w:List UInt8}(hl:w.length≤1000000):(∃n,(-9223372036854775808≤n∧n≤9223372036854775807)∧w=Lib.itoa n∧DG w=some (n,true))∨((∀n,-9223372036854775808≤n∧n≤9223372036854775807→w≠Lib.itoa n)∧∃v,DG w=some (v,false)):=by
 rcases VT w with⟨D,rfl⟩|hh
 ·have hD:D.length≤1000000:=by simp only[List.length_cons]at hl;omega
  have back:∀n:Int,45::D=Lib.itoa n→n<0∧D=Lib.decDigits n.natAbs:=fun n e=>by
   by_cases hn:n<0
   ·rw[G4 hn]at e;exact⟨hn,(List.cons.inj e).2⟩
   ·rw[E9 (by omega)]at e;exact absurd (show(Lib.decDigits n.natAbs).head? =some 45 by rw[←e];rfl) (I6 _)
  cases ht:Bu D 9223372036854775808 with
  |false=>
   refine .inr ⟨fun n hn e=> ?_,0,NJ hl hD (Ml D) (.inl ht)⟩;obtain⟨h1,h2⟩:=back n e;have:=(Jr (n:= -n) (m:=9223372036854775808) ⟨by omega,by omega⟩).1;rw[E9 (by omega),show(-n).natAbs=n.natAbs by omega,←h2,ht]at this;cases this
  |true=>
   obtain⟨e1,e2⟩:=Ks ht;by_cases hz:Ar 0 D=0
   ·have hD0:D= [48]:=by
     rw[hz]at e1;rw[e1];unfold Lib.itoa;simp[Lib.decDigits]
    refine .inr ⟨fun n hn e=> ?_,0,NJ hl hD (Ml D) (.inr ⟨rfl,hD0⟩)⟩;obtain⟨h1,h2⟩:=back n e;rw[h2,F8]at hz;omega
   ·have e3:45::D=Lib.itoa (-(Ar 0 D:Int)):=by
     rw[G4 (by omega),show(-(Ar 0 D:Int)).natAbs=Ar 0 D by omega];rw[E9 (by omega),show((Ar 0 D:Nat):Int).natAbs=Ar 0 D by omega]at e1;rw[←e1]
    left;refine⟨-(Ar 0 D:Int),⟨by omega,by omega⟩,e3, ?_⟩;rw[e3];exact S5 ⟨by omega,by omega⟩
 ·have back:∀n:Int,w=Lib.itoa n→0≤n:=fun n e=>by
   refine Classical.byContradiction fun hn=> ?_;rw[G4 (by omega)]at e;exact hh (by rw[e];rfl)
  cases ht:Bu w 9223372036854775808 with
  |false=>
   refine .inr ⟨fun n hn e=> ?_,0,NJ hl hl (Mk hh) (.inl ht)⟩;have h1:=back n e;have:=(Jr (n:=n) (m:=9223372036854775808) ⟨h1,by omega⟩).1;rw[←e,ht]at this;cases this
  |true=>
   obtain⟨e1,e2⟩:=Ks ht;by_cases hz:(Ar 0 w:Int)≤9223372036854775807
   ·left;refine⟨(Ar 0 w:Int),⟨by omega,hz⟩,e1, ?_⟩;have:=S5 (n:=(Ar 0 w:Int)) ⟨by omega,hz⟩;rw[←e1]at this;exact this
   ·right;refine⟨fun n hn e=> ?_, ?_⟩
    ·have h1:=back n e;have:=(Jr (n:=n) (m:=9223372036854775807) ⟨h1,by omega⟩).2;rw[←e]at this;omega
    ·have hN:Ar 0 w=9223372036854775808:=by omega
     have hdd:w=Lib.decDigits 9223372036854775808:=by
      rw[hN]at e1;rw[e1];exact E9 (by decide)
     have hp:Lib.parseIntB 64 w=.range:=by
      have h0:=Nx (n:=9223372036854775808) (by decide);rw[←hdd]at h0;have hall:=Hg 9223372036854775808;rw[←hdd]at hall
      cases w with
      |nil=>exact absurd hdd.symm (Gt _)
      |cons c r=>
       have hc:=B0.1 (show dgt c=true by rw[List.all_cons,Af]at hall;exact hall.1);unfold Lib.parseIntB;dsimp only;rw[if_neg (by omega),h0];dsimp only;rw[if_pos ⟨by omega,by decide⟩]
     have hP:∃v,FV (w,10,64)=some (v,false):=by
      unfold FV;dsimp only;rw[if_pos ⟨rfl,rfl,by omega⟩,hp];exact⟨_,rfl⟩
     obtain⟨v,hv⟩:=hP;refine⟨v, ?_⟩;unfold DG;dsimp only;try simp only[gPi,gSS,gPb,gPm,gPs,gM,gM2,Ay,gOr,Az,A3,gAA,gAO,gOA,gOO,Av,Ax,A0,A2,Aw,A1,gId]
     try simp only[A5,A6,A7,A8,A9,AA,AB,AD,gId,AG,gMb,gMm,gBm,gBb,bs,ms]
     rw[Mk hh,bs];dsimp only;rw[Gz (by omega) (by decide),bs,ht,if_neg (show ¬((!true)=true) by decide),if_neg (show ¬(false=true) by decide),bs,if_neg (show ¬(false=true) by decide),hv,bs]
def IsU(w:List UInt8)(to:Int):Prop:=(to=0∧w= [45])∨(to=84006∧w= [101,110,100])∨(IsD w to∧to≠0)
theorem IsD.len{w:List UInt8}{d:Int}(h:IsD w d):w.length=10:=by
 obtain⟨Y,M,D,_,rfl,_⟩:=h;rfl
theorem PU(w:List UInt8):(∃to,IsU w to∧Ef w=some (to,true))∨((∀to,¬IsU w to)∧∃v,Ef w=some (v,false)):=by
 by_cases h1:w= [45]
 ·subst h1;exact .inl ⟨0,.inl ⟨rfl,rfl⟩,rfl⟩
 by_cases h2:w= [101,110,100]
 ·subst h2;exact .inl ⟨84006,.inr (.inl ⟨rfl,rfl⟩),rfl⟩
 have d1:(w== [45])=false:=by rw[beq_eq_false_iff_ne];exact h1
 have d2:(w== [101,110,100])=false:=by rw[beq_eq_false_iff_ne];exact h2
 have ev:∀{d e:Int},C2 w=some (d,e)→Ef w=some (d,(e==0)&&(d !=0)):=fun{d e} h=>by
  unfold Ef;dsimp only;try simp only[gPi,gSS,gPb,gPm,gPs,gM,gM2,Ay,gOr,Az,A3,gAA,gAO,gOA,gOO,Av,Ax,A0,A2,Aw,A1,gId]
  try simp only[A5,A6,A7,A8,A9,AA,AB,AD,gId,AG,gMb,gMm,gBm,gBb,bs,ms]
  rw[d1,if_neg (by decide),d2,if_neg (by decide),h,bs];dsimp only;cases (e==0)<;>rfl
 have no:(∀d,¬IsD w d)→∀to,¬IsU w to:=fun h to hu=>by
  rcases hu with⟨_,h3⟩|⟨_,h3⟩|⟨h3,_⟩
  ·exact h1 h3
  ·exact h2 h3
  ·exact h _ h3
 rcases LU w with⟨d,hd,hp⟩|⟨hn,e,he,hp⟩
 ·by_cases h0:d=0
  ·right;refine⟨fun to hu=> ?_,d, ?_⟩
   ·rcases hu with⟨_,h3⟩|⟨_,h3⟩|⟨h3,h4⟩
    ·exact h1 h3
    ·exact h2 h3
    ·exact h4 ((h3.uniq hd).trans h0)
   ·rw[ev hp,h0];rfl
  ·left;refine⟨d,.inr (.inr ⟨hd,h0⟩), ?_⟩;rw[ev hp];have:(d !=0)=true:=by rw[bne_iff_ne];exact h0
   rw[this];rfl
 ·right;refine⟨no hn,0, ?_⟩;rw[ev hp];have:(e==0)=false:=by rw[beq_eq_false_iff_ne];exact he
  rw[this];rfl
theorem kK(w:List UInt8):∃K:Nat,K≤18∧∀k:Nat,1≤k→k≤18→(Cp (k:Int)=w↔k=K):=by
 by_cases h:∃k:Nat,1≤k∧k≤18∧Cp (k:Int)=w
 ·obtain⟨K,h1,h2,h3⟩:=h;refine⟨K,h2,fun k h4 h5=>⟨fun e=> ?_,fun e=>by rw[e];exact h3⟩⟩;exact QA k (by omega) K (by omega) (e.trans h3.symm) h4
 ·exact⟨0,by omega,fun k h4 h5=>⟨fun e=>absurd ⟨k,h4,h5,e⟩ h,fun e=>by omega⟩⟩
theorem Wi{l:List (List UInt8)}{w0:List UInt8}{K:Nat}{id p:Int}{g:Bool}(hl:l[0]? =some w0)(hK:K≤18)(hw:∀k:Nat,1≤k→k≤18→(Cp (k:Int)=w0↔k=K)):∀(j k:Nat) (kd:Int),1≤k→19-k≤j→k≤19→
  iter Hl (l,(k:Int),0,0,0,0,0,[],0,[],id,p,kd,0,0,[],0,[],g,(),(),(),(),(),(),())=some (l,0,0,0,0,0,[],0,[],id,p,(if k≤K then(K:Int)else kd),0,0,[],0,[],g,(),(),(),(),(),(),()):=by
 intro j
 induction j with
 |zero=>
  intro k kd h1 h2 h3;have:k=19:=by omega
  subst this;refine itR ?_;unfold Hl;dsimp only;rw[Ak (by decide),if_neg (by decide),if_neg (by omega)]
 |succ j ih=>
  intro k kd h1 h2 h3;by_cases h:k=19
  ·subst h;refine itR ?_;unfold Hl;dsimp only;rw[Ak (by decide),if_neg (by decide),if_neg (by omega)]
  ·have w:i64.wrap ((k:Int)+1)=((k+1:Nat):Int):=by rw[Au (by omega) (by omega)];omega
   have st:Hl (l,(k:Int),0,0,0,0,0,[],0,[],id,p,kd,0,0,[],0,[],g,(),(),(),(),(),(),())=some (.inl (l,((k+1:Nat):Int),0,0,0,0,0,[],0,[],id,p,(if k=K then(k:Int)else kd),0,0,[],0,[],g,(),(),(),(),(),(),())):=by
    unfold Hl;dsimp only;try simp only[gPi,gSS,gPb,gPm,gPs,gM,gM2,Ay,gOr,Az,A3,gAA,gAO,gOA,gOO,Av,Ax,A0,A2,Aw,A1,gId]
    try simp only[A5,A6,A7,A8,A9,AA,AB,AD,gId,AG,gMb,gMm,gBm,gBb,bs,ms]
    rw[Al (show(k:Int)<19 by omega),if_pos rfl,Qj,bs,show lAt l 0=some w0 from Bn (i:=0) hl,bs];by_cases hk:k=K
    ·have d:(Cp (k:Int)==w0)=true:=by rw[beq_iff_eq];exact(hw k h1 (by omega)).2 hk
     rw[d,if_pos rfl,bs,if_pos hk];dsimp only;rw[w]
    ·have d:(Cp (k:Int)==w0)=false:=by
      rw[beq_eq_false_iff_ne];intro e;exact hk ((hw k h1 (by omega)).1 e)
     rw[d,if_neg (by decide),bs,if_neg hk];dsimp only;rw[w]
   rw[itL st,ih (k+1) _ (by omega) (by omega) (by omega)];by_cases hk:k=K
   ·subst hk;rw[if_pos rfl,if_neg (by omega),if_pos (Nat.le_refl _)]
   ·rw[if_neg hk];by_cases hlt:k+1≤K
    ·rw[if_pos hlt,if_pos (by omega)]
    ·rw[if_neg hlt,if_neg (by omega)]
set_option linter.unusedSimpArgs false
set_option linter.unusedVariables false
set_option maxHeartbeats 1000000
def FZ:Fct:=(0,0,0,0,0,[],0,[])
structure Do (L:List (List UInt8)) (x:Fct):Prop where
 k:1≤x.2.2.1∧x.2.2.1≤18
 id:0≤x.1∧x.1≤4294967295
 p:0≤x.2.1∧x.2.1≤4294967295
 nm: -9223372036854775808≤x.2.2.2.2.2.2.1∧x.2.2.2.2.2.2.1≤9223372036854775807
 cd:x.2.2.2.2.2.1≠ [45]
 w:∃t u,IsD t x.2.2.2.1∧IsU u x.2.2.2.2.1∧L=BD x t u
theorem IsU.ne{w:List UInt8}{to:Int}(h:IsU w to):w≠ []:=by
 rcases h with⟨_,rfl⟩|⟨_,rfl⟩|⟨h,_⟩
 ·simp
 ·simp
 ·intro e;have:=h.len;rw[e]at this;cases this
theorem Ux(s:List UInt8):C3 s≠ []:=by
 unfold C3;split
 ·simp
 ·assumption
theorem Do.ne{L:List (List UInt8)}{x:Fct}(h:Do L x):∀w∈L,w≠ []:=by
 obtain⟨t,u,h1,h2,rfl⟩:=h.w
 have h7:∀w∈CI x t u,w≠ []:=fun w hw=>by
  unfold CI at hw;simp only[List.mem_cons,List.not_mem_nil,or_false]at hw;rcases hw with rfl|rfl|rfl|rfl|rfl|rfl|rfl
  ·exact(QB h.k).2
  ·exact(FG _).2
  ·exact(FG _).2
  ·intro e;have:=h1.len;rw[e]at this;cases this
  ·exact h2.ne
  ·exact Ux _
  ·exact(FG _).2
 intro w hw;unfold BD at hw;split at hw
 ·exact h7 w hw
 ·rename_i he;rcases List.mem_append.1 hw with g|g
  ·exact h7 w g
  ·rw[List.mem_singleton.1 g];exact he
theorem I4(x:Fct)(t u:List UInt8):BD x t u=CI x t u++(if x.2.2.2.2.2.2.2= []then []else [x.2.2.2.2.2.2.2]):=by
 unfold BD;split
 ·rw[List.append_nil]
 ·rfl
theorem XP(c:UInt8):∀(s cur:List UInt8) (k:Nat),(AW c k cur s).length≤k+1:=by
 intro s
 induction s with
 |nil=>intro cur k;cases k<;>simp[AW]
 |cons b t ih=>
  intro cur k
  cases k with
  |zero=>simp[AW]
  |succ k=>
   rw[HM];split
   ·simp only[List.length_cons];have:=ih [] k;omega
   ·exact ih _ _
theorem XQ(c:UInt8):∀(s cur:List UInt8) (k:Nat),∀w∈AW c k cur s,w.length≤cur.length+s.length:=by
 intro s
 induction s with
 |nil=>
  intro cur k w hw;cases k<;>(simp[AW]at hw;subst hw;simp)
 |cons b t ih=>
  intro cur k w hw
  cases k with
  |zero=>simp[AW]at hw;subst hw;simp
  |succ k=>
   rw[HM]at hw;split at hw
   ·rcases List.mem_cons.1 hw with rfl|hw
    ·omega
    ·have:=ih [] k w hw;simp only[List.length_cons,List.length_nil]at this⊢;omega
   ·have:=ih _ _ w hw;simp only[List.length_append,List.length_cons,List.length_nil]at this⊢;omega
noncomputable def If(x:Fct):Fct×Int:=if AT x=0 then(x,0)else(FZ,AT x)
theorem Xh{s:List UInt8}{w0 w1 w2 w3 w4 w5 w6:List UInt8}{R:List (List UInt8)}(hs:s.length≤4900)(hL:AW 32 7 [] s=w0::w1::w2::w3::w4::w5::w6::R)(hR:R.length≤1)(hne:∀w∈AW 32 7 [] s,w≠ []):
  (∃x,Do (AW 32 7 [] s) x∧Dg s=some (If x))∨((∀x,¬Do (AW 32 7 [] s) x)∧Dg s=some (FZ,3)):=by
 have hw:∀w∈AW 32 7 [] s,w.length≤4900:=fun w hw=>by
  have:=XQ 32 s [] 7 w hw;simp only[List.length_nil]at this;omega
 have hsp:Fr (s,[32],8)=some (AW 32 7 [] s):=Jy (s:=s) (c:=32) (k:=7) (by omega) (by decide);rw[hL]at hw hne hsp
 have hcon:Fq (w0::w1::w2::w3::w4::w5::w6::R,[])=some false:=by
  rw[LB (by simp;omega)]
  congr 1
  rw[List.any_eq_false];intro w hw;have:=hne w hw
  cases w with
  |nil=>exact absurd rfl this
  |cons a w=>simp
 have l1:=hw w1 (by simp);have l2:=hw w2 (by simp);have l6:=hw w6 (by simp);obtain⟨K,hK,hKw⟩:=kK w0
 have words:∀x,Do (AW 32 7 [] s) x→w0=Cp x.2.2.1∧w1=Lib.itoa x.1∧w2=Lib.itoa x.2.1∧IsD w3 x.2.2.2.1∧IsU w4 x.2.2.2.2.1∧w5=C3 x.2.2.2.2.2.1∧w6=Lib.itoa x.2.2.2.2.2.2.1:=fun x hx=>by
  obtain⟨t,u,h1,h2,h3⟩:=hx.w;rw[hL,I4]at h3;unfold CI at h3;simp only[List.cons_append,List.cons.injEq]at h3;obtain⟨e0,e1,e2,e3,e4,e5,e6,_⟩:=h3;exact⟨e0,e1,e2,e3▸h1,e4▸h2,e5,e6⟩
 have hkl:=fun(id p:Int) (g:Bool)=>Wi (l:=w0::w1::w2::w3::w4::w5::w6::R) (w0:=w0) (K:=K) (id:=id) (p:=p) (g:=g) rfl hK hKw 19 1 0 (by omega) (by omega) (by omega)
 have hK0:(if 1≤K then(K:Int)else 0)=(K:Int):=by
  by_cases h:1≤K
  ·rw[if_pos h]
  ·rw[if_neg h];omega
 rw[show((1:Nat):Int)=(1:Int)from rfl,hK0]at hkl
 obtain⟨d,e,hcv⟩:∃d e,C2 w3=some (d,e):=by
  rcases LU w3 with⟨d,_,h⟩|⟨_,e,_,h⟩
  ·exact⟨_,_,h⟩
  ·exact⟨_,_,h⟩
 obtain⟨to,ok,hen⟩:∃to ok,Ef w4=some (to,ok):=by
  rcases PU w4 with⟨to,_,h⟩|⟨_,v,h⟩
  ·exact⟨_,_,h⟩
  ·exact⟨_,_,h⟩
 obtain⟨num,is,hsg⟩:∃num is,DG w6=some (num,is):=by
  rcases S4 (w:=w6) (by omega)with⟨n,_,_,h⟩|⟨_,v,h⟩
  ·exact⟨_,_,h⟩
  ·exact⟨_,_,h⟩
 have hev:E6 s ()=if(!((true&&Bu w1 4294967295)&&Bu w2 4294967295)||((K:Int)==0)||(e !=0)|| !ok|| !is)=true then some ((FZ,3),())else
   (AR (u32.wrap (EJ w1),u32.wrap (EJ w2),(K:Int),d,to,(if w5= [45]then []else w5),num,R.headD [])).bind fun c=>if(c !=0)=true then some ((FZ,c),())else some (((u32.wrap (EJ w1),u32.wrap (EJ w2),(K:Int),d,to,(if w5= [45]then []else w5),num,R.headD []),0),()):=by
  unfold E6;dsimp only;try simp only[gPi,gSS,gPb,gPm,gPs,gM,gM2,Ay,gOr,Az,A3,gAA,gAO,gOA,gOO,Av,Ax,A0,A2,Aw,A1,gId]
  try simp only[A5,A6,A7,A8,A9,AA,AB,AD,gId,AG,gMb,gMm,gBm,gBb,bs,ms]
  rw[hsp,bs,Ak (show ¬(((w0::w1::w2::w3::w4::w5::w6::R).length:Int)<7) by simp;omega),if_neg (by decide),hcon,bs,if_neg (by decide)];rw[show lAt (w0::w1::w2::w3::w4::w5::w6::R) 1=some w1 from Bn (i:=1) rfl,bs,Rm (by omega),bs,show lAt (w0::w1::w2::w3::w4::w5::w6::R) 2=some w2 from Bn (i:=2) rfl,bs,Rm (by omega),bs,hkl,bs];dsimp only;rw[show lAt (w0::w1::w2::w3::w4::w5::w6::R) 3=some w3 from Bn (i:=3) rfl,bs,hcv,bs,show lAt (w0::w1::w2::w3::w4::w5::w6::R) 4=some w4 from Bn (i:=4) rfl,bs,hen,bs,show lAt (w0::w1::w2::w3::w4::w5::w6::R) 6=some w6 from Bn (i:=6) rfl,bs,hsg,bs];dsimp only;generalize ((true&&Bu w1 4294967295)&&Bu w2 4294967295)=g;generalize ((K:Int)==0)=kz;generalize (e !=0)=ez;cases g
  ·rfl
  cases kz
  case true=>rfl
  cases ez
  case true=>rfl
  cases ok
  ·rfl
  cases is
  ·rfl
  simp only[Bool.not_true,Bool.not_false,Ag,if_false,bs,Bool.or_self];rw[show lAt (w0::w1::w2::w3::w4::w5::w6::R) 5=some w5 from Bn (i:=5) rfl];simp only[bs];have h7:∀r,R= [r]→lAt (w0::w1::w2::w3::w4::w5::w6::R) 7=some r:=fun r hr=>Bn (i:=7) (by rw[hr];rfl)
  match R,hR,h7 with
  | [],_,_=>
   by_cases h5:w5= [45]
   ·subst h5;rfl
   ·have d5:(!(w5== [45]))=true:=by simpa using h5
    rw[d5,if_neg h5];rfl
  | [r],_,h7=>
   have h7:=h7 r rfl;by_cases h5:w5= [45]
   ·subst h5;rw[if_neg (by decide),bs];dsimp only;rw[if_pos (by rfl),h7,bs,bs];rfl
   ·have d5:(!(w5== [45]))=true:=by simpa using h5
    rw[d5,if_pos rfl,bs,if_neg h5];dsimp only;rw[if_pos (by rfl),h7,bs,bs];rfl
 have hP:Dg s=(E6 s ()).map fun p=>p.1:=rfl;rw[hev]at hP
 have bad:(!((true&&Bu w1 4294967295)&&Bu w2 4294967295)||((K:Int)==0)||(e !=0)|| !ok|| !is)=true→Dg s=some (FZ,3):=fun h=>by
  rw[hP,if_pos h];rfl
 cases t1:Bu w1 4294967295 with
 |false=>
  refine .inr ⟨fun x hx=> ?_,bad (by rw[t1];rfl)⟩;obtain⟨_,e1,_⟩:=words x hx;have:=(Jr hx.id).1;rw[←e1,t1]at this;cases this
 |true=>
 cases t2:Bu w2 4294967295 with
 |false=>
  refine .inr ⟨fun x hx=> ?_,bad (by rw[t1,t2];rfl)⟩;obtain⟨_,_,e2,_⟩:=words x hx;have:=(Jr hx.p).1;rw[←e2,t2]at this;cases this
 |true=>
 by_cases hz:K=0
 ·refine .inr ⟨fun x hx=> ?_,bad (by rw[t1,t2,hz];rfl)⟩;obtain⟨e0,_⟩:=words x hx;have hk:=hx.k;obtain⟨k,hk'⟩:=Int.eq_ofNat_of_zero_le (show 0≤x.2.2.1 by omega);have:=(hKw k (by omega) (by omega)).1 (by rw[e0,←hk']);omega
 have dz:((K:Int)==0)=false:=by rw[beq_eq_false_iff_ne];omega
 rcases LU w3 with⟨d',hd,hp⟩|⟨hn,e',he,hp⟩
 case inr=>
  rw[hp]at hcv;cases hcv;have:(e !=0)=true:=by rw[bne_iff_ne];exact he
  refine .inr ⟨fun x hx=> ?_,bad (by rw[t1,t2,dz,this];rfl)⟩;obtain⟨_,_,_,e3,_⟩:=words x hx;exact hn _ e3
 rw[hp]at hcv;cases hcv;rcases PU w4 with⟨to',hu,hq⟩|⟨hn,v,hq⟩
 case inr=>
  rw[hq]at hen;cases hen;refine .inr ⟨fun x hx=> ?_,bad (by rw[t1,t2,dz];rfl)⟩;obtain⟨_,_,_,_,e4,_⟩:=words x hx;exact hn _ e4
 rw[hq]at hen;cases hen;rcases S4 (w:=w6) (by omega)with⟨n,hnr,hn6,hs6⟩|⟨hn,v,hs6⟩
 case inr=>
  rw[hs6]at hsg;cases hsg;refine .inr ⟨fun x hx=> ?_,bad (by rw[t1,t2,dz];rfl)⟩;obtain⟨_,_,_,_,_,_,e6⟩:=words x hx;exact hn _ hx.nm e6
 rw[hs6]at hsg;cases hsg;rw[t1,t2,dz,if_neg (show ¬((!(true&&true&&true)||false||((0:Int) !=0)|| !true|| !true)=true) by decide),Rn t1,Rn t2]at hP;obtain⟨n1,b1⟩:=Ks t1;obtain⟨n2,b2⟩:=Ks t2;left;refine⟨((Ar 0 w1:Int),(Ar 0 w2:Int),(K:Int),d,to,(if w5= [45]then []else w5),num,R.headD []),⟨⟨show 1≤(K:Int) by omega,show(K:Int)≤18 by omega⟩,⟨show 0≤(Ar 0 w1:Int) by omega,b1⟩,⟨show 0≤(Ar 0 w2:Int) by omega,b2⟩,hnr, ?_,w3,w4,hd,hu, ?_⟩, ?_⟩
 ·show(if w5= [45]then []else w5)≠ [45];split
  ·simp
  ·assumption
 ·rw[hL,I4];unfold CI;have k0:Cp (K:Int)=w0:=(hKw K (by omega) hK).2 rfl
  have k5:C3 (if w5= [45]then []else w5)=w5:=by
   unfold C3;by_cases h5:w5= [45]
   ·rw[if_pos h5,if_pos rfl,h5]
   ·rw[if_neg h5,if_neg (hne w5 (by simp))]
  have kR:R=(if R.headD []= []then []else [R.headD []]):=by
   match R,hR,hne with
   | [],_,_=>rfl
   | [r],_,hne=>
    exact(if_neg (show ¬([r].headD []= [])from hne r (by simp))).symm
  simp only[List.cons_append,List.nil_append];rw[k0,←n1,←n2,k5,←hn6,←kR]
 ·have hl5:(if w5= [45]then([]:List UInt8)else w5).length≤4900:=by
   split
   ·simp
   ·exact hw w5 (by simp)
  have hlR:(R.headD []).length≤4900:=by
   match R,hR,hw with
   | [],_,_=>simp
   | [r],_,hw=>exact hw r (by simp)
  rw[hP,Pq _ hl5 hlR,bs];unfold If;by_cases hc:AT ((Ar 0 w1:Int),(Ar 0 w2:Int),(K:Int),d,to,(if w5= [45]then []else w5),num,R.headD [])=0
  ·rw[if_pos hc,hc];rfl
  ·have hc':(AT ((Ar 0 w1:Int),(Ar 0 w2:Int),(K:Int),d,to,(if w5= [45]then []else w5),num,R.headD []) !=0)=true:=by rw[bne_iff_ne];exact hc
   rw[if_neg hc,if_pos hc'];rfl
theorem OI{s:List UInt8}(hs:s.length≤4900):(∃x,Do (AW 32 7 [] s) x∧Dg s=some (If x))∨((∀x,¬Do (AW 32 7 [] s) x)∧Dg s=some (FZ,3)):=by
 have hsp:Fr (s,[32],8)=some (AW 32 7 [] s):=Jy (s:=s) (c:=32) (k:=7) (by omega) (by decide);have hle:=XP 32 s [] 7;by_cases h7:(AW 32 7 [] s).length<7
 ·refine .inr ⟨fun x hx=> ?_, ?_⟩
  ·obtain⟨t,u,_,_,e⟩:=hx.w;rw[e,I4]at h7;simp only[List.length_append,CI,List.length_cons,List.length_nil]at h7;omega
  ·refine(congrArg (Option.map _) (?_:E6 s ()=some ((FZ,3),()))).trans rfl;unfold E6;dsimp only;try simp only[gPi,gSS,gPb,gPm,gPs,gM,gM2,Ay,gOr,Az,A3,gAA,gAO,gOA,gOO,Av,Ax,A0,A2,Aw,A1,gId]
   try simp only[A5,A6,A7,A8,A9,AA,AB,AD,gId,AG,gMb,gMm,gBm,gBb,bs,ms]
   rw[hsp,bs,Al (show((AW 32 7 [] s).length:Int)<7 by omega),if_pos rfl,bs,if_pos rfl];rfl
 by_cases hne:∀w∈AW 32 7 [] s,w≠ []
 ·match hL:AW 32 7 [] s,h7,hle with
  |w0::w1::w2::w3::w4::w5::w6::R,_,hle=>
   rw[←hL];exact Xh hs hL (by simp only[List.length_cons]at hle;omega) hne
  | [],h7,_| [_],h7,_| [_,_],h7,_| [_,_,_],h7,_| [_,_,_,_],h7,_| [_,_,_,_,_],h7,_| [_,_,_,_,_,_],h7,_=>exact absurd (by simp) h7
 ·refine .inr ⟨fun x hx=>hne hx.ne, ?_⟩;refine(congrArg (Option.map _) (?_:E6 s ()=some ((FZ,3),()))).trans rfl
  have hcon:Fq (AW 32 7 [] s,[])=some true:=by
   rw[LB (by omega)]
   congr 1
   rw[List.any_eq_true];obtain⟨w,hw⟩:=Classical.not_forall.1 hne;obtain⟨h1,h2⟩:=Classical.not_imp.1 hw;exact⟨w,h1,by rw[Classical.not_not.1 h2];rfl⟩
  unfold E6;dsimp only;try simp only[gPi,gSS,gPb,gPm,gPs,gM,gM2,Ay,gOr,Az,A3,gAA,gAO,gOA,gOO,Av,Ax,A0,A2,Aw,A1,gId]
  try simp only[A5,A6,A7,A8,A9,AA,AB,AD,gId,AG,gMb,gMm,gBm,gBb,bs,ms]
  rw[hsp,bs,Ak (show ¬(((AW 32 7 [] s).length:Int)<7) by omega),if_neg (by decide),hcon,bs,if_pos rfl];rfl
end WB
