/-
  FACTS: what is wrong with a fact: the code says what the document says (printed by wip/fact/factgen.py).
-/
import Derived.Test.YtbajcpobojindaaGreatDoorK12
import Derived.Test.YtbajcpobojindaaGreatDoorK11
set_option linter.unusedVariables false
set_option linter.unusedSimpArgs false
open Go.IntKind (i64 u64 u8 u32)
namespace WB
open Go Go.RowKit
set_option linter.unusedSimpArgs false
set_option linter.unusedVariables false
set_option maxHeartbeats 1000000
def Wv(k:Int):Bool:=k==14||k==15||k==16||k==18
def Qq(k:Int):Bool:=decide (1≤k)&&decide (k≤15)&&(k !=6)&&(k !=8)
def PZ(k:Int)(s:List UInt8):Bool:=
 if k=6 then s== []||EQ s else if k=7 then Mw s
 else if k=8∨k=9∨k=10∨k=12∨k=14∨k=15 then EQ s else s== []
def RB(k:Int):Int:=if k=8∨k=14 then-1125899906842624 else if k=18 then 1 else 0
def Rn(k:Int):Int:=
 if k=1 then 1 else if k=3∨k=7 then 1000000 else if k=6 then 1440 else if k=17 then 100000 else if k=18 then 4096
 else if k=4∨k=5∨k=13∨k=15∨k=16 then 0 else 1125899906842624
noncomputable def Jd(s:List UInt8):Bool:=(Gw s).getD false
noncomputable def TF(k num:Int)(s:List UInt8):Bool:=if k=4 then Ek s else if k=5 then Mt s else if k=6 then s== []||Dk s (u64.wrap (max num 0))else if k=11∨k=13 then EQ s else if k=12 then Jd s else if k=14 then GH s else if k=15 then !(s== [])&&GH s else s== []
def Hk(k:Int)(dy:Bool)(fr to:Int):Int:=
 if((k==18&&fr !=0)||decide (fr< -25567)||decide (fr>84005))=true then 15
 else if((to !=0)&&(!dy||decide (to≤fr)))=true then 24 else if decide (to>84006)=true then 15 else 0
def Im(fm cb tb:Bool)(p D num lo hi len:Int):Int:=
 if(!(fm==(p==0)))=true then 2 else if(D !=0)=true then D else if(!cb)=true then 12
 else if(decide (num<lo)||decide (num>hi))=true then 2 else if decide (len>4096)=true then 4 else if(!tb)=true then 3 else 0
noncomputable def BM(x:Int×Int×Int×Int×Int×List UInt8×Int×List UInt8):Int:=if 1≤x.2.2.1∧x.2.2.1≤18 then Im (Wv x.2.2.1) (PZ x.2.2.1 x.2.2.2.2.2.1) (TF x.2.2.1 x.2.2.2.2.2.2.1 x.2.2.2.2.2.2.2) x.2.1 (Hk x.2.2.1 (Qq x.2.2.1) x.2.2.2.1 x.2.2.2.2.1) x.2.2.2.2.2.2.1 (RB x.2.2.1) (Rn x.2.2.1) (x.2.2.2.2.2.2.2.length:Int)else 11
theorem Xi{k:Int}(h:1≤k∧k≤18):k=1∨k=2∨k=3∨k=4∨k=5∨k=6∨k=7∨k=8∨k=9∨k=10∨k=11∨k=12∨k=13∨k=14∨k=15∨k=16∨k=17∨k=18:=by omega
theorem CD(a p k fr to:Int)(cd:List UInt8)(n:Int)(tx nm:List UInt8)(fm dy:Bool)(cf:Unit⊕(Unit⊕(Unit⊕(Unit⊕Unit))))(lo hi:Int)(tf):
  Ku ((a,p,k,fr,to,cd,n,tx),(nm,fm,dy,cf,lo,hi,tf))=some (Hk k dy fr to):=by
 unfold Ku;dsimp only;simp only[gPi,gSS,gPb,gPm,gPs,gM,gM2,A9,gOr,AA,AG,gAA,gAO,gOA,gOO,A6,A8,AB,AE,A7,AD,gId];simp only[AL,AM,AN,AO,AP,AQ,AR,AS,gId,AV,gMb,gMm,gBm,gBb,bs,ms];unfold Hk;obtain⟨q1,h1⟩:∃q,(k==18)=q:=⟨_,rfl⟩;obtain⟨q2,h2⟩:∃q,(fr !=0)=q:=⟨_,rfl⟩;obtain⟨q3,h3⟩:∃q,decide (fr< -25567)=q:=⟨_,rfl⟩;obtain⟨q4,h4⟩:∃q,decide (fr>84005)=q:=⟨_,rfl⟩;obtain⟨q5,h5⟩:∃q,(to !=0)=q:=⟨_,rfl⟩;obtain⟨q6,h6⟩:∃q,decide (to≤fr)=q:=⟨_,rfl⟩;obtain⟨q7,h7⟩:∃q,decide (to>84006)=q:=⟨_,rfl⟩;simp only[h1,h2,h3,h4];cases q1<;>cases q2<;>cases q3<;>cases q4<;>(simp only[Ag,if_false,if_true,bs,h5,h6,h7];cases q5<;>cases q6<;>cases q7<;>cases dy<;>rfl)
theorem CF(fm cb tb:Bool)(p D num lo hi len:Int):
  (if(!(fm==(p==(0:Int))))=true then some (2:Int)else(some D).bind fun x21=>if(x21 !=0)=true then some x21 else((some cb).map fun v=>v).bind fun x30=>if(!x30)=true then some 12 else
   (if decide (num<lo)=true then some true else some (decide (num>hi))).bind fun x44=>if x44=true then some 2 else if decide (len>4096)=true then some 4 else
   ((some tb).map fun v=>v).bind fun x54=>if(!x54)=true then some 3 else some 0)=some (Im fm cb tb p D num lo hi len):=by
 unfold Im;obtain⟨q1,h1⟩:∃q,(p==0)=q:=⟨_,rfl⟩;obtain⟨q2,h2⟩:∃q,(D !=0)=q:=⟨_,rfl⟩;obtain⟨q3,h3⟩:∃q,decide (num<lo)=q:=⟨_,rfl⟩;obtain⟨q4,h4⟩:∃q,decide (num>hi)=q:=⟨_,rfl⟩;obtain⟨q5,h5⟩:∃q,decide (len>4096)=q:=⟨_,rfl⟩;simp only[h1,h2,h3,h4,h5,bs];cases fm<;>cases q1<;>cases q2<;>cases q3<;>cases q4<;>cases q5<;>cases cb<;>cases tb<;>rfl
theorem XZ{s:List UInt8}(h:s.length≤4900):Gw s=some (Jd s)∧Oq s=some (Jd s):=by
 obtain⟨b,h1,h2⟩:=XY h;unfold Jd;rw[h1];exact⟨rfl,h2⟩
theorem Aap{x:Int×Int×Int×Int×Int×List UInt8×Int×List UInt8}(h:x.2.2.2.2.2.2.2.length≤4900):KD x=some (Ek x.2.2.2.2.2.2.2):=by
 obtain⟨v,e,h1,h2⟩:=Aao (s:=x.2.2.2.2.2.2.2) (by omega);unfold KD;dsimp only;rw[h1,bs,←h2]
theorem ZI(n:Int):0≤u64.wrap n∧u64.wrap n≤18446744073709551615:=by rw[IntKind.wrap_u64];omega
theorem XI{x:Int×Int×Int×Int×Int×List UInt8×Int×List UInt8}(h:x.2.2.2.2.2.2.2.length≤4900):Kw x=some (x.2.2.2.2.2.2.2== []||Dk x.2.2.2.2.2.2.2 (u64.wrap (max x.2.2.2.2.2.2.1 0))):=by
 unfold Kw;dsimp only;rw[Nk (by omega) (ZI _).2,bs];dsimp only;cases x.2.2.2.2.2.2.2== []<;>rfl
theorem ZB{s:List UInt8}(h:s.length≤4900):(if(!(s== []))=true then Gx s else some false)=some (!(s== [])&&GH s):=by
 rw[Sx (by omega)];cases s== []<;>rfl
theorem Wa{s:List UInt8}(h:s.length≤4900):Ky s=some (s== []||EQ s):=by
 unfold Ky;dsimp only;simp only[gPi,gSS,gPb,gPm,gPs,gM,gM2,A9,gOr,AA,AG,gAA,gAO,gOA,gOO,A6,A8,AB,AE,A7,AD,gId];simp only[AL,AM,AN,AO,AP,AQ,AR,AS,gId,AV,gMb,gMm,gBm,gBb,bs,ms];rw[EL (by omega)];cases s== []<;>rfl
theorem UV(a p fr to n:Int)(cd tx:List UInt8)(hc:cd.length≤4900)(ht:tx.length≤4900):Bb (a,p,1,fr,to,cd,n,tx)=some (BM (a,p,1,fr,to,cd,n,tx)):=by
 have e1:=show Ea cd=some (cd== [])from rfl;have e2:=show Eb (a,p,1,fr,to,cd,n,tx)=some (tx== [])from rfl;unfold Bb;dsimp only;rw[show Cr 1=some true from rfl,bs];rw[show C1 ()=some _ from rfl];simp only[gPi,gSS,gPb,gPm,gPs,gM,gM2,A9,gOr,AA,AG,gAA,gAO,gOA,gOO,A6,A8,AB,AE,A7,AD,gId];simp only[AL,AM,AN,AO,AP,AQ,AR,AS,gId,AV,gMb,gMm,gBm,gBb,bs,ms];rw[if_neg (by decide)];rw[show lAt _ (1:Int)=some _ from Bd (i:=1) rfl,bs];dsimp only;rw[CD,e1];try rw[e2]
 exact CF _ _ _ _ _ _ _ _ _
theorem Vf(a p fr to n:Int)(cd tx:List UInt8)(hc:cd.length≤4900)(ht:tx.length≤4900):Bb (a,p,2,fr,to,cd,n,tx)=some (BM (a,p,2,fr,to,cd,n,tx)):=by
 have e1:=show Ea cd=some (cd== [])from rfl;have e2:=show Eb (a,p,2,fr,to,cd,n,tx)=some (tx== [])from rfl;unfold Bb;dsimp only;rw[show Cr 2=some true from rfl,bs];rw[show C1 ()=some _ from rfl];simp only[gPi,gSS,gPb,gPm,gPs,gM,gM2,A9,gOr,AA,AG,gAA,gAO,gOA,gOO,A6,A8,AB,AE,A7,AD,gId];simp only[AL,AM,AN,AO,AP,AQ,AR,AS,gId,AV,gMb,gMm,gBm,gBb,bs,ms];rw[if_neg (by decide)];rw[show lAt _ (2:Int)=some _ from Bd (i:=2) rfl,bs];dsimp only;rw[CD,e1];try rw[e2]
 exact CF _ _ _ _ _ _ _ _ _
theorem Vg(a p fr to n:Int)(cd tx:List UInt8)(hc:cd.length≤4900)(ht:tx.length≤4900):Bb (a,p,3,fr,to,cd,n,tx)=some (BM (a,p,3,fr,to,cd,n,tx)):=by
 have e1:=show Ea cd=some (cd== [])from rfl;have e2:=show Eb (a,p,3,fr,to,cd,n,tx)=some (tx== [])from rfl;unfold Bb;dsimp only;rw[show Cr 3=some true from rfl,bs];rw[show C1 ()=some _ from rfl];simp only[gPi,gSS,gPb,gPm,gPs,gM,gM2,A9,gOr,AA,AG,gAA,gAO,gOA,gOO,A6,A8,AB,AE,A7,AD,gId];simp only[AL,AM,AN,AO,AP,AQ,AR,AS,gId,AV,gMb,gMm,gBm,gBb,bs,ms];rw[if_neg (by decide)];rw[show lAt _ (3:Int)=some _ from Bd (i:=3) rfl,bs];dsimp only;rw[CD,e1];try rw[e2]
 exact CF _ _ _ _ _ _ _ _ _
theorem Vh(a p fr to n:Int)(cd tx:List UInt8)(hc:cd.length≤4900)(ht:tx.length≤4900):Bb (a,p,4,fr,to,cd,n,tx)=some (BM (a,p,4,fr,to,cd,n,tx)):=by
 have e1:=show Ea cd=some (cd== [])from rfl;have e2:=Aap (x:=(a,p,4,fr,to,cd,n,tx)) ht;unfold Bb;dsimp only;rw[show Cr 4=some true from rfl,bs];rw[show C1 ()=some _ from rfl];simp only[gPi,gSS,gPb,gPm,gPs,gM,gM2,A9,gOr,AA,AG,gAA,gAO,gOA,gOO,A6,A8,AB,AE,A7,AD,gId];simp only[AL,AM,AN,AO,AP,AQ,AR,AS,gId,AV,gMb,gMm,gBm,gBb,bs,ms];rw[if_neg (by decide)];rw[show lAt _ (4:Int)=some _ from Bd (i:=4) rfl,bs];dsimp only;rw[CD,e1];try rw[e2]
 exact CF _ _ _ _ _ _ _ _ _
theorem Vi(a p fr to n:Int)(cd tx:List UInt8)(hc:cd.length≤4900)(ht:tx.length≤4900):Bb (a,p,5,fr,to,cd,n,tx)=some (BM (a,p,5,fr,to,cd,n,tx)):=by
 have e1:=show Ea cd=some (cd== [])from rfl;have e2:=show KA (a,p,5,fr,to,cd,n,tx)=some (Mt tx)from(show KA (a,p,5,fr,to,cd,n,tx)=(I5 tx).bind fun x=>some x from rfl).trans (by rw[Aaq (by omega)];rfl);unfold Bb;dsimp only;rw[show Cr 5=some true from rfl,bs];rw[show C1 ()=some _ from rfl];simp only[gPi,gSS,gPb,gPm,gPs,gM,gM2,A9,gOr,AA,AG,gAA,gAO,gOA,gOO,A6,A8,AB,AE,A7,AD,gId];simp only[AL,AM,AN,AO,AP,AQ,AR,AS,gId,AV,gMb,gMm,gBm,gBb,bs,ms];rw[if_neg (by decide)];rw[show lAt _ (5:Int)=some _ from Bd (i:=5) rfl,bs];dsimp only;rw[CD,e1];try rw[e2]
 exact CF _ _ _ _ _ _ _ _ _
theorem Vj(a p fr to n:Int)(cd tx:List UInt8)(hc:cd.length≤4900)(ht:tx.length≤4900):Bb (a,p,6,fr,to,cd,n,tx)=some (BM (a,p,6,fr,to,cd,n,tx)):=by
 have e1:=Wa hc;have e2:=XI (x:=(a,p,6,fr,to,cd,n,tx)) ht;unfold Bb;dsimp only;rw[show Cr 6=some true from rfl,bs];rw[show C1 ()=some _ from rfl];simp only[gPi,gSS,gPb,gPm,gPs,gM,gM2,A9,gOr,AA,AG,gAA,gAO,gOA,gOO,A6,A8,AB,AE,A7,AD,gId];simp only[AL,AM,AN,AO,AP,AQ,AR,AS,gId,AV,gMb,gMm,gBm,gBb,bs,ms];rw[if_neg (by decide)];rw[show lAt _ (6:Int)=some _ from Bd (i:=6) rfl,bs];dsimp only;rw[CD,e1];try rw[e2]
 exact CF _ _ _ _ _ _ _ _ _
theorem Vk(a p fr to n:Int)(cd tx:List UInt8)(hc:cd.length≤4900)(ht:tx.length≤4900):Bb (a,p,7,fr,to,cd,n,tx)=some (BM (a,p,7,fr,to,cd,n,tx)):=by
 have e1:=Ut cd;have e2:=show Eb (a,p,7,fr,to,cd,n,tx)=some (tx== [])from rfl;unfold Bb;dsimp only;rw[show Cr 7=some true from rfl,bs];rw[show C1 ()=some _ from rfl];simp only[gPi,gSS,gPb,gPm,gPs,gM,gM2,A9,gOr,AA,AG,gAA,gAO,gOA,gOO,A6,A8,AB,AE,A7,AD,gId];simp only[AL,AM,AN,AO,AP,AQ,AR,AS,gId,AV,gMb,gMm,gBm,gBb,bs,ms];rw[if_neg (by decide)];rw[show lAt _ (7:Int)=some _ from Bd (i:=7) rfl,bs];dsimp only;rw[CD,e1];try rw[e2]
 exact CF _ _ _ _ _ _ _ _ _
theorem Vl(a p fr to n:Int)(cd tx:List UInt8)(hc:cd.length≤4900)(ht:tx.length≤4900):Bb (a,p,8,fr,to,cd,n,tx)=some (BM (a,p,8,fr,to,cd,n,tx)):=by
 have e1:=EL (s:=cd) (by omega);have e2:=show Eb (a,p,8,fr,to,cd,n,tx)=some (tx== [])from rfl;unfold Bb;dsimp only;rw[show Cr 8=some true from rfl,bs];rw[show C1 ()=some _ from rfl];simp only[gPi,gSS,gPb,gPm,gPs,gM,gM2,A9,gOr,AA,AG,gAA,gAO,gOA,gOO,A6,A8,AB,AE,A7,AD,gId];simp only[AL,AM,AN,AO,AP,AQ,AR,AS,gId,AV,gMb,gMm,gBm,gBb,bs,ms];rw[if_neg (by decide)];rw[show lAt _ (8:Int)=some _ from Bd (i:=8) rfl,bs];dsimp only;rw[CD,e1];try rw[e2]
 exact CF _ _ _ _ _ _ _ _ _
theorem Vm(a p fr to n:Int)(cd tx:List UInt8)(hc:cd.length≤4900)(ht:tx.length≤4900):Bb (a,p,9,fr,to,cd,n,tx)=some (BM (a,p,9,fr,to,cd,n,tx)):=by
 have e1:=EL (s:=cd) (by omega);have e2:=show Eb (a,p,9,fr,to,cd,n,tx)=some (tx== [])from rfl;unfold Bb;dsimp only;rw[show Cr 9=some true from rfl,bs];rw[show C1 ()=some _ from rfl];simp only[gPi,gSS,gPb,gPm,gPs,gM,gM2,A9,gOr,AA,AG,gAA,gAO,gOA,gOO,A6,A8,AB,AE,A7,AD,gId];simp only[AL,AM,AN,AO,AP,AQ,AR,AS,gId,AV,gMb,gMm,gBm,gBb,bs,ms];rw[if_neg (by decide)];rw[show lAt _ (9:Int)=some _ from Bd (i:=9) rfl,bs];dsimp only;rw[CD,e1];try rw[e2]
 exact CF _ _ _ _ _ _ _ _ _
theorem UW(a p fr to n:Int)(cd tx:List UInt8)(hc:cd.length≤4900)(ht:tx.length≤4900):Bb (a,p,10,fr,to,cd,n,tx)=some (BM (a,p,10,fr,to,cd,n,tx)):=by
 have e1:=EL (s:=cd) (by omega);have e2:=show Eb (a,p,10,fr,to,cd,n,tx)=some (tx== [])from rfl;unfold Bb;dsimp only;rw[show Cr 10=some true from rfl,bs];rw[show C1 ()=some _ from rfl];simp only[gPi,gSS,gPb,gPm,gPs,gM,gM2,A9,gOr,AA,AG,gAA,gAO,gOA,gOO,A6,A8,AB,AE,A7,AD,gId];simp only[AL,AM,AN,AO,AP,AQ,AR,AS,gId,AV,gMb,gMm,gBm,gBb,bs,ms];rw[if_neg (by decide)];rw[show lAt _ (10:Int)=some _ from Bd (i:=10) rfl,bs];dsimp only;rw[CD,e1];try rw[e2]
 exact CF _ _ _ _ _ _ _ _ _
theorem UX(a p fr to n:Int)(cd tx:List UInt8)(hc:cd.length≤4900)(ht:tx.length≤4900):Bb (a,p,11,fr,to,cd,n,tx)=some (BM (a,p,11,fr,to,cd,n,tx)):=by
 have e1:=show Ea cd=some (cd== [])from rfl;have e2:=show Hr (a,p,11,fr,to,cd,n,tx)=some (EQ tx)from(show Hr (a,p,11,fr,to,cd,n,tx)=(Fe tx).bind fun x=>some x from rfl).trans (by rw[EL (by omega)];rfl);unfold Bb;dsimp only;rw[show Cr 11=some true from rfl,bs];rw[show C1 ()=some _ from rfl];simp only[gPi,gSS,gPb,gPm,gPs,gM,gM2,A9,gOr,AA,AG,gAA,gAO,gOA,gOO,A6,A8,AB,AE,A7,AD,gId];simp only[AL,AM,AN,AO,AP,AQ,AR,AS,gId,AV,gMb,gMm,gBm,gBb,bs,ms];rw[if_neg (by decide)];rw[show lAt _ (11:Int)=some _ from Bd (i:=11) rfl,bs];dsimp only;rw[CD,e1];try rw[e2]
 exact CF _ _ _ _ _ _ _ _ _
theorem UY(a p fr to n:Int)(cd tx:List UInt8)(hc:cd.length≤4900)(ht:tx.length≤4900):Bb (a,p,12,fr,to,cd,n,tx)=some (BM (a,p,12,fr,to,cd,n,tx)):=by
 have e1:=EL (s:=cd) (by omega);have e2:=show KB (a,p,12,fr,to,cd,n,tx)=some (Jd tx)from(show KB (a,p,12,fr,to,cd,n,tx)=(Gw tx).bind fun x=>some x from rfl).trans (by rw[(XZ ht).1];rfl);unfold Bb;dsimp only;rw[show Cr 12=some true from rfl,bs];rw[show C1 ()=some _ from rfl];simp only[gPi,gSS,gPb,gPm,gPs,gM,gM2,A9,gOr,AA,AG,gAA,gAO,gOA,gOO,A6,A8,AB,AE,A7,AD,gId];simp only[AL,AM,AN,AO,AP,AQ,AR,AS,gId,AV,gMb,gMm,gBm,gBb,bs,ms];rw[if_neg (by decide)];rw[show lAt _ (12:Int)=some _ from Bd (i:=12) rfl,bs];dsimp only;rw[CD,e1];try rw[e2]
 exact CF _ _ _ _ _ _ _ _ _
theorem UZ(a p fr to n:Int)(cd tx:List UInt8)(hc:cd.length≤4900)(ht:tx.length≤4900):Bb (a,p,13,fr,to,cd,n,tx)=some (BM (a,p,13,fr,to,cd,n,tx)):=by
 have e1:=show Ea cd=some (cd== [])from rfl;have e2:=show Hr (a,p,13,fr,to,cd,n,tx)=some (EQ tx)from(show Hr (a,p,13,fr,to,cd,n,tx)=(Fe tx).bind fun x=>some x from rfl).trans (by rw[EL (by omega)];rfl);unfold Bb;dsimp only;rw[show Cr 13=some true from rfl,bs];rw[show C1 ()=some _ from rfl];simp only[gPi,gSS,gPb,gPm,gPs,gM,gM2,A9,gOr,AA,AG,gAA,gAO,gOA,gOO,A6,A8,AB,AE,A7,AD,gId];simp only[AL,AM,AN,AO,AP,AQ,AR,AS,gId,AV,gMb,gMm,gBm,gBb,bs,ms];rw[if_neg (by decide)];rw[show lAt _ (13:Int)=some _ from Bd (i:=13) rfl,bs];dsimp only;rw[CD,e1];try rw[e2]
 exact CF _ _ _ _ _ _ _ _ _
theorem Va(a p fr to n:Int)(cd tx:List UInt8)(hc:cd.length≤4900)(ht:tx.length≤4900):Bb (a,p,14,fr,to,cd,n,tx)=some (BM (a,p,14,fr,to,cd,n,tx)):=by
 have e1:=EL (s:=cd) (by omega);have e2:=show Kz (a,p,14,fr,to,cd,n,tx)=some (GH tx)from(show Kz (a,p,14,fr,to,cd,n,tx)=(Gx tx).bind fun x=>some x from rfl).trans (by rw[Sx (by omega)];rfl);unfold Bb;dsimp only;rw[show Cr 14=some true from rfl,bs];rw[show C1 ()=some _ from rfl];simp only[gPi,gSS,gPb,gPm,gPs,gM,gM2,A9,gOr,AA,AG,gAA,gAO,gOA,gOO,A6,A8,AB,AE,A7,AD,gId];simp only[AL,AM,AN,AO,AP,AQ,AR,AS,gId,AV,gMb,gMm,gBm,gBb,bs,ms];rw[if_neg (by decide)];rw[show lAt _ (14:Int)=some _ from Bd (i:=14) rfl,bs];dsimp only;rw[CD,e1];try rw[e2]
 exact CF _ _ _ _ _ _ _ _ _
theorem Vb(a p fr to n:Int)(cd tx:List UInt8)(hc:cd.length≤4900)(ht:tx.length≤4900):Bb (a,p,15,fr,to,cd,n,tx)=some (BM (a,p,15,fr,to,cd,n,tx)):=by
 have e1:=EL (s:=cd) (by omega);have e2:=show K0 (a,p,15,fr,to,cd,n,tx)=some (!(tx== [])&&GH tx)from(by unfold K0;dsimp only;simp only[gPi,gSS,gPb,gPm,gPs,gM,gM2,A9,gOr,AA,AG,gAA,gAO,gOA,gOO,A6,A8,AB,AE,A7,AD,gId];simp only[AL,AM,AN,AO,AP,AQ,AR,AS,gId,AV,gMb,gMm,gBm,gBb,bs,ms];exact ZB ht);unfold Bb;dsimp only;rw[show Cr 15=some true from rfl,bs];rw[show C1 ()=some _ from rfl];simp only[gPi,gSS,gPb,gPm,gPs,gM,gM2,A9,gOr,AA,AG,gAA,gAO,gOA,gOO,A6,A8,AB,AE,A7,AD,gId];simp only[AL,AM,AN,AO,AP,AQ,AR,AS,gId,AV,gMb,gMm,gBm,gBb,bs,ms];rw[if_neg (by decide)];rw[show lAt _ (15:Int)=some _ from Bd (i:=15) rfl,bs];dsimp only;rw[CD,e1];try rw[e2]
 exact CF _ _ _ _ _ _ _ _ _
theorem Vc(a p fr to n:Int)(cd tx:List UInt8)(hc:cd.length≤4900)(ht:tx.length≤4900):Bb (a,p,16,fr,to,cd,n,tx)=some (BM (a,p,16,fr,to,cd,n,tx)):=by
 have e1:=show Ea cd=some (cd== [])from rfl;have e2:=show Eb (a,p,16,fr,to,cd,n,tx)=some (tx== [])from rfl;unfold Bb;dsimp only;rw[show Cr 16=some true from rfl,bs];rw[show C1 ()=some _ from rfl];simp only[gPi,gSS,gPb,gPm,gPs,gM,gM2,A9,gOr,AA,AG,gAA,gAO,gOA,gOO,A6,A8,AB,AE,A7,AD,gId];simp only[AL,AM,AN,AO,AP,AQ,AR,AS,gId,AV,gMb,gMm,gBm,gBb,bs,ms];rw[if_neg (by decide)];rw[show lAt _ (16:Int)=some _ from Bd (i:=16) rfl,bs];dsimp only;rw[CD,e1];try rw[e2]
 exact CF _ _ _ _ _ _ _ _ _
theorem Vd(a p fr to n:Int)(cd tx:List UInt8)(hc:cd.length≤4900)(ht:tx.length≤4900):Bb (a,p,17,fr,to,cd,n,tx)=some (BM (a,p,17,fr,to,cd,n,tx)):=by
 have e1:=show Ea cd=some (cd== [])from rfl;have e2:=show Eb (a,p,17,fr,to,cd,n,tx)=some (tx== [])from rfl;unfold Bb;dsimp only;rw[show Cr 17=some true from rfl,bs];rw[show C1 ()=some _ from rfl];simp only[gPi,gSS,gPb,gPm,gPs,gM,gM2,A9,gOr,AA,AG,gAA,gAO,gOA,gOO,A6,A8,AB,AE,A7,AD,gId];simp only[AL,AM,AN,AO,AP,AQ,AR,AS,gId,AV,gMb,gMm,gBm,gBb,bs,ms];rw[if_neg (by decide)];rw[show lAt _ (17:Int)=some _ from Bd (i:=17) rfl,bs];dsimp only;rw[CD,e1];try rw[e2]
 exact CF _ _ _ _ _ _ _ _ _
theorem Ve(a p fr to n:Int)(cd tx:List UInt8)(hc:cd.length≤4900)(ht:tx.length≤4900):Bb (a,p,18,fr,to,cd,n,tx)=some (BM (a,p,18,fr,to,cd,n,tx)):=by
 have e1:=show Ea cd=some (cd== [])from rfl;have e2:=show Eb (a,p,18,fr,to,cd,n,tx)=some (tx== [])from rfl;unfold Bb;dsimp only;rw[show Cr 18=some true from rfl,bs];rw[show C1 ()=some _ from rfl];simp only[gPi,gSS,gPb,gPm,gPs,gM,gM2,A9,gOr,AA,AG,gAA,gAO,gOA,gOO,A6,A8,AB,AE,A7,AD,gId];simp only[AL,AM,AN,AO,AP,AQ,AR,AS,gId,AV,gMb,gMm,gBm,gBb,bs,ms];rw[if_neg (by decide)];rw[show lAt _ (18:Int)=some _ from Bd (i:=18) rfl,bs];dsimp only;rw[CD,e1];try rw[e2]
 exact CF _ _ _ _ _ _ _ _ _
theorem Vn(x:Int×Int×Int×Int×Int×List UInt8×Int×List UInt8)(hc:x.2.2.2.2.2.1.length≤4900)(ht:x.2.2.2.2.2.2.2.length≤4900):Bb x=some (BM x):=by
 obtain⟨a,p,k,fr,to,cd,n,tx⟩:=x;by_cases h:1≤k∧k≤18
 ·rcases Xi h with rfl|rfl|rfl|rfl|rfl|rfl|rfl|rfl|rfl|rfl|rfl|rfl|rfl|rfl|rfl|rfl|rfl|rfl
  ·exact UV a p fr to n cd tx hc ht
  ·exact Vf a p fr to n cd tx hc ht
  ·exact Vg a p fr to n cd tx hc ht
  ·exact Vh a p fr to n cd tx hc ht
  ·exact Vi a p fr to n cd tx hc ht
  ·exact Vj a p fr to n cd tx hc ht
  ·exact Vk a p fr to n cd tx hc ht
  ·exact Vl a p fr to n cd tx hc ht
  ·exact Vm a p fr to n cd tx hc ht
  ·exact UW a p fr to n cd tx hc ht
  ·exact UX a p fr to n cd tx hc ht
  ·exact UY a p fr to n cd tx hc ht
  ·exact UZ a p fr to n cd tx hc ht
  ·exact Va a p fr to n cd tx hc ht
  ·exact Vb a p fr to n cd tx hc ht
  ·exact Vc a p fr to n cd tx hc ht
  ·exact Vd a p fr to n cd tx hc ht
  ·exact Ve a p fr to n cd tx hc ht
 ·unfold Bb BM;dsimp only;rw[Wq,bs,Ak h,if_neg h];rfl
end WB
