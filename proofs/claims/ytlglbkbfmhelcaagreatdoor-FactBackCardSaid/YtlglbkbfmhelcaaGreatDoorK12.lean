/-
  OWN TEXTS, MERGED (wip/merge.py): Pfd, Pfe. No condition of their own.
-/
import Derived.Test.YtlglbkbfmhelcaaGreatDoorK11
import Derived.Test.YtlglbkbfmhelcaaGreatDoorK10
set_option linter.unusedVariables false
set_option linter.unusedSimpArgs false
open Go.IntKind (i64 u64 u8 u32)
namespace WB
open Go Go.RowKit
set_option linter.unusedSimpArgs false
set_option linter.unusedVariables false
set_option maxHeartbeats 1000000
def Mz(k:Int):Bool:=k==14||k==15||k==16||k==18
def Gq(k:Int):Bool:=decide (1≤k)&&decide (k≤15)&&(k !=6)&&(k !=8)
def GZ(k:Int)(s:List UInt8):Bool:=
 if k=6 then s== []||DP s else if k=7 then HV s
 else if k=8∨k=9∨k=10∨k=12∨k=14∨k=15 then DP s else s== []
def KD(k:Int):Int:=if k=8∨k=14 then-1125899906842624 else if k=18 then 1 else 0
def Kn(k:Int):Int:=
 if k=1 then 1 else if k=3∨k=7 then 1000000 else if k=6 then 1440 else if k=17 then 100000 else if k=18 then 4096
 else if k=4∨k=5∨k=13∨k=15∨k=16 then 0 else 1125899906842624
noncomputable def IW(s:List UInt8):Bool:=(Gw s).getD false
noncomputable def Yz(k num:Int)(s:List UInt8):Bool:=if k=4 then DW s else if k=5 then L9 s else if k=6 then s== []||Bu s (u64.wrap (max num 0))else if k=11∨k=13 then DP s else if k=12 then IW s else if k=14 then GB s else if k=15 then !(s== [])&&GB s else s== []
def EV(k:Int)(dy:Bool)(fr to:Int):Int:=
 if((k==18&&fr !=0)||decide (fr< -25567)||decide (fr>84005))=true then 15
 else if((to !=0)&&(!dy||decide (to≤fr)))=true then 24 else if decide (to>84006)=true then 15 else 0
def Ie(fm cb tb:Bool)(p D num lo hi len:Int):Int:=
 if(!(fm==(p==0)))=true then 2 else if(D !=0)=true then D else if(!cb)=true then 12
 else if(decide (num<lo)||decide (num>hi))=true then 2 else if decide (len>4096)=true then 4 else if(!tb)=true then 3 else 0
noncomputable def AT(x:Int×Int×Int×Int×Int×List UInt8×Int×List UInt8):Int:=if 1≤x.2.2.1∧x.2.2.1≤18 then Ie (Mz x.2.2.1) (GZ x.2.2.1 x.2.2.2.2.2.1) (Yz x.2.2.1 x.2.2.2.2.2.2.1 x.2.2.2.2.2.2.2) x.2.1 (EV x.2.2.1 (Gq x.2.2.1) x.2.2.2.1 x.2.2.2.2.1) x.2.2.2.2.2.2.1 (KD x.2.2.1) (Kn x.2.2.1) (x.2.2.2.2.2.2.2.length:Int)else 11
theorem Wo{k:Int}(h:1≤k∧k≤18):k=1∨k=2∨k=3∨k=4∨k=5∨k=6∨k=7∨k=8∨k=9∨k=10∨k=11∨k=12∨k=13∨k=14∨k=15∨k=16∨k=17∨k=18:=by omega
theorem C4(a p k fr to:Int)(cd:List UInt8)(n:Int)(tx nm:List UInt8)(fm dy:Bool)(cf:Unit⊕(Unit⊕(Unit⊕(Unit⊕Unit))))(lo hi:Int)(tf):
  JW ((a,p,k,fr,to,cd,n,tx),(nm,fm,dy,cf,lo,hi,tf))=some (EV k dy fr to):=by
 unfold JW;dsimp only;simp only[gPi,gSS,gPb,gPm,gPs,gM,gM2,Ay,gOr,Az,A3,gAA,gAO,gOA,gOO,Av,Ax,A0,A2,Aw,A1,gId];simp only[A5,A6,A7,A8,A9,AA,AB,AD,gId,AG,gMb,gMm,gBm,gBb,bs,ms];unfold EV;obtain⟨q1,h1⟩:∃q,(k==18)=q:=⟨_,rfl⟩;obtain⟨q2,h2⟩:∃q,(fr !=0)=q:=⟨_,rfl⟩;obtain⟨q3,h3⟩:∃q,decide (fr< -25567)=q:=⟨_,rfl⟩;obtain⟨q4,h4⟩:∃q,decide (fr>84005)=q:=⟨_,rfl⟩;obtain⟨q5,h5⟩:∃q,(to !=0)=q:=⟨_,rfl⟩;obtain⟨q6,h6⟩:∃q,decide (to≤fr)=q:=⟨_,rfl⟩;obtain⟨q7,h7⟩:∃q,decide (to>84006)=q:=⟨_,rfl⟩;simp only[h1,h2,h3,h4];cases q1<;>cases q2<;>cases q3<;>cases q4<;>(simp only[Ag,if_false,if_true,bs,h5,h6,h7];cases q5<;>cases q6<;>cases q7<;>cases dy<;>rfl)
theorem C5(fm cb tb:Bool)(p D num lo hi len:Int):
  (if(!(fm==(p==(0:Int))))=true then some (2:Int)else(some D).bind fun x21=>if(x21 !=0)=true then some x21 else((some cb).map fun v=>v).bind fun x30=>if(!x30)=true then some 12 else
   (if decide (num<lo)=true then some true else some (decide (num>hi))).bind fun x44=>if x44=true then some 2 else if decide (len>4096)=true then some 4 else
   ((some tb).map fun v=>v).bind fun x54=>if(!x54)=true then some 3 else some 0)=some (Ie fm cb tb p D num lo hi len):=by
 unfold Ie;obtain⟨q1,h1⟩:∃q,(p==0)=q:=⟨_,rfl⟩;obtain⟨q2,h2⟩:∃q,(D !=0)=q:=⟨_,rfl⟩;obtain⟨q3,h3⟩:∃q,decide (num<lo)=q:=⟨_,rfl⟩;obtain⟨q4,h4⟩:∃q,decide (num>hi)=q:=⟨_,rfl⟩;obtain⟨q5,h5⟩:∃q,decide (len>4096)=q:=⟨_,rfl⟩;simp only[h1,h2,h3,h4,h5,bs];cases fm<;>cases q1<;>cases q2<;>cases q3<;>cases q4<;>cases q5<;>cases cb<;>cases tb<;>rfl
theorem Xc{s:List UInt8}(h:s.length≤4900):Gw s=some (IW s)∧N1 s=some (IW s):=by
 obtain⟨b,h1,h2⟩:=Xb h;unfold IW;rw[h1];exact⟨rfl,h2⟩
theorem YW{x:Int×Int×Int×Int×Int×List UInt8×Int×List UInt8}(h:x.2.2.2.2.2.2.2.length≤4900):Kh x=some (DW x.2.2.2.2.2.2.2):=by
 obtain⟨v,e,h1,h2⟩:=YV (s:=x.2.2.2.2.2.2.2) (by omega);unfold Kh;dsimp only;rw[h1,bs,←h2]
theorem Y6(n:Int):0≤u64.wrap n∧u64.wrap n≤18446744073709551615:=by rw[IntKind.wrap_u64];omega
theorem WJ{x:Int×Int×Int×Int×Int×List UInt8×Int×List UInt8}(h:x.2.2.2.2.2.2.2.length≤4900):JZ x=some (x.2.2.2.2.2.2.2== []||Bu x.2.2.2.2.2.2.2 (u64.wrap (max x.2.2.2.2.2.2.1 0))):=by
 unfold JZ;dsimp only;rw[Gz (by omega) (Y6 _).2,bs];dsimp only;cases x.2.2.2.2.2.2.2== []<;>rfl
theorem Y2{s:List UInt8}(h:s.length≤4900):(if(!(s== []))=true then Gx s else some false)=some (!(s== [])&&GB s):=by
 rw[RA (by omega)];cases s== []<;>rfl
theorem UR{s:List UInt8}(h:s.length≤4900):Kb s=some (s== []||DP s):=by
 unfold Kb;dsimp only;simp only[gPi,gSS,gPb,gPm,gPs,gM,gM2,Ay,gOr,Az,A3,gAA,gAO,gOA,gOO,Av,Ax,A0,A2,Aw,A1,gId];simp only[A5,A6,A7,A8,A9,AA,AB,AD,gId,AG,gMb,gMm,gBm,gBb,bs,ms];rw[E8 (by omega)];cases s== []<;>rfl
theorem TJ(a p fr to n:Int)(cd tx:List UInt8)(hc:cd.length≤4900)(ht:tx.length≤4900):AR (a,p,1,fr,to,cd,n,tx)=some (AT (a,p,1,fr,to,cd,n,tx)):=by
 have e1:=show DF cd=some (cd== [])from rfl;have e2:=show DH (a,p,1,fr,to,cd,n,tx)=some (tx== [])from rfl;unfold AR;dsimp only;rw[show BV 1=some true from rfl,bs];rw[show Ce ()=some _ from rfl];simp only[gPi,gSS,gPb,gPm,gPs,gM,gM2,Ay,gOr,Az,A3,gAA,gAO,gOA,gOO,Av,Ax,A0,A2,Aw,A1,gId];simp only[A5,A6,A7,A8,A9,AA,AB,AD,gId,AG,gMb,gMm,gBm,gBb,bs,ms];rw[if_neg (by decide)];rw[show lAt _ (1:Int)=some _ from Bn (i:=1) rfl,bs];dsimp only;rw[C4,e1];try rw[e2]
 exact C5 _ _ _ _ _ _ _ _ _
theorem TX(a p fr to n:Int)(cd tx:List UInt8)(hc:cd.length≤4900)(ht:tx.length≤4900):AR (a,p,2,fr,to,cd,n,tx)=some (AT (a,p,2,fr,to,cd,n,tx)):=by
 have e1:=show DF cd=some (cd== [])from rfl;have e2:=show DH (a,p,2,fr,to,cd,n,tx)=some (tx== [])from rfl;unfold AR;dsimp only;rw[show BV 2=some true from rfl,bs];rw[show Ce ()=some _ from rfl];simp only[gPi,gSS,gPb,gPm,gPs,gM,gM2,Ay,gOr,Az,A3,gAA,gAO,gOA,gOO,Av,Ax,A0,A2,Aw,A1,gId];simp only[A5,A6,A7,A8,A9,AA,AB,AD,gId,AG,gMb,gMm,gBm,gBb,bs,ms];rw[if_neg (by decide)];rw[show lAt _ (2:Int)=some _ from Bn (i:=2) rfl,bs];dsimp only;rw[C4,e1];try rw[e2]
 exact C5 _ _ _ _ _ _ _ _ _
theorem TY(a p fr to n:Int)(cd tx:List UInt8)(hc:cd.length≤4900)(ht:tx.length≤4900):AR (a,p,3,fr,to,cd,n,tx)=some (AT (a,p,3,fr,to,cd,n,tx)):=by
 have e1:=show DF cd=some (cd== [])from rfl;have e2:=show DH (a,p,3,fr,to,cd,n,tx)=some (tx== [])from rfl;unfold AR;dsimp only;rw[show BV 3=some true from rfl,bs];rw[show Ce ()=some _ from rfl];simp only[gPi,gSS,gPb,gPm,gPs,gM,gM2,Ay,gOr,Az,A3,gAA,gAO,gOA,gOO,Av,Ax,A0,A2,Aw,A1,gId];simp only[A5,A6,A7,A8,A9,AA,AB,AD,gId,AG,gMb,gMm,gBm,gBb,bs,ms];rw[if_neg (by decide)];rw[show lAt _ (3:Int)=some _ from Bn (i:=3) rfl,bs];dsimp only;rw[C4,e1];try rw[e2]
 exact C5 _ _ _ _ _ _ _ _ _
theorem TZ(a p fr to n:Int)(cd tx:List UInt8)(hc:cd.length≤4900)(ht:tx.length≤4900):AR (a,p,4,fr,to,cd,n,tx)=some (AT (a,p,4,fr,to,cd,n,tx)):=by
 have e1:=show DF cd=some (cd== [])from rfl;have e2:=YW (x:=(a,p,4,fr,to,cd,n,tx)) ht;unfold AR;dsimp only;rw[show BV 4=some true from rfl,bs];rw[show Ce ()=some _ from rfl];simp only[gPi,gSS,gPb,gPm,gPs,gM,gM2,Ay,gOr,Az,A3,gAA,gAO,gOA,gOO,Av,Ax,A0,A2,Aw,A1,gId];simp only[A5,A6,A7,A8,A9,AA,AB,AD,gId,AG,gMb,gMm,gBm,gBb,bs,ms];rw[if_neg (by decide)];rw[show lAt _ (4:Int)=some _ from Bn (i:=4) rfl,bs];dsimp only;rw[C4,e1];try rw[e2]
 exact C5 _ _ _ _ _ _ _ _ _
theorem Ua(a p fr to n:Int)(cd tx:List UInt8)(hc:cd.length≤4900)(ht:tx.length≤4900):AR (a,p,5,fr,to,cd,n,tx)=some (AT (a,p,5,fr,to,cd,n,tx)):=by
 have e1:=show DF cd=some (cd== [])from rfl;have e2:=show Ke (a,p,5,fr,to,cd,n,tx)=some (L9 tx)from(show Ke (a,p,5,fr,to,cd,n,tx)=(I2 tx).bind fun x=>some x from rfl).trans (by rw[YX (by omega)];rfl);unfold AR;dsimp only;rw[show BV 5=some true from rfl,bs];rw[show Ce ()=some _ from rfl];simp only[gPi,gSS,gPb,gPm,gPs,gM,gM2,Ay,gOr,Az,A3,gAA,gAO,gOA,gOO,Av,Ax,A0,A2,Aw,A1,gId];simp only[A5,A6,A7,A8,A9,AA,AB,AD,gId,AG,gMb,gMm,gBm,gBb,bs,ms];rw[if_neg (by decide)];rw[show lAt _ (5:Int)=some _ from Bn (i:=5) rfl,bs];dsimp only;rw[C4,e1];try rw[e2]
 exact C5 _ _ _ _ _ _ _ _ _
theorem Ub(a p fr to n:Int)(cd tx:List UInt8)(hc:cd.length≤4900)(ht:tx.length≤4900):AR (a,p,6,fr,to,cd,n,tx)=some (AT (a,p,6,fr,to,cd,n,tx)):=by
 have e1:=UR hc;have e2:=WJ (x:=(a,p,6,fr,to,cd,n,tx)) ht;unfold AR;dsimp only;rw[show BV 6=some true from rfl,bs];rw[show Ce ()=some _ from rfl];simp only[gPi,gSS,gPb,gPm,gPs,gM,gM2,Ay,gOr,Az,A3,gAA,gAO,gOA,gOO,Av,Ax,A0,A2,Aw,A1,gId];simp only[A5,A6,A7,A8,A9,AA,AB,AD,gId,AG,gMb,gMm,gBm,gBb,bs,ms];rw[if_neg (by decide)];rw[show lAt _ (6:Int)=some _ from Bn (i:=6) rfl,bs];dsimp only;rw[C4,e1];try rw[e2]
 exact C5 _ _ _ _ _ _ _ _ _
theorem Uc(a p fr to n:Int)(cd tx:List UInt8)(hc:cd.length≤4900)(ht:tx.length≤4900):AR (a,p,7,fr,to,cd,n,tx)=some (AT (a,p,7,fr,to,cd,n,tx)):=by
 have e1:=Ts cd;have e2:=show DH (a,p,7,fr,to,cd,n,tx)=some (tx== [])from rfl;unfold AR;dsimp only;rw[show BV 7=some true from rfl,bs];rw[show Ce ()=some _ from rfl];simp only[gPi,gSS,gPb,gPm,gPs,gM,gM2,Ay,gOr,Az,A3,gAA,gAO,gOA,gOO,Av,Ax,A0,A2,Aw,A1,gId];simp only[A5,A6,A7,A8,A9,AA,AB,AD,gId,AG,gMb,gMm,gBm,gBb,bs,ms];rw[if_neg (by decide)];rw[show lAt _ (7:Int)=some _ from Bn (i:=7) rfl,bs];dsimp only;rw[C4,e1];try rw[e2]
 exact C5 _ _ _ _ _ _ _ _ _
theorem Ud(a p fr to n:Int)(cd tx:List UInt8)(hc:cd.length≤4900)(ht:tx.length≤4900):AR (a,p,8,fr,to,cd,n,tx)=some (AT (a,p,8,fr,to,cd,n,tx)):=by
 have e1:=E8 (s:=cd) (by omega);have e2:=show DH (a,p,8,fr,to,cd,n,tx)=some (tx== [])from rfl;unfold AR;dsimp only;rw[show BV 8=some true from rfl,bs];rw[show Ce ()=some _ from rfl];simp only[gPi,gSS,gPb,gPm,gPs,gM,gM2,Ay,gOr,Az,A3,gAA,gAO,gOA,gOO,Av,Ax,A0,A2,Aw,A1,gId];simp only[A5,A6,A7,A8,A9,AA,AB,AD,gId,AG,gMb,gMm,gBm,gBb,bs,ms];rw[if_neg (by decide)];rw[show lAt _ (8:Int)=some _ from Bn (i:=8) rfl,bs];dsimp only;rw[C4,e1];try rw[e2]
 exact C5 _ _ _ _ _ _ _ _ _
theorem Ue(a p fr to n:Int)(cd tx:List UInt8)(hc:cd.length≤4900)(ht:tx.length≤4900):AR (a,p,9,fr,to,cd,n,tx)=some (AT (a,p,9,fr,to,cd,n,tx)):=by
 have e1:=E8 (s:=cd) (by omega);have e2:=show DH (a,p,9,fr,to,cd,n,tx)=some (tx== [])from rfl;unfold AR;dsimp only;rw[show BV 9=some true from rfl,bs];rw[show Ce ()=some _ from rfl];simp only[gPi,gSS,gPb,gPm,gPs,gM,gM2,Ay,gOr,Az,A3,gAA,gAO,gOA,gOO,Av,Ax,A0,A2,Aw,A1,gId];simp only[A5,A6,A7,A8,A9,AA,AB,AD,gId,AG,gMb,gMm,gBm,gBb,bs,ms];rw[if_neg (by decide)];rw[show lAt _ (9:Int)=some _ from Bn (i:=9) rfl,bs];dsimp only;rw[C4,e1];try rw[e2]
 exact C5 _ _ _ _ _ _ _ _ _
theorem TK(a p fr to n:Int)(cd tx:List UInt8)(hc:cd.length≤4900)(ht:tx.length≤4900):AR (a,p,10,fr,to,cd,n,tx)=some (AT (a,p,10,fr,to,cd,n,tx)):=by
 have e1:=E8 (s:=cd) (by omega);have e2:=show DH (a,p,10,fr,to,cd,n,tx)=some (tx== [])from rfl;unfold AR;dsimp only;rw[show BV 10=some true from rfl,bs];rw[show Ce ()=some _ from rfl];simp only[gPi,gSS,gPb,gPm,gPs,gM,gM2,Ay,gOr,Az,A3,gAA,gAO,gOA,gOO,Av,Ax,A0,A2,Aw,A1,gId];simp only[A5,A6,A7,A8,A9,AA,AB,AD,gId,AG,gMb,gMm,gBm,gBb,bs,ms];rw[if_neg (by decide)];rw[show lAt _ (10:Int)=some _ from Bn (i:=10) rfl,bs];dsimp only;rw[C4,e1];try rw[e2]
 exact C5 _ _ _ _ _ _ _ _ _
theorem TL(a p fr to n:Int)(cd tx:List UInt8)(hc:cd.length≤4900)(ht:tx.length≤4900):AR (a,p,11,fr,to,cd,n,tx)=some (AT (a,p,11,fr,to,cd,n,tx)):=by
 have e1:=show DF cd=some (cd== [])from rfl;have e2:=show Hm (a,p,11,fr,to,cd,n,tx)=some (DP tx)from(show Hm (a,p,11,fr,to,cd,n,tx)=(Fb tx).bind fun x=>some x from rfl).trans (by rw[E8 (by omega)];rfl);unfold AR;dsimp only;rw[show BV 11=some true from rfl,bs];rw[show Ce ()=some _ from rfl];simp only[gPi,gSS,gPb,gPm,gPs,gM,gM2,Ay,gOr,Az,A3,gAA,gAO,gOA,gOO,Av,Ax,A0,A2,Aw,A1,gId];simp only[A5,A6,A7,A8,A9,AA,AB,AD,gId,AG,gMb,gMm,gBm,gBb,bs,ms];rw[if_neg (by decide)];rw[show lAt _ (11:Int)=some _ from Bn (i:=11) rfl,bs];dsimp only;rw[C4,e1];try rw[e2]
 exact C5 _ _ _ _ _ _ _ _ _
theorem TO(a p fr to n:Int)(cd tx:List UInt8)(hc:cd.length≤4900)(ht:tx.length≤4900):AR (a,p,12,fr,to,cd,n,tx)=some (AT (a,p,12,fr,to,cd,n,tx)):=by
 have e1:=E8 (s:=cd) (by omega);have e2:=show Kf (a,p,12,fr,to,cd,n,tx)=some (IW tx)from(show Kf (a,p,12,fr,to,cd,n,tx)=(Gw tx).bind fun x=>some x from rfl).trans (by rw[(Xc ht).1];rfl);unfold AR;dsimp only;rw[show BV 12=some true from rfl,bs];rw[show Ce ()=some _ from rfl];simp only[gPi,gSS,gPb,gPm,gPs,gM,gM2,Ay,gOr,Az,A3,gAA,gAO,gOA,gOO,Av,Ax,A0,A2,Aw,A1,gId];simp only[A5,A6,A7,A8,A9,AA,AB,AD,gId,AG,gMb,gMm,gBm,gBb,bs,ms];rw[if_neg (by decide)];rw[show lAt _ (12:Int)=some _ from Bn (i:=12) rfl,bs];dsimp only;rw[C4,e1];try rw[e2]
 exact C5 _ _ _ _ _ _ _ _ _
theorem TQ(a p fr to n:Int)(cd tx:List UInt8)(hc:cd.length≤4900)(ht:tx.length≤4900):AR (a,p,13,fr,to,cd,n,tx)=some (AT (a,p,13,fr,to,cd,n,tx)):=by
 have e1:=show DF cd=some (cd== [])from rfl;have e2:=show Hm (a,p,13,fr,to,cd,n,tx)=some (DP tx)from(show Hm (a,p,13,fr,to,cd,n,tx)=(Fb tx).bind fun x=>some x from rfl).trans (by rw[E8 (by omega)];rfl);unfold AR;dsimp only;rw[show BV 13=some true from rfl,bs];rw[show Ce ()=some _ from rfl];simp only[gPi,gSS,gPb,gPm,gPs,gM,gM2,Ay,gOr,Az,A3,gAA,gAO,gOA,gOO,Av,Ax,A0,A2,Aw,A1,gId];simp only[A5,A6,A7,A8,A9,AA,AB,AD,gId,AG,gMb,gMm,gBm,gBb,bs,ms];rw[if_neg (by decide)];rw[show lAt _ (13:Int)=some _ from Bn (i:=13) rfl,bs];dsimp only;rw[C4,e1];try rw[e2]
 exact C5 _ _ _ _ _ _ _ _ _
theorem TR(a p fr to n:Int)(cd tx:List UInt8)(hc:cd.length≤4900)(ht:tx.length≤4900):AR (a,p,14,fr,to,cd,n,tx)=some (AT (a,p,14,fr,to,cd,n,tx)):=by
 have e1:=E8 (s:=cd) (by omega);have e2:=show Kc (a,p,14,fr,to,cd,n,tx)=some (GB tx)from(show Kc (a,p,14,fr,to,cd,n,tx)=(Gx tx).bind fun x=>some x from rfl).trans (by rw[RA (by omega)];rfl);unfold AR;dsimp only;rw[show BV 14=some true from rfl,bs];rw[show Ce ()=some _ from rfl];simp only[gPi,gSS,gPb,gPm,gPs,gM,gM2,Ay,gOr,Az,A3,gAA,gAO,gOA,gOO,Av,Ax,A0,A2,Aw,A1,gId];simp only[A5,A6,A7,A8,A9,AA,AB,AD,gId,AG,gMb,gMm,gBm,gBb,bs,ms];rw[if_neg (by decide)];rw[show lAt _ (14:Int)=some _ from Bn (i:=14) rfl,bs];dsimp only;rw[C4,e1];try rw[e2]
 exact C5 _ _ _ _ _ _ _ _ _
theorem TS(a p fr to n:Int)(cd tx:List UInt8)(hc:cd.length≤4900)(ht:tx.length≤4900):AR (a,p,15,fr,to,cd,n,tx)=some (AT (a,p,15,fr,to,cd,n,tx)):=by
 have e1:=E8 (s:=cd) (by omega);have e2:=show Kd (a,p,15,fr,to,cd,n,tx)=some (!(tx== [])&&GB tx)from(by unfold Kd;dsimp only;simp only[gPi,gSS,gPb,gPm,gPs,gM,gM2,Ay,gOr,Az,A3,gAA,gAO,gOA,gOO,Av,Ax,A0,A2,Aw,A1,gId];simp only[A5,A6,A7,A8,A9,AA,AB,AD,gId,AG,gMb,gMm,gBm,gBb,bs,ms];exact Y2 ht);unfold AR;dsimp only;rw[show BV 15=some true from rfl,bs];rw[show Ce ()=some _ from rfl];simp only[gPi,gSS,gPb,gPm,gPs,gM,gM2,Ay,gOr,Az,A3,gAA,gAO,gOA,gOO,Av,Ax,A0,A2,Aw,A1,gId];simp only[A5,A6,A7,A8,A9,AA,AB,AD,gId,AG,gMb,gMm,gBm,gBb,bs,ms];rw[if_neg (by decide)];rw[show lAt _ (15:Int)=some _ from Bn (i:=15) rfl,bs];dsimp only;rw[C4,e1];try rw[e2]
 exact C5 _ _ _ _ _ _ _ _ _
theorem TU(a p fr to n:Int)(cd tx:List UInt8)(hc:cd.length≤4900)(ht:tx.length≤4900):AR (a,p,16,fr,to,cd,n,tx)=some (AT (a,p,16,fr,to,cd,n,tx)):=by
 have e1:=show DF cd=some (cd== [])from rfl;have e2:=show DH (a,p,16,fr,to,cd,n,tx)=some (tx== [])from rfl;unfold AR;dsimp only;rw[show BV 16=some true from rfl,bs];rw[show Ce ()=some _ from rfl];simp only[gPi,gSS,gPb,gPm,gPs,gM,gM2,Ay,gOr,Az,A3,gAA,gAO,gOA,gOO,Av,Ax,A0,A2,Aw,A1,gId];simp only[A5,A6,A7,A8,A9,AA,AB,AD,gId,AG,gMb,gMm,gBm,gBb,bs,ms];rw[if_neg (by decide)];rw[show lAt _ (16:Int)=some _ from Bn (i:=16) rfl,bs];dsimp only;rw[C4,e1];try rw[e2]
 exact C5 _ _ _ _ _ _ _ _ _
theorem TV(a p fr to n:Int)(cd tx:List UInt8)(hc:cd.length≤4900)(ht:tx.length≤4900):AR (a,p,17,fr,to,cd,n,tx)=some (AT (a,p,17,fr,to,cd,n,tx)):=by
 have e1:=show DF cd=some (cd== [])from rfl;have e2:=show DH (a,p,17,fr,to,cd,n,tx)=some (tx== [])from rfl;unfold AR;dsimp only;rw[show BV 17=some true from rfl,bs];rw[show Ce ()=some _ from rfl];simp only[gPi,gSS,gPb,gPm,gPs,gM,gM2,Ay,gOr,Az,A3,gAA,gAO,gOA,gOO,Av,Ax,A0,A2,Aw,A1,gId];simp only[A5,A6,A7,A8,A9,AA,AB,AD,gId,AG,gMb,gMm,gBm,gBb,bs,ms];rw[if_neg (by decide)];rw[show lAt _ (17:Int)=some _ from Bn (i:=17) rfl,bs];dsimp only;rw[C4,e1];try rw[e2]
 exact C5 _ _ _ _ _ _ _ _ _
theorem TW(a p fr to n:Int)(cd tx:List UInt8)(hc:cd.length≤4900)(ht:tx.length≤4900):AR (a,p,18,fr,to,cd,n,tx)=some (AT (a,p,18,fr,to,cd,n,tx)):=by
 have e1:=show DF cd=some (cd== [])from rfl;have e2:=show DH (a,p,18,fr,to,cd,n,tx)=some (tx== [])from rfl;unfold AR;dsimp only;rw[show BV 18=some true from rfl,bs];rw[show Ce ()=some _ from rfl];simp only[gPi,gSS,gPb,gPm,gPs,gM,gM2,Ay,gOr,Az,A3,gAA,gAO,gOA,gOO,Av,Ax,A0,A2,Aw,A1,gId];simp only[A5,A6,A7,A8,A9,AA,AB,AD,gId,AG,gMb,gMm,gBm,gBb,bs,ms];rw[if_neg (by decide)];rw[show lAt _ (18:Int)=some _ from Bn (i:=18) rfl,bs];dsimp only;rw[C4,e1];try rw[e2]
 exact C5 _ _ _ _ _ _ _ _ _
theorem Pq(x:Int×Int×Int×Int×Int×List UInt8×Int×List UInt8)(hc:x.2.2.2.2.2.1.length≤4900)(ht:x.2.2.2.2.2.2.2.length≤4900):AR x=some (AT x):=by
 obtain⟨a,p,k,fr,to,cd,n,tx⟩:=x;by_cases h:1≤k∧k≤18
 ·rcases Wo h with rfl|rfl|rfl|rfl|rfl|rfl|rfl|rfl|rfl|rfl|rfl|rfl|rfl|rfl|rfl|rfl|rfl|rfl
  ·exact TJ a p fr to n cd tx hc ht
  ·exact TX a p fr to n cd tx hc ht
  ·exact TY a p fr to n cd tx hc ht
  ·exact TZ a p fr to n cd tx hc ht
  ·exact Ua a p fr to n cd tx hc ht
  ·exact Ub a p fr to n cd tx hc ht
  ·exact Uc a p fr to n cd tx hc ht
  ·exact Ud a p fr to n cd tx hc ht
  ·exact Ue a p fr to n cd tx hc ht
  ·exact TK a p fr to n cd tx hc ht
  ·exact TL a p fr to n cd tx hc ht
  ·exact TO a p fr to n cd tx hc ht
  ·exact TQ a p fr to n cd tx hc ht
  ·exact TR a p fr to n cd tx hc ht
  ·exact TS a p fr to n cd tx hc ht
  ·exact TU a p fr to n cd tx hc ht
  ·exact TV a p fr to n cd tx hc ht
  ·exact TW a p fr to n cd tx hc ht
 ·unfold AR AT;dsimp only;rw[Qk,bs,Ak h,if_neg h];rfl
theorem J8(x:Int×Int×Int×Int×Int×List UInt8×Int×List UInt8)(hc:x.2.2.2.2.2.1.length≤4200)(ht:x.2.2.2.2.2.2.2.length≤4200):AR x=some (AT x):=Pq x (by omega) (by omega)
set_option linter.unusedSimpArgs false
set_option linter.unusedVariables false
set_option maxHeartbeats 1000000
end WB
