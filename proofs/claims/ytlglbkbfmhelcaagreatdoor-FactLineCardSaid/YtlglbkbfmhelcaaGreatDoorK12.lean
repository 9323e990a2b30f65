/-
  OWN TEXTS, MERGED (wip/merge.py): Pfd, Pfe. No condition of their own.
-/
import Derived.Test.YtlglbkbfmhelcaaGreatDoorK11
import Derived.Test.YtlglbkbfmhelcaaGreatDoorK10
set_option linter.unusedVariables false
set_option linter.unusedSimpArgs false
open Go.IntKind (i64 u64 u8 u32)
namespace WB
open Go Go.RowKit
set_option linter.unusedSimpArgs false
set_option linter.unusedVariables false
set_option maxHeartbeats 1000000
def Cw(k:Int):Bool:=k==14||k==15||k==16||k==18
def BW(k:Int):Bool:=decide (1≤k)&&decide (k≤15)&&(k !=6)&&(k !=8)
def BZ(k:Int)(s:List UInt8):Bool:=
 if k=6 then s== []||CB s else if k=7 then GF s
 else if k=8∨k=9∨k=10∨k=12∨k=14∨k=15 then CB s else s== []
def Cs(k:Int):Int:=if k=8∨k=14 then-1125899906842624 else if k=18 then 1 else 0
def Cp(k:Int):Int:=
 if k=1 then 1 else if k=3∨k=7 then 1000000 else if k=6 then 1440 else if k=17 then 100000 else if k=18 then 4096
 else if k=4∨k=5∨k=13∨k=15∨k=16 then 0 else 1125899906842624
noncomputable def Iq(s:List UInt8):Bool:=(GX s).getD false
noncomputable def C7(k num:Int)(s:List UInt8):Bool:=if k=4 then C1 s else if k=5 then Hw s else if k=6 then s== []||AU s (u64.wrap (max num 0))else if k=11∨k=13 then CB s else if k=12 then Iq s else if k=14 then EG s else if k=15 then !(s== [])&&EG s else s== []
def Ez(k:Int)(dy:Bool)(fr to:Int):Int:=
 if((k==18&&fr !=0)||decide (fr< -25567)||decide (fr>84005))=true then 15
 else if((to !=0)&&(!dy||decide (to≤fr)))=true then 24 else if decide (to>84006)=true then 15 else 0
def GN(fm cb tb:Bool)(p D num lo hi len:Int):Int:=
 if(!(fm==(p==0)))=true then 2 else if(D !=0)=true then D else if(!cb)=true then 12
 else if(decide (num<lo)||decide (num>hi))=true then 2 else if decide (len>4096)=true then 4 else if(!tb)=true then 3 else 0
noncomputable def AM(x:Int×Int×Int×Int×Int×List UInt8×Int×List UInt8):Int:=if 1≤x.2.2.1∧x.2.2.1≤18 then GN (Cw x.2.2.1) (BZ x.2.2.1 x.2.2.2.2.2.1) (C7 x.2.2.1 x.2.2.2.2.2.2.1 x.2.2.2.2.2.2.2) x.2.1 (Ez x.2.2.1 (BW x.2.2.1) x.2.2.2.1 x.2.2.2.2.1) x.2.2.2.2.2.2.1 (Cs x.2.2.1) (Cp x.2.2.1) (x.2.2.2.2.2.2.2.length:Int)else 11
theorem RB{k:Int}(h:1≤k∧k≤18):k=1∨k=2∨k=3∨k=4∨k=5∨k=6∨k=7∨k=8∨k=9∨k=10∨k=11∨k=12∨k=13∨k=14∨k=15∨k=16∨k=17∨k=18:=by omega
theorem CK(a p k fr to:Int)(cd:List UInt8)(n:Int)(tx nm:List UInt8)(fm dy:Bool)(cf:Unit⊕(Unit⊕(Unit⊕(Unit⊕Unit))))(lo hi:Int)(tf):
  KX ((a,p,k,fr,to,cd,n,tx),(nm,fm,dy,cf,lo,hi,tf))=some (Ez k dy fr to):=by
 unfold KX;dsimp only;simp only[gPi,gSS,gPb,gPm,gPs,gM,gM2,Ar,gOr,As,Aw,gAA,gAO,gOA,gOO,Ao,Aq,At,Av,Ap,Au,gId];simp only[A0,A1,A2,A3,A4,A5,A6,A7,gId,A8,gMb,gMm,gBm,gBb,bs,ms];unfold Ez;obtain⟨q1,h1⟩:∃q,(k==18)=q:=⟨_,rfl⟩;obtain⟨q2,h2⟩:∃q,(fr !=0)=q:=⟨_,rfl⟩;obtain⟨q3,h3⟩:∃q,decide (fr< -25567)=q:=⟨_,rfl⟩;obtain⟨q4,h4⟩:∃q,decide (fr>84005)=q:=⟨_,rfl⟩;obtain⟨q5,h5⟩:∃q,(to !=0)=q:=⟨_,rfl⟩;obtain⟨q6,h6⟩:∃q,decide (to≤fr)=q:=⟨_,rfl⟩;obtain⟨q7,h7⟩:∃q,decide (to>84006)=q:=⟨_,rfl⟩;simp only[h1,h2,h3,h4];cases q1<;>cases q2<;>cases q3<;>cases q4<;>(simp only[Ag,if_false,if_true,bs,h5,h6,h7];cases q5<;>cases q6<;>cases q7<;>cases dy<;>rfl)
theorem CL(fm cb tb:Bool)(p D num lo hi len:Int):
  (if(!(fm==(p==(0:Int))))=true then some (2:Int)else(some D).bind fun x21=>if(x21 !=0)=true then some x21 else((some cb).map fun v=>v).bind fun x30=>if(!x30)=true then some 12 else
   (if decide (num<lo)=true then some true else some (decide (num>hi))).bind fun x44=>if x44=true then some 2 else if decide (len>4096)=true then some 4 else
   ((some tb).map fun v=>v).bind fun x54=>if(!x54)=true then some 3 else some 0)=some (GN fm cb tb p D num lo hi len):=by
 unfold GN;obtain⟨q1,h1⟩:∃q,(p==0)=q:=⟨_,rfl⟩;obtain⟨q2,h2⟩:∃q,(D !=0)=q:=⟨_,rfl⟩;obtain⟨q3,h3⟩:∃q,decide (num<lo)=q:=⟨_,rfl⟩;obtain⟨q4,h4⟩:∃q,decide (num>hi)=q:=⟨_,rfl⟩;obtain⟨q5,h5⟩:∃q,decide (len>4096)=q:=⟨_,rfl⟩;simp only[h1,h2,h3,h4,h5,bs];cases fm<;>cases q1<;>cases q2<;>cases q3<;>cases q4<;>cases q5<;>cases cb<;>cases tb<;>rfl
theorem S6{s:List UInt8}(h:s.length≤4900):GX s=some (Iq s)∧I0 s=some (Iq s):=by
 obtain⟨b,h1,h2⟩:=Y3 h;unfold Iq;rw[h1];exact⟨rfl,h2⟩
theorem Abx{x:Int×Int×Int×Int×Int×List UInt8×Int×List UInt8}(h:x.2.2.2.2.2.2.2.length≤4900):Li x=some (C1 x.2.2.2.2.2.2.2):=by
 obtain⟨v,e,h1,h2⟩:=Abw (s:=x.2.2.2.2.2.2.2) (by omega);unfold Li;dsimp only;rw[h1,bs,←h2]
theorem OR(n:Int):0≤u64.wrap n∧u64.wrap n≤18446744073709551615:=by rw[IntKind.wrap_u64];omega
theorem Yn{x:Int×Int×Int×Int×Int×List UInt8×Int×List UInt8}(h:x.2.2.2.2.2.2.2.length≤4900):La x=some (x.2.2.2.2.2.2.2== []||AU x.2.2.2.2.2.2.2 (u64.wrap (max x.2.2.2.2.2.2.1 0))):=by
 unfold La;dsimp only;rw[Ha (by omega) (OR _).2,bs];dsimp only;cases x.2.2.2.2.2.2.2== []<;>rfl
theorem Aa2{s:List UInt8}(h:s.length≤4900):(if(!(s== []))=true then GY s else some false)=some (!(s== [])&&EG s):=by
 rw[SH (by omega)];cases s== []<;>rfl
theorem Wp{s:List UInt8}(h:s.length≤4900):Lc s=some (s== []||CB s):=by
 unfold Lc;dsimp only;simp only[gPi,gSS,gPb,gPm,gPs,gM,gM2,Ar,gOr,As,Aw,gAA,gAO,gOA,gOO,Ao,Aq,At,Av,Ap,Au,gId];simp only[A0,A1,A2,A3,A4,A5,A6,A7,gId,A8,gMb,gMm,gBm,gBb,bs,ms];rw[Fb (by omega)];cases s== []<;>rfl
theorem Vm(a p fr to n:Int)(cd tx:List UInt8)(hc:cd.length≤4900)(ht:tx.length≤4900):AY (a,p,1,fr,to,cd,n,tx)=some (AM (a,p,1,fr,to,cd,n,tx)):=by
 have e1:=show DX cd=some (cd== [])from rfl;have e2:=show DZ (a,p,1,fr,to,cd,n,tx)=some (tx== [])from rfl;unfold AY;dsimp only;rw[show Cf 1=some true from rfl,bs];rw[show Co ()=some _ from rfl];simp only[gPi,gSS,gPb,gPm,gPs,gM,gM2,Ar,gOr,As,Aw,gAA,gAO,gOA,gOO,Ao,Aq,At,Av,Ap,Au,gId];simp only[A0,A1,A2,A3,A4,A5,A6,A7,gId,A8,gMb,gMm,gBm,gBb,bs,ms];rw[if_neg (by decide)];rw[show lAt _ (1:Int)=some _ from AW (i:=1) rfl,bs];dsimp only;rw[CK,e1];try rw[e2]
 exact CL _ _ _ _ _ _ _ _ _
theorem Vw(a p fr to n:Int)(cd tx:List UInt8)(hc:cd.length≤4900)(ht:tx.length≤4900):AY (a,p,2,fr,to,cd,n,tx)=some (AM (a,p,2,fr,to,cd,n,tx)):=by
 have e1:=show DX cd=some (cd== [])from rfl;have e2:=show DZ (a,p,2,fr,to,cd,n,tx)=some (tx== [])from rfl;unfold AY;dsimp only;rw[show Cf 2=some true from rfl,bs];rw[show Co ()=some _ from rfl];simp only[gPi,gSS,gPb,gPm,gPs,gM,gM2,Ar,gOr,As,Aw,gAA,gAO,gOA,gOO,Ao,Aq,At,Av,Ap,Au,gId];simp only[A0,A1,A2,A3,A4,A5,A6,A7,gId,A8,gMb,gMm,gBm,gBb,bs,ms];rw[if_neg (by decide)];rw[show lAt _ (2:Int)=some _ from AW (i:=2) rfl,bs];dsimp only;rw[CK,e1];try rw[e2]
 exact CL _ _ _ _ _ _ _ _ _
theorem Vx(a p fr to n:Int)(cd tx:List UInt8)(hc:cd.length≤4900)(ht:tx.length≤4900):AY (a,p,3,fr,to,cd,n,tx)=some (AM (a,p,3,fr,to,cd,n,tx)):=by
 have e1:=show DX cd=some (cd== [])from rfl;have e2:=show DZ (a,p,3,fr,to,cd,n,tx)=some (tx== [])from rfl;unfold AY;dsimp only;rw[show Cf 3=some true from rfl,bs];rw[show Co ()=some _ from rfl];simp only[gPi,gSS,gPb,gPm,gPs,gM,gM2,Ar,gOr,As,Aw,gAA,gAO,gOA,gOO,Ao,Aq,At,Av,Ap,Au,gId];simp only[A0,A1,A2,A3,A4,A5,A6,A7,gId,A8,gMb,gMm,gBm,gBb,bs,ms];rw[if_neg (by decide)];rw[show lAt _ (3:Int)=some _ from AW (i:=3) rfl,bs];dsimp only;rw[CK,e1];try rw[e2]
 exact CL _ _ _ _ _ _ _ _ _
theorem Vy(a p fr to n:Int)(cd tx:List UInt8)(hc:cd.length≤4900)(ht:tx.length≤4900):AY (a,p,4,fr,to,cd,n,tx)=some (AM (a,p,4,fr,to,cd,n,tx)):=by
 have e1:=show DX cd=some (cd== [])from rfl;have e2:=Abx (x:=(a,p,4,fr,to,cd,n,tx)) ht;unfold AY;dsimp only;rw[show Cf 4=some true from rfl,bs];rw[show Co ()=some _ from rfl];simp only[gPi,gSS,gPb,gPm,gPs,gM,gM2,Ar,gOr,As,Aw,gAA,gAO,gOA,gOO,Ao,Aq,At,Av,Ap,Au,gId];simp only[A0,A1,A2,A3,A4,A5,A6,A7,gId,A8,gMb,gMm,gBm,gBb,bs,ms];rw[if_neg (by decide)];rw[show lAt _ (4:Int)=some _ from AW (i:=4) rfl,bs];dsimp only;rw[CK,e1];try rw[e2]
 exact CL _ _ _ _ _ _ _ _ _
theorem Vz(a p fr to n:Int)(cd tx:List UInt8)(hc:cd.length≤4900)(ht:tx.length≤4900):AY (a,p,5,fr,to,cd,n,tx)=some (AM (a,p,5,fr,to,cd,n,tx)):=by
 have e1:=show DX cd=some (cd== [])from rfl;have e2:=show Lf (a,p,5,fr,to,cd,n,tx)=some (Hw tx)from(show Lf (a,p,5,fr,to,cd,n,tx)=(Jn tx).bind fun x=>some x from rfl).trans (by rw[Aby (by omega)];rfl);unfold AY;dsimp only;rw[show Cf 5=some true from rfl,bs];rw[show Co ()=some _ from rfl];simp only[gPi,gSS,gPb,gPm,gPs,gM,gM2,Ar,gOr,As,Aw,gAA,gAO,gOA,gOO,Ao,Aq,At,Av,Ap,Au,gId];simp only[A0,A1,A2,A3,A4,A5,A6,A7,gId,A8,gMb,gMm,gBm,gBb,bs,ms];rw[if_neg (by decide)];rw[show lAt _ (5:Int)=some _ from AW (i:=5) rfl,bs];dsimp only;rw[CK,e1];try rw[e2]
 exact CL _ _ _ _ _ _ _ _ _
theorem V0(a p fr to n:Int)(cd tx:List UInt8)(hc:cd.length≤4900)(ht:tx.length≤4900):AY (a,p,6,fr,to,cd,n,tx)=some (AM (a,p,6,fr,to,cd,n,tx)):=by
 have e1:=Wp hc;have e2:=Yn (x:=(a,p,6,fr,to,cd,n,tx)) ht;unfold AY;dsimp only;rw[show Cf 6=some true from rfl,bs];rw[show Co ()=some _ from rfl];simp only[gPi,gSS,gPb,gPm,gPs,gM,gM2,Ar,gOr,As,Aw,gAA,gAO,gOA,gOO,Ao,Aq,At,Av,Ap,Au,gId];simp only[A0,A1,A2,A3,A4,A5,A6,A7,gId,A8,gMb,gMm,gBm,gBb,bs,ms];rw[if_neg (by decide)];rw[show lAt _ (6:Int)=some _ from AW (i:=6) rfl,bs];dsimp only;rw[CK,e1];try rw[e2]
 exact CL _ _ _ _ _ _ _ _ _
theorem V1(a p fr to n:Int)(cd tx:List UInt8)(hc:cd.length≤4900)(ht:tx.length≤4900):AY (a,p,7,fr,to,cd,n,tx)=some (AM (a,p,7,fr,to,cd,n,tx)):=by
 have e1:=UO cd;have e2:=show DZ (a,p,7,fr,to,cd,n,tx)=some (tx== [])from rfl;unfold AY;dsimp only;rw[show Cf 7=some true from rfl,bs];rw[show Co ()=some _ from rfl];simp only[gPi,gSS,gPb,gPm,gPs,gM,gM2,Ar,gOr,As,Aw,gAA,gAO,gOA,gOO,Ao,Aq,At,Av,Ap,Au,gId];simp only[A0,A1,A2,A3,A4,A5,A6,A7,gId,A8,gMb,gMm,gBm,gBb,bs,ms];rw[if_neg (by decide)];rw[show lAt _ (7:Int)=some _ from AW (i:=7) rfl,bs];dsimp only;rw[CK,e1];try rw[e2]
 exact CL _ _ _ _ _ _ _ _ _
theorem V2(a p fr to n:Int)(cd tx:List UInt8)(hc:cd.length≤4900)(ht:tx.length≤4900):AY (a,p,8,fr,to,cd,n,tx)=some (AM (a,p,8,fr,to,cd,n,tx)):=by
 have e1:=Fb (s:=cd) (by omega);have e2:=show DZ (a,p,8,fr,to,cd,n,tx)=some (tx== [])from rfl;unfold AY;dsimp only;rw[show Cf 8=some true from rfl,bs];rw[show Co ()=some _ from rfl];simp only[gPi,gSS,gPb,gPm,gPs,gM,gM2,Ar,gOr,As,Aw,gAA,gAO,gOA,gOO,Ao,Aq,At,Av,Ap,Au,gId];simp only[A0,A1,A2,A3,A4,A5,A6,A7,gId,A8,gMb,gMm,gBm,gBb,bs,ms];rw[if_neg (by decide)];rw[show lAt _ (8:Int)=some _ from AW (i:=8) rfl,bs];dsimp only;rw[CK,e1];try rw[e2]
 exact CL _ _ _ _ _ _ _ _ _
theorem V3(a p fr to n:Int)(cd tx:List UInt8)(hc:cd.length≤4900)(ht:tx.length≤4900):AY (a,p,9,fr,to,cd,n,tx)=some (AM (a,p,9,fr,to,cd,n,tx)):=by
 have e1:=Fb (s:=cd) (by omega);have e2:=show DZ (a,p,9,fr,to,cd,n,tx)=some (tx== [])from rfl;unfold AY;dsimp only;rw[show Cf 9=some true from rfl,bs];rw[show Co ()=some _ from rfl];simp only[gPi,gSS,gPb,gPm,gPs,gM,gM2,Ar,gOr,As,Aw,gAA,gAO,gOA,gOO,Ao,Aq,At,Av,Ap,Au,gId];simp only[A0,A1,A2,A3,A4,A5,A6,A7,gId,A8,gMb,gMm,gBm,gBb,bs,ms];rw[if_neg (by decide)];rw[show lAt _ (9:Int)=some _ from AW (i:=9) rfl,bs];dsimp only;rw[CK,e1];try rw[e2]
 exact CL _ _ _ _ _ _ _ _ _
theorem Vn(a p fr to n:Int)(cd tx:List UInt8)(hc:cd.length≤4900)(ht:tx.length≤4900):AY (a,p,10,fr,to,cd,n,tx)=some (AM (a,p,10,fr,to,cd,n,tx)):=by
 have e1:=Fb (s:=cd) (by omega);have e2:=show DZ (a,p,10,fr,to,cd,n,tx)=some (tx== [])from rfl;unfold AY;dsimp only;rw[show Cf 10=some true from rfl,bs];rw[show Co ()=some _ from rfl];simp only[gPi,gSS,gPb,gPm,gPs,gM,gM2,Ar,gOr,As,Aw,gAA,gAO,gOA,gOO,Ao,Aq,At,Av,Ap,Au,gId];simp only[A0,A1,A2,A3,A4,A5,A6,A7,gId,A8,gMb,gMm,gBm,gBb,bs,ms];rw[if_neg (by decide)];rw[show lAt _ (10:Int)=some _ from AW (i:=10) rfl,bs];dsimp only;rw[CK,e1];try rw[e2]
 exact CL _ _ _ _ _ _ _ _ _
theorem Vo(a p fr to n:Int)(cd tx:List UInt8)(hc:cd.length≤4900)(ht:tx.length≤4900):AY (a,p,11,fr,to,cd,n,tx)=some (AM (a,p,11,fr,to,cd,n,tx)):=by
 have e1:=show DX cd=some (cd== [])from rfl;have e2:=show HQ (a,p,11,fr,to,cd,n,tx)=some (CB tx)from(show HQ (a,p,11,fr,to,cd,n,tx)=(F4 tx).bind fun x=>some x from rfl).trans (by rw[Fb (by omega)];rfl);unfold AY;dsimp only;rw[show Cf 11=some true from rfl,bs];rw[show Co ()=some _ from rfl];simp only[gPi,gSS,gPb,gPm,gPs,gM,gM2,Ar,gOr,As,Aw,gAA,gAO,gOA,gOO,Ao,Aq,At,Av,Ap,Au,gId];simp only[A0,A1,A2,A3,A4,A5,A6,A7,gId,A8,gMb,gMm,gBm,gBb,bs,ms];rw[if_neg (by decide)];rw[show lAt _ (11:Int)=some _ from AW (i:=11) rfl,bs];dsimp only;rw[CK,e1];try rw[e2]
 exact CL _ _ _ _ _ _ _ _ _
theorem Vp(a p fr to n:Int)(cd tx:List UInt8)(hc:cd.length≤4900)(ht:tx.length≤4900):AY (a,p,12,fr,to,cd,n,tx)=some (AM (a,p,12,fr,to,cd,n,tx)):=by
 have e1:=Fb (s:=cd) (by omega);have e2:=show Lg (a,p,12,fr,to,cd,n,tx)=some (Iq tx)from(show Lg (a,p,12,fr,to,cd,n,tx)=(GX tx).bind fun x=>some x from rfl).trans (by rw[(S6 ht).1];rfl);unfold AY;dsimp only;rw[show Cf 12=some true from rfl,bs];rw[show Co ()=some _ from rfl];simp only[gPi,gSS,gPb,gPm,gPs,gM,gM2,Ar,gOr,As,Aw,gAA,gAO,gOA,gOO,Ao,Aq,At,Av,Ap,Au,gId];simp only[A0,A1,A2,A3,A4,A5,A6,A7,gId,A8,gMb,gMm,gBm,gBb,bs,ms];rw[if_neg (by decide)];rw[show lAt _ (12:Int)=some _ from AW (i:=12) rfl,bs];dsimp only;rw[CK,e1];try rw[e2]
 exact CL _ _ _ _ _ _ _ _ _
theorem Vq(a p fr to n:Int)(cd tx:List UInt8)(hc:cd.length≤4900)(ht:tx.length≤4900):AY (a,p,13,fr,to,cd,n,tx)=some (AM (a,p,13,fr,to,cd,n,tx)):=by
 have e1:=show DX cd=some (cd== [])from rfl;have e2:=show HQ (a,p,13,fr,to,cd,n,tx)=some (CB tx)from(show HQ (a,p,13,fr,to,cd,n,tx)=(F4 tx).bind fun x=>some x from rfl).trans (by rw[Fb (by omega)];rfl);unfold AY;dsimp only;rw[show Cf 13=some true from rfl,bs];rw[show Co ()=some _ from rfl];simp only[gPi,gSS,gPb,gPm,gPs,gM,gM2,Ar,gOr,As,Aw,gAA,gAO,gOA,gOO,Ao,Aq,At,Av,Ap,Au,gId];simp only[A0,A1,A2,A3,A4,A5,A6,A7,gId,A8,gMb,gMm,gBm,gBb,bs,ms];rw[if_neg (by decide)];rw[show lAt _ (13:Int)=some _ from AW (i:=13) rfl,bs];dsimp only;rw[CK,e1];try rw[e2]
 exact CL _ _ _ _ _ _ _ _ _
theorem Vr(a p fr to n:Int)(cd tx:List UInt8)(hc:cd.length≤4900)(ht:tx.length≤4900):AY (a,p,14,fr,to,cd,n,tx)=some (AM (a,p,14,fr,to,cd,n,tx)):=by
 have e1:=Fb (s:=cd) (by omega);have e2:=show Ld (a,p,14,fr,to,cd,n,tx)=some (EG tx)from(show Ld (a,p,14,fr,to,cd,n,tx)=(GY tx).bind fun x=>some x from rfl).trans (by rw[SH (by omega)];rfl);unfold AY;dsimp only;rw[show Cf 14=some true from rfl,bs];rw[show Co ()=some _ from rfl];simp only[gPi,gSS,gPb,gPm,gPs,gM,gM2,Ar,gOr,As,Aw,gAA,gAO,gOA,gOO,Ao,Aq,At,Av,Ap,Au,gId];simp only[A0,A1,A2,A3,A4,A5,A6,A7,gId,A8,gMb,gMm,gBm,gBb,bs,ms];rw[if_neg (by decide)];rw[show lAt _ (14:Int)=some _ from AW (i:=14) rfl,bs];dsimp only;rw[CK,e1];try rw[e2]
 exact CL _ _ _ _ _ _ _ _ _
theorem Vs(a p fr to n:Int)(cd tx:List UInt8)(hc:cd.length≤4900)(ht:tx.length≤4900):AY (a,p,15,fr,to,cd,n,tx)=some (AM (a,p,15,fr,to,cd,n,tx)):=by
 have e1:=Fb (s:=cd) (by omega);have e2:=show Le (a,p,15,fr,to,cd,n,tx)=some (!(tx== [])&&EG tx)from(by unfold Le;dsimp only;simp only[gPi,gSS,gPb,gPm,gPs,gM,gM2,Ar,gOr,As,Aw,gAA,gAO,gOA,gOO,Ao,Aq,At,Av,Ap,Au,gId];simp only[A0,A1,A2,A3,A4,A5,A6,A7,gId,A8,gMb,gMm,gBm,gBb,bs,ms];exact Aa2 ht);unfold AY;dsimp only;rw[show Cf 15=some true from rfl,bs];rw[show Co ()=some _ from rfl];simp only[gPi,gSS,gPb,gPm,gPs,gM,gM2,Ar,gOr,As,Aw,gAA,gAO,gOA,gOO,Ao,Aq,At,Av,Ap,Au,gId];simp only[A0,A1,A2,A3,A4,A5,A6,A7,gId,A8,gMb,gMm,gBm,gBb,bs,ms];rw[if_neg (by decide)];rw[show lAt _ (15:Int)=some _ from AW (i:=15) rfl,bs];dsimp only;rw[CK,e1];try rw[e2]
 exact CL _ _ _ _ _ _ _ _ _
theorem Vt(a p fr to n:Int)(cd tx:List UInt8)(hc:cd.length≤4900)(ht:tx.length≤4900):AY (a,p,16,fr,to,cd,n,tx)=some (AM (a,p,16,fr,to,cd,n,tx)):=by
 have e1:=show DX cd=some (cd== [])from rfl;have e2:=show DZ (a,p,16,fr,to,cd,n,tx)=some (tx== [])from rfl;unfold AY;dsimp only;rw[show Cf 16=some true from rfl,bs];rw[show Co ()=some _ from rfl];simp only[gPi,gSS,gPb,gPm,gPs,gM,gM2,Ar,gOr,As,Aw,gAA,gAO,gOA,gOO,Ao,Aq,At,Av,Ap,Au,gId];simp only[A0,A1,A2,A3,A4,A5,A6,A7,gId,A8,gMb,gMm,gBm,gBb,bs,ms];rw[if_neg (by decide)];rw[show lAt _ (16:Int)=some _ from AW (i:=16) rfl,bs];dsimp only;rw[CK,e1];try rw[e2]
 exact CL _ _ _ _ _ _ _ _ _
theorem Vu(a p fr to n:Int)(cd tx:List UInt8)(hc:cd.length≤4900)(ht:tx.length≤4900):AY (a,p,17,fr,to,cd,n,tx)=some (AM (a,p,17,fr,to,cd,n,tx)):=by
 have e1:=show DX cd=some (cd== [])from rfl;have e2:=show DZ (a,p,17,fr,to,cd,n,tx)=some (tx== [])from rfl;unfold AY;dsimp only;rw[show Cf 17=some true from rfl,bs];rw[show Co ()=some _ from rfl];simp only[gPi,gSS,gPb,gPm,gPs,gM,gM2,Ar,gOr,As,Aw,gAA,gAO,gOA,gOO,Ao,Aq,At,Av,Ap,Au,gId];simp only[A0,A1,A2,A3,A4,A5,A6,A7,gId,A8,gMb,gMm,gBm,gBb,bs,ms];rw[if_neg (by decide)];rw[show lAt _ (17:Int)=some _ from AW (i:=17) rfl,bs];dsimp only;rw[CK,e1];try rw[e2]
 exact CL _ _ _ _ _ _ _ _ _
theorem Vv(a p fr to n:Int)(cd tx:List UInt8)(hc:cd.length≤4900)(ht:tx.length≤4900):AY (a,p,18,fr,to,cd,n,tx)=some (AM (a,p,18,fr,to,cd,n,tx)):=by
 have e1:=show DX cd=some (cd== [])from rfl;have e2:=show DZ (a,p,18,fr,to,cd,n,tx)=some (tx== [])from rfl;unfold AY;dsimp only;rw[show Cf 18=some true from rfl,bs];rw[show Co ()=some _ from rfl];simp only[gPi,gSS,gPb,gPm,gPs,gM,gM2,Ar,gOr,As,Aw,gAA,gAO,gOA,gOO,Ao,Aq,At,Av,Ap,Au,gId];simp only[A0,A1,A2,A3,A4,A5,A6,A7,gId,A8,gMb,gMm,gBm,gBb,bs,ms];rw[if_neg (by decide)];rw[show lAt _ (18:Int)=some _ from AW (i:=18) rfl,bs];dsimp only;rw[CK,e1];try rw[e2]
 exact CL _ _ _ _ _ _ _ _ _
theorem CQ{a p k fr to n:Int}{cd tx:List UInt8}{fm dy cb tb tb':Bool}{lo hi:Int}(hk:1≤k∧k≤18)(hF:Ox k=some fm)(hD:Ow k=some dy)(hC:EJ (a,p,k,fr,to,cd,n,tx)=some cb)
  (hN:C0 (a,p,k,fr,to,cd,n,tx)=if decide (n≥lo)=true then some (decide (n≤hi))else some false) (hT:DH (a,p,k,fr,to,cd,n,tx)=some tb') (htt:lo≤n→n≤hi→tb'=tb):
  BL (a,p,k,fr,to,cd,n,tx)=some (GN fm cb tb p (Ez k dy fr to) n lo hi (tx.length:Int)):=by
 unfold BL;dsimp only;simp only[gPi,gSS,gPb,gPm,gPs,gM,gM2,Ar,gOr,As,Aw,gAA,gAO,gOA,gOO,Ao,Aq,At,Av,Ap,Au,gId];simp only[A0,A1,A2,A3,A4,A5,A6,A7,gId,A8,gMb,gMm,gBm,gBb,bs,ms];have c1:decide (k<1)=false:=Ak (by omega);have c2:decide (k>18)=false:=Ak (by omega)
 have hI:LZ fr=some (!(decide (fr< -25567)||decide (fr>84005))):=by
  unfold LZ;simp only[gPi,gSS,gPb,gPm,gPs,gM,gM2,Ar,gOr,As,Aw,gAA,gAO,gOA,gOO,Ao,Aq,At,Av,Ap,Au,gId];by_cases h1:fr≥ -25567<;>by_cases h2:fr≤84005<;>simp[h1,h2]<;>omega
 have hn:(if decide (n≥lo)=true then some (decide (n≤hi))else some false)=some (!(decide (n<lo)||decide (n>hi))):=by
  by_cases h1:n≥lo<;>by_cases h2:n≤hi<;>simp[h1,h2]<;>omega
 simp only[c1,c2,Ag,if_false,bs,hF,hD,hC,hN,hn,hT,hI];unfold GN Ez
 have ht:tb'=tb∨(decide (n<lo)||decide (n>hi))=true:=by
  by_cases h1:lo≤n
  ·by_cases h2:n≤hi
   ·exact .inl (htt h1 h2)
   ·exact .inr (by simp;omega)
  ·exact .inr (by simp;omega)
 obtain⟨q1,h1⟩:∃q,(k==18)=q:=⟨_,rfl⟩;obtain⟨q2,h2⟩:∃q,(fr !=0)=q:=⟨_,rfl⟩;obtain⟨q3,h3⟩:∃q,decide (fr< -25567)=q:=⟨_,rfl⟩;obtain⟨q4,h4⟩:∃q,decide (fr>84005)=q:=⟨_,rfl⟩;obtain⟨q5,h5⟩:∃q,(to !=0)=q:=⟨_,rfl⟩;obtain⟨q6,h6⟩:∃q,decide (to≤fr)=q:=⟨_,rfl⟩;obtain⟨q7,h7⟩:∃q,decide (to>84006)=q:=⟨_,rfl⟩;obtain⟨q8,h8⟩:∃q,(p==0)=q:=⟨_,rfl⟩;obtain⟨q9,h9⟩:∃q,(decide (n<lo)||decide (n>hi))=q:=⟨_,rfl⟩;obtain⟨q10,h10⟩:∃q,decide ((tx.length:Int)>4096)=q:=⟨_,rfl⟩;rw[h9]at ht;simp only[h1,h2,h3,h4,h5,h6,h7,h8,h9,h10]
 cases hq:(!(fm==q8))with
 |true=>rfl
 |false=>
  simp only[Ag,if_false]
  have e1:(if(!!(q3||q4))=true then some true else if q1=true then some q2 else some false)=some ((q1&&q2)||q3||q4):=by
   cases q1<;>cases q2<;>cases q3<;>cases q4<;>rfl
  rw[e1,bs]
  cases ((q1&&q2)||q3||q4)with
  |true=>rfl
  |false=>
   simp only[Ag,if_false]
   have e2:(if q5=true then if(!dy)=true then some true else some q6 else some false)=some (q5&&(!dy||q6)):=by
    cases q5<;>cases dy<;>cases q6<;>rfl
   rw[e2,bs]
   cases (q5&&(!dy||q6))with
   |true=>rfl
   |false=>
    simp only[Ag,if_false]
    cases q7 with
    |true=>rfl
    |false=>
     simp only[Ag,if_false];rcases ht with rfl|rfl
     ·cases cb<;>cases q9<;>cases q10<;>cases tb'<;>rfl
     ·cases cb<;>rfl
theorem YX(a p fr to n:Int)(cd tx:List UInt8)(hc:cd.length≤4900)(ht:tx.length≤4900):BL (a,p,1,fr,to,cd,n,tx)=some (AM (a,p,1,fr,to,cd,n,tx)):=
 CQ (k:=1) (fm:=Cw 1) (dy:=BW 1) (cb:=BZ 1 cd) (tb:=C7 1 n tx) (tb':=tx== []) (lo:=Cs 1) (hi:=Cp 1) (by decide) rfl rfl
  rfl
  (by unfold C0;dsimp only;simp only[gPi,gSS,gPb,gPm,gPs,gM,gM2,Ar,gOr,As,Aw,gAA,gAO,gOA,gOO,Ao,Aq,At,Av,Ap,Au,gId];simp only[A0,A1,A2,A3,A4,A5,A6,A7,gId,A8,gMb,gMm,gBm,gBb,bs,ms];rfl)
  rfl
  (fun _ _=>rfl)
theorem Zh(a p fr to n:Int)(cd tx:List UInt8)(hc:cd.length≤4900)(ht:tx.length≤4900):BL (a,p,2,fr,to,cd,n,tx)=some (AM (a,p,2,fr,to,cd,n,tx)):=
 CQ (k:=2) (fm:=Cw 2) (dy:=BW 2) (cb:=BZ 2 cd) (tb:=C7 2 n tx) (tb':=tx== []) (lo:=Cs 2) (hi:=Cp 2) (by decide) rfl rfl
  rfl
  (by unfold C0;dsimp only;simp only[gPi,gSS,gPb,gPm,gPs,gM,gM2,Ar,gOr,As,Aw,gAA,gAO,gOA,gOO,Ao,Aq,At,Av,Ap,Au,gId];simp only[A0,A1,A2,A3,A4,A5,A6,A7,gId,A8,gMb,gMm,gBm,gBb,bs,ms];rfl)
  rfl
  (fun _ _=>rfl)
theorem Zi(a p fr to n:Int)(cd tx:List UInt8)(hc:cd.length≤4900)(ht:tx.length≤4900):BL (a,p,3,fr,to,cd,n,tx)=some (AM (a,p,3,fr,to,cd,n,tx)):=
 CQ (k:=3) (fm:=Cw 3) (dy:=BW 3) (cb:=BZ 3 cd) (tb:=C7 3 n tx) (tb':=tx== []) (lo:=Cs 3) (hi:=Cp 3) (by decide) rfl rfl
  rfl
  (by unfold C0;dsimp only;simp only[gPi,gSS,gPb,gPm,gPs,gM,gM2,Ar,gOr,As,Aw,gAA,gAO,gOA,gOO,Ao,Aq,At,Av,Ap,Au,gId];simp only[A0,A1,A2,A3,A4,A5,A6,A7,gId,A8,gMb,gMm,gBm,gBb,bs,ms];rfl)
  rfl
  (fun _ _=>rfl)
theorem Zj(a p fr to n:Int)(cd tx:List UInt8)(hc:cd.length≤4900)(ht:tx.length≤4900):BL (a,p,4,fr,to,cd,n,tx)=some (AM (a,p,4,fr,to,cd,n,tx)):=
 CQ (k:=4) (fm:=Cw 4) (dy:=BW 4) (cb:=BZ 4 cd) (tb:=C7 4 n tx) (tb':=C1 tx) (lo:=Cs 4) (hi:=Cp 4) (by decide) rfl rfl
  rfl
  (by unfold C0;dsimp only;simp only[gPi,gSS,gPb,gPm,gPs,gM,gM2,Ar,gOr,As,Aw,gAA,gAO,gOA,gOO,Ao,Aq,At,Av,Ap,Au,gId];simp only[A0,A1,A2,A3,A4,A5,A6,A7,gId,A8,gMb,gMm,gBm,gBb,bs,ms];rfl)
  (by obtain⟨v,e,h1,h2⟩:=YW (s:=tx) (by omega);refine(show DH (a,p,4,fr,to,cd,n,tx)=(JO tx).bind fun x14=>some (x14.2==0)from rfl).trans ?_;rw[h1,bs,←h2])
  (fun _ _=>rfl)
theorem Zk(a p fr to n:Int)(cd tx:List UInt8)(hc:cd.length≤4900)(ht:tx.length≤4900):BL (a,p,5,fr,to,cd,n,tx)=some (AM (a,p,5,fr,to,cd,n,tx)):=
 CQ (k:=5) (fm:=Cw 5) (dy:=BW 5) (cb:=BZ 5 cd) (tb:=C7 5 n tx) (tb':=Hw tx) (lo:=Cs 5) (hi:=Cp 5) (by decide) rfl rfl
  rfl
  (by unfold C0;dsimp only;simp only[gPi,gSS,gPb,gPm,gPs,gM,gM2,Ar,gOr,As,Aw,gAA,gAO,gOA,gOO,Ao,Aq,At,Av,Ap,Au,gId];simp only[A0,A1,A2,A3,A4,A5,A6,A7,gId,A8,gMb,gMm,gBm,gBb,bs,ms];rfl)
  ((show DH (a,p,5,fr,to,cd,n,tx)=(JS tx).bind fun x=>some x from rfl).trans (by rw[Zu (by omega)];rfl))
  (fun _ _=>rfl)
theorem Zl(a p fr to n:Int)(cd tx:List UInt8)(hc:cd.length≤4900)(ht:tx.length≤4900):BL (a,p,6,fr,to,cd,n,tx)=some (AM (a,p,6,fr,to,cd,n,tx)):=
 CQ (k:=6) (fm:=Cw 6) (dy:=BW 6) (cb:=BZ 6 cd) (tb:=C7 6 n tx) (tb':=tx== []||AU tx (u64.wrap n)) (lo:=Cs 6) (hi:=Cp 6) (by decide) rfl rfl
  (by show _=some (cd== []||CB cd);unfold EJ;dsimp only;simp only[gPi,gSS,gPb,gPm,gPs,gM,gM2,Ar,gOr,As,Aw,gAA,gAO,gOA,gOO,Ao,Aq,At,Av,Ap,Au,gId];simp only[A0,A1,A2,A3,A4,A5,A6,A7,gId,A8,gMb,gMm,gBm,gBb,bs,ms];rw[Fh (by omega)];cases cd== []<;>rfl)
  (by unfold C0;dsimp only;simp only[gPi,gSS,gPb,gPm,gPs,gM,gM2,Ar,gOr,As,Aw,gAA,gAO,gOA,gOO,Ao,Aq,At,Av,Ap,Au,gId];simp only[A0,A1,A2,A3,A4,A5,A6,A7,gId,A8,gMb,gMm,gBm,gBb,bs,ms];rfl)
  (by refine(show DH (a,p,6,fr,to,cd,n,tx)=(Dn (tx,u64.wrap n)).bind fun x32=>if(tx== [])=true then some true else if(tx== [])=false then some x32.2 else none from ?_).trans ?_;(unfold DH;dsimp only;simp only[gPi,gSS,gPb,gPm,gPs,gM,gM2,Ar,gOr,As,Aw,gAA,gAO,gOA,gOO,Ao,Aq,At,Av,Ap,Au,gId];simp only[A0,A1,A2,A3,A4,A5,A6,A7,gId,A8,gMb,gMm,gBm,gBb,bs,ms];rfl);rw[Gz (by omega) (OR _).1 (OR _).2,bs];cases tx== []<;>cases AU tx (u64.wrap n)<;>rfl)
  (fun h1 h2=>by rw[show C7 6 n tx=(tx== []||AU tx (u64.wrap (max n 0)))from rfl,Int.max_eq_left (show(0:Int)≤n from h1)])
theorem Zm(a p fr to n:Int)(cd tx:List UInt8)(hc:cd.length≤4900)(ht:tx.length≤4900):BL (a,p,7,fr,to,cd,n,tx)=some (AM (a,p,7,fr,to,cd,n,tx)):=
 CQ (k:=7) (fm:=Cw 7) (dy:=BW 7) (cb:=BZ 7 cd) (tb:=C7 7 n tx) (tb':=tx== []) (lo:=Cs 7) (hi:=Cp 7) (by decide) rfl rfl
  (by show _=some (GF cd);unfold EJ GF;dsimp only;simp only[gPi,gSS,gPb,gPm,gPs,gM,gM2,Ar,gOr,As,Aw,gAA,gAO,gOA,gOO,Ao,Aq,At,Av,Ap,Au,gId];simp only[A0,A1,A2,A3,A4,A5,A6,A7,gId,A8,gMb,gMm,gBm,gBb,bs,ms];obtain⟨q1,h1⟩:∃q,(cd== [115,105,99,107])=q:=⟨_,rfl⟩;obtain⟨q2,h2⟩:∃q,(cd== [108,101,97,118,101])=q:=⟨_,rfl⟩;obtain⟨q3,h3⟩:∃q,(cd== [117,110,112,97,105,100])=q:=⟨_,rfl⟩;obtain⟨q4,h4⟩:∃q,(cd== [112,97,114,101,110,116,97,108])=q:=⟨_,rfl⟩;simp only[h1,h2,h3,h4];cases q1<;>cases q2<;>cases q3<;>cases q4<;>rfl)
  (by unfold C0;dsimp only;simp only[gPi,gSS,gPb,gPm,gPs,gM,gM2,Ar,gOr,As,Aw,gAA,gAO,gOA,gOO,Ao,Aq,At,Av,Ap,Au,gId];simp only[A0,A1,A2,A3,A4,A5,A6,A7,gId,A8,gMb,gMm,gBm,gBb,bs,ms];rfl)
  rfl
  (fun _ _=>rfl)
theorem Zn(a p fr to n:Int)(cd tx:List UInt8)(hc:cd.length≤4900)(ht:tx.length≤4900):BL (a,p,8,fr,to,cd,n,tx)=some (AM (a,p,8,fr,to,cd,n,tx)):=
 CQ (k:=8) (fm:=Cw 8) (dy:=BW 8) (cb:=BZ 8 cd) (tb:=C7 8 n tx) (tb':=tx== []) (lo:=Cs 8) (hi:=Cp 8) (by decide) rfl rfl
  (by unfold EJ;dsimp only;simp only[gPi,gSS,gPb,gPm,gPs,gM,gM2,Ar,gOr,As,Aw,gAA,gAO,gOA,gOO,Ao,Aq,At,Av,Ap,Au,gId];simp only[A0,A1,A2,A3,A4,A5,A6,A7,gId,A8,gMb,gMm,gBm,gBb,bs,ms];exact Fh (s:=cd) (by omega))
  (by unfold C0;dsimp only;simp only[gPi,gSS,gPb,gPm,gPs,gM,gM2,Ar,gOr,As,Aw,gAA,gAO,gOA,gOO,Ao,Aq,At,Av,Ap,Au,gId];simp only[A0,A1,A2,A3,A4,A5,A6,A7,gId,A8,gMb,gMm,gBm,gBb,bs,ms];rfl)
  rfl
  (fun _ _=>rfl)
theorem Zo(a p fr to n:Int)(cd tx:List UInt8)(hc:cd.length≤4900)(ht:tx.length≤4900):BL (a,p,9,fr,to,cd,n,tx)=some (AM (a,p,9,fr,to,cd,n,tx)):=
 CQ (k:=9) (fm:=Cw 9) (dy:=BW 9) (cb:=BZ 9 cd) (tb:=C7 9 n tx) (tb':=tx== []) (lo:=Cs 9) (hi:=Cp 9) (by decide) rfl rfl
  (by unfold EJ;dsimp only;simp only[gPi,gSS,gPb,gPm,gPs,gM,gM2,Ar,gOr,As,Aw,gAA,gAO,gOA,gOO,Ao,Aq,At,Av,Ap,Au,gId];simp only[A0,A1,A2,A3,A4,A5,A6,A7,gId,A8,gMb,gMm,gBm,gBb,bs,ms];exact Fh (s:=cd) (by omega))
  (by unfold C0;dsimp only;simp only[gPi,gSS,gPb,gPm,gPs,gM,gM2,Ar,gOr,As,Aw,gAA,gAO,gOA,gOO,Ao,Aq,At,Av,Ap,Au,gId];simp only[A0,A1,A2,A3,A4,A5,A6,A7,gId,A8,gMb,gMm,gBm,gBb,bs,ms];rfl)
  rfl
  (fun _ _=>rfl)
theorem YY(a p fr to n:Int)(cd tx:List UInt8)(hc:cd.length≤4900)(ht:tx.length≤4900):BL (a,p,10,fr,to,cd,n,tx)=some (AM (a,p,10,fr,to,cd,n,tx)):=
 CQ (k:=10) (fm:=Cw 10) (dy:=BW 10) (cb:=BZ 10 cd) (tb:=C7 10 n tx) (tb':=tx== []) (lo:=Cs 10) (hi:=Cp 10) (by decide) rfl rfl
  (by unfold EJ;dsimp only;simp only[gPi,gSS,gPb,gPm,gPs,gM,gM2,Ar,gOr,As,Aw,gAA,gAO,gOA,gOO,Ao,Aq,At,Av,Ap,Au,gId];simp only[A0,A1,A2,A3,A4,A5,A6,A7,gId,A8,gMb,gMm,gBm,gBb,bs,ms];exact Fh (s:=cd) (by omega))
  (by unfold C0;dsimp only;simp only[gPi,gSS,gPb,gPm,gPs,gM,gM2,Ar,gOr,As,Aw,gAA,gAO,gOA,gOO,Ao,Aq,At,Av,Ap,Au,gId];simp only[A0,A1,A2,A3,A4,A5,A6,A7,gId,A8,gMb,gMm,gBm,gBb,bs,ms];rfl)
  rfl
  (fun _ _=>rfl)
theorem YZ(a p fr to n:Int)(cd tx:List UInt8)(hc:cd.length≤4900)(ht:tx.length≤4900):BL (a,p,11,fr,to,cd,n,tx)=some (AM (a,p,11,fr,to,cd,n,tx)):=
 CQ (k:=11) (fm:=Cw 11) (dy:=BW 11) (cb:=BZ 11 cd) (tb:=C7 11 n tx) (tb':=CB tx) (lo:=Cs 11) (hi:=Cp 11) (by decide) rfl rfl
  rfl
  (by unfold C0;dsimp only;simp only[gPi,gSS,gPb,gPm,gPs,gM,gM2,Ar,gOr,As,Aw,gAA,gAO,gOA,gOO,Ao,Aq,At,Av,Ap,Au,gId];simp only[A0,A1,A2,A3,A4,A5,A6,A7,gId,A8,gMb,gMm,gBm,gBb,bs,ms];rfl)
  ((show DH (a,p,11,fr,to,cd,n,tx)=(FH tx).bind fun x=>some x from rfl).trans (by rw[Fh (by omega)];rfl))
  (fun _ _=>rfl)
theorem Za(a p fr to n:Int)(cd tx:List UInt8)(hc:cd.length≤4900)(ht:tx.length≤4900):BL (a,p,12,fr,to,cd,n,tx)=some (AM (a,p,12,fr,to,cd,n,tx)):=
 CQ (k:=12) (fm:=Cw 12) (dy:=BW 12) (cb:=BZ 12 cd) (tb:=C7 12 n tx) (tb':=Iq tx) (lo:=Cs 12) (hi:=Cp 12) (by decide) rfl rfl
  (by unfold EJ;dsimp only;simp only[gPi,gSS,gPb,gPm,gPs,gM,gM2,Ar,gOr,As,Aw,gAA,gAO,gOA,gOO,Ao,Aq,At,Av,Ap,Au,gId];simp only[A0,A1,A2,A3,A4,A5,A6,A7,gId,A8,gMb,gMm,gBm,gBb,bs,ms];exact Fh (s:=cd) (by omega))
  (by unfold C0;dsimp only;simp only[gPi,gSS,gPb,gPm,gPs,gM,gM2,Ar,gOr,As,Aw,gAA,gAO,gOA,gOO,Ao,Aq,At,Av,Ap,Au,gId];simp only[A0,A1,A2,A3,A4,A5,A6,A7,gId,A8,gMb,gMm,gBm,gBb,bs,ms];rfl)
  ((show DH (a,p,12,fr,to,cd,n,tx)=(I0 tx).bind fun x=>some x from rfl).trans (by rw[(S6 ht).2];rfl))
  (fun _ _=>rfl)
theorem Zb(a p fr to n:Int)(cd tx:List UInt8)(hc:cd.length≤4900)(ht:tx.length≤4900):BL (a,p,13,fr,to,cd,n,tx)=some (AM (a,p,13,fr,to,cd,n,tx)):=
 CQ (k:=13) (fm:=Cw 13) (dy:=BW 13) (cb:=BZ 13 cd) (tb:=C7 13 n tx) (tb':=CB tx) (lo:=Cs 13) (hi:=Cp 13) (by decide) rfl rfl
  rfl
  (by unfold C0;dsimp only;simp only[gPi,gSS,gPb,gPm,gPs,gM,gM2,Ar,gOr,As,Aw,gAA,gAO,gOA,gOO,Ao,Aq,At,Av,Ap,Au,gId];simp only[A0,A1,A2,A3,A4,A5,A6,A7,gId,A8,gMb,gMm,gBm,gBb,bs,ms];rfl)
  ((show DH (a,p,13,fr,to,cd,n,tx)=(FH tx).bind fun x=>some x from rfl).trans (by rw[Fh (by omega)];rfl))
  (fun _ _=>rfl)
theorem Zc(a p fr to n:Int)(cd tx:List UInt8)(hc:cd.length≤4900)(ht:tx.length≤4900):BL (a,p,14,fr,to,cd,n,tx)=some (AM (a,p,14,fr,to,cd,n,tx)):=
 CQ (k:=14) (fm:=Cw 14) (dy:=BW 14) (cb:=BZ 14 cd) (tb:=C7 14 n tx) (tb':=EG tx) (lo:=Cs 14) (hi:=Cp 14) (by decide) rfl rfl
  (by unfold EJ;dsimp only;simp only[gPi,gSS,gPb,gPm,gPs,gM,gM2,Ar,gOr,As,Aw,gAA,gAO,gOA,gOO,Ao,Aq,At,Av,Ap,Au,gId];simp only[A0,A1,A2,A3,A4,A5,A6,A7,gId,A8,gMb,gMm,gBm,gBb,bs,ms];exact Fh (s:=cd) (by omega))
  (by unfold C0;dsimp only;simp only[gPi,gSS,gPb,gPm,gPs,gM,gM2,Ar,gOr,As,Aw,gAA,gAO,gOA,gOO,Ao,Aq,At,Av,Ap,Au,gId];simp only[A0,A1,A2,A3,A4,A5,A6,A7,gId,A8,gMb,gMm,gBm,gBb,bs,ms];rfl)
  ((show DH (a,p,14,fr,to,cd,n,tx)=(Hq tx).bind fun x=>some x from rfl).trans (by rw[Tf (by omega)];rfl))
  (fun _ _=>rfl)
theorem Zd(a p fr to n:Int)(cd tx:List UInt8)(hc:cd.length≤4900)(ht:tx.length≤4900):BL (a,p,15,fr,to,cd,n,tx)=some (AM (a,p,15,fr,to,cd,n,tx)):=
 CQ (k:=15) (fm:=Cw 15) (dy:=BW 15) (cb:=BZ 15 cd) (tb:=C7 15 n tx) (tb':= !(tx== [])&&EG tx) (lo:=Cs 15) (hi:=Cp 15) (by decide) rfl rfl
  (by unfold EJ;dsimp only;simp only[gPi,gSS,gPb,gPm,gPs,gM,gM2,Ar,gOr,As,Aw,gAA,gAO,gOA,gOO,Ao,Aq,At,Av,Ap,Au,gId];simp only[A0,A1,A2,A3,A4,A5,A6,A7,gId,A8,gMb,gMm,gBm,gBb,bs,ms];exact Fh (s:=cd) (by omega))
  (by unfold C0;dsimp only;simp only[gPi,gSS,gPb,gPm,gPs,gM,gM2,Ar,gOr,As,Aw,gAA,gAO,gOA,gOO,Ao,Aq,At,Av,Ap,Au,gId];simp only[A0,A1,A2,A3,A4,A5,A6,A7,gId,A8,gMb,gMm,gBm,gBb,bs,ms];rfl)
  (by refine(show DH (a,p,15,fr,to,cd,n,tx)=(if(!(tx== []))=true then Hq tx else some false)from ?_).trans ?_;(unfold DH;dsimp only;simp only[gPi,gSS,gPb,gPm,gPs,gM,gM2,Ar,gOr,As,Aw,gAA,gAO,gOA,gOO,Ao,Aq,At,Av,Ap,Au,gId];simp only[A0,A1,A2,A3,A4,A5,A6,A7,gId,A8,gMb,gMm,gBm,gBb,bs,ms];rfl);rw[Tf (by omega)];cases tx== []<;>rfl)
  (fun _ _=>rfl)
theorem Ze(a p fr to n:Int)(cd tx:List UInt8)(hc:cd.length≤4900)(ht:tx.length≤4900):BL (a,p,16,fr,to,cd,n,tx)=some (AM (a,p,16,fr,to,cd,n,tx)):=
 CQ (k:=16) (fm:=Cw 16) (dy:=BW 16) (cb:=BZ 16 cd) (tb:=C7 16 n tx) (tb':=tx== []) (lo:=Cs 16) (hi:=Cp 16) (by decide) rfl rfl
  rfl
  (by unfold C0;dsimp only;simp only[gPi,gSS,gPb,gPm,gPs,gM,gM2,Ar,gOr,As,Aw,gAA,gAO,gOA,gOO,Ao,Aq,At,Av,Ap,Au,gId];simp only[A0,A1,A2,A3,A4,A5,A6,A7,gId,A8,gMb,gMm,gBm,gBb,bs,ms];rfl)
  rfl
  (fun _ _=>rfl)
theorem Zf(a p fr to n:Int)(cd tx:List UInt8)(hc:cd.length≤4900)(ht:tx.length≤4900):BL (a,p,17,fr,to,cd,n,tx)=some (AM (a,p,17,fr,to,cd,n,tx)):=
 CQ (k:=17) (fm:=Cw 17) (dy:=BW 17) (cb:=BZ 17 cd) (tb:=C7 17 n tx) (tb':=tx== []) (lo:=Cs 17) (hi:=Cp 17) (by decide) rfl rfl
  rfl
  (by unfold C0;dsimp only;simp only[gPi,gSS,gPb,gPm,gPs,gM,gM2,Ar,gOr,As,Aw,gAA,gAO,gOA,gOO,Ao,Aq,At,Av,Ap,Au,gId];simp only[A0,A1,A2,A3,A4,A5,A6,A7,gId,A8,gMb,gMm,gBm,gBb,bs,ms];rfl)
  rfl
  (fun _ _=>rfl)
theorem Zg(a p fr to n:Int)(cd tx:List UInt8)(hc:cd.length≤4900)(ht:tx.length≤4900):BL (a,p,18,fr,to,cd,n,tx)=some (AM (a,p,18,fr,to,cd,n,tx)):=
 CQ (k:=18) (fm:=Cw 18) (dy:=BW 18) (cb:=BZ 18 cd) (tb:=C7 18 n tx) (tb':=tx== []) (lo:=Cs 18) (hi:=Cp 18) (by decide) rfl rfl
  rfl
  (by unfold C0;dsimp only;simp only[gPi,gSS,gPb,gPm,gPs,gM,gM2,Ar,gOr,As,Aw,gAA,gAO,gOA,gOO,Ao,Aq,At,Av,Ap,Au,gId];simp only[A0,A1,A2,A3,A4,A5,A6,A7,gId,A8,gMb,gMm,gBm,gBb,bs,ms];rfl)
  rfl
  (fun _ _=>rfl)
theorem Te(x:Int×Int×Int×Int×Int×List UInt8×Int×List UInt8)(hc:x.2.2.2.2.2.1.length≤4900)(ht:x.2.2.2.2.2.2.2.length≤4900):BL x=some (AM x):=by
 obtain⟨a,p,k,fr,to,cd,n,tx⟩:=x;by_cases h:1≤k∧k≤18
 ·rcases RB h with rfl|rfl|rfl|rfl|rfl|rfl|rfl|rfl|rfl|rfl|rfl|rfl|rfl|rfl|rfl|rfl|rfl|rfl
  ·exact YX a p fr to n cd tx hc ht
  ·exact Zh a p fr to n cd tx hc ht
  ·exact Zi a p fr to n cd tx hc ht
  ·exact Zj a p fr to n cd tx hc ht
  ·exact Zk a p fr to n cd tx hc ht
  ·exact Zl a p fr to n cd tx hc ht
  ·exact Zm a p fr to n cd tx hc ht
  ·exact Zn a p fr to n cd tx hc ht
  ·exact Zo a p fr to n cd tx hc ht
  ·exact YY a p fr to n cd tx hc ht
  ·exact YZ a p fr to n cd tx hc ht
  ·exact Za a p fr to n cd tx hc ht
  ·exact Zb a p fr to n cd tx hc ht
  ·exact Zc a p fr to n cd tx hc ht
  ·exact Zd a p fr to n cd tx hc ht
  ·exact Ze a p fr to n cd tx hc ht
  ·exact Zf a p fr to n cd tx hc ht
  ·exact Zg a p fr to n cd tx hc ht
 ·unfold BL AM;dsimp only;rw[if_neg h];simp only[gPi,gSS,gPb,gPm,gPs,gM,gM2,Ar,gOr,As,Aw,gAA,gAO,gOA,gOO,Ao,Aq,At,Av,Ap,Au,gId];simp only[A0,A1,A2,A3,A4,A5,A6,A7,gId,A8,gMb,gMm,gBm,gBb,bs,ms];by_cases h1:k<1
  ·simp only[Al h1,if_true,bs]
  ·simp only[Ak h1,Al (show k>18 by omega),Ag,if_false,if_true,bs]
theorem Qo(x:Int×Int×Int×Int×Int×List UInt8×Int×List UInt8)(hc:x.2.2.2.2.2.1.length≤4900)(ht:x.2.2.2.2.2.2.2.length≤4900):AY x=some (AM x):=by
 obtain⟨a,p,k,fr,to,cd,n,tx⟩:=x;by_cases h:1≤k∧k≤18
 ·rcases RB h with rfl|rfl|rfl|rfl|rfl|rfl|rfl|rfl|rfl|rfl|rfl|rfl|rfl|rfl|rfl|rfl|rfl|rfl
  ·exact Vm a p fr to n cd tx hc ht
  ·exact Vw a p fr to n cd tx hc ht
  ·exact Vx a p fr to n cd tx hc ht
  ·exact Vy a p fr to n cd tx hc ht
  ·exact Vz a p fr to n cd tx hc ht
  ·exact V0 a p fr to n cd tx hc ht
  ·exact V1 a p fr to n cd tx hc ht
  ·exact V2 a p fr to n cd tx hc ht
  ·exact V3 a p fr to n cd tx hc ht
  ·exact Vn a p fr to n cd tx hc ht
  ·exact Vo a p fr to n cd tx hc ht
  ·exact Vp a p fr to n cd tx hc ht
  ·exact Vq a p fr to n cd tx hc ht
  ·exact Vr a p fr to n cd tx hc ht
  ·exact Vs a p fr to n cd tx hc ht
  ·exact Vt a p fr to n cd tx hc ht
  ·exact Vu a p fr to n cd tx hc ht
  ·exact Vv a p fr to n cd tx hc ht
 ·unfold AY AM;dsimp only;rw[Rf,bs,Ak h,if_neg h];rfl
theorem Zp(x:Int×Int×Int×Int×Int×List UInt8×Int×List UInt8)(hc:x.2.2.2.2.2.1.length≤4200)(ht:x.2.2.2.2.2.2.2.length≤4200):BL x=some (AM x):=Te x (by omega) (by omega)
theorem Qn(x:Int×Int×Int×Int×Int×List UInt8×Int×List UInt8)(hc:x.2.2.2.2.2.1.length≤4200)(ht:x.2.2.2.2.2.2.2.length≤4200):AY x=some (AM x):=Qo x (by omega) (by omega)
set_option linter.unusedSimpArgs false
set_option linter.unusedVariables false
set_option maxHeartbeats 1000000
theorem ZO(x:Int×Int×Int×Int×Int×List UInt8×Int×List UInt8):Md x=some (decide (x.2.2.2.2.2.1.length≤300)&&decide (x.2.2.2.2.2.2.2.length≤4200)):=by
 unfold Md;dsimp only;simp only[gPi,gSS,gPb,gPm,gPs,gM,gM2,Ar,gOr,As,Aw,gAA,gAO,gOA,gOO,Ao,Aq,At,Av,Ap,Au,gId];simp only[A0,A1,A2,A3,A4,A5,A6,A7,gId,A8,gMb,gMm,gBm,gBb,bs,ms];by_cases h1:x.2.2.2.2.2.1.length≤300
 ·rw[Al (show(x.2.2.2.2.2.1.length:Int)≤300 by omega),if_pos rfl,Al h1,Bool.true_and]
  congr 1
  apply decide_eq_decide.2;omega
 ·rw[Ak (show ¬(x.2.2.2.2.2.1.length:Int)≤300 by omega),if_neg (by decide),Ak h1,Bool.false_and]
theorem Sv(x:Int×Int×Int×Int×Int×List UInt8×Int×List UInt8):Hd x=some x:=rfl
end WB
