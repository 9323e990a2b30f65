/-
  OWN TEXTS, MERGED (wip/merge.py): Pfd, Pfe. No condition of their own.
-/
import Derived.Test.YtlglbkbfmhelcaaGreatDoorK11
import Derived.Test.YtlglbkbfmhelcaaGreatDoorK10
set_option linter.unusedVariables false
set_option linter.unusedSimpArgs false
namespace WB
open Go Go.RowKit
open Go.IntKind (i64 u64 u8 u32)
set_option linter.unusedSimpArgs false
set_option linter.unusedVariables false
set_option maxHeartbeats 1000000
def Cy(k:Int):Bool:=k==14||k==15||k==16||k==18
def BY(k:Int):Bool:=decide(1≤k)&&decide(k≤15)&&(k !=6)&&(k !=8)
def Cb(k:Int)(s:List UInt8):Bool:=
 if k=6 then s== []||CD s else if k=7 then GH s
 else if k=8∨k=9∨k=10∨k=12∨k=14∨k=15 then CD s else s== []
def Cu(k:Int):Int:=if k=8∨k=14 then-1125899906842624 else if k=18 then 1 else 0
def Cr(k:Int):Int:=
 if k=1 then 1 else if k=3∨k=7 then 1000000 else if k=6 then 1440 else if k=17 then 100000 else if k=18 then 4096
 else if k=4∨k=5∨k=13∨k=15∨k=16 then 0 else 1125899906842624
noncomputable def Is(s:List UInt8):Bool:=(GZ s).getD false
noncomputable def C9(k num:Int)(s:List UInt8):Bool:=if k=4 then C3 s else if k=5 then Hy s else if k=6 then s== []||AU s(u64.wrap(max num 0))else if k=11∨k=13 then CD s else if k=12 then Is s else if k=14 then EI s else if k=15 then !(s== [])&&EI s else s== []
def E1(k:Int)(dy:Bool)(fr to:Int):Int:=
 if((k==18&&fr !=0)||decide(fr< -25567)||decide(fr>84005))=true then 15
 else if((to !=0)&&(!dy||decide(to≤fr)))=true then 24 else if decide(to>84006)=true then 15 else 0
def GP(fm cb tb:Bool)(p D num lo hi len:Int):Int:=
 if(!(fm==(p==0)))=true then 2 else if(D !=0)=true then D else if(!cb)=true then 12
 else if(decide(num<lo)||decide(num>hi))=true then 2 else if decide(len>4096)=true then 4 else if(!tb)=true then 3 else 0
noncomputable def AM(x:Int×Int×Int×Int×Int×List UInt8×Int×List UInt8):Int:=if 1≤x.2.2.1∧x.2.2.1≤18 then GP(Cy x.2.2.1)(Cb x.2.2.1 x.2.2.2.2.2.1)(C9 x.2.2.1 x.2.2.2.2.2.2.1 x.2.2.2.2.2.2.2)x.2.1(E1 x.2.2.1(BY x.2.2.1)x.2.2.2.1 x.2.2.2.2.1)x.2.2.2.2.2.2.1(Cu x.2.2.1)(Cr x.2.2.1)(x.2.2.2.2.2.2.2.length:Int)else 11
theorem RD{k:Int}(h:1≤k∧k≤18):k=1∨k=2∨k=3∨k=4∨k=5∨k=6∨k=7∨k=8∨k=9∨k=10∨k=11∨k=12∨k=13∨k=14∨k=15∨k=16∨k=17∨k=18:=by omega
theorem CM(a p k fr to:Int)(cd:List UInt8)(n:Int)(tx nm:List UInt8)(fm dy:Bool)(cf:Unit⊕(Unit⊕(Unit⊕(Unit⊕Unit))))(lo hi:Int)(tf):
  KZ((a,p,k,fr,to,cd,n,tx),(nm,fm,dy,cf,lo,hi,tf))=some(E1 k dy fr to):=by
 unfold KZ;dsimp only;simp only[gPi,gSS,gPb,gPm,gPs,gM,gM2,Ar,gOr,As,Aw,gAA,gAO,gOA,gOO,Ao,Aq,At,Av,Ap,Au,gId];simp only[A0,A1,A2,A3,A4,A5,A6,A7,gId,A8,gMb,gMm,gBm,gBb,bs,ms];unfold E1;obtain⟨q1,h1⟩: ∃q,(k==18)=q:=⟨_,rfl⟩;obtain⟨q2,h2⟩: ∃q,(fr !=0)=q:=⟨_,rfl⟩;obtain⟨q3,h3⟩: ∃q,decide(fr< -25567)=q:=⟨_,rfl⟩;obtain⟨q4,h4⟩: ∃q,decide(fr>84005)=q:=⟨_,rfl⟩;obtain⟨q5,h5⟩: ∃q,(to !=0)=q:=⟨_,rfl⟩;obtain⟨q6,h6⟩: ∃q,decide(to≤fr)=q:=⟨_,rfl⟩;obtain⟨q7,h7⟩: ∃q,decide(to>84006)=q:=⟨_,rfl⟩;simp only[h1,h2,h3,h4];cases q1<;>cases q2<;>cases q3<;>cases q4<;>(simp only[Ag,if_false,if_true,bs,h5,h6,h7];cases q5<;>cases q6<;>cases q7<;>cases dy<;>rfl)
theorem CN(fm cb tb:Bool)(p D num lo hi len:Int):
  (if(!(fm==(p==(0:Int))))=true then some(2:Int)else(some D).bind fun x21=>if(x21 !=0)=true then some x21 else((some cb).map fun v=>v).bind fun x30=>if(!x30)=true then some 12 else
   (if decide(num<lo)=true then some true else some(decide(num>hi))).bind fun x44=>if x44=true then some 2 else if decide(len>4096)=true then some 4 else
   ((some tb).map fun v=>v).bind fun x54=>if(!x54)=true then some 3 else some 0)=some(GP fm cb tb p D num lo hi len):=by
 unfold GP;obtain⟨q1,h1⟩: ∃q,(p==0)=q:=⟨_,rfl⟩;obtain⟨q2,h2⟩: ∃q,(D !=0)=q:=⟨_,rfl⟩;obtain⟨q3,h3⟩: ∃q,decide(num<lo)=q:=⟨_,rfl⟩;obtain⟨q4,h4⟩: ∃q,decide(num>hi)=q:=⟨_,rfl⟩;obtain⟨q5,h5⟩: ∃q,decide(len>4096)=q:=⟨_,rfl⟩;simp only[h1,h2,h3,h4,h5,bs];cases fm<;>cases q1<;>cases q2<;>cases q3<;>cases q4<;>cases q5<;>cases cb<;>cases tb<;>rfl
theorem S7{s:List UInt8}(h:s.length≤4900):GZ s=some(Is s)∧I2 s=some(Is s):=by
 obtain⟨b,h1,h2⟩:=Y4 h;unfold Is;rw[h1];exact⟨rfl,h2⟩
theorem Aby{x:Int×Int×Int×Int×Int×List UInt8×Int×List UInt8}(h:x.2.2.2.2.2.2.2.length≤4900):Lk x=some(C3 x.2.2.2.2.2.2.2):=by
 obtain⟨v,e,h1,h2⟩:=Abx(s:=x.2.2.2.2.2.2.2)(by omega);unfold Lk;dsimp only;rw[h1,bs,←h2]
theorem OT(n:Int):0≤u64.wrap n∧u64.wrap n≤18446744073709551615:=by rw[IntKind.wrap_u64];omega
theorem Yo{x:Int×Int×Int×Int×Int×List UInt8×Int×List UInt8}(h:x.2.2.2.2.2.2.2.length≤4900):Lc x=some(x.2.2.2.2.2.2.2== []||AU x.2.2.2.2.2.2.2(u64.wrap(max x.2.2.2.2.2.2.1 0))):=by
 unfold Lc;dsimp only;rw[Hc(by omega)(OT _).2,bs];dsimp only;cases x.2.2.2.2.2.2.2== []<;>rfl
theorem Aa3{s:List UInt8}(h:s.length≤4900):(if(!(s== []))=true then Ha s else some false)=some(!(s== [])&&EI s):=by
 rw[SI(by omega)];cases s== []<;>rfl
theorem Wq{s:List UInt8}(h:s.length≤4900):Le s=some(s== []||CD s):=by
 unfold Le;dsimp only;simp only[gPi,gSS,gPb,gPm,gPs,gM,gM2,Ar,gOr,As,Aw,gAA,gAO,gOA,gOO,Ao,Aq,At,Av,Ap,Au,gId];simp only[A0,A1,A2,A3,A4,A5,A6,A7,gId,A8,gMb,gMm,gBm,gBb,bs,ms];rw[Fd(by omega)];cases s== []<;>rfl
theorem Vn(a p fr to n:Int)(cd tx:List UInt8)(hc:cd.length≤4900)(ht:tx.length≤4900):AY(a,p,1,fr,to,cd,n,tx)=some(AM(a,p,1,fr,to,cd,n,tx)):=by
 have e1:=show DZ cd=some(cd== [])from rfl;have e2:=show Eb(a,p,1,fr,to,cd,n,tx)=some(tx== [])from rfl;unfold AY;dsimp only;rw[show Ch 1=some true from rfl,bs];rw[show Cq()=some _ from rfl];simp only[gPi,gSS,gPb,gPm,gPs,gM,gM2,Ar,gOr,As,Aw,gAA,gAO,gOA,gOO,Ao,Aq,At,Av,Ap,Au,gId];simp only[A0,A1,A2,A3,A4,A5,A6,A7,gId,A8,gMb,gMm,gBm,gBb,bs,ms];rw[if_neg(by decide)];rw[show lAt _(1:Int)=some _ from AW(i:=1)rfl,bs];dsimp only;rw[CM,e1];try rw[e2]
 exact CN _ _ _ _ _ _ _ _ _
theorem Vx(a p fr to n:Int)(cd tx:List UInt8)(hc:cd.length≤4900)(ht:tx.length≤4900):AY(a,p,2,fr,to,cd,n,tx)=some(AM(a,p,2,fr,to,cd,n,tx)):=by
 have e1:=show DZ cd=some(cd== [])from rfl;have e2:=show Eb(a,p,2,fr,to,cd,n,tx)=some(tx== [])from rfl;unfold AY;dsimp only;rw[show Ch 2=some true from rfl,bs];rw[show Cq()=some _ from rfl];simp only[gPi,gSS,gPb,gPm,gPs,gM,gM2,Ar,gOr,As,Aw,gAA,gAO,gOA,gOO,Ao,Aq,At,Av,Ap,Au,gId];simp only[A0,A1,A2,A3,A4,A5,A6,A7,gId,A8,gMb,gMm,gBm,gBb,bs,ms];rw[if_neg(by decide)];rw[show lAt _(2:Int)=some _ from AW(i:=2)rfl,bs];dsimp only;rw[CM,e1];try rw[e2]
 exact CN _ _ _ _ _ _ _ _ _
theorem Vy(a p fr to n:Int)(cd tx:List UInt8)(hc:cd.length≤4900)(ht:tx.length≤4900):AY(a,p,3,fr,to,cd,n,tx)=some(AM(a,p,3,fr,to,cd,n,tx)):=by
 have e1:=show DZ cd=some(cd== [])from rfl;have e2:=show Eb(a,p,3,fr,to,cd,n,tx)=some(tx== [])from rfl;unfold AY;dsimp only;rw[show Ch 3=some true from rfl,bs];rw[show Cq()=some _ from rfl];simp only[gPi,gSS,gPb,gPm,gPs,gM,gM2,Ar,gOr,As,Aw,gAA,gAO,gOA,gOO,Ao,Aq,At,Av,Ap,Au,gId];simp only[A0,A1,A2,A3,A4,A5,A6,A7,gId,A8,gMb,gMm,gBm,gBb,bs,ms];rw[if_neg(by decide)];rw[show lAt _(3:Int)=some _ from AW(i:=3)rfl,bs];dsimp only;rw[CM,e1];try rw[e2]
 exact CN _ _ _ _ _ _ _ _ _
theorem Vz(a p fr to n:Int)(cd tx:List UInt8)(hc:cd.length≤4900)(ht:tx.length≤4900):AY(a,p,4,fr,to,cd,n,tx)=some(AM(a,p,4,fr,to,cd,n,tx)):=by
 have e1:=show DZ cd=some(cd== [])from rfl;have e2:=Aby(x:=(a,p,4,fr,to,cd,n,tx))ht;unfold AY;dsimp only;rw[show Ch 4=some true from rfl,bs];rw[show Cq()=some _ from rfl];simp only[gPi,gSS,gPb,gPm,gPs,gM,gM2,Ar,gOr,As,Aw,gAA,gAO,gOA,gOO,Ao,Aq,At,Av,Ap,Au,gId];simp only[A0,A1,A2,A3,A4,A5,A6,A7,gId,A8,gMb,gMm,gBm,gBb,bs,ms];rw[if_neg(by decide)];rw[show lAt _(4:Int)=some _ from AW(i:=4)rfl,bs];dsimp only;rw[CM,e1];try rw[e2]
 exact CN _ _ _ _ _ _ _ _ _
theorem V0(a p fr to n:Int)(cd tx:List UInt8)(hc:cd.length≤4900)(ht:tx.length≤4900):AY(a,p,5,fr,to,cd,n,tx)=some(AM(a,p,5,fr,to,cd,n,tx)):=by
 have e1:=show DZ cd=some(cd== [])from rfl;have e2:=show Lh(a,p,5,fr,to,cd,n,tx)=some(Hy tx)from(show Lh(a,p,5,fr,to,cd,n,tx)=(Jp tx).bind fun x=>some x from rfl).trans(by rw[Abz(by omega)];rfl);unfold AY;dsimp only;rw[show Ch 5=some true from rfl,bs];rw[show Cq()=some _ from rfl];simp only[gPi,gSS,gPb,gPm,gPs,gM,gM2,Ar,gOr,As,Aw,gAA,gAO,gOA,gOO,Ao,Aq,At,Av,Ap,Au,gId];simp only[A0,A1,A2,A3,A4,A5,A6,A7,gId,A8,gMb,gMm,gBm,gBb,bs,ms];rw[if_neg(by decide)];rw[show lAt _(5:Int)=some _ from AW(i:=5)rfl,bs];dsimp only;rw[CM,e1];try rw[e2]
 exact CN _ _ _ _ _ _ _ _ _
theorem V1(a p fr to n:Int)(cd tx:List UInt8)(hc:cd.length≤4900)(ht:tx.length≤4900):AY(a,p,6,fr,to,cd,n,tx)=some(AM(a,p,6,fr,to,cd,n,tx)):=by
 have e1:=Wq hc;have e2:=Yo(x:=(a,p,6,fr,to,cd,n,tx))ht;unfold AY;dsimp only;rw[show Ch 6=some true from rfl,bs];rw[show Cq()=some _ from rfl];simp only[gPi,gSS,gPb,gPm,gPs,gM,gM2,Ar,gOr,As,Aw,gAA,gAO,gOA,gOO,Ao,Aq,At,Av,Ap,Au,gId];simp only[A0,A1,A2,A3,A4,A5,A6,A7,gId,A8,gMb,gMm,gBm,gBb,bs,ms];rw[if_neg(by decide)];rw[show lAt _(6:Int)=some _ from AW(i:=6)rfl,bs];dsimp only;rw[CM,e1];try rw[e2]
 exact CN _ _ _ _ _ _ _ _ _
theorem V2(a p fr to n:Int)(cd tx:List UInt8)(hc:cd.length≤4900)(ht:tx.length≤4900):AY(a,p,7,fr,to,cd,n,tx)=some(AM(a,p,7,fr,to,cd,n,tx)):=by
 have e1:=UP cd;have e2:=show Eb(a,p,7,fr,to,cd,n,tx)=some(tx== [])from rfl;unfold AY;dsimp only;rw[show Ch 7=some true from rfl,bs];rw[show Cq()=some _ from rfl];simp only[gPi,gSS,gPb,gPm,gPs,gM,gM2,Ar,gOr,As,Aw,gAA,gAO,gOA,gOO,Ao,Aq,At,Av,Ap,Au,gId];simp only[A0,A1,A2,A3,A4,A5,A6,A7,gId,A8,gMb,gMm,gBm,gBb,bs,ms];rw[if_neg(by decide)];rw[show lAt _(7:Int)=some _ from AW(i:=7)rfl,bs];dsimp only;rw[CM,e1];try rw[e2]
 exact CN _ _ _ _ _ _ _ _ _
theorem V3(a p fr to n:Int)(cd tx:List UInt8)(hc:cd.length≤4900)(ht:tx.length≤4900):AY(a,p,8,fr,to,cd,n,tx)=some(AM(a,p,8,fr,to,cd,n,tx)):=by
 have e1:=Fd(s:=cd)(by omega);have e2:=show Eb(a,p,8,fr,to,cd,n,tx)=some(tx== [])from rfl;unfold AY;dsimp only;rw[show Ch 8=some true from rfl,bs];rw[show Cq()=some _ from rfl];simp only[gPi,gSS,gPb,gPm,gPs,gM,gM2,Ar,gOr,As,Aw,gAA,gAO,gOA,gOO,Ao,Aq,At,Av,Ap,Au,gId];simp only[A0,A1,A2,A3,A4,A5,A6,A7,gId,A8,gMb,gMm,gBm,gBb,bs,ms];rw[if_neg(by decide)];rw[show lAt _(8:Int)=some _ from AW(i:=8)rfl,bs];dsimp only;rw[CM,e1];try rw[e2]
 exact CN _ _ _ _ _ _ _ _ _
theorem V4(a p fr to n:Int)(cd tx:List UInt8)(hc:cd.length≤4900)(ht:tx.length≤4900):AY(a,p,9,fr,to,cd,n,tx)=some(AM(a,p,9,fr,to,cd,n,tx)):=by
 have e1:=Fd(s:=cd)(by omega);have e2:=show Eb(a,p,9,fr,to,cd,n,tx)=some(tx== [])from rfl;unfold AY;dsimp only;rw[show Ch 9=some true from rfl,bs];rw[show Cq()=some _ from rfl];simp only[gPi,gSS,gPb,gPm,gPs,gM,gM2,Ar,gOr,As,Aw,gAA,gAO,gOA,gOO,Ao,Aq,At,Av,Ap,Au,gId];simp only[A0,A1,A2,A3,A4,A5,A6,A7,gId,A8,gMb,gMm,gBm,gBb,bs,ms];rw[if_neg(by decide)];rw[show lAt _(9:Int)=some _ from AW(i:=9)rfl,bs];dsimp only;rw[CM,e1];try rw[e2]
 exact CN _ _ _ _ _ _ _ _ _
theorem Vo(a p fr to n:Int)(cd tx:List UInt8)(hc:cd.length≤4900)(ht:tx.length≤4900):AY(a,p,10,fr,to,cd,n,tx)=some(AM(a,p,10,fr,to,cd,n,tx)):=by
 have e1:=Fd(s:=cd)(by omega);have e2:=show Eb(a,p,10,fr,to,cd,n,tx)=some(tx== [])from rfl;unfold AY;dsimp only;rw[show Ch 10=some true from rfl,bs];rw[show Cq()=some _ from rfl];simp only[gPi,gSS,gPb,gPm,gPs,gM,gM2,Ar,gOr,As,Aw,gAA,gAO,gOA,gOO,Ao,Aq,At,Av,Ap,Au,gId];simp only[A0,A1,A2,A3,A4,A5,A6,A7,gId,A8,gMb,gMm,gBm,gBb,bs,ms];rw[if_neg(by decide)];rw[show lAt _(10:Int)=some _ from AW(i:=10)rfl,bs];dsimp only;rw[CM,e1];try rw[e2]
 exact CN _ _ _ _ _ _ _ _ _
theorem Vp(a p fr to n:Int)(cd tx:List UInt8)(hc:cd.length≤4900)(ht:tx.length≤4900):AY(a,p,11,fr,to,cd,n,tx)=some(AM(a,p,11,fr,to,cd,n,tx)):=by
 have e1:=show DZ cd=some(cd== [])from rfl;have e2:=show HT(a,p,11,fr,to,cd,n,tx)=some(CD tx)from(show HT(a,p,11,fr,to,cd,n,tx)=(F6 tx).bind fun x=>some x from rfl).trans(by rw[Fd(by omega)];rfl);unfold AY;dsimp only;rw[show Ch 11=some true from rfl,bs];rw[show Cq()=some _ from rfl];simp only[gPi,gSS,gPb,gPm,gPs,gM,gM2,Ar,gOr,As,Aw,gAA,gAO,gOA,gOO,Ao,Aq,At,Av,Ap,Au,gId];simp only[A0,A1,A2,A3,A4,A5,A6,A7,gId,A8,gMb,gMm,gBm,gBb,bs,ms];rw[if_neg(by decide)];rw[show lAt _(11:Int)=some _ from AW(i:=11)rfl,bs];dsimp only;rw[CM,e1];try rw[e2]
 exact CN _ _ _ _ _ _ _ _ _
theorem Vq(a p fr to n:Int)(cd tx:List UInt8)(hc:cd.length≤4900)(ht:tx.length≤4900):AY(a,p,12,fr,to,cd,n,tx)=some(AM(a,p,12,fr,to,cd,n,tx)):=by
 have e1:=Fd(s:=cd)(by omega);have e2:=show Li(a,p,12,fr,to,cd,n,tx)=some(Is tx)from(show Li(a,p,12,fr,to,cd,n,tx)=(GZ tx).bind fun x=>some x from rfl).trans(by rw[(S7 ht).1];rfl);unfold AY;dsimp only;rw[show Ch 12=some true from rfl,bs];rw[show Cq()=some _ from rfl];simp only[gPi,gSS,gPb,gPm,gPs,gM,gM2,Ar,gOr,As,Aw,gAA,gAO,gOA,gOO,Ao,Aq,At,Av,Ap,Au,gId];simp only[A0,A1,A2,A3,A4,A5,A6,A7,gId,A8,gMb,gMm,gBm,gBb,bs,ms];rw[if_neg(by decide)];rw[show lAt _(12:Int)=some _ from AW(i:=12)rfl,bs];dsimp only;rw[CM,e1];try rw[e2]
 exact CN _ _ _ _ _ _ _ _ _
theorem Vr(a p fr to n:Int)(cd tx:List UInt8)(hc:cd.length≤4900)(ht:tx.length≤4900):AY(a,p,13,fr,to,cd,n,tx)=some(AM(a,p,13,fr,to,cd,n,tx)):=by
 have e1:=show DZ cd=some(cd== [])from rfl;have e2:=show HT(a,p,13,fr,to,cd,n,tx)=some(CD tx)from(show HT(a,p,13,fr,to,cd,n,tx)=(F6 tx).bind fun x=>some x from rfl).trans(by rw[Fd(by omega)];rfl);unfold AY;dsimp only;rw[show Ch 13=some true from rfl,bs];rw[show Cq()=some _ from rfl];simp only[gPi,gSS,gPb,gPm,gPs,gM,gM2,Ar,gOr,As,Aw,gAA,gAO,gOA,gOO,Ao,Aq,At,Av,Ap,Au,gId];simp only[A0,A1,A2,A3,A4,A5,A6,A7,gId,A8,gMb,gMm,gBm,gBb,bs,ms];rw[if_neg(by decide)];rw[show lAt _(13:Int)=some _ from AW(i:=13)rfl,bs];dsimp only;rw[CM,e1];try rw[e2]
 exact CN _ _ _ _ _ _ _ _ _
theorem Vs(a p fr to n:Int)(cd tx:List UInt8)(hc:cd.length≤4900)(ht:tx.length≤4900):AY(a,p,14,fr,to,cd,n,tx)=some(AM(a,p,14,fr,to,cd,n,tx)):=by
 have e1:=Fd(s:=cd)(by omega);have e2:=show Lf(a,p,14,fr,to,cd,n,tx)=some(EI tx)from(show Lf(a,p,14,fr,to,cd,n,tx)=(Ha tx).bind fun x=>some x from rfl).trans(by rw[SI(by omega)];rfl);unfold AY;dsimp only;rw[show Ch 14=some true from rfl,bs];rw[show Cq()=some _ from rfl];simp only[gPi,gSS,gPb,gPm,gPs,gM,gM2,Ar,gOr,As,Aw,gAA,gAO,gOA,gOO,Ao,Aq,At,Av,Ap,Au,gId];simp only[A0,A1,A2,A3,A4,A5,A6,A7,gId,A8,gMb,gMm,gBm,gBb,bs,ms];rw[if_neg(by decide)];rw[show lAt _(14:Int)=some _ from AW(i:=14)rfl,bs];dsimp only;rw[CM,e1];try rw[e2]
 exact CN _ _ _ _ _ _ _ _ _
theorem Vt(a p fr to n:Int)(cd tx:List UInt8)(hc:cd.length≤4900)(ht:tx.length≤4900):AY(a,p,15,fr,to,cd,n,tx)=some(AM(a,p,15,fr,to,cd,n,tx)):=by
 have e1:=Fd(s:=cd)(by omega);have e2:=show Lg(a,p,15,fr,to,cd,n,tx)=some(!(tx== [])&&EI tx)from(by unfold Lg;dsimp only;simp only[gPi,gSS,gPb,gPm,gPs,gM,gM2,Ar,gOr,As,Aw,gAA,gAO,gOA,gOO,Ao,Aq,At,Av,Ap,Au,gId];simp only[A0,A1,A2,A3,A4,A5,A6,A7,gId,A8,gMb,gMm,gBm,gBb,bs,ms];exact Aa3 ht);unfold AY;dsimp only;rw[show Ch 15=some true from rfl,bs];rw[show Cq()=some _ from rfl];simp only[gPi,gSS,gPb,gPm,gPs,gM,gM2,Ar,gOr,As,Aw,gAA,gAO,gOA,gOO,Ao,Aq,At,Av,Ap,Au,gId];simp only[A0,A1,A2,A3,A4,A5,A6,A7,gId,A8,gMb,gMm,gBm,gBb,bs,ms];rw[if_neg(by decide)];rw[show lAt _(15:Int)=some _ from AW(i:=15)rfl,bs];dsimp only;rw[CM,e1];try rw[e2]
 exact CN _ _ _ _ _ _ _ _ _
theorem Vu(a p fr to n:Int)(cd tx:List UInt8)(hc:cd.length≤4900)(ht:tx.length≤4900):AY(a,p,16,fr,to,cd,n,tx)=some(AM(a,p,16,fr,to,cd,n,tx)):=by
 have e1:=show DZ cd=some(cd== [])from rfl;have e2:=show Eb(a,p,16,fr,to,cd,n,tx)=some(tx== [])from rfl;unfold AY;dsimp only;rw[show Ch 16=some true from rfl,bs];rw[show Cq()=some _ from rfl];simp only[gPi,gSS,gPb,gPm,gPs,gM,gM2,Ar,gOr,As,Aw,gAA,gAO,gOA,gOO,Ao,Aq,At,Av,Ap,Au,gId];simp only[A0,A1,A2,A3,A4,A5,A6,A7,gId,A8,gMb,gMm,gBm,gBb,bs,ms];rw[if_neg(by decide)];rw[show lAt _(16:Int)=some _ from AW(i:=16)rfl,bs];dsimp only;rw[CM,e1];try rw[e2]
 exact CN _ _ _ _ _ _ _ _ _
theorem Vv(a p fr to n:Int)(cd tx:List UInt8)(hc:cd.length≤4900)(ht:tx.length≤4900):AY(a,p,17,fr,to,cd,n,tx)=some(AM(a,p,17,fr,to,cd,n,tx)):=by
 have e1:=show DZ cd=some(cd== [])from rfl;have e2:=show Eb(a,p,17,fr,to,cd,n,tx)=some(tx== [])from rfl;unfold AY;dsimp only;rw[show Ch 17=some true from rfl,bs];rw[show Cq()=some _ from rfl];simp only[gPi,gSS,gPb,gPm,gPs,gM,gM2,Ar,gOr,As,Aw,gAA,gAO,gOA,gOO,Ao,Aq,At,Av,Ap,Au,gId];simp only[A0,A1,A2,A3,A4,A5,A6,A7,gId,A8,gMb,gMm,gBm,gBb,bs,ms];rw[if_neg(by decide)];rw[show lAt _(17:Int)=some _ from AW(i:=17)rfl,bs];dsimp only;rw[CM,e1];try rw[e2]
 exact CN _ _ _ _ _ _ _ _ _
theorem Vw(a p fr to n:Int)(cd tx:List UInt8)(hc:cd.length≤4900)(ht:tx.length≤4900):AY(a,p,18,fr,to,cd,n,tx)=some(AM(a,p,18,fr,to,cd,n,tx)):=by
 have e1:=show DZ cd=some(cd== [])from rfl;have e2:=show Eb(a,p,18,fr,to,cd,n,tx)=some(tx== [])from rfl;unfold AY;dsimp only;rw[show Ch 18=some true from rfl,bs];rw[show Cq()=some _ from rfl];simp only[gPi,gSS,gPb,gPm,gPs,gM,gM2,Ar,gOr,As,Aw,gAA,gAO,gOA,gOO,Ao,Aq,At,Av,Ap,Au,gId];simp only[A0,A1,A2,A3,A4,A5,A6,A7,gId,A8,gMb,gMm,gBm,gBb,bs,ms];rw[if_neg(by decide)];rw[show lAt _(18:Int)=some _ from AW(i:=18)rfl,bs];dsimp only;rw[CM,e1];try rw[e2]
 exact CN _ _ _ _ _ _ _ _ _
theorem CS{a p k fr to n:Int}{cd tx:List UInt8}{fm dy cb tb tb':Bool}{lo hi:Int}(hk:1≤k∧k≤18)(hF:Oz k=some fm)(hD:Oy k=some dy)(hC:EM(a,p,k,fr,to,cd,n,tx)=some cb)
  (hN:C2(a,p,k,fr,to,cd,n,tx)=if decide(n≥lo)=true then some(decide(n≤hi))else some false)(hT:DJ(a,p,k,fr,to,cd,n,tx)=some tb')(htt:lo≤n→n≤hi→tb'=tb):
  BN(a,p,k,fr,to,cd,n,tx)=some(GP fm cb tb p(E1 k dy fr to)n lo hi(tx.length:Int)):=by
 unfold BN;dsimp only;simp only[gPi,gSS,gPb,gPm,gPs,gM,gM2,Ar,gOr,As,Aw,gAA,gAO,gOA,gOO,Ao,Aq,At,Av,Ap,Au,gId];simp only[A0,A1,A2,A3,A4,A5,A6,A7,gId,A8,gMb,gMm,gBm,gBb,bs,ms];have c1:decide(k<1)=false:=Ak(by omega);have c2:decide(k>18)=false:=Ak(by omega)
 have hI:Mb fr=some(!(decide(fr< -25567)||decide(fr>84005))):=by
  unfold Mb;simp only[gPi,gSS,gPb,gPm,gPs,gM,gM2,Ar,gOr,As,Aw,gAA,gAO,gOA,gOO,Ao,Aq,At,Av,Ap,Au,gId];by_cases h1:fr≥ -25567<;>by_cases h2:fr≤84005<;>simp[h1,h2]<;>omega
 have hn:(if decide(n≥lo)=true then some(decide(n≤hi))else some false)=some(!(decide(n<lo)||decide(n>hi))):=by
  by_cases h1:n≥lo<;>by_cases h2:n≤hi<;>simp[h1,h2]<;>omega
 simp only[c1,c2,Ag,if_false,bs,hF,hD,hC,hN,hn,hT,hI];unfold GP E1
 have ht:tb'=tb∨(decide(n<lo)||decide(n>hi))=true:=by
  by_cases h1:lo≤n
  ·by_cases h2:n≤hi
   ·exact .inl(htt h1 h2)
   ·exact .inr(by simp;omega)
  ·exact .inr(by simp;omega)
 obtain⟨q1,h1⟩: ∃q,(k==18)=q:=⟨_,rfl⟩;obtain⟨q2,h2⟩: ∃q,(fr !=0)=q:=⟨_,rfl⟩;obtain⟨q3,h3⟩: ∃q,decide(fr< -25567)=q:=⟨_,rfl⟩;obtain⟨q4,h4⟩: ∃q,decide(fr>84005)=q:=⟨_,rfl⟩;obtain⟨q5,h5⟩: ∃q,(to !=0)=q:=⟨_,rfl⟩;obtain⟨q6,h6⟩: ∃q,decide(to≤fr)=q:=⟨_,rfl⟩;obtain⟨q7,h7⟩: ∃q,decide(to>84006)=q:=⟨_,rfl⟩;obtain⟨q8,h8⟩: ∃q,(p==0)=q:=⟨_,rfl⟩;obtain⟨q9,h9⟩: ∃q,(decide(n<lo)||decide(n>hi))=q:=⟨_,rfl⟩;obtain⟨q10,h10⟩: ∃q,decide((tx.length:Int)>4096)=q:=⟨_,rfl⟩;rw[h9]at ht;simp only[h1,h2,h3,h4,h5,h6,h7,h8,h9,h10]
 cases hq:(!(fm==q8))with
 |true=>rfl
 |false=>
  simp only[Ag,if_false]
  have e1:(if(!!(q3||q4))=true then some true else if q1=true then some q2 else some false)=some((q1&&q2)||q3||q4):=by
   cases q1<;>cases q2<;>cases q3<;>cases q4<;>rfl
  rw[e1,bs]
  cases((q1&&q2)||q3||q4)with
  |true=>rfl
  |false=>
   simp only[Ag,if_false]
   have e2:(if q5=true then if(!dy)=true then some true else some q6 else some false)=some(q5&&(!dy||q6)):=by
    cases q5<;>cases dy<;>cases q6<;>rfl
   rw[e2,bs]
   cases(q5&&(!dy||q6))with
   |true=>rfl
   |false=>
    simp only[Ag,if_false]
    cases q7 with
    |true=>rfl
    |false=>
     simp only[Ag,if_false];rcases ht with rfl|rfl
     ·cases cb<;>cases q9<;>cases q10<;>cases tb'<;>rfl
     ·cases cb<;>rfl
theorem YY(a p fr to n:Int)(cd tx:List UInt8)(hc:cd.length≤4900)(ht:tx.length≤4900):BN(a,p,1,fr,to,cd,n,tx)=some(AM(a,p,1,fr,to,cd,n,tx)):=
 CS(k:=1)(fm:=Cy 1)(dy:=BY 1)(cb:=Cb 1 cd)(tb:=C9 1 n tx)(tb':=tx== [])(lo:=Cu 1)(hi:=Cr 1)(by decide)rfl rfl
  rfl
  (by unfold C2;dsimp only;simp only[gPi,gSS,gPb,gPm,gPs,gM,gM2,Ar,gOr,As,Aw,gAA,gAO,gOA,gOO,Ao,Aq,At,Av,Ap,Au,gId];simp only[A0,A1,A2,A3,A4,A5,A6,A7,gId,A8,gMb,gMm,gBm,gBb,bs,ms];rfl)
  rfl
  (fun _ _=>rfl)
theorem Zi(a p fr to n:Int)(cd tx:List UInt8)(hc:cd.length≤4900)(ht:tx.length≤4900):BN(a,p,2,fr,to,cd,n,tx)=some(AM(a,p,2,fr,to,cd,n,tx)):=
 CS(k:=2)(fm:=Cy 2)(dy:=BY 2)(cb:=Cb 2 cd)(tb:=C9 2 n tx)(tb':=tx== [])(lo:=Cu 2)(hi:=Cr 2)(by decide)rfl rfl
  rfl
  (by unfold C2;dsimp only;simp only[gPi,gSS,gPb,gPm,gPs,gM,gM2,Ar,gOr,As,Aw,gAA,gAO,gOA,gOO,Ao,Aq,At,Av,Ap,Au,gId];simp only[A0,A1,A2,A3,A4,A5,A6,A7,gId,A8,gMb,gMm,gBm,gBb,bs,ms];rfl)
  rfl
  (fun _ _=>rfl)
theorem Zj(a p fr to n:Int)(cd tx:List UInt8)(hc:cd.length≤4900)(ht:tx.length≤4900):BN(a,p,3,fr,to,cd,n,tx)=some(AM(a,p,3,fr,to,cd,n,tx)):=
 CS(k:=3)(fm:=Cy 3)(dy:=BY 3)(cb:=Cb 3 cd)(tb:=C9 3 n tx)(tb':=tx== [])(lo:=Cu 3)(hi:=Cr 3)(by decide)rfl rfl
  rfl
  (by unfold C2;dsimp only;simp only[gPi,gSS,gPb,gPm,gPs,gM,gM2,Ar,gOr,As,Aw,gAA,gAO,gOA,gOO,Ao,Aq,At,Av,Ap,Au,gId];simp only[A0,A1,A2,A3,A4,A5,A6,A7,gId,A8,gMb,gMm,gBm,gBb,bs,ms];rfl)
  rfl
  (fun _ _=>rfl)
theorem Zk(a p fr to n:Int)(cd tx:List UInt8)(hc:cd.length≤4900)(ht:tx.length≤4900):BN(a,p,4,fr,to,cd,n,tx)=some(AM(a,p,4,fr,to,cd,n,tx)):=
 CS(k:=4)(fm:=Cy 4)(dy:=BY 4)(cb:=Cb 4 cd)(tb:=C9 4 n tx)(tb':=C3 tx)(lo:=Cu 4)(hi:=Cr 4)(by decide)rfl rfl
  rfl
  (by unfold C2;dsimp only;simp only[gPi,gSS,gPb,gPm,gPs,gM,gM2,Ar,gOr,As,Aw,gAA,gAO,gOA,gOO,Ao,Aq,At,Av,Ap,Au,gId];simp only[A0,A1,A2,A3,A4,A5,A6,A7,gId,A8,gMb,gMm,gBm,gBb,bs,ms];rfl)
  (by obtain⟨v,e,h1,h2⟩:=YX(s:=tx)(by omega);refine(show DJ(a,p,4,fr,to,cd,n,tx)=(JQ tx).bind fun x14=>some(x14.2==0)from rfl).trans ?_;rw[h1,bs,←h2])
  (fun _ _=>rfl)
theorem Zl(a p fr to n:Int)(cd tx:List UInt8)(hc:cd.length≤4900)(ht:tx.length≤4900):BN(a,p,5,fr,to,cd,n,tx)=some(AM(a,p,5,fr,to,cd,n,tx)):=
 CS(k:=5)(fm:=Cy 5)(dy:=BY 5)(cb:=Cb 5 cd)(tb:=C9 5 n tx)(tb':=Hy tx)(lo:=Cu 5)(hi:=Cr 5)(by decide)rfl rfl
  rfl
  (by unfold C2;dsimp only;simp only[gPi,gSS,gPb,gPm,gPs,gM,gM2,Ar,gOr,As,Aw,gAA,gAO,gOA,gOO,Ao,Aq,At,Av,Ap,Au,gId];simp only[A0,A1,A2,A3,A4,A5,A6,A7,gId,A8,gMb,gMm,gBm,gBb,bs,ms];rfl)
  ((show DJ(a,p,5,fr,to,cd,n,tx)=(JU tx).bind fun x=>some x from rfl).trans(by rw[Zv(by omega)];rfl))
  (fun _ _=>rfl)
theorem Zm(a p fr to n:Int)(cd tx:List UInt8)(hc:cd.length≤4900)(ht:tx.length≤4900):BN(a,p,6,fr,to,cd,n,tx)=some(AM(a,p,6,fr,to,cd,n,tx)):=
 CS(k:=6)(fm:=Cy 6)(dy:=BY 6)(cb:=Cb 6 cd)(tb:=C9 6 n tx)(tb':=tx== []||AU tx(u64.wrap n))(lo:=Cu 6)(hi:=Cr 6)(by decide)rfl rfl
  (by show _=some(cd== []||CD cd);unfold EM;dsimp only;simp only[gPi,gSS,gPb,gPm,gPs,gM,gM2,Ar,gOr,As,Aw,gAA,gAO,gOA,gOO,Ao,Aq,At,Av,Ap,Au,gId];simp only[A0,A1,A2,A3,A4,A5,A6,A7,gId,A8,gMb,gMm,gBm,gBb,bs,ms];rw[Fj(by omega)];cases cd== []<;>rfl)
  (by unfold C2;dsimp only;simp only[gPi,gSS,gPb,gPm,gPs,gM,gM2,Ar,gOr,As,Aw,gAA,gAO,gOA,gOO,Ao,Aq,At,Av,Ap,Au,gId];simp only[A0,A1,A2,A3,A4,A5,A6,A7,gId,A8,gMb,gMm,gBm,gBb,bs,ms];rfl)
  (by refine(show DJ(a,p,6,fr,to,cd,n,tx)=(Dp(tx,u64.wrap n)).bind fun x32=>if(tx== [])=true then some true else if(tx== [])=false then some x32.2 else none from ?_).trans ?_;(unfold DJ;dsimp only;simp only[gPi,gSS,gPb,gPm,gPs,gM,gM2,Ar,gOr,As,Aw,gAA,gAO,gOA,gOO,Ao,Aq,At,Av,Ap,Au,gId];simp only[A0,A1,A2,A3,A4,A5,A6,A7,gId,A8,gMb,gMm,gBm,gBb,bs,ms];rfl);rw[G1(by omega)(OT _).1(OT _).2,bs];cases tx== []<;>cases AU tx(u64.wrap n)<;>rfl)
  (fun h1 h2=>by rw[show C9 6 n tx=(tx== []||AU tx(u64.wrap(max n 0)))from rfl,Int.max_eq_left(show(0:Int)≤n from h1)])
theorem Zn(a p fr to n:Int)(cd tx:List UInt8)(hc:cd.length≤4900)(ht:tx.length≤4900):BN(a,p,7,fr,to,cd,n,tx)=some(AM(a,p,7,fr,to,cd,n,tx)):=
 CS(k:=7)(fm:=Cy 7)(dy:=BY 7)(cb:=Cb 7 cd)(tb:=C9 7 n tx)(tb':=tx== [])(lo:=Cu 7)(hi:=Cr 7)(by decide)rfl rfl
  (by show _=some(GH cd);unfold EM GH;dsimp only;simp only[gPi,gSS,gPb,gPm,gPs,gM,gM2,Ar,gOr,As,Aw,gAA,gAO,gOA,gOO,Ao,Aq,At,Av,Ap,Au,gId];simp only[A0,A1,A2,A3,A4,A5,A6,A7,gId,A8,gMb,gMm,gBm,gBb,bs,ms];obtain⟨q1,h1⟩: ∃q,(cd== [115,105,99,107])=q:=⟨_,rfl⟩;obtain⟨q2,h2⟩: ∃q,(cd== [108,101,97,118,101])=q:=⟨_,rfl⟩;obtain⟨q3,h3⟩: ∃q,(cd== [117,110,112,97,105,100])=q:=⟨_,rfl⟩;obtain⟨q4,h4⟩: ∃q,(cd== [112,97,114,101,110,116,97,108])=q:=⟨_,rfl⟩;simp only[h1,h2,h3,h4];cases q1<;>cases q2<;>cases q3<;>cases q4<;>rfl)
  (by unfold C2;dsimp only;simp only[gPi,gSS,gPb,gPm,gPs,gM,gM2,Ar,gOr,As,Aw,gAA,gAO,gOA,gOO,Ao,Aq,At,Av,Ap,Au,gId];simp only[A0,A1,A2,A3,A4,A5,A6,A7,gId,A8,gMb,gMm,gBm,gBb,bs,ms];rfl)
  rfl
  (fun _ _=>rfl)
theorem Zo(a p fr to n:Int)(cd tx:List UInt8)(hc:cd.length≤4900)(ht:tx.length≤4900):BN(a,p,8,fr,to,cd,n,tx)=some(AM(a,p,8,fr,to,cd,n,tx)):=
 CS(k:=8)(fm:=Cy 8)(dy:=BY 8)(cb:=Cb 8 cd)(tb:=C9 8 n tx)(tb':=tx== [])(lo:=Cu 8)(hi:=Cr 8)(by decide)rfl rfl
  (by unfold EM;dsimp only;simp only[gPi,gSS,gPb,gPm,gPs,gM,gM2,Ar,gOr,As,Aw,gAA,gAO,gOA,gOO,Ao,Aq,At,Av,Ap,Au,gId];simp only[A0,A1,A2,A3,A4,A5,A6,A7,gId,A8,gMb,gMm,gBm,gBb,bs,ms];exact Fj(s:=cd)(by omega))
  (by unfold C2;dsimp only;simp only[gPi,gSS,gPb,gPm,gPs,gM,gM2,Ar,gOr,As,Aw,gAA,gAO,gOA,gOO,Ao,Aq,At,Av,Ap,Au,gId];simp only[A0,A1,A2,A3,A4,A5,A6,A7,gId,A8,gMb,gMm,gBm,gBb,bs,ms];rfl)
  rfl
  (fun _ _=>rfl)
theorem Zp(a p fr to n:Int)(cd tx:List UInt8)(hc:cd.length≤4900)(ht:tx.length≤4900):BN(a,p,9,fr,to,cd,n,tx)=some(AM(a,p,9,fr,to,cd,n,tx)):=
 CS(k:=9)(fm:=Cy 9)(dy:=BY 9)(cb:=Cb 9 cd)(tb:=C9 9 n tx)(tb':=tx== [])(lo:=Cu 9)(hi:=Cr 9)(by decide)rfl rfl
  (by unfold EM;dsimp only;simp only[gPi,gSS,gPb,gPm,gPs,gM,gM2,Ar,gOr,As,Aw,gAA,gAO,gOA,gOO,Ao,Aq,At,Av,Ap,Au,gId];simp only[A0,A1,A2,A3,A4,A5,A6,A7,gId,A8,gMb,gMm,gBm,gBb,bs,ms];exact Fj(s:=cd)(by omega))
  (by unfold C2;dsimp only;simp only[gPi,gSS,gPb,gPm,gPs,gM,gM2,Ar,gOr,As,Aw,gAA,gAO,gOA,gOO,Ao,Aq,At,Av,Ap,Au,gId];simp only[A0,A1,A2,A3,A4,A5,A6,A7,gId,A8,gMb,gMm,gBm,gBb,bs,ms];rfl)
  rfl
  (fun _ _=>rfl)
theorem YZ(a p fr to n:Int)(cd tx:List UInt8)(hc:cd.length≤4900)(ht:tx.length≤4900):BN(a,p,10,fr,to,cd,n,tx)=some(AM(a,p,10,fr,to,cd,n,tx)):=
 CS(k:=10)(fm:=Cy 10)(dy:=BY 10)(cb:=Cb 10 cd)(tb:=C9 10 n tx)(tb':=tx== [])(lo:=Cu 10)(hi:=Cr 10)(by decide)rfl rfl
  (by unfold EM;dsimp only;simp only[gPi,gSS,gPb,gPm,gPs,gM,gM2,Ar,gOr,As,Aw,gAA,gAO,gOA,gOO,Ao,Aq,At,Av,Ap,Au,gId];simp only[A0,A1,A2,A3,A4,A5,A6,A7,gId,A8,gMb,gMm,gBm,gBb,bs,ms];exact Fj(s:=cd)(by omega))
  (by unfold C2;dsimp only;simp only[gPi,gSS,gPb,gPm,gPs,gM,gM2,Ar,gOr,As,Aw,gAA,gAO,gOA,gOO,Ao,Aq,At,Av,Ap,Au,gId];simp only[A0,A1,A2,A3,A4,A5,A6,A7,gId,A8,gMb,gMm,gBm,gBb,bs,ms];rfl)
  rfl
  (fun _ _=>rfl)
theorem Za(a p fr to n:Int)(cd tx:List UInt8)(hc:cd.length≤4900)(ht:tx.length≤4900):BN(a,p,11,fr,to,cd,n,tx)=some(AM(a,p,11,fr,to,cd,n,tx)):=
 CS(k:=11)(fm:=Cy 11)(dy:=BY 11)(cb:=Cb 11 cd)(tb:=C9 11 n tx)(tb':=CD tx)(lo:=Cu 11)(hi:=Cr 11)(by decide)rfl rfl
  rfl
  (by unfold C2;dsimp only;simp only[gPi,gSS,gPb,gPm,gPs,gM,gM2,Ar,gOr,As,Aw,gAA,gAO,gOA,gOO,Ao,Aq,At,Av,Ap,Au,gId];simp only[A0,A1,A2,A3,A4,A5,A6,A7,gId,A8,gMb,gMm,gBm,gBb,bs,ms];rfl)
  ((show DJ(a,p,11,fr,to,cd,n,tx)=(FJ tx).bind fun x=>some x from rfl).trans(by rw[Fj(by omega)];rfl))
  (fun _ _=>rfl)
theorem Zb(a p fr to n:Int)(cd tx:List UInt8)(hc:cd.length≤4900)(ht:tx.length≤4900):BN(a,p,12,fr,to,cd,n,tx)=some(AM(a,p,12,fr,to,cd,n,tx)):=
 CS(k:=12)(fm:=Cy 12)(dy:=BY 12)(cb:=Cb 12 cd)(tb:=C9 12 n tx)(tb':=Is tx)(lo:=Cu 12)(hi:=Cr 12)(by decide)rfl rfl
  (by unfold EM;dsimp only;simp only[gPi,gSS,gPb,gPm,gPs,gM,gM2,Ar,gOr,As,Aw,gAA,gAO,gOA,gOO,Ao,Aq,At,Av,Ap,Au,gId];simp only[A0,A1,A2,A3,A4,A5,A6,A7,gId,A8,gMb,gMm,gBm,gBb,bs,ms];exact Fj(s:=cd)(by omega))
  (by unfold C2;dsimp only;simp only[gPi,gSS,gPb,gPm,gPs,gM,gM2,Ar,gOr,As,Aw,gAA,gAO,gOA,gOO,Ao,Aq,At,Av,Ap,Au,gId];simp only[A0,A1,A2,A3,A4,A5,A6,A7,gId,A8,gMb,gMm,gBm,gBb,bs,ms];rfl)
  ((show DJ(a,p,12,fr,to,cd,n,tx)=(I2 tx).bind fun x=>some x from rfl).trans(by rw[(S7 ht).2];rfl))
  (fun _ _=>rfl)
theorem Zc(a p fr to n:Int)(cd tx:List UInt8)(hc:cd.length≤4900)(ht:tx.length≤4900):BN(a,p,13,fr,to,cd,n,tx)=some(AM(a,p,13,fr,to,cd,n,tx)):=
 CS(k:=13)(fm:=Cy 13)(dy:=BY 13)(cb:=Cb 13 cd)(tb:=C9 13 n tx)(tb':=CD tx)(lo:=Cu 13)(hi:=Cr 13)(by decide)rfl rfl
  rfl
  (by unfold C2;dsimp only;simp only[gPi,gSS,gPb,gPm,gPs,gM,gM2,Ar,gOr,As,Aw,gAA,gAO,gOA,gOO,Ao,Aq,At,Av,Ap,Au,gId];simp only[A0,A1,A2,A3,A4,A5,A6,A7,gId,A8,gMb,gMm,gBm,gBb,bs,ms];rfl)
  ((show DJ(a,p,13,fr,to,cd,n,tx)=(FJ tx).bind fun x=>some x from rfl).trans(by rw[Fj(by omega)];rfl))
  (fun _ _=>rfl)
theorem Zd(a p fr to n:Int)(cd tx:List UInt8)(hc:cd.length≤4900)(ht:tx.length≤4900):BN(a,p,14,fr,to,cd,n,tx)=some(AM(a,p,14,fr,to,cd,n,tx)):=
 CS(k:=14)(fm:=Cy 14)(dy:=BY 14)(cb:=Cb 14 cd)(tb:=C9 14 n tx)(tb':=EI tx)(lo:=Cu 14)(hi:=Cr 14)(by decide)rfl rfl
  (by unfold EM;dsimp only;simp only[gPi,gSS,gPb,gPm,gPs,gM,gM2,Ar,gOr,As,Aw,gAA,gAO,gOA,gOO,Ao,Aq,At,Av,Ap,Au,gId];simp only[A0,A1,A2,A3,A4,A5,A6,A7,gId,A8,gMb,gMm,gBm,gBb,bs,ms];exact Fj(s:=cd)(by omega))
  (by unfold C2;dsimp only;simp only[gPi,gSS,gPb,gPm,gPs,gM,gM2,Ar,gOr,As,Aw,gAA,gAO,gOA,gOO,Ao,Aq,At,Av,Ap,Au,gId];simp only[A0,A1,A2,A3,A4,A5,A6,A7,gId,A8,gMb,gMm,gBm,gBb,bs,ms];rfl)
  ((show DJ(a,p,14,fr,to,cd,n,tx)=(Hs tx).bind fun x=>some x from rfl).trans(by rw[Tg(by omega)];rfl))
  (fun _ _=>rfl)
theorem Ze(a p fr to n:Int)(cd tx:List UInt8)(hc:cd.length≤4900)(ht:tx.length≤4900):BN(a,p,15,fr,to,cd,n,tx)=some(AM(a,p,15,fr,to,cd,n,tx)):=
 CS(k:=15)(fm:=Cy 15)(dy:=BY 15)(cb:=Cb 15 cd)(tb:=C9 15 n tx)(tb':= !(tx== [])&&EI tx)(lo:=Cu 15)(hi:=Cr 15)(by decide)rfl rfl
  (by unfold EM;dsimp only;simp only[gPi,gSS,gPb,gPm,gPs,gM,gM2,Ar,gOr,As,Aw,gAA,gAO,gOA,gOO,Ao,Aq,At,Av,Ap,Au,gId];simp only[A0,A1,A2,A3,A4,A5,A6,A7,gId,A8,gMb,gMm,gBm,gBb,bs,ms];exact Fj(s:=cd)(by omega))
  (by unfold C2;dsimp only;simp only[gPi,gSS,gPb,gPm,gPs,gM,gM2,Ar,gOr,As,Aw,gAA,gAO,gOA,gOO,Ao,Aq,At,Av,Ap,Au,gId];simp only[A0,A1,A2,A3,A4,A5,A6,A7,gId,A8,gMb,gMm,gBm,gBb,bs,ms];rfl)
  (by refine(show DJ(a,p,15,fr,to,cd,n,tx)=(if(!(tx== []))=true then Hs tx else some false)from ?_).trans ?_;(unfold DJ;dsimp only;simp only[gPi,gSS,gPb,gPm,gPs,gM,gM2,Ar,gOr,As,Aw,gAA,gAO,gOA,gOO,Ao,Aq,At,Av,Ap,Au,gId];simp only[A0,A1,A2,A3,A4,A5,A6,A7,gId,A8,gMb,gMm,gBm,gBb,bs,ms];rfl);rw[Tg(by omega)];cases tx== []<;>rfl)
  (fun _ _=>rfl)
theorem Zf(a p fr to n:Int)(cd tx:List UInt8)(hc:cd.length≤4900)(ht:tx.length≤4900):BN(a,p,16,fr,to,cd,n,tx)=some(AM(a,p,16,fr,to,cd,n,tx)):=
 CS(k:=16)(fm:=Cy 16)(dy:=BY 16)(cb:=Cb 16 cd)(tb:=C9 16 n tx)(tb':=tx== [])(lo:=Cu 16)(hi:=Cr 16)(by decide)rfl rfl
  rfl
  (by unfold C2;dsimp only;simp only[gPi,gSS,gPb,gPm,gPs,gM,gM2,Ar,gOr,As,Aw,gAA,gAO,gOA,gOO,Ao,Aq,At,Av,Ap,Au,gId];simp only[A0,A1,A2,A3,A4,A5,A6,A7,gId,A8,gMb,gMm,gBm,gBb,bs,ms];rfl)
  rfl
  (fun _ _=>rfl)
theorem Zg(a p fr to n:Int)(cd tx:List UInt8)(hc:cd.length≤4900)(ht:tx.length≤4900):BN(a,p,17,fr,to,cd,n,tx)=some(AM(a,p,17,fr,to,cd,n,tx)):=
 CS(k:=17)(fm:=Cy 17)(dy:=BY 17)(cb:=Cb 17 cd)(tb:=C9 17 n tx)(tb':=tx== [])(lo:=Cu 17)(hi:=Cr 17)(by decide)rfl rfl
  rfl
  (by unfold C2;dsimp only;simp only[gPi,gSS,gPb,gPm,gPs,gM,gM2,Ar,gOr,As,Aw,gAA,gAO,gOA,gOO,Ao,Aq,At,Av,Ap,Au,gId];simp only[A0,A1,A2,A3,A4,A5,A6,A7,gId,A8,gMb,gMm,gBm,gBb,bs,ms];rfl)
  rfl
  (fun _ _=>rfl)
theorem Zh(a p fr to n:Int)(cd tx:List UInt8)(hc:cd.length≤4900)(ht:tx.length≤4900):BN(a,p,18,fr,to,cd,n,tx)=some(AM(a,p,18,fr,to,cd,n,tx)):=
 CS(k:=18)(fm:=Cy 18)(dy:=BY 18)(cb:=Cb 18 cd)(tb:=C9 18 n tx)(tb':=tx== [])(lo:=Cu 18)(hi:=Cr 18)(by decide)rfl rfl
  rfl
  (by unfold C2;dsimp only;simp only[gPi,gSS,gPb,gPm,gPs,gM,gM2,Ar,gOr,As,Aw,gAA,gAO,gOA,gOO,Ao,Aq,At,Av,Ap,Au,gId];simp only[A0,A1,A2,A3,A4,A5,A6,A7,gId,A8,gMb,gMm,gBm,gBb,bs,ms];rfl)
  rfl
  (fun _ _=>rfl)
theorem Tf(x:Int×Int×Int×Int×Int×List UInt8×Int×List UInt8)(hc:x.2.2.2.2.2.1.length≤4900)(ht:x.2.2.2.2.2.2.2.length≤4900):BN x=some(AM x):=by
 obtain⟨a,p,k,fr,to,cd,n,tx⟩:=x;by_cases h:1≤k∧k≤18
 ·rcases RD h with rfl|rfl|rfl|rfl|rfl|rfl|rfl|rfl|rfl|rfl|rfl|rfl|rfl|rfl|rfl|rfl|rfl|rfl
  ·exact YY a p fr to n cd tx hc ht
  ·exact Zi a p fr to n cd tx hc ht
  ·exact Zj a p fr to n cd tx hc ht
  ·exact Zk a p fr to n cd tx hc ht
  ·exact Zl a p fr to n cd tx hc ht
  ·exact Zm a p fr to n cd tx hc ht
  ·exact Zn a p fr to n cd tx hc ht
  ·exact Zo a p fr to n cd tx hc ht
  ·exact Zp a p fr to n cd tx hc ht
  ·exact YZ a p fr to n cd tx hc ht
  ·exact Za a p fr to n cd tx hc ht
  ·exact Zb a p fr to n cd tx hc ht
  ·exact Zc a p fr to n cd tx hc ht
  ·exact Zd a p fr to n cd tx hc ht
  ·exact Ze a p fr to n cd tx hc ht
  ·exact Zf a p fr to n cd tx hc ht
  ·exact Zg a p fr to n cd tx hc ht
  ·exact Zh a p fr to n cd tx hc ht
 ·unfold BN AM;dsimp only;rw[if_neg h];simp only[gPi,gSS,gPb,gPm,gPs,gM,gM2,Ar,gOr,As,Aw,gAA,gAO,gOA,gOO,Ao,Aq,At,Av,Ap,Au,gId];simp only[A0,A1,A2,A3,A4,A5,A6,A7,gId,A8,gMb,gMm,gBm,gBb,bs,ms];by_cases h1:k<1
  ·simp only[Al h1,if_true,bs]
  ·simp only[Ak h1,Al(show k>18 by omega),Ag,if_false,if_true,bs]
theorem Qq(x:Int×Int×Int×Int×Int×List UInt8×Int×List UInt8)(hc:x.2.2.2.2.2.1.length≤4900)(ht:x.2.2.2.2.2.2.2.length≤4900):AY x=some(AM x):=by
 obtain⟨a,p,k,fr,to,cd,n,tx⟩:=x;by_cases h:1≤k∧k≤18
 ·rcases RD h with rfl|rfl|rfl|rfl|rfl|rfl|rfl|rfl|rfl|rfl|rfl|rfl|rfl|rfl|rfl|rfl|rfl|rfl
  ·exact Vn a p fr to n cd tx hc ht
  ·exact Vx a p fr to n cd tx hc ht
  ·exact Vy a p fr to n cd tx hc ht
  ·exact Vz a p fr to n cd tx hc ht
  ·exact V0 a p fr to n cd tx hc ht
  ·exact V1 a p fr to n cd tx hc ht
  ·exact V2 a p fr to n cd tx hc ht
  ·exact V3 a p fr to n cd tx hc ht
  ·exact V4 a p fr to n cd tx hc ht
  ·exact Vo a p fr to n cd tx hc ht
  ·exact Vp a p fr to n cd tx hc ht
  ·exact Vq a p fr to n cd tx hc ht
  ·exact Vr a p fr to n cd tx hc ht
  ·exact Vs a p fr to n cd tx hc ht
  ·exact Vt a p fr to n cd tx hc ht
  ·exact Vu a p fr to n cd tx hc ht
  ·exact Vv a p fr to n cd tx hc ht
  ·exact Vw a p fr to n cd tx hc ht
 ·unfold AY AM;dsimp only;rw[Rh,bs,Ak h,if_neg h];rfl
theorem Zq(x:Int×Int×Int×Int×Int×List UInt8×Int×List UInt8)(hc:x.2.2.2.2.2.1.length≤4200)(ht:x.2.2.2.2.2.2.2.length≤4200):BN x=some(AM x):=Tf x(by omega)(by omega)
theorem Qp(x:Int×Int×Int×Int×Int×List UInt8×Int×List UInt8)(hc:x.2.2.2.2.2.1.length≤4200)(ht:x.2.2.2.2.2.2.2.length≤4200):AY x=some(AM x):=Qq x(by omega)(by omega)
end WB
namespace WB
open Go Go.RowKit
set_option linter.unusedSimpArgs false
set_option linter.unusedVariables false
set_option maxHeartbeats 1000000
theorem ZP(x:Int×Int×Int×Int×Int×List UInt8×Int×List UInt8):Mf x=some(decide(x.2.2.2.2.2.1.length≤300)&&decide(x.2.2.2.2.2.2.2.length≤4200)):=by
 unfold Mf;dsimp only;simp only[gPi,gSS,gPb,gPm,gPs,gM,gM2,Ar,gOr,As,Aw,gAA,gAO,gOA,gOO,Ao,Aq,At,Av,Ap,Au,gId];simp only[A0,A1,A2,A3,A4,A5,A6,A7,gId,A8,gMb,gMm,gBm,gBb,bs,ms];by_cases h1:x.2.2.2.2.2.1.length≤300
 ·rw[Al(show(x.2.2.2.2.2.1.length:Int)≤300 by omega),if_pos rfl,Al h1,Bool.true_and]
  congr 1
  apply decide_eq_decide.2;omega
 ·rw[Ak(show¬(x.2.2.2.2.2.1.length:Int)≤300 by omega),if_neg(by decide),Ak h1,Bool.false_and]
theorem Sw(x:Int×Int×Int×Int×Int×List UInt8×Int×List UInt8):Hf x=some x:=rfl
end WB
