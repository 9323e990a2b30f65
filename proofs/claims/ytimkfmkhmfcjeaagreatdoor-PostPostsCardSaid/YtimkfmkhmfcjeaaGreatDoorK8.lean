/-
  OWN TEXTS, MERGED (wip/merge.py): Psl, Pse, Psf, Psg, Psh, Psi, Psj, Psk, PGv, Pspl, Psv, Psw, Psx. No condition of their own.
-/
import Derived.Test.YtimkfmkhmfcjeaaGreatDoorK7
set_option linter.unusedVariables false
set_option linter.unusedSimpArgs false
open Go.IntKind (i64 u64 u8 u32)
namespace WB
open Go Go.RowKit
abbrev Ln:=Int×List UInt8×Int
abbrev Wt:=List UInt8×Int
def FV(a:Int):Bool:=decide (-1125899906842624≤a)&&decide (a≤1125899906842624)
theorem SW{a:Int}:FV a=true↔ -1125899906842624≤a∧a≤1125899906842624:=by simp[FV]
theorem Ri(a:Int):cents_Fits a=some (FV a):=by
 unfold cents_Fits FV;dsimp only;simp only[gPi,gSS,gPb,gPm,gPs,gM,gM2,By,gOr,Bz,B3,gAA,gAO,gOA,gOO,Bv,Bx,B0,B2,Bw,B1,gId];try simp only[B9,BA,BB,BC,BD,BE,BF,BG,gId,B8,gMb,gMm,gBm,gBb,bs,ms]
 by_cases h:a≥ -1125899906842624
 ·rw[show decide (a≥ -1125899906842624)=true from Al h,if_pos rfl,Bool.true_and]
 ·rw[show decide (a≥ -1125899906842624)=false from Ak h,if_neg (by decide),Bool.false_and]
theorem Vb(s:List UInt8):slip_code s=some (Bc s):=by
 unfold slip_code Bc;dsimp only;simp only[gPi,gSS,gPb,gPm,gPs,gM,gM2,By,gOr,Bz,B3,gAA,gAO,gOA,gOO,Bv,Bx,B0,B2,Bw,B1,gId];try simp only[B9,BA,BB,BC,BD,BE,BF,BG,gId,B8,gMb,gMm,gBm,gBb,bs,ms]
 by_cases h1:s= []
 ·subst h1;rfl
 ·have d1:(s== [])=false:=by simpa using h1
  rw[d1,if_neg (by decide),bs];by_cases h2:s= [45]
  ·subst h2;rfl
  ·have d2:(s== [45])=false:=by simpa using h2
   rw[d2,if_neg (by decide)];by_cases h3:(s.length:Int)>32
   ·rw[Al h3,bs,if_pos rfl,Ak (show ¬((s.length:Int)≤32) by omega),Bool.and_false]
   ·rw[Ak h3,bs,if_neg (by decide),Al (show(s.length:Int)≤32 by omega)]
    have key:=DH (b:=Kd) (α:=Int) (A:=Unit) (fun k _=>(s.map fun b=>(b.toNat:Int),((s.map fun b=>(b.toNat:Int)).length:Int),(k:Int),()))
     (fun _ x=>if(!((decide (x<97)||decide (x>122))&&(decide (x<48)||decide (x>57))&&(x !=46)&&(x !=95)&&(x !=45)))=true then .inl ()else .inr (.inr false)) (fun _=>.inl ()) (fun _ _=>True) (s.map fun b=>(b.toNat:Int)) (a:=()) trivial (fun k x _ hx _=>by
     have hk:=(Ae.1 hx).1;rw[List.length_map]at hk;unfold Kd;dsimp only;simp only[gPi,gSS,gPb,gPm,gPs,gM,gM2,By,gOr,Bz,B3,gAA,gAO,gOA,gOO,Bv,Bx,B0,B2,Bw,B1,gId];try simp only[B9,BA,BB,BC,BD,BE,BF,BG,gId,B8,gMb,gMm,gBm,gBb,bs,ms]
     rw[DM hx,if_pos rfl,CP hx,bs];have hw:=CU (i:=k) (by omega);have e1:decide (x<97)= !decide (x≥97):=by rw[Bool.eq_iff_iff];simp
     have e2:decide (x>122)= !decide (x≤122):=by rw[Bool.eq_iff_iff];simp
     have e3:decide (x<48)= !decide (x≥48):=by rw[Bool.eq_iff_iff];simp
     have e4:decide (x>57)= !decide (x≤57):=by rw[Bool.eq_iff_iff];simp
     rw[e1,e2,e3,e4];simp only[bne];generalize decide (x≥97)=a1;generalize decide (x≤122)=a2;generalize decide (x≥48)=a3;generalize decide (x≤57)=a4;obtain⟨a5,h5⟩:∃b,(x==46)=b:=⟨_,rfl⟩;obtain⟨a6,h6⟩:∃b,(x==95)=b:=⟨_,rfl⟩;obtain⟨a7,h7⟩:∃b,(x==45)=b:=⟨_,rfl⟩;simp only[h5,h6,h7]
     cases a1<;>cases a2<;>cases a3<;>cases a4<;>cases a5<;>cases a6<;>cases a7<;>first|rfl|exact congrArg (fun q=>some (Sum.inl (_,_,q,()))) hw) (fun _ _ _ _ _ _ _=>trivial) (fun _ _=>by
     unfold Kd;dsimp only
     rw[DO,if_neg (by decide)])
    rw[if_pos (show s.length≤70368744177664 by omega),show(0:Int)=((0:Nat):Int)from rfl,key,bs]
    have hf:∀m:List UInt8,AZ (fun(_:Unit) (x:Int)=>if(!((decide (x<97)||decide (x>122))&&(decide (x<48)||decide (x>57))&&(x !=46)&&(x !=95)&&(x !=45)))=true then Sum.inl ()else Sum.inr (Sum.inr false:Unit⊕Bool)) (fun _=>Sum.inl ()) () (m.map fun b=>(b.toNat:Int))=if m.all okb=true then .inl ()else .inr false:=by
     intro m
     induction m with
     |nil=>rfl
     |cons b m ih=>
      rw[List.map_cons,AZ,List.all_cons]
      cases hb:okb b with
      |true=>
       have:(!((decide ((b.toNat:Int)<97)||decide ((b.toNat:Int)>122))&&(decide ((b.toNat:Int)<48)||decide ((b.toNat:Int)>57))&&((b.toNat:Int) !=46)&&((b.toNat:Int) !=95)&&((b.toNat:Int) !=45)))=true:=hb;rw[if_pos this];simp only[Bool.true_and];exact ih
      |false=>
       have:¬(!((decide ((b.toNat:Int)<97)||decide ((b.toNat:Int)>122))&&(decide ((b.toNat:Int)<48)||decide ((b.toNat:Int)>57))&&((b.toNat:Int) !=46)&&((b.toNat:Int) !=95)&&((b.toNat:Int) !=45)))=true:=by
        have h':(!((decide ((b.toNat:Int)<97)||decide ((b.toNat:Int)>122))&&(decide ((b.toNat:Int)<48)||decide ((b.toNat:Int)>57))&&((b.toNat:Int) !=46)&&((b.toNat:Int) !=95)&&((b.toNat:Int) !=45)))=false:=hb;rw[h'];decide
       rw[if_neg this];rfl
    rw[hf];cases s.all okb<;>rfl
def Dl(l:Ln):Int:=if l.1<0∨l.1≥7 then 11 else if Bc l.2.1=false then 12 else if l.2.2=0 then 22 else if FV l.2.2=false then 9 else 0
theorem TA(l:Ln):slip_line l=some (Dl l):=by
 obtain⟨p,c,x⟩:=l;unfold slip_line Dl;dsimp only;simp only[gPi,gSS,gPb,gPm,gPs,gM,gM2,By,gOr,Bz,B3,gAA,gAO,gOA,gOO,Bv,Bx,B0,B2,Bw,B1,gId];try simp only[B9,BA,BB,BC,BD,BE,BF,BG,gId,B8,gMb,gMm,gBm,gBb,bs,ms]
 by_cases h1:p<0
 ·rw[Al h1,if_pos rfl,bs,if_pos rfl,if_pos (.inl h1)]
 ·rw[Ak h1,if_neg (by decide)];by_cases h2:p≥7
  ·rw[Al h2,bs,if_pos rfl,if_pos (.inr h2)]
  ·rw[Ak h2,bs,if_neg (by decide),if_neg (show ¬(p<0∨p≥7) by omega),Vb,bs]
   cases hn:Bc c with
   |false=>rfl
   |true=>
    rw[if_neg (show ¬((!true)=true) by decide),if_neg (show ¬(true=false) by decide)];by_cases h3:x=0
    ·have d:(x==0)=true:=by simpa using h3
     rw[d,if_pos rfl,if_pos h3]
    ·have d:(x==0)=false:=by simpa using h3
     rw[d,if_neg (by decide),if_neg h3,Ri,bs];cases FV x<;>rfl
def GM(p x:Ln):Bool:=decide (p.1<x.1)||(p.1==x.1&&Ei p.2.1 x.2.1)
theorem T7(p x:Ln):slip_less (p,x)=some (GM p x):=by
 obtain⟨a,b,c⟩:=p;obtain⟨a',b',c'⟩:=x;unfold slip_less GM;dsimp only;simp only[gPi,gSS,gPb,gPm,gPs,gM,gM2,By,gOr,Bz,B3,gAA,gAO,gOA,gOO,Bv,Bx,B0,B2,Bw,B1,gId];try simp only[B9,BA,BB,BC,BD,BE,BF,BG,gId,B8,gMb,gMm,gBm,gBb,bs,ms]
 by_cases h:a<a'
 ·rw[Al h,if_pos rfl];rfl
 ·rw[Ak h,if_neg (by decide)];cases h2:(a==a')<;>simp
def Et(pr:Option Ln)(x:Ln):Option Ln⊕(Unit⊕Int):=
 if Dl x≠0 then .inr (.inr (Dl x))else match pr with
  |none=>.inl (some x)
  |some p=>if(p.1==x.1&&p.2.1==x.2.1)=true then .inr (.inr 7)else if GM p x=false then .inr (.inr 8)else .inl (some x)
def CG(s:Int×Int×List Ln):Int:=if s.1<1900∨s.1>2199∨s.2.1<1∨s.2.1>400 then 2 else if(s.2.2.length:Int)>448 then 5 else match AZ Et (fun _=>Sum.inl ()) none s.2.2 with
 | .inl _=>0
 | .inr e=>e
theorem Vl(s:Int×Int×List Ln):slip_Check s=some (CG s):=by
 obtain⟨y,ix,L⟩:=s;unfold slip_Check CG;dsimp only;simp only[gPi,gSS,gPb,gPm,gPs,gM,gM2,By,gOr,Bz,B3,gAA,gAO,gOA,gOO,Bv,Bx,B0,B2,Bw,B1,gId];try simp only[B9,BA,BB,BC,BD,BE,BF,BG,gId,B8,gMb,gMm,gBm,gBb,bs,ms]
 by_cases h0:y<1900∨y>2199∨ix<1∨ix>400
 ·rw[if_pos h0];by_cases h1:y<1900
  ·rw[Al h1];rfl
  ·rw[Ak h1,if_neg (by decide),bs];by_cases h2:y>2199
   ·rw[Al h2];rfl
   ·rw[Ak h2,if_neg (by decide)];by_cases h3:ix<1
    ·rw[Al h3];rfl
    ·rw[Ak h3,if_neg (by decide),Al (show ix>400 by omega)];rfl
 ·rw[if_neg h0,Ak (show ¬(y<1900) by omega),if_neg (by decide),bs,Ak (show ¬(y>2199) by omega),if_neg (by decide),Ak (show ¬(ix<1) by omega),if_neg (by decide),bs,Ak (show ¬(ix>400) by omega),bs];dsimp only;rw[if_neg (show ¬(false=true) by decide)];by_cases hn:(L.length:Int)>448
  ·rw[Al hn,if_pos rfl,if_pos hn]
  ·rw[Ak hn,if_neg (by decide),if_neg hn]
   have key:=DH (b:=Kc) (α:=Ln) (A:=Option Ln) (fun k _=>(L,(L.length:Int),(k:Int),y,ix,L,(),(),())) Et (fun _=>Sum.inl ())
    (fun i pr=>pr=if i=0 then none else L[i-1]?) L (a:=none) rfl (fun i x pr hx hpr=>by
    have hi:=(Ae.1 hx).1;unfold Kc Et;dsimp only;simp only[gPi,gSS,gPb,gPm,gPs,gM,gM2,By,gOr,Bz,B3,gAA,gAO,gOA,gOO,Bv,Bx,B0,B2,Bw,B1,gId];try simp only[B9,BA,BB,BC,BD,BE,BF,BG,gId,B8,gMb,gMm,gBm,gBb,bs,ms]
    rw[DM hx,if_pos rfl,CP hx,bs,TA,bs];by_cases hz:Dl x=0
    ·have d:(Dl (x.1,x.2.1,x.2.2) !=0)=false:=by simpa using hz
     rw[d,if_neg (show ¬(false=true) by decide),if_neg (show ¬(Dl x≠0) by simpa using hz)]
     cases i with
     |zero=>
      rw[if_pos rfl]at hpr;subst hpr;rw[if_pos (show(((0:Nat):Int)==0)=true from rfl),bs];dsimp only;rw[CU (by omega)];rfl
     |succ i=>
      have hlt:i<L.length:=by omega
      rw[if_neg (by omega),Nat.add_sub_cancel,Ai hlt]at hpr;subst hpr;rw[if_neg (show ¬((((i+1:Nat):Int)==0)=true) by simp;omega),show((i+1:Nat):Int)-1=(i:Int) by omega,BK (n:=(i:Int)) (by omega) (by omega),CP (Ai hlt),bs]
      have e1:(if(L[i].1==x.1)=true then some (L[i].2.1==x.2.1)else some false)=some (L[i].1==x.1&&L[i].2.1==x.2.1):=by
       cases (L[i].1==x.1)<;>rfl
      rw[e1,bs];dsimp only
      cases h7:(L[i].1==x.1&&L[i].2.1==x.2.1)with
      |true=>rfl
      |false=>
       rw[if_neg (show ¬(false=true) by decide),if_neg (show ¬(false=true) by decide),T7,bs]
       cases h8:GM L[i] x with
       |false=>
        rfl
       |true=>
        rw[if_neg (show ¬((!true)=true) by decide),bs,if_neg (show ¬(true=false) by decide)];dsimp only;rw[CU (by omega)];rfl
    ·have d:(Dl (x.1,x.2.1,x.2.2) !=0)=true:=by simpa using hz
     rw[d,if_pos rfl,if_pos (show Dl x≠0 from hz)]
     rfl) (fun i x pr pr' hx hpr hst=>by
    rw[if_neg (by omega),Nat.add_sub_cancel,hx];unfold Et at hst;split at hst
    ·cases hst
    ·split at hst
     ·cases hst;rfl
     ·split at hst
      ·cases hst
      ·split at hst
       ·cases hst
       ·cases hst;rfl) (fun _ _=>by
    unfold Kc;dsimp only
    rw[DO,if_neg (by decide)])
   rw[show(0:Int)=((0:Nat):Int)from rfl,key,bs];cases AZ Et (fun _=>Sum.inl ()) none L<;>rfl
def Fd(seen:List (List UInt8))(x:Wt):List (List UInt8)⊕(Unit⊕Int):=
 if Bc x.1=false then .inr (.inr 12)else if x.2<1∨x.2>1000000 then .inr (.inr 2)else if(seen.any fun y=>y==x.1)=true then .inr (.inr 7)else .inl (seen++ [x.1])
def C8(l:List Wt):Int:=if(l.length:Int)>64 then 5 else match AZ Fd (fun _=>Sum.inl ()) [] l with
 | .inl _=>0
 | .inr e=>e
def Gr(seen:List (List UInt8)):List (List UInt8×Bool):=seen.map fun k=>(k,true)
theorem IR(a b:List UInt8):eqZ Ty.str a b=(a==b):=rfl
theorem Qs(k:List UInt8):∀seen,(BL (eqZ Ty.str) (Bj Ty.bool) k (Gr seen)).1=seen.any fun y=>y==k
 | []=>rfl
 |y::seen=>by
  show(if eqZ Ty.str k y=true then(true,true)else BL (eqZ Ty.str) (Bj Ty.bool) k (Gr seen)).1=_;rw[IR,List.any_cons];by_cases h:k=y
  ·subst h;simp
  ·have h1:(k==y)=false:=by simpa using h
   have h2:(y==k)=false:=by simpa using fun e:y=k=>h e.symm
   rw[h1,if_neg (by decide),h2,Bool.false_or];exact Qs k seen
theorem Qt(k:List UInt8):∀seen,(seen.any fun y=>y==k)=false→Bu (eqZ Ty.str) k true (Gr seen)=Gr (seen++ [k])
 | [],_=>rfl
 |y::seen,h=>by
  rw[List.any_cons,Bool.or_eq_false_iff]at h
  have h1:¬eqZ Ty.str k y=true:=by
   rw[IR];intro e;have:k=y:=by simpa using e
   subst this;simp at h
  show(if eqZ Ty.str k y=true then _ else(y,true)::Bu (eqZ Ty.str) k true (Gr seen))=_;rw[if_neg h1,Qt k seen h.2];rfl
theorem U2(l:List Wt):post_check l=some (C8 l):=by
 unfold post_check C8;dsimp only;by_cases hn:(l.length:Int)>64
 ·rw[Al hn,if_pos rfl,if_pos hn]
 ·rw[Ak hn,if_neg (by decide),if_neg hn]
  have key:=DH (b:=JL) (α:=Wt) (A:=List (List UInt8)) (fun k seen=>(l,(l.length:Int),(k:Int),Gr seen,(),())) Fd (fun _=>Sum.inl ()) (fun _ _=>True) l (a:= []) trivial (fun i x seen hx _=>by
   have hi:=(Ae.1 hx).1;unfold JL Fd;dsimp only;simp only[gPi,gSS,gPb,gPm,gPs,gM,gM2,By,gOr,Bz,B3,gAA,gAO,gOA,gOO,Bv,Bx,B0,B2,Bw,B1,gId];try simp only[B9,BA,BB,BC,BD,BE,BF,BG,gId,B8,gMb,gMm,gBm,gBb,bs,ms]
   rw[DM hx,if_pos rfl,CP hx,bs,U9,bs]
   cases hnm:Bc x.1 with
   |false=>rfl
   |true=>
    rw[if_neg (show ¬((!true)=true) by decide),if_neg (show ¬(true=false) by decide)];by_cases h1:x.2<1
    ·rw[Al h1,if_pos rfl,bs,if_pos (show x.2<1∨x.2>1000000 from .inl h1)];rfl
    ·rw[Ak h1,if_neg (show ¬(false=true) by decide),bs];dsimp only;by_cases h2:x.2>1000000
     ·rw[Al h2,if_pos rfl,if_pos (show x.2<1∨x.2>1000000 from .inr h2)];rfl
     ·rw[Ak h2,if_neg (show ¬(false=true) by decide),if_neg (show ¬(x.2<1∨x.2>1000000) by omega),Qs]
      cases h3:(seen.any fun y=>y==x.1)with
      |true=>rfl
      |false=>rw[if_neg (show ¬(false=true) by decide),if_neg (show ¬(false=true) by decide),Qt _ _ h3,CU (by omega)];rfl) (fun _ _ _ _ _ _ _=>trivial) (fun _ _=>by
   unfold JL;dsimp only
   rw[DO,if_neg (by decide)])
  rw[show(0:Int)=((0:Nat):Int)from rfl];rw[show([]:List (List UInt8×Bool))=Gr []from rfl,key,bs];cases AZ Fd (fun _=>Sum.inl ()) [] l<;>rfl
theorem NI:∀(l:List Wt) (seen:List (List UInt8)),AZ Fd (fun _=>(Sum.inl ():Unit⊕Int)) seen l=.inl ()→∀x∈l,Bc x.1=true∧1≤x.2∧x.2≤1000000
 | [],seen,_,x,hx=>by cases hx
 |y::l,seen,h,x,hx=>by
  rw[AZ]at h;unfold Fd at h;by_cases h1:Bc y.1=false
  ·rw[if_pos h1]at h;cases h
  ·rw[if_neg h1]at h;by_cases h2:y.2<1∨y.2>1000000
   ·rw[if_pos h2]at h;cases h
   ·rw[if_neg h2]at h;by_cases h3:(seen.any fun z=>z==y.1)=true
    ·rw[if_pos h3]at h;cases h
    ·rw[if_neg h3]at h;rcases List.mem_cons.1 hx with rfl|hx
     ·exact⟨by simpa using h1,by omega,by omega⟩
     ·exact NI l _ h x hx
theorem QZ:∀(l:List Wt) (seen:List (List UInt8)),AZ Fd (fun _=>(Sum.inl ():Unit⊕Int)) seen l=.inl ()∨∃e,e≠0∧AZ Fd (fun _=>(Sum.inl ():Unit⊕Int)) seen l=.inr e
 | [],seen=>.inl rfl
 |y::l,seen=>by
  rw[AZ];unfold Fd;by_cases h1:Bc y.1=false
  ·rw[if_pos h1];exact .inr ⟨12,by decide,rfl⟩
  ·rw[if_neg h1];by_cases h2:y.2<1∨y.2>1000000
   ·rw[if_pos h2];exact .inr ⟨2,by decide,rfl⟩
   ·rw[if_neg h2];by_cases h3:(seen.any fun z=>z==y.1)=true
    ·rw[if_pos h3];exact .inr ⟨7,by decide,rfl⟩
    ·rw[if_neg h3];exact QZ l _
theorem Sh{l:List Wt}(h:C8 l=0):l.length≤64∧∀x∈l,Bc x.1=true∧1≤x.2∧x.2≤1000000:=by
 unfold C8 at h;by_cases hn:(l.length:Int)>64
 ·rw[if_pos hn]at h;cases h
 ·rw[if_neg hn]at h;refine⟨by omega, ?_⟩;rcases QZ l []with h1|⟨e,h1,h2⟩
  ·exact NI l [] h1
  ·rw[h2]at h;exact absurd h h1
theorem ET{s:List UInt8}(h:Bc s=true):s.length≤32:=by
 simp only[Bc,Af,decide_eq_true_eq]at h;omega
def Ck(d c:List UInt8)(x:Int)(n:List UInt8):List (List UInt8×List UInt8×Int×List UInt8):=if x=0 then []else if x<0 then [(c,d,-x,n)]else [(d,c,x,n)]
theorem IO(d c:List UInt8)(x:Int)(n:List UInt8):(Ck d c x n).length≤1:=by
 unfold Ck;split
 ·simp
 ·split<;>simp
theorem Mo{d c n:List UInt8}{x:Int}(hx: -4611686018427387904≤x∧x≤4611686018427387904):post_entry (d,c,x,n)=some (Ck d c x n):=by
 unfold post_entry Ck;dsimp only;by_cases h0:x=0
 ·have e:(x==0)=true:=by simpa using h0
  rw[e,if_pos rfl,if_pos h0];rfl
 ·have e:(x==0)=false:=by simpa using h0
  rw[e,if_neg (by decide),if_neg h0];by_cases h1:x<0
  ·rw[Al h1,if_pos rfl,if_pos h1,bs];dsimp only;rw[BK (n:=0-x) (by omega) (by omega),Int.zero_sub]
  ·rw[Ak h1,if_neg (by decide),if_neg h1];rfl
abbrev Bn:=List (List UInt8×List UInt8×Int×List UInt8)
def Ce(word to:List UInt8)(note:List UInt8)(z:List (Int×Wt)):Bn:=z.flatMap fun p=>Ck (word++ [47]++p.2.1) to p.1 note
def toS(k:Unit⊕Unit)(code:List UInt8):List UInt8:=match k with
 | .inl _=> [110,101,116]
 | .inr _=> [111,119,101,100,47,115,111,99,105,97,108,47]++code
theorem Ls{α β:Type}(f:α→List β)(k:Nat)(h:∀x,(f x).length≤k):∀l:List α,(l.flatMap f).length≤k*l.length
 | []=>by simp
 |x::l=>by
  have h1:=h x;have h2:=Ls f k h l;simp only[List.flatMap_cons,List.length_append,List.length_cons];rw[Nat.mul_add];omega
theorem Wi{α β:Type}{l:List α}{m:List β}{i:Nat}{p:α×β}(h:(l.zip m)[i]? =some p):l[i]? =some p.1∧m[i]? =some p.2:=by
 rw[List.getElem?_zip_eq_some]at h;exact h
theorem QA{l:Ln}{cost:List Wt}{word:List UInt8}{k:Unit⊕Unit}(hw:word.length≤16)(hc:Hp (cost.map (·.2)))(hn:∀x∈cost,x.1.length≤32)(hl:l.2.1.length≤32)(hx: -1125899906842624≤l.2.2∧l.2.2≤1125899906842624):
  post_split_1 (l,cost,word,k)=some (Ce word (toS k l.2.1) l.2.1 ((BQ (cost.map (·.2)) l.2.2).zip cost)):=by
 obtain⟨p,code,c⟩:=l;simp only at hl hx⊢;have hlen:cost.length≤64:=by simpa using hc.len
 have k2:=DH (b:=JN) (α:=Wt) (A:=List Int) (fun i acc=>(cost,word,k,cost,(cost.length:Int),(i:Int),p,code,c,acc,(),(),(),())) (fun acc x=>.inl (acc++ [x.2])) (fun acc=>(cost,word,k,p,code,c,acc,(),(),(),()))
  (fun i acc=>acc.length≤i) cost (a:= []) (by simp) (fun i x acc hx' ha=>by
   have hi:=(Ae.1 hx').1;unfold JN;dsimp only;rw[DM hx',if_pos rfl,CP hx'];simp only[ms,bs]
   rw[I6 (by simp;omega) (by decide),bs,CU (by omega)];rfl) (fun i x acc acc' hx' ha e=>by cases e;simp;exact ha) (fun acc _=>by
   unfold JN;dsimp only
   rw[DO,if_neg (by decide)])
 rw[IY (fun x:Wt=> [x.2]),show((0:Nat):Int)=0 from rfl]at k2
 have e2:∀m:List Wt,(m.flatMap fun x:Wt=> [x.2])=m.map (·.2):=by
  intro m
  induction m with
  |nil=>rfl
  |cons x l ih=>simp[List.flatMap_cons,ih]
 rw[List.nil_append,e2]at k2;obtain⟨s1,s2,s3,s4⟩:=P9 hc hx;unfold post_split_1;dsimp only;rw[k2,bs];dsimp only;rw[s1,bs];dsimp only;generalize BQ (cost.map (·.2)) c=ps at*;rw[List.length_map]at s2;have hzl:(ps.zip cost).length=ps.length:=by simp;omega
 have k1:=DH (b:=JM) (α:=Int×Wt) (A:=Bn) (fun i acc=>(cost,word,k,ps,(ps.length:Int),(i:Int),p,code,c,acc,(),(),(),())) (fun acc z=>.inl (acc++Ck (word++ [47]++z.2.1) (toS k code) z.1 code)) (fun acc=>(acc,(),()))
  (fun i acc=>acc.length≤i) (ps.zip cost) (a:= []) (by simp) (fun i z acc hz ha=>by
   have hi:=(Ae.1 hz).1;obtain⟨z1,z2⟩:=Wi hz;have hz1:=s4 z.1 (List.mem_of_getElem? z1);have hz2:=hn z.2 (List.mem_of_getElem? z2);have hel:=fun to=>IO (word++ [47]++z.2.1) to z.1 code;unfold JM;dsimp only;rw[DM z1,if_pos rfl,CP z1];simp only[ms,bs];rw[if_pos (by simp;omega),bs,CP z2];simp only[ms,bs];rw[if_pos (by simp;omega),bs];have h1:post_ways_1 (p,code,c)=some [110,101,116]:=rfl
   have h2:post_ways_2 (p,code,c)=some ([111,119,101,100,47,115,111,99,105,97,108,47]++code):=by
    unfold post_ways_2;dsimp only;rw[if_pos (by simp;omega)];rfl
   clear k2
   cases k with
   |inl u=>
    dsimp only;rw[h1,ms,bs];rw[Mo ⟨by omega,by omega⟩,bs,I6 (Nat.le_trans (Nat.add_le_add ha (hel _)) (by omega)) (by decide),bs,CU (by omega)];rfl
   |inr u=>
    dsimp only;rw[h2,ms,bs]
    rw[Mo ⟨by omega,by omega⟩,bs,I6 (Nat.le_trans (Nat.add_le_add ha (hel _)) (by omega)) (by decide),bs,CU (by omega)];rfl) (fun i z acc acc' hz ha e=>by
   cases e;have hel:=IO (word++ [47]++z.2.1) (toS k code) z.1 code
   simp only[List.length_append];omega) (fun acc _=>by
   unfold JM;dsimp only
   rw[hzl,DO,if_neg (by decide)])
 rw[IY (fun z:Int×Wt=>Ck (word++ [47]++z.2.1) (toS k code) z.1 code),show((0:Nat):Int)=0 from rfl,List.nil_append]at k1;rw[k1];rfl
def ED:List (List UInt8):= [[],[98,101,102,111,114,101],[119,111,114,107,101,114],[116,97,120],[97,102,116,101,114],[111,114,100,101,114,115],[]]
def E6(w code:List UInt8):List UInt8:= [111,119,101,100,47]++w++ [47]++code
noncomputable def AS(cost:List Wt)(l:Ln):Bn:=if l.1=0 then Ce [119,97,103,101,115] (toS (.inl ()) l.2.1) l.2.1 ((BQ (cost.map (·.2)) l.2.2).zip cost)else if l.1=6 then Ce [102,105,114,109] (toS (.inr ()) l.2.1) l.2.1 ((BQ (cost.map (·.2)) l.2.2).zip cost)else Ck [110,101,116] (E6 (ED.getD l.1.toNat []) l.2.1) l.2.2 l.2.1
structure En (cost:List Wt):Prop where
 ws:Hp (cost.map (·.2))
 nm:∀x∈cost,Bc x.1=true
structure Ep (l:Ln):Prop where
 p:0≤l.1∧l.1<7
 nm:Bc l.2.1=true
 ne:l.2.2≠0
 r: -1125899906842624≤l.2.2∧l.2.2≤1125899906842624
theorem T9{l:Ln}(h:Dl l=0):Ep l:=by
 unfold Dl at h;by_cases h1:l.1<0∨l.1≥7
 ·rw[if_pos h1]at h;cases h
 ·rw[if_neg h1]at h;by_cases h2:Bc l.2.1=false
  ·rw[if_pos h2]at h;cases h
  ·rw[if_neg h2]at h;by_cases h3:l.2.2=0
   ·rw[if_pos h3]at h;cases h
   ·rw[if_neg h3]at h;by_cases h4:FV l.2.2=false
    ·rw[if_pos h4]at h;cases h
    ·exact⟨by omega,by simpa using h2,h3,SW.1 (by simpa using h4)⟩
theorem QC{word to note:List UInt8}(z:List (Int×Wt)):(Ce word to note z).length≤z.length:=by
 have:=Ls (fun p:Int×Wt=>Ck (word++ [47]++p.2.1) to p.1 note) 1 (fun p=>IO _ _ _ _) z;unfold Ce;omega
theorem LJ{cost:List Wt}(h:cost.length≤64)(h0:0<cost.length)(l:Ln):(AS cost l).length≤64:=by
 unfold AS;split
 ·exact Nat.le_trans (QC _) (by simp;omega)
 ·split
  ·exact Nat.le_trans (QC _) (by simp;omega)
  ·exact Nat.le_trans (IO _ _ _ _) (by omega)
theorem En.len{cost:List Wt}(h:En cost):cost.length≤64∧0<cost.length:=by
 have h1:=h.ws.len;have h2:=List.length_pos_iff.2 h.ws.ne;rw[List.length_map]at h1 h2;exact⟨h1,h2⟩
theorem Id{l:Ln}{w:List UInt8}(hl:Ep l)(hw:w.length≤16):post_owed_1 (l,w)=some (Ck [110,101,116] (E6 w l.2.1) l.2.2 l.2.1):=by
 have hn:=ET hl.nm;have hr:=hl.r;unfold post_owed_1 E6;dsimp only;rw[if_pos (by simp;omega),bs,if_pos (by simp;omega),bs,if_pos (by simp;omega),bs,Mo ⟨by omega,by omega⟩,bs]
abbrev Nl:=(List Wt×List UInt8×(Unit⊕Unit))⊕List UInt8
def Rb(cost:List Wt):List Nl:= [.inl (cost,[119,97,103,101,115],.inl ()),.inr [98,101,102,111,114,101],.inr [119,111,114,107,101,114],.inr [116,97,120],.inr [97,102,116,101,114],.inr [111,114,100,101,114,115],.inl (cost,[102,105,114,109],.inr ())]
noncomputable def Ra(w:Nl)(l:Ln):Option Bn:=match w with
 | .inl c=>(post_split_1 (l,c.1,c.2.1,c.2.2)).map (fun v=>v)
 | .inr c=>(post_owed_1 (l,c)).map (fun v=>v)
theorem Wf{cost:List Wt}(hc:En cost){l:Ln}(hl:Ep l):∃w,(Rb cost)[l.1.toNat]? =some w∧Ra w l=some (AS cost l):=by
 have hn:=ET hl.nm;have hp:=hl.p;have hnm:∀x∈cost,x.1.length≤32:=fun x hx=>ET (hc.nm x hx);unfold AS;have cases7:l.1=0∨l.1=1∨l.1=2∨l.1=3∨l.1=4∨l.1=5∨l.1=6:=by omega
 rcases cases7 with h|h|h|h|h|h|h
 ·rw[if_pos h,h];refine⟨_,rfl, ?_⟩;show(post_split_1 (l,cost,[119,97,103,101,115],.inl ())).map (fun v=>v)=_;rw[QA (by decide) hc.ws hnm hn hl.r];rfl
 ·rw[if_neg (by omega),if_neg (by omega),h];refine⟨_,rfl, ?_⟩;show(post_owed_1 (l,[98,101,102,111,114,101])).map (fun v=>v)=_;rw[Id hl (by decide)];rfl
 ·rw[if_neg (by omega),if_neg (by omega),h];refine⟨_,rfl, ?_⟩;show(post_owed_1 (l,[119,111,114,107,101,114])).map (fun v=>v)=_;rw[Id hl (by decide)];rfl
 ·rw[if_neg (by omega),if_neg (by omega),h];refine⟨_,rfl, ?_⟩;show(post_owed_1 (l,[116,97,120])).map (fun v=>v)=_;rw[Id hl (by decide)];rfl
 ·rw[if_neg (by omega),if_neg (by omega),h];refine⟨_,rfl, ?_⟩;show(post_owed_1 (l,[97,102,116,101,114])).map (fun v=>v)=_;rw[Id hl (by decide)];rfl
 ·rw[if_neg (by omega),if_neg (by omega),h];refine⟨_,rfl, ?_⟩;show(post_owed_1 (l,[111,114,100,101,114,115])).map (fun v=>v)=_;rw[Id hl (by decide)];rfl
 ·rw[if_neg (by omega),if_pos h,h];refine⟨_,rfl, ?_⟩;show(post_split_1 (l,cost,[102,105,114,109],.inr ())).map (fun v=>v)=_;rw[QA (by decide) hc.ws hnm hn hl.r];rfl
theorem Ul{cost:List Wt}(hc:En cost){L:List Ln}(hL:∀x∈L,Ep x)(hn:L.length≤1000):
  iter Ij (L,(L.length:Int),0,.inl (cost,[119,97,103,101,115],.inl ()),.inr [98,101,102,111,114,101],.inr [119,111,114,107,101,114],.inr [116,97,120],.inr [97,102,116,101,114],.inr [111,114,100,101,114,115],.inl (cost,[102,105,114,109],.inr ()),[],(),(),(),())=some (L.flatMap (AS cost),(),()):=by
 have key:=DH (b:=Ij) (α:=Ln) (A:=Bn) (fun i acc=>(L,(L.length:Int),(i:Int),.inl (cost,[119,97,103,101,115],.inl ()),.inr [98,101,102,111,114,101],.inr [119,111,114,107,101,114],.inr [116,97,120],.inr [97,102,116,101,114],.inr [111,114,100,101,114,115],.inl (cost,[102,105,114,109],.inr ()),acc,(),(),(),()))
  (fun acc x=>.inl (acc++AS cost x)) (fun acc=>(acc,(),())) (fun i acc=>acc.length≤64*i) L (a:= []) (by simp) (fun i x acc hx ha=>by
   have hi:=(Ae.1 hx).1;have hl:=hL x (List.mem_of_getElem? hx);have hp:=hl.p;have hlen:=LJ hc.len.1 hc.len.2 x;obtain⟨w,w1,w2⟩:=Wf hc hl;unfold Ij;dsimp only;rw[DM hx,if_pos rfl,CP hx,ms,bs,if_pos ⟨hp.1,hp.2⟩,bs];change(Option.bind ((Rb cost)[x.1.toNat]?) _)=_;rw[w1,bs];change(Option.bind (Ra w x) _)=_
   rw[w2,bs,I6 (by omega) (by decide),bs,CU (by omega)];rfl) (fun i x acc acc' hx ha e=>by
   cases e;have hlen:=LJ hc.len.1 hc.len.2 x
   simp only[List.length_append];omega) (fun acc _=>by
   unfold Ij;dsimp only
   rw[DO,if_neg (by decide)])
 rw[IY (AS cost),List.nil_append]at key;exact key
def DD(cost:List Wt):List Wt:=if cost= []then [([102,105,114,109],1)]else cost
theorem KW{cost:List Wt}(h:C8 cost=0):En (DD cost):=by
 obtain⟨h1,h2⟩:=Sh h;unfold DD;split
 ·refine⟨⟨by simp,by simp,fun x hx=> ?_⟩,fun x hx=> ?_⟩
  ·simp at hx;omega
  ·rw[List.mem_singleton.1 hx];decide
 ·rename_i h0;refine⟨⟨by simpa using h0,by simpa using h1,fun x hx=> ?_⟩,fun x hx=>(h2 x hx).1⟩;obtain⟨y,hy,rfl⟩:=List.mem_map.1 hx;exact(h2 y hy).2
theorem KQ:∀(L:List Ln) (pr:Option Ln),AZ Et (fun _=>(Sum.inl ():Unit⊕Int)) pr L=.inl ()∨∃e,e≠0∧AZ Et (fun _=>(Sum.inl ():Unit⊕Int)) pr L=.inr e
 | [],_=>.inl rfl
 |x::L,pr=>by
  rw[AZ];unfold Et;by_cases h1:Dl x≠0
  ·rw[if_pos h1];exact .inr ⟨_,h1,rfl⟩
  ·rw[if_neg h1]
   cases pr with
   |none=>exact KQ L _
   |some p=>
    dsimp only;by_cases h2:(p.1==x.1&&p.2.1==x.2.1)=true
    ·rw[if_pos h2];exact .inr ⟨7,by decide,rfl⟩
    ·rw[if_neg h2];by_cases h3:GM p x=false
     ·rw[if_pos h3];exact .inr ⟨8,by decide,rfl⟩
     ·rw[if_neg h3];exact KQ L _
theorem KP:∀(L:List Ln) (pr:Option Ln),AZ Et (fun _=>(Sum.inl ():Unit⊕Int)) pr L=.inl ()→∀x∈L,Dl x=0
 | [],_,_,x,hx=>by cases hx
 |y::L,pr,h,x,hx=>by
  rw[AZ]at h;unfold Et at h;by_cases h1:Dl y≠0
  ·rw[if_pos h1]at h;cases h
  ·rw[if_neg h1]at h;rcases List.mem_cons.1 hx with rfl|hx
   ·simpa using h1
   ·cases pr with
    |none=>exact KP L _ h x hx
    |some p=>
     dsimp only at h;by_cases h2:(p.1==y.1&&p.2.1==y.2.1)=true
     ·rw[if_pos h2]at h;cases h
     ·rw[if_neg h2]at h;by_cases h3:GM p y=false
      ·rw[if_pos h3]at h;cases h
      ·rw[if_neg h3]at h;exact KP L _ h x hx
theorem Q3{s:Int×Int×List Ln}(h:CG s=0):s.2.2.length≤448∧∀x∈s.2.2,Ep x:=by
 unfold CG at h;by_cases h0:s.1<1900∨s.1>2199∨s.2.1<1∨s.2.1>400
 ·rw[if_pos h0]at h;cases h
 ·rw[if_neg h0]at h;by_cases h1:(s.2.2.length:Int)>448
  ·rw[if_pos h1]at h;cases h
  ·rw[if_neg h1]at h;refine⟨by omega,fun x hx=>T9 ?_⟩;rcases KQ s.2.2 none with h2|⟨e,h2,h3⟩
   ·exact KP _ _ h2 x hx
   ·rw[h3]at h;exact absurd h h2
noncomputable def Dp(s:Int×Int×List Ln)(cost:List Wt):Bn×Int:=if CG s≠0 then([],CG s)else if C8 cost≠0 then([],C8 cost)else(s.2.2.flatMap (AS (DD cost)),0)
theorem Ml(s:Int×Int×List Ln)(cost:List Wt):post_Of (s,cost)=some (Dp s cost):=by
 obtain⟨y,ix,L⟩:=s;unfold post_Of Dp;dsimp only;rw[Vl,bs];by_cases h0:CG (y,ix,L)=0
 ·have d:(CG (y,ix,L) !=0)=false:=by simpa using h0
  rw[d,if_neg (show ¬(false=true) by decide),if_neg (show ¬(CG (y,ix,L)≠0) by simpa using h0),U2,bs];by_cases h1:C8 cost=0
  ·have d1:(C8 cost !=0)=false:=by simpa using h1
   rw[d1,if_neg (show ¬(false=true) by decide),if_neg (show ¬(C8 cost≠0) by simpa using h1)]
   have hD:(if((cost.length:Int)==0)=true then some ([(([102,105,114,109]:List UInt8),(1:Int))],y,ix,L,(),(),())else some (cost,y,ix,L,(),(),()))=some (DD cost,y,ix,L,(),(),()):=by
    unfold DD
    cases cost with
    |nil=>rfl
    |cons x l=>rw[if_neg (by simp;omega),if_neg (by simp)]
   rw[hD,bs];obtain⟨g1,g2⟩:=Q3 h0;have g1':L.length≤448:=g1;have e:=Ul (KW h1) g2 (by show L.length≤1000;omega);have hw:post_ways (DD cost)=some (.inl (DD cost,[119,97,103,101,115],.inl ()),.inr [98,101,102,111,114,101],.inr [119,111,114,107,101,114],.inr [116,97,120],.inr [97,102,116,101,114],.inr [111,114,100,101,114,115],.inl (DD cost,[102,105,114,109],.inr ())):=rfl;dsimp only;rw[hw,bs];dsimp only;rw[e,bs]
  ·have d1:(C8 cost !=0)=true:=by simpa using h1
   rw[d1,if_pos rfl,if_pos h1]
 ·have d:(CG (y,ix,L) !=0)=true:=by simpa using h0
  rw[d,if_pos rfl,if_pos h0]
theorem Wh{p:Int}(h:0≤p∧p<7):ED[p.toNat]? =some (ED.getD p.toNat [])∧(ED.getD p.toNat []).length≤16:=by
 have cases7:p=0∨p=1∨p=2∨p=3∨p=4∨p=5∨p=6:=by omega
 rcases cases7 with h|h|h|h|h|h|h<;>subst h<;>exact⟨rfl,by decide⟩
theorem U0:BQ [1,2] 100= [33,67]:=by
 have hs:share_split (((100:Nat):Int),([1,2]:List Int).sum,[1,2])=some [33,67]:=by
  have r2:=ME (a:=100) (s:=3) (by decide) (by decide) (by decide) [1,2] [] (by decide) (by decide) (by decide);have r2':iter Hg ((100:Int),(3:Int),(100:Int),[1,2],(2:Int),(0:Int),[0,0],[0,0],(),(),())=some ((1:Int),[33,66],[1,2],(),(),()):=r2
  have b:iter Gs ((1:Int),(0:Int),(2:Int),(0:Int),[33,66],[1,2],(),(),(),())=some ((1:Int),(1:Int),[33,66],[1,2],(),(),()):=by
   rw[itL (s':=((1:Int),(0:Int),(2:Int),(1:Int),[33,66],[1,2],(),(),(),())) rfl,itL (s':=((1:Int),(1:Int),(2:Int),(2:Int),[33,66],[1,2],(),(),(),())) rfl,itR];rfl
  have r1:iter Hf ((1:Int),[33,66],[1,2],(),(),())=some ([33,67],(),()):=by
   rw[itL (s':=((0:Int),[33,67],[1,0],(),(),())),itR (t:=([33,67],(),()))]
   ·rfl
   ·unfold Hf;dsimp only;rw[if_pos (by decide)];change Option.bind (iter Gs ((1:Int),(0:Int),(2:Int),(0:Int),[33,66],[1,2],(),(),(),())) _=_;rw[b];rfl
  unfold share_split;dsimp only;rw[if_pos (by decide),bs,bs];change Option.bind (iter Hg ((100:Int),(3:Int),(100:Int),[1,2],(2:Int),(0:Int),[0,0],[0,0],(),(),())) _=_;rw[r2',bs];dsimp only;rw[r1,bs]
 have hs':share_split (100,([1,2]:List Int).sum,[1,2])=some [33,67]:=hs;unfold BQ Ek;rw[if_pos (by decide)];show(share_split (100,([1,2]:List Int).sum,[1,2])).getD []=_;rw[hs'];rfl
theorem U1:BQ [1] (-100)= [-100]:=by
 obtain⟨k1,k2,k3,k4⟩:=Iv (ws:= [1]) ⟨by simp,by decide,by decide⟩ (a:=100) (by decide);unfold BQ;rw[if_neg (by decide),show(-(-100:Int)).toNat=100 from rfl]
 match h:Ek [1] 100,k2,k3 with
 | [x],_,k3=>
  simp only[List.sum_cons,List.sum_nil,Int.add_zero]at k3;rw[k3];rfl
theorem G2:law34_awake ()=some true:=by
 have h1:Dp (2024,1,[(0,[115,97,108,97,114,121],100)]) [([97],1),([98],2)]=([([119,97,103,101,115,47,97],[110,101,116],33,[115,97,108,97,114,121]),([119,97,103,101,115,47,98],[110,101,116],67,[115,97,108,97,114,121])],0):=by
  unfold Dp;rw[if_neg (show ¬(CG (2024,1,[(0,[115,97,108,97,114,121],100)])≠0) by decide),if_neg (show ¬(C8 [([97],1),([98],2)]≠0) by decide)];have e:AS (DD [([97],1),([98],2)]) (0,[115,97,108,97,114,121],100)=Ce [119,97,103,101,115] (toS (.inl ()) [115,97,108,97,114,121]) [115,97,108,97,114,121] ((BQ [1,2] 100).zip [([97],1),([98],2)]):=rfl;simp only[List.flatMap_cons,List.flatMap_nil,List.append_nil];rw[e,U0];rfl
 have h2:Dp (2024,1,[(0,[115,97,108,97,114,121],-100)]) []=([([110,101,116],[119,97,103,101,115,47,102,105,114,109],100,[115,97,108,97,114,121])],0):=by
  unfold Dp;rw[if_neg (show ¬(CG (2024,1,[(0,[115,97,108,97,114,121],-100)])≠0) by decide),if_neg (show ¬(C8 []≠0) by decide)];have e:AS (DD []) (0,[115,97,108,97,114,121],-100)=Ce [119,97,103,101,115] (toS (.inl ()) [115,97,108,97,114,121]) [115,97,108,97,114,121] ((BQ [1] (-100)).zip [([102,105,114,109],1)]):=rfl;simp only[List.flatMap_cons,List.flatMap_nil,List.append_nil];rw[e,U1];rfl
 unfold law34_awake;dsimp only;rw[Ml,bs,Ml,bs,h1,h2];rfl
theorem Tn(s:Int×Int×List Ln)(cost:List Wt):law34_great (s,cost)=some (decide ((s.2.2.length:Int)>60)||decide ((cost.length:Int)>70)):=by
 unfold law34_great
 dsimp only;try simp only[gPi,gSS,gPb,gPm,gPs,gM,gM2,By,gOr,Bz,B3,gAA,gAO,gOA,gOO,Bv,Bx,B0,B2,Bw,B1,gId]
 try simp only[B9,BA,BB,BC,BD,BE,BF,BG,gId,B8,gMb,gMm,gBm,gBb,bs,ms]
 by_cases h:(s.2.2.length:Int)>60
 ·rw[Al h,if_pos rfl];rfl
 ·rw[Ak h,if_neg (by decide)];rfl
theorem Uk(s:Int×Int×List Ln)(cost:List Wt):(Dp s cost).1.length≤64*s.2.2.length:=by
 unfold Dp;split
 ·simp
 ·split
  ·simp
  ·rename_i h;rw[ne_eq,Decidable.not_not]at h;have hc:=KW h;exact Ls _ 64 (LJ hc.len.1 hc.len.2) _
theorem KC(s w:List UInt8)(h:s.length≤4611686018427387904):law34_begins (s,w)=some (w.isPrefixOf s):=by
 unfold law34_begins;dsimp only;try simp only[gPi,gSS,gPb,gPm,gPs,gM,gM2,By,gOr,Bz,B3,gAA,gAO,gOA,gOO,Bv,Bx,B0,B2,Bw,B1,gId]
 try simp only[B9,BA,BB,BC,BD,BE,BF,BG,gId,B8,gMb,gMm,gBm,gBb,bs,ms]
 by_cases hl:(s.length:Int)≥(w.length:Int)
 ·have e:=Jl (xs:=s) (i:=0) (j:=w.length) (by omega) (by omega);rw[Al hl,if_pos rfl,show(0:Int)=((0:Nat):Int)from rfl,e,bs,List.drop_zero]
  congr 1
  rw[Bool.eq_iff_iff,List.isPrefixOf_iff_prefix,beq_iff_eq,List.prefix_iff_eq_take];exact⟨fun h=>h.symm,fun h=>h.symm⟩
 ·rw[Ak hl,if_neg (by decide)]
  congr 1
  symm;rw[←Bool.not_eq_true,List.isPrefixOf_iff_prefix];intro hp;have:=hp.length_le;omega
def sgn(b:Bool)(x:Int):Int:=if b=true then x else 0
def EB(w:List UInt8)(e:List UInt8×List UInt8×Int×List UInt8):Int:=sgn (w.isPrefixOf e.1) e.2.2.1-sgn (w.isPrefixOf e.2.1) e.2.2.1
def AX(w:List UInt8)(l:Bn):Int:=(l.map (EB w)).sum
def Bb(l:Bn):Int:=(l.map fun e=>e.2.2.1).sum
theorem Gv(w:List UInt8)(a b:Bn):AX w (a++b)=AX w a+AX w b:=by unfold AX;rw[List.map_append,List.sum_append]
theorem Kv(a b:Bn):Bb (a++b)=Bb a+Bb b:=by unfold Bb;rw[List.map_append,List.sum_append]
def D7(l:Bn):Prop:=∀e∈l,e.1.length≤1000∧e.2.1.length≤1000∧0≤e.2.2.1
theorem Kj(w:List UInt8):∀(l:Bn),D7 l→0≤Bb l∧ -(Bb l)≤AX w l∧AX w l≤Bb l
 | [],_=>by simp[Bb,AX]
 |e::l,h=>by
  have h1:=(h e (by simp)).2.2;obtain⟨h2,h3,h4⟩:=Kj w l fun x hx=>h x (by simp[hx]);unfold Bb AX EB sgn at*;simp only[List.map_cons,List.sum_cons];split<;>split<;>refine⟨?_, ?_, ?_⟩<;>omega
theorem OZ{w:List UInt8}:∀(l pre:Bn) (s:Int),D7 (pre++l)→Bb (pre++l)≤1152921504606846976→s=AX w pre→pre.length+l.length≤100000→
  iter Jm (pre++l,w,s,(pre.length:Int),())=some (AX w (pre++l),())
 | [],pre,s,hf,ha,hs,hn=>by
  refine itR ?_;unfold Jm;dsimp only;have c:decide ((pre.length:Int)<(((pre++ []):Bn).length:Int))=false:=Ak (by simp);rw[c,if_neg (by decide),hs,List.append_nil]
 |e::l,pre,s,hf,ha,hs,hn=>by
  simp only[List.length_cons]at hn;have w1:i64.wrap ((pre.length:Int)+1)=((pre++ [e]).length:Int):=by rw[BK (by omega) (by omega)];simp
  have c:decide ((pre.length:Int)<(((pre++e::l):Bn).length:Int))=true:=Al (by simp;omega);have he:=hf e (by simp);have hp:=Kj w pre fun x hx=>hf x (by simp[hx]);have hl:=Kj w l fun x hx=>hf x (by simp[hx])
  have hab:Bb (pre++e::l)=Bb pre+e.2.2.1+Bb l:=by
   rw[Kv];unfold Bb;simp only[List.map_cons,List.sum_cons];omega
  have hse:AX w (pre++ [e])=s+EB w e:=by rw[Gv,hs];simp[AX]
  have e2:=OZ (w:=w) l (pre++ [e]) (s+EB w e) (by simpa using hf) (by simpa using ha) hse.symm (by simp;omega);rw[List.append_assoc,List.singleton_append]at e2;refine(itL (s':=(pre++e::l,w,s+EB w e,((pre++ [e]).length:Int),())) ?_).trans e2;unfold Jm;dsimp only;simp only[gPi,gSS,gPb,gPm,gPs,gM,gM2,By,gOr,Bz,B3,gAA,gAO,gOA,gOO,Bv,Bx,B0,B2,Bw,B1,gId];try simp only[B9,BA,BB,BC,BD,BE,BF,BG,gId,B8,gMb,gMm,gBm,gBb,bs,ms]
  rw[c,if_pos rfl];simp only[Jk,bs];rw[KC _ _ (by omega),bs];unfold EB sgn
  cases b1:w.isPrefixOf e.1 with
  |true=>
   rw[if_pos rfl,bs];dsimp only;simp only[Jk,bs];rw[KC _ _ (by omega),bs,BK (n:=s+e.2.2.1) (by omega) (by omega)]
   cases b2:w.isPrefixOf e.2.1 with
   |true=>
    rw[if_pos rfl,bs];dsimp only;rw[w1,BK (n:=s+e.2.2.1-e.2.2.1) (by omega) (by omega)];simp only[if_true];rw[show s+e.2.2.1-e.2.2.1=s+(e.2.2.1-e.2.2.1) by omega]
   |false=>
    rw[if_neg (by decide),bs];dsimp only;rw[w1];simp
  |false=>
   rw[if_neg (by decide),bs];dsimp only;simp only[Jk,bs];rw[KC _ _ (by omega),bs]
   cases b2:w.isPrefixOf e.2.1 with
   |true=>
    rw[if_pos rfl,bs];dsimp only;rw[w1,BK (n:=s-e.2.2.1) (by omega) (by omega)];simp only[if_true,Ag,if_false];rw[show s-e.2.2.1=s+(0-e.2.2.1) by omega]
   |false=>
    rw[if_neg (by decide),bs];dsimp only;rw[w1];simp
theorem TU{w:List UInt8}{l:Bn}(hf:D7 l)(ha:Bb l≤1152921504606846976)(hn:l.length≤100000):law34_sum (l,w)=some (AX w l):=by
 have e:=OZ (w:=w) l [] 0 hf ha (by simp[AX]) (by simpa using hn);simp only[List.nil_append,List.length_nil]at e;unfold law34_sum;dsimp only;rw[show(0:Int)=((0:Nat):Int)from rfl]at e⊢;rw[e,bs]
theorem Ix(w d c:List UInt8)(x:Int)(n:List UInt8):AX w (Ck d c x n)=sgn (w.isPrefixOf d) x-sgn (w.isPrefixOf c) x:=by
 unfold Ck;by_cases h0:x=0
 ·rw[if_pos h0,h0];simp[AX,sgn]
 ·rw[if_neg h0];by_cases h1:x<0
  ·rw[if_pos h1];simp only[AX,List.map_cons,List.map_nil,List.sum_cons,List.sum_nil,EB,sgn];split<;>split<;>omega
  ·rw[if_neg h1];simp only[AX,List.map_cons,List.map_nil,List.sum_cons,List.sum_nil,EB,sgn];split<;>split<;>omega
theorem Nm(d c:List UInt8)(x:Int)(n:List UInt8):Bb (Ck d c x n)=if x<0 then-x else x:=by
 unfold Ck;by_cases h0:x=0
 ·rw[if_pos h0,h0];simp[Bb]
 ·rw[if_neg h0];by_cases h1:x<0
  ·rw[if_pos h1,if_pos h1];simp[Bb]
  ·rw[if_neg h1,if_neg h1];simp[Bb]
theorem Ox{d c:List UInt8}(x:Int)(n:List UInt8)(hd:d.length≤1000)(hc:c.length≤1000):D7 (Ck d c x n):=by
 intro e he;unfold Ck at he;by_cases h0:x=0
 ·rw[if_pos h0]at he;cases he
 ·rw[if_neg h0]at he;by_cases h1:x<0
  ·rw[if_pos h1]at he;rw[List.mem_singleton.1 he];exact⟨hc,hd,by show 0≤ -x;omega⟩
  ·rw[if_neg h1]at he;rw[List.mem_singleton.1 he];exact⟨hd,hc,by show 0≤x;omega⟩
theorem D7.app{a b:Bn}(h:D7 a)(k:D7 b):D7 (a++b):=fun e he=>(List.mem_append.1 he).elim (h e) (k e)
theorem Fb{w word to note:List UInt8}{B:Bool}(hB:∀n:List UInt8,w.isPrefixOf (word++ [47]++n)=B):∀(ps:List Int) (cost:List Wt),ps.length=cost.length→AX w (Ce word to note (ps.zip cost))=sgn B ps.sum-sgn (w.isPrefixOf to) ps.sum
 | [],_,_=>by simp[Ce,AX,sgn]
 |p::ps,[],h=>by simp at h
 |p::ps,c::cost,h=>by
  have ih:=Fb (note:=note) (to:=to) hB ps cost (by simpa using h);unfold Ce at ih⊢;rw[List.zip_cons_cons,List.flatMap_cons,Gv,ih,Ix,hB,List.sum_cons];unfold sgn;split<;>split<;>omega
theorem Kw{word to note:List UInt8}:∀(ps:List Int) (cost:List Wt),ps.length=cost.length→((∀p∈ps,0≤p)→Bb (Ce word to note (ps.zip cost))=ps.sum)∧((∀p∈ps,p≤0)→Bb (Ce word to note (ps.zip cost))= -ps.sum)
 | [],_,_=>by simp[Ce,Bb]
 |p::ps,[],h=>by simp at h
 |p::ps,c::cost,h=>by
  obtain⟨i1,i2⟩:=Kw (word:=word) (to:=to) (note:=note) ps cost (by simpa using h);unfold Ce at i1 i2⊢;rw[List.zip_cons_cons,List.flatMap_cons,Kv,Nm,List.sum_cons];refine⟨fun hp=> ?_,fun hp=> ?_⟩
  ·have:=hp p (by simp);rw[i1 fun q hq=>hp q (by simp[hq]),if_neg (by omega)]
  ·have:=hp p (by simp);rw[i2 fun q hq=>hp q (by simp[hq])];split<;>omega
theorem Lp{word to note:List UInt8}(hw:word.length≤100)(ht:to.length≤1000):∀(z:List (Int×Wt)),(∀p∈z,p.2.1.length≤100)→D7 (Ce word to note z)
 | [],_=>fun e he=>by cases he
 |p::z,h=>by
  have ih:=Lp (note:=note) hw ht z fun q hq=>h q (by simp[hq]);have h1:=h p (by simp);unfold Ce at ih⊢;rw[List.flatMap_cons];exact(Ox _ _ (by simp;omega) ht).app ih
theorem Uy{ws:List Int}(h:Hp ws){c:Int}(hc: -1125899906842624≤c∧c≤1125899906842624):(0≤c→∀p∈BQ ws c,0≤p)∧(c<0→∀p∈BQ ws c,p≤0):=by
 unfold BQ;refine⟨fun h0 p hp=> ?_,fun h0 p hp=> ?_⟩
 ·rw[if_pos h0]at hp;exact((Iv h (a:=c.toNat) (by omega)).2.2.2 p hp).1
 ·rw[if_neg (by omega)]at hp;obtain⟨q,hq,rfl⟩:=List.mem_map.1 hp;have:=((Iv h (a:=(-c).toNat) (by omega)).2.2.2 q hq).1;omega
def I0:List UInt8:= [119,97,103,101,115,47]
def H9:List UInt8:= [102,105,114,109,47]
def AO:List UInt8:= [110,101,116]
def Ie:List UInt8:= [111,119,101,100,47]
structure Rm (cost:List Wt) (l:Ln):Prop where
 wages:AX I0 (AS cost l)=if l.1=0 then l.2.2 else 0
 firm:AX H9 (AS cost l)=if l.1=6 then l.2.2 else 0
 net:AX AO (AS cost l)=if l.1=0 then-l.2.2 else if l.1=6 then 0 else l.2.2
 owed:AX Ie (AS cost l)=if l.1=0 then 0 else-l.2.2
 abs:Bb (AS cost l)≤1125899906842624
 fine:D7 (AS cost l)
theorem OS{cost:List Wt}(hc:En cost){l:Ln}(hl:Ep l):Rm cost l:=by
 obtain⟨p,code,c⟩:=l;have hr:=hl.r;have hcn:code.length≤32:=ET hl.nm;obtain⟨s1,s2,s3,s4⟩:=P9 hc.ws hr;obtain⟨g1,g2⟩:=Uy hc.ws hr
 have hzn:∀q∈(BQ (cost.map (·.2)) c).zip cost,q.2.1.length≤100:=fun q hq=>by
  have:=ET (hc.nm q.2 (List.of_mem_zip hq).2);omega
 rw[List.length_map]at s2;simp only at s2 s3 s4 g1 g2 hr;by_cases h0:p=0
 ·subst h0;have e:AS cost (0,code,c)=Ce [119,97,103,101,115] [110,101,116] code ((BQ (cost.map (·.2)) c).zip cost):=rfl;obtain⟨a1,a2⟩:=Kw (word:= [119,97,103,101,115]) (to:= [110,101,116]) (note:=code) _ cost s2;refine⟨?_, ?_, ?_, ?_, ?_, ?_⟩<;>try dsimp only
  ·rw[e,Fb (B:=true) (fun n=>rfl) _ _ s2,s3,if_pos rfl];simp[I0,sgn,List.isPrefixOf]
  ·rw[e,Fb (B:=false) (fun n=>rfl) _ _ s2,s3,if_neg (by decide)];simp[H9,sgn,List.isPrefixOf]
  ·rw[e,Fb (B:=false) (fun n=>rfl) _ _ s2,s3,if_pos rfl];simp[AO,sgn,List.isPrefixOf]
  ·rw[e,Fb (B:=false) (fun n=>rfl) _ _ s2,s3,if_pos rfl];simp[Ie,sgn,List.isPrefixOf]
  ·rw[e];by_cases hs:0≤c
   ·rw[a1 (g1 hs),s3];omega
   ·rw[a2 (g2 (by omega)),s3];omega
  ·rw[e];exact Lp (by decide) (by decide) _ hzn
 ·by_cases h6:p=6
  ·subst h6;have e:AS cost (6,code,c)=Ce [102,105,114,109] ([111,119,101,100,47,115,111,99,105,97,108,47]++code) code ((BQ (cost.map (·.2)) c).zip cost):=rfl;obtain⟨a1,a2⟩:=Kw (word:= [102,105,114,109]) (to:= [111,119,101,100,47,115,111,99,105,97,108,47]++code) (note:=code) _ cost s2;refine⟨?_, ?_, ?_, ?_, ?_, ?_⟩<;>try dsimp only
   ·rw[e,Fb (B:=false) (fun n=>rfl) _ _ s2,s3,if_neg (by decide)];simp[I0,sgn,List.isPrefixOf]
   ·rw[e,Fb (B:=true) (fun n=>rfl) _ _ s2,s3,if_pos rfl];simp[H9,sgn,List.isPrefixOf]
   ·rw[e,Fb (B:=false) (fun n=>rfl) _ _ s2,s3,if_neg (by decide),if_pos rfl];simp[AO,sgn,List.isPrefixOf]
   ·rw[e,Fb (B:=false) (fun n=>rfl) _ _ s2,s3,if_neg (by decide)];simp[Ie,sgn,List.isPrefixOf]
   ·rw[e];by_cases hs:0≤c
    ·rw[a1 (g1 hs),s3];omega
    ·rw[a2 (g2 (by omega)),s3];omega
   ·rw[e];exact Lp (by decide) (by simp;omega) _ hzn
  ·have hp:=hl.p;obtain⟨w1,w2⟩:=Wh hp
   have e:AS cost (p,code,c)=Ck [110,101,116] (E6 (ED.getD p.toNat []) code) c code:=by
    unfold AS;rw[if_neg h0,if_neg h6]
   simp only at w2;generalize ED.getD p.toNat []=W at*;refine⟨?_, ?_, ?_, ?_, ?_, ?_⟩<;>try dsimp only
   ·rw[e,Ix,if_neg h0];simp[I0,sgn,List.isPrefixOf,E6]
   ·rw[e,Ix,if_neg h6];simp[H9,sgn,List.isPrefixOf,E6]
   ·rw[e,Ix,if_neg h0,if_neg h6];simp[AO,sgn,List.isPrefixOf,E6]
   ·rw[e,Ix,if_neg h0];simp[Ie,sgn,List.isPrefixOf,E6]
   ·rw[e,Nm];split<;>omega
   ·rw[e];exact Ox _ _ (by decide) (by unfold E6;simp;omega)
def Fa(P:Int→Bool)(L:List Ln):Int:=(L.map fun l=>if P l.1=true then l.2.2 else 0).sum
theorem MK(P:Int→Bool)(l:Ln)(L:List Ln):Fa P (l::L)=(if P l.1=true then l.2.2 else 0)+Fa P L:=by simp[Fa]
def pG(p:Int):Bool:=decide (p=0)
def pF(p:Int):Bool:=decide (p=6)
def pH(p:Int):Bool:=decide (1≤p)&&decide (p≤5)
theorem QN{cost:List Wt}(hc:En cost):∀(L:List Ln),(∀x∈L,Ep x)→
  AX I0 (L.flatMap (AS cost))=Fa pG L∧AX H9 (L.flatMap (AS cost))=Fa pF L∧AX AO (L.flatMap (AS cost))=Fa pH L-Fa pG L∧
   AX Ie (L.flatMap (AS cost))= -Fa pH L-Fa pF L∧Bb (L.flatMap (AS cost))≤1125899906842624*L.length∧D7 (L.flatMap (AS cost))
 | [],_=>⟨rfl,rfl,rfl,rfl,by simp[Bb],fun e he=>by cases he⟩
 |l::L,h=>by
  obtain⟨i1,i2,i3,i4,i5,i6⟩:=QN hc L fun x hx=>h x (by simp[hx]);have hl:=h l (by simp);have hp:=hl.p;obtain⟨k1,k2,k3,k4,k5,k6⟩:=OS hc hl;rw[List.flatMap_cons];rw[Gv,Gv,Gv,Gv,Kv,MK,MK,MK,i1,i2,i3,i4,k1,k2,k3,k4];simp only[pG,pF,pH,Af,decide_eq_true_eq,List.length_cons];refine⟨by simp,by simp, ?_, ?_,by omega,k6.app i6⟩
  ·by_cases h0:l.1=0
   ·simp[h0];omega
   ·by_cases h6:l.1=6
    ·simp[h6]
    ·rw[if_neg h0,if_neg h6,if_pos (by omega),if_neg h0];omega
  ·by_cases h0:l.1=0
   ·simp[h0]
   ·by_cases h6:l.1=6
    ·simp[h6];omega
    ·rw[if_neg h0,if_pos (by omega),if_neg h6];omega
set_option linter.unusedVariables false
noncomputable def unicode_utf8_RuneCountInString(a:List UInt8):Option Int:=let x0:=a;none
noncomputable def unicode_utf8_decodeRuneInStringSlow(a:List UInt8):Option (Int×Int):=let x0:=a;let x14:=(x0.length:Int);let x16:=(decide (x14<1));if x16 then(some ((65533:Int),(0:Int)))else((sAt x0 0).bind fun x18=>none)
noncomputable def unicode_utf8_DecodeRuneInString(a:List UInt8):Option (Int×Int):=let x0:=a;let x5:=(!(x0==([]:List UInt8)));let x7:=(if x5=true then some x0 else none);Option.bind (if x5=true then((x7.bind (fun z=>some (z,(0:Int)))).bind (fun u=>sAt u.1 u.2)).map some else some none) fun x8=>Option.bind (if x5=true then((x8.bind (fun z=>some (z,(128:Int)))).map (fun u=>(decide (u.1<u.2)))).map some else some none) fun x9=>(if x5 then x9 else some false).bind fun x10=>if x10 then((sAt x0 0).bind fun x12=>let x13:=IntKind.i32.wrap x12;some (x13,(1:Int)))else((unicode_utf8_decodeRuneInStringSlow x0).bind fun x16=>some (x16.1,x16.2))
noncomputable def Vv(s:List UInt8×Int×Int×(List (List UInt8))×Unit×Unit):Option ((List UInt8×Int×Int×(List (List UInt8))×Unit×Unit)⊕((List UInt8×Int×(List (List UInt8))×Unit×Unit))):=let x0:=s.1;let x1:=s.2.1;let x7:=s.2.2.1;let l21:=s.2.2.2.1;let x24:=i64.wrap (x1-1);let x25:=(decide (x7<x24));if x25 then((unicode_utf8_DecodeRuneInString x0).bind fun x30=>(CQ x0 0 x30.2).bind fun x37=>Option.bind (if 0≤x7∧x7<(l21.length:Int)then some x7.toNat else none) fun x38=>Option.bind ((l21[x38]?).map (fun el37=>l21.set x38 x37)) fun l21=>Option.bind (CQ x0 x30.2 (x0.length:Int)) fun x41=>let x27:=i64.wrap (x7+1);some (Sum.inl (x41,x1,x27,l21,(),())))else(some (Sum.inr (x0,x1,l21,(),())))
noncomputable def strings_explode(a:List UInt8×Int):Option (List (List UInt8)):=let x0:=a.1;let x1:=a.2;(unicode_utf8_RuneCountInString x0).bind fun x11=>Option.bind (show Option ((List UInt8×Int×Unit))from(let x13:=(decide (x1<0));let x15:=(if x13=false then some x1 else none);let x16:=(if x13=false then some x11 else none);Option.bind (if x13=false then((x15.bind (fun z=>x16.map (fun u=>(z,u)))).map (fun v=>(decide (v.1>v.2)))).map some else some none) fun x17=>Option.bind (if x13 then some true else x17.map (fun z=>z)) fun x18=>if x18 then(some (x0,x11,()))else(some (x0,x1,())))) fun o=>let x0:=o.1;let x1:=o.2.1;Option.bind (if 0≤x1∧x1≤x1∧x1*16≤140737488355328∧x1≤4611686018427387904 then some (List.replicate x1.toNat ([]:List UInt8))else none) fun l21=>Option.bind (iter Vv (x0,x1,0,l21,(),())) fun o=>let x0:=o.1;let x1:=o.2.1;let l21:=o.2.2.1;Option.bind (show Option (((List (List UInt8))×Unit×Unit))from(let x43:=(decide (x1>0));if x43 then(let x46:=i64.wrap (x1-1);Option.bind (if 0≤x46∧x46<(l21.length:Int)then some x46.toNat else none) fun x48=>Option.bind ((l21[x48]?).map (fun el41=>l21.set x48 x0)) fun l21=>some (l21,(),()))else(some (l21,(),())))) fun o=>let l21:=o.1;some l21
noncomputable def strings_Index(a:List UInt8×List UInt8):Option Int:=let x0:=a.1;let x1:=a.2;(internal_stringslite_Index (x0,x1)).bind fun x7=>some x7
noncomputable def Hj(s:List UInt8×List UInt8×Int×Int×Int×(List (List UInt8))×Unit×Unit):Option ((List UInt8×List UInt8×Int×Int×Int×(List (List UInt8))×Unit×Unit)⊕((List UInt8×Int×(List (List UInt8))×Unit×Unit))):=let x0:=s.1;let x1:=s.2.1;let x2:=s.2.2.1;let x3:=s.2.2.2.1;let x10:=s.2.2.2.2.1;let l31:=s.2.2.2.2.2.1;let x36:=(decide (x10<x3));if x36 then((strings_Index (x0,x1)).bind fun x39=>let x41:=(decide (x39<0));if x41 then(some (Sum.inr (x0,x10,l31,(),())))else(let x47:=i64.wrap (x39+x2);(CQ x0 0 x47).bind fun x48=>Option.bind (if 0≤x10∧x10<(l31.length:Int)then some x10.toNat else none) fun x49=>Option.bind ((l31[x49]?).map (fun el15=>l31.set x49 x48)) fun l31=>let x53:=(x1.length:Int);let x54:=i64.wrap (x39+x53);(CQ x0 x54 (x0.length:Int)).bind fun x55=>let x57:=i64.wrap (x10+1);some (Sum.inl (x55,x1,x2,x3,x57,l31,(),()))))else(some (Sum.inr (x0,x10,l31,(),())))
noncomputable def strings_genSplit(a:List UInt8×List UInt8×Int×Int):Option (List (List UInt8)):=let x0:=a.1;let x1:=a.2.1;let x2:=a.2.2.1;let x3:=a.2.2.2;let x13:=(x3==0);if x13 then(some ([]:List (List UInt8)))else(let x15:=((x1==([]:List UInt8)));if x15 then((strings_explode (x0,x3)).bind fun x18=>some x18)else(Option.bind (show Option ((List UInt8×List UInt8×Int×Int×Unit))from(let x20:=(decide (x3<0));if x20 then((strings_Count (x0,x1)).bind fun x23=>let x24:=i64.wrap (x23+1);some (x0,x1,x2,x24,()))else(some (x0,x1,x2,x3,())))) fun o=>let x0:=o.1;let x1:=o.2.1;let x2:=o.2.2.1;let x3:=o.2.2.2.1;let x27:=(x0.length:Int);let x28:=i64.wrap (x27+1);let x29:=(min x3 x28);Option.bind (if 0≤x29∧x29≤x29∧x29*16≤140737488355328∧x29≤4611686018427387904 then some (List.replicate x29.toNat ([]:List UInt8))else none) fun l31=>let x33:=i64.wrap (x29-1);Option.bind (show Option ((List UInt8×Int×(List (List UInt8))×Unit×Unit))from(Option.bind (iter Hj (x0,x1,x2,x33,0,l31,(),())) fun o=>let x0:=o.1;let x10:=o.2.1;let l31:=o.2.2.1;some (x0,x10,l31,(),()))) fun o=>let x0:=o.1;let x10:=o.2.1;let l31:=o.2.2.1;Option.bind (if 0≤x10∧x10<(l31.length:Int)then some x10.toNat else none) fun x61=>Option.bind ((l31[x61]?).map (fun el18=>l31.set x61 x0)) fun l31=>let x64:=i64.wrap (x10+1);(CQ l31 0 x64).bind fun x65=>some x65))
noncomputable def strings_Split(a:List UInt8×List UInt8):Option (List (List UInt8)):=let x0:=a.1;let x1:=a.2;Option.bind (strings_genSplit (x0,x1,0,(-1))) fun x7=>some x7
noncomputable def HP(s:List Int×Int×Int×Unit):Option ((List Int×Int×Int×Unit)⊕(Unit⊕Bool)):=let x13:=s.1;let x14:=s.2.1;let x15:=s.2.2.1;let x16:=(decide (x15<x14));if x16 then(Option.bind ((lAt x13 x15).map (fun y=>y)) fun x17=>Option.bind (show Option ((List Int×Int×Int×Bool×Unit))from(let x21:=(decide (x17≥97));let x23:=(if x21=true then some x17 else none);Option.bind (if x21=true then((x23.bind (fun z=>some (z,(122:Int)))).map (fun u=>(decide (u.1≤u.2)))).map some else some none) fun x24=>(if x21 then x24 else some false).bind fun x25=>if x25 then(some (x13,x14,x15,x25,()))else(let x27:=(decide (x17≥48));let x29:=(if x27=true then some x17 else none);Option.bind (if x27=true then((x29.bind (fun z=>some (z,(57:Int)))).map (fun u=>(decide (u.1≤u.2)))).map some else some none) fun x30=>(if x27 then x30 else some false).bind fun x31=>if x31 then(some (x13,x14,x15,x31,()))else(let x33:=(x17==46);if x33 then(some (x13,x14,x15,x33,()))else(let x35:=(x17==95);if x35 then(some (x13,x14,x15,x35,()))else(let x37:=(x17==45);some (x13,x14,x15,x37,()))))))) fun o=>let x13:=o.1;let x14:=o.2.1;let x15:=o.2.2.1;let x19:=o.2.2.2.1;if x19 then(let x38:=i64.wrap (x15+1);some (Sum.inl (x13,x14,x38,())))else(some (Sum.inr (Sum.inr false))))else(some (Sum.inr (Sum.inl (()))))
noncomputable def ledger_part(a:List UInt8):Option Bool:=let x0:=a;let x6:=((x0==([]:List UInt8)));let x8:=(if x6=false then some x0 else none);Option.bind (if x6=false then(x8.map (fun z=>(z.length:Int))).map some else some none) fun x9=>Option.bind (if x6=false then((x9.bind (fun z=>some (z,(32:Int)))).map (fun u=>(decide (u.1>u.2)))).map some else some none) fun x10=>Option.bind (if x6 then some true else x10.map (fun z=>z)) fun x11=>if x11 then(some false)else(Option.bind (if x0.length≤70368744177664 then some (x0.map fun b=>(b.toNat:Int))else none) fun x13=>let x14:=(x13.length:Int);Option.bind (iter HP (x13,x14,0,())) fun o=>match o with|Sum.inl p140=>(some true)|Sum.inr q141=>(some q141))
noncomputable def HM(s:(List (List UInt8))×Int×Int×Unit):Option (((List (List UInt8))×Int×Int×Unit)⊕(Unit⊕Bool)):=let x11:=s.1;let x12:=s.2.1;let x13:=s.2.2.1;let x14:=(decide (x13<x12));if x14 then(Option.bind ((lAt x11 x13).map (fun y=>y)) fun x15=>(ledger_part x15).bind fun x18=>let x19:=(!x18);if x19 then(some (Sum.inr (Sum.inr false)))else(let x20:=i64.wrap (x13+1);some (Sum.inl (x11,x12,x20,()))))else(some (Sum.inr (Sum.inl (()))))
noncomputable def ledger_Account_right(a:List UInt8):Option Bool:=let x0:=a;Option.bind (strings_Split (x0,([47]:List UInt8))) fun x7=>let x9:=(x7.length:Int);let x10:=(decide (x9>3));if x10 then(some false)else(let x12:=(x7.length:Int);Option.bind (iter HM (x7,x12,0,())) fun o=>match o with|Sum.inl p1=>(some true)|Sum.inr q2=>(some q2))
noncomputable def HO(s:List Int×Int×Int×Unit):Option ((List Int×Int×Int×Unit)⊕(Unit⊕Bool)):=let x9:=s.1;let x10:=s.2.1;let x11:=s.2.2.1;let x12:=(decide (x11<x10));if x12 then(Option.bind ((lAt x9 x11).map (fun y=>y)) fun x13=>let x16:=(decide (x13<32));let x18:=(if x16=false then some x13 else none);Option.bind (if x16=false then((x18.bind (fun z=>some (z,(126:Int)))).map (fun u=>(decide (u.1>u.2)))).map some else some none) fun x19=>Option.bind (if x16 then some true else x19.map (fun z=>z)) fun x20=>if x20 then(some (Sum.inr (Sum.inr false)))else(let x21:=i64.wrap (x11+1);some (Sum.inl (x9,x10,x21,()))))else(some (Sum.inr (Sum.inl (()))))
noncomputable def ledger_note(a:List UInt8):Option Bool:=let x0:=a;let x6:=(x0.length:Int);let x7:=(decide (x6>64));if x7 then(some false)else(Option.bind (if x0.length≤70368744177664 then some (x0.map fun b=>(b.toNat:Int))else none) fun x9=>let x10:=(x9.length:Int);Option.bind (iter HO (x9,x10,0,())) fun o=>match o with|Sum.inl p69=>(some true)|Sum.inr q70=>(some q70))
noncomputable def ledger_Entry_check(a:(List UInt8×List UInt8×Int×List UInt8)):Option Int:=let x0:=a;Option.bind (show Option ((Bool×List UInt8×List UInt8×Int×List UInt8×Unit×Unit×Unit))from((ledger_Account_right x0.1).bind fun x6=>let x7:=(!x6);if x7 then(some (x7,x0.1,x0.2.1,x0.2.2.1,x0.2.2.2,(),(),()))else((ledger_Account_right x0.2.1).bind fun x10=>let x11:=(!x10);some (x11,x0.1,x0.2.1,x0.2.2.1,x0.2.2.2,(),(),())))) fun o=>let x3:=o.1;let c1_0:=o.2.1;let c1_1:=o.2.2.1;let c1_2:=o.2.2.2.1;let c1_3:=o.2.2.2.2.1;if x3 then(some (12:Int))else(let x17:=((c1_0==c1_1));if x17 then(some (7:Int))else(let x21:=(decide (c1_2<1));let x23:=(if x21=false then some ()else none);Option.bind (if x21=false then(x23.map (fun z=>c1_2)).map some else some none) fun x24=>Option.bind (if x21=false then((x24.bind (fun z=>some (z,(1125899906842624:Int)))).map (fun u=>(decide (u.1>u.2)))).map some else some none) fun x25=>Option.bind (if x21 then some true else x25.map (fun z=>z)) fun x26=>if x26 then(some (2:Int))else((ledger_note c1_3).bind fun x30=>let x31:=(!x30);if x31 then(some (3:Int))else(some (0:Int)))))
noncomputable def Jn(s:(List (List UInt8×List UInt8×Int×List UInt8))×Int×Int×Unit):Option (((List (List UInt8×List UInt8×Int×List UInt8))×Int×Int×Unit)⊕(Unit⊕Int)):=let x14:=s.1;let x15:=s.2.1;let x16:=s.2.2.1;let x17:=(decide (x16<x15));if x17 then(Option.bind ((lAt x14 x16).map (fun y=>y)) fun x18=>(ledger_Entry_check (x18.1,x18.2.1,x18.2.2.1,x18.2.2.2)).bind fun x21=>let x23:=(x21 !=0);if x23 then(some (Sum.inr (Sum.inr x21)))else(let x25:=i64.wrap (x16+1);some (Sum.inl (x14,x15,x25,()))))else(some (Sum.inr (Sum.inl (()))))
noncomputable def ledger_batch(a:(List (List UInt8×List UInt8×Int×List UInt8))):Option Int:=let x0:=a;let x8:=(x0.length:Int);let x9:=(x8==0);if x9 then(some (10:Int))else(let x12:=(x0.length:Int);let x13:=(decide (x12>65536));if x13 then(some (5:Int))else(let x15:=(x0.length:Int);Option.bind (iter Jn (x0,x15,0,())) fun o=>match o with|Sum.inl p1=>(some (0:Int))|Sum.inr q2=>(some q2)))
noncomputable def slices_Clone(a:List (List UInt8×List UInt8×Int×List UInt8)):Option (List (List UInt8×List UInt8×Int×List UInt8)):=if a.length*56≤140737488355328∧a.length≤4611686018427387904 then some a else none
noncomputable def OQ(x:List UInt8×Int)(s:Int×Unit):Option ((Int×Unit)⊕((Int×Unit))):=let x3:=s.1;let x15:=i64.wrap (x3+x.2);some (Sum.inl (x15,()))
noncomputable def OP(s:Int×Unit):Option ((Int×Unit)⊕((Int×Unit))):=let x3:=s.1;some (Sum.inr (x3,()))
noncomputable def ledger_Ledger_Trial(a:((List (List (List UInt8×List UInt8×Int×List UInt8)))×(List (List UInt8×Int)))):Option Int:=let x0:=a;JG x0.2 fun π=>Option.bind (ER OQ OP π ((0:Int),())) fun o=>let x3:=o.1;some x3
noncomputable def ledger_Ledger_Balance(a:((List (List (List UInt8×List UInt8×Int×List UInt8)))×(List (List UInt8×Int)))×List UInt8):Option Int:=let x0:=a.1;let x1:=a.2;let x8:=(BL (eqZ .str) (Bj (.int .i64)) x1 x0.2).1;some x8
noncomputable def maps_Clone(a:Unit):Option Unit:=let x0:=a;if true then(some ())else(none)
noncomputable def HN(s:(List (List UInt8×List UInt8×Int×List UInt8))×(List (List UInt8×List UInt8×Int×List UInt8))×Int×Int×(List (List UInt8×Int))×Unit×Unit×Unit×Unit×Unit×Unit×Unit×Unit×Unit×Unit):Option (((List (List UInt8×List UInt8×Int×List UInt8))×(List (List UInt8×List UInt8×Int×List UInt8))×Int×Int×(List (List UInt8×Int))×Unit×Unit×Unit×Unit×Unit×Unit×Unit×Unit×Unit×Unit)⊕(((List (List UInt8×List UInt8×Int×List UInt8))×(List (List UInt8×Int))×Unit×Unit×Unit×Unit×Unit×Unit×Unit×Unit×Unit×Unit)⊕(((List (List (List UInt8×List UInt8×Int×List UInt8)))×(List (List UInt8×Int)))×Int))):=let x1:=s.1;let x28:=s.2.1;let x29:=s.2.2.1;let x30:=s.2.2.2.1;let l27:=s.2.2.2.2.1;let x31:=(decide (x30<x29));if x31 then(Option.bind ((lAt x28 x30).map (fun y=>y)) fun x32=>let x37:=(BL (eqZ .str) (Bj (.int .i64)) x32.1 l27).1;let x40:=i64.wrap (x37+x32.2.2.1);let l27:=Bu (eqZ .str) x32.1 x40 l27;let x44:=(BL (eqZ .str) (Bj (.int .i64)) x32.2.1 l27).1;let x47:=i64.wrap (x44-x32.2.2.1);let l27:=Bu (eqZ .str) x32.2.1 x47 l27;let x51:=(BL (eqZ .str) (Bj (.int .i64)) x32.1 l27).1;let x52:=(decide (x51>1125899906842624));let x54:=(if x52=false then some ()else none);let x55:=(if x52=false then some ()else none);Option.bind (if x52=false then(x55.map (fun z=>x32.2.1)).map some else some none) fun x56=>Option.bind (if x52=false then(((x54.map (fun z=>l27)).bind (fun u=>x56.map (fun v=>(u,v)))).map (fun w=>(BL (eqZ .str) (Bj (.int .i64)) w.2 w.1).1)).map some else some none) fun x57=>Option.bind (if x52=false then((x57.bind (fun z=>some (z,(-1125899906842624:Int)))).map (fun u=>(decide (u.1<u.2)))).map some else some none) fun x58=>Option.bind (if x52 then some true else x58.map (fun z=>z)) fun x59=>if x59 then(some (Sum.inr (Sum.inr ((([]:List (List (List UInt8×List UInt8×Int×List UInt8))),([]:List (List UInt8×Int))),(9:Int)))))else(let x61:=i64.wrap (x30+1);some (Sum.inl (x1,x28,x29,x61,l27,(),(),(),(),(),(),(),(),(),()))))else(some (Sum.inr (Sum.inl (x1,l27,(),(),(),(),(),(),(),(),(),()))))
noncomputable def ledger_Ledger_Post(a:(Unit×Unit)×(List (List UInt8×List UInt8×Int×List UInt8))):Option (((List (List (List UInt8×List UInt8×Int×List UInt8)))×(List (List UInt8×Int)))×Int):=let x0:=a.1;let x1:=a.2;(ledger_batch x1).bind fun x12=>let x14:=(x12 !=0);if x14 then(some ((([]:List (List (List UInt8×List UInt8×Int×List UInt8))),([]:List (List UInt8×Int))),x12))else(let x20:=((0:Int)==4096);if x20 then(some ((([]:List (List (List UInt8×List UInt8×Int×List UInt8))),([]:List (List UInt8×Int))),(5:Int)))else((maps_Clone ()).bind fun x24=>if true then(let x29:=(x1.length:Int);Option.bind (iter HN (x1,x1,x29,(0:Int),([]:List (List UInt8×Int)),(),(),(),(),(),(),(),(),(),())) fun o=>match o with|Sum.inl p154=>(let x1:=p154.1;let l27:=p154.2.1;Option.bind (if(0:Int)=0∧(0:Int)=0 then some ()else none) fun x69=>(slices_Clone x1).bind fun x71=>let x72:=([x71]:List (List (List UInt8×List UInt8×Int×List UInt8)));Option.bind (if(x72.length:Int)*((24:Nat):Int)≤140737488355328∧(x72.length:Int)≤4611686018427387904 then some x72 else none) fun x73=>some ((x73,l27),(0:Int)))|Sum.inr q155=>(some q155))else(none)))
noncomputable def law34_PostPosts(a:(Int×Int×(List (Int×List UInt8×Int)))×(List (List UInt8×Int))):Option Bool:=let x0:=a.1;let x1:=a.2;Option.bind (law34_great ((x0.1,x0.2.1,x0.2.2),x1)) fun x12=>if x12 then((law34_awake ()).bind fun x13=>some x13)else(Option.bind (post_Of ((x0.1,x0.2.1,x0.2.2),x1)) fun x17=>let x21:=(x17.2 !=0);let x23:=(if x21=false then some x17.1 else none);Option.bind (if x21=false then(x23.map (fun z=>(z.length:Int))).map some else some none) fun x24=>Option.bind (if x21=false then((x24.bind (fun z=>some (z,(0:Int)))).map (fun u=>(u.1==u.2))).map some else some none) fun x25=>Option.bind (if x21 then some true else x25.map (fun z=>z)) fun x26=>let x28:=(if x26=false then some x17.1 else none);Option.bind (if x26=false then(x28.map (fun z=>(z.length:Int))).map some else some none) fun x29=>Option.bind (if x26=false then((x29.bind (fun z=>some (z,(65536:Int)))).map (fun u=>(decide (u.1>u.2)))).map some else some none) fun x30=>Option.bind (if x26 then some true else x30.map (fun z=>z)) fun x31=>if x31 then((law34_awake ()).bind fun x32=>some x32)else(Option.bind (ledger_Ledger_Post (((),()),x17.1)) fun x36=>let x40:=(x36.2==9);if x40 then((law34_awake ()).bind fun x41=>some x41)else(let x43:=(x36.2==0);let x45:=(if x43=true then some (x36.1.1,x36.1.2)else none);Option.bind (if x43=true then((x45.map (fun z=>z)).bind (fun u=>ledger_Ledger_Trial u)).map some else some none) fun x46=>Option.bind (if x43=true then((x46.bind (fun z=>some (z,(0:Int)))).map (fun u=>(u.1==u.2))).map some else some none) fun x47=>(if x43 then x47 else some false).bind fun x48=>let x50:=(if x48=true then some (x36.1.1,x36.1.2)else none);Option.bind (if x48=true then(((x50.bind (fun z=>some (z,([110,101,116]:List UInt8)))).map (fun u=>(u.1,u.2))).bind (fun v=>ledger_Ledger_Balance v)).map some else some none) fun x51=>let x52:=(if x48=true then some x17.1 else none);Option.bind (if x48=true then(((x52.bind (fun z=>some (z,([110,101,116]:List UInt8)))).map (fun u=>(u.1,u.2))).bind (fun v=>law34_sum v)).map some else some none) fun x53=>Option.bind (if x48=true then((x51.bind (fun z=>x53.map (fun u=>(z,u)))).map (fun v=>(v.1==v.2))).map some else some none) fun x54=>(if x48 then x54 else some false).bind fun x55=>Option.bind (if x55=true then(law34_awake ()).map some else some none) fun x57=>(if x55 then x57 else some false).bind fun x58=>some x58)))
set_option linter.unusedSimpArgs false
set_option linter.unusedVariables false
def Cv(c:UInt8):List UInt8→List UInt8→List (List UInt8)
 |cur,[]=> [cur]
 |cur,b::t=>if b=c then cur::Cv c [] t else Cv c (cur++ [b]) t
def De(c:UInt8)(s:List UInt8):List (List UInt8):=Cv c [] s
def CH(c:UInt8):Nat→List UInt8→List UInt8→List (List UInt8)
 |_,cur,[]=> [cur]
 |0,cur,s=> [cur++s]
 |k+1,cur,b::t=>if b=c then cur::CH c k [] t else CH c (k+1) (cur++ [b]) t
theorem Q8(c:UInt8)(k:Nat)(cur:List UInt8)(b:UInt8)(t:List UInt8):CH c (k+1) cur (b::t)=if b=c then cur::CH c k [] t else CH c (k+1) (cur++ [b]) t:=rfl
theorem QE(c:UInt8)(cur:List UInt8)(b:UInt8)(t:List UInt8):Cv c cur (b::t)=if b=c then cur::Cv c [] t else Cv c (cur++ [b]) t:=rfl
theorem Kh(c:UInt8):∀(s cur:List UInt8) (k:Nat),s.count c≤k→CH c k cur s=Cv c cur s
 | [],cur,0,_=>rfl
 | [],cur,k+1,_=>rfl
 |b::t,cur,0,h=>by
  have hb:¬b=c:=by intro e;subst e;simp at h
  have ht:t.count c≤0:=by rw[List.count_cons]at h;omega
  have e:=Kh c t (cur++ [b]) 0 ht;unfold Cv;rw[if_neg hb,←e];show [cur++b::t]=_
  cases t with
  |nil=>rfl
  |cons d t=>show _= [cur++ [b]++d::t];simp
 |b::t,cur,k+1,h=>by
  unfold CH Cv;by_cases hb:b=c
  ·subst hb;rw[if_pos rfl,if_pos rfl,Kh b t [] k (by simp at h;omega)]
  ·rw[if_neg hb,if_neg hb,Kh c t (cur++ [b]) (k+1) (by rw[List.count_cons]at h;omega)]
theorem Q9(c:UInt8):∀(s cur:List UInt8) (k:Nat),(∀b∈s,b≠c)→CH c k cur s= [cur++s]
 | [],cur,0,_=>by unfold CH;simp
 | [],cur,k+1,_=>by unfold CH;simp
 |b::t,cur,0,h=>by unfold CH;rfl
 |b::t,cur,k+1,h=>by
  unfold CH;rw[if_neg (h b (by simp)),Q9 c t _ _ fun x hx=>h x (by simp[hx])];simp
theorem Q7(c:UInt8):∀(l t cur:List UInt8) (k:Nat),(∀b∈l,b≠c)→CH c (k+1) cur (l++c::t)=(cur++l)::CH c k [] t
 | [],t,cur,k,_=>by rw[List.nil_append,Q8,if_pos rfl];simp
 |b::l,t,cur,k,h=>by
  rw[List.cons_append,Q8,if_neg (h b (by simp)),Q7 c l t _ _ fun x hx=>h x (by simp[hx])];simp
theorem QF(c:UInt8):∀(s cur:List UInt8),(∀b∈s,b≠c)→Cv c cur s= [cur++s]
 | [],cur,_=>by unfold Cv;simp
 |b::t,cur,h=>by
  unfold Cv;rw[if_neg (h b (by simp)),QF c t _ fun x hx=>h x (by simp[hx])];simp
theorem QD(c:UInt8):∀(l t cur:List UInt8),(∀b∈l,b≠c)→Cv c cur (l++c::t)=(cur++l)::Cv c [] t
 | [],t,cur,_=>by rw[List.nil_append,QE,if_pos rfl];simp
 |b::l,t,cur,h=>by
  rw[List.cons_append,QE,if_neg (h b (by simp)),QD c l t _ fun x hx=>h x (by simp[hx])];simp
theorem RC(c:UInt8)(s:List UInt8):(∀x∈s,x≠c)∨∃l t,s=l++c::t∧∀x∈l,x≠c:=by
 induction s with
 |nil=>exact .inl (by simp)
 |cons b s ih=>
  by_cases hb:b=c
  ·exact .inr ⟨[],s,by rw[hb];rfl,by simp⟩
  ·rcases ih with h|⟨l,t,rfl,h⟩
   ·exact .inl (by intro x hx;rcases List.mem_cons.1 hx with rfl|hx;exact hb;exact h x hx)
   ·exact .inr ⟨b::l,t,rfl,by intro x hx;rcases List.mem_cons.1 hx with rfl|hx;exact hb;exact h x hx⟩
theorem MF(c:UInt8):∀(s cur:List UInt8),(Cv c cur s).length=s.count c+1
 | [],cur=>rfl
 |b::t,cur=>by
  unfold Cv;rw[List.count_cons];by_cases hb:b=c
  ·subst hb;rw[if_pos rfl,List.length_cons,MF b t []];simp
  ·rw[if_neg hb,MF c t _];simp[hb]
theorem MG(c:UInt8):∀(s cur:List UInt8),(∀x∈cur,x≠c)→∀w∈Cv c cur s,(∀x∈w,x≠c)∧w.length≤cur.length+s.length∧(∀x∈w,x∈cur∨x∈s)
 | [],cur,h,w,hw=>by unfold Cv at hw;simp at hw;subst hw;exact⟨h,by simp,fun x hx=>.inl hx⟩
 |b::t,cur,h,w,hw=>by
  unfold Cv at hw;split at hw
  ·rcases List.mem_cons.1 hw with rfl|hw
   ·exact⟨h,by simp,fun x hx=>.inl hx⟩
   ·obtain⟨h1,h2,h3⟩:=MG c t [] (by simp) w hw;exact⟨h1,by simp at h2⊢;omega,fun x hx=>by rcases h3 x hx with h4|h4;cases h4;exact .inr (by simp[h4])⟩
  ·rename_i hb;obtain⟨h1,h2,h3⟩:=MG c t (cur++ [b]) (by intro x hx;rcases List.mem_append.1 hx with hx|hx;exact h x hx;simp at hx;subst hx;exact hb) w hw
   exact⟨h1,by simp at h2⊢;omega,fun x hx=>by
    rcases h3 x hx with h4|h4
    ·rcases List.mem_append.1 h4 with h4|h4
     ·exact .inl h4
     ·simp at h4;exact .inr (by simp[h4])
    ·exact .inr (by simp[h4])⟩
theorem Ts{l:List UInt8}{c:UInt8}(h:∀b∈l,b≠c):Lib.indexByte l c= -1:=by
 induction l with
 |nil=>rfl
 |cons b t ih=>
  have hb:(b==c)=false:=by simpa using h b (by simp)
  simp[Lib.indexByte,hb,ih fun x hx=>h x (by simp[hx])]
theorem Tr{l t:List UInt8}{c:UInt8}(h:∀b∈l,b≠c):Lib.indexByte (l++c::t) c=(l.length:Int):=by
 induction l with
 |nil=>simp[Lib.indexByte]
 |cons b u ih=>
  have hb:(b==c)=false:=by simpa using h b (by simp)
  have e:=ih fun x hx=>h x (by simp[hx]);simp only[List.cons_append,Lib.indexByte,hb,e];have:(((u.length:Int))== -1)=false:=by simp
  simp[this]
theorem Na(s:List UInt8)(c:UInt8):strings_Index (s,[c])=some (Lib.indexByte s c):=rfl
theorem Tq(c:UInt8):∀(k:Nat) (done:List (List UInt8)) (s:List UInt8),s.length≤1000000→done.length+k≤1000000→
  ∃(s':List UInt8) (i:Nat) (a:List (List UInt8)),iter Hj (s,[c],0,((done.length+k:Nat):Int),(done.length:Int),done++List.replicate (k+1) [],(),())=some (s',(i:Int),a,(),())∧i<a.length∧i≤1000000∧(a.set i s').take (i+1)=done++CH c k [] s:=by
 intro k
 induction k with
 |zero=>
  intro done s hs hd;refine⟨s,done.length,done++List.replicate 1 [], ?_,by simp,by omega, ?_⟩
  ·rw[Fy];unfold Hj;dsimp only;rw[Ak (show ¬(done.length:Int)<((done.length+0:Nat):Int) by omega)];rfl
  ·have e:(done++List.replicate 1 []).set done.length s=done++ [s]:=by simp
   rw[e];have:CH c 0 [] s= [s]:=by cases s<;>rfl
   rw[this,List.take_of_length_le (by simp)]
 |succ k ih=>
  intro done s hs hd;have hlt:decide ((done.length:Int)<((done.length+(k+1):Nat):Int))=true:=Al (by omega);rcases RC c s with h|⟨l,t,rfl,h⟩
  ·refine⟨s,done.length,done++List.replicate (k+1+1) [], ?_,by simp,by omega, ?_⟩
   ·rw[Fy];unfold Hj;dsimp only;rw[hlt,if_pos rfl,Na,Ts h,bs];rfl
   ·have e:(done++List.replicate (k+1+1) []).set done.length s=done++s::List.replicate (k+1) []:=by
     rw[List.replicate_succ];simp
    rw[e,Q9 c s [] (k+1) h];rw[show done++s::List.replicate (k+1) []=(done++ [s])++List.replicate (k+1) [] by simp];rw[List.take_append_of_le_length (by simp),List.take_of_length_le (by simp)];rfl
  ·have hl:l.length+t.length+1≤1000000:=by simp at hs;omega
   obtain⟨s',i,a,h1,h2,h3,h4⟩:=ih (done++ [l]) t (by omega) (by simp;omega);refine⟨s',i,a, ?_,h2,h3, ?_⟩
   ·rw[Fy];unfold Hj;dsimp only;rw[hlt,if_pos rfl,Na,Tr h,bs];have c1:decide ((l.length:Int)<0)=false:=Ak (by omega);rw[c1];simp only[Ag,if_false];have w1:i64.wrap ((l.length:Int)+0)=(l.length:Int):=by rw[BK (by omega) (by omega)];omega
    have l1:CQ (l++c::t) 0 (l.length:Int)=some l:=by
     have:=Jl (xs:=l++c::t) (i:=0) (j:=l.length) (by omega) (by simp);simpa using this
    have w2:i64.wrap ((l.length:Int)+(([c]:List UInt8).length:Int))=((l.length+1:Nat):Int):=by
     rw[BK (by omega) (by simp only[List.length_cons,List.length_nil];omega)];simp
    have l2:CQ (l++c::t) ((l.length+1:Nat):Int) (((l++c::t):List UInt8).length:Int)=some t:=by
     have:=Jl (xs:=l++c::t) (i:=l.length+1) (j:=(l++c::t).length) (by simp) (by omega);rw[this,List.take_length];simp
    have w3:i64.wrap ((done.length:Int)+1)=(((done++ [l]).length:Nat):Int):=by rw[BK (by omega) (by omega)];simp
    have hin:0≤(done.length:Int)∧(done.length:Int)<((done++List.replicate (k+1+1) []:List (List UInt8)).length:Int):=by simp;omega
    have hget:(done++List.replicate (k+1+1) [])[(done.length:Int).toNat]? =some ([]:List UInt8):=by
     rw[Int.toNat_natCast,List.replicate_succ];simp
    have hset:(done++List.replicate (k+1+1) []).set (done.length:Int).toNat l=(done++ [l])++List.replicate (k+1) []:=by
     rw[Int.toNat_natCast,List.replicate_succ];simp
    rw[w1,l1,bs,if_pos hin,bs,hget,hset,ms,bs,w2,l2,bs,w3];have e1:((done++ [l]).length+k:Nat)=done.length+(k+1):=by simp;omega
    rw[e1]at h1;exact h1
   ·rw[h4,Q7 c l t [] k h];simp
theorem Ti{c:UInt8}{s:List UInt8}{k:Nat}(hs:s.length≤1000000)(hk:k≤1000000){n:Int}(hn:n=((k+1:Nat):Int)):
  ((if 0≤n∧n≤n∧n*(16:Int)≤140737488355328∧n≤4611686018427387904 then some (List.replicate n.toNat ([]:List UInt8))else none).bind fun l31=>
    Option.bind ((iter Hj (s,[c],(0:Int),i64.wrap (n-(1:Int)),(0:Int),l31,(),())).bind fun o=>some (o.1,o.2.1,o.2.2.1,(),())) fun o=>
    Option.bind (if 0≤o.2.1∧o.2.1<(o.2.2.1.length:Int)then some o.2.1.toNat else none) fun x61=>
    Option.bind ((o.2.2.1[x61]?).map (fun el18=>o.2.2.1.set x61 o.1)) fun l31=>
    Option.bind (CQ l31 (0:Int) (i64.wrap (o.2.1+(1:Int)))) fun x65=>some x65)=some (CH c k [] s):=by
 subst hn;obtain⟨s',i,a,h1,h2,h3,h4⟩:=Tq c k [] s hs (by simpa using hk);simp only[List.length_nil,Nat.zero_add,List.nil_append]at h1 h4;rw[if_pos (by omega),bs,Int.toNat_natCast];have w1:i64.wrap (((k+1:Nat):Int)-1)=(k:Int):=by rw[BK (by omega) (by omega)];omega
 rw[w1];rw[show((0:Nat):Int)=0 from rfl]at h1;rw[h1,bs,bs];dsimp only;have hg:a[i]? =some (a[i]'h2):=Ai _;rw[if_pos (by omega),bs,Int.toNat_natCast,hg,ms,bs];have w2:i64.wrap ((i:Int)+1)=((i+1:Nat):Int):=by rw[BK (by omega) (by omega)];omega
 have:=Jl (xs:=a.set i s') (i:=0) (j:=i+1) (by omega) (by simp;omega);rw[w2];rw[show(0:Int)=((0:Nat):Int)from rfl,this,bs];simp only[List.drop_zero];rw[h4]
theorem Rs{c:UInt8}{s:List UInt8}(hs:s.length≤900000):strings_Split (s,[c])=some (De c s):=by
 unfold strings_Split strings_genSplit;dsimp only;have c1:(([c]:List UInt8)== [])=false:=rfl;have c2:((-1:Int)==0)=false:=rfl;have c3:decide ((-1:Int)<0)=true:=rfl;have hcnt:strings_Count (s,[c])=some (s.count c:Int):=rfl;have hle:s.count c≤s.length:=List.count_le_length;have w1:i64.wrap ((s.count c:Int)+1)=((s.count c+1:Nat):Int):=by rw[BK (by omega) (by omega)];omega
 have w2:i64.wrap ((s.length:Int)+1)=((s.length+1:Nat):Int):=by rw[BK (by omega) (by omega)];omega
 simp only[c1,c2,c3,Ag,if_false,if_true,hcnt,bs,w1,w2];have hm:min (((s.count c+1:Nat)):Int) ((s.length+1:Nat):Int)=((s.count c+1:Nat):Int):=by omega
 rw[hm,Ti (k:=s.count c) (by omega) (by omega) rfl,bs,Kh c s [] _ (Nat.le_refl _)];rfl
theorem IX{α T:Type}(ok:α→Bool)(t f:T):∀l:List α,AZ (fun(_:Unit) x=>if ok x=true then(Sum.inl ():Unit⊕T)else .inr t) (fun _=>f) () l=if l.all ok=true then f else t
 | []=>rfl
 |x::l=>by
  rw[AZ,List.all_cons]
  cases h:ok x with
  |true=>simpa using IX ok t f l
  |false=>simp
def okL(x:Int):Bool:=(decide (x≥97)&&decide (x≤122))||((decide (x≥48)&&decide (x≤57))||((x==46)||((x==95)||(x==45))))
theorem Um(b:UInt8):okL (b.toNat:Int)=okb b:=by
 unfold okL okb;rw[Bool.eq_iff_iff];simp only[Aj,Af,decide_eq_true_eq,beq_iff_eq,Bool.not_eq_true',Bool.and_eq_false_iff,Bool.or_eq_false_iff,decide_eq_false_iff_not,bne_eq_false_iff_eq];omega
theorem Ux{L:List Int}(hL:L.length≤1000000):iter HP (L,(L.length:Int),0,())=some (if L.all okL=true then .inl ()else .inr false):=by
 have key:=DH (b:=HP) (α:=Int) (A:=Unit) (fun i _=>(L,(L.length:Int),(i:Int),())) (fun _ x=>if okL x=true then .inl ()else .inr (.inr false)) (fun _=>.inl ()) (fun _ _=>True) L (a:=()) trivial (fun i x _ hx _=>by
  have hi:=(Ae.1 hx).1;unfold HP;dsimp only;simp only[gPi,gSS,gPb,gPm,gPs,gM,gM2,By,gOr,Bz,B3,gAA,gAO,gOA,gOO,Bv,Bx,B0,B2,Bw,B1,gId];try simp only[B9,BA,BB,BC,BD,BE,BF,BG,gId,B8,gMb,gMm,gBm,gBb,bs,ms]
  rw[DM hx,if_pos rfl,CP hx,bs];have wi:i64.wrap ((i:Int)+1)=((i+1:Nat):Int):=CU (by omega);unfold okL;generalize decide (x≥97)=q1;generalize decide (x≤122)=q2;generalize decide (x≥48)=q3;generalize decide (x≤57)=q4;generalize (x==46)=q5;generalize (x==95)=q6;generalize (x==45)=q7
  cases q1<;>cases q2<;>cases q3<;>cases q4<;>cases q5<;>cases q6<;>cases q7<;>first|rfl|exact congrArg (fun z=>some (Sum.inl (L,(L.length:Int),z,()))) wi) (fun _ _ _ _ _ _ _=>trivial) (fun _ _=>by
  unfold HP;dsimp only
  rw[DO,if_neg (by decide)])
 rw[IX,show((0:Nat):Int)=0 from rfl]at key;exact key
def Cp(s:List UInt8):Bool:= !(s== [])&&decide ((s.length:Int)≤32)&&s.all okb
theorem TO{s:List UInt8}(hs:s.length≤1000000):ledger_part s=some (Cp s):=by
 unfold ledger_part Cp;dsimp only;simp only[gPi,gSS,gPb,gPm,gPs,gM,gM2,By,gOr,Bz,B3,gAA,gAO,gOA,gOO,Bv,Bx,B0,B2,Bw,B1,gId];try simp only[B9,BA,BB,BC,BD,BE,BF,BG,gId,B8,gMb,gMm,gBm,gBb,bs,ms]
 have hall:(s.map fun b=>((b.toNat:Nat):Int)).all okL=s.all okb:=by
  rw[List.all_map];exact congrArg (fun f=>s.all f) (funext Um)
 cases h0:(s== [])with
 |true=>rfl
 |false=>
  rw[if_neg (by decide),bs];by_cases h1:(s.length:Int)≤32
  ·rw[Ak (by omega),if_neg (by decide),if_pos (by omega),Ux (by simpa using hs),bs,hall,Al h1];cases s.all okb<;>rfl
  ·rw[Al (by omega),if_pos rfl,Ak h1];rfl
def Dq(s:List UInt8):Bool:=decide (((De 47 s).length:Int)≤3)&&(De 47 s).all Cp
theorem UN{L:List (List UInt8)}(hL:L.length≤1000000)(hw:∀w∈L,w.length≤1000000):iter HM (L,(L.length:Int),0,())=some (if L.all Cp=true then .inl ()else .inr false):=by
 have key:=DH (b:=HM) (α:=List UInt8) (A:=Unit) (fun i _=>(L,(L.length:Int),(i:Int),())) (fun _ x=>if Cp x=true then .inl ()else .inr (.inr false)) (fun _=>.inl ()) (fun _ _=>True) L (a:=()) trivial (fun i x _ hx _=>by
  have hi:=(Ae.1 hx).1;unfold HM;dsimp only;try simp only[gPi,gSS,gPb,gPm,gPs,gM,gM2,By,gOr,Bz,B3,gAA,gAO,gOA,gOO,Bv,Bx,B0,B2,Bw,B1,gId]
  try simp only[B9,BA,BB,BC,BD,BE,BF,BG,gId,B8,gMb,gMm,gBm,gBb,bs,ms]
  rw[DM hx,if_pos rfl,CP hx,bs,TO (hw x (List.mem_of_getElem? hx)),bs,CU (by omega)]
  cases Cp x<;>rfl) (fun _ _ _ _ _ _ _=>trivial) (fun _ _=>by
  unfold HM;dsimp only
  rw[DO,if_neg (by decide)])
 rw[IX,show((0:Nat):Int)=0 from rfl]at key;exact key
theorem PW{s:List UInt8}(hs:s.length≤900000):ledger_Account_right s=some (Dq s):=by
 have hw:∀w∈De 47 s,w.length≤1000000:=fun w hw=>by
  have:=(MG 47 s [] (by simp) w hw).2.1;simp at this;omega
 have hl:(De 47 s).length≤1000000:=by
  have h1:=MF 47 s [];have h2:s.count 47≤s.length:=List.count_le_length;unfold De;omega
 unfold ledger_Account_right Dq;dsimp only;try simp only[gPi,gSS,gPb,gPm,gPs,gM,gM2,By,gOr,Bz,B3,gAA,gAO,gOA,gOO,Bv,Bx,B0,B2,Bw,B1,gId]
 try simp only[B9,BA,BB,BC,BD,BE,BF,BG,gId,B8,gMb,gMm,gBm,gBb,bs,ms]
 rw[Rs hs,bs];by_cases h1:((De 47 s).length:Int)≤3
 ·rw[Ak (show ¬((De 47 s).length:Int)>3 by omega),if_neg (by decide),UN hl hw,bs,Al h1];cases (De 47 s).all Cp<;>rfl
 ·rw[Al (show((De 47 s).length:Int)>3 by omega),if_pos rfl,Ak h1];rfl
def okN(x:Int):Bool:= !(decide (x<32)||decide (x>126))
theorem Ui{L:List Int}(hL:L.length≤1000000):iter HO (L,(L.length:Int),0,())=some (if L.all okN=true then .inl ()else .inr false):=by
 have key:=DH (b:=HO) (α:=Int) (A:=Unit) (fun i _=>(L,(L.length:Int),(i:Int),())) (fun _ x=>if okN x=true then .inl ()else .inr (.inr false)) (fun _=>.inl ()) (fun _ _=>True) L (a:=()) trivial (fun i x _ hx _=>by
  have hi:=(Ae.1 hx).1;unfold HO;dsimp only;simp only[gPi,gSS,gPb,gPm,gPs,gM,gM2,By,gOr,Bz,B3,gAA,gAO,gOA,gOO,Bv,Bx,B0,B2,Bw,B1,gId];try simp only[B9,BA,BB,BC,BD,BE,BF,BG,gId,B8,gMb,gMm,gBm,gBb,bs,ms]
  rw[DM hx,if_pos rfl,CP hx,bs,CU (by omega)];unfold okN;generalize decide (x<32)=q1;generalize decide (x>126)=q2
  cases q1<;>cases q2<;>rfl) (fun _ _ _ _ _ _ _=>trivial) (fun _ _=>by
  unfold HO;dsimp only
  rw[DO,if_neg (by decide)])
 rw[IX,show((0:Nat):Int)=0 from rfl]at key;exact key
theorem Uo(b:UInt8)(h:okb b=true):okN (b.toNat:Int)=true:=by
 unfold okb at h;unfold okN;simp only[Bool.not_eq_true',Bool.and_eq_false_iff,Bool.or_eq_false_iff,decide_eq_false_iff_not,bne_eq_false_iff_eq]at h⊢;omega
theorem Uj{s:List UInt8}(h:Bc s=true):ledger_note s=some true:=by
 have hl:=ET h
 have ha:s.all okb=true:=by
  unfold Bc at h;simp only[Af]at h;exact h.1.1.1
 have hall:(s.map fun b=>((b.toNat:Nat):Int)).all okN=true:=by
  rw[List.all_map,List.all_eq_true];intro b hb;exact Uo b (List.all_eq_true.1 ha b hb)
 unfold ledger_note;dsimp only;try simp only[gPi,gSS,gPb,gPm,gPs,gM,gM2,By,gOr,Bz,B3,gAA,gAO,gOA,gOO,Bv,Bx,B0,B2,Bw,B1,gId]
 try simp only[B9,BA,BB,BC,BD,BE,BF,BG,gId,B8,gMb,gMm,gBm,gBb,bs,ms]
 rw[Ak (by omega),if_neg (by decide),if_pos (by omega),Ui (by simp;omega),bs,hall];rfl
theorem Ss{d c n:List UInt8}{x:Int}(hd:Dq d=true)(hc:Dq c=true)(hdl:d.length≤900000)(hcl:c.length≤900000)(hne:d≠c)(hx:1≤x∧x≤1125899906842624)(hn:Bc n=true):ledger_Entry_check (d,c,x,n)=some 0:=by
 unfold ledger_Entry_check;dsimp only;try simp only[gPi,gSS,gPb,gPm,gPs,gM,gM2,By,gOr,Bz,B3,gAA,gAO,gOA,gOO,Bv,Bx,B0,B2,Bw,B1,gId]
 try simp only[B9,BA,BB,BC,BD,BE,BF,BG,gId,B8,gMb,gMm,gBm,gBb,bs,ms]
 rw[PW hdl,bs,hd,if_neg (by decide),PW hcl,bs,hc,bs];dsimp only;rw[show(!true)=false from rfl,if_neg (by decide),if_neg (by simpa using hne),Ak (show ¬x<1 by omega),if_neg (by decide),bs,Ak (show ¬x>1125899906842624 by omega),if_neg (by decide),Uj hn,bs];rfl
theorem R2{l:Bn}(h0:l≠ [])(hl:l.length≤65536)(h:∀e∈l,ledger_Entry_check e=some 0):ledger_batch l=some 0:=by
 have key:=DH (b:=Jn) (α:=List UInt8×List UInt8×Int×List UInt8) (A:=Unit) (fun i _=>(l,(l.length:Int),(i:Int),())) (fun _ _=>.inl ()) (fun _=>.inl ()) (fun _ _=>True) l (a:=()) trivial (fun i x _ hx _=>by
  have hi:=(Ae.1 hx).1;have he:=h x (List.mem_of_getElem? hx);obtain⟨x1,x2,x3,x4⟩:=x;unfold Jn;dsimp only;try simp only[gPi,gSS,gPb,gPm,gPs,gM,gM2,By,gOr,Bz,B3,gAA,gAO,gOA,gOO,Bv,Bx,B0,B2,Bw,B1,gId]
  try simp only[B9,BA,BB,BC,BD,BE,BF,BG,gId,B8,gMb,gMm,gBm,gBb,bs,ms]
  rw[DM hx,if_pos rfl,CP hx,bs,he,bs,if_neg (by decide),CU (by omega)]
  rfl) (fun _ _ _ _ _ _ _=>trivial) (fun _ _=>by
  unfold Jn;dsimp only
  rw[DO,if_neg (by decide)])
 have hf:∀m:Bn,AZ (fun(_:Unit) _=>(Sum.inl ():Unit⊕(Unit⊕Int))) (fun _=>Sum.inl ()) () m=.inl ():=by
  intro m
  induction m with
  |nil=>rfl
  |cons x m ih=>exact ih
 rw[hf,show((0:Nat):Int)=0 from rfl]at key;unfold ledger_batch;dsimp only
 have hp:0<l.length:=by
  cases l with
  |nil=>exact absurd rfl h0
  |cons x l=>simp
 rw[if_neg (by simp;omega),if_neg (by simp;omega),key,bs]
theorem P8{p:List UInt8}(h:Cp p=true):∀b∈p,b≠47:=by
 intro b hb hh;subst hh;unfold Cp at h;simp only[Af]at h;have:=List.all_eq_true.1 h.2 47 hb;revert this;decide
theorem Mm{s:List UInt8}(h:Bc s=true):Cp s=true:=by
 unfold Bc at h;unfold Cp;simp only[Af]at h⊢;exact⟨⟨h.1.1.2,h.2⟩,h.1.1.1⟩
theorem MH{a t:List UInt8}(h:Cp a=true):De 47 (a++47::t)=a::De 47 t:=by
 unfold De;rw[QD 47 a t [] (P8 h)];rfl
theorem MI{a:List UInt8}(h:Cp a=true):De 47 a= [a]:=by
 unfold De;rw[QF 47 a [] (P8 h)];rfl
theorem PT{a:List UInt8}(h:Cp a=true):Dq a=true:=by
 unfold Dq;rw[MI h];simp[h]
theorem PU{a b:List UInt8}(h:Cp a=true)(k:Cp b=true):Dq (a++ [47]++b)=true:=by
 unfold Dq;rw[List.append_assoc,List.singleton_append,MH h,MI k];simp[h,k]
theorem PV{a b c:List UInt8}(h:Cp a=true)(k:Cp b=true)(m:Cp c=true):Dq (a++ [47]++b++ [47]++c)=true:=by
 unfold Dq;rw[show a++ [47]++b++ [47]++c=a++47::(b++47::c) by simp,MH h,MH k,MI m];simp[h,k,m]
structure Gw (e:List UInt8×List UInt8×Int×List UInt8):Prop where
 d:Dq e.1=true
 c:Dq e.2.1=true
 dl:e.1.length≤1000
 cl:e.2.1.length≤1000
 ne:e.1≠e.2.1
 x:1≤e.2.2.1
 n:Bc e.2.2.2=true
 nd:AO.isPrefixOf e.1=(e.1==AO)
 nc:AO.isPrefixOf e.2.1=(e.2.1==AO)
theorem Lj{d c n:List UInt8}{x:Int}(hd:Dq d=true)(hc:Dq c=true)(dl:d.length≤1000)(cl:c.length≤1000)(ne:d≠c)(hn:Bc n=true)(nd:AO.isPrefixOf d=(d==AO))(nc:AO.isPrefixOf c=(c==AO)):∀e∈Ck d c x n,Gw e:=by
 intro e he;unfold Ck at he;by_cases h0:x=0
 ·rw[if_pos h0]at he;cases he
 ·rw[if_neg h0]at he;by_cases h1:x<0
  ·rw[if_pos h1,List.mem_singleton]at he;subst he;exact⟨hc,hd,cl,dl,ne.symm,by show 1≤ -x;omega,hn,nc,nd⟩
  ·rw[if_neg h1,List.mem_singleton]at he;subst he;exact⟨hd,hc,dl,cl,ne,by show 1≤x;omega,hn,nd,nc⟩
theorem SA{cost:List Wt}(hc:En cost){l:Ln}(hl:Ep l):∀e∈AS cost l,Gw e:=by
 obtain⟨p,code,c⟩:=l;have hcode:=Mm hl.nm;have hcn:code.length≤32:=ET hl.nm;have hp:=hl.p;simp only at hcode hp;have zc:∀q∈(BQ (cost.map (·.2)) c).zip cost,Bc q.2.1=true:=fun q hq=>hc.nm q.2 (List.of_mem_zip hq).2;by_cases h0:p=0
 ·subst h0;have e0:AS cost (0,code,c)=Ce [119,97,103,101,115] [110,101,116] code ((BQ (cost.map (·.2)) c).zip cost):=rfl;rw[e0];intro e he;unfold Ce at he;obtain⟨q,hq,he⟩:=List.mem_flatMap.1 he;have hz:=zc q hq;have hzl:=ET hz;exact Lj (PU (by decide) (Mm hz)) (PT (by decide)) (by simp;omega) (by decide) (by intro hh;cases hh) hl.nm (by simp[AO,List.isPrefixOf]) rfl e he
 ·by_cases h6:p=6
  ·subst h6;have e0:AS cost (6,code,c)=Ce [102,105,114,109] ([111,119,101,100]++ [47]++ [115,111,99,105,97,108]++ [47]++code) code ((BQ (cost.map (·.2)) c).zip cost):=rfl;rw[e0];intro e he;unfold Ce at he;obtain⟨q,hq,he⟩:=List.mem_flatMap.1 he;have hz:=zc q hq;have hzl:=ET hz;exact Lj (PU (by decide) (Mm hz)) (PV (by decide) (by decide) hcode) (by simp;omega) (by simp;omega) (by intro hh;cases hh) hl.nm (by simp[AO,List.isPrefixOf]) (by simp[AO,List.isPrefixOf]) e he
  ·have e0:AS cost (p,code,c)=Ck [110,101,116] ([111,119,101,100]++ [47]++ED.getD p.toNat []++ [47]++code) c code:=by
    unfold AS E6;rw[if_neg h0,if_neg h6];rfl
   have hw:Cp (ED.getD p.toNat [])=true∧(ED.getD p.toNat []).length≤16:=by
    have h5:p=1∨p=2∨p=3∨p=4∨p=5:=by omega
    rcases h5 with h|h|h|h|h<;>subst h<;>decide
   rw[e0];generalize ED.getD p.toNat []=W at*;exact Lj (PT (by decide)) (PV (by decide) hw.1 hcode) (by decide) (by simp;omega) (by intro hh;cases hh) hl.nm rfl (by simp[AO,List.isPrefixOf])
theorem NV{cost:List Wt}(hc:En cost){L:List Ln}(h:∀x∈L,Ep x):∀e∈L.flatMap (AS cost),Gw e∧e.2.2.1≤1125899906842624:=by
 intro e he;obtain⟨l,hl,he⟩:=List.mem_flatMap.1 he;refine⟨SA hc (h l hl) e he, ?_⟩;have hs:=OS hc (h l hl)
 have le:∀m:Bn,D7 m→∀e∈m,0≤Bb m∧e.2.2.1≤Bb m:=by
  intro m
  induction m with
  |nil=>intro _ e he;cases he
  |cons x m ih=>
   intro hf e he;have hx:=(hf x (by simp)).2.2;have e1:Bb (x::m)=x.2.2.1+Bb m:=by simp[Bb]
   have hm:0≤Bb m:=by
    cases m with
    |nil=>simp[Bb]
    |cons y m=>exact(ih (fun z hz=>hf z (by simp[hz])) y (by simp)).1
   rcases List.mem_cons.1 he with rfl|he
   ·omega
   ·have:=(ih (fun z hz=>hf z (by simp[hz])) e he).2;omega
 have:=(le _ hs.fine e he).2;have:=hs.abs;omega
theorem R3{cost:List Wt}(hc:En cost){L:List Ln}(h:∀x∈L,Ep x)(h0:L.flatMap (AS cost)≠ [])(hn:(L.flatMap (AS cost)).length≤65536):ledger_batch (L.flatMap (AS cost))=some 0:=by
 refine R2 h0 hn fun e he=> ?_;obtain⟨k,hx⟩:=NV hc h e he;have h1:=k.dl;have h2:=k.cl;exact Ss k.d k.c (Nat.le_trans h1 (by decide)) (Nat.le_trans h2 (by decide)) k.ne ⟨k.x,hx⟩ k.n
abbrev B6:=List (List UInt8×Int)
def getB(k:List UInt8)(m:B6):Int:=(BL (eqZ Ty.str) (Bj (Ty.int IntKind.i64)) k m).1
def Cw(m:B6):Int:=(m.map (·.2)).sum
def CW(n:Int):Prop:= -9223372036854775808≤n∧n≤9223372036854775807
theorem MR(n:Int):i64.wrap n % 18446744073709551616=n % 18446744073709551616∧CW (i64.wrap n):=by
 unfold CW;rw[IntKind.wrap_i64];omega
theorem O4(j:List UInt8):getB j []=0:=rfl
theorem FW(j:List UInt8)(p:List UInt8×Int)(m:B6):getB j (p::m)=if j=p.1 then p.2 else getB j m:=by
 have e:getB j (p::m)=(if eqZ Ty.str j p.1=true then(p.2,true)else BL (eqZ Ty.str) (Bj (Ty.int IntKind.i64)) j m).1:=rfl;rw[e,IR];by_cases h:j=p.1
 ·rw[if_pos (by simpa using h),if_pos h]
 ·rw[if_neg (by simpa using h),if_neg h];rfl
theorem Mv(k:List UInt8)(v:Int):Bu (eqZ Ty.str) k v ([]:B6)= [(k,v)]:=rfl
theorem Ms(k:List UInt8)(v:Int)(p:List UInt8×Int)(m:B6):Bu (eqZ Ty.str) k v (p::m)=if k=p.1 then(p.1,v)::m else p::Bu (eqZ Ty.str) k v m:=by
 have e:Bu (eqZ Ty.str) k v (p::m)=(if eqZ Ty.str k p.1=true then(p.1,v)::m else p::Bu (eqZ Ty.str) k v m):=rfl;rw[e,IR];by_cases h:k=p.1
 ·rw[if_pos (by simpa using h),if_pos h]
 ·rw[if_neg (by simpa using h),if_neg h]
theorem Iz(p:List UInt8×Int)(m:B6):Cw (p::m)=p.2+Cw m:=by simp[Cw]
theorem Mw(k:List UInt8)(v:Int):∀m:B6,Cw (Bu (eqZ Ty.str) k v m)=Cw m-getB k m+v
 | []=>by rw[Mv,Iz,O4];simp[Cw]
 |p::m=>by
  have ih:=Mw k v m;rw[Ms,FW];by_cases h:k=p.1
  ·rw[if_pos h,if_pos h,Iz,Iz];dsimp only;omega
  ·rw[if_neg h,if_neg h,Iz,Iz,ih];omega
theorem Lx(j k:List UInt8)(v:Int):∀m:B6,getB j (Bu (eqZ Ty.str) k v m)=if j=k then v else getB j m
 | []=>by rw[Mv,FW]
 |p::m=>by
  have ih:=Lx j k v m;rw[Ms];by_cases h:k=p.1
  ·rw[if_pos h,FW,FW];dsimp only;rw[←h];by_cases h2:j=k
   ·rw[if_pos h2,if_pos h2]
   ·rw[if_neg h2,if_neg h2,if_neg h2]
  ·rw[if_neg h,FW,FW,ih];by_cases h2:j=p.1
   ·have:¬j=k:=fun hh=>h (hh.symm.trans h2);rw[if_pos h2,if_neg this,if_pos h2]
   ·rw[if_neg h2,if_neg h2]
theorem O3(k:List UInt8):∀m:B6,(∀p∈m,CW p.2)→CW (getB k m)
 | [],_=>by rw[O4];unfold CW;omega
 |p::m,h=>by
  rw[FW];split
  ·exact h p (by simp)
  ·exact O3 k m fun q hq=>h q (by simp[hq])
theorem Mt(k:List UInt8){v:Int}(hv:CW v):∀m:B6,(∀p∈m,CW p.2)→∀p∈Bu (eqZ Ty.str) k v m,CW p.2
 | [],_=>by
  intro p hp;rw[Mv,List.mem_singleton]at hp;subst hp;exact hv
 |q::m,h=>by
  intro p hp;rw[Ms]at hp;split at hp
  ·rcases List.mem_cons.1 hp with rfl|hp
   ·exact hv
   ·exact h p (by simp[hp])
  ·rcases List.mem_cons.1 hp with rfl|hp
   ·exact h _ (by simp)
   ·exact Mt k hv m (fun x hx=>h x (by simp[hx])) p hp
abbrev Gx:=List UInt8×List UInt8×Int×List UInt8
def E8(m:B6)(e:Gx):B6:=Bu (eqZ Ty.str) e.1 (i64.wrap (getB e.1 m+e.2.2.1)) m
def EV(m:B6)(e:Gx):B6:=Bu (eqZ Ty.str) e.2.1 (i64.wrap (getB e.2.1 (E8 m e)-e.2.2.1)) (E8 m e)
def Mi(m:B6)(e:Gx):Bool:=decide (getB e.1 (EV m e)>1125899906842624)||decide (getB e.2.1 (EV m e)< -1125899906842624)
structure Bal (pre:Bn) (m:B6):Prop where
 z:Cw m % 18446744073709551616=0
 n:(getB AO m-AX AO pre)% 18446744073709551616=0
 r:∀p∈m,CW p.2
theorem R1{pre:Bn}{m:B6}(h:Bal pre m){e:Gx}(he:Gw e):Bal (pre++ [e]) (EV m e):=by
 obtain⟨hz,hn,hr⟩:=h;obtain⟨a1,a2⟩:=MR (getB e.1 m+e.2.2.1);have r1:∀p∈E8 m e,CW p.2:=Mt _ a2 m hr;obtain⟨b1,b2⟩:=MR (getB e.2.1 (E8 m e)-e.2.2.1);have v1:=Mw e.1 (i64.wrap (getB e.1 m+e.2.2.1)) m;have v2:=Mw e.2.1 (i64.wrap (getB e.2.1 (E8 m e)-e.2.2.1)) (E8 m e);have g1:=Lx AO e.1 (i64.wrap (getB e.1 m+e.2.2.1)) m;have g2:=Lx AO e.2.1 (i64.wrap (getB e.2.1 (E8 m e)-e.2.2.1)) (E8 m e);have hs:AX AO (pre++ [e])=AX AO pre+EB AO e:=by rw[Gv];simp[AX]
 refine⟨?_, ?_,Mt _ b2 _ r1⟩
 ·show Cw (Bu _ _ _ _)% _=0;rw[v2];have v1':Cw (E8 m e)=Cw m-getB e.1 m+i64.wrap (getB e.1 m+e.2.2.1):=v1;omega
 ·show(getB AO (Bu _ _ _ _)-_)% _=0;have g1':getB AO (E8 m e)=if AO=e.1 then i64.wrap (getB e.1 m+e.2.2.1)else getB AO m:=g1;rw[g2,hs];unfold EB sgn;rw[he.nd,he.nc];have hne:=he.ne;by_cases h1:AO=e.1
  ·rw[if_pos h1]at g1';have h2:¬AO=e.2.1:=fun hh=>hne (h1.symm.trans hh);rw[if_neg h2,g1',if_pos (by simpa using h1.symm),if_neg (by simpa using fun hh=>h2 hh.symm)];rw[←h1]at a1⊢;omega
  ·rw[if_neg h1]at g1';rw[if_neg (show ¬(e.1==AO)=true by simpa using fun hh=>h1 hh.symm)];by_cases h2:AO=e.2.1
   ·rw[if_pos h2,if_pos (by simpa using h2.symm)];rw[←h2,g1']at b1⊢;omega
   ·rw[if_neg h2,if_neg (by simpa using fun hh=>h2 hh.symm),g1'];omega
abbrev I3:=(Bn×B6×Unit×Unit×Unit×Unit×Unit×Unit×Unit×Unit×Unit×Unit)⊕((List Bn×B6)×Int)
def GX(m:B6)(e:Gx):B6⊕I3:=if Mi m e=true then .inr (.inr (([],[]),9))else .inl (EV m e)
theorem Oy(L:Bn):∀(l pre:Bn) (m:B6),(∀e∈l,Gw e)→Bal pre m→
  AZ GX (fun m=>(.inl (L,m,(),(),(),(),(),(),(),(),(),()):I3)) m l=.inr (([],[]),9)∨∃m',AZ GX (fun m=>(.inl (L,m,(),(),(),(),(),(),(),(),(),()):I3)) m l=.inl (L,m',(),(),(),(),(),(),(),(),(),())∧Bal (pre++l) m'
 | [],pre,m,_,hb=>.inr ⟨m,rfl,by simpa using hb⟩
 |e::l,pre,m,h,hb=>by
  rw[AZ];unfold GX;by_cases ho:Mi m e=true
  ·rw[if_pos ho];exact .inl rfl
  ·rw[if_neg ho];have:=Oy L l (pre++ [e]) (EV m e) (fun x hx=>h x (by simp[hx])) (R1 hb (h e (by simp)));rw[List.append_assoc,List.singleton_append]at this;exact this
theorem UC{L:Bn}(hL:L.length≤65536):iter HN (L,L,(L.length:Int),0,[],(),(),(),(),(),(),(),(),(),())=some (AZ GX (fun m=>(.inl (L,m,(),(),(),(),(),(),(),(),(),()):I3)) [] L):=by
 have key:=DH (b:=HN) (α:=Gx) (A:=B6) (fun i m=>(L,L,(L.length:Int),(i:Int),m,(),(),(),(),(),(),(),(),(),())) GX (fun m=>.inl (L,m,(),(),(),(),(),(),(),(),(),())) (fun _ _=>True) L (a:= []) trivial (fun i x m hx _=>by
  have hi:=(Ae.1 hx).1;unfold HN;dsimp only;simp only[gPi,gSS,gPb,gPm,gPs,gM,gM2,By,gOr,Bz,B3,gAA,gAO,gOA,gOO,Bv,Bx,B0,B2,Bw,B1,gId];try simp only[B9,BA,BB,BC,BD,BE,BF,BG,gId,B8,gMb,gMm,gBm,gBb,bs,ms]
  rw[DM hx,if_pos rfl,CP hx,bs,CU (by omega)];show(Option.bind (if decide (getB x.1 (EV m x)>1125899906842624)=true then some true else some (decide (getB x.2.1 (EV m x)< -1125899906842624))) _)=_;unfold GX Mi
  cases decide (getB x.1 (EV m x)>1125899906842624)with
  |true=>rfl
  |false=>
   cases decide (getB x.2.1 (EV m x)< -1125899906842624)with
   |true=>rfl
   |false=>rfl) (fun _ _ _ _ _ _ _=>trivial) (fun m _=>by
  unfold HN;dsimp only;try simp only[gPi,gSS,gPb,gPm,gPs,gM,gM2,By,gOr,Bz,B3,gAA,gAO,gOA,gOO,Bv,Bx,B0,B2,Bw,B1,gId]
  rw[DO,if_neg (by decide)])
 exact key
theorem Rp{L:Bn}(h0:ledger_batch L=some 0)(hL:L.length≤65536)(h:∀e∈L,Gw e):ledger_Ledger_Post (((),()),L)=some (([],[]),9)∨∃m,ledger_Ledger_Post (((),()),L)=some (([L],m),0)∧Bal L m:=by
 have hc:slices_Clone L=some L:=by
  unfold slices_Clone;rw[if_pos (by omega)]
 have hl:=UC hL;rcases Oy L L [] [] h ⟨rfl,by simp[getB,BL,AX,Bj],fun p hp=>by cases hp⟩with e|⟨m,e,hb⟩
 ·left;unfold ledger_Ledger_Post;dsimp only;rw[h0,bs,if_neg (by decide),if_neg (by decide)];rw[show maps_Clone ()=some ()from rfl,bs,if_pos rfl,hl,e,bs]
 ·right;refine⟨m, ?_,by simpa using hb⟩;unfold ledger_Ledger_Post;dsimp only;rw[h0,bs,if_neg (by decide),if_neg (by decide)];rw[show maps_Clone ()=some ()from rfl,bs,if_pos rfl,hl,e,bs];dsimp only;rw[if_pos (by decide),bs,hc,bs,if_pos (by simp),bs]
theorem VX{π m:B6}(h:π.Perm m):Cw π=Cw m:=by
 unfold Cw
 induction h with
 |nil=>rfl
 |cons x _ ih=>simp only[List.map_cons,List.sum_cons,ih]
 |swap x y l=>simp only[List.map_cons,List.sum_cons];omega
 |trans _ _ i1 i2=>exact i1.trans i2
theorem QQ:∀(π:B6) (s:Int),CW s→∃r,ER OQ OP π (s,())=some (r,())∧r % 18446744073709551616=(s+Cw π)% 18446744073709551616∧CW r
 | [],s,hs=>⟨s,rfl,by simp[Cw],hs⟩
 |p::π,s,_=>by
  obtain⟨a1,a2⟩:=MR (s+p.2);obtain⟨r,h1,h2,h3⟩:=QQ π (i64.wrap (s+p.2)) a2;refine⟨r, ?_, ?_,h3⟩
  ·rw[ER];exact h1
  ·have:Cw (p::π)=p.2+Cw π:=by simp[Cw]
   omega
theorem Rv{l:List Bn}{m:B6}(h:Cw m % 18446744073709551616=0):ledger_Ledger_Trial (l,m)=some 0:=by
 unfold ledger_Ledger_Trial;dsimp only;refine PB.2 fun π hπ=> ?_;obtain⟨r,h1,h2,h3⟩:=QQ π 0 (by unfold CW;omega);rw[VX hπ]at h2;rw[h1,bs];unfold CW at h3;have:r=0:=by omega
 rw[this]
theorem law_PostPosts(s:Int×Int×List Ln)(cost:List Wt):law34_PostPosts (s,cost)=some true:=by
 obtain⟨y,ix,L⟩:=s;unfold law34_PostPosts;dsimp only;simp only[gPi,gSS,gPb,gPm,gPs,gM,gM2,By,gOr,Bz,B3,gAA,gAO,gOA,gOO,Bv,Bx,B0,B2,Bw,B1,gId];try simp only[B9,BA,BB,BC,BD,BE,BF,BG,gId,B8,gMb,gMm,gBm,gBb,bs,ms]
 rw[Tn,bs]
 cases hg:(decide ((L.length:Int)>60)||decide ((cost.length:Int)>70))with
 |true=>
  rw[if_pos rfl,G2]
 |false=>
  rw[if_neg (by decide),Ml,bs]
  have hl:L.length≤60:=by
   rw[Bool.or_eq_false_iff,decide_eq_false_iff_not]at hg;omega
  by_cases h0:CG (y,ix,L)=0
  ·by_cases h1:C8 cost=0
   ·have e:Dp (y,ix,L) cost=(L.flatMap (AS (DD cost)),0):=by
     unfold Dp;rw[if_neg (show ¬(CG (y,ix,L)≠0) by simpa using h0),if_neg (show ¬(C8 cost≠0) by simpa using h1)]
    have hlen:=Uk (y,ix,L) cost;have hc:=KW h1;have hL:=(Q3 h0).2;obtain⟨_,_,_,_,k5,k6⟩:=QN hc L hL;rw[e]at hlen⊢;dsimp only at hlen⊢;have hall:=NV hc hL;have hb:=R3 hc hL;generalize L.flatMap (AS (DD cost))=E at*;have hE:E.length≤3840:=by omega
    rw[if_neg (by decide),bs]
    cases E with
    |nil=>exact G2
    |cons e0 E0=>
     rw[show(((e0::E0).length:Int)==0)=false by simp;omega,if_neg (by decide),Ak (show ¬(((e0::E0).length:Nat):Int)>65536 by omega),bs,if_neg (by decide)];have hbt:=hb (by simp) (by omega);rcases Rp hbt (by omega) (fun e he=>(hall e he).1)with hp|⟨m,hp,hbal⟩
     ·rw[hp,bs];exact G2
     ·rw[hp,bs];dsimp only;rw[if_neg (by decide),if_pos (by decide),Rv hbal.z,bs,bs,if_pos (by decide)];have hs:=TU (w:=AO) k6 (by omega) (by omega);have hs':law34_sum (e0::E0,[110,101,116])=some (AX AO (e0::E0)):=hs;have hbl:ledger_Ledger_Balance (([e0::E0],m),[110,101,116])=some (getB AO m):=rfl;have hgi:=O3 AO m hbal.r;have hbd:=Kj AO (e0::E0) k6;have hn:=hbal.n;unfold CW at hgi;have heq:getB AO m=AX AO (e0::E0):=by omega
      rw[hbl,bs,hs',bs,bs,heq];rw[if_pos (by simp)];exact G2
   ·have e:Dp (y,ix,L) cost=([],C8 cost):=by
     unfold Dp;rw[if_neg (show ¬(CG (y,ix,L)≠0) by simpa using h0),if_pos (show C8 cost≠0 from h1)]
    rw[e];dsimp only;rw[if_pos (by simpa using h1),bs,if_pos rfl,bs];exact G2
  ·have e:Dp (y,ix,L) cost=([],CG (y,ix,L)):=by
    unfold Dp;rw[if_pos (show CG (y,ix,L)≠0 from h0)]
   rw[e];dsimp only;rw[if_pos (by simpa using h0),bs,if_pos rfl,bs];exact G2
end WB
