/-
  OWN TEXTS, MERGED (wip/merge.py): Pfk, Pfa, Pfn, Pfw, Pfx, Pct, PrP, PrQ, PrR, PrS, Pspl, Pfo. No condition of their own.
-/
import Derived.Test.YtbajcpobojindaaGreatDoorK10
import Derived.Test.YtbajcpobojindaaGreatDoorK8
set_option linter.unusedVariables false
set_option linter.unusedSimpArgs false
open Go.IntKind (i64 u64 u8 u32)
namespace WB
open Go Go.RowKit
set_option linter.unusedSimpArgs false
set_option linter.unusedVariables false
theorem Wq(k:Int):Cr k=some (decide (1≤k∧k≤18)):=by
 unfold Cr;simp only[gPi,gSS,gPb,gPm,gPs,gM,gM2,A9,gOr,AA,AG,gAA,gAO,gOA,gOO,A6,A8,AB,AE,A7,AD,gId];by_cases h1:1≤k<;>by_cases h2:k≤18<;>simp[h1,h2]
set_option linter.unusedSimpArgs false
set_option linter.unusedVariables false
set_option maxRecDepth 100000
theorem IF{S T:Type}{b:S→Option (S⊕T)}{s:S}{t:T}(n:Nat)(h:D2 b n s=some t):iter b s=some t:=Hz.2 ⟨n,h⟩
theorem Eo{α β:Type}{x:Option α}{a:α}{f:α→Option β}{r:Option β}(h:x=some a)(h2:f a=r):x.bind f=r:=by rw[h];exact h2
theorem itL{S T:Type}{b:S→Option (S⊕T)}{s s':S}(h:b s=some (.inl s')):iter b s=iter b s':=by rw[BV,h];rfl
theorem itR{S T:Type}{b:S→Option (S⊕T)}{s:S}{t:T}(h:b s=some (.inr t)):iter b s=some t:=by rw[BV,h];rfl
theorem Th{pre t:List UInt8}{b:UInt8}:sAt (pre++b::t) (pre.length:Int)=some (b.toNat:Int):=DL (by simp)
def okb(b:UInt8):Bool:= !((decide ((b.toNat:Int)<97)||decide ((b.toNat:Int)>122))&&(decide ((b.toNat:Int)<48)||decide ((b.toNat:Int)>57))&&((b.toNat:Int) !=46)&&((b.toNat:Int) !=95)&&((b.toNat:Int) !=45))
def EQ(s:List UInt8):Bool:=s.all okb&& !(s== [])&& !(s== [45])&&decide ((s.length:Int)≤32)
theorem Rv{pre t:List UInt8}{b:UInt8}{n:Int}(c:decide ((pre.length:Int)<n)=true):
  I4 (pre++b::t,n,(pre.length:Int),())=some (if okb b=true then .inl (pre++b::t,n,i64.wrap ((pre.length:Int)+1),())else .inr (.inr false)):=by
 unfold I4;dsimp only;simp only[gPi,gSS,gPb,gPm,gPs,gM,gM2,A9,gOr,AA,AG,gAA,gAO,gOA,gOO,A6,A8,AB,AE,A7,AD,gId];simp only[AL,AM,AN,AO,AP,AQ,AR,AS,gId,AV,gMb,gMm,gBm,gBb,bs,ms];simp only[c,if_true,Th,bs];unfold okb;generalize decide ((b.toNat:Int)<97)=q1;generalize decide ((b.toNat:Int)>122)=q2;generalize decide ((b.toNat:Int)<48)=q3;generalize decide ((b.toNat:Int)>57)=q4;generalize ((b.toNat:Int) !=46)=q5;generalize ((b.toNat:Int) !=95)=q6;generalize ((b.toNat:Int) !=45)=q7;cases q1<;>cases q2<;>cases q3<;>cases q4<;>cases q5<;>cases q6<;>cases q7<;>rfl
theorem Ru:∀(t pre:List UInt8),pre.length+t.length≤4611686018427387904→iter I4 (pre++t,((pre++t).length:Int),(pre.length:Int),())=some (if t.all okb then .inl (pre++t,())else .inr false)
 | [],pre,h2=>by
  refine itR ?_;unfold I4;dsimp only;have c:decide ((pre.length:Int)<(((pre++ []):List UInt8).length:Int))=false:=Ak (by simp);simp only[c,Ag,if_false,List.all_nil,if_true]
 |b::t,pre,h2=>by
  simp only[List.length_cons]at h2;have w1:i64.wrap ((pre.length:Int)+1)=((pre++ [b]).length:Int):=by rw[A3 (by omega) (by omega)];simp
  have c:decide ((pre.length:Int)<(((pre++b::t):List UInt8).length:Int))=true:=Al (by simp;omega);by_cases hd:okb b=true
  ·have e:=Ru t (pre++ [b]) (by simp;omega);rw[List.append_assoc,List.singleton_append]at e;refine(itL (s':=(pre++b::t,((pre++b::t).length:Int),((pre++ [b]).length:Int),())) ?_).trans (e.trans ?_)
   ·rw[Rv c,if_pos hd,w1]
   ·simp[hd]
  ·refine(itR (t:=Sum.inr false) ?_).trans ?_
   ·rw[Rv c,if_neg hd]
   ·simp[hd]
theorem EL{s:List UInt8}(h:s.length≤4611686018427387904):Fe s=some (EQ s):=by
 unfold Fe;dsimp only;simp only[gPi,gSS,gPb,gPm,gPs,gM,gM2,A9,gOr,AA,AG,gAA,gAO,gOA,gOO,A6,A8,AB,AE,A7,AD,gId];simp only[AL,AM,AN,AO,AP,AQ,AR,AS,gId,AV,gMb,gMm,gBm,gBb,bs,ms];have:=Ru s [] (by simpa using h);simp only[List.nil_append,List.length_nil]at this;rw[show((0:Nat):Int)=0 from rfl]at this;rw[this];unfold EQ
 cases hh:s.all okb with
 |true=>
  simp only[if_true,bs];cases s== []<;>cases s== [45]<;>rfl
 |false=>rfl
def plb(b:UInt8):Bool:= !(decide ((b.toNat:Int)<32)||decide ((b.toNat:Int)>126))
def GH(s:List UInt8):Bool:=s.all plb
theorem KG{α:Type}{T:Type}(p:α→Bool)(no yes:T):∀l:List α,Bg (fun(_:Unit) x=>if p x=true then Sum.inl ()else Sum.inr no) (fun _=>yes) () l=if l.all p=true then yes else no
 | []=>rfl
 |x::l=>by
  rw[Bg];by_cases h:p x=true
  ·rw[if_pos h];simp only;rw[KG p no yes l];simp[h]
  ·rw[if_neg h];simp[h]
theorem Sx{s:List UInt8}(h:s.length≤4611686018427387904):Gx s=some (GH s):=by
 unfold Gx;dsimp only;have e:=Eu (b:=Kx) (A:=Unit) (T:=Unit⊕Bool) (fun i _=>(s,(s.length:Int),(i:Int),())) (fun _ x=>if plb x=true then Sum.inl ()else Sum.inr (.inr false)) (fun _=>.inl ()) (fun _ _=>True) s (a:=()) trivial ?_ ?_ ?_
 ·rw[show((0:Nat):Int)=0 from rfl]at e;rw[e,KG,bs];unfold GH;cases s.all plb<;>rfl
 ·intro i x a hx _;unfold Kx;dsimp only;simp only[gPi,gSS,gPb,gPm,gPs,gM,gM2,A9,gOr,AA,AG,gAA,gAO,gOA,gOO,A6,A8,AB,AE,A7,AD,gId];simp only[AL,AM,AN,AO,AP,AQ,AR,AS,gId,AV,gMb,gMm,gBm,gBb,bs,ms];have hi:=(Ae.1 hx).1;simp only[BP hx,if_true,DL hx,bs,Bu (show i<9223372036854775807 by omega)];unfold plb;cases decide ((x.toNat:Int)<32)<;>cases decide ((x.toNat:Int)>126)<;>rfl
 ·intros;trivial
 ·intro a _;unfold Kx;dsimp only;simp only[Cb,Ag,if_false]
theorem Sr{M:Nat}(hM:M≤18446744073709551615):∀(s:List UInt8) (a:Nat),s.all dgt=true→a≤M→Lib.parseUintM M a s=if Ay a s≤M then .ok (Ay a s)else .range
 | [],a,_,ha=>by
  unfold Lib.parseUintM;rw[if_pos (show Ay a []≤M from ha)];rfl
 |c::s,a,h,ha=>by
  simp only[List.all_cons,Af]at h;have hd:=Cu.1 h.1;have e:Ay a (c::s)=Ay (a*10+(c.toNat-48)) s:=rfl;have hle:=GA s (a*10+(c.toNat-48));unfold Lib.parseUintM;rw[if_pos hd,e];by_cases h1:1844674407370955162≤a
  ·rw[if_pos h1,if_neg (by omega)]
  ·rw[if_neg h1];by_cases h2:M<a*10+(c.toNat-48)
   ·rw[if_pos h2,if_neg (by omega)]
   ·rw[if_neg h2];exact Sr hM s _ h.2 (by omega)
def H3(s:List UInt8):Bool:=s== []||(decide ((s.length:Int)>1)&&s.head? ==some 48)
theorem PK(s:List UInt8):BB s=(!H3 s&&s.all dgt):=by
 unfold BB H3;cases s== []<;>cases decide ((s.length:Int)>1)<;>cases s.head? ==some 48<;>simp
theorem R7(s:List UInt8):(if(s== [])=true then some true else if decide ((s.length:Int)>1)=true then(sAt s 0).bind fun v=>some (v==48)else some false)=some (H3 s):=by
 unfold H3
 cases s with
 |nil=>rfl
 |cons c s=>
  have h1:((c::s)==([]:List UInt8))=false:=rfl;have h2:sAt (c::s) 0=some (c.toNat:Int):=DL (i:=0) rfl;rw[h1,h2,bs]
  have h3:((c.toNat:Int)==48)=((c::s).head? ==some 48):=by
   simp only[List.head?_cons];by_cases h:c=48
   ·subst h;rfl
   ·have:¬c.toNat=48:=fun h'=>h (UInt8.toNat_inj.1 h');have e1:((c.toNat:Int)==48)=false:=by simp;omega
    have e2:(some c==some (48:UInt8))=false:=by simpa using h
    rw[e1,e2]
  rw[h3];cases decide (((c::s).length:Int)>1)<;>rfl
def Mj(s:List UInt8):Int:=if BB s=true then(if Ay 0 s≤18446744073709551615 then(Ay 0 s:Int)else 18446744073709551615)else 0
def Dk(s:List UInt8)(most:Int):Bool:=BB s&&decide ((Ay 0 s:Int)≤most)
theorem Nk{s:List UInt8}{most:Int}(h:s.length≤281474976710656)(hm:most≤18446744073709551615):Hs (s,most)=some (Mj s,Dk s most):=by
 unfold Hs;dsimp only;simp only[gPi,gSS,gPb,gPm,gPs,gM,gM2,A9,gOr,AA,AG,gAA,gAO,gOA,gOO,A6,A8,AB,AE,A7,AD,gId];simp only[AL,AM,AN,AO,AP,AQ,AR,AS,gId,AV,gMb,gMm,gBm,gBb,bs,ms];rw[R7,bs];unfold Mj Dk;rw[PK]
 cases hl:H3 s with
 |true=>rfl
 |false=>
  simp only[Ag,if_false];have e:=Eu (b:=KC) (A:=Unit) (T:=(List UInt8×Int×Unit)⊕(Int×Bool)) (fun i _=>(s,most,(s.length:Int),(i:Int),())) (fun _ x=>if dgt x=true then Sum.inl ()else Sum.inr (.inr (0,false))) (fun _=>.inl (s,most,())) (fun _ _=>True) s (a:=()) trivial ?_ ?_ ?_
  ·rw[show((0:Nat):Int)=0 from rfl]at e;rw[e,KG,bs]
   cases hd:s.all dgt with
   |false=>rfl
   |true=>
    simp only[if_true];have hne:s≠ []:=by intro hh;subst hh;cases hl
    have hp:Lib.parseUintB 64 s=if Ay 0 s≤18446744073709551615 then .ok (Ay 0 s)else .range:=by
     unfold Lib.parseUintB;rw[if_neg hne];exact Sr (M:=2^64-1) (by omega) s 0 hd (by omega)
    unfold JB;dsimp only;rw[if_pos ⟨rfl,rfl,h⟩,hp,bs];by_cases hv:Ay 0 s≤18446744073709551615
    ·rw[if_pos hv,if_pos hv];rfl
    ·rw[if_neg hv,if_neg hv];have:decide ((Ay 0 s:Int)≤most)=false:=Ak (by omega);rw[this];rfl
  ·intro i x a hx _;unfold KC;dsimp only;simp only[gPi,gSS,gPb,gPm,gPs,gM,gM2,A9,gOr,AA,AG,gAA,gAO,gOA,gOO,A6,A8,AB,AE,A7,AD,gId];simp only[AL,AM,AN,AO,AP,AQ,AR,AS,gId,AV,gMb,gMm,gBm,gBb,bs,ms];have hi:=(Ae.1 hx).1;simp only[BP hx,if_true,DL hx,bs,Bu (show i<9223372036854775807 by omega)];unfold dgt;cases decide ((x.toNat:Int)<48)<;>cases decide ((x.toNat:Int)>57)<;>rfl
  ·intros;trivial
  ·intro a _;unfold KC;dsimp only;simp only[Cb,Ag,if_false]
def JD(most:Int)(n:Nat)(x:UInt8):Nat⊕((Int×Unit)⊕(Int×Bool)):=if dgt x=true then(if((n*10+(x.toNat-48):Nat):Int)≤most then .inl (n*10+(x.toNat-48))else .inr (.inr (0,false)))else .inr (.inr (0,false))
theorem TD(most:Int):∀(s:List UInt8) (n:Nat),(n:Int)≤most→Bg (JD most) (fun n=>.inl ((n:Int),())) n s=if s.all dgt=true∧((Ay n s:Nat):Int)≤most then .inl ((Ay n s:Int),())else .inr (0,false)
 | [],n,h=>by
  rw[if_pos ⟨rfl,h⟩];rfl
 |x::s,n,h=>by
  have e:Ay n (x::s)=Ay (n*10+(x.toNat-48)) s:=rfl;have hle:=GA s (n*10+(x.toNat-48));rw[Bg,JD,e];by_cases hd:dgt x=true
  ·rw[if_pos hd];by_cases hv:((n*10+(x.toNat-48):Nat):Int)≤most
   ·rw[if_pos hv];simp only;rw[TD most s _ hv];simp[hd]
   ·rw[if_neg hv,if_neg (by intro hh;have:=hh.2;omega)]
  ·rw[if_neg hd,if_neg (by intro hh;have:=hh.1;simp[hd]at this)]
theorem Y0{s:List UInt8}{most:Int}(h:s.length≤281474976710656)(h0:0≤most)(hm:most≤18446744073709551615):Oo (s,most)=some (if Dk s most=true then((Ay 0 s:Int),true)else(0,false)):=by
 unfold Oo;dsimp only;simp only[gPi,gSS,gPb,gPm,gPs,gM,gM2,A9,gOr,AA,AG,gAA,gAO,gOA,gOO,A6,A8,AB,AE,A7,AD,gId];simp only[AL,AM,AN,AO,AP,AQ,AR,AS,gId,AV,gMb,gMm,gBm,gBb,bs,ms]
 have hz:((s.length:Int)==0)=(s== []):=by
  cases s with
  |nil=>rfl
  |cons c s=>
   have:(c::s==([]:List UInt8))=false:=rfl;rw[this];simp;omega
 rw[hz,R7,bs];unfold Dk;rw[PK]
 cases hl:H3 s with
 |true=>rfl
 |false=>
  simp only[Ag,if_false];have e:=Eu (b:=LK) (A:=Nat) (T:=(Int×Unit)⊕(Int×Bool)) (fun i n=>(s,most,(n:Int),(i:Int),())) (JD most) (fun n=>.inl ((n:Int),())) (fun _ n=>(n:Int)≤most) s (a:=0) h0 ?_ ?_ ?_
  ·rw[show((0:Nat):Int)=0 from rfl]at e;rw[e,TD most s 0 h0,bs]
   cases hd:s.all dgt with
   |false=>rfl
   |true=>
    by_cases hv:((Ay 0 s:Nat):Int)≤most
    ·rw[if_pos ⟨rfl,hv⟩,Al hv];rfl
    ·rw[if_neg (fun hh=>hv hh.2),Ak hv];rfl
  ·intro i x n hx hn;unfold LK;dsimp only;simp only[gPi,gSS,gPb,gPm,gPs,gM,gM2,A9,gOr,AA,AG,gAA,gAO,gOA,gOO,A6,A8,AB,AE,A7,AD,gId];simp only[AL,AM,AN,AO,AP,AQ,AR,AS,gId,AV,gMb,gMm,gBm,gBb,bs,ms];have hi:=(Ae.1 hx).1;simp only[BP hx,if_true,DL hx,bs,Bu (show i<9223372036854775807 by omega)]
   have e1:(if decide ((x.toNat:Int)<48)=true then some true else some (decide ((x.toNat:Int)>57)))=some (!dgt x):=by
    unfold dgt;cases decide ((x.toNat:Int)<48)<;>cases decide ((x.toNat:Int)>57)<;>rfl
   rw[e1,bs];unfold JD;by_cases hd:dgt x=true
   ·have hd':=Cu.1 hd;rw[hd];simp only[Bool.not_true,Ag,if_false,if_true];rw[if_neg (by decide),bs];have w1:u64.wrap (x.toNat:Int)=(x.toNat:Int):=FZ (by omega) (by omega);have w2:u64.wrap ((x.toNat:Int)-48)=(x.toNat:Int)-48:=FZ (by omega) (by omega)
    have w3:u64.wrap (most.tdiv 10)=most/10:=by
     rw[Int.tdiv_eq_ediv_of_nonneg h0];exact FZ (by omega) (by omega)
    rw[w1,w2,w3];by_cases hv:((n*10+(x.toNat-48):Nat):Int)≤most
    ·rw[if_pos hv];have d1:decide ((n:Int)>most/10)=false:=Ak (by omega);have w4:u64.wrap (10*(n:Int))=10*(n:Int):=FZ (by omega) (by omega);have w5:u64.wrap (most-((x.toNat:Int)-48))=most-((x.toNat:Int)-48):=FZ (by omega) (by omega);have w6:u64.wrap (10*(n:Int)+((x.toNat:Int)-48))=((n*10+(x.toNat-48):Nat):Int):=by rw[FZ (by omega) (by omega)];omega
     have d2:decide (10*(n:Int)>most-((x.toNat:Int)-48))=false:=Ak (by omega);have d3:decide ((x.toNat:Int)-48>most)=false:=Ak (by omega);rw[d1];simp only[Ag,if_false];rw[w4,w5,d2,bs];simp only[Ag,if_false];rw[d3,bs];simp only[Ag,if_false];rw[w6];rfl
    ·rw[if_neg hv];by_cases c1:(n:Int)>most/10
     ·rw[Al c1];rfl
     ·rw[Ak c1];simp only[Ag,if_false];by_cases c3:(x.toNat:Int)-48>most
      ·rw[Al c3,bs];generalize decide (u64.wrap (10*(n:Int))>u64.wrap (most-((x.toNat:Int)-48)))=q;cases q<;>rfl
      ·have w4:u64.wrap (10*(n:Int))=10*(n:Int):=FZ (by omega) (by omega);have w5:u64.wrap (most-((x.toNat:Int)-48))=most-((x.toNat:Int)-48):=FZ (by omega) (by omega);have d2:decide (10*(n:Int)>most-((x.toNat:Int)-48))=true:=Al (by omega);rw[w4,w5,d2];rfl
   ·have hd':dgt x=false:=by simpa using hd
    rw[hd'];rfl
  ·intro i x n n' hx hn hs;unfold JD at hs;split at hs
   ·split at hs
    ·cases hs;assumption
    ·cases hs
   ·cases hs
  ·intro n _;unfold LK;dsimp only;simp only[Cb,Ag,if_false]
set_option linter.unusedSimpArgs false
set_option linter.unusedVariables false
def FH(w:List UInt8):Bool:=BB w&&decide (Ay 0 w≤1440)
def Dl:Nat→List UInt8→List UInt8→Bool
 |k,cur,[]=>decide (k=6)&&FH cur
 |k,cur,b::t=>if b=32 then FH cur&&decide (k<6)&&Dl (k+1) [] t else dgt b&&Dl k (cur++ [b]) t
def Ek(s:List UInt8):Bool:=Dl 0 [] s
theorem XL{w:List UInt8}{b:UInt8}(h:Cv w=true):Cv (w++ [b])=true:=by
 unfold Cv at*;simp only[Af,decide_eq_true_eq]at h⊢;refine⟨by simp;omega, ?_⟩
 cases w with
 |nil=>simp at h
 |cons c w=>simpa using h.2
theorem Rk{w:List UInt8}(h:Cv w=true):FH w=false:=by
 unfold FH BB;unfold Cv at h;rw[h];simp
theorem Ua:∀(t:List UInt8) (k:Nat) (w:List UInt8),Cv w=true→Dl k w t=false
 | [],k,w,h=>by unfold Dl;rw[Rk h];simp
 |b::t,k,w,h=>by
  unfold Dl;rw[Rk h,Ua t k (w++ [b]) (XL h)];simp
abbrev WS:=Int×Int×Int×List Int×Int×Int×Int×Int×Int×Int×Int×Int×Int×Int×Int×Int×Int×Int×Int×Int×Unit×Unit×Unit×Unit×Unit
def wkS(l:List Int)(at_ d:Nat)(f:Int)(i:Nat)(w:Nat→Int):WS:=((at_:Int),(d:Int),f,l,(l.length:Int),(i:Int),0,0,0,0,0,0,0,w 0,w 1,w 2,w 3,w 4,w 5,w 6,(),(),(),(),())
theorem w7(w:Nat→Int){k:Nat}(h:k<7): [w 0,w 1,w 2,w 3,w 4,w 5,w 6][k]? =some (w k):=by
 have:k=0∨k=1∨k=2∨k=3∨k=4∨k=5∨k=6:=by omega
 rcases this with rfl|rfl|rfl|rfl|rfl|rfl|rfl<;>rfl
theorem Aaw{l:List Int}{a d:Nat}{f:Int}{w:Nat→Int}:FY (wkS l a d f l.length w)=some (.inr (.inl ((a:Int),(d:Int),0,0,0,0,0,0,0,w 0,w 1,w 2,w 3,w 4,w 5,w 6,(),(),(),(),()))):=by
 unfold FY wkS;dsimp only;rw[Cb];rfl
theorem Aau{l:List Int}{a d i:Nat}{f:Int}{w:Nat→Int}(hi:l[i]? =some 32)(hil:i<1000000)(ha:a≤6)(hd:d≤1000000):
  FY (wkS l a d f i w)=some (if 0<d∧a<6 then .inl (wkS l (a+1) 0 f (i+1) w)else .inr (.inr ((0,0,0,0,0,0,0),3))):=by
 have ws1:=Bu (show i<9223372036854775807 by omega);have ws2:=Bu (show a<9223372036854775807 by omega);unfold FY wkS;dsimp only;simp only[gPi,gSS,gPb,gPm,gPs,gM,gM2,A9,gOr,AA,AG,gAA,gAO,gOA,gOO,A6,A8,AB,AE,A7,AD,gId];simp only[AL,AM,AN,AO,AP,AQ,AR,AS,gId,AV,gMb,gMm,gBm,gBb,bs,ms];have c1:((32:Int)==32)=true:=rfl;have c2:decide ((32:Int)<48)=true:=rfl;simp only[BP hi,if_true,Bd hi,bs,c1,c2];by_cases h1:0<d
 ·have c3:decide ((d:Int)>0)=true:=Al (by omega);by_cases h2:a<6
  ·have c4:decide ((a:Int)<6)=true:=Al (by omega);have q:(0<d∧a<6)=True:=eq_true ⟨h1,h2⟩;simp only[c3,c4,if_true,bs,ws1,ws2,q];rfl
  ·have c4:decide ((a:Int)<6)=false:=Ak (by omega);have q:(0<d∧a<6)=False:=eq_false (fun hh=>h2 hh.2);simp only[c3,c4,if_true,bs,Ag,if_false,q]
 ·have c3:decide ((d:Int)>0)=false:=Ak (by omega);have q:(0<d∧a<6)=False:=eq_false (fun hh=>h1 hh.1);simp only[c3,if_true,bs,Ag,if_false,q]
theorem Aav{l:List Int}{a d i:Nat}{f:Int}{w:Nat→Int}{b:UInt8}(hi:l[i]? =some (b.toNat:Int))(h32:b≠32)(hil:i<1000000)(ha:a≤6)(hd:d≤1000000)(hw:0≤w a∧w a≤100000):
  FY (wkS l a d f i w)=some (if dgt b=true∧¬(0<d∧f=48)then .inl (wkS l a (d+1) (if d=0 then(b.toNat:Int)else f) (i+1) fun j=>if a=j then min (w a*10+((b.toNat-48:Nat):Int)) 1441 else w j)else .inr (.inr ((0,0,0,0,0,0,0),3))):=by
 have ws1:=Bu (show i<9223372036854775807 by omega);have ws2:=Bu (show d<9223372036854775807 by omega)
 have hb:¬(b.toNat:Int)=32:=by
  intro h;exact h32 (UInt8.toNat_inj.1 (by show b.toNat=32;omega))
 have c0:((b.toNat:Int)==32)=false:=by simpa using hb
 unfold FY wkS;dsimp only;simp only[gPi,gSS,gPb,gPm,gPs,gM,gM2,A9,gOr,AA,AG,gAA,gAO,gOA,gOO,A6,A8,AB,AE,A7,AD,gId];simp only[AL,AM,AN,AO,AP,AQ,AR,AS,gId,AV,gMb,gMm,gBm,gBb,bs,ms];simp only[BP hi,if_true,Bd hi,bs,c0,Ag,if_false];by_cases hd1:dgt b=true
 ·have hd':=Cu.1 hd1;have c1:decide ((b.toNat:Int)<48)=false:=Ak (by omega);have c2:decide ((b.toNat:Int)>57)=false:=Ak (by omega)
  have e1:(if decide ((d:Int)>0)=true then some (f==48)else some false)=some (decide (0<d∧f=48)):=by
   by_cases h:0<d
   ·rw[Al (show(d:Int)>0 by omega),if_pos rfl];by_cases hf:f=48<;>simp[h,hf]
   ·rw[Ak (show ¬(d:Int)>0 by omega),if_neg (by decide)];simp[h]
  by_cases hn:0<d∧f=48
  ·have q:(dgt b=true∧¬(0<d∧f=48))=False:=eq_false (fun hh=>hh.2 hn);simp only[c1,c2,Ag,if_false,e1,Al hn,if_true,bs,q]
  ·have q:(dgt b=true∧¬(0<d∧f=48))=True:=eq_true ⟨hd1,hn⟩
   have e2:((d:Int)==0)=decide (d=0):=by
    by_cases h:d=0
    ·subst h;rfl
    ·have:¬(d:Int)=0:=by omega
     simp[h]
   have w1:u8.wrap ((b.toNat:Int)-48)=((b.toNat-48:Nat):Int):=by
    rw[IntKind.wrap_u8];omega
   have w2:i64.wrap ((b.toNat-48:Nat):Int)=((b.toNat-48:Nat):Int):=A3 (by omega) (by omega);have w3:i64.wrap (10*w a)=10*w a:=A3 (by omega) (by omega);have w4:i64.wrap (10*w a+((b.toNat-48:Nat):Int))=w a*10+((b.toNat-48:Nat):Int):=by rw[A3 (by omega) (by omega)];omega
   have hat:(0≤(a:Int)∧(a:Int)<7)=True:=eq_true (by omega);simp only[c1,c2,Ag,if_false,if_true,e1,Ak hn,bs,e2,q];by_cases h0:d=0
   ·simp only[h0,decide_true,if_true,bs,hat,Int.toNat_natCast,w7 w (show a<7 by omega),w1,w2,w3,w4,ws1];rfl
   ·simp only[h0,decide_false,if_false,Ag,bs,hat,if_true,Int.toNat_natCast,w7 w (show a<7 by omega),w1,w2,w3,w4,ws1,ws2]
 ·have e0:dgt b=false:=by simpa using hd1
  have q:(dgt b=true∧¬(0<d∧f=48))=False:=eq_false (fun hh=>hd1 hh.1);unfold dgt at e0;by_cases h1:(b.toNat:Int)<48
  ·simp only[Al h1,if_true,bs,q,if_false]
  ·have h2:(b.toNat:Int)>57:=by
    rw[Ak h1]at e0;simpa using e0
   simp only[Ak h1,Al h2,if_true,bs,Ag,if_false,q]
def okm(n:Int):Bool:= !(decide (n<0)||decide (n>1440))
theorem Ub(w:Nat→Int):Mr (w 0,w 1,w 2,w 3,w 4,w 5,w 6)=some ([w 0,w 1,w 2,w 3,w 4,w 5,w 6].all okm):=by
 unfold Mr;dsimp only;have e:=Eu (b:=Ms) (A:=Unit) (T:=Unit⊕Bool) (fun i _=>((w 0,w 1,w 2,w 3,w 4,w 5,w 6),(i:Int),())) (fun _ x=>if okm x=true then Sum.inl ()else Sum.inr (.inr false)) (fun _=>.inl ()) (fun _ _=>True) [w 0,w 1,w 2,w 3,w 4,w 5,w 6] (a:=()) trivial ?_ ?_ ?_
 ·rw[show((0:Nat):Int)=0 from rfl]at e;rw[e,KG,bs];cases [w 0,w 1,w 2,w 3,w 4,w 5,w 6].all okm<;>rfl
 ·intro i x a hx _;have hi:i<7:=by simpa using(Ae.1 hx).1
  unfold Ms;dsimp only;simp only[gPi,gSS,gPb,gPm,gPs,gM,gM2,A9,gOr,AA,AG,gAA,gAO,gOA,gOO,A6,A8,AB,AE,A7,AD,gId];simp only[AL,AM,AN,AO,AP,AQ,AR,AS,gId,AV,gMb,gMm,gBm,gBb,bs,ms];have c:decide ((i:Int)<7)=true:=Al (by omega);simp only[c,if_true,Bd hx,bs,Bu (show i<9223372036854775807 by omega)];unfold okm;cases decide (x<0)<;>cases decide (x>1440)<;>rfl
 ·intros;trivial
 ·intro a _;unfold Ms;dsimp only;rfl
theorem P6(w:Nat→Int): [w 0,w 1,w 2,w 3,w 4,w 5,w 6].all okm=true↔∀j,j<7→0≤w j∧w j≤1440:=by
 have ho:∀n:Int,okm n=true↔0≤n∧n≤1440:=by
  intro n;unfold okm;simp only[Bool.not_eq_true',Bool.or_eq_false_iff,decide_eq_false_iff_not];omega
 simp only[List.all_cons,List.all_nil,Bool.and_true,Af,ho];constructor
 ·intro h j hj;have:j=0∨j=1∨j=2∨j=3∨j=4∨j=5∨j=6:=by omega
  rcases this with rfl|rfl|rfl|rfl|rfl|rfl|rfl
  ·exact h.1
  ·exact h.2.1
  ·exact h.2.2.1
  ·exact h.2.2.2.1
  ·exact h.2.2.2.2.1
  ·exact h.2.2.2.2.2.1
  ·exact h.2.2.2.2.2.2
 ·intro h;exact⟨h 0 (by omega),h 1 (by omega),h 2 (by omega),h 3 (by omega),h 4 (by omega),h 5 (by omega),h 6 (by omega)⟩
def Us(o:(Int×Int×Int×Int×Int×Int×Int×Int×Int×Int×Int×Int×Int×Int×Int×Int×Unit×Unit×Unit×Unit×Unit)⊕((Int×Int×Int×Int×Int×Int×Int)×Int))(B:Prop):Prop:=
 (o=.inr ((0,0,0,0,0,0,0),3)∧¬B)∨∃(a d:Nat) (w:Nat→Int),o=.inl ((a:Int),(d:Int),0,0,0,0,0,0,0,w 0,w 1,w 2,w 3,w 4,w 5,w 6,(),(),(),(),())∧((a=6∧d≠0∧∀j,j<7→0≤w j∧w j≤1440)↔B)
theorem OW(l:List Int)(hl:l.length≤900000):∀(t:List UInt8) (i k:Nat) (cur:List UInt8) (f:Int) (w:Nat→Int),l.drop i=t.map (fun b=>(b.toNat:Int))→i≤l.length→k≤6→cur.length≤i→cur.all dgt=true→Cv cur=false→(cur≠ []→cur.head?.map (fun b=>(b.toNat:Int))=some f)→(∀j,0≤w j∧w j≤1441)→(w k=min (Ay 0 cur:Int) 1441)→(∀j,k<j→w j=0)→
  ∃o,iter FY (wkS l k cur.length f i w)=some o∧Us o ((∀j,j<k→w j≤1440)∧Dl k cur t=true)
 | [],i,k,cur,f,w,hd,hi,hk,hc,hcd,hn,hf,hw,hwk,hwz=>by
  have:i=l.length:=by
   have:=congrArg List.length hd;simp at this;omega
  subst this;refine⟨_,itR Aaw,.inr ⟨k,cur.length,w,rfl, ?_⟩⟩;unfold Dl FH;rw[Ha cur hcd,hn];simp only[Bool.not_false,Bool.and_true,Af,decide_eq_true_eq,Bool.not_eq_true',beq_eq_false_iff_ne];constructor
  ·rintro⟨rfl,h1,h2⟩
   refine⟨fun j hj=>(h2 j (by omega)).2,rfl,fun h=>h1 (by rw[h];rfl), ?_⟩;have:=(h2 6 (by omega)).2;omega
  ·rintro⟨h1,rfl,h2,h3⟩
   refine⟨rfl,fun h=>h2 (List.eq_nil_of_length_eq_zero h),fun j hj=>⟨(hw j).1, ?_⟩⟩;by_cases h6:j<6
   ·exact h1 j h6
   ·have:j=6:=by omega
    subst this;omega
 |b::t,i,k,cur,f,w,hd,hi,hk,hc,hcd,hn,hf,hw,hwk,hwz=>by
  have hx:l[i]? =some (b.toNat:Int):=by
   have:=congrArg (fun q=>q[0]?) hd;simpa using this
  have hlt:i<l.length:=(Ae.1 hx).1
  have hd':l.drop (i+1)=t.map (fun b=>(b.toNat:Int)):=by
   rw[←List.tail_drop,hd];rfl
  have hG:Dl k cur (b::t)=if b=32 then FH cur&&decide (k<6)&&Dl (k+1) [] t else dgt b&&Dl k (cur++ [b]) t:=rfl
  have hgood:FH cur=(!(cur== [])&&decide (Ay 0 cur≤1440)):=by
   unfold FH;rw[Ha cur hcd,hn];simp
  by_cases hb:b=32
  ·subst hb;rw[if_pos rfl]at hG;have hs:=Aau (a:=k) (d:=cur.length) (f:=f) (w:=w) hx (by omega) hk (by omega);by_cases hq:0<cur.length∧k<6
   ·rw[if_pos hq]at hs;obtain⟨o,ho,hE⟩:=OW l hl t (i+1) (k+1) [] f w hd' (by omega) (by omega) (by simp) rfl rfl (fun h=>absurd rfl h) hw (by rw[hwz (k+1) (by omega)];rfl) (fun j hj=>hwz j (by omega));refine⟨o,(itL hs).trans ho, ?_⟩
    have hB:((∀j,j<k+1→w j≤1440)∧Dl (k+1) [] t=true)↔((∀j,j<k→w j≤1440)∧Dl k cur (32::t)=true):=by
     rw[hG,hgood]
     have hne:(cur== [])=false:=by
      have:cur≠ []:=fun h=>by rw[h]at hq;simp at hq
      simpa using this
     rw[hne,Al hq.2];simp only[Bool.not_false,Bool.true_and,Bool.and_true,Af,decide_eq_true_eq];constructor
     ·rintro⟨h1,h2⟩
      refine⟨fun j hj=>h1 j (by omega), ?_,h2⟩;have:=h1 k (by omega);omega
     ·rintro⟨h1,h2,h3⟩
      refine⟨fun j hj=> ?_,h3⟩;by_cases hjk:j<k
      ·exact h1 j hjk
      ·have:j=k:=by omega
       subst this;omega
    rcases hE with⟨h1,h2⟩|⟨a,d,w',h1,h2⟩
    ·exact .inl ⟨h1,fun h=>h2 (hB.2 h)⟩
    ·exact .inr ⟨a,d,w',h1,h2.trans hB⟩
   ·rw[if_neg hq]at hs;refine⟨_,itR hs,.inl ⟨rfl, ?_⟩⟩;rw[hG,hgood]
    rintro⟨_,h⟩
    simp only[Af,decide_eq_true_eq,Bool.not_eq_true',beq_eq_false_iff_ne]at h;exact hq ⟨List.length_pos_iff.2 h.1.1.1,h.1.2⟩
  ·rw[if_neg hb]at hG;have hs:=Aav (a:=k) (d:=cur.length) (f:=f) (w:=w) hx hb (by omega) hk (by omega) ⟨(hw k).1,by have:=(hw k).2;omega⟩;by_cases hq:dgt b=true∧¬(0<cur.length∧f=48)
   ·rw[if_pos hq]at hs
    have hne:Cv (cur++ [b])=false:=by
     cases cur with
     |nil=>rfl
     |cons c cs=>
      have h1:=hf (by simp);simp only[List.head?_cons,Option.map_some,Ac]at h1;have h2:¬f=48:=fun h=>hq.2 ⟨by simp,h⟩;unfold Cv
      have:((c::cs++ [b]).head? ==some 48)=false:=by
       simp only[List.cons_append,List.head?_cons];have:c≠48:=fun h=>h2 (by rw[←h1,h];rfl);simpa using this
      rw[this,Bool.and_false]
    have hv:(Ay 0 (cur++ [b]):Int)=(Ay 0 cur:Int)*10+((b.toNat-48:Nat):Int):=by rw[Ja];omega
    have hstep:wkS l k (cur.length+1) (if cur.length=0 then(b.toNat:Int)else f) (i+1) (fun j=>if k=j then min (w k*10+((b.toNat-48:Nat):Int)) 1441 else w j)=wkS l k (cur++ [b]).length (if cur.length=0 then(b.toNat:Int)else f) (i+1) (fun j=>if k=j then min (w k*10+((b.toNat-48:Nat):Int)) 1441 else w j):=by
     rw[List.length_append];rfl
    rw[hstep]at hs
    obtain⟨o,ho,hE⟩:=OW l hl t (i+1) k (cur++ [b]) (if cur.length=0 then(b.toNat:Int)else f) (fun j=>if k=j then min (w k*10+((b.toNat-48:Nat):Int)) 1441 else w j) hd' (by omega) hk (by simp;omega) (by simp[hcd,hq.1]) hne (fun _=>by
      cases cur with
      |nil=>rfl
      |cons c cs=>simpa using hf (by simp)) (fun j=>by
      by_cases hj:k=j
      ·simp only[hj,if_true];have:=hw j;subst hj;omega
      ·simp only[hj,if_false];exact hw j) (by
      simp only[if_true];rw[hv,hwk]
      omega) (fun j hj=>by
      have:¬k=j:=by omega
      simp only[this,if_false]
      exact hwz j hj)
    refine⟨o,(itL hs).trans ho, ?_⟩
    have hB:((∀j,j<k→(if k=j then min (w k*10+((b.toNat-48:Nat):Int)) 1441 else w j)≤1440)∧Dl k (cur++ [b]) t=true)↔((∀j,j<k→w j≤1440)∧Dl k cur (b::t)=true):=by
     rw[hG,hq.1,Bool.true_and];refine and_congr_left fun _=>⟨fun h j hj=> ?_,fun h j hj=> ?_⟩
     ·have:=h j hj
      rwa [if_neg (by omega)]at this
     ·rw[if_neg (by omega)];exact h j hj
    rcases hE with⟨h1,h2⟩|⟨a,d,w',h1,h2⟩
    ·exact .inl ⟨h1,fun h=>h2 (hB.2 h)⟩
    ·exact .inr ⟨a,d,w',h1,h2.trans hB⟩
   ·rw[if_neg hq]at hs;refine⟨_,itR hs,.inl ⟨rfl, ?_⟩⟩;rw[hG]
    rintro⟨_,h⟩
    simp only[Af]at h;refine hq ⟨h.1,fun hh=> ?_⟩
    have hno:Cv (cur++ [b])=true:=by
     cases cur with
     |nil=>simp at hh
     |cons c cs=>
      have h1:=hf (by simp);simp only[List.head?_cons,Option.map_some,Ac]at h1;have h2:c=48:=UInt8.toNat_inj.1 (by show c.toNat=48;omega);unfold Cv;subst h2;simp;omega
    rw[Ua t k _ hno]at h;exact absurd h.2 (by decide)
theorem Aao{s:List UInt8}(h:s.length≤900000):∃v e,Mq s=some (v,e)∧(e==0)=Ek s:=by
 have hl:(s.map fun b=>(b.toNat:Int)).length=s.length:=by simp
 obtain⟨o,ho,hE⟩:=OW (s.map fun b=>(b.toNat:Int)) (by omega) s 0 0 [] 0 (fun _=>0) rfl (by omega) (by omega) (by simp) rfl rfl (fun hh=>absurd rfl hh) (fun _=>by omega) rfl (fun _ _=>rfl);have hB:((∀j,j<0→(0:Int)≤1440)∧Dl 0 [] s=true)↔Ek s=true:=⟨fun h=>h.2,fun h=>⟨fun _ hj=>by omega,h⟩⟩;unfold Mq;dsimp only;rw[if_pos (show s.length≤70368744177664 by omega),bs];unfold wkS at ho;simp only[List.length_nil]at ho;rw[show((0:Nat):Int)=0 from rfl]at ho;rw[ho,bs];rcases hE with⟨rfl,hn⟩|⟨a,d,w,rfl,hi⟩
 ·refine⟨_,_,rfl, ?_⟩
  have:Ek s=false:=by
   cases hh:Ek s with
   |false=>rfl
   |true=>exact absurd (hB.2 hh) hn
  rw[this];rfl
 ·dsimp only;by_cases h6:a=6
  ·have c1:((a:Int) !=6)=false:=by subst h6;rfl
   by_cases h0:d=0
   ·have c2:((d:Int)==0)=true:=by subst h0;rfl
    refine⟨_,_,by simp only[c1,c2,Ag,if_false,bs,if_true];rfl, ?_⟩
    have:Ek s=false:=by
     cases hh:Ek s with
     |false=>rfl
     |true=>exact absurd h0 (hi.2 (hB.2 hh)).2.1
    rw[this];rfl
   ·have c2:((d:Int)==0)=false:=by
     have:¬(d:Int)=0:=by omega
     simpa using this
    cases hr: [w 0,w 1,w 2,w 3,w 4,w 5,w 6].all okm with
    |true=>
     refine⟨_,_,by simp only[c1,c2,Ag,if_false,bs,Ub,hr,Bool.not_true];rfl, ?_⟩;rw[hB.1 (hi.1 ⟨h6,h0,(P6 w).1 hr⟩)];rfl
    |false=>
     refine⟨_,_,by simp only[c1,c2,Ag,if_false,bs,Ub,hr,Bool.not_false,if_true];rfl, ?_⟩
     have:Ek s=false:=by
      cases hh:Ek s with
      |false=>rfl
      |true=>
       have:=(P6 w).2 (hi.2 (hB.2 hh)).2.2;rw[hr]at this;cases this
     rw[this];rfl
  ·have c1:((a:Int) !=6)=true:=by
    have:¬(a:Int)=6:=by omega
    simpa using this
   refine⟨_,_,by simp only[c1,bs,if_true];rfl, ?_⟩
   have:Ek s=false:=by
    cases hh:Ek s with
    |false=>rfl
    |true=>exact absurd (hi.2 (hB.2 hh)).1 h6
   rw[this];rfl
set_option linter.unusedSimpArgs false
set_option linter.unusedVariables false
set_option linter.unusedSimpArgs false
set_option linter.unusedVariables false
def BH:Nat:=1125899906842624
def JE(n:Nat):List UInt8:=Lib.decDigits (n/100)++ [46,dg9 (n/10 % 10),dg9 (n % 10)]
def GU(c:Int):List UInt8:=(if c<0 then [45]else [])++JE c.natAbs
def IsC(s:List UInt8)(c:Int):Prop:=c.natAbs≤BH∧GU c=s
instance (s:List UInt8) (c:Int):Decidable (IsC s c):=inferInstanceAs (Decidable (_∧_))
def Bp(W:List UInt8)(a b:UInt8):Nat:=Ay 0 (W++ [a,b])
theorem F1(W:List UInt8)(a b:UInt8):Bp W a b=(Ay 0 W*10+(a.toNat-48))*10+(b.toNat-48):=by simp[Bp,Ay]
theorem Z8(n:Nat):∃W a b,JE n=W++ [46,a,b]∧BB W=true∧dgt a=true∧dgt b=true∧Bp W a b=n:=by
 refine⟨Lib.decDigits (n/100),dg9 (n/10 % 10),dg9 (n % 10),rfl,UM _,Kg (Nat.mod_lt _ (by omega)),Kg (Nat.mod_lt _ (by omega)), ?_⟩;rw[F1,VE,Gr (Nat.mod_lt _ (by omega)),Gr (Nat.mod_lt _ (by omega))];omega
theorem TG{W:List UInt8}{a b:UInt8}(h:BB W=true)(ha:dgt a=true)(hb:dgt b=true):JE (Bp W a b)=W++ [46,a,b]:=by
 have h1:=Cu.1 ha;have h2:=Cu.1 hb;have e1:Bp W a b/100=Ay 0 W:=by rw[F1];omega
 have e2:Bp W a b/10 % 10=a.toNat-48:=by rw[F1];omega
 have e3:Bp W a b % 10=b.toNat-48:=by rw[F1];omega
 unfold JE;rw[e1,e2,e3,Q0 h,Kf ha,Kf hb]
theorem PL{W:List UInt8}(h:BB W=true):W≠ []:=by intro e;rw[e]at h;cases h
theorem MD{W:List UInt8}(h:BB W=true):W.all dgt=true:=by
 unfold BB at h;simp only[Af]at h;exact h.2
theorem ME{W X:List UInt8}(h:BB W=true):(W++X).head? ≠some 45:=by
 cases W with
 |nil=>exact absurd rfl (PL h)
 |cons c W=>
  have:=MD h;simp only[List.all_cons,Af]at this;have h3:=Cu.1 this.1;simp only[List.cons_append,List.head?_cons,ne_eq,Ac];intro e;rw[e]at h3;exact absurd h3.1 (by decide)
theorem Xb{W:List UInt8}{a b:UInt8}(h:BB W=true)(ha:dgt a=true)(hb:dgt b=true)(hn:Bp W a b≤BH):IsC (W++ [46,a,b]) (Bp W a b:Int):=by
 refine⟨by simpa using hn, ?_⟩;unfold GU;rw[if_neg (by omega),Int.natAbs_natCast,TG h ha hb];rfl
theorem Xa{W:List UInt8}{a b:UInt8}(h:BB W=true)(ha:dgt a=true)(hb:dgt b=true)(hn:Bp W a b≤BH)(h0:Bp W a b≠0):IsC (45::(W++ [46,a,b])) (-(Bp W a b:Int)):=by
 refine⟨by simpa using hn, ?_⟩;unfold GU;rw[if_pos (by omega),Int.natAbs_neg,Int.natAbs_natCast,TG h ha hb];rfl
theorem IB{s:List UInt8}{c:Int}(h:IsC s c):∃W a b,BB W=true∧dgt a=true∧dgt b=true∧Bp W a b=c.natAbs∧Bp W a b≤BH∧s=(if c<0 then [45]else [])++(W++ [46,a,b]):=by
 obtain⟨h1,h2⟩:=h;obtain⟨W,a,b,e,hW,ha,hb,hn⟩:=Z8 c.natAbs;refine⟨W,a,b,hW,ha,hb,hn,by omega, ?_⟩;rw[←h2,GU,e]
theorem WZ{s:List UInt8}{c d:Int}(h:IsC s c)(k:IsC s d):c=d:=by
 obtain⟨W,a,b,hW,ha,hb,hn,_,e⟩:=IB h;obtain⟨V,a',b',hV,ha',hb',hm,_,e'⟩:=IB k
 have key:∀{X Y:List UInt8} {x y x' y':UInt8},X++ [46,x,y]=Y++ [46,x',y']→X=Y∧x=x'∧y=y':=by
  intro X Y x y x' y' hh;obtain⟨h1,h2⟩:=List.append_inj' hh rfl;simp only[List.cons.injEq,and_true,true_and]at h2;exact⟨h1,h2.1,h2.2⟩
 rw[e]at e';by_cases h1:c<0<;>by_cases h2:d<0
 ·rw[if_pos h1,if_pos h2]at e';obtain⟨rfl,rfl,rfl⟩:=key (List.append_cancel_left e');omega
 ·rw[if_pos h1,if_neg h2]at e';exact absurd (by rw[List.nil_append]at e';rw[←e'];rfl) (ME (X:= [46,a',b']) hV)
 ·rw[if_neg h1,if_pos h2]at e';exact absurd (by rw[List.nil_append]at e';rw[e'];rfl) (ME (X:= [46,a,b]) hW)
 ·rw[if_neg h1,if_neg h2]at e';obtain⟨rfl,rfl,rfl⟩:=key (List.append_cancel_left e');omega
theorem Ww(c:Int):JT c=some (decide (c.natAbs≤BH)):=by
 unfold JT BH;simp only[gPi,gSS,gPb,gPm,gPs,gM,gM2,A9,gOr,AA,AG,gAA,gAO,gOA,gOO,A6,A8,AB,AE,A7,AD,gId];by_cases h1:c≥ -1125899906842624<;>by_cases h2:c≤1125899906842624<;>simp[h1,h2]<;>omega
theorem Tg{d:Nat}(h:d<10):(Utf8.encode (IntKind.i32.wrap (i64.wrap (48+(d:Int))))).data.toList= [dg9 d]:=by
 have:d=0∨d=1∨d=2∨d=3∨d=4∨d=5∨d=6∨d=7∨d=8∨d=9:=by omega
 rcases this with rfl|rfl|rfl|rfl|rfl|rfl|rfl|rfl|rfl|rfl<;>rfl
theorem Aat:∀(n:Nat) (s:List UInt8),n≤4611686018427387→s.length+n≤4611686018427387904→∃(m:Nat) (t:List UInt8),iter JU ((n:Int),s,())=some ((m:Int),t,())∧m<10∧t.length≤s.length+n∧ [dg9 m]++t=Lib.decDigits n++s:=by
 intro n
 induction n using Nat.strongRecOn with
 |_ n ih=>
  intro s hn hs;by_cases h:n<10
  ·refine⟨n,s, ?_,h, ?_, ?_⟩
   ·rw[BV];unfold JU;dsimp only;rw[Ak (show ¬(n:Int)>9 by omega)];rfl
   ·omega
   ·rw[EE h]
  ·obtain⟨m,t,h1,h2,h3,h4⟩:=ih (n/10) (by omega) ([dg9 (n % 10)]++s) (by omega) (by simp;omega);refine⟨m,t, ?_,h2,by simp at h3;omega, ?_⟩
   ·rw[BV];unfold JU;dsimp only;rw[Al (show(n:Int)>9 by omega),if_pos rfl,if_neg (by decide),bs];have e1:(n:Int).tmod 10=((n % 10:Nat):Int):=by rw[Int.tmod_eq_emod_of_nonneg (by omega)];omega
    have e2:i64.wrap ((n:Int).tdiv 10)=((n/10:Nat):Int):=by rw[Int.tdiv_eq_ediv_of_nonneg (by omega),A3 (by omega) (by omega)];omega
    rw[e1,Tg (Nat.mod_lt _ (by omega))];rw[if_pos (by simp;omega),bs,if_neg (by decide),bs,e2];exact h1
   ·rw[h4,Gs h];simp
theorem OV{n:Nat}(h:n≤4611686018427387):Hd (n:Int)=some (Lib.decDigits n):=by
 obtain⟨m,t,h1,h2,h3,h4⟩:=Aat n [] h (by simp;omega);unfold Hd;dsimp only;rw[h1,bs];dsimp only;rw[Tg h2];simp only[List.length_nil,Nat.zero_add]at h3;rw[if_pos (by simp;omega),h4];simp
theorem Zm{x y:List UInt8}(hx:x.length≤1000000)(hy:y.length≤1000000){β:Type}(K:List UInt8→Option β):(if x.length+y.length≤4611686018427387904 then K (x++y)else none)=K (x++y):=if_pos (by omega)
theorem UR{c:Int}(hc:c.natAbs≤20000000000000000):Hc c=some (if c.natAbs≤BH then GU c else []):=by
 unfold Hc;dsimp only;simp only[gPi,gSS,gPb,gPm,gPs,gM,gM2,A9,gOr,AA,AG,gAA,gAO,gOA,gOO,A6,A8,AB,AE,A7,AD,gId];simp only[AL,AM,AN,AO,AP,AQ,AR,AS,gId,AV,gMb,gMm,gBm,gBb,bs,ms];rw[Ww,bs];by_cases hf:c.natAbs≤BH
 ·have hm:c.natAbs≤1125899906842624:=hf;rw[Al hf,if_pos hf];simp only[Bool.not_true,Ag,if_false]
  have e0:(if decide (c<0)=true then some (i64.wrap (0-c),([45]:List UInt8),())else some (c,[],()))=some ((c.natAbs:Int),(if c<0 then [45]else []),()):=by
   by_cases h:c<0
   ·rw[Al h,if_pos rfl,if_pos h,A3 (by omega) (by omega)]
    congr 2;omega
   ·rw[Ak h,if_neg (by decide),if_neg h]
    congr 2;omega
  rw[e0,bs,if_neg (by decide),bs];dsimp only;have e1:(c.natAbs:Int).tmod 100=((c.natAbs % 100:Nat):Int):=by rw[Int.tmod_eq_emod_of_nonneg (by omega)];omega
  have e2:i64.wrap ((c.natAbs:Int).tdiv 100)=((c.natAbs/100:Nat):Int):=by rw[Int.tdiv_eq_ediv_of_nonneg (by omega),A3 (by omega) (by omega)];omega
  have e3:i64.wrap (((c.natAbs % 100:Nat):Int).tdiv 10)=((c.natAbs/10 % 10:Nat):Int):=by rw[Int.tdiv_eq_ediv_of_nonneg (by omega),A3 (by omega) (by omega)];omega
  have e4:((c.natAbs % 100:Nat):Int).tmod 10=((c.natAbs % 10:Nat):Int):=by rw[Int.tmod_eq_emod_of_nonneg (by omega)];omega
  rw[if_neg (by decide),bs,e1,e2,OV (by omega),bs];have hl:(Lib.decDigits (c.natAbs/100)).length≤20:=Qx (by omega) (by omega);have hs:(if c<0 then([45]:List UInt8)else []).length≤1:=by split<;>simp
  rw[Zm (by omega) (by omega) (fun x=>if x.length+([46]:List UInt8).length≤4611686018427387904 then _ else _)];rw[if_pos (by simp only[List.length_append];simp only[List.length_singleton];omega)];rw[if_neg (by decide),bs,e3,OV (by omega),bs,EE (Nat.mod_lt _ (by omega))];rw[if_pos (by simp only[List.length_append,List.length_singleton];omega)];rw[if_neg (by decide),bs,e4,OV (by omega),bs,EE (Nat.mod_lt _ (by omega))];rw[if_pos (by simp only[List.length_append,List.length_singleton];omega)];simp[GU,JE]
 ·rw[Ak hf,if_neg hf];rfl
abbrev CA:=Nat×Nat×Bool
def CN(a:CA)(x:UInt8):CA⊕((List UInt8×Int×Bool×Unit)⊕(Int×Int)):=
 if a.1=0∧x=45 then .inl (a.1+1,a.2.1,true)
 else if x=46 then .inl (a.1+1,a.2.1,a.2.2)
 else if dgt x=true∧a.2.1≤BH then .inl (a.1+1,a.2.1*10+(x.toNat-48),a.2.2)else .inr (.inr (0,3))
theorem US{s:List UInt8}(h:s.length≤1000000):iter Il (s,0,false,(s.length:Int),0,())=some (Bg CN (fun a=>.inl (s,(a.2.1:Int),a.2.2,())) (0,0,false) s):=by
 have e:=Eu (b:=Il) (A:=CA) (fun i a=>(s,(a.2.1:Int),a.2.2,(s.length:Int),(i:Int),())) CN (fun a=>.inl (s,(a.2.1:Int),a.2.2,())) (fun i a=>a.1=i∧a.2.1≤BH*10+9) s (a:=(0,0,false)) ⟨rfl,by simp⟩ ?_ ?_ ?_
 ·exact e
 ·rintro i x ⟨j,c,bl⟩ hx ⟨rfl,hc⟩
  dsimp only at hc⊢;have hm:BH=1125899906842624:=rfl;have hi:=(Ae.1 hx).1;have ws:=Bu (show j<9223372036854775807 by omega);unfold Il;dsimp only;simp only[gPi,gSS,gPb,gPm,gPs,gM,gM2,A9,gOr,AA,AG,gAA,gAO,gOA,gOO,A6,A8,AB,AE,A7,AD,gId];simp only[AL,AM,AN,AO,AP,AQ,AR,AS,gId,AV,gMb,gMm,gBm,gBb,bs,ms];simp only[BP hx,if_true,DL hx,bs]
  have e0:(if((j:Int)==0)=true then some ((x.toNat:Int)==45)else some false)=some (decide (j=0∧x=45)):=by
   by_cases h0:j=0
   ·subst h0;rw[show(((0:Nat):Int)==0)=true from rfl,if_pos rfl];by_cases h1:x=45
    ·subst h1;rfl
    ·have:¬(x.toNat:Int)=45:=fun hh=>h1 (UInt8.toNat_inj.1 (by show x.toNat=45;omega));simp[h1,this]
   ·have:¬(j:Int)=0:=by omega
    simp[h0,this]
  have e1:((x.toNat:Int)==46)=decide (x=46):=by
   by_cases h1:x=46
   ·subst h1;rfl
   ·have:¬(x.toNat:Int)=46:=fun hh=>h1 (UInt8.toNat_inj.1 (by show x.toNat=46;omega));simp[h1,this]
  have e2:(if decide ((x.toNat:Int)<48)=true then some true else some (decide ((x.toNat:Int)>57)))=some (!dgt x):=by
   unfold dgt;cases decide ((x.toNat:Int)<48)<;>cases decide ((x.toNat:Int)>57)<;>rfl
  simp only[e0,e1,e2,bs];unfold CN;by_cases q1:j=0∧x=45
  ·have r1:(j=0∧x=45)=True:=eq_true q1;simp only[r1,decide_true,if_true,bs,ws,EU]
  ·have r1:(j=0∧x=45)=False:=eq_false q1;by_cases q2:x=46
   ·have r2:(x=46)=True:=eq_true q2;simp only[r1,r2,decide_true,decide_false,Ag,if_false,if_true,bs,ws,EU]
   ·have r2:(x=46)=False:=eq_false q2;by_cases q3:dgt x=true
    ·have hd:=Cu.1 q3;by_cases q4:c≤BH
     ·have c4:decide ((c:Int)>1125899906842624)=false:=Ak (by omega);have q:(dgt x=true∧c≤BH)=True:=eq_true ⟨q3,q4⟩;have w1:u8.wrap ((x.toNat:Int)-48)=((x.toNat-48:Nat):Int):=by rw[IntKind.wrap_u8];omega
      have w2:i64.wrap ((x.toNat-48:Nat):Int)=((x.toNat-48:Nat):Int):=A3 (by omega) (by omega);have w3:i64.wrap (10*(c:Int))=10*(c:Int):=A3 (by omega) (by omega);have w4:i64.wrap (10*(c:Int)+((x.toNat-48:Nat):Int))=((c*10+(x.toNat-48):Nat):Int):=by rw[A3 (by omega) (by omega)];omega
      simp only[r1,r2,decide_false,q3,Bool.not_true,Ag,if_false,if_true,bs,c4,w1,w2,w3,w4,ws,EU,q,q4,and_self]
     ·have c4:decide ((c:Int)>1125899906842624)=true:=Al (by omega);simp only[r1,r2,decide_false,q3,Bool.not_true,Ag,if_false,if_true,bs,c4,EU,q4,and_false]
    ·have q3':dgt x=false:=by simpa using q3
     simp only[r1,r2,decide_false,q3',Bool.not_false,if_true,Ag,if_false,bs,EU,false_and]
 ·rintro i x ⟨j,c,bl⟩ a' hx ⟨rfl,hc⟩ hst
  dsimp only at hc;unfold CN at hst;dsimp only at hst;split at hst
  ·cases hst;exact⟨rfl,hc⟩
  ·split at hst
   ·cases hst;exact⟨rfl,hc⟩
   ·split at hst
    ·rename_i hq;cases hst;have hd:=Cu.1 hq.1;refine⟨rfl, ?_⟩;have:=hq.2;dsimp only;omega
    ·cases hst
 ·rintro⟨j,c,bl⟩ ⟨hj,hc⟩
  unfold Il;dsimp only;simp only[Cb,Ag,if_false]
theorem MI(fin:CA→((List UInt8×Int×Bool×Unit)⊕(Int×Int))):∀(D X:List UInt8) (j c:Nat) (bl:Bool),D.all dgt=true→Ay c D≤BH→Bg CN fin (j,c,bl) (D++X)=Bg CN fin (j+D.length,Ay c D,bl) X
 | [],X,j,c,bl,_,_=>rfl
 |d::D,X,j,c,bl,h,hn=>by
  simp only[List.all_cons,Af]at h;have hd:=Cu.1 h.1;have e:Ay c (d::D)=Ay (c*10+(d.toNat-48)) D:=rfl;have h1:=GA D (c*10+(d.toNat-48));rw[e]at hn⊢;have n1:¬d=45:=by intro hh;subst hh;exact absurd hd.1 (by decide)
  have n2:¬d=46:=by intro hh;subst hh;exact absurd hd.1 (by decide)
  rw[List.cons_append,Bg,CN,if_neg (fun hh=>n1 hh.2),if_neg n2,if_pos ⟨h.1,by show c≤BH;omega⟩];dsimp only;rw[MI fin D X (j+1) _ bl h.2 hn]
  congr 2
  simp only[List.length_cons];omega
theorem PO(fin:CA→((List UInt8×Int×Bool×Unit)⊕(Int×Int))){W:List UInt8}{a b:UInt8}(hW:BB W=true)(ha:dgt a=true)(hb:dgt b=true)(hn:Bp W a b≤BH)(j:Nat)(bl:Bool):
  ∃k,Bg CN fin (j,0,bl) (W++ [46,a,b])=fin (k,Bp W a b,bl):=by
 have hv:Ay 0 W≤BH:=by rw[F1]at hn;omega
 have e:Bp W a b=Ay (Ay 0 W) [a,b]:=by rw[F1];rfl
 have hpos:∀x:UInt8,dgt x=true→¬x=45∧¬x=46:=by
  intro x hx;have:=Cu.1 hx;constructor<;>(intro hh;subst hh;exact absurd this.1 (by decide))
 refine⟨j+W.length+1+ [a,b].length, ?_⟩;rw[MI fin W _ j 0 bl (MD hW) hv,Bg,CN,if_neg (fun hh=>absurd hh.2 (by decide)),if_pos rfl];dsimp only;have:=MI fin [a,b] [] (j+W.length+1) (Ay 0 W) bl (by simp[ha,hb]) (by rw[←e];exact hn);rw[List.append_nil]at this;rw[this,←e];rfl
theorem UT{s:List UInt8}{c:Int}(hc:c.natAbs≤20000000000000000):(if(s== [])=true then some true else(Hc c).bind fun v=>some (!v==s))=some (decide (¬IsC s c)):=by
 rw[UR hc,bs];by_cases h0:s= []
 ·subst h0
  have:¬IsC [] c:=by
   intro h;obtain⟨W,a,b,_,_,_,_,_,e⟩:=IB h;have:=congrArg List.length e;simp at this
  simp[this]
 ·have e1:(s== [])=false:=by simpa using h0
  rw[e1];simp only[Ag,if_false,Ac];by_cases hf:c.natAbs≤BH
  ·rw[if_pos hf];by_cases ht:GU c=s
   ·have:IsC s c:=⟨hf,ht⟩;simp[this,ht]
   ·have:¬IsC s c:=fun h=>ht h.2;simp[this,ht]
  ·rw[if_neg hf];have:¬IsC s c:=fun h=>hf h.1;have h1:¬ []=s:=fun h=>h0 h.symm;simp[this,h1,h0]
theorem UQ{s:List UInt8}(h:s.length≤1000000):(∃c,IsC s c∧Gk s=some (c,0))∨((∀c,¬IsC s c)∧Gk s=some (0,3)):=by
 have hs:=US h
 have hP:∀{o:(List UInt8×Int×Bool×Unit)⊕(Int×Int)},Bg CN (fun a=>.inl (s,(a.2.1:Int),a.2.2,())) (0,0,false) s=o→Gk s=(match o with
   |Sum.inl p190=>(if p190.2.2.1=true then some (p190.1,i64.wrap (0-p190.2.1),())else some (p190.1,p190.2.1,())).bind fun o=>
     (if(o.1== [])=true then some true else(Hc o.2.1).bind fun v=>some (!v==o.1)).bind fun x54=>if x54=true then some (0,3)else some (o.2.1,0)
   |Sum.inr q191=>some q191):=by
  intro o ho;unfold Gk;dsimp only;simp only[gPi,gSS,gPb,gPm,gPs,gM,gM2,A9,gOr,AA,AG,gAA,gAO,gOA,gOO,A6,A8,AB,AE,A7,AD,gId];simp only[AL,AM,AN,AO,AP,AQ,AR,AS,gId,AV,gMb,gMm,gBm,gBb,bs,ms];rw[hs,ho,bs];rfl
 have fin:∀{c:Nat} {bl:Bool},c≤BH*10+9→Bg CN (fun a=>.inl (s,(a.2.1:Int),a.2.2,())) (0,0,false) s=.inl (s,(c:Int),bl,())→Gk s=some (if IsC s (if bl then-(c:Int)else(c:Int))then((if bl then-(c:Int)else(c:Int)),0)else(0,3)):=by
  intro c bl hc ho;have hm:BH=1125899906842624:=rfl;rw[hP ho];dsimp only
  have e0:(if bl=true then some (s,i64.wrap (0-(c:Int)),())else some (s,(c:Int),()))=some (s,(if bl then-(c:Int)else(c:Int)),()):=by
   cases bl
   ·rfl
   ·rw[if_pos rfl,A3 (by omega) (by omega)]
    congr 2
    simp
  rw[e0,bs];dsimp only;have hb:(if bl then-(c:Int)else(c:Int)).natAbs≤20000000000000000:=by cases bl<;>simp<;>omega
  rw[UT hb,bs];by_cases hI:IsC s (if bl then-(c:Int)else(c:Int))
  ·rw[if_pos hI,Ak (fun hh=>hh hI),if_neg (by decide)]
  ·rw[if_neg hI,Al hI,if_pos rfl]
 by_cases hI:∃c,IsC s c
 ·left;obtain⟨c,hc⟩:=hI;refine⟨c,hc, ?_⟩;obtain⟨W,a,b,hW,ha,hb,hn,hle,e⟩:=IB hc;by_cases h0:c<0
  ·rw[if_pos h0]at e;have e':s=45::(W++ [46,a,b]):=e;obtain⟨k,hk⟩:=PO (fun a=>.inl (s,(a.2.1:Int),a.2.2,())) hW ha hb hle 1 true
   have hf:Bg CN (fun a=>.inl (s,(a.2.1:Int),a.2.2,())) (0,0,false) s=.inl (s,(Bp W a b:Int),true,()):=by
    conv=>lhs;rw[e']
    rw[Bg,CN,if_pos ⟨rfl,rfl⟩];dsimp only;rw[←e'];exact hk
   rw[fin (by omega) hf];have:(if true=true then-(Bp W a b:Int)else(Bp W a b:Int))=c:=by rw[if_pos rfl];omega
   rw[this,if_pos hc]
  ·rw[if_neg h0,List.nil_append]at e;obtain⟨k,hk⟩:=PO (fun a=>.inl (s,(a.2.1:Int),a.2.2,())) hW ha hb hle 0 false
   have hf:Bg CN (fun a=>.inl (s,(a.2.1:Int),a.2.2,())) (0,0,false) s=.inl (s,(Bp W a b:Int),false,()):=by
    conv=>lhs;rw[e]
    rw[←e];rw[←e]at hk;exact hk
   rw[fin (by omega) hf];have:(if false=true then-(Bp W a b:Int)else(Bp W a b:Int))=c:=by rw[if_neg (by decide)];omega
   rw[this,if_pos hc]
 ·right;have hno:∀c,¬IsC s c:=fun c hc=>hI ⟨c,hc⟩;refine⟨hno, ?_⟩
  have key:∀(l:List UInt8) (a:CA),a.2.1≤BH*10+9→(∃c bl,c≤BH*10+9∧Bg CN (fun a=>.inl (s,(a.2.1:Int),a.2.2,())) a l=.inl (s,(c:Int),bl,()))∨Bg CN (fun a=>.inl (s,(a.2.1:Int),a.2.2,())) a l=.inr (0,3):=by
   intro l
   induction l with
   |nil=>intro a ha;exact .inl ⟨a.2.1,a.2.2,ha,rfl⟩
   |cons x l ih=>
    intro a ha;rw[Bg];unfold CN;split<;>rename_i q1
    ·split at q1
     ·cases q1;exact ih _ ha
     ·split at q1
      ·cases q1;exact ih _ ha
      ·split at q1
       ·rename_i q2;cases q1;have hd:=Cu.1 q2.1;have:=q2.2;exact ih _ (by dsimp only;omega)
       ·cases q1
    ·split at q1
     ·cases q1
     ·split at q1
      ·cases q1
      ·split at q1
       ·cases q1
       ·cases q1;exact .inr rfl
  rcases key s (0,0,false) (by simp)with⟨c,bl,hc,ho⟩|ho
  ·rw[fin hc ho,if_neg (hno _)]
  ·rw[hP ho]
theorem Yt(r:List UInt8)(neg:Bool)(h:r.length≤17)(h4:4≤r.length){W:List UInt8}{p a b:UInt8}(hr:r=W++ [p,a,b]):
  iter D7 (r,neg,0,0,())=some (if W.all dgt=true∧dgt a=true∧dgt b=true then .inl (r,neg,(Bp W a b:Int),())else .inr (0,false)):=by
 have hlen:r.length=W.length+3:=by rw[hr];simp
 have w3:i64.wrap ((r.length:Int)-3)=(W.length:Int):=by rw[A3 (by omega) (by omega)];omega
 have byte:∀{i n:Nat} {x:UInt8},r[i]? =some x→i≠W.length→n≤1000000000000000000-9→n*10≤4611686018427387904→
   D7 (r,neg,(n:Int),(i:Int),())=some (if dgt x=true then .inl (r,neg,((n*10+(x.toNat-48):Nat):Int),((i+1:Nat):Int),())else .inr (.inr (0,false))):=by
  intro i n x hx hi hn hn';have hil:=(Ae.1 hx).1;have ws:=Bu (show i<9223372036854775807 by omega)
  have c0:((i:Int)==(W.length:Int))=false:=by
   have:¬(i:Int)=(W.length:Int):=by omega
   simpa using this
  have e2:(if decide ((x.toNat:Int)<48)=true then some true else some (decide ((x.toNat:Int)>57)))=some (!dgt x):=by
   unfold dgt;cases decide ((x.toNat:Int)<48)<;>cases decide ((x.toNat:Int)>57)<;>rfl
  unfold D7;dsimp only;simp only[gPi,gSS,gPb,gPm,gPs,gM,gM2,A9,gOr,AA,AG,gAA,gAO,gOA,gOO,A6,A8,AB,AE,A7,AD,gId];simp only[AL,AM,AN,AO,AP,AQ,AR,AS,gId,AV,gMb,gMm,gBm,gBb,bs,ms];simp only[BP hx,if_true,w3,c0,Ag,if_false,DL hx,bs,e2];by_cases hd:dgt x=true
  ·have hd':=Cu.1 hd;have w1:u8.wrap ((x.toNat:Int)-48)=((x.toNat-48:Nat):Int):=by rw[IntKind.wrap_u8];omega
   have w2:i64.wrap ((x.toNat-48:Nat):Int)=((x.toNat-48:Nat):Int):=A3 (by omega) (by omega);have w4:i64.wrap (10*(n:Int))=10*(n:Int):=A3 (by omega) (by omega);have w5:i64.wrap (10*(n:Int)+((x.toNat-48:Nat):Int))=((n*10+(x.toNat-48):Nat):Int):=by rw[A3 (by omega) (by omega)];omega
   simp only[hd,Bool.not_true,Ag,if_false,if_true,bs,w1,w2,w4,w5,ws]
  ·have hd':dgt x=false:=by simpa using hd
   simp only[hd',Bool.not_false,if_true,bs,Ag,if_false]
 have BL:∀{l:List UInt8} {n m k:Nat},l.all dgt=true→n<10^m→m+l.length≤k→Ay n l<10^k:=by
  intro l
  induction l with
  |nil=>intro n m k _ hn hk;exact Nat.lt_of_lt_of_le hn (Nat.pow_le_pow_right (by omega) (by simpa using hk))
  |cons d l ih=>
   intro n m k hd hn hk;simp only[List.all_cons,Af]at hd;have hd':=Cu.1 hd.1;have e:Ay n (d::l)=Ay (n*10+(d.toNat-48)) l:=rfl;rw[e];refine ih (m:=m+1) hd.2 ?_ (by simp at hk;omega);rw[Nat.pow_succ];omega
 have go:∀(t pre:List UInt8) (n:Nat),W=pre++t→pre.all dgt=true→n=Ay 0 pre→(t.all dgt=true→iter D7 (r,neg,(n:Int),(pre.length:Int),())=iter D7 (r,neg,(Ay 0 W:Int),(W.length:Int),()))∧(t.all dgt=false→iter D7 (r,neg,(n:Int),(pre.length:Int),())=some (.inr (0,false))):=by
  intro t
  induction t with
  |nil=>
   intro pre n hW hp hn;rw[List.append_nil]at hW;subst hW;subst hn;exact⟨fun _=>rfl,fun hh=>by cases hh⟩
  |cons x t ih=>
   intro pre n hW hp hn;have hx:r[pre.length]? =some x:=by rw[hr,hW];simp
   have hpl:pre.length+t.length+1=W.length:=by rw[hW];simp;omega
   have hnb:n<10^14:=by rw[hn];exact BL (m:=0) hp (by decide) (by omega)
   have hb:=byte (n:=n) hx (by omega) (by omega) (by omega);have ih':=ih (pre++ [x]) (n*10+(x.toNat-48)) (by rw[hW];simp);constructor
   ·intro hd;simp only[List.all_cons,Af]at hd;rw[hd.1,if_pos rfl]at hb;have:=(ih' (by simp[hp,hd.1]) (by rw[hn,Ja])).1 hd.2;rw[List.length_append]at this;rw[BV,hb];exact this
   ·intro hd;by_cases hd1:dgt x=true
    ·rw[hd1,if_pos rfl]at hb;have h2:t.all dgt=false:=by simpa[hd1]using hd
     have:=(ih' (by simp[hp,hd1]) (by rw[hn,Ja])).2 h2;rw[List.length_append]at this;rw[BV,hb];exact this
    ·rw[if_neg hd1]at hb;rw[BV,hb];rfl
 obtain⟨g1,g2⟩:=go W [] 0 rfl rfl rfl;rw[show(([]:List UInt8).length:Int)=0 from rfl,show((0:Nat):Int)=0 from rfl]at g1 g2
 cases hd:W.all dgt with
 |false=>
  rw[g2 hd,if_neg (fun hh=>absurd hh.1 (by decide))]
 |true=>
  rw[g1 hd];have hnb:Ay 0 W<10^14:=BL (m:=0) hd (by decide) (by omega);have hx:r[W.length]? =some p:=by rw[hr];simp
  have hp:D7 (r,neg,(Ay 0 W:Int),(W.length:Int),())=some (.inl (r,neg,(Ay 0 W:Int),((W.length+1:Nat):Int),())):=by
   have ws:=Bu (show W.length<9223372036854775807 by omega);unfold D7;dsimp only;simp only[gPi,gSS,gPb,gPm,gPs,gM,gM2,A9,gOr,AA,AG,gAA,gAO,gOA,gOO,A6,A8,AB,AE,A7,AD,gId];simp only[AL,AM,AN,AO,AP,AQ,AR,AS,gId,AV,gMb,gMm,gBm,gBb,bs,ms];have c0:((W.length:Int)==(W.length:Int))=true:=by simp
   simp only[BP hx,if_true,w3,c0,bs,ws]
  have ha:r[W.length+1]? =some a:=by rw[hr,List.getElem?_append_right (by omega),show W.length+1-W.length=1 by omega];rfl
  have hb:r[W.length+1+1]? =some b:=by rw[hr,List.getElem?_append_right (by omega),show W.length+1+1-W.length=2 by omega];rfl
  rw[BV,hp];show iter D7 (r,neg,(Ay 0 W:Int),((W.length+1:Nat):Int),())=_;rw[BV,byte ha (by omega) (by omega) (by omega)];by_cases d1:dgt a=true
  ·have d1':=Cu.1 d1;rw[if_pos d1];show iter D7 (r,neg,((Ay 0 W*10+(a.toNat-48):Nat):Int),((W.length+1+1:Nat):Int),())=_;rw[BV,byte hb (by omega) (by omega) (by omega)];by_cases d2:dgt b=true
   ·rw[if_pos d2,if_pos ⟨rfl,d1,d2⟩];show iter D7 (r,neg,(((Ay 0 W*10+(a.toNat-48))*10+(b.toNat-48):Nat):Int),((W.length+1+1+1:Nat):Int),())=_;rw[←F1,show W.length+1+1+1=r.length by omega];rw[BV];unfold D7;dsimp only;rw[Cb];rfl
   ·rw[if_neg d2,if_neg (fun hh=>d2 hh.2.2)];rfl
  ·rw[if_neg d1,if_neg (fun hh=>d1 hh.2.1)];rfl
def sgn(neg:Bool)(r:List UInt8):List UInt8:=if neg=true then 45::r else r
def sgv(neg:Bool)(n:Nat):Int:=if neg=true then-(n:Int)else(n:Int)
theorem IC{r:List UInt8}{neg:Bool}{c:Int}(hn:neg=false→r.head? ≠some 45)(h:IsC (sgn neg r) c):
  ∃W a b,r=W++ [46,a,b]∧BB W=true∧dgt a=true∧dgt b=true∧Bp W a b≤BH∧(neg=true→Bp W a b≠0)∧c=(sgv neg (Bp W a b))∧4≤r.length∧r.length≤17:=by
 obtain⟨W,a,b,hW,ha,hb,hv,hle,e⟩:=IB h;have hm:BH=1125899906842624:=rfl
 have hl:W.length≤14:=by
  have:Ay 0 W<10^14:=by rw[F1]at hle;omega
  rw[←Q0 hW];exact Qx (by omega) this
 have hl0:0<W.length:=List.length_pos_iff.2 (PL hW)
 have lens:r=W++ [46,a,b]→4≤r.length∧r.length≤17:=by
  intro hr;rw[hr];simp;omega
 unfold sgn at e;unfold sgv
 cases neg with
 |true=>
  rw[if_pos rfl]at e;by_cases hc:c<0
  ·rw[if_pos hc]at e;have hr:r=W++ [46,a,b]:=by simpa using e
   exact⟨W,a,b,hr,hW,ha,hb,hle,fun _=>by omega,by rw[if_pos rfl];omega,lens hr⟩
  ·rw[if_neg hc,List.nil_append]at e;exact absurd (by rw[←e];rfl) (ME (X:= [46,a,b]) hW)
 |false=>
  rw[if_neg (by decide)]at e;by_cases hc:c<0
  ·rw[if_pos hc]at e;exact absurd (by rw[e];rfl) (hn rfl)
  ·rw[if_neg hc,List.nil_append]at e;exact⟨W,a,b,e,hW,ha,hb,hle,fun hh=>(by cases hh),by rw[if_neg (by decide)];omega,lens e⟩
theorem Rr{r:List UInt8}{neg:Bool}{W:List UInt8}{a b:UInt8}(hr:r=W++ [46,a,b])(hW:BB W=true)(ha:dgt a=true)(hb:dgt b=true)(hle:Bp W a b≤BH)(h0:neg=true→Bp W a b≠0):
  IsC (sgn neg r) (sgv neg (Bp W a b)):=by
 unfold sgn sgv
 cases neg with
 |true=>rw[if_pos rfl,if_pos rfl,hr];exact Xa hW ha hb hle (h0 rfl)
 |false=>rw[if_neg (by decide),if_neg (by decide),hr];exact Xb hW ha hb hle
theorem ZA{r:List UInt8}(h:3≤r.length):∃W p a b,r=W++ [p,a,b]:=by
 have h1:(r.drop (r.length-3)).length=3:=by simp;omega
 match hd:r.drop (r.length-3),h1 with
 | [p,a,b],_=>exact⟨r.take (r.length-3),p,a,b,by rw[←hd,List.take_append_drop]⟩
theorem S8{r:List UInt8}{neg:Bool}(hn:neg=false→r.head? ≠some 45)(hl:r.length≤1000000){K:Option (Int×Bool)}(hK:K=((if decide ((r.length:Int)<4)=true then some true else some (decide ((r.length:Int)>17))).bind fun x25=>
     (if x25=true then some true else(sAt r (i64.wrap ((r.length:Int)-3))).bind fun v=>some (v !=46)).bind fun x33=>
      if x33=true then some (0,false)else
       (iter D7 (r,neg,0,0,())).bind fun o=>
        match o with
        |Sum.inl p234=>
         (sAt p234.1 0).bind fun x64=>
          (if(x64==48)=true then some (decide ((p234.1.length:Int)>4))else some false).bind fun x70=>
           (if x70=true then some true else some (decide (p234.2.2.1>1125899906842624))).bind fun x74=>
            (if x74=true then some true else if p234.2.1=true then some (p234.2.2.1==0)else some false).bind fun x81=>
             if x81=true then some (0,false)
             else if p234.2.1=true then some (i64.wrap (0-p234.2.2.1),true)else some (p234.2.2.1,true)
        |Sum.inr q235=>some q235)):
  (∃c,IsC (sgn neg r) c∧K=some (c,true))∨((∀c,¬IsC (sgn neg r) c)∧K=some (0,false)):=by
 have hm:BH=1125899906842624:=rfl;subst hK;by_cases h4:r.length<4
 ·refine .inr ⟨fun c hc=> ?_, ?_⟩
  ·obtain⟨_,_,_,_,_,_,_,_,_,_,h,_⟩:=IC hn hc;omega
  ·rw[Al (show(r.length:Int)<4 by omega)];rfl
 ·rw[Ak (show ¬(r.length:Int)<4 by omega)];by_cases h17:17<r.length
  ·refine .inr ⟨fun c hc=> ?_, ?_⟩
   ·obtain⟨_,_,_,_,_,_,_,_,_,_,_,h⟩:=IC hn hc;omega
   ·rw[Al (show(r.length:Int)>17 by omega)];rfl
  ·rw[Ak (show ¬(r.length:Int)>17 by omega)];simp only[Ag,if_false,bs];obtain⟨W,p,a,b,hr⟩:=ZA (r:=r) (by omega);have hlen:r.length=W.length+3:=by rw[hr];simp
   have w3:i64.wrap ((r.length:Int)-3)=(W.length:Int):=by rw[A3 (by omega) (by omega)];omega
   have hx:r[W.length]? =some p:=by rw[hr];simp
   rw[w3,DL hx,bs];by_cases hp:p=46
   ·subst hp;rw[show(((46:UInt8).toNat:Int) !=46)=false from rfl,bs];simp only[Ag,if_false];rw[Yt r neg (by omega) (by omega) hr];by_cases hd:W.all dgt=true∧dgt a=true∧dgt b=true
    ·rw[if_pos hd,bs];dsimp only;obtain⟨hd1,hd2,hd3⟩:=hd
     cases W with
     |nil=>simp at hlen;omega
     |cons w W=>
      have hx0:sAt r 0=some (w.toNat:Int):=DL (i:=0) (by rw[hr];rfl);rw[hx0,bs]
      have hc0:(if((w.toNat:Int)==48)=true then some (decide ((r.length:Int)>4))else some false)=some (Cv (w::W)):=by
       unfold Cv;by_cases h:w=48
       ·subst h;rw[show(((48:UInt8).toNat:Int)==48)=true from rfl,if_pos rfl];have e1:((48::W).head? ==some (48:UInt8))=true:=rfl;rw[e1,Bool.and_true]
        congr 1
        simp only[List.length_cons]at hlen⊢;apply decide_eq_decide.2;omega
       ·have h1:((w.toNat:Int)==48)=false:=by
         have:¬(w.toNat:Int)=48:=fun h'=>h (UInt8.toNat_inj.1 (by show w.toNat=48;omega));simpa using this
        have e1:((w::W).head? ==some (48:UInt8))=false:=by simpa using h
        rw[h1,e1,Bool.and_false];rfl
      rw[hc0,bs];have hcan:BB (w::W)= !Cv (w::W):=by rw[Ha _ hd1];rfl
      have other:∀c,IsC (sgn neg r) c→Cv (w::W)=false∧Bp (w::W) a b≤BH∧(neg=true→Bp (w::W) a b≠0):=by
       intro c hc;obtain⟨V,a',b',e,hV,_,_,h2,h3,_,_⟩:=IC hn hc;rw[hr]at e;obtain⟨e1,e2⟩:=List.append_inj' e rfl;simp only[List.cons.injEq,and_true,true_and]at e2;obtain⟨rfl,rfl⟩:=e2;subst e1;rw[hcan]at hV;exact⟨by simpa using hV,h2,h3⟩
      cases hno:Cv (w::W)with
      |true=>
       refine .inr ⟨fun c hc=> ?_,rfl⟩;have:=(other c hc).1;rw[hno]at this;cases this
      |false=>
       simp only[Ag,if_false,bs];by_cases hbig:Bp (w::W) a b≤BH
       ·rw[Ak (show ¬(Bp (w::W) a b:Int)>1125899906842624 by omega)];simp only[Ag,if_false]
        cases neg with
        |true=>
         simp only[if_true,bs];by_cases h0:Bp (w::W) a b=0
         ·refine .inr ⟨fun c hc=>(other c hc).2.2 rfl h0, ?_⟩;rw[h0];rfl
         ·refine .inl ⟨_,Rr (neg:=true) hr (by rw[hcan,hno];rfl) hd2 hd3 hbig (fun _=>h0), ?_⟩
          have e0:((Bp (w::W) a b:Int)==0)=false:=by
           have:¬(Bp (w::W) a b:Int)=0:=by omega
           simpa using this
          rw[e0,if_neg (by decide),A3 (by omega) (by omega)];simp[sgv]
        |false=>
         refine .inl ⟨_,Rr (neg:=false) hr (by rw[hcan,hno];rfl) hd2 hd3 hbig (fun hh=>(by cases hh)),rfl⟩
       ·rw[Al (show(Bp (w::W) a b:Int)>1125899906842624 by omega)];exact .inr ⟨fun c hc=>hbig (other c hc).2.1,rfl⟩
    ·rw[if_neg hd];refine .inr ⟨fun c hc=> ?_,rfl⟩;obtain⟨V,a',b',e,hV,h1,h2,_⟩:=IC hn hc;rw[hr]at e;obtain⟨e1,e2⟩:=List.append_inj' e rfl;simp only[List.cons.injEq,and_true,true_and]at e2;obtain⟨rfl,rfl⟩:=e2;subst e1;exact hd ⟨MD hV,h1,h2⟩
   ·have hb:((p.toNat:Int) !=46)=true:=by
     have:¬(p.toNat:Int)=46:=fun h'=>hp (UInt8.toNat_inj.1 (by show p.toNat=46;omega));simpa using this
    rw[hb];refine .inr ⟨fun c hc=> ?_,rfl⟩;obtain⟨V,a',b',e,_⟩:=IC hn hc;rw[hr]at e;obtain⟨e1,e2⟩:=List.append_inj' e rfl;simp only[List.cons.injEq]at e2;exact hp e2.1
theorem S9{s:List UInt8}(h:s.length≤1000000):(∃c,IsC s c∧Jl s=some (c,true))∨((∀c,¬IsC s c)∧Jl s=some (0,false)):=by
 by_cases h45:s.head? =some 45
 ·cases s with
  |nil=>cases h45
  |cons x r=>
   simp only[List.head?_cons,Ac]at h45;subst h45;refine S8 (r:=r) (neg:=true) (fun hh=>by cases hh) (by simp at h;omega) ?_;unfold Jl;dsimp only;simp only[gPi,gSS,gPb,gPm,gPs,gM,gM2,A9,gOr,AA,AG,gAA,gAO,gOA,gOO,A6,A8,AB,AE,A7,AD,gId];simp only[AL,AM,AN,AO,AP,AQ,AR,AS,gId,AV,gMb,gMm,gBm,gBb,bs,ms];have e1:decide (((45::r:List UInt8).length:Int)>0)=true:=Al (by simp);have e2:sAt (45::r) 0=some 45:=DL (i:=0) (b:=45) rfl
   have e3:Be (45::r) 1 ((45::r:List UInt8).length:Int)=some r:=by
    rw[show(1:Int)=((1:Nat):Int)from rfl,CU (by simp) (Nat.le_refl _)];simp
   simp only[e1,if_true,e2,bs,show((45:Int)==45)=true from rfl,e3];rfl
 ·refine S8 (r:=s) (neg:=false) (fun _=>h45) h ?_;unfold Jl;dsimp only;simp only[gPi,gSS,gPb,gPm,gPs,gM,gM2,A9,gOr,AA,AG,gAA,gAO,gOA,gOO,A6,A8,AB,AE,A7,AD,gId];simp only[AL,AM,AN,AO,AP,AQ,AR,AS,gId,AV,gMb,gMm,gBm,gBb,bs,ms]
  have e1:(if decide ((s.length:Int)>0)=true then(sAt s 0).bind fun v=>some (v==45)else some false)=some false:=by
   cases s with
   |nil=>rfl
   |cons x r=>
    have e2:sAt (x::r) 0=some (x.toNat:Int):=DL (i:=0) rfl;rw[Al (show((x::r:List UInt8).length:Int)>0 by simp),if_pos rfl,e2,bs];have:¬(x.toNat:Int)=45:=fun h'=>h45 (by rw[List.head?_cons,UInt8.toNat_inj.1 (show x.toNat=(45:UInt8).toNat by show x.toNat=45;omega)]);simp[this]
  simp only[e1,bs,Ag,if_false];rfl
theorem IE{S T:Type}{b:S→Option (S⊕T)}{s s':S}(h:b s=some (.inl s')):iter b s=iter b s':=by rw[BV,h];rfl
theorem G3{S T:Type}{b:S→Option (S⊕T)}{s:S}{t:T}(h:b s=some (.inr t)):iter b s=some t:=by rw[BV,h];rfl
def dig(b:UInt8):Bool:=decide (48≤b.toNat)&&decide (b.toNat≤57)
def BA(n:Nat)(l:List UInt8):Nat:=l.foldl (fun n b=>10*n+(b.toNat-48)) n
def BW(l:List UInt8):Nat:=BA 0 l
theorem C8{pre t:List UInt8}{b:UInt8}:sAt (pre++b::t) (pre.length:Int)=some (b.toNat:Int):=DL (by simp)
theorem Fc{b:UInt8}(h:dig b=true):48≤b.toNat∧b.toNat≤57:=by simpa[dig]using h
theorem SC(at_:Nat):∀(t pre:List UInt8) (n:Nat),pre.length=at_+n→pre.length+t.length≤4611686018427387904→iter Jm (pre++t,(at_:Int),(n:Int),())=some (((n+(t.takeWhile dig).length:Nat):Int),())
 | [],pre,n,h1,h2=>by
  have w:i64.wrap ((at_:Int)+(n:Int))=(pre.length:Int):=by rw[A3 (by omega) (by omega)];omega
  refine G3 ?_;unfold Jm;dsimp only;simp only[gPb,gPm,gPs,gM,gM2,A9,gOr,AA,AG,gAA,gAO,gOA,gOO,A6,A8,AB,AE,A7,AD,gId];simp only[w];have c:decide ((pre.length:Int)<(((pre++ []):List UInt8).length:Int))=false:=Ak (by simp);simp only[c,Ag,if_false,bs,ms,List.takeWhile_nil,List.length_nil,Nat.add_zero]
 |b::t,pre,n,h1,h2=>by
  simp only[List.length_cons]at h2;have w:i64.wrap ((at_:Int)+(n:Int))=(pre.length:Int):=by rw[A3 (by omega) (by omega)];omega
  have w1:i64.wrap ((n:Int)+1)=((n+1:Nat):Int):=by rw[A3 (by omega) (by omega)];rfl
  have c:decide ((pre.length:Int)<(((pre++b::t):List UInt8).length:Int))=true:=Al (by simp;omega);by_cases hd:dig b=true
  ·have h3:=Fc hd;have e:=SC at_ t (pre++ [b]) (n+1) (by simp;omega) (by simp;omega);rw[List.append_assoc,List.singleton_append]at e;refine(IE (s':=(pre++b::t,(at_:Int),((n+1:Nat):Int),())) ?_).trans (e.trans ?_)
   ·unfold Jm;dsimp only;simp only[gPb,gPm,gPs,gM,gM2,A9,gOr,AA,AG,gAA,gAO,gOA,gOO,A6,A8,AB,AE,A7,AD,gId];simp only[w,c,if_true,C8,bs,ms];have d1:decide ((b.toNat:Int)≥48)=true:=Al (by omega);have d2:decide ((b.toNat:Int)≤57)=true:=Al (by omega);simp only[d1,d2,if_true,bs,ms,w,w1,C8]
   ·rw[List.takeWhile_cons,if_pos hd,List.length_cons]
    congr 2
    omega
  ·refine(G3 (t:=((n:Int),())) ?_).trans ?_
   ·unfold Jm;dsimp only;simp only[gPb,gPm,gPs,gM,gM2,A9,gOr,AA,AG,gAA,gAO,gOA,gOO,A6,A8,AB,AE,A7,AD,gId];simp only[w,c,if_true,C8,bs,ms];by_cases h48:48≤b.toNat
    ·have h57:¬b.toNat≤57:=fun h=>hd (by simp[dig,h48,h]);have d1:decide ((b.toNat:Int)≥48)=true:=Al (by omega);have d2:decide ((b.toNat:Int)≤57)=false:=Ak (by omega);simp only[d1,d2,if_true,bs,ms,w,Ag,if_false,C8]
    ·have d1:decide ((b.toNat:Int)≥48)=false:=Ak (by omega);simp only[d1,bs,ms,Ag,if_false]
   ·rw[List.takeWhile_cons,if_neg hd];rfl
theorem SB{pre t:List UInt8}(h:pre.length+t.length≤4611686018427387904):GM (pre++t,(pre.length:Int))=some ((t.takeWhile dig).length:Int):=by
 unfold GM;dsimp only;have:=SC pre.length t pre 0 (by omega) h;rw[show((0:Nat):Int)=0 from rfl]at this;rw[this,bs,Nat.zero_add]
theorem Qy:∀(t pre:List UInt8),pre.length+t.length≤4611686018427387904→iter Jk (pre++t,((pre++t).length:Int),(pre.length:Int),())=some (if t.all dig then .inl (pre++t,())else .inr false)
 | [],pre,h2=>by
  refine G3 ?_;unfold Jk;dsimp only;have c:decide ((pre.length:Int)<(((pre++ []):List UInt8).length:Int))=false:=Ak (by simp);simp only[c,Ag,if_false,List.all_nil,if_true]
 |b::t,pre,h2=>by
  simp only[List.length_cons]at h2;have w1:i64.wrap ((pre.length:Int)+1)=((pre++ [b]).length:Int):=by rw[A3 (by omega) (by omega)];simp
  have c:decide ((pre.length:Int)<(((pre++b::t):List UInt8).length:Int))=true:=Al (by simp;omega);by_cases hd:dig b=true
  ·have h3:=Fc hd;have e:=Qy t (pre++ [b]) (by simp;omega);rw[List.append_assoc,List.singleton_append]at e;refine(IE (s':=(pre++b::t,((pre++b::t).length:Int),((pre++ [b]).length:Int),())) ?_).trans (e.trans ?_)
   ·unfold Jk;dsimp only;simp only[gPb,gPm,gPs,gM,gM2,A9,gOr,AA,AG,gAA,gAO,gOA,gOO,A6,A8,AB,AE,A7,AD,gId];try simp only[AL,AM,AN,AO,AP,AQ,AR,AS]
    have d1:decide ((b.toNat:Int)<48)=false:=Ak (by omega);have d2:decide ((b.toNat:Int)>57)=false:=Ak (by omega);simp only[c,if_true,C8,bs,ms,d1,d2,Ag,if_false,w1]
   ·simp[hd]
  ·refine(G3 (t:=Sum.inr false) ?_).trans ?_
   ·unfold Jk;dsimp only;simp only[gPb,gPm,gPs,gM,gM2,A9,gOr,AA,AG,gAA,gAO,gOA,gOO,A6,A8,AB,AE,A7,AD,gId];try simp only[AL,AM,AN,AO,AP,AQ,AR,AS]
    simp only[c,if_true,C8,bs,ms];by_cases h48:b.toNat<48
    ·have d1:decide ((b.toNat:Int)<48)=true:=Al (by omega);simp only[d1,if_true,bs]
    ·have h57:¬b.toNat≤57:=fun h=>hd (by simp[dig,h];omega);have d1:decide ((b.toNat:Int)<48)=false:=Ak (by omega);have d2:decide ((b.toNat:Int)>57)=true:=Al (by omega);simp only[d1,d2,if_true,bs,ms,Ag,if_false,C8]
   ·simp[hd]
theorem MW(s:List UInt8)(h:s.length≤4611686018427387904):FS s=some (s.all dig&& !(s== [])):=by
 unfold FS;dsimp only;have:=Qy s [] (by simpa using h);simp only[List.nil_append,List.length_nil]at this;rw[show((0:Nat):Int)=0 from rfl]at this;rw[this,bs]
 cases hh:s.all dig with
 |true=>simp
 |false=>simp
theorem TZ{most:Nat}(hm:most≤1000000):∀(t pre:List UInt8) (n:Nat),t.all dig=true→pre.length+t.length≤4611686018427387904→
  iter LG (pre++t,(most:Int),((min n (most+1):Nat):Int),((pre++t).length:Int),(pre.length:Int),())=some (((min (BA n t) (most+1):Nat):Int),())
 | [],pre,n,_,h2=>by
  refine G3 ?_;unfold LG;dsimp only;have c:decide ((pre.length:Int)<(((pre++ []):List UInt8).length:Int))=false:=Ak (by simp);simp only[c,Ag,if_false];rfl
 |b::t,pre,n,hd,h2=>by
  simp only[List.length_cons]at h2;simp only[List.all_cons,Af]at hd;have h3:=Fc hd.1;have w1:i64.wrap ((pre.length:Int)+1)=((pre++ [b]).length:Int):=by rw[A3 (by omega) (by omega)];simp
  have c:decide ((pre.length:Int)<(((pre++b::t):List UInt8).length:Int))=true:=Al (by simp;omega);have e:=TZ hm t (pre++ [b]) (10*n+(b.toNat-48)) hd.2 (by simp;omega);rw[List.append_assoc,List.singleton_append]at e;refine(IE (s':=(pre++b::t,(most:Int),((min (10*n+(b.toNat-48)) (most+1):Nat):Int),((pre++b::t).length:Int),((pre++ [b]).length:Int),())) ?_).trans (e.trans rfl);unfold LG;dsimp only;have v1:u8.wrap ((b.toNat:Int)-48)=(b.toNat:Int)-48:=by unfold IntKind.wrap;simp[IntKind.bits,IntKind.signed];omega
  have v2:i64.wrap ((b.toNat:Int)-48)=(b.toNat:Int)-48:=A3 (by omega) (by omega);have v3:i64.wrap (((min n (most+1):Nat):Int)*10)=((min n (most+1):Nat):Int)*10:=A3 (by omega) (by omega);have v4:i64.wrap (((min n (most+1):Nat):Int)*10+((b.toNat:Int)-48))=((min n (most+1):Nat):Int)*10+((b.toNat:Int)-48):=A3 (by omega) (by omega);have v5:i64.wrap ((most:Int)+1)=(most:Int)+1:=A3 (by omega) (by omega);simp only[c,if_true,C8,bs,v1,v2,v3,w1];rw[v4,v5];have:min (((min n (most+1):Nat):Int)*10+((b.toNat:Int)-48)) ((most:Int)+1)=((min (10*n+(b.toNat-48)) (most+1):Nat):Int):=by omega
  rw[this]
theorem TY{most:Nat}(hm:most≤1000000){s:List UInt8}(hd:s.all dig=true)(h:s.length≤4611686018427387904):E4 (s,(most:Int))=some ((min (BW s) (most+1):Nat):Int):=by
 unfold E4;dsimp only;have:=TZ hm s [] 0 hd (by simpa using h);simp only[List.nil_append,List.length_nil,Nat.zero_min]at this;rw[show((0:Nat):Int)=0 from rfl]at this;rw[this,bs];rfl
theorem V2(s:List UInt8)(c:UInt8):Mg (s,[c])=some (if s.head? =some c then(s.tail,true)else(s,false)):=by
 have hp:KL (s,[c])=some (decide (s.head? =some c)):=by
  unfold KL;dsimp only;simp only[gPb,gPm,gPs,gM,gM2,A9,gOr,AA,AG,gAA,gAO,gOA,gOO,A6,A8,AB,AE,A7,AD,gId];try simp only[AL,AM,AN,AO,AP,AQ,AR,AS]
  cases s with
  |nil=>rfl
  |cons b t=>
   have e:decide ((((b::t):List UInt8).length:Int)≥(([c]:List UInt8).length:Int))=true:=Al (by simp only[List.length_cons,List.length_nil];omega)
   have l:Be (b::t) 0 (([c]:List UInt8).length:Int)=some [b]:=by
    have:=CU (xs:=b::t) (i:=0) (j:=1) (by omega) (by simp);simpa using this
   simp only[e,if_true,l,bs,ms];by_cases hb:b=c
   ·subst hb;simp
   ·simp[hb]
 unfold Mg Nt;dsimp only;rw[hp,bs]
 cases s with
 |nil=>rfl
 |cons b t=>
  by_cases hb:b=c
  ·subst hb
   have l:Be (b::t) (([b]:List UInt8).length:Int) (((b::t):List UInt8).length:Int)=some t:=by
    have:=CU (xs:=b::t) (i:=1) (j:=(b::t).length) (by simp) (by omega);simpa using this
   simp only[List.head?_cons,decide_true,Bool.not_true,Ag,if_false,l,bs,if_true,List.tail_cons]
  ·have hc:decide ((b::t).head? =some c)=false:=by simpa using hb
   have hc':¬(b::t).head? =some c:=by simpa using hb
   simp only[hc,Bool.not_false,if_true,bs,if_neg hc']
theorem Q2{α:Type}(l:List α)(a:α):(l++ [a]).dropLast=l:=by simp
theorem V3(s:List UInt8)(c:UInt8)(h:s.length≤4611686018427387904):HZ (s,[c])=some (if s.getLast? =some c then(s.dropLast,true)else(s,false)):=by
 have hp:KM (s,[c])=some (decide (s.getLast? =some c)):=by
  unfold KM;dsimp only;simp only[gPb,gPm,gPs,gM,gM2,A9,gOr,AA,AG,gAA,gAO,gOA,gOO,A6,A8,AB,AE,A7,AD,gId];try simp only[AL,AM,AN,AO,AP,AQ,AR,AS]
  rcases List.eq_nil_or_concat s with rfl|⟨t,b,rfl⟩
  ·rfl
  ·simp only[List.concat_eq_append]at*;have hlen:(t++ [b]).length=t.length+1:=by simp
   have e:decide ((((t++ [b]):List UInt8).length:Int)≥(([c]:List UInt8).length:Int))=true:=Al (by rw[hlen];simp only[List.length_cons,List.length_nil];omega)
   have w:i64.wrap ((((t++ [b]):List UInt8).length:Int)-(([c]:List UInt8).length:Int))=(t.length:Int):=by
    simp only[List.length_cons,List.length_nil];rw[A3 (by omega) (by omega)];omega
   have l:Be (t++ [b]) (t.length:Int) (((t++ [b]):List UInt8).length:Int)=some [b]:=by
    rw[CU (xs:=t++ [b]) (i:=t.length) (j:=(t++ [b]).length) (by omega) (by omega),List.take_length];simp
   simp only[e,if_true,w,l,bs,ms];by_cases hb:b=c
   ·subst hb;simp
   ·simp[hb]
 unfold HZ Nu;dsimp only;rw[hp,bs];rcases List.eq_nil_or_concat s with rfl|⟨t,b,rfl⟩
 ·rfl
 ·simp only[List.concat_eq_append]at*;by_cases hb:b=c
  ·subst hb
   have w:i64.wrap ((((t++ [b]):List UInt8).length:Int)-(([b]:List UInt8).length:Int))=(t.length:Int):=by
    rw[A3 (by simp only[List.length_append,List.length_cons,List.length_nil];omega) (by simp only[List.length_append,List.length_cons,List.length_nil]at*;omega)];simp
   have l:Be (t++ [b]) 0 (t.length:Int)=some t:=by
    have:=CU (xs:=t++ [b]) (i:=0) (j:=t.length) (by simp) (by simp);simpa using this
   have hl:(t++ [b]).getLast? =some b:=by simp
   simp only[hl,decide_true,Bool.not_true,Ag,if_false,w,l,bs,if_true,Q2]
  ·have hc':¬(t++ [b]).getLast? =some c:=by simpa using hb
   have hc:decide ((t++ [b]).getLast? =some c)=false:=Ak hc';simp only[hc,Bool.not_false,if_true,bs,if_neg hc']
theorem WW{l:List UInt8}{c:UInt8}(h:∀b∈l,b≠c):Lib.indexByte l c= -1:=by
 induction l with
 |nil=>rfl
 |cons b t ih=>
  have hb:(b==c)=false:=by simpa using h b (by simp)
  simp[Lib.indexByte,hb,ih fun x hx=>h x (by simp[hx])]
theorem WV{l t:List UInt8}{c:UInt8}(h:∀b∈l,b≠c):Lib.indexByte (l++c::t) c=(l.length:Int):=by
 induction l with
 |nil=>simp[Lib.indexByte]
 |cons b u ih=>
  have hb:(b==c)=false:=by simpa using h b (by simp)
  have e:=ih fun x hx=>h x (by simp[hx]);simp only[List.cons_append,Lib.indexByte,hb,e];have:(((u.length:Int))== -1)=false:=by simp
  simp[this]
theorem Ql{l:List UInt8}{c:UInt8}(h:∀b∈l,b≠c):Dw (l,[c])=some (l,[],false):=by
 have hi:Fg (l,[c])=some (-1):=congrArg some (WW h);unfold Dw Hy;dsimp only;rw[hi,bs];rfl
theorem Qk{l t:List UInt8}{c:UInt8}(h:∀b∈l,b≠c)(hl:(l++c::t).length≤4611686018427387904):Dw (l++c::t,[c])=some (l,t,true):=by
 have hi:Fg (l++c::t,[c])=some (l.length:Int):=congrArg some (WV h);unfold Dw Hy;dsimp only;rw[hi,bs];have e:decide ((l.length:Int)≥0)=true:=Al (by omega)
 have l1:Be (l++c::t) 0 (l.length:Int)=some l:=by
  have:=CU (xs:=l++c::t) (i:=0) (j:=l.length) (by omega) (by simp);simpa using this
 have w:i64.wrap ((l.length:Int)+(([c]:List UInt8).length:Int))=((l.length+1:Nat):Int):=by
  simp only[List.length_append,List.length_cons]at hl;rw[A3 (by omega) (by simp only[List.length_cons,List.length_nil];omega)];simp
 have l2:Be (l++c::t) ((l.length+1:Nat):Int) (((l++c::t):List UInt8).length:Int)=some t:=by
  have:=CU (xs:=l++c::t) (i:=l.length+1) (j:=(l++c::t).length) (by simp) (by omega);rw[this,List.take_length];simp
 simp only[e,if_true,l1,l2,w,bs]
def Ch(E:List UInt8):List UInt8:=(E++ [48,48,48,48]).take 4
def CR(neg:Bool)(D E:List UInt8):Int×Int:=
 let n:=BW D*10000+BW (Ch E)
 if n=0∧neg=true then(0,3)else if 1000000000<n then(0,2)else(if neg then-(n:Int)else(n:Int),0)
def DU(neg:Bool)(r:List UInt8):Int×Int:=
 let D:=r.takeWhile dig
 if D= []∨(1<D.length∧D.head? =some 48)then(0,3)
 else match r.dropWhile dig with
  | []=>(0,3)
  |c::T=>
   if c=37 then(if T= []then CR neg D []else(0,3))
   else if c=46 then(if T.takeWhile dig= []∨4<(T.takeWhile dig).length∨(T.takeWhile dig).getLast? =some 48∨T.dropWhile dig≠ [37]then(0,3)else CR neg D (T.takeWhile dig))
   else(0,3)
def GE(s:List UInt8):Int×Int:=if s= []then(0,10)else if s.head? =some 45 then DU true s.tail else DU false s
theorem Sa(n:Nat)(l m:List UInt8):BA n (l++m)=BA (BA n l) m:=by simp[BA,List.foldl_append]
theorem NW:∀(l:List UInt8) (n:Nat),n≤BA n l
 | [],n=>Nat.le_refl _
 |b::l,n=>by
  have:=NW l (10*n+(b.toNat-48));simp only[BA,List.foldl_cons]at this⊢;omega
theorem Sb:∀(l:List UInt8) (n:Nat),l.all dig=true→BA n l<(n+1)*10^l.length
 | [],n,_=>by simp[BA]
 |b::l,n,h=>by
  simp only[List.all_cons,Af]at h;have h3:=Fc h.1;have:=Sb l (10*n+(b.toNat-48)) h.2;simp only[BA,List.foldl_cons,List.length_cons]at this⊢;refine Nat.lt_of_lt_of_le this ?_;rw[Nat.pow_succ,Nat.mul_comm (10^l.length) 10,←Nat.mul_assoc];exact Nat.mul_le_mul_right _ (by omega)
theorem OQ(l:List UInt8):(l.takeWhile dig).all dig=true:=by
 induction l with
 |nil=>rfl
 |cons b l ih=>
  rw[List.takeWhile_cons];split
  ·rename_i h;simp only[List.all_cons,h,ih,Bool.and_self]
  ·rfl
theorem Ic(l:List UInt8):l.takeWhile dig++l.dropWhile dig=l:=List.takeWhile_append_dropWhile
theorem OR{l:List UInt8}(h:l.all dig=true)(m:List UInt8):(l++m).takeWhile dig=l++m.takeWhile dig∧(l++m).dropWhile dig=m.dropWhile dig:=by
 induction l with
 |nil=>exact⟨rfl,rfl⟩
 |cons b l ih=>
  simp only[List.all_cons,Af]at h;obtain⟨i1,i2⟩:=ih h.2;constructor
  ·rw[List.cons_append,List.takeWhile_cons,if_pos h.1,i1];rfl
  ·rw[List.cons_append,List.dropWhile_cons,if_pos h.1,i2]
theorem VJ{l T:List UInt8}{c:UInt8}(h:l.dropWhile dig=c::T):dig c=false:=by
 induction l with
 |nil=>cases h
 |cons b l ih=>
  rw[List.dropWhile_cons]at h;split at h
  ·exact ih h
  ·rename_i hb;cases h;simpa using hb
theorem Sp(E:List UInt8):(Ch E).length=4:=by simp[Ch]
theorem So{E:List UInt8}(h:E.all dig=true):(Ch E).all dig=true:=by
 rw[List.all_eq_true]at h⊢;intro b hb;have:=List.mem_of_mem_take hb;rw[List.mem_append]at this;rcases this with h1|h1
 ·exact h b h1
 ·simp at h1;subst h1;rfl
theorem Sq{E:List UInt8}(h:E.all dig=true):BW (Ch E)<10000:=by
 have:=Sb _ 0 (So h);rw[Sp]at this;simpa[BW]using this
theorem Yo{neg:Bool}{D E:List UInt8}(hD:D.all dig=true)(hE:E.all dig=true)(hl:D.length≤1000000)(hEl:E.length≤4)(hz:neg=true→¬(BW D=0∧BW (Ch E)=0)):
  (Option.bind (E4 (D,100000)) fun x78=>if E.length+([48,48,48,48]:List UInt8).length≤4611686018427387904 then
    (Be (E++ [48,48,48,48]) 0 4).bind fun x82=>(E4 (x82,10000)).bind fun x83=>
     if decide (i64.wrap (i64.wrap (x78*10000)+x83)>1000000000)=true then some ((0:Int),(2:Int))
     else(if neg=true then some (i64.wrap (0-i64.wrap (i64.wrap (x78*10000)+x83)),())else some (i64.wrap (i64.wrap (x78*10000)+x83),())).bind fun o=>some (o.1,0)
   else none)=some (CR neg D E):=by
 have v1:E4 (D,100000)=some ((min (BW D) 100001:Nat):Int):=TY (most:=100000) (by omega) hD (by omega);have v2:E4 (Ch E,10000)=some ((min (BW (Ch E)) 10001:Nat):Int):=TY (most:=10000) (by omega) (So hE) (by rw[Sp];omega)
 have l1:Be (E++ [48,48,48,48]) 0 4=some (Ch E):=by
  have:=CU (xs:=E++ [48,48,48,48]) (i:=0) (j:=4) (by omega) (by simp);simpa[Ch]using this
 have hp:=Sq hE;rw[v1,bs,if_pos (by simp only[List.length_cons,List.length_nil];omega),l1,bs,v2,bs];have e1:min (BW (Ch E)) 10001=BW (Ch E):=by omega
 rw[e1];unfold CR;dsimp only;generalize BW (Ch E)=f at*;generalize BW D=a at*;have w1:i64.wrap (((min a 100001:Nat):Int)*10000)=((min a 100001:Nat):Int)*10000:=A3 (by omega) (by omega);have w2:i64.wrap (((min a 100001:Nat):Int)*10000+(f:Int))=((min a 100001:Nat):Int)*10000+(f:Int):=A3 (by omega) (by omega);rw[w1,w2,if_neg (show ¬(a*10000+f=0∧neg=true)from fun h=>hz h.2 (by omega))];by_cases hb:1000000000<a*10000+f
 ·rw[if_pos hb,if_pos (Al (by omega))]
 ·rw[if_neg hb,if_neg (by simp;omega)];have e2:min a 100001=a:=by omega
  rw[e2]
  cases neg with
  |true=>
   simp only[if_true,bs];rw[A3 (by omega) (by omega)]
   congr 2
   omega
  |false=>simp only[Ag,if_false,bs];rfl
theorem XO{W:List UInt8}(hd:W.all dig=true)(h0:W≠ [])(h1:¬(1<W.length∧W.head? =some 48))(h2:W≠ [48]):0<BW W:=by
 cases W with
 |nil=>exact absurd rfl h0
 |cons b t=>
  simp only[List.all_cons,Af]at hd;have h3:=Fc hd.1
  have hb:b≠48:=by
   intro e;subst e
   cases t with
   |nil=>exact h2 rfl
   |cons _ _=>exact h1 ⟨by simp,rfl⟩
  have hb':b.toNat≠48:=fun e=>hb (UInt8.toNat_inj.1 e);have:=NW t (10*0+(b.toNat-48));show 0<BA 0 (b::t);simp only[BA,List.foldl_cons]at this⊢;omega
theorem Ya{P:List UInt8}(hd:P.all dig=true)(h0:P≠ [])(h4:P.length≤4)(hl:¬P.getLast? =some 48):0<BW (Ch P):=by
 rcases List.eq_nil_or_concat P with rfl|⟨Q,x,rfl⟩
 ·exact absurd rfl h0
 ·simp only[List.concat_eq_append]at*;have hx:x≠48:=by simpa using hl
  have hx':x.toNat≠48:=fun e=>hx (UInt8.toNat_inj.1 e);have hxd:dig x=true:=by simp at hd;exact hd.2
  have h3:=Fc hxd
  have e:Ch (Q++ [x])=(Q++ [x])++([48,48,48,48]:List UInt8).take (4-(Q++ [x]).length):=by
   unfold Ch;rw[List.take_append,List.take_of_length_le h4]
  unfold BW;rw[e,Sa,Sa];have h5:BA 0 Q≤BA 0 Q:=Nat.le_refl _;have h6:=NW (([48,48,48,48]:List UInt8).take (4-(Q++ [x]).length)) (BA (BA 0 Q) [x]);have h7:BA (BA 0 Q) [x]=10*BA 0 Q+(x.toNat-48):=rfl;omega
noncomputable def LC(neg:Bool)(W P:List UInt8)(pt:Bool):Option (Int×Int):=((FS W).bind fun v=>some !v).bind fun x36=>(if x36=true then some true else if decide ((W.length:Int)>1)=true then(sAt W 0).bind fun v=>some (v==48)else some false).bind fun x46=>if x46=true then some ((0:Int),(3:Int))else(if pt=true then(FS P).bind fun v=>(if(!v)=true then some true else some (decide ((P.length:Int)>4))).bind fun z=>if z=true then some true else(sAt P (i64.wrap ((P.length:Int)-1))).bind fun v=>some (v==48)else some false).bind fun x66=>if x66=true then some ((0:Int),(3:Int))else(if neg=true then some (W== [48])else some false).bind fun x72=>(if x72=true then some !pt else some false).bind fun x76=>if x76=true then some ((0:Int),(3:Int))else(E4 (W,100000)).bind fun x78=>if P.length+([48,48,48,48]:List UInt8).length≤4611686018427387904 then(Be (P++ [48,48,48,48]) 0 4).bind fun x82=>(E4 (x82,10000)).bind fun x83=>if decide (i64.wrap (i64.wrap (x78*10000)+x83)>1000000000)=true then some ((0:Int),(2:Int))else(if neg=true then some (i64.wrap (0-i64.wrap (i64.wrap (x78*10000)+x83)),())else some (i64.wrap (i64.wrap (x78*10000)+x83),())).bind fun o=>some (o.1,0)else none
theorem Sz(neg:Bool)(W P:List UInt8)(pt:Bool)(hW:W.length≤5000)(hP:P.length≤5000)(hp:pt=false→P= []):
  LC neg W P pt=some (if ¬(W.all dig=true∧W≠ [])∨(1<W.length∧W.head? =some 48)∨(pt=true∧(¬(P.all dig=true∧P≠ [])∨4<P.length∨P.getLast? =some 48))then(0,3)else CR neg W P):=by
 have R1:(¬(W.all dig=true∧W≠ [])∨(1<W.length∧W.head? =some 48)∨(pt=true∧(¬(P.all dig=true∧P≠ [])∨4<P.length∨P.getLast? =some 48)))→(if ¬(W.all dig=true∧W≠ [])∨(1<W.length∧W.head? =some 48)∨(pt=true∧(¬(P.all dig=true∧P≠ [])∨4<P.length∨P.getLast? =some 48))then((0:Int),(3:Int))else CR neg W P)=(0,3):=fun h=>if_pos h;have R2:¬(¬(W.all dig=true∧W≠ [])∨(1<W.length∧W.head? =some 48)∨(pt=true∧(¬(P.all dig=true∧P≠ [])∨4<P.length∨P.getLast? =some 48)))→(if ¬(W.all dig=true∧W≠ [])∨(1<W.length∧W.head? =some 48)∨(pt=true∧(¬(P.all dig=true∧P≠ [])∨4<P.length∨P.getLast? =some 48))then((0:Int),(3:Int))else CR neg W P)=CR neg W P:=fun h=>if_neg h;unfold LC;rw[MW W (by omega),bs,bs];by_cases h1':¬(W.all dig=true∧W≠ [])
 ·have h1:=h1'
  have e:(!(W.all dig&& !(W== [])))=true:=by
   cases hh:W.all dig with
   |false=>rfl
   |true=>
    have:W= []:=Classical.byContradiction fun h=>h1 ⟨hh,h⟩;subst this;rfl
  simp only[e,if_true,bs];rw[R1 (.inl h1)]
 have h1:W.all dig=true∧W≠ []:=Classical.not_not.1 h1'
 have e:(!(W.all dig&& !(W== [])))=false:=by
  have:(W== [])=false:=by simpa using h1.2
  simp[h1.1,this]
 simp only[e,Ag,if_false];by_cases h2:1<W.length∧W.head? =some 48
 ·rw[R1 (.inr (.inl h2))];have c:decide ((W.length:Int)>1)=true:=Al (by omega)
  have a:sAt W 0=some 48:=by
   cases W with
   |nil=>exact absurd rfl h1.2
   |cons b t=>
    have hb:b=48:=by simpa using h2.2
    subst hb;exact C8 (pre:= []) (b:=48)
  simp only[c,if_true,a,bs];rfl
 have g2:(if decide ((W.length:Int)>1)=true then(sAt W 0).bind fun v=>some (v==48)else some false)=some false:=by
  by_cases hl:1<W.length
  ·have c:decide ((W.length:Int)>1)=true:=Al (by omega)
   cases W with
   |nil=>exact absurd rfl h1.2
   |cons b t=>
    have hb:b≠48:=fun e=>h2 ⟨hl,by rw[e];rfl⟩;have hb':b.toNat≠48:=fun e=>hb (UInt8.toNat_inj.1 e);have a:sAt (b::t) 0=some (b.toNat:Int):=C8 (pre:= []) (b:=b);have z:((b.toNat:Int)==48)=false:=by simp;omega
    simp only[c,if_true,a,bs,z]
  ·have c:decide ((W.length:Int)>1)=false:=Ak (by omega);simp only[c,Ag,if_false]
 simp only[g2,bs,Ag,if_false];by_cases h3:pt=true∧(¬(P.all dig=true∧P≠ [])∨4<P.length∨P.getLast? =some 48)
 ·rw[R1 (.inr (.inr h3))];obtain⟨hpt,h3⟩:=h3;subst hpt;simp only[if_true,MW P (show P.length≤4611686018427387904 by omega),bs];by_cases h4:P.all dig=true∧P≠ []
  ·have e:(!(P.all dig&& !(P== [])))=false:=by
    have:(P== [])=false:=by simpa using h4.2
    simp[h4.1,this]
   simp only[e,Ag,if_false,bs];by_cases h5:4<P.length
   ·have c:decide ((P.length:Int)>4)=true:=Al (by omega);simp only[c,if_true,bs]
   ·have c:decide ((P.length:Int)>4)=false:=Ak (by omega)
    have h6:P.getLast? =some 48:=by
     rcases h3 with h|h|h
     ·exact absurd h4 h
     ·exact absurd h h5
     ·exact h
    have a:sAt P (i64.wrap ((P.length:Int)-1))=some 48:=by
     rcases List.eq_nil_or_concat P with rfl|⟨Q,x,rfl⟩
     ·exact absurd rfl h4.2
     ·simp only[List.concat_eq_append]at*;have hx:x=48:=by simpa using h6
      subst hx
      have w:i64.wrap ((((Q++ [48]):List UInt8).length:Int)-1)=(Q.length:Int):=by
       simp only[List.length_append,List.length_cons,List.length_nil]at*;rw[A3 (by omega) (by omega)];omega
      rw[w];exact C8 (b:=48)
    simp only[c,Ag,if_false,a,bs];rfl
  ·have e:(!(P.all dig&& !(P== [])))=true:=by
    cases hh:P.all dig with
    |false=>rfl
    |true=>
     have:P= []:=Classical.byContradiction fun h=>h4 ⟨hh,h⟩;subst this;rfl
   simp only[e,if_true,bs]
 rw[R2 (show ¬(¬(W.all dig=true∧W≠ [])∨(1<W.length∧W.head? =some 48)∨(pt=true∧(¬(P.all dig=true∧P≠ [])∨4<P.length∨P.getLast? =some 48)))from fun h=>by
  rcases h with h|h|h
  ·exact h h1
  ·exact h2 h
  ·exact h3 h)]
 have g3:(if pt=true then(FS P).bind fun v=>(if(!v)=true then some true else some (decide ((P.length:Int)>4))).bind fun z=>if z=true then some true else(sAt P (i64.wrap ((P.length:Int)-1))).bind fun v=>some (v==48)else some false)=some false:=by
  by_cases hpt:pt=true
  ·have h4:P.all dig=true∧P≠ []:=Classical.byContradiction fun h=>h3 ⟨hpt,.inl h⟩;have h5:¬4<P.length:=fun h=>h3 ⟨hpt,.inr (.inl h)⟩;have h6:¬P.getLast? =some 48:=fun h=>h3 ⟨hpt,.inr (.inr h)⟩
   have e:(!(P.all dig&& !(P== [])))=false:=by
    have:(P== [])=false:=by simpa using h4.2
    simp[h4.1,this]
   have c:decide ((P.length:Int)>4)=false:=Ak (by omega);rcases List.eq_nil_or_concat P with rfl|⟨Q,x,rfl⟩
   ·exact absurd rfl h4.2
   ·simp only[List.concat_eq_append]at*;have hx:x≠48:=by simpa using h6
    have hx':x.toNat≠48:=fun e=>hx (UInt8.toNat_inj.1 e)
    have w:i64.wrap ((((Q++ [x]):List UInt8).length:Int)-1)=(Q.length:Int):=by
     simp only[List.length_append,List.length_cons,List.length_nil]at*;rw[A3 (by omega) (by omega)];omega
    have z:((x.toNat:Int)==48)=false:=by simp;omega
    simp only[if_pos hpt,MW (Q++ [x]) (show(Q++ [x]).length≤4611686018427387904 by omega),bs,e,Ag,if_false,c,w,C8,z]
  ·rw[if_neg hpt]
 simp only[g3,bs,Ag,if_false]
 have hPd:P.all dig=true∧P.length≤4:=by
  by_cases hpt:pt=true
  ·have h4:P.all dig=true∧P≠ []:=Classical.byContradiction fun h=>h3 ⟨hpt,.inl h⟩;exact⟨h4.1,Nat.le_of_not_lt fun h=>h3 ⟨hpt,.inr (.inl h)⟩⟩
  ·have:=hp (by simpa using hpt);subst this;simp
 by_cases h7:neg=true∧W= [48]∧pt=false
 ·obtain⟨hn,hw,hpt⟩:=h7;have:=hp hpt;subst hn;subst hw;subst hpt;subst this;have k1:(([48]:List UInt8)== [48])=true:=rfl;have k2:BW [48]=0:=by decide
  have k3:BW (Ch [])=0:=by decide
  simp only[k1,if_true,bs,Bool.not_false,CR,k2,k3,Nat.zero_mul,Nat.add_zero,and_self]
 ·have g4:(Option.bind (if neg=true then some (W== [48])else some false) fun x72=>(if x72=true then some !pt else some false))=some false:=by
   cases neg with
   |false=>rfl
   |true=>
    by_cases hw:W= [48]
    ·have hpt:pt=true:=by
      cases pt with
      |true=>rfl
      |false=>exact absurd ⟨rfl,hw,rfl⟩ h7
     subst hw;subst hpt;rfl
    ·have:(W== [48])=false:=by simpa using hw
     simp[this]
  rw[←gBb,g4,bs,if_neg (by decide)]
  exact Yo h1.1 hPd.1 (by omega) hPd.2 fun hn hz=>by
   by_cases hpt:pt=true
   ·have h4:P.all dig=true∧P≠ []:=Classical.byContradiction fun h=>h3 ⟨hpt,.inl h⟩;have:=Ya hPd.1 h4.2 hPd.2 (fun h=>h3 ⟨hpt,.inr (.inr h)⟩);omega
   ·have hw:W≠ [48]:=fun hw=>h7 ⟨hn,hw,by simpa using hpt⟩;have:=XO h1.1 h1.2 h2 hw;omega
theorem Sy(b:List UInt8):(∀x∈b,x≠46)∨∃W P,b=W++46::P∧∀x∈W,x≠46:=by
 induction b with
 |nil=>exact .inl (by simp)
 |cons x b ih=>
  by_cases hx:x=46
  ·subst hx;exact .inr ⟨[],b,rfl,by simp⟩
  ·rcases ih with h|⟨W,P,rfl,h⟩
   ·refine .inl fun y hy=> ?_;rcases List.mem_cons.1 hy with rfl|hy
    ·exact hx
    ·exact h y hy
   ·refine .inr ⟨x::W,P,rfl,fun y hy=> ?_⟩;rcases List.mem_cons.1 hy with rfl|hy
    ·exact hx
    ·exact h y hy
theorem Q3(l:List UInt8):((l++ [37]).dropWhile dig)=(l.dropWhile dig)++ [37]∧(l++ [37]).takeWhile dig=l.takeWhile dig:=by
 induction l with
 |nil=>exact⟨rfl,rfl⟩
 |cons b l ih=>
  simp only[List.cons_append,List.dropWhile_cons,List.takeWhile_cons];by_cases hb:dig b=true
  ·simp only[hb,if_true,ih.1,ih.2,and_self]
  ·simp only[hb,Ag,if_false,List.cons_append,and_self]
theorem Iw{l:List UInt8}:l.dropWhile dig= []↔l.all dig=true:=by
 induction l with
 |nil=>simp
 |cons b l ih=>
  rw[List.dropWhile_cons,List.all_cons];by_cases hb:dig b=true
  ·simp only[hb,if_true,Bool.true_and];exact ih
  ·simp[hb]
theorem TO{l:List UInt8}(h:l.all dig=true):l.takeWhile dig=l:=by
 have:=(OR h []).1;simpa using this
theorem Xl(X:List UInt8):(X++ [37]).getLast? =some 37:=by simp
theorem UC{neg:Bool}{r:List UInt8}(h:¬r.getLast? =some 37):DU neg r=(0,3):=by
 unfold DU;dsimp only;split
 ·rfl
 ·split
  ·rfl
  ·rename_i c T hc;have hr:=Ic r;rw[hc]at hr;by_cases h37:c=37
   ·rw[if_pos h37];by_cases hT:T= []
    ·exfalso;subst hT;subst h37;exact h (by rw[←hr];simp)
    ·rw[if_neg hT]
   ·rw[if_neg h37];by_cases h46:c=46
    ·rw[if_pos h46];by_cases hd:T.dropWhile dig= [37]
     ·exfalso;have ht:=Ic T;rw[hd]at ht;have hx:r=(r.takeWhile dig++c::T.takeWhile dig)++ [37]:=by rw[List.append_assoc,List.cons_append,ht,hr]
      exact h (by rw[hx];exact Xl _)
     ·rw[if_pos (.inr (.inr (.inr hd)))]
    ·rw[if_neg h46]
theorem UE(neg:Bool){b:List UInt8}(h:∀x∈b,x≠46):(if ¬(b.all dig=true∧b≠ [])∨(1<b.length∧b.head? =some 48)then((0:Int),(3:Int))else CR neg b [])=DU neg (b++ [37]):=by
 obtain⟨e1,e2⟩:=Q3 b;unfold DU;rw[e1,e2];dsimp only;by_cases hd:b.all dig=true
 ·rw[TO hd,Iw.2 hd,List.nil_append];dsimp only;rw[if_pos rfl,if_pos rfl];by_cases h0:b= []
  ·subst h0;rfl
  ·by_cases h1:1<b.length∧b.head? =some 48
   ·rw[if_pos (.inr h1),if_pos (.inr h1)]
   ·rw[if_neg (fun k=>by rcases k with k|k;exact k ⟨hd,h0⟩;exact h1 k),if_neg (fun k=>by rcases k with k|k;exact h0 k;exact h1 k)]
 ·rw[if_pos (.inl fun k=>hd k.1)];split
  ·rfl
  ·rename_i hn;have hne:b.dropWhile dig≠ []:=fun k=>hd (Iw.1 k)
   cases hc:b.dropWhile dig with
   |nil=>exact absurd hc hne
   |cons c T=>
    rw[List.cons_append];dsimp only
    have hm:c∈b:=by
     have:=Ic b;rw[hc]at this;rw[←this];simp
    rw[if_neg (h c hm)];by_cases h37:c=37
    ·rw[if_pos h37,if_neg (by simp)]
    ·rw[if_neg h37]
theorem UD(neg:Bool){W P:List UInt8}(h:∀x∈W,x≠46):(if ¬(W.all dig=true∧W≠ [])∨(1<W.length∧W.head? =some 48)∨((true=true)∧(¬(P.all dig=true∧P≠ [])∨4<P.length∨P.getLast? =some 48))then((0:Int),(3:Int))else CR neg W P)=DU neg (W++46::P++ [37]):=by
 rw[List.append_assoc,List.cons_append];unfold DU;dsimp only;by_cases hd:W.all dig=true
 ·obtain⟨e1,e2⟩:=OR hd (46::(P++ [37]));have e3:(46::(P++ [37])).takeWhile dig= []:=rfl;have e4:(46::(P++ [37])).dropWhile dig=46::(P++ [37]):=rfl;rw[e1,e2,e3,e4,List.append_nil];dsimp only;rw[if_neg (show ¬(46:UInt8)=37 by decide),if_pos rfl];obtain⟨e5,e6⟩:=Q3 P;rw[e5,e6];by_cases h0:W= []
  ·rw[if_pos (.inl fun k=>k.2 h0),if_pos (.inl h0)]
  by_cases h1:1<W.length∧W.head? =some 48
  ·rw[if_pos (.inr (.inl h1)),if_pos (.inr h1)]
  rw[if_neg (show ¬(W= []∨(1<W.length∧W.head? =some 48))from fun k=>by rcases k with k|k;exact h0 k;exact h1 k)];by_cases hp:P.all dig=true
  ·rw[TO hp,Iw.2 hp,List.nil_append];by_cases hq:P= []∨4<P.length∨P.getLast? =some 48
   ·have c2:P= []∨4<P.length∨P.getLast? =some 48∨([37]:List UInt8)≠ [37]:=by
     rcases hq with k|k|k
     ·exact .inl k
     ·exact .inr (.inl k)
     ·exact .inr (.inr (.inl k))
    have c1:¬(P.all dig=true∧P≠ [])∨4<P.length∨P.getLast? =some 48:=by
     rcases hq with k|k|k
     ·exact .inl fun q=>q.2 k
     ·exact .inr (.inl k)
     ·exact .inr (.inr k)
    rw[if_pos (.inr (.inr ⟨rfl,c1⟩)),if_pos c2]
   ·rw[if_neg,if_neg]
    ·intro k;rcases k with k|k|k|k
     ·exact hq (.inl k)
     ·exact hq (.inr (.inl k))
     ·exact hq (.inr (.inr k))
     ·exact k rfl
    ·intro k;rcases k with k|k|⟨_,k|k|k⟩
     ·exact k ⟨hd,h0⟩
     ·exact h1 k
     ·exact k ⟨hp,fun q=>hq (.inl q)⟩
     ·exact hq (.inr (.inl k))
     ·exact hq (.inr (.inr k))
  ·rw[if_pos (.inr (.inr ⟨rfl,.inl fun k=>hp k.1⟩)),if_pos];refine .inr (.inr (.inr fun k=>hp (Iw.1 ?_)))
   cases hc:P.dropWhile dig with
   |nil=>rfl
   |cons c T=>rw[hc]at k;simp at k
 ·rw[if_pos (.inl fun k=>hd k.1)];have hne:W.dropWhile dig≠ []:=fun k=>hd (Iw.1 k)
  cases hc:W.dropWhile dig with
  |nil=>exact absurd hc hne
  |cons c T=>
   have hw:=Ic W;rw[hc]at hw;have hcd:=VJ hc;have hm:c∈W:=by rw[←hw];simp
   have e:W++46::(P++ [37])=W.takeWhile dig++(c::(T++46::(P++ [37]))):=by
    have:=congrArg (· ++46::(P++ [37])) hw.symm;simpa[List.append_assoc]using this
   obtain⟨e1,e2⟩:=OR (OQ W) (c::(T++46::(P++ [37])));have e3:(c::(T++46::(P++ [37]))).takeWhile dig= []:=by rw[List.takeWhile_cons,if_neg (by simp[hcd])]
   have e4:(c::(T++46::(P++ [37]))).dropWhile dig=c::(T++46::(P++ [37])):=by rw[List.dropWhile_cons,if_neg (by simp[hcd])]
   rw[e,e1,e2,e3,e4,List.append_nil];split
   ·rfl
   ·dsimp only;rw[if_neg (h c hm)];by_cases h37:c=37
    ·rw[if_pos h37,if_neg (by simp)]
    ·rw[if_neg h37]
theorem Yn(neg:Bool)(r:List UInt8)(hr:r.length≤5000):
  (Option.bind (HZ (r,[37])) fun x20=>(Dw (x20.1,[46])).bind fun x25=>if x20.2=true then LC neg x25.1 x25.2.1 x25.2.2 else some ((0:Int),(3:Int)))=some (DU neg r):=by
 rw[V3 _ _ (by omega),bs];by_cases hl:r.getLast? =some 37
 ·rw[if_pos hl]
  obtain⟨b,rfl⟩:∃b,r=b++ [37]:=by
   rcases List.eq_nil_or_concat r with rfl|⟨t,x,rfl⟩
   ·cases hl
   ·simp only[List.concat_eq_append]at hl⊢;simp at hl;subst hl;exact⟨t,rfl⟩
  rw[Q2];simp only[List.length_append,List.length_cons,List.length_nil]at hr;dsimp only;simp only[if_true];rcases Sy b with h|⟨W,P,rfl,h⟩
  ·rw[Ql h,bs];dsimp only;rw[Sz neg b [] false (by omega) (by simp) (fun _=>rfl),←UE neg h]
   congr 1
   by_cases hc:¬(b.all dig=true∧b≠ [])∨(1<b.length∧b.head? =some 48)
   ·rw[if_pos hc,if_pos];rcases hc with k|k
    ·exact .inl k
    ·exact .inr (.inl k)
   ·rw[if_neg hc,if_neg];intro k;rcases k with k|k|k
    ·exact hc (.inl k)
    ·exact hc (.inr k)
    ·cases k.1
  ·simp only[List.length_append,List.length_cons]at hr;rw[Qk h (by simp only[List.length_append,List.length_cons];omega),bs];dsimp only;rw[Sz neg W P true (by omega) (by omega) (fun k=>by cases k),UD neg h]
 ·rw[if_neg hl,UC hl];dsimp only
  obtain⟨y,hy⟩:∃y,Dw (r,[46])=some y:=by
   rcases Sy r with h|⟨W,P,rfl,h⟩
   ·exact⟨_,Ql h⟩
   ·exact⟨_,Qk h (by omega)⟩
  rw[hy,bs];rfl
theorem Yu(s:List UInt8)(h:s.length≤5000):LD s=some (GE s):=by
 unfold LD GE;dsimp only;simp only[gPb,gPm,gPs,gM,gM2,A9,gOr,AA,AG,gAA,gAO,gOA,gOO,A6,A8,AB,AE,A7,AD,gId];simp only[AL,AM,AN,AO,AP,AQ,AR,AS,gId,AV,gMb,gMm,gBm,gBb,bs,ms];by_cases h0:s= []
 ·subst h0;rfl
 have e0:(s== [])=false:=by simpa using h0
 rw[if_neg h0];simp only[e0,Ag,if_false];rw[V2,bs];have key:∀(neg:Bool) (r:List UInt8),r.length≤5000→(Option.bind (HZ (r,[37])) fun x20=>(Dw (x20.1,[46])).bind fun x25=>if x20.2=true then LC neg x25.1 x25.2.1 x25.2.2 else some ((0:Int),(3:Int)))=some (DU neg r):=Yn;by_cases hh:s.head? =some 45
 ·rw[if_pos hh,if_pos hh,←key true s.tail (by simp;omega)]
  congr 1
  funext x20
  congr 1
  funext x25;obtain⟨r,ok⟩:=x20;cases ok
  ·simp only[Bool.not_false,if_true,bs,Ag,if_false]
  ·simp only[Bool.not_true,if_true,Ag,if_false];rfl
 ·rw[if_neg hh,if_neg hh,←key false s h]
  congr 1
  funext x20
  congr 1
  funext x25;obtain⟨r,ok⟩:=x20;cases ok
  ·simp only[Bool.not_false,if_true,bs,Ag,if_false]
  ·simp only[Bool.not_true,if_true,Ag,if_false];rfl
theorem EV{n:Int}(h1:0≤n)(h2:n≤18446744073709551615):u64.wrap n=n:=by
 unfold IntKind.wrap;simp[IntKind.bits,IntKind.signed];omega
def Dx(n:Nat):List UInt8→Nat
 | []=>n
 |b::l=>Dx (if n<1000000 then 10*n+(b.toNat-48)else n) l
theorem JR:∀{l:List UInt8} {n m:Nat},l.all dig=true→n<10000000→(n=m∨(1000000≤n∧1000000≤m))→Dx n l<10000000∧(Dx n l=BA m l∨(1000000≤Dx n l∧1000000≤BA m l))
 | [],n,m,_,h,k=>⟨h,k⟩
 |b::l,n,m,hd,h,k=>by
  simp only[List.all_cons,Af]at hd;have h3:=Fc hd.1;have e:BA m (b::l)=BA (10*m+(b.toNat-48)) l:=rfl;rw[e];unfold Dx;by_cases hn:n<1000000
  ·rw[if_pos hn];have hm:n=m:=by omega
   subst hm;exact JR hd.2 (by omega) (.inl rfl)
  ·rw[if_neg hn];refine JR hd.2 h (.inr ?_);omega
theorem SD(at_ whole few:Nat)(post:List UInt8):∀(t pre:List UInt8) (n:Nat),t.all dig=true→n<10000000→pre.length+t.length=at_+whole→at_+whole+post.length≤1000000→
  iter HF (pre++(t++post),(at_:Int),(whole:Int),(few:Int),(n:Int),(pre.length:Int),())=some (pre++(t++post),(at_:Int),(whole:Int),(few:Int),((Dx n t:Nat):Int),())
 | [],pre,n,_,_,h1,h2=>by
  refine G3 ?_;unfold HF;dsimp only;have w:i64.wrap ((at_:Int)+(whole:Int))=((at_+whole:Nat):Int):=by rw[A3 (by omega) (by omega)];rfl
  have c:decide ((pre.length:Int)<((at_+whole:Nat):Int))=false:=Ak (by simp at h1;omega);simp only[w,c,Ag,if_false];rfl
 |b::t,pre,n,hd,hn,h1,h2=>by
  simp only[List.all_cons,Af]at hd;simp only[List.length_cons]at h1;have h3:=Fc hd.1;have w:i64.wrap ((at_:Int)+(whole:Int))=((at_+whole:Nat):Int):=by rw[A3 (by omega) (by omega)];rfl
  have c:decide ((pre.length:Int)<((at_+whole:Nat):Int))=true:=Al (by omega);have w1:i64.wrap ((pre.length:Int)+1)=((pre++ [b]).length:Int):=by rw[A3 (by omega) (by omega)];simp
  have e:=SD at_ whole few post t (pre++ [b]) (if n<1000000 then 10*n+(b.toNat-48)else n) hd.2 (by split<;>omega) (by simp;omega) h2;rw[List.append_assoc,List.singleton_append]at e;refine(IE (s':=(pre++(b::t++post),(at_:Int),(whole:Int),(few:Int),(((if n<1000000 then 10*n+(b.toNat-48)else n:Nat)):Int),((pre++ [b]).length:Int),())) ?_).trans e;unfold HF;dsimp only;have sa:sAt (pre++(b::t++post)) (pre.length:Int)=some (b.toNat:Int):=C8 (t:=t++post);by_cases hlt:n<1000000
  ·have c2:decide ((n:Int)<1000000)=true:=Al (by omega);have v1:u64.wrap (10*(n:Int))=10*(n:Int):=EV (by omega) (by omega);have v2:u64.wrap (b.toNat:Int)=(b.toNat:Int):=EV (by omega) (by omega);have v3:u64.wrap (10*(n:Int)+(b.toNat:Int))=10*(n:Int)+(b.toNat:Int):=EV (by omega) (by omega);have v4:u64.wrap (10*(n:Int)+(b.toNat:Int)-48)=((10*n+(b.toNat-48):Nat):Int):=by rw[EV (by omega) (by omega)];omega
   simp only[w,c,if_true,c2,sa,bs,v1,v2,v3,v4,w1,if_pos hlt]
  ·have c2:decide ((n:Int)<1000000)=false:=Ak (by omega);simp only[w,c,if_true,c2,Ag,if_false,bs,w1,if_neg hlt]
def Es(scale:Nat):List UInt8→Nat
 | []=>0
 |b::l=>scale*(b.toNat-48)+Es (scale/10) l
theorem Ot(at_ whole few:Nat)(post:List UInt8):∀(t pre:List UInt8) (n scale:Nat),t.all dig=true→n≤1000000000000→t.length≤4→scale≤1000→pre.length+t.length=at_+whole+1+few→at_+whole+1+few+post.length≤1000000→n+10000*t.length≤1000000000000→
  iter GK (pre++(t++post),(at_:Int),(whole:Int),(few:Int),(n:Int),(scale:Int),(pre.length:Int),())=some ((at_:Int),((n+Es scale t:Nat):Int),())
 | [],pre,n,scale,_,_,_,_,h1,h2,_=>by
  refine G3 ?_;unfold GK;dsimp only
  have w:i64.wrap (i64.wrap (i64.wrap ((at_:Int)+(whole:Int))+1)+(few:Int))=((at_+whole+1+few:Nat):Int):=by
   rw[A3 (n:=(at_:Int)+(whole:Int)) (by omega) (by omega),A3 (n:=(at_:Int)+(whole:Int)+1) (by omega) (by omega),A3 (by omega) (by omega)];rfl
  have c:decide ((pre.length:Int)<((at_+whole+1+few:Nat):Int))=false:=Ak (by simp at h1;omega);simp only[w,c,Ag,if_false];rfl
 |b::t,pre,n,scale,hd,hn,hl,hs,h1,h2,h4=>by
  simp only[List.all_cons,Af]at hd;simp only[List.length_cons]at h1 hl h4;have h3:=Fc hd.1
  have w:i64.wrap (i64.wrap (i64.wrap ((at_:Int)+(whole:Int))+1)+(few:Int))=((at_+whole+1+few:Nat):Int):=by
   rw[A3 (n:=(at_:Int)+(whole:Int)) (by omega) (by omega),A3 (n:=(at_:Int)+(whole:Int)+1) (by omega) (by omega),A3 (by omega) (by omega)];rfl
  have c:decide ((pre.length:Int)<((at_+whole+1+few:Nat):Int))=true:=Al (by omega);have w1:i64.wrap ((pre.length:Int)+1)=((pre++ [b]).length:Int):=by rw[A3 (by omega) (by omega)];simp
  have hm:scale*(b.toNat-48)≤1000*9:=Nat.mul_le_mul hs (by omega);have e:=Ot at_ whole few post t (pre++ [b]) (n+scale*(b.toNat-48)) (scale/10) hd.2 (by omega) (by omega) (by omega) (by simp;omega) h2 (by omega);rw[List.append_assoc,List.singleton_append]at e;refine(IE (s':=(pre++(b::t++post),(at_:Int),(whole:Int),(few:Int),((n+scale*(b.toNat-48):Nat):Int),((scale/10:Nat):Int),((pre++ [b]).length:Int),())) ?_).trans (e.trans ?_)
  ·unfold GK;dsimp only;have sa:sAt (pre++(b::t++post)) (pre.length:Int)=some (b.toNat:Int):=C8 (t:=t++post);have v2:u64.wrap (b.toNat:Int)=(b.toNat:Int):=EV (by omega) (by omega);have v3:u64.wrap ((b.toNat:Int)-48)=((b.toNat-48:Nat):Int):=by rw[EV (by omega) (by omega)];omega
   have v4:u64.wrap ((scale:Int)*((b.toNat-48:Nat):Int))=((scale*(b.toNat-48):Nat):Int):=by
    rw[←Int.natCast_mul];exact EV (by omega) (by omega)
   have v5:u64.wrap ((n:Int)+((scale*(b.toNat-48):Nat):Int))=((n+scale*(b.toNat-48):Nat):Int):=by
    rw[←Int.natCast_add];exact EV (by omega) (by omega)
   have v6:(if(10:Int)=0 then none else some (u64.wrap ((scale:Int).tdiv 10)))=some ((scale/10:Nat):Int):=by
    rw[if_neg (by omega),Int.tdiv_eq_ediv_of_nonneg (by omega)];have:(scale:Int)/10=((scale/10:Nat):Int):=by omega
    rw[this,EV (by omega) (by omega)]
   simp only[w,c,if_true,sa,bs,v2,v3,v4,v5,v6,w1]
  ·have e2:Es scale (b::t)=scale*(b.toNat-48)+Es (scale/10) t:=rfl;rw[e2,Nat.add_assoc]
theorem W0:∀{E:List UInt8},E.length≤4→Es 1000 E=BW (Ch E)
 | [],_=>by decide
 | [a],_=>by simp[Es,Ch,BW,BA];omega
 | [a,b],_=>by simp[Es,Ch,BW,BA];omega
 | [a,b,c],_=>by simp[Es,Ch,BW,BA];omega
 | [a,b,c,d],_=>by simp[Es,Ch,BW,BA];omega
 |_::_::_::_::_::_,h=>by simp at h
theorem Y2{a:Nat}(ha:a≤1){D E:List UInt8}(hD:D.all dig=true)(hE:E.length≤4)(hEd:E.all dig=true){K:Int→Int→Option (Int×Int)}(hK:∀x y,K x y=(if(y==0)=true then some (x==1)else some false).bind fun x128=>
   if x128=true then some (0,3)else if decide (y>1000000000)=true then some (0,2)else if(x==1)=true then some (i64.wrap (0-i64.wrap y),0)else some (i64.wrap y,0)):
  K (a:Int) ((10000*Dx 0 D+Es 1000 E:Nat):Int)=some (CR (decide (a=1)) D E):=by
 obtain⟨h1,h2⟩:=JR (n:=0) (m:=0) hD (by omega) (.inl rfl);rw[hK,W0 hE];unfold CR;dsimp only;have hp:=Sq hEd;have e:BW D=BA 0 D:=rfl;rw[e];generalize BA 0 D=m at*;generalize Dx 0 D=n at*;generalize BW (Ch E)=f at*;have hf:(10000*n+f=m*10000+f)∨(1000000000<10000*n+f∧1000000000<m*10000+f):=by omega
 generalize 10000*n+f=u at*;generalize hv:m*10000+f=v at*;by_cases h0:u=0
 ·have hv0:v=0:=by omega
  subst h0;rw[hv0]
  match a,ha with
  |0,_=>rfl
  |1,_=>rfl
 ·have z:((u:Int)==0)=false:=by simpa using h0
  have hv0:¬(v=0∧decide (a=1)=true):=by omega
  rw[if_neg hv0];simp only[z,Ag,if_false,bs];by_cases hb:1000000000<u
  ·rw[if_pos (Al (by omega)),if_pos (by omega)]
  ·have huv:u=v:=by omega
   subst huv;rw[if_neg (by simp;omega),if_neg hb,A3 (n:=(u:Int)) (by omega) (by omega)]
   match a,ha with
   |0,_=>rfl
   |1,_=>
    show some (i64.wrap (0-(u:Int)),(0:Int))=some (-(u:Int),0);rw[A3 (by omega) (by omega),Int.zero_sub]
theorem Y3{X Y:List UInt8}(h:X.length+Y.length≤1000000):(if((X.length:Int) !=i64.wrap ((((X++Y):List UInt8).length:Int)-1))=true then some true else(sAt (X++Y) (X.length:Int)).bind fun v=>some (v !=37))=some (decide (Y≠ [37])):=by
 have hl:(((X++Y):List UInt8).length:Int)=(X.length:Int)+(Y.length:Int):=by simp
 rw[hl,A3 (by omega) (by omega)]
 cases Y with
 |nil=>
  have:((X.length:Int) !=(X.length:Int)+(([]:List UInt8).length:Int)-1)=true:=by simp;omega
  rw[if_pos this];rfl
 |cons y Z=>
  cases Z with
  |nil=>
   have:((X.length:Int) !=(X.length:Int)+(([y]:List UInt8).length:Int)-1)=false:=by simp
   rw[this,if_neg (by decide),C8,bs];by_cases hy:y=37
   ·subst hy;rfl
   ·have hy':y.toNat≠37:=fun e=>hy (UInt8.toNat_inj.1 e);have z:((y.toNat:Int) !=37)=true:=by simp;omega
    rw[z];simp[hy]
  |cons z Z=>
   have:((X.length:Int) !=(X.length:Int)+(((y::z::Z):List UInt8).length:Int)-1)=true:=by simp;omega
   rw[if_pos this];simp
theorem SA{pre r:List UInt8}(hpre:pre.length≤1)(hr:r.length≤5000):
  ((GM (pre++r,(pre.length:Int))).bind fun x19=>
    (if(x19==0)=true then some true else if decide (x19>1)=true then(sAt (pre++r) (pre.length:Int)).bind fun v=>some (v==48)else some false).bind fun x31=>
     if x31=true then some ((0:Int),(3:Int))else
      (if decide (i64.wrap ((pre.length:Int)+x19)<((pre++r).length:Int))=true then(sAt (pre++r) (i64.wrap ((pre.length:Int)+x19))).bind fun v=>some (v==46)else some false).bind fun v=>
       (if v=true then(GM (pre++r,i64.wrap (i64.wrap ((pre.length:Int)+x19)+1))).bind fun x48=>
         (if(x48==0)=true then some true else some (decide (x48>4))).bind fun x54=>
          (if x54=true then some true else(sAt (pre++r) (i64.wrap (i64.wrap ((pre.length:Int)+x19)+x48))).bind fun v=>some (v==48)).bind fun x62=>
                  if x62=true then some (Sum.inr ((0:Int),(3:Int)))else some (Sum.inl (pre++r,(pre.length:Int),x19,i64.wrap (i64.wrap (i64.wrap ((pre.length:Int)+x19)+1)+x48),x48,()))
        else some (Sum.inl (pre++r,(pre.length:Int),x19,i64.wrap ((pre.length:Int)+x19),0,()))).bind fun o=>match o with
        |Sum.inl p184=>
         (if(p184.2.2.2.1 !=i64.wrap ((p184.1.length:Int)-1))=true then some true else(sAt p184.1 p184.2.2.2.1).bind fun v=>some (v !=37)).bind fun x77=>
          if x77=true then some (0,3)else
                  (iter HF (p184.1,p184.2.1,p184.2.2.1,p184.2.2.2.2.1,0,p184.2.1,())).bind fun o=>
                  (iter GK (o.1,o.2.1,o.2.2.1,o.2.2.2.1,u64.wrap (10000*o.2.2.2.2.1),1000,i64.wrap (i64.wrap (o.2.1+o.2.2.1)+1),())).bind fun o=>
                   (if(o.2.1==0)=true then some (o.1==1)else some false).bind fun x128=>
                    if x128=true then some (0,3)else if decide (o.2.1>1000000000)=true then some (0,2)else if(o.1==1)=true then some (i64.wrap (0-i64.wrap o.2.1),0)else some (i64.wrap o.2.1,0)
        |Sum.inr q185=>some q185)=some (DU (decide (pre.length=1)) r):=by
 rw[SB (by omega),bs];have hDR:=Ic r;have hDd:=OQ r;unfold DU;dsimp only
 have c1:(if(((r.takeWhile dig).length:Int)==0)=true then some true else if decide (((r.takeWhile dig).length:Int)>1)=true then(sAt (pre++r) (pre.length:Int)).bind fun v=>some (v==48)else some false)=some (decide (r.takeWhile dig= []∨(1<(r.takeWhile dig).length∧(r.takeWhile dig).head? =some 48))):=by
  cases hD:r.takeWhile dig with
  |nil=>rfl
  |cons b D'=>
   have z:((((b::D'):List UInt8).length:Int)==0)=false:=by simp;omega
   rw[z,if_neg (by decide)];by_cases hl:1<(b::D').length
   ·have sa:sAt (pre++r) (pre.length:Int)=some (b.toNat:Int):=by rw[←hDR,hD,List.cons_append];exact C8
    rw[if_pos (Al (by omega)),sa,bs];by_cases hb:b=48
    ·subst hb;have:((((48:UInt8).toNat:Int))==48)=true:=rfl;rw[this,Al];exact .inr ⟨hl,rfl⟩
    ·have hb':b.toNat≠48:=fun e=>hb (UInt8.toNat_inj.1 e);have:((b.toNat:Int)==48)=false:=by simp;omega
     rw[this,Ak];simp[hb]
   ·rw[Ak (show ¬((((b::D'):List UInt8).length:Int)>1) by omega),if_neg (by decide),Ak];intro k;rcases k with k|k
    ·cases k
    ·exact hl k.1
 rw[c1,bs];by_cases hc:r.takeWhile dig= []∨(1<(r.takeWhile dig).length∧(r.takeWhile dig).head? =some 48)
 ·rw[Al hc,if_pos rfl,if_pos hc]
 rw[Ak hc,if_neg (by decide),if_neg hc];generalize hD:r.takeWhile dig=D at*;generalize hR:r.dropWhile dig=R at*;subst hDR;simp only[List.length_append]at hr;have w1:i64.wrap ((pre.length:Int)+(D.length:Int))=((pre++D).length:Int):=by rw[A3 (by omega) (by omega)];simp
 have w2:i64.wrap (((pre++D).length:Int)+1)=((pre++D).length:Int)+1:=A3 (by omega) (by simp;omega);simp only[w1,w2];have hlen:(((pre++(D++R)):List UInt8).length:Int)=((pre++D).length:Int)+(R.length:Int):=by simp;omega
 have key:∀(E Y:List UInt8) (X:List UInt8) (few:Int),X++Y=pre++(D++R)→E.all dig=true→E.length≤4→few=(E.length:Int)→(Y= [37]→(few=0∧X=pre++D∧E= [])∨X=(pre++D++ [46])++E)→
   ((if((X.length:Int) !=i64.wrap ((((pre++(D++R)):List UInt8).length:Int)-1))=true then some true else(sAt (pre++(D++R)) (X.length:Int)).bind fun v=>some (v !=37)).bind fun x77=>
     if x77=true then some ((0:Int),(3:Int))else
        (iter HF (pre++(D++R),(pre.length:Int),(D.length:Int),few,0,(pre.length:Int),())).bind fun o=>
         (iter GK (o.1,o.2.1,o.2.2.1,o.2.2.2.1,u64.wrap (10000*o.2.2.2.2.1),1000,i64.wrap (i64.wrap (o.2.1+o.2.2.1)+1),())).bind fun o=>
            (if(o.2.1==0)=true then some (o.1==1)else some false).bind fun x128=>
             if x128=true then some (0,3)else if decide (o.2.1>1000000000)=true then some (0,2)else if(o.1==1)=true then some (i64.wrap (0-i64.wrap o.2.1),0)else some (i64.wrap o.2.1,0))=
     some (if Y= [37]then CR (decide (pre.length=1)) D E else(0,3)):=by
  intro E Y X few hXY hE hE4 hfew hshape;have hXl:X.length+Y.length=pre.length+(D.length+R.length):=by have:=congrArg List.length hXY;simpa using this
  rw[←hXY,Y3 (by omega),bs];by_cases hY:Y= [37]
  ·subst hY;rw[Ak (by simp),if_neg (by decide),if_pos rfl];have l2:=SD pre.length D.length E.length R D pre 0 hDd (by omega) (by omega) (by omega);rw[show((0:Nat):Int)=0 from rfl]at l2;rw[hXY,hfew,l2,bs];dsimp only;have hcap:=(JR (n:=0) (m:=0) hDd (by omega) (.inl rfl)).1;have w3:u64.wrap (10000*((Dx 0 D:Nat):Int))=((10000*Dx 0 D:Nat):Int):=by rw[EV (by omega) (by omega)];simp
   rw[w3,w1,w2]
   have l1:iter GK (pre++(D++R),(pre.length:Int),(D.length:Int),(E.length:Int),((10000*Dx 0 D:Nat):Int),1000,((pre++D).length:Int)+1,())=some ((pre.length:Int),((10000*Dx 0 D+Es 1000 E:Nat):Int),()):=by
    rcases hshape rfl with⟨hf0,hX,hE0⟩|hX
    ·subst hE0;have e1:pre++(D++R)=(pre++D++ [37])++([]++ []):=by rw[←hXY,hX];simp
     have:=Ot pre.length D.length 0 [] [] (pre++D++ [37]) (10000*Dx 0 D) 1000 rfl (by omega) (by simp) (by omega) (by simp;omega) (by simp;omega) (by simp;omega);rw[e1];have e2:(((pre++D++ [37]):List UInt8).length:Int)=((pre++D).length:Int)+1:=by rw[List.length_append];rfl
     rw[e2]at this;exact this
    ·have e1:pre++(D++R)=(pre++D++ [46])++(E++ [37]):=by rw[←hXY,hX];simp
     have hl:X.length=pre.length+D.length+1+E.length:=by rw[hX];simp;omega
     have:=Ot pre.length D.length E.length [37] E (pre++D++ [46]) (10000*Dx 0 D) 1000 hE (by omega) hE4 (by omega) (by simp;omega) (by simp at hXl⊢;omega) (by omega);rw[e1];have e2:(((pre++D++ [46]):List UInt8).length:Int)=((pre++D).length:Int)+1:=by rw[List.length_append];rfl
     rw[e2]at this;exact this
   rw[l1,bs];exact Y2 hpre hDd hE4 hE (K:=fun x y=>(if(y==0)=true then some (x==1)else some false).bind fun x128=>if x128=true then some (0,3)else if decide (y>1000000000)=true then some (0,2)else if(x==1)=true then some (i64.wrap (0-i64.wrap y),0)else some (i64.wrap y,0)) (fun x y=>rfl)
  ·rw[Al hY,if_pos rfl,if_neg hY]
 cases R with
 |nil=>
  have c2:decide (((pre++D).length:Int)<(((pre++(D++ [])):List UInt8).length:Int))=false:=Ak (by rw[hlen];simp);simp only[c2,Ag,if_false,bs];refine(key [] [] (pre++D) 0 (by simp) rfl (by simp) rfl (fun h=>by cases h)).trans ?_;rfl
 |cons c T=>
  have c2:decide (((pre++D).length:Int)<(((pre++(D++c::T)):List UInt8).length:Int))=true:=Al (by rw[hlen];simp;omega);have sa:sAt (pre++(D++c::T)) ((pre++D).length:Int)=some (c.toNat:Int):=by rw[←List.append_assoc];exact C8
  simp only[c2,if_true,sa,bs];by_cases h46:c=46
  ·subst h46;have z:((((46:UInt8).toNat:Int))==46)=true:=rfl;simp only[z,if_true];have e1:pre++(D++46::T)=(pre++D++ [46])++T:=by simp
   have e2:(((pre++D++ [46]):List UInt8).length:Int)=((pre++D).length:Int)+1:=by rw[List.length_append];rfl
   have hT:=Ic T;have hE:=OQ T;simp only[List.length_cons]at hr
   have rd:GM (pre++(D++46::T),((pre++D).length:Int)+1)=some ((T.takeWhile dig).length:Int):=by
    rw[e1,←e2];exact SB (by simp;omega)
   rw[rd,bs,if_neg (show ¬(46:UInt8)=37 by decide)];generalize hEE:T.takeWhile dig=E at*;generalize hYY:T.dropWhile dig=Y at*;subst hT;simp only[List.length_append]at hr;have w3:i64.wrap (((pre++D).length:Int)+(E.length:Int))=((pre++D).length:Int)+(E.length:Int):=A3 (by omega) (by simp;omega);have w4:i64.wrap (((pre++D).length:Int)+1+(E.length:Int))=(((pre++D++ [46])++E).length:Int):=by rw[A3 (by omega) (by simp;omega)];simp;omega
   simp only[w3,w4];have R1:(E= []∨4<E.length∨E.getLast? =some 48∨Y≠ [37])→(if E= []∨4<E.length∨E.getLast? =some 48∨Y≠ [37]then((0:Int),(3:Int))else CR (decide (pre.length=1)) D E)=(0,3):=fun h=>if_pos h;have R2:¬(E= []∨4<E.length∨E.getLast? =some 48∨Y≠ [37])→(if E= []∨4<E.length∨E.getLast? =some 48∨Y≠ [37]then((0:Int),(3:Int))else CR (decide (pre.length=1)) D E)=CR (decide (pre.length=1)) D E:=fun h=>if_neg h;by_cases hE0:E= []
   ·subst hE0;rw[R1 (.inl rfl)];rfl
   have z0:((E.length:Int)==0)=false:=by
    have:E.length≠0:=fun h=>hE0 (List.eq_nil_of_length_eq_zero h);simp;omega
   simp only[z0,Ag,if_false,bs];by_cases hE4:4<E.length
   ·rw[R1 (.inr (.inl hE4))];have z4:decide ((E.length:Int)>4)=true:=Al (by omega);simp only[z4,if_true,bs]
   have z4:decide ((E.length:Int)>4)=false:=Ak (by omega);simp only[z4,Ag,if_false]
   obtain⟨Q,x,rfl⟩:∃Q x,E=Q++ [x]:=by
    rcases List.eq_nil_or_concat E with h|⟨Q,x,h⟩
    ·exact absurd h hE0
    ·exact⟨Q,x,by simpa using h⟩
   have sx:sAt (pre++(D++46::(Q++ [x]++Y))) (((pre++D).length:Int)+(((Q++ [x]):List UInt8).length:Int))=some (x.toNat:Int):=by
    have e3:pre++(D++46::(Q++ [x]++Y))=(pre++D++ [46]++Q)++x::Y:=by simp
    have e4:((pre++D).length:Int)+(((Q++ [x]):List UInt8).length:Int)=(((pre++D++ [46]++Q):List UInt8).length:Int):=by simp;omega
    rw[e3,e4];exact C8
   rw[sx,bs];by_cases hx:x=48
   ·subst hx;have z5:((((48:UInt8).toNat:Int))==48)=true:=rfl;rw[z5,R1 (.inr (.inr (.inl (by simp))))];rfl
   ·have hx':x.toNat≠48:=fun e=>hx (UInt8.toNat_inj.1 e);have z5:((x.toNat:Int)==48)=false:=by simp;omega
    rw[z5];simp only[bs,Ag,if_false];refine(key (Q++ [x]) Y ((pre++D++ [46])++(Q++ [x])) _ (by simp) hE (by omega) rfl (fun _=>.inr rfl)).trans ?_;by_cases hY:Y= [37]
    ·rw[if_pos hY,R2 (fun k=>by
      rcases k with k|k|k|k
      ·simp at k
      ·exact hE4 k
      ·apply hx;simpa using k
      ·exact k hY)]
    ·rw[if_neg hY,R1 (.inr (.inr (.inr hY)))]
  ·have h46':c.toNat≠46:=fun e=>h46 (UInt8.toNat_inj.1 e);have z:((c.toNat:Int)==46)=false:=by simp;omega
   simp only[z,Ag,if_false,bs];refine(key [] (c::T) (pre++D) 0 (by simp) rfl (by simp) rfl (fun _=>.inl ⟨rfl,rfl,rfl⟩)).trans ?_
   congr 1
   by_cases h37:c=37
   ·rw[if_pos h37];by_cases hT:T= []
    ·subst hT;subst h37;rfl
    ·rw[if_neg hT,if_neg (by intro k;cases k;exact hT rfl)]
   ·rw[if_neg h37,if_neg h46,if_neg (by intro k;cases k;exact h37 rfl)]
theorem Y1(s:List UInt8)(h:s.length≤5000):On s=some (GE s):=by
 unfold On GE;dsimp only;simp only[gPi,gSS,gPb,gPm,gPs,gM,gM2,A9,gOr,AA,AG,gAA,gAO,gOA,gOO,A6,A8,AB,AE,A7,AD,gId];simp only[AL,AM,AN,AO,AP,AQ,AR,AS,gId,AV,gMb,gMm,gBm,gBb,bs,ms]
 cases s with
 |nil=>rfl
 |cons b t=>
  have e0:((b::t)==([]:List UInt8))=false:=rfl;rw[if_neg (by simp)];have sa:sAt (b::t) 0=some (b.toNat:Int):=C8 (pre:= []);simp only[e0,Ag,if_false,sa,bs];by_cases hb:b=45
  ·subst hb;have z:((((45:UInt8).toNat:Int))==45)=true:=rfl;simp only[z,if_true,bs];exact SA (pre:= [45]) (r:=t) (by simp) (by simp at h;omega)
  ·have hb':b.toNat≠45:=fun e=>hb (UInt8.toNat_inj.1 e);have z:((b.toNat:Int)==45)=false:=by simp;omega
   simp only[z,Ag,if_false,bs];rw[if_neg (show ¬(b::t).head? =some 45 by simpa using hb)];exact SA (pre:= []) (r:=b::t) (by simp) h
set_option linter.unusedSimpArgs false
set_option linter.unusedVariables false
def Dv(c:UInt8):List UInt8→List UInt8→List (List UInt8)
 |cur,[]=> [cur]
 |cur,b::t=>if b=c then cur::Dv c [] t else Dv c (cur++ [b]) t
def BI(c:UInt8)(s:List UInt8):List (List UInt8):=Dv c [] s
def CY(c:UInt8):Nat→List UInt8→List UInt8→List (List UInt8)
 |_,cur,[]=> [cur]
 |0,cur,s=> [cur++s]
 |k+1,cur,b::t=>if b=c then cur::CY c k [] t else CY c (k+1) (cur++ [b]) t
theorem Tz(c:UInt8)(k:Nat)(cur:List UInt8)(b:UInt8)(t:List UInt8):CY c (k+1) cur (b::t)=if b=c then cur::CY c k [] t else CY c (k+1) (cur++ [b]) t:=rfl
theorem Ze(c:UInt8)(cur:List UInt8)(b:UInt8)(t:List UInt8):Dv c cur (b::t)=if b=c then cur::Dv c [] t else Dv c (cur++ [b]) t:=rfl
theorem Mb(c:UInt8):∀(s cur:List UInt8) (k:Nat),s.count c≤k→CY c k cur s=Dv c cur s
 | [],cur,0,_=>rfl
 | [],cur,k+1,_=>rfl
 |b::t,cur,0,h=>by
  have hb:¬b=c:=by intro e;subst e;simp at h
  have ht:t.count c≤0:=by rw[List.count_cons]at h;omega
  have e:=Mb c t (cur++ [b]) 0 ht;unfold Dv;rw[if_neg hb,←e];show [cur++b::t]=_
  cases t with
  |nil=>rfl
  |cons d t=>show _= [cur++ [b]++d::t];simp
 |b::t,cur,k+1,h=>by
  unfold CY Dv;by_cases hb:b=c
  ·subst hb;rw[if_pos rfl,if_pos rfl,Mb b t [] k (by simp at h;omega)]
  ·rw[if_neg hb,if_neg hb,Mb c t (cur++ [b]) (k+1) (by rw[List.count_cons]at h;omega)]
theorem T0(c:UInt8):∀(s cur:List UInt8) (k:Nat),(∀b∈s,b≠c)→CY c k cur s= [cur++s]
 | [],cur,0,_=>by unfold CY;simp
 | [],cur,k+1,_=>by unfold CY;simp
 |b::t,cur,0,h=>by unfold CY;rfl
 |b::t,cur,k+1,h=>by
  unfold CY;rw[if_neg (h b (by simp)),T0 c t _ _ fun x hx=>h x (by simp[hx])];simp
theorem Tx(c:UInt8):∀(l t cur:List UInt8) (k:Nat),(∀b∈l,b≠c)→CY c (k+1) cur (l++c::t)=(cur++l)::CY c k [] t
 | [],t,cur,k,_=>by rw[List.nil_append,Tz,if_pos rfl];simp
 |b::l,t,cur,k,h=>by
  rw[List.cons_append,Tz,if_neg (h b (by simp)),Tx c l t _ _ fun x hx=>h x (by simp[hx])];simp
theorem PF(c:UInt8)(s:List UInt8):(∀x∈s,x≠c)∨∃l t,s=l++c::t∧∀x∈l,x≠c:=by
 induction s with
 |nil=>exact .inl (by simp)
 |cons b s ih=>
  by_cases hb:b=c
  ·exact .inr ⟨[],s,by rw[hb];rfl,by simp⟩
  ·rcases ih with h|⟨l,t,rfl,h⟩
   ·exact .inl (by intro x hx;rcases List.mem_cons.1 hx with rfl|hx;exact hb;exact h x hx)
   ·exact .inr ⟨b::l,t,rfl,by intro x hx;rcases List.mem_cons.1 hx with rfl|hx;exact hb;exact h x hx⟩
theorem OD(c:UInt8):∀(s cur:List UInt8),(Dv c cur s).length=s.count c+1
 | [],cur=>rfl
 |b::t,cur=>by
  unfold Dv;rw[List.count_cons];by_cases hb:b=c
  ·subst hb;rw[if_pos rfl,List.length_cons,OD b t []];simp
  ·rw[if_neg hb,OD c t _];simp[hb]
theorem Mc(c:UInt8):∀(s cur:List UInt8),(∀x∈cur,x≠c)→∀w∈Dv c cur s,(∀x∈w,x≠c)∧w.length≤cur.length+s.length∧(∀x∈w,x∈cur∨x∈s)
 | [],cur,h,w,hw=>by unfold Dv at hw;simp at hw;subst hw;exact⟨h,by simp,fun x hx=>.inl hx⟩
 |b::t,cur,h,w,hw=>by
  unfold Dv at hw;split at hw
  ·rcases List.mem_cons.1 hw with rfl|hw
   ·exact⟨h,by simp,fun x hx=>.inl hx⟩
   ·obtain⟨h1,h2,h3⟩:=Mc c t [] (by simp) w hw;exact⟨h1,by simp at h2⊢;omega,fun x hx=>by rcases h3 x hx with h4|h4;cases h4;exact .inr (by simp[h4])⟩
  ·rename_i hb;obtain⟨h1,h2,h3⟩:=Mc c t (cur++ [b]) (by intro x hx;rcases List.mem_append.1 hx with hx|hx;exact h x hx;simp at hx;subst hx;exact hb) w hw
   exact⟨h1,by simp at h2⊢;omega,fun x hx=>by
    rcases h3 x hx with h4|h4
    ·rcases List.mem_append.1 h4 with h4|h4
     ·exact .inl h4
     ·simp at h4;exact .inr (by simp[h4])
    ·exact .inr (by simp[h4])⟩
theorem Rp{l:List UInt8}{c:UInt8}(h:∀b∈l,b≠c):Lib.indexByte l c= -1:=by
 induction l with
 |nil=>rfl
 |cons b t ih=>
  have hb:(b==c)=false:=by simpa using h b (by simp)
  simp[Lib.indexByte,hb,ih fun x hx=>h x (by simp[hx])]
theorem Ro{l t:List UInt8}{c:UInt8}(h:∀b∈l,b≠c):Lib.indexByte (l++c::t) c=(l.length:Int):=by
 induction l with
 |nil=>simp[Lib.indexByte]
 |cons b u ih=>
  have hb:(b==c)=false:=by simpa using h b (by simp)
  have e:=ih fun x hx=>h x (by simp[hx]);simp only[List.cons_append,Lib.indexByte,hb,e];have:(((u.length:Int))== -1)=false:=by simp
  simp[this]
theorem Pf(s:List UInt8)(c:UInt8):OI (s,[c])=some (Lib.indexByte s c):=rfl
theorem WR(c:UInt8):∀(k:Nat) (done:List (List UInt8)) (s:List UInt8),s.length≤1000000→done.length+k≤1000000→
  ∃(s':List UInt8) (i:Nat) (a:List (List UInt8)),iter Ia (s,[c],0,((done.length+k:Nat):Int),(done.length:Int),done++List.replicate (k+1) [],(),())=some (s',(i:Int),a,(),())∧i<a.length∧i≤1000000∧(a.set i s').take (i+1)=done++CY c k [] s:=by
 intro k
 induction k with
 |zero=>
  intro done s hs hd;refine⟨s,done.length,done++List.replicate 1 [], ?_,by simp,by omega, ?_⟩
  ·rw[BV];unfold Ia;dsimp only;rw[Ak (show ¬(done.length:Int)<((done.length+0:Nat):Int) by omega)];rfl
  ·have e:(done++List.replicate 1 []).set done.length s=done++ [s]:=by simp
   rw[e];have:CY c 0 [] s= [s]:=by cases s<;>rfl
   rw[this,List.take_of_length_le (by simp)]
 |succ k ih=>
  intro done s hs hd;have hlt:decide ((done.length:Int)<((done.length+(k+1):Nat):Int))=true:=Al (by omega);rcases PF c s with h|⟨l,t,rfl,h⟩
  ·refine⟨s,done.length,done++List.replicate (k+1+1) [], ?_,by simp,by omega, ?_⟩
   ·rw[BV];unfold Ia;dsimp only;rw[hlt,if_pos rfl,Pf,Rp h,bs];rfl
   ·have e:(done++List.replicate (k+1+1) []).set done.length s=done++s::List.replicate (k+1) []:=by
     rw[List.replicate_succ];simp
    rw[e,T0 c s [] (k+1) h];rw[show done++s::List.replicate (k+1) []=(done++ [s])++List.replicate (k+1) [] by simp];rw[List.take_append_of_le_length (by simp),List.take_of_length_le (by simp)];rfl
  ·have hl:l.length+t.length+1≤1000000:=by simp at hs;omega
   obtain⟨s',i,a,h1,h2,h3,h4⟩:=ih (done++ [l]) t (by omega) (by simp;omega);refine⟨s',i,a, ?_,h2,h3, ?_⟩
   ·rw[BV];unfold Ia;dsimp only;rw[hlt,if_pos rfl,Pf,Ro h,bs];have c1:decide ((l.length:Int)<0)=false:=Ak (by omega);rw[c1];simp only[Ag,if_false];have w1:i64.wrap ((l.length:Int)+0)=(l.length:Int):=by rw[A3 (by omega) (by omega)];omega
    have l1:Be (l++c::t) 0 (l.length:Int)=some l:=by
     have:=CU (xs:=l++c::t) (i:=0) (j:=l.length) (by omega) (by simp);simpa using this
    have w2:i64.wrap ((l.length:Int)+(([c]:List UInt8).length:Int))=((l.length+1:Nat):Int):=by
     rw[A3 (by omega) (by simp only[List.length_cons,List.length_nil];omega)];simp
    have l2:Be (l++c::t) ((l.length+1:Nat):Int) (((l++c::t):List UInt8).length:Int)=some t:=by
     have:=CU (xs:=l++c::t) (i:=l.length+1) (j:=(l++c::t).length) (by simp) (by omega);rw[this,List.take_length];simp
    have w3:i64.wrap ((done.length:Int)+1)=(((done++ [l]).length:Nat):Int):=by rw[A3 (by omega) (by omega)];simp
    have hin:0≤(done.length:Int)∧(done.length:Int)<((done++List.replicate (k+1+1) []:List (List UInt8)).length:Int):=by simp;omega
    have hget:(done++List.replicate (k+1+1) [])[(done.length:Int).toNat]? =some ([]:List UInt8):=by
     rw[Int.toNat_natCast,List.replicate_succ];simp
    have hset:(done++List.replicate (k+1+1) []).set (done.length:Int).toNat l=(done++ [l])++List.replicate (k+1) []:=by
     rw[Int.toNat_natCast,List.replicate_succ];simp
    rw[w1,l1,bs,if_pos hin,bs,hget,hset,ms,bs,w2,l2,bs,w3];have e1:((done++ [l]).length+k:Nat)=done.length+(k+1):=by simp;omega
    rw[e1]at h1;exact h1
   ·rw[h4,Tx c l t [] k h];simp
theorem WK{c:UInt8}{s:List UInt8}{k:Nat}(hs:s.length≤1000000)(hk:k≤1000000){n:Int}(hn:n=((k+1:Nat):Int)):
  ((if 0≤n∧n≤n∧n*(16:Int)≤140737488355328∧n≤4611686018427387904 then some (List.replicate n.toNat ([]:List UInt8))else none).bind fun l31=>
    Option.bind ((iter Ia (s,[c],(0:Int),i64.wrap (n-(1:Int)),(0:Int),l31,(),())).bind fun o=>some (o.1,o.2.1,o.2.2.1,(),())) fun o=>
    Option.bind (if 0≤o.2.1∧o.2.1<(o.2.2.1.length:Int)then some o.2.1.toNat else none) fun x61=>
    Option.bind ((o.2.2.1[x61]?).map (fun el18=>o.2.2.1.set x61 o.1)) fun l31=>
    Option.bind (Be l31 (0:Int) (i64.wrap (o.2.1+(1:Int)))) fun x65=>some x65)=some (CY c k [] s):=by
 subst hn;obtain⟨s',i,a,h1,h2,h3,h4⟩:=WR c k [] s hs (by simpa using hk);simp only[List.length_nil,Nat.zero_add,List.nil_append]at h1 h4;rw[if_pos (by omega),bs,Int.toNat_natCast];have w1:i64.wrap (((k+1:Nat):Int)-1)=(k:Int):=by rw[A3 (by omega) (by omega)];omega
 rw[w1];rw[show((0:Nat):Int)=0 from rfl]at h1;rw[h1,bs,bs];dsimp only;have hg:a[i]? =some (a[i]'h2):=Ai _;rw[if_pos (by omega),bs,Int.toNat_natCast,hg,ms,bs];have w2:i64.wrap ((i:Int)+1)=((i+1:Nat):Int):=by rw[A3 (by omega) (by omega)];omega
 have:=CU (xs:=a.set i s') (i:=0) (j:=i+1) (by omega) (by simp;omega);rw[w2];rw[show(0:Int)=((0:Nat):Int)from rfl,this,bs];simp only[List.drop_zero];rw[h4]
theorem P2{c:UInt8}{s:List UInt8}(hs:s.length≤900000):GT (s,[c])=some (BI c s):=by
 unfold GT OJ;dsimp only;have c1:(([c]:List UInt8)== [])=false:=rfl;have c2:((-1:Int)==0)=false:=rfl;have c3:decide ((-1:Int)<0)=true:=rfl;have hcnt:JC (s,[c])=some (s.count c:Int):=rfl;have hle:s.count c≤s.length:=List.count_le_length;have w1:i64.wrap ((s.count c:Int)+1)=((s.count c+1:Nat):Int):=by rw[A3 (by omega) (by omega)];omega
 have w2:i64.wrap ((s.length:Int)+1)=((s.length+1:Nat):Int):=by rw[A3 (by omega) (by omega)];omega
 simp only[c1,c2,c3,Ag,if_false,if_true,hcnt,bs,w1,w2];have hm:min (((s.count c+1:Nat)):Int) ((s.length+1:Nat):Int)=((s.count c+1:Nat):Int):=by omega
 rw[hm,WK (k:=s.count c) (by omega) (by omega) rfl,bs,Mb c s [] _ (Nat.le_refl _)];rfl
theorem Ui{l:List UInt8}{c:UInt8}(h:∀b∈l,b≠c):Dw (l,[c])=some (l,[],false):=by
 have hi:Fg (l,[c])=some (-1):=congrArg some (Rp h);unfold Dw Hy;dsimp only;rw[hi,bs];rfl
theorem Uh{l t:List UInt8}{c:UInt8}(h:∀b∈l,b≠c)(hl:(l++c::t).length≤4611686018427387904):Dw (l++c::t,[c])=some (l,t,true):=by
 have hi:Fg (l++c::t,[c])=some (l.length:Int):=congrArg some (Ro h);unfold Dw Hy;dsimp only;rw[hi,bs];have e:decide ((l.length:Int)≥0)=true:=Al (by omega)
 have l1:Be (l++c::t) 0 (l.length:Int)=some l:=by
  have:=CU (xs:=l++c::t) (i:=0) (j:=l.length) (by omega) (by simp);simpa using this
 have w:i64.wrap ((l.length:Int)+(([c]:List UInt8).length:Int))=((l.length+1:Nat):Int):=by
  simp only[List.length_append,List.length_cons]at hl;rw[A3 (by omega) (by simp only[List.length_cons,List.length_nil];omega)];simp
 have l2:Be (l++c::t) ((l.length+1:Nat):Int) (((l++c::t):List UInt8).length:Int)=some t:=by
  have:=CU (xs:=l++c::t) (i:=l.length+1) (j:=(l++c::t).length) (by simp) (by omega);rw[this,List.take_length];simp
 rw[e,if_pos rfl,l1,bs,w,l2,bs];rfl
set_option linter.unusedSimpArgs false
set_option linter.unusedVariables false
theorem MS(c:UInt8):∀(s:List UInt8) (done:List (List UInt8)) (cur:List UInt8),Bg (T:=List (List UInt8)×Unit×Unit) (fun(a:List (List UInt8)×List UInt8) x=>if x=c then Sum.inl (a.1++ [a.2],[])else Sum.inl (a.1,a.2++ [x])) (fun a=>(a.1++ [a.2],(),())) (done,cur) s=(done++Dv c cur s,(),())
 | [],done,cur=>rfl
 |x::s,done,cur=>by
  rw[Bg,Ze];by_cases h:x=c
  ·rw[if_pos h,if_pos h];simp only;rw[MS c s];simp
  ·rw[if_neg h,if_neg h];simp only;rw[MS c s]
theorem Yx{s:List UInt8}{c:UInt8}(h:s.length≤900000):LI (s,(c.toNat:Int))=some (BI c s):=by
 unfold LI;dsimp only;have e:=Eu (b:=LJ) (A:=List (List UInt8)×List UInt8) (fun i a=>(s,(c.toNat:Int),(i:Int),a.1++ [a.2],(),())) (fun a x=>if x=c then Sum.inl (a.1++ [a.2],[])else Sum.inl (a.1,a.2++ [x])) (fun a=>(a.1++ [a.2],(),())) (fun i a=>a.1.length≤i∧a.2.length≤i) s (a:=([],[])) ⟨by simp,by simp⟩ ?_ ?_ ?_
 ·rw[show((0:Nat):Int)=0 from rfl]at e;rw[show(([[]]:List (List UInt8)))=([]:List (List UInt8))++ [[]]from rfl,e,MS,bs];rfl
 ·rintro i x ⟨done,cur⟩ hx ⟨h1,h2⟩
  dsimp only at h1 h2⊢;have hi:=(Ae.1 hx).1;have ws:=Bu (show i<9223372036854775807 by omega);unfold LJ;dsimp only;simp only[gPi,gSS,gPb,gPm,gPs,gM,gM2,A9,gOr,AA,AG,gAA,gAO,gOA,gOO,A6,A8,AB,AE,A7,AD,gId];simp only[AL,AM,AN,AO,AP,AQ,AR,AS,gId,AV,gMb,gMm,gBm,gBb,bs,ms];simp only[BP hx,if_true,DL hx,bs]
  have e1:((x.toNat:Int)==(c.toNat:Int))=decide (x=c):=by
   by_cases hc:x=c
   ·subst hc;simp
   ·have:¬(x.toNat:Int)=(c.toNat:Int):=fun hh=>hc (UInt8.toNat_inj.1 (by omega));simp[hc,this]
  rw[e1];by_cases hc:x=c
  ·have r1:(x=c)=True:=eq_true hc;have g:((((done++ [cur]).length:Int)+(([[]]:List (List UInt8)).length:Int))*16≤140737488355328∧((done++ [cur]).length:Int)+(([[]]:List (List UInt8)).length:Int)≤4611686018427387904)=True:=eq_true (by simp;omega);simp only[r1,decide_true,if_true,g,bs,ws,EU]
  ·have r1:(x=c)=False:=eq_false hc
   have w1:i64.wrap (((done++ [cur]).length:Int)-1)=(done.length:Int):=by
    have hl:(done++ [cur]).length=done.length+1:=by simp
    rw[hl,A3 (by omega) (by omega)];omega
   have g:(0≤(done.length:Int)∧(done.length:Int)<((done++ [cur]).length:Int))=True:=eq_true (by simp;omega);have hg:(done++ [cur])[done.length]? =some cur:=by simp
   have hsub:Be s (i:Int) ((i+1:Nat):Int)=some [x]:=by
    rw[CU (by omega) (by omega)]
    congr 1
    apply List.ext_getElem?;intro j;rw[List.getElem?_drop,List.getElem?_take]
    cases j with
    |zero=>simp[hx]
    |succ j=>simp
   have hset:(done++ [cur]).set done.length (cur++ [x])=done++ [cur++ [x]]:=by simp
   have hz:(cur.length+([x]:List UInt8).length≤4611686018427387904)=True:=eq_true (by simp;omega);simp only[r1,decide_false,Ag,if_false,w1,g,if_true,Int.toNat_natCast,hg,bs,ws,hsub,hz,hset,EU]
 ·rintro i x ⟨done,cur⟩ a' hx ⟨h1,h2⟩ hst
  dsimp only at h1 h2 hst;split at hst
  ·cases hst;exact⟨by simp;omega,by simp⟩
  ·cases hst;exact⟨by dsimp only;omega,by simp;omega⟩
 ·rintro⟨done,cur⟩ _
  unfold LJ;dsimp only;simp only[Cb,Ag,if_false]
theorem PB{s:List UInt8}(h:s.length≤1000000):∃b,I3 s=some b∧LL s=some b:=by
 unfold I3 LL;dsimp only;rcases UQ h with⟨c,hc,e⟩|⟨hn,e⟩
 ·rcases S9 h with⟨d,hd,e'⟩|⟨hn',e'⟩
  ·have:=WZ hc hd;subst this;rw[e,e',bs,bs];exact⟨decide (c≥0),rfl,rfl⟩
  ·exact absurd hc (hn' c)
 ·rcases S9 h with⟨d,hd,e'⟩|⟨hn',e'⟩
  ·exact absurd hd (hn d)
  ·rw[e,e',bs,bs];exact⟨false,rfl,rfl⟩
theorem XY{s:List UInt8}(h:s.length≤4900):∃b,Gw s=some b∧Oq s=some b:=by
 have hw:∀w∈BI 32 s,w.length≤4900:=fun w hw=>by
  have:=(Mc 32 s [] (by simp) w hw).2.1;simp at this;omega
 have e1:GT (s,[32])=some (BI 32 s):=P2 (by omega);have e2:LI (s,32)=some (BI 32 s):=Yx (c:=32) (by omega);unfold Gw Oq;dsimp only;simp only[gPi,gSS,gPb,gPm,gPs,gM,gM2,A9,gOr,AA,AG,gAA,gAO,gOA,gOO,A6,A8,AB,AE,A7,AD,gId];simp only[AL,AM,AN,AO,AP,AQ,AR,AS,gId,AV,gMb,gMm,gBm,gBb,bs,ms];rw[e1,e2,bs,bs];by_cases h4:(BI 32 s).length=4
 ·obtain⟨a,b,c,d,hl⟩:∃a b c d,BI 32 s= [a,b,c,d]:=by
   match hs:BI 32 s,h4 with
   | [a,b,c,d],_=>exact⟨a,b,c,d,rfl⟩
  rw[hl]at hw⊢;have ha:=hw a (by simp);have hb:=hw b (by simp);have hc:=hw c (by simp);have hd:=hw d (by simp);obtain⟨x,hx1,hx2⟩:=PB (s:=c) (by omega);obtain⟨y,hy1,hy2⟩:=PB (s:=d) (by omega);have p1:=Yu b (by omega);have p2:=Y1 b (by omega);have t1:=Nk (s:=a) (most:=99) (by omega) (by decide);have t2:=Y0 (s:=a) (most:=99) (by omega) (by decide) (by decide);have l0:lAt [a,b,c,d] 0=some a:=Bd (i:=0) rfl;have l1:lAt [a,b,c,d] 1=some b:=Bd (i:=1) rfl;have l2:lAt [a,b,c,d] 2=some c:=Bd (i:=2) rfl;have l3:lAt [a,b,c,d] 3=some d:=Bd (i:=3) rfl;have c4:((([a,b,c,d]:List (List UInt8)).length:Int) !=4)=false:=rfl;have t3:(if Dk a 99=true then((Ay 0 a:Int),true)else(0,false)).2=Dk a 99:=by cases Dk a 99<;>rfl
  simp only[c4,Ag,if_false,l0,l1,l2,l3,bs,hx1,hx2,hy1,hy2,p1,p2,t1,t2,t3];generalize Dk a 99=q1;obtain⟨q2,h2⟩:∃q,((GE b).2==0)=q:=⟨_,rfl⟩;obtain⟨q3,h3⟩:∃q,decide ((GE b).1≥0)=q:=⟨_,rfl⟩;obtain⟨q4,h4⟩:∃q,decide ((GE b).1≤1000000)=q:=⟨_,rfl⟩;simp only[h2,h3,h4];cases q1<;>cases q2<;>cases q3<;>cases q4<;>cases x<;>cases y<;>exact⟨_,rfl,rfl⟩
 ·have c4:(((BI 32 s).length:Int) !=4)=true:=by
   have:¬((BI 32 s).length:Int)=4:=by omega
   simpa using this
  simp only[c4,if_true,bs];exact⟨false,rfl,rfl⟩
theorem Ue{l:List (List UInt8)}{x:List UInt8}(h:l.length≤1000000):LX (l,x)=some (l.any fun y=>x==y):=by
 unfold LX O9;dsimp only;have e:=Eu (b:=LY) (A:=Nat) (T:=Unit⊕Int) (fun i a=>(l,x,(l.length:Int),(i:Int),())) (fun a y=>if(x==y)=true then Sum.inr (.inr (a:Int))else Sum.inl (a+1)) (fun _=>.inl ()) (fun i a=>a=i) l (a:=0) rfl ?_ ?_ ?_
 ·rw[show((0:Nat):Int)=0 from rfl]at e;rw[e]
  have key:∀(l:List (List UInt8)) (a:Nat),(∃j:Nat,Bg (T:=Unit⊕Int) (fun(a:Nat) y=>if(x==y)=true then Sum.inr (.inr (a:Int))else Sum.inl (a+1)) (fun _=>.inl ()) a l=.inr (j:Int)∧(l.any fun y=>x==y)=true)∨(Bg (T:=Unit⊕Int) (fun(a:Nat) y=>if(x==y)=true then Sum.inr (.inr (a:Int))else Sum.inl (a+1)) (fun _=>.inl ()) a l=.inl ()∧(l.any fun y=>x==y)=false):=by
   intro l
   induction l with
   |nil=>intro a;exact .inr ⟨rfl,rfl⟩
   |cons y l ih=>
    intro a;rw[Bg,List.any_cons]
    cases hxy:x==y with
    |true=>exact .inl ⟨a,by simp,by simp⟩
    |false=>
     simp only[Ag,if_false,Bool.false_or];exact ih (a+1)
  rcases key l 0 with⟨j,h1,h2⟩|⟨h1,h2⟩
  ·rw[h1,h2,bs,bs,Al (show(j:Int)≥0 by omega)]
  ·rw[h1,h2,bs,bs];rfl
 ·rintro i y a hx rfl
  have hi:=(Ae.1 hx).1;have ws:=Bu (show a<9223372036854775807 by omega);unfold LY;dsimp only;simp only[gPi,gSS,gPb,gPm,gPs,gM,gM2,A9,gOr,AA,AG,gAA,gAO,gOA,gOO,A6,A8,AB,AE,A7,AD,gId];simp only[BP hx,if_true,Bd hx,bs,ws];cases x==y<;>rfl
 ·rintro i y a a' hx rfl hst
  split at hst
  ·cases hst
  ·cases hst;rfl
 ·rintro a _
  unfold LY;dsimp only;simp only[Cb,Ag,if_false]
def Mw(s:List UInt8):Bool:=s== [115,105,99,107]||s== [108,101,97,118,101]||s== [117,110,112,97,105,100]||s== [112,97,114,101,110,116,97,108]
theorem Ut(s:List UInt8):Kv s=some (Mw s):=by
 unfold Kv;dsimp only;rw[Ue (by decide),bs]
 congr 1
 unfold Mw;simp[Bool.or_assoc]
end WB
