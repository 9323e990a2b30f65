/-
  OWN TEXTS, MERGED (wip/merge.py): Pyn, Pya, Pct, Pspl, Pyb, Pyc, Pyd, Pye. No condition of their own.
-/
import Derived.Test.YtdnifdddokcnlaaDoorK8
import Derived.Test.YtdnifdddokcnlaaDoorK7
set_option linter.unusedVariables false
set_option linter.unusedSimpArgs false
open Go.IntKind (i64 u64 u8 u32)
namespace WB
open Go Go.RowKit
theorem itL{S T:Type}{b:S→Option (S⊕T)}{s s':S}(h:b s=some (.inl s')):iter b s=iter b s':=by rw[EQ,h];rfl
theorem itR{S T:Type}{b:S→Option (S⊕T)}{s:S}{t:T}(h:b s=some (.inr t)):iter b s=some t:=by rw[EQ,h];rfl
theorem Wv{pre t:List UInt8}{b:UInt8}:sAt (pre++b::t) (pre.length:Int)=some (b.toNat:Int):=Gv (by simp)
def okb(b:UInt8):Bool:= !((decide ((b.toNat:Int)<97)||decide ((b.toNat:Int)>122))&&(decide ((b.toNat:Int)<48)||decide ((b.toNat:Int)>57))&&((b.toNat:Int) !=46)&&((b.toNat:Int) !=95)&&((b.toNat:Int) !=45))
def BK(s:List UInt8):Bool:=s.all okb&& !(s== [])&& !(s== [45])&&decide ((s.length:Int)≤32)
theorem PQ{pre t:List UInt8}{b:UInt8}{n:Int}(c:decide ((pre.length:Int)<n)=true):
  Iq (pre++b::t,n,(pre.length:Int),())=some (if okb b=true then .inl (pre++b::t,n,i64.wrap ((pre.length:Int)+1),())else .inr (.inr false)):=by
 unfold Iq;dsimp only;simp only[gPi,gSS,gPb,gPm,gPs,gM,gM2,Bp,gOr,Bq,Bu,gAA,gAO,gOA,gOO,Bm,Bo,Br,Bt,Bn,Bs,gId];simp only[Bz,B0,B1,B2,B3,B4,B5,B6,gId,By,gMb,gMm,gBm,gBb,bs,ms];simp only[c,if_true,Wv,bs];unfold okb;generalize decide ((b.toNat:Int)<97)=q1;generalize decide ((b.toNat:Int)>122)=q2;generalize decide ((b.toNat:Int)<48)=q3;generalize decide ((b.toNat:Int)>57)=q4;generalize ((b.toNat:Int) !=46)=q5;generalize ((b.toNat:Int) !=95)=q6;generalize ((b.toNat:Int) !=45)=q7;cases q1<;>cases q2<;>cases q3<;>cases q4<;>cases q5<;>cases q6<;>cases q7<;>rfl
theorem PP:∀(t pre:List UInt8),pre.length+t.length≤4611686018427387904→iter Iq (pre++t,((pre++t).length:Int),(pre.length:Int),())=some (if t.all okb then .inl (pre++t,())else .inr false)
 | [],pre,h2=>by
  refine itR ?_;unfold Iq;dsimp only;have c:decide ((pre.length:Int)<(((pre++ []):List UInt8).length:Int))=false:=Ak (by simp);simp only[c,Ag,if_false,List.all_nil,if_true]
 |b::t,pre,h2=>by
  simp only[List.length_cons]at h2;have w1:i64.wrap ((pre.length:Int)+1)=((pre++ [b]).length:Int):=by rw[AS (by omega) (by omega)];simp
  have c:decide ((pre.length:Int)<(((pre++b::t):List UInt8).length:Int))=true:=Al (by simp;omega);by_cases hd:okb b=true
  ·have e:=PP t (pre++ [b]) (by simp;omega);rw[List.append_assoc,List.singleton_append]at e;refine(itL (s':=(pre++b::t,((pre++b::t).length:Int),((pre++ [b]).length:Int),())) ?_).trans (e.trans ?_)
   ·rw[PQ c,if_pos hd,w1]
   ·simp[hd]
  ·refine(itR (t:=Sum.inr false) ?_).trans ?_
   ·rw[PQ c,if_neg hd]
   ·simp[hd]
theorem Mg{s:List UInt8}(h:s.length≤4611686018427387904):Hi s=some (BK s):=by
 unfold Hi;dsimp only;simp only[gPi,gSS,gPb,gPm,gPs,gM,gM2,Bp,gOr,Bq,Bu,gAA,gAO,gOA,gOO,Bm,Bo,Br,Bt,Bn,Bs,gId];simp only[Bz,B0,B1,B2,B3,B4,B5,B6,gId,By,gMb,gMm,gBm,gBb,bs,ms];have:=PP s [] (by simpa using h);simp only[List.nil_append,List.length_nil]at this;rw[show((0:Nat):Int)=0 from rfl]at this;rw[this];unfold BK
 cases hh:s.all okb with
 |true=>
  simp only[if_true,bs];cases s== []<;>cases s== [45]<;>rfl
 |false=>rfl
theorem PB{α:Type}{T:Type}(p:α→Bool)(no yes:T):∀l:List α,A6 (fun(_:Unit) x=>if p x=true then Sum.inl ()else Sum.inr no) (fun _=>yes) () l=if l.all p=true then yes else no
 | []=>rfl
 |x::l=>by
  rw[A6];by_cases h:p x=true
  ·rw[if_pos h];simp only;rw[PB p no yes l];simp[h]
  ·rw[if_neg h];simp[h]
theorem QR{M:Nat}(hM:M≤18446744073709551615):∀(s:List UInt8) (a:Nat),s.all dgt=true→a≤M→Lib.parseUintM M a s=if A4 a s≤M then .ok (A4 a s)else .range
 | [],a,_,ha=>by
  unfold Lib.parseUintM;rw[if_pos (show A4 a []≤M from ha)];rfl
 |c::s,a,h,ha=>by
  simp only[List.all_cons,Af]at h;have hd:=Dj.1 h.1;have e:A4 a (c::s)=A4 (a*10+(c.toNat-48)) s:=rfl;have hle:=JN s (a*10+(c.toNat-48));unfold Lib.parseUintM;rw[if_pos hd,e];by_cases h1:1844674407370955162≤a
  ·rw[if_pos h1,if_neg (by omega)]
  ·rw[if_neg h1];by_cases h2:M<a*10+(c.toNat-48)
   ·rw[if_pos h2,if_neg (by omega)]
   ·rw[if_neg h2];exact QR hM s _ h.2 (by omega)
def GV(s:List UInt8):Bool:=s== []||(decide ((s.length:Int)>1)&&s.head? ==some 48)
theorem O6(s:List UInt8):Cu s=(!GV s&&s.all dgt):=by
 unfold Cu GV;cases s== []<;>cases decide ((s.length:Int)>1)<;>cases s.head? ==some 48<;>simp
def Dz(s:List UInt8):Int:=if s.all dgt=true∧s≠ []then(if A4 0 s≤18446744073709551615 then(A4 0 s:Int)else 18446744073709551615)else 0
def BV(s:List UInt8)(most:Int):Bool:=Cu s&&decide ((A4 0 s:Int)≤most)
theorem Xb{s:List UInt8}(h:s≠ []):(if((s.length:Int)==1)=true then some true else(sAt s 0).bind fun v=>some (v !=48))=some (!GV s):=by
 unfold GV
 cases s with
 |nil=>exact absurd rfl h
 |cons c s=>
  have h1:((c::s)==([]:List UInt8))=false:=rfl;have h2:sAt (c::s) 0=some (c.toNat:Int):=Gv (i:=0) rfl;rw[h1,h2,bs]
  have h3:((c.toNat:Int) !=48)= !((c::s).head? ==some 48):=by
   simp only[List.head?_cons];by_cases h:c=48
   ·subst h;rfl
   ·have:¬c.toNat=48:=fun h'=>h (UInt8.toNat_inj.1 h');have e1:((c.toNat:Int) !=48)=true:=by simp;omega
    have e2:(some c==some (48:UInt8))=false:=by simpa using h
    rw[e1,e2];rfl
  rw[h3]
  have h4:(((c::s).length:Int)==1)= !decide (((c::s).length:Int)>1):=by
   have:0<(c::s).length:=by simp
   by_cases h:(c::s).length=1
   ·rw[h];rfl
   ·rw[Al (by omega)]
    have:(((c::s).length:Int)==1)=false:=by
     rw[beq_eq_false_iff_ne];omega
    rw[this];rfl
  rw[h4];cases decide (((c::s).length:Int)>1)<;>cases ((c::s).head? ==some 48)<;>rfl
theorem Hl{s:List UInt8}{most:Int}(h:s.length≤281474976710656)(hm:most≤18446744073709551615):Gn (s,most)=some (Dz s,BV s most):=by
 unfold Gn;dsimp only;simp only[gPi,gSS,gPb,gPm,gPs,gM,gM2,Bp,gOr,Bq,Bu,gAA,gAO,gOA,gOO,Bm,Bo,Br,Bt,Bn,Bs,gId];simp only[Bz,B0,B1,B2,B3,B4,B5,B6,gId,By,gMb,gMm,gBm,gBb,bs,ms];unfold Dz BV;rw[O6];have e:=ER (b:=Kf) (A:=Unit) (T:=(List UInt8×Int×Unit)⊕(Int×Bool)) (fun i _=>(s,most,(s.length:Int),(i:Int),())) (fun _ x=>if dgt x=true then Sum.inl ()else Sum.inr (.inr (0,false))) (fun _=>.inl (s,most,())) (fun _ _=>True) s (a:=()) trivial ?_ ?_ ?_
 ·rw[show((0:Nat):Int)=0 from rfl]at e;rw[e,PB,bs]
  cases hd:s.all dgt with
  |false=>simp
  |true=>
   simp only[if_true,true_and];unfold I8;dsimp only;rw[if_pos ⟨rfl,rfl,h⟩,bs];by_cases hne:s= []
   ·subst hne;rfl
   ·have hp:Lib.parseUintB 64 s=if A4 0 s≤18446744073709551615 then .ok (A4 0 s)else .range:=by
     unfold Lib.parseUintB;rw[if_neg hne];exact QR (M:=2^64-1) (by omega) s 0 hd (by omega)
    rw[hp,if_pos hne];by_cases hv:A4 0 s≤18446744073709551615
    ·rw[if_pos hv,if_pos hv];simp only[if_true,bs];rw[Xb hne];cases decide ((A4 0 s:Int)≤most)<;>cases GV s<;>rfl
    ·rw[if_neg hv,if_neg hv];have:decide ((A4 0 s:Int)≤most)=false:=Ak (by omega);rw[this];cases GV s<;>rfl
 ·intro i x a hx _;unfold Kf;dsimp only;simp only[gPi,gSS,gPb,gPm,gPs,gM,gM2,Bp,gOr,Bq,Bu,gAA,gAO,gOA,gOO,Bm,Bo,Br,Bt,Bn,Bs,gId];simp only[Bz,B0,B1,B2,B3,B4,B5,B6,gId,By,gMb,gMm,gBm,gBb,bs,ms];have hi:=(Ae.1 hx).1;simp only[DG hx,if_true,Gv hx,bs,CR (show i<9223372036854775807 by omega)];unfold dgt;cases decide ((x.toNat:Int)<48)<;>cases decide ((x.toNat:Int)>57)<;>rfl
 ·intros;trivial
 ·intro a _;unfold Kf;dsimp only;simp only[Ec,Ag,if_false]
theorem Fh{s:List UInt8}{most:Int}(hm:most≤18446744073709551615)(h:BV s most=true):Dz s=(A4 0 s:Int):=by
 simp only[BV,Af,decide_eq_true_eq]at h;have h1:=h.1;rw[O6]at h1;simp only[Af,Bool.not_eq_true']at h1;unfold Dz;rw[if_pos ⟨h1.2,fun e=>by subst e;cases h1.1⟩,if_pos (by omega)]
theorem KL{n:Nat}{most:Int}(h:(n:Int)≤most):BV (Lib.decDigits n) most=true:=by
 unfold BV;rw[O4,Fv];simpa using h
set_option linter.unusedSimpArgs false
set_option linter.unusedVariables false
abbrev Ordr:=Int×List UInt8×Int×List UInt8
def CQ(n:Nat)(b:UInt8):Nat:=(31*n+b.toNat)% 1000003
def chk(s:List UInt8):Nat:=s.foldl CQ 0
theorem Hx(n:Nat)(b:UInt8):CQ n b<1000003:=Nat.mod_lt _ (by omega)
theorem IU(s:List UInt8):chk s<1000003:=by
 have:∀(s:List UInt8) (a:Nat),a<1000003→s.foldl CQ a<1000003:=fun s=>by
  induction s with
  |nil=>exact fun a h=>h
  |cons b s ih=>exact fun a _=>ih _ (Hx a b)
 exact this s 0 (by omega)
theorem LU{α A T:Type}(f:A→α→A)(fin:A→T):∀(l:List α) (a:A),A6 (fun a x=>Sum.inl (f a x)) fin a l=fin (l.foldl f a)
 | [],a=>rfl
 |x::l,a=>by rw[A6];exact LU f fin l _
theorem OH{s:List UInt8}(h:s.length≤1000000000):Ip s=some (chk s:Int):=by
 unfold Ip;dsimp only;have e:=ER (b:=Kb) (A:=Nat) (T:=Int×Unit) (fun i n=>(s,(n:Int),(s.length:Int),(i:Int),())) (fun n b=>Sum.inl (CQ n b)) (fun n=>((n:Int),())) (fun _ n=>n<1000003) s (a:=0) (by omega) ?_ ?_ ?_
 ·rw[show((0:Nat):Int)=0 from rfl]at e;rw[e,LU,bs];rfl
 ·intro i b n hb hn;unfold Kb;dsimp only;have hi:=(Ae.1 hb).1;have hx:=b.toNat_lt;rw[DG hb,if_pos rfl,Gv hb,bs,if_neg (by omega)];rw[AS (n:=31*(n:Int)) (by omega) (by omega),AS (n:=(b.toNat:Int)) (by omega) (by omega),AS (by omega) (by omega),bs,CR (by omega)];show _=some (Sum.inl (s,((CQ n b:Nat):Int),(s.length:Int),((i+1:Nat):Int),()))
  have:(31*(n:Int)+(b.toNat:Int)).tmod 1000003=((CQ n b:Nat):Int):=by
   unfold CQ;rw[show(31*(n:Int)+(b.toNat:Int))=((31*n+b.toNat:Nat):Int) by omega,show(1000003:Int)=((1000003:Nat):Int)from rfl];exact(Int.ofNat_tmod _ _)
  rw[this]
 ·intro i x a a' hx ha hs;cases hs;exact Hx a x
 ·intro a ha;unfold Kb;dsimp only;rw[Ec,if_neg (by decide)]
theorem W7{a b:Nat}{c:UInt8}(ha:a<1000003)(hb:b<1000003)(h:CQ a c=CQ b c):a=b:=by
 unfold CQ at h;omega
theorem OI:∀(t:List UInt8) {a b:Nat},a<1000003→b<1000003→t.foldl CQ a=t.foldl CQ b→a=b
 | [],a,b,_,_,h=>h
 |c::t,a,b,ha,hb,h=>W7 ha hb (OI t (Hx a c) (Hx b c) h)
theorem W6{n:Nat}{b c:UInt8}(h:CQ n b=CQ n c):b=c:=by
 unfold CQ at h;have:=b.toNat_lt;have:=c.toNat_lt;exact UInt8.toNat_inj.1 (by omega)
theorem Ti{p t:List UInt8}{b c:UInt8}(h:chk (p++b::t)=chk (p++c::t)):b=c:=by
 unfold chk at h;simp only[List.foldl_append,List.foldl_cons]at h;exact W6 (OI t (Hx _ _) (Hx _ _) h)
def C6(c:Int):Bool:=decide (-1125899906842624≤c)&&decide (c≤1125899906842624)
theorem S1(c:Int):FP c=some (C6 c):=by
 unfold FP C6;dsimp only;simp only[gPi,gSS,gPb,gPm,gPs,gM,gM2,Bp,gOr,Bq,Bu,gAA,gAO,gOA,gOO,Bm,Bo,Br,Bt,Bn,Bs,gId];simp only[Bz,B0,B1,B2,B3,B4,B5,B6,gId,By,gMb,gMm,gBm,gBb,bs,ms];cases decide (-1125899906842624≤c)<;>simp_all
def Bh(l:List Ordr):Int:=(l.map fun o=>o.2.2.1).sum
theorem IC{l:List Ordr}(hl:l.length≤5000)(h:∀o∈l,-1125899906842624≤o.2.2.1∧o.2.2.1≤1125899906842624):Gq l=some (Bh l,C6 (Bh l)):=by
 have key:∀(t:List Ordr) (a:Int),(t.map fun o=>o.2.2.1).foldl (· + ·) a=a+Bh t:=fun t=>by
  induction t with
  |nil=>intro a;simp[Bh]
  |cons o t ih=>intro a;simp only[List.map_cons,List.foldl_cons];rw[ih];simp[Bh];omega
 unfold Gq;dsimp only;have e:=ER (b:=Kg) (A:=Int) (T:=Int×Unit) (fun i n=>(n,l,(l.length:Int),(i:Int),())) (fun n o=>Sum.inl (n+o.2.2.1)) (fun n=>(n,())) (fun i n=> -(1125899906842624*(i:Int))≤n∧n≤1125899906842624*(i:Int)) l (a:=0) (by omega) ?_ ?_ ?_
 ·rw[show((0:Nat):Int)=0 from rfl]at e;rw[e,LU (fun n (o:Ordr)=>n+o.2.2.1),bs,S1,bs]
  have:l.foldl (fun n (o:Ordr)=>n+o.2.2.1) 0=Bh l:=by
   have:=key l 0;rw[List.foldl_map]at this;simpa using this
  rw[this]
 ·intro i o n ho hn;have hi:=(Ae.1 ho).1;have hc:=h o (List.mem_of_getElem? ho);unfold Kg;dsimp only;rw[DG ho,if_pos rfl,DD ho,ms,bs,AS (by omega) (by omega),CR (by omega)];rfl
 ·intro i o n n' ho hn hs;have hc:=h o (List.mem_of_getElem? ho);cases hs;omega
 ·intro a ha;unfold Kg;dsimp only;rw[Ec,if_neg (by decide)]
def inC(c:Int):Bool:=decide (1≤c)&&decide (c≤1125899906842624)
def D0(seen:List (List UInt8))(o:Ordr):List (List UInt8)⊕((List Ordr×Unit)⊕Int):=
 if o.1=0 then .inr (.inr 2)else if BK o.2.1=false then .inr (.inr 12)else if inC o.2.2.1=false then .inr (.inr 2)else if BK o.2.2.2=false then .inr (.inr 12)else
  if o.2.2.2∈seen then .inr (.inr 7)else .inl (seen++ [o.2.2.2])
def IE(l:List Ordr):(List Ordr×Unit)⊕Int:=A6 D0 (fun _=>.inl (l,())) [] l
def Fi(n:Int)(l:List Ordr):Int:=
 if n<1∨n>1000000000 then 2 else if(l.length:Int)>256 then 5 else match IE l with
  | .inl _=>if C6 (Bh l)=true then 0 else 9
  | .inr e=>e
def Gw(seen:List (List UInt8)):List (List UInt8×Bool):=seen.map fun k=>(k,true)
theorem LL(a b:List UInt8):eqZ .str a b=true↔a=b:=by
 show(a==b)=true↔a=b;exact beq_iff_eq
theorem R8(k:List UInt8):∀seen,(Cb (eqZ Ty.str) (BA Ty.bool) k (Gw seen)).1=decide (k∈seen)
 | []=>rfl
 |x::seen=>by
  have ih:=R8 k seen;unfold Gw at ih⊢;simp only[List.map_cons,Cb];by_cases h:k=x
  ·subst h;rw[if_pos ((LL k k).2 rfl)];simp
  ·rw[if_neg (fun hh=>h ((LL _ _).1 hh)),ih];simp[h]
theorem R9(k:List UInt8):∀seen,k∉seen→CF (eqZ Ty.str) k true (Gw seen)=Gw (seen++ [k])
 | [],_=>rfl
 |x::seen,h=>by
  simp only[List.mem_cons,not_or]at h;have ih:=R9 k seen h.2;unfold Gw at ih⊢;simp only[List.map_cons,List.cons_append,CF];rw[if_neg (fun hh=>h.1 ((LL _ _).1 hh)),ih]
theorem NF{l:List Ordr}:∀(t:List Ordr) (seen:List (List UInt8)) {q},A6 D0 (fun _=>(.inl (l,()):(List Ordr×Unit)⊕Int)) seen t=q→(q=.inl (l,()))∨∃e,q=.inr e∧(e=2∨e=12∨e=7)
 | [],seen,q,h=>.inl h.symm
 |o::t,seen,q,h=>by
  rw[A6]at h;unfold D0 at h;split at h
  ·rename_i a' hs;exact NF t _ h
  ·rename_i t' hs;right;subst h
   repeat' (split at hs)
   all_goals first|(cases hs;exact⟨_,rfl,by simp⟩)|cases hs
theorem KY{n:Int}{l:List Ordr}(hs:∀o∈l,o.2.1.length≤1000000∧o.2.2.2.length≤1000000):Gr (n,l)=some (Fi n l):=by
 unfold Gr;dsimp only;simp only[gPi,gSS,gPb,gPm,gPs,gM,gM2,Bp,gOr,Bq,Bu,gAA,gAO,gOA,gOO,Bm,Bo,Br,Bt,Bn,Bs,gId];simp only[Bz,B0,B1,B2,B3,B4,B5,B6,gId,By,gMb,gMm,gBm,gBb,bs,ms];unfold Fi;by_cases h1:n<1∨n>1000000000
 ·rw[if_pos h1]
  have:(if decide (n<1)=true then some true else some (decide (n>1000000000)))=some true:=by
   rcases h1 with h|h
   ·rw[Al h];rfl
   ·rw[Ak (by omega),Al h];rfl
  rw[this,bs,if_pos rfl]
 ·rw[if_neg h1]
  have:(if decide (n<1)=true then some true else some (decide (n>1000000000)))=some false:=by
   rw[Ak (by omega),Ak (by omega)];rfl
  rw[this,bs,if_neg (by decide)];by_cases h2:(l.length:Int)>256
  ·rw[if_pos h2,if_pos (Al h2)]
  ·rw[if_neg h2,if_neg (by rw[Ak h2];decide)];have e:=ER (b:=Kh) (A:=List (List UInt8)) (T:=(List Ordr×Unit)⊕Int) (fun i seen=>(l,l,(l.length:Int),(i:Int),Gw seen,(),())) D0 (fun _=>.inl (l,())) (fun _ _=>True) l (a:= []) trivial ?_ ?_ ?_
   ·rw[show((0:Nat):Int)=0 from rfl,show Gw []= []from rfl]at e;rw[e,bs];show(match IE l with| .inl p=>_| .inr q=>_)=_
    cases hw:IE l with
    |inr e=>rfl
    |inl z=>
     have hz:z=(l,()):=by
      rcases NF (l:=l) l [] hw with h|⟨e,h,_⟩
      ·exact Sum.inl.inj h
      ·cases h
     subst hz
     have hall:∀(t:List Ordr) (seen:List (List UInt8)) {q:List Ordr×Unit},A6 D0 (fun _=>(.inl (l,()):(List Ordr×Unit)⊕Int)) seen t=.inl q→∀o∈t,inC o.2.2.1=true:=by
      intro t
      induction t with
      |nil=>intro seen q _ o ho;cases ho
      |cons o t ih=>
       intro seen q hq o' ho;rw[A6]at hq;split at hq
       ·rename_i a' hs
        have hoc:inC o.2.2.1=true:=by
            unfold D0 at hs
            cases hc:inC o.2.2.1 with
            |true=>rfl
            |false=>
             rw[hc]at hs
             repeat' (split at hs)
             all_goals first|(exfalso;rename_i hh _ _;exact hh rfl)|(cases hs;done)
        rcases List.mem_cons.1 ho with rfl|ho
        ·exact hoc
        ·exact ih _ hq o' ho
       ·rename_i t' hs;subst hq;unfold D0 at hs
        repeat' (split at hs)
        all_goals cases hs
     have hc:=hall l [] hw;simp only
     rw[IC (by omega) (fun o ho=>by
      have:=hc o ho;simp only[inC,Af,decide_eq_true_eq]at this
      omega),bs]
     simp only;cases C6 (Bh l)<;>rfl
   ·intro i o seen ho _;have hi:=(Ae.1 ho).1;obtain⟨k1,k2⟩:=hs o (List.mem_of_getElem? ho);unfold Kh;dsimp only;simp only[gPi,gSS,gPb,gPm,gPs,gM,gM2,Bp,gOr,Bq,Bu,gAA,gAO,gOA,gOO,Bm,Bo,Br,Bt,Bn,Bs,gId];simp only[Bz,B0,B1,B2,B3,B4,B5,B6,gId,By,gMb,gMm,gBm,gBb,bs,ms];rw[DG ho,if_pos rfl,DD ho,bs];unfold D0;by_cases c1:o.1=0
    ·rw[if_pos c1,if_pos (by rw[c1];rfl)];rfl
    ·rw[if_neg c1,if_neg (by simpa using c1),Mg (by omega),bs]
     cases c2:BK o.2.1 with
     |false=>rfl
     |true=>
      simp only[Bool.not_true,Ag,if_false,reduceCtorEq]
      have e3:(if decide (o.2.2.1<1)=true then some true else some (decide (o.2.2.1>1125899906842624)))=some (!inC o.2.2.1):=by
       unfold inC;by_cases q1:o.2.2.1<1
       ·rw[Al q1,Ak (show ¬1≤o.2.2.1 by omega)];rfl
       ·rw[Ak q1,Al (show 1≤o.2.2.1 by omega)];by_cases q2:o.2.2.1>1125899906842624
        ·rw[Al q2,Ak (show ¬o.2.2.1≤1125899906842624 by omega)];rfl
        ·rw[Ak q2,Al (show o.2.2.1≤1125899906842624 by omega)];rfl
      rw[e3,bs]
      cases c3:inC o.2.2.1 with
      |false=>rfl
      |true=>
       simp only[Bool.not_true,Ag,if_false,reduceCtorEq];rw[Mg (by omega),bs]
       cases c4:BK o.2.2.2 with
       |false=>rfl
       |true=>
        simp only[Bool.not_true,Ag,if_false,reduceCtorEq];rw[R8];by_cases c5:o.2.2.2∈seen
        ·rw[if_pos c5,if_pos (Al c5)];rfl
        ·rw[if_neg c5,if_neg (by rw[Ak c5];decide),R9 _ _ c5,CR (by omega)];rfl
   ·intros;trivial
   ·intro a _;unfold Kh;dsimp only;simp only[gPi,gSS,gPb,gPm,gPs,gM,gM2,Bp,gOr,Bq,Bu,gAA,gAO,gOA,gOO,Bm,Bo,Br,Bt,Bn,Bs,gId];simp only[Bz,B0,B1,B2,B3,B4,B5,B6,gId,By,gMb,gMm,gBm,gBb,bs,ms];rw[Ec,if_neg (by decide)]
def OkO(o:Ordr):Prop:=o.1≠0∧BK o.2.1=true∧inC o.2.2.1=true∧BK o.2.2.2=true
theorem Sq{l:List Ordr}:∀(t:List Ordr) (seen:List (List UInt8)),A6 D0 (fun _=>(.inl (l,()):(List Ordr×Unit)⊕Int)) seen t=.inl (l,())↔(∀o∈t,OkO o)∧(t.map (·.2.2.2)).Nodup∧∀o∈t,o.2.2.2∉seen
 | [],seen=>by simp[A6]
 |o::t,seen=>by
  have ih:=Sq (l:=l) t (seen++ [o.2.2.2]);rw[A6];by_cases hok:OkO o∧o.2.2.2∉seen
  ·obtain⟨⟨k1,k2,k3,k4⟩,k5⟩:=hok
   have e:D0 seen o=.inl (seen++ [o.2.2.2]):=by
    unfold D0;rw[if_neg k1,if_neg (by rw[k2];decide),if_neg (by rw[k3];decide),if_neg (by rw[k4];decide),if_neg k5]
   rw[e];simp only;rw[ih];constructor
   ·rintro⟨h1,h2,h3⟩
    refine⟨fun x hx=> ?_, ?_,fun x hx=> ?_⟩
    ·rcases List.mem_cons.1 hx with rfl|hx
     ·exact⟨k1,k2,k3,k4⟩
     ·exact h1 x hx
    ·rw[List.map_cons,List.nodup_cons];refine⟨fun hm=> ?_,h2⟩;obtain⟨x,hx,hxe⟩:=List.mem_map.1 hm;exact h3 x hx (by rw[List.mem_append];exact .inr (by simp[hxe]))
    ·rcases List.mem_cons.1 hx with rfl|hx
     ·exact k5
     ·exact fun hm=>h3 x hx (List.mem_append.2 (.inl hm))
   ·rintro⟨h1,h2,h3⟩
    rw[List.map_cons,List.nodup_cons]at h2;refine⟨fun x hx=>h1 x (List.mem_cons.2 (.inr hx)),h2.2,fun x hx hm=> ?_⟩;rcases List.mem_append.1 hm with hm|hm
    ·exact h3 x (List.mem_cons.2 (.inr hx)) hm
    ·rw[List.mem_singleton]at hm;exact h2.1 (List.mem_map.2 ⟨x,hx,hm⟩)
  ·constructor
   ·intro h;exfalso;apply hok;split at h
    ·rename_i a' hs;unfold D0 at hs;split at hs
     ·cases hs
     split at hs
     ·cases hs
     split at hs
     ·cases hs
     split at hs
     ·cases hs
     split at hs
     ·cases hs
     rename_i q1 q2 q3 q4 q5;exact⟨⟨q1,by simpa using q2,by simpa using q3,by simpa using q4⟩,q5⟩
    ·rename_i t' hs;subst h;unfold D0 at hs
     repeat' (split at hs)
     all_goals cases hs
   ·rintro⟨h1,h2,h3⟩
    exact absurd ⟨h1 o (by simp),h3 o (by simp)⟩ hok
def DT(n:Int)(l:List Ordr):Prop:=(1≤n∧n≤1000000000)∧l.length≤256∧(∀o∈l,OkO o)∧(l.map (·.2.2.2)).Nodup∧C6 (Bh l)=true
theorem KX{n:Int}{l:List Ordr}:Fi n l=0↔DT n l:=by
 unfold Fi DT;by_cases h1:n<1∨n>1000000000
 ·rw[if_pos h1];exact⟨fun h=>(by cases h),fun h=>(by omega)⟩
 rw[if_neg h1];by_cases h2:(l.length:Int)>256
 ·rw[if_pos h2];exact⟨fun h=>(by cases h),fun h=>(by omega)⟩
 rw[if_neg h2];have k:=Sq (l:=l) l [];rcases NF (l:=l) l [] (q:=IE l) rfl with h|⟨e,h,he⟩
 ·have k':=k.1 h;rw[h];simp only;constructor
  ·intro hf;refine⟨by omega,by omega,k'.1,k'.2.1, ?_⟩;split at hf
   ·assumption
   ·cases hf
  ·rintro⟨_,_,_,_,hf⟩
   rw[if_pos hf]
 ·rw[h];simp only;constructor
  ·intro h0;subst h0;omega
  ·rintro⟨_,_,q1,q2,_⟩
   have:=k.2 ⟨q1,q2,fun o _=>by simp⟩;have h':IE l=.inl (l,()):=this;rw[h]at h';cases h'
set_option linter.unusedSimpArgs false
set_option linter.unusedVariables false
def AM:Nat:=1125899906842624
def KM(n:Nat):List UInt8:=Lib.decDigits (n/100)++ [46,dg9 (n/10 % 10),dg9 (n % 10)]
def Cf(c:Int):List UInt8:=(if c<0 then [45]else [])++KM c.natAbs
def IsC(s:List UInt8)(c:Int):Prop:=c.natAbs≤AM∧Cf c=s
instance (s:List UInt8) (c:Int):Decidable (IsC s c):=inferInstanceAs (Decidable (_∧_))
def CU(W:List UInt8)(a b:UInt8):Nat:=A4 0 (W++ [a,b])
theorem Lk(W:List UInt8)(a b:UInt8):CU W a b=(A4 0 W*10+(a.toNat-48))*10+(b.toNat-48):=by simp[CU,A4]
theorem NA(n:Nat):∃W a b,KM n=W++ [46,a,b]∧Cu W=true∧dgt a=true∧dgt b=true∧CU W a b=n:=by
 refine⟨Lib.decDigits (n/100),dg9 (n/10 % 10),dg9 (n % 10),rfl,O4 _,Je (Nat.mod_lt _ (by omega)),Je (Nat.mod_lt _ (by omega)), ?_⟩;rw[Lk,Fv,FV (Nat.mod_lt _ (by omega)),FV (Nat.mod_lt _ (by omega))];omega
theorem Te{W:List UInt8}(h:Cu W=true):W≠ []:=by intro e;rw[e]at h;cases h
theorem Lp{W:List UInt8}(h:Cu W=true):W.all dgt=true:=by
 unfold Cu at h;simp only[Af]at h;exact h.2
theorem O5{W X:List UInt8}(h:Cu W=true):(W++X).head? ≠some 45:=by
 cases W with
 |nil=>exact absurd rfl (Te h)
 |cons c W=>
  have:=Lp h;simp only[List.all_cons,Af]at this;have h3:=Dj.1 this.1;simp only[List.cons_append,List.head?_cons,ne_eq,Ac];intro e;rw[e]at h3;exact absurd h3.1 (by decide)
theorem Jw{s:List UInt8}{c:Int}(h:IsC s c):∃W a b,Cu W=true∧dgt a=true∧dgt b=true∧CU W a b=c.natAbs∧CU W a b≤AM∧s=(if c<0 then [45]else [])++(W++ [46,a,b]):=by
 obtain⟨h1,h2⟩:=h;obtain⟨W,a,b,e,hW,ha,hb,hn⟩:=NA c.natAbs;refine⟨W,a,b,hW,ha,hb,hn,by omega, ?_⟩;rw[←h2,Cf,e]
theorem UI{s:List UInt8}{c d:Int}(h:IsC s c)(k:IsC s d):c=d:=by
 obtain⟨W,a,b,hW,ha,hb,hn,_,e⟩:=Jw h;obtain⟨V,a',b',hV,ha',hb',hm,_,e'⟩:=Jw k
 have key:∀{X Y:List UInt8} {x y x' y':UInt8},X++ [46,x,y]=Y++ [46,x',y']→X=Y∧x=x'∧y=y':=by
  intro X Y x y x' y' hh;obtain⟨h1,h2⟩:=List.append_inj' hh rfl;simp only[List.cons.injEq,and_true,true_and]at h2;exact⟨h1,h2.1,h2.2⟩
 rw[e]at e';by_cases h1:c<0<;>by_cases h2:d<0
 ·rw[if_pos h1,if_pos h2]at e';obtain⟨rfl,rfl,rfl⟩:=key (List.append_cancel_left e');omega
 ·rw[if_pos h1,if_neg h2]at e';exact absurd (by rw[List.nil_append]at e';rw[←e'];rfl) (O5 (X:= [46,a',b']) hV)
 ·rw[if_neg h1,if_pos h2]at e';exact absurd (by rw[List.nil_append]at e';rw[e'];rfl) (O5 (X:= [46,a,b]) hW)
 ·rw[if_neg h1,if_neg h2]at e';obtain⟨rfl,rfl,rfl⟩:=key (List.append_cancel_left e');omega
theorem Un(c:Int):FP c=some (decide (c.natAbs≤AM)):=by
 unfold FP AM;simp only[gPi,gSS,gPb,gPm,gPs,gM,gM2,Bp,gOr,Bq,Bu,gAA,gAO,gOA,gOO,Bm,Bo,Br,Bt,Bn,Bs,gId];by_cases h1:c≥ -1125899906842624<;>by_cases h2:c≤1125899906842624<;>simp[h1,h2]<;>omega
theorem R5{d:Nat}(h:d<10):(Utf8.encode (IntKind.i32.wrap (i64.wrap (48+(d:Int))))).data.toList= [dg9 d]:=by
 have:d=0∨d=1∨d=2∨d=3∨d=4∨d=5∨d=6∨d=7∨d=8∨d=9:=by omega
 rcases this with rfl|rfl|rfl|rfl|rfl|rfl|rfl|rfl|rfl|rfl<;>rfl
theorem XA:∀(n:Nat) (s:List UInt8),n≤4611686018427387→s.length+n≤4611686018427387904→∃(m:Nat) (t:List UInt8),iter IT ((n:Int),s,())=some ((m:Int),t,())∧m<10∧t.length≤s.length+n∧ [dg9 m]++t=Lib.decDigits n++s:=by
 intro n
 induction n using Nat.strongRecOn with
 |_ n ih=>
  intro s hn hs;by_cases h:n<10
  ·refine⟨n,s, ?_,h, ?_, ?_⟩
   ·rw[EQ];unfold IT;dsimp only;rw[Ak (show ¬(n:Int)>9 by omega)];rfl
   ·omega
   ·rw[D8 h]
  ·obtain⟨m,t,h1,h2,h3,h4⟩:=ih (n/10) (by omega) ([dg9 (n % 10)]++s) (by omega) (by simp;omega);refine⟨m,t, ?_,h2,by simp at h3;omega, ?_⟩
   ·rw[EQ];unfold IT;dsimp only;rw[Al (show(n:Int)>9 by omega),if_pos rfl,if_neg (by decide),bs];have e1:(n:Int).tmod 10=((n % 10:Nat):Int):=by rw[Int.tmod_eq_emod_of_nonneg (by omega)];omega
    have e2:i64.wrap ((n:Int).tdiv 10)=((n/10:Nat):Int):=by rw[Int.tdiv_eq_ediv_of_nonneg (by omega),AS (by omega) (by omega)];omega
    rw[e1,R5 (Nat.mod_lt _ (by omega))];rw[if_pos (by simp;omega),bs,if_neg (by decide),bs,e2];exact h1
   ·rw[h4,FW h];simp
theorem NG{n:Nat}(h:n≤4611686018427387):G8 (n:Int)=some (Lib.decDigits n):=by
 obtain⟨m,t,h1,h2,h3,h4⟩:=XA n [] h (by simp;omega);unfold G8;dsimp only;rw[h1,bs];dsimp only;rw[R5 h2];simp only[List.length_nil,Nat.zero_add]at h3;rw[if_pos (by simp;omega),h4];simp
theorem WF{x y:List UInt8}(hx:x.length≤1000000)(hy:y.length≤1000000){β:Type}(K:List UInt8→Option β):(if x.length+y.length≤4611686018427387904 then K (x++y)else none)=K (x++y):=if_pos (by omega)
theorem OD{c:Int}(hc:c.natAbs≤20000000000000000):EM c=some (if c.natAbs≤AM then Cf c else []):=by
 unfold EM;dsimp only;simp only[gPi,gSS,gPb,gPm,gPs,gM,gM2,Bp,gOr,Bq,Bu,gAA,gAO,gOA,gOO,Bm,Bo,Br,Bt,Bn,Bs,gId];simp only[Bz,B0,B1,B2,B3,B4,B5,B6,gId,By,gMb,gMm,gBm,gBb,bs,ms];rw[Un,bs];by_cases hf:c.natAbs≤AM
 ·have hm:c.natAbs≤1125899906842624:=hf;rw[Al hf,if_pos hf];simp only[Bool.not_true,Ag,if_false]
  have e0:(if decide (c<0)=true then some (i64.wrap (0-c),([45]:List UInt8),())else some (c,[],()))=some ((c.natAbs:Int),(if c<0 then [45]else []),()):=by
   by_cases h:c<0
   ·rw[Al h,if_pos rfl,if_pos h,AS (by omega) (by omega)]
    congr 2;omega
   ·rw[Ak h,if_neg (by decide),if_neg h]
    congr 2;omega
  rw[e0,bs,if_neg (by decide),bs];dsimp only;have e1:(c.natAbs:Int).tmod 100=((c.natAbs % 100:Nat):Int):=by rw[Int.tmod_eq_emod_of_nonneg (by omega)];omega
  have e2:i64.wrap ((c.natAbs:Int).tdiv 100)=((c.natAbs/100:Nat):Int):=by rw[Int.tdiv_eq_ediv_of_nonneg (by omega),AS (by omega) (by omega)];omega
  have e3:i64.wrap (((c.natAbs % 100:Nat):Int).tdiv 10)=((c.natAbs/10 % 10:Nat):Int):=by rw[Int.tdiv_eq_ediv_of_nonneg (by omega),AS (by omega) (by omega)];omega
  have e4:((c.natAbs % 100:Nat):Int).tmod 10=((c.natAbs % 10:Nat):Int):=by rw[Int.tmod_eq_emod_of_nonneg (by omega)];omega
  rw[if_neg (by decide),bs,e1,e2,NG (by omega),bs];have hl:(Lib.decDigits (c.natAbs/100)).length≤20:=Ew (by omega) (by omega);have hs:(if c<0 then([45]:List UInt8)else []).length≤1:=by split<;>simp
  rw[WF (by omega) (by omega) (fun x=>if x.length+([46]:List UInt8).length≤4611686018427387904 then _ else _)];rw[if_pos (by simp only[List.length_append];simp only[List.length_singleton];omega)];rw[if_neg (by decide),bs,e3,NG (by omega),bs,D8 (Nat.mod_lt _ (by omega))];rw[if_pos (by simp only[List.length_append,List.length_singleton];omega)];rw[if_neg (by decide),bs,e4,NG (by omega),bs,D8 (Nat.mod_lt _ (by omega))];rw[if_pos (by simp only[List.length_append,List.length_singleton];omega)];simp[Cf,KM]
 ·rw[Ak hf,if_neg hf];rfl
abbrev CA:=Nat×Nat×Bool
def Cw(a:CA)(x:UInt8):CA⊕((List UInt8×Int×Bool×Unit)⊕(Int×Int)):=
 if a.1=0∧x=45 then .inl (a.1+1,a.2.1,true)
 else if x=46 then .inl (a.1+1,a.2.1,a.2.2)
 else if dgt x=true∧a.2.1≤AM then .inl (a.1+1,a.2.1*10+(x.toNat-48),a.2.2)else .inr (.inr (0,3))
theorem Tf{s:List UInt8}(h:s.length≤1000000):iter H6 (s,0,false,(s.length:Int),0,())=some (A6 Cw (fun a=>.inl (s,(a.2.1:Int),a.2.2,())) (0,0,false) s):=by
 have e:=ER (b:=H6) (A:=CA) (fun i a=>(s,(a.2.1:Int),a.2.2,(s.length:Int),(i:Int),())) Cw (fun a=>.inl (s,(a.2.1:Int),a.2.2,())) (fun i a=>a.1=i∧a.2.1≤AM*10+9) s (a:=(0,0,false)) ⟨rfl,by simp⟩ ?_ ?_ ?_
 ·exact e
 ·rintro i x ⟨j,c,bl⟩ hx ⟨rfl,hc⟩
  dsimp only at hc⊢;have hm:AM=1125899906842624:=rfl;have hi:=(Ae.1 hx).1;have ws:=CR (show j<9223372036854775807 by omega);unfold H6;dsimp only;simp only[gPi,gSS,gPb,gPm,gPs,gM,gM2,Bp,gOr,Bq,Bu,gAA,gAO,gOA,gOO,Bm,Bo,Br,Bt,Bn,Bs,gId];simp only[Bz,B0,B1,B2,B3,B4,B5,B6,gId,By,gMb,gMm,gBm,gBb,bs,ms];simp only[DG hx,if_true,Gv hx,bs]
  have e0:(if((j:Int)==0)=true then some ((x.toNat:Int)==45)else some false)=some (decide (j=0∧x=45)):=by
   by_cases h0:j=0
   ·subst h0;rw[show(((0:Nat):Int)==0)=true from rfl,if_pos rfl];by_cases h1:x=45
    ·subst h1;rfl
    ·have:¬(x.toNat:Int)=45:=fun hh=>h1 (UInt8.toNat_inj.1 (by show x.toNat=45;omega));simp[h1,this]
   ·have:¬(j:Int)=0:=by omega
    simp[h0,this]
  have e1:((x.toNat:Int)==46)=decide (x=46):=by
   by_cases h1:x=46
   ·subst h1;rfl
   ·have:¬(x.toNat:Int)=46:=fun hh=>h1 (UInt8.toNat_inj.1 (by show x.toNat=46;omega));simp[h1,this]
  have e2:(if decide ((x.toNat:Int)<48)=true then some true else some (decide ((x.toNat:Int)>57)))=some (!dgt x):=by
   unfold dgt;cases decide ((x.toNat:Int)<48)<;>cases decide ((x.toNat:Int)>57)<;>rfl
  simp only[e0,e1,e2,bs];unfold Cw;by_cases q1:j=0∧x=45
  ·have r1:(j=0∧x=45)=True:=eq_true q1;simp only[r1,decide_true,if_true,bs,ws,Gz]
  ·have r1:(j=0∧x=45)=False:=eq_false q1;by_cases q2:x=46
   ·have r2:(x=46)=True:=eq_true q2;simp only[r1,r2,decide_true,decide_false,Ag,if_false,if_true,bs,ws,Gz]
   ·have r2:(x=46)=False:=eq_false q2;by_cases q3:dgt x=true
    ·have hd:=Dj.1 q3;by_cases q4:c≤AM
     ·have c4:decide ((c:Int)>1125899906842624)=false:=Ak (by omega);have q:(dgt x=true∧c≤AM)=True:=eq_true ⟨q3,q4⟩;have w1:u8.wrap ((x.toNat:Int)-48)=((x.toNat-48:Nat):Int):=by rw[IntKind.wrap_u8];omega
      have w2:i64.wrap ((x.toNat-48:Nat):Int)=((x.toNat-48:Nat):Int):=AS (by omega) (by omega);have w3:i64.wrap (10*(c:Int))=10*(c:Int):=AS (by omega) (by omega);have w4:i64.wrap (10*(c:Int)+((x.toNat-48:Nat):Int))=((c*10+(x.toNat-48):Nat):Int):=by rw[AS (by omega) (by omega)];omega
      simp only[r1,r2,decide_false,q3,Bool.not_true,Ag,if_false,if_true,bs,c4,w1,w2,w3,w4,ws,Gz,q,q4,and_self]
     ·have c4:decide ((c:Int)>1125899906842624)=true:=Al (by omega);simp only[r1,r2,decide_false,q3,Bool.not_true,Ag,if_false,if_true,bs,c4,Gz,q4,and_false]
    ·have q3':dgt x=false:=by simpa using q3
     simp only[r1,r2,decide_false,q3',Bool.not_false,if_true,Ag,if_false,bs,Gz,false_and]
 ·rintro i x ⟨j,c,bl⟩ a' hx ⟨rfl,hc⟩ hst
  dsimp only at hc;unfold Cw at hst;dsimp only at hst;split at hst
  ·cases hst;exact⟨rfl,hc⟩
  ·split at hst
   ·cases hst;exact⟨rfl,hc⟩
   ·split at hst
    ·rename_i hq;cases hst;have hd:=Dj.1 hq.1;refine⟨rfl, ?_⟩;have:=hq.2;dsimp only;omega
    ·cases hst
 ·rintro⟨j,c,bl⟩ ⟨hj,hc⟩
  unfold H6;dsimp only;simp only[Ec,Ag,if_false]
theorem Lu(fin:CA→((List UInt8×Int×Bool×Unit)⊕(Int×Int))):∀(D X:List UInt8) (j c:Nat) (bl:Bool),D.all dgt=true→A4 c D≤AM→A6 Cw fin (j,c,bl) (D++X)=A6 Cw fin (j+D.length,A4 c D,bl) X
 | [],X,j,c,bl,_,_=>rfl
 |d::D,X,j,c,bl,h,hn=>by
  simp only[List.all_cons,Af]at h;have hd:=Dj.1 h.1;have e:A4 c (d::D)=A4 (c*10+(d.toNat-48)) D:=rfl;have h1:=JN D (c*10+(d.toNat-48));rw[e]at hn⊢;have n1:¬d=45:=by intro hh;subst hh;exact absurd hd.1 (by decide)
  have n2:¬d=46:=by intro hh;subst hh;exact absurd hd.1 (by decide)
  rw[List.cons_append,A6,Cw,if_neg (fun hh=>n1 hh.2),if_neg n2,if_pos ⟨h.1,by show c≤AM;omega⟩];dsimp only;rw[Lu fin D X (j+1) _ bl h.2 hn]
  congr 2
  simp only[List.length_cons];omega
theorem OE(fin:CA→((List UInt8×Int×Bool×Unit)⊕(Int×Int))){W:List UInt8}{a b:UInt8}(hW:Cu W=true)(ha:dgt a=true)(hb:dgt b=true)(hn:CU W a b≤AM)(j:Nat)(bl:Bool):
  ∃k,A6 Cw fin (j,0,bl) (W++ [46,a,b])=fin (k,CU W a b,bl):=by
 have hv:A4 0 W≤AM:=by rw[Lk]at hn;omega
 have e:CU W a b=A4 (A4 0 W) [a,b]:=by rw[Lk];rfl
 have hpos:∀x:UInt8,dgt x=true→¬x=45∧¬x=46:=by
  intro x hx;have:=Dj.1 hx;constructor<;>(intro hh;subst hh;exact absurd this.1 (by decide))
 refine⟨j+W.length+1+ [a,b].length, ?_⟩;rw[Lu fin W _ j 0 bl (Lp hW) hv,A6,Cw,if_neg (fun hh=>absurd hh.2 (by decide)),if_pos rfl];dsimp only;have:=Lu fin [a,b] [] (j+W.length+1) (A4 0 W) bl (by simp[ha,hb]) (by rw[←e];exact hn);rw[List.append_nil]at this;rw[this,←e];rfl
theorem Tg{s:List UInt8}{c:Int}(hc:c.natAbs≤20000000000000000):(if(s== [])=true then some true else(EM c).bind fun v=>some (!v==s))=some (decide (¬IsC s c)):=by
 rw[OD hc,bs];by_cases h0:s= []
 ·subst h0
  have:¬IsC [] c:=by
   intro h;obtain⟨W,a,b,_,_,_,_,_,e⟩:=Jw h;have:=congrArg List.length e;simp at this
  simp[this]
 ·have e1:(s== [])=false:=by simpa using h0
  rw[e1];simp only[Ag,if_false,Ac];by_cases hf:c.natAbs≤AM
  ·rw[if_pos hf];by_cases ht:Cf c=s
   ·have:IsC s c:=⟨hf,ht⟩;simp[this,ht]
   ·have:¬IsC s c:=fun h=>ht h.2;simp[this,ht]
  ·rw[if_neg hf];have:¬IsC s c:=fun h=>hf h.1;have h1:¬ []=s:=fun h=>h0 h.symm;simp[this,h1,h0]
theorem OC{s:List UInt8}(h:s.length≤1000000):(∃c,IsC s c∧Er s=some (c,0))∨((∀c,¬IsC s c)∧Er s=some (0,3)):=by
 have hs:=Tf h
 have hP:∀{o:(List UInt8×Int×Bool×Unit)⊕(Int×Int)},A6 Cw (fun a=>.inl (s,(a.2.1:Int),a.2.2,())) (0,0,false) s=o→Er s=(match o with
   |Sum.inl p190=>(if p190.2.2.1=true then some (p190.1,i64.wrap (0-p190.2.1),())else some (p190.1,p190.2.1,())).bind fun o=>
     (if(o.1== [])=true then some true else(EM o.2.1).bind fun v=>some (!v==o.1)).bind fun x54=>if x54=true then some (0,3)else some (o.2.1,0)
   |Sum.inr q191=>some q191):=by
  intro o ho;unfold Er;dsimp only;simp only[gPi,gSS,gPb,gPm,gPs,gM,gM2,Bp,gOr,Bq,Bu,gAA,gAO,gOA,gOO,Bm,Bo,Br,Bt,Bn,Bs,gId];simp only[Bz,B0,B1,B2,B3,B4,B5,B6,gId,By,gMb,gMm,gBm,gBb,bs,ms];rw[hs,ho,bs];rfl
 have fin:∀{c:Nat} {bl:Bool},c≤AM*10+9→A6 Cw (fun a=>.inl (s,(a.2.1:Int),a.2.2,())) (0,0,false) s=.inl (s,(c:Int),bl,())→Er s=some (if IsC s (if bl then-(c:Int)else(c:Int))then((if bl then-(c:Int)else(c:Int)),0)else(0,3)):=by
  intro c bl hc ho;have hm:AM=1125899906842624:=rfl;rw[hP ho];dsimp only
  have e0:(if bl=true then some (s,i64.wrap (0-(c:Int)),())else some (s,(c:Int),()))=some (s,(if bl then-(c:Int)else(c:Int)),()):=by
   cases bl
   ·rfl
   ·rw[if_pos rfl,AS (by omega) (by omega)]
    congr 2
    simp
  rw[e0,bs];dsimp only;have hb:(if bl then-(c:Int)else(c:Int)).natAbs≤20000000000000000:=by cases bl<;>simp<;>omega
  rw[Tg hb,bs];by_cases hI:IsC s (if bl then-(c:Int)else(c:Int))
  ·rw[if_pos hI,Ak (fun hh=>hh hI),if_neg (by decide)]
  ·rw[if_neg hI,Al hI,if_pos rfl]
 by_cases hI:∃c,IsC s c
 ·left;obtain⟨c,hc⟩:=hI;refine⟨c,hc, ?_⟩;obtain⟨W,a,b,hW,ha,hb,hn,hle,e⟩:=Jw hc;by_cases h0:c<0
  ·rw[if_pos h0]at e;have e':s=45::(W++ [46,a,b]):=e;obtain⟨k,hk⟩:=OE (fun a=>.inl (s,(a.2.1:Int),a.2.2,())) hW ha hb hle 1 true
   have hf:A6 Cw (fun a=>.inl (s,(a.2.1:Int),a.2.2,())) (0,0,false) s=.inl (s,(CU W a b:Int),true,()):=by
    conv=>lhs;rw[e']
    rw[A6,Cw,if_pos ⟨rfl,rfl⟩];dsimp only;rw[←e'];exact hk
   rw[fin (by omega) hf];have:(if true=true then-(CU W a b:Int)else(CU W a b:Int))=c:=by rw[if_pos rfl];omega
   rw[this,if_pos hc]
  ·rw[if_neg h0,List.nil_append]at e;obtain⟨k,hk⟩:=OE (fun a=>.inl (s,(a.2.1:Int),a.2.2,())) hW ha hb hle 0 false
   have hf:A6 Cw (fun a=>.inl (s,(a.2.1:Int),a.2.2,())) (0,0,false) s=.inl (s,(CU W a b:Int),false,()):=by
    conv=>lhs;rw[e]
    rw[←e];rw[←e]at hk;exact hk
   rw[fin (by omega) hf];have:(if false=true then-(CU W a b:Int)else(CU W a b:Int))=c:=by rw[if_neg (by decide)];omega
   rw[this,if_pos hc]
 ·right;have hno:∀c,¬IsC s c:=fun c hc=>hI ⟨c,hc⟩;refine⟨hno, ?_⟩
  have key:∀(l:List UInt8) (a:CA),a.2.1≤AM*10+9→(∃c bl,c≤AM*10+9∧A6 Cw (fun a=>.inl (s,(a.2.1:Int),a.2.2,())) a l=.inl (s,(c:Int),bl,()))∨A6 Cw (fun a=>.inl (s,(a.2.1:Int),a.2.2,())) a l=.inr (0,3):=by
   intro l
   induction l with
   |nil=>intro a ha;exact .inl ⟨a.2.1,a.2.2,ha,rfl⟩
   |cons x l ih=>
    intro a ha;rw[A6];unfold Cw;split<;>rename_i q1
    ·split at q1
     ·cases q1;exact ih _ ha
     ·split at q1
      ·cases q1;exact ih _ ha
      ·split at q1
       ·rename_i q2;cases q1;have hd:=Dj.1 q2.1;have:=q2.2;exact ih _ (by dsimp only;omega)
       ·cases q1
    ·split at q1
     ·cases q1
     ·split at q1
      ·cases q1
      ·split at q1
       ·cases q1
       ·cases q1;exact .inr rfl
  rcases key s (0,0,false) (by simp)with⟨c,bl,hc,ho⟩|ho
  ·rw[fin hc ho,if_neg (hno _)]
  ·rw[hP ho]
set_option linter.unusedSimpArgs false
set_option linter.unusedVariables false
def Bg(c:UInt8):List UInt8→List UInt8→List (List UInt8)
 |cur,[]=> [cur]
 |cur,b::t=>if b=c then cur::Bg c [] t else Bg c (cur++ [b]) t
def C2(c:UInt8)(s:List UInt8):List (List UInt8):=Bg c [] s
def C3(c:UInt8):Nat→List UInt8→List UInt8→List (List UInt8)
 |_,cur,[]=> [cur]
 |0,cur,s=> [cur++s]
 |k+1,cur,b::t=>if b=c then cur::C3 c k [] t else C3 c (k+1) (cur++ [b]) t
theorem RT(c:UInt8)(k:Nat)(cur:List UInt8)(b:UInt8)(t:List UInt8):C3 c (k+1) cur (b::t)=if b=c then cur::C3 c k [] t else C3 c (k+1) (cur++ [b]) t:=rfl
theorem N2(c:UInt8)(cur:List UInt8)(b:UInt8)(t:List UInt8):Bg c cur (b::t)=if b=c then cur::Bg c [] t else Bg c (cur++ [b]) t:=rfl
theorem KB(c:UInt8):∀(s cur:List UInt8) (k:Nat),s.count c≤k→C3 c k cur s=Bg c cur s
 | [],cur,0,_=>rfl
 | [],cur,k+1,_=>rfl
 |b::t,cur,0,h=>by
  have hb:¬b=c:=by intro e;subst e;simp at h
  have ht:t.count c≤0:=by rw[List.count_cons]at h;omega
  have e:=KB c t (cur++ [b]) 0 ht;unfold Bg;rw[if_neg hb,←e];show [cur++b::t]=_
  cases t with
  |nil=>rfl
  |cons d t=>show _= [cur++ [b]++d::t];simp
 |b::t,cur,k+1,h=>by
  unfold C3 Bg;by_cases hb:b=c
  ·subst hb;rw[if_pos rfl,if_pos rfl,KB b t [] k (by simp at h;omega)]
  ·rw[if_neg hb,if_neg hb,KB c t (cur++ [b]) (k+1) (by rw[List.count_cons]at h;omega)]
theorem RU(c:UInt8):∀(s cur:List UInt8) (k:Nat),(∀b∈s,b≠c)→C3 c k cur s= [cur++s]
 | [],cur,0,_=>by unfold C3;simp
 | [],cur,k+1,_=>by unfold C3;simp
 |b::t,cur,0,h=>by unfold C3;rfl
 |b::t,cur,k+1,h=>by
  unfold C3;rw[if_neg (h b (by simp)),RU c t _ _ fun x hx=>h x (by simp[hx])];simp
theorem RR(c:UInt8):∀(l t cur:List UInt8) (k:Nat),(∀b∈l,b≠c)→C3 c (k+1) cur (l++c::t)=(cur++l)::C3 c k [] t
 | [],t,cur,k,_=>by rw[List.nil_append,RT,if_pos rfl];simp
 |b::l,t,cur,k,h=>by
  rw[List.cons_append,RT,if_neg (h b (by simp)),RR c l t _ _ fun x hx=>h x (by simp[hx])];simp
theorem RW(c:UInt8):∀(s cur:List UInt8),(∀b∈s,b≠c)→Bg c cur s= [cur++s]
 | [],cur,_=>by unfold Bg;simp
 |b::t,cur,h=>by
  unfold Bg;rw[if_neg (h b (by simp)),RW c t _ fun x hx=>h x (by simp[hx])];simp
theorem RV(c:UInt8):∀(l t cur:List UInt8),(∀b∈l,b≠c)→Bg c cur (l++c::t)=(cur++l)::Bg c [] t
 | [],t,cur,_=>by rw[List.nil_append,N2,if_pos rfl];simp
 |b::l,t,cur,h=>by
  rw[List.cons_append,N2,if_neg (h b (by simp)),RV c l t _ fun x hx=>h x (by simp[hx])];simp
theorem SX(c:UInt8)(s:List UInt8):(∀x∈s,x≠c)∨∃l t,s=l++c::t∧∀x∈l,x≠c:=by
 induction s with
 |nil=>exact .inl (by simp)
 |cons b s ih=>
  by_cases hb:b=c
  ·exact .inr ⟨[],s,by rw[hb];rfl,by simp⟩
  ·rcases ih with h|⟨l,t,rfl,h⟩
   ·exact .inl (by intro x hx;rcases List.mem_cons.1 hx with rfl|hx;exact hb;exact h x hx)
   ·exact .inr ⟨b::l,t,rfl,by intro x hx;rcases List.mem_cons.1 hx with rfl|hx;exact hb;exact h x hx⟩
theorem KC(c:UInt8):∀(s cur:List UInt8),Bg c cur s≠ []
 | [],cur=>by unfold Bg;simp
 |b::t,cur=>by unfold Bg;split;simp;exact KC c t _
theorem N3(c:UInt8):∀(s cur:List UInt8),(Bg c cur s).length=s.count c+1
 | [],cur=>rfl
 |b::t,cur=>by
  unfold Bg;rw[List.count_cons];by_cases hb:b=c
  ·subst hb;rw[if_pos rfl,List.length_cons,N3 b t []];simp
  ·rw[if_neg hb,N3 c t _];simp[hb]
theorem I6(c:UInt8):∀(s cur:List UInt8),(∀x∈cur,x≠c)→∀w∈Bg c cur s,(∀x∈w,x≠c)∧w.length≤cur.length+s.length∧(∀x∈w,x∈cur∨x∈s)
 | [],cur,h,w,hw=>by unfold Bg at hw;simp at hw;subst hw;exact⟨h,by simp,fun x hx=>.inl hx⟩
 |b::t,cur,h,w,hw=>by
  unfold Bg at hw;split at hw
  ·rcases List.mem_cons.1 hw with rfl|hw
   ·exact⟨h,by simp,fun x hx=>.inl hx⟩
   ·obtain⟨h1,h2,h3⟩:=I6 c t [] (by simp) w hw;exact⟨h1,by simp at h2⊢;omega,fun x hx=>by rcases h3 x hx with h4|h4;cases h4;exact .inr (by simp[h4])⟩
  ·rename_i hb;obtain⟨h1,h2,h3⟩:=I6 c t (cur++ [b]) (by intro x hx;rcases List.mem_append.1 hx with hx|hx;exact h x hx;simp at hx;subst hx;exact hb) w hw
   exact⟨h1,by simp at h2⊢;omega,fun x hx=>by
    rcases h3 x hx with h4|h4
    ·rcases List.mem_append.1 h4 with h4|h4
     ·exact .inl h4
     ·simp at h4;exact .inr (by simp[h4])
    ·exact .inr (by simp[h4])⟩
theorem UE{l:List UInt8}{c:UInt8}(h:∀b∈l,b≠c):Lib.indexByte l c= -1:=by
 induction l with
 |nil=>rfl
 |cons b t ih=>
  have hb:(b==c)=false:=by simpa using h b (by simp)
  simp[Lib.indexByte,hb,ih fun x hx=>h x (by simp[hx])]
theorem UD{l t:List UInt8}{c:UInt8}(h:∀b∈l,b≠c):Lib.indexByte (l++c::t) c=(l.length:Int):=by
 induction l with
 |nil=>simp[Lib.indexByte]
 |cons b u ih=>
  have hb:(b==c)=false:=by simpa using h b (by simp)
  have e:=ih fun x hx=>h x (by simp[hx]);simp only[List.cons_append,Lib.indexByte,hb,e];have:(((u.length:Int))== -1)=false:=by simp
  simp[this]
theorem NS(s:List UInt8)(c:UInt8):N5 (s,[c])=some (Lib.indexByte s c):=rfl
theorem U8(c:UInt8):∀(k:Nat) (done:List (List UInt8)) (s:List UInt8),s.length≤1000000→done.length+k≤1000000→
  ∃(s':List UInt8) (i:Nat) (a:List (List UInt8)),iter Hy (s,[c],0,((done.length+k:Nat):Int),(done.length:Int),done++List.replicate (k+1) [],(),())=some (s',(i:Int),a,(),())∧i<a.length∧i≤1000000∧(a.set i s').take (i+1)=done++C3 c k [] s:=by
 intro k
 induction k with
 |zero=>
  intro done s hs hd;refine⟨s,done.length,done++List.replicate 1 [], ?_,by simp,by omega, ?_⟩
  ·rw[EQ];unfold Hy;dsimp only;rw[Ak (show ¬(done.length:Int)<((done.length+0:Nat):Int) by omega)];rfl
  ·have e:(done++List.replicate 1 []).set done.length s=done++ [s]:=by simp
   rw[e];have:C3 c 0 [] s= [s]:=by cases s<;>rfl
   rw[this,List.take_of_length_le (by simp)]
 |succ k ih=>
  intro done s hs hd;have hlt:decide ((done.length:Int)<((done.length+(k+1):Nat):Int))=true:=Al (by omega);rcases SX c s with h|⟨l,t,rfl,h⟩
  ·refine⟨s,done.length,done++List.replicate (k+1+1) [], ?_,by simp,by omega, ?_⟩
   ·rw[EQ];unfold Hy;dsimp only;rw[hlt,if_pos rfl,NS,UE h,bs];rfl
   ·have e:(done++List.replicate (k+1+1) []).set done.length s=done++s::List.replicate (k+1) []:=by
     rw[List.replicate_succ];simp
    rw[e,RU c s [] (k+1) h];rw[show done++s::List.replicate (k+1) []=(done++ [s])++List.replicate (k+1) [] by simp];rw[List.take_append_of_le_length (by simp),List.take_of_length_le (by simp)];rfl
  ·have hl:l.length+t.length+1≤1000000:=by simp at hs;omega
   obtain⟨s',i,a,h1,h2,h3,h4⟩:=ih (done++ [l]) t (by omega) (by simp;omega);refine⟨s',i,a, ?_,h2,h3, ?_⟩
   ·rw[EQ];unfold Hy;dsimp only;rw[hlt,if_pos rfl,NS,UD h,bs];have c1:decide ((l.length:Int)<0)=false:=Ak (by omega);rw[c1];simp only[Ag,if_false];have w1:i64.wrap ((l.length:Int)+0)=(l.length:Int):=by rw[AS (by omega) (by omega)];omega
    have l1:AR (l++c::t) 0 (l.length:Int)=some l:=by
     have:=DE (xs:=l++c::t) (i:=0) (j:=l.length) (by omega) (by simp);simpa using this
    have w2:i64.wrap ((l.length:Int)+(([c]:List UInt8).length:Int))=((l.length+1:Nat):Int):=by
     rw[AS (by omega) (by simp only[List.length_cons,List.length_nil];omega)];simp
    have l2:AR (l++c::t) ((l.length+1:Nat):Int) (((l++c::t):List UInt8).length:Int)=some t:=by
     have:=DE (xs:=l++c::t) (i:=l.length+1) (j:=(l++c::t).length) (by simp) (by omega);rw[this,List.take_length];simp
    have w3:i64.wrap ((done.length:Int)+1)=(((done++ [l]).length:Nat):Int):=by rw[AS (by omega) (by omega)];simp
    have hin:0≤(done.length:Int)∧(done.length:Int)<((done++List.replicate (k+1+1) []:List (List UInt8)).length:Int):=by simp;omega
    have hget:(done++List.replicate (k+1+1) [])[(done.length:Int).toNat]? =some ([]:List UInt8):=by
     rw[Int.toNat_natCast,List.replicate_succ];simp
    have hset:(done++List.replicate (k+1+1) []).set (done.length:Int).toNat l=(done++ [l])++List.replicate (k+1) []:=by
     rw[Int.toNat_natCast,List.replicate_succ];simp
    rw[w1,l1,bs,if_pos hin,bs,hget,hset,ms,bs,w2,l2,bs,w3];have e1:((done++ [l]).length+k:Nat)=done.length+(k+1):=by simp;omega
    rw[e1]at h1;exact h1
   ·rw[h4,RR c l t [] k h];simp
theorem U2{c:UInt8}{s:List UInt8}{k:Nat}(hs:s.length≤1000000)(hk:k≤1000000){n:Int}(hn:n=((k+1:Nat):Int)):
  ((if 0≤n∧n≤n∧n*(16:Int)≤140737488355328∧n≤4611686018427387904 then some (List.replicate n.toNat ([]:List UInt8))else none).bind fun l31=>
    Option.bind ((iter Hy (s,[c],(0:Int),i64.wrap (n-(1:Int)),(0:Int),l31,(),())).bind fun o=>some (o.1,o.2.1,o.2.2.1,(),())) fun o=>
    Option.bind (if 0≤o.2.1∧o.2.1<(o.2.2.1.length:Int)then some o.2.1.toNat else none) fun x61=>
    Option.bind ((o.2.2.1[x61]?).map (fun el18=>o.2.2.1.set x61 o.1)) fun l31=>
    Option.bind (AR l31 (0:Int) (i64.wrap (o.2.1+(1:Int)))) fun x65=>some x65)=some (C3 c k [] s):=by
 subst hn;obtain⟨s',i,a,h1,h2,h3,h4⟩:=U8 c k [] s hs (by simpa using hk);simp only[List.length_nil,Nat.zero_add,List.nil_append]at h1 h4;rw[if_pos (by omega),bs,Int.toNat_natCast];have w1:i64.wrap (((k+1:Nat):Int)-1)=(k:Int):=by rw[AS (by omega) (by omega)];omega
 rw[w1];rw[show((0:Nat):Int)=0 from rfl]at h1;rw[h1,bs,bs];dsimp only;have hg:a[i]? =some (a[i]'h2):=Ai _;rw[if_pos (by omega),bs,Int.toNat_natCast,hg,ms,bs];have w2:i64.wrap ((i:Int)+1)=((i+1:Nat):Int):=by rw[AS (by omega) (by omega)];omega
 have:=DE (xs:=a.set i s') (i:=0) (j:=i+1) (by omega) (by simp;omega);rw[w2];rw[show(0:Int)=((0:Nat):Int)from rfl,this,bs];simp only[List.drop_zero];rw[h4]
theorem Ol{c:UInt8}{s:List UInt8}(hs:s.length≤900000):IB (s,[c])=some (C2 c s):=by
 unfold IB N6;dsimp only;have c1:(([c]:List UInt8)== [])=false:=rfl;have c2:((-1:Int)==0)=false:=rfl;have c3:decide ((-1:Int)<0)=true:=rfl;have hcnt:I9 (s,[c])=some (s.count c:Int):=rfl;have hle:s.count c≤s.length:=List.count_le_length;have w1:i64.wrap ((s.count c:Int)+1)=((s.count c+1:Nat):Int):=by rw[AS (by omega) (by omega)];omega
 have w2:i64.wrap ((s.length:Int)+1)=((s.length+1:Nat):Int):=by rw[AS (by omega) (by omega)];omega
 simp only[c1,c2,c3,Ag,if_false,if_true,hcnt,bs,w1,w2];have hm:min (((s.count c+1:Nat)):Int) ((s.length+1:Nat):Int)=((s.count c+1:Nat):Int):=by omega
 rw[hm,U2 (k:=s.count c) (by omega) (by omega) rfl,bs,KB c s [] _ (Nat.le_refl _)];rfl
set_option linter.unusedSimpArgs false
set_option linter.unusedVariables false
theorem Lb{s t:List UInt8}(h:s.length≤1000000000):GR (s,t)=some (decide (t<:+s)):=by
 unfold GR;dsimp only;simp only[gPi,gSS,gPb,gPm,gPs,gM,gM2,Bp,gOr,Bq,Bu,gAA,gAO,gOA,gOO,Bm,Bo,Br,Bt,Bn,Bs,gId];simp only[Bz,B0,B1,B2,B3,B4,B5,B6,gId,By,gMb,gMm,gBm,gBb,bs,ms];by_cases hl:t.length≤s.length
 ·rw[Al (show((s.length:Int)≥(t.length:Int)) by omega),if_pos rfl,AS (by omega) (by omega)];rw[show((s.length:Int)-(t.length:Int))=((s.length-t.length:Nat):Int) by omega,DE (by omega) (Nat.le_refl _),List.take_length,bs]
  congr 1
  rw[Bool.eq_iff_iff,beq_iff_eq,decide_eq_true_eq,List.suffix_iff_eq_drop,eq_comm]
 ·rw[Ak (show ¬((s.length:Int)≥(t.length:Int)) by omega),if_neg (by decide),Ak];exact fun hh=>hl hh.length_le
theorem S3{s t:List UInt8}(h:s.length≤1000000000):Jv (s,t)=some (decide (t<+:s)):=by
 unfold Jv;dsimp only;simp only[gPi,gSS,gPb,gPm,gPs,gM,gM2,Bp,gOr,Bq,Bu,gAA,gAO,gOA,gOO,Bm,Bo,Br,Bt,Bn,Bs,gId];simp only[Bz,B0,B1,B2,B3,B4,B5,B6,gId,By,gMb,gMm,gBm,gBb,bs,ms];by_cases hl:t.length≤s.length
 ·rw[Al (show((s.length:Int)≥(t.length:Int)) by omega),if_pos rfl];rw[show AR s 0 (t.length:Int)=AR s ((0:Nat):Int) (t.length:Int)from rfl,DE (by omega) hl,List.drop_zero,bs]
  congr 1
  rw[Bool.eq_iff_iff,beq_iff_eq,decide_eq_true_eq,List.prefix_iff_eq_take,eq_comm]
 ·rw[Ak (show ¬((s.length:Int)≥(t.length:Int)) by omega),if_neg (by decide),Ak];exact fun hh=>hl hh.length_le
theorem NN{s t:List UInt8}(h:s.length≤1000000000):KF (s,t)=some (if t<:+s then(s.take (s.length-t.length),true)else(s,false)):=by
 unfold KF Me;dsimp only;rw[Lb h,bs];by_cases hs:t<:+s
 ·have:=hs.length_le;rw[Al hs,if_neg (by decide),if_pos hs,AS (by omega) (by omega)];rw[show((s.length:Int)-(t.length:Int))=((s.length-t.length:Nat):Int) by omega,show AR s 0 ((s.length-t.length:Nat):Int)=AR s ((0:Nat):Int) ((s.length-t.length:Nat):Int)from rfl,DE (by omega) (by omega),List.drop_zero,bs,bs]
 ·rw[Ak hs,if_pos (show(!false)=true from rfl),if_neg hs,bs]
theorem NM{s t:List UInt8}(h:s.length≤1000000000):KD (s,t)=some (if t<+:s then(s.drop t.length,true)else(s,false)):=by
 unfold KD Md;dsimp only;rw[S3 h,bs];by_cases hs:t<+:s
 ·have:=hs.length_le;rw[Al hs,if_neg (by decide),if_pos hs];rw[DE this (Nat.le_refl _),List.take_length,bs,bs]
 ·rw[Ak hs,if_pos (show(!false)=true from rfl),if_neg hs,bs]
theorem SB{s t:List UInt8}(h:s.length≤1000000000):KH (s,t)=some (if t<:+s then s.take (s.length-t.length)else s):=by
 unfold KH Mf;dsimp only;rw[Lb h,bs];by_cases hs:t<:+s
 ·have:=hs.length_le;rw[Al hs,if_pos rfl,if_pos hs,AS (by omega) (by omega)];rw[show((s.length:Int)-(t.length:Int))=((s.length-t.length:Nat):Int) by omega,show AR s 0 ((s.length-t.length:Nat):Int)=AR s ((0:Nat):Int) ((s.length-t.length:Nat):Int)from rfl,DE (by omega) (by omega),List.drop_zero,bs,bs]
 ·rw[Ak hs,if_neg (by decide),if_neg hs,bs]
theorem R6{s t:List UInt8}(h:s.length≤1000000000):KG (s,t)=some (decide (t<:+s)):=by
 unfold KG;dsimp only;rw[Lb h,bs]
theorem Qd{s:List UInt8}(hs:s.length≤1000000000):∀(n:Nat) (p t:List UInt8),p.length=n→s=p++t→(∀b∈t,b≠10)→
  ∃q,iter HU (s,10,(n:Int)-1,())=some q∧((q=.inl ()∧∀b∈s,b≠10)∨∃A L,s=A++10::L∧(∀b∈L,b≠10)∧q=.inr (A.length:Int))
 |0,p,t,hp,h,ht=>by
  have:p= []:=List.eq_nil_of_length_eq_zero hp;subst this;refine⟨.inl (), ?_,.inl ⟨rfl,by rw[h];simpa using ht⟩⟩;refine itR ?_;rfl
 |n+1,p,t,hp,h,ht=>by
  obtain⟨q,b,rfl⟩:∃q b,p=q++ [b]:=⟨p.dropLast,p.getLast (by intro e;subst e;cases hp),(List.dropLast_concat_getLast _).symm⟩;have hq:q.length=n:=by simpa using hp
  have hat:s[q.length]? =some b:=by rw[h];simp
  have hi:=(Ae.1 hat).1;have e1:((n+1:Nat):Int)-1=(q.length:Int):=by omega
  rw[e1];by_cases hb:b=10
  ·subst hb;refine⟨.inr (q.length:Int), ?_,.inr ⟨q,t,by rw[h];simp,ht,rfl⟩⟩;refine itR ?_;unfold HU;dsimp only;rw[Al (by omega),if_pos rfl,Gv hat,bs];rfl
  ·obtain⟨r,h1,h2⟩:=Qd hs n q (b::t) hq (by rw[h];simp) (fun x hx=>by
    rcases List.mem_cons.1 hx with rfl|hx
    ·exact hb
    ·exact ht x hx)
   refine⟨r, ?_,h2⟩;rw[←h1]
   have e2:HU (s,10,(q.length:Int),())=some (.inl (s,10,(n:Int)-1,())):=by
    unfold HU;dsimp only
    have hbn:(((b.toNat:Nat):Int)==10)=false:=by
     rw[beq_eq_false_iff_ne];intro hh;exact hb (UInt8.toNat_inj.1 (by show b.toNat=10;omega))
    rw[Al (by omega),if_pos rfl,Gv hat,bs,hbn,if_neg (by decide),AS (by omega) (by omega),hq]
   exact itL e2
theorem Mn{s:List UInt8}(hs:s.length≤1000000000):∃A L,s=A++L∧(∀b∈L,b≠10)∧(A= []∨∃q,A=q++ [10])∧IA (s,10)=some ((A.length:Int)-1):=by
 obtain⟨q,h1,h2⟩:=Qd hs s.length s [] rfl (by simp) (by simp)
 have e:∀r,(match q with| .inl _=>some (-1)| .inr v=>some v)=some r→IA (s,10)=some r:=by
  intro r hr;unfold IA Mc;dsimp only;rw[AS (by omega) (by omega),h1,bs];have:∀(o:Option Int),o=some r→(o.bind fun x=>some x)=some r:=fun o ho=>by rw[ho,bs]
  refine this _ ?_;rw[←hr];cases q<;>rfl
 rcases h2 with⟨rfl,h3⟩|⟨A,L,h3,h4,rfl⟩
 ·exact⟨[],s,rfl,h3,.inl rfl,e _ rfl⟩
 ·refine⟨A++ [10],L,by rw[h3];simp,h4,.inr ⟨A,rfl⟩,e _ ?_⟩;simp
def H7:List UInt8:= [99,104,101,99,107,32]
def A9(A:List UInt8):List UInt8:=H7++Lib.decDigits (chk A)
def Whole(A:List UInt8):Prop:=A= []∨∃q,A=q++ [10]
theorem LC{b:UInt8}(h:dgt b=true):b≠10∧b≠32∧b≠99:=by
 rw[Dj]at h;refine⟨?_, ?_, ?_⟩<;>(intro e;subst e;revert h;decide)
theorem HF{n:Nat}{b:UInt8}(h:b∈Lib.decDigits n):dgt b=true:=List.all_eq_true.1 (Ph n) b h
theorem OG(A:List UInt8):∀b∈A9 A,b≠10:=by
 intro b hb;rcases List.mem_append.1 hb with h|h
 ·unfold H7 at h;intro e;subst e;revert h;decide
 ·exact(LC (HF h)).1
theorem XB{A A' L L':List UInt8}(h:A++L=A'++L')(hA:Whole A)(hA':Whole A')(hL:∀b∈L,b≠10)(hL':∀b∈L',b≠10):A=A'∧L=L':=by
 have key:∀{A A' L L':List UInt8},A++L=A'++L'→Whole A'→(∀b∈L,b≠10)→A'.length≤A.length:=by
  intro A A' L L' h hA' hL;rcases hA' with rfl|⟨q,rfl⟩
  ·simp
  ·apply Nat.le_of_not_lt;intro hlt;have h1:(A++L)[q.length]? =some 10:=by rw[h];simp
   rw[List.getElem?_append_right (by simp at hlt;omega)]at h1;exact hL 10 (List.mem_of_getElem? h1) rfl
 have h1:=key h hA' hL;have h2:=key h.symm hA hL';exact List.append_inj h (by omega)
theorem Xe{s:List UInt8}(hs:s.length≤1000000)(h:¬ [10]<:+s):∃A,Gp s=some (A,false):=by
 obtain⟨A,L,h1,h2,h3,h4⟩:=Mn (s:=s) (by omega);have hlen:A.length+L.length=s.length:=by rw[h1];simp
 have e2:i64.wrap ((A.length:Int)-1+1)=(A.length:Int):=by rw[AS (by omega) (by omega)];omega
 refine⟨A, ?_⟩;unfold Gp;dsimp only;simp only[gPi,gSS,gPb,gPm,gPs,gM,gM2,Bp,gOr,Bq,Bu,gAA,gAO,gOA,gOO,Bm,Bo,Br,Bt,Bn,Bs,gId];simp only[Bz,B0,B1,B2,B3,B4,B5,B6,gId,By,gMb,gMm,gBm,gBb,bs,ms];rw[NN (by omega),if_neg h,bs];dsimp only
 rw[h4,bs,e2,DE (by omega) (Nat.le_refl _),bs,List.take_length,NM (by simp;omega),bs,Hl (by
  have:∀(q:List UInt8×Bool),(q=(List.drop [99,104,101,99,107,32].length (List.drop A.length s),true)∨q=(List.drop A.length s,false))→q.1.length≤281474976710656:=by
   rintro q (rfl|rfl)<;>simp<;>omega
  exact this _ (by split;exact .inl rfl;exact .inr rfl)) (by omega),bs]
 rw[show AR s 0 (A.length:Int)=AR s ((0:Nat):Int) (A.length:Int)from rfl,DE (by omega) (by omega),List.drop_zero,bs];rw[if_neg (by decide),bs,if_neg (by decide),bs,if_neg (by decide),bs];have:s.take A.length=A:=by rw[h1];simp
 rw[this]
theorem Sg{A L:List UInt8}(hs:(A++L++ [10]).length≤1000000)(hL:∀b∈L,b≠10)(hA:Whole A):Gp (A++L++ [10])=some (A,decide (L=A9 A)):=by
 have hlen:(A++L++ [10]:List UInt8).length=A.length+L.length+1:=by simp;omega
 obtain⟨A',L',h1,h2,h3,h4⟩:=Mn (s:=A++L) (by simp at hs⊢;omega);obtain⟨e1,e2⟩:=XB h1 hA h3 hL h2;subst e1 e2;have e3:i64.wrap ((A.length:Int)-1+1)=(A.length:Int):=by rw[AS (by omega) (by omega)];omega
 unfold Gp;dsimp only;simp only[gPi,gSS,gPb,gPm,gPs,gM,gM2,Bp,gOr,Bq,Bu,gAA,gAO,gOA,gOO,Bm,Bo,Br,Bt,Bn,Bs,gId];simp only[Bz,B0,B1,B2,B3,B4,B5,B6,gId,By,gMb,gMm,gBm,gBb,bs,ms];have hsuf: [10]<:+(A++L++ [10]:List UInt8):=List.suffix_append _ _
 have htk:(A++L++ [10]:List UInt8).take ((A++L++ [10]:List UInt8).length-([10]:List UInt8).length)=A++L:=by
  rw[show(A++L++ [10]:List UInt8).length-([10]:List UInt8).length=(A++L).length by simp,List.take_left]
 rw[NN (by omega),if_pos hsuf,bs,htk];dsimp only;rw[h4,bs,e3,DE (by simp) (Nat.le_refl _),bs,List.take_length,List.drop_left,NM (by omega),bs]
 have hA0:AR (A++L++ [10]) 0 (A.length:Int)=some A:=by
  rw[show AR (A++L++ [10]) 0 (A.length:Int)=AR (A++L++ [10]) ((0:Nat):Int) (A.length:Int)from rfl,DE (by omega) (by omega),List.drop_zero,List.append_assoc,List.take_left]
 rw[hA0];by_cases hp:([99,104,101,99,107,32]:List UInt8)<+:L
 ·obtain⟨D,rfl⟩:=hp;have hp':([99,104,101,99,107,32]:List UInt8)<+: [99,104,101,99,107,32]++D:=List.prefix_append _ _;rw[if_pos hp'];dsimp only;have hDl:D.length≤1000000:=by have:=hs;simp at this;omega
  rw[List.drop_left,Hl (by omega) (by omega),bs,bs,if_pos rfl,bs];have hc:A.length≤1000000000:=by omega
  simp only[bs];rw[OH hc]
  have key:decide (([99,104,101,99,107,32]++D:List UInt8)=A9 A)=(BV D 1000002&&(Dz D==(chk A:Int))):=by
   rw[Bool.eq_iff_iff,decide_eq_true_eq,Af,beq_iff_eq];constructor
   ·intro h;have hD:D=Lib.decDigits (chk A):=List.append_cancel_left h;have hlt:=IU A;have ht:BV D 1000002=true:=by rw[hD];exact KL (by omega)
    exact⟨ht,by rw[Fh (by omega) ht,hD,Fv]⟩
   ·rintro⟨h1,h2⟩
    rw[Fh (by omega) h1]at h2
    have h3:Cu D=true:=by
     simp only[BV,Af]at h1;exact h1.1
    have h4:=Jg h3;show _=H7++Lib.decDigits (chk A);rw[show chk A=A4 0 D by omega,h4];rfl
  rw[key]
  cases ht:BV D 1000002 with
  |false=>rfl
  |true=>
   simp only[if_true,bs];have h1:=Fh (s:=D) (by omega) ht
   have h2:(A4 0 D:Int)≤1000002:=by
    simp only[BV,Af,decide_eq_true_eq]at ht;exact ht.2
   rw[h1,AS (by omega) (by omega)];rfl
 ·rw[if_neg hp];dsimp only;rw[Hl (by rw[hlen]at hs;omega) (by omega),bs,bs,if_pos rfl,bs,if_neg (by decide),bs,if_neg (by decide),bs];have:decide (L=A9 A)=false:=Ak fun h=>hp (by rw[h];exact List.prefix_append _ _);rw[this]
set_option linter.unusedSimpArgs false
set_option linter.unusedVariables false
noncomputable def cp(s:List UInt8):Int×Int:=(Er s).getD (0,3)
theorem OX{s:List UInt8}(h:s.length≤1000000):Er s=some (cp s):=by
 unfold cp;rcases OC h with⟨c,_,e⟩|⟨_,e⟩<;>rw[e]<;>rfl
theorem L0{s:List UInt8}(h:s.length≤1000000):(∃c,IsC s c∧cp s=(c,0))∨((∀c,¬IsC s c)∧cp s=(0,3)):=by
 unfold cp;rcases OC h with⟨c,h1,e⟩|⟨h1,e⟩
 ·exact .inl ⟨c,h1,by rw[e];rfl⟩
 ·exact .inr ⟨h1,by rw[e];rfl⟩
theorem Tx{s:List UInt8}{c:Int}(h:s.length≤1000000)(hc:IsC s c)(hu:∀d,IsC s d→d=c):cp s=(c,0):=by
 rcases L0 h with⟨d,h1,e⟩|⟨h1,_⟩
 ·rw[e,hu d h1]
 ·exact absurd hc (h1 c)
def Gl:List UInt8:= [112,97,121]
abbrev Rdr:=Int×Int×Int×List Ordr
abbrev S6:=Int×Int×Int×List Ordr×Unit×Unit×Unit
def tOf(q:Rdr):S6:=(q.1,q.2.1,q.2.2.1,q.2.2.2,(),(),())
noncomputable def Gc(b c d:List UInt8)(a:List UInt8):Bool:=BV b 2147483647&&BV c 2147483647&&((cp d).2==0)&&(a==Gl)
theorem UA{a b c d:List UInt8}{q:Rdr}(ha:a.length≤1000000)(hb:b.length≤1000000)(hc:c.length≤1000000)(hd:d.length≤1000000):
  Kc ((),[a,b,c,d]) (tOf q)=some (Gc b c d a,tOf (Dz b,Dz c,(cp d).1,q.2.2.2)):=by
 unfold Kc;dsimp only;simp only[gPi,gSS,gPb,gPm,gPs,gM,gM2,Bp,gOr,Bq,Bu,gAA,gAO,gOA,gOO,Bm,Bo,Br,Bt,Bn,Bs,gId];simp only[Bz,B0,B1,B2,B3,B4,B5,B6,gId,By,gMb,gMm,gBm,gBb,bs,ms];rw[show lAt [a,b,c,d] 1=some b from rfl,show lAt [a,b,c,d] 2=some c from rfl,show lAt [a,b,c,d] 3=some d from rfl];simp only[bs];rw[Hl (by omega) (by omega),bs,Hl (by omega) (by omega),bs,OX hd,bs];unfold Gc;simp only[show lAt [a,b,c,d] 0=some a from rfl,bs];cases BV b 2147483647<;>cases BV c 2147483647<;>cases ((cp d).2==0)<;>cases h:(a==Gl)<;>first|rfl|(unfold Gl at h;simp only[h];rfl)
noncomputable def Gk(a c:List UInt8):Bool:=BV a 4294967295&&((cp c).2==0)
noncomputable def F6(a b c d:List UInt8):Ordr:=(u32.wrap (Dz a),b,(cp c).1,d)
theorem VE{a b c d:List UInt8}{q:Rdr}(ha:a.length≤1000000)(hb:b.length≤1000000)(hc:c.length≤1000000)(hd:d.length≤1000000)(hq:q.2.2.2.length≤900000):
  Kd ((),[a,b,c,d]) (tOf q)=some (Gk a c,tOf (q.1,q.2.1,q.2.2.1,q.2.2.2++ [F6 a b c d])):=by
 unfold Kd;dsimp only;simp only[gPi,gSS,gPb,gPm,gPs,gM,gM2,Bp,gOr,Bq,Bu,gAA,gAO,gOA,gOO,Bm,Bo,Br,Bt,Bn,Bs,gId];simp only[Bz,B0,B1,B2,B3,B4,B5,B6,gId,By,gMb,gMm,gBm,gBb,bs,ms];rw[show lAt [a,b,c,d] 0=some a from rfl,show lAt [a,b,c,d] 1=some b from rfl,show lAt [a,b,c,d] 2=some c from rfl,show lAt [a,b,c,d] 3=some d from rfl];simp only[bs];rw[Hl (by omega) (by omega),bs,OX hc,bs]
 have happ:∀{β:Type} (f:Option β),(if(((tOf q).2.2.2.1.length:Int)+(([(u32.wrap (Dz a),b,(cp c).1,d)]:List Ordr).length:Int))*48≤140737488355328∧((tOf q).2.2.2.1.length:Int)+(([(u32.wrap (Dz a),b,(cp c).1,d)]:List Ordr).length:Int)≤4611686018427387904 then f else none)=f:=fun f=>
  SE (by show q.2.2.2.length+1≤_;omega) (by omega)
 dsimp only at happ⊢;rw[happ];unfold Gk;cases BV a 4294967295<;>cases ((cp c).2==0)<;>rfl
noncomputable def Da(first:Bool)(q:Rdr)(x:List UInt8):Option Rdr:=
 match C2 32 x with
 | [a,b,c,d]=>if a= []∨b= []∨c= []∨d= []then none else
  if first=true then(if Gc b c d a=true then some (Dz b,Dz c,(cp d).1,q.2.2.2)else none)
  else if Gk a c=true then some (q.1,q.2.1,q.2.2.1,q.2.2.2++ [F6 a b c d])else none
 |_=>none
noncomputable def Dp:Bool→Rdr→List (List UInt8)→Option Rdr
 |_,q,[]=>some q
 |first,q,x::l=>(Da first q x).bind fun q'=>Dp false q' l
abbrev LS:=((Unit⊕Unit)×List (List UInt8)×Int×Int×Int×Int×Int×List Ordr×Unit×Unit×Unit×Unit)
def lst(f:Unit⊕Unit)(ls:List (List UInt8))(i:Nat)(q:Rdr):LS:=(f,ls,(ls.length:Int),(i:Int),q.1,q.2.1,q.2.2.1,q.2.2.2,(),(),(),())
theorem UR{l:List (List UInt8)}(h:l.length=4):∃a b c d,l= [a,b,c,d]:=by
 match l,h with
 | [a,b,c,d],_=>exact⟨a,b,c,d,rfl⟩
theorem Tv(a b c d:List UInt8):(([a,b,c,d]:List (List UInt8)).any fun y=>([]:List UInt8)==y)=decide (a= []∨b= []∨c= []∨d= []):=by
 cases a<;>cases b<;>cases c<;>cases d<;>rfl
theorem Sx{l:List (List UInt8)}{x:List UInt8}(h:l.length≤1000000):Kx (l,x)=some (l.any fun y=>x==y):=by
 unfold Kx Nz;dsimp only;have e:=ER (b:=Ky) (A:=Nat) (T:=Unit⊕Int) (fun i a=>(l,x,(l.length:Int),(i:Int),())) (fun a y=>if(x==y)=true then Sum.inr (.inr (a:Int))else Sum.inl (a+1)) (fun _=>.inl ()) (fun i a=>a=i) l (a:=0) rfl ?_ ?_ ?_
 ·rw[show((0:Nat):Int)=0 from rfl]at e;rw[e]
  have key:∀(l:List (List UInt8)) (a:Nat),(∃j:Nat,A6 (T:=Unit⊕Int) (fun(a:Nat) y=>if(x==y)=true then Sum.inr (.inr (a:Int))else Sum.inl (a+1)) (fun _=>.inl ()) a l=.inr (j:Int)∧(l.any fun y=>x==y)=true)∨(A6 (T:=Unit⊕Int) (fun(a:Nat) y=>if(x==y)=true then Sum.inr (.inr (a:Int))else Sum.inl (a+1)) (fun _=>.inl ()) a l=.inl ()∧(l.any fun y=>x==y)=false):=by
   intro l
   induction l with
   |nil=>intro a;exact .inr ⟨rfl,rfl⟩
   |cons y l ih=>
    intro a;rw[A6,List.any_cons]
    cases hxy:x==y with
    |true=>exact .inl ⟨a,by simp,by simp⟩
    |false=>
     simp only[Ag,if_false,Bool.false_or];exact ih (a+1)
  rcases key l 0 with⟨j,h1,h2⟩|⟨h1,h2⟩
  ·rw[h1,h2,bs,bs,Al (show(j:Int)≥0 by omega)]
  ·rw[h1,h2,bs,bs];rfl
 ·rintro i y a hx rfl
  have hi:=(Ae.1 hx).1;have ws:=CR (show a<9223372036854775807 by omega);unfold Ky;dsimp only;simp only[gPi,gSS,gPb,gPm,gPs,gM,gM2,Bp,gOr,Bq,Bu,gAA,gAO,gOA,gOO,Bm,Bo,Br,Bt,Bn,Bs,gId];simp only[DG hx,if_true,DD hx,bs,ws];cases x==y<;>rfl
 ·rintro i y a a' hx rfl hst
  split at hst
  ·cases hst
  ·cases hst;rfl
 ·rintro a _
  unfold Ky;dsimp only;simp only[Ec,Ag,if_false]
theorem Vc{ls:List (List UInt8)}{i:Nat}{x:List UInt8}{q:Rdr}{f:Unit⊕Unit}{first:Bool}(hf:f=if first=true then .inl ()else .inr ())(hx:ls[i]? =some x)(hl:x.length≤900000)(hn:ls.length≤1000000)(hq:q.2.2.2.length≤900000):
  (∃q',Da first q x=some q'∧Gm (lst f ls i q)=some (.inl (lst (.inr ()) ls (i+1) q')))∨(Da first q x=none∧∃g,Gm (lst f ls i q)=some (.inr (.inr (false,g)))):=by
 have hi:=(Ae.1 hx).1;have hw:=I6 32 x [] (by simp);unfold Da;unfold Gm lst;dsimp only;simp only[gPi,gSS,gPb,gPm,gPs,gM,gM2,Bp,gOr,Bq,Bu,gAA,gAO,gOA,gOO,Bm,Bo,Br,Bt,Bn,Bs,gId];simp only[Bz,B0,B1,B2,B3,B4,B5,B6,gId,By,gMb,gMm,gBm,gBb,bs,ms];rw[DG hx,if_pos rfl,DD hx,bs,Ol hl,bs];by_cases h4:(C2 32 x).length=4
 ·obtain⟨a,b,c,d,hs⟩:=UR h4
  have hlen:∀w∈ [a,b,c,d],w.length≤1000000:=by
   intro w hm;have:=(hw w (by show w∈C2 32 x;rw[hs];exact hm)).2.1;simp at this;omega
  have ha:=hlen a (by simp);have hb:=hlen b (by simp);have hc:=hlen c (by simp);have hd:=hlen d (by simp);rw[hs];simp only[show(([a,b,c,d]:List (List UInt8)).length:Int)=4 from rfl,show((4:Int) !=4)=false from rfl,Ag,if_false];rw[Sx (by simp),Tv,bs];by_cases he:a= []∨b= []∨c= []∨d= []
  ·right;rw[Al he,if_pos he];refine⟨rfl, ?_⟩;exact⟨_,rfl⟩
  ·rw[Ak he,if_neg he];simp only[if_true]
   cases first with
   |true=>
    rw[if_pos rfl]at hf;subst hf;dsimp only;have e:=UA (q:=q) ha hb hc hd;unfold tOf at e;unfold MX;dsimp only;rw[e,ms,bs]
    cases hh:Gc b c d a with
    |true=>
     left;refine⟨_,rfl, ?_⟩;simp only[bs,ms];rw[CR (by omega)];rfl
    |false=>
     right;refine⟨rfl, ?_⟩;simp only[bs,ms];exact⟨_,rfl⟩
   |false=>
    rw[if_neg (by decide)]at hf;subst hf;dsimp only;have e:=VE (q:=q) ha hb hc hd hq;unfold tOf at e;unfold MY;dsimp only;rw[e,ms,bs]
    cases hh:Gk a c with
    |true=>
     left;refine⟨_,rfl, ?_⟩;simp only[bs,ms];rw[CR (by omega)];rfl
    |false=>
     right;refine⟨rfl, ?_⟩;simp only[bs,ms];exact⟨_,rfl⟩
 ·right;refine⟨?_, ?_⟩
  ·split
   ·rename_i hs;rw[hs]at h4;exact absurd rfl h4
   ·rfl
  ·have:(((C2 32 x).length:Int) !=4)=true:=by
    rw[bne_iff_ne];omega
   rw[this];simp only[if_true,bs];exact⟨_,rfl⟩
theorem UV{first:Bool}{q q':Rdr}{x:List UInt8}(h:Da first q x=some q'):q'.2.2.2.length≤q.2.2.2.length+1:=by
 unfold Da at h;split at h<;>(try cases h;done)
 repeat' (split at h)
 all_goals first|(cases h;done)|(cases h;simp)
theorem Qm{ls:List (List UInt8)}(hn:ls.length≤800000)(hls:∀x∈ls,x.length≤900000):∀(t:List (List UInt8)) (i:Nat) (q:Rdr) (f:Unit⊕Unit) (first:Bool),ls.drop i=t→i≤ls.length→f=(if first=true then .inl ()else .inr ())→q.2.2.2.length≤i→
  ∃r,iter Gm (lst f ls i q)=some r∧((∃q',Dp first q t=some q'∧r=.inl (tOf q'))∨(Dp first q t=none∧∃g,r=.inr (false,g)))
 | [],i,q,f,first,hd,hi,hf,hq=>by
  have:i=ls.length:=by
   have:=congrArg List.length hd;simp at this;omega
  subst this;refine⟨_,itR (t:=.inl (tOf q)) ?_,.inl ⟨q,rfl,rfl⟩⟩;unfold Gm lst;dsimp only;rw[Ec,if_neg (by decide)];rfl
 |x::t,i,q,f,first,hd,hi,hf,hq=>by
  have hx:ls[i]? =some x:=by
   have:=congrArg (fun q=>q[0]?) hd;simpa using this
  have hlt:i<ls.length:=(Ae.1 hx).1;rcases Vc (q:=q) hf hx (hls x (List.mem_of_getElem? hx)) (by omega) (by omega)with⟨q',h1,h2⟩|⟨h1,g,h2⟩
  ·have hl':=UV h1;obtain⟨r,h3,h4⟩:=Qm hn hls t (i+1) q' (.inr ()) false (by rw[←List.tail_drop,hd];rfl) hlt rfl (by omega);refine⟨r,(itL h2).trans h3, ?_⟩;unfold Dp;rw[h1,bs];exact h4
  ·refine⟨_,itR h2,.inr ⟨?_,g,rfl⟩⟩;unfold Dp;rw[h1];rfl
def DP:Rdr:=(0,0,0,[])
noncomputable def G5(T:List UInt8):Option Rdr:=Dp true DP (C2 10 T)
theorem Vb{A:List UInt8}(hA:A.length≤700000)(h:¬ [10]<:+A):∃g,Ei ((),A) (tOf DP)=some (false,g):=by
 unfold Ei;dsimp only;rw[R6 (by omega),bs,Ak h];exact⟨_,rfl⟩
theorem Ql{T:List UInt8}(hT:T.length≤700000):(∃q,G5 T=some q∧Ei ((),T++ [10]) (tOf DP)=some (true,tOf q))∨(G5 T=none∧∃g,Ei ((),T++ [10]) (tOf DP)=some (false,g)):=by
 have hs: [10]<:+(T++ [10]:List UInt8):=List.suffix_append _ _;have hw:=I6 10 T [] (by simp)
 have hn:(C2 10 T).length≤800000:=by
  show(Bg 10 [] T).length≤_;rw[N3];have:=List.count_le_length (a:=(10:UInt8)) (l:=T);omega
 obtain⟨r,h1,h2⟩:=Qm hn (fun x hx=>by have:=(hw x hx).2.1;simp at this;omega) (C2 10 T) 0 DP (.inl ()) true rfl (by omega) rfl (by simp[DP]);unfold Ei;dsimp only;rw[R6 (by simp;omega),bs,Al hs,if_neg (by decide),SB (by simp;omega),if_pos hs,bs];rw[show(T++ [10]:List UInt8).length-([10]:List UInt8).length=T.length by simp,List.take_left,Ol (by omega),bs];have h1':iter Gm (Sum.inl (),C2 10 T,((C2 10 T).length:Int),0,(tOf DP).1,(tOf DP).2.1,(tOf DP).2.2.1,(tOf DP).2.2.2.1,(),(),(),())=some r:=h1;rw[h1',bs];rcases h2 with⟨q',h3,rfl⟩|⟨h3,g,rfl⟩
 ·exact .inl ⟨q',h3,rfl⟩
 ·exact .inr ⟨h3,g,rfl⟩
set_option linter.unusedSimpArgs false
set_option linter.unusedVariables false
def B9(c:UInt8):List (List UInt8)→List UInt8
 | []=> []
 | [a]=>a
 |a::b::r=>a++c::B9 c (b::r)
theorem Jz(c:UInt8):∀(s cur:List UInt8),B9 c (Bg c cur s)=cur++s
 | [],cur=>by simp[Bg,B9]
 |b::s,cur=>by
  rw[N2];by_cases hb:b=c
  ·rw[if_pos hb];have ih:=Jz c s []
   cases hs:Bg c [] s with
   |nil=>exact absurd hs (KC c s [])
   |cons x r=>
    rw[hs]at ih;show cur++c::B9 c (x::r)=_;rw[ih,hb];rfl
  ·rw[if_neg hb,Jz c s (cur++ [b])];simp
theorem N4(c:UInt8):∀(l:List (List UInt8)),l≠ []→(∀x∈l,∀b∈x,b≠c)→C2 c (B9 c l)=l
 | [],h,_=>absurd rfl h
 | [a],_,h=>by
  show Bg c [] a= [a];rw[RW c a [] (h a (by simp))];rfl
 |a::b::r,_,h=>by
  show Bg c [] (a++c::B9 c (b::r))=_;rw[RV c a _ [] (h a (by simp))];have:=N4 c (b::r) (by simp) (fun x hx=>h x (by simp[List.mem_cons.1 hx]));show([]++a)::C2 c (B9 c (b::r))=_;rw[this];rfl
def AP(L:List (List UInt8)):List UInt8:=L.flatMap fun x=>x++ [10]
theorem GW(x:List UInt8)(L:List (List UInt8)):AP (x::L)=x++10::AP L:=by simp[AP]
theorem UZ(L M:List (List UInt8)):AP (L++M)=AP L++AP M:=by simp[AP]
theorem J7:∀(L:List (List UInt8)),L≠ []→AP L=B9 10 L++ [10]
 | [],h=>absurd rfl h
 | [a],_=>by simp[AP,B9]
 |a::b::r,_=>by
  rw[GW,J7 (b::r) (by simp)];show _=a++10::B9 10 (b::r)++ [10];simp
theorem Mv(L:List (List UInt8)):Whole (AP L):=by
 cases L with
 |nil=>exact .inl rfl
 |cons x L=>exact .inr ⟨_,J7 (x::L) (by simp)⟩
theorem Va{T:List UInt8}{L:List (List UInt8)}(h:C2 10 T=L):T++ [10]=AP L:=by
 subst h;show T++ [10]=AP (Bg 10 [] T);rw[J7 _ (KC 10 T [])];have:=Jz 10 T [];rw[List.nil_append]at this;show _=B9 10 (Bg 10 [] T)++ [10];rw[this]
def D2(s:List UInt8):Prop:=s≠ []∧∀b∈s,b≠10∧b≠32
theorem Jf{b:UInt8}(h:dgt b=true):b≠10∧b≠32:=⟨(LC h).1,(LC h).2.1⟩
theorem H0(n:Nat):D2 (Lib.decDigits n):=⟨HG n,fun b hb=>Jf (HF hb)⟩
theorem Xd(c:Int):∀b∈Cf c,b≠10∧b≠32:=by
 intro b hb;obtain⟨W,x,y,h1,h2,h3,h4,_⟩:=NA c.natAbs;unfold Cf at hb;rw[h1]at hb;rcases List.mem_append.1 hb with hb|hb
 ·split at hb
  ·rw[List.mem_singleton.1 hb];decide
  ·cases hb
 ·rcases List.mem_append.1 hb with hb|hb
  ·exact Jf (List.all_eq_true.1 (Lp h2) b hb)
  ·simp only[List.mem_cons,List.not_mem_nil,or_false]at hb;rcases hb with rfl|rfl|rfl
   ·decide
   ·exact Jf h3
   ·exact Jf h4
theorem Xc(c:Int):Cf c≠ []:=by
 obtain⟨W,x,y,h1,_⟩:=NA c.natAbs;unfold Cf;rw[h1];simp
theorem KV(c:Int):D2 (Cf c):=⟨Xc c,Xd c⟩
theorem V6{b:UInt8}(h:okb b=true):b≠10∧b≠32:=by
 constructor<;>(rintro rfl;revert h;decide)
theorem KW{s:List UInt8}(h:BK s=true):D2 s:=by
 unfold BK at h;simp only[Af,Bool.not_eq_true',beq_eq_false_iff_ne]at h;exact⟨h.1.1.2,fun b hb=>V6 (List.all_eq_true.1 h.1.1.1 b hb)⟩
theorem JG{s:List UInt8}(h:BK s=true):s.length≤32:=by
 unfold BK at h;simp only[Af,decide_eq_true_eq]at h;omega
theorem NH:D2 Gl:=⟨by decide,by decide⟩
theorem N9{c:Int}(h:c.natAbs≤AM):(Cf c).length≤18:=by
 have h1:(Lib.decDigits (c.natAbs/100)).length≤14:=Ew (by omega) (by unfold AM at h;omega);unfold Cf KM;simp only[List.length_append,List.length_cons,List.length_nil];split<;>simp<;>omega
def ws4(a b c d:List UInt8):List UInt8:=B9 32 [a,b,c,d]
theorem Ss{a b c d:List UInt8}(ha:D2 a)(hb:D2 b)(hc:D2 c)(hd:D2 d):∀x∈ws4 a b c d,x≠10:=by
 intro x hx;unfold ws4 B9 B9 B9 B9 at hx;simp only[List.mem_append,List.mem_cons]at hx;rcases hx with h|rfl|h|rfl|h|rfl|h
 ·exact(ha.2 x h).1
 ·decide
 ·exact(hb.2 x h).1
 ·decide
 ·exact(hc.2 x h).1
 ·decide
 ·exact(hd.2 x h).1
theorem Sv{a b c d:List UInt8}(ha:D2 a)(hb:D2 b)(hc:D2 c)(hd:D2 d):C2 32 (ws4 a b c d)= [a,b,c,d]:=
 N4 32 [a,b,c,d] (by simp) (by
  intro x hx b hb';simp only[List.mem_cons,List.not_mem_nil,or_false]at hx;rcases hx with rfl|rfl|rfl|rfl
  ·exact(ha.2 b hb').2
  ·exact(hb.2 b hb').2
  ·exact(hc.2 b hb').2
  ·exact(hd.2 b hb').2)
theorem Su{x a b c d:List UInt8}(h:C2 32 x= [a,b,c,d]):x=ws4 a b c d:=by
 have:=Jz 32 x [];rw[List.nil_append]at this;unfold ws4;rw[←h];exact this.symm
theorem IF(a b c d:List UInt8):(ws4 a b c d).length=a.length+b.length+c.length+d.length+3:=by
 unfold ws4 B9 B9 B9 B9;simp;omega
def Dn(n k:Nat)(v:Int):List UInt8:=ws4 Gl (Lib.decDigits n) (Lib.decDigits k) (Cf v)
def BS(o:Ordr):List UInt8:=ws4 (Lib.decDigits o.1.toNat) o.2.1 (Cf o.2.2.1) o.2.2.2
def BN(n:Int)(l:List Ordr):List (List UInt8):=Dn n.toNat l.length (Bh l)::l.map BS
def Bv(n:Int)(l:List Ordr):List UInt8:=AP (BN n l)++A9 (AP (BN n l))++ [10]
def Cn(o:Ordr):Prop:=0≤o.1∧o.1≤4294967295
theorem Ma{c:Int}(h:inC c=true):c.natAbs≤AM:=by
 simp only[inC,Af,decide_eq_true_eq]at h;unfold AM;omega
theorem Jp{c:Int}(h:C6 c=true):c.natAbs≤AM:=by
 simp only[C6,Af,decide_eq_true_eq]at h;unfold AM;omega
theorem Jb{c:Int}(h:c.natAbs≤AM):cp (Cf c)=(c,0):=
 Tx (by have:=N9 h;omega) ⟨h,rfl⟩ fun d hd=>UI hd ⟨h,rfl⟩
theorem UX{o:Ordr}{q:Rdr}(h:OkO o)(hp:Cn o):Da false q (BS o)=some (q.1,q.2.1,q.2.2.1,q.2.2.2++ [o]):=by
 obtain⟨h1,h2,h3,h4⟩:=h;have w1:=H0 o.1.toNat
 have w2:=KW h2;have w3:=KV o.2.2.1;have w4:=KW h4;have hm:=Ma h3;unfold Da BS;rw[Sv w1 w2 w3 w4];simp only
 rw[if_neg (by
  rintro(h|h|h|h)
  ·exact w1.1 h
  ·exact w2.1 h
  ·exact w3.1 h
  ·exact w4.1 h),if_neg (by decide)]
 have ht:BV (Lib.decDigits o.1.toNat) 4294967295=true:=KL (by have:=hp.2;have:=hp.1;omega)
 have hb:Gk (Lib.decDigits o.1.toNat) (Cf o.2.2.1)=true:=by
  unfold Gk;rw[ht,Jb hm];rfl
 rw[if_pos hb]
 have ho:F6 (Lib.decDigits o.1.toNat) o.2.1 (Cf o.2.2.1) o.2.2.2=o:=by
  unfold F6;rw[Fh (by omega) ht,Jb hm,Fv,IntKind.wrap_u32];have:=hp.1;have:=hp.2;have e:((o.1.toNat:Int))% 4294967296=o.1:=by omega
  rw[e]
 rw[ho]
theorem Qh:∀(l:List Ordr) (q:Rdr),(∀o∈l,OkO o∧Cn o)→Dp false q (l.map BS)=some (q.1,q.2.1,q.2.2.1,q.2.2.2++l)
 | [],q,_=>by simp[Dp]
 |o::l,q,h=>by
  rw[List.map_cons,Dp,UX (h o (by simp)).1 (h o (by simp)).2,bs,Qh l _ (fun x hx=>h x (by simp[hx]))];simp
theorem UC{n k:Nat}{v:Int}(hn:n≤2147483647)(hk:k≤2147483647)(hv:v.natAbs≤AM):Da true DP (Dn n k v)=some ((n:Int),(k:Int),v,[]):=by
 have w2:=H0 n;have w3:=H0 k;have w4:=KV v;unfold Da Dn;rw[Sv NH w2 w3 w4];simp only
 rw[if_neg (by
  rintro(h|h|h|h)
  ·exact NH.1 h
  ·exact w2.1 h
  ·exact w3.1 h
  ·exact w4.1 h)]
 simp only[if_true];have t1:BV (Lib.decDigits n) 2147483647=true:=KL (by omega);have t2:BV (Lib.decDigits k) 2147483647=true:=KL (by omega)
 have hb:Gc (Lib.decDigits n) (Lib.decDigits k) (Cf v) Gl=true:=by
  unfold Gc;rw[t1,t2,Jb hv];rfl
 rw[if_pos hb,Fh (by omega) t1,Fh (by omega) t2,Fv,Fv,Jb hv];rfl
theorem SW{n:Int}{l:List Ordr}(h:DT n l)(hp:∀o∈l,Cn o):∃T,AP (BN n l)=T++ [10]∧G5 T=some (n,(l.length:Int),Bh l,l):=by
 obtain⟨h1,h2,h3,h4,h5⟩:=h;refine⟨B9 10 (BN n l),J7 _ (by simp[BN]), ?_⟩
 have hno:∀x∈BN n l,∀b∈x,b≠10:=by
  intro x hx b hb;rcases List.mem_cons.1 hx with rfl|hx
  ·exact Ss NH (H0 _) (H0 _) (KV _) b hb
  ·obtain⟨o,ho,rfl⟩:=List.mem_map.1 hx;obtain⟨k1,k2,k3,k4⟩:=h3 o ho;exact Ss (H0 _) (KW k2) (KV _) (KW k4) b hb
 unfold G5;rw[N4 10 _ (by simp[BN]) hno];unfold BN Dp;rw[UC (by omega) (by omega) (Jp h5),bs,Qh l _ (fun o ho=>⟨h3 o ho,hp o ho⟩)];simp only[List.nil_append];rw[show((n.toNat:Nat):Int)=n by omega]
theorem UW{x:List UInt8}{q q':Rdr}(hx:x.length≤900000)(h:Da false q x=some q'):∃o,Cn o∧o.2.2.1.natAbs≤AM∧x=BS o∧7≤x.length∧q'=(q.1,q.2.1,q.2.2.1,q.2.2.2++ [o]):=by
 unfold Da at h;split at h<;>(try cases h;done);rename_i a b c d hs;split at h<;>(try cases h;done);rename_i hne;rw[if_neg (by decide)]at h;split at h<;>(try cases h;done);rename_i hb;cases h;have hx':=Su hs;have hlen:=IF a b c d;rw[←hx']at hlen;simp only[not_or]at hne;have p1:=List.length_pos_iff.2 hne.1;have p2:=List.length_pos_iff.2 hne.2.1;have p3:=List.length_pos_iff.2 hne.2.2.1;have p4:=List.length_pos_iff.2 hne.2.2.2;unfold Gk at hb;simp only[Af,beq_iff_eq]at hb;obtain⟨hb1,hb2⟩:=hb;have ht:=Fh (by omega) hb1;simp only[BV,Af,decide_eq_true_eq]at hb1;rcases L0 (s:=c) (by omega)with⟨v,hv,e⟩|⟨_,e⟩
 ·have hval:u32.wrap (Dz a)=(A4 0 a:Int):=by rw[ht,IntKind.wrap_u32];omega
  refine⟨F6 a b c d, ?_, ?_, ?_,by omega,rfl⟩
  ·unfold Cn F6;simp only[hval];omega
  ·unfold F6;rw[e];exact hv.1
  ·unfold BS F6;simp only[hval,e];rw[show((A4 0 a:Nat):Int).toNat=A4 0 a by omega,Jg hb1.1,hv.2];exact hx'
 ·rw[e]at hb2;cases hb2
theorem UB{x:List UInt8}{q':Rdr}(hx:x.length≤900000)(h:Da true DP x=some q'):∃(n k:Nat) (v:Int),n≤2147483647∧k≤2147483647∧v.natAbs≤AM∧x=Dn n k v∧7≤x.length∧q'=((n:Int),(k:Int),v,[]):=by
 unfold Da at h;split at h<;>(try cases h;done);rename_i a b c d hs;split at h<;>(try cases h;done);rename_i hne;rw[if_pos rfl]at h;split at h<;>(try cases h;done);rename_i hb;cases h;have hx':=Su hs;have hlen:=IF a b c d;rw[←hx']at hlen;simp only[not_or]at hne;have p1:=List.length_pos_iff.2 hne.1;have p2:=List.length_pos_iff.2 hne.2.1;have p3:=List.length_pos_iff.2 hne.2.2.1;have p4:=List.length_pos_iff.2 hne.2.2.2;unfold Gc at hb;simp only[Af,beq_iff_eq]at hb;obtain⟨⟨⟨hb1,hb2⟩,hb3⟩,rfl⟩:=hb;have t1:=Fh (by omega) hb1;have t2:=Fh (by omega) hb2;simp only[BV,Af,decide_eq_true_eq]at hb1 hb2;rcases L0 (s:=d) (by omega)with⟨v,hv,e⟩|⟨_,e⟩
 ·refine⟨A4 0 b,A4 0 c,v,by omega,by omega,hv.1, ?_,by omega, ?_⟩
  ·unfold Dn;rw[Jg hb1.1,Jg hb2.1,hv.2];exact hx'
  ·rw[t1,t2,e];rfl
 ·rw[e]at hb3;cases hb3
theorem Qg:∀(L:List (List UInt8)) (q q':Rdr),(∀x∈L,x.length≤900000)→Dp false q L=some q'→∃l:List Ordr,L=l.map BS∧(∀o∈l,Cn o∧o.2.2.1.natAbs≤AM)∧(∀x∈L,7≤x.length)∧q'=(q.1,q.2.1,q.2.2.1,q.2.2.2++l)
 | [],q,q',_,h=>by
  cases h;exact⟨[],rfl,by simp,by simp,by simp⟩
 |x::L,q,q',hL,h=>by
  unfold Dp at h;obtain⟨q1,h1,h2⟩:=Ab.1 h;obtain⟨o,k1,k2,k3,k4,rfl⟩:=UW (hL x (by simp)) h1;obtain⟨l,g1,g2,g3,g4⟩:=Qg L _ q' (fun y hy=>hL y (by simp[hy])) h2;refine⟨o::l,by rw[List.map_cons,←g1,←k3],fun y hy=> ?_,fun y hy=> ?_,by rw[g4];simp⟩
  ·rcases List.mem_cons.1 hy with rfl|hy
   ·exact⟨k1,k2⟩
   ·exact g2 y hy
  ·rcases List.mem_cons.1 hy with rfl|hy
   ·exact k4
   ·exact g3 y hy
theorem Qk:∀{L:List (List UInt8)},(∀x∈L,7≤x.length)→8*L.length≤(AP L).length
 | [],_=>by simp
 |x::L,h=>by
  have:=Qk (L:=L) fun y hy=>h y (by simp[hy]);have:=h x (by simp);rw[GW];simp;omega
theorem SU{T:List UInt8}{q:Rdr}(hT:T.length≤700000)(h:G5 T=some q):∃(n k:Nat) (v:Int) (l:List Ordr),n≤2147483647∧k≤2147483647∧v.natAbs≤AM∧(∀o∈l,Cn o∧o.2.2.1.natAbs≤AM)∧8*l.length≤T.length∧T++ [10]=AP (Dn n k v::l.map BS)∧q=((n:Int),(k:Int),v,l):=by
 have hw:=I6 10 T [] (by simp);unfold G5 at h
 cases hs:C2 10 T with
 |nil=>exact absurd hs (KC 10 T [])
 |cons x L=>
  have hl:∀y∈x::L,y.length≤900000:=fun y hy=>by
   have:=(hw y (by show y∈C2 10 T;rw[hs];exact hy)).2.1;simp at this;omega
  rw[hs]at h;unfold Dp at h;obtain⟨q1,h1,h2⟩:=Ab.1 h;obtain⟨n,k,v,k1,k2,k3,k4,k5,rfl⟩:=UB (hl x (by simp)) h1;obtain⟨l,g1,g2,g3,rfl⟩:=Qg L _ q (fun y hy=>hl y (by simp[hy])) h2;have hT':=Va hs
  have hlen:=Qk (L:=x::L) (fun y hy=>by
   rcases List.mem_cons.1 hy with rfl|hy
   ·exact k5
   ·exact g3 y hy)
  rw[←hT']at hlen;refine⟨n,k,v,l,k1,k2,k3,g2, ?_,by rw[hT',k4,g1],by simp⟩;have e:L.length=l.length:=by rw[g1];simp
  simp only[List.length_cons,List.length_append,List.length_nil]at hlen;omega
set_option linter.unusedSimpArgs false
set_option linter.unusedVariables false
theorem GS{n:Int}(h:0≤n):Lib.itoa n=Lib.decDigits n.toNat:=by unfold Lib.itoa;rw[if_neg (by omega)]
theorem PT(a b c d:List UInt8):Lib.join [a,b,c,d] [32]=ws4 a b c d:=by
 unfold Lib.join ws4 B9 B9 B9 B9;simp[List.intercalate]
theorem UJ(a b:List UInt8):Lib.join [a,b] [32]=a++32::b:=by
 unfold Lib.join;simp[List.intercalate]
theorem Nc{ws:List (List UInt8)}{x buf:List UInt8}(hj:Lib.join ws [32]=x)(hx:x.length≤1000000)(hw:ws.length≤1000)(hb:buf.length≤1000000):
  Hj ((),ws) (buf,(),(),(),())=some ((),(buf++(x++ [10]),(),(),(),())):=by
 unfold Hj;dsimp only;unfold strings_Join;dsimp only;rw[hj,if_pos ⟨by omega,by omega⟩,bs,if_pos (by simp;omega),bs];unfold strings_Builder_WriteString;dsimp only;rw[if_pos (by simp;omega),bs]
theorem OY{c:Int}(h:c.natAbs≤AM):EM c=some (Cf c):=by
 rw[OD (by unfold AM at h;omega),if_pos h]
theorem Mt{o:Ordr}(h:OkO o)(hp:Cn o):(BS o).length≤95:=by
 obtain⟨h1,h2,h3,h4⟩:=h;have l1:(Lib.decDigits o.1.toNat).length≤10:=Ew (by omega) (by have:=hp.1;have:=hp.2;omega);have l2:=JG h2;have l3:=N9 (Ma h3);have l4:=JG h4;unfold BS;rw[IF];omega
theorem PM{n k:Nat}{v:Int}(hn:n≤2147483647)(hk:k≤2147483647)(hv:v.natAbs≤AM):(Dn n k v).length≤44:=by
 have l1:(Lib.decDigits n).length≤10:=Ew (by omega) (by omega);have l2:(Lib.decDigits k).length≤10:=Ew (by omega) (by omega);have l3:=N9 hv;unfold Dn;rw[IF];have:Gl.length=3:=rfl;omega
theorem Qj:∀{l:List Ordr},(∀o∈l,OkO o∧Cn o)→(AP (l.map BS)).length≤96*l.length
 | [],_=>by simp[AP]
 |o::l,h=>by
  have ih:=Qj (l:=l) fun x hx=>h x (by simp[hx]);have:=Mt (h o (by simp)).1 (h o (by simp)).2;rw[List.map_cons,GW];simp;omega
theorem Uk{l:List Ordr}(h:∀o∈l,OkO o∧Cn o)(hl:l.length≤256){buf:List UInt8}(hb:buf.length≤100):
  iter Io (l,(l.length:Int),0,buf,(),(),(),(),())=some (buf++AP (l.map BS),(),(),(),(),()):=by
 have e:=ER (b:=Io) (A:=List UInt8) (T:=List UInt8×Unit×Unit×Unit×Unit×Unit) (fun i buf=>(l,(l.length:Int),(i:Int),buf,(),(),(),(),())) (fun buf o=>Sum.inl (buf++(BS o++ [10]))) (fun buf=>(buf,(),(),(),(),())) (fun i buf=>buf.length≤100+96*i) l (a:=buf) (by omega) ?_ ?_ ?_
 ·rw[show((0:Nat):Int)=0 from rfl]at e;rw[e,LT (fun o=>BS o++ [10])]
  congr 2
  simp[AP,List.flatMap_map]
 ·intro i o b ho hbl;have hi:=(Ae.1 ho).1;obtain⟨hok,hp⟩:=h o (List.mem_of_getElem? ho);have hll:=Mt hok hp;unfold Io;dsimp only;have hp1:=hp.1;have hp2:=hp.2;rw[DG ho,if_pos rfl,DD ho,ms,bs];have e1:u64.wrap o.1=o.1:=by rw[IntKind.wrap_u64];omega
  rw[e1];unfold FE;dsimp only;rw[if_pos ⟨rfl,by omega,by omega⟩,bs,GS hp1,OY (Ma hok.2.2.1),bs];rw[Nc (x:=BS o) (PT _ _ _ _) (by omega) (by simp) (by omega),bs,CR (by omega)];rfl
 ·intro i o b b' ho hbl hs;cases hs;obtain⟨hok,hp⟩:=h o (List.mem_of_getElem? ho);have hll:=Mt hok hp;simp;omega
 ·intro b hbl;unfold Io;dsimp only;rw[Ec,if_neg (by decide)]
theorem S0{n:Int}{l:List Ordr}(hs:∀o∈l,o.2.1.length≤1000000∧o.2.2.2.length≤1000000)(h:Fi n l≠0):Eh (n,l)=some ([],Fi n l):=by
 unfold Eh MV;dsimp only;rw[KY hs,bs,if_pos (by simpa using h),ms]
theorem Rg{n:Int}{l:List Ordr}(h:DT n l):∀o∈l,o.2.1.length≤1000000∧o.2.2.2.length≤1000000:=fun o ho=>by
 obtain⟨_,k2,_,k4⟩:=h.2.2.1 o ho;have:=JG k2;have:=JG k4;omega
theorem OF(A:List UInt8):(A9 A).length≤13:=by
 have:(Lib.decDigits (chk A)).length≤7:=Ew (by omega) (by have:=IU A;omega);unfold A9 H7;simp;omega
theorem LO{n:Int}{l:List Ordr}(h:DT n l)(hp:∀o∈l,Cn o):(AP (BN n l)).length≤45+96*l.length∧(Bv n l).length≤60+96*l.length:=by
 obtain⟨h1,h2,h3,h4,h5⟩:=h;have a1:=PM (n:=n.toNat) (k:=l.length) (v:=Bh l) (by omega) (by omega) (Jp h5);have a2:=Qj (l:=l) fun o ho=>⟨h3 o ho,hp o ho⟩;have a3:=OF (AP (BN n l))
 have a4:(AP (BN n l)).length=(Dn n.toNat l.length (Bh l)).length+1+(AP (l.map BS)).length:=by
  unfold BN;rw[GW];simp;omega
 unfold Bv;simp only[List.length_append,List.length_cons,List.length_nil];omega
theorem La{n:Int}{l:List Ordr}(h:DT n l)(hp:∀o∈l,Cn o):Eh (n,l)=some (Bv n l,0):=by
 have h':=h;have hlen:=(LO h hp).1;obtain⟨h1,h2,h3,h4,h5⟩:=h;have hw:=KX.2 h'
 have hct:∀o∈l,-1125899906842624≤o.2.2.1∧o.2.2.1≤1125899906842624:=fun o ho=>by
  have:=(h3 o ho).2.2.1;simp only[inC,Af,decide_eq_true_eq]at this;omega
 have a1:=PM (n:=n.toNat) (k:=l.length) (v:=Bh l) (by omega) (by omega) (Jp h5);unfold Eh MV;dsimp only;rw[KY (Rg h'),bs,hw,if_neg (by decide),IC (by omega) hct,bs];unfold strconv_Itoa;rw[if_pos ⟨by omega,by omega⟩,bs,if_pos ⟨by omega,by omega⟩,bs,GS (by omega),GS (by omega)];dsimp only;rw[OY (Jp h5),bs];rw[Nc (x:=Dn n.toNat l.length (Bh l)) (by rw[PT];rfl) (by omega) (by simp) (by simp),bs];dsimp only;rw[Uk (fun o ho=>⟨h3 o ho,hp o ho⟩) h2 (by simp;omega),bs]
 have hbody: []++(Dn n.toNat l.length (Bh l)++ [10])++AP (l.map BS)=AP (BN n l):=by
  unfold BN;rw[GW];simp
 rw[hbody];unfold strings_Builder_String;simp only[bs];rw[OH (by omega),bs,if_pos ⟨by have:=IU (AP (BN n l));omega,by have:=IU (AP (BN n l));omega⟩,bs,GS (by omega)];have hc:=OF (AP (BN n l));rw[Nc (x:=A9 (AP (BN n l))) (by rw[UJ];rfl) (by omega) (by simp) (by omega),bs];dsimp only;rw[ms];simp[Bv]
theorem Oc{n:Int}{l:List Ordr}(h:DT n l)(hp:∀o∈l,Cn o):DM (Bv n l)=some (n,l,0):=by
 obtain⟨hl1,hl2⟩:=LO h hp;obtain⟨T,hT,hF⟩:=SW h hp;have h':=h;obtain⟨h1,h2,h3,h4,h5⟩:=h
 have hct:∀o∈l,-1125899906842624≤o.2.2.1∧o.2.2.1≤1125899906842624:=fun o ho=>by
  have:=(h3 o ho).2.2.1;simp only[inC,Af,decide_eq_true_eq]at this;omega
 have hTl:T.length≤700000:=by
  have:=congrArg List.length hT;simp at this;omega
 have ht:Gp (Bv n l)=some (AP (BN n l),true):=by
  have:=Sg (A:=AP (BN n l)) (L:=A9 (AP (BN n l))) (by show(Bv n l).length≤_;omega) (OG _) (Mv _);rw[Al rfl]at this;exact this
 have hne:(Bv n l==([]:List UInt8))=false:=by
  rw[beq_eq_false_iff_ne];unfold Bv;simp
 unfold DM MW;dsimp only;rw[hne,if_neg (by decide),ht,bs];simp only[Bool.not_true,Ag,if_false];rw[hT];rcases Ql hTl with⟨q,e1,e2⟩|⟨e1,_⟩
 ·rw[hF]at e1;cases e1;have e2':Ei ((),T++ [10]) (0,0,0,[],(),(),())=some (true,n,(l.length:Int),Bh l,l,(),(),()):=e2;rw[e2',bs];simp only[Bool.not_true,Ag,if_false];rw[IC (by omega) hct,bs];have e3:u64.wrap (l.length:Int)=(l.length:Int):=Sw (by omega);rw[e3,bne_self_eq_false];simp only[if_true,bs,ms,h5,bne_self_eq_false,Ag,if_false];rw[AS (by omega) (by omega),KY (Rg h'),bs,KX.2 h'];rfl
 ·rw[hF]at e1;cases e1
theorem Od{s:List UInt8}(hs:s.length≤40000):(∃e,e≠0∧DM s=some (0,[],e))∨∃n l,DT n l∧(∀o∈l,Cn o)∧s=Bv n l∧DM s=some (n,l,0):=by
 unfold DM MW;dsimp only;by_cases hne:s= []
 ·subst hne;exact .inl ⟨10,by decide,rfl⟩
 have hne':(s==([]:List UInt8))=false:=by
  rw[beq_eq_false_iff_ne];exact hne
 rw[hne',if_neg (by decide)];by_cases hnl: [10]<:+s
 ·obtain⟨last,rfl⟩:=hnl;obtain⟨A,L,rfl,hL,hA,_⟩:=Mn (s:=last) (by simp at hs;omega);rw[Sg (by omega) hL hA,bs];by_cases hc:L=A9 A
  ·rw[Al hc];simp only[Bool.not_true,Ag,if_false];subst hc;rcases hA with rfl|⟨T,rfl⟩
   ·obtain⟨g,hg⟩:=Vb (A:= []) (by simp) (by intro h;have:=h.length_le;simp at this);have hg':Ei ((),[]) (0,0,0,[],(),(),())=some (false,g):=hg;rw[hg',bs];exact .inl ⟨3,by decide,rfl⟩
   ·have hTl:T.length≤30000+10000:=by simp at hs;omega
    rcases Ql (T:=T) (by omega)with⟨q,e1,e2⟩|⟨e1,g,e2⟩
    ·obtain⟨n,k,v,l,k1,k2,k3,k4,k5,k6,rfl⟩:=SU (by omega) e1;have e2':Ei ((),T++ [10]) (0,0,0,[],(),(),())=some (true,(n:Int),(k:Int),v,l,(),(),()):=e2;rw[e2',bs];simp only[Bool.not_true,Ag,if_false]
     have hct:∀o∈l,-1125899906842624≤o.2.2.1∧o.2.2.1≤1125899906842624:=fun o ho=>by
         have:=(k4 o ho).2;unfold AM at this;omega
     rw[IC (by omega) hct,bs];have e3:u64.wrap (l.length:Int)=(l.length:Int):=Sw (by omega);rw[e3];by_cases hk:k=l.length
     ·subst hk;rw[bne_self_eq_false];simp only[if_true,bs,ms]
      have nlen:∀o∈l,o.2.1.length≤1000000∧o.2.2.2.length≤1000000:=fun o ho=>by
       have hm:BS o∈Dn n l.length v::l.map BS:=List.mem_cons.2 (.inr (List.mem_map.2 ⟨o,ho,rfl⟩))
       have h1:(BS o).length≤(AP (Dn n l.length v::l.map BS)).length:=by
        obtain⟨p,t,e⟩:=List.append_of_mem hm;rw[e,UZ,GW];simp;omega
       rw[←k6]at h1;have h2:(BS o).length=(Lib.decDigits o.1.toNat).length+o.2.1.length+(Cf o.2.2.1).length+o.2.2.2.length+3:=IF _ _ _ _;simp at h1;omega
      have fin:(v=Bh l∨C6 (Bh l)=false)→((∃e,e≠0∧Option.map (fun p=>p.1) ((Gr (i64.wrap (n:Int),l)).bind fun x50=>if(x50 !=0)=true then some ((((0:Int),([]:List Ordr),x50),()):(Int×List Ordr×Int)×Unit)else some ((i64.wrap (n:Int),l,0),()))=some (0,[],e))∨∃n' l',DT n' l'∧(∀o∈l',Cn o)∧T++ [10]++A9 (T++ [10])++ [10]=Bv n' l'∧Option.map (fun p=>p.1) ((Gr (i64.wrap (n:Int),l)).bind fun x50=>if(x50 !=0)=true then some ((((0:Int),([]:List Ordr),x50),()):(Int×List Ordr×Int)×Unit)else some ((i64.wrap (n:Int),l,0),()))=some (n',l',0)):=by
       intro hv;rw[AS (by omega) (by omega),KY nlen,bs];by_cases hw:Fi (n:Int) l=0
       ·right;have hr:=KX.1 hw
        have hv':v=Bh l:=by
            rcases hv with hv|hv
            ·exact hv
            ·rw[hr.2.2.2.2]at hv;cases hv
        refine⟨(n:Int),l,hr,fun o ho=>(k4 o ho).1, ?_,by rw[hw];rfl⟩
        have:T++ [10]=AP (BN (n:Int) l):=by
            rw[k6,hv'];rfl
        rw[this];rfl
       ·left;refine⟨_,hw, ?_⟩;have:(Fi (n:Int) l !=0)=true:=by simpa using hw
        rw[this];rfl
      cases hf:C6 (Bh l)with
      |false=>
       simp only[reduceCtorEq,if_false,bs,ms,Ac,Ag];exact fin (.inr hf)
      |true=>
       simp only[if_true,bs,ms];by_cases hv:v=Bh l
       ·have:(Bh l !=v)=false:=by rw[hv,bne_self_eq_false]
        rw[this];simp only[if_true,bs,ms,Ag,if_false];exact fin (.inl hv)
       ·have:(Bh l !=v)=true:=by
            rw[bne_iff_ne];exact Ne.symm hv
        rw[this];simp only[if_true,bs,ms,Ag,if_false];exact .inl ⟨17,by decide,rfl⟩
     ·have:((k:Int) !=(l.length:Int))=true:=by
       rw[bne_iff_ne];omega
      rw[this];simp only[Bool.true_eq_false,if_false,reduceCtorEq,bs,if_true];exact .inl ⟨17,by decide,rfl⟩
    ·have e2':Ei ((),T++ [10]) (0,0,0,[],(),(),())=some (false,g):=e2;rw[e2',bs];exact .inl ⟨3,by decide,rfl⟩
  ·rw[Ak hc];exact .inl ⟨20,by decide,rfl⟩
 ·obtain⟨A,hA⟩:=Xe (by omega) hnl;rw[hA,bs];exact .inl ⟨20,by decide,rfl⟩
end WB
