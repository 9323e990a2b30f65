/-
  OWN TEXTS, MERGED (wip/merge.py): Pyn, Pya, Pct, Pspl, Pyb, Pyc, Pyd, Pye. No condition of their own.
-/
import Derived.Test.YtdnifdddokcnlaaGreatDoorK8
import Derived.Test.YtdnifdddokcnlaaGreatDoorK7
set_option linter.unusedVariables false
set_option linter.unusedSimpArgs false
open Go.IntKind (i64 u64 u8 u32)
namespace WB
open Go Go.RowKit
theorem itL{S T:Type}{b:S→Option (S⊕T)}{s s':S}(h:b s=some (.inl s')):iter b s=iter b s':=by rw[Ck,h];rfl
theorem itR{S T:Type}{b:S→Option (S⊕T)}{s:S}{t:T}(h:b s=some (.inr t)):iter b s=some t:=by rw[Ck,h];rfl
theorem WM{pre t:List UInt8}{b:UInt8}:sAt (pre++b::t) (pre.length:Int)=some (b.toNat:Int):=Gs (by simp)
def okb(b:UInt8):Bool:= !((decide ((b.toNat:Int)<97)||decide ((b.toNat:Int)>122))&&(decide ((b.toNat:Int)<48)||decide ((b.toNat:Int)>57))&&((b.toNat:Int) !=46)&&((b.toNat:Int) !=95)&&((b.toNat:Int) !=45))
def BJ(s:List UInt8):Bool:=s.all okb&& !(s== [])&& !(s== [45])&&decide ((s.length:Int)≤32)
theorem Qd{pre t:List UInt8}{b:UInt8}{n:Int}(c:decide ((pre.length:Int)<n)=true):
  Iq (pre++b::t,n,(pre.length:Int),())=some (if okb b=true then .inl (pre++b::t,n,i64.wrap ((pre.length:Int)+1),())else .inr (.inr false)):=by
 unfold Iq;dsimp only;simp only[gPi,gSS,gPb,gPm,gPs,gM,gM2,Bm,gOr,Bn,Br,gAA,gAO,gOA,gOO,Bj,Bl,Bo,Bq,Bk,Bp,gId];simp only[Bx,By,Bz,B0,B1,B2,B3,B4,gId,Bw,gMb,gMm,gBm,gBb,bs,ms];simp only[c,if_true,WM,bs];unfold okb;generalize decide ((b.toNat:Int)<97)=q1;generalize decide ((b.toNat:Int)>122)=q2;generalize decide ((b.toNat:Int)<48)=q3;generalize decide ((b.toNat:Int)>57)=q4;generalize ((b.toNat:Int) !=46)=q5;generalize ((b.toNat:Int) !=95)=q6;generalize ((b.toNat:Int) !=45)=q7;cases q1<;>cases q2<;>cases q3<;>cases q4<;>cases q5<;>cases q6<;>cases q7<;>rfl
theorem Qc:∀(t pre:List UInt8),pre.length+t.length≤4611686018427387904→iter Iq (pre++t,((pre++t).length:Int),(pre.length:Int),())=some (if t.all okb then .inl (pre++t,())else .inr false)
 | [],pre,h2=>by
  refine itR ?_;unfold Iq;dsimp only;have c:decide ((pre.length:Int)<(((pre++ []):List UInt8).length:Int))=false:=Ak (by simp);simp only[c,Ag,if_false,List.all_nil,if_true]
 |b::t,pre,h2=>by
  simp only[List.length_cons]at h2;have w1:i64.wrap ((pre.length:Int)+1)=((pre++ [b]).length:Int):=by rw[AR (by omega) (by omega)];simp
  have c:decide ((pre.length:Int)<(((pre++b::t):List UInt8).length:Int))=true:=Al (by simp;omega);by_cases hd:okb b=true
  ·have e:=Qc t (pre++ [b]) (by simp;omega);rw[List.append_assoc,List.singleton_append]at e;refine(itL (s':=(pre++b::t,((pre++b::t).length:Int),((pre++ [b]).length:Int),())) ?_).trans (e.trans ?_)
   ·rw[Qd c,if_pos hd,w1]
   ·simp[hd]
  ·refine(itR (t:=Sum.inr false) ?_).trans ?_
   ·rw[Qd c,if_neg hd]
   ·simp[hd]
theorem My{s:List UInt8}(h:s.length≤4611686018427387904):Hh s=some (BJ s):=by
 unfold Hh;dsimp only;simp only[gPi,gSS,gPb,gPm,gPs,gM,gM2,Bm,gOr,Bn,Br,gAA,gAO,gOA,gOO,Bj,Bl,Bo,Bq,Bk,Bp,gId];simp only[Bx,By,Bz,B0,B1,B2,B3,B4,gId,Bw,gMb,gMm,gBm,gBb,bs,ms];have:=Qc s [] (by simpa using h);simp only[List.nil_append,List.length_nil]at this;rw[show((0:Nat):Int)=0 from rfl]at this;rw[this];unfold BJ
 cases hh:s.all okb with
 |true=>
  simp only[if_true,bs];cases s== []<;>cases s== [45]<;>rfl
 |false=>rfl
theorem PN{α:Type}{T:Type}(p:α→Bool)(no yes:T):∀l:List α,A3 (fun(_:Unit) x=>if p x=true then Sum.inl ()else Sum.inr no) (fun _=>yes) () l=if l.all p=true then yes else no
 | []=>rfl
 |x::l=>by
  rw[A3];by_cases h:p x=true
  ·rw[if_pos h];simp only;rw[PN p no yes l];simp[h]
  ·rw[if_neg h];simp[h]
theorem Ra{M:Nat}(hM:M≤18446744073709551615):∀(s:List UInt8) (a:Nat),s.all dgt=true→a≤M→Lib.parseUintM M a s=if AE a s≤M then .ok (AE a s)else .range
 | [],a,_,ha=>by
  unfold Lib.parseUintM;rw[if_pos (show AE a []≤M from ha)];rfl
 |c::s,a,h,ha=>by
  simp only[List.all_cons,Af]at h;have hd:=Dp.1 h.1;have e:AE a (c::s)=AE (a*10+(c.toNat-48)) s:=rfl;have hle:=JV s (a*10+(c.toNat-48));unfold Lib.parseUintM;rw[if_pos hd,e];by_cases h1:1844674407370955162≤a
  ·rw[if_pos h1,if_neg (by omega)]
  ·rw[if_neg h1];by_cases h2:M<a*10+(c.toNat-48)
   ·rw[if_pos h2,if_neg (by omega)]
   ·rw[if_neg h2];exact Ra hM s _ h.2 (by omega)
def GT(s:List UInt8):Bool:=s== []||(decide ((s.length:Int)>1)&&s.head? ==some 48)
theorem OM(s:List UInt8):Cx s=(!GT s&&s.all dgt):=by
 unfold Cx GT;cases s== []<;>cases decide ((s.length:Int)>1)<;>cases s.head? ==some 48<;>simp
def DP(s:List UInt8):Int:=if s.all dgt=true∧s≠ []then(if AE 0 s≤18446744073709551615 then(AE 0 s:Int)else 18446744073709551615)else 0
def Ch(s:List UInt8)(most:Int):Bool:=Cx s&&decide ((AE 0 s:Int)≤most)
theorem Xx{s:List UInt8}(h:s≠ []):(if((s.length:Int)==1)=true then some true else(sAt s 0).bind fun v=>some (v !=48))=some (!GT s):=by
 unfold GT
 cases s with
 |nil=>exact absurd rfl h
 |cons c s=>
  have h1:((c::s)==([]:List UInt8))=false:=rfl;have h2:sAt (c::s) 0=some (c.toNat:Int):=Gs (i:=0) rfl;rw[h1,h2,bs]
  have h3:((c.toNat:Int) !=48)= !((c::s).head? ==some 48):=by
   simp only[List.head?_cons];by_cases h:c=48
   ·subst h;rfl
   ·have:¬c.toNat=48:=fun h'=>h (UInt8.toNat_inj.1 h');have e1:((c.toNat:Int) !=48)=true:=by simp;omega
    have e2:(some c==some (48:UInt8))=false:=by simpa using h
    rw[e1,e2];rfl
  rw[h3]
  have h4:(((c::s).length:Int)==1)= !decide (((c::s).length:Int)>1):=by
   have:0<(c::s).length:=by simp
   by_cases h:(c::s).length=1
   ·rw[h];rfl
   ·rw[Al (by omega)]
    have:(((c::s).length:Int)==1)=false:=by
     rw[beq_eq_false_iff_ne];omega
    rw[this];rfl
  rw[h4];cases decide (((c::s).length:Int)>1)<;>cases ((c::s).head? ==some 48)<;>rfl
theorem Iv{s:List UInt8}{most:Int}(h:s.length≤281474976710656)(hm:most≤18446744073709551615):Gm (s,most)=some (DP s,Ch s most):=by
 unfold Gm;dsimp only;simp only[gPi,gSS,gPb,gPm,gPs,gM,gM2,Bm,gOr,Bn,Br,gAA,gAO,gOA,gOO,Bj,Bl,Bo,Bq,Bk,Bp,gId];simp only[Bx,By,Bz,B0,B1,B2,B3,B4,gId,Bw,gMb,gMm,gBm,gBb,bs,ms];unfold DP Ch;rw[OM];have e:=DU (b:=Ks) (A:=Unit) (T:=(List UInt8×Int×Unit)⊕(Int×Bool)) (fun i _=>(s,most,(s.length:Int),(i:Int),())) (fun _ x=>if dgt x=true then Sum.inl ()else Sum.inr (.inr (0,false))) (fun _=>.inl (s,most,())) (fun _ _=>True) s (a:=()) trivial ?_ ?_ ?_
 ·rw[show((0:Nat):Int)=0 from rfl]at e;rw[e,PN,bs]
  cases hd:s.all dgt with
  |false=>simp
  |true=>
   simp only[if_true,true_and];unfold IB;dsimp only;rw[if_pos ⟨rfl,rfl,h⟩,bs];by_cases hne:s= []
   ·subst hne;rfl
   ·have hp:Lib.parseUintB 64 s=if AE 0 s≤18446744073709551615 then .ok (AE 0 s)else .range:=by
     unfold Lib.parseUintB;rw[if_neg hne];exact Ra (M:=2^64-1) (by omega) s 0 hd (by omega)
    rw[hp,if_pos hne];by_cases hv:AE 0 s≤18446744073709551615
    ·rw[if_pos hv,if_pos hv];simp only[if_true,bs];rw[Xx hne];cases decide ((AE 0 s:Int)≤most)<;>cases GT s<;>rfl
    ·rw[if_neg hv,if_neg hv];have:decide ((AE 0 s:Int)≤most)=false:=Ak (by omega);rw[this];cases GT s<;>rfl
 ·intro i x a hx _;unfold Ks;dsimp only;simp only[gPi,gSS,gPb,gPm,gPs,gM,gM2,Bm,gOr,Bn,Br,gAA,gAO,gOA,gOO,Bj,Bl,Bo,Bq,Bk,Bp,gId];simp only[Bx,By,Bz,B0,B1,B2,B3,B4,gId,Bw,gMb,gMm,gBm,gBb,bs,ms];have hi:=(Ae.1 hx).1;simp only[CC hx,if_true,Gs hx,bs,Cb (show i<9223372036854775807 by omega)];unfold dgt;cases decide ((x.toNat:Int)<48)<;>cases decide ((x.toNat:Int)>57)<;>rfl
 ·intros;trivial
 ·intro a _;unfold Ks;dsimp only;simp only[CP,Ag,if_false]
theorem Hx{s:List UInt8}{most:Int}(hm:most≤18446744073709551615)(h:Ch s most=true):DP s=(AE 0 s:Int):=by
 simp only[Ch,Af,decide_eq_true_eq]at h;have h1:=h.1;rw[OM]at h1;simp only[Af,Bool.not_eq_true']at h1;unfold DP;rw[if_pos ⟨h1.2,fun e=>by subst e;cases h1.1⟩,if_pos (by omega)]
theorem Lc{n:Nat}{most:Int}(h:(n:Int)≤most):Ch (Lib.decDigits n) most=true:=by
 unfold Ch;rw[OK,Fu];simpa using h
set_option linter.unusedSimpArgs false
set_option linter.unusedVariables false
abbrev Ordr:=Int×List UInt8×Int×List UInt8
def Gv(n:Nat)(b:UInt8):Nat:=(31*n+b.toNat)% 1000003
def chk(s:List UInt8):Nat:=s.foldl Gv 0
theorem So(n:Nat)(b:UInt8):Gv n b<1000003:=Nat.mod_lt _ (by omega)
theorem Ja(s:List UInt8):chk s<1000003:=by
 have:∀(s:List UInt8) (a:Nat),a<1000003→s.foldl Gv a<1000003:=fun s=>by
  induction s with
  |nil=>exact fun a h=>h
  |cons b s ih=>exact fun a _=>ih _ (So a b)
 exact this s 0 (by omega)
theorem Mk{α A T:Type}(f:A→α→A)(fin:A→T):∀(l:List α) (a:A),A3 (fun a x=>Sum.inl (f a x)) fin a l=fin (l.foldl f a)
 | [],a=>rfl
 |x::l,a=>by rw[A3];exact Mk f fin l _
theorem OV{s:List UInt8}(h:s.length≤1000000000):Ip s=some (chk s:Int):=by
 unfold Ip;dsimp only;have e:=DU (b:=Ko) (A:=Nat) (T:=Int×Unit) (fun i n=>(s,(n:Int),(s.length:Int),(i:Int),())) (fun n b=>Sum.inl (Gv n b)) (fun n=>((n:Int),())) (fun _ n=>n<1000003) s (a:=0) (by omega) ?_ ?_ ?_
 ·rw[show((0:Nat):Int)=0 from rfl]at e;rw[e,Mk,bs];rfl
 ·intro i b n hb hn;unfold Ko;dsimp only;have hi:=(Ae.1 hb).1;have hx:=b.toNat_lt;rw[CC hb,if_pos rfl,Gs hb,bs,if_neg (by omega)];rw[AR (n:=31*(n:Int)) (by omega) (by omega),AR (n:=(b.toNat:Int)) (by omega) (by omega),AR (by omega) (by omega),bs,Cb (by omega)];show _=some (Sum.inl (s,((Gv n b:Nat):Int),(s.length:Int),((i+1:Nat):Int),()))
  have:(31*(n:Int)+(b.toNat:Int)).tmod 1000003=((Gv n b:Nat):Int):=by
   unfold Gv;rw[show(31*(n:Int)+(b.toNat:Int))=((31*n+b.toNat:Nat):Int) by omega,show(1000003:Int)=((1000003:Nat):Int)from rfl];exact(Int.ofNat_tmod _ _)
  rw[this]
 ·intro i x a a' hx ha hs;cases hs;exact So a x
 ·intro a ha;unfold Ko;dsimp only;rw[CP,if_neg (by decide)]
def AA(c:Int):Bool:=decide (-1125899906842624≤c)&&decide (c≤1125899906842624)
theorem Gy(c:Int):El c=some (AA c):=by
 unfold El AA;dsimp only;simp only[gPi,gSS,gPb,gPm,gPs,gM,gM2,Bm,gOr,Bn,Br,gAA,gAO,gOA,gOO,Bj,Bl,Bo,Bq,Bk,Bp,gId];simp only[Bx,By,Bz,B0,B1,B2,B3,B4,gId,Bw,gMb,gMm,gBm,gBb,bs,ms];cases decide (-1125899906842624≤c)<;>simp_all
def BK(l:List Ordr):Int:=(l.map fun o=>o.2.2.1).sum
theorem Le{l:List Ordr}(hl:l.length≤5000)(h:∀o∈l,-1125899906842624≤o.2.2.1∧o.2.2.1≤1125899906842624):Gn l=some (BK l,AA (BK l)):=by
 have key:∀(t:List Ordr) (a:Int),(t.map fun o=>o.2.2.1).foldl (· + ·) a=a+BK t:=fun t=>by
  induction t with
  |nil=>intro a;simp[BK]
  |cons o t ih=>intro a;simp only[List.map_cons,List.foldl_cons];rw[ih];simp[BK];omega
 unfold Gn;dsimp only;have e:=DU (b:=Kt) (A:=Int) (T:=Int×Unit) (fun i n=>(n,l,(l.length:Int),(i:Int),())) (fun n o=>Sum.inl (n+o.2.2.1)) (fun n=>(n,())) (fun i n=> -(1125899906842624*(i:Int))≤n∧n≤1125899906842624*(i:Int)) l (a:=0) (by omega) ?_ ?_ ?_
 ·rw[show((0:Nat):Int)=0 from rfl]at e;rw[e,Mk (fun n (o:Ordr)=>n+o.2.2.1),bs,Gy,bs]
  have:l.foldl (fun n (o:Ordr)=>n+o.2.2.1) 0=BK l:=by
   have:=key l 0;rw[List.foldl_map]at this;simpa using this
  rw[this]
 ·intro i o n ho hn;have hi:=(Ae.1 ho).1;have hc:=h o (List.mem_of_getElem? ho);unfold Kt;dsimp only;rw[CC ho,if_pos rfl,Ct ho,ms,bs,AR (by omega) (by omega),Cb (by omega)];rfl
 ·intro i o n n' ho hn hs;have hc:=h o (List.mem_of_getElem? ho);cases hs;omega
 ·intro a ha;unfold Kt;dsimp only;rw[CP,if_neg (by decide)]
def inC(c:Int):Bool:=decide (1≤c)&&decide (c≤1125899906842624)
def D4(seen:List (List UInt8))(o:Ordr):List (List UInt8)⊕((List Ordr×Unit)⊕Int):=
 if o.1=0 then .inr (.inr 2)else if BJ o.2.1=false then .inr (.inr 12)else if inC o.2.2.1=false then .inr (.inr 2)else if BJ o.2.2.2=false then .inr (.inr 12)else
  if o.2.2.2∈seen then .inr (.inr 7)else .inl (seen++ [o.2.2.2])
def IG(l:List Ordr):(List Ordr×Unit)⊕Int:=A3 D4 (fun _=>.inl (l,())) [] l
def Lp(n:Int)(l:List Ordr):Int:=
 if n<1∨n>1000000000 then 2 else if(l.length:Int)>256 then 5 else match IG l with
  | .inl _=>if AA (BK l)=true then 0 else 9
  | .inr e=>e
def Gt(seen:List (List UInt8)):List (List UInt8×Bool):=seen.map fun k=>(k,true)
theorem Mb(a b:List UInt8):eqZ .str a b=true↔a=b:=by
 show(a==b)=true↔a=b;exact beq_iff_eq
theorem RQ(k:List UInt8):∀seen,(Cc (eqZ Ty.str) (B8 Ty.bool) k (Gt seen)).1=decide (k∈seen)
 | []=>rfl
 |x::seen=>by
  have ih:=RQ k seen;unfold Gt at ih⊢;simp only[List.map_cons,Cc];by_cases h:k=x
  ·subst h;rw[if_pos ((Mb k k).2 rfl)];simp
  ·rw[if_neg (fun hh=>h ((Mb _ _).1 hh)),ih];simp[h]
theorem RR(k:List UInt8):∀seen,k∉seen→CJ (eqZ Ty.str) k true (Gt seen)=Gt (seen++ [k])
 | [],_=>rfl
 |x::seen,h=>by
  simp only[List.mem_cons,not_or]at h;have ih:=RR k seen h.2;unfold Gt at ih⊢;simp only[List.map_cons,List.cons_append,CJ];rw[if_neg (fun hh=>h.1 ((Mb _ _).1 hh)),ih]
theorem NU{l:List Ordr}:∀(t:List Ordr) (seen:List (List UInt8)) {q},A3 D4 (fun _=>(.inl (l,()):(List Ordr×Unit)⊕Int)) seen t=q→(q=.inl (l,()))∨∃e,q=.inr e∧(e=2∨e=12∨e=7)
 | [],seen,q,h=>.inl h.symm
 |o::t,seen,q,h=>by
  rw[A3]at h;unfold D4 at h;split at h
  ·rename_i a' hs;exact NU t _ h
  ·rename_i t' hs;right;subst h
   repeat' (split at hs)
   all_goals first|(cases hs;exact⟨_,rfl,by simp⟩)|cases hs
theorem SB{n:Int}{l:List Ordr}(hs:∀o∈l,o.2.1.length≤1000000∧o.2.2.2.length≤1000000):Is (n,l)=some (Lp n l):=by
 unfold Is;dsimp only;simp only[gPi,gSS,gPb,gPm,gPs,gM,gM2,Bm,gOr,Bn,Br,gAA,gAO,gOA,gOO,Bj,Bl,Bo,Bq,Bk,Bp,gId];simp only[Bx,By,Bz,B0,B1,B2,B3,B4,gId,Bw,gMb,gMm,gBm,gBb,bs,ms];unfold Lp;by_cases h1:n<1∨n>1000000000
 ·rw[if_pos h1]
  have:(if decide (n<1)=true then some true else some (decide (n>1000000000)))=some true:=by
   rcases h1 with h|h
   ·rw[Al h];rfl
   ·rw[Ak (by omega),Al h];rfl
  rw[this,bs,if_pos rfl]
 ·rw[if_neg h1]
  have:(if decide (n<1)=true then some true else some (decide (n>1000000000)))=some false:=by
   rw[Ak (by omega),Ak (by omega)];rfl
  rw[this,bs,if_neg (by decide)];by_cases h2:(l.length:Int)>256
  ·rw[if_pos h2,if_pos (Al h2)]
  ·rw[if_neg h2,if_neg (by rw[Ak h2];decide)];have e:=DU (b:=Ku) (A:=List (List UInt8)) (T:=(List Ordr×Unit)⊕Int) (fun i seen=>(l,l,(l.length:Int),(i:Int),Gt seen,(),())) D4 (fun _=>.inl (l,())) (fun _ _=>True) l (a:= []) trivial ?_ ?_ ?_
   ·rw[show((0:Nat):Int)=0 from rfl,show Gt []= []from rfl]at e;rw[e,bs];show(match IG l with| .inl p=>_| .inr q=>_)=_
    cases hw:IG l with
    |inr e=>rfl
    |inl z=>
     have hz:z=(l,()):=by
      rcases NU (l:=l) l [] hw with h|⟨e,h,_⟩
      ·exact Sum.inl.inj h
      ·cases h
     subst hz
     have hall:∀(t:List Ordr) (seen:List (List UInt8)) {q:List Ordr×Unit},A3 D4 (fun _=>(.inl (l,()):(List Ordr×Unit)⊕Int)) seen t=.inl q→∀o∈t,inC o.2.2.1=true:=by
      intro t
      induction t with
      |nil=>intro seen q _ o ho;cases ho
      |cons o t ih=>
       intro seen q hq o' ho;rw[A3]at hq;split at hq
       ·rename_i a' hs
        have hoc:inC o.2.2.1=true:=by
            unfold D4 at hs
            cases hc:inC o.2.2.1 with
            |true=>rfl
            |false=>
             rw[hc]at hs
             repeat' (split at hs)
             all_goals first|(exfalso;rename_i hh _ _;exact hh rfl)|(cases hs;done)
        rcases List.mem_cons.1 ho with rfl|ho
        ·exact hoc
        ·exact ih _ hq o' ho
       ·rename_i t' hs;subst hq;unfold D4 at hs
        repeat' (split at hs)
        all_goals cases hs
     have hc:=hall l [] hw;simp only
     rw[Le (by omega) (fun o ho=>by
      have:=hc o ho;simp only[inC,Af,decide_eq_true_eq]at this
      omega),bs]
     simp only;cases AA (BK l)<;>rfl
   ·intro i o seen ho _;have hi:=(Ae.1 ho).1;obtain⟨k1,k2⟩:=hs o (List.mem_of_getElem? ho);unfold Ku;dsimp only;simp only[gPi,gSS,gPb,gPm,gPs,gM,gM2,Bm,gOr,Bn,Br,gAA,gAO,gOA,gOO,Bj,Bl,Bo,Bq,Bk,Bp,gId];simp only[Bx,By,Bz,B0,B1,B2,B3,B4,gId,Bw,gMb,gMm,gBm,gBb,bs,ms];rw[CC ho,if_pos rfl,Ct ho,bs];unfold D4;by_cases c1:o.1=0
    ·rw[if_pos c1,if_pos (by rw[c1];rfl)];rfl
    ·rw[if_neg c1,if_neg (by simpa using c1),My (by omega),bs]
     cases c2:BJ o.2.1 with
     |false=>rfl
     |true=>
      simp only[Bool.not_true,Ag,if_false,reduceCtorEq]
      have e3:(if decide (o.2.2.1<1)=true then some true else some (decide (o.2.2.1>1125899906842624)))=some (!inC o.2.2.1):=by
       unfold inC;by_cases q1:o.2.2.1<1
       ·rw[Al q1,Ak (show ¬1≤o.2.2.1 by omega)];rfl
       ·rw[Ak q1,Al (show 1≤o.2.2.1 by omega)];by_cases q2:o.2.2.1>1125899906842624
        ·rw[Al q2,Ak (show ¬o.2.2.1≤1125899906842624 by omega)];rfl
        ·rw[Ak q2,Al (show o.2.2.1≤1125899906842624 by omega)];rfl
      rw[e3,bs]
      cases c3:inC o.2.2.1 with
      |false=>rfl
      |true=>
       simp only[Bool.not_true,Ag,if_false,reduceCtorEq];rw[My (by omega),bs]
       cases c4:BJ o.2.2.2 with
       |false=>rfl
       |true=>
        simp only[Bool.not_true,Ag,if_false,reduceCtorEq];rw[RQ];by_cases c5:o.2.2.2∈seen
        ·rw[if_pos c5,if_pos (Al c5)];rfl
        ·rw[if_neg c5,if_neg (by rw[Ak c5];decide),RR _ _ c5,Cb (by omega)];rfl
   ·intros;trivial
   ·intro a _;unfold Ku;dsimp only;simp only[gPi,gSS,gPb,gPm,gPs,gM,gM2,Bm,gOr,Bn,Br,gAA,gAO,gOA,gOO,Bj,Bl,Bo,Bq,Bk,Bp,gId];simp only[Bx,By,Bz,B0,B1,B2,B3,B4,gId,Bw,gMb,gMm,gBm,gBb,bs,ms];rw[CP,if_neg (by decide)]
def OkO(o:Ordr):Prop:=o.1≠0∧BJ o.2.1=true∧inC o.2.2.1=true∧BJ o.2.2.2=true
theorem S8{l:List Ordr}:∀(t:List Ordr) (seen:List (List UInt8)),A3 D4 (fun _=>(.inl (l,()):(List Ordr×Unit)⊕Int)) seen t=.inl (l,())↔(∀o∈t,OkO o)∧(t.map (·.2.2.2)).Nodup∧∀o∈t,o.2.2.2∉seen
 | [],seen=>by simp[A3]
 |o::t,seen=>by
  have ih:=S8 (l:=l) t (seen++ [o.2.2.2]);rw[A3];by_cases hok:OkO o∧o.2.2.2∉seen
  ·obtain⟨⟨k1,k2,k3,k4⟩,k5⟩:=hok
   have e:D4 seen o=.inl (seen++ [o.2.2.2]):=by
    unfold D4;rw[if_neg k1,if_neg (by rw[k2];decide),if_neg (by rw[k3];decide),if_neg (by rw[k4];decide),if_neg k5]
   rw[e];simp only;rw[ih];constructor
   ·rintro⟨h1,h2,h3⟩
    refine⟨fun x hx=> ?_, ?_,fun x hx=> ?_⟩
    ·rcases List.mem_cons.1 hx with rfl|hx
     ·exact⟨k1,k2,k3,k4⟩
     ·exact h1 x hx
    ·rw[List.map_cons,List.nodup_cons];refine⟨fun hm=> ?_,h2⟩;obtain⟨x,hx,hxe⟩:=List.mem_map.1 hm;exact h3 x hx (by rw[List.mem_append];exact .inr (by simp[hxe]))
    ·rcases List.mem_cons.1 hx with rfl|hx
     ·exact k5
     ·exact fun hm=>h3 x hx (List.mem_append.2 (.inl hm))
   ·rintro⟨h1,h2,h3⟩
    rw[List.map_cons,List.nodup_cons]at h2;refine⟨fun x hx=>h1 x (List.mem_cons.2 (.inr hx)),h2.2,fun x hx hm=> ?_⟩;rcases List.mem_append.1 hm with hm|hm
    ·exact h3 x (List.mem_cons.2 (.inr hx)) hm
    ·rw[List.mem_singleton]at hm;exact h2.1 (List.mem_map.2 ⟨x,hx,hm⟩)
  ·constructor
   ·intro h;exfalso;apply hok;split at h
    ·rename_i a' hs;unfold D4 at hs;split at hs
     ·cases hs
     split at hs
     ·cases hs
     split at hs
     ·cases hs
     split at hs
     ·cases hs
     split at hs
     ·cases hs
     rename_i q1 q2 q3 q4 q5;exact⟨⟨q1,by simpa using q2,by simpa using q3,by simpa using q4⟩,q5⟩
    ·rename_i t' hs;subst h;unfold D4 at hs
     repeat' (split at hs)
     all_goals cases hs
   ·rintro⟨h1,h2,h3⟩
    exact absurd ⟨h1 o (by simp),h3 o (by simp)⟩ hok
def Fj(n:Int)(l:List Ordr):Prop:=(1≤n∧n≤1000000000)∧l.length≤256∧(∀o∈l,OkO o)∧(l.map (·.2.2.2)).Nodup∧AA (BK l)=true
theorem SA{n:Int}{l:List Ordr}:Lp n l=0↔Fj n l:=by
 unfold Lp Fj;by_cases h1:n<1∨n>1000000000
 ·rw[if_pos h1];exact⟨fun h=>(by cases h),fun h=>(by omega)⟩
 rw[if_neg h1];by_cases h2:(l.length:Int)>256
 ·rw[if_pos h2];exact⟨fun h=>(by cases h),fun h=>(by omega)⟩
 rw[if_neg h2];have k:=S8 (l:=l) l [];rcases NU (l:=l) l [] (q:=IG l) rfl with h|⟨e,h,he⟩
 ·have k':=k.1 h;rw[h];simp only;constructor
  ·intro hf;refine⟨by omega,by omega,k'.1,k'.2.1, ?_⟩;split at hf
   ·assumption
   ·cases hf
  ·rintro⟨_,_,_,_,hf⟩
   rw[if_pos hf]
 ·rw[h];simp only;constructor
  ·intro h0;subst h0;omega
  ·rintro⟨_,_,q1,q2,_⟩
   have:=k.2 ⟨q1,q2,fun o _=>by simp⟩;have h':IG l=.inl (l,()):=this;rw[h]at h';cases h'
set_option linter.unusedSimpArgs false
set_option linter.unusedVariables false
def Ba:Nat:=1125899906842624
def Ld(n:Nat):List UInt8:=Lib.decDigits (n/100)++ [46,dg9 (n/10 % 10),dg9 (n % 10)]
def Co(c:Int):List UInt8:=(if c<0 then [45]else [])++Ld c.natAbs
def IsC(s:List UInt8)(c:Int):Prop:=c.natAbs≤Ba∧Co c=s
instance (s:List UInt8) (c:Int):Decidable (IsC s c):=inferInstanceAs (Decidable (_∧_))
def CZ(W:List UInt8)(a b:UInt8):Nat:=AE 0 (W++ [a,b])
theorem L1(W:List UInt8)(a b:UInt8):CZ W a b=(AE 0 W*10+(a.toNat-48))*10+(b.toNat-48):=by simp[CZ,AE]
theorem NQ(n:Nat):∃W a b,Ld n=W++ [46,a,b]∧Cx W=true∧dgt a=true∧dgt b=true∧CZ W a b=n:=by
 refine⟨Lib.decDigits (n/100),dg9 (n/10 % 10),dg9 (n % 10),rfl,OK _,Jl (Nat.mod_lt _ (by omega)),Jl (Nat.mod_lt _ (by omega)), ?_⟩;rw[L1,Fu,FV (Nat.mod_lt _ (by omega)),FV (Nat.mod_lt _ (by omega))];omega
theorem Tx{W:List UInt8}(h:Cx W=true):W≠ []:=by intro e;rw[e]at h;cases h
theorem L9{W:List UInt8}(h:Cx W=true):W.all dgt=true:=by
 unfold Cx at h;simp only[Af]at h;exact h.2
theorem OL{W X:List UInt8}(h:Cx W=true):(W++X).head? ≠some 45:=by
 cases W with
 |nil=>exact absurd rfl (Tx h)
 |cons c W=>
  have:=L9 h;simp only[List.all_cons,Af]at this;have h3:=Dp.1 this.1;simp only[List.cons_append,List.head?_cons,ne_eq,Ac];intro e;rw[e]at h3;exact absurd h3.1 (by decide)
theorem J3{s:List UInt8}{c:Int}(h:IsC s c):∃W a b,Cx W=true∧dgt a=true∧dgt b=true∧CZ W a b=c.natAbs∧CZ W a b≤Ba∧s=(if c<0 then [45]else [])++(W++ [46,a,b]):=by
 obtain⟨h1,h2⟩:=h;obtain⟨W,a,b,e,hW,ha,hb,hn⟩:=NQ c.natAbs;refine⟨W,a,b,hW,ha,hb,hn,by omega, ?_⟩;rw[←h2,Co,e]
theorem Vi{s:List UInt8}{c d:Int}(h:IsC s c)(k:IsC s d):c=d:=by
 obtain⟨W,a,b,hW,ha,hb,hn,_,e⟩:=J3 h;obtain⟨V,a',b',hV,ha',hb',hm,_,e'⟩:=J3 k
 have key:∀{X Y:List UInt8} {x y x' y':UInt8},X++ [46,x,y]=Y++ [46,x',y']→X=Y∧x=x'∧y=y':=by
  intro X Y x y x' y' hh;obtain⟨h1,h2⟩:=List.append_inj' hh rfl;simp only[List.cons.injEq,and_true,true_and]at h2;exact⟨h1,h2.1,h2.2⟩
 rw[e]at e';by_cases h1:c<0<;>by_cases h2:d<0
 ·rw[if_pos h1,if_pos h2]at e';obtain⟨rfl,rfl,rfl⟩:=key (List.append_cancel_left e');omega
 ·rw[if_pos h1,if_neg h2]at e';exact absurd (by rw[List.nil_append]at e';rw[←e'];rfl) (OL (X:= [46,a',b']) hV)
 ·rw[if_neg h1,if_pos h2]at e';exact absurd (by rw[List.nil_append]at e';rw[e'];rfl) (OL (X:= [46,a,b]) hW)
 ·rw[if_neg h1,if_neg h2]at e';obtain⟨rfl,rfl,rfl⟩:=key (List.append_cancel_left e');omega
theorem UA(c:Int):El c=some (decide (c.natAbs≤Ba)):=by
 unfold El Ba;simp only[gPi,gSS,gPb,gPm,gPs,gM,gM2,Bm,gOr,Bn,Br,gAA,gAO,gOA,gOO,Bj,Bl,Bo,Bq,Bk,Bp,gId];by_cases h1:c≥ -1125899906842624<;>by_cases h2:c≤1125899906842624<;>simp[h1,h2]<;>omega
theorem RH{d:Nat}(h:d<10):(Utf8.encode (IntKind.i32.wrap (i64.wrap (48+(d:Int))))).data.toList= [dg9 d]:=by
 have:d=0∨d=1∨d=2∨d=3∨d=4∨d=5∨d=6∨d=7∨d=8∨d=9:=by omega
 rcases this with rfl|rfl|rfl|rfl|rfl|rfl|rfl|rfl|rfl|rfl<;>rfl
theorem XX:∀(n:Nat) (s:List UInt8),n≤4611686018427387→s.length+n≤4611686018427387904→∃(m:Nat) (t:List UInt8),iter IY ((n:Int),s,())=some ((m:Int),t,())∧m<10∧t.length≤s.length+n∧ [dg9 m]++t=Lib.decDigits n++s:=by
 intro n
 induction n using Nat.strongRecOn with
 |_ n ih=>
  intro s hn hs;by_cases h:n<10
  ·refine⟨n,s, ?_,h, ?_, ?_⟩
   ·rw[Ck];unfold IY;dsimp only;rw[Ak (show ¬(n:Int)>9 by omega)];rfl
   ·omega
   ·rw[DC h]
  ·obtain⟨m,t,h1,h2,h3,h4⟩:=ih (n/10) (by omega) ([dg9 (n % 10)]++s) (by omega) (by simp;omega);refine⟨m,t, ?_,h2,by simp at h3;omega, ?_⟩
   ·rw[Ck];unfold IY;dsimp only;rw[Al (show(n:Int)>9 by omega),if_pos rfl,if_neg (by decide),bs];have e1:(n:Int).tmod 10=((n % 10:Nat):Int):=by rw[Int.tmod_eq_emod_of_nonneg (by omega)];omega
    have e2:i64.wrap ((n:Int).tdiv 10)=((n/10:Nat):Int):=by rw[Int.tdiv_eq_ediv_of_nonneg (by omega),AR (by omega) (by omega)];omega
    rw[e1,RH (Nat.mod_lt _ (by omega))];rw[if_pos (by simp;omega),bs,if_neg (by decide),bs,e2];exact h1
   ·rw[h4,FW h];simp
theorem NV{n:Nat}(h:n≤4611686018427387):G5 (n:Int)=some (Lib.decDigits n):=by
 obtain⟨m,t,h1,h2,h3,h4⟩:=XX n [] h (by simp;omega);unfold G5;dsimp only;rw[h1,bs];dsimp only;rw[RH h2];simp only[List.length_nil,Nat.zero_add]at h3;rw[if_pos (by simp;omega),h4];simp
theorem Xc{x y:List UInt8}(hx:x.length≤1000000)(hy:y.length≤1000000){β:Type}(K:List UInt8→Option β):(if x.length+y.length≤4611686018427387904 then K (x++y)else none)=K (x++y):=if_pos (by omega)
theorem OR{c:Int}(hc:c.natAbs≤20000000000000000):EL c=some (if c.natAbs≤Ba then Co c else []):=by
 unfold EL;dsimp only;simp only[gPi,gSS,gPb,gPm,gPs,gM,gM2,Bm,gOr,Bn,Br,gAA,gAO,gOA,gOO,Bj,Bl,Bo,Bq,Bk,Bp,gId];simp only[Bx,By,Bz,B0,B1,B2,B3,B4,gId,Bw,gMb,gMm,gBm,gBb,bs,ms];rw[UA,bs];by_cases hf:c.natAbs≤Ba
 ·have hm:c.natAbs≤1125899906842624:=hf;rw[Al hf,if_pos hf];simp only[Bool.not_true,Ag,if_false]
  have e0:(if decide (c<0)=true then some (i64.wrap (0-c),([45]:List UInt8),())else some (c,[],()))=some ((c.natAbs:Int),(if c<0 then [45]else []),()):=by
   by_cases h:c<0
   ·rw[Al h,if_pos rfl,if_pos h,AR (by omega) (by omega)]
    congr 2;omega
   ·rw[Ak h,if_neg (by decide),if_neg h]
    congr 2;omega
  rw[e0,bs,if_neg (by decide),bs];dsimp only;have e1:(c.natAbs:Int).tmod 100=((c.natAbs % 100:Nat):Int):=by rw[Int.tmod_eq_emod_of_nonneg (by omega)];omega
  have e2:i64.wrap ((c.natAbs:Int).tdiv 100)=((c.natAbs/100:Nat):Int):=by rw[Int.tdiv_eq_ediv_of_nonneg (by omega),AR (by omega) (by omega)];omega
  have e3:i64.wrap (((c.natAbs % 100:Nat):Int).tdiv 10)=((c.natAbs/10 % 10:Nat):Int):=by rw[Int.tdiv_eq_ediv_of_nonneg (by omega),AR (by omega) (by omega)];omega
  have e4:((c.natAbs % 100:Nat):Int).tmod 10=((c.natAbs % 10:Nat):Int):=by rw[Int.tmod_eq_emod_of_nonneg (by omega)];omega
  rw[if_neg (by decide),bs,e1,e2,NV (by omega),bs];have hl:(Lib.decDigits (c.natAbs/100)).length≤20:=Es (by omega) (by omega);have hs:(if c<0 then([45]:List UInt8)else []).length≤1:=by split<;>simp
  rw[Xc (by omega) (by omega) (fun x=>if x.length+([46]:List UInt8).length≤4611686018427387904 then _ else _)];rw[if_pos (by simp only[List.length_append];simp only[List.length_singleton];omega)];rw[if_neg (by decide),bs,e3,NV (by omega),bs,DC (Nat.mod_lt _ (by omega))];rw[if_pos (by simp only[List.length_append,List.length_singleton];omega)];rw[if_neg (by decide),bs,e4,NV (by omega),bs,DC (Nat.mod_lt _ (by omega))];rw[if_pos (by simp only[List.length_append,List.length_singleton];omega)];simp[Co,Ld]
 ·rw[Ak hf,if_neg hf];rfl
abbrev CA:=Nat×Nat×Bool
def Cy(a:CA)(x:UInt8):CA⊕((List UInt8×Int×Bool×Unit)⊕(Int×Int)):=
 if a.1=0∧x=45 then .inl (a.1+1,a.2.1,true)
 else if x=46 then .inl (a.1+1,a.2.1,a.2.2)
 else if dgt x=true∧a.2.1≤Ba then .inl (a.1+1,a.2.1*10+(x.toNat-48),a.2.2)else .inr (.inr (0,3))
theorem Tz{s:List UInt8}(h:s.length≤1000000):iter H6 (s,0,false,(s.length:Int),0,())=some (A3 Cy (fun a=>.inl (s,(a.2.1:Int),a.2.2,())) (0,0,false) s):=by
 have e:=DU (b:=H6) (A:=CA) (fun i a=>(s,(a.2.1:Int),a.2.2,(s.length:Int),(i:Int),())) Cy (fun a=>.inl (s,(a.2.1:Int),a.2.2,())) (fun i a=>a.1=i∧a.2.1≤Ba*10+9) s (a:=(0,0,false)) ⟨rfl,by simp⟩ ?_ ?_ ?_
 ·exact e
 ·rintro i x ⟨j,c,bl⟩ hx ⟨rfl,hc⟩
  dsimp only at hc⊢;have hm:Ba=1125899906842624:=rfl;have hi:=(Ae.1 hx).1;have ws:=Cb (show j<9223372036854775807 by omega);unfold H6;dsimp only;simp only[gPi,gSS,gPb,gPm,gPs,gM,gM2,Bm,gOr,Bn,Br,gAA,gAO,gOA,gOO,Bj,Bl,Bo,Bq,Bk,Bp,gId];simp only[Bx,By,Bz,B0,B1,B2,B3,B4,gId,Bw,gMb,gMm,gBm,gBb,bs,ms];simp only[CC hx,if_true,Gs hx,bs]
  have e0:(if((j:Int)==0)=true then some ((x.toNat:Int)==45)else some false)=some (decide (j=0∧x=45)):=by
   by_cases h0:j=0
   ·subst h0;rw[show(((0:Nat):Int)==0)=true from rfl,if_pos rfl];by_cases h1:x=45
    ·subst h1;rfl
    ·have:¬(x.toNat:Int)=45:=fun hh=>h1 (UInt8.toNat_inj.1 (by show x.toNat=45;omega));simp[h1,this]
   ·have:¬(j:Int)=0:=by omega
    simp[h0,this]
  have e1:((x.toNat:Int)==46)=decide (x=46):=by
   by_cases h1:x=46
   ·subst h1;rfl
   ·have:¬(x.toNat:Int)=46:=fun hh=>h1 (UInt8.toNat_inj.1 (by show x.toNat=46;omega));simp[h1,this]
  have e2:(if decide ((x.toNat:Int)<48)=true then some true else some (decide ((x.toNat:Int)>57)))=some (!dgt x):=by
   unfold dgt;cases decide ((x.toNat:Int)<48)<;>cases decide ((x.toNat:Int)>57)<;>rfl
  simp only[e0,e1,e2,bs];unfold Cy;by_cases q1:j=0∧x=45
  ·have r1:(j=0∧x=45)=True:=eq_true q1;simp only[r1,decide_true,if_true,bs,ws,Gx]
  ·have r1:(j=0∧x=45)=False:=eq_false q1;by_cases q2:x=46
   ·have r2:(x=46)=True:=eq_true q2;simp only[r1,r2,decide_true,decide_false,Ag,if_false,if_true,bs,ws,Gx]
   ·have r2:(x=46)=False:=eq_false q2;by_cases q3:dgt x=true
    ·have hd:=Dp.1 q3;by_cases q4:c≤Ba
     ·have c4:decide ((c:Int)>1125899906842624)=false:=Ak (by omega);have q:(dgt x=true∧c≤Ba)=True:=eq_true ⟨q3,q4⟩;have w1:u8.wrap ((x.toNat:Int)-48)=((x.toNat-48:Nat):Int):=by rw[IntKind.wrap_u8];omega
      have w2:i64.wrap ((x.toNat-48:Nat):Int)=((x.toNat-48:Nat):Int):=AR (by omega) (by omega);have w3:i64.wrap (10*(c:Int))=10*(c:Int):=AR (by omega) (by omega);have w4:i64.wrap (10*(c:Int)+((x.toNat-48:Nat):Int))=((c*10+(x.toNat-48):Nat):Int):=by rw[AR (by omega) (by omega)];omega
      simp only[r1,r2,decide_false,q3,Bool.not_true,Ag,if_false,if_true,bs,c4,w1,w2,w3,w4,ws,Gx,q,q4,and_self]
     ·have c4:decide ((c:Int)>1125899906842624)=true:=Al (by omega);simp only[r1,r2,decide_false,q3,Bool.not_true,Ag,if_false,if_true,bs,c4,Gx,q4,and_false]
    ·have q3':dgt x=false:=by simpa using q3
     simp only[r1,r2,decide_false,q3',Bool.not_false,if_true,Ag,if_false,bs,Gx,false_and]
 ·rintro i x ⟨j,c,bl⟩ a' hx ⟨rfl,hc⟩ hst
  dsimp only at hc;unfold Cy at hst;dsimp only at hst;split at hst
  ·cases hst;exact⟨rfl,hc⟩
  ·split at hst
   ·cases hst;exact⟨rfl,hc⟩
   ·split at hst
    ·rename_i hq;cases hst;have hd:=Dp.1 hq.1;refine⟨rfl, ?_⟩;have:=hq.2;dsimp only;omega
    ·cases hst
 ·rintro⟨j,c,bl⟩ ⟨hj,hc⟩
  unfold H6;dsimp only;simp only[CP,Ag,if_false]
theorem LI(fin:CA→((List UInt8×Int×Bool×Unit)⊕(Int×Int))):∀(D X:List UInt8) (j c:Nat) (bl:Bool),D.all dgt=true→AE c D≤Ba→A3 Cy fin (j,c,bl) (D++X)=A3 Cy fin (j+D.length,AE c D,bl) X
 | [],X,j,c,bl,_,_=>rfl
 |d::D,X,j,c,bl,h,hn=>by
  simp only[List.all_cons,Af]at h;have hd:=Dp.1 h.1;have e:AE c (d::D)=AE (c*10+(d.toNat-48)) D:=rfl;have h1:=JV D (c*10+(d.toNat-48));rw[e]at hn⊢;have n1:¬d=45:=by intro hh;subst hh;exact absurd hd.1 (by decide)
  have n2:¬d=46:=by intro hh;subst hh;exact absurd hd.1 (by decide)
  rw[List.cons_append,A3,Cy,if_neg (fun hh=>n1 hh.2),if_neg n2,if_pos ⟨h.1,by show c≤Ba;omega⟩];dsimp only;rw[LI fin D X (j+1) _ bl h.2 hn]
  congr 2
  simp only[List.length_cons];omega
theorem OS(fin:CA→((List UInt8×Int×Bool×Unit)⊕(Int×Int))){W:List UInt8}{a b:UInt8}(hW:Cx W=true)(ha:dgt a=true)(hb:dgt b=true)(hn:CZ W a b≤Ba)(j:Nat)(bl:Bool):
  ∃k,A3 Cy fin (j,0,bl) (W++ [46,a,b])=fin (k,CZ W a b,bl):=by
 have hv:AE 0 W≤Ba:=by rw[L1]at hn;omega
 have e:CZ W a b=AE (AE 0 W) [a,b]:=by rw[L1];rfl
 have hpos:∀x:UInt8,dgt x=true→¬x=45∧¬x=46:=by
  intro x hx;have:=Dp.1 hx;constructor<;>(intro hh;subst hh;exact absurd this.1 (by decide))
 refine⟨j+W.length+1+ [a,b].length, ?_⟩;rw[LI fin W _ j 0 bl (L9 hW) hv,A3,Cy,if_neg (fun hh=>absurd hh.2 (by decide)),if_pos rfl];dsimp only;have:=LI fin [a,b] [] (j+W.length+1) (AE 0 W) bl (by simp[ha,hb]) (by rw[←e];exact hn);rw[List.append_nil]at this;rw[this,←e];rfl
theorem T0{s:List UInt8}{c:Int}(hc:c.natAbs≤20000000000000000):(if(s== [])=true then some true else(EL c).bind fun v=>some (!v==s))=some (decide (¬IsC s c)):=by
 rw[OR hc,bs];by_cases h0:s= []
 ·subst h0
  have:¬IsC [] c:=by
   intro h;obtain⟨W,a,b,_,_,_,_,_,e⟩:=J3 h;have:=congrArg List.length e;simp at this
  simp[this]
 ·have e1:(s== [])=false:=by simpa using h0
  rw[e1];simp only[Ag,if_false,Ac];by_cases hf:c.natAbs≤Ba
  ·rw[if_pos hf];by_cases ht:Co c=s
   ·have:IsC s c:=⟨hf,ht⟩;simp[this,ht]
   ·have:¬IsC s c:=fun h=>ht h.2;simp[this,ht]
  ·rw[if_neg hf];have:¬IsC s c:=fun h=>hf h.1;have h1:¬ []=s:=fun h=>h0 h.symm;simp[this,h1,h0]
theorem OQ{s:List UInt8}(h:s.length≤1000000):(∃c,IsC s c∧Em s=some (c,0))∨((∀c,¬IsC s c)∧Em s=some (0,3)):=by
 have hs:=Tz h
 have hP:∀{o:(List UInt8×Int×Bool×Unit)⊕(Int×Int)},A3 Cy (fun a=>.inl (s,(a.2.1:Int),a.2.2,())) (0,0,false) s=o→Em s=(match o with
   |Sum.inl p190=>(if p190.2.2.1=true then some (p190.1,i64.wrap (0-p190.2.1),())else some (p190.1,p190.2.1,())).bind fun o=>
     (if(o.1== [])=true then some true else(EL o.2.1).bind fun v=>some (!v==o.1)).bind fun x54=>if x54=true then some (0,3)else some (o.2.1,0)
   |Sum.inr q191=>some q191):=by
  intro o ho;unfold Em;dsimp only;simp only[gPi,gSS,gPb,gPm,gPs,gM,gM2,Bm,gOr,Bn,Br,gAA,gAO,gOA,gOO,Bj,Bl,Bo,Bq,Bk,Bp,gId];simp only[Bx,By,Bz,B0,B1,B2,B3,B4,gId,Bw,gMb,gMm,gBm,gBb,bs,ms];rw[hs,ho,bs];rfl
 have fin:∀{c:Nat} {bl:Bool},c≤Ba*10+9→A3 Cy (fun a=>.inl (s,(a.2.1:Int),a.2.2,())) (0,0,false) s=.inl (s,(c:Int),bl,())→Em s=some (if IsC s (if bl then-(c:Int)else(c:Int))then((if bl then-(c:Int)else(c:Int)),0)else(0,3)):=by
  intro c bl hc ho;have hm:Ba=1125899906842624:=rfl;rw[hP ho];dsimp only
  have e0:(if bl=true then some (s,i64.wrap (0-(c:Int)),())else some (s,(c:Int),()))=some (s,(if bl then-(c:Int)else(c:Int)),()):=by
   cases bl
   ·rfl
   ·rw[if_pos rfl,AR (by omega) (by omega)]
    congr 2
    simp
  rw[e0,bs];dsimp only;have hb:(if bl then-(c:Int)else(c:Int)).natAbs≤20000000000000000:=by cases bl<;>simp<;>omega
  rw[T0 hb,bs];by_cases hI:IsC s (if bl then-(c:Int)else(c:Int))
  ·rw[if_pos hI,Ak (fun hh=>hh hI),if_neg (by decide)]
  ·rw[if_neg hI,Al hI,if_pos rfl]
 by_cases hI:∃c,IsC s c
 ·left;obtain⟨c,hc⟩:=hI;refine⟨c,hc, ?_⟩;obtain⟨W,a,b,hW,ha,hb,hn,hle,e⟩:=J3 hc;by_cases h0:c<0
  ·rw[if_pos h0]at e;have e':s=45::(W++ [46,a,b]):=e;obtain⟨k,hk⟩:=OS (fun a=>.inl (s,(a.2.1:Int),a.2.2,())) hW ha hb hle 1 true
   have hf:A3 Cy (fun a=>.inl (s,(a.2.1:Int),a.2.2,())) (0,0,false) s=.inl (s,(CZ W a b:Int),true,()):=by
    conv=>lhs;rw[e']
    rw[A3,Cy,if_pos ⟨rfl,rfl⟩];dsimp only;rw[←e'];exact hk
   rw[fin (by omega) hf];have:(if true=true then-(CZ W a b:Int)else(CZ W a b:Int))=c:=by rw[if_pos rfl];omega
   rw[this,if_pos hc]
  ·rw[if_neg h0,List.nil_append]at e;obtain⟨k,hk⟩:=OS (fun a=>.inl (s,(a.2.1:Int),a.2.2,())) hW ha hb hle 0 false
   have hf:A3 Cy (fun a=>.inl (s,(a.2.1:Int),a.2.2,())) (0,0,false) s=.inl (s,(CZ W a b:Int),false,()):=by
    conv=>lhs;rw[e]
    rw[←e];rw[←e]at hk;exact hk
   rw[fin (by omega) hf];have:(if false=true then-(CZ W a b:Int)else(CZ W a b:Int))=c:=by rw[if_neg (by decide)];omega
   rw[this,if_pos hc]
 ·right;have hno:∀c,¬IsC s c:=fun c hc=>hI ⟨c,hc⟩;refine⟨hno, ?_⟩
  have key:∀(l:List UInt8) (a:CA),a.2.1≤Ba*10+9→(∃c bl,c≤Ba*10+9∧A3 Cy (fun a=>.inl (s,(a.2.1:Int),a.2.2,())) a l=.inl (s,(c:Int),bl,()))∨A3 Cy (fun a=>.inl (s,(a.2.1:Int),a.2.2,())) a l=.inr (0,3):=by
   intro l
   induction l with
   |nil=>intro a ha;exact .inl ⟨a.2.1,a.2.2,ha,rfl⟩
   |cons x l ih=>
    intro a ha;rw[A3];unfold Cy;split<;>rename_i q1
    ·split at q1
     ·cases q1;exact ih _ ha
     ·split at q1
      ·cases q1;exact ih _ ha
      ·split at q1
       ·rename_i q2;cases q1;have hd:=Dp.1 q2.1;have:=q2.2;exact ih _ (by dsimp only;omega)
       ·cases q1
    ·split at q1
     ·cases q1
     ·split at q1
      ·cases q1
      ·split at q1
       ·cases q1
       ·cases q1;exact .inr rfl
  rcases key s (0,0,false) (by simp)with⟨c,bl,hc,ho⟩|ho
  ·rw[fin hc ho,if_neg (hno _)]
  ·rw[hP ho]
set_option linter.unusedSimpArgs false
set_option linter.unusedVariables false
def BT(c:UInt8):List UInt8→List UInt8→List (List UInt8)
 |cur,[]=> [cur]
 |cur,b::t=>if b=c then cur::BT c [] t else BT c (cur++ [b]) t
def D1(c:UInt8)(s:List UInt8):List (List UInt8):=BT c [] s
def C4(c:UInt8):Nat→List UInt8→List UInt8→List (List UInt8)
 |_,cur,[]=> [cur]
 |0,cur,s=> [cur++s]
 |k+1,cur,b::t=>if b=c then cur::C4 c k [] t else C4 c (k+1) (cur++ [b]) t
theorem Si(c:UInt8)(k:Nat)(cur:List UInt8)(b:UInt8)(t:List UInt8):C4 c (k+1) cur (b::t)=if b=c then cur::C4 c k [] t else C4 c (k+1) (cur++ [b]) t:=rfl
theorem Sl(c:UInt8)(cur:List UInt8)(b:UInt8)(t:List UInt8):BT c cur (b::t)=if b=c then cur::BT c [] t else BT c (cur++ [b]) t:=rfl
theorem KS(c:UInt8):∀(s cur:List UInt8) (k:Nat),s.count c≤k→C4 c k cur s=BT c cur s
 | [],cur,0,_=>rfl
 | [],cur,k+1,_=>rfl
 |b::t,cur,0,h=>by
  have hb:¬b=c:=by intro e;subst e;simp at h
  have ht:t.count c≤0:=by rw[List.count_cons]at h;omega
  have e:=KS c t (cur++ [b]) 0 ht;unfold BT;rw[if_neg hb,←e];show [cur++b::t]=_
  cases t with
  |nil=>rfl
  |cons d t=>show _= [cur++ [b]++d::t];simp
 |b::t,cur,k+1,h=>by
  unfold C4 BT;by_cases hb:b=c
  ·subst hb;rw[if_pos rfl,if_pos rfl,KS b t [] k (by simp at h;omega)]
  ·rw[if_neg hb,if_neg hb,KS c t (cur++ [b]) (k+1) (by rw[List.count_cons]at h;omega)]
theorem Sj(c:UInt8):∀(s cur:List UInt8) (k:Nat),(∀b∈s,b≠c)→C4 c k cur s= [cur++s]
 | [],cur,0,_=>by unfold C4;simp
 | [],cur,k+1,_=>by unfold C4;simp
 |b::t,cur,0,h=>by unfold C4;rfl
 |b::t,cur,k+1,h=>by
  unfold C4;rw[if_neg (h b (by simp)),Sj c t _ _ fun x hx=>h x (by simp[hx])];simp
theorem Sh(c:UInt8):∀(l t cur:List UInt8) (k:Nat),(∀b∈l,b≠c)→C4 c (k+1) cur (l++c::t)=(cur++l)::C4 c k [] t
 | [],t,cur,k,_=>by rw[List.nil_append,Si,if_pos rfl];simp
 |b::l,t,cur,k,h=>by
  rw[List.cons_append,Si,if_neg (h b (by simp)),Sh c l t _ _ fun x hx=>h x (by simp[hx])];simp
theorem Sm(c:UInt8):∀(s cur:List UInt8),(∀b∈s,b≠c)→BT c cur s= [cur++s]
 | [],cur,_=>by unfold BT;simp
 |b::t,cur,h=>by
  unfold BT;rw[if_neg (h b (by simp)),Sm c t _ fun x hx=>h x (by simp[hx])];simp
theorem Sk(c:UInt8):∀(l t cur:List UInt8),(∀b∈l,b≠c)→BT c cur (l++c::t)=(cur++l)::BT c [] t
 | [],t,cur,_=>by rw[List.nil_append,Sl,if_pos rfl];simp
 |b::l,t,cur,h=>by
  rw[List.cons_append,Sl,if_neg (h b (by simp)),Sk c l t _ fun x hx=>h x (by simp[hx])];simp
theorem Tm(c:UInt8)(s:List UInt8):(∀x∈s,x≠c)∨∃l t,s=l++c::t∧∀x∈l,x≠c:=by
 induction s with
 |nil=>exact .inl (by simp)
 |cons b s ih=>
  by_cases hb:b=c
  ·exact .inr ⟨[],s,by rw[hb];rfl,by simp⟩
  ·rcases ih with h|⟨l,t,rfl,h⟩
   ·exact .inl (by intro x hx;rcases List.mem_cons.1 hx with rfl|hx;exact hb;exact h x hx)
   ·exact .inr ⟨b::l,t,rfl,by intro x hx;rcases List.mem_cons.1 hx with rfl|hx;exact hb;exact h x hx⟩
theorem NJ(c:UInt8):∀(s cur:List UInt8),(BT c cur s).length=s.count c+1
 | [],cur=>rfl
 |b::t,cur=>by
  unfold BT;rw[List.count_cons];by_cases hb:b=c
  ·subst hb;rw[if_pos rfl,List.length_cons,NJ b t []];simp
  ·rw[if_neg hb,NJ c t _];simp[hb]
theorem KU(c:UInt8):∀(s cur:List UInt8),(∀x∈cur,x≠c)→∀w∈BT c cur s,(∀x∈w,x≠c)∧w.length≤cur.length+s.length∧(∀x∈w,x∈cur∨x∈s)
 | [],cur,h,w,hw=>by unfold BT at hw;simp at hw;subst hw;exact⟨h,by simp,fun x hx=>.inl hx⟩
 |b::t,cur,h,w,hw=>by
  unfold BT at hw;split at hw
  ·rcases List.mem_cons.1 hw with rfl|hw
   ·exact⟨h,by simp,fun x hx=>.inl hx⟩
   ·obtain⟨h1,h2,h3⟩:=KU c t [] (by simp) w hw;exact⟨h1,by simp at h2⊢;omega,fun x hx=>by rcases h3 x hx with h4|h4;cases h4;exact .inr (by simp[h4])⟩
  ·rename_i hb;obtain⟨h1,h2,h3⟩:=KU c t (cur++ [b]) (by intro x hx;rcases List.mem_append.1 hx with hx|hx;exact h x hx;simp at hx;subst hx;exact hb) w hw
   exact⟨h1,by simp at h2⊢;omega,fun x hx=>by
    rcases h3 x hx with h4|h4
    ·rcases List.mem_append.1 h4 with h4|h4
     ·exact .inl h4
     ·simp at h4;exact .inr (by simp[h4])
    ·exact .inr (by simp[h4])⟩
theorem Ve{l:List UInt8}{c:UInt8}(h:∀b∈l,b≠c):Lib.indexByte l c= -1:=by
 induction l with
 |nil=>rfl
 |cons b t ih=>
  have hb:(b==c)=false:=by simpa using h b (by simp)
  simp[Lib.indexByte,hb,ih fun x hx=>h x (by simp[hx])]
theorem Vd{l t:List UInt8}{c:UInt8}(h:∀b∈l,b≠c):Lib.indexByte (l++c::t) c=(l.length:Int):=by
 induction l with
 |nil=>simp[Lib.indexByte]
 |cons b u ih=>
  have hb:(b==c)=false:=by simpa using h b (by simp)
  have e:=ih fun x hx=>h x (by simp[hx]);simp only[List.cons_append,Lib.indexByte,hb,e];have:(((u.length:Int))== -1)=false:=by simp
  simp[this]
theorem Og(s:List UInt8)(c:UInt8):NL (s,[c])=some (Lib.indexByte s c):=rfl
theorem UZ(c:UInt8):∀(k:Nat) (done:List (List UInt8)) (s:List UInt8),s.length≤1000000→done.length+k≤1000000→
  ∃(s':List UInt8) (i:Nat) (a:List (List UInt8)),iter Hw (s,[c],0,((done.length+k:Nat):Int),(done.length:Int),done++List.replicate (k+1) [],(),())=some (s',(i:Int),a,(),())∧i<a.length∧i≤1000000∧(a.set i s').take (i+1)=done++C4 c k [] s:=by
 intro k
 induction k with
 |zero=>
  intro done s hs hd;refine⟨s,done.length,done++List.replicate 1 [], ?_,by simp,by omega, ?_⟩
  ·rw[Ck];unfold Hw;dsimp only;rw[Ak (show ¬(done.length:Int)<((done.length+0:Nat):Int) by omega)];rfl
  ·have e:(done++List.replicate 1 []).set done.length s=done++ [s]:=by simp
   rw[e];have:C4 c 0 [] s= [s]:=by cases s<;>rfl
   rw[this,List.take_of_length_le (by simp)]
 |succ k ih=>
  intro done s hs hd;have hlt:decide ((done.length:Int)<((done.length+(k+1):Nat):Int))=true:=Al (by omega);rcases Tm c s with h|⟨l,t,rfl,h⟩
  ·refine⟨s,done.length,done++List.replicate (k+1+1) [], ?_,by simp,by omega, ?_⟩
   ·rw[Ck];unfold Hw;dsimp only;rw[hlt,if_pos rfl,Og,Ve h,bs];rfl
   ·have e:(done++List.replicate (k+1+1) []).set done.length s=done++s::List.replicate (k+1) []:=by
     rw[List.replicate_succ];simp
    rw[e,Sj c s [] (k+1) h];rw[show done++s::List.replicate (k+1) []=(done++ [s])++List.replicate (k+1) [] by simp];rw[List.take_append_of_le_length (by simp),List.take_of_length_le (by simp)];rfl
  ·have hl:l.length+t.length+1≤1000000:=by simp at hs;omega
   obtain⟨s',i,a,h1,h2,h3,h4⟩:=ih (done++ [l]) t (by omega) (by simp;omega);refine⟨s',i,a, ?_,h2,h3, ?_⟩
   ·rw[Ck];unfold Hw;dsimp only;rw[hlt,if_pos rfl,Og,Vd h,bs];have c1:decide ((l.length:Int)<0)=false:=Ak (by omega);rw[c1];simp only[Ag,if_false];have w1:i64.wrap ((l.length:Int)+0)=(l.length:Int):=by rw[AR (by omega) (by omega)];omega
    have l1:AJ (l++c::t) 0 (l.length:Int)=some l:=by
     have:=De (xs:=l++c::t) (i:=0) (j:=l.length) (by omega) (by simp);simpa using this
    have w2:i64.wrap ((l.length:Int)+(([c]:List UInt8).length:Int))=((l.length+1:Nat):Int):=by
     rw[AR (by omega) (by simp only[List.length_cons,List.length_nil];omega)];simp
    have l2:AJ (l++c::t) ((l.length+1:Nat):Int) (((l++c::t):List UInt8).length:Int)=some t:=by
     have:=De (xs:=l++c::t) (i:=l.length+1) (j:=(l++c::t).length) (by simp) (by omega);rw[this,List.take_length];simp
    have w3:i64.wrap ((done.length:Int)+1)=(((done++ [l]).length:Nat):Int):=by rw[AR (by omega) (by omega)];simp
    have hin:0≤(done.length:Int)∧(done.length:Int)<((done++List.replicate (k+1+1) []:List (List UInt8)).length:Int):=by simp;omega
    have hget:(done++List.replicate (k+1+1) [])[(done.length:Int).toNat]? =some ([]:List UInt8):=by
     rw[Int.toNat_natCast,List.replicate_succ];simp
    have hset:(done++List.replicate (k+1+1) []).set (done.length:Int).toNat l=(done++ [l])++List.replicate (k+1) []:=by
     rw[Int.toNat_natCast,List.replicate_succ];simp
    rw[w1,l1,bs,if_pos hin,bs,hget,hset,ms,bs,w2,l2,bs,w3];have e1:((done++ [l]).length+k:Nat)=done.length+(k+1):=by simp;omega
    rw[e1]at h1;exact h1
   ·rw[h4,Sh c l t [] k h];simp
theorem US{c:UInt8}{s:List UInt8}{k:Nat}(hs:s.length≤1000000)(hk:k≤1000000){n:Int}(hn:n=((k+1:Nat):Int)):
  ((if 0≤n∧n≤n∧n*(16:Int)≤140737488355328∧n≤4611686018427387904 then some (List.replicate n.toNat ([]:List UInt8))else none).bind fun l31=>
    Option.bind ((iter Hw (s,[c],(0:Int),i64.wrap (n-(1:Int)),(0:Int),l31,(),())).bind fun o=>some (o.1,o.2.1,o.2.2.1,(),())) fun o=>
    Option.bind (if 0≤o.2.1∧o.2.1<(o.2.2.1.length:Int)then some o.2.1.toNat else none) fun x61=>
    Option.bind ((o.2.2.1[x61]?).map (fun el18=>o.2.2.1.set x61 o.1)) fun l31=>
    Option.bind (AJ l31 (0:Int) (i64.wrap (o.2.1+(1:Int)))) fun x65=>some x65)=some (C4 c k [] s):=by
 subst hn;obtain⟨s',i,a,h1,h2,h3,h4⟩:=UZ c k [] s hs (by simpa using hk);simp only[List.length_nil,Nat.zero_add,List.nil_append]at h1 h4;rw[if_pos (by omega),bs,Int.toNat_natCast];have w1:i64.wrap (((k+1:Nat):Int)-1)=(k:Int):=by rw[AR (by omega) (by omega)];omega
 rw[w1];rw[show((0:Nat):Int)=0 from rfl]at h1;rw[h1,bs,bs];dsimp only;have hg:a[i]? =some (a[i]'h2):=Ai _;rw[if_pos (by omega),bs,Int.toNat_natCast,hg,ms,bs];have w2:i64.wrap ((i:Int)+1)=((i+1:Nat):Int):=by rw[AR (by omega) (by omega)];omega
 have:=De (xs:=a.set i s') (i:=0) (j:=i+1) (by omega) (by simp;omega);rw[w2];rw[show(0:Int)=((0:Nat):Int)from rfl,this,bs];simp only[List.drop_zero];rw[h4]
theorem O2{c:UInt8}{s:List UInt8}(hs:s.length≤900000):IE (s,[c])=some (D1 c s):=by
 unfold IE NM;dsimp only;have c1:(([c]:List UInt8)== [])=false:=rfl;have c2:((-1:Int)==0)=false:=rfl;have c3:decide ((-1:Int)<0)=true:=rfl;have hcnt:IC (s,[c])=some (s.count c:Int):=rfl;have hle:s.count c≤s.length:=List.count_le_length;have w1:i64.wrap ((s.count c:Int)+1)=((s.count c+1:Nat):Int):=by rw[AR (by omega) (by omega)];omega
 have w2:i64.wrap ((s.length:Int)+1)=((s.length+1:Nat):Int):=by rw[AR (by omega) (by omega)];omega
 simp only[c1,c2,c3,Ag,if_false,if_true,hcnt,bs,w1,w2];have hm:min (((s.count c+1:Nat)):Int) ((s.length+1:Nat):Int)=((s.count c+1:Nat):Int):=by omega
 rw[hm,US (k:=s.count c) (by omega) (by omega) rfl,bs,KS c s [] _ (Nat.le_refl _)];rfl
set_option linter.unusedSimpArgs false
set_option linter.unusedVariables false
theorem Lr{s t:List UInt8}(h:s.length≤1000000000):GP (s,t)=some (decide (t<:+s)):=by
 unfold GP;dsimp only;simp only[gPi,gSS,gPb,gPm,gPs,gM,gM2,Bm,gOr,Bn,Br,gAA,gAO,gOA,gOO,Bj,Bl,Bo,Bq,Bk,Bp,gId];simp only[Bx,By,Bz,B0,B1,B2,B3,B4,gId,Bw,gMb,gMm,gBm,gBb,bs,ms];by_cases hl:t.length≤s.length
 ·rw[Al (show((s.length:Int)≥(t.length:Int)) by omega),if_pos rfl,AR (by omega) (by omega)];rw[show((s.length:Int)-(t.length:Int))=((s.length-t.length:Nat):Int) by omega,De (by omega) (Nat.le_refl _),List.take_length,bs]
  congr 1
  rw[Bool.eq_iff_iff,beq_iff_eq,decide_eq_true_eq,List.suffix_iff_eq_drop,eq_comm]
 ·rw[Ak (show ¬((s.length:Int)≥(t.length:Int)) by omega),if_neg (by decide),Ak];exact fun hh=>hl hh.length_le
theorem SM{s t:List UInt8}(h:s.length≤1000000000):J2 (s,t)=some (decide (t<+:s)):=by
 unfold J2;dsimp only;simp only[gPi,gSS,gPb,gPm,gPs,gM,gM2,Bm,gOr,Bn,Br,gAA,gAO,gOA,gOO,Bj,Bl,Bo,Bq,Bk,Bp,gId];simp only[Bx,By,Bz,B0,B1,B2,B3,B4,gId,Bw,gMb,gMm,gBm,gBb,bs,ms];by_cases hl:t.length≤s.length
 ·rw[Al (show((s.length:Int)≥(t.length:Int)) by omega),if_pos rfl];rw[show AJ s 0 (t.length:Int)=AJ s ((0:Nat):Int) (t.length:Int)from rfl,De (by omega) hl,List.drop_zero,bs]
  congr 1
  rw[Bool.eq_iff_iff,beq_iff_eq,decide_eq_true_eq,List.prefix_iff_eq_take,eq_comm]
 ·rw[Ak (show ¬((s.length:Int)≥(t.length:Int)) by omega),if_neg (by decide),Ak];exact fun hh=>hl hh.length_le
theorem SI{s t:List UInt8}(h:s.length≤1000000000):KW (s,t)=some (if t<:+s then(s.take (s.length-t.length),true)else(s,false)):=by
 unfold KW Mw;dsimp only;rw[Lr h,bs];by_cases hs:t<:+s
 ·have:=hs.length_le;rw[Al hs,if_neg (by decide),if_pos hs,AR (by omega) (by omega)];rw[show((s.length:Int)-(t.length:Int))=((s.length-t.length:Nat):Int) by omega,show AJ s 0 ((s.length-t.length:Nat):Int)=AJ s ((0:Nat):Int) ((s.length-t.length:Nat):Int)from rfl,De (by omega) (by omega),List.drop_zero,bs,bs]
 ·rw[Ak hs,if_pos (show(!false)=true from rfl),if_neg hs,bs]
theorem SH{s t:List UInt8}(h:s.length≤1000000000):KV (s,t)=some (if t<+:s then(s.drop t.length,true)else(s,false)):=by
 unfold KV Mv;dsimp only;rw[SM h,bs];by_cases hs:t<+:s
 ·have:=hs.length_le;rw[Al hs,if_neg (by decide),if_pos hs];rw[De this (Nat.le_refl _),List.take_length,bs,bs]
 ·rw[Ak hs,if_pos (show(!false)=true from rfl),if_neg hs,bs]
theorem SY{s t:List UInt8}(h:s.length≤1000000000):KY (s,t)=some (if t<:+s then s.take (s.length-t.length)else s):=by
 unfold KY Mx;dsimp only;rw[Lr h,bs];by_cases hs:t<:+s
 ·have:=hs.length_le;rw[Al hs,if_pos rfl,if_pos hs,AR (by omega) (by omega)];rw[show((s.length:Int)-(t.length:Int))=((s.length-t.length:Nat):Int) by omega,show AJ s 0 ((s.length-t.length:Nat):Int)=AJ s ((0:Nat):Int) ((s.length-t.length:Nat):Int)from rfl,De (by omega) (by omega),List.drop_zero,bs,bs]
 ·rw[Ak hs,if_neg (by decide),if_neg hs,bs]
theorem WN{s t:List UInt8}(h:s.length≤1000000000):KX (s,t)=some (decide (t<:+s)):=by
 unfold KX;dsimp only;rw[Lr h,bs]
theorem Qp{s:List UInt8}(hs:s.length≤1000000000):∀(n:Nat) (p t:List UInt8),p.length=n→s=p++t→(∀b∈t,b≠10)→
  ∃q,iter HQ (s,10,(n:Int)-1,())=some q∧((q=.inl ()∧∀b∈s,b≠10)∨∃A L,s=A++10::L∧(∀b∈L,b≠10)∧q=.inr (A.length:Int))
 |0,p,t,hp,h,ht=>by
  have:p= []:=List.eq_nil_of_length_eq_zero hp;subst this;refine⟨.inl (), ?_,.inl ⟨rfl,by rw[h];simpa using ht⟩⟩;refine itR ?_;rfl
 |n+1,p,t,hp,h,ht=>by
  obtain⟨q,b,rfl⟩:∃q b,p=q++ [b]:=⟨p.dropLast,p.getLast (by intro e;subst e;cases hp),(List.dropLast_concat_getLast _).symm⟩;have hq:q.length=n:=by simpa using hp
  have hat:s[q.length]? =some b:=by rw[h];simp
  have hi:=(Ae.1 hat).1;have e1:((n+1:Nat):Int)-1=(q.length:Int):=by omega
  rw[e1];by_cases hb:b=10
  ·subst hb;refine⟨.inr (q.length:Int), ?_,.inr ⟨q,t,by rw[h];simp,ht,rfl⟩⟩;refine itR ?_;unfold HQ;dsimp only;rw[Al (by omega),if_pos rfl,Gs hat,bs];rfl
  ·obtain⟨r,h1,h2⟩:=Qp hs n q (b::t) hq (by rw[h];simp) (fun x hx=>by
    rcases List.mem_cons.1 hx with rfl|hx
    ·exact hb
    ·exact ht x hx)
   refine⟨r, ?_,h2⟩;rw[←h1]
   have e2:HQ (s,10,(q.length:Int),())=some (.inl (s,10,(n:Int)-1,())):=by
    unfold HQ;dsimp only
    have hbn:(((b.toNat:Nat):Int)==10)=false:=by
     rw[beq_eq_false_iff_ne];intro hh;exact hb (UInt8.toNat_inj.1 (by show b.toNat=10;omega))
    rw[Al (by omega),if_pos rfl,Gs hat,bs,hbn,if_neg (by decide),AR (by omega) (by omega),hq]
   exact itL e2
theorem Vr{s:List UInt8}(hs:s.length≤1000000000):∃A L,s=A++L∧(∀b∈L,b≠10)∧(A= []∨∃q,A=q++ [10])∧ID (s,10)=some ((A.length:Int)-1):=by
 obtain⟨q,h1,h2⟩:=Qp hs s.length s [] rfl (by simp) (by simp)
 have e:∀r,(match q with| .inl _=>some (-1)| .inr v=>some v)=some r→ID (s,10)=some r:=by
  intro r hr;unfold ID Mu;dsimp only;rw[AR (by omega) (by omega),h1,bs];have:∀(o:Option Int),o=some r→(o.bind fun x=>some x)=some r:=fun o ho=>by rw[ho,bs]
  refine this _ ?_;rw[←hr];cases q<;>rfl
 rcases h2 with⟨rfl,h3⟩|⟨A,L,h3,h4,rfl⟩
 ·exact⟨[],s,rfl,h3,.inl rfl,e _ rfl⟩
 ·refine⟨A++ [10],L,by rw[h3];simp,h4,.inr ⟨A,rfl⟩,e _ ?_⟩;simp
def IZ:List UInt8:= [99,104,101,99,107,32]
def EM(A:List UInt8):List UInt8:=IZ++Lib.decDigits (chk A)
def Whole(A:List UInt8):Prop:=A= []∨∃q,A=q++ [10]
theorem LV{b:UInt8}(h:dgt b=true):b≠10∧b≠32∧b≠99:=by
 rw[Dp]at h;refine⟨?_, ?_, ?_⟩<;>(intro e;subst e;revert h;decide)
theorem Jn{n:Nat}{b:UInt8}(h:b∈Lib.decDigits n):dgt b=true:=List.all_eq_true.1 (Pv n) b h
theorem T1(A:List UInt8):∀b∈EM A,b≠10:=by
 intro b hb;rcases List.mem_append.1 hb with h|h
 ·unfold IZ at h;intro e;subst e;revert h;decide
 ·exact(LV (Jn h)).1
theorem XY{A A' L L':List UInt8}(h:A++L=A'++L')(hA:Whole A)(hA':Whole A')(hL:∀b∈L,b≠10)(hL':∀b∈L',b≠10):A=A'∧L=L':=by
 have key:∀{A A' L L':List UInt8},A++L=A'++L'→Whole A'→(∀b∈L,b≠10)→A'.length≤A.length:=by
  intro A A' L L' h hA' hL;rcases hA' with rfl|⟨q,rfl⟩
  ·simp
  ·apply Nat.le_of_not_lt;intro hlt;have h1:(A++L)[q.length]? =some 10:=by rw[h];simp
   rw[List.getElem?_append_right (by simp at hlt;omega)]at h1;exact hL 10 (List.mem_of_getElem? h1) rfl
 have h1:=key h hA' hL;have h2:=key h.symm hA hL';exact List.append_inj h (by omega)
theorem X0{A L:List UInt8}(hs:(A++L++ [10]).length≤1000000)(hL:∀b∈L,b≠10)(hA:Whole A):Ir (A++L++ [10])=some (A,decide (L=EM A)):=by
 have hlen:(A++L++ [10]:List UInt8).length=A.length+L.length+1:=by simp;omega
 obtain⟨A',L',h1,h2,h3,h4⟩:=Vr (s:=A++L) (by simp at hs⊢;omega);obtain⟨e1,e2⟩:=XY h1 hA h3 hL h2;subst e1 e2;have e3:i64.wrap ((A.length:Int)-1+1)=(A.length:Int):=by rw[AR (by omega) (by omega)];omega
 unfold Ir;dsimp only;simp only[gPi,gSS,gPb,gPm,gPs,gM,gM2,Bm,gOr,Bn,Br,gAA,gAO,gOA,gOO,Bj,Bl,Bo,Bq,Bk,Bp,gId];simp only[Bx,By,Bz,B0,B1,B2,B3,B4,gId,Bw,gMb,gMm,gBm,gBb,bs,ms];have hsuf: [10]<:+(A++L++ [10]:List UInt8):=List.suffix_append _ _
 have htk:(A++L++ [10]:List UInt8).take ((A++L++ [10]:List UInt8).length-([10]:List UInt8).length)=A++L:=by
  rw[show(A++L++ [10]:List UInt8).length-([10]:List UInt8).length=(A++L).length by simp,List.take_left]
 rw[SI (by omega),if_pos hsuf,bs,htk];dsimp only;rw[h4,bs,e3,De (by simp) (Nat.le_refl _),bs,List.take_length,List.drop_left,SH (by omega),bs]
 have hA0:AJ (A++L++ [10]) 0 (A.length:Int)=some A:=by
  rw[show AJ (A++L++ [10]) 0 (A.length:Int)=AJ (A++L++ [10]) ((0:Nat):Int) (A.length:Int)from rfl,De (by omega) (by omega),List.drop_zero,List.append_assoc,List.take_left]
 rw[hA0];by_cases hp:([99,104,101,99,107,32]:List UInt8)<+:L
 ·obtain⟨D,rfl⟩:=hp;have hp':([99,104,101,99,107,32]:List UInt8)<+: [99,104,101,99,107,32]++D:=List.prefix_append _ _;rw[if_pos hp'];dsimp only;have hDl:D.length≤1000000:=by have:=hs;simp at this;omega
  rw[List.drop_left,Iv (by omega) (by omega),bs,bs,if_pos rfl,bs];have hc:A.length≤1000000000:=by omega
  simp only[bs];rw[OV hc]
  have key:decide (([99,104,101,99,107,32]++D:List UInt8)=EM A)=(Ch D 1000002&&(DP D==(chk A:Int))):=by
   rw[Bool.eq_iff_iff,decide_eq_true_eq,Af,beq_iff_eq];constructor
   ·intro h;have hD:D=Lib.decDigits (chk A):=List.append_cancel_left h;have hlt:=Ja A;have ht:Ch D 1000002=true:=by rw[hD];exact Lc (by omega)
    exact⟨ht,by rw[Hx (by omega) ht,hD,Fu]⟩
   ·rintro⟨h1,h2⟩
    rw[Hx (by omega) h1]at h2
    have h3:Cx D=true:=by
     simp only[Ch,Af]at h1;exact h1.1
    have h4:=Ub h3;show _=IZ++Lib.decDigits (chk A);rw[show chk A=AE 0 D by omega,h4];rfl
  rw[key]
  cases ht:Ch D 1000002 with
  |false=>rfl
  |true=>
   simp only[if_true,bs];have h1:=Hx (s:=D) (by omega) ht
   have h2:(AE 0 D:Int)≤1000002:=by
    simp only[Ch,Af,decide_eq_true_eq]at ht;exact ht.2
   rw[h1,AR (by omega) (by omega)];rfl
 ·rw[if_neg hp];dsimp only;rw[Iv (by rw[hlen]at hs;omega) (by omega),bs,bs,if_pos rfl,bs,if_neg (by decide),bs,if_neg (by decide),bs];have:decide (L=EM A)=false:=Ak fun h=>hp (by rw[h];exact List.prefix_append _ _);rw[this]
set_option linter.unusedSimpArgs false
set_option linter.unusedVariables false
noncomputable def cp(s:List UInt8):Int×Int:=(Em s).getD (0,3)
theorem Pk{s:List UInt8}(h:s.length≤1000000):Em s=some (cp s):=by
 unfold cp;rcases OQ h with⟨c,_,e⟩|⟨_,e⟩<;>rw[e]<;>rfl
theorem TQ{s:List UInt8}(h:s.length≤1000000):(∃c,IsC s c∧cp s=(c,0))∨((∀c,¬IsC s c)∧cp s=(0,3)):=by
 unfold cp;rcases OQ h with⟨c,h1,e⟩|⟨h1,e⟩
 ·exact .inl ⟨c,h1,by rw[e];rfl⟩
 ·exact .inr ⟨h1,by rw[e];rfl⟩
theorem TR{s:List UInt8}{c:Int}(h:s.length≤1000000)(hc:IsC s c)(hu:∀d,IsC s d→d=c):cp s=(c,0):=by
 rcases TQ h with⟨d,h1,e⟩|⟨h1,_⟩
 ·rw[e,hu d h1]
 ·exact absurd hc (h1 c)
def Gk:List UInt8:= [112,97,121]
abbrev Rdr:=Int×Int×Int×List Ordr
abbrev SS:=Int×Int×Int×List Ordr×Unit×Unit×Unit
def tOf(q:Rdr):SS:=(q.1,q.2.1,q.2.2.1,q.2.2.2,(),(),())
noncomputable def GN(b c d:List UInt8)(a:List UInt8):Bool:=Ch b 2147483647&&Ch c 2147483647&&((cp d).2==0)&&(a==Gk)
theorem Vb{a b c d:List UInt8}{q:Rdr}(ha:a.length≤1000000)(hb:b.length≤1000000)(hc:c.length≤1000000)(hd:d.length≤1000000):
  Kp ((),[a,b,c,d]) (tOf q)=some (GN b c d a,tOf (DP b,DP c,(cp d).1,q.2.2.2)):=by
 unfold Kp;dsimp only;simp only[gPi,gSS,gPb,gPm,gPs,gM,gM2,Bm,gOr,Bn,Br,gAA,gAO,gOA,gOO,Bj,Bl,Bo,Bq,Bk,Bp,gId];simp only[Bx,By,Bz,B0,B1,B2,B3,B4,gId,Bw,gMb,gMm,gBm,gBb,bs,ms];rw[show lAt [a,b,c,d] 1=some b from rfl,show lAt [a,b,c,d] 2=some c from rfl,show lAt [a,b,c,d] 3=some d from rfl];simp only[bs];rw[Iv (by omega) (by omega),bs,Iv (by omega) (by omega),bs,Pk hd,bs];unfold GN;simp only[show lAt [a,b,c,d] 0=some a from rfl,bs];cases Ch b 2147483647<;>cases Ch c 2147483647<;>cases ((cp d).2==0)<;>cases h:(a==Gk)<;>first|rfl|(unfold Gk at h;simp only[h];rfl)
noncomputable def Hf(a c:List UInt8):Bool:=Ch a 4294967295&&((cp c).2==0)
noncomputable def Ke(a b c d:List UInt8):Ordr:=(u32.wrap (DP a),b,(cp c).1,d)
theorem Wd{a b c d:List UInt8}{q:Rdr}(ha:a.length≤1000000)(hb:b.length≤1000000)(hc:c.length≤1000000)(hd:d.length≤1000000)(hq:q.2.2.2.length≤900000):
  Kq ((),[a,b,c,d]) (tOf q)=some (Hf a c,tOf (q.1,q.2.1,q.2.2.1,q.2.2.2++ [Ke a b c d])):=by
 unfold Kq;dsimp only;simp only[gPi,gSS,gPb,gPm,gPs,gM,gM2,Bm,gOr,Bn,Br,gAA,gAO,gOA,gOO,Bj,Bl,Bo,Bq,Bk,Bp,gId];simp only[Bx,By,Bz,B0,B1,B2,B3,B4,gId,Bw,gMb,gMm,gBm,gBb,bs,ms];rw[show lAt [a,b,c,d] 0=some a from rfl,show lAt [a,b,c,d] 1=some b from rfl,show lAt [a,b,c,d] 2=some c from rfl,show lAt [a,b,c,d] 3=some d from rfl];simp only[bs];rw[Iv (by omega) (by omega),bs,Pk hc,bs]
 have happ:∀{β:Type} (f:Option β),(if(((tOf q).2.2.2.1.length:Int)+(([(u32.wrap (DP a),b,(cp c).1,d)]:List Ordr).length:Int))*48≤140737488355328∧((tOf q).2.2.2.1.length:Int)+(([(u32.wrap (DP a),b,(cp c).1,d)]:List Ordr).length:Int)≤4611686018427387904 then f else none)=f:=fun f=>
  Lv (by show q.2.2.2.length+1≤_;omega) (by omega)
 dsimp only at happ⊢;rw[happ];unfold Hf;cases Ch a 4294967295<;>cases ((cp c).2==0)<;>rfl
noncomputable def Ez(first:Bool)(q:Rdr)(x:List UInt8):Option Rdr:=
 match D1 32 x with
 | [a,b,c,d]=>if a= []∨b= []∨c= []∨d= []then none else
  if first=true then(if GN b c d a=true then some (DP b,DP c,(cp d).1,q.2.2.2)else none)
  else if Hf a c=true then some (q.1,q.2.1,q.2.2.1,q.2.2.2++ [Ke a b c d])else none
 |_=>none
noncomputable def E0:Bool→Rdr→List (List UInt8)→Option Rdr
 |_,q,[]=>some q
 |first,q,x::l=>(Ez first q x).bind fun q'=>E0 false q' l
abbrev LS:=((Unit⊕Unit)×List (List UInt8)×Int×Int×Int×Int×Int×List Ordr×Unit×Unit×Unit×Unit)
def lst(f:Unit⊕Unit)(ls:List (List UInt8))(i:Nat)(q:Rdr):LS:=(f,ls,(ls.length:Int),(i:Int),q.1,q.2.1,q.2.2.1,q.2.2.2,(),(),(),())
theorem Vs{l:List (List UInt8)}(h:l.length=4):∃a b c d,l= [a,b,c,d]:=by
 match l,h with
 | [a,b,c,d],_=>exact⟨a,b,c,d,rfl⟩
theorem TL(a b c d:List UInt8):(([a,b,c,d]:List (List UInt8)).any fun y=>([]:List UInt8)==y)=decide (a= []∨b= []∨c= []∨d= []):=by
 cases a<;>cases b<;>cases c<;>cases d<;>rfl
theorem SF{l:List (List UInt8)}{x:List UInt8}(h:l.length≤1000000):KM (l,x)=some (l.any fun y=>x==y):=by
 unfold KM NG;dsimp only;have e:=DU (b:=KO) (A:=Nat) (T:=Unit⊕Int) (fun i a=>(l,x,(l.length:Int),(i:Int),())) (fun a y=>if(x==y)=true then Sum.inr (.inr (a:Int))else Sum.inl (a+1)) (fun _=>.inl ()) (fun i a=>a=i) l (a:=0) rfl ?_ ?_ ?_
 ·rw[show((0:Nat):Int)=0 from rfl]at e;rw[e]
  have key:∀(l:List (List UInt8)) (a:Nat),(∃j:Nat,A3 (T:=Unit⊕Int) (fun(a:Nat) y=>if(x==y)=true then Sum.inr (.inr (a:Int))else Sum.inl (a+1)) (fun _=>.inl ()) a l=.inr (j:Int)∧(l.any fun y=>x==y)=true)∨(A3 (T:=Unit⊕Int) (fun(a:Nat) y=>if(x==y)=true then Sum.inr (.inr (a:Int))else Sum.inl (a+1)) (fun _=>.inl ()) a l=.inl ()∧(l.any fun y=>x==y)=false):=by
   intro l
   induction l with
   |nil=>intro a;exact .inr ⟨rfl,rfl⟩
   |cons y l ih=>
    intro a;rw[A3,List.any_cons]
    cases hxy:x==y with
    |true=>exact .inl ⟨a,by simp,by simp⟩
    |false=>
     simp only[Ag,if_false,Bool.false_or];exact ih (a+1)
  rcases key l 0 with⟨j,h1,h2⟩|⟨h1,h2⟩
  ·rw[h1,h2,bs,bs,Al (show(j:Int)≥0 by omega)]
  ·rw[h1,h2,bs,bs];rfl
 ·rintro i y a hx rfl
  have hi:=(Ae.1 hx).1;have ws:=Cb (show a<9223372036854775807 by omega);unfold KO;dsimp only;simp only[gPi,gSS,gPb,gPm,gPs,gM,gM2,Bm,gOr,Bn,Br,gAA,gAO,gOA,gOO,Bj,Bl,Bo,Bq,Bk,Bp,gId];simp only[CC hx,if_true,Ct hx,bs,ws];cases x==y<;>rfl
 ·rintro i y a a' hx rfl hst
  split at hst
  ·cases hst
  ·cases hst;rfl
 ·rintro a _
  unfold KO;dsimp only;simp only[CP,Ag,if_false]
theorem V1{ls:List (List UInt8)}{i:Nat}{x:List UInt8}{q:Rdr}{f:Unit⊕Unit}{first:Bool}(hf:f=if first=true then .inl ()else .inr ())(hx:ls[i]? =some x)(hl:x.length≤900000)(hn:ls.length≤1000000)(hq:q.2.2.2.length≤900000):
  (∃q',Ez first q x=some q'∧Gl (lst f ls i q)=some (.inl (lst (.inr ()) ls (i+1) q')))∨(Ez first q x=none∧∃g,Gl (lst f ls i q)=some (.inr (.inr (false,g)))):=by
 have hi:=(Ae.1 hx).1;have hw:=KU 32 x [] (by simp);unfold Ez;unfold Gl lst;dsimp only;simp only[gPi,gSS,gPb,gPm,gPs,gM,gM2,Bm,gOr,Bn,Br,gAA,gAO,gOA,gOO,Bj,Bl,Bo,Bq,Bk,Bp,gId];simp only[Bx,By,Bz,B0,B1,B2,B3,B4,gId,Bw,gMb,gMm,gBm,gBb,bs,ms];rw[CC hx,if_pos rfl,Ct hx,bs,O2 hl,bs];by_cases h4:(D1 32 x).length=4
 ·obtain⟨a,b,c,d,hs⟩:=Vs h4
  have hlen:∀w∈ [a,b,c,d],w.length≤1000000:=by
   intro w hm;have:=(hw w (by show w∈D1 32 x;rw[hs];exact hm)).2.1;simp at this;omega
  have ha:=hlen a (by simp);have hb:=hlen b (by simp);have hc:=hlen c (by simp);have hd:=hlen d (by simp);rw[hs];simp only[show(([a,b,c,d]:List (List UInt8)).length:Int)=4 from rfl,show((4:Int) !=4)=false from rfl,Ag,if_false];rw[SF (by simp),TL,bs];by_cases he:a= []∨b= []∨c= []∨d= []
  ·right;rw[Al he,if_pos he];refine⟨rfl, ?_⟩;exact⟨_,rfl⟩
  ·rw[Ak he,if_neg he];simp only[if_true]
   cases first with
   |true=>
    rw[if_pos rfl]at hf;subst hf;dsimp only;have e:=Vb (q:=q) ha hb hc hd;unfold tOf at e;unfold Nn;dsimp only;rw[e,ms,bs]
    cases hh:GN b c d a with
    |true=>
     left;refine⟨_,rfl, ?_⟩;simp only[bs,ms];rw[Cb (by omega)];rfl
    |false=>
     right;refine⟨rfl, ?_⟩;simp only[bs,ms];exact⟨_,rfl⟩
   |false=>
    rw[if_neg (by decide)]at hf;subst hf;dsimp only;have e:=Wd (q:=q) ha hb hc hd hq;unfold tOf at e;unfold Np;dsimp only;rw[e,ms,bs]
    cases hh:Hf a c with
    |true=>
     left;refine⟨_,rfl, ?_⟩;simp only[bs,ms];rw[Cb (by omega)];rfl
    |false=>
     right;refine⟨rfl, ?_⟩;simp only[bs,ms];exact⟨_,rfl⟩
 ·right;refine⟨?_, ?_⟩
  ·split
   ·rename_i hs;rw[hs]at h4;exact absurd rfl h4
   ·rfl
  ·have:(((D1 32 x).length:Int) !=4)=true:=by
    rw[bne_iff_ne];omega
   rw[this];simp only[if_true,bs];exact⟨_,rfl⟩
theorem Vw{first:Bool}{q q':Rdr}{x:List UInt8}(h:Ez first q x=some q'):q'.2.2.2.length≤q.2.2.2.length+1:=by
 unfold Ez at h;split at h<;>(try cases h;done)
 repeat' (split at h)
 all_goals first|(cases h;done)|(cases h;simp)
theorem Qv{ls:List (List UInt8)}(hn:ls.length≤800000)(hls:∀x∈ls,x.length≤900000):∀(t:List (List UInt8)) (i:Nat) (q:Rdr) (f:Unit⊕Unit) (first:Bool),ls.drop i=t→i≤ls.length→f=(if first=true then .inl ()else .inr ())→q.2.2.2.length≤i→
  ∃r,iter Gl (lst f ls i q)=some r∧((∃q',E0 first q t=some q'∧r=.inl (tOf q'))∨(E0 first q t=none∧∃g,r=.inr (false,g)))
 | [],i,q,f,first,hd,hi,hf,hq=>by
  have:i=ls.length:=by
   have:=congrArg List.length hd;simp at this;omega
  subst this;refine⟨_,itR (t:=.inl (tOf q)) ?_,.inl ⟨q,rfl,rfl⟩⟩;unfold Gl lst;dsimp only;rw[CP,if_neg (by decide)];rfl
 |x::t,i,q,f,first,hd,hi,hf,hq=>by
  have hx:ls[i]? =some x:=by
   have:=congrArg (fun q=>q[0]?) hd;simpa using this
  have hlt:i<ls.length:=(Ae.1 hx).1;rcases V1 (q:=q) hf hx (hls x (List.mem_of_getElem? hx)) (by omega) (by omega)with⟨q',h1,h2⟩|⟨h1,g,h2⟩
  ·have hl':=Vw h1;obtain⟨r,h3,h4⟩:=Qv hn hls t (i+1) q' (.inr ()) false (by rw[←List.tail_drop,hd];rfl) hlt rfl (by omega);refine⟨r,(itL h2).trans h3, ?_⟩;unfold E0;rw[h1,bs];exact h4
  ·refine⟨_,itR h2,.inr ⟨?_,g,rfl⟩⟩;unfold E0;rw[h1];rfl
def E6:Rdr:=(0,0,0,[])
noncomputable def IQ(T:List UInt8):Option Rdr:=E0 true E6 (D1 10 T)
theorem V0{T:List UInt8}(hT:T.length≤700000):(∃q,IQ T=some q∧Hj ((),T++ [10]) (tOf E6)=some (true,tOf q))∨(IQ T=none∧∃g,Hj ((),T++ [10]) (tOf E6)=some (false,g)):=by
 have hs: [10]<:+(T++ [10]:List UInt8):=List.suffix_append _ _;have hw:=KU 10 T [] (by simp)
 have hn:(D1 10 T).length≤800000:=by
  show(BT 10 [] T).length≤_;rw[NJ];have:=List.count_le_length (a:=(10:UInt8)) (l:=T);omega
 obtain⟨r,h1,h2⟩:=Qv hn (fun x hx=>by have:=(hw x hx).2.1;simp at this;omega) (D1 10 T) 0 E6 (.inl ()) true rfl (by omega) rfl (by simp[E6]);unfold Hj;dsimp only;rw[WN (by simp;omega),bs,Al hs,if_neg (by decide),SY (by simp;omega),if_pos hs,bs];rw[show(T++ [10]:List UInt8).length-([10]:List UInt8).length=T.length by simp,List.take_left,O2 (by omega),bs];have h1':iter Gl (Sum.inl (),D1 10 T,((D1 10 T).length:Int),0,(tOf E6).1,(tOf E6).2.1,(tOf E6).2.2.1,(tOf E6).2.2.2.1,(),(),(),())=some r:=h1;rw[h1',bs];rcases h2 with⟨q',h3,rfl⟩|⟨h3,g,rfl⟩
 ·exact .inl ⟨q',h3,rfl⟩
 ·exact .inr ⟨h3,g,rfl⟩
set_option linter.unusedSimpArgs false
set_option linter.unusedVariables false
def BX(c:UInt8):List (List UInt8)→List UInt8
 | []=> []
 | [a]=>a
 |a::b::r=>a++c::BX c (b::r)
theorem NK(c:UInt8):∀(l:List (List UInt8)),l≠ []→(∀x∈l,∀b∈x,b≠c)→D1 c (BX c l)=l
 | [],h,_=>absurd rfl h
 | [a],_,h=>by
  show BT c [] a= [a];rw[Sm c a [] (h a (by simp))];rfl
 |a::b::r,_,h=>by
  show BT c [] (a++c::BX c (b::r))=_;rw[Sk c a _ [] (h a (by simp))];have:=NK c (b::r) (by simp) (fun x hx=>h x (by simp[List.mem_cons.1 hx]));show([]++a)::D1 c (BX c (b::r))=_;rw[this];rfl
def B5(L:List (List UInt8)):List UInt8:=L.flatMap fun x=>x++ [10]
theorem JE(x:List UInt8)(L:List (List UInt8)):B5 (x::L)=x++10::B5 L:=by simp[B5]
theorem MC:∀(L:List (List UInt8)),L≠ []→B5 L=BX 10 L++ [10]
 | [],h=>absurd rfl h
 | [a],_=>by simp[B5,BX]
 |a::b::r,_=>by
  rw[JE,MC (b::r) (by simp)];show _=a++10::BX 10 (b::r)++ [10];simp
theorem Vz(L:List (List UInt8)):Whole (B5 L):=by
 cases L with
 |nil=>exact .inl rfl
 |cons x L=>exact .inr ⟨_,MC (x::L) (by simp)⟩
def D7(s:List UInt8):Prop:=s≠ []∧∀b∈s,b≠10∧b≠32
theorem Jm{b:UInt8}(h:dgt b=true):b≠10∧b≠32:=⟨(LV h).1,(LV h).2.1⟩
theorem Hz(n:Nat):D7 (Lib.decDigits n):=⟨HE n,fun b hb=>Jm (Jn hb)⟩
theorem Xz(c:Int):∀b∈Co c,b≠10∧b≠32:=by
 intro b hb;obtain⟨W,x,y,h1,h2,h3,h4,_⟩:=NQ c.natAbs;unfold Co at hb;rw[h1]at hb;rcases List.mem_append.1 hb with hb|hb
 ·split at hb
  ·rw[List.mem_singleton.1 hb];decide
  ·cases hb
 ·rcases List.mem_append.1 hb with hb|hb
  ·exact Jm (List.all_eq_true.1 (L9 h2) b hb)
  ·simp only[List.mem_cons,List.not_mem_nil,or_false]at hb;rcases hb with rfl|rfl|rfl
   ·decide
   ·exact Jm h3
   ·exact Jm h4
theorem Xy(c:Int):Co c≠ []:=by
 obtain⟨W,x,y,h1,_⟩:=NQ c.natAbs;unfold Co;rw[h1];simp
theorem Ln(c:Int):D7 (Co c):=⟨Xy c,Xz c⟩
theorem VV{b:UInt8}(h:okb b=true):b≠10∧b≠32:=by
 constructor<;>(rintro rfl;revert h;decide)
theorem Lo{s:List UInt8}(h:BJ s=true):D7 s:=by
 unfold BJ at h;simp only[Af,Bool.not_eq_true',beq_eq_false_iff_ne]at h;exact⟨h.1.1.2,fun b hb=>VV (List.all_eq_true.1 h.1.1.1 b hb)⟩
theorem JO{s:List UInt8}(h:BJ s=true):s.length≤32:=by
 unfold BJ at h;simp only[Af,decide_eq_true_eq]at h;omega
theorem NW:D7 Gk:=⟨by decide,by decide⟩
theorem NP{c:Int}(h:c.natAbs≤Ba):(Co c).length≤18:=by
 have h1:(Lib.decDigits (c.natAbs/100)).length≤14:=Es (by omega) (by unfold Ba at h;omega);unfold Co Ld;simp only[List.length_append,List.length_cons,List.length_nil];split<;>simp<;>omega
def ws4(a b c d:List UInt8):List UInt8:=BX 32 [a,b,c,d]
theorem SD{a b c d:List UInt8}(ha:D7 a)(hb:D7 b)(hc:D7 c)(hd:D7 d):∀x∈ws4 a b c d,x≠10:=by
 intro x hx;unfold ws4 BX BX BX BX at hx;simp only[List.mem_append,List.mem_cons]at hx;rcases hx with h|rfl|h|rfl|h|rfl|h
 ·exact(ha.2 x h).1
 ·decide
 ·exact(hb.2 x h).1
 ·decide
 ·exact(hc.2 x h).1
 ·decide
 ·exact(hd.2 x h).1
theorem SE{a b c d:List UInt8}(ha:D7 a)(hb:D7 b)(hc:D7 c)(hd:D7 d):D1 32 (ws4 a b c d)= [a,b,c,d]:=
 NK 32 [a,b,c,d] (by simp) (by
  intro x hx b hb';simp only[List.mem_cons,List.not_mem_nil,or_false]at hx;rcases hx with rfl|rfl|rfl|rfl
  ·exact(ha.2 b hb').2
  ·exact(hb.2 b hb').2
  ·exact(hc.2 b hb').2
  ·exact(hd.2 b hb').2)
theorem SC(a b c d:List UInt8):(ws4 a b c d).length=a.length+b.length+c.length+d.length+3:=by
 unfold ws4 BX BX BX BX;simp;omega
def Fz(n k:Nat)(v:Int):List UInt8:=ws4 Gk (Lib.decDigits n) (Lib.decDigits k) (Co v)
def Du(o:Ordr):List UInt8:=ws4 (Lib.decDigits o.1.toNat) o.2.1 (Co o.2.2.1) o.2.2.2
def BV(n:Int)(l:List Ordr):List (List UInt8):=Fz n.toNat l.length (BK l)::l.map Du
def EP(n:Int)(l:List Ordr):List UInt8:=B5 (BV n l)++EM (B5 (BV n l))++ [10]
def Ej(o:Ordr):Prop:=0≤o.1∧o.1≤4294967295
theorem Mq{c:Int}(h:inC c=true):c.natAbs≤Ba:=by
 simp only[inC,Af,decide_eq_true_eq]at h;unfold Ba;omega
theorem Jw{c:Int}(h:AA c=true):c.natAbs≤Ba:=by
 simp only[AA,Af,decide_eq_true_eq]at h;unfold Ba;omega
theorem Ji{c:Int}(h:c.natAbs≤Ba):cp (Co c)=(c,0):=
 TR (by have:=NP h;omega) ⟨h,rfl⟩ fun d hd=>Vi hd ⟨h,rfl⟩
theorem Vx{o:Ordr}{q:Rdr}(h:OkO o)(hp:Ej o):Ez false q (Du o)=some (q.1,q.2.1,q.2.2.1,q.2.2.2++ [o]):=by
 obtain⟨h1,h2,h3,h4⟩:=h;have w1:=Hz o.1.toNat
 have w2:=Lo h2;have w3:=Ln o.2.2.1;have w4:=Lo h4;have hm:=Mq h3;unfold Ez Du;rw[SE w1 w2 w3 w4];simp only
 rw[if_neg (by
  rintro(h|h|h|h)
  ·exact w1.1 h
  ·exact w2.1 h
  ·exact w3.1 h
  ·exact w4.1 h),if_neg (by decide)]
 have ht:Ch (Lib.decDigits o.1.toNat) 4294967295=true:=Lc (by have:=hp.2;have:=hp.1;omega)
 have hb:Hf (Lib.decDigits o.1.toNat) (Co o.2.2.1)=true:=by
  unfold Hf;rw[ht,Ji hm];rfl
 rw[if_pos hb]
 have ho:Ke (Lib.decDigits o.1.toNat) o.2.1 (Co o.2.2.1) o.2.2.2=o:=by
  unfold Ke;rw[Hx (by omega) ht,Ji hm,Fu,IntKind.wrap_u32];have:=hp.1;have:=hp.2;have e:((o.1.toNat:Int))% 4294967296=o.1:=by omega
  rw[e]
 rw[ho]
theorem Qs:∀(l:List Ordr) (q:Rdr),(∀o∈l,OkO o∧Ej o)→E0 false q (l.map Du)=some (q.1,q.2.1,q.2.2.1,q.2.2.2++l)
 | [],q,_=>by simp[E0]
 |o::l,q,h=>by
  rw[List.map_cons,E0,Vx (h o (by simp)).1 (h o (by simp)).2,bs,Qs l _ (fun x hx=>h x (by simp[hx]))];simp
theorem Vc{n k:Nat}{v:Int}(hn:n≤2147483647)(hk:k≤2147483647)(hv:v.natAbs≤Ba):Ez true E6 (Fz n k v)=some ((n:Int),(k:Int),v,[]):=by
 have w2:=Hz n;have w3:=Hz k;have w4:=Ln v;unfold Ez Fz;rw[SE NW w2 w3 w4];simp only
 rw[if_neg (by
  rintro(h|h|h|h)
  ·exact NW.1 h
  ·exact w2.1 h
  ·exact w3.1 h
  ·exact w4.1 h)]
 simp only[if_true];have t1:Ch (Lib.decDigits n) 2147483647=true:=Lc (by omega);have t2:Ch (Lib.decDigits k) 2147483647=true:=Lc (by omega)
 have hb:GN (Lib.decDigits n) (Lib.decDigits k) (Co v) Gk=true:=by
  unfold GN;rw[t1,t2,Ji hv];rfl
 rw[if_pos hb,Hx (by omega) t1,Hx (by omega) t2,Fu,Fu,Ji hv];rfl
theorem Tl{n:Int}{l:List Ordr}(h:Fj n l)(hp:∀o∈l,Ej o):∃T,B5 (BV n l)=T++ [10]∧IQ T=some (n,(l.length:Int),BK l,l):=by
 obtain⟨h1,h2,h3,h4,h5⟩:=h;refine⟨BX 10 (BV n l),MC _ (by simp[BV]), ?_⟩
 have hno:∀x∈BV n l,∀b∈x,b≠10:=by
  intro x hx b hb;rcases List.mem_cons.1 hx with rfl|hx
  ·exact SD NW (Hz _) (Hz _) (Ln _) b hb
  ·obtain⟨o,ho,rfl⟩:=List.mem_map.1 hx;obtain⟨k1,k2,k3,k4⟩:=h3 o ho;exact SD (Hz _) (Lo k2) (Ln _) (Lo k4) b hb
 unfold IQ;rw[NK 10 _ (by simp[BV]) hno];unfold BV E0;rw[Vc (by omega) (by omega) (Jw h5),bs,Qs l _ (fun o ho=>⟨h3 o ho,hp o ho⟩)];simp only[List.nil_append];rw[show((n.toNat:Nat):Int)=n by omega]
set_option linter.unusedSimpArgs false
set_option linter.unusedVariables false
theorem GQ{n:Int}(h:0≤n):Lib.itoa n=Lib.decDigits n.toNat:=by unfold Lib.itoa;rw[if_neg (by omega)]
theorem Qf(a b c d:List UInt8):Lib.join [a,b,c,d] [32]=ws4 a b c d:=by
 unfold Lib.join ws4 BX BX BX BX;simp[List.intercalate]
theorem Vj(a b:List UInt8):Lib.join [a,b] [32]=a++32::b:=by
 unfold Lib.join;simp[List.intercalate]
theorem Nt{ws:List (List UInt8)}{x buf:List UInt8}(hj:Lib.join ws [32]=x)(hx:x.length≤1000000)(hw:ws.length≤1000)(hb:buf.length≤1000000):
  Hi ((),ws) (buf,(),(),(),())=some ((),(buf++(x++ [10]),(),(),(),())):=by
 unfold Hi;dsimp only;unfold strings_Join;dsimp only;rw[hj,if_pos ⟨by omega,by omega⟩,bs,if_pos (by simp;omega),bs];unfold strings_Builder_WriteString;dsimp only;rw[if_pos (by simp;omega),bs]
theorem Pm{c:Int}(h:c.natAbs≤Ba):EL c=some (Co c):=by
 rw[OR (by unfold Ba at h;omega),if_pos h]
theorem MA{o:Ordr}(h:OkO o)(hp:Ej o):(Du o).length≤95:=by
 obtain⟨h1,h2,h3,h4⟩:=h;have l1:(Lib.decDigits o.1.toNat).length≤10:=Es (by omega) (by have:=hp.1;have:=hp.2;omega);have l2:=JO h2;have l3:=NP (Mq h3);have l4:=JO h4;unfold Du;rw[SC];omega
theorem Qa{n k:Nat}{v:Int}(hn:n≤2147483647)(hk:k≤2147483647)(hv:v.natAbs≤Ba):(Fz n k v).length≤44:=by
 have l1:(Lib.decDigits n).length≤10:=Es (by omega) (by omega);have l2:(Lib.decDigits k).length≤10:=Es (by omega) (by omega);have l3:=NP hv;unfold Fz;rw[SC];have:Gk.length=3:=rfl;omega
theorem Qu:∀{l:List Ordr},(∀o∈l,OkO o∧Ej o)→(B5 (l.map Du)).length≤96*l.length
 | [],_=>by simp[B5]
 |o::l,h=>by
  have ih:=Qu (l:=l) fun x hx=>h x (by simp[hx]);have:=MA (h o (by simp)).1 (h o (by simp)).2;rw[List.map_cons,JE];simp;omega
theorem U8{l:List Ordr}(h:∀o∈l,OkO o∧Ej o)(hl:l.length≤256){buf:List UInt8}(hb:buf.length≤100):
  iter In (l,(l.length:Int),0,buf,(),(),(),(),())=some (buf++B5 (l.map Du),(),(),(),(),()):=by
 have e:=DU (b:=In) (A:=List UInt8) (T:=List UInt8×Unit×Unit×Unit×Unit×Unit) (fun i buf=>(l,(l.length:Int),(i:Int),buf,(),(),(),(),())) (fun buf o=>Sum.inl (buf++(Du o++ [10]))) (fun buf=>(buf,(),(),(),(),())) (fun i buf=>buf.length≤100+96*i) l (a:=buf) (by omega) ?_ ?_ ?_
 ·rw[show((0:Nat):Int)=0 from rfl]at e;rw[e,Jx (fun o=>Du o++ [10])]
  congr 2
  simp[B5,List.flatMap_map]
 ·intro i o b ho hbl;have hi:=(Ae.1 ho).1;obtain⟨hok,hp⟩:=h o (List.mem_of_getElem? ho);have hll:=MA hok hp;unfold In;dsimp only;have hp1:=hp.1;have hp2:=hp.2;rw[CC ho,if_pos rfl,Ct ho,ms,bs];have e1:u64.wrap o.1=o.1:=by rw[IntKind.wrap_u64];omega
  rw[e1];unfold FG;dsimp only;rw[if_pos ⟨rfl,by omega,by omega⟩,bs,GQ hp1,Pm (Mq hok.2.2.1),bs];rw[Nt (x:=Du o) (Qf _ _ _ _) (by omega) (by simp) (by omega),bs,Cb (by omega)];rfl
 ·intro i o b b' ho hbl hs;cases hs;obtain⟨hok,hp⟩:=h o (List.mem_of_getElem? ho);have hll:=MA hok hp;simp;omega
 ·intro b hbl;unfold In;dsimp only;rw[CP,if_neg (by decide)]
theorem Rs{n:Int}{l:List Ordr}(h:Fj n l):∀o∈l,o.2.1.length≤1000000∧o.2.2.2.length≤1000000:=fun o ho=>by
 obtain⟨_,k2,_,k4⟩:=h.2.2.1 o ho;have:=JO k2;have:=JO k4;omega
theorem OU(A:List UInt8):(EM A).length≤13:=by
 have:(Lib.decDigits (chk A)).length≤7:=Es (by omega) (by have:=Ja A;omega);unfold EM IZ;simp;omega
theorem PI{n:Int}{l:List Ordr}(h:Fj n l)(hp:∀o∈l,Ej o):(B5 (BV n l)).length≤45+96*l.length∧(EP n l).length≤60+96*l.length:=by
 obtain⟨h1,h2,h3,h4,h5⟩:=h;have a1:=Qa (n:=n.toNat) (k:=l.length) (v:=BK l) (by omega) (by omega) (Jw h5);have a2:=Qu (l:=l) fun o ho=>⟨h3 o ho,hp o ho⟩;have a3:=OU (B5 (BV n l))
 have a4:(B5 (BV n l)).length=(Fz n.toNat l.length (BK l)).length+1+(B5 (l.map Du)).length:=by
  unfold BV;rw[JE];simp;omega
 unfold EP;simp only[List.length_append,List.length_cons,List.length_nil];omega
theorem SJ{n:Int}{l:List Ordr}(h:Fj n l)(hp:∀o∈l,Ej o):Ki (n,l)=some (EP n l,0):=by
 have h':=h;have hlen:=(PI h hp).1;obtain⟨h1,h2,h3,h4,h5⟩:=h;have hw:=SA.2 h'
 have hct:∀o∈l,-1125899906842624≤o.2.2.1∧o.2.2.1≤1125899906842624:=fun o ho=>by
  have:=(h3 o ho).2.2.1;simp only[inC,Af,decide_eq_true_eq]at this;omega
 have a1:=Qa (n:=n.toNat) (k:=l.length) (v:=BK l) (by omega) (by omega) (Jw h5);unfold Ki Rc;dsimp only;rw[SB (Rs h'),bs,hw,if_neg (by decide),Le (by omega) hct,bs];unfold strconv_Itoa;rw[if_pos ⟨by omega,by omega⟩,bs,if_pos ⟨by omega,by omega⟩,bs,GQ (by omega),GQ (by omega)];dsimp only;rw[Pm (Jw h5),bs];rw[Nt (x:=Fz n.toNat l.length (BK l)) (by rw[Qf];rfl) (by omega) (by simp) (by simp),bs];dsimp only;rw[U8 (fun o ho=>⟨h3 o ho,hp o ho⟩) h2 (by simp;omega),bs]
 have hbody: []++(Fz n.toNat l.length (BK l)++ [10])++B5 (l.map Du)=B5 (BV n l):=by
  unfold BV;rw[JE];simp
 rw[hbody];unfold strings_Builder_String;simp only[bs];rw[OV (by omega),bs,if_pos ⟨by have:=Ja (B5 (BV n l));omega,by have:=Ja (B5 (BV n l));omega⟩,bs,GQ (by omega)];have hc:=OU (B5 (BV n l));rw[Nt (x:=EM (B5 (BV n l))) (by rw[Vj];rfl) (by omega) (by simp) (by omega),bs];dsimp only;rw[ms];simp[EP]
theorem SP{n:Int}{l:List Ordr}(h:Fj n l)(hp:∀o∈l,Ej o):Kl (EP n l)=some (n,l,0):=by
 obtain⟨hl1,hl2⟩:=PI h hp;obtain⟨T,hT,hF⟩:=Tl h hp;have h':=h;obtain⟨h1,h2,h3,h4,h5⟩:=h
 have hct:∀o∈l,-1125899906842624≤o.2.2.1∧o.2.2.1≤1125899906842624:=fun o ho=>by
  have:=(h3 o ho).2.2.1;simp only[inC,Af,decide_eq_true_eq]at this;omega
 have hTl:T.length≤700000:=by
  have:=congrArg List.length hT;simp at this;omega
 have ht:Ir (EP n l)=some (B5 (BV n l),true):=by
  have:=X0 (A:=B5 (BV n l)) (L:=EM (B5 (BV n l))) (by show(EP n l).length≤_;omega) (T1 _) (Vz _);rw[Al rfl]at this;exact this
 have hne:(EP n l==([]:List UInt8))=false:=by
  rw[beq_eq_false_iff_ne];unfold EP;simp
 unfold Kl Rd;dsimp only;rw[hne,if_neg (by decide),ht,bs];simp only[Bool.not_true,Ag,if_false];rw[hT];rcases V0 hTl with⟨q,e1,e2⟩|⟨e1,_⟩
 ·rw[hF]at e1;cases e1;have e2':Hj ((),T++ [10]) (0,0,0,[],(),(),())=some (true,n,(l.length:Int),BK l,l,(),(),()):=e2;rw[e2',bs];simp only[Bool.not_true,Ag,if_false];rw[Le (by omega) hct,bs];have e3:u64.wrap (l.length:Int)=(l.length:Int):=XZ (by omega);rw[e3,bne_self_eq_false];simp only[if_true,bs,ms,h5,bne_self_eq_false,Ag,if_false];rw[AR (by omega) (by omega),SB (Rs h'),bs,SA.2 h'];rfl
 ·rw[hF]at e1;cases e1
end WB
