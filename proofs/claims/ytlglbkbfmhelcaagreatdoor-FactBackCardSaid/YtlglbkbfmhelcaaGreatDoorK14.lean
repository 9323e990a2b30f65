/-
  OWN TEXTS, MERGED (wip/merge.py): Pft, Pfu, Pfv, Pfy. No condition of their own.
-/
import Derived.Test.YtlglbkbfmhelcaaGreatDoorK13
import Derived.Test.YtlglbkbfmhelcaaGreatDoorK12
set_option linter.unusedVariables false
set_option linter.unusedSimpArgs false
open Go.IntKind (i64 u64 u8 u32)
namespace WB
open Go Go.RowKit
set_option linter.unusedSimpArgs false
set_option linter.unusedVariables false
set_option maxHeartbeats 1000000
theorem ME:∀(s cur:List UInt8),Lib.join (BR 32 cur s) [32]=cur++s
 | [],cur=>by
  show Lib.join [cur] [32]=_;rw[Lib.join_one,List.append_nil]
 |b::t,cur=>by
  rw[NQ];split
  ·rename_i h;have ih:=ME t []
   cases hU:BR 32 [] t with
   |nil=>exact absurd hU (Lt 32 t [])
   |cons a r=>
    rw[hU]at ih;rw[ID,ih,h];rfl
  ·rw[ME t (cur++ [b])];simp
theorem NP:∀(s cur:List UInt8) (k:Nat),AW 32 k cur s=(BR 32 cur s).take k++(if k<(BR 32 cur s).length then [Lib.join ((BR 32 cur s).drop k) [32]]else [])
 | [],cur,0=>by
  show [cur]=List.take 0 [cur]++(if 0< [cur].length then [Lib.join (List.drop 0 [cur]) [32]]else []);rw[if_pos (by simp),List.drop_zero,Lib.join_one];rfl
 | [],cur,k+1=>by
  show [cur]=List.take (k+1) [cur]++(if k+1< [cur].length then [Lib.join (List.drop (k+1) [cur]) [32]]else []);rw[if_neg (by simp)];simp
 |b::t,cur,0=>by
  have hne:0<(BR 32 cur (b::t)).length:=List.length_pos_iff.2 (Lt _ _ _);rw[if_pos hne,List.drop_zero,ME];rfl
 |b::t,cur,k+1=>by
  rw[HM,NQ];split
  ·rw[NP t [] k,List.take_succ_cons,List.drop_succ_cons];simp only[List.length_cons,Nat.add_lt_add_iff_right,List.cons_append]
  ·exact NP t (cur++ [b]) (k+1)
set_option linter.unusedSimpArgs false
set_option linter.unusedVariables false
set_option maxHeartbeats 2000000
set_option linter.unusedSimpArgs false
set_option linter.unusedVariables false
set_option maxHeartbeats 2000000
set_option linter.unusedSimpArgs false
set_option linter.unusedVariables false
set_option maxHeartbeats 2000000
theorem MC{m n:Int}(h:Lib.itoa m=Lib.itoa n):m=n:=by
 by_cases h1:m<0
 ·by_cases h2:n<0
  ·rw[G4 h1,G4 h2]at h;have:=PM (List.cons.inj h).2;omega
  ·rw[G4 h1,E9 (by omega)]at h;exact absurd (show(Lib.decDigits n.natAbs).head? =some 45 by rw[←h];rfl) (I6 _)
 ·by_cases h2:n<0
  ·rw[G4 h2,E9 (by omega)]at h;exact absurd (show(Lib.decDigits m.natAbs).head? =some 45 by rw[h];rfl) (I6 _)
  ·rw[E9 (by omega),E9 (by omega)]at h;have:=PM h;omega
theorem Wq{a b:Int}(ha:1≤a∧a≤18)(hb:1≤b∧b≤18)(h:Cp a=Cp b):a=b:=by
 obtain⟨i,rfl⟩:=Int.eq_ofNat_of_zero_le (show 0≤a by omega);obtain⟨j,rfl⟩:=Int.eq_ofNat_of_zero_le (show 0≤b by omega);have:=QA i (by omega) j (by omega) h (by omega);omega
theorem IsU.uniq{w:List UInt8}{a b:Int}(h:IsU w a)(k:IsU w b):a=b:=by
 rcases h with⟨h1,h2⟩|⟨h1,h2⟩|⟨h1,h2⟩<;>rcases k with⟨k1,k2⟩|⟨k1,k2⟩|⟨k1,k2⟩
 ·omega
 ·rw[h2]at k2;cases k2
 ·have:=k1.len;rw[h2]at this;cases this
 ·rw[h2]at k2;cases k2
 ·omega
 ·have:=k1.len;rw[h2]at this;cases this
 ·have:=h1.len;rw[k2]at this;cases this
 ·have:=h1.len;rw[k2]at this;cases this
 ·exact h1.uniq k1
theorem Uw{a b:List UInt8}(ha:a≠ [45])(hb:b≠ [45])(h:C3 a=C3 b):a=b:=by
 unfold C3 at h;split at h<;>split at h
 ·rename_i h1 h2;rw[h1,h2]
 ·exact absurd h.symm hb
 ·exact absurd h ha
 ·exact h
theorem Do.uniq{L:List (List UInt8)}{x y:Fct}(h:Do L x)(k:Do L y):x=y:=by
 obtain⟨t,u,h1,h2,h3⟩:=h.w;obtain⟨t',u',k1,k2,k3⟩:=k.w;rw[h3,I4,I4]at k3;unfold CI at k3;simp only[List.cons_append,List.cons.injEq,List.nil_append]at k3;obtain⟨e0,e1,e2,e3,e4,e5,e6,e7⟩:=k3;subst e3 e4;obtain⟨a,b,c,d,e,f,g,i⟩:=x;obtain⟨a',b',c',d',e',f',g',i'⟩:=y;have q0:=Wq h.k k.k e0;have q1:=MC e1;have q2:=MC e2;have q3:=h1.uniq k1;have q4:=h2.uniq k2;have q5:=Uw h.cd k.cd e5;have q6:=MC e6
 have q7:i=i':=by
  dsimp only at e7;split at e7<;>split at e7
  ·rename_i r1 r2;rw[r1,r2]
  ·cases e7
  ·cases e7
  ·exact(List.cons.inj e7).1
 dsimp only at q0 q1 q2 q3 q4 q5 q6;rw[q0,q1,q2,q3,q4,q5,q6,q7]
theorem MD:∀(s cur:List UInt8) (k:Nat),Lib.join (AW 32 k cur s) [32]=cur++s
 | [],cur,k=>by
  have:AW 32 k cur []= [cur]:=by cases k<;>rfl
  rw[this,Lib.join_one,List.append_nil]
 |b::t,cur,0=>Lib.join_one _ _
 |b::t,cur,k+1=>by
  rw[HM];split
  ·rename_i h;have ih:=MD t [] k
   cases hU:AW 32 k [] t with
   |nil=>
    have:AW 32 k [] t≠ []:=by
     rw[NP];intro e;have hne:=Lt 32 t []
     cases hs:BR 32 [] t with
     |nil=>exact hne hs
     |cons a r=>
      rw[hs]at e
      cases k with
      |zero=>simp at e
      |succ k=>simp at e
    exact absurd hU this
   |cons a r=>
    rw[hU]at ih;rw[ID,ih,h];rfl
  ·rw[MD t (cur++ [b]) (k+1)];simp
theorem RZ{x:Fct}(h:AT x=0)(hid:0≤x.1∧x.1≤4294967295)(hp:0≤x.2.1∧x.2.1≤4294967295):∃t u,Fv x t u∧IsD t x.2.2.2.1∧IsU u x.2.2.2.2.1∧Do (BD x t u) x:=by
 obtain⟨t,u,P⟩:=Xm h hid hp
 have dt:∀{d:Int} {w:List UInt8},-25567≤d∧d≤84005→Df d=some w→IsD w d:=fun{d w} hd hw=>by
  obtain⟨w',h1,h2⟩:=IsD.of hd;rw[hw]at h1;cases h1;exact h2
 have ht:=dt P.r.fr P.t1
 have hu:IsU u x.2.2.2.2.1:=by
  have u1:=P.u1;unfold Ho at u1;dsimp only at u1;by_cases h0:x.2.2.2.2.1=0
  ·rw[h0,if_pos (by rfl)]at u1;cases u1;exact .inl ⟨h0,rfl⟩
  ·have e0:(x.2.2.2.2.1==0)=false:=by rw[beq_eq_false_iff_ne];exact h0
   rw[e0,if_neg (by decide)]at u1;by_cases h1:x.2.2.2.2.1=84006
   ·rw[h1,if_pos (by rfl)]at u1;cases u1;exact .inr (.inl ⟨h1,rfl⟩)
   ·have e1:(x.2.2.2.2.1==84006)=false:=by rw[beq_eq_false_iff_ne];exact h1
    rw[e1,if_neg (by decide),AG]at u1;have hto:=P.r.to;exact .inr (.inr ⟨dt (by omega) u1,h0⟩)
 have nm:=P.r.nm;refine⟨t,u,P,ht,hu,P.r.k,hid,hp,⟨by omega,by omega⟩, ?_,t,u,ht,hu,rfl⟩;rcases JD P.r.cd with e|⟨_,e,_⟩
 ·rw[e];simp
 ·exact e
theorem QI{x:Fct}{t u:List UInt8}(P:Fv x t u):AW 32 7 [] (Lib.join (BD x t u) [32])=BD x t u:=by
 have h1:=XS P;have h2:=Jy (s:=Lib.join (BD x t u) [32]) (c:=32) (k:=7) (by have:=(I5 P).1;omega) (by decide);rw[show(((7+1:Nat):Int))=8 from rfl,h1]at h2;exact(Option.some.inj h2).symm
theorem Xi{x:Fct}{t u:List UInt8}(h:AT x=0)(P:Fv x t u)(T:Do (BD x t u) x):Dg (Lib.join (BD x t u) [32])=some (x,0):=by
 have hl:=(I5 P).1;rcases OI (s:=Lib.join (BD x t u) [32]) (by omega)with⟨y,h1,h2⟩|⟨h1,_⟩
 ·rw[QI P]at h1;rw[h2,T.uniq h1];unfold If;rw[←T.uniq h1,if_pos h]
 ·rw[QI P]at h1;exact absurd T (h1 x)
theorem Wy{s:List UInt8}{x:Fct}(hs:s.length≤4900)(T:Do (AW 32 7 [] s) x)(h:AT x=0):Dv x=some (s,0):=by
 obtain⟨t,u,P,ht,hu,_⟩:=RZ h T.id T.p;rw[OF P h];obtain⟨t',u',h1,h2,h3⟩:=T.w
 have et:t=t':=by
  have a:=ht.text.2;have b:=h1.text.2;rw[a]at b;exact Option.some.inj b
 have eu:u=u':=by
  rcases hu with⟨a1,a2⟩|⟨a1,a2⟩|⟨a1,a2⟩<;>rcases h2 with⟨b1,b2⟩|⟨b1,b2⟩|⟨b1,b2⟩
  ·rw[a2,b2]
  ·omega
  ·omega
  ·omega
  ·rw[a2,b2]
  ·have:=b1.text.1;omega
  ·omega
  ·have:=a1.text.1;omega
  ·have a:=a1.text.2;have b:=b1.text.2;rw[a]at b;exact Option.some.inj b
 rw[et,eu,←h3,MD];rfl
theorem eqF(x y:Fct):((x.1==y.1)&&((x.2.1==y.2.1)&&((x.2.2.1==y.2.2.1)&&((x.2.2.2.1==y.2.2.2.1)&&((x.2.2.2.2.1==y.2.2.2.2.1)&&((x.2.2.2.2.2.1==y.2.2.2.2.2.1)&&((x.2.2.2.2.2.2.1==y.2.2.2.2.2.2.1)&&(x.2.2.2.2.2.2.2==y.2.2.2.2.2.2.2))))))))=true↔x=y:=by
 obtain⟨a,b,c,d,e,f,g,i⟩:=x;obtain⟨a',b',c',d',e',f',g',i'⟩:=y;simp only[Af,beq_iff_eq,Prod.mk.injEq]
theorem law_FactBack(haw:IG ()=some true){x y:Fct}{s:List UInt8}(hid:0≤x.1∧x.1≤4294967295)(hp:0≤x.2.1∧x.2.1≤4294967295)(hid':0≤y.1∧y.1≤4294967295)(hp':0≤y.2.1∧y.2.1≤4294967295):MJ (x,y,s)=some true:=by
 unfold MJ;dsimp only;try simp only[gPi,gSS,gPb,gPm,gPs,gM,gM2,Ay,gOr,Az,A3,gAA,gAO,gOA,gOO,Av,Ax,A0,A2,Aw,A1,gId]
 try simp only[A5,A6,A7,A8,A9,AA,AB,AD,gId,AG,gMb,gMm,gBm,gBb,bs,ms]
 rw[haw,bs,if_neg (by decide)];by_cases c1:x.2.2.2.2.2.1.length≤300
 case neg=>rw[Al (show(x.2.2.2.2.2.1.length:Int)>300 by omega)];rfl
 rw[Ak (show ¬((x.2.2.2.2.2.1.length:Int)>300) by omega),if_neg (by decide)];rw[bs];by_cases c2:x.2.2.2.2.2.2.2.length≤4200
 case neg=>rw[Al (show(x.2.2.2.2.2.2.2.length:Int)>4200 by omega)];rfl
 rw[Ak (show ¬((x.2.2.2.2.2.2.2.length:Int)>4200) by omega),if_neg (by decide),bs];by_cases c3:y.2.2.2.2.2.1.length≤300
 case neg=>rw[Al (show(y.2.2.2.2.2.1.length:Int)>300 by omega)];rfl
 rw[Ak (show ¬((y.2.2.2.2.2.1.length:Int)>300) by omega),if_neg (by decide),bs];by_cases c4:y.2.2.2.2.2.2.2.length≤4200
 case neg=>rw[Al (show(y.2.2.2.2.2.2.2.length:Int)>4200 by omega)];rfl
 rw[Ak (show ¬((y.2.2.2.2.2.2.2.length:Int)>4200) by omega),if_neg (by decide),bs];by_cases c5:s.length≤4500
 case neg=>rw[Al (show(s.length:Int)>4500 by omega)];rfl
 rw[Ak (show ¬((s.length:Int)>4500) by omega),if_neg (by decide)];have ex:∀x:Fct,((x.1,x.2.1,x.2.2.1,x.2.2.2.1,x.2.2.2.2.1,x.2.2.2.2.2.1,x.2.2.2.2.2.2.1,x.2.2.2.2.2.2.2):Fct)=x:=fun _=>rfl
 have hline:∀x:Fct,(0≤x.1∧x.1≤4294967295)→(0≤x.2.1∧x.2.1≤4294967295)→x.2.2.2.2.2.1.length≤300→x.2.2.2.2.2.2.2.length≤4200→∃l,Dv x=some (l,AT x)∧(AT x=0→Dg l=some (x,0)):=fun x hid hp c1 c2=>by
  by_cases h:AT x=0
  ·obtain⟨t,u,P,hd,hu,T⟩:=RZ h hid hp;exact⟨_,by rw[h];exact OF P h,fun _=>Xi h P T⟩
  ·exact⟨[],Ti (by omega) c2 h,fun e=>absurd e h⟩
 obtain⟨lx,hx1,hx2⟩:=hline x hid hp c1 c2;obtain⟨ly,hy1,hy2⟩:=hline y hid' hp' c3 c4;have hcx:=J8 x (by omega) c2;rw[ex x,ex y,hx1,bs,hy1,bs];dsimp only;refine AH (a:=Sum.inl (s,())) ?_ ?_
 ·by_cases h:AT x=0
  ·rw[h,if_pos (by rfl),hx2 h,bs];dsimp only;rw[(eqF x x).2 rfl,if_neg (by decide),bs,if_neg (by decide),hcx,bs,h,bs,if_neg (by decide)];refine AH (a:=false) ?_ rfl;by_cases h':AT y=0
   ·rw[h',if_pos (by rfl)]
    congr 1
    rw[Bool.not_eq_false',beq_iff_eq,Bool.eq_iff_iff,beq_iff_eq,eqF x y];constructor
    ·intro e;have:=hx2 h;rw[e,hy2 h']at this;exact(Prod.mk.inj (Option.some.inj this)).1.symm
    ·intro e;rw[e,hy1]at hx1;exact(Prod.mk.inj (Option.some.inj hx1)).1.symm
   ·have:(AT y==0)=false:=by rw[beq_eq_false_iff_ne];exact h'
    rw[this];rfl
  ·have:(AT x==0)=false:=by rw[beq_eq_false_iff_ne];exact h
   rw[this,if_neg (by decide),hcx,bs,bne_self_eq_false,if_neg (by decide)]
 ·dsimp only;rcases OI (s:=s) (by omega)with⟨z,T,hz⟩|⟨_,hz⟩
  ·rw[hz,bs];unfold If;by_cases h:AT z=0
   ·rw[if_pos h];have hl:=Wy (by omega) T h
    have hcz:z.2.2.2.2.2.1.length≤4200∧z.2.2.2.2.2.2.2.length≤4200:=by
     have r:=HU.of h;refine⟨?_,by have:=r.tx;omega⟩;rcases JD r.cd with e|⟨_,_,e⟩
     ·rw[e];decide
     ·omega
    dsimp only;rw[if_neg (by decide),ex z,hl,bs];dsimp only;rw[if_pos (by rfl),J8 z hcz.1 hcz.2,h,beq_self_eq_true,bs,if_pos rfl,bs];rfl
   ·rw[if_neg h];have:(AT z !=0)=true:=by rw[bne_iff_ne];exact h
    dsimp only;rw[this,if_pos rfl];rfl
  ·rw[hz,bs];rfl
end WB
