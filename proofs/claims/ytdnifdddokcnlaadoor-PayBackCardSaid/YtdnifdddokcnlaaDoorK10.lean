/-
  OWN TEXTS, MERGED (wip/merge.py): Pyf, Pyg, Pyh, Pyi, Pyj, Pyk, Pyq, Pyv. No condition of their own.
-/
import Derived.Test.YtdnifdddokcnlaaDoorK9
set_option linter.unusedVariables false
set_option linter.unusedSimpArgs false
open Go.IntKind (i64 u64 u8 u32)
namespace WB
open Go Go.RowKit
set_option linter.unusedSimpArgs false
set_option linter.unusedVariables false
theorem QC{l:List Ordr}(h:l.length*48≤140737488355328):F0 l=some l:=by
 unfold F0;dsimp only;have e:=ER (b:=J4) (A:=List Ordr) (T:=List Ordr×Unit×Unit) (fun i a=>(l,(i:Int),a,(),())) (fun a x=>Sum.inl (a++ [x])) (fun a=>(a,(),())) (fun i a=>a.length=i) l (a:= []) rfl ?_ ?_ ?_
 ·rw[show((0:Nat):Int)=0 from rfl]at e;rw[e,LT (fun x:Ordr=> [x]),bs];simp
 ·intro i x a hx ha;have hi:=(Ae.1 hx).1;unfold J4;dsimp only;simp only[DG hx,if_true,DD hx,ms,bs]
  rw[if_pos (by
   simp only[List.length_cons,List.length_nil]
   constructor<;>omega),bs,CR (by omega)]
  rfl
 ·intro i x a a' hx ha hs;cases hs;simp[ha]
 ·intro a ha;unfold J4;dsimp only;rw[Ec,if_neg (by decide)]
theorem R7{a b:List Ordr}(hl:a.length=b.length)(h9:a.length≤1000000000000):∀(t u:List Ordr) (i:Nat),a.drop i=t→b.drop i=u→i≤a.length→
  iter Iw (a,b,(i:Int),())=some (if t=u then .inl ()else .inr false)
 | [],u,i,ht,hu,hi=>by
  have h1:i=a.length:=by
   have:=congrArg List.length ht;simp at this;omega
  have h2:u= []:=by
   rw[←hu];apply List.drop_eq_nil_of_le;omega
  subst h1 h2;rw[if_pos rfl];refine itR ?_;unfold Iw;dsimp only;rw[Ec,if_neg (by decide)]
 |x::t,u,i,ht,hu,hi=>by
  have hx:a[i]? =some x:=by
   have:=congrArg (fun q=>q[0]?) ht;simpa using this
  have hlt:i<a.length:=(Ae.1 hx).1;obtain⟨y,hy⟩:∃y,b[i]? =some y:=⟨b[i]'(by omega),Ai _⟩
  obtain⟨u',rfl⟩:∃u',u=y::u':=by
   rw[←hu,List.drop_eq_getElem_cons (by omega)];rw[Ai (by omega)]at hy;cases hy;exact⟨_,rfl⟩
  have ih:=R7 hl h9 t u' (i+1) (by rw[←List.tail_drop,ht];rfl) (by rw[←List.tail_drop,hu];rfl) hlt
  have hq:(x.1==y.1&&(x.2.1==y.2.1&&(x.2.2.1==y.2.2.1&&x.2.2.2==y.2.2.2)))=decide (x=y):=by
   rw[Bool.eq_iff_iff];simp only[Af,beq_iff_eq,decide_eq_true_eq];constructor
   ·rintro⟨e1,e2,e3,e4⟩
    exact Prod.ext e1 (Prod.ext e2 (Prod.ext e3 e4))
   ·rintro rfl
    exact⟨rfl,rfl,rfl,rfl⟩
  have step:Iw (a,b,(i:Int),())=some (if x=y then .inl (a,b,((i+1:Nat):Int),())else .inr (.inr false)):=by
   unfold Iw;dsimp only;simp only[DG hx,if_true,DD hx,DD hy,ms,bs];rw[hq,CR (by omega)];by_cases h:x=y
   ·rw[Al h,if_pos h];rfl
   ·rw[Ak h,if_neg h];rfl
  by_cases h:x=y
  ·subst h;rw[if_pos rfl]at step;rw[itL step,ih];simp
  ·rw[if_neg h]at step;rw[itR step,if_neg (by simp[h])]
theorem Ww{a b:List Ordr}(h9:a.length≤1000000000000)(hb:b.length≤9223372036854775807):Iv (a,b)=some (decide (a=b)):=by
 unfold Iv;dsimp only;by_cases hl:a.length=b.length
 ·have:((a.length:Int) !=(b.length:Int))=false:=by rw[hl,bne_self_eq_false]
  rw[this,if_neg (by decide)];have e:=R7 hl h9 a b 0 rfl rfl (by omega);rw[show((0:Nat):Int)=0 from rfl]at e;rw[e,bs];by_cases h:a=b
  ·rw[if_pos h,Al h]
  ·rw[if_neg h,Ak h]
 ·have:((a.length:Int) !=(b.length:Int))=true:=by rw[bne_iff_ne];omega
  rw[this,if_pos rfl,Ak (fun h=>hl (by rw[h]))]
theorem RH{l:List Ordr}{k:Nat}(hk:k≤1000):∀(m i:Nat),m=k+1-i→i≤l.length→i≤k+1→(∀o∈l.take i,o.2.1.length≤300∧o.2.2.2.length≤300)→
  ∃r,iter Iy (l,(k:Int),(i:Int),())=some r∧(r=.inr false∨(r=.inl (l,(k:Int),())∧(l.length≤k→∀o∈l,o.2.1.length≤300∧o.2.2.2.length≤300)))
 |m,i,hm,hi,hik,hT=>by
  by_cases hlt:i<l.length∧i≤k
  ·obtain⟨x,hx⟩:∃x,l[i]? =some x:=⟨l[i]'hlt.1,Ai _⟩;by_cases hx3:x.2.1.length≤300∧x.2.2.2.length≤300
   ·obtain⟨r,h1,h2⟩:=RH (l:=l) hk (m-1) (i+1) (by omega) (by omega) (by omega) (by
     intro o ho;rw[List.take_add_one,hx]at ho;rcases List.mem_append.1 ho with ho|ho
     ·exact hT o ho
     ·simp at ho;rw[ho]
      exact hx3)
    refine⟨r,(itL ?_).trans h1,h2⟩;unfold Iy;dsimp only;simp only[gPi,gSS,gPb,gPm,gPs,gM,gM2,Bp,gOr,Bq,Bu,gAA,gAO,gOA,gOO,Bm,Bo,Br,Bt,Bn,Bs,gId];simp only[Bz,B0,B1,B2,B3,B4,B5,B6,gId,By,gMb,gMm,gBm,gBb,bs,ms];rw[DG hx,if_pos rfl,bs,Al (show(i:Int)≤(k:Int) by omega),if_pos rfl,DD hx,bs,Ak (by omega)];simp only[Ag,if_false,bs];rw[Ak (by omega),if_neg (by decide),CR (by omega)]
   ·refine⟨_,itR (t:=.inr false) ?_,.inl rfl⟩;unfold Iy;dsimp only;simp only[gPi,gSS,gPb,gPm,gPs,gM,gM2,Bp,gOr,Bq,Bu,gAA,gAO,gOA,gOO,Bm,Bo,Br,Bt,Bn,Bs,gId];simp only[Bz,B0,B1,B2,B3,B4,B5,B6,gId,By,gMb,gMm,gBm,gBb,bs,ms];rw[DG hx,if_pos rfl,bs,Al (show(i:Int)≤(k:Int) by omega),if_pos rfl,DD hx,bs];by_cases h1:x.2.1.length≤300
    ·rw[Ak (show ¬((x.2.1.length:Int)>300) by omega)];simp only[Ag,if_false,bs];rw[Al (show((x.2.2.2.length:Int)>300) by omega),if_pos rfl]
    ·rw[Al (show((x.2.1.length:Int)>300) by omega)];rfl
  ·refine⟨_,itR (t:=.inl (l,(k:Int),())) ?_,.inr ⟨rfl,fun hl=> ?_⟩⟩
   ·unfold Iy;dsimp only;simp only[gPi,gSS,gPb,gPm,gPs,gM,gM2,Bp,gOr,Bq,Bu,gAA,gAO,gOA,gOO,Bm,Bo,Br,Bt,Bn,Bs,gId];simp only[Bz,B0,B1,B2,B3,B4,B5,B6,gId,By,gMb,gMm,gBm,gBb,bs,ms];by_cases h1:i<l.length
    ·rw[Al (show(i:Int)<(l.length:Int) by omega),if_pos rfl,bs,Ak (show ¬(i:Int)≤(k:Int) by omega),if_neg (by decide)]
    ·rw[Ak (show ¬(i:Int)<(l.length:Int) by omega),if_neg (by decide),bs,if_neg (by decide)]
   ·have:l.take i=l:=List.take_of_length_le (by omega);rw[this]at hT;exact hT
 termination_by m=>m
 decreasing_by omega
theorem W1{l:List Ordr}{k:Nat}(hk:k≤1000):∃b,Kn (l,(k:Int))=some b∧(b=true→l.length≤k∧∀o∈l,o.2.1.length≤300∧o.2.2.2.length≤300):=by
 obtain⟨r,h1,h2⟩:=RH (l:=l) hk (k+1) 0 (by omega) (by omega) (by omega) (by simp);unfold Kn;dsimp only;rw[show((0:Nat):Int)=0 from rfl]at h1;rw[h1,bs];rcases h2 with rfl|⟨rfl,h2⟩
 ·exact⟨false,rfl,fun h=>by cases h⟩
 ·refine⟨_,rfl,fun h=> ?_⟩;simp only[decide_eq_true_eq]at h;exact⟨by omega,h2 (by omega)⟩
set_option linter.unusedSimpArgs false
set_option linter.unusedVariables false
theorem Th{A A':List UInt8}(h:A9 A=A9 A'):chk A=chk A':=Pi (List.append_cancel_left h)
theorem V0{A A' X:List UInt8}{b:UInt8}(h:A9 A=X++b::A9 A'):False:=by
 have key:∀i:Nat,(A9 A)[X.length+1+i]? =(A9 A')[i]? :=fun i=>by
  rw[h,List.getElem?_append_right (by omega),show X.length+1+i-X.length=i+1 by omega,List.getElem?_cons_succ]
 have k0:=key 0;have k1:=key 1;rw[show(A9 A')[0]? =some 99 from rfl]at k0;rw[show(A9 A')[1]? =some 104 from rfl]at k1
 have big:∀j:Nat,6≤j→∀v,(A9 A)[j]? =some v→dgt v=true:=fun j hj v hv=>by
  unfold A9 at hv;rw[List.getElem?_append_right (by show 6≤j;exact hj)]at hv;exact HF (List.mem_of_getElem? hv)
 by_cases hn:6≤X.length+1+0
 ·have:=big _ hn _ k0;revert this;decide
 ·have hx:X.length=0∨X.length=1∨X.length=2∨X.length=3∨X.length=4:=by omega
  rcases hx with e|e|e|e|e<;>rw[e]at k0 k1
  ·rw[show(A9 A)[0+1+0]? =some 104 from rfl]at k0;cases k0
  ·rw[show(A9 A)[1+1+0]? =some 101 from rfl]at k0;cases k0
  ·rw[show(A9 A)[2+1+1]? =some 107 from rfl]at k1;cases k1
  ·rw[show(A9 A)[3+1+0]? =some 107 from rfl]at k0;cases k0
  ·rw[show(A9 A)[4+1+0]? =some 32 from rfl]at k0;cases k0
theorem Ox{p q A A':List UInt8}{b c:UInt8}(h:p++b::q=A++A9 A++ [10])(h':p++c::q=A'++A9 A'++ [10])(hA':Whole A')(hle:A.length≤A'.length):b=c:=by
 have hl:(p++b::q).length=(p++c::q).length:=by simp
 have hd:∀i,i≠p.length→(p++b::q)[i]? =(p++c::q)[i]? :=fun i hi=>by
  rcases Nat.lt_or_ge i p.length with h|h
  ·rw[List.getElem?_append_left h,List.getElem?_append_left h]
  ·rw[List.getElem?_append_right h,List.getElem?_append_right h];obtain⟨j,hj⟩:∃j,i-p.length=j+1:=⟨i-p.length-1,by omega⟩;rw[hj];rfl
 rw[h,h']at hl;by_cases he:A.length=A'.length
 ·by_cases hp:A.length≤p.length
  ·have hAA:A=A':=by
    have e1:(p++b::q).take A.length=A:=by rw[h,List.append_assoc,List.take_left]
    have e2:(p++c::q).take A.length=A':=by rw[h',List.append_assoc,he,List.take_left]
    rw[←e1,←e2,List.take_append_of_le_length hp,List.take_append_of_le_length hp]
   subst hAA;rw[←h]at h';have:=List.append_cancel_left h';exact(List.cons.inj this).1.symm
  ·have e1:(p++b::q).drop A.length=A9 A++ [10]:=by rw[h,List.append_assoc,List.drop_left]
   have e2:(p++c::q).drop A.length=A9 A'++ [10]:=by rw[h',List.append_assoc,he,List.drop_left]
   have e3:(p++b::q).drop A.length=(p++c::q).drop A.length:=by
    rw[List.drop_append,List.drop_append];obtain⟨j,hj⟩:∃j,A.length-p.length=j+1:=⟨A.length-p.length-1,by omega⟩;rw[hj];rfl
   rw[e1,e2]at e3;have e4:=Th (List.append_cancel_right e3)
   have a1:A=p++b::(q.take (A.length-p.length-1)):=by
    have e5:(p++b::q).take A.length=A:=by rw[h,List.append_assoc,List.take_left]
    refine e5.symm.trans ?_;rw[List.take_append];obtain⟨j,hj⟩:∃j,A.length-p.length=j+1:=⟨A.length-p.length-1,by omega⟩;rw[hj,List.take_of_length_le (show p.length≤A.length by omega)];simp[show j+1-1=j by omega]
   have a2:A'=p++c::(q.take (A.length-p.length-1)):=by
    have e5:(p++c::q).take A.length=A':=by rw[h',List.append_assoc,he,List.take_left]
    refine e5.symm.trans ?_;rw[List.take_append];obtain⟨j,hj⟩:∃j,A.length-p.length=j+1:=⟨A.length-p.length-1,by omega⟩;rw[hj,List.take_of_length_le (show p.length≤A.length by omega)];simp[show j+1-1=j by omega]
   rw[a1,a2]at e4;exact Ti e4
 ·exfalso;rcases hA' with rfl|⟨Q,rfl⟩
  ·simp at hle he;exact he hle
  ·have hQ:A.length≤Q.length:=by simp at hle he;omega
   have k1:(p++c::q)[Q.length]? =some 10:=by rw[h'];simp
   have hlen:=congrArg List.length h';have hlen0:=congrArg List.length h
   have k2:(p++b::q)[Q.length]? ≠some 10:=by
    intro hk;rw[h,List.append_assoc,List.getElem?_append_right hQ]at hk
    have hlt:Q.length-A.length<(A9 A).length:=by
     simp at hl;have:(A9 (Q++ [10])).length≥1:=by unfold A9 H7;simp
     omega
    rw[List.getElem?_append_left hlt]at hk;exact OG A 10 (List.mem_of_getElem? hk) rfl
   have hpQ:Q.length=p.length:=by
    apply Decidable.byContradiction;intro hne;rw[hd _ hne]at k2;exact k2 k1
   have hpe:p=Q:=by
    have e1:(p++c::q).take Q.length=p:=by rw[hpQ,List.take_left]
    have e2:(p++c::q).take Q.length=Q:=by rw[h',List.append_assoc,List.append_assoc,List.take_left]
    exact e1.symm.trans e2
   subst hpe
   have hq:q=A9 (p++ [10])++ [10]:=by
    have:p++c::q=p++10::(A9 (p++ [10])++ [10]):=by rw[h'];simp
    exact(List.cons.inj (List.append_cancel_left this)).2
   have hX:A9 A++ [10]=p.drop A.length++b::q:=by
    have e1:(p++b::q).drop A.length=A9 A++ [10]:=by rw[h,List.append_assoc,List.drop_left]
    rw[←e1,List.drop_append,show A.length-p.length=0 by omega];rfl
   rw[hq]at hX;have hX':A9 A++ [10]=(p.drop A.length++b::A9 (p++ [10]))++ [10]:=by rw[hX];simp
   exact V0 (List.append_cancel_right hX')
theorem SC{p q A A':List UInt8}{b c:UInt8}(h:p++b::q=A++A9 A++ [10])(h':p++c::q=A'++A9 A'++ [10])(hA:Whole A)(hA':Whole A'):b=c:=by
 rcases Nat.le_total A.length A'.length with hle|hle
 ·exact Ox h h' hA' hle
 ·exact(Ox h' h hA hle).symm
theorem Uj{p q:List UInt8}{b c:UInt8}{n n':Int}{l l':List Ordr}(h:p++b::q=Bv n l)(h':p++c::q=Bv n' l'):b=c:=
 SC h h' (Mv _) (Mv _)
set_option linter.unusedSimpArgs false
set_option linter.unusedVariables false
set_option linter.unusedSimpArgs false
set_option linter.unusedVariables false
abbrev Bd:=Int×Int×List UInt8
abbrev SA:=Int×Int×Int×List (Int×List UInt8×Int)×List (Int×Int×List (Int×List UInt8×Int))×Int×Int×Int
def Fd(x:Bd):SA:=(x.1,0,0,[],[],0,x.2.1,0)
def E9(n p:Int):List UInt8:=Lib.decDigits n.toNat++ [45]++Lib.decDigits p.toNat
def E6(n:Int)(x:Bd):Ordr:=(x.1,x.2.2,x.2.1,E9 n x.1)
def EO(prev:Option Int)(p:Int):Bool:=match prev with
 |some q=>decide (p≤q)
 |none=>false
def EZ(c:Int):Bool:=decide (0≤c)&&decide (c≤1125899906842624)
def BU(prev:Option Int)(x:Bd):Int:=
 if x.1=0 then 2 else if EO prev x.1=true then 8 else if EZ x.2.1=false then 2 else if x.2.1>0∧x.2.2≠ []∧BK x.2.2=false then 12 else 0
theorem Wj{p:Option Int}{x:Bd}(c1:x.1=0):BU p x=2:=by unfold BU;rw[if_pos c1]
theorem Wg{p:Option Int}{x:Bd}(c1:x.1≠0)(c2:EO p x.1=true):BU p x=8:=by unfold BU;rw[if_neg c1,if_pos c2]
theorem Wi{p:Option Int}{x:Bd}(c1:x.1≠0)(c2:EO p x.1=false)(c3:EZ x.2.1=false):BU p x=2:=by unfold BU;rw[if_neg c1,if_neg (by rw[c2];decide),if_pos c3]
theorem Wh{p:Option Int}{x:Bd}(c1:x.1≠0)(c2:EO p x.1=false)(c3:EZ x.2.1=true)(c4:x.2.1>0)(c5:x.2.2≠ [])(c6:BK x.2.2=false):BU p x=12:=by unfold BU;rw[if_neg c1,if_neg (by rw[c2];decide),if_neg (by rw[c3];decide),if_pos ⟨c4,c5,c6⟩]
theorem Nm{p:Option Int}{x:Bd}(c1:x.1≠0)(c2:EO p x.1=false)(c3:EZ x.2.1=true)(c4:¬(x.2.1>0∧x.2.2≠ []∧BK x.2.2=false)):BU p x=0:=by unfold BU;rw[if_neg c1,if_neg (by rw[c2];decide),if_neg (by rw[c3];decide),if_neg c4]
def FA(l:List Bd)(i:Nat):Option Int:=if i=0 then none else(l[i-1]?).map (·.1)
theorem VH(c:Int):(if decide (c<0)=true then some true else some (decide (c>1125899906842624)))=some (!EZ c):=by
 unfold EZ;by_cases q1:c<0
 ·rw[Al q1,Ak (show ¬0≤c by omega)];rfl
 ·rw[Ak q1,Al (show 0≤c by omega)];by_cases q2:c>1125899906842624
  ·rw[Al q2,Ak (show ¬c≤1125899906842624 by omega)];rfl
  ·rw[Ak q2,Al (show c≤1125899906842624 by omega)];rfl
theorem TA{l:List Bd}{i:Nat}{x:Bd}(hi:i<l.length)(hl:l.length≤1000000):(if decide ((i:Int)>0)=true then(lAt (l.map Fd) (i64.wrap ((i:Int)-1))).bind fun v=>some (decide (x.1≤v.1))else some false)=some (EO (FA l i) x.1):=by
 unfold FA;by_cases h0:i=0
 ·subst h0;rfl
 ·rw[Al (show(i:Int)>0 by omega),if_pos rfl,if_neg h0,AS (by omega) (by omega)];have hy:l[i-1]? =some (l[i-1]'(by omega)):=Ai _;rw[hy,show((i:Int)-1)=((i-1:Nat):Int) by omega,DD (a:=Fd (l[i-1]'(by omega))) (by rw[List.getElem?_map,hy];rfl),bs];rfl
theorem Xi{p:Int}(h:0≤p∧p≤4294967295):u64.wrap p=p:=XD (by omega) (by omega)
theorem Wk{n:Int}{l:List Bd}{i:Nat}{x:Bd}{banks:List (Int×List UInt8)}(hx:l[i]? =some x)(hb:(Cb (eqZ (Ty.int IntKind.u32)) (BA Ty.str) x.1 banks).1=x.2.2)(hn:0≤n∧n≤1000000000)(hp:0≤x.1∧x.1≤4294967295)(hlen:x.2.2.length≤1000000)(hl:l.length≤1000000):
  Ke ((n,0,0,0,l.map Fd),(i:Int),banks)=some (if BU (FA l i) x=0 then(E6 n x,0)else((0,[],0,[]),BU (FA l i) x)):=by
 have hi:=(Ae.1 hx).1;unfold Ke;dsimp only;simp only[gPi,gSS,gPb,gPm,gPs,gM,gM2,Bp,gOr,Bq,Bu,gAA,gAO,gOA,gOO,Bm,Bo,Br,Bt,Bn,Bs,gId];simp only[Bz,B0,B1,B2,B3,B4,B5,B6,gId,By,gMb,gMm,gBm,gBb,bs,ms];rw[DD (a:=Fd x) (by rw[List.getElem?_map,hx];rfl),bs];have h1:(Fd x).1=x.1:=rfl;have h2:(Fd x).2.2.2.2.2.2.1=x.2.1:=rfl;rw[h1,h2,hb];by_cases c1:x.1=0
 ·rw[Wj c1,if_neg (show ¬(2:Int)=0 by decide),if_pos (show(x.1==(0:Int))=true by rw[c1];rfl)]
 ·rw[if_neg (show ¬(x.1==(0:Int))=true by simpa using c1),TA hi hl,bs]
  cases c2:EO (FA l i) x.1 with
  |true=>rw[Wg c1 c2,if_neg (show ¬(8:Int)=0 by decide),if_pos rfl]
  |false=>
   rw[if_neg (show ¬(false=true) by decide),VH,bs]
   cases c3:EZ x.2.1 with
   |false=>rw[Wi c1 c2 c3,if_neg (show ¬(2:Int)=0 by decide),if_pos (show(!false)=true from rfl)]
   |true=>
    rw[if_neg (show ¬((!true)=true) by decide)]
    have fin:((strconv_Itoa n).bind fun x67=>if x67.length+([45]:List UInt8).length≤4611686018427387904 then(FE (u64.wrap x.1,10)).bind fun x72=>if(x67++ [45]).length+x72.length≤4611686018427387904 then some ((x.1,x.2.2,x.2.1,x67++ [45]++x72),(0:Int))else none else none)=some (E6 n x,0):=by
     have l1:(Lib.decDigits n.toNat).length≤10:=Ew (by omega) (by omega);have l2:(Lib.decDigits x.1.toNat).length≤10:=Ew (by omega) (by omega);unfold strconv_Itoa FE;rw[if_pos ⟨by omega,by omega⟩,bs,GS hn.1,if_pos (by simp;omega),Xi hp,if_pos ⟨rfl,by omega,by omega⟩,bs,GS hp.1,if_pos (by simp;omega)];rfl
    by_cases c4:x.2.1>0
    ·by_cases c5:x.2.2= []
     ·have:(x.2.2==([]:List UInt8))=true:=by rw[c5];rfl
      rw[Nm c1 c2 c3 (fun h=>h.2.1 c5),if_pos (rfl:(0:Int)=0),this,Al c4];exact fin
     ·have:(x.2.2==([]:List UInt8))=false:=by rw[beq_eq_false_iff_ne];exact c5
      rw[this,Al c4];simp only[Bool.not_false,if_true,Ag,if_false,Mg (show x.2.2.length≤4611686018427387904 by omega),bs]
      cases c6:BK x.2.2 with
      |true=>
       rw[Nm c1 c2 c3 (fun h=>by rw[c6]at h;exact absurd h.2.2 (by decide)),if_pos (rfl:(0:Int)=0)];exact fin
      |false=>
       rw[Wh c1 c2 c3 c4 c5 c6,if_neg (show ¬(12:Int)=0 by decide)];rfl
    ·rw[Nm c1 c2 c3 (fun h=>c4 h.1),if_pos (rfl:(0:Int)=0),Ak c4];exact fin
abbrev OA:=Option Int×List Ordr×List Int
abbrev OT:=(List Ordr×List Int×Unit×Unit×Unit)⊕(List Ordr×List Int×Int)
def EY(n:Int)(a:OA)(x:Bd):OA⊕OT:=
 if BU a.1 x≠0 then .inr (.inr ([],[],BU a.1 x))else if x.2.1>0∧x.2.2= []then .inl (some x.1,a.2.1,a.2.2++ [x.1])else if x.2.1>0 then .inl (some x.1,a.2.1++ [E6 n x],a.2.2)else .inl (some x.1,a.2.1,a.2.2)
def EX(n:Int)(l:List Bd):OT:=A6 (EY n) (fun a=>.inl (a.2.1,a.2.2,(),(),())) (none,[],[]) l
def ofS(n:Int)(l:List Bd):List Ordr×List Int×Int:=
 if n<1∨n>1000000000 then([],[],2)else if(l.length:Int)>256 then([],[],5)else match EX n l with
  | .inl p=>if C6 (Bh p.1)=true then(p.1,p.2.1,0)else([],[],9)
  | .inr q=>q
def DU:Option Int→List Bd→Prop
 |_,[]=>True
 |prev,x::l=>BU prev x=0∧DU (some x.1) l
def BT(n:Int)(l:List Bd):List Ordr:=(l.filter fun x=>decide (x.2.1>0)&& !(x.2.2== [])).map (E6 n)
def DJ(l:List Bd):List Int:=(l.filter fun x=>decide (x.2.1>0)&&(x.2.2== [])).map (·.1)
theorem JO{n:Int}:∀{l:List Bd} {a:OA},(DU a.1 l∧A6 (EY n) (fun a=>(.inl (a.2.1,a.2.2,(),(),()):OT)) a l=.inl (a.2.1++BT n l,a.2.2++DJ l,(),(),()))∨(¬DU a.1 l∧∃e,e≠0∧A6 (EY n) (fun a=>(.inl (a.2.1,a.2.2,(),(),()):OT)) a l=.inr ([],[],e))
 | [],a=>.inl ⟨trivial,by simp[A6,BT,DJ]⟩
 |x::l,a=>by
  rw[A6];unfold EY;by_cases he:BU a.1 x=0
  ·rw[if_neg (by simp[he])]
   have key:∀(b:OA),b.1=some x.1→∀(X:List Ordr) (Y:List Int),b.2.1++BT n l=a.2.1++X→b.2.2++DJ l=a.2.2++Y→((DU a.1 (x::l)∧A6 (EY n) (fun a=>(.inl (a.2.1,a.2.2,(),(),()):OT)) b l=.inl (a.2.1++X,a.2.2++Y,(),(),()))∨(¬DU a.1 (x::l)∧∃e,e≠0∧A6 (EY n) (fun a=>(.inl (a.2.1,a.2.2,(),(),()):OT)) b l=.inr ([],[],e))):=by
    intro b hb X Y hX hY;rcases JO (n:=n) (l:=l) (a:=b)with⟨h1,h2⟩|⟨h1,h2⟩
    ·rw[hb]at h1;exact .inl ⟨⟨he,h1⟩,by rw[h2,hX,hY]⟩
    ·rw[hb]at h1;exact .inr ⟨fun hh=>h1 hh.2,h2⟩
   by_cases c1:x.2.1>0∧x.2.2= []
   ·rw[if_pos c1];refine key _ rfl _ _ ?_ ?_
    ·simp[BT,c1]
    ·simp[DJ,c1]
   ·rw[if_neg c1];by_cases c2:x.2.1>0
    ·rw[if_pos c2];have c3:x.2.2≠ []:=fun h=>c1 ⟨c2,h⟩;refine key _ rfl _ _ ?_ ?_
     ·simp[BT,c2,c3]
     ·simp[DJ,c2,c3]
    ·rw[if_neg c2];refine key _ rfl _ _ ?_ ?_
     ·simp[BT,c2]
     ·simp[DJ,c2]
  ·rw[if_pos he];exact .inr ⟨fun hh=>he hh.1,_,he,rfl⟩
theorem Rh{prev:Option Int}{x:Bd}(h:BU prev x=0):x.1≠0∧EO prev x.1=false∧(0≤x.2.1∧x.2.1≤1125899906842624)∧(x.2.1>0→x.2.2≠ []→BK x.2.2=true):=by
 unfold BU at h;split at h
 ·cases h
 ·rename_i h1;split at h
  ·cases h
  ·rename_i h2;split at h
   ·cases h
   ·rename_i h3;split at h
    ·cases h
    ·rename_i h4;have h3':EZ x.2.1=true:=by simpa using h3
     simp only[EZ,Af,decide_eq_true_eq]at h3';refine⟨h1,by simpa using h2,h3',fun q1 q2=> ?_⟩
     cases hn:BK x.2.2 with
     |true=>rfl
     |false=>exact absurd ⟨q1,q2,hn⟩ h4
theorem Ks:∀{l:List Bd} {prev:Option Int},DU prev l→∀x∈l,x.1≠0∧(0≤x.2.1∧x.2.1≤1125899906842624)∧(x.2.1>0→x.2.2≠ []→BK x.2.2=true)
 | [],_,_,x,hx=>by cases hx
 |y::l,prev,h,x,hx=>by
  obtain⟨k1,_,k3,k4⟩:=Rh h.1;rcases List.mem_cons.1 hx with rfl|hx
  ·exact⟨k1,k3,k4⟩
  ·exact Ks h.2 x hx
theorem MQ{n:Int}{l:List Bd}(h:∀x∈l,x.1≠0∧(0≤x.2.1∧x.2.1≤1125899906842624)∧(x.2.1>0→x.2.2≠ []→BK x.2.2=true)):∀o∈BT n l,∃x∈l,o=E6 n x∧x.2.1>0∧x.2.1≤1125899906842624∧x.1≠0∧BK x.2.2=true:=by
 intro o ho;obtain⟨x,hx,rfl⟩:=List.mem_map.1 ho;rw[List.mem_filter]at hx;simp only[Af,decide_eq_true_eq,Bool.not_eq_true',beq_eq_false_iff_ne]at hx;obtain⟨k1,k2,k3⟩:=h x hx.1;exact⟨x,hx.1,rfl,hx.2.1,k2.2,k1,k3 hx.2.1 hx.2.2⟩
theorem QN(n:Int)(l:List Bd):(BT n l).length≤l.length:=by
 unfold BT;rw[List.length_map];exact List.length_filter_le _ _
theorem V3{n:Int}{l:List Bd}{p}(h:EX n l=.inl p)(hl:l.length≤256):DU none l∧p=(BT n l,DJ l,(),(),())∧(∀o∈p.1,1≤o.2.2.1∧o.2.2.1≤1125899906842624)∧p.1.length≤256:=by
 rcases JO (n:=n) (l:=l) (a:=(none,[],[]))with⟨h1,h2⟩|⟨_,e,_,h2⟩
 ·have h3:EX n l=.inl ([]++BT n l,[]++DJ l,(),(),()):=h2;rw[h3]at h;cases h;have hlen:=QN n l;refine⟨h1,rfl,fun o ho=> ?_,by simp;omega⟩;obtain⟨x,_,rfl,k1,k2,_⟩:=MQ (Ks h1) o ho;exact⟨by show 1≤x.2.1;omega,k2⟩
 ·have h3:EX n l=.inr ([],[],e):=h2;rw[h3]at h;cases h
theorem VW(n:Int):(if decide (n<1)=true then some true else some (decide (n>1000000000)))=some (decide (n<1∨n>1000000000)):=by
 by_cases h:n<1
 ·simp[h]
 ·simp[h]
theorem S4{n:Int}{l:List Bd}{banks:List (Int×List UInt8)}(hb:∀x∈l,(Cb (eqZ (Ty.int IntKind.u32)) (BA Ty.str) x.1 banks).1=x.2.2)(hp:∀x∈l,0≤x.1∧x.1≤4294967295)(hlen:∀x∈l,x.2.2.length≤1000000):
  JZ ((n,0,0,0,l.map Fd),banks)=some (ofS n l):=by
 unfold JZ ofS;dsimp only;simp only[gPi,gSS,gPb,gPm,gPs,gM,gM2,Bp,gOr,Bq,Bu,gAA,gAO,gOA,gOO,Bm,Bo,Br,Bt,Bn,Bs,gId];simp only[Bz,B0,B1,B2,B3,B4,B5,B6,gId,By,gMb,gMm,gBm,gBb,bs,ms];rw[VW,bs];by_cases h1:n<1∨n>1000000000
 ·rw[Al h1,if_pos rfl,if_pos h1]
 ·rw[Ak h1,if_neg (by decide),if_neg h1,List.length_map];by_cases h2:(l.length:Int)>256
  ·rw[if_pos h2,if_pos (Al h2)]
  ·rw[if_neg h2,if_neg (by rw[Ak h2];decide)];have e:=ER (b:=Ka) (A:=OA) (T:=OT) (fun i a=>(banks,(l.length:Int),(i:Int),n,0,0,0,l.map Fd,a.2.1,a.2.2,(),(),(),(),())) (EY n) (fun a=>.inl (a.2.1,a.2.2,(),(),())) (fun i a=>a.1=FA l i∧a.2.1.length≤i∧a.2.2.length≤i) l (a:=(none,[],[])) ⟨rfl,by simp,by simp⟩ ?_ ?_ ?_
   ·rw[show((0:Nat):Int)=0 from rfl]at e;rw[e,bs];show(match EX n l with| .inl p=>_| .inr q=>_)=_
    cases hw:EX n l with
    |inr q=>rfl
    |inl p=>
     obtain⟨_,_,hc,hpl⟩:=V3 hw (by omega);simp only;rw[IC (by omega) (fun o ho=>by have:=hc o ho;omega),bs];simp only;cases C6 (Bh p.1)<;>rfl
   ·intro i x a hx ha;obtain⟨ha1,ha2,ha3⟩:=ha;have hi:=(Ae.1 hx).1;have hm:=List.mem_of_getElem? hx;unfold Ka;dsimp only;simp only[gPi,gSS,gPb,gPm,gPs,gM,gM2,Bp,gOr,Bq,Bu,gAA,gAO,gOA,gOO,Bm,Bo,Br,Bt,Bn,Bs,gId];simp only[Bz,B0,B1,B2,B3,B4,B5,B6,gId,By,gMb,gMm,gBm,gBb,bs,ms];rw[Al (show(i:Int)<(l.length:Int) by omega),if_pos rfl,Wk hx (hb x hm) (by omega) (hp x hm) (hlen x hm) (by omega),bs,←ha1];unfold EY;by_cases he:BU a.1 x=0
    ·rw[if_pos he,if_neg (show ¬(BU a.1 x≠0) by simp[he])];dsimp only;rw[if_neg (show ¬(((0:Int) !=0)=true) by decide)];have o1:(E6 n x).2.2.1=x.2.1:=rfl;have o2:(E6 n x).2.1=x.2.2:=rfl;have o3:(E6 n x).1=x.1:=rfl;rw[o1,o2,o3];by_cases c2:x.2.1>0
     ·rw[Al c2,if_pos rfl,bs];by_cases c3:x.2.2= []
      ·have:(x.2.2==([]:List UInt8))=true:=by rw[c3];rfl
       rw[this,if_pos rfl,if_pos (by simp only[List.length_cons,List.length_nil];constructor<;>omega),bs,if_pos ⟨c2,c3⟩];dsimp only;rw[CR (by omega)];rfl
      ·have:(x.2.2==([]:List UInt8))=false:=by rw[beq_eq_false_iff_ne];exact c3
       rw[this,if_neg (by decide),if_pos rfl,if_pos (by simp only[List.length_cons,List.length_nil];constructor<;>omega),bs,if_neg (fun h=>c3 h.2),if_pos c2];dsimp only;rw[CR (by omega)];rfl
     ·rw[Ak c2,if_neg (by decide),bs,if_neg (by decide),if_neg (by decide),bs,if_neg (fun h=>c2 h.1),if_neg c2];dsimp only;rw[CR (by omega)];rfl
    ·rw[if_neg he,if_pos (show BU a.1 x≠0 from he)];dsimp only;rw[if_pos (show(BU a.1 x !=0)=true by simpa using he)];rfl
   ·intro i x a a' hx ha hs;obtain⟨ha1,ha2,ha3⟩:=ha
    have hpr:FA l (i+1)=some x.1:=by
     unfold FA;rw[if_neg (by omega),Nat.add_sub_cancel,hx];rfl
    unfold EY at hs;rw[hpr];split at hs
    ·cases hs
    ·split at hs
     ·cases hs;exact⟨rfl,by simp;omega,by simp;omega⟩
     ·split at hs
      ·cases hs;exact⟨rfl,by simp;omega,by simp;omega⟩
      ·cases hs;exact⟨rfl,by simp;omega,by simp;omega⟩
   ·intro a _;unfold Ka;dsimp only;rw[Ec,if_neg (by decide)]
set_option linter.unusedSimpArgs false
set_option linter.unusedVariables false
set_option linter.unusedSimpArgs false
set_option linter.unusedVariables false
theorem V4(n:Int)(l:List Bd):(∃e,e≠0∧ofS n l=([],[],e))∨((1≤n∧n≤1000000000)∧l.length≤256∧DU none l∧C6 (Bh (BT n l))=true∧ofS n l=(BT n l,DJ l,0)):=by
 unfold ofS;by_cases h1:n<1∨n>1000000000
 ·exact .inl ⟨2,by decide,by rw[if_pos h1]⟩
 ·by_cases h2:(l.length:Int)>256
  ·exact .inl ⟨5,by decide,by rw[if_neg h1,if_pos h2]⟩
  ·rw[if_neg h1,if_neg h2];rcases JO (n:=n) (l:=l) (a:=(none,[],[]))with⟨k1,h3⟩|⟨_,e,he,h3⟩
   ·have h4:EX n l=.inl ([]++BT n l,[]++DJ l,(),(),()):=h3;rw[h4];simp only[List.nil_append];by_cases h5:C6 (Bh (BT n l))=true
    ·rw[if_pos h5];exact .inr ⟨by omega,by omega,k1,h5,rfl⟩
    ·rw[if_neg h5];exact .inl ⟨9,by decide,rfl⟩
   ·have h4:EX n l=.inr ([],[],e):=h3;rw[h4];exact .inl ⟨e,he,rfl⟩
theorem QD{b:UInt8}(h:dgt b=true):okb b=true:=by
 have:=Dj.1 h;unfold okb;rw[Al (show(b.toNat:Int)<97 by omega),Ak (show ¬(b.toNat:Int)<48 by omega),Ak (show ¬(b.toNat:Int)>57 by omega)];simp
theorem Vs{n p:Int}(hn:0≤n∧n≤1000000000)(hp:0≤p∧p≤4294967295):BK (E9 n p)=true:=by
 have l1:(Lib.decDigits n.toNat).length≤10:=Ew (by omega) (by omega);have l2:(Lib.decDigits p.toNat).length≤10:=Ew (by omega) (by omega);have l3:=List.length_pos_iff.2 (HG n.toNat);have l4:=List.length_pos_iff.2 (HG p.toNat);unfold BK;simp only[Af,Bool.not_eq_true',beq_eq_false_iff_ne,decide_eq_true_eq];refine⟨⟨⟨?_, ?_⟩, ?_⟩, ?_⟩
 ·rw[List.all_eq_true];intro b hb;unfold E9 at hb;rcases List.mem_append.1 hb with hb|hb
  ·rcases List.mem_append.1 hb with hb|hb
   ·exact QD (HF hb)
   ·simp at hb;rw[hb];decide
  ·exact QD (HF hb)
 ·intro h;have:=congrArg List.length h;simp[E9]at this
 ·intro h;have:=congrArg List.length h;simp[E9]at this;omega
 ·simp[E9];omega
theorem Wb{n p q:Int}(hp:0≤p)(hq:0≤q)(h:E9 n p=E9 n q):p=q:=by
 have h1:=Pi (List.append_cancel_left h);omega
theorem Rl:∀{l:List Bd} {prev:Option Int},DU prev l→(l.map (·.1)).Pairwise (· < ·)∧∀q,prev=some q→∀x∈l,q<x.1
 | [],prev,_=>⟨by simp,fun q _ x hx=>by cases hx⟩
 |y::l,prev,h=>by
  obtain⟨_,h2,_⟩:=Rh h.1;obtain⟨k1,k2⟩:=Rl h.2;refine⟨?_, ?_⟩
  ·rw[List.map_cons,List.pairwise_cons];refine⟨fun p hp=> ?_,k1⟩;obtain⟨x,hx,rfl⟩:=List.mem_map.1 hp;exact k2 _ rfl x hx
  ·intro q hq x hx
   have h3:q<y.1:=by
    subst hq;have:¬y.1≤q:=by simpa[EO]using h2
    omega
   rcases List.mem_cons.1 hx with rfl|hx
   ·exact h3
   ·exact Int.lt_trans h3 (k2 _ rfl x hx)
theorem VF{n:Int}{l:List Bd}(hn:1≤n∧n≤1000000000)(hl:l.length≤256)(hp:∀x∈l,0≤x.1∧x.1≤4294967295)(h:DU none l)(hf:C6 (Bh (BT n l))=true):DT n (BT n l)∧∀o∈BT n l,Cn o:=by
 have hlen:=QN n l;refine⟨⟨hn,by omega,fun o ho=> ?_, ?_,hf⟩,fun o ho=> ?_⟩
 ·obtain⟨x,hx,rfl,k1,k2,k3,k4⟩:=MQ (Ks h) o ho;refine⟨k3,k4, ?_,Vs (by omega) (hp x hx)⟩;show inC x.2.1=true;unfold inC;rw[Al (show 1≤x.2.1 by omega),Al k2];rfl
 ·have hr:=(Rl h).1;unfold BT;rw[List.map_map];rw[List.pairwise_map]at hr;rw[List.Nodup,List.pairwise_map];have hs:=hr.filter (fun x=>decide (x.2.1>0)&& !(x.2.2== []));refine List.Pairwise.imp_of_mem ?_ hs;intro a b ha hb hab e;have ha':=hp a (List.mem_filter.1 ha).1;have hb':=hp b (List.mem_filter.1 hb).1;have:=Wb (n:=n) ha'.1 hb'.1 e;omega
 ·obtain⟨x,hx,rfl,_⟩:=MQ (Ks h) o ho;exact hp x hx
abbrev CM:List Bd:= [(3,10000,[100,101,46,49]),(5,2000,[])]
abbrev MN:Ordr:=(3,[100,101,46,49],10000,[55,45,51])
theorem Wa:E9 7 3= [55,45,51]:=by
 unfold E9;rw[show((7:Int).toNat)=7 from rfl,show((3:Int).toNat)=3 from rfl,D8 (by decide),D8 (by decide)];rfl
theorem VD:E6 7 (3,10000,[100,101,46,49])=MN:=by
 unfold E6;rw[Wa]
theorem Rj:DU none CM:=⟨by decide,by decide,trivial⟩
theorem MO:BT 7 CM= [MN]:=by
 rw[←VD];rfl
theorem VG:DJ CM= [5]:=rfl
theorem PA:C6 (Bh (BT 7 CM))=true:=by
 rw[MO];decide
theorem Rk:∀x∈CM,0≤x.1∧x.1≤4294967295:=by decide
theorem ofX:ofS 7 CM=([MN],[5],0):=by
 rcases V4 7 CM with⟨e,he,h⟩|⟨_,_,_,_,h⟩
 ·exfalso
  have h1:EX 7 CM=.inl ([]++BT 7 CM,[]++DJ CM,(),(),()):=by
   rcases JO (n:=7) (l:=CM) (a:=(none,[],[]))with⟨_,h3⟩|⟨h3,_⟩
   ·exact h3
   ·exact absurd Rj h3
  unfold ofS at h;rw[if_neg (by decide),if_neg (by decide),h1]at h;simp only[List.nil_append]at h;rw[if_pos PA]at h;simp only[Prod.mk.injEq]at h;exact he h.2.2.symm
 ·rw[h,MO,VG]
theorem awake_eq:Ic ()=some true:=by
 obtain⟨r1,r2⟩:=VF (n:=7) (l:=CM) (by decide) (by decide) Rk Rj PA;rw[MO]at r1 r2;unfold Ic;dsimp only;simp only[gPi,gSS,gPb,gPm,gPs,gM,gM2,Bp,gOr,Bq,Bu,gAA,gAO,gOA,gOO,Bm,Bo,Br,Bt,Bn,Bs,gId];simp only[Bz,B0,B1,B2,B3,B4,B5,B6,gId,By,gMb,gMm,gBm,gBb,bs,ms]
 have h1:=S4 (n:=7) (l:=CM) (banks:=CF (eqZ (.int .u32)) (3:Int) ([100,101,46,49]:List UInt8) ([]:List (Int×List UInt8))) (by
  intro x hx;simp only[CM,List.mem_cons,List.not_mem_nil,or_false]at hx
  rcases hx with rfl|rfl<;>rfl) Rk (by decide)
 rw[ofX]at h1;have h2:(CM.map Fd)= [(3,0,0,[],[],0,10000,0),(5,0,0,[],[],0,2000,0)]:=rfl;rw[h2]at h1;rw[h1,bs];dsimp only;rw[La r1 r2,bs];dsimp only;rw[Oc r1 r2,bs];rfl
set_option linter.unusedSimpArgs false
set_option linter.unusedVariables false
theorem Sz{n:Int}{l:List Ordr}(hs:∀o∈l,o.2.1.length≤300∧o.2.2.2.length≤300)(hp:∀o∈l,Cn o):(DT n l∧Eh (n,l)=some (Bv n l,0))∨∃e,e≠0∧Eh (n,l)=some ([],e):=by
 by_cases h:Fi n l=0
 ·have hr:=KX.1 h;exact .inl ⟨hr,La hr hp⟩
 ·exact .inr ⟨_,h,S0 (fun o ho=>by have:=hs o ho;omega) h⟩
theorem P7(n:Int)(l:List Ordr):Bv n l≠ []:=by
 unfold Bv;simp
set_option linter.unusedSimpArgs false
set_option linter.unusedVariables false
theorem XF{a m:Nat}(ha:a<256)(hm:m<256):DV .xor .u8 (a:Int) (m:Int)=((a^^^m:Nat):Int):=by
 have e:∀k:Nat,BitVec.ofInt 8 (k:Int)=BitVec.ofNat 8 k:=fun k=>BitVec.ofInt_natCast 8 k;have hx:a^^^m<256:=Nat.xor_lt_two_pow (n:=8) ha hm;show u8.wrap ((BitVec.ofInt 8 (a:Int)^^^BitVec.ofInt 8 (m:Int)).toNat:Int)=_;rw[e,e,BitVec.toNat_xor,BitVec.toNat_ofNat,BitVec.toNat_ofNat,Nat.mod_eq_of_lt ha,Nat.mod_eq_of_lt hm];have h0:0≤((a^^^m:Nat):Int):=Int.natCast_nonneg _;have h1:((a^^^m:Nat):Int)<256:=Int.ofNat_lt.2 hx;generalize ((a^^^m:Nat):Int)=v at h0 h1⊢;show v.emod 256=v;exact Int.emod_eq_of_lt h0 h1
theorem XE{b:UInt8}{y:Int}(h0:y≠0)(h1:0≤y∧y≤255):UInt8.ofNat (DV .xor .u8 (b.toNat:Int) y).toNat≠b:=by
 obtain⟨m,rfl⟩:=Int.eq_ofNat_of_zero_le h1.1;have hb:b.toNat<256:=b.toNat_lt;rw[XF hb (by omega)];intro h;have h2:=congrArg UInt8.toNat h;rw[Int.toNat_natCast,UInt8.toNat_ofNat',Nat.mod_eq_of_lt (Nat.xor_lt_two_pow (n:=8) hb (by omega))]at h2;have h3:b.toNat^^^(b.toNat^^^m)=0:=by rw[h2,Nat.xor_self]
 rw[←Nat.xor_assoc,Nat.xor_self,Nat.zero_xor]at h3;subst h3;exact h0 rfl
theorem W0{α:Type}{t:List α}{k:Nat}{b c:α}(h:t[k]? =some b):t=t.take k++b::t.drop (k+1)∧t.set k c=t.take k++c::t.drop (k+1):=by
 obtain⟨hk,e⟩:=Ae.1 h
 have h1:t=t.take k++b::t.drop (k+1):=by
  have:=List.drop_eq_getElem_cons hk;rw[e]at this;rw[←this,List.take_append_drop]
 refine⟨h1, ?_⟩;rw[List.set_eq_take_append_cons_drop,if_pos hk]
theorem SI(t:List UInt8):(t.map fun b=>(b.toNat:Int)).map (fun n=>UInt8.ofNat n.toNat)=t:=by
 rw[List.map_map]
 conv=>rhs;rw[←List.map_id t]
 apply List.map_congr_left;intro b _;simp
theorem PayBack_law{n at' by':Int}{l:List Ordr}{s:List UInt8}(hA:Ic ()=some true)(hp:∀o∈l,Cn o)(hl:l.length*48≤140737488355328)(hat:0≤at'∧at'≤65535)(hby:0≤by'∧by'≤255):Mp (n,l,s,at',by')=some true:=by
 obtain⟨b1,g1,g2⟩:=W1 (l:=l) (k:=60) (by omega);rw[show((60:Nat):Int)=60 from rfl]at g1;unfold Mp;dsimp only;simp only[gPi,gSS,gPb,gPm,gPs,gM,gM2,Bp,gOr,Bq,Bu,gAA,gAO,gOA,gOO,Bm,Bo,Br,Bt,Bn,Bs,gId];simp only[Bz,B0,B1,B2,B3,B4,B5,B6,gId,By,gMb,gMm,gBm,gBb,bs,ms];rw[hA,bs,if_neg (by decide),QC hl,bs,g1,bs]
 cases b1 with
 |false=>rfl
 |true=>
  by_cases hs:(s.length:Int)>3000
  ·rw[Al hs];rfl
  ·obtain⟨k1,k2⟩:=g2 rfl;have hs':s.length≤3000:=by omega
   rw[Ak hs];simp only[Bool.not_true,Ag,if_false,bs]
   have tail:(Option.bind (Eh (n,l)) fun x68=>if(x68.2 !=(0:Int))=true then some (x68.1==([]:List UInt8))else
     Option.bind (DM x68.1) fun x77=>Option.bind (if(x77.2.2 !=(0:Int))=true then some true else some (x77.1 !=n)) fun x87=>
     Option.bind (if x87=true then some true else Option.bind (F0 x77.2.1) fun v=>Option.bind (F0 l) fun v_1=>Option.bind (Iv (v,v_1)) fun v=>some (!v)) fun x95=>
     if x95=true then some false else Option.bind (if(by'==(0:Int))=true then some true else some (x68.1==([]:List UInt8))) fun x101=>
     if x101=true then some true else if x68.1.length≤70368744177664 then
      Option.bind (if((List.map (fun b=>(b.toNat:Int)) x68.1).length:Int)=0 then none else some ((i64.wrap at').tmod ((List.map (fun b=>(b.toNat:Int)) x68.1).length:Int))) fun x108=>
      if 0≤x108∧x108<((List.map (fun b=>(b.toNat:Int)) x68.1).length:Int)then
          Option.bind (List.map (fun b=>(b.toNat:Int)) x68.1)[x108.toNat]? fun x114=>
           if 0≤x108∧x108<((List.map (fun b=>(b.toNat:Int)) x68.1).length:Int)then
            Option.bind (List.map (fun b=>(b.toNat:Int)) x68.1)[x108.toNat]? fun v=>
             Option.bind (DM (List.map (fun n=>UInt8.ofNat n.toNat) ((List.map (fun b=>(b.toNat:Int)) x68.1).set x108.toNat (DV .xor .u8 x114 by')))) fun x121=>some (x121.2.2 !=(0:Int))
           else none
      else none
     else none)=some true:=by
    rcases Sz (n:=n) k2 hp with⟨r1,f1⟩|⟨e,he,f1⟩
    ·simp only[f1,bs,bne_self_eq_false,Ag,if_false];rw[Oc r1 hp,bs];simp only[bs,bne_self_eq_false,Ag,if_false,QC hl,Ww (show l.length≤1000000000000 by omega) (show l.length≤9223372036854775807 by omega),decide_true,Bool.not_true];by_cases h0:by'=0
     ·rw[if_pos (by rw[h0];rfl)];rfl
     ·have h0':(by'==(0:Int))=false:=by simpa using h0
      have hne:(Bv n l==([]:List UInt8))=false:=beq_eq_false_iff_ne.2 (P7 n l);obtain⟨_,hlen⟩:=LO r1 hp;have hpos:0<(Bv n l).length:=List.length_pos_iff.2 (P7 n l)
      have hr:at'.tmod ((Bv n l).length:Int)=((at'.toNat %(Bv n l).length:Nat):Int):=by
          rw[Int.tmod_eq_emod_of_nonneg hat.1,Int.natCast_emod,Int.toNat_of_nonneg hat.1]
      have hlt:at'.toNat %(Bv n l).length<(Bv n l).length:=Nat.mod_lt _ hpos;simp only[h0',hne,Ag,if_false,bs,List.length_map];rw[if_pos (by omega),if_neg (by omega),bs,AS (show-9223372036854775808≤at' by omega) (by omega),hr,if_pos ⟨by omega,by omega⟩];generalize hk:at'.toNat %(Bv n l).length=k at hlt⊢;have hb:(Bv n l)[k]? =some ((Bv n l)[k]'hlt):=Ai hlt;generalize (Bv n l)[k]'hlt=b at hb;rw[Int.toNat_natCast,List.getElem?_map,hb,Option.map_some,bs,if_pos ⟨by omega,by omega⟩,bs,List.map_set,SI];obtain⟨q1,q2⟩:=W0 (c:=UInt8.ofNat (DV .xor .u8 (b.toNat:Int) by').toNat) hb;have hc:=XE (b:=b) h0 hby;generalize UInt8.ofNat (DV .xor .u8 (b.toNat:Int) by').toNat=c at q2 hc⊢;rcases Od (s:=(Bv n l).set k c) (by rw[List.length_set];omega)with⟨e,he,h⟩|⟨n',l',s1,s2,s3,_⟩
      ·rw[h,bs];have q:(e !=(0:Int))=true:=by simpa using he
       simp only[q]
      ·exact absurd (Uj q1.symm (q2.symm.trans s3)) (Ne.symm hc)
    ·have q:(e !=(0:Int))=true:=by simpa using he
     simp only[f1,bs,q,if_true];rfl
   rcases Od (s:=s) (by omega)with⟨e,he,h⟩|⟨n',l',s1,s2,s3,h⟩
   ·have q:(e==(0:Int))=false:=by simpa using he
    rw[h,bs];simp only[q,Ag,if_false,bne_self_eq_false,List.length_nil,Int.natCast_zero,bs];exact tail
   ·rw[h,bs];have hf:=La s1 s2;simp only[beq_self_eq_true,if_true,hf,bs,bne_self_eq_false,Ag,if_false,s3,Bool.not_true];exact tail
end WB
