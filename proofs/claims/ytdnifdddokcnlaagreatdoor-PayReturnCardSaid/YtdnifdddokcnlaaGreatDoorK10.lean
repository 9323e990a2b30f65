/-
  OWN TEXTS, MERGED (wip/merge.py): Pyf, Pyg, Pyh, Pyi, Pyj, Pyk, Pyu. No condition of their own.
-/
import Derived.Test.YtdnifdddokcnlaaGreatDoorK9
set_option linter.unusedVariables false
set_option linter.unusedSimpArgs false
open Go.IntKind (i64 u64 u8 u32)
namespace WB
open Go Go.RowKit
set_option linter.unusedSimpArgs false
set_option linter.unusedVariables false
theorem Ik{l:List Ordr}(h:l.length*48≤140737488355328):ER l=some l:=by
 unfold ER;dsimp only;have e:=DU (b:=JB) (A:=List Ordr) (T:=List Ordr×Unit×Unit) (fun i a=>(l,(i:Int),a,(),())) (fun a x=>Sum.inl (a++ [x])) (fun a=>(a,(),())) (fun i a=>a.length=i) l (a:= []) rfl ?_ ?_ ?_
 ·rw[show((0:Nat):Int)=0 from rfl]at e;rw[e,Jx (fun x:Ordr=> [x]),bs];simp
 ·intro i x a hx ha;have hi:=(Ae.1 hx).1;unfold JB;dsimp only;simp only[CC hx,if_true,Ct hx,ms,bs]
  rw[if_pos (by
   simp only[List.length_cons,List.length_nil]
   constructor<;>omega),bs,Cb (by omega)]
  rfl
 ·intro i x a a' hx ha hs;cases hs;simp[ha]
 ·intro a ha;unfold JB;dsimp only;rw[CP,if_neg (by decide)]
theorem RN{a b:List Ordr}(hl:a.length=b.length)(h9:a.length≤1000000000000):∀(t u:List Ordr) (i:Nat),a.drop i=t→b.drop i=u→i≤a.length→
  iter I0 (a,b,(i:Int),())=some (if t=u then .inl ()else .inr false)
 | [],u,i,ht,hu,hi=>by
  have h1:i=a.length:=by
   have:=congrArg List.length ht;simp at this;omega
  have h2:u= []:=by
   rw[←hu];apply List.drop_eq_nil_of_le;omega
  subst h1 h2;rw[if_pos rfl];refine itR ?_;unfold I0;dsimp only;rw[CP,if_neg (by decide)]
 |x::t,u,i,ht,hu,hi=>by
  have hx:a[i]? =some x:=by
   have:=congrArg (fun q=>q[0]?) ht;simpa using this
  have hlt:i<a.length:=(Ae.1 hx).1;obtain⟨y,hy⟩:∃y,b[i]? =some y:=⟨b[i]'(by omega),Ai _⟩
  obtain⟨u',rfl⟩:∃u',u=y::u':=by
   rw[←hu,List.drop_eq_getElem_cons (by omega)];rw[Ai (by omega)]at hy;cases hy;exact⟨_,rfl⟩
  have ih:=RN hl h9 t u' (i+1) (by rw[←List.tail_drop,ht];rfl) (by rw[←List.tail_drop,hu];rfl) hlt
  have hq:(x.1==y.1&&(x.2.1==y.2.1&&(x.2.2.1==y.2.2.1&&x.2.2.2==y.2.2.2)))=decide (x=y):=by
   rw[Bool.eq_iff_iff];simp only[Af,beq_iff_eq,decide_eq_true_eq];constructor
   ·rintro⟨e1,e2,e3,e4⟩
    exact Prod.ext e1 (Prod.ext e2 (Prod.ext e3 e4))
   ·rintro rfl
    exact⟨rfl,rfl,rfl,rfl⟩
  have step:I0 (a,b,(i:Int),())=some (if x=y then .inl (a,b,((i+1:Nat):Int),())else .inr (.inr false)):=by
   unfold I0;dsimp only;simp only[CC hx,if_true,Ct hx,Ct hy,ms,bs];rw[hq,Cb (by omega)];by_cases h:x=y
   ·rw[Al h,if_pos h];rfl
   ·rw[Ak h,if_neg h];rfl
  by_cases h:x=y
  ·subst h;rw[if_pos rfl]at step;rw[itL step,ih];simp
  ·rw[if_neg h]at step;rw[itR step,if_neg (by simp[h])]
theorem RM{a b:List Ordr}(h9:a.length≤1000000000000)(hb:b.length≤9223372036854775807):Iz (a,b)=some (decide (a=b)):=by
 unfold Iz;dsimp only;by_cases hl:a.length=b.length
 ·have:((a.length:Int) !=(b.length:Int))=false:=by rw[hl,bne_self_eq_false]
  rw[this,if_neg (by decide)];have e:=RN hl h9 a b 0 rfl rfl (by omega);rw[show((0:Nat):Int)=0 from rfl]at e;rw[e,bs];by_cases h:a=b
  ·rw[if_pos h,Al h]
  ·rw[if_neg h,Ak h]
 ·have:((a.length:Int) !=(b.length:Int))=true:=by rw[bne_iff_ne];omega
  rw[this,if_pos rfl,Ak (fun h=>hl (by rw[h]))]
theorem Sa{l:List Ordr}{k:Nat}(hk:k≤1000):∀(m i:Nat),m=k+1-i→i≤l.length→i≤k+1→(∀o∈l.take i,o.2.1.length≤300∧o.2.2.2.length≤300)→
  ∃r,iter I1 (l,(k:Int),(i:Int),())=some r∧(r=.inr false∨(r=.inl (l,(k:Int),())∧(l.length≤k→∀o∈l,o.2.1.length≤300∧o.2.2.2.length≤300)))
 |m,i,hm,hi,hik,hT=>by
  by_cases hlt:i<l.length∧i≤k
  ·obtain⟨x,hx⟩:∃x,l[i]? =some x:=⟨l[i]'hlt.1,Ai _⟩;by_cases hx3:x.2.1.length≤300∧x.2.2.2.length≤300
   ·obtain⟨r,h1,h2⟩:=Sa (l:=l) hk (m-1) (i+1) (by omega) (by omega) (by omega) (by
     intro o ho;rw[List.take_add_one,hx]at ho;rcases List.mem_append.1 ho with ho|ho
     ·exact hT o ho
     ·simp at ho;rw[ho]
      exact hx3)
    refine⟨r,(itL ?_).trans h1,h2⟩;unfold I1;dsimp only;simp only[gPi,gSS,gPb,gPm,gPs,gM,gM2,Bm,gOr,Bn,Br,gAA,gAO,gOA,gOO,Bj,Bl,Bo,Bq,Bk,Bp,gId];simp only[Bx,By,Bz,B0,B1,B2,B3,B4,gId,Bw,gMb,gMm,gBm,gBb,bs,ms];rw[CC hx,if_pos rfl,bs,Al (show(i:Int)≤(k:Int) by omega),if_pos rfl,Ct hx,bs,Ak (by omega)];simp only[Ag,if_false,bs];rw[Ak (by omega),if_neg (by decide),Cb (by omega)]
   ·refine⟨_,itR (t:=.inr false) ?_,.inl rfl⟩;unfold I1;dsimp only;simp only[gPi,gSS,gPb,gPm,gPs,gM,gM2,Bm,gOr,Bn,Br,gAA,gAO,gOA,gOO,Bj,Bl,Bo,Bq,Bk,Bp,gId];simp only[Bx,By,Bz,B0,B1,B2,B3,B4,gId,Bw,gMb,gMm,gBm,gBb,bs,ms];rw[CC hx,if_pos rfl,bs,Al (show(i:Int)≤(k:Int) by omega),if_pos rfl,Ct hx,bs];by_cases h1:x.2.1.length≤300
    ·rw[Ak (show ¬((x.2.1.length:Int)>300) by omega)];simp only[Ag,if_false,bs];rw[Al (show((x.2.2.2.length:Int)>300) by omega),if_pos rfl]
    ·rw[Al (show((x.2.1.length:Int)>300) by omega)];rfl
  ·refine⟨_,itR (t:=.inl (l,(k:Int),())) ?_,.inr ⟨rfl,fun hl=> ?_⟩⟩
   ·unfold I1;dsimp only;simp only[gPi,gSS,gPb,gPm,gPs,gM,gM2,Bm,gOr,Bn,Br,gAA,gAO,gOA,gOO,Bj,Bl,Bo,Bq,Bk,Bp,gId];simp only[Bx,By,Bz,B0,B1,B2,B3,B4,gId,Bw,gMb,gMm,gBm,gBb,bs,ms];by_cases h1:i<l.length
    ·rw[Al (show(i:Int)<(l.length:Int) by omega),if_pos rfl,bs,Ak (show ¬(i:Int)≤(k:Int) by omega),if_neg (by decide)]
    ·rw[Ak (show ¬(i:Int)<(l.length:Int) by omega),if_neg (by decide),bs,if_neg (by decide)]
   ·have:l.take i=l:=List.take_of_length_le (by omega);rw[this]at hT;exact hT
 termination_by m=>m
 decreasing_by omega
theorem WR{l:List Ordr}{k:Nat}(hk:k≤1000):∃b,K0 (l,(k:Int))=some b∧(b=true→l.length≤k∧∀o∈l,o.2.1.length≤300∧o.2.2.2.length≤300):=by
 obtain⟨r,h1,h2⟩:=Sa (l:=l) hk (k+1) 0 (by omega) (by omega) (by omega) (by simp);unfold K0;dsimp only;rw[show((0:Nat):Int)=0 from rfl]at h1;rw[h1,bs];rcases h2 with rfl|⟨rfl,h2⟩
 ·exact⟨false,rfl,fun h=>by cases h⟩
 ·refine⟨_,rfl,fun h=> ?_⟩;simp only[decide_eq_true_eq]at h;exact⟨by omega,h2 (by omega)⟩
set_option linter.unusedSimpArgs false
set_option linter.unusedVariables false
set_option linter.unusedSimpArgs false
set_option linter.unusedVariables false
theorem Mh{c:Int}:AA c=true↔ -1125899906842624≤c∧c≤1125899906842624:=by simp[AA]
theorem Tp{a b:Int}(h1: -4000000000000000000≤a+b)(h2:a+b≤4000000000000000000):G4 (a,b)=some (if AA a=true∧AA b=true then(if AA (a+b)=true then(a+b,0)else(0,9))else(0,2)):=by
 unfold G4 IX;dsimp only;rw[AR (by omega) (by omega),Gy,bs]
 cases ha:AA a with
 |false=>simp
 |true=>
  simp only[Bool.not_true,Ag,if_false,true_and];rw[Gy];simp only[bs]
  cases hb:AA b with
  |false=>simp
  |true=>
   simp only[Bool.not_true,Ag,if_false,if_true];rw[Gy,bs];cases AA (a+b)<;>rfl
def FA(a c:Int):Int⊕((Int×Unit)⊕(Int×Int)):=if AA c=true then(if AA (a+c)=true then .inl (a+c)else .inr (.inr (0,9)))else .inr (.inr (0,2))
def KI(l:List Int):(Int×Unit)⊕(Int×Int):=A3 FA (fun a=>.inl (a,())) 0 l
def ED(l:List Int):Int×Int:=match KI l with
 | .inl p=>(p.1,0)
 | .inr q=>q
set_option linter.unusedSimpArgs false
set_option linter.unusedVariables false
abbrev Bc:=Int×Int×List UInt8
abbrev SX:=Int×Int×Int×List (Int×List UInt8×Int)×List (Int×Int×List (Int×List UInt8×Int))×Int×Int×Int
def Fd(x:Bc):SX:=(x.1,0,0,[],[],0,x.2.1,0)
def E7(n p:Int):List UInt8:=Lib.decDigits n.toNat++ [45]++Lib.decDigits p.toNat
def E4(n:Int)(x:Bc):Ordr:=(x.1,x.2.2,x.2.1,E7 n x.1)
def EN(prev:Option Int)(p:Int):Bool:=match prev with
 |some q=>decide (p≤q)
 |none=>false
def EZ(c:Int):Bool:=decide (0≤c)&&decide (c≤1125899906842624)
def BS(prev:Option Int)(x:Bc):Int:=
 if x.1=0 then 2 else if EN prev x.1=true then 8 else if EZ x.2.1=false then 2 else if x.2.1>0∧x.2.2≠ []∧BJ x.2.2=false then 12 else 0
theorem W8{p:Option Int}{x:Bc}(c1:x.1=0):BS p x=2:=by unfold BS;rw[if_pos c1]
theorem W5{p:Option Int}{x:Bc}(c1:x.1≠0)(c2:EN p x.1=true):BS p x=8:=by unfold BS;rw[if_neg c1,if_pos c2]
theorem W7{p:Option Int}{x:Bc}(c1:x.1≠0)(c2:EN p x.1=false)(c3:EZ x.2.1=false):BS p x=2:=by unfold BS;rw[if_neg c1,if_neg (by rw[c2];decide),if_pos c3]
theorem W6{p:Option Int}{x:Bc}(c1:x.1≠0)(c2:EN p x.1=false)(c3:EZ x.2.1=true)(c4:x.2.1>0)(c5:x.2.2≠ [])(c6:BJ x.2.2=false):BS p x=12:=by unfold BS;rw[if_neg c1,if_neg (by rw[c2];decide),if_neg (by rw[c3];decide),if_pos ⟨c4,c5,c6⟩]
theorem N2{p:Option Int}{x:Bc}(c1:x.1≠0)(c2:EN p x.1=false)(c3:EZ x.2.1=true)(c4:¬(x.2.1>0∧x.2.2≠ []∧BJ x.2.2=false)):BS p x=0:=by unfold BS;rw[if_neg c1,if_neg (by rw[c2];decide),if_neg (by rw[c3];decide),if_neg c4]
def F8(l:List Bc)(i:Nat):Option Int:=if i=0 then none else(l[i-1]?).map (·.1)
theorem Wg(c:Int):(if decide (c<0)=true then some true else some (decide (c>1125899906842624)))=some (!EZ c):=by
 unfold EZ;by_cases q1:c<0
 ·rw[Al q1,Ak (show ¬0≤c by omega)];rfl
 ·rw[Ak q1,Al (show 0≤c by omega)];by_cases q2:c>1125899906842624
  ·rw[Al q2,Ak (show ¬c≤1125899906842624 by omega)];rfl
  ·rw[Ak q2,Al (show c≤1125899906842624 by omega)];rfl
theorem Ug{l:List Bc}{i:Nat}{x:Bc}(hi:i<l.length)(hl:l.length≤1000000):(if decide ((i:Int)>0)=true then(lAt (l.map Fd) (i64.wrap ((i:Int)-1))).bind fun v=>some (decide (x.1≤v.1))else some false)=some (EN (F8 l i) x.1):=by
 unfold F8;by_cases h0:i=0
 ·subst h0;rfl
 ·rw[Al (show(i:Int)>0 by omega),if_pos rfl,if_neg h0,AR (by omega) (by omega)];have hy:l[i-1]? =some (l[i-1]'(by omega)):=Ai _;rw[hy,show((i:Int)-1)=((i-1:Nat):Int) by omega,Ct (a:=Fd (l[i-1]'(by omega))) (by rw[List.getElem?_map,hy];rfl),bs];rfl
theorem X4{p:Int}(h:0≤p∧p≤4294967295):u64.wrap p=p:=Ya (by omega) (by omega)
theorem W9{n:Int}{l:List Bc}{i:Nat}{x:Bc}{banks:List (Int×List UInt8)}(hx:l[i]? =some x)(hb:(Cc (eqZ (Ty.int IntKind.u32)) (B8 Ty.str) x.1 banks).1=x.2.2)(hn:0≤n∧n≤1000000000)(hp:0≤x.1∧x.1≤4294967295)(hlen:x.2.2.length≤1000000)(hl:l.length≤1000000):
  Kr ((n,0,0,0,l.map Fd),(i:Int),banks)=some (if BS (F8 l i) x=0 then(E4 n x,0)else((0,[],0,[]),BS (F8 l i) x)):=by
 have hi:=(Ae.1 hx).1;unfold Kr;dsimp only;simp only[gPi,gSS,gPb,gPm,gPs,gM,gM2,Bm,gOr,Bn,Br,gAA,gAO,gOA,gOO,Bj,Bl,Bo,Bq,Bk,Bp,gId];simp only[Bx,By,Bz,B0,B1,B2,B3,B4,gId,Bw,gMb,gMm,gBm,gBb,bs,ms];rw[Ct (a:=Fd x) (by rw[List.getElem?_map,hx];rfl),bs];have h1:(Fd x).1=x.1:=rfl;have h2:(Fd x).2.2.2.2.2.2.1=x.2.1:=rfl;rw[h1,h2,hb];by_cases c1:x.1=0
 ·rw[W8 c1,if_neg (show ¬(2:Int)=0 by decide),if_pos (show(x.1==(0:Int))=true by rw[c1];rfl)]
 ·rw[if_neg (show ¬(x.1==(0:Int))=true by simpa using c1),Ug hi hl,bs]
  cases c2:EN (F8 l i) x.1 with
  |true=>rw[W5 c1 c2,if_neg (show ¬(8:Int)=0 by decide),if_pos rfl]
  |false=>
   rw[if_neg (show ¬(false=true) by decide),Wg,bs]
   cases c3:EZ x.2.1 with
   |false=>rw[W7 c1 c2 c3,if_neg (show ¬(2:Int)=0 by decide),if_pos (show(!false)=true from rfl)]
   |true=>
    rw[if_neg (show ¬((!true)=true) by decide)]
    have fin:((strconv_Itoa n).bind fun x67=>if x67.length+([45]:List UInt8).length≤4611686018427387904 then(FG (u64.wrap x.1,10)).bind fun x72=>if(x67++ [45]).length+x72.length≤4611686018427387904 then some ((x.1,x.2.2,x.2.1,x67++ [45]++x72),(0:Int))else none else none)=some (E4 n x,0):=by
     have l1:(Lib.decDigits n.toNat).length≤10:=Es (by omega) (by omega);have l2:(Lib.decDigits x.1.toNat).length≤10:=Es (by omega) (by omega);unfold strconv_Itoa FG;rw[if_pos ⟨by omega,by omega⟩,bs,GQ hn.1,if_pos (by simp;omega),X4 hp,if_pos ⟨rfl,by omega,by omega⟩,bs,GQ hp.1,if_pos (by simp;omega)];rfl
    by_cases c4:x.2.1>0
    ·by_cases c5:x.2.2= []
     ·have:(x.2.2==([]:List UInt8))=true:=by rw[c5];rfl
      rw[N2 c1 c2 c3 (fun h=>h.2.1 c5),if_pos (rfl:(0:Int)=0),this,Al c4];exact fin
     ·have:(x.2.2==([]:List UInt8))=false:=by rw[beq_eq_false_iff_ne];exact c5
      rw[this,Al c4];simp only[Bool.not_false,if_true,Ag,if_false,My (show x.2.2.length≤4611686018427387904 by omega),bs]
      cases c6:BJ x.2.2 with
      |true=>
       rw[N2 c1 c2 c3 (fun h=>by rw[c6]at h;exact absurd h.2.2 (by decide)),if_pos (rfl:(0:Int)=0)];exact fin
      |false=>
       rw[W6 c1 c2 c3 c4 c5 c6,if_neg (show ¬(12:Int)=0 by decide)];rfl
    ·rw[N2 c1 c2 c3 (fun h=>c4 h.1),if_pos (rfl:(0:Int)=0),Ak c4];exact fin
abbrev OA:=Option Int×List Ordr×List Int
abbrev OT:=(List Ordr×List Int×Unit×Unit×Unit)⊕(List Ordr×List Int×Int)
def EX(n:Int)(a:OA)(x:Bc):OA⊕OT:=
 if BS a.1 x≠0 then .inr (.inr ([],[],BS a.1 x))else if x.2.1>0∧x.2.2= []then .inl (some x.1,a.2.1,a.2.2++ [x.1])else if x.2.1>0 then .inl (some x.1,a.2.1++ [E4 n x],a.2.2)else .inl (some x.1,a.2.1,a.2.2)
def EW(n:Int)(l:List Bc):OT:=A3 (EX n) (fun a=>.inl (a.2.1,a.2.2,(),(),())) (none,[],[]) l
def ofS(n:Int)(l:List Bc):List Ordr×List Int×Int:=
 if n<1∨n>1000000000 then([],[],2)else if(l.length:Int)>256 then([],[],5)else match EW n l with
  | .inl p=>if AA (BK p.1)=true then(p.1,p.2.1,0)else([],[],9)
  | .inr q=>q
def DR:Option Int→List Bc→Prop
 |_,[]=>True
 |prev,x::l=>BS prev x=0∧DR (some x.1) l
def BR(n:Int)(l:List Bc):List Ordr:=(l.filter fun x=>decide (x.2.1>0)&& !(x.2.2== [])).map (E4 n)
def DL(l:List Bc):List Int:=(l.filter fun x=>decide (x.2.1>0)&&(x.2.2== [])).map (·.1)
theorem JW{n:Int}:∀{l:List Bc} {a:OA},(DR a.1 l∧A3 (EX n) (fun a=>(.inl (a.2.1,a.2.2,(),(),()):OT)) a l=.inl (a.2.1++BR n l,a.2.2++DL l,(),(),()))∨(¬DR a.1 l∧∃e,e≠0∧A3 (EX n) (fun a=>(.inl (a.2.1,a.2.2,(),(),()):OT)) a l=.inr ([],[],e))
 | [],a=>.inl ⟨trivial,by simp[A3,BR,DL]⟩
 |x::l,a=>by
  rw[A3];unfold EX;by_cases he:BS a.1 x=0
  ·rw[if_neg (by simp[he])]
   have key:∀(b:OA),b.1=some x.1→∀(X:List Ordr) (Y:List Int),b.2.1++BR n l=a.2.1++X→b.2.2++DL l=a.2.2++Y→((DR a.1 (x::l)∧A3 (EX n) (fun a=>(.inl (a.2.1,a.2.2,(),(),()):OT)) b l=.inl (a.2.1++X,a.2.2++Y,(),(),()))∨(¬DR a.1 (x::l)∧∃e,e≠0∧A3 (EX n) (fun a=>(.inl (a.2.1,a.2.2,(),(),()):OT)) b l=.inr ([],[],e))):=by
    intro b hb X Y hX hY;rcases JW (n:=n) (l:=l) (a:=b)with⟨h1,h2⟩|⟨h1,h2⟩
    ·rw[hb]at h1;exact .inl ⟨⟨he,h1⟩,by rw[h2,hX,hY]⟩
    ·rw[hb]at h1;exact .inr ⟨fun hh=>h1 hh.2,h2⟩
   by_cases c1:x.2.1>0∧x.2.2= []
   ·rw[if_pos c1];refine key _ rfl _ _ ?_ ?_
    ·simp[BR,c1]
    ·simp[DL,c1]
   ·rw[if_neg c1];by_cases c2:x.2.1>0
    ·rw[if_pos c2];have c3:x.2.2≠ []:=fun h=>c1 ⟨c2,h⟩;refine key _ rfl _ _ ?_ ?_
     ·simp[BR,c2,c3]
     ·simp[DL,c2,c3]
    ·rw[if_neg c2];refine key _ rfl _ _ ?_ ?_
     ·simp[BR,c2]
     ·simp[DL,c2]
  ·rw[if_pos he];exact .inr ⟨fun hh=>he hh.1,_,he,rfl⟩
theorem Ru{prev:Option Int}{x:Bc}(h:BS prev x=0):x.1≠0∧EN prev x.1=false∧(0≤x.2.1∧x.2.1≤1125899906842624)∧(x.2.1>0→x.2.2≠ []→BJ x.2.2=true):=by
 unfold BS at h;split at h
 ·cases h
 ·rename_i h1;split at h
  ·cases h
  ·rename_i h2;split at h
   ·cases h
   ·rename_i h3;split at h
    ·cases h
    ·rename_i h4;have h3':EZ x.2.1=true:=by simpa using h3
     simp only[EZ,Af,decide_eq_true_eq]at h3';refine⟨h1,by simpa using h2,h3',fun q1 q2=> ?_⟩
     cases hn:BJ x.2.2 with
     |true=>rfl
     |false=>exact absurd ⟨q1,q2,hn⟩ h4
theorem KF:∀{l:List Bc} {prev:Option Int},DR prev l→∀x∈l,x.1≠0∧(0≤x.2.1∧x.2.1≤1125899906842624)∧(x.2.1>0→x.2.2≠ []→BJ x.2.2=true)
 | [],_,_,x,hx=>by cases hx
 |y::l,prev,h,x,hx=>by
  obtain⟨k1,_,k3,k4⟩:=Ru h.1;rcases List.mem_cons.1 hx with rfl|hx
  ·exact⟨k1,k3,k4⟩
  ·exact KF h.2 x hx
theorem Nh{n:Int}{l:List Bc}(h:∀x∈l,x.1≠0∧(0≤x.2.1∧x.2.1≤1125899906842624)∧(x.2.1>0→x.2.2≠ []→BJ x.2.2=true)):∀o∈BR n l,∃x∈l,o=E4 n x∧x.2.1>0∧x.2.1≤1125899906842624∧x.1≠0∧BJ x.2.2=true:=by
 intro o ho;obtain⟨x,hx,rfl⟩:=List.mem_map.1 ho;rw[List.mem_filter]at hx;simp only[Af,decide_eq_true_eq,Bool.not_eq_true',beq_eq_false_iff_ne]at hx;obtain⟨k1,k2,k3⟩:=h x hx.1;exact⟨x,hx.1,rfl,hx.2.1,k2.2,k1,k3 hx.2.1 hx.2.2⟩
theorem QV(n:Int)(l:List Bc):(BR n l).length≤l.length:=by
 unfold BR;rw[List.length_map];exact List.length_filter_le _ _
theorem VS{n:Int}{l:List Bc}{p}(h:EW n l=.inl p)(hl:l.length≤256):DR none l∧p=(BR n l,DL l,(),(),())∧(∀o∈p.1,1≤o.2.2.1∧o.2.2.1≤1125899906842624)∧p.1.length≤256:=by
 rcases JW (n:=n) (l:=l) (a:=(none,[],[]))with⟨h1,h2⟩|⟨_,e,_,h2⟩
 ·have h3:EW n l=.inl ([]++BR n l,[]++DL l,(),(),()):=h2;rw[h3]at h;cases h;have hlen:=QV n l;refine⟨h1,rfl,fun o ho=> ?_,by simp;omega⟩;obtain⟨x,_,rfl,k1,k2,_⟩:=Nh (KF h1) o ho;exact⟨by show 1≤x.2.1;omega,k2⟩
 ·have h3:EW n l=.inr ([],[],e):=h2;rw[h3]at h;cases h
theorem Wv(n:Int):(if decide (n<1)=true then some true else some (decide (n>1000000000)))=some (decide (n<1∨n>1000000000)):=by
 by_cases h:n<1
 ·simp[h]
 ·simp[h]
theorem SN{n:Int}{l:List Bc}{banks:List (Int×List UInt8)}(hb:∀x∈l,(Cc (eqZ (Ty.int IntKind.u32)) (B8 Ty.str) x.1 banks).1=x.2.2)(hp:∀x∈l,0≤x.1∧x.1≤4294967295)(hlen:∀x∈l,x.2.2.length≤1000000):
  Kj ((n,0,0,0,l.map Fd),banks)=some (ofS n l):=by
 unfold Kj ofS;dsimp only;simp only[gPi,gSS,gPb,gPm,gPs,gM,gM2,Bm,gOr,Bn,Br,gAA,gAO,gOA,gOO,Bj,Bl,Bo,Bq,Bk,Bp,gId];simp only[Bx,By,Bz,B0,B1,B2,B3,B4,gId,Bw,gMb,gMm,gBm,gBb,bs,ms];rw[Wv,bs];by_cases h1:n<1∨n>1000000000
 ·rw[Al h1,if_pos rfl,if_pos h1]
 ·rw[Ak h1,if_neg (by decide),if_neg h1,List.length_map];by_cases h2:(l.length:Int)>256
  ·rw[if_pos h2,if_pos (Al h2)]
  ·rw[if_neg h2,if_neg (by rw[Ak h2];decide)];have e:=DU (b:=Kk) (A:=OA) (T:=OT) (fun i a=>(banks,(l.length:Int),(i:Int),n,0,0,0,l.map Fd,a.2.1,a.2.2,(),(),(),(),())) (EX n) (fun a=>.inl (a.2.1,a.2.2,(),(),())) (fun i a=>a.1=F8 l i∧a.2.1.length≤i∧a.2.2.length≤i) l (a:=(none,[],[])) ⟨rfl,by simp,by simp⟩ ?_ ?_ ?_
   ·rw[show((0:Nat):Int)=0 from rfl]at e;rw[e,bs];show(match EW n l with| .inl p=>_| .inr q=>_)=_
    cases hw:EW n l with
    |inr q=>rfl
    |inl p=>
     obtain⟨_,_,hc,hpl⟩:=VS hw (by omega);simp only;rw[Le (by omega) (fun o ho=>by have:=hc o ho;omega),bs];simp only;cases AA (BK p.1)<;>rfl
   ·intro i x a hx ha;obtain⟨ha1,ha2,ha3⟩:=ha;have hi:=(Ae.1 hx).1;have hm:=List.mem_of_getElem? hx;unfold Kk;dsimp only;simp only[gPi,gSS,gPb,gPm,gPs,gM,gM2,Bm,gOr,Bn,Br,gAA,gAO,gOA,gOO,Bj,Bl,Bo,Bq,Bk,Bp,gId];simp only[Bx,By,Bz,B0,B1,B2,B3,B4,gId,Bw,gMb,gMm,gBm,gBb,bs,ms];rw[Al (show(i:Int)<(l.length:Int) by omega),if_pos rfl,W9 hx (hb x hm) (by omega) (hp x hm) (hlen x hm) (by omega),bs,←ha1];unfold EX;by_cases he:BS a.1 x=0
    ·rw[if_pos he,if_neg (show ¬(BS a.1 x≠0) by simp[he])];dsimp only;rw[if_neg (show ¬(((0:Int) !=0)=true) by decide)];have o1:(E4 n x).2.2.1=x.2.1:=rfl;have o2:(E4 n x).2.1=x.2.2:=rfl;have o3:(E4 n x).1=x.1:=rfl;rw[o1,o2,o3];by_cases c2:x.2.1>0
     ·rw[Al c2,if_pos rfl,bs];by_cases c3:x.2.2= []
      ·have:(x.2.2==([]:List UInt8))=true:=by rw[c3];rfl
       rw[this,if_pos rfl,if_pos (by simp only[List.length_cons,List.length_nil];constructor<;>omega),bs,if_pos ⟨c2,c3⟩];dsimp only;rw[Cb (by omega)];rfl
      ·have:(x.2.2==([]:List UInt8))=false:=by rw[beq_eq_false_iff_ne];exact c3
       rw[this,if_neg (by decide),if_pos rfl,if_pos (by simp only[List.length_cons,List.length_nil];constructor<;>omega),bs,if_neg (fun h=>c3 h.2),if_pos c2];dsimp only;rw[Cb (by omega)];rfl
     ·rw[Ak c2,if_neg (by decide),bs,if_neg (by decide),if_neg (by decide),bs,if_neg (fun h=>c2 h.1),if_neg c2];dsimp only;rw[Cb (by omega)];rfl
    ·rw[if_neg he,if_pos (show BS a.1 x≠0 from he)];dsimp only;rw[if_pos (show(BS a.1 x !=0)=true by simpa using he)];rfl
   ·intro i x a a' hx ha hs;obtain⟨ha1,ha2,ha3⟩:=ha
    have hpr:F8 l (i+1)=some x.1:=by
     unfold F8;rw[if_neg (by omega),Nat.add_sub_cancel,hx];rfl
    unfold EX at hs;rw[hpr];split at hs
    ·cases hs
    ·split at hs
     ·cases hs;exact⟨rfl,by simp;omega,by simp;omega⟩
     ·split at hs
      ·cases hs;exact⟨rfl,by simp;omega,by simp;omega⟩
      ·cases hs;exact⟨rfl,by simp;omega,by simp;omega⟩
   ·intro a _;unfold Kk;dsimp only;rw[CP,if_neg (by decide)]
set_option linter.unusedSimpArgs false
set_option linter.unusedVariables false
set_option linter.unusedSimpArgs false
set_option linter.unusedVariables false
theorem VT(n:Int)(l:List Bc):(∃e,e≠0∧ofS n l=([],[],e))∨((1≤n∧n≤1000000000)∧l.length≤256∧DR none l∧AA (BK (BR n l))=true∧ofS n l=(BR n l,DL l,0)):=by
 unfold ofS;by_cases h1:n<1∨n>1000000000
 ·exact .inl ⟨2,by decide,by rw[if_pos h1]⟩
 ·by_cases h2:(l.length:Int)>256
  ·exact .inl ⟨5,by decide,by rw[if_neg h1,if_pos h2]⟩
  ·rw[if_neg h1,if_neg h2];rcases JW (n:=n) (l:=l) (a:=(none,[],[]))with⟨k1,h3⟩|⟨_,e,he,h3⟩
   ·have h4:EW n l=.inl ([]++BR n l,[]++DL l,(),(),()):=h3;rw[h4];simp only[List.nil_append];by_cases h5:AA (BK (BR n l))=true
    ·rw[if_pos h5];exact .inr ⟨by omega,by omega,k1,h5,rfl⟩
    ·rw[if_neg h5];exact .inl ⟨9,by decide,rfl⟩
   ·have h4:EW n l=.inr ([],[],e):=h3;rw[h4];exact .inl ⟨e,he,rfl⟩
theorem QK{b:UInt8}(h:dgt b=true):okb b=true:=by
 have:=Dp.1 h;unfold okb;rw[Al (show(b.toNat:Int)<97 by omega),Ak (show ¬(b.toNat:Int)<48 by omega),Ak (show ¬(b.toNat:Int)>57 by omega)];simp
theorem VH{n p:Int}(hn:0≤n∧n≤1000000000)(hp:0≤p∧p≤4294967295):BJ (E7 n p)=true:=by
 have l1:(Lib.decDigits n.toNat).length≤10:=Es (by omega) (by omega);have l2:(Lib.decDigits p.toNat).length≤10:=Es (by omega) (by omega);have l3:=List.length_pos_iff.2 (HE n.toNat);have l4:=List.length_pos_iff.2 (HE p.toNat);unfold BJ;simp only[Af,Bool.not_eq_true',beq_eq_false_iff_ne,decide_eq_true_eq];refine⟨⟨⟨?_, ?_⟩, ?_⟩, ?_⟩
 ·rw[List.all_eq_true];intro b hb;unfold E7 at hb;rcases List.mem_append.1 hb with hb|hb
  ·rcases List.mem_append.1 hb with hb|hb
   ·exact QK (Jn hb)
   ·simp at hb;rw[hb];decide
  ·exact QK (Jn hb)
 ·intro h;have:=congrArg List.length h;simp[E7]at this
 ·intro h;have:=congrArg List.length h;simp[E7]at this;omega
 ·simp[E7];omega
theorem Wz{n p q:Int}(hp:0≤p)(hq:0≤q)(h:E7 n p=E7 n q):p=q:=by
 have h1:=Ua (List.append_cancel_left h);omega
theorem Ry:∀{l:List Bc} {prev:Option Int},DR prev l→(l.map (·.1)).Pairwise (· < ·)∧∀q,prev=some q→∀x∈l,q<x.1
 | [],prev,_=>⟨by simp,fun q _ x hx=>by cases hx⟩
 |y::l,prev,h=>by
  obtain⟨_,h2,_⟩:=Ru h.1;obtain⟨k1,k2⟩:=Ry h.2;refine⟨?_, ?_⟩
  ·rw[List.map_cons,List.pairwise_cons];refine⟨fun p hp=> ?_,k1⟩;obtain⟨x,hx,rfl⟩:=List.mem_map.1 hp;exact k2 _ rfl x hx
  ·intro q hq x hx
   have h3:q<y.1:=by
    subst hq;have:¬y.1≤q:=by simpa[EN]using h2
    omega
   rcases List.mem_cons.1 hx with rfl|hx
   ·exact h3
   ·exact Int.lt_trans h3 (k2 _ rfl x hx)
theorem We{n:Int}{l:List Bc}(hn:1≤n∧n≤1000000000)(hl:l.length≤256)(hp:∀x∈l,0≤x.1∧x.1≤4294967295)(h:DR none l)(hf:AA (BK (BR n l))=true):Fj n (BR n l)∧∀o∈BR n l,Ej o:=by
 have hlen:=QV n l;refine⟨⟨hn,by omega,fun o ho=> ?_, ?_,hf⟩,fun o ho=> ?_⟩
 ·obtain⟨x,hx,rfl,k1,k2,k3,k4⟩:=Nh (KF h) o ho;refine⟨k3,k4, ?_,VH (by omega) (hp x hx)⟩;show inC x.2.1=true;unfold inC;rw[Al (show 1≤x.2.1 by omega),Al k2];rfl
 ·have hr:=(Ry h).1;unfold BR;rw[List.map_map];rw[List.pairwise_map]at hr;rw[List.Nodup,List.pairwise_map];have hs:=hr.filter (fun x=>decide (x.2.1>0)&& !(x.2.2== []));refine List.Pairwise.imp_of_mem ?_ hs;intro a b ha hb hab e;have ha':=hp a (List.mem_filter.1 ha).1;have hb':=hp b (List.mem_filter.1 hb).1;have:=Wz (n:=n) ha'.1 hb'.1 e;omega
 ·obtain⟨x,hx,rfl,_⟩:=Nh (KF h) o ho;exact hp x hx
abbrev CS:List Bc:= [(3,10000,[100,101,46,49]),(5,2000,[])]
abbrev Nf:Ordr:=(3,[100,101,46,49],10000,[55,45,51])
theorem Wy:E7 7 3= [55,45,51]:=by
 unfold E7;rw[show((7:Int).toNat)=7 from rfl,show((3:Int).toNat)=3 from rfl,DC (by decide),DC (by decide)];rfl
theorem Wc:E4 7 (3,10000,[100,101,46,49])=Nf:=by
 unfold E4;rw[Wy]
theorem Rw:DR none CS:=⟨by decide,by decide,trivial⟩
theorem Ng:BR 7 CS= [Nf]:=by
 rw[←Wc];rfl
theorem Wf:DL CS= [5]:=rfl
theorem PM:AA (BK (BR 7 CS))=true:=by
 rw[Ng];decide
theorem Rx:∀x∈CS,0≤x.1∧x.1≤4294967295:=by decide
theorem ofX:ofS 7 CS=([Nf],[5],0):=by
 rcases VT 7 CS with⟨e,he,h⟩|⟨_,_,_,_,h⟩
 ·exfalso
  have h1:EW 7 CS=.inl ([]++BR 7 CS,[]++DL CS,(),(),()):=by
   rcases JW (n:=7) (l:=CS) (a:=(none,[],[]))with⟨_,h3⟩|⟨h3,_⟩
   ·exact h3
   ·exact absurd Rw h3
  unfold ofS at h;rw[if_neg (by decide),if_neg (by decide),h1]at h;simp only[List.nil_append]at h;rw[if_pos PM]at h;simp only[Prod.mk.injEq]at h;exact he h.2.2.symm
 ·rw[h,Ng,Wf]
theorem awake_eq:Ib ()=some true:=by
 obtain⟨r1,r2⟩:=We (n:=7) (l:=CS) (by decide) (by decide) Rx Rw PM;rw[Ng]at r1 r2;unfold Ib;dsimp only;simp only[gPi,gSS,gPb,gPm,gPs,gM,gM2,Bm,gOr,Bn,Br,gAA,gAO,gOA,gOO,Bj,Bl,Bo,Bq,Bk,Bp,gId];simp only[Bx,By,Bz,B0,B1,B2,B3,B4,gId,Bw,gMb,gMm,gBm,gBb,bs,ms]
 have h1:=SN (n:=7) (l:=CS) (banks:=CJ (eqZ (.int .u32)) (3:Int) ([100,101,46,49]:List UInt8) ([]:List (Int×List UInt8))) (by
  intro x hx;simp only[CS,List.mem_cons,List.not_mem_nil,or_false]at hx
  rcases hx with rfl|rfl<;>rfl) Rx (by decide)
 rw[ofX]at h1;have h2:(CS.map Fd)= [(3,0,0,[],[],0,10000,0),(5,0,0,[],[],0,2000,0)]:=rfl;rw[h2]at h1;rw[h1,bs];dsimp only;rw[SJ r1 r2,bs];dsimp only;rw[SP r1 r2,bs];rfl
set_option linter.unusedSimpArgs false
set_option linter.unusedVariables false
theorem Tn(a b:Int):G4 (a,b)=some (if AA a=true∧AA b=true then(if AA (a+b)=true then(a+b,0)else(0,9))else(0,2)):=by
 by_cases h:AA a=true∧AA b=true
 ·have h1:=Mh.1 h.1;have h2:=Mh.1 h.2;exact Tp (by omega) (by omega)
 ·rw[if_neg h];unfold G4 IX;dsimp only;rw[Gy,bs]
  cases ha:AA a with
  |false=>simp
  |true=>
   have hb:AA b=false:=by
    cases hb:AA b with
    |false=>rfl
    |true=>exact absurd ⟨ha,hb⟩ h
   simp only[Bool.not_true,Ag,if_false];rw[Gy];simp only[bs,hb];simp
theorem Tq{l:List Int}(h:l.length≤1000000000):IV l=some (ED l):=by
 unfold IV ED;dsimp only;have e:=DU (b:=IW) (A:=Int) (T:=(Int×Unit)⊕(Int×Int)) (fun i a=>(a,l,(l.length:Int),(i:Int),())) FA (fun a=>.inl (a,())) (fun _ a=>AA a=true) l (a:=0) rfl ?_ ?_ ?_
 ·rw[show((0:Nat):Int)=0 from rfl]at e;rw[e,bs];show(match KI l with| .inl p=>_| .inr q=>_)=_;cases KI l<;>rfl
 ·intro i c a hc ha;have hi:=(Ae.1 hc).1;unfold IW;dsimp only;simp only[CC hc,if_true,Ct hc,ms,bs];rw[Tn,bs,ha];unfold FA
  cases h1:AA c with
  |false=>simp;rfl
  |true=>
   cases h2:AA (a+c)with
   |false=>simp[h2];rfl
   |true=>
    simp only[and_self,if_true,h2];rw[Cb (by omega)];rfl
 ·intro i c a a' hc ha hs;unfold FA at hs;split at hs
  ·split at hs
   ·rename_i h2;cases hs;exact h2
   ·cases hs
  ·cases hs
 ·intro a ha;unfold IW;dsimp only;rw[CP,if_neg (by decide)]
theorem QZ{l:List Ordr}(h:l.length≤1000000):Io l=some (ED (l.map fun o=>o.2.2.1)):=by
 unfold Io;dsimp only;have e:=DU (b:=Kn) (A:=List Int) (T:=List Int×Unit×Unit) (fun i a=>(l,(l.length:Int),(i:Int),a,(),())) (fun a (x:Ordr)=>Sum.inl (a++ [x.2.2.1])) (fun a=>(a,(),())) (fun i a=>a.length=i) l (a:= []) rfl ?_ ?_ ?_
 ·rw[show((0:Nat):Int)=0 from rfl]at e;rw[e,Jx (fun x:Ordr=> [x.2.2.1]),bs];simp only[List.nil_append];rw[show(l.flatMap fun x:Ordr=> [x.2.2.1])=l.map fun o=>o.2.2.1 by clear h e;induction l with|nil=>rfl|cons y l ih=>simp[ih],Tq (by simp;omega),bs]
 ·intro i x a hx ha;have hi:=(Ae.1 hx).1;unfold Kn;dsimp only;simp only[CC hx,if_true,Ct hx,ms,bs];rw[if_pos (by simp only[List.length_cons,List.length_nil];constructor<;>omega),bs,Cb (by omega)];rfl
 ·intro i x a a' hx ha hs;cases hs;simp[ha]
 ·intro a ha;unfold Kn;dsimp only;rw[CP,if_neg (by decide)]
theorem RJ:∀{l:List Int} {a s:Int},AA a=true→A3 FA (fun a=>.inl (a,())) a l=.inl (s,())→s=a+l.sum∧AA s=true
 | [],a,s,ha,h=>by
  cases h;exact⟨by simp,ha⟩
 |c::l,a,s,ha,h=>by
  rw[A3]at h;unfold FA at h;by_cases h1:AA c=true
  ·rw[if_pos h1]at h;by_cases h2:AA (a+c)=true
   ·rw[if_pos h2]at h;obtain⟨e,hf⟩:=RJ h2 h;exact⟨by rw[e,List.sum_cons];omega,hf⟩
   ·rw[if_neg h2]at h;cases h
  ·rw[if_neg h1]at h;cases h
theorem RK:∀{l:List Int} {a:Int} {q:Int×Int},A3 FA (fun a=>.inl (a,())) a l=.inr q→q.2≠0
 | [],a,q,h=>by cases h
 |c::l,a,q,h=>by
  rw[A3]at h;unfold FA at h;by_cases h1:AA c=true
  ·rw[if_pos h1]at h;by_cases h2:AA (a+c)=true
   ·rw[if_pos h2]at h;exact RK h
   ·rw[if_neg h2]at h;cases h;decide
  ·rw[if_neg h1]at h;cases h;decide
theorem Sw{l:List Int}(h:(ED l).2=0):(ED l).1=l.sum∧AA l.sum=true:=by
 unfold ED at h⊢
 cases hs:KI l with
 |inl p=>
  obtain⟨s,u⟩:=p;obtain⟨e,hf⟩:=RJ rfl hs;rw[Int.zero_add]at e;exact⟨e,e▸hf⟩
 |inr q=>
  rw[hs]at h;exact absurd h (RK hs)
def Bu(ref:List UInt8)(o:Ordr):Bool:=o.2.2.2==ref
theorem OC(l:List Ordr)(ref:List UInt8)(k:Int):Ia (l,ref,k,())=Option.bind (if decide (k<(l.length:Int))=true then Option.bind (lAt l k) fun v=>some (!(v.2.2.2==ref))else some false) fun b=>
  if b=true then some (.inl (l,ref,i64.wrap (k+1),()))else some (.inr (l,ref,k,())):=by
 unfold Ia;dsimp only;simp only[gPi,gSS,gPb,gPm,gPs,gM,gM2,Bm,gOr,Bn,Br,gAA,gAO,gOA,gOO,Bj,Bl,Bo,Bq,Bk,Bp,gId];simp only[Bx,By,Bz,B0,B1,B2,B3,B4,gId,Bw,gMb,gMm,gBm,gBb,bs,ms]
theorem OE{l:List Ordr}{ref:List UInt8}(h9:l.length≤1000000):∀(t:List Ordr) (k:Nat),l.drop k=t→k≤l.length→iter Ia (l,ref,(k:Int),())=some (l,ref,((k+t.findIdx (Bu ref):Nat):Int),())
 | [],k,ht,hk=>by
  have:k=l.length:=by
   have:=congrArg List.length ht;simp at this;omega
  subst this;rw[Ck,OC,CP,if_neg (by decide),bs,if_neg (by decide)];rfl
 |x::t,k,ht,hk=>by
  have hx:l[k]? =some x:=by
   have:=congrArg (fun q=>q[0]?) ht;simpa using this
  have hlt:=(Ae.1 hx).1;rw[Ck,OC,CC hx,if_pos rfl,Ct hx,bs,bs]
  cases hp:x.2.2.2==ref with
  |true=>
   have:(x::t).findIdx (Bu ref)=0:=by simp[List.findIdx_cons,Bu,hp]
   rw[this,if_neg (by decide)];rfl
  |false=>
   have:(x::t).findIdx (Bu ref)=t.findIdx (Bu ref)+1:=by simp[List.findIdx_cons,Bu,hp]
   rw[this,if_pos (by decide),Cb (by omega)];show iter Ia (l,ref,((k+1:Nat):Int),())=_;rw[OE h9 t (k+1) (by rw[←List.tail_drop,ht];rfl) hlt]
   congr 4
   omega
theorem Qb{l:List Ordr}{ref:List UInt8}(h9:l.length≤1000000):∀(t:List Ordr) (k:Nat),l.drop k=t→k≤l.length→iter I9 (l,ref,(l.length:Int),(k:Int),())=some (if t.findIdx (Bu ref)<t.length then .inr ((k+t.findIdx (Bu ref):Nat):Int)else .inl ())
 | [],k,ht,hk=>by
  have:k=l.length:=by
   have:=congrArg List.length ht;simp at this;omega
  subst this;rw[Ck];unfold I9;dsimp only;rw[CP,if_neg (by decide)];rfl
 |x::t,k,ht,hk=>by
  have hx:l[k]? =some x:=by
   have:=congrArg (fun q=>q[0]?) ht;simpa using this
  have hlt:=(Ae.1 hx).1;rw[Ck];unfold I9 Nm;dsimp only;rw[CC hx,if_pos rfl,Ct hx,ms,bs,bs]
  cases hp:x.2.2.2==ref with
  |true=>
   have:(x::t).findIdx (Bu ref)=0:=by simp[List.findIdx_cons,Bu,hp]
   rw[this,if_pos rfl,if_pos (by simp)];rfl
  |false=>
   have:(x::t).findIdx (Bu ref)=t.findIdx (Bu ref)+1:=by simp[List.findIdx_cons,Bu,hp]
   rw[this,if_neg (by decide),Cb (by omega)];show iter I9 (l,ref,(l.length:Int),((k+1:Nat):Int),())=_;rw[Qb h9 t (k+1) (by rw[←List.tail_drop,ht];rfl) hlt];by_cases hh:t.findIdx (Bu ref)<t.length
   ·rw[if_pos hh,if_pos (by show _+1<t.length+1;omega)]
    congr 3
    omega
   ·rw[if_neg hh,if_neg (by show ¬(_+1<t.length+1);omega)]
theorem TI{p q:List Ordr}(h:p.length+q.length≤1000000):KL [p,q]=some (p++q):=by
 have a0:FD ([p,q],0,[p,q],2,0,())=some (.inl ([p,q],(p.length:Int),[p,q],2,1,())):=by
  unfold FD;dsimp only;rw[if_pos (by decide),show lAt [p,q] (0:Int)=some p from rfl,ms,bs,Int.zero_add,AR (by omega) (by omega),Ak (by omega),if_neg (by decide)];rfl
 have a1:FD ([p,q],(p.length:Int),[p,q],2,1,())=some (.inl ([p,q],((p.length+q.length:Nat):Int),[p,q],2,2,())):=by
  unfold FD;dsimp only;rw[if_pos (by decide),show lAt [p,q] (1:Int)=some q from rfl,ms,bs,←Int.natCast_add,AR (by omega) (by omega),Ak (by omega),if_neg (by decide)];rfl
 have a2:FD ([p,q],((p.length+q.length:Nat):Int),[p,q],2,2,())=some (.inr ([p,q],((p.length+q.length:Nat):Int),())):=by
  unfold FD;dsimp only;rw[if_neg (by decide)]
 have b0:FC ([p,q],2,0,[],(),())=some (.inl ([p,q],2,1,p,(),())):=by
  unfold FC;dsimp only;rw[if_pos (by decide),show lAt [p,q] (0:Int)=some p from rfl,ms,bs,Lv (by simp;omega) (by omega),bs];rfl
 have b1:FC ([p,q],2,1,p,(),())=some (.inl ([p,q],2,2,p++q,(),())):=by
  unfold FC;dsimp only;rw[if_pos (by decide),show lAt [p,q] (1:Int)=some q from rfl,ms,bs,Lv (by omega) (by omega),bs];rfl
 have b2:FC ([p,q],2,2,p++q,(),())=some (.inr (p++q,(),())):=by
  unfold FC;dsimp only;rw[if_neg (by decide)]
 have e1:iter FD ([p,q],0,[p,q],2,0,())=some ([p,q],((p.length+q.length:Nat):Int),()):=by
  rw[Ck,a0];show iter _ _=_;rw[Ck,a1];show iter _ _=_;rw[Ck,a2];rfl
 have e2:iter FC ([p,q],2,0,[],(),())=some (p++q,(),()):=by
  rw[Ck,b0];show iter _ _=_;rw[Ck,b1];show iter _ _=_;rw[Ck,b2];rfl
 unfold KL NF;dsimp only;rw[show(([p,q]:List (List Ordr)).length:Int)=2 from rfl,e1,bs];dsimp only;rw[if_pos ⟨by omega,by omega,by omega⟩,bs,show(([p,q]:List (List Ordr)).length:Int)=2 from rfl,e2,bs]
def QU:Ordr:=(0,[],0,[])
theorem W4{l:List Ordr}{ref:List UInt8}(h9:l.length≤1000000):Km (l,ref)=some (match l[l.findIdx (Bu ref)]? with
  |some o=>(l.take (l.findIdx (Bu ref))++l.drop (l.findIdx (Bu ref)+1),o,true)
  |none=>(l,QU,false)):=by
 have e1:=Qb (ref:=ref) h9 l 0 rfl (by omega);rw[show((0:Nat):Int)=0 from rfl,Nat.zero_add]at e1
 have e2:KN (l,ref)=some (if l.findIdx (Bu ref)<l.length then((l.findIdx (Bu ref):Nat):Int)else-1):=by
  unfold KN;dsimp only;rw[e1,bs];by_cases h:l.findIdx (Bu ref)<l.length
  ·rw[if_pos h,if_pos h]
  ·rw[if_neg h,if_neg h]
 unfold Km;dsimp only;rw[e2,bs];by_cases h:l.findIdx (Bu ref)<l.length
 ·rw[if_pos h];generalize l.findIdx (Bu ref)=i at h⊢;obtain⟨o,ho⟩:∃o,l[i]? =some o:=⟨l[i],Ai h⟩
  have s1:AJ l 0 (i:Int)=some (l.take i):=by
   have:=De (xs:=l) (i:=0) (j:=i) (by omega) (by omega);simpa using this
  have s2:AJ l ((i+1:Nat):Int) (l.length:Int)=some (l.drop (i+1)):=by
   have:=De (xs:=l) (i:=i+1) (j:=l.length) (by omega) (by omega);simpa using this
  rw[Ak (by omega),if_neg (by decide),s1,bs,Cb (by omega),s2,bs,TI (by simp;omega),bs,Ct ho,ms,bs,ho]
 ·rw[if_neg h,if_pos (by decide)];have:l[l.findIdx (Bu ref)]? =none:=List.getElem?_eq_none (by omega);rw[this];unfold NE;rw[if_pos ⟨by omega,by omega⟩,bs];rfl
theorem PayReturn_law{l:List Ordr}{ref:List UInt8}(hA:Ib ()=some true)(hl:l.length*48≤140737488355328):M6 (l,ref)=some true:=by
 obtain⟨b1,g1,g2⟩:=WR (l:=l) (k:=60) (by omega);rw[show((60:Nat):Int)=60 from rfl]at g1;unfold M6;dsimp only;simp only[gPi,gSS,gPb,gPm,gPs,gM,gM2,Bm,gOr,Bn,Br,gAA,gAO,gOA,gOO,Bj,Bl,Bo,Bq,Bk,Bp,gId];simp only[Bx,By,Bz,B0,B1,B2,B3,B4,gId,Bw,gMb,gMm,gBm,gBb,bs,ms];rw[hA,bs,if_neg (by decide),Ik hl,bs,g1,bs]
 cases b1 with
 |false=>rfl
 |true=>
  by_cases hs:(ref.length:Int)>300
  ·rw[Al hs];rfl
  ·obtain⟨k1,k2⟩:=g2 rfl;rw[Ak hs];simp only[Bool.not_true,Ag,if_false,bs];have e1:=OE (ref:=ref) (show l.length≤1000000 by omega) l 0 rfl (by omega);rw[show((0:Nat):Int)=0 from rfl,Nat.zero_add]at e1;rw[e1,bs];dsimp only;rw[W4 (by omega),bs];by_cases h:l.findIdx (Bu ref)<l.length
   ·generalize l.findIdx (Bu ref)=i at h⊢;obtain⟨o,ho⟩:∃o,l[i]? =some o:=⟨l[i],Ai h⟩
    have s1:AJ l 0 (i:Int)=some (l.take i):=by
     have:=De (xs:=l) (i:=0) (j:=i) (by omega) (by omega);simpa using this
    have s2:AJ l ((i+1:Nat):Int) (l.length:Int)=some (l.drop (i+1)):=by
     have:=De (xs:=l) (i:=i+1) (j:=l.length) (by omega) (by omega);simpa using this
    have hne:((i:Int)==(l.length:Int))=false:=beq_eq_false_iff_ne.2 (by omega);rw[ho];dsimp only;have hx:(l.take i++l.drop (i+1)).length≤60:=by simp;omega
    simp only[hne,Ag,if_false,Bool.not_true,Ct ho,bs,beq_self_eq_true,Bool.and_self];rw[Ik (by omega),bs,s1,bs,Ik (by rw[List.length_take];omega),bs,Cb (by omega),s2,bs,Ik (by rw[List.length_drop];omega),bs];rw[if_pos (by rw[List.length_append]at hx;constructor<;>omega),RM (by omega) (by omega),bs,bs];simp only[decide_true,Bool.not_true,Ag,if_false];rw[QZ (by omega),bs,QZ (by omega),bs];by_cases q1:(ED (l.map fun o=>o.2.2.1)).2=0
    ·by_cases q2:(ED ((l.take i++l.drop (i+1)).map fun o=>o.2.2.1)).2=0
     ·obtain⟨r1,r2⟩:=Sw q1;obtain⟨r3,r4⟩:=Sw q2
      have hsum:(l.map fun o=>o.2.2.1).sum=((l.take i++l.drop (i+1)).map fun o=>o.2.2.1).sum+o.2.2.1:=by
          have hl2:l=l.take i++o::l.drop (i+1):=by
           obtain⟨hk,e⟩:=Ae.1 ho;have:=List.drop_eq_getElem_cons hk;rw[e]at this;rw[←this,List.take_append_drop]
          conv=>lhs;rw[hl2]
          simp only[List.map_append,List.map_cons,List.sum_append,List.sum_cons];omega
      have hf:=Mh.1 r2;simp only[q1,q2,bne_self_eq_false,Ag,if_false,bs];rw[r1,r3,←hsum,AR (by omega) (by omega),beq_self_eq_true]
     ·have q:((ED ((l.take i++l.drop (i+1)).map fun o=>o.2.2.1)).2 !=(0:Int))=true:=by simpa using q2
      simp only[q1,q,bne_self_eq_false,Ag,if_false,if_true,bs]
    ·have q:((ED (l.map fun o=>o.2.2.1)).2 !=(0:Int))=true:=by simpa using q1
     simp only[q,if_true,bs]
   ·have hi:l.findIdx (Bu ref)=l.length:=by
     have:=List.findIdx_le_length (p:=Bu ref) (xs:=l);omega
    rw[hi];have hn:l[l.length]? =none:=List.getElem?_eq_none (by omega);rw[hn];simp only[beq_self_eq_true,Bool.not_false,if_true,bs,QU,Bool.and_self];rw[Ik hl,bs,bs,RM (by omega) (by omega),bs,bs,Al rfl]
end WB
