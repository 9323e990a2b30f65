/-
  OWN TEXTS, MERGED (wip/merge.py): Pyf, Pyg, Pyh, Pyi, Pyj, Pyk, Pyq, Pys. No condition of their own.
-/
import Derived.Test.YtdnifdddokcnlaaDoorK9
set_option linter.unusedVariables false
set_option linter.unusedSimpArgs false
open Go.IntKind (i64 u64 u8 u32)
namespace WB
open Go Go.RowKit
set_option linter.unusedSimpArgs false
set_option linter.unusedVariables false
theorem JD{l:List Ordr}(h:l.length*48≤140737488355328):FX l=some l:=by
 unfold FX;dsimp only;have e:=EH (b:=Js) (A:=List Ordr) (T:=List Ordr×Unit×Unit) (fun i a=>(l,(i:Int),a,(),())) (fun a x=>Sum.inl (a++ [x])) (fun a=>(a,(),())) (fun i a=>a.length=i) l (a:= []) rfl ?_ ?_ ?_
 ·rw[show((0:Nat):Int)=0 from rfl]at e;rw[e,LB (fun x:Ordr=> [x]),bs];simp
 ·intro i x a hx ha;have hi:=(Ae.1 hx).1;unfold Js;dsimp only;simp only[D9 hx,if_true,D7 hx,ms,bs]
  rw[if_pos (by
   simp only[List.length_cons,List.length_nil]
   constructor<;>omega),bs,CL (by omega)]
  rfl
 ·intro i x a a' hx ha hs;cases hs;simp[ha]
 ·intro a ha;unfold Js;dsimp only;rw[DU,if_neg (by decide)]
theorem Rc{a b:List Ordr}(hl:a.length=b.length)(h9:a.length≤1000000000000):∀(t u:List Ordr) (i:Nat),a.drop i=t→b.drop i=u→i≤a.length→
  iter Ik (a,b,(i:Int),())=some (if t=u then .inl ()else .inr false)
 | [],u,i,ht,hu,hi=>by
  have h1:i=a.length:=by
   have:=congrArg List.length ht;simp at this;omega
  have h2:u= []:=by
   rw[←hu];apply List.drop_eq_nil_of_le;omega
  subst h1 h2;rw[if_pos rfl];refine itR ?_;unfold Ik;dsimp only;rw[DU,if_neg (by decide)]
 |x::t,u,i,ht,hu,hi=>by
  have hx:a[i]? =some x:=by
   have:=congrArg (fun q=>q[0]?) ht;simpa using this
  have hlt:i<a.length:=(Ae.1 hx).1;obtain⟨y,hy⟩:∃y,b[i]? =some y:=⟨b[i]'(by omega),Ai _⟩
  obtain⟨u',rfl⟩:∃u',u=y::u':=by
   rw[←hu,List.drop_eq_getElem_cons (by omega)];rw[Ai (by omega)]at hy;cases hy;exact⟨_,rfl⟩
  have ih:=Rc hl h9 t u' (i+1) (by rw[←List.tail_drop,ht];rfl) (by rw[←List.tail_drop,hu];rfl) hlt
  have hq:(x.1==y.1&&(x.2.1==y.2.1&&(x.2.2.1==y.2.2.1&&x.2.2.2==y.2.2.2)))=decide (x=y):=by
   rw[Bool.eq_iff_iff];simp only[Af,beq_iff_eq,decide_eq_true_eq];constructor
   ·rintro⟨e1,e2,e3,e4⟩
    exact Prod.ext e1 (Prod.ext e2 (Prod.ext e3 e4))
   ·rintro rfl
    exact⟨rfl,rfl,rfl,rfl⟩
  have step:Ik (a,b,(i:Int),())=some (if x=y then .inl (a,b,((i+1:Nat):Int),())else .inr (.inr false)):=by
   unfold Ik;dsimp only;simp only[D9 hx,if_true,D7 hx,D7 hy,ms,bs];rw[hq,CL (by omega)];by_cases h:x=y
   ·rw[Al h,if_pos h];rfl
   ·rw[Ak h,if_neg h];rfl
  by_cases h:x=y
  ·subst h;rw[if_pos rfl]at step;rw[itL step,ih];simp
  ·rw[if_neg h]at step;rw[itR step,if_neg (by simp[h])]
theorem VP{a b:List Ordr}(h9:a.length≤1000000000000)(hb:b.length≤9223372036854775807):Kb (a,b)=some (decide (a=b)):=by
 unfold Kb;dsimp only;by_cases hl:a.length=b.length
 ·have:((a.length:Int) !=(b.length:Int))=false:=by rw[hl,bne_self_eq_false]
  rw[this,if_neg (by decide)];have e:=Rc hl h9 a b 0 rfl rfl (by omega);rw[show((0:Nat):Int)=0 from rfl]at e;rw[e,bs];by_cases h:a=b
  ·rw[if_pos h,Al h]
  ·rw[if_neg h,Ak h]
 ·have:((a.length:Int) !=(b.length:Int))=true:=by rw[bne_iff_ne];omega
  rw[this,if_pos rfl,Ak (fun h=>hl (by rw[h]))]
theorem Rn{l:List Ordr}{k:Nat}(hk:k≤1000):∀(m i:Nat),m=k+1-i→i≤l.length→i≤k+1→(∀o∈l.take i,o.2.1.length≤300∧o.2.2.2.length≤300)→
  ∃r,iter Im (l,(k:Int),(i:Int),())=some r∧(r=.inr false∨(r=.inl (l,(k:Int),())∧(l.length≤k→∀o∈l,o.2.1.length≤300∧o.2.2.2.length≤300)))
 |m,i,hm,hi,hik,hT=>by
  by_cases hlt:i<l.length∧i≤k
  ·obtain⟨x,hx⟩:∃x,l[i]? =some x:=⟨l[i]'hlt.1,Ai _⟩;by_cases hx3:x.2.1.length≤300∧x.2.2.2.length≤300
   ·obtain⟨r,h1,h2⟩:=Rn (l:=l) hk (m-1) (i+1) (by omega) (by omega) (by omega) (by
     intro o ho;rw[List.take_add_one,hx]at ho;rcases List.mem_append.1 ho with ho|ho
     ·exact hT o ho
     ·simp at ho;rw[ho]
      exact hx3)
    refine⟨r,(itL ?_).trans h1,h2⟩;unfold Im;dsimp only;simp only[gPi,gSS,gPb,gPm,gPs,gM,gM2,Bo,gOr,Bp,Bt,gAA,gAO,gOA,gOO,Bl,Bn,Bq,Bs,Bm,Br,gId];simp only[Bz,B0,B1,B2,B3,B4,B5,B6,gId,By,gMb,gMm,gBm,gBb,bs,ms];rw[D9 hx,if_pos rfl,bs,Al (show(i:Int)≤(k:Int) by omega),if_pos rfl,D7 hx,bs,Ak (by omega)];simp only[Ag,if_false,bs];rw[Ak (by omega),if_neg (by decide),CL (by omega)]
   ·refine⟨_,itR (t:=.inr false) ?_,.inl rfl⟩;unfold Im;dsimp only;simp only[gPi,gSS,gPb,gPm,gPs,gM,gM2,Bo,gOr,Bp,Bt,gAA,gAO,gOA,gOO,Bl,Bn,Bq,Bs,Bm,Br,gId];simp only[Bz,B0,B1,B2,B3,B4,B5,B6,gId,By,gMb,gMm,gBm,gBb,bs,ms];rw[D9 hx,if_pos rfl,bs,Al (show(i:Int)≤(k:Int) by omega),if_pos rfl,D7 hx,bs];by_cases h1:x.2.1.length≤300
    ·rw[Ak (show ¬((x.2.1.length:Int)>300) by omega)];simp only[Ag,if_false,bs];rw[Al (show((x.2.2.2.length:Int)>300) by omega),if_pos rfl]
    ·rw[Al (show((x.2.1.length:Int)>300) by omega)];rfl
  ·refine⟨_,itR (t:=.inl (l,(k:Int),())) ?_,.inr ⟨rfl,fun hl=> ?_⟩⟩
   ·unfold Im;dsimp only;simp only[gPi,gSS,gPb,gPm,gPs,gM,gM2,Bo,gOr,Bp,Bt,gAA,gAO,gOA,gOO,Bl,Bn,Bq,Bs,Bm,Br,gId];simp only[Bz,B0,B1,B2,B3,B4,B5,B6,gId,By,gMb,gMm,gBm,gBb,bs,ms];by_cases h1:i<l.length
    ·rw[Al (show(i:Int)<(l.length:Int) by omega),if_pos rfl,bs,Ak (show ¬(i:Int)≤(k:Int) by omega),if_neg (by decide)]
    ·rw[Ak (show ¬(i:Int)<(l.length:Int) by omega),if_neg (by decide),bs,if_neg (by decide)]
   ·have:l.take i=l:=List.take_of_length_le (by omega);rw[this]at hT;exact hT
 termination_by m=>m
 decreasing_by omega
theorem Rm{l:List Ordr}{k:Nat}(hk:k≤1000):∃b,Il (l,(k:Int))=some b∧(b=true→l.length≤k∧∀o∈l,o.2.1.length≤300∧o.2.2.2.length≤300):=by
 obtain⟨r,h1,h2⟩:=Rn (l:=l) hk (k+1) 0 (by omega) (by omega) (by omega) (by simp);unfold Il;dsimp only;rw[show((0:Nat):Int)=0 from rfl]at h1;rw[h1,bs];rcases h2 with rfl|⟨rfl,h2⟩
 ·exact⟨false,rfl,fun h=>by cases h⟩
 ·refine⟨_,rfl,fun h=> ?_⟩;simp only[decide_eq_true_eq]at h;exact⟨by omega,h2 (by omega)⟩
set_option linter.unusedSimpArgs false
set_option linter.unusedVariables false
theorem TA(n:Nat):∃b t,Lib.decDigits n=b::t∧dgt b=true:=by
 cases h:Lib.decDigits n with
 |nil=>exact absurd h (GA n)
 |cons b t=>exact⟨b,t,rfl,H7 (n:=n) (by rw[h];simp)⟩
theorem Su{n:Int}{l:List Ordr}:∀x∈AS n l,∃b t,x=b::t∧b≠99:=by
 intro x hx;rcases List.mem_cons.1 hx with rfl|hx
 ·exact⟨112,_,rfl,by decide⟩
 ·obtain⟨o,ho,rfl⟩:=List.mem_map.1 hx;obtain⟨b,t,h1,h2⟩:=TA o.1.toNat
  refine⟨b,t++32::Bv 32 [o.2.1,BT o.2.2.1,o.2.2.2], ?_,(IR h2).2.2⟩;unfold BH ws4;show Lib.decDigits o.1.toNat++32::Bv 32 [o.2.1,BT o.2.2.1,o.2.2.2]=_;rw[h1];rfl
theorem S8(A:List UInt8):∃t,CD A=99::t:=⟨_,rfl⟩
theorem Sv{n:Int}{l:List Ordr}(h:BZ n l):∀x∈AS n l,∀b∈x,b≠10:=by
 intro x hx b hb;rcases List.mem_cons.1 hx with rfl|hx
 ·exact KK KH (Fb _) (Fb _) (Hr _) b hb
 ·obtain⟨o,ho,rfl⟩:=List.mem_map.1 hx;obtain⟨k1,k2,k3,k4⟩:=h.2.2.1 o ho;exact KK (Fb _) (Hs k2) (Hr _) (Hs k4) b hb
def Fe(n:Int)(l:List Ordr):List (List UInt8):=AS n l++ [CD (A4 (AS n l))]
theorem Pc(n:Int)(l:List Ordr):A2 n l=A4 (Fe n l):=by
 unfold A2 Fe;rw[PF];simp[A4]
theorem NU{n:Int}{l:List Ordr}(h:BZ n l):∀x∈Fe n l,∀b∈x,b≠10:=by
 intro x hx;rcases List.mem_append.1 hx with hx|hx
 ·exact Sv h x hx
 ·rw[List.mem_singleton.1 hx];exact Oo _
theorem PJ:∀{L M:List (List UInt8)} {t:List UInt8},(∀x∈L,∀b∈x,b≠10)→(∀x∈M,∀b∈x,b≠10)→A4 L=A4 M++t→∃N,L=M++N∧A4 N=t
 |L,[],t,_,_,h=>⟨L,rfl,h⟩
 | [],y::M,t,_,_,h=>by
  rw[EJ]at h;simp[A4]at h
 |x::L,y::M,t,hL,hM,h=>by
  rw[EJ,EJ,List.append_assoc,List.cons_append]at h
  have e:x=y∧A4 L=A4 M++t:=by
   have hx:=hL x (by simp);have hy:=hM y (by simp);clear hL hM
   induction x generalizing y with
   |nil=>
    cases y with
    |nil=>exact⟨rfl,(List.cons.inj h).2⟩
    |cons c y=>exact absurd (List.cons.inj h).1.symm (hy c (by simp))
   |cons b x ih=>
    cases y with
    |nil=>exact absurd (List.cons.inj h).1 (hx b (by simp))
    |cons c y=>
     obtain⟨e1,e2⟩:=List.cons.inj h;obtain⟨e3,e4⟩:=ih y e2 (fun z hz=>hx z (by simp[hz])) (fun z hz=>hy z (by simp[hz]));exact⟨by rw[e1,e3],e4⟩
  obtain⟨N,h1,h2⟩:=PJ (fun z hz=>hL z (by simp[hz])) (fun z hz=>hM z (by simp[hz])) e.2;exact⟨N,by rw[e.1,h1];rfl,h2⟩
theorem Pb{n n':Int}{l l':List Ordr}{t:List UInt8}(h:BZ n l)(h':BZ n' l')(e:A2 n l=A2 n' l'++t):t= []:=by
 rw[Pc,Pc]at e;obtain⟨N,h1,h2⟩:=PJ (NU h) (NU h') e;by_cases hN:N= []
 ·subst hN;exact h2.symm
 ·exfalso;obtain⟨N,x,rfl⟩:∃N' x,N=N'++ [x]:=⟨N.dropLast,N.getLast hN,(List.dropLast_concat_getLast hN).symm⟩
  have e1:AS n l++ [CD (A4 (AS n l))]=(Fe n' l'++N)++ [x]:=by
   have:Fe n l=Fe n' l'++(N++ [x]):=h1;rw[←List.append_assoc]at this;exact this
  have e2:AS n l=Fe n' l'++N:=(List.append_inj' e1 rfl).1
  have hm:CD (A4 (AS n' l'))∈AS n l:=by
   rw[e2];unfold Fe;simp
  obtain⟨b,r,h3,h4⟩:=Su _ hm;obtain⟨r',h5⟩:=S8 (A4 (AS n' l'));rw[h5]at h3;exact h4 (List.cons.inj h3).1.symm
theorem T7{n n' n'':Int}{l l' l'':List Ordr}(h:BZ n l)(h':BZ n' l')(h'':BZ n'' l'')(e:A2 n'' l''=A2 n l++A2 n' l'):False:=by
 have:=Pb h'' h e;unfold A2 at this;simp at this
set_option linter.unusedSimpArgs false
set_option linter.unusedVariables false
set_option linter.unusedSimpArgs false
set_option linter.unusedVariables false
abbrev AZ:=Int×Int×List UInt8
abbrev Se:=Int×Int×Int×List (Int×List UInt8×Int)×List (Int×Int×List (Int×List UInt8×Int))×Int×Int×Int
def EV(x:AZ):Se:=(x.1,0,0,[],[],0,x.2.1,0)
def E0(n p:Int):List UInt8:=Lib.decDigits n.toNat++ [45]++Lib.decDigits p.toNat
def Ev(n:Int)(x:AZ):Ordr:=(x.1,x.2.2,x.2.1,E0 n x.1)
def EE(prev:Option Int)(p:Int):Bool:=match prev with
 |some q=>decide (p≤q)
 |none=>false
def ER(c:Int):Bool:=decide (0≤c)&&decide (c≤1125899906842624)
def BR(prev:Option Int)(x:AZ):Int:=
 if x.1=0 then 2 else if EE prev x.1=true then 8 else if ER x.2.1=false then 2 else if x.2.1>0∧x.2.2≠ []∧BJ x.2.2=false then 12 else 0
theorem VD{p:Option Int}{x:AZ}(c1:x.1=0):BR p x=2:=by unfold BR;rw[if_pos c1]
theorem VA{p:Option Int}{x:AZ}(c1:x.1≠0)(c2:EE p x.1=true):BR p x=8:=by unfold BR;rw[if_neg c1,if_pos c2]
theorem VC{p:Option Int}{x:AZ}(c1:x.1≠0)(c2:EE p x.1=false)(c3:ER x.2.1=false):BR p x=2:=by unfold BR;rw[if_neg c1,if_neg (by rw[c2];decide),if_pos c3]
theorem VB{p:Option Int}{x:AZ}(c1:x.1≠0)(c2:EE p x.1=false)(c3:ER x.2.1=true)(c4:x.2.1>0)(c5:x.2.2≠ [])(c6:BJ x.2.2=false):BR p x=12:=by unfold BR;rw[if_neg c1,if_neg (by rw[c2];decide),if_neg (by rw[c3];decide),if_pos ⟨c4,c5,c6⟩]
theorem MU{p:Option Int}{x:AZ}(c1:x.1≠0)(c2:EE p x.1=false)(c3:ER x.2.1=true)(c4:¬(x.2.1>0∧x.2.2≠ []∧BJ x.2.2=false)):BR p x=0:=by unfold BR;rw[if_neg c1,if_neg (by rw[c2];decide),if_neg (by rw[c3];decide),if_neg c4]
def F3(l:List AZ)(i:Nat):Option Int:=if i=0 then none else(l[i-1]?).map (·.1)
theorem Vl(c:Int):(if decide (c<0)=true then some true else some (decide (c>1125899906842624)))=some (!ER c):=by
 unfold ER;by_cases q1:c<0
 ·rw[Al q1,Ak (show ¬0≤c by omega)];rfl
 ·rw[Ak q1,Al (show 0≤c by omega)];by_cases q2:c>1125899906842624
  ·rw[Al q2,Ak (show ¬c≤1125899906842624 by omega)];rfl
  ·rw[Ak q2,Al (show c≤1125899906842624 by omega)];rfl
theorem Tc{l:List AZ}{i:Nat}{x:AZ}(hi:i<l.length)(hl:l.length≤1000000):(if decide ((i:Int)>0)=true then(lAt (l.map EV) (i64.wrap ((i:Int)-1))).bind fun v=>some (decide (x.1≤v.1))else some false)=some (EE (F3 l i) x.1):=by
 unfold F3;by_cases h0:i=0
 ·subst h0;rfl
 ·rw[Al (show(i:Int)>0 by omega),if_pos rfl,if_neg h0,AR (by omega) (by omega)];have hy:l[i-1]? =some (l[i-1]'(by omega)):=Ai _;rw[hy,show((i:Int)-1)=((i-1:Nat):Int) by omega,D7 (a:=EV (l[i-1]'(by omega))) (by rw[List.getElem?_map,hy];rfl),bs];rfl
theorem W2{p:Int}(h:0≤p∧p≤4294967295):u64.wrap p=p:=WX (by omega) (by omega)
theorem VE{n:Int}{l:List AZ}{i:Nat}{x:AZ}{banks:List (Int×List UInt8)}(hx:l[i]? =some x)(hb:(Ca (eqZ (Ty.int IntKind.u32)) (BA Ty.str) x.1 banks).1=x.2.2)(hn:0≤n∧n≤1000000000)(hp:0≤x.1∧x.1≤4294967295)(hlen:x.2.2.length≤1000000)(hl:l.length≤1000000):
  JS ((n,0,0,0,l.map EV),(i:Int),banks)=some (if BR (F3 l i) x=0 then(Ev n x,0)else((0,[],0,[]),BR (F3 l i) x)):=by
 have hi:=(Ae.1 hx).1;unfold JS;dsimp only;simp only[gPi,gSS,gPb,gPm,gPs,gM,gM2,Bo,gOr,Bp,Bt,gAA,gAO,gOA,gOO,Bl,Bn,Bq,Bs,Bm,Br,gId];simp only[Bz,B0,B1,B2,B3,B4,B5,B6,gId,By,gMb,gMm,gBm,gBb,bs,ms];rw[D7 (a:=EV x) (by rw[List.getElem?_map,hx];rfl),bs];have h1:(EV x).1=x.1:=rfl;have h2:(EV x).2.2.2.2.2.2.1=x.2.1:=rfl;rw[h1,h2,hb];by_cases c1:x.1=0
 ·rw[VD c1,if_neg (show ¬(2:Int)=0 by decide),if_pos (show(x.1==(0:Int))=true by rw[c1];rfl)]
 ·rw[if_neg (show ¬(x.1==(0:Int))=true by simpa using c1),Tc hi hl,bs]
  cases c2:EE (F3 l i) x.1 with
  |true=>rw[VA c1 c2,if_neg (show ¬(8:Int)=0 by decide),if_pos rfl]
  |false=>
   rw[if_neg (show ¬(false=true) by decide),Vl,bs]
   cases c3:ER x.2.1 with
   |false=>rw[VC c1 c2 c3,if_neg (show ¬(2:Int)=0 by decide),if_pos (show(!false)=true from rfl)]
   |true=>
    rw[if_neg (show ¬((!true)=true) by decide)]
    have fin:((strconv_Itoa n).bind fun x67=>if x67.length+([45]:List UInt8).length≤4611686018427387904 then(F7 (u64.wrap x.1,10)).bind fun x72=>if(x67++ [45]).length+x72.length≤4611686018427387904 then some ((x.1,x.2.2,x.2.1,x67++ [45]++x72),(0:Int))else none else none)=some (Ev n x,0):=by
     have l1:(Lib.decDigits n.toNat).length≤10:=Em (by omega) (by omega);have l2:(Lib.decDigits x.1.toNat).length≤10:=Em (by omega) (by omega);unfold strconv_Itoa F7;rw[if_pos ⟨by omega,by omega⟩,bs,GM hn.1,if_pos (by simp;omega),W2 hp,if_pos ⟨rfl,by omega,by omega⟩,bs,GM hp.1,if_pos (by simp;omega)];rfl
    by_cases c4:x.2.1>0
    ·by_cases c5:x.2.2= []
     ·have:(x.2.2==([]:List UInt8))=true:=by rw[c5];rfl
      rw[MU c1 c2 c3 (fun h=>h.2.1 c5),if_pos (rfl:(0:Int)=0),this,Al c4];exact fin
     ·have:(x.2.2==([]:List UInt8))=false:=by rw[beq_eq_false_iff_ne];exact c5
      rw[this,Al c4];simp only[Bool.not_false,if_true,Ag,if_false,LT (show x.2.2.length≤4611686018427387904 by omega),bs]
      cases c6:BJ x.2.2 with
      |true=>
       rw[MU c1 c2 c3 (fun h=>by rw[c6]at h;exact absurd h.2.2 (by decide)),if_pos (rfl:(0:Int)=0)];exact fin
      |false=>
       rw[VB c1 c2 c3 c4 c5 c6,if_neg (show ¬(12:Int)=0 by decide)];rfl
    ·rw[MU c1 c2 c3 (fun h=>c4 h.1),if_pos (rfl:(0:Int)=0),Ak c4];exact fin
abbrev OA:=Option Int×List Ordr×List Int
abbrev OT:=(List Ordr×List Int×Unit×Unit×Unit)⊕(List Ordr×List Int×Int)
def EP(n:Int)(a:OA)(x:AZ):OA⊕OT:=
 if BR a.1 x≠0 then .inr (.inr ([],[],BR a.1 x))else if x.2.1>0∧x.2.2= []then .inl (some x.1,a.2.1,a.2.2++ [x.1])else if x.2.1>0 then .inl (some x.1,a.2.1++ [Ev n x],a.2.2)else .inl (some x.1,a.2.1,a.2.2)
def EO(n:Int)(l:List AZ):OT:=A7 (EP n) (fun a=>.inl (a.2.1,a.2.2,(),(),())) (none,[],[]) l
def ofS(n:Int)(l:List AZ):List Ordr×List Int×Int:=
 if n<1∨n>1000000000 then([],[],2)else if(l.length:Int)>256 then([],[],5)else match EO n l with
  | .inl p=>if C5 (Bf p.1)=true then(p.1,p.2.1,0)else([],[],9)
  | .inr q=>q
def DM:Option Int→List AZ→Prop
 |_,[]=>True
 |prev,x::l=>BR prev x=0∧DM (some x.1) l
def BQ(n:Int)(l:List AZ):List Ordr:=(l.filter fun x=>decide (x.2.1>0)&& !(x.2.2== [])).map (Ev n)
def DC(l:List AZ):List Int:=(l.filter fun x=>decide (x.2.1>0)&&(x.2.2== [])).map (·.1)
theorem JC{n:Int}:∀{l:List AZ} {a:OA},(DM a.1 l∧A7 (EP n) (fun a=>(.inl (a.2.1,a.2.2,(),(),()):OT)) a l=.inl (a.2.1++BQ n l,a.2.2++DC l,(),(),()))∨(¬DM a.1 l∧∃e,e≠0∧A7 (EP n) (fun a=>(.inl (a.2.1,a.2.2,(),(),()):OT)) a l=.inr ([],[],e))
 | [],a=>.inl ⟨trivial,by simp[A7,BQ,DC]⟩
 |x::l,a=>by
  rw[A7];unfold EP;by_cases he:BR a.1 x=0
  ·rw[if_neg (by simp[he])]
   have key:∀(b:OA),b.1=some x.1→∀(X:List Ordr) (Y:List Int),b.2.1++BQ n l=a.2.1++X→b.2.2++DC l=a.2.2++Y→((DM a.1 (x::l)∧A7 (EP n) (fun a=>(.inl (a.2.1,a.2.2,(),(),()):OT)) b l=.inl (a.2.1++X,a.2.2++Y,(),(),()))∨(¬DM a.1 (x::l)∧∃e,e≠0∧A7 (EP n) (fun a=>(.inl (a.2.1,a.2.2,(),(),()):OT)) b l=.inr ([],[],e))):=by
    intro b hb X Y hX hY;rcases JC (n:=n) (l:=l) (a:=b)with⟨h1,h2⟩|⟨h1,h2⟩
    ·rw[hb]at h1;exact .inl ⟨⟨he,h1⟩,by rw[h2,hX,hY]⟩
    ·rw[hb]at h1;exact .inr ⟨fun hh=>h1 hh.2,h2⟩
   by_cases c1:x.2.1>0∧x.2.2= []
   ·rw[if_pos c1];refine key _ rfl _ _ ?_ ?_
    ·simp[BQ,c1]
    ·simp[DC,c1]
   ·rw[if_neg c1];by_cases c2:x.2.1>0
    ·rw[if_pos c2];have c3:x.2.2≠ []:=fun h=>c1 ⟨c2,h⟩;refine key _ rfl _ _ ?_ ?_
     ·simp[BQ,c2,c3]
     ·simp[DC,c2,c3]
    ·rw[if_neg c2];refine key _ rfl _ _ ?_ ?_
     ·simp[BQ,c2]
     ·simp[DC,c2]
  ·rw[if_pos he];exact .inr ⟨fun hh=>he hh.1,_,he,rfl⟩
theorem QG{prev:Option Int}{x:AZ}(h:BR prev x=0):x.1≠0∧EE prev x.1=false∧(0≤x.2.1∧x.2.1≤1125899906842624)∧(x.2.1>0→x.2.2≠ []→BJ x.2.2=true):=by
 unfold BR at h;split at h
 ·cases h
 ·rename_i h1;split at h
  ·cases h
  ·rename_i h2;split at h
   ·cases h
   ·rename_i h3;split at h
    ·cases h
    ·rename_i h4;have h3':ER x.2.1=true:=by simpa using h3
     simp only[ER,Af,decide_eq_true_eq]at h3';refine⟨h1,by simpa using h2,h3',fun q1 q2=> ?_⟩
     cases hn:BJ x.2.2 with
     |true=>rfl
     |false=>exact absurd ⟨q1,q2,hn⟩ h4
theorem Kg:∀{l:List AZ} {prev:Option Int},DM prev l→∀x∈l,x.1≠0∧(0≤x.2.1∧x.2.1≤1125899906842624)∧(x.2.1>0→x.2.2≠ []→BJ x.2.2=true)
 | [],_,_,x,hx=>by cases hx
 |y::l,prev,h,x,hx=>by
  obtain⟨k1,_,k3,k4⟩:=QG h.1;rcases List.mem_cons.1 hx with rfl|hx
  ·exact⟨k1,k3,k4⟩
  ·exact Kg h.2 x hx
theorem M9{n:Int}{l:List AZ}(h:∀x∈l,x.1≠0∧(0≤x.2.1∧x.2.1≤1125899906842624)∧(x.2.1>0→x.2.2≠ []→BJ x.2.2=true)):∀o∈BQ n l,∃x∈l,o=Ev n x∧x.2.1>0∧x.2.1≤1125899906842624∧x.1≠0∧BJ x.2.2=true:=by
 intro o ho;obtain⟨x,hx,rfl⟩:=List.mem_map.1 ho;rw[List.mem_filter]at hx;simp only[Af,decide_eq_true_eq,Bool.not_eq_true',beq_eq_false_iff_ne]at hx;obtain⟨k1,k2,k3⟩:=h x hx.1;exact⟨x,hx.1,rfl,hx.2.1,k2.2,k1,k3 hx.2.1 hx.2.2⟩
theorem Qv(n:Int)(l:List AZ):(BQ n l).length≤l.length:=by
 unfold BQ;rw[List.length_map];exact List.length_filter_le _ _
theorem UX{n:Int}{l:List AZ}{p}(h:EO n l=.inl p)(hl:l.length≤256):DM none l∧p=(BQ n l,DC l,(),(),())∧(∀o∈p.1,1≤o.2.2.1∧o.2.2.1≤1125899906842624)∧p.1.length≤256:=by
 rcases JC (n:=n) (l:=l) (a:=(none,[],[]))with⟨h1,h2⟩|⟨_,e,_,h2⟩
 ·have h3:EO n l=.inl ([]++BQ n l,[]++DC l,(),(),()):=h2;rw[h3]at h;cases h;have hlen:=Qv n l;refine⟨h1,rfl,fun o ho=> ?_,by simp;omega⟩;obtain⟨x,_,rfl,k1,k2,_⟩:=M9 (Kg h1) o ho;exact⟨by show 1≤x.2.1;omega,k2⟩
 ·have h3:EO n l=.inr ([],[],e):=h2;rw[h3]at h;cases h
theorem V0(n:Int):(if decide (n<1)=true then some true else some (decide (n>1000000000)))=some (decide (n<1∨n>1000000000)):=by
 by_cases h:n<1
 ·simp[h]
 ·simp[h]
theorem RY{n:Int}{l:List AZ}{banks:List (Int×List UInt8)}(hb:∀x∈l,(Ca (eqZ (Ty.int IntKind.u32)) (BA Ty.str) x.1 banks).1=x.2.2)(hp:∀x∈l,0≤x.1∧x.1≤4294967295)(hlen:∀x∈l,x.2.2.length≤1000000):
  JN ((n,0,0,0,l.map EV),banks)=some (ofS n l):=by
 unfold JN ofS;dsimp only;simp only[gPi,gSS,gPb,gPm,gPs,gM,gM2,Bo,gOr,Bp,Bt,gAA,gAO,gOA,gOO,Bl,Bn,Bq,Bs,Bm,Br,gId];simp only[Bz,B0,B1,B2,B3,B4,B5,B6,gId,By,gMb,gMm,gBm,gBb,bs,ms];rw[V0,bs];by_cases h1:n<1∨n>1000000000
 ·rw[Al h1,if_pos rfl,if_pos h1]
 ·rw[Ak h1,if_neg (by decide),if_neg h1,List.length_map];by_cases h2:(l.length:Int)>256
  ·rw[if_pos h2,if_pos (Al h2)]
  ·rw[if_neg h2,if_neg (by rw[Ak h2];decide)];have e:=EH (b:=JO) (A:=OA) (T:=OT) (fun i a=>(banks,(l.length:Int),(i:Int),n,0,0,0,l.map EV,a.2.1,a.2.2,(),(),(),(),())) (EP n) (fun a=>.inl (a.2.1,a.2.2,(),(),())) (fun i a=>a.1=F3 l i∧a.2.1.length≤i∧a.2.2.length≤i) l (a:=(none,[],[])) ⟨rfl,by simp,by simp⟩ ?_ ?_ ?_
   ·rw[show((0:Nat):Int)=0 from rfl]at e;rw[e,bs];show(match EO n l with| .inl p=>_| .inr q=>_)=_
    cases hw:EO n l with
    |inr q=>rfl
    |inl p=>
     obtain⟨_,_,hc,hpl⟩:=UX hw (by omega);simp only;rw[I0 (by omega) (fun o ho=>by have:=hc o ho;omega),bs];simp only;cases C5 (Bf p.1)<;>rfl
   ·intro i x a hx ha;obtain⟨ha1,ha2,ha3⟩:=ha;have hi:=(Ae.1 hx).1;have hm:=List.mem_of_getElem? hx;unfold JO;dsimp only;simp only[gPi,gSS,gPb,gPm,gPs,gM,gM2,Bo,gOr,Bp,Bt,gAA,gAO,gOA,gOO,Bl,Bn,Bq,Bs,Bm,Br,gId];simp only[Bz,B0,B1,B2,B3,B4,B5,B6,gId,By,gMb,gMm,gBm,gBb,bs,ms];rw[Al (show(i:Int)<(l.length:Int) by omega),if_pos rfl,VE hx (hb x hm) (by omega) (hp x hm) (hlen x hm) (by omega),bs,←ha1];unfold EP;by_cases he:BR a.1 x=0
    ·rw[if_pos he,if_neg (show ¬(BR a.1 x≠0) by simp[he])];dsimp only;rw[if_neg (show ¬(((0:Int) !=0)=true) by decide)];have o1:(Ev n x).2.2.1=x.2.1:=rfl;have o2:(Ev n x).2.1=x.2.2:=rfl;have o3:(Ev n x).1=x.1:=rfl;rw[o1,o2,o3];by_cases c2:x.2.1>0
     ·rw[Al c2,if_pos rfl,bs];by_cases c3:x.2.2= []
      ·have:(x.2.2==([]:List UInt8))=true:=by rw[c3];rfl
       rw[this,if_pos rfl,if_pos (by simp only[List.length_cons,List.length_nil];constructor<;>omega),bs,if_pos ⟨c2,c3⟩];dsimp only;rw[CL (by omega)];rfl
      ·have:(x.2.2==([]:List UInt8))=false:=by rw[beq_eq_false_iff_ne];exact c3
       rw[this,if_neg (by decide),if_pos rfl,if_pos (by simp only[List.length_cons,List.length_nil];constructor<;>omega),bs,if_neg (fun h=>c3 h.2),if_pos c2];dsimp only;rw[CL (by omega)];rfl
     ·rw[Ak c2,if_neg (by decide),bs,if_neg (by decide),if_neg (by decide),bs,if_neg (fun h=>c2 h.1),if_neg c2];dsimp only;rw[CL (by omega)];rfl
    ·rw[if_neg he,if_pos (show BR a.1 x≠0 from he)];dsimp only;rw[if_pos (show(BR a.1 x !=0)=true by simpa using he)];rfl
   ·intro i x a a' hx ha hs;obtain⟨ha1,ha2,ha3⟩:=ha
    have hpr:F3 l (i+1)=some x.1:=by
     unfold F3;rw[if_neg (by omega),Nat.add_sub_cancel,hx];rfl
    unfold EP at hs;rw[hpr];split at hs
    ·cases hs
    ·split at hs
     ·cases hs;exact⟨rfl,by simp;omega,by simp;omega⟩
     ·split at hs
      ·cases hs;exact⟨rfl,by simp;omega,by simp;omega⟩
      ·cases hs;exact⟨rfl,by simp;omega,by simp;omega⟩
   ·intro a _;unfold JO;dsimp only;rw[DU,if_neg (by decide)]
set_option linter.unusedSimpArgs false
set_option linter.unusedVariables false
set_option linter.unusedSimpArgs false
set_option linter.unusedVariables false
theorem UY(n:Int)(l:List AZ):(∃e,e≠0∧ofS n l=([],[],e))∨((1≤n∧n≤1000000000)∧l.length≤256∧DM none l∧C5 (Bf (BQ n l))=true∧ofS n l=(BQ n l,DC l,0)):=by
 unfold ofS;by_cases h1:n<1∨n>1000000000
 ·exact .inl ⟨2,by decide,by rw[if_pos h1]⟩
 ·by_cases h2:(l.length:Int)>256
  ·exact .inl ⟨5,by decide,by rw[if_neg h1,if_pos h2]⟩
  ·rw[if_neg h1,if_neg h2];rcases JC (n:=n) (l:=l) (a:=(none,[],[]))with⟨k1,h3⟩|⟨_,e,he,h3⟩
   ·have h4:EO n l=.inl ([]++BQ n l,[]++DC l,(),(),()):=h3;rw[h4];simp only[List.nil_append];by_cases h5:C5 (Bf (BQ n l))=true
    ·rw[if_pos h5];exact .inr ⟨by omega,by omega,k1,h5,rfl⟩
    ·rw[if_neg h5];exact .inl ⟨9,by decide,rfl⟩
   ·have h4:EO n l=.inr ([],[],e):=h3;rw[h4];exact .inl ⟨e,he,rfl⟩
theorem Qk{b:UInt8}(h:dgt b=true):okb b=true:=by
 have:=Dc.1 h;unfold okb;rw[Al (show(b.toNat:Int)<97 by omega),Ak (show ¬(b.toNat:Int)<48 by omega),Ak (show ¬(b.toNat:Int)>57 by omega)];simp
theorem UO{n p:Int}(hn:0≤n∧n≤1000000000)(hp:0≤p∧p≤4294967295):BJ (E0 n p)=true:=by
 have l1:(Lib.decDigits n.toNat).length≤10:=Em (by omega) (by omega);have l2:(Lib.decDigits p.toNat).length≤10:=Em (by omega) (by omega);have l3:=List.length_pos_iff.2 (GA n.toNat);have l4:=List.length_pos_iff.2 (GA p.toNat);unfold BJ;simp only[Af,Bool.not_eq_true',beq_eq_false_iff_ne,decide_eq_true_eq];refine⟨⟨⟨?_, ?_⟩, ?_⟩, ?_⟩
 ·rw[List.all_eq_true];intro b hb;unfold E0 at hb;rcases List.mem_append.1 hb with hb|hb
  ·rcases List.mem_append.1 hb with hb|hb
   ·exact Qk (H7 hb)
   ·simp at hb;rw[hb];decide
  ·exact Qk (H7 hb)
 ·intro h;have:=congrArg List.length h;simp[E0]at this
 ·intro h;have:=congrArg List.length h;simp[E0]at this;omega
 ·simp[E0];omega
theorem V5{n p q:Int}(hp:0≤p)(hq:0≤q)(h:E0 n p=E0 n q):p=q:=by
 have h1:=SX (List.append_cancel_left h);omega
theorem QJ:∀{l:List AZ} {prev:Option Int},DM prev l→(l.map (·.1)).Pairwise (· < ·)∧∀q,prev=some q→∀x∈l,q<x.1
 | [],prev,_=>⟨by simp,fun q _ x hx=>by cases hx⟩
 |y::l,prev,h=>by
  obtain⟨_,h2,_⟩:=QG h.1;obtain⟨k1,k2⟩:=QJ h.2;refine⟨?_, ?_⟩
  ·rw[List.map_cons,List.pairwise_cons];refine⟨fun p hp=> ?_,k1⟩;obtain⟨x,hx,rfl⟩:=List.mem_map.1 hp;exact k2 _ rfl x hx
  ·intro q hq x hx
   have h3:q<y.1:=by
    subst hq;have:¬y.1≤q:=by simpa[EE]using h2
    omega
   rcases List.mem_cons.1 hx with rfl|hx
   ·exact h3
   ·exact Int.lt_trans h3 (k2 _ rfl x hx)
theorem Vj{n:Int}{l:List AZ}(hn:1≤n∧n≤1000000000)(hl:l.length≤256)(hp:∀x∈l,0≤x.1∧x.1≤4294967295)(h:DM none l)(hf:C5 (Bf (BQ n l))=true):BZ n (BQ n l)∧∀o∈BQ n l,BV o:=by
 have hlen:=Qv n l;refine⟨⟨hn,by omega,fun o ho=> ?_, ?_,hf⟩,fun o ho=> ?_⟩
 ·obtain⟨x,hx,rfl,k1,k2,k3,k4⟩:=M9 (Kg h) o ho;refine⟨k3,k4, ?_,UO (by omega) (hp x hx)⟩;show inC x.2.1=true;unfold inC;rw[Al (show 1≤x.2.1 by omega),Al k2];rfl
 ·have hr:=(QJ h).1;unfold BQ;rw[List.map_map];rw[List.pairwise_map]at hr;rw[List.Nodup,List.pairwise_map];have hs:=hr.filter (fun x=>decide (x.2.1>0)&& !(x.2.2== []));refine List.Pairwise.imp_of_mem ?_ hs;intro a b ha hb hab e;have ha':=hp a (List.mem_filter.1 ha).1;have hb':=hp b (List.mem_filter.1 hb).1;have:=V5 (n:=n) ha'.1 hb'.1 e;omega
 ·obtain⟨x,hx,rfl,_⟩:=M9 (Kg h) o ho;exact hp x hx
abbrev CI:List AZ:= [(3,10000,[100,101,46,49]),(5,2000,[])]
abbrev M7:Ordr:=(3,[100,101,46,49],10000,[55,45,51])
theorem V4:E0 7 3= [55,45,51]:=by
 unfold E0;rw[show((7:Int).toNat)=7 from rfl,show((3:Int).toNat)=3 from rfl,D2 (by decide),D2 (by decide)];rfl
theorem Vh:Ev 7 (3,10000,[100,101,46,49])=M7:=by
 unfold Ev;rw[V4]
theorem QH:DM none CI:=⟨by decide,by decide,trivial⟩
theorem M8:BQ 7 CI= [M7]:=by
 rw[←Vh];rfl
theorem Vk:DC CI= [5]:=rfl
theorem Pf:C5 (Bf (BQ 7 CI))=true:=by
 rw[M8];decide
theorem QI:∀x∈CI,0≤x.1∧x.1≤4294967295:=by decide
theorem ofX:ofS 7 CI=([M7],[5],0):=by
 rcases UY 7 CI with⟨e,he,h⟩|⟨_,_,_,_,h⟩
 ·exfalso
  have h1:EO 7 CI=.inl ([]++BQ 7 CI,[]++DC CI,(),(),()):=by
   rcases JC (n:=7) (l:=CI) (a:=(none,[],[]))with⟨_,h3⟩|⟨h3,_⟩
   ·exact h3
   ·exact absurd QH h3
  unfold ofS at h;rw[if_neg (by decide),if_neg (by decide),h1]at h;simp only[List.nil_append]at h;rw[if_pos Pf]at h;simp only[Prod.mk.injEq]at h;exact he h.2.2.symm
 ·rw[h,M8,Vk]
theorem awake_eq:HQ ()=some true:=by
 obtain⟨r1,r2⟩:=Vj (n:=7) (l:=CI) (by decide) (by decide) QI QH Pf;rw[M8]at r1 r2;unfold HQ;dsimp only;simp only[gPi,gSS,gPb,gPm,gPs,gM,gM2,Bo,gOr,Bp,Bt,gAA,gAO,gOA,gOO,Bl,Bn,Bq,Bs,Bm,Br,gId];simp only[Bz,B0,B1,B2,B3,B4,B5,B6,gId,By,gMb,gMm,gBm,gBb,bs,ms]
 have h1:=RY (n:=7) (l:=CI) (banks:=CB (eqZ (.int .u32)) (3:Int) ([100,101,46,49]:List UInt8) ([]:List (Int×List UInt8))) (by
  intro x hx;simp only[CI,List.mem_cons,List.not_mem_nil,or_false]at hx
  rcases hx with rfl|rfl<;>rfl) QI (by decide)
 rw[ofX]at h1;have h2:(CI.map EV)= [(3,0,0,[],[],0,10000,0),(5,0,0,[],[],0,2000,0)]:=rfl;rw[h2]at h1;rw[h1,bs];dsimp only;rw[N4 r1 r2,bs];dsimp only;rw[KP r1 r2,bs];rfl
set_option linter.unusedSimpArgs false
set_option linter.unusedVariables false
theorem KM{n:Int}{l:List Ordr}(hs:∀o∈l,o.2.1.length≤300∧o.2.2.2.length≤300)(hp:∀o∈l,BV o):(BZ n l∧Ey (n,l)=some (A2 n l,0))∨∃e,e≠0∧Ey (n,l)=some ([],e):=by
 by_cases h:Fc n l=0
 ·have hr:=KI.1 h;exact .inl ⟨hr,N4 hr hp⟩
 ·exact .inr ⟨_,h,RU (fun o ho=>by have:=hs o ho;omega) h⟩
theorem T5{n n':Int}{l l':List Ordr}(h:BZ n l)(hp:∀o∈l,BV o)(h':BZ n' l')(hp':∀o∈l',BV o)(e:A2 n l=A2 n' l'):n=n'∧l=l':=by
 have h1:=KP h hp;rw[e,KP h' hp']at h1;simp only[Ac,Prod.mk.injEq]at h1;exact⟨h1.1.symm,h1.2.1.symm⟩
theorem Pa(n:Int)(l:List Ordr):A2 n l≠ []:=by
 unfold A2;simp
theorem PayCut_law{n k at':Int}{l m:List Ordr}(hA:HQ ()=some true)(hp:∀o∈l,BV o)(hq:∀o∈m,BV o)(hl:l.length*48≤140737488355328)(hm:m.length*48≤140737488355328)(hat:0≤at'∧at'≤65535):Mb (n,k,l,m,at')=some true:=by
 obtain⟨b1,g1,g2⟩:=Rm (l:=l) (k:=60) (by omega);obtain⟨b2,g3,g4⟩:=Rm (l:=m) (k:=60) (by omega);rw[show((60:Nat):Int)=60 from rfl]at g1 g3;unfold Mb;dsimp only;simp only[gPi,gSS,gPb,gPm,gPs,gM,gM2,Bo,gOr,Bp,Bt,gAA,gAO,gOA,gOO,Bl,Bn,Bq,Bs,Bm,Br,gId];simp only[Bz,B0,B1,B2,B3,B4,B5,B6,gId,By,gMb,gMm,gBm,gBb,bs,ms];rw[hA,bs,if_neg (by decide),JD hl,bs,g1,bs]
 cases b1 with
 |false=>rfl
 |true=>
  simp only[Bool.not_true,Ag,if_false,if_true,JD hm,bs,g3]
  cases b2 with
  |false=>rfl
  |true=>
   simp only[Bool.not_true,Ag,if_false,if_true,bs];obtain⟨k1,k2⟩:=g2 rfl;obtain⟨k3,k4⟩:=g4 rfl;rcases KM (n:=n) k2 hp with⟨r1,f1⟩|⟨e,he,f1⟩
   ·rcases KM (n:=k) k4 hq with⟨r2,f2⟩|⟨e,he,f2⟩
    ·simp only[f1,f2,bs,bne_self_eq_false,Ag,if_false,if_true]
     have hx:(A2 n l==A2 k m)=(if(n==k)=true then decide (l=m)else false):=by
      by_cases h1:A2 n l=A2 k m
      ·obtain⟨q1,q2⟩:=T5 r1 hp r2 hq h1;rw[h1,beq_self_eq_true,if_pos (by rw[q1];exact beq_self_eq_true _),Al q2]
      ·rw[beq_eq_false_iff_ne.2 h1];by_cases h2:n=k
       ·rw[if_pos (by rw[h2];exact beq_self_eq_true _)];by_cases h3:l=m
        ·exact absurd (by rw[h2,h3]) h1
        ·rw[Ak h3]
       ·rw[if_neg (by simpa using h2)]
     have hne:(A2 n l==([]:List UInt8))=false:=beq_eq_false_iff_ne.2 (Pa n l);rw[hx,hne];obtain⟨_,hlen⟩:=Jd r1 hp;obtain⟨_,hlen2⟩:=Jd r2 hq;have hpos:0<(A2 n l).length:=List.length_pos_iff.2 (Pa n l)
     have hr:at'.tmod ((A2 n l).length:Int)=((at'.toNat %(A2 n l).length:Nat):Int):=by
      rw[Int.tmod_eq_emod_of_nonneg hat.1,Int.natCast_emod,Int.toNat_of_nonneg hat.1]
     have hlt:at'.toNat %(A2 n l).length<(A2 n l).length:=Nat.mod_lt _ hpos
     have hP1:∃e,e≠0∧DZ ((A2 n l).take (at'.toNat %(A2 n l).length))=some (0,[],e):=by
      rcases NH (s:=(A2 n l).take (at'.toNat %(A2 n l).length)) (by rw[List.length_take];omega)with h|⟨n',l',s1,s2,s3,_⟩
      ·exact h
      ·exfalso
       have h1:A2 n l=A2 n' l'++(A2 n l).drop (at'.toNat %(A2 n l).length):=by
        rw[←s3,List.take_append_drop]
       have h2:=Pb r1 s1 h1;have h3:=congrArg List.length h2;simp at h3;omega
     have hP2:∃e,e≠0∧DZ (A2 n l++A2 k m)=some (0,[],e):=by
      rcases NH (s:=A2 n l++A2 k m) (by rw[List.length_append];omega)with h|⟨n',l',s1,s2,s3,_⟩
      ·exact h
      ·exact(T7 r1 r2 s1 s3.symm).elim
     obtain⟨e1,he1,p1⟩:=hP1;obtain⟨e2,he2,p2⟩:=hP2
     have hS:AQ (A2 n l) 0 ((at'.toNat %(A2 n l).length:Nat):Int)=some ((A2 n l).take (at'.toNat %(A2 n l).length)):=by
      have:=Dj (xs:=A2 n l) (i:=0) (j:=at'.toNat %(A2 n l).length) (by omega) (by omega);simpa using this
     have tail:∀(c:Bool),(Option.bind (if(!(c==c))=false then some (false)else some false) fun x:Bool=>some x)=some false:=by
      intro c;cases c<;>rfl
     by_cases hnk:(n==k)=true
     ·simp only[hnk,if_true,JD hl,JD hm,bs,VP (show l.length≤1000000000000 by omega) (show m.length≤9223372036854775807 by omega)];simp only[beq_self_eq_true,Bool.not_true,Ag,if_false,if_true,bs,AR (show-9223372036854775808≤at' by omega) (by omega),hr];rw[if_neg (by omega),bs,hS,bs,p1,bs,if_pos (by omega),p2,bs];have q1:(e1 !=(0:Int))=true:=by simpa using he1
      have q2:(e2 !=(0:Int))=true:=by simpa using he2
      simp only[q1,q2,if_true,bs];rfl
     ·have hnk':(n==k)=false:=by simpa using hnk
      simp only[hnk',Ag,if_false,bs];simp only[beq_self_eq_true,Bool.not_true,Ag,if_false,if_true,bs,AR (show-9223372036854775808≤at' by omega) (by omega),hr];rw[if_neg (by omega),bs,hS,bs,p1,bs,if_pos (by omega),p2,bs];have q1:(e1 !=(0:Int))=true:=by simpa using he1
      have q2:(e2 !=(0:Int))=true:=by simpa using he2
      simp only[q1,q2,if_true,bs];rfl
    ·have q:(e !=(0:Int))=true:=by simpa using he
     simp only[f1,f2,bs,bne_self_eq_false,Ag,if_false,if_true,q]
   ·have q:(e !=(0:Int))=true:=by simpa using he
    rcases KM (n:=k) k4 hq with⟨r2,f2⟩|⟨e',he',f2⟩
    ·simp only[f1,f2,bs,Ag,if_false,if_true,q,reduceCtorEq,Bool.true_eq_false]
    ·simp only[f1,f2,bs,Ag,if_false,if_true,q,reduceCtorEq,Bool.true_eq_false]
set_option linter.unusedSimpArgs false
set_option linter.unusedVariables false
end WB
