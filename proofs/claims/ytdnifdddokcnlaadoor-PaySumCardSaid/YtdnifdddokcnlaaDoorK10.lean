/-
  OWN TEXTS, MERGED (wip/merge.py): Pyf, Pyg, Pyh, Pyi, Pyj, Pyk, Pyq, Pys. No condition of their own.
-/
import Derived.Test.YtdnifdddokcnlaaDoorK9
set_option linter.unusedVariables false
set_option linter.unusedSimpArgs false
open Go.IntKind (i64 u64 u8 u32)
namespace WB
open Go Go.RowKit
set_option linter.unusedSimpArgs false
set_option linter.unusedVariables false
set_option linter.unusedSimpArgs false
set_option linter.unusedVariables false
set_option linter.unusedSimpArgs false
set_option linter.unusedVariables false
theorem Gz{c:Int}:AS c=true↔ -1125899906842624≤c∧c≤1125899906842624:=by simp[AS]
theorem T8{c:Int}:AS c=false↔¬(-1125899906842624≤c∧c≤1125899906842624):=by rw[←Gz];cases AS c<;>simp
theorem Ss{a b:Int}(h1: -4000000000000000000≤a+b)(h2:a+b≤4000000000000000000):IF (a,b)=some (if AS a=true∧AS b=true then(if AS (a+b)=true then(a+b,0)else(0,9))else(0,2)):=by
 unfold IF Ln;dsimp only;rw[Be (by omega) (by omega),I2,bs]
 cases ha:AS a with
 |false=>simp
 |true=>
  simp only[Bool.not_true,Ag,if_false,true_and];rw[I2];simp only[bs]
  cases hb:AS b with
  |false=>simp
  |true=>
   simp only[Bool.not_true,Ag,if_false,if_true];rw[I2,bs];cases AS (a+b)<;>rfl
def Hc(a c:Int):Int⊕((Int×Unit)⊕(Int×Int)):=if AS c=true then(if AS (a+c)=true then .inl (a+c)else .inr (.inr (0,9)))else .inr (.inr (0,2))
def Kl(l:List Int):(Int×Unit)⊕(Int×Int):=A6 Hc (fun a=>.inl (a,())) 0 l
def Iy(l:List Int):Int×Int:=match Kl l with
 | .inl p=>(p.1,0)
 | .inr q=>q
theorem Su{l:List Int}(h:l.length≤1000000000)(h8:∀c∈l,-2000000000000000000≤c∧c≤2000000000000000000):IG l=some (Iy l):=by
 unfold IG Iy;dsimp only;have e:=D3 (b:=IH) (A:=Int) (T:=(Int×Unit)⊕(Int×Int)) (fun i a=>(a,l,(l.length:Int),(i:Int),())) Hc (fun a=>.inl (a,())) (fun _ a=>AS a=true) l (a:=0) rfl ?_ ?_ ?_
 ·rw[show((0:Nat):Int)=0 from rfl]at e;rw[e,bs];show(match Kl l with| .inl p=>_| .inr q=>_)=_;cases Kl l<;>rfl
 ·intro i c a hc ha;have hi:=(Ae.1 hc).1;have h1:=Gz.1 ha;have h2:=h8 c (List.mem_of_getElem? hc);unfold IH;dsimp only;simp only[CE hc,if_true,Cb hc,ms,bs];rw[Ss (by omega) (by omega),bs,ha];unfold Hc
  cases h1:AS c with
  |false=>simp;rfl
  |true=>
   cases h2:AS (a+c)with
   |false=>simp[h2];rfl
   |true=>
    simp only[and_self,if_true,h2];rw[BF (by omega)];rfl
 ·intro i c a a' hc ha hs;unfold Hc at hs;split at hs
  ·split at hs
   ·rename_i h2;cases hs;exact h2
   ·cases hs
  ·cases hs
 ·intro a ha;unfold IH;dsimp only;rw[Di,if_neg (by decide)]
theorem QZ:∀{l:List Int} {a:Int},0≤a→(∀c∈l,0≤c∧c≤1125899906842624)→a≤1125899906842624→A6 Hc (fun a=>.inl (a,())) a l=if AS (a+l.sum)=true then .inl (a+l.sum,())else .inr (0,9)
 | [],a,h0,_,h1=>by
  rw[List.sum_nil,Int.add_zero,if_pos (Gz.2 (by omega))];rfl
 |c::l,a,h0,h,h1=>by
  have hc:=h c (by simp);have hl:∀x∈l,0≤x:=fun x hx=>(h x (by simp[hx])).1
  have hs:0≤l.sum:=by
   clear h h1 hc
   induction l with
   |nil=>simp
   |cons y l ih=>have:=ih (fun x hx=>hl x (by simp[hx]));have:=hl y (by simp);simp;omega
  have e:a+(c::l).sum=a+c+l.sum:=by simp;omega
  rw[A6,e];unfold Hc;rw[if_pos (Gz.2 (by omega))];by_cases hf:AS (a+c)=true
  ·rw[if_pos hf];have:=Gz.1 hf;exact QZ (by omega) (fun x hx=>h x (by simp[hx])) (by omega)
  ·rw[if_neg hf];have h3:=T8.1 (by simpa using hf);rw[if_neg (by rw[Gz];omega)]
theorem We{l:List Int}(h:∀c∈l,0≤c∧c≤1125899906842624):Iy l=if AS l.sum=true then(l.sum,0)else(0,9):=by
 unfold Iy Kl;rw[QZ (by omega) h (by omega),Int.zero_add];by_cases hf:AS l.sum=true
 ·rw[if_pos hf,if_pos hf]
 ·rw[if_neg hf,if_neg hf]
theorem Vf{l:List A0}(h:l.length≤1000000)(h8:∀o∈l,-2000000000000000000≤o.2.2.1∧o.2.2.1≤2000000000000000000):Ic l=some (Iy (l.map fun o=>o.2.2.1)):=by
 unfold Ic;dsimp only;have e:=D3 (b:=JS) (A:=List Int) (T:=List Int×Unit×Unit) (fun i a=>(l,(l.length:Int),(i:Int),a,(),())) (fun a (x:A0)=>Sum.inl (a++ [x.2.2.1])) (fun a=>(a,(),())) (fun i a=>a.length=i) l (a:= []) rfl ?_ ?_ ?_
 ·rw[show((0:Nat):Int)=0 from rfl]at e;rw[e,LH (fun x:A0=> [x.2.2.1]),bs];simp only[List.nil_append]
  rw[show(l.flatMap fun x:A0=> [x.2.2.1])=l.map fun o=>o.2.2.1 by clear h8 h e;induction l with|nil=>rfl|cons y l ih=>simp[ih],Su (by simp;omega) (fun c hc=>by
   obtain⟨o,ho,rfl⟩:=List.mem_map.1 hc
   exact h8 o ho),bs]
 ·intro i x a hx ha;have hi:=(Ae.1 hx).1;unfold JS;dsimp only;simp only[CE hx,if_true,Cb hx,ms,bs];rw[if_pos (by simp only[List.length_cons,List.length_nil];constructor<;>omega),bs,BF (by omega)];rfl
 ·intro i x a a' hx ha hs;cases hs;simp[ha]
 ·intro a ha;unfold JS;dsimp only;rw[Di,if_neg (by decide)]
set_option linter.unusedSimpArgs false
set_option linter.unusedVariables false
abbrev A3:=Int×Int×List UInt8
abbrev I7:=Int×Int×Int×List (Int×List UInt8×Int)×List (Int×Int×List (Int×List UInt8×Int))×Int×Int×Int
def CT(x:A3):I7:=(x.1,0,0,[],[],0,x.2.1,0)
def Ey(n p:Int):List UInt8:=Lib.decDigits n.toNat++ [45]++Lib.decDigits p.toNat
def C3(n:Int)(x:A3):A0:=(x.1,x.2.2,x.2.1,Ey n x.1)
def ED(prev:Option Int)(p:Int):Bool:=match prev with
 |some q=>decide (p≤q)
 |none=>false
def EP(c:Int):Bool:=decide (0≤c)&&decide (c≤1125899906842624)
def BR(prev:Option Int)(x:A3):Int:=
 if x.1=0 then 2 else if ED prev x.1=true then 8 else if EP x.2.1=false then 2 else if x.2.1>0∧x.2.2≠ []∧BK x.2.2=false then 12 else 0
theorem V8{p:Option Int}{x:A3}(c1:x.1=0):BR p x=2:=by unfold BR;rw[if_pos c1]
theorem V5{p:Option Int}{x:A3}(c1:x.1≠0)(c2:ED p x.1=true):BR p x=8:=by unfold BR;rw[if_neg c1,if_pos c2]
theorem V7{p:Option Int}{x:A3}(c1:x.1≠0)(c2:ED p x.1=false)(c3:EP x.2.1=false):BR p x=2:=by unfold BR;rw[if_neg c1,if_neg (by rw[c2];decide),if_pos c3]
theorem V6{p:Option Int}{x:A3}(c1:x.1≠0)(c2:ED p x.1=false)(c3:EP x.2.1=true)(c4:x.2.1>0)(c5:x.2.2≠ [])(c6:BK x.2.2=false):BR p x=12:=by unfold BR;rw[if_neg c1,if_neg (by rw[c2];decide),if_neg (by rw[c3];decide),if_pos ⟨c4,c5,c6⟩]
theorem MV{p:Option Int}{x:A3}(c1:x.1≠0)(c2:ED p x.1=false)(c3:EP x.2.1=true)(c4:¬(x.2.1>0∧x.2.2≠ []∧BK x.2.2=false)):BR p x=0:=by unfold BR;rw[if_neg c1,if_neg (by rw[c2];decide),if_neg (by rw[c3];decide),if_neg c4]
def Fy(l:List A3)(i:Nat):Option Int:=if i=0 then none else(l[i-1]?).map (·.1)
theorem Vg(c:Int):(if decide (c<0)=true then some true else some (decide (c>1125899906842624)))=some (!EP c):=by
 unfold EP;by_cases q1:c<0
 ·rw[Al q1,Ak (show ¬0≤c by omega)];rfl
 ·rw[Ak q1,Al (show 0≤c by omega)];by_cases q2:c>1125899906842624
  ·rw[Al q2,Ak (show ¬c≤1125899906842624 by omega)];rfl
  ·rw[Ak q2,Al (show c≤1125899906842624 by omega)];rfl
theorem Tb{l:List A3}{i:Nat}{x:A3}(hi:i<l.length)(hl:l.length≤1000000):(if decide ((i:Int)>0)=true then(lAt (l.map CT) (i64.wrap ((i:Int)-1))).bind fun v=>some (decide (x.1≤v.1))else some false)=some (ED (Fy l i) x.1):=by
 unfold Fy;by_cases h0:i=0
 ·subst h0;rfl
 ·rw[Al (show(i:Int)>0 by omega),if_pos rfl,if_neg h0,Be (by omega) (by omega)];have hy:l[i-1]? =some (l[i-1]'(by omega)):=Ai _;rw[hy,show((i:Int)-1)=((i-1:Nat):Int) by omega,Cb (a:=CT (l[i-1]'(by omega))) (by rw[List.getElem?_map,hy];rfl),bs];rfl
theorem W1{p:Int}(h:0≤p∧p≤4294967295):u64.wrap p=p:=WX (by omega) (by omega)
theorem V9{n:Int}{l:List A3}{i:Nat}{x:A3}{banks:List (Int×List UInt8)}(hx:l[i]? =some x)(hb:(By (eqZ (Ty.int IntKind.u32)) (B5 Ty.str) x.1 banks).1=x.2.2)(hn:0≤n∧n≤1000000000)(hp:0≤x.1∧x.1≤4294967295)(hlen:x.2.2.length≤1000000)(hl:l.length≤1000000):
  JW ((n,0,0,0,l.map CT),(i:Int),banks)=some (if BR (Fy l i) x=0 then(C3 n x,0)else((0,[],0,[]),BR (Fy l i) x)):=by
 have hi:=(Ae.1 hx).1;unfold JW;dsimp only;simp only[gPi,gSS,gPb,gPm,gPs,gM,gM2,AY,gOr,AZ,Bd,gAA,gAO,gOA,gOO,AV,AX,Ba,Bc,AW,Bb,gId];simp only[Bp,Bq,Br,Bs,Bt,Bu,Bv,Bw,gId,Bo,gMb,gMm,gBm,gBb,bs,ms];rw[Cb (a:=CT x) (by rw[List.getElem?_map,hx];rfl),bs];have h1:(CT x).1=x.1:=rfl;have h2:(CT x).2.2.2.2.2.2.1=x.2.1:=rfl;rw[h1,h2,hb];by_cases c1:x.1=0
 ·rw[V8 c1,if_neg (show ¬(2:Int)=0 by decide),if_pos (show(x.1==(0:Int))=true by rw[c1];rfl)]
 ·rw[if_neg (show ¬(x.1==(0:Int))=true by simpa using c1),Tb hi hl,bs]
  cases c2:ED (Fy l i) x.1 with
  |true=>rw[V5 c1 c2,if_neg (show ¬(8:Int)=0 by decide),if_pos rfl]
  |false=>
   rw[if_neg (show ¬(false=true) by decide),Vg,bs]
   cases c3:EP x.2.1 with
   |false=>rw[V7 c1 c2 c3,if_neg (show ¬(2:Int)=0 by decide),if_pos (show(!false)=true from rfl)]
   |true=>
    rw[if_neg (show ¬((!true)=true) by decide)]
    have fin:((strconv_Itoa n).bind fun x67=>if x67.length+([45]:List UInt8).length≤4611686018427387904 then(F2 (u64.wrap x.1,10)).bind fun x72=>if(x67++ [45]).length+x72.length≤4611686018427387904 then some ((x.1,x.2.2,x.2.1,x67++ [45]++x72),(0:Int))else none else none)=some (C3 n x,0):=by
     have l1:(Lib.decDigits n.toNat).length≤10:=Ei (by omega) (by omega);have l2:(Lib.decDigits x.1.toNat).length≤10:=Ei (by omega) (by omega);unfold strconv_Itoa F2;rw[if_pos ⟨by omega,by omega⟩,bs,G9 hn.1,if_pos (by simp;omega),W1 hp,if_pos ⟨rfl,by omega,by omega⟩,bs,G9 hp.1,if_pos (by simp;omega)];rfl
    by_cases c4:x.2.1>0
    ·by_cases c5:x.2.2= []
     ·have:(x.2.2==([]:List UInt8))=true:=by rw[c5];rfl
      rw[MV c1 c2 c3 (fun h=>h.2.1 c5),if_pos (rfl:(0:Int)=0),this,Al c4];exact fin
     ·have:(x.2.2==([]:List UInt8))=false:=by rw[beq_eq_false_iff_ne];exact c5
      rw[this,Al c4];simp only[Bool.not_false,if_true,Ag,if_false,LV (show x.2.2.length≤4611686018427387904 by omega),bs]
      cases c6:BK x.2.2 with
      |true=>
       rw[MV c1 c2 c3 (fun h=>by rw[c6]at h;exact absurd h.2.2 (by decide)),if_pos (rfl:(0:Int)=0)];exact fin
      |false=>
       rw[V6 c1 c2 c3 c4 c5 c6,if_neg (show ¬(12:Int)=0 by decide)];rfl
    ·rw[MV c1 c2 c3 (fun h=>c4 h.1),if_pos (rfl:(0:Int)=0),Ak c4];exact fin
abbrev OA:=Option Int×List A0×List Int
abbrev OT:=(List A0×List Int×Unit×Unit×Unit)⊕(List A0×List Int×Int)
def EN(n:Int)(a:OA)(x:A3):OA⊕OT:=
 if BR a.1 x≠0 then .inr (.inr ([],[],BR a.1 x))else if x.2.1>0∧x.2.2= []then .inl (some x.1,a.2.1,a.2.2++ [x.1])else if x.2.1>0 then .inl (some x.1,a.2.1++ [C3 n x],a.2.2)else .inl (some x.1,a.2.1,a.2.2)
def EM(n:Int)(l:List A3):OT:=A6 (EN n) (fun a=>.inl (a.2.1,a.2.2,(),(),())) (none,[],[]) l
def ofS(n:Int)(l:List A3):List A0×List Int×Int:=
 if n<1∨n>1000000000 then([],[],2)else if(l.length:Int)>256 then([],[],5)else match EM n l with
  | .inl p=>if AS (AN p.1)=true then(p.1,p.2.1,0)else([],[],9)
  | .inr q=>q
def DH:Option Int→List A3→Prop
 |_,[]=>True
 |prev,x::l=>BR prev x=0∧DH (some x.1) l
def A5(n:Int)(l:List A3):List A0:=(l.filter fun x=>decide (x.2.1>0)&& !(x.2.2== [])).map (C3 n)
def AO(l:List A3):List Int:=(l.filter fun x=>decide (x.2.1>0)&&(x.2.2== [])).map (·.1)
theorem JD{n:Int}:∀{l:List A3} {a:OA},(DH a.1 l∧A6 (EN n) (fun a=>(.inl (a.2.1,a.2.2,(),(),()):OT)) a l=.inl (a.2.1++A5 n l,a.2.2++AO l,(),(),()))∨(¬DH a.1 l∧∃e,e≠0∧A6 (EN n) (fun a=>(.inl (a.2.1,a.2.2,(),(),()):OT)) a l=.inr ([],[],e))
 | [],a=>.inl ⟨trivial,by simp[A6,A5,AO]⟩
 |x::l,a=>by
  rw[A6];unfold EN;by_cases he:BR a.1 x=0
  ·rw[if_neg (by simp[he])]
   have key:∀(b:OA),b.1=some x.1→∀(X:List A0) (Y:List Int),b.2.1++A5 n l=a.2.1++X→b.2.2++AO l=a.2.2++Y→((DH a.1 (x::l)∧A6 (EN n) (fun a=>(.inl (a.2.1,a.2.2,(),(),()):OT)) b l=.inl (a.2.1++X,a.2.2++Y,(),(),()))∨(¬DH a.1 (x::l)∧∃e,e≠0∧A6 (EN n) (fun a=>(.inl (a.2.1,a.2.2,(),(),()):OT)) b l=.inr ([],[],e))):=by
    intro b hb X Y hX hY;rcases JD (n:=n) (l:=l) (a:=b)with⟨h1,h2⟩|⟨h1,h2⟩
    ·rw[hb]at h1;exact .inl ⟨⟨he,h1⟩,by rw[h2,hX,hY]⟩
    ·rw[hb]at h1;exact .inr ⟨fun hh=>h1 hh.2,h2⟩
   by_cases c1:x.2.1>0∧x.2.2= []
   ·rw[if_pos c1];refine key _ rfl _ _ ?_ ?_
    ·simp[A5,c1]
    ·simp[AO,c1]
   ·rw[if_neg c1];by_cases c2:x.2.1>0
    ·rw[if_pos c2];have c3:x.2.2≠ []:=fun h=>c1 ⟨c2,h⟩;refine key _ rfl _ _ ?_ ?_
     ·simp[A5,c2,c3]
     ·simp[AO,c2,c3]
    ·rw[if_neg c2];refine key _ rfl _ _ ?_ ?_
     ·simp[A5,c2]
     ·simp[AO,c2]
  ·rw[if_pos he];exact .inr ⟨fun hh=>he hh.1,_,he,rfl⟩
theorem QE{prev:Option Int}{x:A3}(h:BR prev x=0):x.1≠0∧ED prev x.1=false∧(0≤x.2.1∧x.2.1≤1125899906842624)∧(x.2.1>0→x.2.2≠ []→BK x.2.2=true):=by
 unfold BR at h;split at h
 ·cases h
 ·rename_i h1;split at h
  ·cases h
  ·rename_i h2;split at h
   ·cases h
   ·rename_i h3;split at h
    ·cases h
    ·rename_i h4;have h3':EP x.2.1=true:=by simpa using h3
     simp only[EP,Af,decide_eq_true_eq]at h3';refine⟨h1,by simpa using h2,h3',fun q1 q2=> ?_⟩
     cases hn:BK x.2.2 with
     |true=>rfl
     |false=>exact absurd ⟨q1,q2,hn⟩ h4
theorem Hb:∀{l:List A3} {prev:Option Int},DH prev l→∀x∈l,x.1≠0∧(0≤x.2.1∧x.2.1≤1125899906842624)∧(x.2.1>0→x.2.2≠ []→BK x.2.2=true)
 | [],_,_,x,hx=>by cases hx
 |y::l,prev,h,x,hx=>by
  obtain⟨k1,_,k3,k4⟩:=QE h.1;rcases List.mem_cons.1 hx with rfl|hx
  ·exact⟨k1,k3,k4⟩
  ·exact Hb h.2 x hx
theorem JL{n:Int}{l:List A3}(h:∀x∈l,x.1≠0∧(0≤x.2.1∧x.2.1≤1125899906842624)∧(x.2.1>0→x.2.2≠ []→BK x.2.2=true)):∀o∈A5 n l,∃x∈l,o=C3 n x∧x.2.1>0∧x.2.1≤1125899906842624∧x.1≠0∧BK x.2.2=true:=by
 intro o ho;obtain⟨x,hx,rfl⟩:=List.mem_map.1 ho;rw[List.mem_filter]at hx;simp only[Af,decide_eq_true_eq,Bool.not_eq_true',beq_eq_false_iff_ne]at hx;obtain⟨k1,k2,k3⟩:=h x hx.1;exact⟨x,hx.1,rfl,hx.2.1,k2.2,k1,k3 hx.2.1 hx.2.2⟩
theorem JM(n:Int)(l:List A3):(A5 n l).length≤l.length:=by
 unfold A5;rw[List.length_map];exact List.length_filter_le _ _
theorem UT{n:Int}{l:List A3}{p}(h:EM n l=.inl p)(hl:l.length≤256):DH none l∧p=(A5 n l,AO l,(),(),())∧(∀o∈p.1,1≤o.2.2.1∧o.2.2.1≤1125899906842624)∧p.1.length≤256:=by
 rcases JD (n:=n) (l:=l) (a:=(none,[],[]))with⟨h1,h2⟩|⟨_,e,_,h2⟩
 ·have h3:EM n l=.inl ([]++A5 n l,[]++AO l,(),(),()):=h2;rw[h3]at h;cases h;have hlen:=JM n l;refine⟨h1,rfl,fun o ho=> ?_,by simp;omega⟩;obtain⟨x,_,rfl,k1,k2,_⟩:=JL (Hb h1) o ho;exact⟨by show 1≤x.2.1;omega,k2⟩
 ·have h3:EM n l=.inr ([],[],e):=h2;rw[h3]at h;cases h
theorem Vv(n:Int):(if decide (n<1)=true then some true else some (decide (n>1000000000)))=some (decide (n<1∨n>1000000000)):=by
 by_cases h:n<1
 ·simp[h]
 ·simp[h]
theorem NG{n:Int}{l:List A3}{banks:List (Int×List UInt8)}(hb:∀x∈l,(By (eqZ (Ty.int IntKind.u32)) (B5 Ty.str) x.1 banks).1=x.2.2)(hp:∀x∈l,0≤x.1∧x.1≤4294967295)(hlen:∀x∈l,x.2.2.length≤1000000):
  Ib ((n,0,0,0,l.map CT),banks)=some (ofS n l):=by
 unfold Ib ofS;dsimp only;simp only[gPi,gSS,gPb,gPm,gPs,gM,gM2,AY,gOr,AZ,Bd,gAA,gAO,gOA,gOO,AV,AX,Ba,Bc,AW,Bb,gId];simp only[Bp,Bq,Br,Bs,Bt,Bu,Bv,Bw,gId,Bo,gMb,gMm,gBm,gBb,bs,ms];rw[Vv,bs];by_cases h1:n<1∨n>1000000000
 ·rw[Al h1,if_pos rfl,if_pos h1]
 ·rw[Ak h1,if_neg (by decide),if_neg h1,List.length_map];by_cases h2:(l.length:Int)>256
  ·rw[if_pos h2,if_pos (Al h2)]
  ·rw[if_neg h2,if_neg (by rw[Ak h2];decide)];have e:=D3 (b:=JQ) (A:=OA) (T:=OT) (fun i a=>(banks,(l.length:Int),(i:Int),n,0,0,0,l.map CT,a.2.1,a.2.2,(),(),(),(),())) (EN n) (fun a=>.inl (a.2.1,a.2.2,(),(),())) (fun i a=>a.1=Fy l i∧a.2.1.length≤i∧a.2.2.length≤i) l (a:=(none,[],[])) ⟨rfl,by simp,by simp⟩ ?_ ?_ ?_
   ·rw[show((0:Nat):Int)=0 from rfl]at e;rw[e,bs];show(match EM n l with| .inl p=>_| .inr q=>_)=_
    cases hw:EM n l with
    |inr q=>rfl
    |inl p=>
     obtain⟨_,_,hc,hpl⟩:=UT hw (by omega);simp only;rw[KD (by omega) (fun o ho=>by have:=hc o ho;omega),bs];simp only;cases AS (AN p.1)<;>rfl
   ·intro i x a hx ha;obtain⟨ha1,ha2,ha3⟩:=ha;have hi:=(Ae.1 hx).1;have hm:=List.mem_of_getElem? hx;unfold JQ;dsimp only;simp only[gPi,gSS,gPb,gPm,gPs,gM,gM2,AY,gOr,AZ,Bd,gAA,gAO,gOA,gOO,AV,AX,Ba,Bc,AW,Bb,gId];simp only[Bp,Bq,Br,Bs,Bt,Bu,Bv,Bw,gId,Bo,gMb,gMm,gBm,gBb,bs,ms];rw[Al (show(i:Int)<(l.length:Int) by omega),if_pos rfl,V9 hx (hb x hm) (by omega) (hp x hm) (hlen x hm) (by omega),bs,←ha1];unfold EN;by_cases he:BR a.1 x=0
    ·rw[if_pos he,if_neg (show ¬(BR a.1 x≠0) by simp[he])];dsimp only;rw[if_neg (show ¬(((0:Int) !=0)=true) by decide)];have o1:(C3 n x).2.2.1=x.2.1:=rfl;have o2:(C3 n x).2.1=x.2.2:=rfl;have o3:(C3 n x).1=x.1:=rfl;rw[o1,o2,o3];by_cases c2:x.2.1>0
     ·rw[Al c2,if_pos rfl,bs];by_cases c3:x.2.2= []
      ·have:(x.2.2==([]:List UInt8))=true:=by rw[c3];rfl
       rw[this,if_pos rfl,if_pos (by simp only[List.length_cons,List.length_nil];constructor<;>omega),bs,if_pos ⟨c2,c3⟩];dsimp only;rw[BF (by omega)];rfl
      ·have:(x.2.2==([]:List UInt8))=false:=by rw[beq_eq_false_iff_ne];exact c3
       rw[this,if_neg (by decide),if_pos rfl,if_pos (by simp only[List.length_cons,List.length_nil];constructor<;>omega),bs,if_neg (fun h=>c3 h.2),if_pos c2];dsimp only;rw[BF (by omega)];rfl
     ·rw[Ak c2,if_neg (by decide),bs,if_neg (by decide),if_neg (by decide),bs,if_neg (fun h=>c2 h.1),if_neg c2];dsimp only;rw[BF (by omega)];rfl
    ·rw[if_neg he,if_pos (show BR a.1 x≠0 from he)];dsimp only;rw[if_pos (show(BR a.1 x !=0)=true by simpa using he)];rfl
   ·intro i x a a' hx ha hs;obtain⟨ha1,ha2,ha3⟩:=ha
    have hpr:Fy l (i+1)=some x.1:=by
     unfold Fy;rw[if_neg (by omega),Nat.add_sub_cancel,hx];rfl
    unfold EN at hs;rw[hpr];split at hs
    ·cases hs
    ·split at hs
     ·cases hs;exact⟨rfl,by simp;omega,by simp;omega⟩
     ·split at hs
      ·cases hs;exact⟨rfl,by simp;omega,by simp;omega⟩
      ·cases hs;exact⟨rfl,by simp;omega,by simp;omega⟩
   ·intro a _;unfold JQ;dsimp only;rw[Di,if_neg (by decide)]
set_option linter.unusedSimpArgs false
set_option linter.unusedVariables false
theorem NS{l:List A3}{i:Nat}{x:A3}(hx:l[i]? =some x)(hi:i≤1000):∀(m k:Nat),m=i-k→k≤i→(∀y∈l.take k,y.1=x.1→y.2.2=x.2.2)→
  ∃r,iter HM (l,(i:Int),(k:Int),())=some r∧(r=.inr false∨(r=.inl (l,(i:Int),())∧∀y∈l.take i,y.1=x.1→y.2.2=x.2.2))
 |m,k,hm,hk,hT=>by
  have hil:=(Ae.1 hx).1;by_cases hlt:k<i
  ·obtain⟨y,hy⟩:∃y,l[k]? =some y:=⟨l[k]'(by omega),Ai _⟩;by_cases hyx:y.1=x.1→y.2.2=x.2.2
   ·obtain⟨r,h1,h2⟩:=NS hx hi (m-1) (k+1) (by omega) (by omega) (by
     intro z hz;rw[List.take_add_one,hy]at hz;rcases List.mem_append.1 hz with hz|hz
     ·exact hT z hz
     ·simp at hz;rw[hz]
      exact hyx)
    refine⟨r,(itL ?_).trans h1,h2⟩;unfold HM;dsimp only;simp only[gPi,gSS,gPb,gPm,gPs,gM,gM2,AY,gOr,AZ,Bd,gAA,gAO,gOA,gOO,AV,AX,Ba,Bc,AW,Bb,gId];simp only[Bp,Bq,Br,Bs,Bt,Bu,Bv,Bw,gId,Bo,gMb,gMm,gBm,gBb,bs,ms];rw[Al (show(k:Int)<(i:Int) by omega),if_pos rfl,Cb hy,bs,Cb hx,bs];by_cases h1:y.1=x.1
    ·have:(y.1==x.1)=true:=by rw[h1];exact beq_self_eq_true _
     rw[this];have h3:(y.2.2==x.2.2)=true:=by rw[hyx h1];exact beq_self_eq_true _
     simp only[if_true,bs,h3,Bool.not_true,Ag,if_false];rw[BF (by omega)]
    ·have:(y.1==x.1)=false:=by rw[beq_eq_false_iff_ne];exact h1
     rw[this];simp only[if_true,bs,Ag,if_false,reduceCtorEq];rw[BF (by omega)]
   ·refine⟨_,itR (t:=.inr false) ?_,.inl rfl⟩;have h1:y.1=x.1:=Classical.byContradiction fun h=>hyx fun h'=>absurd h' h;have h2:¬y.2.2=x.2.2:=fun h=>hyx fun _=>h;unfold HM;dsimp only;simp only[gPi,gSS,gPb,gPm,gPs,gM,gM2,AY,gOr,AZ,Bd,gAA,gAO,gOA,gOO,AV,AX,Ba,Bc,AW,Bb,gId];simp only[Bp,Bq,Br,Bs,Bt,Bu,Bv,Bw,gId,Bo,gMb,gMm,gBm,gBb,bs,ms];rw[Al (show(k:Int)<(i:Int) by omega),if_pos rfl,Cb hy,bs,Cb hx,bs];have:(y.1==x.1)=true:=by rw[h1];exact beq_self_eq_true _
    rw[this];have h3:(y.2.2==x.2.2)=false:=by rw[beq_eq_false_iff_ne];exact h2
    simp only[if_true,bs,h3,Bool.not_false]
  ·have:k=i:=by omega
   subst this;refine⟨_,itR (t:=.inl (l,(k:Int),())) ?_,.inr ⟨rfl,hT⟩⟩;unfold HM;dsimp only;rw[Ak (by omega),if_neg (by decide)]
 termination_by m=>m
 decreasing_by omega
def KP(l:List A3):Prop:=∀x∈l,∀y∈l,y.1=x.1→y.2.2=x.2.2
theorem Rj{l:List A3}:∀(m i:Nat),m=300-i→i≤l.length→i≤300→(∀x∈l.take i,x.2.2.length≤300)→(∀k x,k<i→l[k]? =some x→∀y∈l.take k,y.1=x.1→y.2.2=x.2.2)→
  ∃r,iter GC (l,(i:Int),())=some r∧(r=.inr false∨(r=.inl (l,())∧(l.length≤300→(∀x∈l,x.2.2.length≤300)∧∀k x,l[k]? =some x→∀y∈l.take k,y.1=x.1→y.2.2=x.2.2)))
 |m,i,hm,hi,hik,hT,hA=>by
  by_cases hlt:i<l.length∧i<300
  ·obtain⟨x,hx⟩:∃x,l[i]? =some x:=⟨l[i]'hlt.1,Ai _⟩;by_cases hx3:x.2.2.length≤300
   ·obtain⟨r1,g1,g2⟩:=NS hx (by omega) i 0 (by omega) (by omega) (by simp);rw[show((0:Nat):Int)=0 from rfl]at g1;rcases g2 with rfl|⟨rfl,g2⟩
    ·refine⟨_,itR (t:=.inr false) ?_,.inl rfl⟩;unfold GC;dsimp only;simp only[gPi,gSS,gPb,gPm,gPs,gM,gM2,AY,gOr,AZ,Bd,gAA,gAO,gOA,gOO,AV,AX,Ba,Bc,AW,Bb,gId];simp only[Bp,Bq,Br,Bs,Bt,Bu,Bv,Bw,gId,Bo,gMb,gMm,gBm,gBb,bs,ms];rw[CE hx,if_pos rfl,bs,Al (show(i:Int)<300 by omega),if_pos rfl,Cb hx,bs,Ak (by omega),if_neg (by decide),g1,bs]
    ·obtain⟨r,h1,h2⟩:=Rj (l:=l) (m-1) (i+1) (by omega) (by omega) (by omega) (by
      intro o ho;rw[List.take_add_one,hx]at ho;rcases List.mem_append.1 ho with ho|ho
      ·exact hT o ho
      ·simp at ho;rw[ho]
       exact hx3) (by
      intro k y hk hy;by_cases hki:k=i
      ·subst hki;rw[hx]at hy;cases hy;exact g2
      ·exact hA k y (by omega) hy)
     refine⟨r,(itL ?_).trans h1,h2⟩;unfold GC;dsimp only;simp only[gPi,gSS,gPb,gPm,gPs,gM,gM2,AY,gOr,AZ,Bd,gAA,gAO,gOA,gOO,AV,AX,Ba,Bc,AW,Bb,gId];simp only[Bp,Bq,Br,Bs,Bt,Bu,Bv,Bw,gId,Bo,gMb,gMm,gBm,gBb,bs,ms];rw[CE hx,if_pos rfl,bs,Al (show(i:Int)<300 by omega),if_pos rfl,Cb hx,bs,Ak (by omega),if_neg (by decide),g1,bs];dsimp only;rw[BF (by omega)]
   ·refine⟨_,itR (t:=.inr false) ?_,.inl rfl⟩;unfold GC;dsimp only;simp only[gPi,gSS,gPb,gPm,gPs,gM,gM2,AY,gOr,AZ,Bd,gAA,gAO,gOA,gOO,AV,AX,Ba,Bc,AW,Bb,gId];simp only[Bp,Bq,Br,Bs,Bt,Bu,Bv,Bw,gId,Bo,gMb,gMm,gBm,gBb,bs,ms];rw[CE hx,if_pos rfl,bs,Al (show(i:Int)<300 by omega),if_pos rfl,Cb hx,bs,Al (by omega),if_pos rfl]
  ·refine⟨_,itR (t:=.inl (l,())) ?_,.inr ⟨rfl,fun hl=> ?_⟩⟩
   ·unfold GC;dsimp only;simp only[gPi,gSS,gPb,gPm,gPs,gM,gM2,AY,gOr,AZ,Bd,gAA,gAO,gOA,gOO,AV,AX,Ba,Bc,AW,Bb,gId];simp only[Bp,Bq,Br,Bs,Bt,Bu,Bv,Bw,gId,Bo,gMb,gMm,gBm,gBb,bs,ms];by_cases h1:i<l.length
    ·rw[Al (show(i:Int)<(l.length:Int) by omega),if_pos rfl,bs,Ak (show ¬(i:Int)<300 by omega),if_neg (by decide)]
    ·rw[Ak (show ¬(i:Int)<(l.length:Int) by omega),if_neg (by decide),bs,if_neg (by decide)]
   ·have:l.take i=l:=List.take_of_length_le (by omega);rw[this]at hT;exact⟨hT,fun k x hk=>hA k x (by have:=(Ae.1 hk).1;omega) hk⟩
 termination_by m=>m
 decreasing_by omega
theorem Sb{l:List A3}(h:∀k x,l[k]? =some x→∀y∈l.take k,y.1=x.1→y.2.2=x.2.2):KP l:=by
 intro x hx y hy e;obtain⟨i,hi⟩:=List.mem_iff_getElem?.1 hx;obtain⟨j,hj⟩:=List.mem_iff_getElem?.1 hy;by_cases hij:j<i
 ·exact h i x hi y (List.mem_iff_getElem?.2 ⟨j,by rw[List.getElem?_take,if_pos hij,hj]⟩) e
 ·by_cases hji:i<j
  ·exact(h j y hj x (List.mem_iff_getElem?.2 ⟨i,by rw[List.getElem?_take,if_pos hji,hi]⟩) e.symm).symm
  ·have:i=j:=by omega
   subst this;rw[hi]at hj;cases hj;rfl
theorem VN(l:List A3):∃b,Jr l=some b∧(b=true→l.length≤300∧(∀x∈l,x.2.2.length≤300)∧KP l):=by
 obtain⟨r,h1,h2⟩:=Rj (l:=l) 300 0 (by omega) (by omega) (by omega) (by simp) (by intro k x hk;omega);unfold Jr;dsimp only;rw[show((0:Nat):Int)=0 from rfl]at h1;rw[h1,bs];rcases h2 with rfl|⟨rfl,h2⟩
 ·exact⟨false,rfl,fun h=>by cases h⟩
 ·refine⟨_,rfl,fun h=> ?_⟩;simp only[decide_eq_true_eq]at h;have h3:=h2 (by omega);exact⟨by omega,h3.1,Sb h3.2⟩
theorem Tu(a b:Int):eqZ (.int .u32) a b=true↔a=b:=by
 show(a==b)=true↔a=b;exact beq_iff_eq
def Fc(m:List (Int×List UInt8))(x:A3):List (Int×List UInt8):=if x.2.2= []then m else BZ (eqZ (.int .u32)) x.1 x.2.2 m
def KZ(l:List A3):List (Int×List UInt8):=l.foldl Fc []
theorem NZ:∀(l:List A3) (m:List (Int×List UInt8)) (p:Int),(By (eqZ (Ty.int IntKind.u32)) (B5 Ty.str) p (l.foldl Fc m)).1=(match l.reverse.find? (fun x=>decide (x.1=p)&& !(x.2.2== []))with
  |some x=>x.2.2
  |none=>(By (eqZ (Ty.int IntKind.u32)) (B5 Ty.str) p m).1)
 | [],m,p=>rfl
 |x::l,m,p=>by
  rw[List.foldl_cons,NZ l,List.reverse_cons,List.find?_append]
  cases hf:l.reverse.find? (fun x=>decide (x.1=p)&& !(x.2.2== []))with
  |some y=>rfl
  |none=>
   simp only[Option.none_or];unfold Fc;by_cases h1:x.2.2= []
   ·rw[if_pos h1];simp[h1]
   ·rw[if_neg h1,NR Tu];have:((x.2.2==([]:List UInt8))=false):=by rw[beq_eq_false_iff_ne];exact h1
    by_cases h2:p=x.1
    ·rw[if_pos h2];simp[h1,h2]
    ·rw[if_neg h2];simp[this,Ne.symm h2]
theorem Si{l:List A3}(h:KP l):∀x∈l,(By (eqZ (Ty.int IntKind.u32)) (B5 Ty.str) x.1 (KZ l)).1=x.2.2:=by
 intro x hx;unfold KZ;rw[NZ]
 cases hf:l.reverse.find? (fun y=>decide (y.1=x.1)&& !(y.2.2== []))with
 |some y=>
  have h1:=List.find?_some hf;have h2:=List.mem_reverse.1 (List.mem_of_find?_eq_some hf);simp only[Af,decide_eq_true_eq]at h1;exact h x hx y h2 h1.1
 |none=>
  rw[List.find?_eq_none]at hf;have h1:=hf x (List.mem_reverse.2 hx);simp at h1;rw[h1];rfl
theorem Ww{n:Int}{l:List A3}(hl:l.length≤300):Js (n,l)=some ((n,0,0,0,l.map CT),KZ l):=by
 unfold Js;dsimp only;have e:=D3 (b:=Jt) (A:=List (Int×List UInt8)×List I7) (fun i a=>(l,(i:Int),0,0,0,0,n,0,0,0,a.1,a.2,(),(),(),(),(),(),(),())) (fun a x=>.inl (Fc a.1 x,a.2++ [CT x])) (fun a=>(0,0,0,0,n,0,0,0,a.1,a.2,(),(),(),(),(),(),(),())) (fun i a=>a.2.length=i) l (a:=([],[])) rfl ?_ ?_ ?_
 ·rw[show((0:Nat):Int)=0 from rfl]at e;rw[e,bs]
  have hf:∀(t:List A3) (a:List (Int×List UInt8)×List I7),t.foldl (fun a x=>(Fc a.1 x,a.2++ [CT x])) a=(t.foldl Fc a.1,a.2++t.map CT):=by
   intro t
   induction t with
   |nil=>intro a;simp
   |cons x t ih=>intro a;rw[List.foldl_cons,ih];simp
  rw[HA (fun(a:List (Int×List UInt8)×List I7) (x:A3)=>(Fc a.1 x,a.2++ [CT x])),hf];rfl
 ·intro i x a hx ha;have hi:=(Ae.1 hx).1;unfold Jt;dsimp only;simp only[gPi,gSS,gPb,gPm,gPs,gM,gM2,AY,gOr,AZ,Bd,gAA,gAO,gOA,gOO,AV,AX,Ba,Bc,AW,Bb,gId];simp only[Bp,Bq,Br,Bs,Bt,Bu,Bv,Bw,gId,Bo,gMb,gMm,gBm,gBb,bs,ms];rw[CE hx,if_pos rfl,Cb hx,bs,bs,if_pos (by simp only[List.length_cons,List.length_nil];constructor<;>omega),bs];unfold Fc;by_cases h1:x.2.2= []
  ·have:((x.2.2==([]:List UInt8))=true):=by rw[h1];rfl
   rw[this,if_neg (by decide),if_pos h1,bs];dsimp only;rw[BF (by omega)];rfl
  ·have:((x.2.2==([]:List UInt8))=false):=by rw[beq_eq_false_iff_ne];exact h1
   rw[this,if_pos (by decide),if_neg h1,bs,bs,bs];dsimp only;rw[BF (by omega)];rfl
 ·intro i x a a' hx ha hs;cases hs;simp[ha]
 ·intro a _;unfold Jt;dsimp only;rw[Di,if_neg (by decide)]
set_option linter.unusedSimpArgs false
set_option linter.unusedVariables false
theorem Qd(n:Int)(l:List A3):(∃e,e≠0∧ofS n l=([],[],e))∨((1≤n∧n≤1000000000)∧l.length≤256∧DH none l∧AS (AN (A5 n l))=true∧ofS n l=(A5 n l,AO l,0)):=by
 unfold ofS;by_cases h1:n<1∨n>1000000000
 ·exact .inl ⟨2,by decide,by rw[if_pos h1]⟩
 ·by_cases h2:(l.length:Int)>256
  ·exact .inl ⟨5,by decide,by rw[if_neg h1,if_pos h2]⟩
  ·rw[if_neg h1,if_neg h2];rcases JD (n:=n) (l:=l) (a:=(none,[],[]))with⟨k1,h3⟩|⟨_,e,he,h3⟩
   ·have h4:EM n l=.inl ([]++A5 n l,[]++AO l,(),(),()):=h3;rw[h4];simp only[List.nil_append];by_cases h5:AS (AN (A5 n l))=true
    ·rw[if_pos h5];exact .inr ⟨by omega,by omega,k1,h5,rfl⟩
    ·rw[if_neg h5];exact .inl ⟨9,by decide,rfl⟩
   ·have h4:EM n l=.inr ([],[],e):=h3;rw[h4];exact .inl ⟨e,he,rfl⟩
theorem Qe{b:UInt8}(h:dgt b=true):okb b=true:=by
 have:=Db.1 h;unfold okb;rw[Al (show(b.toNat:Int)<97 by omega),Ak (show ¬(b.toNat:Int)<48 by omega),Ak (show ¬(b.toNat:Int)>57 by omega)];simp
theorem UK{n p:Int}(hn:0≤n∧n≤1000000000)(hp:0≤p∧p≤4294967295):BK (Ey n p)=true:=by
 have l1:(Lib.decDigits n.toNat).length≤10:=Ei (by omega) (by omega);have l2:(Lib.decDigits p.toNat).length≤10:=Ei (by omega) (by omega);have l3:=List.length_pos_iff.2 (H0 n.toNat);have l4:=List.length_pos_iff.2 (H0 p.toNat);unfold BK;simp only[Af,Bool.not_eq_true',beq_eq_false_iff_ne,decide_eq_true_eq];refine⟨⟨⟨?_, ?_⟩, ?_⟩, ?_⟩
 ·rw[List.all_eq_true];intro b hb;unfold Ey at hb;rcases List.mem_append.1 hb with hb|hb
  ·rcases List.mem_append.1 hb with hb|hb
   ·exact Qe (IV hb)
   ·simp at hb;rw[hb];decide
  ·exact Qe (IV hb)
 ·intro h;have:=congrArg List.length h;simp[Ey]at this
 ·intro h;have:=congrArg List.length h;simp[Ey]at this;omega
 ·simp[Ey];omega
theorem V0{n p q:Int}(hp:0≤p)(hq:0≤q)(h:Ey n p=Ey n q):p=q:=by
 have h1:=SU (List.append_cancel_left h);omega
theorem QH:∀{l:List A3} {prev:Option Int},DH prev l→(l.map (·.1)).Pairwise (· < ·)∧∀q,prev=some q→∀x∈l,q<x.1
 | [],prev,_=>⟨by simp,fun q _ x hx=>by cases hx⟩
 |y::l,prev,h=>by
  obtain⟨_,h2,_⟩:=QE h.1;obtain⟨k1,k2⟩:=QH h.2;refine⟨?_, ?_⟩
  ·rw[List.map_cons,List.pairwise_cons];refine⟨fun p hp=> ?_,k1⟩;obtain⟨x,hx,rfl⟩:=List.mem_map.1 hp;exact k2 _ rfl x hx
  ·intro q hq x hx
   have h3:q<y.1:=by
    subst hq;have:¬y.1≤q:=by simpa[ED]using h2
    omega
   rcases List.mem_cons.1 hx with rfl|hx
   ·exact h3
   ·exact Int.lt_trans h3 (k2 _ rfl x hx)
theorem Qq{n:Int}{l:List A3}(hn:1≤n∧n≤1000000000)(hl:l.length≤256)(hp:∀x∈l,0≤x.1∧x.1≤4294967295)(h:DH none l)(hf:AS (AN (A5 n l))=true):EY n (A5 n l)∧∀o∈A5 n l,Eb o:=by
 have hlen:=JM n l;refine⟨⟨hn,by omega,fun o ho=> ?_, ?_,hf⟩,fun o ho=> ?_⟩
 ·obtain⟨x,hx,rfl,k1,k2,k3,k4⟩:=JL (Hb h) o ho;refine⟨k3,k4, ?_,UK (by omega) (hp x hx)⟩;show inC x.2.1=true;unfold inC;rw[Al (show 1≤x.2.1 by omega),Al k2];rfl
 ·have hr:=(QH h).1;unfold A5;rw[List.map_map];rw[List.pairwise_map]at hr;rw[List.Nodup,List.pairwise_map];have hs:=hr.filter (fun x=>decide (x.2.1>0)&& !(x.2.2== []));refine List.Pairwise.imp_of_mem ?_ hs;intro a b ha hb hab e;have ha':=hp a (List.mem_filter.1 ha).1;have hb':=hp b (List.mem_filter.1 hb).1;have:=V0 (n:=n) ha'.1 hb'.1 e;omega
 ·obtain⟨x,hx,rfl,_⟩:=JL (Hb h) o ho;exact hp x hx
abbrev CI:List A3:= [(3,10000,[100,101,46,49]),(5,2000,[])]
abbrev M9:A0:=(3,[100,101,46,49],10000,[55,45,51])
theorem Vz:Ey 7 3= [55,45,51]:=by
 unfold Ey;rw[show((7:Int).toNat)=7 from rfl,show((3:Int).toNat)=3 from rfl,D0 (by decide),D0 (by decide)];rfl
theorem Vc:C3 7 (3,10000,[100,101,46,49])=M9:=by
 unfold C3;rw[Vz]
theorem QF:DH none CI:=⟨by decide,by decide,trivial⟩
theorem MA:A5 7 CI= [M9]:=by
 rw[←Vc];rfl
theorem Ve:AO CI= [5]:=rfl
theorem Pd:AS (AN (A5 7 CI))=true:=by
 rw[MA];decide
theorem QG:∀x∈CI,0≤x.1∧x.1≤4294967295:=by decide
theorem ofX:ofS 7 CI=([M9],[5],0):=by
 rcases Qd 7 CI with⟨e,he,h⟩|⟨_,_,_,_,h⟩
 ·exfalso
  have h1:EM 7 CI=.inl ([]++A5 7 CI,[]++AO CI,(),(),()):=by
   rcases JD (n:=7) (l:=CI) (a:=(none,[],[]))with⟨_,h3⟩|⟨h3,_⟩
   ·exact h3
   ·exact absurd QF h3
  unfold ofS at h;rw[if_neg (by decide),if_neg (by decide),h1]at h;simp only[List.nil_append]at h;rw[if_pos Pd]at h;simp only[Prod.mk.injEq]at h;exact he h.2.2.symm
 ·rw[h,MA,Ve]
theorem awake_eq:HK ()=some true:=by
 obtain⟨r1,r2⟩:=Qq (n:=7) (l:=CI) (by decide) (by decide) QG QF Pd;rw[MA]at r1 r2;unfold HK;dsimp only;simp only[gPi,gSS,gPb,gPm,gPs,gM,gM2,AY,gOr,AZ,Bd,gAA,gAO,gOA,gOO,AV,AX,Ba,Bc,AW,Bb,gId];simp only[Bp,Bq,Br,Bs,Bt,Bu,Bv,Bw,gId,Bo,gMb,gMm,gBm,gBb,bs,ms]
 have h1:=NG (n:=7) (l:=CI) (banks:=BZ (eqZ (.int .u32)) (3:Int) ([100,101,46,49]:List UInt8) ([]:List (Int×List UInt8))) (by
  intro x hx;simp only[CI,List.mem_cons,List.not_mem_nil,or_false]at hx
  rcases hx with rfl|rfl<;>rfl) QG (by decide)
 rw[ofX]at h1;have h2:(CI.map CT)= [(3,0,0,[],[],0,10000,0),(5,0,0,[],[],0,2000,0)]:=rfl;rw[h2]at h1;rw[h1,bs];dsimp only;rw[N3 r1 r2,bs];dsimp only;rw[RU r1 r2,bs];rfl
set_option linter.unusedSimpArgs false
set_option linter.unusedVariables false
set_option linter.unusedSimpArgs false
set_option linter.unusedVariables false
abbrev SA:=Int×Nat×Nat
def Hh(a:SA)(x:A3):SA:=if x.2.1=0 then a else if x.2.2= []then(a.1,a.2.1,a.2.2+1)else(a.1+x.2.1,a.2.1+1,a.2.2)
theorem MB(n:Int)(x:A3)(l:List A3):A5 n (x::l)=(if x.2.1>0∧x.2.2≠ []then [C3 n x]else [])++A5 n l:=by
 unfold A5;by_cases h1:x.2.1>0<;>by_cases h2:x.2.2= []<;>simp[h1,h2]
theorem MC(x:A3)(l:List A3):AO (x::l)=(if x.2.1>0∧x.2.2= []then [x.1]else [])++AO l:=by
 unfold AO;by_cases h1:x.2.1>0<;>by_cases h2:x.2.2= []<;>simp[h1,h2]
theorem Qp(n:Int)(l m:List A3):A5 n (l++m)=A5 n l++A5 n m:=by
 unfold A5;rw[List.filter_append,List.map_append]
theorem Qr(l m:List A3):AO (l++m)=AO l++AO m:=by
 unfold AO;rw[List.filter_append,List.map_append]
theorem R5(l m:List A0):AN (l++m)=AN l+AN m:=by
 unfold AN;rw[List.map_append,List.sum_append]
theorem Wf{n s f:Int}{l:List A3}(hl:l.length≤256)(h:∀x∈l,0≤x.2.1∧x.2.1≤1125899906842624):
  iter HJ (n,l,A5 n l,AO l,s,f,0,0,0,0,())=some (.inl (n,A5 n l,AO l,s,f,AN (A5 n l),((A5 n l).length:Int),((AO l).length:Int),())):=by
 have e:=D3 (b:=HJ) (A:=SA) (fun i a=>(n,l,A5 n l,AO l,s,f,a.1,(a.2.1:Int),(a.2.2:Int),(i:Int),())) (fun a x=>.inl (Hh a x)) (fun a=>.inl (n,A5 n l,AO l,s,f,a.1,(a.2.1:Int),(a.2.2:Int),())) (fun i a=>a=(AN (A5 n (l.take i)),(A5 n (l.take i)).length,(AO (l.take i)).length)∧0≤a.1∧a.1≤i*1125899906842624) l (a:=(0,0,0)) ⟨rfl,by simp,by simp⟩ ?_ ?_ ?_
 ·rw[show((0:Nat):Int)=0 from rfl]at e;rw[e,HA Hh]
  have hf:∀(t:List A3) (a:SA),(∀x∈t,0≤x.2.1)→t.foldl Hh a=(a.1+AN (A5 n t),a.2.1+(A5 n t).length,a.2.2+(AO t).length):=by
   intro t
   induction t with
   |nil=>intro a _;simp[A5,AO,AN]
   |cons x t ih=>
    intro a ha;have hx:=ha x (by simp);rw[List.foldl_cons,ih _ (fun y hy=>ha y (by simp[hy])),MB,MC,R5];unfold Hh;by_cases c1:x.2.1=0
    ·rw[if_pos c1,if_neg (by omega),if_neg (by omega)];simp[AN]
    ·rw[if_neg c1];by_cases c2:x.2.2= []
     ·rw[if_pos c2,if_neg (fun hh=>hh.2 c2),if_pos ⟨by omega,c2⟩];simp[AN];omega
     ·rw[if_neg c2,if_pos ⟨by omega,c2⟩,if_neg (fun hh=>c2 hh.2)];simp[AN,C3];omega
  rw[hf l (0,0,0) (fun x hx=>(h x hx).1)];simp
 ·intro i x a hx ha;obtain⟨ha,hb1,hb2⟩:=ha;have hi:=(Ae.1 hx).1;have hxx:=h x (List.mem_of_getElem? hx)
  have hd:l.drop i=x::l.drop (i+1):=by
   rw[List.drop_eq_getElem_cons hi];rw[Ai hi]at hx;cases hx;rfl
  have e1:A5 n l=A5 n (l.take i)++A5 n (x::l.drop (i+1)):=by
   rw[←hd,←Qp,List.take_append_drop]
  have e2:AO l=AO (l.take i)++AO (x::l.drop (i+1)):=by
   rw[←hd,←Qr,List.take_append_drop]
  unfold HJ;dsimp only;simp only[gPi,gSS,gPb,gPm,gPs,gM,gM2,AY,gOr,AZ,Bd,gAA,gAO,gOA,gOO,AV,AX,Ba,Bc,AW,Bb,gId];simp only[Bp,Bq,Br,Bs,Bt,Bu,Bv,Bw,gId,Bo,gMb,gMm,gBm,gBb,bs,ms];rw[CE hx,if_pos rfl,Cb hx,bs];unfold Hh;by_cases c1:x.2.1=0
  ·rw[if_pos (show(x.2.1==(0:Int))=true by rw[c1];rfl),bs,if_pos c1];dsimp only;rw[BF (by omega)];rfl
  ·rw[if_neg (show ¬(x.2.1==(0:Int))=true by simpa using c1),if_neg c1];by_cases c2:x.2.2= []
   ·have q:(x.2.2==([]:List UInt8))=true:=by rw[c2];rfl
    have hm:(AO l)[a.2.2]? =some x.1:=by
     rw[e2,MC,if_pos ⟨by omega,c2⟩,ha];simp
    have hml:=(Ae.1 hm).1;rw[bs,q,if_pos rfl,if_pos c2,Ak (show ¬(a.2.2:Int)≥((AO l).length:Int) by omega)];simp only[Ag,if_false,if_true,bs,Cb hm,bne_self_eq_false]
    have hml2:a.2.2≤256:=by
     have:(AO l).length≤l.length:=by
      unfold AO;rw[List.length_map];exact List.length_filter_le _ _
     omega
    rw[BF (i:=i) (by omega),BF (by omega)];rfl
   ·have q:(x.2.2==([]:List UInt8))=false:=beq_eq_false_iff_ne.2 c2
    have hm:(A5 n l)[a.2.1]? =some (C3 n x):=by
     rw[e1,MB,if_pos ⟨by omega,c2⟩,ha];simp
    have hml:=(Ae.1 hm).1;have hml2:=JM n l;rw[bs,q,if_neg (by decide),if_neg c2,Ak (show ¬(a.2.1:Int)≥((A5 n l).length:Int) by omega)];have o1:(C3 n x).1=x.1:=rfl;have o2:(C3 n x).2.1=x.2.2:=rfl;have o3:(C3 n x).2.2.1=x.2.1:=rfl;simp only[Ag,if_false,if_true,bs,Cb hm,o1,o2,o3,bne_self_eq_false,beq_self_eq_true,Bool.not_true];have hw:i64.wrap (a.1+x.2.1)=a.1+x.2.1:=Be (by omega) (by omega);rw[BF (i:=i) (by omega),BF (by omega),hw];rfl
 ·intro i x a a' hx ha hs;obtain⟨ha,hb1,hb2⟩:=ha;have hxx:=h x (List.mem_of_getElem? hx);have ht:l.take (i+1)=l.take i++ [x]:=by rw[List.take_add_one,hx];rfl
  cases hs;rw[ht,Qp,Qr,R5];unfold Hh;rw[MB,MC];by_cases c1:x.2.1=0
  ·rw[if_pos c1,if_neg (by omega),if_neg (by omega)];refine⟨?_,by omega,by push_cast;omega⟩;rw[ha];simp[A5,AO,AN]
  ·rw[if_neg c1];by_cases c2:x.2.2= []
   ·rw[if_pos c2,if_neg (fun hh=>hh.2 c2),if_pos ⟨by omega,c2⟩];refine⟨?_,hb1,by dsimp only;push_cast;omega⟩;rw[ha];simp[A5,AO,AN]
   ·rw[if_neg c2,if_pos ⟨by omega,c2⟩,if_neg (fun hh=>c2 hh.2)];refine⟨?_,by dsimp only;omega,by dsimp only;push_cast;omega⟩;rw[ha];simp[A5,AO,AN,C3]
 ·intro a _;unfold HJ;dsimp only;rw[Di,if_neg (by decide)]
theorem PaySum_law{n:Int}{l:List A3}(hA:HK ()=some true)(hp:∀x∈l,0≤x.1∧x.1≤4294967295):Mc (n,l)=some true:=by
 obtain⟨b,h1,h2⟩:=VN l;unfold Mc;dsimp only;simp only[gPi,gSS,gPb,gPm,gPs,gM,gM2,AY,gOr,AZ,Bd,gAA,gAO,gOA,gOO,AV,AX,Ba,Bc,AW,Bb,gId];simp only[Bp,Bq,Br,Bs,Bt,Bu,Bv,Bw,gId,Bo,gMb,gMm,gBm,gBb,bs,ms];rw[hA,bs,if_neg (by decide),h1,bs]
 cases b with
 |false=>rfl
 |true=>
  obtain⟨hl,hs,hAl⟩:=h2 rfl;rw[if_neg (by decide),Ww hl,bs];dsimp only;rw[NG (Si hAl) hp (fun x hx=>by have:=hs x hx;omega),bs];rcases Qd n l with⟨e,he,h3⟩|⟨hn,hl2,hR,hf,h3⟩
  ·rw[h3];have q:(e !=(0:Int))=true:=by simpa using he
   rw[if_pos q];rfl
  ·rw[h3];obtain⟨r1,r2⟩:=Qq hn hl2 hp hR hf;have hlen:=JM n l
   have hc:∀o∈A5 n l,1≤o.2.2.1∧o.2.2.1≤1125899906842624:=fun o ho=>by
    obtain⟨x,_,rfl,k1,k2,_⟩:=JL (Hb hR) o ho;exact⟨by show 1≤x.2.1;omega,k2⟩
   have hsum:Ic (A5 n l)=some (AN (A5 n l),0):=by
    rw[Vf (by omega) (fun o ho=>by have:=hc o ho;omega),We (fun c hc'=>by
     obtain⟨o,ho,rfl⟩:=List.mem_map.1 hc';have:=hc o ho
     omega)]
    rw[if_pos (show AS (List.map (fun o=>o.2.2.1) (A5 n l)).sum=true from hf)];rfl
   dsimp only;rw[if_neg (by decide),hsum,bs];dsimp only;rw[Wf hl2 (fun x hx=>(Hb hR x hx).2.1),bs];dsimp only;rw[N3 r1 r2,bs];simp only[beq_self_eq_true,if_true,bs]
end WB
