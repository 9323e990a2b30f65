/-
  OWN TEXTS, MERGED (wip/merge.py): Pyf, Pyg, Pyh, Pyi, Pyj, Pyk, Pyr, Pyo. No condition of their own.
-/
import Derived.Test.YtdnifdddokcnlaaGreatDoorK9
set_option linter.unusedVariables false
set_option linter.unusedSimpArgs false
open Go.IntKind (i64 u64 u8 u32)
namespace WB
open Go Go.RowKit
set_option linter.unusedSimpArgs false
set_option linter.unusedVariables false
theorem V0{l:List Aw}(h:l.length*48≤140737488355328):Jr l=some l:=by
 unfold Jr;dsimp only;have e:=CW (b:=Js) (A:=List Aw) (T:=List Aw×Unit×Unit) (fun i a=>(l,(i:Int),a,(),())) (fun a x=>Sum.inl (a++ [x])) (fun a=>(a,(),())) (fun i a=>a.length=i) l (a:= []) rfl ?_ ?_ ?_
 ·rw[show((0:Nat):Int)=0 from rfl]at e;rw[e,Je (fun x:Aw=> [x]),bs];simp
 ·intro i x a hx ha;have hi:=(Ae.1 hx).1;unfold Js;dsimp only;simp only[Cs hx,if_true,BF hx,ms,bs]
  rw[if_pos (by
   simp only[List.length_cons,List.length_nil]
   constructor<;>omega),bs,BD (by omega)]
  rfl
 ·intro i x a a' hx ha hs;cases hs;simp[ha]
 ·intro a ha;unfold Js;dsimp only;rw[CB,if_neg (by decide)]
theorem Rx{a b:List Aw}(hl:a.length=b.length)(h9:a.length≤1000000000000):∀(t u:List Aw) (i:Nat),a.drop i=t→b.drop i=u→i≤a.length→
  iter Io (a,b,(i:Int),())=some (if t=u then .inl ()else .inr false)
 | [],u,i,ht,hu,hi=>by
  have h1:i=a.length:=by
   have:=congrArg List.length ht;simp at this;omega
  have h2:u= []:=by
   rw[←hu];apply List.drop_eq_nil_of_le;omega
  subst h1 h2;rw[if_pos rfl];refine itR ?_;unfold Io;dsimp only;rw[CB,if_neg (by decide)]
 |x::t,u,i,ht,hu,hi=>by
  have hx:a[i]? =some x:=by
   have:=congrArg (fun q=>q[0]?) ht;simpa using this
  have hlt:i<a.length:=(Ae.1 hx).1;obtain⟨y,hy⟩:∃y,b[i]? =some y:=⟨b[i]'(by omega),Ai _⟩
  obtain⟨u',rfl⟩:∃u',u=y::u':=by
   rw[←hu,List.drop_eq_getElem_cons (by omega)];rw[Ai (by omega)]at hy;cases hy;exact⟨_,rfl⟩
  have ih:=Rx hl h9 t u' (i+1) (by rw[←List.tail_drop,ht];rfl) (by rw[←List.tail_drop,hu];rfl) hlt
  have hq:(x.1==y.1&&(x.2.1==y.2.1&&(x.2.2.1==y.2.2.1&&x.2.2.2==y.2.2.2)))=decide (x=y):=by
   rw[Bool.eq_iff_iff];simp only[Af,beq_iff_eq,decide_eq_true_eq];constructor
   ·rintro⟨e1,e2,e3,e4⟩
    exact Prod.ext e1 (Prod.ext e2 (Prod.ext e3 e4))
   ·rintro rfl
    exact⟨rfl,rfl,rfl,rfl⟩
  have step:Io (a,b,(i:Int),())=some (if x=y then .inl (a,b,((i+1:Nat):Int),())else .inr (.inr false)):=by
   unfold Io;dsimp only;simp only[Cs hx,if_true,BF hx,BF hy,ms,bs];rw[hq,BD (by omega)];by_cases h:x=y
   ·rw[Al h,if_pos h];rfl
   ·rw[Ak h,if_neg h];rfl
  by_cases h:x=y
  ·subst h;rw[if_pos rfl]at step;rw[itL step,ih];simp
  ·rw[if_neg h]at step;rw[itR step,if_neg (by simp[h])]
theorem Wr{a b:List Aw}(h9:a.length≤1000000000000)(hb:b.length≤9223372036854775807):Kl (a,b)=some (decide (a=b)):=by
 unfold Kl;dsimp only;by_cases hl:a.length=b.length
 ·have:((a.length:Int) !=(b.length:Int))=false:=by rw[hl,bne_self_eq_false]
  rw[this,if_neg (by decide)];have e:=Rx hl h9 a b 0 rfl rfl (by omega);rw[show((0:Nat):Int)=0 from rfl]at e;rw[e,bs];by_cases h:a=b
  ·rw[if_pos h,Al h]
  ·rw[if_neg h,Ak h]
 ·have:((a.length:Int) !=(b.length:Int))=true:=by rw[bne_iff_ne];omega
  rw[this,if_pos rfl,Ak (fun h=>hl (by rw[h]))]
set_option linter.unusedSimpArgs false
set_option linter.unusedVariables false
set_option linter.unusedSimpArgs false
set_option linter.unusedVariables false
theorem Fo{c:Int}:AW c=true↔ -1125899906842624≤c∧c≤1125899906842624:=by simp[AW]
theorem Pq{c:Int}:AW c=false↔¬(-1125899906842624≤c∧c≤1125899906842624):=by rw[←Fo];cases AW c<;>simp
def He(a c:Int):Int⊕((Int×Unit)⊕(Int×Int)):=if AW c=true then(if AW (a+c)=true then .inl (a+c)else .inr (.inr (0,9)))else .inr (.inr (0,2))
def Kw(l:List Int):(Int×Unit)⊕(Int×Int):=A5 He (fun a=>.inl (a,())) 0 l
def I1(l:List Int):Int×Int:=match Kw l with
 | .inl p=>(p.1,0)
 | .inr q=>q
theorem Rw:∀{l:List Int} {a:Int},0≤a→(∀c∈l,0≤c∧c≤1125899906842624)→a≤1125899906842624→A5 He (fun a=>.inl (a,())) a l=if AW (a+l.sum)=true then .inl (a+l.sum,())else .inr (0,9)
 | [],a,h0,_,h1=>by
  rw[List.sum_nil,Int.add_zero,if_pos (Fo.2 (by omega))];rfl
 |c::l,a,h0,h,h1=>by
  have hc:=h c (by simp);have hl:∀x∈l,0≤x:=fun x hx=>(h x (by simp[hx])).1
  have hs:0≤l.sum:=by
   clear h h1 hc
   induction l with
   |nil=>simp
   |cons y l ih=>have:=ih (fun x hx=>hl x (by simp[hx]));have:=hl y (by simp);simp;omega
  have e:a+(c::l).sum=a+c+l.sum:=by simp;omega
  rw[A5,e];unfold He;rw[if_pos (Fo.2 (by omega))];by_cases hf:AW (a+c)=true
  ·rw[if_pos hf];have:=Fo.1 hf;exact Rw (by omega) (fun x hx=>h x (by simp[hx])) (by omega)
  ·rw[if_neg hf];have h3:=Pq.1 (by simpa using hf);rw[if_neg (by rw[Fo];omega)]
theorem WC{l:List Int}(h:∀c∈l,0≤c∧c≤1125899906842624):I1 l=if AW l.sum=true then(l.sum,0)else(0,9):=by
 unfold I1 Kw;rw[Rw (by omega) h (by omega),Int.zero_add];by_cases hf:AW l.sum=true
 ·rw[if_pos hf,if_pos hf]
 ·rw[if_neg hf,if_neg hf]
set_option linter.unusedSimpArgs false
set_option linter.unusedVariables false
abbrev A3:=Int×Int×List UInt8
abbrev I9:=Int×Int×Int×List (Int×List UInt8×Int)×List (Int×Int×List (Int×List UInt8×Int))×Int×Int×Int
def CZ(x:A3):I9:=(x.1,0,0,[],[],0,x.2.1,0)
def E3(n p:Int):List UInt8:=Lib.decDigits n.toNat++ [45]++Lib.decDigits p.toNat
def Ea(n:Int)(x:A3):Aw:=(x.1,x.2.2,x.2.1,E3 n x.1)
def DP(prev:Option Int)(p:Int):Bool:=match prev with
 |some q=>decide (p≤q)
 |none=>false
def Eb(c:Int):Bool:=decide (0≤c)&&decide (c≤1125899906842624)
def B9(prev:Option Int)(x:A3):Int:=
 if x.1=0 then 2 else if DP prev x.1=true then 8 else if Eb x.2.1=false then 2 else if x.2.1>0∧x.2.2≠ []∧B7 x.2.2=false then 12 else 0
theorem QX{p:Option Int}{x:A3}(c1:x.1=0):B9 p x=2:=by unfold B9;rw[if_pos c1]
theorem QT{p:Option Int}{x:A3}(c1:x.1≠0)(c2:DP p x.1=true):B9 p x=8:=by unfold B9;rw[if_neg c1,if_pos c2]
theorem QW{p:Option Int}{x:A3}(c1:x.1≠0)(c2:DP p x.1=false)(c3:Eb x.2.1=false):B9 p x=2:=by unfold B9;rw[if_neg c1,if_neg (by rw[c2];decide),if_pos c3]
theorem QV{p:Option Int}{x:A3}(c1:x.1≠0)(c2:DP p x.1=false)(c3:Eb x.2.1=true)(c4:x.2.1>0)(c5:x.2.2≠ [])(c6:B7 x.2.2=false):B9 p x=12:=by unfold B9;rw[if_neg c1,if_neg (by rw[c2];decide),if_neg (by rw[c3];decide),if_pos ⟨c4,c5,c6⟩]
theorem Hc{p:Option Int}{x:A3}(c1:x.1≠0)(c2:DP p x.1=false)(c3:Eb x.2.1=true)(c4:¬(x.2.1>0∧x.2.2≠ []∧B7 x.2.2=false)):B9 p x=0:=by unfold B9;rw[if_neg c1,if_neg (by rw[c2];decide),if_neg (by rw[c3];decide),if_neg c4]
def Dq(l:List A3)(i:Nat):Option Int:=if i=0 then none else(l[i-1]?).map (·.1)
theorem Q6(c:Int):(if decide (c<0)=true then some true else some (decide (c>1125899906842624)))=some (!Eb c):=by
 unfold Eb;by_cases q1:c<0
 ·rw[Al q1,Ak (show ¬0≤c by omega)];rfl
 ·rw[Ak q1,Al (show 0≤c by omega)];by_cases q2:c>1125899906842624
  ·rw[Al q2,Ak (show ¬c≤1125899906842624 by omega)];rfl
  ·rw[Ak q2,Al (show c≤1125899906842624 by omega)];rfl
theorem T3{l:List A3}{i:Nat}{x:A3}(hi:i<l.length)(hl:l.length≤1000000):(if decide ((i:Int)>0)=true then(lAt (l.map CZ) (i64.wrap ((i:Int)-1))).bind fun v=>some (decide (x.1≤v.1))else some false)=some (DP (Dq l i) x.1):=by
 unfold Dq;by_cases h0:i=0
 ·subst h0;rfl
 ·rw[Al (show(i:Int)>0 by omega),if_pos rfl,if_neg h0,Bj (by omega) (by omega)];have hy:l[i-1]? =some (l[i-1]'(by omega)):=Ai _;rw[hy,show((i:Int)-1)=((i-1:Nat):Int) by omega,BF (a:=CZ (l[i-1]'(by omega))) (by rw[List.getElem?_map,hy];rfl),bs];rfl
theorem RY{p:Int}(h:0≤p∧p≤4294967295):u64.wrap p=p:=So (by omega) (by omega)
theorem Wg{n:Int}{l:List A3}{i:Nat}{x:A3}{banks:List (Int×List UInt8)}(hx:l[i]? =some x)(hb:(Bw (eqZ (Ty.int IntKind.u32)) (B3 Ty.str) x.1 banks).1=x.2.2)(hn:0≤n∧n≤1000000000)(hp:0≤x.1∧x.1≤4294967295)(hlen:x.2.2.length≤1000000)(hl:l.length≤1000000):
  JW ((n,0,0,0,l.map CZ),(i:Int),banks)=some (if B9 (Dq l i) x=0 then(Ea n x,0)else((0,[],0,[]),B9 (Dq l i) x)):=by
 have hi:=(Ae.1 hx).1;unfold JW;dsimp only;simp only[gPi,gSS,gPb,gPm,gPs,gM,gM2,AP,gOr,AQ,AU,gAA,gAO,gOA,gOO,AL,AO,AR,AT,AM,AS,gId];simp only[AZ,Ba,Bb,Bc,Bd,Be,Bf,Bg,gId,AY,gMb,gMm,gBm,gBb,bs,ms];rw[BF (a:=CZ x) (by rw[List.getElem?_map,hx];rfl),bs];have h1:(CZ x).1=x.1:=rfl;have h2:(CZ x).2.2.2.2.2.2.1=x.2.1:=rfl;rw[h1,h2,hb];by_cases c1:x.1=0
 ·rw[QX c1,if_neg (show ¬(2:Int)=0 by decide),if_pos (show(x.1==(0:Int))=true by rw[c1];rfl)]
 ·rw[if_neg (show ¬(x.1==(0:Int))=true by simpa using c1),T3 hi hl,bs]
  cases c2:DP (Dq l i) x.1 with
  |true=>rw[QT c1 c2,if_neg (show ¬(8:Int)=0 by decide),if_pos rfl]
  |false=>
   rw[if_neg (show ¬(false=true) by decide),Q6,bs]
   cases c3:Eb x.2.1 with
   |false=>rw[QW c1 c2 c3,if_neg (show ¬(2:Int)=0 by decide),if_pos (show(!false)=true from rfl)]
   |true=>
    rw[if_neg (show ¬((!true)=true) by decide)]
    have fin:((strconv_Itoa n).bind fun x67=>if x67.length+([45]:List UInt8).length≤4611686018427387904 then(F4 (u64.wrap x.1,10)).bind fun x72=>if(x67++ [45]).length+x72.length≤4611686018427387904 then some ((x.1,x.2.2,x.2.1,x67++ [45]++x72),(0:Int))else none else none)=some (Ea n x,0):=by
     have l1:(Lib.decDigits n.toNat).length≤10:=D6 (by omega) (by omega);have l2:(Lib.decDigits x.1.toNat).length≤10:=D6 (by omega) (by omega);unfold strconv_Itoa F4;rw[if_pos ⟨by omega,by omega⟩,bs,GB hn.1,if_pos (by simp;omega),RY hp,if_pos ⟨rfl,by omega,by omega⟩,bs,GB hp.1,if_pos (by simp;omega)];rfl
    by_cases c4:x.2.1>0
    ·by_cases c5:x.2.2= []
     ·have:(x.2.2==([]:List UInt8))=true:=by rw[c5];rfl
      rw[Hc c1 c2 c3 (fun h=>h.2.1 c5),if_pos (rfl:(0:Int)=0),this,Al c4];exact fin
     ·have:(x.2.2==([]:List UInt8))=false:=by rw[beq_eq_false_iff_ne];exact c5
      rw[this,Al c4];simp only[Bool.not_false,if_true,Ag,if_false,Mh (show x.2.2.length≤4611686018427387904 by omega),bs]
      cases c6:B7 x.2.2 with
      |true=>
       rw[Hc c1 c2 c3 (fun h=>by rw[c6]at h;exact absurd h.2.2 (by decide)),if_pos (rfl:(0:Int)=0)];exact fin
      |false=>
       rw[QV c1 c2 c3 c4 c5 c6,if_neg (show ¬(12:Int)=0 by decide)];rfl
    ·rw[Hc c1 c2 c3 (fun h=>c4 h.1),if_pos (rfl:(0:Int)=0),Ak c4];exact fin
abbrev OA:=Option Int×List Aw×List Int
abbrev OT:=(List Aw×List Int×Unit×Unit×Unit)⊕(List Aw×List Int×Int)
def Cj(n:Int)(a:OA)(x:A3):OA⊕OT:=
 if B9 a.1 x≠0 then .inr (.inr ([],[],B9 a.1 x))else if x.2.1>0∧x.2.2= []then .inl (some x.1,a.2.1,a.2.2++ [x.1])else if x.2.1>0 then .inl (some x.1,a.2.1++ [Ea n x],a.2.2)else .inl (some x.1,a.2.1,a.2.2)
theorem JF{n e:Int}{a:OA}{x:A3}(h:B9 a.1 x=e)(he:e≠0):Cj n a x=.inr (.inr ([],[],e)):=by
 unfold Cj;rw[h,if_pos he]
theorem Vx{n:Int}{a:OA}{x:A3}(h:B9 a.1 x=0)(c:¬x.2.1>0):Cj n a x=.inl (some x.1,a.2.1,a.2.2):=by
 unfold Cj;rw[h,if_neg (by decide),if_neg (fun hh=>c hh.1),if_neg c]
theorem Vw{n:Int}{a:OA}{x:A3}(h:B9 a.1 x=0)(c:x.2.1>0)(d:x.2.2= []):Cj n a x=.inl (some x.1,a.2.1,a.2.2++ [x.1]):=by
 unfold Cj;rw[h,if_neg (by decide),if_pos ⟨c,d⟩]
theorem Vv{n:Int}{a:OA}{x:A3}(h:B9 a.1 x=0)(c:x.2.1>0)(d:x.2.2≠ []):Cj n a x=.inl (some x.1,a.2.1++ [Ea n x],a.2.2):=by
 unfold Cj;rw[h,if_neg (by decide),if_neg (fun hh=>d hh.2),if_pos c]
def Do(n:Int)(l:List A3):OT:=A5 (Cj n) (fun a=>.inl (a.2.1,a.2.2,(),(),())) (none,[],[]) l
def ofS(n:Int)(l:List A3):List Aw×List Int×Int:=
 if n<1∨n>1000000000 then([],[],2)else if(l.length:Int)>256 then([],[],5)else match Do n l with
  | .inl p=>if AW (BA p.1)=true then(p.1,p.2.1,0)else([],[],9)
  | .inr q=>q
def DN:Option Int→List A3→Prop
 |_,[]=>True
 |prev,x::l=>B9 prev x=0∧DN (some x.1) l
def BM(n:Int)(l:List A3):List Aw:=(l.filter fun x=>decide (x.2.1>0)&& !(x.2.2== [])).map (Ea n)
def CK(l:List A3):List Int:=(l.filter fun x=>decide (x.2.1>0)&&(x.2.2== [])).map (·.1)
theorem HY{n:Int}:∀{l:List A3} {a:OA},(DN a.1 l∧A5 (Cj n) (fun a=>(.inl (a.2.1,a.2.2,(),(),()):OT)) a l=.inl (a.2.1++BM n l,a.2.2++CK l,(),(),()))∨(¬DN a.1 l∧∃e,e≠0∧A5 (Cj n) (fun a=>(.inl (a.2.1,a.2.2,(),(),()):OT)) a l=.inr ([],[],e))
 | [],a=>.inl ⟨trivial,by simp[A5,BM,CK]⟩
 |x::l,a=>by
  rw[A5];unfold Cj;by_cases he:B9 a.1 x=0
  ·rw[if_neg (by simp[he])]
   have key:∀(b:OA),b.1=some x.1→∀(X:List Aw) (Y:List Int),b.2.1++BM n l=a.2.1++X→b.2.2++CK l=a.2.2++Y→((DN a.1 (x::l)∧A5 (Cj n) (fun a=>(.inl (a.2.1,a.2.2,(),(),()):OT)) b l=.inl (a.2.1++X,a.2.2++Y,(),(),()))∨(¬DN a.1 (x::l)∧∃e,e≠0∧A5 (Cj n) (fun a=>(.inl (a.2.1,a.2.2,(),(),()):OT)) b l=.inr ([],[],e))):=by
    intro b hb X Y hX hY;rcases HY (n:=n) (l:=l) (a:=b)with⟨h1,h2⟩|⟨h1,h2⟩
    ·rw[hb]at h1;exact .inl ⟨⟨he,h1⟩,by rw[h2,hX,hY]⟩
    ·rw[hb]at h1;exact .inr ⟨fun hh=>h1 hh.2,h2⟩
   by_cases c1:x.2.1>0∧x.2.2= []
   ·rw[if_pos c1];refine key _ rfl _ _ ?_ ?_
    ·simp[BM,c1]
    ·simp[CK,c1]
   ·rw[if_neg c1];by_cases c2:x.2.1>0
    ·rw[if_pos c2];have c3:x.2.2≠ []:=fun h=>c1 ⟨c2,h⟩;refine key _ rfl _ _ ?_ ?_
     ·simp[BM,c2,c3]
     ·simp[CK,c2,c3]
    ·rw[if_neg c2];refine key _ rfl _ _ ?_ ?_
     ·simp[BM,c2]
     ·simp[CK,c2]
  ·rw[if_pos he];exact .inr ⟨fun hh=>he hh.1,_,he,rfl⟩
theorem QU{prev:Option Int}{x:A3}(h:B9 prev x=0):x.1≠0∧DP prev x.1=false∧(0≤x.2.1∧x.2.1≤1125899906842624)∧(x.2.1>0→x.2.2≠ []→B7 x.2.2=true):=by
 unfold B9 at h;split at h
 ·cases h
 ·rename_i h1;split at h
  ·cases h
  ·rename_i h2;split at h
   ·cases h
   ·rename_i h3;split at h
    ·cases h
    ·rename_i h4;have h3':Eb x.2.1=true:=by simpa using h3
     simp only[Eb,Af,decide_eq_true_eq]at h3';refine⟨h1,by simpa using h2,h3',fun q1 q2=> ?_⟩
     cases hn:B7 x.2.2 with
     |true=>rfl
     |false=>exact absurd ⟨q1,q2,hn⟩ h4
theorem Kt:∀{l:List A3} {prev:Option Int},DN prev l→∀x∈l,x.1≠0∧(0≤x.2.1∧x.2.1≤1125899906842624)∧(x.2.1>0→x.2.2≠ []→B7 x.2.2=true)
 | [],_,_,x,hx=>by cases hx
 |y::l,prev,h,x,hx=>by
  obtain⟨k1,_,k3,k4⟩:=QU h.1;rcases List.mem_cons.1 hx with rfl|hx
  ·exact⟨k1,k3,k4⟩
  ·exact Kt h.2 x hx
theorem MO{n:Int}{l:List A3}(h:∀x∈l,x.1≠0∧(0≤x.2.1∧x.2.1≤1125899906842624)∧(x.2.1>0→x.2.2≠ []→B7 x.2.2=true)):∀o∈BM n l,∃x∈l,o=Ea n x∧x.2.1>0∧x.2.1≤1125899906842624∧x.1≠0∧B7 x.2.2=true:=by
 intro o ho;obtain⟨x,hx,rfl⟩:=List.mem_map.1 ho;rw[List.mem_filter]at hx;simp only[Af,decide_eq_true_eq,Bool.not_eq_true',beq_eq_false_iff_ne]at hx;obtain⟨k1,k2,k3⟩:=h x hx.1;exact⟨x,hx.1,rfl,hx.2.1,k2.2,k1,k3 hx.2.1 hx.2.2⟩
theorem MQ(n:Int)(l:List A3):(BM n l).length≤l.length:=by
 unfold BM;rw[List.length_map];exact List.length_filter_le _ _
theorem Qq{n:Int}{l:List A3}{p}(h:Do n l=.inl p)(hl:l.length≤256):DN none l∧p=(BM n l,CK l,(),(),())∧(∀o∈p.1,1≤o.2.2.1∧o.2.2.1≤1125899906842624)∧p.1.length≤256:=by
 rcases HY (n:=n) (l:=l) (a:=(none,[],[]))with⟨h1,h2⟩|⟨_,e,_,h2⟩
 ·have h3:Do n l=.inl ([]++BM n l,[]++CK l,(),(),()):=h2;rw[h3]at h;cases h;have hlen:=MQ n l;refine⟨h1,rfl,fun o ho=> ?_,by simp;omega⟩;obtain⟨x,_,rfl,k1,k2,_⟩:=MO (Kt h1) o ho;exact⟨by show 1≤x.2.1;omega,k2⟩
 ·have h3:Do n l=.inr ([],[],e):=h2;rw[h3]at h;cases h
theorem QK(n:Int):(if decide (n<1)=true then some true else some (decide (n>1000000000)))=some (decide (n<1∨n>1000000000)):=by
 by_cases h:n<1
 ·simp[h]
 ·simp[h]
theorem NS{n:Int}{l:List A3}{banks:List (Int×List UInt8)}(hb:∀x∈l,(Bw (eqZ (Ty.int IntKind.u32)) (B3 Ty.str) x.1 banks).1=x.2.2)(hp:∀x∈l,0≤x.1∧x.1≤4294967295)(hlen:∀x∈l,x.2.2.length≤1000000):
  Ic ((n,0,0,0,l.map CZ),banks)=some (ofS n l):=by
 unfold Ic ofS;dsimp only;simp only[gPi,gSS,gPb,gPm,gPs,gM,gM2,AP,gOr,AQ,AU,gAA,gAO,gOA,gOO,AL,AO,AR,AT,AM,AS,gId];simp only[AZ,Ba,Bb,Bc,Bd,Be,Bf,Bg,gId,AY,gMb,gMm,gBm,gBb,bs,ms];rw[QK,bs];by_cases h1:n<1∨n>1000000000
 ·rw[Al h1,if_pos rfl,if_pos h1]
 ·rw[Ak h1,if_neg (by decide),if_neg h1,List.length_map];by_cases h2:(l.length:Int)>256
  ·rw[if_pos h2,if_pos (Al h2)]
  ·rw[if_neg h2,if_neg (by rw[Ak h2];decide)];have e:=CW (b:=JR) (A:=OA) (T:=OT) (fun i a=>(banks,(l.length:Int),(i:Int),n,0,0,0,l.map CZ,a.2.1,a.2.2,(),(),(),(),())) (Cj n) (fun a=>.inl (a.2.1,a.2.2,(),(),())) (fun i a=>a.1=Dq l i∧a.2.1.length≤i∧a.2.2.length≤i) l (a:=(none,[],[])) ⟨rfl,by simp,by simp⟩ ?_ ?_ ?_
   ·rw[show((0:Nat):Int)=0 from rfl]at e;rw[e,bs];show(match Do n l with| .inl p=>_| .inr q=>_)=_
    cases hw:Do n l with
    |inr q=>rfl
    |inl p=>
     obtain⟨_,_,hc,hpl⟩:=Qq hw (by omega);simp only;rw[KP (by omega) (fun o ho=>by have:=hc o ho;omega),bs];simp only;cases AW (BA p.1)<;>rfl
   ·intro i x a hx ha;obtain⟨ha1,ha2,ha3⟩:=ha;have hi:=(Ae.1 hx).1;have hm:=List.mem_of_getElem? hx;unfold JR;dsimp only;simp only[gPi,gSS,gPb,gPm,gPs,gM,gM2,AP,gOr,AQ,AU,gAA,gAO,gOA,gOO,AL,AO,AR,AT,AM,AS,gId];simp only[AZ,Ba,Bb,Bc,Bd,Be,Bf,Bg,gId,AY,gMb,gMm,gBm,gBb,bs,ms];rw[Al (show(i:Int)<(l.length:Int) by omega),if_pos rfl,Wg hx (hb x hm) (by omega) (hp x hm) (hlen x hm) (by omega),bs,←ha1];unfold Cj;by_cases he:B9 a.1 x=0
    ·rw[if_pos he,if_neg (show ¬(B9 a.1 x≠0) by simp[he])];dsimp only;rw[if_neg (show ¬(((0:Int) !=0)=true) by decide)];have o1:(Ea n x).2.2.1=x.2.1:=rfl;have o2:(Ea n x).2.1=x.2.2:=rfl;have o3:(Ea n x).1=x.1:=rfl;rw[o1,o2,o3];by_cases c2:x.2.1>0
     ·rw[Al c2,if_pos rfl,bs];by_cases c3:x.2.2= []
      ·have:(x.2.2==([]:List UInt8))=true:=by rw[c3];rfl
       rw[this,if_pos rfl,if_pos (by simp only[List.length_cons,List.length_nil];constructor<;>omega),bs,if_pos ⟨c2,c3⟩];dsimp only;rw[BD (by omega)];rfl
      ·have:(x.2.2==([]:List UInt8))=false:=by rw[beq_eq_false_iff_ne];exact c3
       rw[this,if_neg (by decide),if_pos rfl,if_pos (by simp only[List.length_cons,List.length_nil];constructor<;>omega),bs,if_neg (fun h=>c3 h.2),if_pos c2];dsimp only;rw[BD (by omega)];rfl
     ·rw[Ak c2,if_neg (by decide),bs,if_neg (by decide),if_neg (by decide),bs,if_neg (fun h=>c2 h.1),if_neg c2];dsimp only;rw[BD (by omega)];rfl
    ·rw[if_neg he,if_pos (show B9 a.1 x≠0 from he)];dsimp only;rw[if_pos (show(B9 a.1 x !=0)=true by simpa using he)];rfl
   ·intro i x a a' hx ha hs;obtain⟨ha1,ha2,ha3⟩:=ha
    have hpr:Dq l (i+1)=some x.1:=by
     unfold Dq;rw[if_neg (by omega),Nat.add_sub_cancel,hx];rfl
    unfold Cj at hs;rw[hpr];split at hs
    ·cases hs
    ·split at hs
     ·cases hs;exact⟨rfl,by simp;omega,by simp;omega⟩
     ·split at hs
      ·cases hs;exact⟨rfl,by simp;omega,by simp;omega⟩
      ·cases hs;exact⟨rfl,by simp;omega,by simp;omega⟩
   ·intro a _;unfold JR;dsimp only;rw[CB,if_neg (by decide)]
set_option linter.unusedSimpArgs false
set_option linter.unusedVariables false
theorem Of{l:List A3}{i:Nat}{x:A3}(hx:l[i]? =some x)(hi:i≤1000):∀(m k:Nat),m=i-k→k≤i→(∀y∈l.take k,y.1=x.1→y.2.2=x.2.2)→
  ∃r,iter HN (l,(i:Int),(k:Int),())=some r∧(r=.inr false∨(r=.inl (l,(i:Int),())∧∀y∈l.take i,y.1=x.1→y.2.2=x.2.2))
 |m,k,hm,hk,hT=>by
  have hil:=(Ae.1 hx).1;by_cases hlt:k<i
  ·obtain⟨y,hy⟩:∃y,l[k]? =some y:=⟨l[k]'(by omega),Ai _⟩;by_cases hyx:y.1=x.1→y.2.2=x.2.2
   ·obtain⟨r,h1,h2⟩:=Of hx hi (m-1) (k+1) (by omega) (by omega) (by
     intro z hz;rw[List.take_add_one,hy]at hz;rcases List.mem_append.1 hz with hz|hz
     ·exact hT z hz
     ·simp at hz;rw[hz]
      exact hyx)
    refine⟨r,(itL ?_).trans h1,h2⟩;unfold HN;dsimp only;simp only[gPi,gSS,gPb,gPm,gPs,gM,gM2,AP,gOr,AQ,AU,gAA,gAO,gOA,gOO,AL,AO,AR,AT,AM,AS,gId];simp only[AZ,Ba,Bb,Bc,Bd,Be,Bf,Bg,gId,AY,gMb,gMm,gBm,gBb,bs,ms];rw[Al (show(k:Int)<(i:Int) by omega),if_pos rfl,BF hy,bs,BF hx,bs];by_cases h1:y.1=x.1
    ·have:(y.1==x.1)=true:=by rw[h1];exact beq_self_eq_true _
     rw[this];have h3:(y.2.2==x.2.2)=true:=by rw[hyx h1];exact beq_self_eq_true _
     simp only[if_true,bs,h3,Bool.not_true,Ag,if_false];rw[BD (by omega)]
    ·have:(y.1==x.1)=false:=by rw[beq_eq_false_iff_ne];exact h1
     rw[this];simp only[if_true,bs,Ag,if_false,reduceCtorEq];rw[BD (by omega)]
   ·refine⟨_,itR (t:=.inr false) ?_,.inl rfl⟩;have h1:y.1=x.1:=Classical.byContradiction fun h=>hyx fun h'=>absurd h' h;have h2:¬y.2.2=x.2.2:=fun h=>hyx fun _=>h;unfold HN;dsimp only;simp only[gPi,gSS,gPb,gPm,gPs,gM,gM2,AP,gOr,AQ,AU,gAA,gAO,gOA,gOO,AL,AO,AR,AT,AM,AS,gId];simp only[AZ,Ba,Bb,Bc,Bd,Be,Bf,Bg,gId,AY,gMb,gMm,gBm,gBb,bs,ms];rw[Al (show(k:Int)<(i:Int) by omega),if_pos rfl,BF hy,bs,BF hx,bs];have:(y.1==x.1)=true:=by rw[h1];exact beq_self_eq_true _
    rw[this];have h3:(y.2.2==x.2.2)=false:=by rw[beq_eq_false_iff_ne];exact h2
    simp only[if_true,bs,h3,Bool.not_false]
  ·have:k=i:=by omega
   subst this;refine⟨_,itR (t:=.inl (l,(k:Int),())) ?_,.inr ⟨rfl,hT⟩⟩;unfold HN;dsimp only;rw[Ak (by omega),if_neg (by decide)]
 termination_by m=>m
 decreasing_by omega
def Lb(l:List A3):Prop:=∀x∈l,∀y∈l,y.1=x.1→y.2.2=x.2.2
theorem R7{l:List A3}:∀(m i:Nat),m=300-i→i≤l.length→i≤300→(∀x∈l.take i,x.2.2.length≤300)→(∀k x,k<i→l[k]? =some x→∀y∈l.take k,y.1=x.1→y.2.2=x.2.2)→
  ∃r,iter GE (l,(i:Int),())=some r∧(r=.inr false∨(r=.inl (l,())∧(l.length≤300→(∀x∈l,x.2.2.length≤300)∧∀k x,l[k]? =some x→∀y∈l.take k,y.1=x.1→y.2.2=x.2.2)))
 |m,i,hm,hi,hik,hT,hA=>by
  by_cases hlt:i<l.length∧i<300
  ·obtain⟨x,hx⟩:∃x,l[i]? =some x:=⟨l[i]'hlt.1,Ai _⟩;by_cases hx3:x.2.2.length≤300
   ·obtain⟨r1,g1,g2⟩:=Of hx (by omega) i 0 (by omega) (by omega) (by simp);rw[show((0:Nat):Int)=0 from rfl]at g1;rcases g2 with rfl|⟨rfl,g2⟩
    ·refine⟨_,itR (t:=.inr false) ?_,.inl rfl⟩;unfold GE;dsimp only;simp only[gPi,gSS,gPb,gPm,gPs,gM,gM2,AP,gOr,AQ,AU,gAA,gAO,gOA,gOO,AL,AO,AR,AT,AM,AS,gId];simp only[AZ,Ba,Bb,Bc,Bd,Be,Bf,Bg,gId,AY,gMb,gMm,gBm,gBb,bs,ms];rw[Cs hx,if_pos rfl,bs,Al (show(i:Int)<300 by omega),if_pos rfl,BF hx,bs,Ak (by omega),if_neg (by decide),g1,bs]
    ·obtain⟨r,h1,h2⟩:=R7 (l:=l) (m-1) (i+1) (by omega) (by omega) (by omega) (by
      intro o ho;rw[List.take_add_one,hx]at ho;rcases List.mem_append.1 ho with ho|ho
      ·exact hT o ho
      ·simp at ho;rw[ho]
       exact hx3) (by
      intro k y hk hy;by_cases hki:k=i
      ·subst hki;rw[hx]at hy;cases hy;exact g2
      ·exact hA k y (by omega) hy)
     refine⟨r,(itL ?_).trans h1,h2⟩;unfold GE;dsimp only;simp only[gPi,gSS,gPb,gPm,gPs,gM,gM2,AP,gOr,AQ,AU,gAA,gAO,gOA,gOO,AL,AO,AR,AT,AM,AS,gId];simp only[AZ,Ba,Bb,Bc,Bd,Be,Bf,Bg,gId,AY,gMb,gMm,gBm,gBb,bs,ms];rw[Cs hx,if_pos rfl,bs,Al (show(i:Int)<300 by omega),if_pos rfl,BF hx,bs,Ak (by omega),if_neg (by decide),g1,bs];dsimp only;rw[BD (by omega)]
   ·refine⟨_,itR (t:=.inr false) ?_,.inl rfl⟩;unfold GE;dsimp only;simp only[gPi,gSS,gPb,gPm,gPs,gM,gM2,AP,gOr,AQ,AU,gAA,gAO,gOA,gOO,AL,AO,AR,AT,AM,AS,gId];simp only[AZ,Ba,Bb,Bc,Bd,Be,Bf,Bg,gId,AY,gMb,gMm,gBm,gBb,bs,ms];rw[Cs hx,if_pos rfl,bs,Al (show(i:Int)<300 by omega),if_pos rfl,BF hx,bs,Al (by omega),if_pos rfl]
  ·refine⟨_,itR (t:=.inl (l,())) ?_,.inr ⟨rfl,fun hl=> ?_⟩⟩
   ·unfold GE;dsimp only;simp only[gPi,gSS,gPb,gPm,gPs,gM,gM2,AP,gOr,AQ,AU,gAA,gAO,gOA,gOO,AL,AO,AR,AT,AM,AS,gId];simp only[AZ,Ba,Bb,Bc,Bd,Be,Bf,Bg,gId,AY,gMb,gMm,gBm,gBb,bs,ms];by_cases h1:i<l.length
    ·rw[Al (show(i:Int)<(l.length:Int) by omega),if_pos rfl,bs,Ak (show ¬(i:Int)<300 by omega),if_neg (by decide)]
    ·rw[Ak (show ¬(i:Int)<(l.length:Int) by omega),if_neg (by decide),bs,if_neg (by decide)]
   ·have:l.take i=l:=List.take_of_length_le (by omega);rw[this]at hT;exact⟨hT,fun k x hk=>hA k x (by have:=(Ae.1 hk).1;omega) hk⟩
 termination_by m=>m
 decreasing_by omega
theorem S5{l:List A3}(h:∀k x,l[k]? =some x→∀y∈l.take k,y.1=x.1→y.2.2=x.2.2):Lb l:=by
 intro x hx y hy e;obtain⟨i,hi⟩:=List.mem_iff_getElem?.1 hx;obtain⟨j,hj⟩:=List.mem_iff_getElem?.1 hy;by_cases hij:j<i
 ·exact h i x hi y (List.mem_iff_getElem?.2 ⟨j,by rw[List.getElem?_take,if_pos hij,hj]⟩) e
 ·by_cases hji:i<j
  ·exact(h j y hj x (List.mem_iff_getElem?.2 ⟨i,by rw[List.getElem?_take,if_pos hji,hi]⟩) e.symm).symm
  ·have:i=j:=by omega
   subst this;rw[hi]at hj;cases hj;rfl
theorem Wu(l:List A3):∃b,Jt l=some b∧(b=true→l.length≤300∧(∀x∈l,x.2.2.length≤300)∧Lb l):=by
 obtain⟨r,h1,h2⟩:=R7 (l:=l) 300 0 (by omega) (by omega) (by omega) (by simp) (by intro k x hk;omega);unfold Jt;dsimp only;rw[show((0:Nat):Int)=0 from rfl]at h1;rw[h1,bs];rcases h2 with rfl|⟨rfl,h2⟩
 ·exact⟨false,rfl,fun h=>by cases h⟩
 ·refine⟨_,rfl,fun h=> ?_⟩;simp only[decide_eq_true_eq]at h;have h3:=h2 (by omega);exact⟨by omega,h3.1,S5 h3.2⟩
theorem TS(a b:Int):eqZ (.int .u32) a b=true↔a=b:=by
 show(a==b)=true↔a=b;exact beq_iff_eq
def Fd(m:List (Int×List UInt8))(x:A3):List (Int×List UInt8):=if x.2.2= []then m else Ca (eqZ (.int .u32)) x.1 x.2.2 m
def Lk(l:List A3):List (Int×List UInt8):=l.foldl Fd []
theorem Om:∀(l:List A3) (m:List (Int×List UInt8)) (p:Int),(Bw (eqZ (Ty.int IntKind.u32)) (B3 Ty.str) p (l.foldl Fd m)).1=(match l.reverse.find? (fun x=>decide (x.1=p)&& !(x.2.2== []))with
  |some x=>x.2.2
  |none=>(Bw (eqZ (Ty.int IntKind.u32)) (B3 Ty.str) p m).1)
 | [],m,p=>rfl
 |x::l,m,p=>by
  rw[List.foldl_cons,Om l,List.reverse_cons,List.find?_append]
  cases hf:l.reverse.find? (fun x=>decide (x.1=p)&& !(x.2.2== []))with
  |some y=>rfl
  |none=>
   simp only[Option.none_or];unfold Fd;by_cases h1:x.2.2= []
   ·rw[if_pos h1];simp[h1]
   ·rw[if_neg h1,Oe TS];have:((x.2.2==([]:List UInt8))=false):=by rw[beq_eq_false_iff_ne];exact h1
    by_cases h2:p=x.1
    ·rw[if_pos h2];simp[h1,h2]
    ·rw[if_neg h2];simp[this,Ne.symm h2]
theorem SC{l:List A3}(h:Lb l):∀x∈l,(Bw (eqZ (Ty.int IntKind.u32)) (B3 Ty.str) x.1 (Lk l)).1=x.2.2:=by
 intro x hx;unfold Lk;rw[Om]
 cases hf:l.reverse.find? (fun y=>decide (y.1=x.1)&& !(y.2.2== []))with
 |some y=>
  have h1:=List.find?_some hf;have h2:=List.mem_reverse.1 (List.mem_of_find?_eq_some hf);simp only[Af,decide_eq_true_eq]at h1;exact h x hx y h2 h1.1
 |none=>
  rw[List.find?_eq_none]at hf;have h1:=hf x (List.mem_reverse.2 hx);simp at h1;rw[h1];rfl
theorem WU{n:Int}{l:List A3}(hl:l.length≤300):Ju (n,l)=some ((n,0,0,0,l.map CZ),Lk l):=by
 unfold Ju;dsimp only;have e:=CW (b:=Jv) (A:=List (Int×List UInt8)×List I9) (fun i a=>(l,(i:Int),0,0,0,0,n,0,0,0,a.1,a.2,(),(),(),(),(),(),(),())) (fun a x=>.inl (Fd a.1 x,a.2++ [CZ x])) (fun a=>(0,0,0,0,n,0,0,0,a.1,a.2,(),(),(),(),(),(),(),())) (fun i a=>a.2.length=i) l (a:=([],[])) rfl ?_ ?_ ?_
 ·rw[show((0:Nat):Int)=0 from rfl]at e;rw[e,bs]
  have hf:∀(t:List A3) (a:List (Int×List UInt8)×List I9),t.foldl (fun a x=>(Fd a.1 x,a.2++ [CZ x])) a=(t.foldl Fd a.1,a.2++t.map CZ):=by
   intro t
   induction t with
   |nil=>intro a;simp
   |cons x t ih=>intro a;rw[List.foldl_cons,ih];simp
  rw[HB (fun(a:List (Int×List UInt8)×List I9) (x:A3)=>(Fd a.1 x,a.2++ [CZ x])),hf];rfl
 ·intro i x a hx ha;have hi:=(Ae.1 hx).1;unfold Jv;dsimp only;simp only[gPi,gSS,gPb,gPm,gPs,gM,gM2,AP,gOr,AQ,AU,gAA,gAO,gOA,gOO,AL,AO,AR,AT,AM,AS,gId];simp only[AZ,Ba,Bb,Bc,Bd,Be,Bf,Bg,gId,AY,gMb,gMm,gBm,gBb,bs,ms];rw[Cs hx,if_pos rfl,BF hx,bs,bs,if_pos (by simp only[List.length_cons,List.length_nil];constructor<;>omega),bs];unfold Fd;by_cases h1:x.2.2= []
  ·have:((x.2.2==([]:List UInt8))=true):=by rw[h1];rfl
   rw[this,if_neg (by decide),if_pos h1,bs];dsimp only;rw[BD (by omega)];rfl
  ·have:((x.2.2==([]:List UInt8))=false):=by rw[beq_eq_false_iff_ne];exact h1
   rw[this,if_pos (by decide),if_neg h1,bs,bs,bs];dsimp only;rw[BD (by omega)];rfl
 ·intro i x a a' hx ha hs;cases hs;simp[ha]
 ·intro a _;unfold Jv;dsimp only;rw[CB,if_neg (by decide)]
set_option linter.unusedSimpArgs false
set_option linter.unusedVariables false
theorem Vy(n:Int)(l:List A3):(∃e,e≠0∧ofS n l=([],[],e))∨((1≤n∧n≤1000000000)∧l.length≤256∧DN none l∧AW (BA (BM n l))=true∧ofS n l=(BM n l,CK l,0)):=by
 unfold ofS;by_cases h1:n<1∨n>1000000000
 ·exact .inl ⟨2,by decide,by rw[if_pos h1]⟩
 ·by_cases h2:(l.length:Int)>256
  ·exact .inl ⟨5,by decide,by rw[if_neg h1,if_pos h2]⟩
  ·rw[if_neg h1,if_neg h2];rcases HY (n:=n) (l:=l) (a:=(none,[],[]))with⟨k1,h3⟩|⟨_,e,he,h3⟩
   ·have h4:Do n l=.inl ([]++BM n l,[]++CK l,(),(),()):=h3;rw[h4];simp only[List.nil_append];by_cases h5:AW (BA (BM n l))=true
    ·rw[if_pos h5];exact .inr ⟨by omega,by omega,k1,h5,rfl⟩
    ·rw[if_neg h5];exact .inl ⟨9,by decide,rfl⟩
   ·have h4:Do n l=.inr ([],[],e):=h3;rw[h4];exact .inl ⟨e,he,rfl⟩
theorem Qr{b:UInt8}(h:dgt b=true):okb b=true:=by
 have:=Dg.1 h;unfold okb;rw[Al (show(b.toNat:Int)<97 by omega),Ak (show ¬(b.toNat:Int)<48 by omega),Ak (show ¬(b.toNat:Int)>57 by omega)];simp
theorem Vm{n p:Int}(hn:0≤n∧n≤1000000000)(hp:0≤p∧p≤4294967295):B7 (E3 n p)=true:=by
 have l1:(Lib.decDigits n.toNat).length≤10:=D6 (by omega) (by omega);have l2:(Lib.decDigits p.toNat).length≤10:=D6 (by omega) (by omega);have l3:=List.length_pos_iff.2 (H1 n.toNat);have l4:=List.length_pos_iff.2 (H1 p.toNat);unfold B7;simp only[Af,Bool.not_eq_true',beq_eq_false_iff_ne,decide_eq_true_eq];refine⟨⟨⟨?_, ?_⟩, ?_⟩, ?_⟩
 ·rw[List.all_eq_true];intro b hb;unfold E3 at hb;rcases List.mem_append.1 hb with hb|hb
  ·rcases List.mem_append.1 hb with hb|hb
   ·exact Qr (IU hb)
   ·simp at hb;rw[hb];decide
  ·exact Qr (IU hb)
 ·intro h;have:=congrArg List.length h;simp[E3]at this
 ·intro h;have:=congrArg List.length h;simp[E3]at this;omega
 ·simp[E3];omega
theorem Wb{n p q:Int}(hp:0≤p)(hq:0≤q)(h:E3 n p=E3 n q):p=q:=by
 have h1:=Tw (List.append_cancel_left h);omega
theorem Ra:∀{l:List A3} {prev:Option Int},DN prev l→(l.map (·.1)).Pairwise (· < ·)∧∀q,prev=some q→∀x∈l,q<x.1
 | [],prev,_=>⟨by simp,fun q _ x hx=>by cases hx⟩
 |y::l,prev,h=>by
  obtain⟨_,h2,_⟩:=QU h.1;obtain⟨k1,k2⟩:=Ra h.2;refine⟨?_, ?_⟩
  ·rw[List.map_cons,List.pairwise_cons];refine⟨fun p hp=> ?_,k1⟩;obtain⟨x,hx,rfl⟩:=List.mem_map.1 hp;exact k2 _ rfl x hx
  ·intro q hq x hx
   have h3:q<y.1:=by
    subst hq;have:¬y.1≤q:=by simpa[DP]using h2
    omega
   rcases List.mem_cons.1 hx with rfl|hx
   ·exact h3
   ·exact Int.lt_trans h3 (k2 _ rfl x hx)
theorem VB{n:Int}{l:List A3}(hn:1≤n∧n≤1000000000)(hl:l.length≤256)(hp:∀x∈l,0≤x.1∧x.1≤4294967295)(h:DN none l)(hf:AW (BA (BM n l))=true):EZ n (BM n l)∧∀o∈BM n l,Ei o:=by
 have hlen:=MQ n l;refine⟨⟨hn,by omega,fun o ho=> ?_, ?_,hf⟩,fun o ho=> ?_⟩
 ·obtain⟨x,hx,rfl,k1,k2,k3,k4⟩:=MO (Kt h) o ho;refine⟨k3,k4, ?_,Vm (by omega) (hp x hx)⟩;show inC x.2.1=true;unfold inC;rw[Al (show 1≤x.2.1 by omega),Al k2];rfl
 ·have hr:=(Ra h).1;unfold BM;rw[List.map_map];rw[List.pairwise_map]at hr;rw[List.Nodup,List.pairwise_map];have hs:=hr.filter (fun x=>decide (x.2.1>0)&& !(x.2.2== []));refine List.Pairwise.imp_of_mem ?_ hs;intro a b ha hb hab e;have ha':=hp a (List.mem_filter.1 ha).1;have hb':=hp b (List.mem_filter.1 hb).1;have:=Wb (n:=n) ha'.1 hb'.1 e;omega
 ·obtain⟨x,hx,rfl,_⟩:=MO (Kt h) o ho;exact hp x hx
abbrev CL:List A3:= [(3,10000,[100,101,46,49]),(5,2000,[])]
abbrev ML:Aw:=(3,[100,101,46,49],10000,[55,45,51])
theorem Wa:E3 7 3= [55,45,51]:=by
 unfold E3;rw[show((7:Int).toNat)=7 from rfl,show((3:Int).toNat)=3 from rfl,CT (by decide),CT (by decide)];rfl
theorem V9:Ea 7 (3,10000,[100,101,46,49])=ML:=by
 unfold Ea;rw[Wa]
theorem QY:DN none CL:=⟨by decide,by decide,trivial⟩
theorem MN:BM 7 CL= [ML]:=by
 rw[←V9];rfl
theorem VC:CK CL= [5]:=rfl
theorem Pr:AW (BA (BM 7 CL))=true:=by
 rw[MN];decide
theorem QZ:∀x∈CL,0≤x.1∧x.1≤4294967295:=by decide
theorem ofX:ofS 7 CL=([ML],[5],0):=by
 rcases Vy 7 CL with⟨e,he,h⟩|⟨_,_,_,_,h⟩
 ·exfalso
  have h1:Do 7 CL=.inl ([]++BM 7 CL,[]++CK CL,(),(),()):=by
   rcases HY (n:=7) (l:=CL) (a:=(none,[],[]))with⟨_,h3⟩|⟨h3,_⟩
   ·exact h3
   ·exact absurd QY h3
  unfold ofS at h;rw[if_neg (by decide),if_neg (by decide),h1]at h;simp only[List.nil_append]at h;rw[if_pos Pr]at h;simp only[Prod.mk.injEq]at h;exact he h.2.2.symm
 ·rw[h,MN,VC]
theorem awake_eq:HM ()=some true:=by
 obtain⟨r1,r2⟩:=VB (n:=7) (l:=CL) (by decide) (by decide) QZ QY Pr;rw[MN]at r1 r2;unfold HM;dsimp only;simp only[gPi,gSS,gPb,gPm,gPs,gM,gM2,AP,gOr,AQ,AU,gAA,gAO,gOA,gOO,AL,AO,AR,AT,AM,AS,gId];simp only[AZ,Ba,Bb,Bc,Bd,Be,Bf,Bg,gId,AY,gMb,gMm,gBm,gBb,bs,ms]
 have h1:=NS (n:=7) (l:=CL) (banks:=Ca (eqZ (.int .u32)) (3:Int) ([100,101,46,49]:List UInt8) ([]:List (Int×List UInt8))) (by
  intro x hx;simp only[CL,List.mem_cons,List.not_mem_nil,or_false]at hx
  rcases hx with rfl|rfl<;>rfl) QZ (by decide)
 rw[ofX]at h1;have h2:(CL.map CZ)= [(3,0,0,[],[],0,10000,0),(5,0,0,[],[],0,2000,0)]:=rfl;rw[h2]at h1;rw[h1,bs];dsimp only;rw[Su r1 r2,bs];dsimp only;rw[Sy r1 r2,bs];rfl
set_option linter.unusedSimpArgs false
set_option linter.unusedVariables false
theorem QM{pre t:List UInt8}{b:UInt8}(c:decide ((pre.length:Int)<((pre++b::t:List UInt8).length:Int))=true):
  In (pre++b::t,(pre.length:Int),())=some (if okb b=true then .inl (pre++b::t,i64.wrap ((pre.length:Int)+1),())else .inr (.inr false)):=by
 unfold In;dsimp only;simp only[gPi,gSS,gPb,gPm,gPs,gM,gM2,AP,gOr,AQ,AU,gAA,gAO,gOA,gOO,AL,AO,AR,AT,AM,AS,gId];simp only[AZ,Ba,Bb,Bc,Bd,Be,Bf,Bg,gId,AY,gMb,gMm,gBm,gBb,bs,ms];simp only[c,if_true,Rv,bs];unfold okb;have e1:decide ((b.toNat:Int)≥97)= !decide ((b.toNat:Int)<97):=by by_cases h:(b.toNat:Int)<97<;>simp[h]<;>omega
 have e2:decide ((b.toNat:Int)≤122)= !decide ((b.toNat:Int)>122):=by by_cases h:(b.toNat:Int)≤122<;>simp[h]<;>omega
 have e3:decide ((b.toNat:Int)≥48)= !decide ((b.toNat:Int)<48):=by by_cases h:(b.toNat:Int)<48<;>simp[h]<;>omega
 have e4:decide ((b.toNat:Int)≤57)= !decide ((b.toNat:Int)>57):=by by_cases h:(b.toNat:Int)≤57<;>simp[h]<;>omega
 have e5:((b.toNat:Int)==46)= !((b.toNat:Int) !=46):=by simp[bne]
 have e6:((b.toNat:Int)==95)= !((b.toNat:Int) !=95):=by simp[bne]
 have e7:((b.toNat:Int)==45)= !((b.toNat:Int) !=45):=by simp[bne]
 rw[e1,e2,e3,e4,e5,e6,e7];generalize decide ((b.toNat:Int)<97)=q1;generalize decide ((b.toNat:Int)>122)=q2;generalize decide ((b.toNat:Int)<48)=q3;generalize decide ((b.toNat:Int)>57)=q4;generalize ((b.toNat:Int) !=46)=q5;generalize ((b.toNat:Int) !=95)=q6;generalize ((b.toNat:Int) !=45)=q7;cases q1<;>cases q2<;>cases q3<;>cases q4<;>cases q5<;>cases q6<;>cases q7<;>rfl
theorem QL:∀(t pre:List UInt8),pre.length+t.length≤4611686018427387904→iter In (pre++t,(pre.length:Int),())=some (if t.all okb then .inl (pre++t,())else .inr false)
 | [],pre,h2=>by
  refine itR ?_;unfold In;dsimp only;have c:decide ((pre.length:Int)<(((pre++ []):List UInt8).length:Int))=false:=Ak (by simp);simp only[c,Ag,if_false,List.all_nil,if_true]
 |b::t,pre,h2=>by
  simp only[List.length_cons]at h2;have w1:i64.wrap ((pre.length:Int)+1)=((pre++ [b]).length:Int):=by rw[Bj (by omega) (by omega)];simp
  have c:decide ((pre.length:Int)<(((pre++b::t):List UInt8).length:Int))=true:=Al (by simp;omega);by_cases hd:okb b=true
  ·have e:=QL t (pre++ [b]) (by simp;omega);rw[List.append_assoc,List.singleton_append]at e;refine(itL (s':=(pre++b::t,((pre++ [b]).length:Int),())) ?_).trans (e.trans ?_)
   ·rw[QM c,if_pos hd,w1]
   ·simp[hd]
  ·refine(itR (t:=Sum.inr false) ?_).trans ?_
   ·rw[QM c,if_neg hd]
   ·simp[hd]
theorem VZ{s:List UInt8}(hs:s.length≤4611686018427387904):Ki s=some (B7 s):=by
 unfold Ki;dsimp only;simp only[gPi,gSS,gPb,gPm,gPs,gM,gM2,AP,gOr,AQ,AU,gAA,gAO,gOA,gOO,AL,AO,AR,AT,AM,AS,gId];simp only[AZ,Ba,Bb,Bc,Bd,Be,Bf,Bg,gId,AY,gMb,gMm,gBm,gBb,bs,ms];unfold B7;have:=QL s [] (by simpa using hs);simp only[List.nil_append,List.length_nil]at this;rw[show((0:Nat):Int)=0 from rfl]at this;rw[this]
 cases hh:s.all okb with
 |false=>rfl
 |true=>
  simp only[if_true,bs];by_cases h0:s= []
  ·subst h0;rfl
  ·have h1:(s.length:Int)>0:=by have:=List.length_pos_iff.2 h0;omega
   have h2:(s== [])=false:=by simpa using h0
   rw[Al h1,h2];by_cases h3:(s.length:Int)≤32
   ·rw[Al (show(s.length:Int)<33 by omega),Al h3];cases s== [45]<;>rfl
   ·rw[Ak (show ¬(s.length:Int)<33 by omega),Ak h3];cases s== [45]<;>rfl
theorem QJ(c:Int):Im c=some (AW c):=by
 unfold Im AW;dsimp only;simp only[gPi,gSS,gPb,gPm,gPs,gM,gM2,AP,gOr,AQ,AU,gAA,gAO,gOA,gOO,AL,AO,AR,AT,AM,AS,gId];simp only[AZ,Ba,Bb,Bc,Bd,Be,Bf,Bg,gId,AY,gMb,gMm,gBm,gBb,bs,ms];by_cases h:c≤1125899906842624
 ·rw[Al h,if_pos rfl];simp
 ·rw[Ak h,if_neg (by decide)];simp
theorem VS(a b:Int):Kf (a,b)=some (if AW a=true∧AW b=true then(if AW (a+b)=true then(a+b,0)else(0,9))else(0,2)):=by
 unfold Kf;dsimp only;simp only[gPi,gSS,gPb,gPm,gPs,gM,gM2,AP,gOr,AQ,AU,gAA,gAO,gOA,gOO,AL,AO,AR,AT,AM,AS,gId];simp only[AZ,Ba,Bb,Bc,Bd,Be,Bf,Bg,gId,AY,gMb,gMm,gBm,gBb,bs,ms];rw[QJ,bs]
 cases ha:AW a with
 |false=>simp
 |true=>
  simp only[Bool.not_true,Ag,if_false,true_and];rw[QJ,bs]
  cases hb:AW b with
  |false=>simp
  |true=>
   have h1:=Fo.1 ha;have h2:=Fo.1 hb;simp only[Bool.not_true,bs,Ag,if_false,if_true];rw[Bj (n:=1125899906842624-b) (by omega) (by omega),Bj (n:= -1125899906842624-b) (by omega) (by omega),Bj (n:=a+b) (by omega) (by omega)];by_cases hf:AW (a+b)=true
   ·rw[if_pos hf];have h3:=Fo.1 hf;by_cases p1:b>0
    ·rw[Al p1,if_pos rfl,bs,Ak (by omega)];simp only[Ag,if_false];rw[Ak (by omega)];simp
    ·rw[Ak p1,if_neg (by decide),bs];simp only[Ag,if_false];by_cases p2:b<0
     ·rw[Al p2,if_pos rfl,Ak (by omega)];simp
     ·rw[Ak p2];simp
   ·rw[if_neg hf];have h3:=Pq.1 (by simpa using hf);by_cases p1:b>0
    ·rw[Al p1,if_pos rfl,bs,Al (by omega)];rfl
    ·rw[Ak p1,if_neg (by decide),bs];simp only[Ag,if_false];rw[Al (show b<0 by omega),if_pos rfl,Al (by omega)];rfl
theorem VV{l:List Int}(h:l.length≤1000000000):Kg l=some (I1 l):=by
 unfold Kg I1;dsimp only;have e:=CW (b:=Kh) (A:=Int) (T:=(Int×Unit)⊕(Int×Int)) (fun i a=>(l,a,(i:Int),())) He (fun a=>.inl (a,())) (fun _ a=>AW a=true) l (a:=0) rfl ?_ ?_ ?_
 ·rw[show((0:Nat):Int)=0 from rfl]at e;rw[e,bs];show(match Kw l with| .inl p=>_| .inr q=>_)=_;cases Kw l<;>rfl
 ·intro i c a hc ha;have hi:=(Ae.1 hc).1;unfold Kh;dsimp only;simp only[Cs hc,if_true,BF hc,ms,bs];rw[VS,bs,ha];unfold He
  cases h1:AW c with
  |false=>simp;rfl
  |true=>
   cases h2:AW (a+c)with
   |false=>simp[h2];rfl
   |true=>
    simp only[and_self,if_true,h2];rw[BD (by omega)];rfl
 ·intro i c a a' hc ha hs;unfold He at hs;split at hs
  ·split at hs
   ·rename_i h2;cases hs;exact h2
   ·cases hs
  ·cases hs
 ·intro a ha;unfold Kh;dsimp only;rw[CB,if_neg (by decide)]
theorem VT{l:List Aw}(h:l.length≤1000000):Km l=some (I1 (l.map fun o=>o.2.2.1)):=by
 unfold Km;dsimp only;have e:=CW (b:=Kn) (A:=List Int) (T:=List Int×Unit×Unit) (fun i a=>(l,(i:Int),a,(),())) (fun a (x:Aw)=>Sum.inl (a++ [x.2.2.1])) (fun a=>(a,(),())) (fun i a=>a.length=i) l (a:= []) rfl ?_ ?_ ?_
 ·rw[show((0:Nat):Int)=0 from rfl]at e;rw[e,Je (fun x:Aw=> [x.2.2.1]),bs];simp only[List.nil_append];rw[show(l.flatMap fun x:Aw=> [x.2.2.1])=l.map fun o=>o.2.2.1 by clear h e;induction l with|nil=>rfl|cons y l ih=>simp[ih],VV (by simp;omega),bs]
 ·intro i x a hx ha;have hi:=(Ae.1 hx).1;unfold Kn;dsimp only;simp only[Cs hx,if_true,BF hx,ms,bs];rw[if_pos (by simp only[List.length_cons,List.length_nil];constructor<;>omega),bs,BD (by omega)];rfl
 ·intro i x a a' hx ha hs;cases hs;simp[ha]
 ·intro a ha;unfold Kn;dsimp only;rw[CB,if_neg (by decide)]
theorem RZ{n:Nat}(h:n<10):UInt8.ofNat (u8.wrap (u64.wrap (48+(n:Int)))).toNat=dg9 n:=by
 have e:u8.wrap (u64.wrap (48+(n:Int)))=((48+n:Nat):Int):=by
  rw[IntKind.wrap_u64,IntKind.wrap_u8];omega
 rw[e];rfl
theorem RV:∀(k n:Nat) (s:List UInt8),n<10^k→n<18446744073709551616→s.length+k≤100→∃(m:Nat) (t:List UInt8),m<10∧iter Ko ((n:Int),s,())=some ((m:Int),t,())∧dg9 m::t=Lib.decDigits n++s∧t.length≤100
 |0,n,s,h,_,hs=>by
  have:n=0:=by simpa using h
  subst this;exact⟨0,s,by omega,itR rfl,by rw[CT (by omega)];rfl,by omega⟩
 |k+1,n,s,h,hn,hs=>by
  by_cases h9:n<10
  ·refine⟨n,s,h9,itR ?_,by rw[CT h9];rfl,by omega⟩;unfold Ko;dsimp only;rw[Ak (by omega),if_neg (by decide)]
  ·obtain⟨m,t,h1,h2,h3,h4⟩:=RV k (n/10) (dg9 (n % 10)::s) (by rw[Nat.pow_succ]at h;omega) (by omega) (by simp;omega);refine⟨m,t,h1,(itL ?_).trans h2, ?_,h4⟩
   ·unfold Ko;dsimp only;rw[Al (by omega),if_pos rfl,if_neg (by decide),bs];have e1:((n:Int)).tmod 10=((n % 10:Nat):Int):=(Int.ofNat_tmod _ _).symm;have e2:((n:Int)).tdiv 10=((n/10:Nat):Int):=rfl;rw[e1,e2];simp only[List.map_cons,List.map_nil];rw[RZ (Nat.mod_lt _ (by omega)),if_pos (by simp;omega),bs,if_neg (by decide),bs,Sn (by omega)];rfl
   ·rw[h3,Fk h9];simp
theorem Rb{n:Nat}(h:n<18446744073709551616):Gb (n:Int)=some (Lib.decDigits n):=by
 obtain⟨m,t,h1,h2,h3,h4⟩:=RV 20 n [] (by omega) h (by simp);unfold Gb;dsimp only;rw[h2,bs];simp only[List.map_cons,List.map_nil];rw[RZ h1,if_pos (by simp;omega)];rw[List.append_nil]at h3;rw[←h3];rfl
theorem T4{l:List A3}{i:Nat}{x:A3}(hx:l[i]? =some x)(hl:l.length≤1000000):(if decide ((i:Int)>0)=true then(lAt l (i:Int)).bind fun v=>(lAt l (i64.wrap ((i:Int)-1))).bind fun w=>some (decide (v.1≤w.1))else some false)=some (DP (Dq l i) x.1):=by
 have hi:=(Ae.1 hx).1;unfold Dq;by_cases h0:i=0
 ·subst h0;rfl
 ·rw[Al (show(i:Int)>0 by omega),if_pos rfl,if_neg h0,Bj (by omega) (by omega),BF hx,bs];have hy:l[i-1]? =some (l[i-1]'(by omega)):=Ai _;rw[hy,show((i:Int)-1)=((i-1:Nat):Int) by omega,BF hy,bs];rfl
theorem VU{n:Int}{l:List A3}(hp:∀x∈l,0≤x.1∧x.1≤4294967295)(hlen:∀x∈l,x.2.2.length≤1000000):Kj (n,l)=some (ofS n l):=by
 unfold Kj ofS;dsimp only;simp only[gPi,gSS,gPb,gPm,gPs,gM,gM2,AP,gOr,AQ,AU,gAA,gAO,gOA,gOO,AL,AO,AR,AT,AM,AS,gId];simp only[AZ,Ba,Bb,Bc,Bd,Be,Bf,Bg,gId,AY,gMb,gMm,gBm,gBb,bs,ms];rw[QK,bs];by_cases h1:n<1∨n>1000000000
 ·rw[Al h1,if_pos rfl,if_pos h1]
 ·rw[Ak h1,if_neg (by decide),if_neg h1];by_cases h2:(l.length:Int)>256
  ·rw[if_pos h2,if_pos (Al h2)]
  ·rw[if_neg h2,if_neg (by rw[Ak h2];decide)];have e:=CW (b:=Kk) (A:=OA) (T:=OT) (fun i a=>(n,l,(i:Int),a.2.1,a.2.2,(),(),())) (Cj n) (fun a=>.inl (a.2.1,a.2.2,(),(),())) (fun i a=>a.1=Dq l i∧a.2.1.length≤i∧a.2.2.length≤i) l (a:=(none,[],[])) ⟨rfl,by simp,by simp⟩ ?_ ?_ ?_
   ·rw[show((0:Nat):Int)=0 from rfl]at e;rw[e,bs];show(match Do n l with| .inl p=>_| .inr q=>_)=_
    cases hw:Do n l with
    |inr q=>rfl
    |inl p=>
     obtain⟨_,_,hc,hpl⟩:=Qq hw (by omega);simp only
     rw[VT (by omega),bs,WC (fun c hc'=>by
      obtain⟨o,ho,rfl⟩:=List.mem_map.1 hc';have:=hc o ho
      omega)]
     show(if((if AW (BA p.1)=true then(BA p.1,(0:Int))else(0,9)).2 !=0)=true then _ else _)=_;cases AW (BA p.1)<;>rfl
   ·intro i x a hx ha;obtain⟨ha1,ha2,ha3⟩:=ha;have hi:=(Ae.1 hx).1;have hm:=List.mem_of_getElem? hx;have hpx:=hp x hm;unfold Kk;dsimp only;simp only[gPi,gSS,gPb,gPm,gPs,gM,gM2,AP,gOr,AQ,AU,gAA,gAO,gOA,gOO,AL,AO,AR,AT,AM,AS,gId];simp only[AZ,Ba,Bb,Bc,Bd,Be,Bf,Bg,gId,AY,gMb,gMm,gBm,gBb,bs,ms];rw[Cs hx,if_pos rfl];rw[T4 hx (by omega)];simp only[BF hx,bs];rw[Q6,←ha1];by_cases c1:x.1=0
    ·rw[JF (QX c1) (by decide),if_pos (show(x.1==(0:Int))=true by rw[c1];rfl)];rfl
    ·rw[if_neg (show ¬(x.1==(0:Int))=true by simpa using c1)]
     cases c2:DP a.1 x.1 with
     |true=>
      rw[JF (QT c1 c2) (by decide)];rfl
     |false=>
      simp only[bs,Ag,if_false]
      cases c3:Eb x.2.1 with
      |false=>
       rw[JF (QW c1 c2 c3) (by decide)];rfl
      |true=>
       simp only[Bool.not_true,Ag,if_false,reduceCtorEq]
       have hpo:0≤x.2.1:=by
        simp only[Eb,Af,decide_eq_true_eq]at c3;exact c3.1
       by_cases c4:x.2.1=0
       ·rw[Vx (Hc c1 c2 c3 (fun h=>by have:=h.1;omega)) (by omega),if_pos (show(x.2.1==(0:Int))=true by rw[c4];rfl),bs];dsimp only;rw[BD (by omega)];rfl
       ·have hgt:x.2.1>0:=by omega
        rw[if_neg (show ¬(x.2.1==(0:Int))=true by simpa using c4)];by_cases c5:x.2.2= []
        ·have:(x.2.2==([]:List UInt8))=true:=by rw[c5];rfl
         rw[Vw (Hc c1 c2 c3 (fun h=>h.2.1 c5)) hgt c5,this,if_pos rfl,if_pos (by simp only[List.length_cons,List.length_nil];constructor<;>omega),bs];dsimp only;rw[BD (by omega)];rfl
        ·have:(x.2.2==([]:List UInt8))=false:=by rw[beq_eq_false_iff_ne];exact c5
         rw[this,if_neg (by decide),VZ (by have:=hlen x hm;omega),bs]
         cases c6:B7 x.2.2 with
         |false=>
          rw[JF (QV c1 c2 c3 hgt c5 c6) (by decide)];rfl
         |true=>
          simp only[Bool.not_true,Ag,if_false]
          have t1:Gb (u64.wrap n)=some (Lib.decDigits n.toNat):=by
                rw[So (by omega) (by omega)];have e:=Rb (n:=n.toNat) (by omega);rw[Int.toNat_of_nonneg (by omega)]at e;exact e
          have t2:Gb (u64.wrap x.1)=some (Lib.decDigits x.1.toNat):=by
                rw[RY hpx];have e:=Rb (n:=x.1.toNat) (by omega);rw[Int.toNat_of_nonneg hpx.1]at e;exact e
          have l1:(Lib.decDigits n.toNat).length≤10:=D6 (by omega) (by omega);have l2:(Lib.decDigits x.1.toNat).length≤10:=D6 (by omega) (by omega);rw[Vv (Hc c1 c2 c3 (fun h=>by rw[c6]at h;exact absurd h.2.2 (by decide))) hgt c5,t1,bs,if_pos (by simp;omega),t2,bs,if_pos (by simp;omega),if_pos (by simp only[List.length_cons,List.length_nil];constructor<;>omega),bs];dsimp only;rw[BD (by omega)];rfl
   ·intro i x a a' hx ha hs;obtain⟨ha1,ha2,ha3⟩:=ha
    have hpr:Dq l (i+1)=some x.1:=by
     unfold Dq;rw[if_neg (by omega),Nat.add_sub_cancel,hx];rfl
    unfold Cj at hs;rw[hpr];split at hs
    ·cases hs
    ·split at hs
     ·cases hs;exact⟨rfl,by simp;omega,by simp;omega⟩
     ·split at hs
      ·cases hs;exact⟨rfl,by simp;omega,by simp;omega⟩
      ·cases hs;exact⟨rfl,by simp;omega,by simp;omega⟩
   ·intro a _;unfold Kk;dsimp only;rw[CB,if_neg (by decide)]
set_option linter.unusedSimpArgs false
set_option linter.unusedVariables false
theorem Vz(n:Int)(l:List A3):(ofS n l).1.length≤l.length∧(ofS n l).2.1.length≤l.length:=by
 unfold ofS;by_cases h1:n<1∨n>1000000000
 ·rw[if_pos h1];simp
 ·rw[if_neg h1];by_cases h2:(l.length:Int)>256
  ·rw[if_pos h2];simp
  ·rw[if_neg h2];rcases HY (n:=n) (l:=l) (a:=(none,[],[]))with⟨_,h3⟩|⟨_,e,_,h3⟩
   ·have h4:Do n l=.inl ([]++BM n l,[]++CK l,(),(),()):=h3;rw[h4];simp only;split
    ·have hb:(CK l).length≤l.length:=by
      unfold CK;rw[List.length_map];exact List.length_filter_le _ _
     exact⟨by simpa using MQ n l,by simpa using hb⟩
    ·simp
   ·have h4:Do n l=.inr ([],[],e):=h3;rw[h4];simp
theorem VD{l:List Int}(hl:l.length≤1000):iter HK (l,l,0,())=some (.inl ()):=by
 have e:=CW (b:=HK) (A:=Unit) (T:=Unit⊕Bool) (fun i _=>(l,l,(i:Int),())) (fun a _=>.inl a) (fun _=>.inl ()) (fun _ _=>True) l (a:=()) trivial ?_ ?_ ?_
 ·rw[show((0:Nat):Int)=0 from rfl]at e;rw[e,HB (fun(a:Unit) (_:Int)=>a)]
 ·intro i x a hx _;have hi:=(Ae.1 hx).1;unfold HK;dsimp only;simp only[gPi,gSS,gPb,gPm,gPs,gM,gM2,AP,gOr,AQ,AU,gAA,gAO,gOA,gOO,AL,AO,AR,AT,AM,AS,gId];rw[Cs hx,if_pos rfl,BF hx,bs,bs,bne_self_eq_false,if_neg (by decide),BD (by omega)];rfl
 ·intro i x a a' _ _ _
  trivial
 ·intro a _;unfold HK;dsimp only;rw[CB,if_neg (by decide)]
theorem PayOf_law{n:Int}{l:List A3}(hA:HM ()=some true)(hp:∀x∈l,0≤x.1∧x.1≤4294967295):Mo (n,l)=some true:=by
 obtain⟨b,h1,h2⟩:=Wu l;unfold Mo;dsimp only;simp only[gPi,gSS,gPb,gPm,gPs,gM,gM2,AP,gOr,AQ,AU,gAA,gAO,gOA,gOO,AL,AO,AR,AT,AM,AS,gId];simp only[AZ,Ba,Bb,Bc,Bd,Be,Bf,Bg,gId,AY,gMb,gMm,gBm,gBb,bs,ms];rw[hA,bs,if_neg (by decide),h1,bs]
 cases b with
 |false=>rfl
 |true=>
  obtain⟨hl,hs,hAl⟩:=h2 rfl;rw[if_neg (by decide),WU hl,bs];dsimp only;rw[NS (SC hAl) hp (fun x hx=>by have:=hs x hx;omega),bs,VU hp (fun x hx=>by have:=hs x hx;omega),bs];obtain⟨k1,k2⟩:=Vz n l;rw[V0 (by omega),bs,Wr (by omega) (by omega),bs,Al rfl];simp only[bne_self_eq_false,Bool.not_true,Ag,if_false,if_true,bs,VD (show(ofS n l).2.1.length≤1000 by omega)]
end WB
