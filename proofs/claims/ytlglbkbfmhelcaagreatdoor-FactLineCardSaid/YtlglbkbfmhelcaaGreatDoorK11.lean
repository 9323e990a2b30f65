/-
  FACTS: weights: code and document alike.
-/
import Derived.Test.YtlglbkbfmhelcaaGreatDoorK10
set_option linter.unusedVariables false
set_option linter.unusedSimpArgs false
open Go.IntKind (i64 u64 u8 u32)
namespace WB
open Go Go.RowKit
set_option linter.unusedSimpArgs false
set_option linter.unusedVariables false
def AR(w:List UInt8):List UInt8:=w.takeWhile (fun b=> !(b==58))
def B0(w:List UInt8):List UInt8:=(w.dropWhile (fun b=> !(b==58))).tail
def F6(w:List UInt8):Bool:=w.any (fun b=>b==58)
def Ea(w:List UInt8):Bool:=F6 w&&CB (AR w)&&AU (B0 w) 1000000&& !(Am 0 (B0 w)==0)
def Ep(seen:List (List UInt8))(w:List UInt8):List (List UInt8)⊕(List (List UInt8)×Unit⊕Bool):=if Ea w=true∧AR w∉seen then .inl (seen++ [AR w])else .inr (.inr false)
def Hw(s:List UInt8):Bool:=match Bg Ep (fun _=>.inl (AK 32 s,())) [] (AK 32 s)with
 | .inl _=>decide (((AK 32 s).length:Int)≤64)
 | .inr b=>b
theorem OO{p:UInt8→Bool}:∀{l:List UInt8},(∀x∈l,p x=true)→l.takeWhile p=l∧l.dropWhile p= []
 | [],_=>⟨rfl,rfl⟩
 |x::l,h=>by
  have h1:=h x (by simp);have h2:=OO (l:=l) fun y hy=>h y (by simp[hy]);simp[List.takeWhile_cons,List.dropWhile_cons,h1,h2.1,h2.2]
theorem Bb(w:List UInt8):((∀x∈w,x≠58)∧AR w=w∧B0 w= []∧F6 w=false)∨(w=AR w++58::B0 w∧(∀x∈AR w,x≠58)∧F6 w=true):=by
 rcases Qd 58 w with h|⟨l,t,rfl,h⟩
 ·refine .inl ⟨h, ?_, ?_, ?_⟩
  ·unfold AR;exact(OO fun x hx=>by simpa using h x hx).1
  ·unfold B0;have:w.dropWhile (fun b=> !(b==58))= []:=(OO fun x hx=>by simpa using h x hx).2;rw[this];rfl
  ·unfold F6;rw[List.any_eq_false];intro x hx;simpa using h x hx
 ·have e1:(l++58::t).takeWhile (fun b=> !(b==58))=l:=by
   rw[List.takeWhile_append_of_pos (by intro x hx;simpa using h x hx)];simp
  have e2:(l++58::t).dropWhile (fun b=> !(b==58))=58::t:=by
   rw[List.dropWhile_append_of_pos (by intro x hx;simpa using h x hx)];simp
  refine .inr ⟨?_, ?_, ?_⟩
  ·unfold AR B0;rw[e1,e2];rfl
  ·unfold AR;rw[e1];exact h
  ·unfold F6;simp
theorem U8{w:List UInt8}(h:w.length≤1000000):Dr (w,[58])=some (AR w,B0 w,F6 w):=by
 rcases Bb w with⟨h1,h2,h3,h4⟩|⟨h1,h2,h3⟩
 ·rw[h2,h3,h4];exact UA h1
 ·have:=U9 (l:=AR w) (t:=B0 w) h2 (by rw[←h1];omega);rw[←h1]at this;rw[this,h3]
theorem Ke{w:List UInt8}:AK 58 w=if F6 w=true then AR w::AK 58 (B0 w)else [w]:=by
 rcases Bb w with⟨h1,h2,h3,h4⟩|⟨h1,h2,h3⟩
 ·rw[h4,if_neg (by decide)];unfold AK;rw[Mw 58 w [] h1];rfl
 ·rw[h3,if_pos rfl]
  conv=>lhs;rw[h1]
  unfold AK;rw[Uh 58 _ _ [] h2];rfl
theorem Ug(w:List UInt8):∃l,AK 58 w=AR w::l:=by
 rcases Bb w with⟨h1,h2,h3,h4⟩|⟨h1,h2,h3⟩
 ·rw[Ke,h4,if_neg (by decide),h2];exact⟨[],rfl⟩
 ·rw[Ke,h3,if_pos rfl];exact⟨_,rfl⟩
theorem Vg{w:List UInt8}(h:BM w=true):∀x∈w,x≠58:=by
 intro x hx e;have:=List.all_eq_true.1 (Kx h) x hx;subst e;exact absurd this (by decide)
theorem SF(w:List UInt8):(AR w).length≤w.length∧(B0 w).length≤w.length:=by
 rcases Bb w with⟨h1,h2,h3,h4⟩|⟨h1,h2,h3⟩
 ·rw[h2,h3];simp
 ·have:=congrArg List.length h1;simp at this;omega
theorem QY(a b:List UInt8):eqZ .str a b=true↔a=b:=by
 show(a==b)=true↔a=b;simp
theorem Uq{w:List UInt8}{m:Int}(h:AU w m=true)(hm:m≤18446744073709551615):Fm w=(Am 0 w:Int):=by
 unfold AU at h;simp only[Af,decide_eq_true_eq]at h;unfold Fm;rw[if_pos h.1,if_pos (by omega)]
abbrev WA:=List (List UInt8×Int)×List (List UInt8)
theorem Abz{l:List (List UInt8)}(hl:l.length≤1000000)(hw:∀w∈l,w.length≤1000000){i:Nat}{w:List UInt8}(hi:l[i]? =some w){met:List (List UInt8×Int)}{seen:List (List UInt8)}
  (hm:∀k,(BR (eqZ .str) (BU (.int .i64)) k met).1=if k∈seen then 1 else 0):
  Jo (l,l,(l.length:Int),(i:Int),met,(),())=some (if Ea w=true∧AR w∉seen then .inl (l,l,(l.length:Int),((i+1:Nat):Int),CH (eqZ .str) (AR w) 1 met,(),())else .inr (.inr false)):=by
 have hwl:=hw w (List.mem_of_getElem? hi);have hil:=(Ae.1 hi).1;have ws:=Cv (show i<9223372036854775807 by omega);have hpl:=SF w;unfold Jo;dsimp only;simp only[gPi,gSS,gPb,gPm,gPs,gM,gM2,Ar,gOr,As,Aw,gAA,gAO,gOA,gOO,Ao,Aq,At,Av,Ap,Au,gId];simp only[A0,A1,A2,A3,A4,A5,A6,A7,gId,A8,gMb,gMm,gBm,gBb,bs,ms];have t1:=Ha (s:=B0 w) (most:=1000000) (by omega) (by decide);have n1:=Fb (s:=AR w) (by omega);simp only[Df hi,if_true,AW hi,bs,U8 hwl,t1,n1,ws,hm (AR w)]
 have hget:∀v:Int,(BR (eqZ .str) (BU (.int .i64)) (AR w) (CH (eqZ .str) (AR w) v met)).1=v:=by
  intro v;rw[MF QY,if_pos rfl]
 rw[hget];unfold Ea
 cases h1:F6 w with
 |false=>simp
 |true=>
  cases h2:CB (AR w)with
  |false=>simp
  |true=>
   cases h3:AU (B0 w) 1000000 with
   |false=>simp
   |true=>
    rw[Uq h3 (by decide)];by_cases h4:Am 0 (B0 w)=0
    ·simp[h4]
    ·have e4:((Am 0 (B0 w):Int)==0)=false:=by
      have:¬(Am 0 (B0 w):Int)=0:=by omega
      simpa using this
     have e5:(Am 0 (B0 w)==0)=false:=by simpa using h4
     by_cases h5:AR w∈seen
     ·have w1:i64.wrap ((1:Int)+1)=2:=by decide
      simp only[h5,if_true,e4,e5,w1];simp
     ·have w1:i64.wrap ((0:Int)+1)=1:=by decide
      simp only[h5,if_false,e4,e5,w1];simp
theorem Aby{s:List UInt8}(h:s.length≤900000):Jn s=some (Hw s):=by
 have hw:∀w∈AK 32 s,w.length≤1000000:=fun w hw=>by
  have:=(IA 32 s [] (by simp) w hw).2.1;simp at this;omega
 have hlen:(AK 32 s).length≤1000000:=by
  unfold AK;rw[I9];have:s.count 32≤s.length:=List.count_le_length;omega
 have e1:Hu (s,[32])=some (AK 32 s):=PO (by omega);unfold Jn;dsimp only;rw[e1,bs]
 have e:=Ed (b:=Jo) (A:=WA) (T:=(List (List UInt8)×Unit)⊕Bool) (fun i a=>(AK 32 s,AK 32 s,((AK 32 s).length:Int),(i:Int),a.1,(),()))
  (fun a w=>if Ea w=true∧AR w∉a.2 then .inl (CH (eqZ .str) (AR w) 1 a.1,a.2++ [AR w])else .inr (.inr false)) (fun _=>.inl (AK 32 s,()))
  (fun i a=>∀k,(BR (eqZ .str) (BU (.int .i64)) k a.1).1=if k∈a.2 then 1 else 0) (AK 32 s) (a:=([],[])) (fun k=>by simp[BR,BU]) ?_ ?_ ?_
 ·rw[show((0:Nat):Int)=0 from rfl]at e;rw[e,bs]
  have key:∀(l:List (List UInt8)) (met:List (List UInt8×Int)) (seen:List (List UInt8)),Bg (T:=(List (List UInt8)×Unit)⊕Bool) (fun(a:WA) w=>if Ea w=true∧AR w∉a.2 then .inl (CH (eqZ .str) (AR w) 1 a.1,a.2++ [AR w])else .inr (.inr false)) (fun _=>.inl (AK 32 s,())) (met,seen) l=Bg Ep (fun _=>.inl (AK 32 s,())) seen l:=by
   intro l
   induction l with
   |nil=>intro met seen;rfl
   |cons w l ih=>
    intro met seen;rw[Bg,Bg];unfold Ep;by_cases hg:Ea w=true∧AR w∉seen
    ·rw[if_pos hg,if_pos hg];exact ih _ _
    ·rw[if_neg hg,if_neg hg]
  rw[key];unfold Hw
  have hend:∀(l:List (List UInt8)) (seen:List (List UInt8)),Bg Ep (fun _=>.inl (AK 32 s,())) seen l=.inl (AK 32 s,())∨∃b,Bg Ep (fun _=>.inl (AK 32 s,())) seen l=.inr b:=by
   intro l
   induction l with
   |nil=>intro seen;exact .inl rfl
   |cons w l ih=>
    intro seen;rw[Bg];unfold Ep;by_cases hg:Ea w=true∧AR w∉seen
    ·rw[if_pos hg];exact ih _
    ·rw[if_neg hg];exact .inr ⟨false,rfl⟩
  rcases hend (AK 32 s) []with h1|⟨b,h1⟩
  ·rw[h1]
  ·rw[h1]
 ·rintro i w ⟨met,seen⟩ hx hI
  rw[Abz hlen hw hx hI];dsimp only;by_cases hg:Ea w=true∧AR w∉seen
  ·rw[if_pos hg,if_pos hg];rfl
  ·rw[if_neg hg,if_neg hg];rfl
 ·rintro i w ⟨met,seen⟩ a' hx hI hst
  dsimp only at hst hI;split at hst
  ·rename_i hg;cases hst;intro k;rw[MF QY];by_cases hk:k=AR w
   ·rw[if_pos hk,hk];simp
   ·rw[if_neg hk,hI k];simp[hk]
  ·cases hst
 ·rintro⟨met,seen⟩ _
  unfold Jo;dsimp only;simp only[Ei,Ag,if_false]
theorem Zs{l:List (List UInt8)}(hl:l.length≤1000000)(hw:∀w∈l,w.length≤900000){i:Nat}(hi:i<l.length){v:List (List UInt8)}{n:List UInt8}(hv:lAt v 0=some n):
  iter JT (l,(i:Int),v,0,())=some (if n∈(l.take i).map AR then .inr false else .inl (l,(i:Int),())):=by
 have e:=Ed (b:=JT) (A:=Unit) (T:=(List (List UInt8)×Int×Unit)⊕Bool) (fun k _=>(l,(i:Int),v,(k:Int),())) (fun _ w=>if AR w=n then .inr (.inr false)else .inl ()) (fun _=>.inl (l,(i:Int),())) (fun _ _=>True) (l.take i) (a:=()) trivial ?_ ?_ ?_
 ·rw[show((0:Nat):Int)=0 from rfl]at e;rw[e]
  congr 1
  have key:∀(q:List (List UInt8)),Bg (T:=(List (List UInt8)×Int×Unit)⊕Bool) (fun(_:Unit) w=>if AR w=n then Sum.inr (.inr false)else Sum.inl ()) (fun _=>.inl (l,(i:Int),())) () q=if n∈q.map AR then .inr false else .inl (l,(i:Int),()):=by
   intro q
   induction q with
   |nil=>rfl
   |cons w q ih=>
    rw[Bg];by_cases h:AR w=n
    ·rw[if_pos h,if_pos (by simp[h])]
    ·rw[if_neg h];simp only;rw[ih]
     have:(n∈(w::q).map AR)↔n∈q.map AR:=by
      simp only[List.map_cons,List.mem_cons];exact⟨fun hh=>hh.resolve_left (fun e=>h e.symm),.inr⟩
     by_cases h2:n∈q.map AR
     ·rw[if_pos h2,if_pos (this.2 h2)]
     ·rw[if_neg h2,if_neg (fun hh=>h2 (this.1 hh))]
  exact key _
 ·rintro k w _ hx _
  have hk:k<i∧l[k]? =some w:=by
   rw[List.getElem?_take]at hx;split at hx
   ·exact⟨by assumption,hx⟩
   ·cases hx
  have ws:=Cv (show k<9223372036854775807 by omega);have hc:=hw w (List.mem_of_getElem? hk.2);have e:D2 (w,58)=some (AK 58 w):=JV (c:=58) hc;obtain⟨m,hm⟩:=Ug w;have e0:lAt (AK 58 w) 0=some (AR w):=by rw[hm];exact AW (i:=0) rfl
  unfold JT;dsimp only;simp only[gPi,gSS,gPb,gPm,gPs,gM,gM2,Ar,gOr,As,Aw,gAA,gAO,gOA,gOO,Ao,Aq,At,Av,Ap,Au,gId];have c1:decide ((k:Int)<(i:Int))=true:=Al (by omega);simp only[c1,if_true,AW hk.2,bs,e,e0,hv,ws];by_cases h:AR w=n
  ·rw[if_pos h];have:(AR w==n)=true:=by simpa using h
   rw[this];rfl
  ·rw[if_neg h];have:(AR w==n)=false:=by simpa using h
   rw[this];rfl
 ·intros;trivial
 ·rintro _ _
  unfold JT;dsimp only;have:(l.take i).length=i:=by simp;omega
  rw[this,Ak (show ¬(i:Int)<(i:Int) by omega)];rfl
theorem Zt{l:List (List UInt8)}(hl:l.length≤1000000)(hw:∀w∈l,w.length≤900000){i:Nat}{w:List UInt8}(hi:l[i]? =some w):
  JU (l,(i:Int),())=some (if Ea w=true∧AR w∉(l.take i).map AR then .inl (l,((i+1:Nat):Int),())else .inr (.inr false)):=by
 have hwl:=hw w (List.mem_of_getElem? hi);have hil:=(Ae.1 hi).1;have ws:=Cv (show i<9223372036854775807 by omega);have hpl:=SF w;have e:D2 (w,58)=some (AK 58 w):=JV (c:=58) hwl;have t1:=Gz (s:=B0 w) (most:=1000000) (by omega) (by decide) (by decide);have n1:=Fh (s:=AR w) (by omega);unfold JU;dsimp only;simp only[gPi,gSS,gPb,gPm,gPs,gM,gM2,Ar,gOr,As,Aw,gAA,gAO,gOA,gOO,Ao,Aq,At,Av,Ap,Au,gId];simp only[A0,A1,A2,A3,A4,A5,A6,A7,gId,A8,gMb,gMm,gBm,gBb,bs,ms];simp only[Df hi,if_true,AW hi,bs,e];obtain⟨m,hm⟩:=Ug w;have e0:lAt (AK 58 w) 0=some (AR w):=by rw[hm];exact AW (i:=0) rfl
 simp only[e0,bs,n1,Zs hl hw hil e0];unfold Ea
 cases h1:F6 w with
 |false=>
  have:AK 58 w= [w]:=by rw[Ke,h1,if_neg (by decide)]
  rw[this];simp
 |true=>
  have hs:AK 58 w=AR w::AK 58 (B0 w):=by rw[Ke,h1,if_pos rfl]
  cases h3:AU (B0 w) 1000000 with
  |true=>
   have hc:BM (B0 w)=true:=by
    unfold AU at h3;simp only[Af]at h3;exact h3.1
   have hs2:AK 58 w= [AR w,B0 w]:=by
    rw[hs];unfold AK;rw[Mw 58 _ [] (Vg hc)];rfl
   rw[h3,if_pos rfl]at t1;have e1:lAt (AK 58 w) 1=some (B0 w):=by rw[hs2];exact AW (i:=1) rfl
   have c2:(((AK 58 w).length:Int) !=2)=false:=by rw[hs2];rfl
   simp only[e1,c2,bs,t1,Ag,if_false]
   cases h2:CB (AR w)with
   |false=>simp
   |true=>
    by_cases h4:Am 0 (B0 w)=0
    ·simp[h4]
    ·have e4:((Am 0 (B0 w):Int)==0)=false:=by
      have:¬(Am 0 (B0 w):Int)=0:=by omega
      simpa using this
     have e5:(Am 0 (B0 w)==0)=false:=by simpa using h4
     by_cases h5:AR w∈(l.take i).map AR
     ·simp only[h5,e4,e5];simp
     ·simp only[h5,e4,e5,if_false,ws];simp[ws]
  |false=>
   have hno:∀b:Bool,(true&&b&&false&& !(Am 0 (B0 w)==0))=false:=by intro b;cases b<;>rfl
   simp only[hno,Ag,false_and,if_false];by_cases h2:((AK 58 w).length:Int)=2
   ·have c2:(((AK 58 w).length:Int) !=2)=false:=by simp[h2]
    have hs2:AK 58 w= [AR w,B0 w]:=by
     rw[hs]at h2⊢;have h6:(AK 58 (B0 w)).length=1:=by simp at h2;omega
     rcases Bb (B0 w)with⟨g1,_⟩|⟨g1,g2,g3⟩
     ·unfold AK;rw[Mw 58 _ [] g1];rfl
     ·rw[Ke,g3,if_pos rfl]at h6;have:=I9 58 (B0 (B0 w)) [];unfold AK at h6;rw[List.length_cons]at h6;omega
    have e1:lAt (AK 58 w) 1=some (B0 w):=by rw[hs2];exact AW (i:=1) rfl
    rw[h3,if_neg (by decide)]at t1;simp only[c2,Ag,if_false,bs,e1,t1];cases CB (AR w)<;>rfl
   ·have c2:(((AK 58 w).length:Int) !=2)=true:=by simpa using h2
    simp only[c2,if_true,bs]
theorem Zu{s:List UInt8}(h:s.length≤800000):JS s=some (Hw s):=by
 have hw:∀w∈AK 32 s,w.length≤900000:=fun w hw=>by
  have:=(IA 32 s [] (by simp) w hw).2.1;simp at this;omega
 have hlen:(AK 32 s).length≤1000000:=by
  unfold AK;rw[I9];have:s.count 32≤s.length:=List.count_le_length;omega
 have e1:D2 (s,32)=some (AK 32 s):=JV (c:=32) (by omega);unfold JS;dsimp only;rw[e1,bs]
 have e:=Ed (b:=JU) (A:=List (List UInt8)) (T:=(List (List UInt8)×Unit)⊕Bool) (fun i _=>(AK 32 s,(i:Int),())) Ep (fun _=>.inl (AK 32 s,()))
  (fun i a=>a=((AK 32 s).take i).map AR) (AK 32 s) (a:= []) rfl ?_ ?_ ?_
 ·rw[show((0:Nat):Int)=0 from rfl]at e;rw[e,bs];unfold Hw
  have hend:∀(l:List (List UInt8)) (seen:List (List UInt8)),Bg Ep (fun _=>.inl (AK 32 s,())) seen l=.inl (AK 32 s,())∨∃b,Bg Ep (fun _=>.inl (AK 32 s,())) seen l=.inr b:=by
   intro l
   induction l with
   |nil=>intro seen;exact .inl rfl
   |cons w l ih=>
    intro seen;rw[Bg];unfold Ep;by_cases hg:Ea w=true∧AR w∉seen
    ·rw[if_pos hg];exact ih _
    ·rw[if_neg hg];exact .inr ⟨false,rfl⟩
  rcases hend (AK 32 s) []with h1|⟨b,h1⟩
  ·rw[h1];dsimp only
   congr 1
   apply decide_eq_decide.2;omega
  ·rw[h1]
 ·rintro i w seen hx rfl
  rw[Zt hlen hw hx];unfold Ep;by_cases hg:Ea w=true∧AR w∉((AK 32 s).take i).map AR
  ·rw[if_pos hg,if_pos hg];rfl
  ·rw[if_neg hg,if_neg hg];rfl
 ·rintro i w seen a' hx rfl hst
  unfold Ep at hst;split at hst
  ·cases hst;rw[List.take_add_one,hx,List.map_append];rfl
  ·cases hst
 ·rintro seen _
  unfold JU;dsimp only;simp only[Ei,Ag,if_false]
end WB
