/-
  FACTS: weights: code and document alike.
-/
import Derived.Test.YtlglbkbfmhelcaaGreatDoorK10
set_option linter.unusedVariables false
set_option linter.unusedSimpArgs false
open Go.IntKind (i64 u64 u8 u32)
namespace WB
open Go Go.RowKit
set_option linter.unusedSimpArgs false
set_option linter.unusedVariables false
def B5(w:List UInt8):List UInt8:=w.takeWhile (fun b=> !(b==58))
def CW(w:List UInt8):List UInt8:=(w.dropWhile (fun b=> !(b==58))).tail
def G0(w:List UInt8):Bool:=w.any (fun b=>b==58)
def FD(w:List UInt8):Bool:=G0 w&&DP (B5 w)&&Bu (CW w) 1000000&& !(Ar 0 (CW w)==0)
def HN(seen:List (List UInt8))(w:List UInt8):List (List UInt8)⊕(List (List UInt8)×Unit⊕Bool):=if FD w=true∧B5 w∉seen then .inl (seen++ [B5 w])else .inr (.inr false)
def L9(s:List UInt8):Bool:=match Bj HN (fun _=>.inl (BH 32 s,())) [] (BH 32 s)with
 | .inl _=>decide (((BH 32 s).length:Int)≤64)
 | .inr b=>b
theorem NW{p:UInt8→Bool}:∀{l:List UInt8},(∀x∈l,p x=true)→l.takeWhile p=l∧l.dropWhile p= []
 | [],_=>⟨rfl,rfl⟩
 |x::l,h=>by
  have h1:=h x (by simp);have h2:=NW (l:=l) fun y hy=>h y (by simp[hy]);simp[List.takeWhile_cons,List.dropWhile_cons,h1,h2.1,h2.2]
theorem AY(w:List UInt8):((∀x∈w,x≠58)∧B5 w=w∧CW w= []∧G0 w=false)∨(w=B5 w++58::CW w∧(∀x∈B5 w,x≠58)∧G0 w=true):=by
 rcases Pe 58 w with h|⟨l,t,rfl,h⟩
 ·refine .inl ⟨h, ?_, ?_, ?_⟩
  ·unfold B5;exact(NW fun x hx=>by simpa using h x hx).1
  ·unfold CW;have:w.dropWhile (fun b=> !(b==58))= []:=(NW fun x hx=>by simpa using h x hx).2;rw[this];rfl
  ·unfold G0;rw[List.any_eq_false];intro x hx;simpa using h x hx
 ·have e1:(l++58::t).takeWhile (fun b=> !(b==58))=l:=by
   rw[List.takeWhile_append_of_pos (by intro x hx;simpa using h x hx)];simp
  have e2:(l++58::t).dropWhile (fun b=> !(b==58))=58::t:=by
   rw[List.dropWhile_append_of_pos (by intro x hx;simpa using h x hx)];simp
  refine .inr ⟨?_, ?_, ?_⟩
  ·unfold B5 CW;rw[e1,e2];rfl
  ·unfold B5;rw[e1];exact h
  ·unfold G0;simp
theorem Te{w:List UInt8}(h:w.length≤1000000):Da (w,[58])=some (B5 w,CW w,G0 w):=by
 rcases AY w with⟨h1,h2,h3,h4⟩|⟨h1,h2,h3⟩
 ·rw[h2,h3,h4];exact Tg h1
 ·have:=Tf (l:=B5 w) (t:=CW w) h2 (by rw[←h1];omega);rw[←h1]at this;rw[this,h3]
theorem Xk(w:List UInt8):(B5 w).length≤w.length∧(CW w).length≤w.length:=by
 rcases AY w with⟨h1,h2,h3,h4⟩|⟨h1,h2,h3⟩
 ·rw[h2,h3];simp
 ·have:=congrArg List.length h1;simp at this;omega
theorem Qd(a b:List UInt8):eqZ .str a b=true↔a=b:=by
 show(a==b)=true↔a=b;simp
theorem SJ{w:List UInt8}{m:Int}(h:Bu w m=true)(hm:m≤18446744073709551615):EJ w=(Ar 0 w:Int):=by
 unfold Bu at h;simp only[Af,decide_eq_true_eq]at h;unfold EJ;rw[if_pos h.1,if_pos (by omega)]
abbrev WA:=List (List UInt8×Int)×List (List UInt8)
theorem YY{l:List (List UInt8)}(hl:l.length≤1000000)(hw:∀w∈l,w.length≤1000000){i:Nat}{w:List UInt8}(hi:l[i]? =some w){met:List (List UInt8×Int)}{seen:List (List UInt8)}
  (hm:∀k,(BK (eqZ .str) (BM (.int .i64)) k met).1=if k∈seen then 1 else 0):
  I3 (l,l,(l.length:Int),(i:Int),met,(),())=some (if FD w=true∧B5 w∉seen then .inl (l,l,(l.length:Int),((i+1:Nat):Int),C0 (eqZ .str) (B5 w) 1 met,(),())else .inr (.inr false)):=by
 have hwl:=hw w (List.mem_of_getElem? hi);have hil:=(Ae.1 hi).1;have ws:=Db (show i<9223372036854775807 by omega);have hpl:=Xk w;unfold I3;dsimp only;simp only[gPi,gSS,gPb,gPm,gPs,gM,gM2,Ay,gOr,Az,A3,gAA,gAO,gOA,gOO,Av,Ax,A0,A2,Aw,A1,gId];simp only[A5,A6,A7,A8,A9,AA,AB,AD,gId,AG,gMb,gMm,gBm,gBb,bs,ms];have t1:=Gz (s:=CW w) (most:=1000000) (by omega) (by decide);have n1:=E8 (s:=B5 w) (by omega);simp only[DO hi,if_true,Bn hi,bs,Te hwl,t1,n1,ws,hm (B5 w)]
 have hget:∀v:Int,(BK (eqZ .str) (BM (.int .i64)) (B5 w) (C0 (eqZ .str) (B5 w) v met)).1=v:=by
  intro v;rw[LJ Qd,if_pos rfl]
 rw[hget];unfold FD
 cases h1:G0 w with
 |false=>simp
 |true=>
  cases h2:DP (B5 w)with
  |false=>simp
  |true=>
   cases h3:Bu (CW w) 1000000 with
   |false=>simp
   |true=>
    rw[SJ h3 (by decide)];by_cases h4:Ar 0 (CW w)=0
    ·simp[h4]
    ·have e4:((Ar 0 (CW w):Int)==0)=false:=by
      have:¬(Ar 0 (CW w):Int)=0:=by omega
      simpa using this
     have e5:(Ar 0 (CW w)==0)=false:=by simpa using h4
     by_cases h5:B5 w∈seen
     ·have w1:i64.wrap ((1:Int)+1)=2:=by decide
      simp only[h5,if_true,e4,e5,w1];simp
     ·have w1:i64.wrap ((0:Int)+1)=1:=by decide
      simp only[h5,if_false,e4,e5,w1];simp
theorem YX{s:List UInt8}(h:s.length≤900000):I2 s=some (L9 s):=by
 have hw:∀w∈BH 32 s,w.length≤1000000:=fun w hw=>by
  have:=(Lu 32 s [] (by simp) w hw).2.1;simp at this;omega
 have hlen:(BH 32 s).length≤1000000:=by
  unfold BH;rw[NR];have:s.count 32≤s.length:=List.count_le_length;omega
 have e1:GH (s,[32])=some (BH 32 s):=OQ (by omega);unfold I2;dsimp only;rw[e1,bs]
 have e:=Fd (b:=I3) (A:=WA) (T:=(List (List UInt8)×Unit)⊕Bool) (fun i a=>(BH 32 s,BH 32 s,((BH 32 s).length:Int),(i:Int),a.1,(),()))
  (fun a w=>if FD w=true∧B5 w∉a.2 then .inl (C0 (eqZ .str) (B5 w) 1 a.1,a.2++ [B5 w])else .inr (.inr false)) (fun _=>.inl (BH 32 s,()))
  (fun i a=>∀k,(BK (eqZ .str) (BM (.int .i64)) k a.1).1=if k∈a.2 then 1 else 0) (BH 32 s) (a:=([],[])) (fun k=>by simp[BK,BM]) ?_ ?_ ?_
 ·rw[show((0:Nat):Int)=0 from rfl]at e;rw[e,bs]
  have key:∀(l:List (List UInt8)) (met:List (List UInt8×Int)) (seen:List (List UInt8)),Bj (T:=(List (List UInt8)×Unit)⊕Bool) (fun(a:WA) w=>if FD w=true∧B5 w∉a.2 then .inl (C0 (eqZ .str) (B5 w) 1 a.1,a.2++ [B5 w])else .inr (.inr false)) (fun _=>.inl (BH 32 s,())) (met,seen) l=Bj HN (fun _=>.inl (BH 32 s,())) seen l:=by
   intro l
   induction l with
   |nil=>intro met seen;rfl
   |cons w l ih=>
    intro met seen;rw[Bj,Bj];unfold HN;by_cases hg:FD w=true∧B5 w∉seen
    ·rw[if_pos hg,if_pos hg];exact ih _ _
    ·rw[if_neg hg,if_neg hg]
  rw[key];unfold L9
  have hend:∀(l:List (List UInt8)) (seen:List (List UInt8)),Bj HN (fun _=>.inl (BH 32 s,())) seen l=.inl (BH 32 s,())∨∃b,Bj HN (fun _=>.inl (BH 32 s,())) seen l=.inr b:=by
   intro l
   induction l with
   |nil=>intro seen;exact .inl rfl
   |cons w l ih=>
    intro seen;rw[Bj];unfold HN;by_cases hg:FD w=true∧B5 w∉seen
    ·rw[if_pos hg];exact ih _
    ·rw[if_neg hg];exact .inr ⟨false,rfl⟩
  rcases hend (BH 32 s) []with h1|⟨b,h1⟩
  ·rw[h1]
  ·rw[h1]
 ·rintro i w ⟨met,seen⟩ hx hI
  rw[YY hlen hw hx hI];dsimp only;by_cases hg:FD w=true∧B5 w∉seen
  ·rw[if_pos hg,if_pos hg];rfl
  ·rw[if_neg hg,if_neg hg];rfl
 ·rintro i w ⟨met,seen⟩ a' hx hI hst
  dsimp only at hst hI;split at hst
  ·rename_i hg;cases hst;intro k;rw[LJ Qd];by_cases hk:k=B5 w
   ·rw[if_pos hk,hk];simp
   ·rw[if_neg hk,hI k];simp[hk]
  ·cases hst
 ·rintro⟨met,seen⟩ _
  unfold I3;dsimp only;simp only[ED,Ag,if_false]
end WB
