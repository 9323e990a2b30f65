/-
  FACTS: weights: code and document alike.
-/
import Derived.Test.YtbajcpobojindaaGreatDoorK11
set_option linter.unusedVariables false
set_option linter.unusedSimpArgs false
open Go.IntKind (i64 u64 u8 u32)
namespace WB
open Go Go.RowKit
set_option linter.unusedSimpArgs false
set_option linter.unusedVariables false
def B9(w:List UInt8):List UInt8:=w.takeWhile (fun b=> !(b==58))
def Dr(w:List UInt8):List UInt8:=(w.dropWhile (fun b=> !(b==58))).tail
def G0(w:List UInt8):Bool:=w.any (fun b=>b==58)
def FG(w:List UInt8):Bool:=G0 w&&EQ (B9 w)&&Dk (Dr w) 1000000&& !(Ay 0 (Dr w)==0)
def HV(seen:List (List UInt8))(w:List UInt8):List (List UInt8)⊕(List (List UInt8)×Unit⊕Bool):=if FG w=true∧B9 w∉seen then .inl (seen++ [B9 w])else .inr (.inr false)
def Mt(s:List UInt8):Bool:=match Bg HV (fun _=>.inl (BI 32 s,())) [] (BI 32 s)with
 | .inl _=>decide (((BI 32 s).length:Int)≤64)
 | .inr b=>b
theorem OP{p:UInt8→Bool}:∀{l:List UInt8},(∀x∈l,p x=true)→l.takeWhile p=l∧l.dropWhile p= []
 | [],_=>⟨rfl,rfl⟩
 |x::l,h=>by
  have h1:=h x (by simp);have h2:=OP (l:=l) fun y hy=>h y (by simp[hy]);simp[List.takeWhile_cons,List.dropWhile_cons,h1,h2.1,h2.2]
theorem AK(w:List UInt8):((∀x∈w,x≠58)∧B9 w=w∧Dr w= []∧G0 w=false)∨(w=B9 w++58::Dr w∧(∀x∈B9 w,x≠58)∧G0 w=true):=by
 rcases PF 58 w with h|⟨l,t,rfl,h⟩
 ·refine .inl ⟨h, ?_, ?_, ?_⟩
  ·unfold B9;exact(OP fun x hx=>by simpa using h x hx).1
  ·unfold Dr;have:w.dropWhile (fun b=> !(b==58))= []:=(OP fun x hx=>by simpa using h x hx).2;rw[this];rfl
  ·unfold G0;rw[List.any_eq_false];intro x hx;simpa using h x hx
 ·have e1:(l++58::t).takeWhile (fun b=> !(b==58))=l:=by
   rw[List.takeWhile_append_of_pos (by intro x hx;simpa using h x hx)];simp
  have e2:(l++58::t).dropWhile (fun b=> !(b==58))=58::t:=by
   rw[List.dropWhile_append_of_pos (by intro x hx;simpa using h x hx)];simp
  refine .inr ⟨?_, ?_, ?_⟩
  ·unfold B9 Dr;rw[e1,e2];rfl
  ·unfold B9;rw[e1];exact h
  ·unfold G0;simp
theorem Ug{w:List UInt8}(h:w.length≤1000000):Dw (w,[58])=some (B9 w,Dr w,G0 w):=by
 rcases AK w with⟨h1,h2,h3,h4⟩|⟨h1,h2,h3⟩
 ·rw[h2,h3,h4];exact Ui h1
 ·have:=Uh (l:=B9 w) (t:=Dr w) h2 (by rw[←h1];omega);rw[←h1]at this;rw[this,h3]
theorem Yc(w:List UInt8):(B9 w).length≤w.length∧(Dr w).length≤w.length:=by
 rcases AK w with⟨h1,h2,h3,h4⟩|⟨h1,h2,h3⟩
 ·rw[h2,h3];simp
 ·have:=congrArg List.length h1;simp at this;omega
theorem QI(a b:List UInt8):eqZ .str a b=true↔a=b:=by
 show(a==b)=true↔a=b;simp
theorem Z7{w:List UInt8}{m:Int}(h:Dk w m=true)(hm:m≤18446744073709551615):Mj w=(Ay 0 w:Int):=by
 unfold Dk at h;simp only[Af,decide_eq_true_eq]at h;unfold Mj;rw[if_pos h.1,if_pos (by omega)]
abbrev WA:=List (List UInt8×Int)×List (List UInt8)
theorem Aar{l:List (List UInt8)}(hl:l.length≤1000000)(hw:∀w∈l,w.length≤1000000){i:Nat}{w:List UInt8}(hi:l[i]? =some w){met:List (List UInt8×Int)}{seen:List (List UInt8)}
  (hm:∀k,(Bh (eqZ .str) (Bv (.int .i64)) k met).1=if k∈seen then 1 else 0):
  I6 (l,l,(l.length:Int),(i:Int),met,(),())=some (if FG w=true∧B9 w∉seen then .inl (l,l,(l.length:Int),((i+1:Nat):Int),B0 (eqZ .str) (B9 w) 1 met,(),())else .inr (.inr false)):=by
 have hwl:=hw w (List.mem_of_getElem? hi);have hil:=(Ae.1 hi).1;have ws:=Bu (show i<9223372036854775807 by omega);have hpl:=Yc w;unfold I6;dsimp only;simp only[gPi,gSS,gPb,gPm,gPs,gM,gM2,A9,gOr,AA,AG,gAA,gAO,gOA,gOO,A6,A8,AB,AE,A7,AD,gId];simp only[AL,AM,AN,AO,AP,AQ,AR,AS,gId,AV,gMb,gMm,gBm,gBb,bs,ms];have t1:=Nk (s:=Dr w) (most:=1000000) (by omega) (by decide);have n1:=EL (s:=B9 w) (by omega);simp only[BP hi,if_true,Bd hi,bs,Ug hwl,t1,n1,ws,hm (B9 w)]
 have hget:∀v:Int,(Bh (eqZ .str) (Bv (.int .i64)) (B9 w) (B0 (eqZ .str) (B9 w) v met)).1=v:=by
  intro v;rw[Mx QI,if_pos rfl]
 rw[hget];unfold FG
 cases h1:G0 w with
 |false=>simp
 |true=>
  cases h2:EQ (B9 w)with
  |false=>simp
  |true=>
   cases h3:Dk (Dr w) 1000000 with
   |false=>simp
   |true=>
    rw[Z7 h3 (by decide)];by_cases h4:Ay 0 (Dr w)=0
    ·simp[h4]
    ·have e4:((Ay 0 (Dr w):Int)==0)=false:=by
      have:¬(Ay 0 (Dr w):Int)=0:=by omega
      simpa using this
     have e5:(Ay 0 (Dr w)==0)=false:=by simpa using h4
     by_cases h5:B9 w∈seen
     ·have w1:i64.wrap ((1:Int)+1)=2:=by decide
      simp only[h5,if_true,e4,e5,w1];simp
     ·have w1:i64.wrap ((0:Int)+1)=1:=by decide
      simp only[h5,if_false,e4,e5,w1];simp
theorem Aaq{s:List UInt8}(h:s.length≤900000):I5 s=some (Mt s):=by
 have hw:∀w∈BI 32 s,w.length≤1000000:=fun w hw=>by
  have:=(Mc 32 s [] (by simp) w hw).2.1;simp at this;omega
 have hlen:(BI 32 s).length≤1000000:=by
  unfold BI;rw[OD];have:s.count 32≤s.length:=List.count_le_length;omega
 have e1:GT (s,[32])=some (BI 32 s):=P2 (by omega);unfold I5;dsimp only;rw[e1,bs]
 have e:=Eu (b:=I6) (A:=WA) (T:=(List (List UInt8)×Unit)⊕Bool) (fun i a=>(BI 32 s,BI 32 s,((BI 32 s).length:Int),(i:Int),a.1,(),()))
  (fun a w=>if FG w=true∧B9 w∉a.2 then .inl (B0 (eqZ .str) (B9 w) 1 a.1,a.2++ [B9 w])else .inr (.inr false)) (fun _=>.inl (BI 32 s,()))
  (fun i a=>∀k,(Bh (eqZ .str) (Bv (.int .i64)) k a.1).1=if k∈a.2 then 1 else 0) (BI 32 s) (a:=([],[])) (fun k=>by simp[Bh,Bv]) ?_ ?_ ?_
 ·rw[show((0:Nat):Int)=0 from rfl]at e;rw[e,bs]
  have key:∀(l:List (List UInt8)) (met:List (List UInt8×Int)) (seen:List (List UInt8)),Bg (T:=(List (List UInt8)×Unit)⊕Bool) (fun(a:WA) w=>if FG w=true∧B9 w∉a.2 then .inl (B0 (eqZ .str) (B9 w) 1 a.1,a.2++ [B9 w])else .inr (.inr false)) (fun _=>.inl (BI 32 s,())) (met,seen) l=Bg HV (fun _=>.inl (BI 32 s,())) seen l:=by
   intro l
   induction l with
   |nil=>intro met seen;rfl
   |cons w l ih=>
    intro met seen;rw[Bg,Bg];unfold HV;by_cases hg:FG w=true∧B9 w∉seen
    ·rw[if_pos hg,if_pos hg];exact ih _ _
    ·rw[if_neg hg,if_neg hg]
  rw[key];unfold Mt
  have hend:∀(l:List (List UInt8)) (seen:List (List UInt8)),Bg HV (fun _=>.inl (BI 32 s,())) seen l=.inl (BI 32 s,())∨∃b,Bg HV (fun _=>.inl (BI 32 s,())) seen l=.inr b:=by
   intro l
   induction l with
   |nil=>intro seen;exact .inl rfl
   |cons w l ih=>
    intro seen;rw[Bg];unfold HV;by_cases hg:FG w=true∧B9 w∉seen
    ·rw[if_pos hg];exact ih _
    ·rw[if_neg hg];exact .inr ⟨false,rfl⟩
  rcases hend (BI 32 s) []with h1|⟨b,h1⟩
  ·rw[h1]
  ·rw[h1]
 ·rintro i w ⟨met,seen⟩ hx hI
  rw[Aar hlen hw hx hI];dsimp only;by_cases hg:FG w=true∧B9 w∉seen
  ·rw[if_pos hg,if_pos hg];rfl
  ·rw[if_neg hg,if_neg hg];rfl
 ·rintro i w ⟨met,seen⟩ a' hx hI hst
  dsimp only at hst hI;split at hst
  ·rename_i hg;cases hst;intro k;rw[Mx QI];by_cases hk:k=B9 w
   ·rw[if_pos hk,hk];simp
   ·rw[if_neg hk,hI k];simp[hk]
  ·cases hst
 ·rintro⟨met,seen⟩ _
  unfold I6;dsimp only;simp only[Cb,Ag,if_false]
end WB
