/-
  OWN TEXTS, MERGED (wip/merge.py): Pft, Pfu, Pfv, Pfy. No condition of their own.
-/
import Derived.Test.YtlglbkbfmhelcaaGreatDoorK13
import Derived.Test.YtlglbkbfmhelcaaGreatDoorK12
set_option linter.unusedVariables false
set_option linter.unusedSimpArgs false
open Go.IntKind (i64 u64 u8 u32)
namespace WB
open Go Go.RowKit
set_option linter.unusedSimpArgs false
set_option linter.unusedVariables false
set_option maxHeartbeats 1000000
theorem NB:∀(s cur:List UInt8),Lib.join (B7 32 cur s) [32]=cur++s
 | [],cur=>by
  show Lib.join [cur] [32]=_;rw[Lib.join_one,List.append_nil]
 |b::t,cur=>by
  rw[Kf];split
  ·rename_i h;have ih:=NB t []
   cases hU:B7 32 [] t with
   |nil=>exact absurd hU (Mv 32 t [])
   |cons a r=>
    rw[hU]at ih;rw[Ls,ih,h];rfl
  ·rw[NB t (cur++ [b])];simp
theorem OJ:∀(s cur:List UInt8) (k:Nat),Bd 32 k cur s=(B7 32 cur s).take k++(if k<(B7 32 cur s).length then [Lib.join ((B7 32 cur s).drop k) [32]]else [])
 | [],cur,0=>by
  show [cur]=List.take 0 [cur]++(if 0< [cur].length then [Lib.join (List.drop 0 [cur]) [32]]else []);rw[if_pos (by simp),List.drop_zero,Lib.join_one];rfl
 | [],cur,k+1=>by
  show [cur]=List.take (k+1) [cur]++(if k+1< [cur].length then [Lib.join (List.drop (k+1) [cur]) [32]]else []);rw[if_neg (by simp)];simp
 |b::t,cur,0=>by
  have hne:0<(B7 32 cur (b::t)).length:=List.length_pos_iff.2 (Mv _ _ _);rw[if_pos hne,List.drop_zero,NB];rfl
 |b::t,cur,k+1=>by
  rw[Kd,Kf];split
  ·rw[OJ t [] k,List.take_succ_cons,List.drop_succ_cons];simp only[List.length_cons,Nat.add_lt_add_iff_right,List.cons_append]
  ·exact OJ t (cur++ [b]) (k+1)
def Lx:List (List UInt8):= [[101,109,112,108,111,121],[115,97,108,97,114,121],[112,97,114,116],[104,111,117,114,115],[99,111,115,116],[115,104,101,101,116],[97,98,115,101,110,116],[98,111,110,117,115],[101,110,114,111,108],[100,101,100,117,99,116],[99,97,114,100],[97,116,116,97,99,104],[98,97,110,107],[114,117,108,101],[101,108,101,109,101,110,116],[104,111,108,105,100,97,121],[103,114,97,110,116],[99,97,110,99,101,108]]
theorem Si:Mc ()=some Lx:=rfl
theorem RE{i:Nat}(h:i<18):lAt Lx (i:Int)=some (B6 ((i+1:Nat):Int)):=by
 have:∀i:Nat,i<18→lAt Lx (i:Int)=some (B6 ((i+1:Nat):Int)):=by decide
 exact this i h
theorem Z5{l:List (List UInt8)}{w0:List UInt8}{K:Nat}(hl:l[0]? =some w0)(hK:K≤18)(hw:∀k:Nat,1≤k→k≤18→(B6 (k:Int)=w0↔k=K)):∀(j i:Nat) (kd:Int),18-i≤j→i≤18→
  iter Iz (l,(i:Int),0,0,0,0,0,[],0,[],0,0,kd,0,0,[],0,[],(),(),(),(),())=some (l,0,0,0,0,0,[],0,[],0,0,(if i+1≤K then(K:Int)else kd),0,0,[],0,[],(),(),(),(),()):=by
 intro j
 induction j with
 |zero=>
  intro i kd h2 h3;have:i=18:=by omega
  subst this;refine itR ?_;unfold Iz;dsimp only;rw[Ak (by decide),if_neg (by decide),if_neg (by omega)]
 |succ j ih=>
  intro i kd h2 h3;by_cases h:i=18
  ·subst h;refine itR ?_;unfold Iz;dsimp only;rw[Ak (by decide),if_neg (by decide),if_neg (by omega)]
  ·have w:i64.wrap ((i:Int)+1)=((i+1:Nat):Int):=by rw[AA (by omega) (by omega)];omega
   have st:Iz (l,(i:Int),0,0,0,0,0,[],0,[],0,0,kd,0,0,[],0,[],(),(),(),(),())=some (.inl (l,((i+1:Nat):Int),0,0,0,0,0,[],0,[],0,0,(if i+1=K then((i+1:Nat):Int)else kd),0,0,[],0,[],(),(),(),(),())):=by
    unfold Iz;dsimp only;try simp only[gPi,gSS,gPb,gPm,gPs,gM,gM2,Ar,gOr,As,Aw,gAA,gAO,gOA,gOO,Ao,Aq,At,Av,Ap,Au,gId]
    try simp only[A0,A1,A2,A3,A4,A5,A6,A7,gId,A8,gMb,gMm,gBm,gBb,bs,ms]
    rw[Al (show(i:Int)<18 by omega),if_pos rfl,Si,bs,RE (by omega),bs,show lAt l 0=some w0 from AW (i:=0) hl,bs];by_cases hk:i+1=K
    ·have d:(B6 ((i+1:Nat):Int)==w0)=true:=by rw[beq_iff_eq];exact(hw (i+1) (by omega) (by omega)).2 hk
     rw[d,if_pos rfl,bs,if_pos hk];dsimp only;rw[w]
    ·have d:(B6 ((i+1:Nat):Int)==w0)=false:=by
      rw[beq_eq_false_iff_ne];intro e;exact hk ((hw (i+1) (by omega) (by omega)).1 e)
     rw[d,if_neg (by decide),bs,if_neg hk];dsimp only;rw[w]
   rw[itL st,ih (i+1) _ (by omega) (by omega)];by_cases hk:i+1=K
   ·subst hk;rw[if_pos rfl,if_neg (by omega),if_pos (Nat.le_refl _)]
   ·rw[if_neg hk];by_cases hlt:i+1+1≤K
    ·rw[if_pos hlt,if_pos (by omega)]
    ·rw[if_neg hlt,if_neg (by omega)]
def txt(acc:List UInt8)(i:Nat):List (List UInt8)→List UInt8
 | []=>acc
 |w::r=>txt ((if i>7 then acc++ [32]else acc)++w) (i+1) r
theorem Uw:∀(r:List (List UInt8)) (acc:List UInt8) (i:Nat),7<i→txt acc i r=acc++(r.map fun w=>32::w).flatten
 | [],acc,i,h=>by simp[txt]
 |w::r,acc,i,h=>by
  unfold txt;rw[if_pos h,Uw r _ (i+1) (by omega)];simp
theorem Aa6(r:List (List UInt8)):txt [] 7 r=Lib.join r [32]:=by
 cases r with
 |nil=>rfl
 |cons w r=>
  unfold txt;rw[if_neg (by decide),Uw r _ 8 (by decide),Lib.join_cons];simp[Lib.joinTail]
theorem Tu{L:List (List UInt8)}{a0 a1 a2 a3 a4:Int}{a5:List UInt8}{a6:Int}{a7:List UInt8}{b0 b1 b2 b3 b4:Int}{b5:List UInt8}{b6:Int}(hL:L.length≤100000)(hw:∀w∈L,w.length≤100000):∀(r:List (List UInt8)) (pre:List (List UInt8)) (acc:List UInt8),L=pre++r→acc.length+100002*r.length≤100000000000→
  iter JP (L,(pre.length:Int),a0,a1,a2,a3,a4,a5,a6,a7,b0,b1,b2,b3,b4,b5,b6,acc,(),(),(),(),())=some (L,a0,a1,a2,a3,a4,a5,a6,a7,b0,b1,b2,b3,b4,b5,b6,txt acc pre.length r,(),(),(),(),())
 | [],pre,acc,e,_=>by
  refine itR ?_;unfold JP;dsimp only;rw[Ak (show ¬((pre.length:Int)<(L.length:Int)) by rw[e];simp),if_neg (by decide)];rfl
 |w::r,pre,acc,e,hacc=>by
  have hl:pre.length<L.length:=by rw[e];simp
  have hat:lAt L (pre.length:Int)=some w:=AW (by rw[e];simp);have hww:w.length≤100000:=hw w (by rw[e];simp);have wi:i64.wrap ((pre.length:Int)+1)=(((pre++ [w]).length:Nat):Int):=by rw[AA (by omega) (by omega)];simp
  simp only[List.length_cons]at hacc
  have st:JP (L,(pre.length:Int),a0,a1,a2,a3,a4,a5,a6,a7,b0,b1,b2,b3,b4,b5,b6,acc,(),(),(),(),())=some (.inl (L,(((pre++ [w]).length:Nat):Int),a0,a1,a2,a3,a4,a5,a6,a7,b0,b1,b2,b3,b4,b5,b6,(if pre.length>7 then acc++ [32]else acc)++w,(),(),(),(),())):=by
   unfold JP;dsimp only;rw[Al (show(pre.length:Int)<(L.length:Int) by omega),if_pos rfl];by_cases h7:pre.length>7
   ·rw[Al (show(pre.length:Int)>7 by omega),if_pos rfl,if_pos (by simp;omega),bs,bs,if_pos h7];dsimp only;rw[hat,show(some w:Option (List UInt8)).map (fun y=>y)=some w from rfl,bs,if_pos (by simp;omega),bs,wi]
   ·rw[Ak (show ¬((pre.length:Int)>7) by omega),if_neg (by decide),bs,if_neg h7];dsimp only;rw[hat,show(some w:Option (List UInt8)).map (fun y=>y)=some w from rfl,bs,if_pos (by omega),bs,wi]
  rw[itL st,Tu hL hw r (pre++ [w]) _ (by rw[e];simp) (by split<;>(simp;omega))];rw[List.length_append];rfl
theorem Ta(w:List UInt8):(∃d,IsD w d∧EL w=some (d,true))∨((∀d,¬IsD w d)∧EL w=some (0,false)):=by
 rcases YO w with⟨d,h1,h2⟩|⟨h1,e,he,h2⟩
 ·refine .inl ⟨d,h1, ?_⟩;unfold EL;dsimp only;rw[h2,bs];rfl
 ·refine .inr ⟨h1, ?_⟩;unfold EL;dsimp only;rw[h2,bs];have:(e==0)=false:=by rw[beq_eq_false_iff_ne];exact he
  dsimp only;rw[this]
set_option linter.unusedSimpArgs false
set_option linter.unusedVariables false
set_option maxHeartbeats 2000000
theorem Aa7:u64.wrap ((9223372036854775807:Int)+1)=9223372036854775808:=by decide
theorem rev{s:List UInt8}{w0 w1 w2 w3 w4 w5 w6 D:List UInt8}{R:List (List UInt8)}{K:Nat}{d d4 to v1 v2 v6:Int}{c c4 neg g1 g2 g6 ok:Bool}(hcut:D2 (s,32)=some (w0::w1::w2::w3::w4::w5::w6::R))
  (hlen:(w0::w1::w2::w3::w4::w5::w6::R).length≤5000) (hw:∀w∈w0::w1::w2::w3::w4::w5::w6::R,w.length≤4900) (hK:K≤18) (hKw:∀k:Nat,1≤k→k≤18→(B6 (k:Int)=w0↔k=K))
  (h1:Dn (w1,4294967295)=some (v1,g1)) (h2:Dn (w2,4294967295)=some (v2,g2)) (h3:EL w3=some (d,c)) (h4:EL w4=some (d4,c4)) (h6:(neg=true∧w6=45::D)∨(neg=false∧w6=D∧w6.head? ≠some 45))
  (hU:(w4= [45]∧to=0∧ok=true)∨(w4≠ [45]∧w4= [101,110,100]∧to=84006∧ok=true)∨(w4≠ [45]∧w4≠ [101,110,100]∧to=d4∧ok=(if d4==0 then false else c4)))
  (ht:Dn (D,if neg=true then 9223372036854775808 else 9223372036854775807)=some (v6,g6)):
  Fg s=if((K:Int)==0|| !g1|| !g2|| !c|| !ok||(w5== [])|| !g6||(neg&&(v6==0)))=true then some (DN,3)else
   if(decide (0<R.length)&&(Lib.join R [32]== []))=true then some (DN,3)else
   (BL (u32.wrap v1,u32.wrap v2,(K:Int),d,to,(if w5= [45]then []else w5),(if neg=true then i64.wrap (u64.wrap (0-v6))else i64.wrap v6),Lib.join R [32])).bind fun e=>if(e !=0)=true then some (DN,e)else some ((u32.wrap v1,u32.wrap v2,(K:Int),d,to,(if w5= [45]then []else w5),(if neg=true then i64.wrap (u64.wrap (0-v6))else i64.wrap v6),Lib.join R [32]),0):=by
 have hkl:=Z5 (l:=w0::w1::w2::w3::w4::w5::w6::R) (w0:=w0) (K:=K) rfl hK hKw 18 0 0 (by omega) (by omega)
 have hK0:(if 0+1≤K then(K:Int)else 0)=(K:Int):=by
  by_cases h:1≤K
  ·rw[if_pos h]
  ·rw[if_neg h];omega
 rw[show((0:Nat):Int)=(0:Int)from rfl,hK0]at hkl;have l6:=hw w6 (by simp);have a1:lAt (w0::w1::w2::w3::w4::w5::w6::R) 1=some w1:=AW (i:=1) rfl;have a2:lAt (w0::w1::w2::w3::w4::w5::w6::R) 2=some w2:=AW (i:=2) rfl;have a3:lAt (w0::w1::w2::w3::w4::w5::w6::R) 3=some w3:=AW (i:=3) rfl;have a4:lAt (w0::w1::w2::w3::w4::w5::w6::R) 4=some w4:=AW (i:=4) rfl;have a5:lAt (w0::w1::w2::w3::w4::w5::w6::R) 5=some w5:=AW (i:=5) rfl;have a6:lAt (w0::w1::w2::w3::w4::w5::w6::R) 6=some w6:=AW (i:=6) rfl;have a5':∀{α:Type} (f:List UInt8→Option α),(lAt (w0::w1::w2::w3::w4::w5::w6::R) 5).bind f=f w5:=fun f=>by rw[a5,bs]
 have hrt:=fun(a0 a1 a2 a3 a4:Int) (a5:List UInt8) (a6:Int) (a7:List UInt8) (b0 b1 b2 b3 b4:Int) (b5:List UInt8) (b6:Int)=>Tu (L:=w0::w1::w2::w3::w4::w5::w6::R) (a0:=a0) (a1:=a1) (a2:=a2) (a3:=a3) (a4:=a4) (a5:=a5) (a6:=a6) (a7:=a7) (b0:=b0) (b1:=b1) (b2:=b2) (b3:=b3) (b4:=b4) (b5:=b5) (b6:=b6) (by omega) (fun w h=>Nat.le_trans (hw w h) (by decide)) R [w0,w1,w2,w3,w4,w5,w6] [] rfl (by simp only[List.length_cons]at hlen;simp;omega);rw[show(([w0,w1,w2,w3,w4,w5,w6]:List (List UInt8)).length:Int)=7 from rfl,show([w0,w1,w2,w3,w4,w5,w6]:List (List UInt8)).length=7 from rfl,Aa6]at hrt;unfold Fg;dsimp only;try simp only[gPi,gSS,gPb,gPm,gPs,gM,gM2,Ar,gOr,As,Aw,gAA,gAO,gOA,gOO,Ao,Aq,At,Av,Ap,Au,gId]
 try simp only[A0,A1,A2,A3,A4,A5,A6,A7,gId,A8,gMb,gMm,gBm,gBb,bs,ms]
 rw[hcut,bs,Ak (show ¬(((w0::w1::w2::w3::w4::w5::w6::R).length:Int)<7) by simp;omega),if_neg (by decide),hkl,bs];dsimp only;rw[a1,bs,h1,bs,a2,bs,h2,bs,a3,bs,h3,bs,a4,bs,h4,bs];dsimp only;refine AE (a:=(w0::w1::w2::w3::w4::w5::w6::R,v1,g1,v2,g2,d,c,to,ok,0,0,0,0,0,[],0,[],0,0,(K:Int),0,0,[],0,[],(),(),(),(),())) ?_ ?_
 ·rcases hU with⟨e1,e2,e3⟩|⟨e0,e1,e2,e3⟩|⟨e0,e1,e2,e3⟩
  ·subst e1 e2 e3;rfl
  ·subst e1 e2 e3;rfl
  ·have q1:(w4== [45])=false:=by rw[beq_eq_false_iff_ne];exact e0
   have q2:(w4== [101,110,100])=false:=by rw[beq_eq_false_iff_ne];exact e1
   rw[q1,if_neg (by decide),bs,q2,if_neg (by decide),e2,e3];cases (d4==0)<;>rfl
 dsimp only;rw[a6,bs];refine AE (a:=neg) ?_ ?_
 ·rcases h6 with⟨e1,e2⟩|⟨e1,_,e3⟩
  ·subst e1 e2;rw[if_pos (show(!45::D== [])=true from rfl),show sAt (45::D) 0=some (((45:UInt8).toNat:Nat):Int)from BP (i:=0) rfl,bs];rfl
  ·subst e1
   cases w6 with
   |nil=>rfl
   |cons b r=>
    have hb:(((b.toNat:Nat):Int)==45)=false:=by
     rw[beq_eq_false_iff_ne];intro e;apply e3;rw[List.head?_cons]
     congr 1
     apply UInt8.toNat.inj;show b.toNat=45;omega
    show((sAt (b::r) 0).bind fun v=>some (v==45))=some false;rw[show sAt (b::r) 0=some ((b.toNat:Nat):Int)from BP (i:=0) rfl,bs,hb]
 refine AE (a:=(w0::w1::w2::w3::w4::w5::w6::R,v1,g1,v2,g2,d,c,to,ok,D,neg,0,0,0,0,0,[],0,[],0,0,(K:Int),0,0,[],0,[],(),(),(),(),())) ?_ ?_
 ·rcases h6 with⟨e1,e2⟩|⟨e1,e2,_⟩
  ·subst e1 e2
   have:AX (45::D) 1 (((45::D).length:Nat):Int)=some D:=by
    have:=Ca (xs:=(45:UInt8)::D) (i:=1) (j:=(45::D).length) (by simp) (by omega);rw[List.take_length]at this;exact this
   rw[if_pos rfl,this,bs]
  ·subst e1 e2;rfl
 dsimp only;refine AE (a:=(w0::w1::w2::w3::w4::w5::w6::R,v1,g1,v2,g2,d,c,to,ok,D,neg,(if neg=true then 9223372036854775808 else 9223372036854775807),0,0,0,0,0,[],0,[],0,0,(K:Int),0,0,[],0,[],(),(),(),(),())) ?_ ?_
 ·cases neg
  ·rfl
  ·rw[if_pos rfl,Aa7];rfl
 dsimp only;rw[ht,bs];dsimp only;generalize ((K:Int)==0)=kz;cases kz
 case true=>rfl
 cases g1
 ·rfl
 cases g2
 ·rfl
 cases c
 ·rfl
 cases ok
 ·rfl
 simp only[Bool.not_true,Bool.not_false,Ag,if_false,bs,Bool.or_self,Bool.false_or,a5'];cases h5:(w5== [])
 case true=>
  rw[if_pos rfl,bs];rfl
 rw[if_neg (by decide),bs];cases g6
 ·rfl
 refine AE (a:=neg&&(v6==0)) (by cases neg<;>rfl) ?_;cases hz:(neg&&(v6==0))
 case true=>rfl
 rw[if_neg (by decide)];refine AE (a:=(w0::w1::w2::w3::w4::w5::w6::R,neg,v6,0,0,0,0,0,[],0,[],u32.wrap v1,u32.wrap v2,(K:Int),d,to,(if w5= [45]then []else w5),0,[],(),(),(),(),())) ?_ ?_
 ·by_cases h45:w5= [45]
  ·subst h45;rfl
  ·have d5:(!(w5== [45]))=true:=by simpa using h45
   rw[d5,if_neg h45];rfl
 dsimp only;refine AE (a:=(w0::w1::w2::w3::w4::w5::w6::R,0,0,0,0,0,[],0,[],u32.wrap v1,u32.wrap v2,(K:Int),d,to,(if w5= [45]then []else w5),(if neg=true then i64.wrap (u64.wrap (0-v6))else i64.wrap v6),[],(),(),(),(),())) (by cases neg<;>rfl) ?_;dsimp only;rw[hrt,bs];dsimp only
 have hlR:decide (((w0::w1::w2::w3::w4::w5::w6::R).length:Int)>7)=decide (0<R.length):=by
  rw[Bool.eq_iff_iff,decide_eq_true_eq,decide_eq_true_eq];simp only[List.length_cons];omega
 rw[hlR];refine AE (a:=decide (0<R.length)&&(Lib.join R [32]== [])) (by cases (decide (0<R.length))<;>rfl) ?_;cases (decide (0<R.length)&&(Lib.join R [32]== []))
 ·rfl
 ·rfl
set_option linter.unusedSimpArgs false
set_option linter.unusedVariables false
set_option maxHeartbeats 2000000
theorem Yj{v:Int}(h:1≤v∧v≤9223372036854775808):i64.wrap (u64.wrap (0-v))= -v:=by
 have h1:u64.wrap (0-v)=18446744073709551616-v:=by rw[IntKind.wrap_u64];omega
 rw[h1,IntKind.wrap_i64];omega
theorem ZA{w D:List UInt8}{neg g:Bool}{v:Int}(hl:D.length≤4900)(h6:(neg=true∧w=45::D)∨(neg=false∧w=D∧w.head? ≠some 45))(ht:Dn (D,if neg=true then 9223372036854775808 else 9223372036854775807)=some (v,g)):
  ((g&& !(neg&&(v==0)))=true∧(-9223372036854775808≤(if neg=true then i64.wrap (u64.wrap (0-v))else i64.wrap v)∧(if neg=true then i64.wrap (u64.wrap (0-v))else i64.wrap v)≤9223372036854775807)∧w=Lib.itoa (if neg=true then i64.wrap (u64.wrap (0-v))else i64.wrap v))∨
  ((g&& !(neg&&(v==0)))=false∧∀n,-9223372036854775808≤n∧n≤9223372036854775807→w≠Lib.itoa n):=by
 rcases h6 with⟨rfl,rfl⟩|⟨rfl,rfl,hh⟩
 ·rw[if_pos rfl,Gz (by omega) (by decide) (by decide)]at ht
  have back:∀n:Int,45::D=Lib.itoa n→n<0∧D=Lib.decDigits n.natAbs:=fun n e=>by
   by_cases hn:n<0
   ·rw[E8 hn]at e;exact⟨hn,(List.cons.inj e).2⟩
   ·rw[Dj (by omega)]at e;exact absurd (show(Lib.decDigits n.natAbs).head? =some 45 by rw[←e];rfl) (HZ _)
  cases hb:AU D 9223372036854775808 with
  |false=>
   rw[hb]at ht;cases ht;refine .inr ⟨rfl,fun n hn e=> ?_⟩;obtain⟨k1,k2⟩:=back n e;have:=(FQ (n:= -n) (m:=9223372036854775808) ⟨by omega,by omega⟩).1;rw[Dj (by omega),show(-n).natAbs=n.natAbs by omega,←k2,hb]at this;cases this
  |true=>
   rw[hb]at ht;cases ht;obtain⟨e1,e2⟩:=Gk hb;by_cases hz:Am 0 D=0
   ·refine .inr ⟨?_,fun n hn e=> ?_⟩
    ·rw[hz];rfl
    ·obtain⟨k1,k2⟩:=back n e;rw[k2,Fz]at hz;omega
   ·left;have hz':(((Am 0 D:Nat):Int)==0)=false:=by rw[beq_eq_false_iff_ne];omega
    rw[if_pos rfl,Yj ⟨by omega,e2⟩];refine⟨by rw[hz'];rfl,⟨by omega,by omega⟩, ?_⟩;rw[E8 (by omega),show(-(Am 0 D:Int)).natAbs=Am 0 D by omega];rw[Dj (by omega),show((Am 0 D:Nat):Int).natAbs=Am 0 D by omega]at e1;rw[←e1]
 ·rw[if_neg (by decide),Gz (by omega) (by decide) (by decide)]at ht
  have back:∀n:Int,w=Lib.itoa n→0≤n:=fun n e=>by
   refine Classical.byContradiction fun hn=> ?_;rw[E8 (by omega)]at e;exact hh (by rw[e];rfl)
  cases hb:AU w 9223372036854775807 with
  |false=>
   rw[hb]at ht;cases ht;refine .inr ⟨rfl,fun n hn e=> ?_⟩;have:=(FQ (n:=n) (m:=9223372036854775807) ⟨back n e,hn.2⟩).1;rw[←e,hb]at this;cases this
  |true=>
   rw[hb]at ht;cases ht;obtain⟨e1,e2⟩:=Gk hb;left;rw[if_neg (by decide),AA (by omega) (by omega)];exact⟨rfl,⟨by omega,e2⟩,e1⟩
theorem Zr{s:List UInt8}(hs:s.length≤4900):(∃x,Dt (Bd 32 7 [] s) x∧Fg s=some (IP x))∨((∀x,¬Dt (Bd 32 7 [] s) x)∧Fg s=some (DN,3)):=by
 have hcut:D2 (s,32)=some (AK 32 s):=JV (c:=32) (by omega);have htk:=OJ s [] 7
 have hlen:(AK 32 s).length≤4901:=by
  have h1:=I9 32 s [];have h2:=List.count_le_length (a:=(32:UInt8)) (l:=s);show(B7 32 [] s).length≤4901;omega
 have hw:∀w∈AK 32 s,w.length≤4900:=fun w hw=>by
  have:=(IA 32 s [] (by simp) w hw).2.1;simp only[List.length_nil]at this;omega
 rw[show B7 32 [] s=AK 32 s from rfl]at htk
 match hM:AK 32 s with
 | []=>exact absurd hM (Mv 32 s [])
 |w0::w1::w2::w3::w4::w5::w6::R=>
  rw[hM]at hcut hlen hw htk
  have hL:Bd 32 7 [] s=w0::w1::w2::w3::w4::w5::w6::(if R= []then []else [Lib.join R [32]]):=by
   rw[htk];show [w0,w1,w2,w3,w4,w5,w6]++(if 7<(w0::w1::w2::w3::w4::w5::w6::R).length then [Lib.join R [32]]else [])=_
   cases R with
   |nil=>rfl
   |cons r R=>rw[if_pos (by simp),if_neg (by simp)];rfl
  have l1:=hw w1 (by simp);have l2:=hw w2 (by simp);have l6:=hw w6 (by simp);obtain⟨K,hK,hKw⟩:=kK w0
  have words:∀x,Dt (Bd 32 7 [] s) x→w0=B6 x.2.2.1∧w1=Lib.itoa x.1∧w2=Lib.itoa x.2.1∧IsD w3 x.2.2.2.1∧IsU w4 x.2.2.2.2.1∧w5=Ce x.2.2.2.2.2.1∧w6=Lib.itoa x.2.2.2.2.2.2.1:=fun x hx=>by
   obtain⟨t,u,h1,h2,h3⟩:=hx.w;rw[hL,F5]at h3;unfold CD at h3;simp only[List.cons_append,List.cons.injEq]at h3;obtain⟨e0,e1,e2,e3,e4,e5,e6,_⟩:=h3;exact⟨e0,e1,e2,e3▸h1,e4▸h2,e5,e6⟩
  have t1:=Gz (s:=w1) (most:=4294967295) (by omega) (by decide) (by decide);have t2:=Gz (s:=w2) (most:=4294967295) (by omega) (by decide) (by decide)
  obtain⟨d,c,h3,hdc⟩:∃d c,EL w3=some (d,c)∧((c=true∧IsD w3 d)∨(c=false∧∀d,¬IsD w3 d)):=by
   rcases Ta w3 with⟨d,h,e⟩|⟨h,e⟩
   ·exact⟨d,true,e,.inl ⟨rfl,h⟩⟩
   ·exact⟨0,false,e,.inr ⟨rfl,h⟩⟩
  obtain⟨d4,c4,h4,hdc4⟩:∃d c,EL w4=some (d,c)∧((c=true∧IsD w4 d)∨(c=false∧∀d,¬IsD w4 d)):=by
   rcases Ta w4 with⟨d,h,e⟩|⟨h,e⟩
   ·exact⟨d,true,e,.inl ⟨rfl,h⟩⟩
   ·exact⟨0,false,e,.inr ⟨rfl,h⟩⟩
  obtain⟨to,ok,hU,hto⟩:∃to ok,((w4= [45]∧to=0∧ok=true)∨(w4≠ [45]∧w4= [101,110,100]∧to=84006∧ok=true)∨(w4≠ [45]∧w4≠ [101,110,100]∧to=d4∧ok=(if d4==0 then false else c4)))∧((ok=true∧IsU w4 to)∨(ok=false∧∀to,¬IsU w4 to)):=by
   by_cases q1:w4= [45]
   ·exact⟨0,true,.inl ⟨q1,rfl,rfl⟩,.inl ⟨rfl,.inl ⟨rfl,q1⟩⟩⟩
   by_cases q2:w4= [101,110,100]
   ·exact⟨84006,true,.inr (.inl ⟨q1,q2,rfl,rfl⟩),.inl ⟨rfl,.inr (.inl ⟨rfl,q2⟩)⟩⟩
   refine⟨d4,_,.inr (.inr ⟨q1,q2,rfl,rfl⟩), ?_⟩;rcases hdc4 with⟨rfl,hd⟩|⟨rfl,hn⟩
   ·by_cases hz:d4=0
    ·refine .inr ⟨by rw[hz];rfl,fun to hu=> ?_⟩;rcases hu with⟨_,h⟩|⟨_,h⟩|⟨h,h'⟩
     ·exact q1 h
     ·exact q2 h
     ·exact h' ((h.uniq hd).trans hz)
    ·have:(d4==0)=false:=by rw[beq_eq_false_iff_ne];exact hz
     exact .inl ⟨by rw[this];rfl,.inr (.inr ⟨hd,hz⟩)⟩
   ·refine .inr ⟨by cases (d4==0)<;>rfl,fun to hu=> ?_⟩;rcases hu with⟨_,h⟩|⟨_,h⟩|⟨h,h'⟩
    ·exact q1 h
    ·exact q2 h
    ·exact hn _ h
  obtain⟨neg,D,h6,hDl⟩:∃neg D,((neg=true∧w6=45::D)∨(neg=false∧w6=D∧w6.head? ≠some 45))∧D.length≤4900:=by
   rcases Ru w6 with⟨D,e⟩|e
   ·exact⟨true,D,.inl ⟨rfl,e⟩,by rw[e]at l6;simp only[List.length_cons]at l6;omega⟩
   ·exact⟨false,w6,.inr ⟨rfl,rfl,e⟩,l6⟩
  obtain⟨v6,g6,ht⟩:∃v g,Dn (D,if neg=true then 9223372036854775808 else 9223372036854775807)=some (v,g):=by
   have:=Gz (s:=D) (most:=if neg=true then 9223372036854775808 else 9223372036854775807) (by omega) (by split<;>decide) (by split<;>decide);rw[this];split
   ·exact⟨_,_,rfl⟩
   ·exact⟨_,_,rfl⟩
  have hsg:=ZA hDl h6 ht;have hP:=rev hcut (by omega) hw hK hKw (v1:=if AU w1 4294967295=true then(Am 0 w1:Int)else 0) (g1:=AU w1 4294967295) (v2:=if AU w2 4294967295=true then(Am 0 w2:Int)else 0) (g2:=AU w2 4294967295) (by rw[t1];cases AU w1 4294967295<;>rfl) (by rw[t2];cases AU w2 4294967295<;>rfl) h3 h4 h6 hU ht;generalize (if neg=true then i64.wrap (u64.wrap (0-v6))else i64.wrap v6)=num at hP hsg;have bad:((K:Int)==0|| !AU w1 4294967295|| !AU w2 4294967295|| !c|| !ok||(w5== [])|| !g6||(neg&&(v6==0)))=true→Fg s=some (DN,3):=fun h=>by rw[hP,if_pos h]
  by_cases hz:K=0
  ·refine .inr ⟨fun x hx=> ?_,bad (by rw[hz];rfl)⟩;obtain⟨e0,_⟩:=words x hx;have hk:=hx.k;obtain⟨k,hk'⟩:=Int.eq_ofNat_of_zero_le (show 0≤x.2.2.1 by omega);have:=(hKw k (by omega) (by omega)).1 (by rw[e0,←hk']);omega
  have dz:((K:Int)==0)=false:=by rw[beq_eq_false_iff_ne];omega
  cases b1:AU w1 4294967295 with
  |false=>
   refine .inr ⟨fun x hx=> ?_,bad (by rw[dz,b1];rfl)⟩;obtain⟨_,e1,_⟩:=words x hx;have:=(FQ hx.id).1;rw[←e1,b1]at this;cases this
  |true=>
  cases b2:AU w2 4294967295 with
  |false=>
   refine .inr ⟨fun x hx=> ?_,bad (by rw[dz,b1,b2];rfl)⟩;obtain⟨_,_,e2,_⟩:=words x hx;have:=(FQ hx.p).1;rw[←e2,b2]at this;cases this
  |true=>
  rcases hdc with⟨rfl,hd⟩|⟨rfl,hn⟩
  case inr=>
   refine .inr ⟨fun x hx=> ?_,bad (by rw[dz,b1,b2];rfl)⟩;obtain⟨_,_,_,e3,_⟩:=words x hx;exact hn _ e3
  rcases hto with⟨rfl,hu⟩|⟨rfl,hn⟩
  case inr=>
   refine .inr ⟨fun x hx=> ?_,bad (by rw[dz,b1,b2];rfl)⟩;obtain⟨_,_,_,_,e4,_⟩:=words x hx;exact hn _ e4
  by_cases h5:w5= []
  ·refine .inr ⟨fun x hx=> ?_,bad (by rw[dz,b1,b2,h5];rfl)⟩;obtain⟨_,_,_,_,_,e5,_⟩:=words x hx;exact Q6 _ (e5.symm.trans h5)
  have d5:(w5== [])=false:=by rw[beq_eq_false_iff_ne];exact h5
  rcases hsg with⟨hg,hnr,hn6⟩|⟨hg,hn⟩
  case inr=>
   refine .inr ⟨fun x hx=> ?_,bad (by rw[dz,b1,b2,d5];revert hg;cases g6<;>cases neg<;>cases (v6==0)<;>simp)⟩;obtain⟨_,_,_,_,_,_,e6⟩:=words x hx;exact hn _ hx.nm e6
  have good:((K:Int)==0|| !AU w1 4294967295|| !AU w2 4294967295|| !true|| !true||(w5== [])|| !g6||(neg&&(v6==0)))=false:=by
   rw[dz,b1,b2,d5];revert hg;cases g6<;>cases neg<;>cases (v6==0)<;>simp
  rw[good,if_neg (by decide),b1,b2,if_pos rfl,if_pos rfl]at hP;by_cases hR:R≠ []∧Lib.join R [32]= []
  ·refine .inr ⟨fun x hx=> ?_, ?_⟩
   ·have:=hx.ne (Lib.join R [32]) (by rw[hL,if_neg hR.1];simp);exact this hR.2
   ·have e0:(decide (0<R.length)&&(Lib.join R [32]== []))=true:=by
     rw[hR.2,Al (List.length_pos_iff.2 hR.1)];rfl
    rw[hP,e0,if_pos rfl]
  have e0:(decide (0<R.length)&&(Lib.join R [32]== []))=false:=by
   cases R with
   |nil=>rfl
   |cons r R=>
    have:(Lib.join (r::R) [32]== [])=false:=by
     rw[beq_eq_false_iff_ne];exact fun e=>hR ⟨by simp,e⟩
    rw[this,Bool.and_false]
  rw[e0,if_neg (by decide)]at hP;obtain⟨n1,q1⟩:=Gk b1;obtain⟨n2,q2⟩:=Gk b2;rw[IntKind.wrap_u32,IntKind.wrap_u32,show((Am 0 w1:Int))% 4294967296=(Am 0 w1:Int) by omega,show((Am 0 w2:Int))% 4294967296=(Am 0 w2:Int) by omega]at hP;left;refine⟨((Am 0 w1:Int),(Am 0 w2:Int),(K:Int),d,to,(if w5= [45]then []else w5),num,Lib.join R [32]),⟨⟨show 1≤(K:Int) by omega,show(K:Int)≤18 by omega⟩,⟨show 0≤(Am 0 w1:Int) by omega,q1⟩,⟨show 0≤(Am 0 w2:Int) by omega,q2⟩,hnr, ?_,w3,w4,hd,hu, ?_⟩, ?_⟩
  ·show(if w5= [45]then []else w5)≠ [45];split
   ·simp
   ·assumption
  ·rw[hL,F5];unfold CD;have k0:B6 (K:Int)=w0:=(hKw K (by omega) hK).2 rfl
   have k5:Ce (if w5= [45]then []else w5)=w5:=by
    unfold Ce;by_cases h45:w5= [45]
    ·rw[if_pos h45,if_pos rfl,h45]
    ·rw[if_neg h45,if_neg h5]
   have kR:(if R= []then []else [Lib.join R [32]])=(if Lib.join R [32]= []then []else [Lib.join R [32]]):=by
    by_cases hr:R= []
    ·rw[if_pos hr,hr];rfl
    ·rw[if_neg hr,if_neg (fun e=>hR ⟨hr,e⟩)]
   simp only[List.cons_append,List.nil_append];rw[k0,←n1,←n2,k5,←hn6,kR]
  ·have hl5:(if w5= [45]then([]:List UInt8)else w5).length≤4900:=by
    split
    ·simp
    ·exact hw w5 (by simp)
   have hlR:(Lib.join R [32]).length≤4900:=by
    by_cases hr:R= []
    ·rw[hr];decide
    ·have:=Uf 32 s [] 7 (Lib.join R [32]) (by rw[hL,if_neg hr];simp);simp only[List.length_nil]at this;omega
   rw[hP,Te _ hl5 hlR,bs];unfold IP;by_cases hc:AM ((Am 0 w1:Int),(Am 0 w2:Int),(K:Int),d,to,(if w5= [45]then []else w5),num,Lib.join R [32])=0
   ·rw[if_pos hc,hc];rfl
   ·have hc':(AM ((Am 0 w1:Int),(Am 0 w2:Int),(K:Int),d,to,(if w5= [45]then []else w5),num,Lib.join R [32]) !=0)=true:=by rw[bne_iff_ne];exact hc
    rw[if_neg hc,if_pos hc']
 | [_]| [_,_]| [_,_,_]| [_,_,_,_]| [_,_,_,_,_]| [_,_,_,_,_,_]=>
  rw[hM]at hcut htk;refine .inr ⟨fun x hx=> ?_, ?_⟩
  ·obtain⟨t,u,_,_,e⟩:=hx.w;rw[htk,F5]at e;have:=congrArg List.length e;simp[CD]at this
  ·unfold Fg;dsimp only;rw[hcut,bs,Al (by simp),if_pos rfl];rfl
set_option linter.unusedSimpArgs false
set_option linter.unusedVariables false
set_option maxHeartbeats 2000000
theorem NA{m n:Int}(h:Lib.itoa m=Lib.itoa n):m=n:=by
 by_cases h1:m<0
 ·by_cases h2:n<0
  ·rw[E8 h1,E8 h2]at h;have:=QI (List.cons.inj h).2;omega
  ·rw[E8 h1,Dj (by omega)]at h;exact absurd (show(Lib.decDigits n.natAbs).head? =some 45 by rw[←h];rfl) (HZ _)
 ·by_cases h2:n<0
  ·rw[E8 h2,Dj (by omega)]at h;exact absurd (show(Lib.decDigits m.natAbs).head? =some 45 by rw[h];rfl) (HZ _)
  ·rw[Dj (by omega),Dj (by omega)]at h;have:=QI h;omega
theorem XL{a b:Int}(ha:1≤a∧a≤18)(hb:1≤b∧b≤18)(h:B6 a=B6 b):a=b:=by
 obtain⟨i,rfl⟩:=Int.eq_ofNat_of_zero_le (show 0≤a by omega);obtain⟨j,rfl⟩:=Int.eq_ofNat_of_zero_le (show 0≤b by omega);have:=RC i (by omega) j (by omega) h (by omega);omega
theorem IsU.uniq{w:List UInt8}{a b:Int}(h:IsU w a)(k:IsU w b):a=b:=by
 rcases h with⟨h1,h2⟩|⟨h1,h2⟩|⟨h1,h2⟩<;>rcases k with⟨k1,k2⟩|⟨k1,k2⟩|⟨k1,k2⟩
 ·omega
 ·rw[h2]at k2;cases k2
 ·have:=k1.len;rw[h2]at this;cases this
 ·rw[h2]at k2;cases k2
 ·omega
 ·have:=k1.len;rw[h2]at this;cases this
 ·have:=h1.len;rw[k2]at this;cases this
 ·have:=h1.len;rw[k2]at this;cases this
 ·exact h1.uniq k1
theorem VL{a b:List UInt8}(ha:a≠ [45])(hb:b≠ [45])(h:Ce a=Ce b):a=b:=by
 unfold Ce at h;split at h<;>split at h
 ·rename_i h1 h2;rw[h1,h2]
 ·exact absurd h.symm hb
 ·exact absurd h ha
 ·exact h
theorem Dt.uniq{L:List (List UInt8)}{x y:Fct}(h:Dt L x)(k:Dt L y):x=y:=by
 obtain⟨t,u,h1,h2,h3⟩:=h.w;obtain⟨t',u',k1,k2,k3⟩:=k.w;rw[h3,F5,F5]at k3;unfold CD at k3;simp only[List.cons_append,List.cons.injEq,List.nil_append]at k3;obtain⟨e0,e1,e2,e3,e4,e5,e6,e7⟩:=k3;subst e3 e4;obtain⟨a,b,c,d,e,f,g,i⟩:=x;obtain⟨a',b',c',d',e',f',g',i'⟩:=y;have q0:=XL h.k k.k e0;have q1:=NA e1;have q2:=NA e2;have q3:=h1.uniq k1;have q4:=h2.uniq k2;have q5:=VL h.cd k.cd e5;have q6:=NA e6
 have q7:i=i':=by
  dsimp only at e7;split at e7<;>split at e7
  ·rename_i r1 r2;rw[r1,r2]
  ·cases e7
  ·cases e7
  ·exact(List.cons.inj e7).1
 dsimp only at q0 q1 q2 q3 q4 q5 q6;rw[q0,q1,q2,q3,q4,q5,q6,q7]
theorem Z4{x:Fct}(h:AM x=0)(hid:0≤x.1∧x.1≤4294967295)(hp:0≤x.2.1∧x.2.1≤4294967295):∃t u,Hz x t u∧IsD t x.2.2.2.1∧IsU u x.2.2.2.2.1∧Dt (CX x t u) x:=by
 obtain⟨t,u,P⟩:=YC h hid hp
 have dt:∀{d:Int} {w:List UInt8},-25567≤d∧d≤84005→Dw d=some w→IsD w d:=fun{d w} hd hw=>by
  obtain⟨w',h1,h2⟩:=IsD.of hd;rw[hw]at h1;cases h1;exact h2
 have ht:=dt P.r.fr P.t1
 have hu:IsU u x.2.2.2.2.1:=by
  have u1:=P.u1;unfold HR at u1;dsimp only at u1;by_cases h0:x.2.2.2.2.1=0
  ·rw[h0,if_pos (by rfl)]at u1;cases u1;exact .inl ⟨h0,rfl⟩
  ·have e0:(x.2.2.2.2.1==0)=false:=by rw[beq_eq_false_iff_ne];exact h0
   rw[e0,if_neg (by decide)]at u1;by_cases h1:x.2.2.2.2.1=84006
   ·rw[h1,if_pos (by rfl)]at u1;cases u1;exact .inr (.inl ⟨h1,rfl⟩)
   ·have e1:(x.2.2.2.2.1==84006)=false:=by rw[beq_eq_false_iff_ne];exact h1
    rw[e1,if_neg (by decide),A8]at u1;have hto:=P.r.to;exact .inr (.inr ⟨dt (by omega) u1,h0⟩)
 have nm:=P.r.nm;refine⟨t,u,P,ht,hu,P.r.k,hid,hp,⟨by omega,by omega⟩, ?_,t,u,ht,hu,rfl⟩;rcases Nf P.r.cd with e|⟨_,e,_⟩
 ·rw[e];simp
 ·exact e
theorem YU:∀(n:Nat) (acc:List UInt8),n≤18446744073709551615→acc.length+(Lib.decDigits n).length≤1000000→∃(m:Nat) (t:List UInt8),iter Mf ((n:Int),acc,())=some ((m:Int),t,())∧m<10∧dg9 m::t=Lib.decDigits n++acc:=by
 intro n
 induction n using Nat.strongRecOn with
 |_ n ih=>
  intro acc hn hacc;by_cases h:n<10
  ·refine⟨n,acc,itR ?_,h,by rw[E1 h];rfl⟩;unfold Mf;dsimp only;rw[Ak (show ¬((n:Int)>9) by omega),if_neg (by decide)]
  ·rw[Fy h,List.length_append,List.length_singleton]at hacc;obtain⟨m,t,h1,h2,h3⟩:=ih (n/10) (by omega) (dg9 (n % 10)::acc) (by omega) (by simp only[List.length_cons];omega);refine⟨m,t,(itL ?_).trans h1,h2, ?_⟩
   ·unfold Mf;dsimp only;have t1:((n:Int)).tmod 10=((n % 10:Nat):Int):=by rw[Int.tmod_eq_emod_of_nonneg (by omega)];rfl
    have t2:((n:Int)).tdiv 10=((n/10:Nat):Int):=by rw[Int.tdiv_eq_ediv_of_nonneg (by omega)];rfl
    have w1:u64.wrap ((48:Int)+((n % 10:Nat):Int))=48+((n % 10:Nat):Int):=by rw[IntKind.wrap_u64];omega
    have w2:u8.wrap (48+((n % 10:Nat):Int))=48+((n % 10:Nat):Int):=by rw[IntKind.wrap_u8];omega
    have w3:u64.wrap (((n/10:Nat):Int))=((n/10:Nat):Int):=by rw[IntKind.wrap_u64];omega
    have hb:UInt8.ofNat (48+((n % 10:Nat):Int)).toNat=dg9 (n % 10):=by
     unfold dg9
     congr 1
    rw[Al (show(n:Int)>9 by omega),if_pos rfl,if_neg (by decide),bs,t1,w1,w2];simp only[List.map_cons,List.map_nil];rw[hb,if_pos (by simp only[List.length_cons,List.length_nil];omega),bs,if_neg (by decide),bs,t2,w3];rfl
   ·rw[h3,Fy h];simp
theorem Tb{n:Nat}(hn:n≤18446744073709551615):Hp (n:Int)=some (Lib.decDigits n):=by
 have hl:(Lib.decDigits n).length≤20:=Jd (by decide) (by have:(10:Nat)^20=100000000000000000000:=rfl;omega);obtain⟨m,t,h1,h2,h3⟩:=YU n [] hn (by simp only[List.length_nil];omega);rw[List.append_nil]at h3;unfold Hp;dsimp only;rw[h1,bs];dsimp only;have w1:u64.wrap ((48:Int)+(m:Int))=48+(m:Int):=by rw[IntKind.wrap_u64];omega
 have w2:u8.wrap (48+(m:Int))=48+(m:Int):=by rw[IntKind.wrap_u8];omega
 have hb:UInt8.ofNat (48+(m:Int)).toNat=dg9 m:=by
  unfold dg9
  congr 1
 rw[w1,w2];simp only[List.map_cons,List.map_nil];rw[hb]
 have hlt:t.length≤20:=by
  have:=congrArg List.length h3;simp only[List.length_cons]at this;omega
 rw[if_pos (by simp only[List.length_cons,List.length_nil];omega),bs,←h3];rfl
theorem Tc{n:Int}(h:0≤n∧n≤4294967295):Hp (u64.wrap n)=some (Lib.itoa n):=by
 have e:u64.wrap n=((n.natAbs:Nat):Int):=by rw[IntKind.wrap_u64];omega
 rw[e,Tb (by omega),Dj h.1]
theorem YQ{n:Int}(h: -9223372036854775808≤n∧n≤9223372036854775807):LX n=some ((n.natAbs:Nat):Int):=by
 unfold LX;dsimp only;by_cases hn:n<0
 ·rw[Al hn,if_pos rfl];have e1:u64.wrap n=18446744073709551616+n:=by rw[IntKind.wrap_u64];omega
  rw[e1,IntKind.wrap_u64]
  congr 1
  omega
 ·rw[Ak hn,if_neg (by decide),IntKind.wrap_u64]
  congr 1
  omega
theorem Zq{x:Fct}{t u:List UInt8}(h:AM x=0)(P:Hz x t u)(ht:IsD t x.2.2.2.1)(hu:IsU u x.2.2.2.2.1):Iy x=some (Lib.join (CX x t u) [32]):=by
 obtain⟨id,p,k,fr,to,cd,n,tx⟩:=x;dsimp only at ht hu;have hk:1≤k∧k≤18:=P.r.k;have hid:0≤id∧id≤4294967295:=P.id;have hp:0≤p∧p≤4294967295:=P.p;have nm: -1125899906842624≤n∧n≤1125899906842624:=P.r.nm;have htx:tx.length≤4096:=P.r.tx;have l:=(TU P).2;unfold CD at l;simp only[List.map_cons,List.map_nil,List.sum_cons,List.sum_nil]at l;have hna:((n.natAbs:Nat):Int)≤18446744073709551615:=by omega
 have hnd:(Lib.decDigits n.natAbs).length≤200:=by
  have e:=Gj n;have:(Lib.itoa n).length≤200:=by omega
  rw[e,List.length_append]at this;omega
 obtain⟨K,hK⟩:=Int.eq_ofNat_of_zero_le (show 0≤k by omega)
 have hnm:lAt Lx (i64.wrap (k-1))=some (B6 k):=by
  have e:i64.wrap (k-1)=((K-1:Nat):Int):=by rw[AA (by omega) (by omega)];omega
  rw[e,RE (by omega),show K-1+1=K by omega,hK]
 unfold Iy;dsimp only;refine AE (a:=(u,id,p,k,fr,to,cd,n,tx,(),(),())) ?_ ?_
 ·rcases hu with⟨e1,e2⟩|⟨e1,e2⟩|⟨e1,e2⟩
  ·rw[e1,e2];rfl
  ·rw[e1,e2];rfl
  ·have a1:(to==84006)=false:=by rw[beq_eq_false_iff_ne];have:=e1.text.1;omega
   have a2:(to !=0)=true:=by rw[bne_iff_ne];exact e2
   rw[a1,a2,if_neg (by decide),if_pos rfl,SZ e1,bs]
 dsimp only;rw[YQ ⟨by omega,by omega⟩,bs,Tb (by omega),bs];refine AE (a:=(u,Lib.itoa n,id,p,k,fr,to,cd,n,tx,(),(),())) ?_ ?_
 ·by_cases hn:n<0
  ·rw[Al hn,if_pos rfl,if_pos (by simp only[List.length_cons,List.length_nil];omega),bs,E8 hn];rfl
  ·rw[Ak hn,if_neg (by decide),Dj (by omega)]
 dsimp only
 have oe:Mg (cd,[45])=some (Ce cd):=by
  unfold Mg Ce;dsimp only;by_cases hc:cd= []
  ·subst hc;rfl
  ·have:(cd== [])=false:=by rw[beq_eq_false_iff_ne];exact hc
   rw[this,if_neg (by decide),if_neg hc]
 rw[Si,bs,hnm,show(some (B6 k)).map (fun y=>y)=some (B6 k)from rfl,bs];have ap:∀{α:Type} (a b:List UInt8) (f:List UInt8→Option α),a.length+b.length≤100000→(if a.length+b.length≤4611686018427387904 then some (a++b)else none).bind f=f (a++b):=fun a b f hab=>by rw[if_pos (by omega),bs]
 have l32:([32]:List UInt8).length=1:=rfl;rw[ap _ _ _ (by omega),Tc hid,bs];rw[ap _ _ _ (by simp only[List.length_append,l32];omega)];rw[ap _ _ _ (by simp only[List.length_append,l32];omega),Tc hp,bs];rw[ap _ _ _ (by simp only[List.length_append,l32];omega)];rw[ap _ _ _ (by simp only[List.length_append,l32];omega),SZ ht,bs];rw[ap _ _ _ (by simp only[List.length_append,l32];omega)];rw[ap _ _ _ (by simp only[List.length_append,l32];omega)];rw[ap _ _ _ (by simp only[List.length_append,l32];omega)];rw[ap _ _ _ (by simp only[List.length_append,l32];omega),oe,bs];rw[ap _ _ _ (by simp only[List.length_append,l32];omega)];rw[ap _ _ _ (by simp only[List.length_append,l32];omega)];rw[ap _ _ _ (by simp only[List.length_append,l32];omega)]
 have fin:Lib.join (CX (id,p,k,fr,to,cd,n,tx) t u) [32]=(B6 k++ [32]++Lib.itoa id++ [32]++Lib.itoa p++ [32]++t++ [32]++u++ [32]++Ce cd++ [32]++Lib.itoa n)++(if tx= []then []else 32::tx):=by
  rw[F5];unfold CD;dsimp only;by_cases he:tx= []
  ·rw[if_pos he,if_pos he];simp only[List.append_nil,Ls,Lib.join_one];simp
  ·rw[if_neg he,if_neg he];simp only[List.cons_append,List.nil_append,Ls,Lib.join_one];simp
 rw[fin];by_cases he:tx= []
 ·subst he;simp
 ·have d:(!(tx== []))=true:=by simpa using he
  rw[d,if_pos rfl,if_neg he];rw[ap _ _ _ (by simp only[List.length_append,l32];omega)];rw[ap _ _ _ (by simp only[List.length_append,l32];omega),bs];simp
theorem eqF(x y:Fct):((x.1==y.1)&&((x.2.1==y.2.1)&&((x.2.2.1==y.2.2.1)&&((x.2.2.2.1==y.2.2.2.1)&&((x.2.2.2.2.1==y.2.2.2.2.1)&&((x.2.2.2.2.2.1==y.2.2.2.2.2.1)&&((x.2.2.2.2.2.2.1==y.2.2.2.2.2.2.1)&&(x.2.2.2.2.2.2.2==y.2.2.2.2.2.2.2))))))))=true↔x=y:=by
 obtain⟨a,b,c,d,e,f,g,i⟩:=x;obtain⟨a',b',c',d',e',f',g',i'⟩:=y;simp only[Af,beq_iff_eq,Prod.mk.injEq]
theorem Y9{s:List UInt8}(hs:s.length≤4900):∃r,DA s=some r∧Fg s=some r:=by
 rcases UG hs with⟨x,h1,h2⟩|⟨h1,h2⟩<;>rcases Zr hs with⟨y,k1,k2⟩|⟨k1,k2⟩
 ·rw[h1.uniq k1]at h2;exact⟨_,h2,k2⟩
 ·exact absurd h1 (k1 x)
 ·exact absurd k1 (h1 y)
 ·exact⟨_,h2,k2⟩
theorem law_FactLine(haw:Jy ()=some true){x:Fct}{s:List UInt8}(hid:0≤x.1∧x.1≤4294967295)(hp:0≤x.2.1∧x.2.1≤4294967295):NG (x,s)=some true:=by
 unfold NG;dsimp only;try simp only[gPi,gSS,gPb,gPm,gPs,gM,gM2,Ar,gOr,As,Aw,gAA,gAO,gOA,gOO,Ao,Aq,At,Av,Ap,Au,gId]
 try simp only[A0,A1,A2,A3,A4,A5,A6,A7,gId,A8,gMb,gMm,gBm,gBb,bs,ms]
 rw[haw,bs,if_neg (by decide),Sv,bs,ZO,bs];by_cases hc:x.2.2.2.2.2.1.length≤300
 case neg=>rw[Ak hc];rfl
 by_cases ht:x.2.2.2.2.2.2.2.length≤4200
 case neg=>rw[Al hc,Ak ht];rfl
 rw[Al hc,Al ht];by_cases hs:s.length≤4500
 case neg=>rw[if_neg (by decide),bs,Al (show(s.length:Int)>4500 by omega)];rfl
 rw[if_neg (by decide),bs,Ak (show ¬((s.length:Int)>4500) by omega),if_neg (by decide)];have ex:((x.1,x.2.1,x.2.2.1,x.2.2.2.1,x.2.2.2.2.1,x.2.2.2.2.2.1,x.2.2.2.2.2.2.1,x.2.2.2.2.2.2.2):Fct)=x:=rfl;rw[ex];obtain⟨r,p1,p2⟩:=Y9 (s:=s) (by omega);have q:=(eqF r.1 r.1).2 rfl
 have fin:∀(l:List UInt8×Int),E4 x=some l→(if(AM x !=0)=true then if(l.1== [])=true then some (l.2==AM x)else some false else if(l.2==0)=true then(Iy x).bind fun v=>some (l.1==v)else some false)=some true→((E4 x).bind fun x25=>(DA s).bind fun x30=>(Fg s).bind fun x35=>(Hd (x30.1.1,x30.1.2.1,x30.1.2.2.1,x30.1.2.2.2.1,x30.1.2.2.2.2.1,x30.1.2.2.2.2.2.1,x30.1.2.2.2.2.2.2.1,x30.1.2.2.2.2.2.2.2)).bind fun x39=>
   (if(!((x39.1==x35.1.1)&&((x39.2.1==x35.1.2.1)&&((x39.2.2.1==x35.1.2.2.1)&&((x39.2.2.2.1==x35.1.2.2.2.1)&&((x39.2.2.2.2.1==x35.1.2.2.2.2.1)&&((x39.2.2.2.2.2.1==x35.1.2.2.2.2.2.1)&&((x39.2.2.2.2.2.2.1==x35.1.2.2.2.2.2.2.1)&&(x39.2.2.2.2.2.2.2==x35.1.2.2.2.2.2.2.2)))))))))=true then some true else some (x30.2 !=x35.2)).bind fun x46=>
    if x46=true then some false else(some x).bind fun x48=>(BL x48).bind fun x49=>if(x49 !=0)=true then if(x25.1== [])=true then some (x25.2==x49)else some false else if(x25.2==0)=true then(some x).bind fun v=>(Iy v).bind fun v=>some (x25.1==v)else some false)=some true:=fun l hl hfin=>by
  rw[hl,bs,p1,bs,p2,bs,Sv,bs];dsimp only;rw[q,if_neg (by decide),bne_self_eq_false,bs,if_neg (by decide),bs,Zp x (by omega) ht,bs,bs];exact hfin
 by_cases h:AM x=0
 ·obtain⟨t,u,P,hd,hu,T⟩:=Z4 h hid hp;refine fin _ (UC P h) ?_;rw[h,if_neg (by decide)];dsimp only;rw[if_pos (by rfl),Zq h P hd hu,bs];simp
 ·refine fin _ (UD (by omega) ht h) ?_;have:(AM x !=0)=true:=by rw[bne_iff_ne];exact h
  rw[this,if_pos rfl];dsimp only;rw[if_pos (by rfl)];simp
end WB
