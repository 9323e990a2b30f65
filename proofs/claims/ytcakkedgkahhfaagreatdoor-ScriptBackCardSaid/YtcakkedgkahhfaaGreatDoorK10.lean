/-
  OWN TEXTS, MERGED (wip/merge.py): Psn, Pso. No condition of their own.
-/
import Derived.Test.YtcakkedgkahhfaaGreatDoorK9
set_option linter.unusedVariables false
set_option linter.unusedSimpArgs false
open Go.IntKind (i64 u64 u8 u32)
namespace WB
open Go Go.RowKit
set_option maxRecDepth 100000
set_option linter.unusedSimpArgs false
theorem Mw{l:List Cmd}(h:l.length≤100000):GE l=some l:=by
 unfold GE;dsimp only;have q:=Jw (b:=J3) (l:=l) (T:=List Cmd×Unit×Unit) (fun i a=>(l,(l.length:Int),(i:Int),a,(),())) (fun a x=>Sum.inl (a++ [x])) (fun a=>(a,(),())) (fun i a=>a.length≤i) (a:= []) (by simp) ?_ ?_ ?_
 ·rw[L1]at q;refine Ax q ?_;simp
 ·intro i x a hx ha;have hlt:=(Ae.1 hx).1;unfold J3;dsimp only;rw[Cu hx,if_pos rfl,Bn hx];simp only[ms,bs];rw[if_pos ⟨by simp;omega,by simp;omega⟩,bs,BN (by omega)];rfl
 ·intro i x a a' hx ha hst;cases hst;simp;omega
 ·intro a ha;unfold J3;dsimp only;rw[DF,if_neg (by decide)]
theorem VP{a:List (List UInt8)}(h:a.length≤1000000):J4 (a,a)=some true:=by
 have key:∀(d i:Nat),i+d=a.length→iter J5 (a,a,(a.length:Int),(i:Int),())=some (Sum.inl ()):=by
  intro d
  induction d with
  |zero=>
   intro i hi;have e:i=a.length:=by omega
   subst e;rw[AR];unfold J5;dsimp only;rw[DF,if_neg (by decide),bs]
  |succ d ih=>
   intro i hi;have hx:a[i]? =some (a[i]'(by omega)):=Ai _;rw[AR];unfold J5;dsimp only;rw[Cu hx,if_pos rfl,Bn hx];simp only[ms,bs];rw[if_neg (by simp),BN (by omega),bs];exact ih (i+1) (by omega)
 unfold J4;dsimp only;rw[if_neg (by simp)];refine Ax (key a.length 0 (by omega)) rfl
theorem MK{a b:List Cmd}(h:CQ a b)(hl:a.length≤100000)(hs:∀x∈a,x.2.2.length≤1000000):GF (a,b,false)=some true:=by
 have hlen:=It h
 have key:∀(d i:Nat),i+d=a.length→iter HV (b,false,a,(a.length:Int),(i:Int),())=some (Sum.inl ()):=by
  intro d
  induction d with
  |zero=>
   intro i hi;have e:i=a.length:=by omega
   subst e;rw[AR];unfold HV;dsimp only;rw[DF,if_neg (by decide),bs]
  |succ d ih=>
   intro i hi;have hx:a[i]? =some (a[i]'(by omega)):=Ai _;have hy:b[i]? =some (b[i]'(by omega)):=Ai _
   have he:(a[i]'(by omega)).2=(b[i]'(by omega)).2:=by
    have h1:=congrArg (fun q=>q[i]?) h;simp only[List.getElem?_map,hx,hy,Option.map_some,Ac]at h1;exact h1
   have hsx:=hs _ (List.getElem_mem (show i<a.length by omega))
   have st:HV (b,false,a,(a.length:Int),(i:Int),())=some (Sum.inl (b,false,a,(a.length:Int),((i+1:Nat):Int),())):=by
    unfold HV;dsimp only;rw[Cu hx,if_pos rfl,Bn hx,Bn hy];simp only[ms,bs];simp only[gPi,gSS,gPb,gPm,gPs,gM,gM2,AJ,gOr,AK,AP,gAA,gAO,gOA,gOO,AG,AI,AL,AO,AH,AM,gId];simp only[Bd,Be,Bf,Bg,Bh,Bi,Bj,Bk,gId,Bc,gMb,gMm,gBm,gBb,bs,ms];rw[Bn hy,he];rw[he]at hsx;simp only[ms,bs,bne_self_eq_false,Ag,if_false];rw[VP hsx];simp only[ms,bs,Bool.not_true,Ag,if_false];rw[BN (by omega)]
   rw[AR,st,bs];exact ih (i+1) (by omega)
 unfold GF;dsimp only;rw[if_neg (by rw[hlen];simp)];refine Ax (key a.length 0 (by omega)) rfl
theorem TX{x0 x7:List Cmd}{n8 n9:Int}{as:List (List UInt8)}(h:as.length≤6):∀(d i:Nat),i+d=as.length→
  (iter FS (x0,x7,n8,n9,as,(as.length:Int),(i:Int),())=some (Sum.inl (x0,x7,n8,n9,()))∧∀(k:Nat) w,i≤k→as[k]? =some w→w.length≤5000)∨iter FS (x0,x7,n8,n9,as,(as.length:Int),(i:Int),())=some (Sum.inr false):=by
 intro d
 induction d with
 |zero=>
  intro i hi;have e:i=as.length:=by omega
  subst e;left;refine⟨?_,fun k w hk hw=> ?_⟩
  ·rw[AR];unfold FS;dsimp only;rw[DF,if_neg (by decide),bs]
  ·have:=(Ae.1 hw).1;omega
 |succ d ih=>
  intro i hi;have hx:as[i]? =some (as[i]'(by omega)):=Ai _;generalize hw:as[i]'(by omega)=w at hx
  have st:FS (x0,x7,n8,n9,as,(as.length:Int),(i:Int),())=some (Sum.inr (Sum.inr false))∨(w.length≤5000∧FS (x0,x7,n8,n9,as,(as.length:Int),(i:Int),())=some (Sum.inl (x0,x7,n8,n9,as,(as.length:Int),((i+1:Nat):Int),()))):=by
   unfold FS;dsimp only;rw[Cu hx,if_pos rfl,Bn hx];simp only[ms,bs];simp only[gPi,gSS,gPb,gPm,gPs,gM,gM2,AJ,gOr,AK,AP,gAA,gAO,gOA,gOO,AG,AI,AL,AO,AH,AM,gId];simp only[Bd,Be,Bf,Bg,Bh,Bi,Bj,Bk,gId,Bc,gMb,gMm,gBm,gBb,bs,ms];by_cases h1:(w.length:Int)>5000
   ·left;rw[if_pos (Al h1),bs,if_pos rfl]
   ·rw[if_neg (by simpa using h1)];by_cases h2:(x0.length:Int)>40
    ·rw[if_pos (Al h2),bs];by_cases h3:(w.length:Int)>60
     ·left;rw[if_pos (Al h3)]
     ·right;rw[if_neg (by simpa using h3),BN (by omega)];exact⟨by omega,rfl⟩
    ·rw[if_neg (by simpa using h2),bs,if_neg (by decide),BN (by omega)];right;exact⟨by omega,rfl⟩
  rcases st with st|⟨hl,st⟩
  ·right;rw[AR,st,bs]
  ·rcases ih (i+1) (by omega)with⟨q1,q2⟩|q
   ·left;refine⟨by rw[AR,st,bs];exact q1,fun k v hk hv=> ?_⟩;by_cases hki:k=i
    ·subst hki;rw[hx]at hv;cases hv;exact hl
    ·exact q2 k v (by omega) hv
   ·right;rw[AR,st,bs];exact q
theorem TW{l:List Cmd}(hl:l.length≤9223372036854775807):∃v,J2 l=some v∧(v=true→l.length≤1001∧∀x∈l,B4 x.2.2):=by
 have key:∀(d i:Nat),i+d=l.length→(iter FT (l,l,(l.length:Int),(i:Int),())=some (Sum.inl (l,()))∧∀(k:Nat) (x:Cmd),i≤k→l[k]? =some x→B4 x.2.2)∨iter FT (l,l,(l.length:Int),(i:Int),())=some (Sum.inr false):=by
  intro d
  induction d with
  |zero=>
   intro i hi;have e:i=l.length:=by omega
   subst e;left;refine⟨?_,fun k w hk hw=> ?_⟩
   ·rw[AR];unfold FT;dsimp only;rw[DF,if_neg (by decide),bs]
   ·have:=(Ae.1 hw).1;omega
  |succ d ih=>
   intro i hi;have hx:l[i]? =some (l[i]'(by omega)):=Ai _;generalize hw:l[i]'(by omega)=x at hx
   have st:FT (l,l,(l.length:Int),(i:Int),())=some (Sum.inr (Sum.inr false))∨(B4 x.2.2∧FT (l,l,(l.length:Int),(i:Int),())=some (Sum.inl (l,l,(l.length:Int),((i+1:Nat):Int),()))):=by
    unfold FT;dsimp only;rw[Cu hx,if_pos rfl,Bn hx];simp only[ms,bs];by_cases h1:(x.2.2.length:Int)>6
    ·left;rw[if_pos (Al h1)]
    ·rw[if_neg (by simpa using h1)];rcases TX (x0:=l) (x7:=l) (n8:=(l.length:Int)) (n9:=(i:Int)) (as:=x.2.2) (by omega) x.2.2.length 0 (by omega)with⟨q1,q2⟩|q
     ·right;rw[show(((0:Nat)):Int)=0 from rfl]at q1;rw[q1,bs];dsimp only;rw[BN (by omega)];refine⟨⟨by omega,fun w hw=> ?_⟩,rfl⟩;obtain⟨k,hk⟩:=List.getElem?_of_mem hw;have:=q2 k w (by omega) hk;omega
     ·left;rw[show(((0:Nat)):Int)=0 from rfl]at q;rw[q,bs]
   rcases st with st|⟨hs,st⟩
   ·right;rw[AR,st,bs]
   ·rcases ih (i+1) (by omega)with⟨q1,q2⟩|q
    ·left;refine⟨by rw[AR,st,bs];exact q1,fun k v hk hv=> ?_⟩;by_cases hki:k=i
     ·subst hki;rw[hx]at hv;cases hv;exact hs
     ·exact q2 k v (by omega) hv
    ·right;rw[AR,st,bs];exact q
 unfold J2;dsimp only;rcases key l.length 0 (by omega)with⟨q1,q2⟩|q
 ·rw[show(((0:Nat)):Int)=0 from rfl]at q1;rw[q1,bs];dsimp only;refine⟨_,rfl,fun h=>⟨?_,fun x hx=> ?_⟩⟩
  ·have:=of_decide_eq_true h;omega
  ·obtain⟨k,hk⟩:=List.getElem?_of_mem hx;exact q2 k x (by omega) hk
 ·rw[show(((0:Nat)):Int)=0 from rfl]at q;rw[q,bs];exact⟨false,rfl,by intro e;cases e⟩
set_option maxRecDepth 100000
set_option linter.unusedSimpArgs false
theorem Qv{a b:List Cmd}(h:CQ a b){P:Int×List (List UInt8)→Prop}(hb:∀x∈b,P x.2):∀x∈a,P x.2:=by
 intro x hx;have h1:x.2∈a.map (·.2):=List.mem_map.2 ⟨x,hx,rfl⟩;unfold CQ at h;rw[h]at h1;obtain⟨y,hy,he⟩:=List.mem_map.1 h1;rw[←he];exact hb y hy
theorem Kb:∀(L:List (List (List UInt8))) (i:Nat) (b:Bool) (c:Cal) (out:List Cmd),0≤(pgo i b c out L).2.2.1∧(pgo i b c out L).2.2.1≤(i+L.length:Nat)
 | [],i,b,c,out=>by
  unfold pgo;cases b
  ·rw[if_neg (by decide)];simp only;omega
  ·rw[if_pos rfl];simp only;omega
 |ws::L,i,b,c,out=>by
  rw[ED,List.length_cons];by_cases hk:Cd ws=true
  ·rw[if_pos hk];have:=Kb L (i+1) b c out;omega
  ·rw[if_neg hk]
   cases b with
   |true=>
    rw[if_pos rfl];split
    ·have:=Kb L (i+1) true c (out++ [(AV ((i+1:Nat):Int) ws).1]);omega
    ·simp only;omega
   |false=>
    rw[if_neg (by decide)];split
    ·have:=Kb L (i+1) true (BT ws).1 out;omega
    ·simp only;omega
theorem law_ScriptBack{c:Cal}{l:List Cmd}{s:List UInt8}(hl:l.length≤9223372036854775807):LU (c,l,s)=some true:=by
 unfold LU;dsimp only;rw[Ry,bs,if_neg (by decide)];obtain⟨v,g1,g2⟩:=TW hl;rw[g1,bs]
 cases v with
 |false=>
  rfl
 |true=>
  obtain⟨g3,g4⟩:=g2 rfl;simp only[gPi,gSS,gPb,gPm,gPs,gM,gM2,AJ,gOr,AK,AP,gAA,gAO,gOA,gOO,AG,AI,AL,AO,AH,AM,gId];simp only[Bd,Be,Bf,Bg,Bh,Bi,Bj,Bk,gId,Bc,gMb,gMm,gBm,gBb,bs,ms];rw[if_neg (by decide),bs];by_cases hs:(s.length:Int)>4000
  ·rw[if_pos (Al hs)]
  ·rw[if_neg (by simpa using hs),show((c.1,c.2.1,c.2.2):Cal)=c from rfl,PO g4,bs];refine Ax (a:=Sum.inl (s,())) ?_ ?_
   ·by_cases he:(EE c l).2=0
    ·obtain⟨h1,k,h2,h3⟩:=UM g4 he;have hkl:=It h3;have hka:=Qv h3 (P:=fun q=>q.2.length≤1000000) fun x hx=>(g4 x hx).1;rw[if_pos (beq_iff_eq.2 he),JU h1,bs,h2];simp only[bne_self_eq_false,Ag,if_false,beq_self_eq_true,Bool.and_self,Bool.not_true,bs];rw[Mw (by omega),bs,MK h3 (by omega) hka,bs];rfl
    ·rw[if_neg (by simpa using he)]
   ·dsimp only;have hs':s.length≤4000:=by omega
    obtain⟨t,r1,r2,r3⟩:=U6 (s:=s) (by omega);obtain⟨p1,p2⟩:=U9 (s:=s) (by omega)
    have hline:0≤(A9 s).2.2.1∧(A9 s).2.2.1≤10000:=by
     have h:=Kb ((A7 10 s).map A8) 0 false (0,0,0) [];rw[show pgo 0 false (0,0,0) [] ((A7 10 s).map A8)=A9 s from rfl,List.length_map]at h
     have h5:(A7 10 s).length≤4001:=by
      unfold A7;rw[Hd];have:=List.count_le_length (a:=(10:UInt8)) (l:=s);omega
     omega
    have hshort:(A9 s).2.1.length≤1000∧∀x∈(A9 s).2.1,B4 x.2.2:=by
     by_cases he:(A9 s).2.2.2=0
     ·obtain⟨_,q2,_,q4,_⟩:=p2 he;exact⟨q4,q2⟩
     ·rw[(p1 he).2];exact⟨by simp,fun x hx=>by cases hx⟩
    rw[JU (by omega),bs,show([32,32,10,32,10,32,32]:List UInt8)=Ca from rfl,r1,bs];have e:([35,32,120,10]:List UInt8)++t=Fk++10::t:=rfl
    have hl2:([35,32,120,10]:List UInt8).length+t.length≤65536:=by
     have:=congrArg List.length e;rw[List.length_append]at this;omega
    rw[if_pos (by omega),e,JU r2,bs];obtain⟨u1,u2,u3,u4⟩:=r3;have hlen:=It u2;rw[u1,u4,u3];have w2:i64.wrap (2*(A9 s).2.2.1)=2*(A9 s).2.2.1:=AD (by omega) (by omega);simp only[bne_self_eq_false,Ag,if_false,beq_self_eq_true,Bool.and_self,Bool.not_true,bs];rw[Mw (by omega),bs,MK u2 (by omega) fun x hx=>(hshort.2 x hx).1,bs,w2];simp only[bne_self_eq_false,Bool.not_true,bs,Ag,if_false,ite_self]
    have hz:(if((A9 s).2.2.1==0)=true then some (2*(A9 s).2.2.1 !=0)else some false)=some false:=by
     by_cases h0:(A9 s).2.2.1=0
     ·rw[h0];rfl
     ·rw[if_neg (by simpa using h0)]
    rw[hz,bs];simp only[Ag,if_false];by_cases he:(A9 s).2.2.2=0
    ·obtain⟨q1,q2,q3,q4,k,q5,q6⟩:=p2 he;have hkl:=It q6;have hka:=Qv q6 (P:=fun q=>q.2.length≤1000000) fun x hx=>(q2 x hx).1;rw[he,show((0:Int) !=0)=false from rfl,if_neg (by decide),show(((A9 s).1.1,(A9 s).1.2.1,(A9 s).1.2.2):Cal)=(A9 s).1 from rfl,PO q2,bs,q1];simp only;rw[JU q3,bs,q5];simp only[beq_self_eq_true,if_true,bs,Bool.and_self];rw[Mw (by omega),bs,MK q6 (by omega) hka]
    ·obtain⟨q1,q2⟩:=p1 he;rw[if_pos (bne_iff_ne.2 he),q1,q2];rfl
end WB
