/-
  OWN TEXTS, MERGED (wip/merge.py): Pspl, Pwd, Psr, Psb, Psc, Psd. No condition of their own.
-/
import Derived.Test.YtcakkedgkahhfaaGreatDoorK8
import Derived.Test.YtcakkedgkahhfaaGreatDoorK7
import Derived.Lib.SlTrimSet
import Derived.Lib.Join
import Derived.Lib.Index
set_option linter.unusedVariables false
set_option linter.unusedSimpArgs false
open Go.IntKind (i64 u64 u8 u32)
namespace WB
open Go Go.RowKit
set_option linter.unusedSimpArgs false
set_option linter.unusedVariables false
def AY(c:UInt8):List UInt8→List UInt8→List (List UInt8)
 |cur,[]=> [cur]
 |cur,b::t=>if b=c then cur::AY c [] t else AY c (cur++ [b]) t
def IF(c:UInt8)(s:List UInt8):List (List UInt8):=AY c [] s
def BZ(c:UInt8):Nat→List UInt8→List UInt8→List (List UInt8)
 |_,cur,[]=> [cur]
 |0,cur,s=> [cur++s]
 |k+1,cur,b::t=>if b=c then cur::BZ c k [] t else BZ c (k+1) (cur++ [b]) t
theorem Oc(c:UInt8)(k:Nat)(cur:List UInt8)(b:UInt8)(t:List UInt8):BZ c (k+1) cur (b::t)=if b=c then cur::BZ c k [] t else BZ c (k+1) (cur++ [b]) t:=rfl
theorem Oe(c:UInt8)(cur:List UInt8)(b:UInt8)(t:List UInt8):AY c cur (b::t)=if b=c then cur::AY c [] t else AY c (cur++ [b]) t:=rfl
theorem IG(c:UInt8):∀(s cur:List UInt8) (k:Nat),s.count c≤k→BZ c k cur s=AY c cur s
 | [],cur,0,_=>rfl
 | [],cur,k+1,_=>rfl
 |b::t,cur,0,h=>by
  have hb:¬b=c:=by intro e;subst e;simp at h
  have ht:t.count c≤0:=by rw[List.count_cons]at h;omega
  have e:=IG c t (cur++ [b]) 0 ht;unfold AY;rw[if_neg hb,←e];show [cur++b::t]=_
  cases t with
  |nil=>rfl
  |cons d t=>show _= [cur++ [b]++d::t];simp
 |b::t,cur,k+1,h=>by
  unfold BZ AY;by_cases hb:b=c
  ·subst hb;rw[if_pos rfl,if_pos rfl,IG b t [] k (by simp at h;omega)]
  ·rw[if_neg hb,if_neg hb,IG c t (cur++ [b]) (k+1) (by rw[List.count_cons]at h;omega)]
theorem Od(c:UInt8):∀(s cur:List UInt8) (k:Nat),(∀b∈s,b≠c)→BZ c k cur s= [cur++s]
 | [],cur,0,_=>by unfold BZ;simp
 | [],cur,k+1,_=>by unfold BZ;simp
 |b::t,cur,0,h=>by unfold BZ;rfl
 |b::t,cur,k+1,h=>by
  unfold BZ;rw[if_neg (h b (by simp)),Od c t _ _ fun x hx=>h x (by simp[hx])];simp
theorem Oa(c:UInt8):∀(l t cur:List UInt8) (k:Nat),(∀b∈l,b≠c)→BZ c (k+1) cur (l++c::t)=(cur++l)::BZ c k [] t
 | [],t,cur,k,_=>by rw[List.nil_append,Oc,if_pos rfl];simp
 |b::l,t,cur,k,h=>by
  rw[List.cons_append,Oc,if_neg (h b (by simp)),Oa c l t _ _ fun x hx=>h x (by simp[hx])];simp
theorem KH(c:UInt8):∀(l t cur:List UInt8),(∀b∈l,b≠c)→AY c cur (l++c::t)=(cur++l)::AY c [] t
 | [],t,cur,_=>by rw[List.nil_append,Oe,if_pos rfl];simp
 |b::l,t,cur,h=>by
  rw[List.cons_append,Oe,if_neg (h b (by simp)),KH c l t _ fun x hx=>h x (by simp[hx])];simp
theorem OO(c:UInt8)(s:List UInt8):(∀x∈s,x≠c)∨∃l t,s=l++c::t∧∀x∈l,x≠c:=by
 induction s with
 |nil=>exact .inl (by simp)
 |cons b s ih=>
  by_cases hb:b=c
  ·exact .inr ⟨[],s,by rw[hb];rfl,by simp⟩
  ·rcases ih with h|⟨l,t,rfl,h⟩
   ·exact .inl (by intro x hx;rcases List.mem_cons.1 hx with rfl|hx;exact hb;exact h x hx)
   ·exact .inr ⟨b::l,t,rfl,by intro x hx;rcases List.mem_cons.1 hx with rfl|hx;exact hb;exact h x hx⟩
theorem Qw{l:List UInt8}{c:UInt8}(h:∀b∈l,b≠c):Lib.indexByte l c= -1:=by
 induction l with
 |nil=>rfl
 |cons b t ih=>
  have hb:(b==c)=false:=by simpa using h b (by simp)
  simp[Lib.indexByte,hb,ih fun x hx=>h x (by simp[hx])]
theorem Qv{l t:List UInt8}{c:UInt8}(h:∀b∈l,b≠c):Lib.indexByte (l++c::t) c=(l.length:Int):=by
 induction l with
 |nil=>simp[Lib.indexByte]
 |cons b u ih=>
  have hb:(b==c)=false:=by simpa using h b (by simp)
  have e:=ih fun x hx=>h x (by simp[hx]);simp only[List.cons_append,Lib.indexByte,hb,e];have:(((u.length:Int))== -1)=false:=by simp
  simp[this]
theorem KY(s:List UInt8)(c:UInt8):KJ (s,[c])=some (Lib.indexByte s c):=rfl
theorem Qu(c:UInt8):∀(k:Nat) (done:List (List UInt8)) (s:List UInt8),s.length≤1000000→done.length+k≤1000000→
  ∃(s':List UInt8) (i:Nat) (a:List (List UInt8)),iter FS (s,[c],0,((done.length+k:Nat):Int),(done.length:Int),done++List.replicate (k+1) [],(),())=some (s',(i:Int),a,(),())∧i<a.length∧i≤1000000∧(a.set i s').take (i+1)=done++BZ c k [] s:=by
 intro k
 induction k with
 |zero=>
  intro done s hs hd;refine⟨s,done.length,done++List.replicate 1 [], ?_,by simp,by omega, ?_⟩
  ·rw[B7];unfold FS;dsimp only;rw[Ak (show ¬(done.length:Int)<((done.length+0:Nat):Int) by omega)];rfl
  ·have e:(done++List.replicate 1 []).set done.length s=done++ [s]:=by simp
   rw[e];have:BZ c 0 [] s= [s]:=by cases s<;>rfl
   rw[this,List.take_of_length_le (by simp)]
 |succ k ih=>
  intro done s hs hd;have hlt:decide ((done.length:Int)<((done.length+(k+1):Nat):Int))=true:=Al (by omega);rcases OO c s with h|⟨l,t,rfl,h⟩
  ·refine⟨s,done.length,done++List.replicate (k+1+1) [], ?_,by simp,by omega, ?_⟩
   ·rw[B7];unfold FS;dsimp only;rw[hlt,if_pos rfl,KY,Qw h,bs];rfl
   ·have e:(done++List.replicate (k+1+1) []).set done.length s=done++s::List.replicate (k+1) []:=by
     rw[List.replicate_succ];simp
    rw[e,Od c s [] (k+1) h];rw[show done++s::List.replicate (k+1) []=(done++ [s])++List.replicate (k+1) [] by simp];rw[List.take_append_of_le_length (by simp),List.take_of_length_le (by simp)];rfl
  ·have hl:l.length+t.length+1≤1000000:=by simp at hs;omega
   obtain⟨s',i,a,h1,h2,h3,h4⟩:=ih (done++ [l]) t (by omega) (by simp;omega);refine⟨s',i,a, ?_,h2,h3, ?_⟩
   ·rw[B7];unfold FS;dsimp only;rw[hlt,if_pos rfl,KY,Qv h,bs];have c1:decide ((l.length:Int)<0)=false:=Ak (by omega);rw[c1];simp only[Ag,if_false];have w1:i64.wrap ((l.length:Int)+0)=(l.length:Int):=by rw[E8 (by omega) (by omega)];omega
    have l1:B4 (l++c::t) 0 (l.length:Int)=some l:=by
     have:=HR (xs:=l++c::t) (i:=0) (j:=l.length) (by omega) (by simp);simpa using this
    have w2:i64.wrap ((l.length:Int)+(([c]:List UInt8).length:Int))=((l.length+1:Nat):Int):=by
     rw[E8 (by omega) (by simp only[List.length_cons,List.length_nil];omega)];simp
    have l2:B4 (l++c::t) ((l.length+1:Nat):Int) (((l++c::t):List UInt8).length:Int)=some t:=by
     have:=HR (xs:=l++c::t) (i:=l.length+1) (j:=(l++c::t).length) (by simp) (by omega);rw[this,List.take_length];simp
    have w3:i64.wrap ((done.length:Int)+1)=(((done++ [l]).length:Nat):Int):=by rw[E8 (by omega) (by omega)];simp
    have hin:0≤(done.length:Int)∧(done.length:Int)<((done++List.replicate (k+1+1) []:List (List UInt8)).length:Int):=by simp;omega
    have hget:(done++List.replicate (k+1+1) [])[(done.length:Int).toNat]? =some ([]:List UInt8):=by
     rw[Int.toNat_natCast,List.replicate_succ];simp
    have hset:(done++List.replicate (k+1+1) []).set (done.length:Int).toNat l=(done++ [l])++List.replicate (k+1) []:=by
     rw[Int.toNat_natCast,List.replicate_succ];simp
    rw[w1,l1,bs,if_pos hin,bs,hget,hset,ms,bs,w2,l2,bs,w3];have e1:((done++ [l]).length+k:Nat)=done.length+(k+1):=by simp;omega
    rw[e1]at h1;exact h1
   ·rw[h4,Oa c l t [] k h];simp
theorem Qn{c:UInt8}{s:List UInt8}{k:Nat}(hs:s.length≤1000000)(hk:k≤1000000){n:Int}(hn:n=((k+1:Nat):Int)):
  ((if 0≤n∧n≤n∧n*(16:Int)≤140737488355328∧n≤4611686018427387904 then some (List.replicate n.toNat ([]:List UInt8))else none).bind fun l31=>
    Option.bind ((iter FS (s,[c],(0:Int),i64.wrap (n-(1:Int)),(0:Int),l31,(),())).bind fun o=>some (o.1,o.2.1,o.2.2.1,(),())) fun o=>
    Option.bind (if 0≤o.2.1∧o.2.1<(o.2.2.1.length:Int)then some o.2.1.toNat else none) fun x61=>
    Option.bind ((o.2.2.1[x61]?).map (fun el18=>o.2.2.1.set x61 o.1)) fun l31=>
    Option.bind (B4 l31 (0:Int) (i64.wrap (o.2.1+(1:Int)))) fun x65=>some x65)=some (BZ c k [] s):=by
 subst hn;obtain⟨s',i,a,h1,h2,h3,h4⟩:=Qu c k [] s hs (by simpa using hk);simp only[List.length_nil,Nat.zero_add,List.nil_append]at h1 h4;rw[if_pos (by omega),bs,Int.toNat_natCast];have w1:i64.wrap (((k+1:Nat):Int)-1)=(k:Int):=by rw[E8 (by omega) (by omega)];omega
 rw[w1];rw[show((0:Nat):Int)=0 from rfl]at h1;rw[h1,bs,bs];dsimp only;have hg:a[i]? =some (a[i]'h2):=Ai _;rw[if_pos (by omega),bs,Int.toNat_natCast,hg,ms,bs];have w2:i64.wrap ((i:Int)+1)=((i+1:Nat):Int):=by rw[E8 (by omega) (by omega)];omega
 have:=HR (xs:=a.set i s') (i:=0) (j:=i+1) (by omega) (by simp;omega);rw[w2];rw[show(0:Int)=((0:Nat):Int)from rfl,this,bs];simp only[List.drop_zero];rw[h4]
theorem DH{c:UInt8}{s:List UInt8}(hs:s.length≤900000):GS (s,[c])=some (IF c s):=by
 unfold GS KK;dsimp only;have c1:(([c]:List UInt8)== [])=false:=rfl;have c2:((-1:Int)==0)=false:=rfl;have c3:decide ((-1:Int)<0)=true:=rfl;have hcnt:GR (s,[c])=some (s.count c:Int):=rfl;have hle:s.count c≤s.length:=List.count_le_length;have w1:i64.wrap ((s.count c:Int)+1)=((s.count c+1:Nat):Int):=by rw[E8 (by omega) (by omega)];omega
 have w2:i64.wrap ((s.length:Int)+1)=((s.length+1:Nat):Int):=by rw[E8 (by omega) (by omega)];omega
 simp only[c1,c2,c3,Ag,if_false,if_true,hcnt,bs,w1,w2];have hm:min (((s.count c+1:Nat)):Int) ((s.length+1:Nat):Int)=((s.count c+1:Nat):Int):=by omega
 rw[hm,Qn (k:=s.count c) (by omega) (by omega) rfl,bs,IG c s [] _ (Nat.le_refl _)];rfl
set_option maxRecDepth 100000
theorem BB{S T:Type}{b:S→Option (S⊕T)}{s:S}{t:T}(n:Nat)(h:C4 b n s=some t):iter b s=some t:=F3.2 ⟨n,h⟩
theorem Ar{α β:Type}{x:Option α}{a:α}{f:α→Option β}{r:Option β}(h:x=some a)(h2:f a=r):x.bind f=r:=by rw[h];exact h2
def Cp:List UInt8:= [116,114,105,97,108]
def Ca:List UInt8:= [97,117,100,105,116]
def Fm:List UInt8:= [99,97,108,101,110,100,97,114,32,109,111,110,116,104,108,121,32,49,57,55,48,45,48,49,45,48,49,32,48]
theorem QB:I6 (0,8,[])=some (Cp++ [10],0):=by
 unfold I6;dsimp only;refine Ar (a:=some 8) rfl ?_;refine Ar (a:=some _) rfl ?_;refine Ar (a:=some 13) rfl ?_;refine Ar (a:=some false) rfl ?_;refine Ar (a:=false) rfl ?_;rw[if_neg (by decide)];refine Ar rfl ?_;refine Ar (a:=(Cp,[])) rfl ?_;refine Ar (a:=0) ?_ rfl;unfold DC;dsimp only;rw[if_neg (by decide)];rw[BB (t:=_) 2 rfl];rfl
theorem to0:EJ 0=some (1970,1,1):=by
 unfold EJ;dsimp only;refine Ar rfl ?_;rw[if_neg (by decide)];refine Ar rfl ?_;refine Ar (BB 10 rfl) ?_;dsimp only;refine Ar rfl ?_;exact Ar (BB 20 rfl) rfl
theorem P0:Ei (1970,4)=some [49,57,55,48]:=by
 unfold Ei;dsimp only;exact Ar (BB 10 rfl) rfl
theorem LX:Ei (1,2)=some [48,49]:=by
 unfold Ei;dsimp only;exact Ar (BB 10 rfl) rfl
theorem Ss:Hh 0=some [49,57,55,48,45,48,49,45,48,49]:=by
 unfold Hh;dsimp only;refine Ar rfl ?_;rw[if_neg (by decide)];refine Ar to0 ?_;refine Ar P0 ?_;refine Ar rfl ?_;refine Ar LX ?_;refine Ar rfl ?_;refine Ar rfl ?_;refine Ar LX ?_;rfl
theorem Ij:D4 [48,49]=some (1,true):=by
 unfold D4;refine Ar rfl ?_;dsimp only;exact Ar (BB 10 rfl) rfl
theorem QR:D4 [49,57,55,48]=some (1970,true):=by
 unfold D4;refine Ar rfl ?_;dsimp only;exact Ar (BB 10 rfl) rfl
theorem QS:D4 [50,48,50,54]=some (2026,true):=by
 unfold D4;refine Ar rfl ?_;dsimp only;exact Ar (BB 10 rfl) rfl
theorem of0:Fp (1970,1,1)=some (0,0):=by
 unfold Fp;dsimp only;refine Ar rfl ?_;refine Ar rfl ?_;refine Ar rfl ?_;refine Ar rfl ?_;refine Ar rfl ?_;refine Ar rfl ?_;rw[if_neg (by decide)];refine Ar rfl ?_;refine Ar (BB 20 rfl) ?_;exact Ar to0 rfl
theorem Rf:Fq [49,57,55,48,45,48,49,45,48,49]=some (0,0):=by
 unfold Fq;dsimp only;refine Ar rfl ?_;refine Ar rfl ?_;refine Ar rfl ?_;refine Ar rfl ?_;refine Ar rfl ?_;refine Ar rfl ?_;rw[if_neg (by decide)];refine Ar rfl ?_;refine Ar QR ?_;refine Ar rfl ?_;refine Ar Ij ?_;refine Ar rfl ?_;refine Ar Ij ?_;refine Ar rfl ?_;refine Ar rfl ?_;refine Ar rfl ?_;refine Ar rfl ?_;rw[if_neg (by decide)];exact Ar of0 rfl
theorem Su:EJ 20454=some (2026,1,1):=by
 unfold EJ;dsimp only;refine Ar rfl ?_;rw[if_neg (by decide)];refine Ar rfl ?_;refine Ar (BB 10 rfl) ?_;dsimp only;refine Ar rfl ?_;exact Ar (BB 20 rfl) rfl
theorem QX:Fp (2026,1,1)=some (20454,0):=by
 unfold Fp;dsimp only;refine Ar rfl ?_;refine Ar rfl ?_;refine Ar rfl ?_;refine Ar rfl ?_;refine Ar rfl ?_;refine Ar rfl ?_;rw[if_neg (by decide)];refine Ar rfl ?_;refine Ar (BB 20 rfl) ?_;exact Ar Su rfl
theorem Rg:Fq [50,48,50,54,45,48,49,45,48,49]=some (20454,0):=by
 unfold Fq;dsimp only;refine Ar rfl ?_;refine Ar rfl ?_;refine Ar rfl ?_;refine Ar rfl ?_;refine Ar rfl ?_;refine Ar rfl ?_;rw[if_neg (by decide)];refine Ar rfl ?_;refine Ar QS ?_;refine Ar rfl ?_;refine Ar Ij ?_;refine Ar rfl ?_;refine Ar Ij ?_;refine Ar rfl ?_;refine Ar rfl ?_;refine Ar rfl ?_;refine Ar rfl ?_;rw[if_neg (by decide)];exact Ar QX rfl
theorem QT:C6 [48]=some (0,0):=by
 unfold C6;dsimp only;simp only[gPi,gSS,gPb,gPm,gPs,gM,gM2,Cg,gOr,Ch,Cm,gAA,gAO,gOA,gOO,Cd,Cf,Ci,Ck,Ce,Cj,gId];rfl
theorem QW:C6 [53]=some (5,0):=by
 unfold C6;dsimp only;simp only[gPi,gSS,gPb,gPm,gPs,gM,gM2,Cg,gOr,Ch,Cm,gAA,gAO,gOA,gOO,Cd,Cf,Ci,Ck,Ce,Cj,gId];rfl
theorem QV:C6 [51]=some (3,0):=by
 unfold C6;dsimp only;simp only[gPi,gSS,gPb,gPm,gPs,gM,gM2,Cg,gOr,Ch,Cm,gAA,gAO,gOA,gOO,Cd,Cf,Ci,Ck,Ce,Cj,gId];rfl
theorem QU:C6 [50,48,50,54]=some (2026,0):=by
 unfold C6;dsimp only;simp only[gPi,gSS,gPb,gPm,gPs,gM,gM2,Cg,gOr,Ch,Cm,gAA,gAO,gOA,gOO,Cd,Cf,Ci,Ck,Ce,Cj,gId];rfl
theorem Mo:I9 ([109,111,110,116,104,108,121],[[109,111,110,116,104,108,121],[98,105,119,101,101,107,108,121],[102,111,117,114,119,101,101,107,108,121]])=some 0:=by
 unfold I9;dsimp only;exact Ar (BB 10 rfl) rfl
def Lz:List (List UInt8):= [[99,97,108,101,110,100,97,114],[109,111,110,116,104,108,121],[49,57,55,48,45,48,49,45,48,49],[48]]
def L0:List (List UInt8):= [[99,97,108,101,110,100,97,114],[109,111,110,116,104,108,121],[50,48,50,54,45,48,49,45,48,49],[53]]
theorem Ly:Fe Lz=some ((0,0,0),0):=by
 unfold Fe;dsimp only;refine Ar rfl ?_;refine Ar rfl ?_;refine Ar rfl ?_;refine Ar (a:=false) rfl ?_;rw[if_neg (by decide)];refine Ar rfl ?_;refine Ar rfl ?_;refine Ar Mo ?_;rw[if_neg (by decide)];refine Ar rfl ?_;refine Ar Rf ?_;rw[if_neg (by decide)];refine Ar rfl ?_;refine Ar QT ?_;rw[if_neg (by decide)];exact Ar rfl rfl
theorem OP:Fe L0=some ((0,20454,5),0):=by
 unfold Fe;dsimp only;refine Ar rfl ?_;refine Ar rfl ?_;refine Ar rfl ?_;refine Ar (a:=false) rfl ?_;rw[if_neg (by decide)];refine Ar rfl ?_;refine Ar rfl ?_;refine Ar Mo ?_;rw[if_neg (by decide)];refine Ar rfl ?_;refine Ar Rg ?_;rw[if_neg (by decide)];refine Ar rfl ?_;refine Ar QW ?_;rw[if_neg (by decide)];exact Ar rfl rfl
set_option maxRecDepth 100000
set_option linter.unusedSimpArgs false
def Bt(n:Nat):List UInt8:=(List.replicate n (Cp++ [10])).flatten
theorem Ox(n:Nat):Bt (n+1)=Bt n++(Cp++ [10]):=by
 unfold Bt;rw[List.replicate_succ'];simp
theorem GT(n:Nat):(Bt n).length=6*n:=by
 induction n with
 |zero=>rfl
 |succ n ih=>rw[Ox,List.length_append,ih];simp[Cp];omega
def BU:List UInt8:=Fm++ [10]
theorem Gs:BU.length=30:=rfl
abbrev Cmd:=Int×Int×List (List UInt8)
theorem Nu{n:Nat}(hn:n≤1001):∀(k i:Nat),i+k=n→iter I7 (BU++Bt i,List.replicate n ((0,8,[]):Cmd),(n:Int),(i:Int),())=some (Sum.inl (BU++Bt n,()))
 |0,i,h=>by
  have hi:i=n:=by omega
  subst hi;rw[B7];unfold I7;dsimp only;rw[show decide ((i:Int)<(i:Int))=false from Ak (by omega),if_neg (by decide)];rfl
 |k+1,i,h=>by
  rw[B7];unfold I7;dsimp only;rw[show decide ((i:Int)<(n:Int))=true from Al (by omega),if_pos rfl];have hx:(List.replicate n ((0,8,[]):Cmd))[i]? =some (0,8,[]):=by rw[List.getElem?_replicate,if_pos (by omega)]
  rw[Dq hx];simp only[ms,bs];rw[QB];simp only[bs];rw[if_neg (by decide)]
  have hl:(BU++Bt i).length+(Cp++ [10]).length≤4611686018427387904:=by
   rw[List.length_append,Gs,GT];simp[Cp];omega
  rw[if_pos hl,bs,bs,DF (by omega),List.append_assoc,←Ox];exact Nu hn k (i+1) (by omega)
theorem Q0:strconv_Itoa 0=some [48]:=by
 unfold strconv_Itoa;rw[if_pos (by decide),show(0:Int)=((0:Nat):Int)from rfl,Lib.itoa_nonneg];simp[Lib.decDigits]
theorem LC:It (0,0,0)=some 0:=rfl
theorem Rw{n:Nat}(hn:n≤1000):Fd ((0,0,0),List.replicate n ((0,8,[]):Cmd))=some (BU++Bt n,0):=by
 unfold Fd;dsimp only;rw[LC,bs,if_neg (by decide),List.length_replicate];rw[show decide ((n:Int)>1000)=false from Ak (by omega),if_neg (by decide)];refine Ar rfl ?_;refine Ar rfl ?_;refine Ar (a:= [99,97,108,101,110,100,97,114,32,109,111,110,116,104,108,121]) rfl ?_;refine Ar rfl ?_;refine Ar Ss ?_;refine Ar rfl ?_;refine Ar rfl ?_;refine Ar Q0 ?_;refine Ar rfl ?_;refine Ar (a:=BU) rfl ?_;have h:=Nu (n:=n) (by omega) n 0 (by omega);rw[show Bt 0= []from rfl,List.append_nil]at h;refine Ar h ?_;dsimp only;have hl:(BU++Bt n).length=30+6*n:=by rw[List.length_append,Gs,GT]
 rw[show decide (((BU++Bt n).length:Int)>65536)=false from Ak (by omega),if_neg (by decide)]
theorem Rv{l:List Cmd}(hl:l.length=1001):Fd ((0,0,0),l)=some ([],5):=by
 unfold Fd;dsimp only;rw[LC,bs,if_neg (by decide),hl];rfl
theorem Of:BQ Fm=some Lz:=by
 unfold BQ;dsimp only;rw[DH (by decide),bs];refine Ar (BB 10 rfl) ?_;dsimp only;simp only[gPi,gSS,gPb,gPm,gPs,gM,gM2,Cg,gOr,Ch,Cm,gAA,gAO,gOA,gOO,Cd,Cf,Ci,Ck,Ce,Cj,gId];rfl
theorem RQ:BQ Cp=some [Cp]:=by
 unfold BQ;dsimp only;rw[DH (by decide),bs];refine Ar (BB 10 rfl) ?_;dsimp only;simp only[gPi,gSS,gPb,gPm,gPs,gM,gM2,Cg,gOr,Ch,Cm,gAA,gAO,gOA,gOO,Cd,Cf,Ci,Ck,Ce,Cj,gId];rfl
theorem RK:BQ Ca=some [Ca]:=by
 unfold BQ;dsimp only;rw[DH (by decide),bs];refine Ar (BB 10 rfl) ?_;dsimp only;simp only[gPi,gSS,gPb,gPm,gPs,gM,gM2,Cg,gOr,Ch,Cm,gAA,gAO,gOA,gOO,Cd,Cf,Ci,Ck,Ce,Cj,gId];rfl
theorem RM:BQ []=some []:=by
 unfold BQ;dsimp only;rw[DH (by decide),bs];refine Ar (BB 10 rfl) ?_;dsimp only;simp only[gPi,gSS,gPb,gPm,gPs,gM,gM2,Cg,gOr,Ch,Cm,gAA,gAO,gOA,gOO,Cd,Cf,Ci,Ck,Ce,Cj,gId];rfl
theorem Mq(w:List UInt8):DC ((w,[]),[])=some 0:=by
 unfold DC;dsimp only;rw[if_neg (by decide)];rw[BB (t:=_) 2 rfl];rfl
noncomputable def CY:List (List UInt8×List UInt8):=(FN ()).getD []
theorem Qa:FN ()=some CY:=rfl
theorem H2:CY.length=13:=rfl
theorem LQ{i:Int}{w:List UInt8}{as:List (List UInt8)}{j:Nat}{f:List UInt8×List UInt8}{e:Int}(hf:CY[j]? =some f)(hw:f.1=w)(hm:∀k g,k<j→CY[k]? =some g→(g.1==w)=false)(he:DC (f,as)=some e)(ha:as.length≤1000000):
  ∀(d k:Nat),k+d=j→iter I8 (i,w::as,CY,13,(k:Int),0,0,(),(),(),())=some (Sum.inr ((i,(j:Int),as),e))
 |0,k,h=>by
  have hk:k=j:=by omega
  subst hk;have hlt:k<13:=by have:=(Ae.1 hf).1;rw[H2]at this;exact this
  rw[B7];unfold I8;dsimp only;rw[show decide ((k:Int)<(13:Int))=true from Al (by omega),if_pos rfl,Dq hf];simp only[ms,bs];rw[show lAt (w::as) (0:Int)=some w from Dq (i:=0) rfl];simp only[ms,bs];rw[show(f.1==w)=true from beq_iff_eq.2 hw,if_pos rfl]
  have hs:B4 (w::as) (1:Int) ((w::as).length:Int)=some as:=by
   rw[show(1:Int)=((1:Nat):Int)from rfl,HR (by simp) (Nat.le_refl _)];simp
  rw[hs,bs,bs,show((f.1,f.2):List UInt8×List UInt8)=f from rfl,he,bs];rfl
 |d+1,k,h=>by
  have hj:j<13:=by have:=(Ae.1 hf).1;rw[H2]at this;exact this
  have hk:k<CY.length:=by rw[H2];omega
  have hg:CY[k]? =some CY[k]:=Ai hk;rw[B7];unfold I8;dsimp only;rw[show decide ((k:Int)<(13:Int))=true from Al (by omega),if_pos rfl,Dq hg];simp only[ms,bs];rw[show lAt (w::as) (0:Int)=some w from Dq (i:=0) rfl];simp only[ms,bs];rw[hm k _ (by omega) hg,if_neg (by decide),DF (by omega),bs];exact LQ hf hw hm he ha d (k+1) (by omega)
theorem Jm{i:Int}{w:List UInt8}{as:List (List UInt8)}{j:Nat}{f:List UInt8×List UInt8}{e:Int}(hf:CY[j]? =some f)(hw:f.1=w)(hm:∀k g,k<j→CY[k]? =some g→(g.1==w)=false)(he:DC (f,as)=some e)(ha:as.length≤1000000):
  Ea (i,w::as)=some ((i,(j:Int),as),e):=by
 unfold Ea;dsimp only;rw[Qa,bs,H2];refine Ar (LQ hf hw hm he ha j 0 (by omega)) rfl
theorem JY(w:List UInt8)(j:Nat)(h:((CY.take j).all fun g=> !(g.1==w))=true):∀k g,k<j→CY[k]? =some g→(g.1==w)=false:=by
 intro k g hk hg;have:=List.all_eq_true.1 h g (List.mem_of_getElem? (i:=k) (by rw[List.getElem?_take,if_pos hk];exact hg));simpa using this
theorem Pp(i:Int):Ea (i,[Cp])=some ((i,8,[]),0):=
 Jm (j:=8) (f:=(Cp,[])) rfl rfl (JY _ _ rfl) (Mq _) (by decide)
theorem Pn(i:Int):Ea (i,[Ca])=some ((i,12,[]),0):=
 Jm (j:=12) (f:=(Ca,[])) rfl rfl (JY _ _ rfl) (Mq _) (by decide)
set_option maxRecDepth 100000
set_option linter.unusedSimpArgs false
abbrev Cal:=Int×Int×Int
def mkP(L:List (List UInt8))(b:Bool)(c:Cal)(out:List Cmd)(i:Nat):Bool×List (List UInt8)×Int×Int×Int×Int×Int×Int×Int×Int×Int×Int×Int×List Cmd×Unit×Unit×Unit×Unit×Unit×Unit×Unit×Unit:=
 (b,L,(L.length:Int),(i:Int),0,0,0,0,0,0,c.1,c.2.1,c.2.2,out,(),(),(),(),(),(),(),())
def FO:List (List UInt8)→Bool
 | []=>true
 |w::_=>w.head? ==some 35
theorem IB{ws:List (List UInt8)}(h:∀w∈ws,w≠ []):(if((ws.length:Int)==0)=true then some true else(lAt ws 0).bind fun v=>(sAt v 0).bind fun v=>some (v==35))=some (FO ws):=by
 cases ws with
 |nil=>rfl
 |cons w as=>
  have hn:=h w (by simp)
  cases w with
  |nil=>exact absurd rfl hn
  |cons ch t=>
   rw[if_neg (by simp;omega),show lAt ((ch::t)::as) 0=some (ch::t)from Dq (i:=0) rfl,bs,show sAt (ch::t) 0=some (ch.toNat:Int)from NN (i:=0) rfl,bs]
   congr 1
   unfold FO;rw[Bool.eq_iff_iff];simp only[beq_iff_eq,List.head?_cons,Ac];constructor
   ·intro e;exact UInt8.toNat_inj.1 (by rw[show(35:UInt8).toNat=35 from rfl];omega)
   ·intro e;subst e;rfl
section
variable {L:List (List UInt8)} {b:Bool} {c:Cal} {out:List Cmd} {i:Nat} {x:List UInt8} {ws:List (List UInt8)}
theorem RU(hx:L[i]? =some x)(hL:L.length≤1000000)(hs:BQ x=some ws)(hw:∀w∈ws,w≠ [])(hk:FO ws=true):
  BP (mkP L b c out i)=some (Sum.inl (mkP L b c out (i+1))):=by
 unfold BP mkP;dsimp only;have hlt:=(Ae.1 hx).1;rw[G5 hx,if_pos rfl,Dq hx];simp only[ms,bs];rw[hs];simp only[bs];simp only[gPi,gSS,gPb,gPm,gPs,gM,gM2,Cg,gOr,Ch,Cm,gAA,gAO,gOA,gOO,Cd,Cf,Ci,Ck,Ce,Cj,gId];simp only[H6,H7,H8,H9,HC,HD,HE,HF,gId,H5,gMb,gMm,gBm,gBb,bs,ms];rw[IB hw,bs,hk,if_pos rfl,bs];dsimp only;rw[DF (by omega)]
theorem Oj(hx:L[i]? =some x)(hL:L.length≤1000000)(hs:BQ x=some ws)(hw:∀w∈ws,w≠ [])(hk:FO ws=false)
  {y:Cmd} (hy:Ea (((i+1:Nat):Int),ws)=some (y,0)) (ho:out.length<1000):
  BP (mkP L true c out i)=some (Sum.inl (mkP L true c (out++ [y]) (i+1))):=by
 unfold BP mkP;dsimp only;have hlt:=(Ae.1 hx).1;rw[G5 hx,if_pos rfl,Dq hx];simp only[ms,bs];rw[hs];simp only[bs];simp only[gPi,gSS,gPb,gPm,gPs,gM,gM2,Cg,gOr,Ch,Cm,gAA,gAO,gOA,gOO,Cd,Cf,Ci,Ck,Ce,Cj,gId];simp only[H6,H7,H8,H9,HC,HD,HE,HF,gId,H5,gMb,gMm,gBm,gBb,bs,ms];rw[IB hw,bs,hk,if_neg (by decide),if_neg (by decide),DF (by omega),hy,bs];dsimp only;rw[if_pos (by rfl),show decide ((out.length:Int)≥1000)=false from Ak (by omega),bs,if_neg (by decide),bs];dsimp only;rw[if_neg (by decide),if_pos rfl,if_pos ⟨by simp;omega,by simp;omega⟩];simp only[bs];rw[DF (by omega)]
theorem RT(hx:L[i]? =some x)(hL:L.length≤1000000)(hs:BQ x=some ws)(hw:∀w∈ws,w≠ [])(hk:FO ws=false)
  {y:Cmd} (hy:Ea (((i+1:Nat):Int),ws)=some (y,0)) (ho:1000≤out.length):
  BP (mkP L true c out i)=some (Sum.inr (Sum.inr ((0,0,0),[],((i+1:Nat):Int),5))):=by
 unfold BP mkP;dsimp only;have hlt:=(Ae.1 hx).1;rw[G5 hx,if_pos rfl,Dq hx];simp only[ms,bs];rw[hs];simp only[bs];simp only[gPi,gSS,gPb,gPm,gPs,gM,gM2,Cg,gOr,Ch,Cm,gAA,gAO,gOA,gOO,Cd,Cf,Ci,Ck,Ce,Cj,gId];simp only[H6,H7,H8,H9,HC,HD,HE,HF,gId,H5,gMb,gMm,gBm,gBb,bs,ms];rw[IB hw,bs,hk,if_neg (by decide),if_neg (by decide),DF (by omega),hy,bs];dsimp only;rw[if_pos (by rfl),show decide ((out.length:Int)≥1000)=true from Al (by omega),bs,if_pos rfl,bs];dsimp only;rw[if_pos (by decide),bs];rw[DF (by omega)]
theorem KI(hx:L[i]? =some x)(hL:L.length≤1000000)(hs:BQ x=some ws)(hw:∀w∈ws,w≠ [])(hk:FO ws=false)
  {d:Cal} (hy:Fe ws=some (d,0)):
  BP (mkP L false c out i)=some (Sum.inl (mkP L true d out (i+1))):=by
 unfold BP mkP;dsimp only;have hlt:=(Ae.1 hx).1;rw[G5 hx,if_pos rfl,Dq hx];simp only[ms,bs];rw[hs];simp only[bs];simp only[gPi,gSS,gPb,gPm,gPs,gM,gM2,Cg,gOr,Ch,Cm,gAA,gAO,gOA,gOO,Cd,Cf,Ci,Ck,Ce,Cj,gId];simp only[H6,H7,H8,H9,HC,HD,HE,HF,gId,H5,gMb,gMm,gBm,gBb,bs,ms];rw[IB hw,bs,hk,if_neg (by decide),if_pos (by rfl),hy,bs,bs];dsimp only;rw[if_neg (by decide),if_neg (by decide)];simp only[bs];rw[DF (by omega)]
theorem Ok:BP (mkP L b c out L.length)=some (Sum.inr (Sum.inl (b,0,0,0,0,0,0,c.1,c.2.1,c.2.2,out,(),(),(),(),(),(),(),()))):=by
 unfold BP mkP;dsimp only;rw[MZ,if_neg (by decide)]
end
def Bv(n:Nat)(t:List (List UInt8)):List (List UInt8):=Fm::(List.replicate n Cp++t)
theorem Oh(t:List UInt8):∀n,AY 10 [] (Bt n++t)=List.replicate n Cp++AY 10 [] t
 |0=>rfl
 |n+1=>by
  have e:Bt (n+1)++t=Cp++10::(Bt n++t):=by
   unfold Bt;rw[List.replicate_succ];simp[Cp]
  rw[e,KH 10 _ _ _ (by decide),Oh t n,List.nil_append,List.replicate_succ];rfl
theorem Og(n:Nat)(t:List UInt8):IF 10 (BU++Bt n++t)=Bv n (AY 10 [] t):=by
 have e:BU++Bt n++t=Fm++10::(Bt n++t):=by simp[BU]
 unfold IF Bv;rw[e,KH 10 _ _ _ (by decide),Oh,List.nil_append]
def Dx:Nat→List Cmd
 |0=> []
 |n+1=>Dx n++ [(((n+2:Nat):Int),8,[])]
theorem Ip:∀n,(Dx n).length=n
 |0=>rfl
 |n+1=>by simp[Dx,Ip n]
theorem KM{n:Nat}{t:List (List UInt8)}(hn:n≤1000)(ht:t.length≤10){r}(hr:iter BP (mkP (Bv n t) true (0,0,0) (Dx n) (n+1))=some r):
  ∀(k i:Nat),i+k=n→iter BP (mkP (Bv n t) true (0,0,0) (Dx i) (i+1))=some r
 |0,i,h=>by
  have hi:i=n:=by omega
  subst hi;exact hr
 |k+1,i,h=>by
  have hx:(Bv n t)[i+1]? =some Cp:=by
   unfold Bv;rw[List.getElem?_cons_succ,List.getElem?_append_left (by simp;omega),List.getElem?_replicate,if_pos (by omega)]
  have hL:(Bv n t).length≤1000000:=by unfold Bv;simp;omega
  rw[B7,Oj hx hL RQ (by decide) (by decide) (Pp _) (by rw[Ip];omega),bs];exact KM hn ht hr k (i+1) (by omega)
theorem Rj{n:Nat}(hn:n≤1000):DB (BU++Bt n)=some ((0,0,0),Dx n,0,0):=by
 have hl:(BU++Bt n).length=30+6*n:=by rw[List.length_append,Gs,GT]
 have e:=Og n [];rw[List.append_nil]at e;unfold DB;dsimp only;rw[show decide (((BU++Bt n).length:Int)>65536)=false from Ak (by omega),if_neg (by decide),DH (by omega),e,bs];have hL:(Bv n (AY 10 [] [])).length≤1000000:=by unfold Bv;simp[AY];omega
 have hlen:(Bv n (AY 10 [] [])).length=n+2:=by unfold Bv;simp[AY]
 have h1:iter BP (mkP (Bv n (AY 10 [] [])) true (0,0,0) (Dx n) (n+1))=some (Sum.inl (true,0,0,0,0,0,0,0,0,0,Dx n,(),(),(),(),(),(),(),())):=by
  have hx:(Bv n (AY 10 [] []))[n+1]? =some []:=by
   unfold Bv;rw[List.getElem?_cons_succ,List.getElem?_append_right (by simp)];simp[AY]
  rw[B7,RU hx hL RM (by decide) rfl,bs];dsimp only;rw[B7];have:=Ok (L:=Bv n (AY 10 [] [])) (b:=true) (c:=(0,0,0)) (out:=Dx n);rw[hlen]at this;rw[this,bs]
 have h2:=KM (t:=AY 10 [] []) hn (by decide) h1 n 0 (by omega)
 have h3:iter BP (mkP (Bv n (AY 10 [] [])) false (0,0,0) [] 0)=some (Sum.inl (true,0,0,0,0,0,0,0,0,0,Dx n,(),(),(),(),(),(),(),())):=by
  rw[B7,KI (x:=Fm) rfl hL Of (by decide) (by decide) Ly,bs];exact h2
 refine Ar h3 ?_;rfl
theorem Ri:DB (BU++Bt 1000++Ca)=some ((0,0,0),[],1002,5):=by
 have hl:(BU++Bt 1000++Ca).length=6035:=by rw[List.length_append,List.length_append,Gs,GT];rfl
 have e:=Og 1000 Ca;unfold DB;dsimp only;rw[hl];rw[if_neg (by decide),DH (by omega),e,bs];have hL:(Bv 1000 (AY 10 [] Ca)).length≤1000000:=by unfold Bv;simp[AY,Ca]
 have h1:iter BP (mkP (Bv 1000 (AY 10 [] Ca)) true (0,0,0) (Dx 1000) (1000+1))=some (Sum.inr ((0,0,0),[],1002,5)):=by
  have hx:(Bv 1000 (AY 10 [] Ca))[1000+1]? =some Ca:=by
   unfold Bv;rw[List.getElem?_cons_succ,List.getElem?_append_right (by simp)];simp[AY,Ca]
  rw[B7,RT hx hL RK (by decide) (by decide) (Pn _) (by rw[Ip];omega),bs];rfl
 have h2:=KM (t:=AY 10 [] Ca) (by omega) (by decide) h1 1000 0 (by omega)
 have h3:iter BP (mkP (Bv 1000 (AY 10 [] Ca)) false (0,0,0) [] 0)=some (Sum.inr ((0,0,0),[],1002,5)):=by
  rw[B7,KI (x:=Fm) rfl hL Of (by decide) (by decide) Ly,bs];exact h2
 refine Ar h3 ?_;rfl
set_option maxRecDepth 100000
set_option linter.unusedSimpArgs false
def EH:List UInt8:= [99,97,108,101,110,100,97,114,32,109,111,110,116,104,108,121,32,50,48,50,54,45,48,49,45,48,49,32,53]
def Fc:List UInt8:= [114,117,110,32,50,48,50,54,32,51]
theorem RL:BQ EH=some L0:=by
 unfold BQ;dsimp only;rw[DH (by decide),bs];refine Ar (BB 10 rfl) ?_;dsimp only;simp only[gPi,gSS,gPb,gPm,gPs,gM,gM2,Cg,gOr,Ch,Cm,gAA,gAO,gOA,gOO,Cd,Cf,Ci,Ck,Ce,Cj,gId];rfl
theorem RN:BQ Fc=some [[114,117,110],[50,48,50,54],[51]]:=by
 unfold BQ;dsimp only;rw[DH (by decide),bs];refine Ar (BB 10 rfl) ?_;dsimp only;simp only[gPi,gSS,gPb,gPm,gPs,gM,gM2,Cg,gOr,Ch,Cm,gAA,gAO,gOA,gOO,Cd,Cf,Ci,Ck,Ce,Cj,gId];rfl
theorem Ls{w:List UInt8}{n:Int}(h:C6 w=some (n,0)):GI (110,w)=some 0:=by
 unfold GI;dsimp only;rw[if_pos (by decide),h,bs]
theorem Mr{L:List (List UInt8)}{i:Nat}{x nm fs:List UInt8}{f:UInt8}(hx:L[i]? =some x)(hf:fs[i]? =some f)(ha:GI ((f.toNat:Int),x)=some 0)(hL:L.length≤1000000):
  FM (L,(L.length:Int),(i:Int),nm,fs,(),(),())=some (Sum.inl (L,(L.length:Int),((i+1:Nat):Int),nm,fs,(),(),())):=by
 have hlt:=(Ae.1 hx).1;unfold FM;dsimp only;rw[G5 hx,if_pos rfl,Dq hx];simp only[ms,bs];rw[NN hf,bs,ha,bs,if_neg (by decide),DF (by omega)]
theorem PZ{L:List (List UInt8)}{nm fs:List UInt8}:FM (L,(L.length:Int),(L.length:Int),nm,fs,(),(),())=some (Sum.inr (Sum.inl ())):=by
 unfold FM;dsimp only;rw[MZ,if_neg (by decide)]
theorem OZ{nm w1 w2:List UInt8}{n1 n2:Int}(h1:C6 w1=some (n1,0))(h2:C6 w2=some (n2,0)):DC ((nm,[110,110]),[w1,w2])=some 0:=by
 unfold DC;dsimp only;rw[if_neg (by simp)]
 have step:iter FM ([w1,w2],(([w1,w2]:List (List UInt8)).length:Int),((0:Nat):Int),nm,[110,110],(),(),())=some (Sum.inl ()):=by
  rw[B7,Mr (f:=110) rfl rfl (Ls h1) (by simp),bs];dsimp only;rw[B7,Mr (f:=110) rfl rfl (Ls h2) (by simp),bs];dsimp only;rw[B7];have:=PZ (L:= [w1,w2]) (nm:=nm) (fs:= [110,110]);exact(congrArg (fun o=>Option.bind o _) this).trans rfl
 refine Ar step rfl
theorem Po(i:Int):Ea (i,[[114,117,110],[50,48,50,54],[51]])=some ((i,1,[[50,48,50,54],[51]]),0):=
 Jm (j:=1) (f:=([114,117,110],[110,110])) rfl rfl (JY _ _ rfl) (OZ QU QV) (by decide)
theorem Rh:DB (EH++10::Fc)=some ((0,20454,5),[(2,1,[[50,48,50,54],[51]])],0,0):=by
 have e:IF 10 (EH++10::Fc)= [EH,Fc]:=rfl;unfold DB;dsimp only;rw[if_neg (by decide),DH (by decide),e,bs]
 have h1:iter BP (mkP [EH,Fc] false (0,0,0) [] 0)=some (Sum.inl (true,0,0,0,0,0,0,0,20454,5,[(2,1,[[50,48,50,54],[51]])],(),(),(),(),(),(),(),())):=by
  rw[B7,KI (x:=EH) rfl (by decide) RL (by decide) (by decide) OP,bs];dsimp only;rw[B7,Oj (x:=Fc) rfl (by decide) RN (by decide) (by decide) (Po _) (by decide),bs];dsimp only;rw[B7];have:=Ok (L:= [EH,Fc]) (b:=true) (c:=(0,20454,5)) (out:= [(2,1,[[50,48,50,54],[51]])]);exact(congrArg (fun o=>Option.bind o _) this).trans rfl
 refine Ar h1 ?_;rfl
theorem OG:HU ()=some true:=by
 unfold HU;refine Ar Rh ?_;dsimp only;simp only[gPi,gSS,gPb,gPm,gPs,gM,gM2,Cg,gOr,Ch,Cm,gAA,gAO,gOA,gOO,Cd,Cf,Ci,Ck,Ce,Cj,gId];rfl
theorem Lw:∀(k i:Nat),i+k=1000→iter HT ((i:Int),0,0,0,List.replicate i ((0,8,[]):Cmd),(),(),(),())=some (0,0,0,List.replicate 1000 ((0,8,[]):Cmd),(),(),(),())
 |0,i,h=>by
  have hi:i=1000:=by omega
  subst hi;rw[B7];unfold HT;dsimp only;rw[if_neg (by decide),bs]
 |k+1,i,h=>by
  rw[B7];unfold HT;dsimp only;rw[show decide ((i:Int)<1000)=true from Al (by omega),if_pos rfl,List.length_replicate,if_pos ⟨by simp;omega,by simp;omega⟩,bs,bs,DF (by omega),←List.replicate_succ'];exact Lw k (i+1) (by omega)
theorem law_ScriptBounds:JE ()=some true:=by
 unfold JE;refine Ar (Lw 1000 0 (by omega)) ?_;dsimp only;rw[Rw (by omega),bs];dsimp only;rw[Rj (by omega),bs];have hl:(BU++Bt 1000).length+([97,117,100,105,116]:List UInt8).length≤4611686018427387904:=by rw[List.length_append,Gs,GT];decide
 rw[if_pos hl,bs,show([97,117,100,105,116]:List UInt8)=Ca from rfl,Ri,bs];rw[List.length_replicate,if_pos ⟨by simp,by simp⟩,bs,Rv (by rw[List.length_append,List.length_replicate];rfl),bs,OG,bs];dsimp only;simp only[gPi,gSS,gPb,gPm,gPs,gM,gM2,Cg,gOr,Ch,Cm,gAA,gAO,gOA,gOO,Cd,Cf,Ci,Ck,Ce,Cj,gId];simp only[if_true,bs,ms,Ip];rfl
end WB
