/-
  OWN TEXTS, MERGED (wip/merge.py): Pspl, Pwd, Pct, Pcv, Pcw, Psr, Psb, Psc, Psd, Pse, Psf, Psg, Psh, Psi, Psj, Psk, Psl, Psm. No condition of their own.
-/
import Derived.Test.YtcakkedgkahhfaaGreatDoorK8
import Derived.Test.YtcakkedgkahhfaaGreatDoorK7
import Derived.Lib.SlTrimSet
import Derived.Lib.Join
import Derived.Lib.Index
import Derived.Lib.IndexBytes
import Derived.Lib.SplitLaws
import Derived.Lib.Replace
set_option linter.unusedVariables false
set_option linter.unusedSimpArgs false
open Go.IntKind (i64 u64 u8 u32)
namespace WB
open Go Go.RowKit
set_option linter.unusedSimpArgs false
set_option linter.unusedVariables false
def By(c:UInt8):List UInt8→List UInt8→List (List UInt8)
 |cur,[]=> [cur]
 |cur,b::t=>if b=c then cur::By c [] t else By c (cur++ [b]) t
def A7(c:UInt8)(s:List UInt8):List (List UInt8):=By c [] s
def C8(c:UInt8):Nat→List UInt8→List UInt8→List (List UInt8)
 |_,cur,[]=> [cur]
 |0,cur,s=> [cur++s]
 |k+1,cur,b::t=>if b=c then cur::C8 c k [] t else C8 c (k+1) (cur++ [b]) t
theorem Q9(c:UInt8)(k:Nat)(cur:List UInt8)(b:UInt8)(t:List UInt8):C8 c (k+1) cur (b::t)=if b=c then cur::C8 c k [] t else C8 c (k+1) (cur++ [b]) t:=rfl
theorem I4(c:UInt8)(cur:List UInt8)(b:UInt8)(t:List UInt8):By c cur (b::t)=if b=c then cur::By c [] t else By c (cur++ [b]) t:=rfl
theorem Kr(c:UInt8):∀(s cur:List UInt8) (k:Nat),s.count c≤k→C8 c k cur s=By c cur s
 | [],cur,0,_=>rfl
 | [],cur,k+1,_=>rfl
 |b::t,cur,0,h=>by
  have hb:¬b=c:=by intro e;subst e;simp at h
  have ht:t.count c≤0:=by rw[List.count_cons]at h;omega
  have e:=Kr c t (cur++ [b]) 0 ht;unfold By;rw[if_neg hb,←e];show [cur++b::t]=_
  cases t with
  |nil=>rfl
  |cons d t=>show _= [cur++ [b]++d::t];simp
 |b::t,cur,k+1,h=>by
  unfold C8 By;by_cases hb:b=c
  ·subst hb;rw[if_pos rfl,if_pos rfl,Kr b t [] k (by simp at h;omega)]
  ·rw[if_neg hb,if_neg hb,Kr c t (cur++ [b]) (k+1) (by rw[List.count_cons]at h;omega)]
theorem QA(c:UInt8):∀(s cur:List UInt8) (k:Nat),(∀b∈s,b≠c)→C8 c k cur s= [cur++s]
 | [],cur,0,_=>by unfold C8;simp
 | [],cur,k+1,_=>by unfold C8;simp
 |b::t,cur,0,h=>by unfold C8;rfl
 |b::t,cur,k+1,h=>by
  unfold C8;rw[if_neg (h b (by simp)),QA c t _ _ fun x hx=>h x (by simp[hx])];simp
theorem Q8(c:UInt8):∀(l t cur:List UInt8) (k:Nat),(∀b∈l,b≠c)→C8 c (k+1) cur (l++c::t)=(cur++l)::C8 c k [] t
 | [],t,cur,k,_=>by rw[List.nil_append,Q9,if_pos rfl];simp
 |b::l,t,cur,k,h=>by
  rw[List.cons_append,Q9,if_neg (h b (by simp)),Q8 c l t _ _ fun x hx=>h x (by simp[hx])];simp
theorem I5(c:UInt8):∀(s cur:List UInt8),(∀b∈s,b≠c)→By c cur s= [cur++s]
 | [],cur,_=>by unfold By;simp
 |b::t,cur,h=>by
  unfold By;rw[if_neg (h b (by simp)),I5 c t _ fun x hx=>h x (by simp[hx])];simp
theorem F1(c:UInt8):∀(l t cur:List UInt8),(∀b∈l,b≠c)→By c cur (l++c::t)=(cur++l)::By c [] t
 | [],t,cur,_=>by rw[List.nil_append,I4,if_pos rfl];simp
 |b::l,t,cur,h=>by
  rw[List.cons_append,I4,if_neg (h b (by simp)),F1 c l t _ fun x hx=>h x (by simp[hx])];simp
theorem Ht(c:UInt8)(s:List UInt8):(∀x∈s,x≠c)∨∃l t,s=l++c::t∧∀x∈l,x≠c:=by
 induction s with
 |nil=>exact .inl (by simp)
 |cons b s ih=>
  by_cases hb:b=c
  ·exact .inr ⟨[],s,by rw[hb];rfl,by simp⟩
  ·rcases ih with h|⟨l,t,rfl,h⟩
   ·exact .inl (by intro x hx;rcases List.mem_cons.1 hx with rfl|hx;exact hb;exact h x hx)
   ·exact .inr ⟨b::l,t,rfl,by intro x hx;rcases List.mem_cons.1 hx with rfl|hx;exact hb;exact h x hx⟩
theorem Ks(c:UInt8):∀(s cur:List UInt8),By c cur s≠ []
 | [],cur=>by unfold By;simp
 |b::t,cur=>by unfold By;split;simp;exact Ks c t _
theorem Hd(c:UInt8):∀(s cur:List UInt8),(By c cur s).length=s.count c+1
 | [],cur=>rfl
 |b::t,cur=>by
  unfold By;rw[List.count_cons];by_cases hb:b=c
  ·subst hb;rw[if_pos rfl,List.length_cons,Hd b t []];simp
  ·rw[if_neg hb,Hd c t _];simp[hb]
theorem He(c:UInt8):∀(s cur:List UInt8),(∀x∈cur,x≠c)→∀w∈By c cur s,(∀x∈w,x≠c)∧w.length≤cur.length+s.length∧(∀x∈w,x∈cur∨x∈s)
 | [],cur,h,w,hw=>by unfold By at hw;simp at hw;subst hw;exact⟨h,by simp,fun x hx=>.inl hx⟩
 |b::t,cur,h,w,hw=>by
  unfold By at hw;split at hw
  ·rcases List.mem_cons.1 hw with rfl|hw
   ·exact⟨h,by simp,fun x hx=>.inl hx⟩
   ·obtain⟨h1,h2,h3⟩:=He c t [] (by simp) w hw;exact⟨h1,by simp at h2⊢;omega,fun x hx=>by rcases h3 x hx with h4|h4;cases h4;exact .inr (by simp[h4])⟩
  ·rename_i hb;obtain⟨h1,h2,h3⟩:=He c t (cur++ [b]) (by intro x hx;rcases List.mem_append.1 hx with hx|hx;exact h x hx;simp at hx;subst hx;exact hb) w hw
   exact⟨h1,by simp at h2⊢;omega,fun x hx=>by
    rcases h3 x hx with h4|h4
    ·rcases List.mem_append.1 h4 with h4|h4
     ·exact .inl h4
     ·simp at h4;exact .inr (by simp[h4])
    ·exact .inr (by simp[h4])⟩
theorem OI{l:List UInt8}{c:UInt8}(h:∀b∈l,b≠c):Lib.indexByte l c= -1:=by
 induction l with
 |nil=>rfl
 |cons b t ih=>
  have hb:(b==c)=false:=by simpa using h b (by simp)
  simp[Lib.indexByte,hb,ih fun x hx=>h x (by simp[hx])]
theorem OH{l t:List UInt8}{c:UInt8}(h:∀b∈l,b≠c):Lib.indexByte (l++c::t) c=(l.length:Int):=by
 induction l with
 |nil=>simp[Lib.indexByte]
 |cons b u ih=>
  have hb:(b==c)=false:=by simpa using h b (by simp)
  have e:=ih fun x hx=>h x (by simp[hx]);simp only[List.cons_append,Lib.indexByte,hb,e];have:(((u.length:Int))== -1)=false:=by simp
  simp[this]
theorem Nq(s:List UInt8)(c:UInt8):MV (s,[c])=some (Lib.indexByte s c):=rfl
theorem T9(c:UInt8):∀(k:Nat) (done:List (List UInt8)) (s:List UInt8),s.length≤1000000→done.length+k≤1000000→
  ∃(s':List UInt8) (i:Nat) (a:List (List UInt8)),iter Hg (s,[c],0,((done.length+k:Nat):Int),(done.length:Int),done++List.replicate (k+1) [],(),())=some (s',(i:Int),a,(),())∧i<a.length∧i≤1000000∧(a.set i s').take (i+1)=done++C8 c k [] s:=by
 intro k
 induction k with
 |zero=>
  intro done s hs hd;refine⟨s,done.length,done++List.replicate 1 [], ?_,by simp,by omega, ?_⟩
  ·rw[AR];unfold Hg;dsimp only;rw[Ak (show ¬(done.length:Int)<((done.length+0:Nat):Int) by omega)];rfl
  ·have e:(done++List.replicate 1 []).set done.length s=done++ [s]:=by simp
   rw[e];have:C8 c 0 [] s= [s]:=by cases s<;>rfl
   rw[this,List.take_of_length_le (by simp)]
 |succ k ih=>
  intro done s hs hd;have hlt:decide ((done.length:Int)<((done.length+(k+1):Nat):Int))=true:=Al (by omega);rcases Ht c s with h|⟨l,t,rfl,h⟩
  ·refine⟨s,done.length,done++List.replicate (k+1+1) [], ?_,by simp,by omega, ?_⟩
   ·rw[AR];unfold Hg;dsimp only;rw[hlt,if_pos rfl,Nq,OI h,bs];rfl
   ·have e:(done++List.replicate (k+1+1) []).set done.length s=done++s::List.replicate (k+1) []:=by
     rw[List.replicate_succ];simp
    rw[e,QA c s [] (k+1) h];rw[show done++s::List.replicate (k+1) []=(done++ [s])++List.replicate (k+1) [] by simp];rw[List.take_append_of_le_length (by simp),List.take_of_length_le (by simp)];rfl
  ·have hl:l.length+t.length+1≤1000000:=by simp at hs;omega
   obtain⟨s',i,a,h1,h2,h3,h4⟩:=ih (done++ [l]) t (by omega) (by simp;omega);refine⟨s',i,a, ?_,h2,h3, ?_⟩
   ·rw[AR];unfold Hg;dsimp only;rw[hlt,if_pos rfl,Nq,OH h,bs];have c1:decide ((l.length:Int)<0)=false:=Ak (by omega);rw[c1];simp only[Ag,if_false];have w1:i64.wrap ((l.length:Int)+0)=(l.length:Int):=by rw[AD (by omega) (by omega)];omega
    have l1:B2 (l++c::t) 0 (l.length:Int)=some l:=by
     have:=DE (xs:=l++c::t) (i:=0) (j:=l.length) (by omega) (by simp);simpa using this
    have w2:i64.wrap ((l.length:Int)+(([c]:List UInt8).length:Int))=((l.length+1:Nat):Int):=by
     rw[AD (by omega) (by simp only[List.length_cons,List.length_nil];omega)];simp
    have l2:B2 (l++c::t) ((l.length+1:Nat):Int) (((l++c::t):List UInt8).length:Int)=some t:=by
     have:=DE (xs:=l++c::t) (i:=l.length+1) (j:=(l++c::t).length) (by simp) (by omega);rw[this,List.take_length];simp
    have w3:i64.wrap ((done.length:Int)+1)=(((done++ [l]).length:Nat):Int):=by rw[AD (by omega) (by omega)];simp
    have hin:0≤(done.length:Int)∧(done.length:Int)<((done++List.replicate (k+1+1) []:List (List UInt8)).length:Int):=by simp;omega
    have hget:(done++List.replicate (k+1+1) [])[(done.length:Int).toNat]? =some ([]:List UInt8):=by
     rw[Int.toNat_natCast,List.replicate_succ];simp
    have hset:(done++List.replicate (k+1+1) []).set (done.length:Int).toNat l=(done++ [l])++List.replicate (k+1) []:=by
     rw[Int.toNat_natCast,List.replicate_succ];simp
    rw[w1,l1,bs,if_pos hin,bs,hget,hset,ms,bs,w2,l2,bs,w3];have e1:((done++ [l]).length+k:Nat)=done.length+(k+1):=by simp;omega
    rw[e1]at h1;exact h1
   ·rw[h4,Q8 c l t [] k h];simp
theorem T2{c:UInt8}{s:List UInt8}{k:Nat}(hs:s.length≤1000000)(hk:k≤1000000){n:Int}(hn:n=((k+1:Nat):Int)):
  ((if 0≤n∧n≤n∧n*(16:Int)≤140737488355328∧n≤4611686018427387904 then some (List.replicate n.toNat ([]:List UInt8))else none).bind fun l31=>
    Option.bind ((iter Hg (s,[c],(0:Int),i64.wrap (n-(1:Int)),(0:Int),l31,(),())).bind fun o=>some (o.1,o.2.1,o.2.2.1,(),())) fun o=>
    Option.bind (if 0≤o.2.1∧o.2.1<(o.2.2.1.length:Int)then some o.2.1.toNat else none) fun x61=>
    Option.bind ((o.2.2.1[x61]?).map (fun el18=>o.2.2.1.set x61 o.1)) fun l31=>
    Option.bind (B2 l31 (0:Int) (i64.wrap (o.2.1+(1:Int)))) fun x65=>some x65)=some (C8 c k [] s):=by
 subst hn;obtain⟨s',i,a,h1,h2,h3,h4⟩:=T9 c k [] s hs (by simpa using hk);simp only[List.length_nil,Nat.zero_add,List.nil_append]at h1 h4;rw[if_pos (by omega),bs,Int.toNat_natCast];have w1:i64.wrap (((k+1:Nat):Int)-1)=(k:Int):=by rw[AD (by omega) (by omega)];omega
 rw[w1];rw[show((0:Nat):Int)=0 from rfl]at h1;rw[h1,bs,bs];dsimp only;have hg:a[i]? =some (a[i]'h2):=Ai _;rw[if_pos (by omega),bs,Int.toNat_natCast,hg,ms,bs];have w2:i64.wrap ((i:Int)+1)=((i+1:Nat):Int):=by rw[AD (by omega) (by omega)];omega
 have:=DE (xs:=a.set i s') (i:=0) (j:=i+1) (by omega) (by simp;omega);rw[w2];rw[show(0:Int)=((0:Nat):Int)from rfl,this,bs];simp only[List.drop_zero];rw[h4]
theorem Hm{c:UInt8}{s:List UInt8}(hs:s.length≤900000):IA (s,[c])=some (A7 c s):=by
 unfold IA MW;dsimp only;have c1:(([c]:List UInt8)== [])=false:=rfl;have c2:((-1:Int)==0)=false:=rfl;have c3:decide ((-1:Int)<0)=true:=rfl;have hcnt:I9 (s,[c])=some (s.count c:Int):=rfl;have hle:s.count c≤s.length:=List.count_le_length;have w1:i64.wrap ((s.count c:Int)+1)=((s.count c+1:Nat):Int):=by rw[AD (by omega) (by omega)];omega
 have w2:i64.wrap ((s.length:Int)+1)=((s.length+1:Nat):Int):=by rw[AD (by omega) (by omega)];omega
 simp only[c1,c2,c3,Ag,if_false,if_true,hcnt,bs,w1,w2];have hm:min (((s.count c+1:Nat)):Int) ((s.length+1:Nat):Int)=((s.count c+1:Nat):Int):=by omega
 rw[hm,T2 (k:=s.count c) (by omega) (by omega) rfl,bs,Kr c s [] _ (Nat.le_refl _)];rfl
def AE(l:List UInt8):List (List UInt8):=(A7 32 l).filter fun w=> !(w== [])
theorem MU(c:UInt8)(t:List UInt8):∀(l cur:List UInt8),By c cur (l++c::t)=By c cur l++By c [] t
 | [],cur=>by simp[By]
 |b::l,cur=>by
  rw[List.cons_append,I4,I4];by_cases h:b=c
  ·rw[if_pos h,if_pos h,MU c t l []];rfl
  ·rw[if_neg h,if_neg h,MU c t l (cur++ [b])]
theorem Ri:AE []= []:=rfl
theorem Hj(l t:List UInt8):AE (l++32::t)=AE l++AE t:=by
 unfold AE A7;rw[MU,List.filter_append]
theorem Nf(t:List UInt8):AE (32::t)=AE t:=by
 have:=Hj [] t;simpa[Ri]using this
theorem Wy(l:List UInt8):AE (l++ [32])=AE l:=by
 rw[Hj,Ri,List.append_nil]
theorem Nd(l:List UInt8):∀n,AE (List.replicate n 32++l)=AE l
 |0=>rfl
 |n+1=>by rw[List.replicate_succ,List.cons_append,Nf,Nd l n]
theorem Wx(l:List UInt8)(n:Nat):AE (l++List.replicate n 32)=AE l:=by
 induction n with
 |zero=>simp
 |succ n ih=>rw[List.replicate_succ',←List.append_assoc,Wy,ih]
theorem Gj{w:List UInt8}(hw:∀b∈w,b≠32)(hn:w≠ []):AE w= [w]:=by
 unfold AE A7;rw[I5 32 w [] hw]
 cases w with
 |nil=>exact absurd rfl hn
 |cons b w=>simp
theorem Rh{l w:List UInt8}(h:w∈AE l):w≠ []∧(∀b∈w,b≠32)∧w.length≤l.length∧∀b∈w,b∈l:=by
 unfold AE at h;rw[List.mem_filter]at h;obtain⟨h1,h2,h3⟩:=He 32 l [] (fun _ h=>by cases h) w h.1;refine⟨by simpa using h.2,h1,by simpa using h2,fun b hb=> ?_⟩;rcases h3 b hb with h|h
 ·cases h
 ·exact h
theorem Ng:∀(ws:List (List UInt8)),(∀w∈ws,w≠ []∧∀b∈w,b≠32)→AE (Lib.join ws [32])=ws
 | [],_=>by rw[Lib.join_nil];rfl
 | [w],h=>by
  have:=h w (by simp);rw[show Lib.join [w] [32]=w by simp[Lib.join]];exact Gj this.2 this.1
 |w::v::ws,h=>by
  have e:Lib.join (w::v::ws) [32]=w++32::Lib.join (v::ws) [32]:=by simp[Lib.join]
  have h1:=h w (by simp);rw[e,Hj,Gj h1.2 h1.1,Ng (v::ws) fun x hx=>h x (by simp[hx])];rfl
theorem Rg:∀{l w:List UInt8} {ws:List (List UInt8)},AE l=w::ws→∃n t,l=List.replicate n 32++(w++t)∧(t= []∧ws= []∨∃u,t=32::u∧AE u=ws)
 | [],w,ws,h=>by cases h
 |b::l,w,ws,h=>by
  by_cases hb:b=32
  ·subst hb;rw[Nf]at h;obtain⟨n,t,h1,h2⟩:=Rg h;exact⟨n+1,t,by rw[h1];rfl,h2⟩
  ·rcases Ht 32 (b::l)with h1|⟨u,v,h1,h2⟩
   ·rw[Gj h1 (by simp)]at h;cases h;exact⟨0,[],by simp,.inl ⟨rfl,rfl⟩⟩
   ·have hu:u≠ []:=by
     intro e;subst e;simp at h1;exact hb h1.1
    rw[h1,Hj,Gj h2 hu]at h;cases h;exact⟨0,32::v,by rw[h1];rfl,.inr ⟨v,rfl,rfl⟩⟩
theorem Sg(b c:UInt8):([c]:List UInt8).contains b=(b==c):=by
 by_cases h:b=c
 ·subst h;simp
 ·simp[h]
theorem Kz(l:List UInt8):∀n,Lib.trimLeftS (List.replicate n 32++l) [32]=Lib.trimLeftS l [32]
 |0=>rfl
 |n+1=>by
  have:=Kz l n;unfold Lib.trimLeftS at this⊢;rw[List.replicate_succ,List.cons_append,List.dropWhile_cons_of_pos (by rfl),this]
theorem VS(l:List UInt8)(n:Nat):Lib.trimRightS (l++List.replicate n 32) [32]=Lib.trimRightS l [32]:=by
 have:=Kz l.reverse n;unfold Lib.trimLeftS at this;unfold Lib.trimRightS;rw[List.reverse_append,List.reverse_replicate,this]
theorem VR(l:List UInt8)(n:Nat):Lib.trimRightS (List.replicate n 32++l) [32]=List.replicate (if Lib.trimRightS l [32]= []then 0 else n) 32++Lib.trimRightS l [32]:=by
 unfold Lib.trimRightS;rw[List.reverse_append,List.dropWhile_append,List.reverse_replicate]
 have hr:∀n,(List.replicate n (32:UInt8)).dropWhile (([32]:List UInt8).contains ·)= []:=by
  intro n;have:=Kz [] n;unfold Lib.trimLeftS at this;rw[List.append_nil]at this;exact this
 cases hd:l.reverse.dropWhile (([32]:List UInt8).contains ·)with
 |nil=>simp[hr]
 |cons b t=>simp
theorem QU(l:List UInt8)(n:Nat):Lib.trimS (List.replicate n 32++l) [32]=Lib.trimS l [32]:=by
 unfold Lib.trimS;rw[VR,Kz]
theorem QV(l:List UInt8)(n:Nat):Lib.trimS (l++List.replicate n 32) [32]=Lib.trimS l [32]:=by
 unfold Lib.trimS;rw[VS]
def AA:List UInt8:= [116,101,108,108]
theorem OJ(t:List UInt8):∀n,Lib.index (List.replicate n 32++(AA++t)) AA=(n:Int)
 |0=>by simp[Lib.index,AA]
 |n+1=>by
  have h:=OJ t n;rw[List.replicate_succ,List.cons_append,Lib.index,h];have e:AA.isPrefixOf (32::(List.replicate n 32++(AA++t)))=false:=by simp[AA,List.isPrefixOf]
  rw[e];have h2:((n:Int)== -1)=false:=beq_eq_false_iff_ne.2 (by omega);simp only[Ag,if_false,h2];first|rfl|omega
set_option linter.unusedSimpArgs false
set_option linter.unusedVariables false
def Ci:Nat:=1125899906842624
def MY(n:Nat):List UInt8:=Lib.decDigits (n/100)++ [46,dg9 (n/10 % 10),dg9 (n % 10)]
def Hh(c:Int):List UInt8:=(if c<0 then [45]else [])++MY c.natAbs
def IsC(s:List UInt8)(c:Int):Prop:=c.natAbs≤Ci∧Hh c=s
instance (s:List UInt8) (c:Int):Decidable (IsC s c):=inferInstanceAs (Decidable (_∧_))
def CX(W:List UInt8)(a b:UInt8):Nat:=AT 0 (W++ [a,b])
theorem KV(W:List UInt8)(a b:UInt8):CX W a b=(AT 0 W*10+(a.toNat-48))*10+(b.toNat-48):=by simp[CX,AT]
theorem QP(n:Nat):∃W a b,MY n=W++ [46,a,b]∧EW W=true∧dgt a=true∧dgt b=true∧CX W a b=n:=by
 refine⟨Lib.decDigits (n/100),dg9 (n/10 % 10),dg9 (n % 10),rfl,RG _,DT (Nat.mod_lt _ (by omega)),DT (Nat.mod_lt _ (by omega)), ?_⟩;rw[KV,S1,D6 (Nat.mod_lt _ (by omega)),D6 (Nat.mod_lt _ (by omega))];omega
theorem NK{W:List UInt8}(h:EW W=true):W.all dgt=true:=by
 unfold EW at h;simp only[Af]at h;exact h.2
theorem OL{s:List UInt8}{c:Int}(h:IsC s c):∃W a b,EW W=true∧dgt a=true∧dgt b=true∧CX W a b=c.natAbs∧CX W a b≤Ci∧s=(if c<0 then [45]else [])++(W++ [46,a,b]):=by
 obtain⟨h1,h2⟩:=h;obtain⟨W,a,b,e,hW,ha,hb,hn⟩:=QP c.natAbs;refine⟨W,a,b,hW,ha,hb,hn,by omega, ?_⟩;rw[←h2,Hh,e]
theorem Te(c:Int):IP c=some (decide (c.natAbs≤Ci)):=by
 unfold IP Ci;simp only[gPi,gSS,gPb,gPm,gPs,gM,gM2,AJ,gOr,AK,AP,gAA,gAO,gOA,gOO,AG,AI,AL,AO,AH,AM,gId];by_cases h1:c≥ -1125899906842624<;>by_cases h2:c≤1125899906842624<;>simp[h1,h2]<;>omega
theorem Qt{d:Nat}(h:d<10):(Utf8.encode (IntKind.i32.wrap (i64.wrap (48+(d:Int))))).data.toList= [dg9 d]:=by
 have:d=0∨d=1∨d=2∨d=3∨d=4∨d=5∨d=6∨d=7∨d=8∨d=9:=by omega
 rcases this with rfl|rfl|rfl|rfl|rfl|rfl|rfl|rfl|rfl|rfl<;>rfl
theorem Wv:∀(n:Nat) (s:List UInt8),n≤4611686018427387→s.length+n≤4611686018427387904→∃(m:Nat) (t:List UInt8),iter IQ ((n:Int),s,())=some ((m:Int),t,())∧m<10∧t.length≤s.length+n∧ [dg9 m]++t=Lib.decDigits n++s:=by
 intro n
 induction n using Nat.strongRecOn with
 |_ n ih=>
  intro s hn hs;by_cases h:n<10
  ·refine⟨n,s, ?_,h, ?_, ?_⟩
   ·rw[AR];unfold IQ;dsimp only;rw[Ak (show ¬(n:Int)>9 by omega)];rfl
   ·omega
   ·rw[E4 h]
  ·obtain⟨m,t,h1,h2,h3,h4⟩:=ih (n/10) (by omega) ([dg9 (n % 10)]++s) (by omega) (by simp;omega);refine⟨m,t, ?_,h2,by simp at h3;omega, ?_⟩
   ·rw[AR];unfold IQ;dsimp only;rw[Al (show(n:Int)>9 by omega),if_pos rfl,if_neg (by decide),bs];have e1:(n:Int).tmod 10=((n % 10:Nat):Int):=by rw[Int.tmod_eq_emod_of_nonneg (by omega)];omega
    have e2:i64.wrap ((n:Int).tdiv 10)=((n/10:Nat):Int):=by rw[Int.tdiv_eq_ediv_of_nonneg (by omega),AD (by omega) (by omega)];omega
    rw[e1,Qt (Nat.mod_lt _ (by omega))];rw[if_pos (by simp;omega),bs,if_neg (by decide),bs,e2];exact h1
   ·rw[h4,G4 h];simp
theorem Nc{n:Nat}(h:n≤4611686018427387):Gt (n:Int)=some (Lib.decDigits n):=by
 obtain⟨m,t,h1,h2,h3,h4⟩:=Wv n [] h (by simp;omega);unfold Gt;dsimp only;rw[h1,bs];dsimp only;rw[Qt h2];simp only[List.length_nil,Nat.zero_add]at h3;rw[if_pos (by simp;omega),h4];simp
theorem V4{x y:List UInt8}(hx:x.length≤1000000)(hy:y.length≤1000000){β:Type}(K:List UInt8→Option β):(if x.length+y.length≤4611686018427387904 then K (x++y)else none)=K (x++y):=if_pos (by omega)
theorem RK{c:Int}(hc:c.natAbs≤20000000000000000):Gs c=some (if c.natAbs≤Ci then Hh c else []):=by
 unfold Gs;dsimp only;simp only[gPi,gSS,gPb,gPm,gPs,gM,gM2,AJ,gOr,AK,AP,gAA,gAO,gOA,gOO,AG,AI,AL,AO,AH,AM,gId];simp only[Bd,Be,Bf,Bg,Bh,Bi,Bj,Bk,gId,Bc,gMb,gMm,gBm,gBb,bs,ms];rw[Te,bs];by_cases hf:c.natAbs≤Ci
 ·have hm:c.natAbs≤1125899906842624:=hf;rw[Al hf,if_pos hf];simp only[Bool.not_true,Ag,if_false]
  have e0:(if decide (c<0)=true then some (i64.wrap (0-c),([45]:List UInt8),())else some (c,[],()))=some ((c.natAbs:Int),(if c<0 then [45]else []),()):=by
   by_cases h:c<0
   ·rw[Al h,if_pos rfl,if_pos h,AD (by omega) (by omega)]
    congr 2;omega
   ·rw[Ak h,if_neg (by decide),if_neg h]
    congr 2;omega
  rw[e0,bs,if_neg (by decide),bs];dsimp only;have e1:(c.natAbs:Int).tmod 100=((c.natAbs % 100:Nat):Int):=by rw[Int.tmod_eq_emod_of_nonneg (by omega)];omega
  have e2:i64.wrap ((c.natAbs:Int).tdiv 100)=((c.natAbs/100:Nat):Int):=by rw[Int.tdiv_eq_ediv_of_nonneg (by omega),AD (by omega) (by omega)];omega
  have e3:i64.wrap (((c.natAbs % 100:Nat):Int).tdiv 10)=((c.natAbs/10 % 10:Nat):Int):=by rw[Int.tdiv_eq_ediv_of_nonneg (by omega),AD (by omega) (by omega)];omega
  have e4:((c.natAbs % 100:Nat):Int).tmod 10=((c.natAbs % 10:Nat):Int):=by rw[Int.tmod_eq_emod_of_nonneg (by omega)];omega
  rw[if_neg (by decide),bs,e1,e2,Nc (by omega),bs];have hl:(Lib.decDigits (c.natAbs/100)).length≤20:=S0 (by omega) (by omega);have hs:(if c<0 then([45]:List UInt8)else []).length≤1:=by split<;>simp
  rw[V4 (by omega) (by omega) (fun x=>if x.length+([46]:List UInt8).length≤4611686018427387904 then _ else _)];rw[if_pos (by simp only[List.length_append];simp only[List.length_singleton];omega)];rw[if_neg (by decide),bs,e3,Nc (by omega),bs,E4 (Nat.mod_lt _ (by omega))];rw[if_pos (by simp only[List.length_append,List.length_singleton];omega)];rw[if_neg (by decide),bs,e4,Nc (by omega),bs,E4 (Nat.mod_lt _ (by omega))];rw[if_pos (by simp only[List.length_append,List.length_singleton];omega)];simp[Hh,MY]
 ·rw[Ak hf,if_neg hf];rfl
abbrev CA:=Nat×Nat×Bool
def Cy(a:CA)(x:UInt8):CA⊕((List UInt8×Int×Bool×Unit)⊕(Int×Int)):=
 if a.1=0∧x=45 then .inl (a.1+1,a.2.1,true)
 else if x=46 then .inl (a.1+1,a.2.1,a.2.2)
 else if dgt x=true∧a.2.1≤Ci then .inl (a.1+1,a.2.1*10+(x.toNat-48),a.2.2)else .inr (.inr (0,3))
theorem RL{s:List UInt8}(h:s.length≤1000000):iter Hy (s,0,false,(s.length:Int),0,())=some (BL Cy (fun a=>.inl (s,(a.2.1:Int),a.2.2,())) (0,0,false) s):=by
 have e:=Jw (b:=Hy) (A:=CA) (fun i a=>(s,(a.2.1:Int),a.2.2,(s.length:Int),(i:Int),())) Cy (fun a=>.inl (s,(a.2.1:Int),a.2.2,())) (fun i a=>a.1=i∧a.2.1≤Ci*10+9) s (a:=(0,0,false)) ⟨rfl,by simp⟩ ?_ ?_ ?_
 ·exact e
 ·rintro i x ⟨j,c,bl⟩ hx ⟨rfl,hc⟩
  dsimp only at hc⊢;have hm:Ci=1125899906842624:=rfl;have hi:=(Ae.1 hx).1;have ws:=BN (show j<9223372036854775807 by omega);unfold Hy;dsimp only;simp only[gPi,gSS,gPb,gPm,gPs,gM,gM2,AJ,gOr,AK,AP,gAA,gAO,gOA,gOO,AG,AI,AL,AO,AH,AM,gId];simp only[Bd,Be,Bf,Bg,Bh,Bi,Bj,Bk,gId,Bc,gMb,gMm,gBm,gBb,bs,ms];simp only[Cu hx,if_true,Er hx,bs]
  have e0:(if((j:Int)==0)=true then some ((x.toNat:Int)==45)else some false)=some (decide (j=0∧x=45)):=by
   by_cases h0:j=0
   ·subst h0;rw[show(((0:Nat):Int)==0)=true from rfl,if_pos rfl];by_cases h1:x=45
    ·subst h1;rfl
    ·have:¬(x.toNat:Int)=45:=fun hh=>h1 (UInt8.toNat_inj.1 (by show x.toNat=45;omega));simp[h1,this]
   ·have:¬(j:Int)=0:=by omega
    simp[h0,this]
  have e1:((x.toNat:Int)==46)=decide (x=46):=by
   by_cases h1:x=46
   ·subst h1;rfl
   ·have:¬(x.toNat:Int)=46:=fun hh=>h1 (UInt8.toNat_inj.1 (by show x.toNat=46;omega));simp[h1,this]
  have e2:(if decide ((x.toNat:Int)<48)=true then some true else some (decide ((x.toNat:Int)>57)))=some (!dgt x):=by
   unfold dgt;cases decide ((x.toNat:Int)<48)<;>cases decide ((x.toNat:Int)>57)<;>rfl
  simp only[e0,e1,e2,bs];unfold Cy;by_cases q1:j=0∧x=45
  ·have r1:(j=0∧x=45)=True:=eq_true q1;simp only[r1,decide_true,if_true,bs,ws,EQ]
  ·have r1:(j=0∧x=45)=False:=eq_false q1;by_cases q2:x=46
   ·have r2:(x=46)=True:=eq_true q2;simp only[r1,r2,decide_true,decide_false,Ag,if_false,if_true,bs,ws,EQ]
   ·have r2:(x=46)=False:=eq_false q2;by_cases q3:dgt x=true
    ·have hd:=C0.1 q3;by_cases q4:c≤Ci
     ·have c4:decide ((c:Int)>1125899906842624)=false:=Ak (by omega);have q:(dgt x=true∧c≤Ci)=True:=eq_true ⟨q3,q4⟩;have w1:u8.wrap ((x.toNat:Int)-48)=((x.toNat-48:Nat):Int):=by rw[IntKind.wrap_u8];omega
      have w2:i64.wrap ((x.toNat-48:Nat):Int)=((x.toNat-48:Nat):Int):=AD (by omega) (by omega);have w3:i64.wrap (10*(c:Int))=10*(c:Int):=AD (by omega) (by omega);have w4:i64.wrap (10*(c:Int)+((x.toNat-48:Nat):Int))=((c*10+(x.toNat-48):Nat):Int):=by rw[AD (by omega) (by omega)];omega
      simp only[r1,r2,decide_false,q3,Bool.not_true,Ag,if_false,if_true,bs,c4,w1,w2,w3,w4,ws,EQ,q,q4,and_self]
     ·have c4:decide ((c:Int)>1125899906842624)=true:=Al (by omega);simp only[r1,r2,decide_false,q3,Bool.not_true,Ag,if_false,if_true,bs,c4,EQ,q4,and_false]
    ·have q3':dgt x=false:=by simpa using q3
     simp only[r1,r2,decide_false,q3',Bool.not_false,if_true,Ag,if_false,bs,EQ,false_and]
 ·rintro i x ⟨j,c,bl⟩ a' hx ⟨rfl,hc⟩ hst
  dsimp only at hc;unfold Cy at hst;dsimp only at hst;split at hst
  ·cases hst;exact⟨rfl,hc⟩
  ·split at hst
   ·cases hst;exact⟨rfl,hc⟩
   ·split at hst
    ·rename_i hq;cases hst;have hd:=C0.1 hq.1;refine⟨rfl, ?_⟩;have:=hq.2;dsimp only;omega
    ·cases hst
 ·rintro⟨j,c,bl⟩ ⟨hj,hc⟩
  unfold Hy;dsimp only;simp only[DF,Ag,if_false]
theorem Le(fin:CA→((List UInt8×Int×Bool×Unit)⊕(Int×Int))):∀(D X:List UInt8) (j c:Nat) (bl:Bool),D.all dgt=true→AT c D≤Ci→BL Cy fin (j,c,bl) (D++X)=BL Cy fin (j+D.length,AT c D,bl) X
 | [],X,j,c,bl,_,_=>rfl
 |d::D,X,j,c,bl,h,hn=>by
  simp only[List.all_cons,Af]at h;have hd:=C0.1 h.1;have e:AT c (d::D)=AT (c*10+(d.toNat-48)) D:=rfl;have h1:=P1 D (c*10+(d.toNat-48));rw[e]at hn⊢;have n1:¬d=45:=by intro hh;subst hh;exact absurd hd.1 (by decide)
  have n2:¬d=46:=by intro hh;subst hh;exact absurd hd.1 (by decide)
  rw[List.cons_append,BL,Cy,if_neg (fun hh=>n1 hh.2),if_neg n2,if_pos ⟨h.1,by show c≤Ci;omega⟩];dsimp only;rw[Le fin D X (j+1) _ bl h.2 hn]
  congr 2
  simp only[List.length_cons];omega
theorem NO(fin:CA→((List UInt8×Int×Bool×Unit)⊕(Int×Int))){W:List UInt8}{a b:UInt8}(hW:EW W=true)(ha:dgt a=true)(hb:dgt b=true)(hn:CX W a b≤Ci)(j:Nat)(bl:Bool):
  ∃k,BL Cy fin (j,0,bl) (W++ [46,a,b])=fin (k,CX W a b,bl):=by
 have hv:AT 0 W≤Ci:=by rw[KV]at hn;omega
 have e:CX W a b=AT (AT 0 W) [a,b]:=by rw[KV];rfl
 have hpos:∀x:UInt8,dgt x=true→¬x=45∧¬x=46:=by
  intro x hx;have:=C0.1 hx;constructor<;>(intro hh;subst hh;exact absurd this.1 (by decide))
 refine⟨j+W.length+1+ [a,b].length, ?_⟩;rw[Le fin W _ j 0 bl (NK hW) hv,BL,Cy,if_neg (fun hh=>absurd hh.2 (by decide)),if_pos rfl];dsimp only;have:=Le fin [a,b] [] (j+W.length+1) (AT 0 W) bl (by simp[ha,hb]) (by rw[←e];exact hn);rw[List.append_nil]at this;rw[this,←e];rfl
theorem RM{s:List UInt8}{c:Int}(hc:c.natAbs≤20000000000000000):(if(s== [])=true then some true else(Gs c).bind fun v=>some (!v==s))=some (decide (¬IsC s c)):=by
 rw[RK hc,bs];by_cases h0:s= []
 ·subst h0
  have:¬IsC [] c:=by
   intro h;obtain⟨W,a,b,_,_,_,_,_,e⟩:=OL h;have:=congrArg List.length e;simp at this
  simp[this]
 ·have e1:(s== [])=false:=by simpa using h0
  rw[e1];simp only[Ag,if_false,Ac];by_cases hf:c.natAbs≤Ci
  ·rw[if_pos hf];by_cases ht:Hh c=s
   ·have:IsC s c:=⟨hf,ht⟩;simp[this,ht]
   ·have:¬IsC s c:=fun h=>ht h.2;simp[this,ht]
  ·rw[if_neg hf];have:¬IsC s c:=fun h=>hf h.1;have h1:¬ []=s:=fun h=>h0 h.symm;simp[this,h1,h0]
theorem RJ{s:List UInt8}(h:s.length≤1000000):(∃c,IsC s c∧FG s=some (c,0))∨((∀c,¬IsC s c)∧FG s=some (0,3)):=by
 have hs:=RL h
 have hP:∀{o:(List UInt8×Int×Bool×Unit)⊕(Int×Int)},BL Cy (fun a=>.inl (s,(a.2.1:Int),a.2.2,())) (0,0,false) s=o→FG s=(match o with
   |Sum.inl p190=>(if p190.2.2.1=true then some (p190.1,i64.wrap (0-p190.2.1),())else some (p190.1,p190.2.1,())).bind fun o=>
     (if(o.1== [])=true then some true else(Gs o.2.1).bind fun v=>some (!v==o.1)).bind fun x54=>if x54=true then some (0,3)else some (o.2.1,0)
   |Sum.inr q191=>some q191):=by
  intro o ho;unfold FG;dsimp only;simp only[gPi,gSS,gPb,gPm,gPs,gM,gM2,AJ,gOr,AK,AP,gAA,gAO,gOA,gOO,AG,AI,AL,AO,AH,AM,gId];simp only[Bd,Be,Bf,Bg,Bh,Bi,Bj,Bk,gId,Bc,gMb,gMm,gBm,gBb,bs,ms];rw[hs,ho,bs];rfl
 have fin:∀{c:Nat} {bl:Bool},c≤Ci*10+9→BL Cy (fun a=>.inl (s,(a.2.1:Int),a.2.2,())) (0,0,false) s=.inl (s,(c:Int),bl,())→FG s=some (if IsC s (if bl then-(c:Int)else(c:Int))then((if bl then-(c:Int)else(c:Int)),0)else(0,3)):=by
  intro c bl hc ho;have hm:Ci=1125899906842624:=rfl;rw[hP ho];dsimp only
  have e0:(if bl=true then some (s,i64.wrap (0-(c:Int)),())else some (s,(c:Int),()))=some (s,(if bl then-(c:Int)else(c:Int)),()):=by
   cases bl
   ·rfl
   ·rw[if_pos rfl,AD (by omega) (by omega)]
    congr 2
    simp
  rw[e0,bs];dsimp only;have hb:(if bl then-(c:Int)else(c:Int)).natAbs≤20000000000000000:=by cases bl<;>simp<;>omega
  rw[RM hb,bs];by_cases hI:IsC s (if bl then-(c:Int)else(c:Int))
  ·rw[if_pos hI,Ak (fun hh=>hh hI),if_neg (by decide)]
  ·rw[if_neg hI,Al hI,if_pos rfl]
 by_cases hI:∃c,IsC s c
 ·left;obtain⟨c,hc⟩:=hI;refine⟨c,hc, ?_⟩;obtain⟨W,a,b,hW,ha,hb,hn,hle,e⟩:=OL hc;by_cases h0:c<0
  ·rw[if_pos h0]at e;have e':s=45::(W++ [46,a,b]):=e;obtain⟨k,hk⟩:=NO (fun a=>.inl (s,(a.2.1:Int),a.2.2,())) hW ha hb hle 1 true
   have hf:BL Cy (fun a=>.inl (s,(a.2.1:Int),a.2.2,())) (0,0,false) s=.inl (s,(CX W a b:Int),true,()):=by
    conv=>lhs;rw[e']
    rw[BL,Cy,if_pos ⟨rfl,rfl⟩];dsimp only;rw[←e'];exact hk
   rw[fin (by omega) hf];have:(if true=true then-(CX W a b:Int)else(CX W a b:Int))=c:=by rw[if_pos rfl];omega
   rw[this,if_pos hc]
  ·rw[if_neg h0,List.nil_append]at e;obtain⟨k,hk⟩:=NO (fun a=>.inl (s,(a.2.1:Int),a.2.2,())) hW ha hb hle 0 false
   have hf:BL Cy (fun a=>.inl (s,(a.2.1:Int),a.2.2,())) (0,0,false) s=.inl (s,(CX W a b:Int),false,()):=by
    conv=>lhs;rw[e]
    rw[←e];rw[←e]at hk;exact hk
   rw[fin (by omega) hf];have:(if false=true then-(CX W a b:Int)else(CX W a b:Int))=c:=by rw[if_neg (by decide)];omega
   rw[this,if_pos hc]
 ·right;have hno:∀c,¬IsC s c:=fun c hc=>hI ⟨c,hc⟩;refine⟨hno, ?_⟩
  have key:∀(l:List UInt8) (a:CA),a.2.1≤Ci*10+9→(∃c bl,c≤Ci*10+9∧BL Cy (fun a=>.inl (s,(a.2.1:Int),a.2.2,())) a l=.inl (s,(c:Int),bl,()))∨BL Cy (fun a=>.inl (s,(a.2.1:Int),a.2.2,())) a l=.inr (0,3):=by
   intro l
   induction l with
   |nil=>intro a ha;exact .inl ⟨a.2.1,a.2.2,ha,rfl⟩
   |cons x l ih=>
    intro a ha;rw[BL];unfold Cy;split<;>rename_i q1
    ·split at q1
     ·cases q1;exact ih _ ha
     ·split at q1
      ·cases q1;exact ih _ ha
      ·split at q1
       ·rename_i q2;cases q1;have hd:=C0.1 q2.1;have:=q2.2;exact ih _ (by dsimp only;omega)
       ·cases q1
    ·split at q1
     ·cases q1
     ·split at q1
      ·cases q1
      ·split at q1
       ·cases q1
       ·cases q1;exact .inr rfl
  rcases key s (0,0,false) (by simp)with⟨c,bl,hc,ho⟩|ho
  ·rw[fin hc ho,if_neg (hno _)]
  ·rw[hP ho]
set_option linter.unusedSimpArgs false
set_option linter.unusedVariables false
theorem cvL{S T:Type}{b:S→Option (S⊕T)}{s s':S}(h:b s=some (.inl s')):iter b s=iter b s':=by rw[AR,h];rfl
theorem cvR{S T:Type}{b:S→Option (S⊕T)}{s:S}{t:T}(h:b s=some (.inr t)):iter b s=some t:=by rw[AR,h];rfl
def lpN(y:Nat):Bool:=y % 4==0&&(y % 100 !=0||y % 400==0)
def Fm:List Nat:= [31,28,31,30,31,30,31,31,30,31,30,31]
def mdN(y m:Nat):Nat:=if m=2∧lpN y=true then 29 else Fm.getD (m-1) 0
def stN(y:Nat):Nat:=(365*(y-1900)+(y-1)/4+(y-1)/400)-((y-1)/100+460)
def msN(y:Nat):Nat→Nat
 |0=>0
 |m+1=>msN y m+mdN y (m+1)
theorem Vs:∀k,k<300→stN (1900+k+1)=stN (1900+k)+msN (1900+k) 12:=by decide+kernel
theorem QD:∀k,k<301→stN (1900+k)≤366*k:=by decide+kernel
theorem Vt:∀k,k<301→(1900+k-1)/100+460≤365*k+(1900+k-1)/4+(1900+k-1)/400:=by decide+kernel
theorem Kt:stN 2200=109573:=by decide
theorem I7{y:Nat}(h:1900≤y∧y≤2199):stN (y+1)=stN y+msN y 12:=by
 have:=Vs (y-1900) (by omega);rw[show 1900+(y-1900)=y by omega]at this;exact this
theorem TS{y:Nat}:IS (y:Int)=some (lpN y):=by
 unfold IS lpN;dsimp only;try simp only[gPi,gSS,gPb,gPm,gPs,gM,gM2,AJ,gOr,AK,AP,gAA,gAO,gOA,gOO,AG,AI,AL,AO,AH,AM,gId]
 try simp only[Bd,Be,Bf,Bg,Bh,Bi,Bj,Bk,gId,Bc,gMb,gMm,gBm,gBb,bs,ms]
 have h4:((y:Int)).tmod 4=((y % 4:Nat):Int):=by rw[Int.tmod_eq_emod_of_nonneg (by omega)];rfl
 have h100:((y:Int)).tmod 100=((y % 100:Nat):Int):=by rw[Int.tmod_eq_emod_of_nonneg (by omega)];rfl
 have h400:((y:Int)).tmod 400=((y % 400:Nat):Int):=by rw[Int.tmod_eq_emod_of_nonneg (by omega)];rfl
 rw[h4,h100,h400];simp only[bs,show ¬((4:Int)=0) by decide,show ¬((100:Int)=0) by decide,show ¬((400:Int)=0) by decide,if_false];have c:∀n:Nat,((n:Int)==0)=(n==0):=fun n=>by rw[Bool.eq_iff_iff,beq_iff_eq,beq_iff_eq];omega
 have c':∀n:Nat,((n:Int) !=0)=(n !=0):=fun n=>by rw[Bool.eq_iff_iff,bne_iff_ne,bne_iff_ne];omega
 rw[c,c,c'];cases (y % 4==0)<;>cases (y % 100 !=0)<;>rfl
theorem GJ{y m:Nat}(hy:1900≤y∧y≤2199)(hm:1≤m∧m≤12):E0 ((y:Int),(m:Int))=some (mdN y m:Int):=by
 unfold E0 mdN;dsimp only;try simp only[gPi,gSS,gPb,gPm,gPs,gM,gM2,AJ,gOr,AK,AP,gAA,gAO,gOA,gOO,AG,AI,AL,AO,AH,AM,gId]
 try simp only[Bd,Be,Bf,Bg,Bh,Bi,Bj,Bk,gId,Bc,gMb,gMm,gBm,gBb,bs,ms]
 rw[Ak (show ¬((y:Int)<1900) by omega),Ak (show ¬((y:Int)>2199) by omega),Ak (show ¬((m:Int)<1) by omega),Ak (show ¬((m:Int)>12) by omega)];simp only[Ag,if_false,bs];have w:i64.wrap ((m:Int)-1)=((m-1:Nat):Int):=by rw[AD (by omega) (by omega)];omega
 have hl:lAt [(31:Int),28,31,30,31,30,31,31,30,31,30,31] ((m-1:Nat):Int)=some ((Fm.getD (m-1) 0:Nat):Int):=by
  have:∀k:Nat,k<12→lAt [(31:Int),28,31,30,31,30,31,31,30,31,30,31] (k:Int)=some ((Fm.getD k 0:Nat):Int):=by decide
  exact this _ (by omega)
 rw[w,TS];by_cases h2:m=2
 ·have d:((m:Int)==2)=true:=by rw[beq_iff_eq];omega
  rw[d,if_pos rfl,bs]
  cases hp:lpN y with
  |true=>rw[if_pos rfl,if_pos ⟨h2,rfl⟩];rfl
  |false=>rw[if_neg (by decide),if_neg (fun h=>by cases h.2)];exact hl
 ·have d:((m:Int)==2)=false:=by rw[beq_eq_false_iff_ne];omega
  rw[d,if_neg (by decide),bs,if_neg (by decide),if_neg (fun h=>h2 h.1)];exact hl
theorem I6{y:Nat}(hy:1900≤y∧y≤2200):Gu (y:Int)=some (stN y:Int):=by
 unfold Gu;dsimp only;try simp only[gPi,gSS,gPb,gPm,gPs,gM,gM2,AJ,gOr,AK,AP,gAA,gAO,gOA,gOO,AG,AI,AL,AO,AH,AM,gId]
 try simp only[Bd,Be,Bf,Bg,Bh,Bi,Bj,Bk,gId,Bc,gMb,gMm,gBm,gBb,bs,ms]
 have hs:=Vt (y-1900) (by omega);rw[show 1900+(y-1900)=y by omega]at hs;have w1:i64.wrap ((y:Int)-1)=((y-1:Nat):Int):=by rw[AD (by omega) (by omega)];omega
 have h4:(((y-1:Nat):Int)).tdiv 4=(((y-1)/4:Nat):Int):=by rw[Int.tdiv_eq_ediv_of_nonneg (by omega)];rfl
 have h100:(((y-1:Nat):Int)).tdiv 100=(((y-1)/100:Nat):Int):=by rw[Int.tdiv_eq_ediv_of_nonneg (by omega)];rfl
 have h400:(((y-1:Nat):Int)).tdiv 400=(((y-1)/400:Nat):Int):=by rw[Int.tdiv_eq_ediv_of_nonneg (by omega)];rfl
 rw[w1,h4,h100,h400];simp only[bs,show ¬((4:Int)=0) by decide,show ¬((100:Int)=0) by decide,show ¬((400:Int)=0) by decide,if_false];have b1:(y-1)/4≤1000:=by omega
 have b2:(y-1)/100≤1000:=by omega
 have b3:(y-1)/400≤1000:=by omega
 have e:(stN y:Int)=365*((y:Int)-1900)+(((y-1)/4:Nat):Int)-(((y-1)/100:Nat):Int)+(((y-1)/400:Nat):Int)-460:=by
  unfold stN;omega
 rw[e];generalize (y-1)/4=q1 at*;generalize (y-1)/100=q2 at*;generalize (y-1)/400=q3 at*
 congr 1
 rw[AD (n:=(y:Int)-1900) (by omega) (by omega),AD (n:=365*((y:Int)-1900)) (by omega) (by omega),AD (n:=(q1:Int)) (by omega) (by omega),AD (n:=(q2:Int)) (by omega) (by omega),AD (n:=(q3:Int)) (by omega) (by omega),AD (n:=365*((y:Int)-1900)+(q1:Int)) (by omega) (by omega),AD (n:=365*((y:Int)-1900)+(q1:Int)-(q2:Int)) (by omega) (by omega),AD (n:=365*((y:Int)-1900)+(q1:Int)-(q2:Int)+(q3:Int)) (by omega) (by omega),AD (by omega) (by omega)]
theorem W2{n:Nat}{a b c:Int}(hn:n<109573):∀(m y:Nat),1900≤y→y≤2199→2199-y≤m→stN y≤n→∃Y,1900≤Y∧Y≤2199∧stN Y≤n∧n<stN (Y+1)∧iter H1 ((n:Int),(y:Int),a,b,c,(),(),())=some ((n:Int),(Y:Int),a,b,c,(),(),()):=by
 intro m
 induction m with
 |zero=>
  intro y h1 h2 h3 h4;have hy:y=2199:=by omega
  refine⟨y,h1,h2,h4,by rw[hy,Kt];exact hn,cvR ?_⟩;unfold H1;dsimp only;have w:i64.wrap ((y:Int)+1)=((y+1:Nat):Int):=by rw[AD (by omega) (by omega)];omega
  rw[w,I6 ⟨by omega,by omega⟩,bs,Ak (by rw[hy,Kt];omega),if_neg (by decide)]
 |succ m ih=>
  intro y h1 h2 h3 h4;have w:i64.wrap ((y:Int)+1)=((y+1:Nat):Int):=by rw[AD (by omega) (by omega)];omega
  by_cases h:stN (y+1)≤n
  ·have hy:y≠2199:=fun e=>by rw[e,Kt]at h;omega
   obtain⟨Y,k1,k2,k3,k4,k5⟩:=ih (y+1) (by omega) (by omega) (by omega) h;refine⟨Y,k1,k2,k3,k4,(cvL ?_).trans k5⟩;unfold H1;dsimp only;rw[w,I6 ⟨by omega,by omega⟩,bs,Al (show((stN (y+1):Nat):Int)≤(n:Int) by omega),if_pos rfl]
  ·refine⟨y,h1,h2,h4,by omega,cvR ?_⟩;unfold H1;dsimp only;rw[w,I6 ⟨by omega,by omega⟩,bs,Ak (show ¬(((stN (y+1):Nat):Int)≤(n:Int)) by omega),if_neg (by decide)]
theorem Ul{y:Nat}{a b c:Int}(hy:1900≤y∧y≤2199):∀(j m n:Nat),1≤m→m≤12→12-m≤j→n<1000→n+msN y (m-1)<msN y 12→∃M dd,1≤M∧M≤12∧dd<mdN y M∧n+msN y (m-1)=msN y (M-1)+dd∧iter H0 ((n:Int),(y:Int),(m:Int),a,b,c,(),(),())=some ((dd:Int),(y:Int),(M:Int),a,b,c,(),(),()):=by
 intro j
 induction j with
 |zero=>
  intro m n h1 h2 h3 hn h4;have hm:m=12:=by omega
  subst hm;have h5:msN y 12=msN y 11+mdN y 12:=rfl
  have h6:n<mdN y 12:=by
   have:msN y (12-1)=msN y 11:=rfl;omega
  refine⟨12,n,by omega,by omega,h6,Nat.add_comm _ _,cvR ?_⟩;unfold H0;dsimp only;rw[show((12:Nat):Int)=((12:Nat):Int)from rfl,GJ hy ⟨by omega,by omega⟩,bs,Ak (by omega),if_neg (by decide)]
 |succ j ih=>
  intro m n h1 h2 h3 hn h4;by_cases h:mdN y m≤n
  ·have e1:msN y m=msN y (m-1)+mdN y m:=by
    cases m with
    |zero=>omega
    |succ m=>rfl
   have hm:m≠12:=fun e=>by
    subst e;omega
   have w1:i64.wrap ((n:Int)-(mdN y m:Int))=((n-mdN y m:Nat):Int):=by rw[AD (by omega) (by omega)];omega
   have w2:i64.wrap ((m:Int)+1)=((m+1:Nat):Int):=by rw[AD (by omega) (by omega)];omega
   obtain⟨M,dd,k1,k2,k3,k4,k5⟩:=ih (m+1) (n-mdN y m) (by omega) (by omega) (by omega) (by omega) (by
    rw[show m+1-1=m by omega,e1];omega)
   refine⟨M,dd,k1,k2,k3, ?_,(cvL ?_).trans k5⟩
   ·rw[show m+1-1=m by omega,e1]at k4;omega
   ·unfold H0;dsimp only;try simp only[gPi,gSS,gPb,gPm,gPs,gM,gM2,AJ,gOr,AK,AP,gAA,gAO,gOA,gOO,AG,AI,AL,AO,AH,AM,gId]
    try simp only[Bd,Be,Bf,Bg,Bh,Bi,Bj,Bk,gId,Bc,gMb,gMm,gBm,gBb,bs,ms]
    rw[GJ hy ⟨h1,h2⟩,bs,Al (show(n:Int)≥(mdN y m:Int) by omega),if_pos rfl,bs,w1,w2]
  ·refine⟨m,n,h1,h2,by omega,Nat.add_comm _ _,cvR ?_⟩;unfold H0;dsimp only;try simp only[gPi,gSS,gPb,gPm,gPs,gM,gM2,AJ,gOr,AK,AP,gAA,gAO,gOA,gOO,AG,AI,AL,AO,AH,AM,gId]
   try simp only[Bd,Be,Bf,Bg,Bh,Bi,Bj,Bk,gId,Bc,gMb,gMm,gBm,gBb,bs,ms]
   rw[GJ hy ⟨h1,h2⟩,bs,Ak (show ¬((n:Int)≥(mdN y m:Int)) by omega),if_neg (by decide)]
theorem JG{y:Nat}:∀m,msN y m≤31*m
 |0=>by simp[msN]
 |m+1=>by
  have:=JG (y:=y) m
  have h:mdN y (m+1)≤31:=by
   unfold mdN;split
   ·omega
   ·have:∀k,Fm.getD k 0≤31:=fun k=>by
     by_cases hk:k<12
     ·have:∀k,k<12→Fm.getD k 0≤31:=by decide
      exact this k hk
     ·rw[List.getD_eq_getElem?_getD,List.getElem?_eq_none (by have:Fm.length=12:=rfl;omega)];simp
    exact this _
  show msN y m+mdN y (m+1)≤_;omega
theorem LJ(d:Int):H3 d=some (decide (-25567≤d∧d≤84005)):=by
 unfold H3;dsimp only;try simp only[gPi,gSS,gPb,gPm,gPs,gM,gM2,AJ,gOr,AK,AP,gAA,gAO,gOA,gOO,AG,AI,AL,AO,AH,AM,gId]
 try simp only[Bd,Be,Bf,Bg,Bh,Bi,Bj,Bk,gId,Bc,gMb,gMm,gBm,gBb,bs,ms]
 by_cases h1: -25567≤d
 ·by_cases h2:d≤84005
  ·rw[Al (show d≥ -25567 from h1),if_pos rfl,Al (show d<84006 by omega),Al ⟨h1,h2⟩]
  ·rw[Al (show d≥ -25567 from h1),if_pos rfl,Ak (show ¬(d<84006) by omega),Ak (fun h=>h2 h.2)]
 ·rw[Ak (show ¬(d≥ -25567)from h1),if_neg (by decide),Ak (fun h=>h1 h.1)]
structure IE (d:Int) (Y M dd:Nat):Prop where
 y:1900≤Y∧Y≤2199
 m:1≤M∧M≤12
 dl:dd<mdN Y M
 n:d+25567=((stN Y+msN Y (M-1)+dd:Nat):Int)
 to:FH d=some ((Y:Int),(M:Int),((dd+1:Nat):Int))
theorem Id(y m:Nat):mdN y (m+1)≤31:=by
 unfold mdN;split
 ·omega
 ·by_cases hk:m<12
  ·have:∀k,k<12→Fm.getD k 0≤31:=by decide
   exact this _ hk
  ·rw[List.getD_eq_getElem?_getD,List.getElem?_eq_none (by have:Fm.length=12:=rfl;omega)];simp
theorem KK{d:Int}(h: -25567≤d∧d≤84005):∃Y M dd,IE d Y M dd:=by
 obtain⟨n,hn⟩:=Int.eq_ofNat_of_zero_le (show 0≤d- -25567 by omega);have hn2:n<109573:=by omega
 have h0:stN (1900+n/366)≤n:=by
  have:=QD (n/366) (by omega);omega
 obtain⟨Y,y1,y2,y3,y4,y5⟩:=W2 (a:=0) (b:=0) (c:=0) hn2 300 (1900+n/366) (by omega) (by omega) (by omega) h0;have hnx:=I7 ⟨y1,y2⟩;have hms:=JG (y:=Y) 12
 obtain⟨M,dd,m1,m2,m3,m4,m5⟩:=Ul (a:=0) (b:=0) (c:=0) ⟨y1,y2⟩ 12 1 (n-stN Y) (by omega) (by omega) (by omega) (by omega) (by
  have:msN Y (1-1)=0:=rfl
  omega)
 have e0:msN Y (1-1)=0:=rfl
 have hd31:mdN Y M≤31:=by
  obtain⟨k,rfl⟩:∃k,M=k+1:=⟨M-1,by omega⟩;exact Id Y k
 refine⟨Y,M,dd,⟨y1,y2⟩,⟨m1,m2⟩,m3,by omega, ?_⟩;unfold FH;dsimp only;try simp only[gPi,gSS,gPb,gPm,gPs,gM,gM2,AJ,gOr,AK,AP,gAA,gAO,gOA,gOO,AG,AI,AL,AO,AH,AM,gId]
 try simp only[Bd,Be,Bf,Bg,Bh,Bi,Bj,Bk,gId,Bc,gMb,gMm,gBm,gBb,bs,ms]
 have w1:i64.wrap (d- -25567)=(n:Int):=by rw[hn];exact AD (by omega) (by omega)
 have t1:(n:Int).tdiv 366=((n/366:Nat):Int):=by rw[Int.tdiv_eq_ediv_of_nonneg (by omega)];rfl
 have w2:i64.wrap (1900+((n/366:Nat):Int))=((1900+n/366:Nat):Int):=by rw[AD (by omega) (by omega)];omega
 rw[LJ,bs,Al h,if_neg (by decide),if_neg (by decide),bs,w1,t1,AD (n:=((n/366:Nat):Int)) (by omega) (by omega),w2];rw[y5,bs];dsimp only;have w3:i64.wrap ((n:Int)-(stN Y:Int))=((n-stN Y:Nat):Int):=by rw[AD (by omega) (by omega)];omega
 rw[I6 ⟨by omega,by omega⟩,bs,w3];rw[show((1:Nat):Int)=(1:Int)from rfl]at m5;rw[m5,bs];dsimp only;have w4:i64.wrap ((dd:Int)+1)=((dd+1:Nat):Int):=by rw[AD (by omega) (by omega)];omega
 rw[w4]
theorem Uy{y M D:Nat}(hy:1900≤y∧y≤2199)(hM:M≤12):∀(j m n:Nat),1≤m→m≤M→M-m≤j→n+31*j≤1000000→iter Hz ((n:Int),(m:Int),(y:Int),(M:Int),(D:Int),(),(),())=some (((n+(msN y (M-1)-msN y (m-1)):Nat):Int),(y:Int),(M:Int),(D:Int),(),(),()):=by
 intro j
 induction j with
 |zero=>
  intro m n h1 h2 h3 hn;have:m=M:=by omega
  subst this;refine cvR ?_;unfold Hz;dsimp only;rw[Ak (by omega),if_neg (by decide)];simp
 |succ j ih=>
  intro m n h1 h2 h3 hn;by_cases h:m=M
  ·subst h;refine cvR ?_;unfold Hz;dsimp only;rw[Ak (by omega),if_neg (by decide)];simp
  ·have e1:msN y m=msN y (m-1)+mdN y m:=by
    cases m with
    |zero=>omega
    |succ m=>rfl
   have hmono:∀k i,msN y i≤msN y (i+k):=by
    intro k
    induction k with
    |zero=>intro i;exact Nat.le_refl _
    |succ k ihk=>intro i;have:=ihk i;show msN y i≤msN y (i+k)+mdN y (i+k+1);omega
   have hle:=hmono (M-1-m) m;rw[show m+(M-1-m)=M-1 by omega]at hle;have hms:=JG (y:=y) (M-1)
   have h31:mdN y m≤31:=by
    obtain⟨k,rfl⟩:∃k,m=k+1:=⟨m-1,by omega⟩;exact Id y k
   have w1:i64.wrap ((n:Int)+(mdN y m:Int))=((n+mdN y m:Nat):Int):=by rw[AD (by omega) (by omega)];omega
   have w2:i64.wrap ((m:Int)+1)=((m+1:Nat):Int):=by rw[AD (by omega) (by omega)];omega
   refine(cvL (s':=(((n+mdN y m:Nat):Int),((m+1:Nat):Int),(y:Int),(M:Int),(D:Int),(),(),())) ?_).trans ?_
   ·unfold Hz;dsimp only;try simp only[gPi,gSS,gPb,gPm,gPs,gM,gM2,AJ,gOr,AK,AP,gAA,gAO,gOA,gOO,AG,AI,AL,AO,AH,AM,gId]
    try simp only[Bd,Be,Bf,Bg,Bh,Bi,Bj,Bk,gId,Bc,gMb,gMm,gBm,gBb,bs,ms]
    rw[Al (show(m:Int)<(M:Int) by omega),if_pos rfl,GJ hy ⟨h1,by omega⟩,bs,w1,w2]
   ·rw[ih (m+1) (n+mdN y m) (by omega) (by omega) (by omega) (by omega),show m+1-1=m by omega];have e2:n+mdN y m+(msN y (M-1)-msN y m)=n+(msN y (M-1)-msN y (m-1)):=by omega
    rw[e2]
theorem Nv{d:Int}{Y M dd:Nat}(hd: -25567≤d∧d≤84005)(h:IE d Y M dd):DQ ((Y:Int),(M:Int),((dd+1:Nat):Int))=some (d,0):=by
 have hn:=h.n;have hms:=JG (y:=Y) (M-1);have h1:=h.y;have h2:=h.m;have h3:=h.dl
 have hst:stN Y≤366*300:=by
  have:=QD (Y-1900) (by omega);rw[show 1900+(Y-1900)=Y by omega]at this;omega
 have h31:mdN Y M≤31:=by
  obtain⟨k,hk⟩:∃k,M=k+1:=⟨M-1,by omega⟩;rw[hk];exact Id Y k
 unfold DQ;dsimp only;try simp only[gPi,gSS,gPb,gPm,gPs,gM,gM2,AJ,gOr,AK,AP,gAA,gAO,gOA,gOO,AG,AI,AL,AO,AH,AM,gId]
 try simp only[Bd,Be,Bf,Bg,Bh,Bi,Bj,Bk,gId,Bc,gMb,gMm,gBm,gBb,bs,ms]
 rw[Ak (show ¬(((dd+1:Nat):Int)<1) by omega),if_neg (by decide),GJ h.y h.m,bs,bs,Ak (show ¬(((dd+1:Nat):Int)>(mdN Y M:Int)) by omega),if_neg (by decide),I6 ⟨by omega,by omega⟩,bs];have w1:i64.wrap ((stN Y:Int)+((dd+1:Nat):Int))=((stN Y+dd+1:Nat):Int):=by rw[AD (by omega) (by omega)];omega
 have w2:i64.wrap (((stN Y+dd+1:Nat):Int)-1)=((stN Y+dd:Nat):Int):=by rw[AD (by omega) (by omega)];omega
 have hl:=Uy (D:=dd+1) h.y (by omega:M≤12) 12 1 (stN Y+dd) (by omega) (by omega) (by omega) (by omega);have e0:msN Y (1-1)=0:=rfl;rw[e0,show((1:Nat):Int)=(1:Int)from rfl]at hl;rw[w1,w2,hl,bs];dsimp only;have w3:i64.wrap (((stN Y+dd+(msN Y (M-1)-0):Nat):Int)+ -25567)=d:=by rw[AD (by omega) (by omega)];omega
 rw[w3,h.to,bs];have e1:(!((Y:Int)==(Y:Int)&&((M:Int)==(M:Int)&&((dd+1:Nat):Int)==((dd+1:Nat):Int))))=false:=by simp
 dsimp only;rw[e1,if_neg (by decide)]
theorem Vk{d:Nat}(h:d<10):(Utf8.encode (IntKind.i32.wrap (i64.wrap (48+(d:Int))))).data.toList= [dg9 d]:=by
 have:∀k:Fin 10,(Utf8.encode (IntKind.i32.wrap (i64.wrap (48+(k.val:Int))))).data.toList= [dg9 k.val]:=by decide
 exact this ⟨d,h⟩
theorem G3{n:Nat}{s:List UInt8}{many i:Int}(hn:n≤1000000)(hs:s.length≤1000)(hi:i<many)(hi2:0≤i∧i≤1000):H2 ((n:Int),s,many,i,())=some (.inl (((n/10:Nat):Int),dg9 (n % 10)::s,many,i+1,())):=by
 unfold H2;dsimp only;try simp only[gPi,gSS,gPb,gPm,gPs,gM,gM2,AJ,gOr,AK,AP,gAA,gAO,gOA,gOO,AG,AI,AL,AO,AH,AM,gId]
 try simp only[Bd,Be,Bf,Bg,Bh,Bi,Bj,Bk,gId,Bc,gMb,gMm,gBm,gBb,bs,ms]
 have h1:(n:Int).tmod 10=((n % 10:Nat):Int):=by rw[Int.tmod_eq_emod_of_nonneg (by omega)];rfl
 have h2:(n:Int).tdiv 10=((n/10:Nat):Int):=by rw[Int.tdiv_eq_ediv_of_nonneg (by omega)];rfl
 rw[Al hi,if_pos rfl,if_neg (by decide),bs,h1,Vk (Nat.mod_lt _ (by decide)),if_pos (by simp;omega),if_neg (by decide),bs,h2,AD (n:=((n/10:Nat):Int)) (by omega) (by omega),AD (n:=i+1) (by omega) (by omega)];rfl
theorem Ol{n:Int}{s:List UInt8}{many:Int}:H2 (n,s,many,many,())=some (.inr (s,())):=by
 unfold H2;dsimp only;rw[Ak (by omega),if_neg (by decide)]
def dg2(n:Nat):List UInt8:= [dg9 (n/10 % 10),dg9 (n % 10)]
def dg4(n:Nat):List UInt8:= [dg9 (n/10/10/10 % 10),dg9 (n/10/10 % 10),dg9 (n/10 % 10),dg9 (n % 10)]
theorem Je{n:Nat}(hn:n≤1000000):EY ((n:Int),2)=some (dg2 n):=by
 unfold EY;dsimp only;rw[cvL (G3 hn (by decide) (by decide) (by decide)),show(0:Int)+1=1 from rfl,cvL (G3 (by omega) (by simp) (by decide) (by decide)),show(1:Int)+1=2 from rfl,cvR Ol,bs];rfl
theorem Om{n:Nat}(hn:n≤1000000):EY ((n:Int),4)=some (dg4 n):=by
 unfold EY;dsimp only;rw[cvL (G3 hn (by decide) (by decide) (by decide)),show(0:Int)+1=1 from rfl,cvL (G3 (by omega) (by simp) (by decide) (by decide)),show(1:Int)+1=2 from rfl,cvL (G3 (by omega) (by simp) (by decide) (by decide)),show(2:Int)+1=3 from rfl,cvL (G3 (by omega) (by simp) (by decide) (by decide)),show(3:Int)+1=4 from rfl,cvR Ol,bs];rfl
theorem P2:∀(D:List UInt8) (n:Nat),BL (fun n b=>if dgt b=true then(Sum.inl (n*10+(b.toNat-48)):Nat⊕((Int×Unit)⊕(Int×Bool)))else .inr (.inr (0,false))) (fun n=>.inl ((n:Int),())) n D=if D.all dgt=true then .inl ((AT n D:Int),())else .inr (0,false)
 | [],n=>rfl
 |b::D,n=>by
  rw[BL,List.all_cons]
  cases h:dgt b with
  |false=>rw[if_neg (by decide),Bool.false_and,if_neg (by decide)]
  |true=>rw[if_pos rfl,Bool.true_and];exact P2 D _
theorem Gw{D:List UInt8}(hD:D.length≤9):Ej D=some (if D.all dgt=true then((AT 0 D:Int),true)else(0,false)):=by
 unfold Ej;dsimp only;try simp only[gPi,gSS,gPb,gPm,gPs,gM,gM2,AJ,gOr,AK,AP,gAA,gAO,gOA,gOO,AG,AI,AL,AO,AH,AM,gId]
 try simp only[Bd,Be,Bf,Bg,Bh,Bi,Bj,Bk,gId,Bc,gMb,gMm,gBm,gBb,bs,ms]
 rw[if_pos (by omega)];generalize hL:List.map (fun b:UInt8=>(b.toNat:Int)) D=L;have hlen:L.length=D.length:=by rw[←hL];simp
 have key:=Jw (b:=IT) (α:=UInt8) (A:=Nat) (fun k n=>((n:Int),L,(L.length:Int),(k:Int),())) (fun n b=>if dgt b=true then(Sum.inl (n*10+(b.toNat-48)):Nat⊕((Int×Unit)⊕(Int×Bool)))else .inr (.inr (0,false))) (fun n=>.inl ((n:Int),())) (fun i n=>n<10^i) D (a:=0) (by decide) (fun i b n hx hn=>by
   have hi:=(Ae.1 hx).1;have hn':n<10^9:=Nat.lt_of_lt_of_le hn (Nat.pow_le_pow_right (by decide) (by omega));have hp:(10:Nat)^9=1000000000:=rfl;have hx':L[i]? =some (b.toNat:Int):=by rw[←hL,List.getElem?_map,hx];rfl
   unfold IT;dsimp only;try simp only[gPi,gSS,gPb,gPm,gPs,gM,gM2,AJ,gOr,AK,AP,gAA,gAO,gOA,gOO,AG,AI,AL,AO,AH,AM,gId]
   try simp only[Bd,Be,Bf,Bg,Bh,Bi,Bj,Bk,gId,Bc,gMb,gMm,gBm,gBb,bs,ms]
   rw[Cu hx',if_pos rfl];simp only[Bn hx',bs];by_cases hd:dgt b=true
   ·have hb:=C0.1 hd;rw[Ak (show ¬((b.toNat:Int)<48) by omega),if_neg (by decide),bs,Ak (show ¬((b.toNat:Int)>57) by omega),if_neg (by decide),if_pos hd];have u:u8.wrap ((b.toNat:Int)-48)=(b.toNat:Int)-48:=by rw[IntKind.wrap_u8];omega
    rw[u,AD (n:=(b.toNat:Int)-48) (by omega) (by omega),AD (n:=10*(n:Int)) (by omega) (by omega),AD (by omega) (by omega),BN (by omega)];have e:10*(n:Int)+((b.toNat:Int)-48)=((n*10+(b.toNat-48):Nat):Int):=by omega
    rw[e];rfl
   ·rw[if_neg hd];by_cases h1:(b.toNat:Int)<48
    ·rw[Al h1];rfl
    ·have h2:(b.toNat:Int)>57:=by
      refine Classical.byContradiction fun h2=>hd (C0.2 ⟨by omega,by omega⟩)
     rw[Ak h1,if_neg (by decide),bs,Al h2];rfl) (fun i b n n' _ hn hst=>by
   split at hst
   ·rename_i hd;have hb:=C0.1 hd;cases hst;rw[Nat.pow_succ];omega
   ·cases hst) (fun _ _=>by
   unfold IT;dsimp only
   rw[←hlen,DF,if_neg (by decide)])
 rw[P2]at key;rw[show(0:Int)=((0:Nat):Int)from rfl,key,bs];cases D.all dgt<;>rfl
theorem Fg{n:Nat}(h:n<100):(dg2 n).all dgt=true∧AT 0 (dg2 n)=n:=by
 have a:=D6 (show n/10 % 10<10 by omega);have b:=D6 (show n % 10<10 by omega);refine⟨by simp[dg2,DT (show n/10 % 10<10 by omega),DT (show n % 10<10 by omega)], ?_⟩;simp only[AT,dg2,List.foldl_cons,List.foldl_nil,a,b];omega
theorem Jc{n:Nat}(h:n<10000):(dg4 n).all dgt=true∧AT 0 (dg4 n)=n:=by
 have a:=D6 (show n/10/10/10 % 10<10 by omega);have b:=D6 (show n/10/10 % 10<10 by omega);have c:=D6 (show n/10 % 10<10 by omega);have d:=D6 (show n % 10<10 by omega);refine⟨by simp[dg4,DT (show n/10/10/10 % 10<10 by omega),DT (show n/10/10 % 10<10 by omega),DT (show n/10 % 10<10 by omega),DT (show n % 10<10 by omega)], ?_⟩;simp only[AT,dg4,List.foldl_cons,List.foldl_nil,a,b,c,d];omega
def D5(Y M D:Nat):List UInt8:=dg4 Y++ [45]++dg2 M++ [45]++dg2 D
theorem So{d:Int}(hd: -25567≤d∧d≤84005):∃Y M D,E1 d=some (D5 Y M D)∧CJ (D5 Y M D)=some (d,0):=by
 obtain⟨Y,M,dd,h⟩:=KK hd;have h1:=h.y;have h2:=h.m;have h3:=h.dl
 have h31:mdN Y M≤31:=by
  obtain⟨k,hk⟩:∃k,M=k+1:=⟨M-1,by omega⟩;rw[hk];exact Id Y k
 refine⟨Y,M,dd+1, ?_, ?_⟩
 ·unfold E1;dsimp only;try simp only[gPi,gSS,gPb,gPm,gPs,gM,gM2,AJ,gOr,AK,AP,gAA,gAO,gOA,gOO,AG,AI,AL,AO,AH,AM,gId]
  try simp only[Bd,Be,Bf,Bg,Bh,Bi,Bj,Bk,gId,Bc,gMb,gMm,gBm,gBb,bs,ms]
  rw[LJ,bs,Al hd,if_neg (by decide),h.to,bs];dsimp only;rw[Om (by omega),bs,if_pos (by simp[dg4]),Je (by omega),bs,if_pos (by simp[dg4,dg2]),if_pos (by simp[dg4,dg2]),Je (by omega),bs,if_pos (by simp[dg4,dg2])];rfl
 ·have n1:=Jc (n:=Y) (by omega);have n2:=Fg (n:=M) (by omega);have n3:=Fg (n:=dd+1) (by omega);have l1:(dg4 Y).length=4:=rfl;have l2:(dg2 M).length=2:=rfl;have l3:(dg2 (dd+1)).length=2:=rfl;unfold CJ D5;generalize dg4 Y=A at*;generalize dg2 M=B at*;generalize dg2 (dd+1)=C at*;dsimp only;try simp only[gPi,gSS,gPb,gPm,gPs,gM,gM2,AJ,gOr,AK,AP,gAA,gAO,gOA,gOO,AG,AI,AL,AO,AH,AM,gId]
  try simp only[Bd,Be,Bf,Bg,Bh,Bi,Bj,Bk,gId,Bc,gMb,gMm,gBm,gBb,bs,ms]
  match A,l1 with
  | [a1,a2,a3,a4],_=>
   match B,l2 with
   | [b1,b2],_=>
    match C,l3 with
    | [c1,c2],_=>
     have s4:sAt ([a1,a2,a3,a4]++ [45]++ [b1,b2]++ [45]++ [c1,c2]) 4=some (((45:UInt8).toNat:Nat):Int):=Er (i:=4) rfl;have s7:sAt ([a1,a2,a3,a4]++ [45]++ [b1,b2]++ [45]++ [c1,c2]) 7=some (((45:UInt8).toNat:Nat):Int):=Er (i:=7) rfl;have u1:B2 ([a1,a2,a3,a4]++ [45]++ [b1,b2]++ [45]++ [c1,c2]) 0 4=some [a1,a2,a3,a4]:=DE (i:=0) (j:=4) (by omega) (by simp);have u2:B2 ([a1,a2,a3,a4]++ [45]++ [b1,b2]++ [45]++ [c1,c2]) 5 7=some [b1,b2]:=DE (i:=5) (j:=7) (by omega) (by simp);have u3:B2 ([a1,a2,a3,a4]++ [45]++ [b1,b2]++ [45]++ [c1,c2]) 8 ((([a1,a2,a3,a4]++ [45]++ [b1,b2]++ [45]++ [c1,c2]:List UInt8).length:Nat):Int)=some [c1,c2]:=DE (i:=8) (j:=10) (by omega) (by simp);rw[if_neg (by simp),s4,bs,bs,if_neg (by decide),s7,bs,bs,if_neg (by decide),u1,bs,Gw (by simp),bs,u2,bs,Gw (by simp),bs,u3,bs,Gw (by simp),bs];rw[n1.1,n2.1,n3.1];simp only[if_true,Bool.not_true,Ag,if_false,bs];rw[n1.2,n2.2,n3.2,Nv hd h,bs]
theorem Sj(Y M D:Nat):∀b∈D5 Y M D,dgt b=true∨b=45:=by
 intro b hb;have h:∀n,dgt (dg9 (n % 10))=true:=fun n=>DT (Nat.mod_lt _ (by decide));simp only[D5,dg4,dg2,List.mem_append,List.mem_cons,List.not_mem_nil,or_false]at hb;rcases hb with((((rfl|rfl|rfl|rfl)|rfl)|rfl|rfl)|rfl)|rfl|rfl<;>first|exact .inl (h _)|exact .inr rfl
theorem Sk(Y M D:Nat):(D5 Y M D).length=10:=rfl
set_option linter.unusedSimpArgs false
set_option linter.unusedVariables false
theorem If(y:Nat):∀{a b:Nat},a≤b→msN y a≤msN y b:=by
 intro a b h
 induction h with
 |refl=>exact Nat.le_refl _
 |step _ ih=>exact Nat.le_trans ih (Nat.le_add_right _ _)
theorem Ku:∀(k y:Nat),1900≤y→y+k≤2200→stN y≤stN (y+k)
 |0,y,_,_=>Nat.le_refl _
 |k+1,y,h1,h2=>by
  have:=Ku k y h1 (by omega);have:=I7 (y:=y+k) ⟨by omega,by omega⟩;rw[show y+(k+1)=y+k+1 by omega];omega
theorem Mp{y m dd:Nat}(hm:1≤m∧m≤12)(hd:dd<mdN y m):msN y (m-1)+dd<msN y m:=by
 obtain⟨k,rfl⟩:∃k,m=k+1:=⟨m-1,by omega⟩;show msN y k+dd<msN y k+mdN y (k+1);omega
theorem Sm{Y M dd Y' M' dd':Nat}(hY:1900≤Y∧Y≤2199)(hM:1≤M∧M≤12)(hd:dd<mdN Y M)(hY':1900≤Y'∧Y'≤2199)(hM':1≤M'∧M'≤12)(hd':dd'<mdN Y' M')(h:stN Y+msN Y (M-1)+dd=stN Y'+msN Y' (M'-1)+dd'):Y=Y'∧M=M'∧dd=dd':=by
 have a1:=Mp hM hd;have a2:=Mp hM' hd';have b1:=If Y hM.2;have b2:=If Y' hM'.2;have c1:=I7 hY;have c2:=I7 hY'
 have e:Y=Y':=by
  rcases Nat.lt_trichotomy Y Y' with h1|h1|h1
  ·have:=Ku (Y'-(Y+1)) (Y+1) (by omega) (by omega);rw[show Y+1+(Y'-(Y+1))=Y' by omega]at this;omega
  ·exact h1
  ·have:=Ku (Y-(Y'+1)) (Y'+1) (by omega) (by omega);rw[show Y'+1+(Y-(Y'+1))=Y by omega]at this;omega
 subst e
 have e:M=M':=by
  rcases Nat.lt_trichotomy M M' with h1|h1|h1
  ·have:=If Y (show M≤M'-1 by omega);omega
  ·exact h1
  ·have:=If Y (show M'≤M-1 by omega);omega
 subst e;exact⟨rfl,rfl,by omega⟩
def Fc(Y M D:Nat):Int:=((stN Y+msN Y (M-1)+(D-1):Nat):Int)-25567
def ES(Y M D:Nat):Prop:=(1900≤Y∧Y≤2199)∧(1≤M∧M≤12)∧1≤D∧D≤mdN Y M
theorem JF{y m:Nat}(hm:1≤m):mdN y m≤31:=by
 obtain⟨k,rfl⟩:∃k,m=k+1:=⟨m-1,by omega⟩;exact Id y k
theorem Oh{Y M D:Nat}(h:ES Y M D): -25567≤Fc Y M D∧Fc Y M D≤84005:=by
 obtain⟨hY,hM,h1,h2⟩:=h;have a1:=Mp (y:=Y) (dd:=D-1) hM (by omega);have b1:=If Y hM.2;have c1:=I7 hY;have:=Ku (2200-(Y+1)) (Y+1) (by omega) (by omega);rw[show Y+1+(2200-(Y+1))=2200 by omega,Kt]at this;unfold Fc;omega
theorem Sl{Y M D:Nat}(h:ES Y M D):IE (Fc Y M D) Y M (D-1):=by
 obtain⟨Y',M',dd',hd⟩:=KK (Oh h);have hn:=hd.n;unfold Fc at hn;obtain⟨hY,hM,h1,h2⟩:=h;obtain⟨e1,e2,e3⟩:=Sm hY hM (show D-1<mdN Y M by omega) hd.y hd.m hd.dl (by omega);subst e1 e2 e3;exact hd
def IsD(w:List UInt8)(d:Int):Prop:=∃Y M D,ES Y M D∧w=D5 Y M D∧d=Fc Y M D
theorem Sn{d:Int}{Y M dd:Nat}(hd: -25567≤d∧d≤84005)(h:IE d Y M dd):E1 d=some (D5 Y M (dd+1)):=by
 have h1:=h.y;have h2:=h.m;have h3:=h.dl;have h31:=JF (y:=Y) h2.1;unfold E1;dsimp only;try simp only[gPi,gSS,gPb,gPm,gPs,gM,gM2,AJ,gOr,AK,AP,gAA,gAO,gOA,gOO,AG,AI,AL,AO,AH,AM,gId]
 try simp only[Bd,Be,Bf,Bg,Bh,Bi,Bj,Bk,gId,Bc,gMb,gMm,gBm,gBb,bs,ms]
 rw[LJ,bs,Al hd,if_neg (by decide),h.to,bs];dsimp only;rw[Om (by omega),bs,if_pos (by simp[dg4]),Je (by omega),bs,if_pos (by simp[dg4,dg2]),if_pos (by simp[dg4,dg2]),Je (by omega),bs,if_pos (by simp[dg4,dg2])];rfl
theorem IsD.of{d:Int}(h: -25567≤d∧d≤84005):∃w,E1 d=some w∧IsD w d:=by
 obtain⟨Y,M,dd,hd⟩:=KK h;have h1:=hd.dl;refine⟨_,Sn h hd,Y,M,dd+1,⟨hd.y,hd.m,by omega,by omega⟩,rfl, ?_⟩;have hn:=hd.n;unfold Fc;omega
theorem Uj(y m:Nat):E0 ((y:Int),(m:Int))=some ((if(1900≤y∧y≤2199)∧(1≤m∧m≤12)then mdN y m else 0:Nat):Int):=by
 by_cases h:(1900≤y∧y≤2199)∧(1≤m∧m≤12)
 ·rw[if_pos h];exact GJ h.1 h.2
 ·rw[if_neg h];unfold E0;dsimp only;by_cases h1:(y:Int)<1900
  ·rw[Al h1];rfl
  by_cases h2:(y:Int)>2199
  ·rw[Ak h1,Al h2];rfl
  by_cases h3:(m:Int)<1
  ·rw[Ak h1,Ak h2,Al h3];rfl
  ·rw[Ak h1,Ak h2,Ak h3,Al (show(m:Int)>12 by omega)];rfl
theorem Ro{y m d:Nat}(h:¬ES y m d):DQ ((y:Int),(m:Int),(d:Int))=some (0,15):=by
 unfold DQ;dsimp only;try simp only[gPi,gSS,gPb,gPm,gPs,gM,gM2,AJ,gOr,AK,AP,gAA,gAO,gOA,gOO,AG,AI,AL,AO,AH,AM,gId]
 try simp only[Bd,Be,Bf,Bg,Bh,Bi,Bj,Bk,gId,Bc,gMb,gMm,gBm,gBb,bs,ms]
 by_cases h1:(d:Int)<1
 ·rw[Al h1];rfl
 ·rw[Ak h1,if_neg (by decide),Uj,bs]
  have:((d:Int)>((if(1900≤y∧y≤2199)∧(1≤m∧m≤12)then mdN y m else 0:Nat):Int)):=by
   split
   ·rename_i hh;have:¬(d≤mdN y m):=fun hc=>h ⟨hh.1,hh.2,by omega,hc⟩;omega
   ·omega
  rw[Al this,bs];rfl
theorem Rn(y m d:Nat):(ES y m d∧DQ ((y:Int),(m:Int),(d:Int))=some (Fc y m d,0))∨(¬ES y m d∧DQ ((y:Int),(m:Int),(d:Int))=some (0,15)):=by
 by_cases h:ES y m d
 ·left;refine⟨h, ?_⟩;have:=Nv (Oh h) (Sl h);rw[show d-1+1=d by have:=h.2.2.1;omega]at this;exact this
 ·exact .inr ⟨h,Ro h⟩
theorem G2{b:UInt8}(h:dgt b=true):dg9 (b.toNat-48)=b:=by
 have:=C0.1 h;unfold dg9;apply UInt8.toNat.inj;show(48+(b.toNat-48))% 256=b.toNat
 omega
theorem Ok{a b:UInt8}(ha:dgt a=true)(hb:dgt b=true):AT 0 [a,b]<100∧dg2 (AT 0 [a,b])= [a,b]:=by
 have h1:=C0.1 ha;have h2:=C0.1 hb;have e:AT 0 [a,b]=(a.toNat-48)*10+(b.toNat-48):=by simp[AT]
 rw[e];refine⟨by omega, ?_⟩;unfold dg2;rw[show((a.toNat-48)*10+(b.toNat-48))/10 % 10=a.toNat-48 by omega,show((a.toNat-48)*10+(b.toNat-48))% 10=b.toNat-48 by omega,G2 ha,G2 hb]
theorem Sv{a b c d:UInt8}(ha:dgt a=true)(hb:dgt b=true)(hc:dgt c=true)(hd:dgt d=true):AT 0 [a,b,c,d]<10000∧dg4 (AT 0 [a,b,c,d])= [a,b,c,d]:=by
 have h1:=C0.1 ha;have h2:=C0.1 hb;have h3:=C0.1 hc;have h4:=C0.1 hd;have e:AT 0 [a,b,c,d]=(((a.toNat-48)*10+(b.toNat-48))*10+(c.toNat-48))*10+(d.toNat-48):=by simp[AT]
 rw[e];generalize he:(((a.toNat-48)*10+(b.toNat-48))*10+(c.toNat-48))*10+(d.toNat-48)=n;refine⟨by omega, ?_⟩;unfold dg4;rw[show n/10/10/10 % 10=a.toNat-48 by omega,show n/10/10 % 10=b.toNat-48 by omega,show n/10 % 10=c.toNat-48 by omega,show n % 10=d.toNat-48 by omega,G2 ha,G2 hb,G2 hc,G2 hd]
def KH(w:List UInt8)(A B C:List UInt8):Prop:=w=A++ [45]++B++ [45]++C∧A.length=4∧B.length=2∧C.length=2
theorem Th{w:List UInt8}(h:w.length=10)(h4:w[4]? =some 45)(h7:w[7]? =some 45):∃A B C,KH w A B C:=by
 match w,h with
 | [a1,a2,a3,a4,p,b1,b2,q,c1,c2],_=>
  simp only[List.getElem?_cons_succ,List.getElem?_cons_zero,Ac]at h4 h7;subst h4 h7;exact⟨[a1,a2,a3,a4],[b1,b2],[c1,c2],rfl,rfl,rfl,rfl⟩
theorem Tj{w A B C:List UInt8}(h:KH w A B C)(hA:A.all dgt=true)(hB:B.all dgt=true)(hC:C.all dgt=true):w=D5 (AT 0 A) (AT 0 B) (AT 0 C):=by
 obtain⟨rfl,l1,l2,l3⟩:=h
 match A,l1 with
 | [a1,a2,a3,a4],_=>
  match B,l2 with
  | [b1,b2],_=>
   match C,l3 with
   | [c1,c2],_=>
    simp only[List.all_cons,List.all_nil,Bool.and_true,Af]at hA hB hC;unfold D5;rw[(Sv hA.1 hA.2.1 hA.2.2.1 hA.2.2.2).2,(Ok hB.1 hB.2).2,(Ok hC.1 hC.2).2]
theorem OM{w:List UInt8}{d:Int}(h:IsD w d):∃A B C,KH w A B C∧A.all dgt=true∧B.all dgt=true∧C.all dgt=true∧ES (AT 0 A) (AT 0 B) (AT 0 C):=by
 obtain⟨Y,M,D,h1,rfl,rfl⟩:=h;have h31:=JF (y:=Y) h1.2.1.1;have n1:=Jc (n:=Y) (by have:=h1.1;omega);have n2:=Fg (n:=M) (by have:=h1.2.1;omega);have n3:=Fg (n:=D) (by have:=h1.2.2;omega);refine⟨dg4 Y,dg2 M,dg2 D,⟨rfl,rfl,rfl,rfl⟩,n1.1,n2.1,n3.1, ?_⟩;rw[n1.2,n2.2,n3.2];exact h1
theorem IsD.uniq{w:List UInt8}{d d':Int}(h:IsD w d)(h':IsD w d'):d=d':=by
 obtain⟨Y,M,D,h1,e1,rfl⟩:=h;obtain⟨Y',M',D',h1',e1',rfl⟩:=h';have h31:=JF (y:=Y) h1.2.1.1;have h31':=JF (y:=Y') h1'.2.1.1;rw[e1]at e1';have n1:=Jc (n:=Y) (by have:=h1.1;omega);have n2:=Fg (n:=M) (by have:=h1.2.1;omega);have n3:=Fg (n:=D) (by have:=h1.2.2;omega);have m1:=Jc (n:=Y') (by have:=h1'.1;omega);have m2:=Fg (n:=M') (by have:=h1'.2.1;omega);have m3:=Fg (n:=D') (by have:=h1'.2.2;omega);unfold D5 at e1'
 have k1:dg4 Y=dg4 Y':=by
  have:=congrArg (List.take 4) e1';exact this
 have k2:dg2 M=dg2 M':=by
  have:=congrArg (fun l=>(l.drop 5).take 2) e1';exact this
 have k3:dg2 D=dg2 D':=by
  have:=congrArg (List.drop 8) e1';exact this
 rw[←n1.2,←n2.2,←n3.2,←m1.2,←m2.2,←m3.2,k1,k2,k3]
theorem Qu{w:List UInt8}{i:Nat}(h:i<w.length):sAt w (i:Int)=some ((w[i].toNat:Nat):Int):=Er (Ai h)
theorem KW{b:UInt8}:(((b.toNat:Nat):Int) !=45)=(b !=45):=by
 rw[Bool.eq_iff_iff,bne_iff_ne,bne_iff_ne];constructor
 ·intro h e;rw[e]at h;exact h rfl
 ·intro h e;apply h;apply UInt8.toNat.inj;show b.toNat=45;omega
theorem R6(w:List UInt8):(∃d,IsD w d∧CJ w=some (d,0))∨((∀d,¬IsD w d)∧∃e,e≠0∧CJ w=some (0,e)):=by
 by_cases hl:w.length=10
 case neg=>
  right;refine⟨fun d h=> ?_,3,by decide, ?_⟩
  ·obtain⟨Y,M,D,_,rfl,_⟩:=h;exact hl rfl
  ·unfold CJ;dsimp only;try simp only[gPi,gSS,gPb,gPm,gPs,gM,gM2,AJ,gOr,AK,AP,gAA,gAO,gOA,gOO,AG,AI,AL,AO,AH,AM,gId]
   try simp only[Bd,Be,Bf,Bg,Bh,Bi,Bj,Bk,gId,Bc,gMb,gMm,gBm,gBb,bs,ms]
   have c:((w.length:Int) !=10)=true:=by rw[bne_iff_ne];omega
   rw[c];rfl
 have c:((w.length:Int) !=10)=false:=by rw[bne_eq_false_iff_eq];omega
 by_cases h4:w[4]? =some 45
 case neg=>
  right;refine⟨fun d h=> ?_,3,by decide, ?_⟩
  ·obtain⟨Y,M,D,_,rfl,_⟩:=h;exact h4 rfl
  ·unfold CJ;dsimp only;try simp only[gPi,gSS,gPb,gPm,gPs,gM,gM2,AJ,gOr,AK,AP,gAA,gAO,gOA,gOO,AG,AI,AL,AO,AH,AM,gId]
   try simp only[Bd,Be,Bf,Bg,Bh,Bi,Bj,Bk,gId,Bc,gMb,gMm,gBm,gBb,bs,ms]
   have e4:sAt w 4=some ((w[4].toNat:Nat):Int):=Qu (i:=4) (by omega)
   have:(w[4] !=45)=true:=by
    rw[bne_iff_ne];intro e;apply h4;rw[Ai (by omega),e]
   rw[c,if_neg (by decide),e4,bs,KW,this];rfl
 have e4:sAt w 4=some (((45:UInt8).toNat:Nat):Int):=Er (i:=4) h4;by_cases h7:w[7]? =some 45
 case neg=>
  right;refine⟨fun d h=> ?_,3,by decide, ?_⟩
  ·obtain⟨Y,M,D,_,rfl,_⟩:=h;exact h7 rfl
  ·unfold CJ;dsimp only;try simp only[gPi,gSS,gPb,gPm,gPs,gM,gM2,AJ,gOr,AK,AP,gAA,gAO,gOA,gOO,AG,AI,AL,AO,AH,AM,gId]
   try simp only[Bd,Be,Bf,Bg,Bh,Bi,Bj,Bk,gId,Bc,gMb,gMm,gBm,gBb,bs,ms]
   have e7:sAt w 7=some ((w[7].toNat:Nat):Int):=Qu (i:=7) (by omega)
   have:(w[7] !=45)=true:=by
    rw[bne_iff_ne];intro e;apply h7;rw[Ai (by omega),e]
   rw[c,if_neg (by decide),e4,bs,KW];rw[show((45:UInt8) !=45)=false from rfl,bs,if_neg (by decide),e7,bs,KW,this];rfl
 have e7:sAt w 7=some (((45:UInt8).toNat:Nat):Int):=Er (i:=7) h7;obtain⟨A,B,C,hf⟩:=Th hl h4 h7;have hf0:=hf;obtain⟨hw,l1,l2,l3⟩:=hf
 have u1:B2 w 0 4=some A:=by
  rw[hw];refine(DE (i:=0) (j:=4) (by omega) (by simp;omega)).trans ?_;rw[List.drop_zero,←l1];simp
 have u2:B2 w 5 7=some B:=by
  rw[hw];refine(DE (i:=5) (j:=7) (by omega) (by simp;omega)).trans ?_
  match A,l1 with
  | [a1,a2,a3,a4],_=>
   match B,l2 with
   | [b1,b2],_=>rfl
 have u3:B2 w 8 (w.length:Int)=some C:=by
  rw[hl,hw];refine(DE (i:=8) (j:=10) (by omega) (by simp;omega)).trans ?_
  match A,l1 with
  | [a1,a2,a3,a4],_=>
   match B,l2 with
   | [b1,b2],_=>
    match C,l3 with
    | [c1,c2],_=>rfl
 have hp:CJ w=if A.all dgt&&B.all dgt&&C.all dgt then(DQ ((AT 0 A:Int),(AT 0 B:Int),(AT 0 C:Int))).bind fun x=>some (x.1,x.2)else some (0,3):=by
  unfold CJ;dsimp only;try simp only[gPi,gSS,gPb,gPm,gPs,gM,gM2,AJ,gOr,AK,AP,gAA,gAO,gOA,gOO,AG,AI,AL,AO,AH,AM,gId]
  try simp only[Bd,Be,Bf,Bg,Bh,Bi,Bj,Bk,gId,Bc,gMb,gMm,gBm,gBb,bs,ms]
  rw[c,if_neg (by decide),e4,bs,bs,if_neg (by decide),e7,bs,bs,if_neg (by decide),u1,bs,Gw (by omega),bs,u2,bs,Gw (by omega),bs,u3,bs,Gw (by omega),bs]
  cases A.all dgt with
  |false=>rfl
  |true=>
   cases B.all dgt with
   |false=>rfl
   |true=>
    cases C.all dgt with
    |false=>rfl
    |true=>rfl
 rw[hp]
 have not:(A.all dgt&&B.all dgt&&C.all dgt)=false→∀d,¬IsD w d:=fun hn d h=>by
  obtain⟨A',B',C',⟨hw',l1',l2',l3'⟩,a1,a2,a3,_⟩:=OM h;rw[hw]at hw';have k:=List.append_inj hw' (by simp[l1,l2,l1',l2']);have k2:=List.append_inj k.1 (by simp[l1,l2,l1',l2']);have k3:=List.append_inj k2.1 (by simp[l1,l1']);have k4:=List.append_inj k3.1 (by simp[l1,l1']);rw[k4.1,k3.2,k.2,a1,a2,a3]at hn;cases hn
 cases hall:(A.all dgt&&B.all dgt&&C.all dgt)with
 |false=>exact .inr ⟨not hall,3,by decide,by rw[if_neg (by decide)]⟩
 |true=>
  rw[if_pos rfl];simp only[Af]at hall;have hdt:=Tj hf0 hall.1.1 hall.1.2 hall.2;rcases Rn (AT 0 A) (AT 0 B) (AT 0 C)with⟨h1,h2⟩|⟨h1,h2⟩
  ·left;exact⟨_,⟨_,_,_,h1,hdt,rfl⟩,by rw[h2];rfl⟩
  ·right;refine⟨fun d h=> ?_,15,by decide,by rw[h2];rfl⟩;obtain⟨A',B',C',⟨hw',l1',l2',l3'⟩,_,_,_,h4⟩:=OM h;rw[hw]at hw';have k:=List.append_inj hw' (by simp[l1,l2,l1',l2']);have k2:=List.append_inj k.1 (by simp[l1,l2,l1',l2']);have k3:=List.append_inj k2.1 (by simp[l1,l1']);have k4:=List.append_inj k3.1 (by simp[l1,l1']);rw[←k4.1,←k3.2,←k.2]at h4;exact h1 h4
set_option maxRecDepth 100000
theorem DV{S T:Type}{b:S→Option (S⊕T)}{s:S}{t:T}(n:Nat)(h:Da b n s=some t):iter b s=some t:=GB.2 ⟨n,h⟩
theorem Ax{α β:Type}{x:Option α}{a:α}{f:α→Option β}{r:Option β}(h:x=some a)(h2:f a=r):x.bind f=r:=by rw[h];exact h2
theorem P0:Ej [48,49]=some (1,true):=by
 unfold Ej;refine Ax rfl ?_;dsimp only;exact Ax (DV 10 rfl) rfl
theorem Ur:Ej [50,48,50,54]=some (2026,true):=by
 unfold Ej;refine Ax rfl ?_;dsimp only;exact Ax (DV 10 rfl) rfl
theorem VQ:FH 20454=some (2026,1,1):=by
 unfold FH;dsimp only;refine Ax rfl ?_;rw[if_neg (by decide)];refine Ax rfl ?_;refine Ax (DV 10 rfl) ?_;dsimp only;refine Ax rfl ?_;exact Ax (DV 20 rfl) rfl
theorem Ux:DQ (2026,1,1)=some (20454,0):=by
 unfold DQ;dsimp only;refine Ax rfl ?_;refine Ax rfl ?_;refine Ax rfl ?_;refine Ax rfl ?_;refine Ax rfl ?_;refine Ax rfl ?_;rw[if_neg (by decide)];refine Ax rfl ?_;refine Ax (DV 20 rfl) ?_;exact Ax VQ rfl
theorem U7:CJ [50,48,50,54,45,48,49,45,48,49]=some (20454,0):=by
 unfold CJ;dsimp only;refine Ax rfl ?_;refine Ax rfl ?_;refine Ax rfl ?_;refine Ax rfl ?_;refine Ax rfl ?_;refine Ax rfl ?_;rw[if_neg (by decide)];refine Ax rfl ?_;refine Ax Ur ?_;refine Ax rfl ?_;refine Ax P0 ?_;refine Ax rfl ?_;refine Ax P0 ?_;refine Ax rfl ?_;refine Ax rfl ?_;refine Ax rfl ?_;refine Ax rfl ?_;rw[if_neg (by decide)];exact Ax Ux rfl
theorem Uw:CD [53]=some (5,0):=by
 unfold CD;dsimp only;simp only[gPi,gSS,gPb,gPm,gPs,gM,gM2,AJ,gOr,AK,AP,gAA,gAO,gOA,gOO,AG,AI,AL,AO,AH,AM,gId];rfl
theorem Uv:CD [51]=some (3,0):=by
 unfold CD;dsimp only;simp only[gPi,gSS,gPb,gPm,gPs,gM,gM2,AJ,gOr,AK,AP,gAA,gAO,gOA,gOO,AG,AI,AL,AO,AH,AM,gId];rfl
theorem Uu:CD [50,48,50,54]=some (2026,0):=by
 unfold CD;dsimp only;simp only[gPi,gSS,gPb,gPm,gPs,gM,gM2,AJ,gOr,AK,AP,gAA,gAO,gOA,gOO,AG,AI,AL,AO,AH,AM,gId];rfl
theorem Tc:Et ([109,111,110,116,104,108,121],[[109,111,110,116,104,108,121],[98,105,119,101,101,107,108,121],[102,111,117,114,119,101,101,107,108,121]])=some 0:=by
 unfold Et;dsimp only;exact Ax (DV 10 rfl) rfl
def NH:List (List UInt8):= [[99,97,108,101,110,100,97,114],[109,111,110,116,104,108,121],[50,48,50,54,45,48,49,45,48,49],[53]]
theorem R7:Dv NH=some ((0,20454,5),0):=by
 unfold Dv;dsimp only;refine Ax rfl ?_;refine Ax rfl ?_;refine Ax rfl ?_;refine Ax (a:=false) rfl ?_;rw[if_neg (by decide)];refine Ax rfl ?_;refine Ax rfl ?_;refine Ax Tc ?_;rw[if_neg (by decide)];refine Ax rfl ?_;refine Ax U7 ?_;rw[if_neg (by decide)];refine Ax rfl ?_;refine Ax Uw ?_;rw[if_neg (by decide)];exact Ax rfl rfl
set_option maxRecDepth 100000
set_option linter.unusedSimpArgs false
abbrev Cmd:=Int×Int×List (List UInt8)
noncomputable def AX:List (List UInt8×List UInt8):=(GY ()).getD []
theorem LA:GY ()=some AX:=rfl
theorem DU:AX.length=13:=rfl
theorem Oa{i:Int}{w:List UInt8}{as:List (List UInt8)}{j:Nat}{f:List UInt8×List UInt8}{e:Int}(hf:AX[j]? =some f)(hw:f.1=w)(hm:∀k g,k<j→AX[k]? =some g→(g.1==w)=false)(he:Dd (f,as)=some e)(ha:as.length≤1000000):
  ∀(d k:Nat),k+d=j→iter Gd (i,w::as,AX,13,(k:Int),0,0,(),(),(),())=some (Sum.inr ((i,(j:Int),as),e))
 |0,k,h=>by
  have hk:k=j:=by omega
  subst hk;have hlt:k<13:=by have:=(Ae.1 hf).1;rw[DU]at this;exact this
  rw[AR];unfold Gd;dsimp only;rw[show decide ((k:Int)<(13:Int))=true from Al (by omega),if_pos rfl,Bn hf];simp only[ms,bs];rw[show lAt (w::as) (0:Int)=some w from Bn (i:=0) rfl];simp only[ms,bs];rw[show(f.1==w)=true from beq_iff_eq.2 hw,if_pos rfl]
  have hs:B2 (w::as) (1:Int) ((w::as).length:Int)=some as:=by
   rw[show(1:Int)=((1:Nat):Int)from rfl,DE (by simp) (Nat.le_refl _)];simp
  rw[hs,bs,bs,show((f.1,f.2):List UInt8×List UInt8)=f from rfl,he,bs];rfl
 |d+1,k,h=>by
  have hj:j<13:=by have:=(Ae.1 hf).1;rw[DU]at this;exact this
  have hk:k<AX.length:=by rw[DU];omega
  have hg:AX[k]? =some AX[k]:=Ai hk;rw[AR];unfold Gd;dsimp only;rw[show decide ((k:Int)<(13:Int))=true from Al (by omega),if_pos rfl,Bn hg];simp only[ms,bs];rw[show lAt (w::as) (0:Int)=some w from Bn (i:=0) rfl];simp only[ms,bs];rw[hm k _ (by omega) hg,if_neg (by decide),BN (by omega),bs];exact Oa hf hw hm he ha d (k+1) (by omega)
theorem Ll{i:Int}{w:List UInt8}{as:List (List UInt8)}{j:Nat}{f:List UInt8×List UInt8}{e:Int}(hf:AX[j]? =some f)(hw:f.1=w)(hm:∀k g,k<j→AX[k]? =some g→(g.1==w)=false)(he:Dd (f,as)=some e)(ha:as.length≤1000000):
  Dc (i,w::as)=some ((i,(j:Int),as),e):=by
 unfold Dc;dsimp only;rw[LA,bs,DU];refine Ax (Oa hf hw hm he ha j 0 (by omega)) rfl
theorem Pq(w:List UInt8)(j:Nat)(h:((AX.take j).all fun g=> !(g.1==w))=true):∀k g,k<j→AX[k]? =some g→(g.1==w)=false:=by
 intro k g hk hg;have:=List.all_eq_true.1 h g (List.mem_of_getElem? (i:=k) (by rw[List.getElem?_take,if_pos hk];exact hg));simpa using this
set_option maxRecDepth 100000
set_option linter.unusedSimpArgs false
abbrev Cal:=Int×Int×Int
def mkP(L:List (List UInt8))(b:Bool)(c:Cal)(out:List Cmd)(i:Nat):Bool×List (List UInt8)×Int×Int×Int×Int×Int×Int×Int×Int×Int×Int×Int×List Cmd×Unit×Unit×Unit×Unit×Unit×Unit×Unit×Unit:=
 (b,L,(L.length:Int),(i:Int),0,0,0,0,0,0,c.1,c.2.1,c.2.2,out,(),(),(),(),(),(),(),())
def Cd:List (List UInt8)→Bool
 | []=>true
 |w::_=>w.head? ==some 35
theorem Ha{ws:List (List UInt8)}(h:∀w∈ws,w≠ []):(if((ws.length:Int)==0)=true then some true else(lAt ws 0).bind fun v=>(sAt v 0).bind fun v=>some (v==35))=some (Cd ws):=by
 cases ws with
 |nil=>rfl
 |cons w as=>
  have hn:=h w (by simp)
  cases w with
  |nil=>exact absurd rfl hn
  |cons ch t=>
   rw[if_neg (by simp;omega),show lAt ((ch::t)::as) 0=some (ch::t)from Bn (i:=0) rfl,bs,show sAt (ch::t) 0=some (ch.toNat:Int)from Er (i:=0) rfl,bs]
   congr 1
   unfold Cd;rw[Bool.eq_iff_iff];simp only[beq_iff_eq,List.head?_cons,Ac];constructor
   ·intro e;exact UInt8.toNat_inj.1 (by rw[show(35:UInt8).toNat=35 from rfl];omega)
   ·intro e;subst e;rfl
section
variable {L:List (List UInt8)} {b:Bool} {c:Cal} {out:List Cmd} {i:Nat} {x:List UInt8} {ws:List (List UInt8)}
theorem Vx(hx:L[i]? =some x)(hL:L.length≤1000000)(hs:De x=some ws)(hw:∀w∈ws,w≠ [])(hk:Cd ws=true):
  C7 (mkP L b c out i)=some (Sum.inl (mkP L b c out (i+1))):=by
 unfold C7 mkP;dsimp only;have hlt:=(Ae.1 hx).1;rw[Cu hx,if_pos rfl,Bn hx];simp only[ms,bs];rw[hs];simp only[bs];simp only[gPi,gSS,gPb,gPm,gPs,gM,gM2,AJ,gOr,AK,AP,gAA,gAO,gOA,gOO,AG,AI,AL,AO,AH,AM,gId];simp only[Bd,Be,Bf,Bg,Bh,Bi,Bj,Bk,gId,Bc,gMb,gMm,gBm,gBb,bs,ms];rw[Ha hw,bs,hk,if_pos rfl,bs];dsimp only;rw[BN (by omega)]
theorem QG(hx:L[i]? =some x)(hL:L.length≤1000000)(hs:De x=some ws)(hw:∀w∈ws,w≠ [])(hk:Cd ws=false)
  {y:Cmd} (hy:Dc (((i+1:Nat):Int),ws)=some (y,0)) (ho:out.length<1000):
  C7 (mkP L true c out i)=some (Sum.inl (mkP L true c (out++ [y]) (i+1))):=by
 unfold C7 mkP;dsimp only;have hlt:=(Ae.1 hx).1;rw[Cu hx,if_pos rfl,Bn hx];simp only[ms,bs];rw[hs];simp only[bs];simp only[gPi,gSS,gPb,gPm,gPs,gM,gM2,AJ,gOr,AK,AP,gAA,gAO,gOA,gOO,AG,AI,AL,AO,AH,AM,gId];simp only[Bd,Be,Bf,Bg,Bh,Bi,Bj,Bk,gId,Bc,gMb,gMm,gBm,gBb,bs,ms];rw[Ha hw,bs,hk,if_neg (by decide),if_neg (by decide),BN (by omega),hy,bs];dsimp only;rw[if_pos (by rfl),show decide ((out.length:Int)≥1000)=false from Ak (by omega),bs,if_neg (by decide),bs];dsimp only;rw[if_neg (by decide),if_pos rfl,if_pos ⟨by simp;omega,by simp;omega⟩];simp only[bs];rw[BN (by omega)]
theorem Vv(hx:L[i]? =some x)(hL:L.length≤1000000)(hs:De x=some ws)(hw:∀w∈ws,w≠ [])(hk:Cd ws=false)
  {y:Cmd} {e:Int} (hy:Dc (((i+1:Nat):Int),ws)=some (y,e)) (he:e≠0):
  C7 (mkP L true c out i)=some (Sum.inr (Sum.inr ((0,0,0),[],((i+1:Nat):Int),e))):=by
 unfold C7 mkP;dsimp only;have hlt:=(Ae.1 hx).1;rw[Cu hx,if_pos rfl,Bn hx];simp only[ms,bs];rw[hs];simp only[bs];simp only[gPi,gSS,gPb,gPm,gPs,gM,gM2,AJ,gOr,AK,AP,gAA,gAO,gOA,gOO,AG,AI,AL,AO,AH,AM,gId];simp only[Bd,Be,Bf,Bg,Bh,Bi,Bj,Bk,gId,Bc,gMb,gMm,gBm,gBb,bs,ms];rw[Ha hw,bs,hk,if_neg (by decide),if_neg (by decide),BN (by omega),hy,bs];dsimp only;rw[show(e==0)=false from beq_eq_false_iff_ne.2 he,if_neg (by decide),bs,if_neg (by decide),bs];dsimp only;rw[show(e !=0)=true from bne_iff_ne.2 he,if_pos rfl,bs];rw[BN (by omega)]
theorem Vw(hx:L[i]? =some x)(hL:L.length≤1000000)(hs:De x=some ws)(hw:∀w∈ws,w≠ [])(hk:Cd ws=false)
  {y:Cmd} (hy:Dc (((i+1:Nat):Int),ws)=some (y,0)) (ho:1000≤out.length):
  C7 (mkP L true c out i)=some (Sum.inr (Sum.inr ((0,0,0),[],((i+1:Nat):Int),5))):=by
 unfold C7 mkP;dsimp only;have hlt:=(Ae.1 hx).1;rw[Cu hx,if_pos rfl,Bn hx];simp only[ms,bs];rw[hs];simp only[bs];simp only[gPi,gSS,gPb,gPm,gPs,gM,gM2,AJ,gOr,AK,AP,gAA,gAO,gOA,gOO,AG,AI,AL,AO,AH,AM,gId];simp only[Bd,Be,Bf,Bg,Bh,Bi,Bj,Bk,gId,Bc,gMb,gMm,gBm,gBb,bs,ms];rw[Ha hw,bs,hk,if_neg (by decide),if_neg (by decide),BN (by omega),hy,bs];dsimp only;rw[if_pos (by rfl),show decide ((out.length:Int)≥1000)=true from Al (by omega),bs,if_pos rfl,bs];dsimp only;rw[if_pos (by decide),bs];rw[BN (by omega)]
theorem QF(hx:L[i]? =some x)(hL:L.length≤1000000)(hs:De x=some ws)(hw:∀w∈ws,w≠ [])(hk:Cd ws=false)
  {d:Cal} (hy:Dv ws=some (d,0)):
  C7 (mkP L false c out i)=some (Sum.inl (mkP L true d out (i+1))):=by
 unfold C7 mkP;dsimp only;have hlt:=(Ae.1 hx).1;rw[Cu hx,if_pos rfl,Bn hx];simp only[ms,bs];rw[hs];simp only[bs];simp only[gPi,gSS,gPb,gPm,gPs,gM,gM2,AJ,gOr,AK,AP,gAA,gAO,gOA,gOO,AG,AI,AL,AO,AH,AM,gId];simp only[Bd,Be,Bf,Bg,Bh,Bi,Bj,Bk,gId,Bc,gMb,gMm,gBm,gBb,bs,ms];rw[Ha hw,bs,hk,if_neg (by decide),if_pos (by rfl),hy,bs,bs];dsimp only;rw[if_neg (by decide),if_neg (by decide)];simp only[bs];rw[BN (by omega)]
theorem Vu(hx:L[i]? =some x)(hL:L.length≤1000000)(hs:De x=some ws)(hw:∀w∈ws,w≠ [])(hk:Cd ws=false)
  {d:Cal} {e:Int} (hy:Dv ws=some (d,e)) (he:e≠0):
  C7 (mkP L false c out i)=some (Sum.inr (Sum.inr ((0,0,0),[],((i+1:Nat):Int),e))):=by
 unfold C7 mkP;dsimp only;have hlt:=(Ae.1 hx).1;rw[Cu hx,if_pos rfl,Bn hx];simp only[ms,bs];rw[hs];simp only[bs];simp only[gPi,gSS,gPb,gPm,gPs,gM,gM2,AJ,gOr,AK,AP,gAA,gAO,gOA,gOO,AG,AI,AL,AO,AH,AM,gId];simp only[Bd,Be,Bf,Bg,Bh,Bi,Bj,Bk,gId,Bc,gMb,gMm,gBm,gBb,bs,ms];rw[Ha hw,bs,hk,if_neg (by decide),if_pos (by rfl),hy,bs,bs];dsimp only;rw[show(e !=0)=true from bne_iff_ne.2 he,if_pos rfl,bs];rw[BN (by omega)]
theorem QH:C7 (mkP L b c out L.length)=some (Sum.inr (Sum.inl (b,0,0,0,0,0,0,c.1,c.2.1,c.2.2,out,(),(),(),(),(),(),(),()))):=by
 unfold C7 mkP;dsimp only;rw[DF,if_neg (by decide)]
end
set_option maxRecDepth 100000
set_option linter.unusedSimpArgs false
def FD:List UInt8:= [99,97,108,101,110,100,97,114,32,109,111,110,116,104,108,121,32,50,48,50,54,45,48,49,45,48,49,32,53]
def Gc:List UInt8:= [114,117,110,32,50,48,50,54,32,51]
theorem Vo:De FD=some NH:=by
 unfold De;dsimp only;rw[Hm (by decide),bs];refine Ax (DV 10 rfl) ?_;dsimp only;simp only[gPi,gSS,gPb,gPm,gPs,gM,gM2,AJ,gOr,AK,AP,gAA,gAO,gOA,gOO,AG,AI,AL,AO,AH,AM,gId];rfl
theorem Vq:De Gc=some [[114,117,110],[50,48,50,54],[51]]:=by
 unfold De;dsimp only;rw[Hm (by decide),bs];refine Ax (DV 10 rfl) ?_;dsimp only;simp only[gPi,gSS,gPb,gPm,gPs,gM,gM2,AJ,gOr,AK,AP,gAA,gAO,gOA,gOO,AG,AI,AL,AO,AH,AM,gId];rfl
theorem NB{w:List UInt8}{n:Int}(h:CD w=some (n,0)):Fx (110,w)=some 0:=by
 unfold Fx;dsimp only;rw[if_pos (by decide),h,bs]
theorem L3{L:List (List UInt8)}{i:Nat}{x nm fs:List UInt8}{f:UInt8}(hx:L[i]? =some x)(hf:fs[i]? =some f)(ha:Fx ((f.toNat:Int),x)=some 0)(hL:L.length≤1000000):
  EM (L,(L.length:Int),(i:Int),nm,fs,(),(),())=some (Sum.inl (L,(L.length:Int),((i+1:Nat):Int),nm,fs,(),(),())):=by
 have hlt:=(Ae.1 hx).1;unfold EM;dsimp only;rw[Cu hx,if_pos rfl,Bn hx];simp only[ms,bs];rw[Er hf,bs,ha,bs,if_neg (by decide),BN (by omega)]
theorem Ti{L:List (List UInt8)}{i:Nat}{x nm fs:List UInt8}{f:UInt8}{e:Int}(hx:L[i]? =some x)(hf:fs[i]? =some f)(ha:Fx ((f.toNat:Int),x)=some e)(he:e≠0):
  EM (L,(L.length:Int),(i:Int),nm,fs,(),(),())=some (Sum.inr (Sum.inr e)):=by
 unfold EM;dsimp only;rw[Cu hx,if_pos rfl,Bn hx];simp only[ms,bs];rw[Er hf,bs,ha,bs,show(e !=0)=true from bne_iff_ne.2 he,if_pos rfl]
theorem O8{L:List (List UInt8)}{nm fs:List UInt8}:EM (L,(L.length:Int),(L.length:Int),nm,fs,(),(),())=some (Sum.inr (Sum.inl ())):=by
 unfold EM;dsimp only;rw[DF,if_neg (by decide)]
theorem RN{nm w1 w2:List UInt8}{n1 n2:Int}(h1:CD w1=some (n1,0))(h2:CD w2=some (n2,0)):Dd ((nm,[110,110]),[w1,w2])=some 0:=by
 unfold Dd;dsimp only;rw[if_neg (by simp)]
 have step:iter EM ([w1,w2],(([w1,w2]:List (List UInt8)).length:Int),((0:Nat):Int),nm,[110,110],(),(),())=some (Sum.inl ()):=by
  rw[AR,L3 (f:=110) rfl rfl (NB h1) (by simp),bs];dsimp only;rw[AR,L3 (f:=110) rfl rfl (NB h2) (by simp),bs];dsimp only;rw[AR];have:=O8 (L:= [w1,w2]) (nm:=nm) (fs:= [110,110]);exact(congrArg (fun o=>Option.bind o _) this).trans rfl
 refine Ax step rfl
theorem Sb(i:Int):Dc (i,[[114,117,110],[50,48,50,54],[51]])=some ((i,1,[[50,48,50,54],[51]]),0):=
 Ll (j:=1) (f:=([114,117,110],[110,110])) rfl rfl (Pq _ _ rfl) (RN Uu Uv) (by decide)
theorem U8:Es (FD++10::Gc)=some ((0,20454,5),[(2,1,[[50,48,50,54],[51]])],0,0):=by
 have e:A7 10 (FD++10::Gc)= [FD,Gc]:=rfl;unfold Es;dsimp only;rw[if_neg (by decide),Hm (by decide),e,bs]
 have h1:iter C7 (mkP [FD,Gc] false (0,0,0) [] 0)=some (Sum.inl (true,0,0,0,0,0,0,0,20454,5,[(2,1,[[50,48,50,54],[51]])],(),(),(),(),(),(),(),())):=by
  rw[AR,QF (x:=FD) rfl (by decide) Vo (by decide) (by decide) R7,bs];dsimp only;rw[AR,QG (x:=Gc) rfl (by decide) Vq (by decide) (by decide) (Sb _) (by decide),bs];dsimp only;rw[AR];have:=QH (L:= [FD,Gc]) (b:=true) (c:=(0,20454,5)) (out:= [(2,1,[[50,48,50,54],[51]])]);exact(congrArg (fun o=>Option.bind o _) this).trans rfl
 refine Ax h1 ?_;rfl
theorem Ry:J1 ()=some true:=by
 unfold J1;refine Ax U8 ?_;dsimp only;simp only[gPi,gSS,gPb,gPm,gPs,gM,gM2,AJ,gOr,AK,AP,gAA,gAO,gOA,gOO,AG,AI,AL,AO,AH,AM,gId];rfl
set_option maxRecDepth 100000
set_option linter.unusedSimpArgs false
def okW(w:List UInt8):Prop:=w≠ []∧∀b∈w,b≠32∧b≠10
def Sw:List UInt8:= [48,49,50,51,52,53,54,55,56,57]
theorem QT{l cs:List UInt8}(h:Lib.trimLeftS l cs= []):∀b∈l,cs.contains b=true:=by
 unfold Lib.trimLeftS at h;intro b hb;by_cases hc:cs.contains b=true
 ·exact hc
 ·exfalso
  have:∀l:List UInt8,b∈l→l.dropWhile (cs.contains ·)≠ []:=by
   intro l
   induction l with
   |nil=>intro h;cases h
   |cons a t ih=>
    intro hb;by_cases ha:cs.contains a=true
    ·rw[List.dropWhile_cons_of_pos ha];rcases List.mem_cons.1 hb with rfl|hb
     ·exact absurd ha hc
     ·exact ih hb
    ·rw[List.dropWhile_cons_of_neg ha];simp
  exact this l hb h
theorem QX{l cs:List UInt8}(h:Lib.trimS l cs= []):∀b∈l,cs.contains b=true:=by
 unfold Lib.trimS at h;have h1:=QT h;intro b hb;by_cases hr:Lib.trimRightS l cs= []
 ·unfold Lib.trimRightS at hr;have hr':l.reverse.dropWhile (cs.contains ·)= []:=by simpa using hr
  exact QT (l:=l.reverse) hr' b (by simpa using hb)
 ·exfalso;unfold Lib.trimRightS at hr h1
  cases hd:l.reverse.dropWhile (cs.contains ·)with
  |nil=>rw[hd]at hr;exact hr rfl
  |cons a t=>
   have ha:cs.contains a=false:=by
    have:=List.head?_dropWhile_not (cs.contains ·) l.reverse;rw[hd]at this;simpa using this
   rw[hd]at h1;have:=h1 a (by simp);rw[ha]at this;cases this
theorem MZ{w:List UInt8}(h:w.length≤1000000)(cs:List UInt8)(hc:cs.length≤1000)(ha:Hp cs=true):F2 (w,cs)=some (Lib.trimS w cs):=by
 unfold F2;rw[if_pos ⟨by show w.length≤_;omega,hc,ha⟩]
theorem KO{cs:List UInt8}:∀{l:List UInt8},Lib.containsAny l cs=false→∀b∈l,cs.contains b=false
 | [],_,b,hb=>by cases hb
 |a::l,h,b,hb=>by
  have hge:=Lib.indexAny_ge cs l;unfold Lib.containsAny at h;have h':=of_decide_eq_false h;unfold Lib.indexAny at h';by_cases ha:cs.contains a=true
  ·rw[if_pos ha]at h';exact absurd (by omega) h'
  ·rw[if_neg ha]at h'
   have hl:Lib.indexAny l cs= -1:=by
    by_cases e:Lib.indexAny l cs= -1
    ·exact e
    ·rw[if_neg (by simpa using e)]at h';exfalso;apply h';omega
   rcases List.mem_cons.1 hb with rfl|hb
   ·simpa using ha
   ·refine KO (l:=l) ?_ b hb;unfold Lib.containsAny;rw[hl];rfl
theorem Sx{b:UInt8}(h:Sw.contains b=true):b≠32∧b≠10:=by
 constructor<;>(rintro rfl;revert h;decide)
theorem Mv{w:List UInt8}(h:w.length≤1000000):∃n e,CD w=some (n,e)∧(e=0→okW w):=by
 unfold CD;dsimp only;simp only[gPi,gSS,gPb,gPm,gPs,gM,gM2,AJ,gOr,AK,AP,gAA,gAO,gOA,gOO,AG,AI,AL,AO,AH,AM,gId];simp only[Bd,Be,Bf,Bg,Bh,Bi,Bj,Bk,gId,Bc,gMb,gMm,gBm,gBb,bs,ms];rw[MZ h _ (by decide) (by decide)]
 cases w with
 |nil=>exact⟨0,3,rfl,by intro e;cases e⟩
 |cons c t=>
  rw[if_neg (by simp)]
  obtain⟨q,hq⟩:∃q,(if decide (((c::t).length:Int)>1)=true then(sAt (c::t) 0).bind fun v=>some (v==48)else some false)=some q:=by
   split
   ·rw[show sAt (c::t) 0=some (c.toNat:Int)from Er (i:=0) rfl];exact⟨_,rfl⟩
   ·exact⟨_,rfl⟩
  rw[hq,bs]
  cases q with
  |true=>exact⟨0,3,rfl,by intro e;cases e⟩
  |false=>
   rw[if_neg (by decide),bs,bs]
   cases ht:Lib.trimS (c::t) [48,49,50,51,52,53,54,55,56,57]with
   |cons a u=>exact⟨0,3,rfl,by intro e;cases e⟩
   |nil=>
    have hd:okW (c::t):=⟨by simp,fun b hb=>Sx (QX ht b hb)⟩;rw[if_neg (by decide)];split
    ·exact⟨0,2,rfl,fun _=>hd⟩
    ·have ha:∃p,Hf (c::t)=some p:=by
      unfold Hf;rw[if_pos (by omega)];exact⟨_,rfl⟩
     obtain⟨p,hp⟩:=ha;rw[hp,bs];split
     ·exact⟨0,2,rfl,fun _=>hd⟩
     ·exact⟨p.1,0,rfl,fun _=>hd⟩
theorem QQ{w cs:List UInt8}{m:Int}(h:w.length≤1000000)(hc:cs.length≤1000)(ha:Hp cs=true):∃e,Iw (w,cs,m)=some e∧(e=0→w≠ []∧Lib.containsAny w cs=false∧Lib.trimS w [32]=w):=by
 unfold Iw;dsimp only;simp only[gPi,gSS,gPb,gPm,gPs,gM,gM2,AJ,gOr,AK,AP,gAA,gAO,gOA,gOO,AG,AI,AL,AO,AH,AM,gId];simp only[Bd,Be,Bf,Bg,Bh,Bi,Bj,Bk,gId,Bc,gMb,gMm,gBm,gBb,bs,ms];rw[MZ h _ (by decide) (by decide)]
 have hC:strings_ContainsAny (w,cs)=some (Lib.containsAny w cs):=by
  unfold strings_ContainsAny;rw[if_pos ⟨by show w.length≤_;omega,hc,ha⟩]
 rw[hC]
 cases w with
 |nil=>exact⟨3,rfl,by intro e;cases e⟩
 |cons c t=>
  rw[if_neg (by simp),bs]
  cases hq:Lib.containsAny (c::t) cs with
  |true=>exact⟨3,rfl,by intro e;cases e⟩
  |false=>
   rw[if_neg (by decide),bs,bs];by_cases ht:Lib.trimS (c::t) [32]=c::t
   ·rw[ht,show(!((c::t)==(c::t)))=false by simp,if_neg (by decide)];split
    ·exact⟨4,rfl,by intro e;cases e⟩
    ·exact⟨0,rfl,fun _=>⟨by simp,rfl,rfl⟩⟩
   ·rw[show(!(Lib.trimS (c::t) [32]==(c::t)))=true by simpa using ht,if_pos rfl];exact⟨3,rfl,by intro e;cases e⟩
def FB(f:UInt8)(w:List UInt8):Prop:=if f=110∨f=97∨f=119 then okW w else w≠ []∧(∀b∈w,b≠10)∧Lib.trimS w [32]=w
theorem Jd{b:UInt8}(h:dgt b=true):b≠32∧b≠10:=by
 have:=C0.1 h;constructor<;>(rintro rfl;revert this;decide)
theorem TG{s:List UInt8}{c:Int}(h:IsC s c):okW s:=by
 obtain⟨_,rfl⟩:=h;obtain⟨W,a,b,e,hW,ha,hb,_⟩:=QP c.natAbs;unfold Hh;rw[e];refine⟨by simp,fun x hx=> ?_⟩;rcases List.mem_append.1 hx with hx|hx
 ·split at hx
  ·rw[List.mem_singleton.1 hx];decide
  ·cases hx
 ·rcases List.mem_append.1 hx with hx|hx
  ·exact Jd (List.all_eq_true.1 (NK hW) x hx)
  ·rcases List.mem_cons.1 hx with rfl|hx
   ·decide
   ·rcases List.mem_cons.1 hx with rfl|hx
    ·exact Jd ha
    ·rw[List.mem_singleton.1 hx];exact Jd hb
theorem Rv{f:UInt8}{w:List UInt8}(h:w.length≤1000000):∃e,Fx ((f.toNat:Int),w)=some e∧(e=0→FB f w):=by
 have hf:∀k:UInt8,((f.toNat:Int)==(k.toNat:Int))=decide (f=k):=by
  intro k;rw[Bool.eq_iff_iff];simp only[beq_iff_eq,decide_eq_true_eq];constructor
  ·intro e;exact UInt8.toNat_inj.1 (by omega)
  ·intro e;rw[e]
 unfold Fx FB;dsimp only;rw[show((110:Int))=((110:UInt8).toNat:Int)from rfl,show((97:Int))=((97:UInt8).toNat:Int)from rfl,show((119:Int))=((119:UInt8).toNat:Int)from rfl,hf,hf,hf];by_cases h1:f=110
 ·rw[if_pos (by simpa using h1),if_pos (.inl h1)];obtain⟨n,e,g1,g2⟩:=Mv h;rw[g1,bs];exact⟨e,rfl,g2⟩
 rw[if_neg (by simpa using h1)];by_cases h2:f=97
 ·rw[if_pos (by simpa using h2),if_pos (.inr (.inl h2))];rcases RJ h with⟨c,g1,g2⟩|⟨_,g2⟩
  ·rw[g2,bs];exact⟨0,rfl,fun _=>TG g1⟩
  ·rw[g2,bs];exact⟨3,rfl,by intro e;cases e⟩
 rw[if_neg (by simpa using h2)];by_cases h3:f=119
 ·rw[if_pos (by simpa using h3),if_pos (.inr (.inr h3))];obtain⟨e,g1,g2⟩:=QQ (w:=w) (cs:= [32,10]) (m:=64) h (by decide) (by decide);rw[g1,bs];refine⟨e,rfl,fun he=> ?_⟩;obtain⟨q1,q2,_⟩:=g2 he;refine⟨q1,fun b hb=> ?_⟩;have:=KO q2 b hb;constructor<;>(rintro rfl;revert this;decide)
 rw[if_neg (by simpa using h3),if_neg (by rintro(h|h|h)<;>contradiction)];obtain⟨e,g1,g2⟩:=QQ (w:=w) (cs:= [10]) (m:=4096) h (by decide) (by decide);rw[g1,bs];refine⟨e,rfl,fun he=> ?_⟩;obtain⟨q1,q2,q3⟩:=g2 he;refine⟨q1,fun b hb=> ?_,q3⟩;have:=KO q2 b hb
 rintro rfl
 revert this;decide
set_option maxRecDepth 100000
set_option linter.unusedSimpArgs false
def B4(L:List (List UInt8)):Prop:=L.length≤1000000∧∀w∈L,w.length≤1000000
theorem NP{nm fs:List UInt8}{as:List (List UInt8)}(h:B4 as)(hl:as.length=fs.length):∀(k i:Nat),i+k=as.length→∃r,iter EM (as,(as.length:Int),(i:Int),nm,fs,(),(),())=some r∧
  match r with
  | .inl _=>∀j f w,i≤j→fs[j]? =some f→as[j]? =some w→FB f w
  | .inr e=>e≠0
 |0,i,hi=>by
  have e:i=as.length:=by omega
  subst e;refine⟨.inl (), ?_,fun j f w hj _ hw=> ?_⟩
  ·rw[AR];exact(congrArg (fun o=>Option.bind o _) O8).trans rfl
  ·have:=(Ae.1 hw).1;omega
 |k+1,i,hi=>by
  have hlt:i<as.length:=by omega
  have hx:as[i]? =some as[i]:=Ai hlt;have hf:fs[i]? =some (fs[i]'(by omega)):=Ai _;obtain⟨e,g1,g2⟩:=Rv (f:=fs[i]'(by omega)) (w:=as[i]) (h.2 _ (List.getElem_mem _));by_cases he:e=0
  ·subst he;obtain⟨r,q1,q2⟩:=NP h hl k (i+1) (by omega);refine⟨r, ?_, ?_⟩
   ·rw[AR,L3 hx hf g1 h.1,bs];exact q1
   ·cases r with
    |inr e=>exact q2
    |inl _=>
     intro j f w hj q3 q4;by_cases hji:j=i
     ·subst hji;rw[hf]at q3;rw[hx]at q4;cases q3;cases q4;exact g2 rfl
     ·exact q2 j f w (by omega) q3 q4
  ·exact⟨.inr e,by rw[AR,Ti hx hf g1 he,bs],he⟩
theorem Lg{nm fs:List UInt8}{as:List (List UInt8)}(h:B4 as)(hf:fs.length≤1000000):∃e,Dd ((nm,fs),as)=some e∧(e=0→as.length=fs.length∧∀(j:Nat) f w,fs[j]? =some f→as[j]? =some w→FB f w):=by
 unfold Dd;dsimp only;by_cases hl:as.length=fs.length
 ·rw[if_neg (by rw[hl];simp)];obtain⟨r,q1,q2⟩:=NP (nm:=nm) h hl as.length 0 (by omega);refine⟨match r with| .inl _=>0| .inr e=>e, ?_, ?_⟩
  ·refine Ax q1 ?_;cases r<;>rfl
  ·cases r with
   |inl _=>exact fun _=>⟨hl,fun j f w=>q2 j f w (by omega)⟩
   |inr e=>exact fun he=>absurd he q2
 ·rw[if_pos (by rw[bne_iff_ne];omega)];exact⟨3,rfl,by intro e;cases e⟩
theorem OY{P:Nat→Prop}:∀n,(∃j,j<n∧P j)→∃j,j<n∧P j∧∀k,k<j→¬P k
 |0,⟨j,h,_⟩=>by omega
 |n+1,⟨j,h,hp⟩=>by
  by_cases hq:∃j,j<n∧P j
  ·obtain⟨k,h1,h2,h3⟩:=OY n hq;exact⟨k,by omega,h2,h3⟩
  ·refine⟨j,h,hp,fun k hk hpk=>hq ⟨k,by omega,hpk⟩⟩
theorem Oc{i:Int}{w:List UInt8}{as:List (List UInt8)}(hm:∀(k:Nat) (g:List UInt8×List UInt8),AX[k]? =some g→(g.1==w)=false):∀(d k:Nat),k+d=13→iter Gd (i,w::as,AX,13,(k:Int),0,0,(),(),(),())=some (Sum.inl (0,0,(),(),(),()))
 |0,k,h=>by
  have hk:k=13:=by omega
  subst hk;rw[AR];unfold Gd;dsimp only;rw[if_neg (by decide),bs]
 |d+1,k,h=>by
  have hk:k<AX.length:=by rw[DU];omega
  have hg:AX[k]? =some AX[k]:=Ai hk;rw[AR];unfold Gd;dsimp only;rw[show decide ((k:Int)<(13:Int))=true from Al (by omega),if_pos rfl,Bn hg];simp only[ms,bs];rw[show lAt (w::as) (0:Int)=some w from Bn (i:=0) rfl];simp only[ms,bs];rw[hm k _ hg,if_neg (by decide),BN (by omega),bs];exact Oc hm d (k+1) (by omega)
theorem LB:∀g∈AX,g.2.length≤1000000:=by
 have h:(AX.all fun g=>Nat.ble g.2.length 10)=true:=rfl;intro g hg;have:=Ah (List.all_eq_true.1 h g hg);omega
theorem Lk{w:List UInt8}{as:List (List UInt8)}(h:B4 as):
  (∃(j:Nat) (f:List UInt8×List UInt8) (e:Int),AX[j]? =some f∧f.1=w∧Dd (f,as)=some e∧(e=0→as.length=f.2.length∧∀(j:Nat) c w,f.2[j]? =some c→as[j]? =some w→FB c w)∧∀i,Dc (i,w::as)=some ((i,(j:Int),as),e))∨
  ∀i,Dc (i,w::as)=some ((0,0,[]),3):=by
 by_cases hq:∃j,j<13∧∃f,AX[j]? =some f∧f.1=w
 ·obtain⟨j,h1,⟨f,h2,h3⟩,h4⟩:=OY 13 hq;obtain⟨e,g1,g2⟩:=Lg (nm:=f.1) (fs:=f.2) h (LB f (List.mem_of_getElem? h2));refine .inl ⟨j,f,e,h2,h3,g1,g2,fun i=>Ll h2 h3 (fun k g hk hg=> ?_) g1 h.1⟩;have:=h4 k hk;rw[beq_eq_false_iff_ne];intro hw;exact this ⟨g,hg,hw⟩
 ·refine .inr fun i=> ?_;unfold Dc;dsimp only;rw[LA,bs,DU];refine Ax (Oc (fun k g hg=> ?_) 13 0 (by omega)) rfl;rw[beq_eq_false_iff_ne];intro hw;have:=(Ae.1 hg).1;rw[DU]at this;exact hq ⟨k,this,g,hg,hw⟩
set_option maxRecDepth 100000
set_option linter.unusedSimpArgs false
def Iq(x:List UInt8):List UInt8:=(x.dropWhile (· ==32)).drop 4
def A8(x:List UInt8):List (List UInt8):=if 1<(AE x).length∧(AE x).head? =some AA then [AA,Lib.trimS (Iq x) [32]]else AE x
theorem Vp{x:List UInt8}{L:List (List UInt8)}(hL:L.length≤1000000):iter Iv (x,L,(L.length:Int),0,[],(),())=some (x,L.filter (fun w=> !(w== [])),(),()):=by
 have h:=Jw (b:=Iv) (l:=L) (T:=List UInt8×List (List UInt8)×Unit×Unit) (fun i a=>(x,L,(L.length:Int),(i:Int),a,(),())) (fun a w=>Sum.inl (a++(if w== []then []else [w]))) (fun a=>(x,a,(),())) (fun i a=>a.length≤i) (a:= []) (by simp) ?_ ?_ ?_
 ·refine h.trans ?_;rw[L1]
  congr 3
  rw[List.nil_append]
  have:∀L:List (List UInt8),L.flatMap (fun w=>if(w== [])=true then []else [w])=L.filter fun w=> !(w== []):=by
   intro L
   induction L with
   |nil=>rfl
   |cons w L ih=>
    rw[List.flatMap_cons,ih,List.filter_cons];cases hw:(w== [])<;>simp
  exact this L
 ·intro i w a hw ha;have hlt:=(Ae.1 hw).1;unfold Iv;dsimp only;rw[Cu hw,if_pos rfl,Bn hw];simp only[ms,bs];cases hq:(w== [])
  ·rw[if_pos (by rfl),if_pos ⟨by simp;omega,by simp;omega⟩,bs,bs];dsimp only;rw[BN (by omega)];simp[EQ]
  ·rw[if_neg (by decide),bs];dsimp only;rw[BN (by omega)];simp[EQ]
 ·intro i w a a' hw ha hst;cases hst;cases w== []<;>simp<;>omega
 ·intro a ha;unfold Iv;dsimp only;rw[DF,if_neg (by decide)]
theorem S7(t:List UInt8)(n:Nat)(c:UInt8)(hc:c≠32):(List.replicate n 32++c::t).dropWhile (· ==32)=c::t:=by
 induction n with
 |zero=>simp[List.dropWhile_cons,hc]
 |succ n ih=>rw[List.replicate_succ,List.cons_append,List.dropWhile_cons_of_pos (by rfl),ih]
theorem Fv(t:List UInt8)(n:Nat):Iq (List.replicate n 32++(AA++t))=t:=by
 unfold Iq;rw[show AA++t=116::(101::108::108::t)from rfl,S7 _ n 116 (by decide)];rfl
theorem Si{t:List UInt8}{n:Nat}(h:n+t.length≤900000):Kv (List.replicate n 32++(AA++t),AA)=some (List.replicate n 32,t,true):=by
 have hi:Gg (List.replicate n 32++(AA++t),AA)=some (n:Int):=by
  unfold Gg AA;dsimp only;rw[if_pos (by simp;omega)];exact congrArg some (OJ t n)
 unfold Kv LL;dsimp only;rw[hi,bs];rw[show decide ((n:Int)≥0)=true from Al (by omega),if_pos rfl]
 have l1:B2 (List.replicate n 32++(AA++t)) 0 (n:Int)=some (List.replicate n 32):=by
  have:=DE (xs:=List.replicate n 32++(AA++t)) (i:=0) (j:=n) (by omega) (by simp);rw[show((0:Nat):Int)=0 from rfl]at this;rw[this,List.take_left' (by simp)];simp
 have w:i64.wrap ((n:Int)+(AA.length:Int))=((n+4:Nat):Int):=by
  rw[AD (by omega) (by simp[AA];omega)];simp[AA]
 have l2:B2 (List.replicate n 32++(AA++t)) ((n+4:Nat):Int) ((List.replicate n 32++(AA++t):List UInt8).length:Int)=some t:=by
  have:=DE (xs:=List.replicate n 32++(AA++t)) (i:=n+4) (j:=(List.replicate n 32++(AA++t)).length) (by simp[AA]) (by omega);rw[this,List.take_length,←List.append_assoc,List.drop_left' (by simp[AA])]
 rw[l1,bs,w,l2];rfl
theorem IB{x:List UInt8}(h:1<(AE x).length)(h2:(AE x).head? =some AA):∃n t,x=List.replicate n 32++(AA++32::t)∧AE t≠ []:=by
 cases hw:AE x with
 |nil=>rw[hw]at h;simp at h
 |cons w ws=>
  rw[hw]at h h2;simp only[List.head?_cons,Ac]at h2;subst h2;obtain⟨n,t,h3,h4⟩:=Rg hw;rcases h4 with⟨_,h5⟩|⟨u,rfl,h5⟩
  ·subst h5;simp at h
  ·refine⟨n,u,h3, ?_⟩;rw[h5];intro e;subst e;simp at h
theorem Vl{x:List UInt8}(hx:x.length≤900000):De x=some (A8 x):=by
 have hsl:(A7 32 x).length≤1000000:=by
  unfold A7;rw[Hd];have:=List.count_le_length (a:=(32:UInt8)) (l:=x);omega
 unfold De;dsimp only;rw[Hm hx,bs,Vp hsl,bs];dsimp only;rw[show((A7 32 x).filter fun w=> !(w== []))=AE x from rfl];simp only[gPi,gSS,gPb,gPm,gPs,gM,gM2,AJ,gOr,AK,AP,gAA,gAO,gOA,gOO,AG,AI,AL,AO,AH,AM,gId];unfold A8;by_cases h1:1<(AE x).length
 ·have e1:decide (((AE x).length:Int)>1)=true:=Al (by omega);rw[e1,if_pos rfl]
  cases hw:AE x with
  |nil=>rw[hw]at h1;simp at h1
  |cons w ws=>
   simp only[bs,ms];rw[show lAt (w::ws) 0=some w from Bn (i:=0) rfl];simp only[bs,ms];by_cases h2:w=AA
   ·have hh:(AE x).head? =some AA:=by rw[hw,h2];rfl
    obtain⟨n,t,hxe,ht⟩:=IB h1 hh;have hb:(w==([116,101,108,108]:List UInt8))=true:=beq_iff_eq.2 h2;rw[hb,if_pos rfl,if_pos ⟨by rw[←hw];exact h1,by rw[h2];rfl⟩]
    have hl:n+(32::t).length≤900000:=by
     rw[hxe]at hx;simp[AA]at hx⊢;omega
    rw[show([116,101,108,108]:List UInt8)=AA from rfl,hxe,Si hl,bs];dsimp only;rw[MZ (by simp at hl⊢;omega) _ (by decide) (by decide),bs,Fv]
   ·have hb:(w==([116,101,108,108]:List UInt8))=false:=beq_eq_false_iff_ne.2 h2;rw[hb,if_neg (by decide),if_neg (by rintro⟨_,h⟩;simp at h;exact h2 h)]
 ·have e1:decide (((AE x).length:Int)>1)=false:=Ak (by omega);rw[e1,if_neg (by decide),bs,if_neg (by decide),if_neg (by rintro⟨h,_⟩;exact h1 h)]
set_option maxRecDepth 100000
set_option linter.unusedSimpArgs false
def CI(c:Cal):Int:=if c.1<0∨3≤c.1 then 11 else if c.2.1< -25567∨84006≤c.2.1 then 15 else if c.2.2<0∨60<c.2.2 then 2 else 0
theorem TH(d:Int):JW d=some (decide (-25567≤d)&&decide (d<84006)):=by
 unfold JW;dsimp only;simp only[gPi,gSS,gPb,gPm,gPs,gM,gM2,AJ,gOr,AK,AP,gAA,gAO,gOA,gOO,AG,AI,AL,AO,AH,AM,gId];simp only[Bd,Be,Bf,Bg,Bh,Bi,Bj,Bk,gId,Bc,gMb,gMm,gBm,gBb,bs,ms];by_cases h:d≥ -25567
 ·rw[if_pos (Al h),show decide (-25567≤d)=true from Al h];rfl
 ·rw[if_neg (by simpa using h),show decide (-25567≤d)=false from Ak h];rfl
theorem Lf(c:Cal):Im c=some (CI c):=by
 obtain⟨k,d,n⟩:=c;unfold Im CI;dsimp only;simp only[gPi,gSS,gPb,gPm,gPs,gM,gM2,AJ,gOr,AK,AP,gAA,gAO,gOA,gOO,AG,AI,AL,AO,AH,AM,gId];simp only[Bd,Be,Bf,Bg,Bh,Bi,Bj,Bk,gId,Bc,gMb,gMm,gBm,gBb,bs,ms];rw[TH]
 have o1:∀(a b:Prop) [Decidable a] [Decidable b],(if decide a=true then some true else some (decide b))=some (decide (a∨b)):=by
  intro a b _ _;by_cases ha:a
  ·rw[if_pos (Al ha),Al (Or.inl ha)]
  ·rw[if_neg (by simpa using ha)]
   congr 1
   rw[Bool.eq_iff_iff];simp[ha]
 rw[o1,o1,bs];by_cases h1:k<0∨3≤k
 ·rw[if_pos (Al (by omega)),if_pos h1]
 ·rw[if_neg (by simp;omega),if_neg h1,bs];by_cases h2:d< -25567∨84006≤d
  ·rw[if_pos (by simp;omega),if_pos h2]
  ·rw[if_neg (by simp;omega),if_neg h2,bs];by_cases h3:n<0∨60<n
   ·rw[if_pos (Al (by omega)),if_pos h3]
   ·rw[if_neg (by simp;omega),if_neg h3]
theorem Td{w:List UInt8}{L:List (List UInt8)}(hL:L.length≤1000000):∃k,Et (w,L)=some k:=by
 have key:∀(d i:Nat),i+d=L.length→∃r,iter Km (w,L,(L.length:Int),(i:Int),())=some r:=by
  intro d
  induction d with
  |zero=>
   intro i hi;have:i=L.length:=by omega
   subst this;refine⟨.inl (), ?_⟩;rw[AR];unfold Km;dsimp only;rw[DF,if_neg (by decide),bs]
  |succ d ih=>
   intro i hi;have hx:L[i]? =some (L[i]'(by omega)):=Ai _;rw[AR];unfold Km;dsimp only;rw[Cu hx,if_pos rfl,Bn hx];simp only[ms,bs];split
   ·exact⟨_,by rw[bs]⟩
   ·obtain⟨r,hr⟩:=ih (i+1) (by omega);refine⟨r, ?_⟩;rw[bs,BN (by omega)];exact hr
 obtain⟨r,hr⟩:=key L.length 0 (by omega);unfold Et;dsimp only;rw[show(0:Int)=((0:Nat):Int)from rfl,hr,bs]
 cases r with
 |inl _=>exact⟨_,rfl⟩
 |inr k=>exact⟨_,rfl⟩
theorem NI{w:List UInt8}{as:List (List UInt8)}(h:B4 as):∃d e,Dv (w::as)=some (d,e)∧(e=0→CI d=0):=by
 unfold Dv;dsimp only;simp only[gPi,gSS,gPb,gPm,gPs,gM,gM2,AJ,gOr,AK,AP,gAA,gAO,gOA,gOO,AG,AI,AL,AO,AH,AM,gId];simp only[Bd,Be,Bf,Bg,Bh,Bi,Bj,Bk,gId,Bc,gMb,gMm,gBm,gBb,bs,ms];rw[show lAt (w::as) 0=some w from Bn (i:=0) rfl,bs]
 have q1:∃q,(if(!(w==([99,97,108,101,110,100,97,114]:List UInt8)))=true then some true else some ((((w::as).length:Int)) !=4))=some q∧(q=false→as.length=3):=by
  split
  ·exact⟨true,rfl,by intro e;cases e⟩
  ·refine⟨_,rfl,fun e=> ?_⟩;have:=bne_eq_false_iff_eq.1 e;simp at this;omega
 obtain⟨q,hq,hl⟩:=q1;rw[hq,bs]
 cases q with
 |true=>exact⟨(0,0,0),3,rfl,by intro e;cases e⟩
 |false=>
  rw[if_neg (by decide)]
  match as,hl rfl with
  | [a1,a2,a3],_=>
   have s1:=h.2 a1 (by simp);have s2:=h.2 a2 (by simp);have s3:=h.2 a3 (by simp);rw[show lAt (w:: [a1,a2,a3]) 1=some a1 from Bn (i:=1) rfl,bs,show GZ ()=some [[109,111,110,116,104,108,121],[98,105,119,101,101,107,108,121],[102,111,117,114,119,101,101,107,108,121]]from rfl,bs];obtain⟨k,hk⟩:=Td (w:=a1) (L:= [[109,111,110,116,104,108,121],[98,105,119,101,101,107,108,121],[102,111,117,114,119,101,101,107,108,121]]) (by decide);rw[hk,bs];split
   ·exact⟨(0,0,0),11,rfl,by intro e;cases e⟩
   ·rw[show lAt (w:: [a1,a2,a3]) 2=some a2 from Bn (i:=2) rfl,bs]
    obtain⟨d,e,hd⟩:∃d e,CJ a2=some (d,e):=by
     rcases R6 a2 with⟨d,_,h⟩|⟨_,e,_,h⟩
     ·exact⟨_,_,h⟩
     ·exact⟨_,_,h⟩
    rw[hd,bs];split
    ·rename_i he;exact⟨(0,0,0),e,rfl,fun h0=>by rw[h0]at he;cases he⟩
    ·rw[show lAt (w:: [a1,a2,a3]) 3=some a3 from Bn (i:=3) rfl,bs];obtain⟨n,e',g1,_⟩:=Mv s3;rw[g1,bs];split
     ·exact⟨(0,0,0),3,rfl,by intro e;cases e⟩
     ·rw[Lf,bs];exact⟨(k,d,n),_,rfl,fun h=>h⟩
noncomputable def BT(ws:List (List UInt8)):Cal×Int:=(Dv ws).getD ((0,0,0),3)
noncomputable def AV(i:Int)(ws:List (List UInt8)):Cmd×Int:=(Dc (i,ws)).getD ((0,0,[]),3)
theorem R8{w:List UInt8}{as:List (List UInt8)}(h:B4 as):Dv (w::as)=some (BT (w::as)):=by
 obtain⟨d,e,g,_⟩:=NI (w:=w) h;unfold BT;rw[g];rfl
theorem RY{w:List UInt8}{as:List (List UInt8)}(h:B4 as)(i:Int):Dc (i,w::as)=some (AV i (w::as)):=by
 unfold AV;rcases Lk (w:=w) h with⟨j,f,e,_,_,_,_,g⟩|g
 ·rw[g i];rfl
 ·rw[g i];rfl
abbrev Hl:=Cal×List Cmd×Int×Int
noncomputable def pgo(i:Nat)(b:Bool)(c:Cal)(out:List Cmd):List (List (List UInt8))→Hl
 | []=>if b=true then(c,out,0,0)else((0,0,0),[],0,6)
 |ws::L=>if Cd ws=true then pgo (i+1) b c out L else
   if b=true then(if(AV ((i+1:Nat):Int) ws).2=0∧out.length<1000 then pgo (i+1) true c (out++ [(AV ((i+1:Nat):Int) ws).1]) L
    else((0,0,0),[],((i+1:Nat):Int),if(AV ((i+1:Nat):Int) ws).2=0 then 5 else(AV ((i+1:Nat):Int) ws).2))
   else(if(BT ws).2=0 then pgo (i+1) true (BT ws).1 out L else((0,0,0),[],((i+1:Nat):Int),(BT ws).2))
def L0:(Bool×Int×Int×Int×Int×Int×Int×Int×Int×Int×List Cmd×Unit×Unit×Unit×Unit×Unit×Unit×Unit×Unit)⊕Hl→Hl
 | .inl p=>if p.1=true then((p.2.2.2.2.2.2.2.1,p.2.2.2.2.2.2.2.2.1,p.2.2.2.2.2.2.2.2.2.1),p.2.2.2.2.2.2.2.2.2.2.1,0,0)else((p.2.2.2.2.1,p.2.2.2.2.2.1,p.2.2.2.2.2.2.1),[],0,6)
 | .inr q=>q
theorem QW(l cs:List UInt8):(Lib.trimS l cs).length≤l.length:=by
 unfold Lib.trimS Lib.trimLeftS Lib.trimRightS
 have h1:∀(p:UInt8→Bool) (l:List UInt8),(l.dropWhile p).length≤l.length:=by
  intro p l
  induction l with
  |nil=>simp
  |cons a t ih=>
   rw[List.dropWhile_cons];split
   ·simp;omega
   ·simp
 refine Nat.le_trans (h1 _ _) ?_;rw[List.length_reverse];exact Nat.le_trans (h1 _ _) (by simp)
theorem Ww{t:List UInt8}(h:∀b∈t,b=32):AE t= []:=by
 have:t=List.replicate t.length 32:=List.eq_replicate_iff.2 ⟨rfl,h⟩;have e:=Nd [] t.length;rw[List.append_nil,←this]at e;exact e
theorem KF{x:List UInt8}(hx:x.length≤900000):(∀w∈A8 x,w≠ [])∧B4 (A8 x):=by
 have hlen:(AE x).length≤900001:=by
  unfold AE A7;have h1:=List.length_filter_le (fun w:List UInt8=> !(w== [])) (By 32 [] x);rw[Hd]at h1;have:=List.count_le_length (a:=(32:UInt8)) (l:=x);omega
 unfold A8;split
 ·rename_i h;obtain⟨n,t,hxe,ht⟩:=IB h.1 h.2;have hr:Iq x=32::t:=by rw[hxe,Fv]
  have hl:=QW (Iq x) [32]
  have hxl:t.length+1≤900000:=by
   rw[hxe]at hx;simp[AA]at hx;omega
  rw[hr]at hl⊢;simp only[List.length_cons]at hl;refine⟨fun w hw=> ?_,by simp,fun w hw=> ?_⟩
  ·rcases List.mem_cons.1 hw with rfl|hw
   ·decide
   ·rw[List.mem_singleton.1 hw];intro e;apply ht;refine Ww fun b hb=> ?_;have:=QX e b (by simp[hb]);rw[Sg]at this;simpa using this
  ·rcases List.mem_cons.1 hw with rfl|hw
   ·decide
   ·rw[List.mem_singleton.1 hw];omega
 ·refine⟨fun w hw=>(Rh hw).1,by omega,fun w hw=> ?_⟩;have:=(Rh hw).2.2.1;omega
theorem MR{w:List UInt8}{as:List (List UInt8)}(h:B4 (w::as)):B4 as:=
 ⟨by have:=h.1;simp at this;omega,fun v hv=>h.2 v (by simp[hv])⟩
theorem JV{L:List (List UInt8)}(hL:L.length≤1000000)(hx:∀x∈L,x.length≤900000):∀(d i:Nat) (b:Bool) (c:Cal) (out:List Cmd),i+d=L.length→out.length≤1000→
  ∃r,iter C7 (mkP L b c out i)=some r∧L0 r=pgo i b c out ((L.drop i).map A8)
 |0,i,b,c,out,hi,ho=>by
  have e:i=L.length:=by omega
  subst e;refine⟨.inl (b,0,0,0,0,0,0,c.1,c.2.1,c.2.2,out,(),(),(),(),(),(),(),()), ?_, ?_⟩
  ·rw[AR];exact(congrArg (fun o=>Option.bind o _) QH).trans rfl
  ·simp only[List.drop_length,List.map_nil,pgo,L0]
 |d+1,i,b,c,out,hi,ho=>by
  have hlt:i<L.length:=by omega
  have hg:L[i]? =some L[i]:=Ai hlt;have hxl:=hx _ (List.getElem_mem hlt);have hs:=Vl hxl;obtain⟨hw,hsh⟩:=KF hxl
  have hdrop:(L.drop i).map A8=A8 L[i]::(L.drop (i+1)).map A8:=by
   rw[List.drop_eq_getElem_cons hlt,List.map_cons]
  rw[hdrop];unfold pgo;by_cases hk:Cd (A8 L[i])=true
  ·rw[if_pos hk];obtain⟨r,h1,h2⟩:=JV hL hx d (i+1) b c out (by omega) ho;exact⟨r,by rw[AR,Vx hg hL hs hw hk,bs];exact h1,h2⟩
  ·rw[if_neg hk];have hk':Cd (A8 L[i])=false:=by simpa using hk
   cases hws:A8 L[i]with
   |nil=>rw[hws]at hk';cases hk'
   |cons w as=>
    rw[hws]at hs hw hsh hk';have hta:=MR hsh
    cases b with
    |true=>
     rw[if_pos rfl];have hc:=RY (w:=w) hta ((i+1:Nat):Int);by_cases he:(AV ((i+1:Nat):Int) (w::as)).2=0
     ·have hc':Dc (((i+1:Nat):Int),w::as)=some ((AV ((i+1:Nat):Int) (w::as)).1,0):=by rw[hc,←he]
      by_cases hlen:out.length<1000
      ·rw[if_pos ⟨he,hlen⟩];obtain⟨r,h1,h2⟩:=JV hL hx d (i+1) true c (out++ [(AV ((i+1:Nat):Int) (w::as)).1]) (by omega) (by simp;omega);exact⟨r,by rw[AR,QG hg hL hs hw hk' hc' hlen,bs];exact h1,h2⟩
      ·rw[if_neg (by rintro⟨_,h⟩;exact hlen h),if_pos he];exact⟨_,by rw[AR,Vw hg hL hs hw hk' hc' (by omega),bs],rfl⟩
     ·rw[if_neg (by rintro⟨h,_⟩;exact he h),if_neg he];exact⟨_,by rw[AR,Vv hg hL hs hw hk' (y:=(AV ((i+1:Nat):Int) (w::as)).1) (e:=(AV ((i+1:Nat):Int) (w::as)).2) hc he,bs],rfl⟩
    |false=>
     rw[if_neg (by decide)];have hc:=R8 (w:=w) hta;by_cases he:(BT (w::as)).2=0
     ·have hc':Dv (w::as)=some ((BT (w::as)).1,0):=by rw[hc,←he]
      rw[if_pos he];obtain⟨r,h1,h2⟩:=JV hL hx d (i+1) true (BT (w::as)).1 out (by omega) ho;exact⟨r,by rw[AR,QF hg hL hs hw hk' hc',bs];exact h1,h2⟩
     ·rw[if_neg he];exact⟨_,by rw[AR,Vu hg hL hs hw hk' (d:=(BT (w::as)).1) (e:=(BT (w::as)).2) hc he,bs],rfl⟩
noncomputable def A9(s:List UInt8):Hl:=pgo 0 false (0,0,0) [] ((A7 10 s).map A8)
theorem JU{s:List UInt8}(h:s.length≤65536):Es s=some (A9 s):=by
 have hL:(A7 10 s).length≤1000000:=by
  unfold A7;rw[Hd];have:=List.count_le_length (a:=(10:UInt8)) (l:=s);omega
 have hx:∀x∈A7 10 s,x.length≤900000:=by
  intro x hx;have:=(He 10 s [] (fun _ h=>by cases h) x hx).2.1;simp at this;omega
 obtain⟨r,h1,h2⟩:=JV hL hx (A7 10 s).length 0 false (0,0,0) [] (by omega) (by simp);unfold Es A9;dsimp only;rw[show decide ((s.length:Int)>65536)=false from Ak (by omega),if_neg (by decide),Hm (by omega),bs];refine Ax h1 ?_;rw[List.drop_zero]at h2;rw[←h2]
 cases r with
 |inr q=>rfl
 |inl p=>
  dsimp only[L0];cases p.1
  ·rfl
  ·rfl
set_option maxRecDepth 100000
set_option linter.unusedSimpArgs false
def Ca:List UInt8:= [32,32,10,32,10,32,32]
theorem UV:∀(n:Nat) (s:List UInt8),s.length≤n→∀k,s.count 10≤k→Lib.replaceK [10] Ca k s=Lib.join (A7 10 s) Ca:=by
 intro n
 induction n with
 |zero=>
  intro s hs k _;have:s= []:=List.eq_nil_of_length_eq_zero (by omega);subst this;cases k<;>rfl
 |succ n ih=>
  intro s hs k hk;rcases Ht 10 s with h|⟨l,t,rfl,h⟩
  ·have e:A7 10 s= [s]:=by unfold A7;rw[I5 10 s [] h];rfl
   rw[e,show Lib.join [s] Ca=s by simp[Lib.join]]
   cases k with
   |zero=>rfl
   |succ k=>
    unfold Lib.replaceK;rw[Lib.index_one,OI h,if_pos (by rfl)]
  ·have e:A7 10 (l++10::t)=l::A7 10 t:=by unfold A7;rw[F1 10 l t [] h];rfl
   have hc:(l++10::t).count 10=t.count 10+1:=by
    have h0:l.count 10=0:=List.count_eq_zero.2 fun hm=>h 10 hm rfl;simp[List.count_append,h0]
   rw[hc]at hk
   cases k with
   |zero=>omega
   |succ k=>
    unfold Lib.replaceK;rw[Lib.index_one,OH h,if_neg (by rw[beq_iff_eq];omega)];have h1:((l.length:Int)).toNat=l.length:=by omega
    simp only[h1];rw[List.take_left' rfl,show l.length+([10]:List UInt8).length=(l++ [10]).length by simp,show l++10::t=(l++ [10])++t by simp,List.drop_left' rfl];rw[ih t (by simp at hs;omega) k (by omega),show l++ [10]++t=l++10::t by simp,e];have hne:=Ks 10 t []
    cases hq:A7 10 t with
    |nil=>exact absurd hq hne
    |cons x L=>simp[Lib.join]
theorem UW:∀(n:Nat) (s:List UInt8),s.length≤n→(Lib.join (A7 10 s) Ca).length=s.length+6*s.count 10:=by
 intro n
 induction n with
 |zero=>
  intro s hs;have:s= []:=List.eq_nil_of_length_eq_zero (by omega);subst this;rfl
 |succ n ih=>
  intro s hs;rcases Ht 10 s with h|⟨l,t,rfl,h⟩
  ·have e:A7 10 s= [s]:=by unfold A7;rw[I5 10 s [] h];rfl
   have hc:s.count 10=0:=List.count_eq_zero.2 fun hm=>h 10 hm rfl;rw[e,show Lib.join [s] Ca=s by simp[Lib.join],hc];omega
  ·have e:A7 10 (l++10::t)=l::A7 10 t:=by unfold A7;rw[F1 10 l t [] h];rfl
   have hc:(l++10::t).count 10=t.count 10+1:=by
    have h0:l.count 10=0:=List.count_eq_zero.2 fun hm=>h 10 hm rfl;simp[List.count_append,h0]
   have h1:=ih t (by simp at hs;omega);rw[e,hc]
   cases hq:A7 10 t with
   |nil=>exact absurd hq (Ks 10 t [])
   |cons x L=>
    rw[hq]at h1;have:Lib.join (l::x::L) Ca=l++Ca++Lib.join (x::L) Ca:=by simp[Lib.join]
    rw[this];simp only[List.length_append,h1,List.length_cons];simp[Ca];omega
theorem UU{s:List UInt8}(h:s.length≤1000000):strings_ReplaceAll (s,[10],Ca)=some (Lib.join (A7 10 s) Ca):=by
 have hc:=List.count_le_length (a:=(10:UInt8)) (l:=s);unfold strings_ReplaceAll;dsimp only;rw[if_pos ⟨by omega,by decide,by rw[Lib.count_one];simp[Ca];omega⟩]
 congr 1
 unfold Lib.replaceAll Lib.replace;rw[if_neg (by decide)];refine UV s.length s (Nat.le_refl _) _ ?_;unfold Lib.replaceNum;rw[if_pos (.inl (by decide)),Lib.count_one];exact Nat.le_refl _
def Ij:List UInt8→List (List UInt8)→List (List UInt8)
 |p,[]=> [p]
 |p,q::L=>(p++ [32,32]):: [32]::Ij ([32,32]++q) L
theorem QC:∀(L:List (List UInt8)) (p:List UInt8),(∀b∈p,b≠10)→(∀q∈L,∀b∈q,b≠10)→A7 10 (Lib.join (p::L) Ca)=Ij p L
 | [],p,hp,_=>by
  rw[show Lib.join [p] Ca=p by simp[Lib.join]];unfold A7 Ij;rw[I5 10 p [] hp];rfl
 |q::L,p,hp,hL=>by
  have e:Lib.join (p::q::L) Ca=(p++ [32,32])++10::([32]++10::Lib.join (([32,32]++q)::L) Ca):=by
   cases L<;>simp[Lib.join,Ca]
  have h1:∀b∈p++ [32,32],b≠10:=by
   intro b hb;rcases List.mem_append.1 hb with hb|hb
   ·exact hp b hb
   ·have:b=32:=by simpa using hb
    rw[this];decide
  have h2:∀b∈([32,32]++q:List UInt8),b≠10:=by
   intro b hb;rcases List.mem_append.1 hb with hb|hb
   ·have:b=32:=by simpa using hb
    rw[this];decide
   ·exact hL q (by simp) b hb
  rw[e];unfold A7;rw[F1 10 _ _ [] h1,F1 10 [32] _ [] (by decide)];have:=QC L ([32,32]++q) h2 fun x hx=>hL x (by simp[hx]);unfold A7 at this;rw[this];rfl
theorem W0(x:List UInt8)(k:Nat):A8 (x++List.replicate k 32)=A8 x:=by
 unfold A8;rw[Wx];by_cases h:1<(AE x).length∧(AE x).head? =some AA
 ·rw[if_pos h,if_pos h];obtain⟨n,t,rfl,_⟩:=IB h.1 h.2;have e:List.replicate n 32++(AA++32::t)++List.replicate k 32=List.replicate n 32++(AA++(32::t++List.replicate k 32)):=by simp
  rw[e,Fv,Fv,QV]
 ·rw[if_neg h,if_neg h]
theorem Wz(x:List UInt8)(k:Nat):A8 (List.replicate k 32++x)=A8 x:=by
 unfold A8;rw[Nd];by_cases h:1<(AE x).length∧(AE x).head? =some AA
 ·rw[if_pos h,if_pos h];obtain⟨n,t,rfl,_⟩:=IB h.1 h.2
  have e:List.replicate k 32++(List.replicate n 32++(AA++32::t))=List.replicate (k+n) 32++(AA++(32::t)):=by
   rw[←List.append_assoc,List.replicate_append_replicate]
  rw[e,Fv,Fv]
 ·rw[if_neg h,if_neg h]
def Jt:List (List UInt8)→List (List (List UInt8))→List (List (List UInt8))
 |x,[]=> [x]
 |x,y::L=>x:: []::Jt y L
theorem Pi:∀(L:List (List UInt8)) (p:List UInt8),(Ij p L).map A8=Jt (A8 p) (L.map A8)
 | [],p=>rfl
 |q::L,p=>by
  have h:=Pi L ([32,32]++q);unfold Ij Jt;simp only[List.map_cons];rw[h,show A8 ([32,32]++q)=A8 q from Wz q 2,show A8 (p++ [32,32])=A8 p from W0 p 2];rfl
def CQ(a b:List Cmd):Prop:=a.map (·.2)=b.map (·.2)
theorem RZ{w:List UInt8}{as:List (List UInt8)}(h:B4 as)(i j:Int):(AV i (w::as)).2=(AV j (w::as)).2∧(AV i (w::as)).1.2=(AV j (w::as)).1.2:=by
 unfold AV;rcases Lk (w:=w) h with⟨k,f,e,_,_,_,_,g⟩|g
 ·rw[g i,g j];exact⟨rfl,rfl⟩
 ·rw[g i,g j];exact⟨rfl,rfl⟩
theorem It{a b:List Cmd}(h:CQ a b):a.length=b.length:=by
 have:=congrArg List.length h;simpa using this
def Ik(r r':Hl):Prop:=r'.1=r.1∧CQ r.2.1 r'.2.1∧r'.2.2.1=2*r.2.2.1∧r'.2.2.2=r.2.2.2
theorem ED(i:Nat)(b:Bool)(c:Cal)(out:List Cmd)(ws:List (List UInt8))(L:List (List (List UInt8))):pgo i b c out (ws::L)=if Cd ws=true then pgo (i+1) b c out L else
   if b=true then(if(AV ((i+1:Nat):Int) ws).2=0∧out.length<1000 then pgo (i+1) true c (out++ [(AV ((i+1:Nat):Int) ws).1]) L
    else((0,0,0),[],((i+1:Nat):Int),if(AV ((i+1:Nat):Int) ws).2=0 then 5 else(AV ((i+1:Nat):Int) ws).2))
   else(if(BT ws).2=0 then pgo (i+1) true (BT ws).1 out L else((0,0,0),[],((i+1:Nat):Int),(BT ws).2)):=rfl
theorem PL{ws:List (List UInt8)}(h:B4 ws){i:Nat}{b:Bool}{c:Cal}{out out':List Cmd}(ho:CQ out out'){L L':List (List (List UInt8))}
  (hk:∀b c out out',CQ out out'→Ik (pgo (i+1) b c out L) (pgo (2*i+2) b c out' L')):Ik (pgo i b c out (ws::L)) (pgo (2*i+1) b c out' (ws::L')):=by
 rw[ED,ED];by_cases hs:Cd ws=true
 ·rw[if_pos hs,if_pos hs];exact hk b c out out' ho
 ·rw[if_neg hs,if_neg hs]
  cases ws with
  |nil=>exact absurd rfl hs
  |cons w as=>
   have hl:=RZ (w:=w) (MR h) ((i+1:Nat):Int) ((2*i+1+1:Nat):Int)
   cases b with
   |true=>
    rw[if_pos rfl,if_pos rfl,←hl.1,←It ho];by_cases hq:(AV ((i+1:Nat):Int) (w::as)).2=0∧out.length<1000
    ·rw[if_pos hq,if_pos hq];refine hk true c _ _ ?_;unfold CQ at ho⊢;rw[List.map_append,List.map_append,ho];simp only[List.map_cons,List.map_nil,hl.2]
    ·rw[if_neg hq,if_neg hq];exact⟨rfl,rfl,by simp only;omega,rfl⟩
   |false=>
    simp only[Ag,if_false];by_cases hq:(BT (w::as)).2=0
    ·rw[if_pos hq,if_pos hq];exact hk true _ out out' ho
    ·rw[if_neg hq,if_neg hq];exact⟨rfl,rfl,by simp only;omega,rfl⟩
theorem UH{i j:Nat}{b:Bool}{c:Cal}{out out':List Cmd}(ho:CQ out out'):Ik (pgo i b c out []) (pgo j b c out' []):=by
 unfold pgo;cases b
 ·rw[if_neg (by decide),if_neg (by decide)];exact⟨rfl,rfl,rfl,rfl⟩
 ·rw[if_pos rfl,if_pos rfl];exact⟨rfl,ho,rfl,rfl⟩
theorem PK:∀(L:List (List (List UInt8))) (ws:List (List UInt8)),B4 ws→(∀x∈L,B4 x)→∀(i:Nat) (b:Bool) (c:Cal) (out out':List Cmd),CQ out out'→Ik (pgo i b c out (ws::L)) (pgo (2*i+1) b c out' (Jt ws L))
 | [],ws,h,_,i,b,c,out,out',ho=>PL h ho fun _ _ _ _ q=>UH q
 |y::L,ws,h,hL,i,b,c,out,out',ho=>by
  refine PL h ho fun b c out out' q=> ?_;have:=PK L y (hL y (by simp)) (fun x hx=>hL x (by simp[hx])) (i+1) b c out out' q;rw[ED (2*i+2),if_pos (by rfl)];exact this
def Fk:List UInt8:= [35,32,120]
theorem U6{s:List UInt8}(hs:s.length≤9000):∃t,strings_ReplaceAll (s,[10],Ca)=some t∧(Fk++10::t).length≤65536∧Ik (A9 s) (A9 (Fk++10::t)):=by
 refine⟨_,UU (by omega), ?_, ?_⟩
 ·have h1:=UW s.length s (Nat.le_refl _);have:=List.count_le_length (a:=(10:UInt8)) (l:=s);simp only[List.length_append,List.length_cons,h1,Fk];simp;omega
 ·have hno:∀x∈A7 10 s,(∀b∈x,b≠10)∧x.length≤s.length:=fun x hx=>by
   have:=He 10 s [] (fun _ h=>by cases h) x hx;exact⟨this.1,by simpa using this.2.1⟩
  unfold A9
  have e:A7 10 (Fk++10::Lib.join (A7 10 s) Ca)=Fk::A7 10 (Lib.join (A7 10 s) Ca):=by
   unfold A7;rw[F1 10 Fk _ [] (by decide)];rfl
  rw[e]
  cases hq:A7 10 s with
  |nil=>exact absurd hq (Ks 10 s [])
  |cons p L=>
   rw[hq]at hno;rw[QC L p (hno p (by simp)).1 fun q hx=>(hno q (by simp[hx])).1];simp only[List.map_cons];rw[Pi,ED 0 false (0,0,0) [] (A8 Fk),if_pos (by decide)];refine PK (L.map A8) (A8 p) (KF (by have:=(hno p (by simp)).2;omega)).2 (fun x hx=> ?_) 0 false (0,0,0) [] [] rfl;obtain⟨y,hy,rfl⟩:=List.mem_map.1 hx;exact(KF (by have:=(hno y (by simp[hy])).2;omega)).2
set_option maxRecDepth 100000
set_option linter.unusedSimpArgs false
def CS(L:List (List UInt8)):Nat:=(L.map fun w=>w.length+1).sum
theorem Gi(w:List UInt8)(L:List (List UInt8)):CS (w::L)=w.length+1+CS L:=by simp[CS]
theorem LN:∀(L:List (List UInt8)),(Lib.join L [32]).length+(if L= []then 0 else 1)=CS L
 | []=>by rw[Lib.join_nil];rfl
 | [w]=>by simp[Lib.join,CS]
 |w::v::L=>by
  have h:=LN (v::L);rw[if_neg (by simp)]at h⊢;have e:Lib.join (w::v::L) [32]=w++ [32]++Lib.join (v::L) [32]:=by simp[Lib.join]
  rw[e,Gi];simp only[List.length_append,List.length_cons,List.length_nil];omega
theorem VD{L:List (List UInt8)}{m:Nat}(h:∀w∈L,w.length≤m):CS L≤L.length*(m+1):=by
 induction L with
 |nil=>simp[CS]
 |cons w L ih=>
  rw[Gi,List.length_cons,Nat.succ_mul];have h1:=h w (by simp);have h2:=ih fun v hv=>h v (by simp[hv]);omega
noncomputable def B3(x:Cmd):List UInt8×Int:=(GX x).getD ([],0)
theorem Pa{i op:Int}{as:List (List UInt8)}(h:B4 as):∃t e,GX (i,op,as)=some (t,e)∧t.length≤2000000000000∧
  (e=0→∃(j:Nat) (f:List UInt8×List UInt8),op=(j:Int)∧AX[j]? =some f∧Dd (f,as)=some 0∧t=Lib.join (f.1::as) [32]++ [10])∧
  (∀(j:Nat) (f:List UInt8×List UInt8),op=(j:Int)→AX[j]? =some f→Dd (f,as)=some 0→e=0∧t=Lib.join (f.1::as) [32]++ [10]):=by
 unfold GX;dsimp only;simp only[gPi,gSS,gPb,gPm,gPs,gM,gM2,AJ,gOr,AK,AP,gAA,gAO,gOA,gOO,AG,AI,AL,AO,AH,AM,gId];simp only[Bd,Be,Bf,Bg,Bh,Bi,Bj,Bk,gId,Bc,gMb,gMm,gBm,gBb,bs,ms];rw[LA]
 have o1:(if decide (op<0)=true then some true else(some AX).bind fun v=>some (decide (op≥(v.length:Int))))=some (decide (op<0∨13≤op)):=by
  by_cases ha:op<0
  ·rw[if_pos (Al ha),Al (Or.inl ha)]
  ·rw[if_neg (by simpa using ha),bs,DU]
   congr 1
   rw[Bool.eq_iff_iff];simp[ha]
 rw[o1,bs];by_cases hr:op<0∨13≤op
 ·rw[if_pos (Al hr)];refine⟨[],11,rfl,by simp,(by intro e;cases e),fun j f hj hf _=> ?_⟩;have:=(Ae.1 hf).1;rw[DU]at this;omega
 ·rw[if_neg (by simpa using hr),bs];obtain⟨j,rfl⟩:=Int.eq_ofNat_of_zero_le (show 0≤op by omega);have hj:j<AX.length:=by rw[DU];omega
  have hf:AX[j]? =some AX[j]:=Ai hj;generalize AX[j]=f at hf;rw[show lAt AX (j:Int)=some f from Bn hf,bs];obtain⟨e,g1,g2⟩:=Lg (nm:=f.1) (fs:=f.2) h (LB f (List.mem_of_getElem? hf));rw[show((f.1,f.2):List UInt8×List UInt8)=f from rfl]at g1⊢;rw[g1,bs]
  have huniq:∀(j':Nat) (f':List UInt8×List UInt8),(j:Int)=(j':Int)→AX[j']? =some f'→f'=f:=by
   intro j' f' hj' hf';have:j=j':=by omega
   subst this;rw[hf]at hf';cases hf';rfl
  by_cases he:e=0
  ·subst he;rw[if_neg (by decide)]
   have hfw:f.1.length≤1000000:=by
    have hh:(AX.all fun g=>Nat.ble g.1.length 10)=true:=rfl;have:=Ah (List.all_eq_true.1 hh f (List.mem_of_getElem? hf));omega
   have hs:CS (f.1::as)≤1500000000000:=by
    have h1:=VD (L:=f.1::as) (m:=1000000) (fun w hw=>by
     rcases List.mem_cons.1 hw with rfl|hw
     ·exact hfw
     ·exact h.2 w hw)
    have h2:=h.1;have h3:(f.1::as).length*(1000000+1)≤1000001*1000001:=Nat.mul_le_mul (by simp;omega) (by omega);omega
   have hjl:=LN (f.1::as);rw[if_neg (by simp)]at hjl;have h2:=h.1;rw[if_pos ⟨by simp;omega,by simp;omega⟩]
   have hJ:strings_Join ([f.1]++as,[32])=some (Lib.join (f.1::as) [32]):=by
    unfold strings_Join;rw[if_pos]
    ·rfl
    ·exact⟨by show(Lib.join (f.1::as) [32]).length≤_;omega,by show(f.1::as).length≤_;simp;omega⟩
   rw[hJ,bs,if_pos (by simp;omega)];refine⟨_,0,rfl,by simp;omega,fun _=>⟨j,f,rfl,hf,g1,rfl⟩,fun j' f' q1 q2 q3=> ?_⟩;rw[huniq j' f' q1 q2];exact⟨rfl,rfl⟩
  ·rw[if_pos (bne_iff_ne.2 he)];refine⟨[],e,rfl,by simp,fun h0=>absurd h0 he,fun j' f' q1 q2 q3=> ?_⟩;rw[huniq j' f' q1 q2,g1]at q3;cases q3;exact absurd rfl he
theorem TZ{i op:Int}{as:List (List UInt8)}(h:B4 as):GX (i,op,as)=some (B3 (i,op,as)):=by
 obtain⟨t,e,g,_⟩:=Pa (i:=i) (op:=op) h;unfold B3;rw[g];rfl
def okX(x:Cmd):Prop:=∃(j:Nat) (f:List UInt8×List UInt8),x.2.1=(j:Int)∧AX[j]? =some f∧Dd (f,x.2.2)=some 0∧(B3 x).1=Lib.join (f.1::x.2.2) [32]++ [10]
theorem LX{x:Cmd}(h:B4 x.2.2):(B3 x).1.length≤2000000000000∧((B3 x).2=0→okX x)∧(∀(j:Nat) (f:List UInt8×List UInt8),x.2.1=(j:Int)→AX[j]? =some f→Dd (f,x.2.2)=some 0→(B3 x).2=0∧okX x):=by
 obtain⟨i,op,as⟩:=x;obtain⟨t,e,g1,g2,g3,g4⟩:=Pa (i:=i) (op:=op) h;have hR:B3 (i,op,as)=(t,e):=by unfold B3;rw[g1];rfl
 rw[hR];refine⟨g2,fun he=> ?_,fun j f q1 q2 q3=> ?_⟩
 ·obtain⟨j,f,q1,q2,q3,q4⟩:=g3 he;exact⟨j,f,q1,q2,q3,by rw[hR];exact q4⟩
 ·obtain⟨e0,t0⟩:=g4 j f q1 q2 q3;exact⟨e0,j,f,q1,q2,q3,by rw[hR];exact t0⟩
noncomputable def Cw:List UInt8→List Cmd→List UInt8×Int
 |acc,[]=>(acc,0)
 |acc,x::l=>if(B3 x).2=0 then Cw (acc++(B3 x).1) l else([],(B3 x).2)
theorem PP{l:List Cmd}(hl:l.length≤1000)(hs:∀x∈l,B4 x.2.2):∀(d i:Nat) (acc:List UInt8),i+d=l.length→acc.length≤100+i*2000000000000→
  ∃r,iter Kl (acc,l,(l.length:Int),(i:Int),())=some r∧(match r with
   | .inl p=>Cw acc (l.drop i)=(p.1,0)
   | .inr q=>Cw acc (l.drop i)=q∧q.2≠0)
 |0,i,acc,hi,ha=>by
  have e:i=l.length:=by omega
  subst e;refine⟨.inl (acc,()), ?_,by simp[Cw]⟩;rw[AR];unfold Kl;dsimp only;rw[DF,if_neg (by decide),bs]
 |d+1,i,acc,hi,ha=>by
  have hlt:i<l.length:=by omega
  have hx:l[i]? =some l[i]:=Ai hlt;have hsx:=hs _ (List.getElem_mem hlt);have hL:=TZ (i:=l[i].1) (op:=l[i].2.1) hsx;obtain⟨h1,_,_⟩:=LX (x:=l[i]) hsx;have hdrop:l.drop i=l[i]::l.drop (i+1):=List.drop_eq_getElem_cons hlt;rw[hdrop];unfold Cw;rw[AR];unfold Kl;dsimp only;rw[Cu hx,if_pos rfl,Bn hx];simp only[ms,bs];rw[hL,bs];rw[show((l[i].1,l[i].2.1,l[i].2.2):Cmd)=l[i]from rfl];by_cases he:(B3 l[i]).2=0
  ·rw[if_neg (by rw[he];decide),if_pos he];have hb:acc.length+(B3 l[i]).1.length≤100+(i+1)*2000000000000:=by omega
   have hb2:(i+1)*2000000000000≤1000*2000000000000:=Nat.mul_le_mul_right _ (by omega);rw[if_pos (by omega),bs,bs,BN (by omega)];exact PP hl hs d (i+1) (acc++(B3 l[i]).1) (by omega) (by simpa using hb)
  ·rw[if_pos (bne_iff_ne.2 he),if_neg he,bs];exact⟨.inr ([],(B3 l[i]).2),rfl,rfl,he⟩
set_option maxRecDepth 100000
set_option linter.unusedSimpArgs false
def Co:List (List UInt8):= [[109,111,110,116,104,108,121],[98,105,119,101,101,107,108,121],[102,111,117,114,119,101,101,107,108,121]]
def Ez:List UInt8:= [99,97,108,101,110,100,97,114]
noncomputable def CL(d:Int):List UInt8:=(E1 d).getD []
noncomputable def Dk(c:Cal):List (List UInt8):= [Ez,Co.getD c.1.toNat [],CL c.2.1,Lib.itoa c.2.2]
noncomputable def CH(c:Cal):List UInt8:=Lib.join (Dk c) [32]++ [10]
theorem Ut:∀n:Nat,n<61→CD (Lib.decDigits n)=some ((n:Int),0):=by
 decide+kernel
theorem IR{c:Cal}(h:CI c=0):(0≤c.1∧c.1≤2)∧(-25567≤c.2.1∧c.2.1≤84005)∧0≤c.2.2∧c.2.2≤60:=by
 unfold CI at h;split at h
 ·cases h
 ·split at h
  ·cases h
  ·split at h
   ·cases h
   ·omega
theorem H9{d:Int}(hd: -25567≤d∧d≤84005):E1 d=some (CL d)∧CJ (CL d)=some (d,0)∧okW (CL d)∧(CL d).length=10:=by
 obtain⟨Y,M,D,h1,h2⟩:=So hd;have e:CL d=D5 Y M D:=by unfold CL;rw[h1];rfl
 rw[e];refine⟨h1,h2,⟨fun e=> ?_,fun b hb=> ?_⟩,rfl⟩
 ·have:=congrArg List.length e;rw[Sk]at this;cases this
 ·rcases Sj Y M D b hb with h|rfl
  ·exact Jd h
  ·decide
theorem HP:∀k:Nat,k<3→(Et (Co.getD k [],Co)=some (k:Int)∧okW (Co.getD k [])∧(Co.getD k []).length≤10)∧lAt Co (k:Int)=some (Co.getD k []):=by
 intro k hk
 match k,hk with
 |0,_=>exact⟨⟨by unfold Et;dsimp only;exact Ax (DV 10 rfl) rfl,⟨by decide,by decide⟩,by decide⟩,rfl⟩
 |1,_=>exact⟨⟨by unfold Et;dsimp only;exact Ax (DV 10 rfl) rfl,⟨by decide,by decide⟩,by decide⟩,rfl⟩
 |2,_=>exact⟨⟨by unfold Et;dsimp only;exact Ax (DV 10 rfl) rfl,⟨by decide,by decide⟩,by decide⟩,rfl⟩
theorem HR{n:Int}(h:0≤n∧n≤60):strconv_Itoa n=some (Lib.itoa n)∧CD (Lib.itoa n)=some (n,0)∧okW (Lib.itoa n)∧(Lib.itoa n).length≤10:=by
 obtain⟨k,rfl⟩:=Int.eq_ofNat_of_zero_le h.1;have hk:k<61:=by omega
 have hn:=Ut k hk;rw[show Lib.itoa (k:Int)=Lib.decDigits k from Lib.itoa_nonneg k];have hlen:∀n:Nat,n<61→Nat.ble (Lib.decDigits n).length 10=true:=by decide+kernel
 refine⟨?_,hn, ?_,Ah (hlen k hk)⟩
 ·unfold strconv_Itoa;rw[if_pos (by omega),Lib.itoa_nonneg]
 ·obtain⟨n,e,g1,g2⟩:=Mv (w:=Lib.decDigits k) (by have:=Ah (hlen k hk);omega);rw[hn]at g1;cases g1;exact g2 rfl
theorem R9{c:Cal}(h:CI c=0):Dv (Dk c)=some (c,0):=by
 obtain⟨h1,h2,h3⟩:=IR h;obtain⟨k,d,n⟩:=c;simp only at h1 h2 h3;obtain⟨j,rfl⟩:=Int.eq_ofNat_of_zero_le h1.1;obtain⟨⟨k1,k2,k3⟩,k4⟩:=HP j (by omega);obtain⟨d1,d2,d3,d4⟩:=H9 h2;obtain⟨n1,n2,n3,n4⟩:=HR h3;unfold Dk Dv;dsimp only;simp only[gPi,gSS,gPb,gPm,gPs,gM,gM2,AJ,gOr,AK,AP,gAA,gAO,gOA,gOO,AG,AI,AL,AO,AH,AM,gId];simp only[Bd,Be,Bf,Bg,Bh,Bi,Bj,Bk,gId,Bc,gMb,gMm,gBm,gBb,bs,ms];rw[show lAt [Ez,Co.getD ((j:Int)).toNat [],CL d,Lib.itoa n] 0=some Ez from Bn (i:=0) rfl,bs];rw[if_neg (by decide),show(([Ez,Co.getD ((j:Int)).toNat [],CL d,Lib.itoa n]:List (List UInt8)).length:Int)=4 from rfl];refine Ax (a:=false) rfl ?_;rw[if_neg (by decide)];rw[show lAt [Ez,Co.getD ((j:Int)).toNat [],CL d,Lib.itoa n] 1=some (Co.getD j [])from Bn (i:=1) rfl,bs,show GZ ()=some Co from rfl,bs,k1,bs];rw[if_neg (by simp)];rw[show lAt [Ez,Co.getD ((j:Int)).toNat [],CL d,Lib.itoa n] 2=some (CL d)from Bn (i:=2) rfl,bs,d2,bs,if_neg (by show ¬((0:Int) !=0)=true;decide)];rw[show lAt [Ez,Co.getD ((j:Int)).toNat [],CL d,Lib.itoa n] 3=some (Lib.itoa n)from Bn (i:=3) rfl,bs,n2,bs,if_neg (by show ¬((0:Int) !=0)=true;decide),Lf,bs,h]
noncomputable def EE(c:Cal)(l:List Cmd):List UInt8×Int:=if CI c=0 then(if 1000<l.length then([],5)else if(Cw (CH c) l).2=0 then(if 65536<(Cw (CH c) l).1.length then([],4)else((Cw (CH c) l).1,0))else Cw (CH c) l)else([],CI c)
theorem NG{c:Cal}(h:CI c=0):(CH c).length≤100∧([99,97,108,101,110,100,97,114,32]:List UInt8)++Co.getD c.1.toNat []++ [32]++CL c.2.1++ [32]++Lib.itoa c.2.2++ [10]=CH c:=by
 obtain⟨h1,h2,h3⟩:=IR h;have k3:=(HP c.1.toNat (by omega)).1.2.2;have d4:=(H9 h2).2.2.2;have n4:=(HR h3).2.2.2
 have e:([99,97,108,101,110,100,97,114,32]:List UInt8)++Co.getD c.1.toNat []++ [32]++CL c.2.1++ [32]++Lib.itoa c.2.2++ [10]=CH c:=by
  simp[CH,Dk,Lib.join,Ez]
 refine⟨?_,e⟩;rw[←e];simp only[List.length_append,List.length_cons,List.length_nil];omega
theorem PO{c:Cal}{l:List Cmd}(hs:∀x∈l,B4 x.2.2):Iu (c,l)=some (EE c l):=by
 unfold Iu EE;dsimp only;rw[show((c.1,c.2.1,c.2.2):Cal)=c from rfl,Lf,bs];by_cases hc:CI c=0
 ·rw[if_neg (by rw[hc];decide),if_pos hc];by_cases hl:1000<l.length
  ·rw[if_pos hl,if_pos (Al (by omega))]
  ·rw[if_neg hl,if_neg (by simp;omega)];obtain⟨h1,h2,h3⟩:=IR hc;obtain⟨q1,q2⟩:=NG hc;have k3:=(HP c.1.toNat (by omega)).1.2.2;have d4:=(H9 h2).2.2.2;have n4:=(HR h3).2.2.2
   have hk:lAt Co c.1=some (Co.getD c.1.toNat []):=by
    have:=(HP c.1.toNat (by omega)).2;rw[show((c.1.toNat:Nat):Int)=c.1 by omega]at this;exact this
   rw[show GZ ()=some Co from rfl,bs,hk];simp only[ms,bs];rw[if_pos (by simp only[List.length_append,List.length_cons,List.length_nil];omega),bs,if_pos (by simp only[List.length_append,List.length_cons,List.length_nil];omega),bs,(H9 h2).1,bs,if_pos (by simp only[List.length_append,List.length_cons,List.length_nil];omega),bs,if_pos (by simp only[List.length_append,List.length_cons,List.length_nil];omega),bs,(HR h3).1,bs,if_pos (by simp only[List.length_append,List.length_cons,List.length_nil];omega),bs,if_pos (by simp only[List.length_append,List.length_cons,List.length_nil];omega),bs,q2];obtain⟨r,g1,g2⟩:=PP (by omega) hs l.length 0 (CH c) (by omega) (by omega);rw[show(((0:Nat)):Int)=0 from rfl]at g1;rw[g1,bs];rw[List.drop_zero]at g2
   cases r with
   |inl p=>
    simp only at g2⊢;rw[g2,if_pos rfl];by_cases hlen:65536<p.1.length
    ·rw[if_pos hlen,if_pos (Al (by omega))]
    ·rw[if_neg hlen,if_neg (by simp;omega)]
   |inr q=>
    simp only at g2⊢;rw[g2.1,if_neg g2.2]
 ·rw[if_pos (bne_iff_ne.2 hc),if_neg hc]
set_option maxRecDepth 100000
set_option linter.unusedSimpArgs false
theorem Tl:∀j:Nat,j<13→((AX.take j).all fun g=> !(g.1==(AX.getD j ([],[])).1))=true:=by decide+kernel
theorem Tn:(AX.all fun g=> !(g.1== [])&&g.1.all (fun b=>b !=32&&b !=10)&& !(g.1.head? ==some 35))=true:=by decide+kernel
theorem Tm:((AX.drop 1).all fun g=>g.2.all (fun b=>b==110||b==97||b==119)&& !(g.1==AA))=true:=by decide+kernel
theorem Tk:AX[0]? =some (AA,[102]):=rfl
theorem LO{L:List (List UInt8)}(h:∀w∈L,∀b∈w,b≠10):∀b∈Lib.join L [32],b≠10:=by
 induction L with
 |nil=>intro b hb;rw[Lib.join_nil]at hb;cases hb
 |cons w L ih=>
  intro b hb
  cases L with
  |nil=>
   rw[show Lib.join [w] [32]=w by simp[Lib.join]]at hb;exact h w (by simp) b hb
  |cons v L=>
   have e:Lib.join (w::v::L) [32]=w++ [32]++Lib.join (v::L) [32]:=by simp[Lib.join]
   rw[e]at hb;rcases List.mem_append.1 hb with hb|hb
   ·rcases List.mem_append.1 hb with hb|hb
    ·exact h w (by simp) b hb
    ·rw[List.mem_singleton.1 hb];decide
   ·exact ih (fun x hx=>h x (by simp[hx])) b hb
theorem Rj:∀{w:List UInt8},AE w= []→∀b∈w,b=32
 | [],_,b,hb=>by cases hb
 |c::t,h,b,hb=>by
  by_cases hc:c=32
  ·subst hc;rw[Nf]at h;rcases List.mem_cons.1 hb with rfl|hb
   ·rfl
   ·exact Rj h b hb
  ·exfalso;rcases Ht 32 (c::t)with h1|⟨u,v,h1,h2⟩
   ·rw[Gj h1 (by simp)]at h;cases h
   ·have hu:u≠ []:=by
     intro e;subst e;simp at h1;exact hc h1.1
    rw[h1,Hj,Gj h2 hu]at h;cases h
theorem US{x:Cmd}(hs:B4 x.2.2)(hx:okX x):∃(f:List UInt8×List UInt8),(B3 x).1=Lib.join (f.1::x.2.2) [32]++ [10]∧(∀b∈Lib.join (f.1::x.2.2) [32],b≠10)∧A8 (Lib.join (f.1::x.2.2) [32])=f.1::x.2.2∧
  Cd (f.1::x.2.2)=false∧∀i,AV i (f.1::x.2.2)=((i,x.2.1,x.2.2),0):=by
 obtain⟨j,f,h1,h2,h3,h4⟩:=hx;have hj:j<13:=by have:=(Ae.1 h2).1;rw[DU]at this;exact this
 have hfw:=List.all_eq_true.1 Tn f (List.mem_of_getElem? h2);simp only[Af,Bool.not_eq_true',beq_eq_false_iff_ne,List.all_eq_true,bne_iff_ne]at hfw;obtain⟨⟨w1,w2⟩,w3⟩:=hfw
 have hmiss:=Pq f.1 j (by
  have:=Tl j hj;rw[show AX.getD j ([],[])=f by rw[List.getD_eq_getElem?_getD,h2];rfl]at this
  exact this)
 obtain⟨e,g1,g2⟩:=Lg (nm:=f.1) (fs:=f.2) hs (LB f (List.mem_of_getElem? h2));rw[show((f.1,f.2):List UInt8×List UInt8)=f from rfl,h3]at g1;cases g1;obtain⟨g3,g4⟩:=g2 rfl
 have hcom:∀i,AV i (f.1::x.2.2)=((i,x.2.1,x.2.2),0):=by
  intro i;unfold AV;rw[Ll (i:=i) h2 rfl hmiss h3 hs.1,h1];rfl
 have hskip:Cd (f.1::x.2.2)=false:=by
  unfold Cd;exact beq_eq_false_iff_ne.2 w3
 by_cases h0:j=0
 ·subst h0;rw[Tk]at h2;cases h2;obtain⟨i,op,as⟩:=x;simp only at g3 g4 h4 hcom hskip⊢
  match as,g3 with
  | [w],_=>
   have ha:=g4 0 102 w rfl rfl;unfold FB at ha;rw[if_neg (by decide)]at ha;obtain⟨a1,a2,a3⟩:=ha;have e:Lib.join [AA,w] [32]=AA++32::w:=by simp[Lib.join]
   have hww:AE w≠ []:=by
    intro hn;have hb:=Rj hn;have:w=List.replicate w.length 32:=List.eq_replicate_iff.2 ⟨rfl,hb⟩;have h5:=QV [] w.length;rw[List.nil_append,←this,a3]at h5;exact a1 h5
   refine⟨(AA,[102]),h4, ?_, ?_,hskip,hcom⟩
   ·refine LO fun v hv=> ?_;rcases List.mem_cons.1 hv with rfl|hv
    ·decide
    ·rw[List.mem_singleton.1 hv];exact a2
   ·rw[e]
    have hwd:AE (AA++32::w)=AA::AE w:=by
     rw[Hj,Gj (by decide) (by decide)];rfl
    unfold A8
    rw[hwd,if_pos ⟨by
     cases hq:AE w with
     |nil=>exact absurd hq hww
     |cons a t=>simp,rfl⟩]
    have hr:=Fv (32::w) 0;rw[show(List.replicate 0 (32:UInt8))++(AA++32::w)=AA++32::w from rfl]at hr;have ht:=QU w 1;rw[show List.replicate 1 (32:UInt8)++w=32::w from rfl,a3]at ht;rw[hr,ht]
 ·have hd:f∈AX.drop 1:=by
   refine List.mem_of_getElem? (i:=j-1) ?_;rw[List.getElem?_drop,show 1+(j-1)=j by omega];exact h2
  have hfa:=List.all_eq_true.1 Tm f hd;simp only[Af,Bool.not_eq_true',beq_eq_false_iff_ne,List.all_eq_true,Aj,beq_iff_eq]at hfa
  have hok:∀w∈f.1::x.2.2,okW w:=by
   intro w hw;rcases List.mem_cons.1 hw with rfl|hw
   ·exact⟨w1,fun b hb=>w2 b hb⟩
   ·obtain⟨k,hk⟩:=List.getElem?_of_mem hw;have hkl:k<f.2.length:=by rw[←g3];exact(Ae.1 hk).1
    have hc:f.2[k]? =some f.2[k]:=Ai hkl;have ha:=g4 k _ w hc hk;unfold FB at ha;have:=hfa.1 f.2[k] (List.getElem_mem hkl);rw[if_pos (by rcases this with(h|h)|h<;>simp[h])]at ha;exact ha
  refine⟨f,h4,LO fun w hw b hb=>((hok w hw).2 b hb).2, ?_,hskip,hcom⟩;have hw:=Ng (f.1::x.2.2) fun w hw=>⟨(hok w hw).1,fun b hb=>((hok w hw).2 b hb).1⟩;unfold A8;rw[hw,if_neg]
  rintro⟨_,h⟩
  simp at h;exact hfa.2 h
theorem PM:∀(l:List Cmd) (acc:List UInt8),(Cw acc l).2=0→(∀x∈l,(B3 x).2=0)∧(Cw acc l).1=acc++(l.map fun x=>(B3 x).1).flatten
 | [],acc,_=>⟨fun _ h=>(by cases h),by simp[Cw]⟩
 |x::l,acc,h=>by
  unfold Cw at h⊢;by_cases he:(B3 x).2=0
  ·rw[if_pos he]at h⊢;obtain⟨h1,h2⟩:=PM l _ h;refine⟨fun y hy=> ?_,by rw[h2];simp⟩;rcases List.mem_cons.1 hy with rfl|hy
   ·exact he
   ·exact h1 y hy
  ·rw[if_neg he]at h;exact absurd h he
theorem PN:∀(l:List Cmd) (acc:List UInt8),(∀x∈l,(B3 x).2=0)→Cw acc l=(acc++(l.map fun x=>(B3 x).1).flatten,0)
 | [],acc,_=>by simp[Cw]
 |x::l,acc,h=>by
  unfold Cw;rw[if_pos (h x (by simp)),PN l _ fun y hy=>h y (by simp[hy])];simp
theorem QB:∀(l:List (List UInt8)),(∀x∈l,∀b∈x,b≠10)→By 10 [] ((l.map fun x=>x++ [10]).flatten)=l++ [[]]
 | [],_=>rfl
 |x::l,h=>by
  have e:(((x::l).map fun x=>x++ [10]).flatten)=x++10::(l.map fun x=>x++ [10]).flatten:=by simp
  rw[e,F1 10 x _ [] (h x (by simp)),QB l fun y hy=>h y (by simp[hy])];rfl
theorem PJ(c:Cal):∀(l:List Cmd) (W:List (List (List UInt8))) (i:Nat) (out:List Cmd),W.length=l.length→(∀(k:Nat) x ws,l[k]? =some x→W[k]? =some ws→Cd ws=false∧∀i,AV i ws=((i,x.2.1,x.2.2),0))→
  out.length+l.length≤1000→∃k,pgo i true c out (W++ [[]])=(c,out++k,0,0)∧CQ k l
 | [],W,i,out,hW,_,_=>by
  have:W= []:=List.eq_nil_of_length_eq_zero (by simpa using hW);subst this;refine⟨[], ?_,rfl⟩;rw[List.nil_append,ED,if_pos (by rfl)];unfold pgo;rw[if_pos rfl,List.append_nil]
 |x::l,W,i,out,hW,h,hl=>by
  cases W with
  |nil=>simp at hW
  |cons ws W=>
   obtain⟨h1,h2⟩:=h 0 x ws rfl rfl;rw[List.cons_append,ED,if_neg (by rw[h1];decide),if_pos rfl,if_pos ⟨by rw[h2],by simp at hl;omega⟩];obtain⟨k,q1,q2⟩:=PJ c l W (i+1) (out++ [(AV ((i+1:Nat):Int) ws).1]) (by simpa using hW) (fun k y vs hy hv=>h (k+1) y vs (by simpa using hy) (by simpa using hv)) (by simp at hl⊢;omega);refine⟨(AV ((i+1:Nat):Int) ws).1::k,by rw[q1];simp, ?_⟩;rw[h2];unfold CQ at q2⊢;rw[List.map_cons,List.map_cons,q2]
noncomputable def EP(c:Cal)(l:List Cmd):List UInt8:=CH c++(l.map fun x=>(B3 x).1).flatten
theorem PH{c:Cal}{l:List Cmd}(hc:CI c=0)(hl:l.length≤1000)(hs:∀x∈l,B4 x.2.2)(hx:∀x∈l,okX x):∃k,A9 (EP c l)=(c,k,0,0)∧CQ k l:=by
 obtain⟨h1,h2,h3⟩:=IR hc;have hk:=(HP c.1.toNat (by omega)).1.2.1;have hd:=(H9 h2).2.2.1;have hn:=(HR h3).2.2.1
 have hcw:∀w∈Dk c,okW w:=by
  intro w hw;simp only[Dk,List.mem_cons,List.not_mem_nil,or_false]at hw;rcases hw with rfl|rfl|rfl|rfl
  ·exact⟨by decide,by decide⟩
  ·exact hk
  ·exact hd
  ·exact hn
 have key:∀l:List Cmd,(∀x∈l,B4 x.2.2)→(∀x∈l,okX x)→∃(B:List (List UInt8)),(l.map fun x=>(B3 x).1)=B.map (fun x=>x++ [10])∧(∀y∈B,∀b∈y,b≠10)∧B.length=l.length∧
   ∀(k:Nat) x ws,l[k]? =some x→(B.map A8)[k]? =some ws→Cd ws=false∧∀i,AV i ws=((i,x.2.1,x.2.2),0):=by
  intro l
  induction l with
  |nil=>intro _ _;exact⟨[],rfl,fun _ h=>(by cases h),rfl,fun k x ws h=>by cases h⟩
  |cons x l ih=>
   intro hs hx;obtain⟨B,b1,b2,b3,b4⟩:=ih (fun y hy=>hs y (by simp[hy])) fun y hy=>hx y (by simp[hy]);obtain⟨f,f1,f2,f3,f4,f5⟩:=US (hs x (by simp)) (hx x (by simp));refine⟨Lib.join (f.1::x.2.2) [32]::B,by rw[List.map_cons,List.map_cons,b1,f1], ?_,by simp[b3], ?_⟩
   ·intro y hy;rcases List.mem_cons.1 hy with rfl|hy
    ·exact f2
    ·exact b2 y hy
   ·intro k y ws hy hw
    cases k with
    |zero=>
     simp only[List.getElem?_cons_zero,Ac,List.map_cons]at hy hw;subst hy;rw[f3]at hw;subst hw;exact⟨f4,f5⟩
    |succ k=>exact b4 k y ws (by simpa using hy) (by simpa using hw)
 obtain⟨B,b1,b2,b3,b4⟩:=key l hs hx
 have e:A7 10 (EP c l)=Lib.join (Dk c) [32]::(B++ [[]]):=by
  unfold A7 EP CH;rw[b1,List.append_assoc,List.singleton_append,F1 10 _ _ [] (LO fun w hw b hb=>((hcw w hw).2 b hb).2),QB B b2,List.nil_append]
 have hcs:A8 (Lib.join (Dk c) [32])=Dk c:=by
  have hw:=Ng (Dk c) fun w hw=>⟨(hcw w hw).1,fun b hb=>((hcw w hw).2 b hb).1⟩;unfold A8;rw[hw,if_neg]
  rintro⟨_,h⟩
  simp only[Dk,List.head?_cons,Ac]at h;revert h;decide
 unfold A9;rw[e,List.map_cons,hcs,ED,if_neg (by simp[Dk,Cd,Ez]),if_neg (by decide)];have hr:BT (Dk c)=(c,0):=by unfold BT;rw[R9 hc];rfl
 rw[hr,if_pos rfl,List.map_append,show [([]:List UInt8)].map A8= [[]]from rfl];obtain⟨k,q1,q2⟩:=PJ c l (B.map A8) (0+1) [] (by simp[b3]) b4 (by simpa using hl);exact⟨k,by rw[q1,List.nil_append],q2⟩
set_option maxRecDepth 100000
set_option linter.unusedSimpArgs false
theorem Kx(c:UInt8):∀(l cur:List UInt8),CS (By c cur l)=cur.length+l.length+1
 | [],cur=>by simp[By,CS]
 |b::l,cur=>by
  rw[I4];by_cases h:b=c
  ·rw[if_pos h,Gi,Kx c l []];simp;omega
  ·rw[if_neg h,Kx c l (cur++ [b])];simp;omega
theorem QO(p:List UInt8→Bool):∀(L:List (List UInt8)),CS (L.filter p)≤CS L
 | []=>Nat.le_refl _
 |w::L=>by
  have h:=QO p L;rw[List.filter_cons];split
  ·rw[Gi,Gi];omega
  ·rw[Gi];omega
theorem W1{x:List UInt8}:(Lib.join (A8 x) [32]).length≤x.length:=by
 unfold A8;split
 ·rename_i h;obtain⟨n,t,rfl,_⟩:=IB h.1 h.2;rw[Fv];have e:Lib.join [AA,Lib.trimS (32::t) [32]] [32]=AA++32::Lib.trimS (32::t) [32]:=by simp[Lib.join]
  have h1:=QU t 1;rw[show List.replicate 1 (32:UInt8)++t=32::t from rfl]at h1;have h2:=QW t [32];rw[e,h1];simp only[List.length_append,List.length_cons,List.length_replicate];omega
 ·have h1:=LN (AE x)
  have h2:CS (AE x)≤x.length+1:=by
   have:=QO (fun w=> !(w== [])) (By 32 [] x);rw[Kx]at this;unfold AE A7;simpa using this
  split at h1
  ·rename_i hn;rw[hn,Lib.join_nil];simp
  ·omega
noncomputable def Ga(out:List Cmd):Nat:=(out.map fun x=>(B3 x).1).flatten.length
theorem UJ(out:List Cmd)(x:Cmd):Ga (out++ [x])=Ga out+(B3 x).1.length:=by
 unfold Ga;simp
def OE(out:List Cmd):Prop:=out.length≤1000∧∀x∈out,B4 x.2.2∧okX x∧(B3 x).2=0
theorem Sa{x:List UInt8}{w:List UInt8}{as:List (List UInt8)}(hws:A8 x=w::as)(h:B4 as){i:Int}(he:(AV i (w::as)).2=0):
  B4 (AV i (w::as)).1.2.2∧okX (AV i (w::as)).1∧(B3 (AV i (w::as)).1).2=0∧(B3 (AV i (w::as)).1).1.length≤x.length+1:=by
 rcases Lk (w:=w) h with⟨j,f,e,h1,h2,h3,_,g⟩|g
 ·have hc:AV i (w::as)=((i,(j:Int),as),e):=by unfold AV;rw[g i];rfl
  rw[hc]at he⊢;simp only at he;subst he;obtain⟨_,_,q⟩:=LX (x:=(i,(j:Int),as)) h;obtain⟨q1,j',f',r1,r2,r3,r4⟩:=q j f rfl h1 h3;have hjj:j=j':=by simp only at r1;omega
  subst hjj;rw[h1]at r2;cases r2;refine⟨h,⟨j,f,rfl,h1,h3,r4⟩,q1, ?_⟩;rw[r4];simp only;rw[h2,←hws];have:=W1 (x:=x);simp;omega
 ·have hc:AV i (w::as)=((0,0,[]),3):=by unfold AV;rw[g i];rfl
  rw[hc]at he;cases he
theorem Ka:∀(L:List (List UInt8)) (i:Nat) (b:Bool) (c:Cal) (out:List Cmd),(∀x∈L,x.length≤900000)→(b=true→CI c=0)→OE out→
  ((pgo i b c out (L.map A8)).2.2.2≠0→(pgo i b c out (L.map A8)).1=(0,0,0)∧(pgo i b c out (L.map A8)).2.1= [])∧
  ((pgo i b c out (L.map A8)).2.2.2=0→CI (pgo i b c out (L.map A8)).1=0∧OE (pgo i b c out (L.map A8)).2.1∧Ga (pgo i b c out (L.map A8)).2.1≤Ga out+CS L)
 | [],i,b,c,out,_,hb,ho=>by
  rw[List.map_nil];unfold pgo
  cases b with
  |true=>
   rw[if_pos rfl];exact⟨fun h=>absurd rfl h,fun _=>⟨hb rfl,ho,by simp only;omega⟩⟩
  |false=>
   rw[if_neg (by decide)];exact⟨fun _=>⟨rfl,rfl⟩,fun h=>by cases h⟩
 |x::L,i,b,c,out,hx,hb,ho=>by
  have hxl:=hx x (by simp);have hx':∀y∈L,y.length≤900000:=fun y hy=>hx y (by simp[hy]);obtain⟨_,hsh⟩:=KF hxl;rw[List.map_cons,ED,Gi];by_cases hk:Cd (A8 x)=true
  ·rw[if_pos hk];obtain⟨q1,q2⟩:=Ka L (i+1) b c out hx' hb ho;exact⟨q1,fun h=>by obtain⟨r1,r2,r3⟩:=q2 h;exact⟨r1,r2,by omega⟩⟩
  ·rw[if_neg hk]
   cases hws:A8 x with
   |nil=>rw[hws]at hk;exact absurd rfl hk
   |cons w as=>
    rw[hws]at hsh;have hta:=MR hsh
    cases b with
    |true=>
     rw[if_pos rfl];by_cases hq:(AV ((i+1:Nat):Int) (w::as)).2=0∧out.length<1000
     ·rw[if_pos hq];obtain⟨g1,g2,g3,g4⟩:=Sa hws hta hq.1
      obtain⟨q1,q2⟩:=Ka L (i+1) true c (out++ [(AV ((i+1:Nat):Int) (w::as)).1]) hx' hb ⟨by simp;omega,fun y hy=>by
       rcases List.mem_append.1 hy with hy|hy
       ·exact ho.2 y hy
       ·rw[List.mem_singleton.1 hy];exact⟨g1,g2,g3⟩⟩
      refine⟨q1,fun h=> ?_⟩;obtain⟨r1,r2,r3⟩:=q2 h;rw[UJ]at r3;exact⟨r1,r2,by omega⟩
     ·rw[if_neg hq];refine⟨fun _=>⟨rfl,rfl⟩,fun h=> ?_⟩;exfalso;simp only at h;split at h
      ·cases h
      ·contradiction
    |false=>
     rw[if_neg (by decide)];by_cases hq:(BT (w::as)).2=0
     ·rw[if_pos hq]
      have hcc:CI (BT (w::as)).1=0:=by
       obtain⟨d,e,g1,g2⟩:=NI (w:=w) hta;have hr:BT (w::as)=(d,e):=by unfold BT;rw[g1];rfl
       rw[hr]at hq⊢;exact g2 hq
      obtain⟨q1,q2⟩:=Ka L (i+1) true (BT (w::as)).1 out hx' (fun _=>hcc) ho;exact⟨q1,fun h=>by obtain⟨r1,r2,r3⟩:=q2 h;exact⟨r1,r2,by omega⟩⟩
     ·rw[if_neg hq];exact⟨fun _=>⟨rfl,rfl⟩,fun h=>absurd h hq⟩
theorem U9{s:List UInt8}(hs:s.length≤60000):((A9 s).2.2.2≠0→(A9 s).1=(0,0,0)∧(A9 s).2.1= [])∧
  ((A9 s).2.2.2=0→EE (A9 s).1 (A9 s).2.1=(EP (A9 s).1 (A9 s).2.1,0)∧(∀x∈(A9 s).2.1,B4 x.2.2)∧(EP (A9 s).1 (A9 s).2.1).length≤65536∧(A9 s).2.1.length≤1000∧
    ∃k,A9 (EP (A9 s).1 (A9 s).2.1)=((A9 s).1,k,0,0)∧CQ k (A9 s).2.1):=by
 have hx:∀x∈A7 10 s,x.length≤900000:=by
  intro x hx;have:=(He 10 s [] (fun _ h=>by cases h) x hx).2.1;simp at this;omega
 have h:=Ka (A7 10 s) 0 false (0,0,0) [] hx (by intro h;cases h) ⟨by simp,fun _ h=>by cases h⟩
 have hsum:CS (A7 10 s)=s.length+1:=by
  have:=Kx 10 s [];unfold A7;simpa using this
 rw[show pgo 0 false (0,0,0) [] ((A7 10 s).map A8)=A9 s from rfl]at h;refine⟨h.1,fun he=> ?_⟩;obtain⟨h1,h2,h3⟩:=h.2 he;have hp0:Ga []=0:=rfl
 have hlen:(EP (A9 s).1 (A9 s).2.1).length≤65536:=by
  unfold EP;have h5:=(NG h1).1;have h6:((A9 s).2.1.map fun x=>(B3 x).1).flatten.length=Ga (A9 s).2.1:=rfl;rw[List.length_append,h6];omega
 refine⟨?_,fun x hx=>(h2.2 x hx).1,hlen,h2.1,PH h1 h2.1 (fun x hx=>(h2.2 x hx).1) fun x hx=>(h2.2 x hx).2.1⟩;unfold EE;rw[if_pos h1,if_neg (by have:=h2.1;omega),PN _ _ fun x hx=>(h2.2 x hx).2.2];rw[show CH (A9 s).1++((A9 s).2.1.map fun x=>(B3 x).1).flatten=EP (A9 s).1 (A9 s).2.1 from rfl];simp only;rw[if_pos trivial,if_neg (by omega)]
theorem UM{c:Cal}{l:List Cmd}(hs:∀x∈l,B4 x.2.2)(h:(EE c l).2=0):(EE c l).1.length≤65536∧∃k,A9 (EE c l).1=(c,k,0,0)∧CQ k l:=by
 unfold EE at h⊢;by_cases hc:CI c=0
 ·rw[if_pos hc]at h⊢;by_cases hl:1000<l.length
  ·rw[if_pos hl]at h;cases h
  ·rw[if_neg hl]at h⊢;by_cases hp:(Cw (CH c) l).2=0
   ·rw[if_pos hp]at h⊢;by_cases hlen:65536<(Cw (CH c) l).1.length
    ·rw[if_pos hlen]at h;cases h
    ·rw[if_neg hlen];obtain⟨q1,q2⟩:=PM l (CH c) hp;refine⟨by simp only;omega, ?_⟩;simp only;rw[q2];exact PH hc (by omega) hs fun x hx=>(LX (hs x hx)).2.1 (q1 x hx)
   ·rw[if_neg hp]at h;exact absurd h hp
 ·rw[if_neg hc]at h;exact absurd h hc
end WB
