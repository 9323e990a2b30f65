/-
  OWN TEXTS, MERGED (wip/merge.py): PrA, PrB, PrC, PrD, Pof, Pnm, Pfc, Pba, Pbs, Pbt, Pbu, Ptp, Ptq, Pts, Ptsb, Ptt, Ptu, Ptv, Ptw, Ptwb, Ptx. No condition of their own.
-/
import Derived.Test.YtefbaepigpomaaaGreatDoorK9
import Derived.Test.YtefbaepigpomaaaGreatDoorK8
import Derived.Lib.BitFns
set_option linter.unusedVariables false
set_option linter.unusedSimpArgs false
open Go.IntKind (i64 u64 u8 u32)
namespace WB
open Go Go.RowKit
theorem XO{n m:Nat}(b:n<18446744073709551616)(c:m<18446744073709551616):
  M6 ((n:Int),(m:Int))=some (((n*m/18446744073709551616:Nat):Int),((n*m % 18446744073709551616:Nat):Int)):=by
 unfold M6;obtain⟨i,d,g,f⟩:=Go.Lib.mul64_hi n m b c;have l:∀{a:Nat},a<18446744073709551616->u64.wrap (a:Int)=(a:Int):=fun h=>Es h
 have e:n*m/18446744073709551616<18446744073709551616:=by
  rw[Nat.div_lt_iff_lt_mul (by decide)];exact Nat.mul_lt_mul'' b c
 have r:=Int.natCast_mul (n % 4294967296) (m % 4294967296);have q:=Int.natCast_mul (n/4294967296) (m % 4294967296);have o:=Int.natCast_mul (n % 4294967296) (m/4294967296);have k:=Int.natCast_mul (n/4294967296) (m/4294967296);have j:=Int.natCast_mul n m;dsimp only;rw[GQ,bs,GQ,bs,JS b,JS c,<-r,<-q,<-o,<-k,<-j];generalize n % 4294967296*(m % 4294967296)=A at*;generalize n/4294967296*(m % 4294967296)=B at*;generalize n % 4294967296*(m/4294967296)=C at*;generalize n/4294967296*(m/4294967296)=E at*;generalize n*m=F at*;rw[Es i,GQ,bs,Es (show B<18446744073709551616 by omega),<-Int.natCast_add,Es d,GQ,bs,JS d,Es (show C<18446744073709551616 by omega),<-Int.natCast_add,Es g,GQ,bs,Es (show E<18446744073709551616 by omega),<-Int.natCast_add,Es (show E+(B+A/4294967296)/4294967296<18446744073709551616 by omega),<-Int.natCast_add,f,Es e,XF]
theorem Np(n k:Nat)(a:k≤64):(if(k:Int)<0 then none else some ((n:Int).fdiv (2^(min (k:Int).toNat 64))))=some ((n/2^k:Nat):Int):=by
 rw[if_neg (by omega),Int.toNat_natCast,Nat.min_eq_left a,Int.fdiv_eq_ediv_of_nonneg _ (Int.pow_nonneg (by decide))]
 congr 1
theorem Agh(n:Nat):(if(16:Int)<0 then none else some ((n:Int).fdiv (2^(min (16:Int).toNat 64))))=some ((n/65536:Nat):Int):=Np n 16 (by decide)
theorem Agi(n:Nat):(if(8:Int)<0 then none else some ((n:Int).fdiv (2^(min (8:Int).toNat 64))))=some ((n/256:Nat):Int):=Np n 8 (by decide)
theorem Ada:∀n:Fin 256,([0,1,2,2,3,3,3,3,4,4,4,4,4,4,4,4,5,5,5,5,5,5,5,5,5,5,5,5,5,5,5,5,6,6,6,6,6,6,6,6,6,6,6,6,6,6,6,6,6,6,6,6,6,6,6,6,6,6,6,6,6,6,6,6,7,7,7,7,7,7,7,7,7,7,7,7,7,7,7,7,7,7,7,7,7,7,7,7,7,7,7,7,7,7,7,7,7,7,7,7,7,7,7,7,7,7,7,7,7,7,7,7,7,7,7,7,7,7,7,7,7,7,7,7,7,7,7,7,8,8,8,8,8,8,8,8,8,8,8,8,8,8,8,8,8,8,8,8,8,8,8,8,8,8,8,8,8,8,8,8,8,8,8,8,8,8,8,8,8,8,8,8,8,8,8,8,8,8,8,8,8,8,8,8,8,8,8,8,8,8,8,8,8,8,8,8,8,8,8,8,8,8,8,8,8,8,8,8,8,8,8,8,8,8,8,8,8,8,8,8,8,8,8,8,8,8,8,8,8,8,8,8,8,8,8,8,8,8,8,8,8,8,8,8,8,8,8,8,8,8,8,8,8,8,8,8]:List UInt8)[n.val]? =some (UInt8.ofNat (Go.Lib.bitLen n.val)):=by decide+kernel
theorem XN{n:Nat}(q:n<18446744073709551616):M5 (n:Int)=some (Go.Lib.bitLen n:Int):=by
 unfold M5
 have y:∃n1 a:Nat,n1<4294967296/\a≤32/\Go.Lib.bitLen n=a+Go.Lib.bitLen n1/\(if decide ((n:Int)≥(4294967296:Int))=true then
   Option.bind (if(32:Int)<0 then none else some ((n:Int).fdiv (2^(min (32:Int).toNat 64)))) fun b=>some (b,(32:Int),())else some ((n:Int),(0:Int),()))=some ((n1:Int),(a:Int),()):=by
  by_cases h:4294967296≤n
  ·refine⟨n/4294967296,32,by omega,by omega,Go.Lib.bitLen_shift32 n h q, ?_⟩;rw[if_pos (by simpa using by omega),GQ];rfl
  ·refine⟨n,0,by omega,by omega,by omega, ?_⟩;rw[if_neg (by simpa using by omega)];rfl
 obtain⟨n1,a,o,t,g,k⟩:=y
 have x:∃n2 k2:Nat,n2<65536/\k2≤48/\Go.Lib.bitLen n=k2+Go.Lib.bitLen n2/\(if decide ((n1:Int)≥(65536:Int))=true then
   Option.bind (if(16:Int)<0 then none else some ((n1:Int).fdiv (2^(min (16:Int).toNat 64)))) fun b=>some (b,i64.wrap ((a:Int)+(16:Int)),())else some ((n1:Int),(a:Int),()))=some ((n2:Int),(k2:Int),()):=by
  by_cases h:65536≤n1
  ·refine⟨n1/65536,a+16,by omega,by omega,by rw[g,Go.Lib.bitLen_shift16 n1 h (by omega)];omega, ?_⟩;rw[if_pos (by simpa using by omega),Agh,A7 (by omega) (by omega)];rfl
  ·refine⟨n1,a,by omega,by omega,by omega, ?_⟩;rw[if_neg (by simpa using by omega)]
 obtain⟨n2,k2,m,s,f,j⟩:=x
 have w:∃n3 d:Nat,n3<256/\d≤56/\Go.Lib.bitLen n=d+Go.Lib.bitLen n3/\(if decide ((n2:Int)≥(256:Int))=true then
   Option.bind (if(8:Int)<0 then none else some ((n2:Int).fdiv (2^(min (8:Int).toNat 64)))) fun b=>some (b,i64.wrap ((k2:Int)+(8:Int)),())else some ((n2:Int),(k2:Int),()))=some ((n3:Int),(d:Int),()):=by
  by_cases h:256≤n2
  ·refine⟨n2/256,k2+8,by omega,by omega,by rw[f,Go.Lib.bitLen_shift8 n2 h (by omega)];omega, ?_⟩;rw[if_pos (by simpa using by omega),Agi,A7 (by omega) (by omega)];rfl
  ·refine⟨n2,k2,by omega,by omega,by omega, ?_⟩;rw[if_neg (by simpa using by omega)]
 obtain⟨n3,d,c,r,e,i⟩:=w;have A:Go.Lib.bitLen n3≤8:=Go.Lib.bitLen_le8 ⟨n3,c⟩;dsimp only;rw[k,bs];dsimp only;rw[j,bs];dsimp only;rw[i,bs];dsimp only;have l:u8.wrap (n3:Int)=(n3:Int):=by rw[IntKind.wrap_u8];omega
 rw[l,WY (Ada ⟨n3,c⟩),bs];have v:((UInt8.ofNat (Go.Lib.bitLen n3)).toNat)=Go.Lib.bitLen n3:=by rw[UInt8.toNat_ofNat'];omega
 rw[v,A7 (n:=(Go.Lib.bitLen n3:Int)) (by omega) (by omega),A7 (by omega) (by omega),e];rfl
theorem XM{n:Nat}(a:n<18446744073709551616):M4 (n:Int)=some (64-(Go.Lib.bitLen n:Int)):=by
 unfold M4;have:Go.Lib.bitLen n≤64:=Go.Lib.bitLen_le n 64 (by omega) a;dsimp only;rw[XN a,bs,A7 (by omega) (by omega)]
theorem Yx:∀(n:Nat),n<18446744073709551616->n≠0->2^Go.Lib.bitLen n≤2*n/\n<2^Go.Lib.bitLen n:=by
 intro n
 induction n using Nat.strongRecOn with
 |_ n ih=>
  intro h d;rw[Go.Lib.bitLen_half n d h];by_cases c:n/2=0
  ·have:n=1:=by omega
   subst this;decide
  ·obtain⟨a,b⟩:=ih (n/2) (by omega) (by omega) c;rw[Nat.add_comm 1,Nat.pow_succ];omega
section
variable {p z u n:Nat}
theorem Vg(f:z<4294967296)(j:n<4294967296)(g:u<p*4294967296+z){q r:Nat}(h:q*p+r=u)(m:(u*4294967296+n)/(p*4294967296+z)≤q)(i:q≤4294967297)(o:r<4294967296):
  q*z<18446744073709551616/\4294967296*r+n<18446744073709551616/\
  ((q<4294967296/\q*z≤4294967296*r+n->q=(u*4294967296+n)/(p*4294967296+z))
  /\(4294967296≤q\/4294967296*r+n<q*z->1≤q/\(q-1)*p+(r+p)=u/\(u*4294967296+n)/(p*4294967296+z)≤q-1/\(4294967296≤r+p->q-1=(u*4294967296+n)/(p*4294967296+z)))):=by
 have hd:0<p*4294967296+z:=by omega
 have d:q*z≤4294967297*4294967295:=Nat.mul_le_mul i (by omega);refine⟨by omega,by omega,fun⟨a,b⟩=> ?_,fun a=> ?_⟩
 ·refine Nat.le_antisymm ?_ m;rw[Nat.le_div_iff_mul_le hd];have:=(Vf (b:=4294967296) (z:=z) (n:=n) h);omega
 ·have c:(u*4294967296+n)/(p*4294967296+z)<q:=by
   rcases a with a|a
   ·exact Nat.lt_of_lt_of_le (Pv j g) a
   ·exact(Ac6 hd).1 ((Vf h).1 a)
  have d:1≤q:=Nat.lt_of_le_of_lt (Nat.zero_le _) c
  have e:(q-1)*p+(r+p)=u:=by
   obtain⟨k,rfl⟩:∃k,q=k+1:=⟨q-1,by omega⟩;rw[Nat.add_mul]at h;simp only[Nat.add_sub_cancel];omega
  refine⟨d,e,Nat.le_sub_one_of_lt c,fun l=> ?_⟩;refine Nat.le_antisymm ?_ (Nat.le_sub_one_of_lt c);rw[Nat.le_div_iff_mul_le hd];exact Ac5 l (by omega) f e
theorem XJ(G:2147483648≤p)(v:p<4294967296)(f:z<4294967296)(i:n<4294967296)(g:u<p*4294967296+z)(y s a:Int):
  iter M1 (y,s,(p:Int),(z:Int),(u:Int),(n:Int),a,((u/p:Nat):Int),((u % p:Nat):Int),())=some (y,s,(p:Int),(z:Int),(u:Int),(n:Int),a,(((u*4294967296+n)/(p*4294967296+z):Nat):Int),()):=by
 obtain⟨x,H⟩:=Ve (b:=4294967296) (p:=p) (by omega) (by omega) f i g;refine UY (fun m st=>∃q r:Nat,st=(y,s,(p:Int),(z:Int),(u:Int),(n:Int),a,(q:Int),(r:Int),())/\q*p+r=u/\(u*4294967296+n)/(p*4294967296+z)≤q/\q≤4294967297/\r<4294967296/\m=q) ?_ (u/p) _ ⟨u/p,u % p,rfl,Nat.div_add_mod' u p,x,by omega,Nat.lt_of_lt_of_le (Nat.mod_lt _ (by omega)) (by omega),rfl⟩
 rintro m st ⟨q,r,rfl,h1,h2,h3,h4,hm⟩
 obtain⟨F,J,E,D⟩:=Vg f i g h1 h2 h3 h4;have w1:u64.wrap ((q:Int)*(z:Int))=((q*z:Nat):Int):=by rw[<-Int.natCast_mul];exact Es F
 have o:u64.wrap ((4294967296:Int)*(r:Int))=((4294967296*r:Nat):Int):=by rw[Et (by omega) (by omega)];omega
 have l:u64.wrap (((4294967296*r:Nat):Int)+(n:Int))=((4294967296*r+n:Nat):Int):=by rw[Et (by omega) (by omega)];omega
 have k:u64.wrap ((r:Int)+(p:Int))=((r+p:Nat):Int):=by rw[Et (by omega) (by omega)];omega
 have hT:∃t:Bool,(t=true<->(4294967296≤q\/4294967296*r+n<q*z))/\M1 (y,s,(p:Int),(z:Int),(u:Int),(n:Int),a,(q:Int),(r:Int),())=(if t then(if 4294967296≤r+p then some (Sum.inr (y,s,(p:Int),(z:Int),(u:Int),(n:Int),a,u64.wrap ((q:Int)-1),()))else some (Sum.inl (y,s,(p:Int),(z:Int),(u:Int),(n:Int),a,u64.wrap ((q:Int)-1),((r+p:Nat):Int),())))else some (Sum.inr (y,s,(p:Int),(z:Int),(u:Int),(n:Int),a,(q:Int),()))):=by
  unfold M1;dsimp only;rw[k];have w:decide (((r+p:Nat):Int)≥4294967296)=decide (4294967296≤r+p):=by apply decide_eq_decide.2;omega
  rw[w];by_cases c:4294967296≤q
  ·have d:decide ((q:Int)≥4294967296)=true:=by simpa using by omega
   refine⟨true,by simp[c], ?_⟩;simp only[d,Bool.true_eq_false,if_false,if_true,bs,decide_eq_true_eq]
  ·have d:decide ((q:Int)≥4294967296)=false:=by simpa using by omega
   refine⟨decide (4294967296*r+n<q*z),by simp[c], ?_⟩;have g3:decide (((q*z:Nat):Int)>((4294967296*r+n:Nat):Int))=decide (4294967296*r+n<q*z):=by apply decide_eq_decide.2;omega
   simp only[d,if_true,bs,ms,w1,o,l,g3,Ah,if_false,decide_eq_true_eq]
 obtain⟨t,h,e⟩:=hT;rw[e]
 cases t with
 |false=>
  refine .inr ?_;have:=E (by have:=mt h.2 (by decide);omega);rw[if_neg (by decide),<-this]
 |true=>
  obtain⟨I,C,B,A⟩:=D (h.1 rfl);have j:u64.wrap ((q:Int)-1)=((q-1:Nat):Int):=by rw[Et (by omega) (by omega)];omega
  rw[if_pos rfl,j];by_cases c:4294967296≤r+p
  ·rw[if_pos c,A c];exact .inr rfl
  ·rw[if_neg c];exact .inl ⟨_,rfl,q-1,by omega,q-1,r+p,rfl,C,B,by omega,by omega,rfl⟩
theorem XK(H:2147483648≤p)(w:p<4294967296)(g:z<4294967296)(j:n<4294967296)(h:u<p*4294967296+z)(y s c a:Int):
  iter M3 (y,s,(p:Int),(z:Int),(n:Int),c,((u % p:Nat):Int),a,((u/p:Nat):Int),())=some (y,s,(n:Int),c,a,(((u*4294967296+n)/(p*4294967296+z):Nat):Int),()):=by
 obtain⟨A,I⟩:=Ve (b:=4294967296) (p:=p) (by omega) (by omega) g j h;refine UY (fun m st=>∃q r:Nat,st=(y,s,(p:Int),(z:Int),(n:Int),c,(r:Int),a,(q:Int),())/\q*p+r=u/\(u*4294967296+n)/(p*4294967296+z)≤q/\q≤4294967297/\r<4294967296/\m=q) ?_ (u/p) _ ⟨u/p,u % p,rfl,Nat.div_add_mod' u p,A,by omega,Nat.lt_of_lt_of_le (Nat.mod_lt _ (by omega)) (by omega),rfl⟩
 rintro m st ⟨q,r,rfl,h1,h2,h3,h4,hm⟩
 obtain⟨G,K,F,E⟩:=Vg g j h h1 h2 h3 h4;have w1:u64.wrap ((q:Int)*(z:Int))=((q*z:Nat):Int):=by rw[<-Int.natCast_mul];exact Es G
 have v:u64.wrap ((4294967296:Int)*(r:Int))=((4294967296*r:Nat):Int):=by rw[Et (by omega) (by omega)];omega
 have o:u64.wrap (((4294967296*r:Nat):Int)+(n:Int))=((4294967296*r+n:Nat):Int):=by rw[Et (by omega) (by omega)];omega
 have l:u64.wrap ((r:Int)+(p:Int))=((r+p:Nat):Int):=by rw[Et (by omega) (by omega)];omega
 have hT:∃t:Bool,(t=true<->(4294967296≤q\/4294967296*r+n<q*z))/\M3 (y,s,(p:Int),(z:Int),(n:Int),c,(r:Int),a,(q:Int),())=(if t then(if 4294967296≤r+p then some (Sum.inr (y,s,(n:Int),c,a,u64.wrap ((q:Int)-1),()))else some (Sum.inl (y,s,(p:Int),(z:Int),(n:Int),c,((r+p:Nat):Int),a,u64.wrap ((q:Int)-1),())))else some (Sum.inr (y,s,(n:Int),c,a,(q:Int),()))):=by
  unfold M3;dsimp only;rw[l];have x:decide (((r+p:Nat):Int)≥4294967296)=decide (4294967296≤r+p):=by apply decide_eq_decide.2;omega
  rw[x];by_cases d:4294967296≤q
  ·have f:decide ((q:Int)≥4294967296)=true:=by simpa using by omega
   refine⟨true,by simp[d], ?_⟩;simp only[f,Bool.true_eq_false,if_false,if_true,bs,decide_eq_true_eq]
  ·have f:decide ((q:Int)≥4294967296)=false:=by simpa using by omega
   refine⟨decide (4294967296*r+n<q*z),by simp[d], ?_⟩;have g3:decide (((q*z:Nat):Int)>((4294967296*r+n:Nat):Int))=decide (4294967296*r+n<q*z):=by apply decide_eq_decide.2;omega
   simp only[f,if_true,bs,ms,w1,v,o,g3,Ah,if_false,decide_eq_true_eq]
 obtain⟨t,i,e⟩:=hT;rw[e]
 cases t with
 |false=>
  refine .inr ?_;have:=F (by have:=mt i.2 (by decide);omega);rw[if_neg (by decide),<-this]
 |true=>
  obtain⟨J,D,C,B⟩:=E (i.1 rfl);have k:u64.wrap ((q:Int)-1)=((q-1:Nat):Int):=by rw[Et (by omega) (by omega)];omega
  rw[if_pos rfl,k];by_cases d:4294967296≤r+p
  ·rw[if_pos d,B d];exact .inr rfl
  ·rw[if_neg d];exact .inl ⟨_,rfl,q-1,by omega,q-1,r+p,rfl,D,C,by omega,by omega,rfl⟩
end
theorem Q5(n k:Nat)(a:k≤64):(if(k:Int)<0 then none else some (u64.wrap ((n:Int)*2^(min (k:Int).toNat 64))))=some ((n*2^k % 18446744073709551616:Nat):Int):=by
 rw[if_neg (by omega),Int.toNat_natCast,Nat.min_eq_left a];refine congrArg some ?_;rw[show(n:Int)*2^k=((n*2^k:Nat):Int) by rw[Int.natCast_mul,Int.natCast_pow];rfl];exact XF _
theorem orJ{x y k:Nat}(c:x % 2^k=0)(b:x<18446744073709551616)(f:y<2^k)(a:y<18446744073709551616):BI .or .u64 (x:Int) (y:Int)=((x+y:Nat):Int):=by
 rw[Te _ _ _ _ (.inr rfl)]
 have h:=bits_join .u64 64 (by decide) (fun n e d=>Et e (by simpa using d)) k (x:Int) (y:Int) (by omega) (by
   have:((x % 2^k:Nat):Int)=0:=by rw[c];rfl
   rw[Int.natCast_emod,Int.natCast_pow]at this
   exact this) (by have:((2:Int)^64)=18446744073709551616:=by decide
                   omega) (by omega) (by
   have:(y:Int)<((2^k:Nat):Int):=by omega
   rw[Int.natCast_pow]at this
   exact this) (by have:((2:Int)^64)=18446744073709551616:=by decide
                   omega)
 rw[h];omega
theorem Qn{a b:Nat}(d:b≠0)(c:a<18446744073709551616):(if(b:Int)=0 then none else some (u64.wrap ((a:Int).tdiv (b:Int))))=some ((a/b:Nat):Int):=by
 rw[if_neg (by omega)]
 congr 1
 rw[Int.tdiv_eq_ediv_of_nonneg (by omega),<-Int.natCast_ediv];exact Es (Nat.lt_of_le_of_lt (Nat.div_le_self _ _) c)
theorem Wz{a b:Nat}(c:b≠0):(if(b:Int)=0 then none else some ((a:Int).tmod (b:Int)))=some ((a % b:Nat):Int):=by
 rw[if_neg (by omega)]
 congr 1
theorem Vk{a b m q:Nat}(hd:0<m)(d:m<18446744073709551616)(h:q=(a*4294967296+b)/m):
  u64.wrap (u64.wrap (u64.wrap ((a:Int)*4294967296)+(b:Int))-u64.wrap ((q:Int)*(m:Int)))=(((a*4294967296+b)% m:Nat):Int):=by
 have c:=Nat.div_add_mod (a*4294967296+b) m;rw[<-h]at c;have e:=Nat.mod_lt (a*4294967296+b) hd;generalize (a*4294967296+b)% m=r at*;rw[<-Int.natCast_mul,Nat.mul_comm q m];generalize m*q=t at*;simp only[IntKind.wrap_u64];omega
theorem Ah3{u b a w c d r v:Nat}(h:c+w=u*4294967296+b)(g:d+r=w*4294967296+a)(f:b*4294967296+a=v):u*18446744073709551616+v=c*4294967296+d+r:=by
 have e:u*18446744073709551616=u*4294967296*4294967296:=by rw[Nat.mul_assoc]
 rw[e,<-f,<-Nat.add_assoc,<-Nat.add_mul,<-h,Nat.add_mul,Nat.add_assoc,<-g,Nat.add_assoc]
theorem XI{hi lo y:Nat}(B:y<18446744073709551616)(o:lo<18446744073709551616)(T:hi<y):
  JU ((hi:Int),(lo:Int),(y:Int))=some ((((hi*18446744073709551616+lo)/y:Nat):Int),(((hi*18446744073709551616+lo)% y:Nat):Int)):=by
 have f:y≠0:=by omega
 have I:((y:Int)==0)=false:=by simpa using by omega
 have H:decide ((y:Int)≤(hi:Int))=false:=by simpa using by omega
 by_cases V:hi=0
 ·subst V;unfold JU;dsimp only;rw[I,H,Qn f o,Wz f];simp
 obtain⟨R,k2⟩:=Yx y B f;have Q:Go.Lib.bitLen y≤64:=Go.Lib.bitLen_le y 64 (by omega) B
 have k4:1≤Go.Lib.bitLen y:=by
  rcases Nat.eq_zero_or_pos (Go.Lib.bitLen y)with h|h
  ·rw[h]at k2;omega
  ·exact h
 obtain⟨s,hs⟩:∃s,s=64-Go.Lib.bitLen y:=⟨_,rfl⟩
 have g:2^Go.Lib.bitLen y*2^s=18446744073709551616:=by
  rw[<-Nat.pow_add,show Go.Lib.bitLen y+s=64 by omega]
 have A:0<2^s:=Nat.pow_pos (by decide)
 have n1:9223372036854775808≤y*2^s:=by
  have:=Nat.mul_le_mul_right (2^s) R;rw[Nat.mul_assoc]at this;omega
 have n2:y*2^s<18446744073709551616:=by rw[<-g];exact Nat.mul_lt_mul_of_pos_right k2 A
 have n3:hi*2^s+2^s≤y*2^s:=by
  have:=Nat.mul_le_mul_right (2^s) (show hi+1≤y from T)
  rwa [Nat.add_mul,Nat.one_mul]at this
 have n4:lo/2^Go.Lib.bitLen y<2^s:=by rw[Nat.div_lt_iff_lt_mul (Nat.pow_pos (by decide)),Nat.mul_comm,g];exact o
 have n5:lo*2^s/18446744073709551616=lo/2^Go.Lib.bitLen y:=by rw[<-g,Nat.mul_div_mul_right _ _ A]
 have n6:=Nat.div_add_mod (lo*2^s) 18446744073709551616;rw[n5]at n6;have N:lo*2^s % 18446744073709551616<18446744073709551616:=Nat.mod_lt _ (by decide)
 have M:(hi*18446744073709551616+lo)*2^s=(hi*2^s+lo/2^Go.Lib.bitLen y)*18446744073709551616+lo*2^s % 18446744073709551616:=by
  rw[Nat.add_mul,Nat.add_mul,Nat.mul_right_comm];omega
 have L:=orJ (x:=hi*2^s) (y:=lo/2^Go.Lib.bitLen y) (k:=s) (Nat.mul_mod_left _ _) (by omega) n4 (by omega);unfold JU;dsimp only;have g3:((hi:Int)==0)=false:=by simpa using by omega
 have a0:u64.wrap (64-(Go.Lib.bitLen y:Int))=(s:Int):=by rw[Et (by omega) (by omega)];omega
 have Z:u64.wrap (64-(s:Int))=(Go.Lib.bitLen y:Int):=by rw[Et (by omega) (by omega)];omega
 rw[I,H,g3,XM B];simp only[Ah,if_false];rw[bs,a0,Z,Q5 y s (by omega),bs,Q5 hi s (by omega),Q5 lo s (by omega),Nat.mod_eq_of_lt n2,Nat.mod_eq_of_lt (show hi*2^s<18446744073709551616 by omega),Np lo _ Q];simp only[bs];rw[L,JS n2,GQ,GQ,JS N];simp only[bs];generalize hP:y*2^s=Y at*;generalize hU:hi*2^s+lo/2^Go.Lib.bitLen y=u at*;generalize hV:lo*2^s % 18446744073709551616=v at*;have e:Y/4294967296*4294967296+Y % 4294967296=Y:=Nat.div_add_mod' Y 4294967296;have X:v/4294967296*4294967296+v % 4294967296=v:=Nat.div_add_mod' v 4294967296;have G:u<Y:=by omega
 have m:Y/4294967296≠0:=by omega
 have qr (a:Nat) (ha:a<18446744073709551616):u64.wrap ((a:Int)-u64.wrap (((a/(Y/4294967296):Nat):Int)*((Y/4294967296:Nat):Int)))=((a %(Y/4294967296):Nat):Int):=by
  have E:=Nat.div_add_mod' a (Y/4294967296);rw[<-Int.natCast_mul];generalize a/(Y/4294967296)*(Y/4294967296)=t at*;generalize a %(Y/4294967296)=r at*;rw[Es (show t<18446744073709551616 by omega),Et (by omega) (by omega)];omega
 rw[Qn m (show u<18446744073709551616 by omega),bs,qr u (by omega)];rw[XJ (by omega) (by omega) (by omega) (by omega) (by rw[e];exact G),e];simp only[bs];obtain⟨q1,b⟩:∃x,(u*4294967296+v/4294967296)/Y=x:=⟨_,rfl⟩;rw[b];have P:=Vk (show 0<Y by omega) n2 b.symm;rw[P];obtain⟨w,C⟩:∃x,(u*4294967296+v/4294967296)% Y=x:=⟨_,rfl⟩;rw[C];have j:w<Y:=by rw[<-C];exact Nat.mod_lt _ (by omega)
 rw[Qn m (show w<18446744073709551616 by omega),bs,qr w (by omega)];rw[XK (by omega) (by omega) (by omega) (by omega) (by rw[e];exact j),e];simp only[bs];obtain⟨q0,d⟩:∃x,(w*4294967296+v % 4294967296)/Y=x:=⟨_,rfl⟩;rw[d];have O:=Vk (show 0<Y by omega) n2 d.symm;rw[O,Np _ s (by omega),bs];have J:=Nat.div_add_mod (u*4294967296+v/4294967296) Y;have F:=Nat.div_add_mod (w*4294967296+v % 4294967296) Y;have r1:(w*4294967296+v % 4294967296)% Y<Y:=Nat.mod_lt _ (by omega);rw[b,C]at J;rw[d]at F;obtain⟨r,l⟩:∃x,(w*4294967296+v % 4294967296)% Y=x:=⟨_,rfl⟩;rw[l]at F r1;rw[l];have d0:q0<4294967296:=by rw[<-d,<-e];exact Pv (by omega) (by rw[e];exact j)
 have d1:q1<4294967296:=by rw[<-b];conv=>lhs;rw[<-e]
                           exact Pv (by omega) (by rw[e];exact G)
 have tot:(hi*18446744073709551616+lo)*2^s=y*(q1*4294967296+q0)*2^s+r:=by
  have U:Y*(q1*4294967296+q0)=Y*q1*4294967296+Y*q0:=by rw[Nat.mul_add,<-Nat.mul_assoc]
  rw[Nat.mul_right_comm y,hP,M,U];exact Ah3 J F X
 have K:2^s∣r:=by
  have E:2^s∣(hi*18446744073709551616+lo)*2^s:=Nat.dvd_mul_left _ _;rw[tot]at E;exact(Nat.dvd_add_right (Nat.dvd_mul_left _ _)).1 E
 obtain⟨c,D⟩:=K;have S:r/2^s=c:=by rw[D,Nat.mul_div_cancel_left _ A]
 have i:hi*18446744073709551616+lo=y*(q1*4294967296+q0)+c:=by
  rw[D,Nat.mul_comm (2^s) c,<-Nat.add_mul]at tot;exact Nat.eq_of_mul_eq_mul_right A tot
 have q:c<y:=by
  rw[D,<-hP,Nat.mul_comm]at r1;exact Nat.lt_of_mul_lt_mul_right r1
 rw[i,Nat.mul_add_div (by omega),Nat.mul_add_mod,Nat.div_eq_of_lt q,Nat.mod_eq_of_lt q,S,Nat.add_zero]
 have W:u64.wrap (u64.wrap ((q1:Int)*4294967296)+(q0:Int))=((q1*4294967296+q0:Nat):Int):=by
  simp only[IntKind.wrap_u64];omega
 rw[W]
def cJ(neg:Bool)(q r d:Nat)(mode:Int):Bool:=
 if mode=4 then neg&&decide (0<r)
 else if mode=3 then decide (0<r)
 else if mode=2 then(if r=d-r then q % 2==1 else decide (d-r≤r))
 else if mode=1 then decide (d-r≤r)
 else false
def Dm(neg:Bool)(n d:Nat)(mode:Int):Nat:=n/d+(if cJ neg (n/d) (n % d) d mode then 1 else 0)
def Ek(c num:Int):Bool:= !(decide (c<0)==decide (num<0))
def Kg(c num den mode:Int):Int×Int:=
 if ¬(-1125899906842624≤c/\c≤1125899906842624)then(0,2)
 else if den=0 then(0,22)
 else if den<0 then(0,2)
 else if mode<0\/4<mode then(0,11)
 else if 1125899906842624<Dm (Ek c num) (c.natAbs*num.natAbs) den.toNat mode then(0,9)
 else(if Ek c num then-(Dm (Ek c num) (c.natAbs*num.natAbs) den.toNat mode:Int)else(Dm (Ek c num) (c.natAbs*num.natAbs) den.toNat mode:Int),0)
theorem Ta(c:Int):Kq c=some (decide (-1125899906842624≤c/\c≤1125899906842624)):=by
 unfold Kq;by_cases a: -1125899906842624≤c
 ·have g:decide (c≥ -1125899906842624)=true:=by simpa using a
  simp only[g,if_true,bs,ms];simp[a]
 ·have g:decide (c≥ -1125899906842624)=false:=by simpa using a
  simp only[g,Ah,if_false,bs];simp[a]
theorem WA{c:Int}(b: -9223372036854775808≤c)(a:c≤9223372036854775807):Kr c=some (c.natAbs:Int):=by
 unfold Kr;by_cases h:c<0
 ·have g:decide (c<0)=true:=by simpa using h
  simp only[g,if_true,IntKind.wrap_u64];refine congrArg some ?_;omega
 ·have g:decide (c<0)=false:=by simpa using h
  simp only[g,Ah,if_false,IntKind.wrap_u64];refine congrArg some ?_;omega
theorem Aic{neg:Bool}{q r d:Nat}{mode:Int}(hd:d<18446744073709551616)(x:r<d):MY (neg,(q:Int),(r:Int),(d:Int),mode)=some (cJ neg q r d mode):=by
 have w:u64.wrap ((d:Int)-(r:Int))=((d-r:Nat):Int):=by rw[Et (by omega) (by omega)];omega
 have s:decide ((r:Int)>0)=decide (0<r):=by apply decide_eq_decide.2;omega
 have o:decide ((r:Int)≥((d-r:Nat):Int))=decide (d-r≤r):=by apply decide_eq_decide.2;omega
 have m:((r:Int)==((d-r:Nat):Int))=decide (r=d-r):=by
  rw[Bool.eq_iff_iff];simp only[beq_iff_eq,decide_eq_true_eq];omega
 have v:(if(2:Int)=0 then none else some ((q:Int).tmod 2))=some ((q % 2:Nat):Int):=Wz (b:=2) (by decide)
 have t:(((q % 2:Nat):Int)==1)=(q % 2==1):=by
  rw[Bool.eq_iff_iff];simp only[beq_iff_eq];omega
 unfold MY cJ;dsimp only;by_cases f:mode=4
 ·subst f;cases neg
  ·rfl
  ·simp only[beq_self_eq_true,if_true,Bool.not_true,Ah,if_false,bs,Bool.true_and,s]
 have c:(mode==4)=false:=by simpa using f
 rw[c,if_neg f];by_cases h:mode=3
 ·subst h;simp only[beq_self_eq_true,if_true,Ah,if_false,bs,s]
 have g:(mode==3)=false:=by simpa using h
 rw[g,if_neg h];by_cases j:mode=2
 ·subst j;by_cases e:r=d-r
  ·have a:((r:Int)==((d-r:Nat):Int))=true:=by rw[m];exact Am e
   simp only[beq_self_eq_true,if_true,Ah,if_false,bs,w,a,v,t,if_pos e]
  ·have a:((r:Int)==((d-r:Nat):Int))=false:=by rw[m];exact Al e
   simp only[beq_self_eq_true,if_true,Ah,if_false,bs,w,a,o,if_neg e]
 have i:(mode==2)=false:=by simpa using j
 rw[i,if_neg j];by_cases l:mode=1
 ·subst l;simp only[beq_self_eq_true,if_true,Ah,if_false,bs,w,o]
 have k:(mode==1)=false:=by simpa using l
 rw[k,if_neg l];rfl
theorem Aff{c num:Int}{d:Nat}{mode:Int}(t: -9223372036854775808≤c)(r:c≤9223372036854775807)(n1: -9223372036854775808≤num)(n2:num≤9223372036854775807)(hd:d<18446744073709551616)(b:0<d){a:Nat}(m:a≤1125899906842624):
  MW (c,num,(d:Int),(a:Int),mode)=some (if a<Dm (Ek c num) (c.natAbs*num.natAbs) d mode then(0,false)else(if Ek c num then-(Dm (Ek c num) (c.natAbs*num.natAbs) d mode:Int)else(Dm (Ek c num) (c.natAbs*num.natAbs) d mode:Int),true)):=by
 unfold MW;dsimp only;rw[WA t r,WA n1 n2,show(!(decide (c<0)==decide (num<0)))=Ek c num from rfl];simp only[bs];have x:c.natAbs<18446744073709551616:=by omega
 have v:num.natAbs<18446744073709551616:=by omega
 rw[XO x v];simp only[bs];generalize Ek c num=neg;generalize c.natAbs*num.natAbs=N;have e:N/18446744073709551616*18446744073709551616+N % 18446744073709551616=N:=Nat.div_add_mod' N _;by_cases h:d≤N/18446744073709551616
 ·have g:decide (((N/18446744073709551616:Nat):Int)≥(d:Int))=true:=Am (by omega);rw[g,if_pos rfl,if_pos]
  have:18446744073709551616≤N/d:=by
   rw[Nat.le_div_iff_mul_le b,Nat.mul_comm,<-Nat.le_div_iff_mul_le (by decide)];exact h
  unfold Dm;omega
 ·have g:decide (((N/18446744073709551616:Nat):Int)≥(d:Int))=false:=Al (by omega);rw[g,if_neg (by decide),XI hd (Nat.mod_lt _ (by decide)) (by omega),e];simp only[bs];have j:N % d<d:=Nat.mod_lt _ b;have l:(0:Int)≤((N/d:Nat):Int):=Int.natCast_nonneg _;by_cases y:a<N/d
  ·have g:decide (((N/d:Nat):Int)>(a:Int))=true:=Am (by omega);rw[g,if_pos rfl,if_pos (by unfold Dm;omega)]
  ·have g:decide (((N/d:Nat):Int)>(a:Int))=false:=Al (by omega);rw[g,if_neg (by decide),Aic hd j];simp only[bs];have w:u64.wrap (((N/d:Nat):Int)+1)=((N/d+1:Nat):Int):=by rw[Et (by omega) (by omega)];omega
   rw[w]
   have s:∀k:Nat,k=Dm neg N d mode->(Option.bind (some ((a:Int),neg,(k:Int),())) fun(o:Int×Bool×Int×Unit)=>if decide (o.2.2.1>o.1)then some ((0:Int),false)else if o.2.1 then some (i64.wrap (0-i64.wrap o.2.2.1),true)else some (i64.wrap o.2.2.1,true))=some (if a<Dm neg N d mode then(0,false)else(if neg then-(Dm neg N d mode:Int)else(Dm neg N d mode:Int),true)):=by
    intro k q;rw[<-q,bs];dsimp only;by_cases i:a<k
    ·have g:decide ((k:Int)>(a:Int))=true:=Am (by omega);rw[g,if_pos rfl,if_pos i]
    ·have g:decide ((k:Int)>(a:Int))=false:=Al (by omega);rw[g,if_neg (by decide),if_neg i,A7 (n:=(k:Int)) (by omega) (by omega),A7 (by omega) (by omega)];cases neg
     ·rfl
     ·simp
   by_cases f:cJ neg (N/d) (N % d) d mode=true
   ·rw[f,if_pos rfl];exact s _ (by unfold Dm;rw[if_pos f])
   ·rw[Bool.eq_false_iff.2 f,if_neg (by decide)];exact s _ (by unfold Dm;rw[if_neg f];rfl)
theorem Afg{c num den mode:Int}(t: -9223372036854775808≤c)(s:c≤9223372036854775807)(n1: -9223372036854775808≤num)(n2:num≤9223372036854775807)(hd:den≤9223372036854775807):MV (c,num,den,mode)=some (Kg c num den mode):=by
 unfold MV Kg;dsimp only;rw[Ta,bs];by_cases q: -1125899906842624≤c/\c≤1125899906842624
 ·rw[Am q,if_neg (show ¬((!true)=true) by decide),if_neg (show ¬¬(-1125899906842624≤c/\c≤1125899906842624)from fun k=>k q)];by_cases r:den=0
  ·subst r;rfl
  have g:(den==0)=false:=by simpa using r
  rw[g,if_neg (by decide),if_neg r];by_cases l:den<0
  ·rw[Am l,if_pos rfl,if_pos l]
  rw[Al l,if_neg (by decide),if_neg l]
  have m:(Option.bind (if decide (mode<0)=false then(((if decide (mode<0)=false then some mode else none).bind (fun e=>some (e,(4:Int)))).map (fun a=>(decide (a.1>a.2)))).map some else some none) fun f=>(Option.bind (if decide (mode<0)then some true else f.map (fun b=>b)) some))=some (decide (mode<0\/4<mode)):=by
   by_cases j:mode<0
   ·simp only[Am j,if_true,Bool.true_eq_false,if_false,bs];simp[j]
   ·simp only[Al j,if_true,Ah,if_false,bs,ms];simp[j]
  have k:∀{β:Type} (F:Bool->Option β),(Option.bind (if decide (mode<0)=false then(((if decide (mode<0)=false then some mode else none).bind (fun e=>some (e,(4:Int)))).map (fun a=>(decide (a.1>a.2)))).map some else some none) fun f=>(Option.bind (if decide (mode<0)then some true else f.map (fun b=>b)) F))=F (decide (mode<0\/4<mode)):=by
   intro β F;have:=congrArg (fun o=>Option.bind o F) m;simp only[bs]at this;rw[<-this,Option.bind_assoc]
   congr 1
   funext x;rw[Option.bind_assoc];rfl
  rw[k];by_cases i:mode<0\/4<mode
  ·rw[Am i,if_pos rfl,if_pos i]
  rw[Al i,if_neg (by decide),if_neg i];obtain⟨d,rfl⟩:=Int.eq_ofNat_of_zero_le (show 0≤den by omega);rw[Es (show d<18446744073709551616 by omega),show(1125899906842624:Int)=((1125899906842624:Nat):Int)from rfl,Aff t s n1 n2 (by omega) (by omega) (Nat.le_refl _),bs,Int.toNat_natCast];by_cases h:1125899906842624<Dm (Ek c num) (c.natAbs*num.natAbs) d mode
  ·rw[if_pos h,if_pos h];rfl
  ·rw[if_neg h,if_neg h];rfl
 ·rw[Al q,if_pos (by decide),if_pos q]
theorem Afq(c:Int):MX c=some (decide (-1000000000≤c/\c≤1000000000)):=by
 unfold MX;by_cases a: -1000000000≤c
 ·have g:decide (c≥ -1000000000)=true:=by simpa using a
  simp only[g,if_true,bs,ms];simp[a]
 ·have g:decide (c≥ -1000000000)=false:=by simpa using a
  simp only[g,Ah,if_false,bs];simp[a]
theorem orK{β:Type}(a b:Bool)(x:Int)(G:Int->Option Bool)(i:a=true->G x=some b)(F:Bool->Option β):
  (Option.bind (if(!a)=false then(((if(!a)=false then some x else none).map (fun f=>f)).bind (fun e=>G e)).map some else some none) fun h=>Option.bind (if(!a)=false then(h.map (fun d=>(!d))).map some else some none) fun g=>Option.bind (if(!a)then some true else g.map (fun c=>c)) F)=F (!(a&&b)):=by
 cases a
 ·rfl
 ·simp only[Bool.not_true,if_true,bs,ms,i rfl,Ah,if_false,Bool.true_and]
def bX(c r mode:Int):Int×Int:=if(-1125899906842624≤c/\c≤1125899906842624)/\(-1000000000≤r/\r≤1000000000)then Kg c r 1000000 mode else(0,2)
theorem Wv{c r mode:Int}(b: -9223372036854775808≤c)(a:c≤9223372036854775807):GM (c,r,mode)=some (bX c r mode):=by
 unfold GM bX;dsimp only;rw[Ta,bs,orK _ _ _ _ (fun _=>Afq r)];by_cases h:(-1125899906842624≤c/\c≤1125899906842624)/\(-1000000000≤r/\r≤1000000000)
 ·rw[if_pos h,Am h.1,Am h.2,if_neg (by decide),Afg b a (by omega) (by omega) (by omega)];rfl
 ·rw[if_neg h,if_pos];rw[<-Bool.decide_and,Al h];rfl
theorem aH{S T:Type}{b:S->Option (S⊕T)}{s s':S}(h:b s=some (.inl s')):iter b s=iter b s':=by rw[Pu,h];rfl
theorem aD{S T:Type}{b:S->Option (S⊕T)}{s:S}{t:T}(h:b s=some (.inr t)):iter b s=some t:=by rw[Pu,h];rfl
theorem Af5{pre t:List UInt8}{b:UInt8}:bQ (pre++b::t) (pre.length:Int)=some (b.toNat:Int):=WY (by simp)
def cA(b:UInt8):Bool:= !((decide ((b.toNat:Int)<97)||decide ((b.toNat:Int)>122))&&(decide ((b.toNat:Int)<48)||decide ((b.toNat:Int)>57))&&((b.toNat:Int) !=46)&&((b.toNat:Int) !=95)&&((b.toNat:Int) !=45))
def C5(s:List UInt8):Bool:=s.all cA&& !(s== [])&& !(s== [45])&&decide ((s.length:Int)≤32)
theorem UV{pre t:List UInt8}{b:UInt8}{n:Int}(c:decide ((pre.length:Int)<n)=true):
  J9 (pre++b::t,n,(pre.length:Int),())=some (if cA b=true then .inl (pre++b::t,n,i64.wrap ((pre.length:Int)+1),())else .inr (.inr false)):=by
 unfold J9;dsimp only;simp only[aM,aJ,aN,aL,aK,gM,aR,Bq,aO,Br,Bw,aT,aS,aQ,aP,Bn,Bp,Bs,Bv,Bo,Bu,am];simp only[B4,B5,B6,B7,BA,BB,BC,BE,am,B3,aY,aX,aZ,b3,bs,ms];simp only[c,if_true,Af5,bs];unfold cA;generalize decide ((b.toNat:Int)<97)=q1;generalize decide ((b.toNat:Int)>122)=q2;generalize decide ((b.toNat:Int)<48)=q3;generalize decide ((b.toNat:Int)>57)=q4;generalize ((b.toNat:Int) !=46)=q5;generalize ((b.toNat:Int) !=95)=q6;generalize ((b.toNat:Int) !=45)=q7;cases q1<;>cases q2<;>cases q3<;>cases q4<;>cases q5<;>cases q6<;>cases q7<;>rfl
theorem UU:∀(t pre:List UInt8),pre.length+t.length≤4611686018427387904->iter J9 (pre++t,((pre++t).length:Int),(pre.length:Int),())=some (if t.all cA then .inl (pre++t,())else .inr false)
 | [],pre,h2=>by
  refine aD ?_;unfold J9;dsimp only;have c:decide ((pre.length:Int)<(((pre++ []):List UInt8).length:Int))=false:=Al (by simp);simp only[c,Ah,if_false,List.all_nil,if_true]
 |b::t,pre,h2=>by
  simp only[List.length_cons]at h2;have w1:i64.wrap ((pre.length:Int)+1)=((pre++ [b]).length:Int):=by rw[A7 (by omega) (by omega)];simp
  have c:decide ((pre.length:Int)<(((pre++b::t):List UInt8).length:Int))=true:=Am (by simp;omega);by_cases hd:cA b=true
  ·have e:=UU t (pre++ [b]) (by simp;omega);rw[List.append_assoc,List.singleton_append]at e;refine(aH (s':=(pre++b::t,((pre++b::t).length:Int),((pre++ [b]).length:Int),())) ?_).trans (e.trans ?_)
   ·rw[UV c,if_pos hd,w1]
   ·simp[hd]
  ·refine(aD (t:=Sum.inr false) ?_).trans ?_
   ·rw[UV c,if_neg hd]
   ·simp[hd]
theorem Acy{s:List UInt8}(h:s.length≤4611686018427387904):Im s=some (C5 s):=by
 unfold Im;dsimp only;simp only[aM,aJ,aN,aL,aK,gM,aR,Bq,aO,Br,Bw,aT,aS,aQ,aP,Bn,Bp,Bs,Bv,Bo,Bu,am];simp only[B4,B5,B6,B7,BA,BB,BC,BE,am,B3,aY,aX,aZ,b3,bs,ms];have:=UU s [] (by simpa using h);simp only[List.nil_append,List.length_nil]at this;rw[show((0:Nat):Int)=0 from rfl]at this;rw[this];unfold C5
 cases a:s.all cA with
 |true=>
  simp only[if_true,bs];cases s== []<;>cases s== [45]<;>rfl
 |false=>rfl
theorem JW{s:List UInt8}:Ji s=some (C5 s):=by
 unfold Ji;dsimp only
 have key:J8 (0,1,13,0,0,[],0,s)=some (if C5 s=true then 0 else if decide ((s.length:Int)>4096)=true then 4 else 3):=by
  unfold J8;dsimp only;rw[show OZ 13=some true from rfl];rw[show Pb ()=some _ from rfl];simp only[aM,aJ,aN,aL,aK,gM,aR,Bq,aO,Br,Bw,aT,aS,aQ,aP,Bn,Bp,Bs,Bv,Bo,Bu,am];simp only[B4,B5,B6,B7,BA,BB,BC,BE,am,B3,aY,aX,aZ,b3,bs,ms];rw[if_neg (by decide)];rw[show ap _ (13:Int)=some _ from H0 (i:=13) rfl,bs];dsimp only;rw[if_neg (by decide)];rw[show OX ((0,1,13,0,0,[],0,s),[98,97,110,107],false,true,Sum.inl (),0,0,Sum.inr (Sum.inr (Sum.inr (Sum.inr (Sum.inl ())))))=some 0 from rfl,bs];rw[if_neg (by decide)];rw[show OY []=some true from rfl,bs];rw[if_neg (by decide)];rw[show(if decide ((0:Int)<0)=true then some true else some (decide ((0:Int)>0)))=some false from rfl,bs];rw[if_neg (by decide)];by_cases h:(s.length:Int)>4096
  ·have d:decide ((s.length:Int)>4096)=true:=Am h
   have e:C5 s=false:=by
    have:decide ((s.length:Int)≤32)=false:=Al (by omega);simp[C5,this]
   rw[d,if_pos rfl,e,if_neg (by decide),if_pos rfl]
  ·have d:decide ((s.length:Int)>4096)=false:=Al h;rw[d,if_neg (by decide)];unfold Pc;dsimp only;rw[Acy (by omega),bs,bs];cases C5 s<;>rfl
 rw[key,bs];by_cases h:C5 s=true
 ·rw[if_pos h,h];rfl
 ·rw[if_neg h];have:C5 s=false:=by simpa using h
  rw[this];split<;>rfl
abbrev It:=List UInt8×Int
def EE:Int->List It->List It×Int
 |left,[]=>([],left)
 |left,x::l=>if min x.2 left>0 then((x.1,min x.2 left)::(EE (left-min x.2 left) l).1,(EE (left-min x.2 left) l).2)else EE left l
theorem Dk{a:Type}{pre t:List a}{b:a}:ap (pre++b::t) (pre.length:Int)=some b:=H0 (by simp)
theorem Ou{a:Type}{b:List a}{y:a}{k:Int}(d:b.length≤1000000)(c:0≤k/\k≤1000){β:Type}{f:Option β}:
  (if((b.length:Int)+(([y]:List a).length:Int))*k≤140737488355328/\(b.length:Int)+(([y]:List a).length:Int)≤4611686018427387904 then f else none)=f:=by
 rw[if_pos];have e:((b.length:Int)+(([y]:List a).length:Int))*k≤2000000*1000:=Int.mul_le_mul (by simp;omega) c.2 c.1 (by omega);refine⟨by omega,by simp;omega⟩
def Ef(n:Int):Prop:= -9223372036854775808≤n/\n≤9223372036854775807
theorem Oc:∀(l pre:List It) (left:Int) (a:List It),Ef left->(∀x∈l,Ef x.2)->a.length≤pre.length->pre.length+l.length≤100000->
  iter Je (left,pre++l,((pre++l).length:Int),(pre.length:Int),a,(),())=some ((EE left l).2,a++(EE left l).1,(),())
 | [],pre,left,a,hl,hx,ha,hn=>by
  refine aD ?_;unfold Je;dsimp only;have c:decide ((pre.length:Int)<(((pre++ []):List It).length:Int))=false:=Al (by simp);rw[c,if_neg (by decide)];simp[EE]
 |x::l,pre,left,a,hl,hx,ha,hn=>by
  simp only[List.length_cons]at hn;have i:=hx x (by simp);have b:∀y∈l,Ef y.2:=fun y h=>hx y (by simp[h]);have w1:i64.wrap ((pre.length:Int)+1)=((pre++ [x]).length:Int):=by rw[A7 (by omega) (by omega)];simp
  have c:decide ((pre.length:Int)<(((pre++x::l):List It).length:Int))=true:=Am (by simp;omega);unfold Ef at*;by_cases f:min x.2 left>0
  ·have e:=Oc l (pre++ [x]) (left-min x.2 left) (a++ [(x.1,min x.2 left)]) ⟨by omega,by omega⟩ b (by simp;omega) (by simp;omega);rw[List.append_assoc,List.singleton_append]at e;refine(aH (s':=(left-min x.2 left,pre++x::l,((pre++x::l).length:Int),((pre++ [x]).length:Int),a++ [(x.1,min x.2 left)],(),())) ?_).trans (e.trans ?_)
   ·unfold Je;dsimp only;simp only[aM,aJ,aN,aL,aK,gM,aR,Bq,aO,Br,Bw,aT,aS,aQ,aP,Bn,Bp,Bs,Bv,Bo,Bu,am];simp only[B4,B5,B6,B7,BA,BB,BC,BE,am,B3,aY,aX,aZ,b3,bs,ms];unfold Ft;dsimp only;have d:decide (min x.2 left>0)=true:=Am f;have g:i64.wrap (left-min x.2 left)=left-min x.2 left:=A7 (by omega) (by omega);simp only[c,if_true,Dk,bs,d];rw[Ou (by omega) (by decide),bs,w1,g]
   ·simp[EE,f]
  ·have e:=Oc l (pre++ [x]) left a hl b (by simp;omega) (by simp;omega);rw[List.append_assoc,List.singleton_append]at e;refine(aH (s':=(left,pre++x::l,((pre++x::l).length:Int),((pre++ [x]).length:Int),a,(),())) ?_).trans (e.trans ?_)
   ·unfold Je;dsimp only;simp only[aM,aJ,aN,aL,aK,gM,aR,Bq,aO,Br,Bw,aT,aS,aQ,aP,Bn,Bp,Bs,Bv,Bo,Bu,am];simp only[B4,B5,B6,B7,BA,BB,BC,BE,am,B3,aY,aX,aZ,b3,bs,ms];unfold Ft;dsimp only;have d:decide (min x.2 left>0)=false:=Al f;simp only[c,if_true,Dk,bs,d,Ah,if_false,w1]
   ·simp[EE,f]
theorem XH{left:Int}{l:List It}(c:Ef left)(a:∀x∈l,Ef x.2)(b:l.length≤100000):Jd (left,l)=some ((EE left l).1,(EE left l).2):=by
 unfold Jd;dsimp only;have:=Oc l [] left [] c a (by simp) (by simpa using b);simp only[List.nil_append,List.length_nil]at this;rw[show((0:Nat):Int)=0 from rfl]at this;rw[this];rfl
def A4(a:Int):Bool:=decide (-1125899906842624≤a)&&decide (a≤1125899906842624)
def addS(a b:Int):Int×Int:=if(A4 a&&A4 b)=true then(if A4 (a+b)=true then(a+b,0)else(0,9))else(0,2)
def DF:Int->List Int->Int×Int
 |s,[]=>(s,0)
 |s,x::l=>if(addS s x).2=0 then DF (addS s x).1 l else(0,(addS s x).2)
theorem DZ(a:Int):Dq a=some (A4 a):=by
 unfold Dq A4;dsimp only;simp only[aM,aJ,aN,aL,aK,gM,aR,Bq,aO,Br,Bw,aT,aS,aQ,aP,Bn,Bp,Bs,Bv,Bo,Bu,am];simp only[B4,B5,B6,B7,BA,BB,BC,BE,am,B3,aY,aX,aZ,b3,bs,ms];by_cases h:a≥ -1125899906842624
 ·rw[Am h,if_pos rfl];rfl
 ·rw[Al h,if_neg (by decide)];rfl
theorem QZ(a b:Int):L1 (a,b)=some (addS a b):=by
 unfold L1;dsimp only
 have:L4 (a,b,i64.wrap (a+b))=some (addS a b):=by
  unfold L4;dsimp only;simp only[B4,B5,B6,B7,BA,BB,BC,BE,am,B3,aY,aX,aZ,b3,bs,ms];rw[DZ,bs];unfold addS
  cases d:A4 a with
  |false=>rfl
  |true=>
   simp only[Bool.not_true,Ah,if_false,Bool.true_and];rw[DZ,bs,bs]
   cases c:A4 b with
   |false=>rfl
   |true=>
    simp only[A4,Ag,decide_eq_true_eq]at d c;have w:i64.wrap (a+b)=a+b:=A7 (by omega) (by omega);simp only[Bool.not_true,Ah,if_false,if_true];rw[DZ,bs,w];cases A4 (a+b)<;>rfl
 rw[this];rfl
theorem SA:∀(l pre:List Int) (s:Int),pre.length+l.length≤100000->
  iter Jo (s,pre++l,((pre++l).length:Int),(pre.length:Int),())=some (if(DF s l).2=0 then .inl ((DF s l).1,())else .inr (0,(DF s l).2))
 | [],pre,s,hn=>by
  refine aD ?_;unfold Jo;dsimp only;have c:decide ((pre.length:Int)<(((pre++ []):List Int).length:Int))=false:=Al (by simp);rw[c,if_neg (by decide)];simp[DF]
 |x::l,pre,s,hn=>by
  simp only[List.length_cons]at hn;have w1:i64.wrap ((pre.length:Int)+1)=((pre++ [x]).length:Int):=by rw[A7 (by omega) (by omega)];simp
  have c:decide ((pre.length:Int)<(((pre++x::l):List Int).length:Int))=true:=Am (by simp;omega);have e:=SA l (pre++ [x]) (addS s x).1 (by simp;omega);rw[List.append_assoc,List.singleton_append]at e;by_cases a:(addS s x).2=0
  ·refine(aH (s':=((addS s x).1,pre++x::l,((pre++x::l).length:Int),((pre++ [x]).length:Int),())) ?_).trans (e.trans ?_)
   ·unfold Jo;dsimp only;rw[c,if_pos rfl,Dk];simp only[bs,ms,QZ];have d:((addS s x).2 !=0)=false:=by simp[a]
    rw[d,if_neg (by decide),w1]
   ·simp[DF,a]
  ·refine(aD (t:=Sum.inr (0,(addS s x).2)) ?_).trans ?_
   ·unfold Jo;dsimp only;rw[c,if_pos rfl,Dk];simp only[bs,ms,QZ];have d:((addS s x).2 !=0)=true:=by simpa using a
    rw[d,if_pos rfl]
   ·simp[DF,a]
theorem X0:∀(l:List Int) (s:Int),(DF s l).2≠0->(DF s l).1=0
 | [],s,h=>by simp[DF]at h
 |x::l,s,h=>by
  unfold DF at h⊢;by_cases a:(addS s x).2=0
  ·rw[if_pos a]at h⊢;exact X0 l _ h
  ·rw[if_neg a]
theorem XU{l:List Int}(a:l.length≤100000):L2 l=some (DF 0 l):=by
 unfold L2;dsimp only;have:=SA l [] 0 (by simpa using a);simp only[List.nil_append,List.length_nil]at this;rw[show((0:Nat):Int)=0 from rfl]at this;rw[this,bs];by_cases h:(DF 0 l).2=0
 ·rw[if_pos h];dsimp only;exact congrArg some (Prod.ext rfl h.symm)
 ·rw[if_neg h];dsimp only;exact congrArg some (Prod.ext (X0 l 0 h).symm rfl)
theorem Td:∀(l pre:List It) (a:List Int),a.length≤pre.length->pre.length+l.length≤100000->
  iter Lv (pre++l,((pre++l).length:Int),(pre.length:Int),a,(),())=some (a++l.map (·.2),(),())
 | [],pre,a,ha,hn=>by
  refine aD ?_;unfold Lv;dsimp only;have c:decide ((pre.length:Int)<(((pre++ []):List It).length:Int))=false:=Al (by simp);rw[c,if_neg (by decide)];simp
 |x::l,pre,a,ha,hn=>by
  simp only[List.length_cons]at hn;have w1:i64.wrap ((pre.length:Int)+1)=((pre++ [x]).length:Int):=by rw[A7 (by omega) (by omega)];simp
  have c:decide ((pre.length:Int)<(((pre++x::l):List It).length:Int))=true:=Am (by simp;omega);have e:=Td l (pre++ [x]) (a++ [x.2]) (by simp;omega) (by simp;omega);rw[List.append_assoc,List.singleton_append]at e;refine(aH (s':=(pre++x::l,((pre++x::l).length:Int),((pre++ [x]).length:Int),a++ [x.2],(),())) ?_).trans (e.trans ?_)
  ·unfold Lv;dsimp only;simp only[c,if_true,Dk,bs,ms];rw[Ou (by omega) (by decide),bs,w1]
  ·simp
theorem Yn{l:List It}(a:l.length≤100000):Jf l=some (DF 0 (l.map (·.2))):=by
 unfold Jf;dsimp only;have:=Td l [] [] (by simp) (by simpa using a);simp only[List.nil_append,List.length_nil]at this;rw[show((0:Nat):Int)=0 from rfl]at this;rw[this,bs];dsimp only;rw[XU (by simpa using a)];rfl
abbrev MI:=List (List UInt8×Int)
abbrev bo:=List UInt8×Int×Int
theorem cC(a b:List UInt8):aj Ty.str a b=true<->a=b:=beq_iff_eq
def Au(k:List UInt8)(m:MI):Int:=(AP (aj Ty.str) (AL (Ty.int IntKind.i64)) k m).1
def CW(k:List UInt8)(v:Int)(m:MI):MI:=Bk (aj Ty.str) k v m
theorem Pk(k a:List UInt8)(v:Int)(m:MI):Au k (CW a v m)=if k=a then v else Au k m:=by
 unfold Au CW;rw[Lj cC];split<;>rfl
theorem JB(k:List UInt8):Au k []=0:=rfl
def Ca(c:Int):Bool:=decide (0≤c)&&decide (c≤1125899906842624)
theorem IK(c:Int):Hf c=some (Ca c):=by
 unfold Hf Ca;dsimp only;simp only[aM,aJ,aN,aL,aK,gM,aR,Bq,aO,Br,Bw,aT,aS,aQ,aP,Bn,Bp,Bs,Bv,Bo,Bu,am];simp only[B4,B5,B6,B7,BA,BB,BC,BE,am,B3,aY,aX,aZ,b3,bs,ms];by_cases h:c≥0
 ·rw[Am h,if_pos rfl];rfl
 ·rw[Al h,if_neg (by decide)];rfl
theorem GN{c:Int}:Ca c=true<->0≤c/\c≤1125899906842624:=by simp[Ca]
def Kt(g:Int)(l:bo)(now a:Int):Int:=
 max (if l.2.2≠0 then min (if l.2.1≠1000000 then min g ((bX g l.2.1 1).1-now)else g) (l.2.2-a)else(if l.2.1≠1000000 then min g ((bX g l.2.1 1).1-now)else g)) 0
theorem Aej(g r:Int): -1125899906842624≤(bX g r 1).1/\(bX g r 1).1≤1125899906842624:=by
 unfold bX;split
 ·unfold Kg;split
  ·simp
  ·split
   ·simp
   ·split
    ·simp
    ·split
     ·simp
     ·split
      ·simp
      ·dsimp only;split<;>omega
 ·simp
def F6(l:bo):Bool:=decide (0≤l.2.1)&&decide (l.2.1≤1000000)&&Ca l.2.2
theorem Afr{g:Int}{l:bo}{now b:Int}(t:0≤g/\g≤1125899906842624)(k:F6 l=true)(s:0≤now/\now≤1125899906842624)(q:0≤b/\b≤1125899906842624):
  Jj (g,l,now,b)=some (Kt g l now b):=by
 obtain⟨c,e,a⟩:=l;simp only[F6,Ag,decide_eq_true_eq,GN]at k;obtain⟨⟨o,m⟩,y1,y2⟩:=k;have r:=Aej g e;unfold Jj Kt;dsimp only;rw[Wv (by omega) (by omega)];unfold Ft Hj;dsimp only;have w1:i64.wrap ((bX g e 1).1-now)=(bX g e 1).1-now:=A7 (by omega) (by omega);have j:i64.wrap (a-b)=a-b:=A7 (by omega) (by omega);by_cases i:e=1000000
 ·have d:(e !=1000000)=false:=by simp[i]
  simp only[d,Ah,if_false,bs];by_cases f:a=0
  ·have h:(a !=0)=false:=by simp[f]
   simp only[h,Ah,if_false,bs];simp[i,f]
  ·have h:(a !=0)=true:=by simpa using f
   simp only[h,if_true,bs,j,i,ne_eq,not_true_eq_false,if_false,f,not_false_eq_true]
 ·have d:(e !=1000000)=true:=by simpa using i
  simp only[d,if_true,bs,w1];by_cases f:a=0
  ·have h:(a !=0)=false:=by simp[f]
   simp only[h,Ah,if_false,bs];simp[i,f]
  ·have h:(a !=0)=true:=by simpa using f
   simp only[h,if_true,bs,j,i,ne_eq,not_false_eq_true,f]
abbrev bG:=List (List UInt8×bo)
def byZ:bo:=AL (Ty.str.cons ((Ty.int IntKind.i64).cons (Ty.int IntKind.i64).one)).agg
def getB(k:List UInt8)(m:bG):bo×Bool:=AP (aj Ty.str) byZ k m
def BM(g:Int)(by_:bG)(left:Int)(now a:MI)(x:It):Int:=
 if(getB x.1 by_).2=true then min (min x.2 left) (Kt (max g 0) (getB x.1 by_).1 (Au x.1 now) (Au x.1 a))else min x.2 left
def D0(g:Int)(by_:bG)(was:MI):Int->MI->MI->List It->List It->List It×MI×Int
 |_,_,year,out,[]=>(out,year,0)
 |left,now,year,out,x::l=>
  if C5 x.1=false then([],[],12)
  else if(Ca x.2&&Ca (Au x.1 was))=false then([],[],2)
  else if Ca (Au x.1 year+BM g by_ left now year x)=false then([],[],9)
  else D0 g by_ was (left-BM g by_ left now year x) (CW x.1 (Au x.1 now+BM g by_ left now year x) now) (CW x.1 (Au x.1 year+BM g by_ left now year x) year)
   (if BM g by_ left now year x>0 then out++ [(x.1,BM g by_ left now year x)]else out) l
theorem Yw{A B C:Type}{a:Option A}{v:A}{f:A->Option B}{g:B->Option C}(h:a=some v):(a.bind f).bind g=(f v).bind g:=by rw[h];rfl
theorem fM(k:List UInt8)(m:MI):(AP (aj Ty.str) (AL (Ty.int IntKind.i64)) k m).1=Au k m:=rfl
theorem fP(k:List UInt8)(v:Int)(m:MI):Bk (aj Ty.str) k v m=CW k v m:=rfl
structure GZ (g left:Int) (by_:bG) (was now year:MI):Prop where
 gR:Ef g
 gG:max g 0≤1125899906842624
 l0:0≤left
 lG:left≤max g 0
 nowI:∀k,0≤Au k now/\Au k now≤max g 0-left
 yearI:∀k,Au k year=Au k was+Au k now/\(Au k now=0\/Ca (Au k year)=true)
 limI:∀k,(getB k by_).2=true->F6 (getB k by_).1=true
theorem Ahy{g left:Int}{by_:bG}{was now a:MI}(h:GZ g left by_ was now a){x:It}(b:0≤x.2):0≤BM g by_ left now a x/\BM g by_ left now a x≤left/\BM g by_ left now a x≤x.2:=by
 have d:=h.l0;unfold BM;split
 ·have c:0≤Kt (max g 0) (getB x.1 by_).1 (Au x.1 now) (Au x.1 a):=by unfold Kt;omega
  omega
 ·omega
theorem Ai6{g left:Int}{by_:bG}{was now a:MI}(h:GZ g left by_ was now a){k:List UInt8}(c:Ca (Au k was)=true):Ca (Au k a)=true:=by
 obtain⟨d,b⟩:=h.yearI k;rcases b with b|b
 ·rw[d,b,Int.add_zero];exact c
 ·exact b
theorem GZ.step{g left:Int}{by_:bG}{was now a:MI}(h:GZ g left by_ was now a){x:It}{c:Int}(i:0≤c/\c≤left)(d:Ca (Au x.1 a+c)=true):
  GZ g (left-c) by_ was (CW x.1 (Au x.1 now+c) now) (CW x.1 (Au x.1 a+c) a):=by
 refine⟨h.gR,h.gG,by omega,by have:=h.lG;omega,fun k=> ?_,fun k=> ?_,h.limI⟩
 ·rw[Pk];have b:=h.nowI k;have f:=h.nowI x.1;split
  ·omega
  ·omega
 ·rw[Pk,Pk];have b:=h.yearI k;have f:=h.yearI x.1;split
  ·rename_i e;subst e;exact⟨by omega,.inr d⟩
  ·exact b
theorem SH{g:Int}{by_:bG}{was:MI}:∀(l pre:List It) (left:Int) (now a:MI) (out:List It),GZ g left by_ was now a->out.length≤pre.length->pre.length+l.length≤1000->
  iter He (g,was,by_,left,pre++l,((pre++l).length:Int),(pre.length:Int),now,a,out,(),(),(),())=
   some (if(D0 g by_ was left now a out l).2.2=0 then .inl ((D0 g by_ was left now a out l).2.1,(D0 g by_ was left now a out l).1,(),(),())else .inr (D0 g by_ was left now a out l))
 | [],pre,left,now,a,out,h,ho,hn=>by
  refine aD ?_;unfold He;dsimp only;have c:decide ((pre.length:Int)<(((pre++ []):List It).length:Int))=false:=Al (by simp);rw[c,if_neg (by decide)];rfl
 |x::l,pre,left,now,a,out,h,ho,hn=>by
  simp only[List.length_cons]at hn;have w1:i64.wrap ((pre.length:Int)+1)=((pre++ [x]).length:Int):=by rw[A7 (by omega) (by omega)];simp
  have c:decide ((pre.length:Int)<(((pre++x::l):List It).length:Int))=true:=Am (by simp;omega);by_cases b:C5 x.1=true
  ·by_cases d:(Ca x.2&&Ca (Au x.1 was))=true
   ·have k:=d;simp only[Ag]at k;obtain⟨r1,q⟩:=k;have w:=Ai6 h q;have A:=GN.1 r1;have y:=GN.1 w;have E:=Ahy h A.1;have I:=h.gG;have F:=h.lG
    have f:He (g,was,by_,left,pre++x::l,((pre++x::l).length:Int),(pre.length:Int),now,a,out,(),(),(),())=
      if Ca (Au x.1 a+BM g by_ left now a x)=true then
       some (.inl (g,was,by_,left-BM g by_ left now a x,pre++x::l,((pre++x::l).length:Int),((pre++ [x]).length:Int),CW x.1 (Au x.1 now+BM g by_ left now a x) now,CW x.1 (Au x.1 a+BM g by_ left now a x) a,
        if BM g by_ left now a x>0 then out++ [(x.1,BM g by_ left now a x)]else out,(),(),(),()))
      else some (.inr (.inr ([],[],9))):=by
     unfold He;dsimp only;simp only[aM,aJ,aN,aL,aK,gM,aR,Bq,aO,Br,Bw,aT,aS,aQ,aP,Bn,Bp,Bs,Bv,Bo,Bu,am];simp only[B4,B5,B6,B7,BA,BB,BC,BE,am,B3,aY,aX,aZ,b3,bs,ms];rw[c,if_pos rfl,Dk,bs,JW,bs,b,if_neg (by decide),IK,bs,r1,if_neg (by decide),IK,fM,q];simp only[bs,Bool.not_true,Ah,if_false,Ft,Hj];refine(Yw (v:=(g,was,by_,left,BM g by_ left now a x,pre++x::l,((pre++x::l).length:Int),(pre.length:Int),x.1,x.2,now,a,out,(),(),(),(),(),())) ?_).trans ?_
     ·change(if(getB x.1 by_).2=true then(Jj (max g 0,(getB x.1 by_).1,Au x.1 now,Au x.1 a)).bind fun s=>some (g,was,by_,left,min (min x.2 left) s,pre++x::l,((pre++x::l).length:Int),(pre.length:Int),x.1,x.2,now,a,out,(),(),(),(),(),())
       else some (g,was,by_,left,min x.2 left,pre++x::l,((pre++x::l).length:Int),(pre.length:Int),x.1,x.2,now,a,out,(),(),(),(),(),()))=_
      unfold BM;by_cases o:(getB x.1 by_).2=true
      ·have m:=h.nowI x.1;have B:=h.l0;rw[if_pos o,if_pos o,Afr ⟨by omega,I⟩ (h.limI _ o) ⟨m.1,by omega⟩ y,bs]
      ·rw[if_neg o,if_neg o]
     ·generalize BM g by_ left now a x=T at*;have m:=h.nowI x.1;have B:=h.l0;have G:=h.gR;have t:i64.wrap (Au x.1 a+T)=Au x.1 a+T:=A7 (by omega) (by omega);have C:i64.wrap (Au x.1 now+T)=Au x.1 now+T:=A7 (by omega) (by omega);have D:i64.wrap (left-T)=left-T:=A7 (by omega) (by omega);dsimp only;simp only[IK,bs];change Option.bind (if(!Ca (i64.wrap (Au x.1 a+T)))=true then _ else _) _=_;rw[t]
      cases J:Ca (Au x.1 a+T)with
      |false=>rfl
      |true=>
       rw[if_neg (by decide),if_pos rfl];by_cases r:T>0
       ·rw[Am r,if_pos rfl,if_pos r,Ou (by omega) (by decide),bs];dsimp only;change some (Sum.inl (g,was,by_,i64.wrap (left-T),pre++x::l,((pre++x::l).length:Int),i64.wrap ((pre.length:Int)+1),CW x.1 (i64.wrap (Au x.1 now+T)) now,CW x.1 (i64.wrap (Au x.1 a+T)) a,out++ [(x.1,T)],(),(),(),()))=_;rw[D,w1,C,t]
       ·rw[Al r,if_neg (by decide),if_neg r,bs];dsimp only;change some (Sum.inl (g,was,by_,i64.wrap (left-T),pre++x::l,((pre++x::l).length:Int),i64.wrap ((pre.length:Int)+1),CW x.1 (i64.wrap (Au x.1 now+T)) now,CW x.1 (i64.wrap (Au x.1 a+T)) a,out,(),(),(),()))=_;rw[D,w1,C,t]
    by_cases i:Ca (Au x.1 a+BM g by_ left now a x)=true
    ·rw[if_pos i]at f
     have e:=SH (g:=g) (by_:=by_) (was:=was) l (pre++ [x]) (left-BM g by_ left now a x) (CW x.1 (Au x.1 now+BM g by_ left now a x) now) (CW x.1 (Au x.1 a+BM g by_ left now a x) a)
      (if BM g by_ left now a x>0 then out++ [(x.1,BM g by_ left now a x)]else out) (h.step ⟨E.1,E.2.1⟩ i) (by split<;>simp<;>omega) (by simp;omega)
     rw[List.append_assoc,List.singleton_append]at e;rw[aH f,e]
     have j:D0 g by_ was left now a out (x::l)=D0 g by_ was (left-BM g by_ left now a x) (CW x.1 (Au x.1 now+BM g by_ left now a x) now) (CW x.1 (Au x.1 a+BM g by_ left now a x) a) (if BM g by_ left now a x>0 then out++ [(x.1,BM g by_ left now a x)]else out) l:=by
      rw[D0,if_neg (by simp[b]),if_neg (by simp[d]),if_neg (by simp[i])]
     rw[j]
    ·rw[if_neg i]at f;rw[aD f]
     have j:D0 g by_ was left now a out (x::l)=([],[],9):=by
      rw[D0,if_neg (by simp[b]),if_neg (by simp[d]),if_pos (by simpa using i)]
     rw[j];rfl
   ·have j:D0 g by_ was left now a out (x::l)=([],[],2):=by
     rw[D0,if_neg (by simp[b]),if_pos (by simpa using d)]
    rw[j];refine aD ?_;unfold He;dsimp only;simp only[aM,aJ,aN,aL,aK,gM,aR,Bq,aO,Br,Bw,aT,aS,aQ,aP,Bn,Bp,Bs,Bv,Bo,Bu,am];simp only[B4,B5,B6,B7,BA,BB,BC,BE,am,B3,aY,aX,aZ,b3,bs,ms];rw[c,if_pos rfl,Dk,bs,JW,bs,b,if_neg (by decide),IK,bs]
    cases r1:Ca x.2 with
    |false=>rfl
    |true=>
     rw[if_neg (by decide),IK,fM]
     cases q:Ca (Au x.1 was)with
     |false=>rfl
     |true=>exact absurd (by rw[r1,q];rfl) d
  ·have j:D0 g by_ was left now a out (x::l)=([],[],12):=by
    rw[D0,if_pos (by simpa using b)]
   rw[j];refine aD ?_;unfold He;dsimp only;rw[c,if_pos rfl,Dk];simp only[bs,ms,JW];have H:C5 x.1=false:=by simpa using b
   rw[H];rfl
def IB(k:List UInt8)(v:bo)(m:bG):bG:=Bk (aj Ty.str) k v m
theorem Acl(k a:List UInt8)(v:bo)(m:bG):getB k (IB a v m)=if k=a then(v,true)else getB k m:=by
 unfold getB IB;exact Lj cC byZ k a v m
def CM:bG->List bo->bG×Int
 |m,[]=>(m,0)
 |m,x::l=>if C5 x.1=false then([],12)else if(getB x.1 m).2=true then([],7)else if F6 x=false then([],2)else CM (IB x.1 x m) l
theorem Tg:∀(l pre:List bo) (m:bG),pre.length+l.length≤1000->
  iter Jh (pre++l,((pre++l).length:Int),(pre.length:Int),m,(),())=some (if(CM m l).2=0 then .inl ((CM m l).1,(),())else .inr (CM m l))
 | [],pre,m,hn=>by
  refine aD ?_;unfold Jh;dsimp only;have c:decide ((pre.length:Int)<(((pre++ []):List bo).length:Int))=false:=Al (by simp);rw[c,if_neg (by decide)];rfl
 |x::l,pre,m,hn=>by
  simp only[List.length_cons]at hn;have w1:i64.wrap ((pre.length:Int)+1)=((pre++ [x]).length:Int):=by rw[A7 (by omega) (by omega)];simp
  have c:decide ((pre.length:Int)<(((pre++x::l):List bo).length:Int))=true:=Am (by simp;omega)
  have body:Jh (pre++x::l,((pre++x::l).length:Int),(pre.length:Int),m,(),())=
    if C5 x.1=false then some (.inr (.inr ([],12)))else if(getB x.1 m).2=true then some (.inr (.inr ([],7)))else if F6 x=false then some (.inr (.inr ([],2)))
    else some (.inl (pre++x::l,((pre++x::l).length:Int),((pre++ [x]).length:Int),IB x.1 x m,(),())):=by
   obtain⟨g,b,o⟩:=x;unfold Jh;dsimp only;simp only[aM,aJ,aN,aL,aK,gM,aR,Bq,aO,Br,Bw,aT,aS,aQ,aP,Bn,Bp,Bs,Bv,Bo,Bu,am];rw[c,if_pos rfl,Dk,bs,JW,bs]
   cases a:C5 g with
   |false=>rfl
   |true=>
    rw[if_neg (show ¬((!true)=true) by decide),if_neg (show ¬(true=false) by decide)];dsimp only;change(if(getB g m).2=true then _ else _)=_
    cases d:(getB g m).2 with
    |true=>rfl
    |false=>
     rw[if_neg (show ¬(false=true) by decide),if_neg (show ¬(false=true) by decide)];unfold F6;dsimp only;simp only[IK,bs];by_cases k:b<0
     ·have i:decide (0≤b)=false:=Al (by omega);rw[Am k,if_pos rfl,i];rfl
     ·have i:decide (0≤b)=true:=Am (by omega);rw[Al k,if_neg (by decide),i];by_cases j:b>1000000
      ·have h:decide (b≤1000000)=false:=Al (by omega);rw[Am j,if_pos rfl,h];rfl
      ·have h:decide (b≤1000000)=true:=Am (by omega);rw[Al j,if_neg (by decide),h]
       cases Ca o with
       |false=>rfl
       |true=>
        rw[if_neg (by decide),bs];dsimp only;rw[if_neg (by decide),w1];rfl
  by_cases a:C5 x.1=false
  ·rw[if_pos a]at body;rw[aD body];have:CM m (x::l)=([],12):=by rw[CM,if_pos a]
   rw[this];rfl
  ·rw[if_neg a]at body;by_cases d:(getB x.1 m).2=true
   ·rw[if_pos d]at body;rw[aD body];have:CM m (x::l)=([],7):=by rw[CM,if_neg a,if_pos d]
    rw[this];rfl
   ·rw[if_neg d]at body;by_cases f:F6 x=false
    ·rw[if_pos f]at body;rw[aD body];have:CM m (x::l)=([],2):=by rw[CM,if_neg a,if_neg d,if_pos f]
     rw[this];rfl
    ·rw[if_neg f]at body;have e:=Tg l (pre++ [x]) (IB x.1 x m) (by simp;omega);rw[List.append_assoc,List.singleton_append]at e;rw[aH body,e];have:CM m (x::l)=CM (IB x.1 x m) l:=by rw[CM,if_neg a,if_neg d,if_neg f]
     rw[this]
theorem Tf:∀(l:List bo) (m:bG),(∀k,(getB k m).2=true->F6 (getB k m).1=true)->(CM m l).2=0->∀k,(getB k (CM m l).1).2=true->F6 (getB k (CM m l).1).1=true
 | [],m,h,_=>h
 |x::l,m,h,h0=>by
  unfold CM at h0⊢;split at h0
  ·cases h0
  ·rename_i a;split at h0
   ·cases h0
   ·rename_i c;split at h0
    ·cases h0
    ·rename_i b;rw[if_neg a,if_neg c,if_neg b];refine Tf l _ (fun k=> ?_) h0;rw[Acl];split
     ·intro _;simpa using b
     ·exact h k
def CR(l:List bo):bG×Int:=if(l.length:Int)>64 then([],5)else CM [] l
theorem Y0{l:List bo}(h:(CR l).2=0):∀k,(getB k (CR l).1).2=true->F6 (getB k (CR l).1).1=true:=by
 unfold CR at h⊢;by_cases a:(l.length:Int)>64
 ·rw[if_pos a]at h;cases h
 ·rw[if_neg a]at h⊢;exact Tf l [] (fun k b=>by cases b) h
theorem Y1(l:List bo):Lw l=some (CR l):=by
 unfold Lw CR;dsimp only;by_cases a:(l.length:Int)>64
 ·rw[Am a,if_pos rfl,if_pos a]
 ·rw[Al a,if_neg (by decide),if_neg a];have:=Tg l [] [] (by simp;omega);simp only[List.nil_append,List.length_nil]at this;rw[show((0:Nat):Int)=0 from rfl]at this;rw[this,bs];by_cases b:(CM [] l).2=0
  ·rw[if_pos b];exact congrArg some (Prod.ext rfl b.symm)
  ·rw[if_neg b]
def QK(g:Int)(was:MI)(wanted:List It)(a:List bo):List It×MI×Int:=
 if A4 g=false then([],[],2)
 else if(CR a).2≠0 then([],[],(CR a).2)
 else if(wanted.length:Int)>64 then([],[],5)
 else D0 g (CR a).1 was (max g 0) [] was [] wanted
theorem Ag8{g:Int}{was:MI}{a:List bo}(b:Ef g)(c:A4 g=true)(d:(CR a).2=0):GZ g (max g 0) (CR a).1 was [] was:=by
 simp only[A4,Ag,decide_eq_true_eq]at c;exact⟨b,by omega,by omega,by omega,fun k=>⟨by rw[JB];omega,by rw[JB];omega⟩,fun k=>⟨by rw[JB];omega,.inl (JB k)⟩,Y0 d⟩
theorem XW{g:Int}{was:MI}{wanted:List It}{a:List bo}(k:Ef g)(j:∀p∈was,p.1.length≤9223372036854775807)(f:was.length≤9223372036854775807):Jg (g,was,wanted,a)=some (QK g was wanted a):=by
 unfold Jg QK;dsimp only;rw[DZ,bs]
 cases l:A4 g with
 |false=>rfl
 |true=>
  rw[if_neg (by decide),if_neg (by decide),Y1,bs];by_cases b:(CR a).2=0
  ·have e:((CR a).2 !=0)=false:=by simp[b]
   rw[e,if_neg (by decide),if_neg (show ¬((CR a).2≠0) by simp[b])];by_cases c:(wanted.length:Int)>64
   ·rw[Am c,if_pos rfl,if_pos c]
   ·rw[Al c,if_neg (by decide),if_neg c]
    have i:I3 ([]:MI) was=some was:=by
     unfold I3;rw[if_pos];exact⟨rfl,List.all_eq_true.2 fun p h=>Am (j p h),f⟩
    unfold Hj;dsimp only;rw[bs,i,bs];have:=SH (g:=g) (by_:=(CR a).1) (was:=was) wanted [] (max g 0) [] was [] (Ag8 k l b) (by simp) (by simp;omega);simp only[List.nil_append,List.length_nil]at this;rw[show((0:Nat):Int)=0 from rfl]at this;rw[this,bs];by_cases d:(D0 g (CR a).1 was (max g 0) [] was [] wanted).2.2=0
    ·rw[if_pos d];exact congrArg some (Prod.ext rfl (Prod.ext rfl d.symm))
    ·rw[if_neg d]
  ·have e:((CR a).2 !=0)=true:=by simpa using b
   rw[e,if_pos rfl,if_pos b]
abbrev LK:=Int×List UInt8
abbrev ML:=List (LK×Int)
abbrev MS:=List (List UInt8×Int×Int×Int×Int)
abbrev Cr:=Int×Int×Int×List It×List It×List It×List (List UInt8×Int×Int)×List (List UInt8×Int×Int×Int)×Int×Int×List (Int×Int)×List (List UInt8×Int×Int×Int×Int×Int)
abbrev ak:=Int×Int×Int×MI×MS×Int×Int×MI
abbrev Lf:=Int×Int×Int×MI×MS×Int×Int×MI×Int×Int×Int×List It×List It×List It×List (List UInt8×Int×Int)×List (List UInt8×Int×Int×Int)×Int×Int×List (Int×Int)×List (List UInt8×Int×Int×Int×Int×Int)×Int×Int×Int×ML×Unit×Unit×Unit
def bm:LK->LK->Bool:=aj (.agg (.cons (.int .i64) (.one .str)))
theorem J4(a b:LK):bm a b=true<->a=b:=by
 show((a.1==b.1)&&(a.2==b.2))=true<->a=b;rw[Ag,beq_iff_eq,beq_iff_eq];exact⟨fun h=>Prod.ext h.1 h.2,fun h=>by rw[h];exact⟨rfl,rfl⟩⟩
def Hw(k:LK)(m:ML):Int:=(AP bm (AL (.int .i64)) k m).1
def aq(s:ak)(m:Cr)(g b l:Int)(ln:ML):Lf:=
 (s.1,s.2.1,s.2.2.1,s.2.2.2.1,s.2.2.2.2.1,s.2.2.2.2.2.1,s.2.2.2.2.2.2.1,s.2.2.2.2.2.2.2,m.1,m.2.1,m.2.2.1,m.2.2.2.1,m.2.2.2.2.1,m.2.2.2.2.2.1,m.2.2.2.2.2.2.1,m.2.2.2.2.2.2.2.1,m.2.2.2.2.2.2.2.2.1,m.2.2.2.2.2.2.2.2.2.1,m.2.2.2.2.2.2.2.2.2.2.1,m.2.2.2.2.2.2.2.2.2.2.2,g,b,l,ln,(),(),())
def FA(part:Int):List It->ML->ML
 | [],m=>m
 |x::l,m=>FA part l (Bk bm (part,x.1) (i64.wrap (Hw (part,x.1) m+x.2)) (Bk bm (part,x.1) (Hw (part,x.1) m) m))
def GJ(part:Int):List It->Int->Int
 | [],c=>c
 |x::l,c=>GJ part l (if part≠0/\part≠6 then i64.wrap (c-x.2)else c)
theorem Wn{part:Int}{s:ak}{m:Cr}{g b:Int}:∀(l pre:List It) (c:Int) (ln:ML),pre.length+l.length≤1000000->
  iter NX (part,pre++l,((pre++l).length:Int),(pre.length:Int),s.1,s.2.1,s.2.2.1,s.2.2.2.1,s.2.2.2.2.1,s.2.2.2.2.2.1,s.2.2.2.2.2.2.1,s.2.2.2.2.2.2.2,m.1,m.2.1,m.2.2.1,m.2.2.2.1,m.2.2.2.2.1,m.2.2.2.2.2.1,m.2.2.2.2.2.2.1,m.2.2.2.2.2.2.2.1,m.2.2.2.2.2.2.2.2.1,m.2.2.2.2.2.2.2.2.2.1,m.2.2.2.2.2.2.2.2.2.2.1,m.2.2.2.2.2.2.2.2.2.2.2,g,b,c,ln,(),(),(),())=some (aq s m g b (GJ part l c) (FA part l ln))
 | [],pre,c,ln,hn=>by
  refine aD ?_;unfold NX;dsimp only;have h:decide ((pre.length:Int)<(((pre++ []):List It).length:Int))=false:=Al (by simp);rw[h,if_neg (by decide)];rfl
 |x::l,pre,c,ln,hn=>by
  simp only[List.length_cons]at hn;have w1:i64.wrap ((pre.length:Int)+1)=((pre++ [x]).length:Int):=by rw[A7 (by omega) (by omega)];simp
  have h:decide ((pre.length:Int)<(((pre++x::l):List It).length:Int))=true:=Am (by simp;omega)
  have e:=Wn (part:=part) (s:=s) (m:=m) (g:=g) (b:=b) l (pre++ [x]) (if part≠0/\part≠6 then i64.wrap (c-x.2)else c)
   (Bk bm (part,x.1) (i64.wrap (Hw (part,x.1) ln+x.2)) (Bk bm (part,x.1) (Hw (part,x.1) ln) ln)) (by simp;omega)
  rw[List.append_assoc,List.singleton_append]at e;refine Eq.trans (aH ?_) e;unfold NX;dsimp only;rw[h,if_pos rfl,Dk]
  have i:(AP (aj (.agg (.cons (.int .i64) (.one .str)))) (AL (.int .i64)) (part,x.1) (Bk (aj (.agg (.cons (.int .i64) (.one .str)))) (part,x.1) ((AP (aj (.agg (.cons (.int .i64) (.one .str)))) (AL (.int .i64)) (part,x.1) ln).1) ln)).2=true:=by
   have f:=congrArg Prod.snd (Lj J4 (AL (.int .i64)) (part,x.1) (part,x.1) (Hw (part,x.1) ln) ln);rw[if_pos rfl]at f;exact f
  simp only[Option.map_some,Option.bind_some];rw[if_pos i];by_cases d:part=0
  ·subst d;simp only[bne_self_eq_false,Ah,if_false,Option.bind_some];rw[w1,if_neg (show ¬((0:Int)≠0/\(0:Int)≠6) by decide)];rfl
  ·have k:(part !=0)=true:=by simpa using d
   rw[k];simp only[if_true,Option.bind_some,Option.map_some];by_cases a:part=6
   ·subst a;simp only[bne_self_eq_false,Ah,if_false,Option.bind_some];rw[w1,if_neg (show ¬((6:Int)≠0/\(6:Int)≠6) by decide)];rfl
   ·have j:(part !=6)=true:=by simpa using a
    rw[j];simp only[if_true,Option.bind_some];rw[w1,if_pos (show part≠0/\part≠6 from⟨d,a⟩)];rfl
theorem Ko{part:Int}{s:ak}{m:Cr}{g b c:Int}{ln:ML}{l:List It}(a:l.length≤1000000):
  EC ((),part,l) (aq s m g b c ln)=some ((),aq s m g b (GJ part l c) (FA part l ln)):=by
 unfold EC;dsimp only[aq];have e:=Wn (part:=part) (s:=s) (m:=m) (g:=g) (b:=b) l [] c ln (by simpa using a);simp only[List.nil_append,List.length_nil]at e;rw[show((0:Nat):Int)=0 from rfl]at e;rw[e,bs];rfl
def DV:List UInt8:= [115,97,108,97,114,121]
def DN:List UInt8:= [98,111,110,117,115]
def AI:List UInt8:= [112,101,110,115,105,111,110]
def DO:List UInt8:= [99,108,117,98]
def Az:List UInt8:= [104,101,97,108,116,104]
def A2:List UInt8:= [99,111,117,114,116]
def DY:List UInt8:= [116,97,120]
structure Mo where
 (S B P C w f ce al ex lo ed hi rt fx pr tt:Int)
def Mo.mon(x:Mo)(y i o:Int):Cr:=(y,i,o,[(DV,x.S),(DN,x.B)],[(AI,x.P)],[(DO,x.C)],[],[(Az,x.w,x.f,x.ce)],x.al,x.ex,[(0,x.lo),(x.ed,x.hi)],[(A2,1,x.rt,x.fx,x.pr,x.tt)])
structure BT (x:Mo):Prop where
 S: -2147483648≤x.S/\x.S≤2147483647
 B: -2147483648≤x.B/\x.B≤2147483647
 P:0≤x.P/\x.P≤1048575
 C:0≤x.C/\x.C≤65535
 w:0≤x.w/\x.w≤655350
 f:0≤x.f/\x.f≤655350
 ce:0≤x.ce/\x.ce≤4294967295
 al:0≤x.al/\x.al≤4294967295
 ex:0≤x.ex/\x.ex≤255
 lo:0≤x.lo/\x.lo≤655350
 ed:1≤x.ed/\x.ed≤4294967296
 hi:0≤x.hi/\x.hi≤655350
 rt:0≤x.rt/\x.rt≤655350
 fx:0≤x.fx/\x.fx≤4294967295
 pr:0≤x.pr/\x.pr≤4294967295
 tt:0≤x.tt/\x.tt≤4294967295
theorem ST{k:LK}{v:Int}:∀{m:ML},(∀e∈m,e.1≠k)->Bk bm k v m=m++ [(k,v)]
 | [],_=>rfl
 |p::m,h=>by
  have a:bm k p.1=false:=by
   cases b:bm k p.1 with
   |false=>rfl
   |true=>exact absurd ((J4 _ _).1 b).symm (h p (by simp))
  show(if bm k p.1=true then _ else _)=_;rw[a,if_neg (by decide),ST fun e c=>h e (by simp[c])];rfl
theorem SS{k:LK}{u v:Int}:∀{m:ML},(∀e∈m,e.1≠k)->Bk bm k v (m++ [(k,u)])=m++ [(k,v)]
 | [],_=>by
  show(if bm k k=true then _ else _)=_;rw[(J4 k k).2 rfl,if_pos rfl];rfl
 |p::m,h=>by
  have a:bm k p.1=false:=by
   cases b:bm k p.1 with
   |false=>rfl
   |true=>exact absurd ((J4 _ _).1 b).symm (h p (by simp))
  show(if bm k p.1=true then _ else _)=_;rw[a,if_neg (by decide)];exact congrArg (p:: ·) (SS fun e c=>h e (by simp[c]))
theorem UG{k:LK}:∀{m:ML},(∀e∈m,e.1≠k)->Hw k m=0
 | [],_=>rfl
 |p::m,h=>by
  have a:bm k p.1=false:=by
   cases b:bm k p.1 with
   |false=>rfl
   |true=>exact absurd ((J4 _ _).1 b).symm (h p (by simp))
  have e:=UG (k:=k) fun e c=>h e (List.mem_cons_of_mem p c);unfold Hw at e⊢;show(if bm k p.1=true then(p.2,true)else AP bm (AL (.int .i64)) k m).1=0;rw[a,if_neg (by decide)];exact e
theorem IC{part:Int}{x:It}{m:ML}{l:List It}(h:∀e∈m,e.1≠(part,x.1))(a: -9223372036854775808≤x.2/\x.2≤9223372036854775807):FA part (x::l) m=FA part l (m++ [((part,x.1),x.2)]):=by
 rw[FA,UG h,Int.zero_add,A7 a.1 a.2,ST h,SS h]
theorem Ahg{S B:Int}(f: -2147483648≤S/\S≤2147483647)(g: -2147483648≤B/\B≤2147483647):DF 0 [S,B]=(S+B,0):=by
 have a:A4 S=true:=by simp[A4];omega
 have b:A4 B=true:=by simp[A4];omega
 have f3:A4 (S+B)=true:=by simp[A4];omega
 have c:A4 0=true:=by decide
 have e:addS 0 S=(S,0):=by simp[addS,c,a]
 have d:addS S B=(S+B,0):=by simp[addS,a,b,f3]
 simp[DF,e,d]
def CF(x:Mo):ML:= [((0,DV),x.S),((0,DN),x.B)]
theorem Aeu{s:ak}{x:Mo}{y i o g b c:Int}(h:BT x):KN () (aq s (x.mon y i o) g b c [])=some (0,aq s (x.mon y i o) (x.S+x.B) (x.S+x.B) (x.S+x.B) (CF x)):=by
 have f:Jf [(DV,x.S),(DN,x.B)]=some (x.S+x.B,0):=by
  rw[Yn (by simp)];exact congrArg some (Ahg h.S h.B)
 have j:=h.S;have k:=h.B;have a:=Ko (part:=0) (s:=s) (m:=x.mon y i o) (g:=x.S+x.B) (b:=x.S+x.B) (c:=x.S+x.B) (ln:= []) (l:= [(DV,x.S),(DN,x.B)]) (by simp);rw[IC (by simp) (by show _/\_;dsimp only;omega),IC (by intro e d;rw[List.nil_append,List.mem_singleton]at d;subst d;show((0:Int),DV)≠((0:Int),DN);decide) (by show _/\_;dsimp only;omega)]at a;unfold KN;dsimp only[aq,Mo.mon]at a⊢;rw[f,bs,a,bs];rfl
def AS(x:Mo):Int:=min x.P (max (x.S+x.B) 0)
def En(x:Mo):List It:=if AS x>0 then [(AI,AS x)]else []
theorem Ql{x:Mo}(h:BT x):0≤AS x/\AS x≤x.P:=by
 have:=h.P;unfold AS;omega
def cd(k:List UInt8)(m:MI):Prop:=m= []\/∃v,m= [(k,v)]
theorem Wi{k:List UInt8}{m:MI}{v:Int}(h:cd k m):CW k v m= [(k,v)]:=by
 rcases h with rfl|⟨u,rfl⟩
 ·rfl
 ·unfold CW;show(if aj Ty.str k k=true then _ else _)=_;rw[(cC k k).2 rfl,if_pos rfl]
theorem Ahw{x:Mo}{bf:MI}(h:BT x)(a:cd AI bf)(i:0≤Au AI bf/\Au AI bf≤1000000000000):
  Jg (x.S+x.B,bf,[(AI,x.P)],[])=some (En x,[(AI,Au AI bf+AS x)],0):=by
 have k:=h.S;have m:=h.B;have l:=h.P;have j:=Ql h;have e:Ef (x.S+x.B):=by unfold Ef;omega
 rw[XW e (by rcases a with rfl|⟨v,rfl⟩<;>simp[AI]) (by rcases a with rfl|⟨v,rfl⟩<;>simp)]
 congr 1
 have f:A4 (x.S+x.B)=true:=by simp[A4];omega
 have g:CR []=([],0):=by simp[CR,CM]
 have n1:C5 AI=true:=by decide
 have r1:Ca x.P=true:=GN.2 (by omega);have c:Ca (Au AI bf)=true:=GN.2 (by omega);have d:BM (x.S+x.B) [] (max (x.S+x.B) 0) [] bf (AI,x.P)=AS x:=rfl;have b:Ca (Au AI bf+AS x)=true:=GN.2 (by omega);unfold QK;simp only[f,g,D0,n1,r1,c,d,b,Wi a];simp[En]
def b7(part:Int)(k:List UInt8)(v:Int):ML:=if v>0 then [((part,k),v)]else []
def ba(part:Int)(k:List UInt8)(v:Int):ML:=if v=0 then []else [((part,k),v)]
theorem Yq{x4:Int}{s:ak}{m:Cr}{g c:Int}{ln:ML}{l:List It}(a:l= []\/∃k v,l= [(k,v)])(b:Int):
  iter KP ((),x4,l,(l.length:Int),0,s.1,s.2.1,s.2.2.1,s.2.2.2.1,s.2.2.2.2.1,s.2.2.2.2.2.1,s.2.2.2.2.2.2.1,s.2.2.2.2.2.2.2,m.1,m.2.1,m.2.2.1,m.2.2.2.1,m.2.2.2.2.1,m.2.2.2.2.2.1,m.2.2.2.2.2.2.1,m.2.2.2.2.2.2.2.1,m.2.2.2.2.2.2.2.2.1,m.2.2.2.2.2.2.2.2.2.1,m.2.2.2.2.2.2.2.2.2.2.1,m.2.2.2.2.2.2.2.2.2.2.2,g,b,c,ln,(),(),())=some (x4,aq s m g (l.foldl (fun b x=>i64.wrap (b-x.2)) b) c ln):=by
 rcases a with rfl|⟨k,v,rfl⟩
 ·refine aD ?_;unfold KP;dsimp only;rfl
 ·refine(aH (s':=((),x4,[(k,v)],1,1,s.1,s.2.1,s.2.2.1,s.2.2.2.1,s.2.2.2.2.1,s.2.2.2.2.2.1,s.2.2.2.2.2.2.1,s.2.2.2.2.2.2.2,m.1,m.2.1,m.2.2.1,m.2.2.2.1,m.2.2.2.2.1,m.2.2.2.2.2.1,m.2.2.2.2.2.2.1,m.2.2.2.2.2.2.2.1,m.2.2.2.2.2.2.2.2.1,m.2.2.2.2.2.2.2.2.2.1,m.2.2.2.2.2.2.2.2.2.2.1,m.2.2.2.2.2.2.2.2.2.2.2,g,i64.wrap (b-v),c,ln,(),(),())) ?_).trans ?_
  ·unfold KP;dsimp only;rfl
  ·refine aD ?_;unfold KP;dsimp only;rfl
theorem Aev{yy ii oo tb tt:Int}{bf:MI}{so:MS}{od:MI}{x:Mo}{y i o:Int}(h:BT x)(k:cd AI bf)(j:0≤Au AI bf/\Au AI bf≤1000000000000):
  KO () (aq (yy,ii,oo,bf,so,tb,tt,od) (x.mon y i o) (x.S+x.B) (x.S+x.B) (x.S+x.B) (CF x))=
   some (0,aq (yy,ii,oo,[(AI,Au AI bf+AS x)],so,tb,tt,od) (x.mon y i o) (x.S+x.B) (x.S+x.B-AS x) (x.S+x.B-AS x) (CF x++b7 1 AI (AS x))):=by
 have w:=h.S;have C:=h.B;have A:=h.P;have v:=Ql h;have t:=Ahw h k j;have f:=Ko (part:=1) (s:=(yy,ii,oo,[(AI,Au AI bf+AS x)],so,tb,tt,od)) (m:=x.mon y i o) (g:=x.S+x.B) (b:=x.S+x.B) (c:=x.S+x.B) (ln:=CF x) (l:=En x) (by unfold En;split<;>simp);have d:=Yq (x4:=0) (s:=(yy,ii,oo,[(AI,Au AI bf+AS x)],so,tb,tt,od)) (m:=x.mon y i o) (g:=x.S+x.B) (c:=GJ 1 (En x) (x.S+x.B)) (ln:=FA 1 (En x) (CF x)) (l:=En x) (by unfold En;split<;>simp) (x.S+x.B);unfold KO;dsimp only[aq,Mo.mon]at f d⊢;rw[t,bs,f,bs];dsimp only;rw[d,bs];have w1:i64.wrap (x.S+x.B-AS x)=x.S+x.B-AS x:=A7 (by omega) (by omega)
 have r:(En x).foldl (fun b x=>i64.wrap (b-x.2)) (x.S+x.B)=x.S+x.B-AS x:=by
  unfold En;split
  ·exact w1
  ·show x.S+x.B=_;omega
 have q:GJ 1 (En x) (x.S+x.B)=x.S+x.B-AS x:=by
  unfold En;split
  ·exact w1
  ·show x.S+x.B=_;omega
 have f3:FA 1 (En x) (CF x)=CF x++b7 1 AI (AS x):=by
  unfold En b7;split
  ·rw[IC (fun e a=>by
    simp only[CF,List.mem_cons,List.not_mem_nil,or_false]at a;rcases a with rfl|rfl
    ·show((0:Int),DV)≠((1:Int),AI);decide
    ·show((0:Int),DN)≠((1:Int),AI);decide) (by show _/\_;dsimp only;omega)]
   rfl
  ·rw[List.append_nil];rfl
 rw[r,q,f3]
theorem Acr{n d:Nat}(hd:0<d):Dm false n d 1=(2*n+d)/(2*d):=by
 have f:=Nat.div_add_mod n d;have e:=Nat.mod_lt n hd;unfold Dm cJ;simp only[show ¬((1:Int)=4) by decide,show ¬((1:Int)=3) by decide,show ¬((1:Int)=2) by decide,if_false,if_true,decide_eq_true_eq];generalize hq:n/d=q at*;generalize hr:n % d=r at*;have b:q*(2*d)=2*(d*q):=by rw[Nat.mul_left_comm,Nat.mul_comm q d]
 have a:(q+1)*(2*d)=2*(d*q)+2*d:=by rw[Nat.add_mul,b];omega
 have c:(q+1+1)*(2*d)=2*(d*q)+2*d+2*d:=by rw[Nat.add_mul,a];omega
 by_cases h:d-r≤r
 ·rw[if_pos h];exact(Nat.div_eq_of_lt_le (by rw[a];omega) (by rw[c];omega)).symm
 ·rw[if_neg h];exact(Nat.div_eq_of_lt_le (by rw[Nat.add_zero,b];omega) (by rw[Nat.add_zero,a];omega)).symm
def Kf(g m:Nat):Nat:=(2*(g*m)+1000000)/2000000
theorem Wa{g m:Nat}(h:m≤1000000):Kf g m≤g:=by
 unfold Kf;have:=Nat.mul_le_mul_left g h;omega
def Eo(g m:Int):Int:=(Kf g.toNat m.toNat:Int)
theorem Aei{g m:Int}(e:0≤g/\g≤1125899906842624)(d:0≤m/\m≤1000000):bX g m 1=(Eo g m,0):=by
 have c:=Wa (g:=g.toNat) (m:=m.toNat) (by omega)
 have a:Ek g m=false:=by
  unfold Ek;rw[Al (show ¬g<0 by omega),Al (show ¬m<0 by omega)];rfl
 have b:Dm (Ek g m) (g.natAbs*m.natAbs) (1000000:Int).toNat 1=Kf g.toNat m.toNat:=by
  rw[a,show(1000000:Int).toNat=1000000 from rfl,Acr (by decide),show g.natAbs=g.toNat by omega,show m.natAbs=m.toNat by omega];rfl
 unfold bX;rw[if_pos ⟨by omega,by omega⟩];unfold Kg;rw[if_neg (show ¬¬(-1125899906842624≤g/\g≤1125899906842624) by omega),if_neg (show ¬((1000000:Int)=0) by decide),if_neg (show ¬((1000000:Int)<0) by decide),if_neg (show ¬((1:Int)<0\/4<(1:Int)) by decide)];rw[b,a,if_neg (show ¬(1125899906842624<Kf g.toNat m.toNat) by omega)];rfl
theorem IE{g m:Int}(b:0≤g)(a:0≤m/\m≤1000000):0≤Eo g m/\Eo g m≤g:=by
 have:=Wa (g:=g.toNat) (m:=m.toNat) (by omega);unfold Eo;omega
theorem Qo{g m:Int}(b:0≤g/\g≤1125899906842624)(a:0≤m/\m≤1000000):GM (g,m,1)=some (Eo g m,0):=by
 rw[Wv (by omega) (by omega),Aei b a]
theorem Gc{S T:Type}{b:S->Option (S⊕T)}{s:S}{t:T}(n:Nat)(h:Dw b n s=some t):iter b s=some t:=Hy.2 ⟨n,h⟩
theorem CL{b β:Type}{x:Option b}{a:b}{f:b->Option β}{r:Option β}(h:x=some a)(c:f a=r):x.bind f=r:=by rw[h];exact c
theorem WX:∀(l pre:List Int),(∀c∈l,0≤c/\c≤1125899906842624)->pre.length+l.length≤1000000->iter N2 (pre++l,((pre++l).length:Int),(pre.length:Int),())=some (.inl ())
 | [],pre,_,hn=>by
  refine aD ?_;unfold N2;dsimp only;have h:decide ((pre.length:Int)<(((pre++ []):List Int).length:Int))=false:=Al (by simp);rw[h,if_neg (by decide)]
 |x::l,pre,hl,hn=>by
  simp only[List.length_cons]at hn;have w1:i64.wrap ((pre.length:Int)+1)=((pre++ [x]).length:Int):=by rw[A7 (by omega) (by omega)];simp
  have h:decide ((pre.length:Int)<(((pre++x::l):List Int).length:Int))=true:=Am (by simp;omega);have e:=WX l (pre++ [x]) (fun c a=>hl c (by simp[a])) (by simp;omega);rw[List.append_assoc,List.singleton_append]at e;refine Eq.trans (aH ?_) e;have d:=hl x (by simp);have b:A4 x=true:=by simp[A4];omega
  unfold N2;dsimp only;simp only[aM,aJ,aN,aL,aK,gM,aR,Bq,aO,Br,Bw,aT,aS,aQ,aP,Bn,Bp,Bs,Bv,Bo,Bu,am];simp only[B4,B5,B6,B7,BA,BB,BC,BE,am,B3,aY,aX,aZ,b3,bs,ms];rw[h,if_pos rfl,Dk,bs,Al (show ¬x<0 by omega),if_neg (by decide),DZ,bs,bs,b,w1];rfl
theorem WW{l:List Int}(a:∀c∈l,0≤c/\c≤1125899906842624)(b:l.length≤1000):KG l=some true:=by
 unfold KG;dsimp only;have e:=WX l [] a (by simp;omega);simp only[List.nil_append,List.length_nil]at e;rw[show((0:Nat):Int)=0 from rfl]at e;rw[e,bs]
theorem Xa{b I W F:Int}(e: -1125899906842624≤b/\b≤1125899906842624)(g:0≤I/\I≤1125899906842624)(f:0≤W/\W≤1125899906842624)(h:0≤F/\F≤1125899906842624):KF (b,I,W,F)=some true:=by
 have d:A4 b=true:=by simp[A4];omega
 unfold KF;dsimp only;simp only[aM,aJ,aN,aL,aK,gM,aR,Bq,aO,Br,Bw,aT,aS,aQ,aP,Bn,Bp,Bs,Bv,Bo,Bu,am];simp only[B4,B5,B6,B7,BA,BB,BC,BE,am,B3,aY,aX,aZ,b3,bs,ms];rw[DZ,bs,d,if_pos rfl,WW (by intro c a;simp only[List.mem_cons,List.not_mem_nil,or_false]at a;rcases a with rfl|rfl|rfl<;>assumption) (by simp)]
set_option maxRecDepth 100000 in
theorem Af6:N3 Az=some true:=by
 unfold N3;dsimp only;exact CL (Gc 10 rfl) rfl
theorem Af8{w f ce:Int}(b:0≤w/\w≤655350)(d:0≤f/\f≤655350)(e:0≤ce/\ce≤4294967295):N4 (Az,w,f,ce)=some 0:=by
 unfold N4;dsimp only;simp only[aM,aJ,aN,aL,aK,gM,aR,Bq,aO,Br,Bw,aT,aS,aQ,aP,Bn,Bp,Bs,Bv,Bo,Bu,am];simp only[B4,B5,B6,B7,BA,BB,BC,BE,am,B3,aY,aX,aZ,b3,bs,ms];rw[Af6,bs,if_neg (by decide),Al (show ¬w<0 by omega),Al (show ¬w>1000000 by omega),Al (show ¬f<0 by omega),Al (show ¬f>1000000 by omega)];rw[WW (by intro c a;simp only[List.mem_cons,List.not_mem_nil,or_false]at a;subst a;omega) (by simp)];rfl
def Fm(ce b:Int):Int:=if ce>0 then min b ce else b
def BZ(ce b I:Int):Int:=max (Fm ce b-I) 0
theorem Af7{b I W F w f ce g:Int}(s: -1099511627776≤b/\b≤1099511627776)(r: -8589934592≤g/\g≤8589934592)(v:0≤I/\I≤1099511627776)(t:0≤W/\W≤I)(x:0≤F/\F≤I)
  (c:0≤w/\w≤655350) (d:0≤f/\f≤655350) (l:0≤ce/\ce≤4294967295):
  IR ((b,I,W,F),(Az,w,f,ce),g)=some ((b+g,I+BZ ce (b+g) I,W+Eo (BZ ce (b+g) I) w,F+Eo (BZ ce (b+g) I) f),0):=by
 have e:0≤BZ ce (b+g) I/\BZ ce (b+g) I≤1108101562368:=by unfold BZ Fm;split<;>omega
 have j:=IE (g:=BZ ce (b+g) I) (m:=w) e.1 ⟨c.1,by omega⟩;have k:=IE (g:=BZ ce (b+g) I) (m:=f) e.1 ⟨d.1,by omega⟩;have o:A4 g=true:=by simp[A4];omega
 unfold IR;dsimp only;simp only[aM,aJ,aN,aL,aK,gM,aR,Bq,aO,Br,Bw,aT,aS,aQ,aP,Bn,Bp,Bs,Bv,Bo,Bu,am];simp only[B4,B5,B6,B7,BA,BB,BC,BE,am,B3,aY,aX,aZ,b3,bs,ms];rw[Xa (by omega) (by omega) (by omega) (by omega),bs,if_neg (by decide),Af8 c d l,bs,if_neg (by decide),DZ,bs,o,if_neg (by decide)];have w1:i64.wrap (b+g)=b+g:=A7 (by omega) (by omega);refine(CL (a:=(Fm ce (b+g),b,I,W,F,Az,w,f,ce,0,0,0,0,b+g,I,W,F,(),(),(),(),(),(),(),(),())) ?_ rfl).trans ?_
 ·rw[w1];unfold Fm;by_cases h:ce>0
  ·rw[Am h,if_pos rfl,if_pos h]
  ·rw[Al h,if_neg (by decide),if_neg h]
 ·dsimp only;have i:i64.wrap (Fm ce (b+g)-I)=Fm ce (b+g)-I:=A7 (by unfold Fm;split<;>omega) (by unfold Fm;split<;>omega);rw[i];have q:max (Fm ce (b+g)-I) 0=BZ ce (b+g) I:=rfl;rw[q,show min (BZ ce (b+g) I) 1125899906842624=BZ ce (b+g) I by omega,Qo (by omega) ⟨c.1,by omega⟩,bs,Qo (by omega) ⟨d.1,by omega⟩,bs];dsimp only;rw[A7 (n:=I+BZ ce (b+g) I) (by omega) (by omega),A7 (n:=W+Eo (BZ ce (b+g) I) w) (by omega) (by omega),A7 (n:=F+Eo (BZ ce (b+g) I) f) (by omega) (by omega)];rw[Xa (by omega) (by omega) (by omega) (by omega)];rfl
def cE(m:MS):Prop:=m= []\/∃v,m= [(Az,v)]
def zS:Int×Int×Int×Int:=AL (.agg (.cons (.int .i64) (.cons (.int .i64) (.cons (.int .i64) (.one (.int .i64))))))
def Av(m:MS):Int×Int×Int×Int:=(AP (aj .str) zS Az m).1
theorem Acm:Av []=(0,0,0,0):=rfl
theorem Mf{v:Int×Int×Int×Int}:Av [(Az,v)]=v:=by
 unfold Av;show(if aj Ty.str Az Az=true then(v,true)else _).1=v;rw[(cC Az Az).2 rfl,if_pos rfl]
theorem Afb{m:MS}{v:Int×Int×Int×Int}(h:cE m):Bk (aj .str) Az v m= [(Az,v)]:=by
 rcases h with rfl|⟨u,rfl⟩
 ·rfl
 ·show(if aj Ty.str Az Az=true then _ else _)=_;rw[(cC Az Az).2 rfl,if_pos rfl]
def Dj(k:List UInt8)(c:Int):List It:=if c=0 then []else [(k,c)]
theorem WZ{k:List UInt8}{c:Int}:HJ ((),k,c)=some (Dj k c):=by
 unfold HJ Dj;dsimp only;by_cases h:c=0
 ·rw[if_pos (by simpa using h),if_pos h]
 ·rw[if_neg (by simpa using h),if_neg h,if_pos ⟨by show((1:Nat):Int)*24≤_;decide,by show((1:Nat):Int)≤_;decide⟩,bs]
def Cu(x:Mo)(v:Int×Int×Int×Int):Int×Int×Int×Int:=
 (v.1+(x.S+x.B),v.2.1+BZ x.ce (v.1+(x.S+x.B)) v.2.1,v.2.2.1+Eo (BZ x.ce (v.1+(x.S+x.B)) v.2.1) x.w,v.2.2.2+Eo (BZ x.ce (v.1+(x.S+x.B)) v.2.1) x.f)
structure cF (v:Int×Int×Int×Int):Prop where
 b: -1000000000000≤v.1/\v.1≤1000000000000
 I:0≤v.2.1/\v.2.1≤1000000000000
 W:0≤v.2.2.1/\v.2.2.1≤v.2.1
 F:0≤v.2.2.2/\v.2.2.2≤v.2.1
def B1(x:Mo)(v:Int×Int×Int×Int):Int:=Eo (BZ x.ce (v.1+(x.S+x.B)) v.2.1) x.w
def Cg(x:Mo)(v:Int×Int×Int×Int):Int:=Eo (BZ x.ce (v.1+(x.S+x.B)) v.2.1) x.f
theorem Wb{x:Mo}{v:Int×Int×Int×Int}(h:BT x)(a:cF v):0≤BZ x.ce (v.1+(x.S+x.B)) v.2.1/\BZ x.ce (v.1+(x.S+x.B)) v.2.1≤1010000000000:=by
 have d:=h.S;have f:=h.B;have c:=a.b;have e:=a.I;unfold BZ Fm;split<;>omega
theorem QU{x:Mo}{v:Int×Int×Int×Int}(h:BT x)(b:cF v):(0≤B1 x v/\B1 x v≤1010000000000)/\0≤Cg x v/\Cg x v≤1010000000000:=by
 have a:=Wb h b;have d:=IE (g:=BZ x.ce (v.1+(x.S+x.B)) v.2.1) (m:=x.w) a.1 ⟨h.w.1,by have:=h.w;omega⟩;have c:=IE (g:=BZ x.ce (v.1+(x.S+x.B)) v.2.1) (m:=x.f) a.1 ⟨h.f.1,by have:=h.f;omega⟩;unfold B1 Cg;omega
theorem Af4{so:MS}{x:Mo}(h:BT x)(r:cE so)(g:cF (Av so)):
  Nz (so,x.S+x.B,[(Az,x.w,x.f,x.ce)])=some ([(Az,Cu x (Av so))],Dj Az (B1 x (Av so)),Dj Az (Cg x (Av so)),0):=by
 have G:=h.S;have K:=h.B;have q:=QU h g;have H:=g.I;have E:=g.W;have J:=g.F;have D:=g.b
 have k:IR (((Av so).1,(Av so).2.1,(Av so).2.2.1,(Av so).2.2.2),(Az,x.w,x.f,x.ce),x.S+x.B)=some (Cu x (Av so),0):=by
  rw[Af7 (by omega) (by omega) (by omega) (by omega) (by omega) h.w h.f h.ce];rfl
 have key:∀c:MS,cE c->
   (Option.bind (show Option (((List ((List UInt8)×Int))×(List ((List UInt8)×Int))×(List ((List UInt8)×(Int×Int×Int×Int)))×(Unit)×Unit)⊕((List ((List UInt8)×(Int×Int×Int×Int)))×(List ((List UInt8)×Int))×(List ((List UInt8)×Int))×Int))from(
    Option.bind (Option.bind (N0 (so,x.S+x.B,(),[(Az,x.w,x.f,x.ce)],(([(Az,x.w,x.f,x.ce)]:List (List UInt8×Int×Int×Int)).length:Int),(0:Int),c,[],(),(),(),(),())) fun w=>match w with|Sum.inl s=>iter N1 s|Sum.inr o=>some o) fun o=>
    match o with
    |Sum.inl p1=>some (Sum.inl (p1.1,p1.2.1,p1.2.2.1,(),()))
    |Sum.inr q2=>some (Sum.inr q2))) fun o=>
   match o with
   |Sum.inl p3=>some (p3.2.2.1,p3.1,p3.2.1,(0:Int))
   |Sum.inr q4=>some q4)=some ([(Az,Cu x (Av so))],Dj Az (B1 x (Av so)),Dj Az (Cg x (Av so)),0):=by
  intro c t
  have A:N0 (so,x.S+x.B,(),[(Az,x.w,x.f,x.ce)],(([(Az,x.w,x.f,x.ce)]:List (List UInt8×Int×Int×Int)).length:Int),(0:Int),c,[],(),(),(),(),())=
    some (.inl (so,x.S+x.B,Dj Az (B1 x (Av so)),Dj Az (Cg x (Av so)),(),[(Az,x.w,x.f,x.ce)],1,1,[(Az,Cu x (Av so))],[(Az,true)],(),(),())):=by
   unfold N0;dsimp only;rw[show decide ((0:Int)<(([(Az,x.w,x.f,x.ce)]:List (List UInt8×Int×Int×Int)).length:Int))=true from rfl,if_pos rfl];rw[show(ap [(Az,x.w,x.f,x.ce)] (0:Int))=some (Az,x.w,x.f,x.ce)from rfl];simp only[Option.map_some,Option.bind_some];rw[show(AP (aj Ty.str) (AL Ty.bool) Az []).1=false from rfl,if_neg (by decide)];have d:=k;unfold Av zS at d;rw[d,bs,if_neg (show ¬((0:Int) !=0)=true by decide)]
   change(Option.bind (HJ ((),Az,i64.wrap ((Cu x (Av so)).2.2.1-(Av so).2.2.1))) fun j=>Option.bind (HJ ((),Az,i64.wrap ((Cu x (Av so)).2.2.2-(Av so).2.2.2))) fun i=>
    some (Sum.inl (so,x.S+x.B,j,i,(),[(Az,x.w,x.f,x.ce)],1,i64.wrap (0+1),Bk (aj .str) Az (Cu x (Av so)) c,[(Az,true)],(),(),())))=_
   have m:(Cu x (Av so)).2.2.1-(Av so).2.2.1=B1 x (Av so):=by unfold Cu B1;dsimp only;omega
   have l:(Cu x (Av so)).2.2.2-(Av so).2.2.2=Cg x (Av so):=by unfold Cu Cg;dsimp only;omega
   rw[m,l,A7 (by omega) (by omega),A7 (by omega) (by omega),WZ,bs,WZ,bs,Afb t];rfl
  have y:iter N1 (so,x.S+x.B,Dj Az (B1 x (Av so)),Dj Az (Cg x (Av so)),(),[(Az,x.w,x.f,x.ce)],1,1,[(Az,Cu x (Av so))],[(Az,true)],(),(),())=some (.inl (Dj Az (B1 x (Av so)),Dj Az (Cg x (Av so)),[(Az,Cu x (Av so))],(),())):=by
   refine aD ?_;unfold N1;dsimp only;rfl
  rw[A,bs];dsimp only;rw[y];rfl
 unfold Nz;dsimp only;rw[show decide ((([(Az,x.w,x.f,x.ce)]:List (List UInt8×Int×Int×Int)).length:Int)>64)=false from rfl,if_neg (by decide)];refine MQ.2 fun C e=> ?_;rcases r with rfl|⟨v,rfl⟩
 ·have:=e.eq_nil;subst this;refine CL (a:=([],x.S+x.B,[(Az,x.w,x.f,x.ce)],[],[],(),(),())) rfl ?_;exact key [] (.inl rfl)
 ·have:=List.perm_singleton.1 e;subst this;refine CL (a:=([(Az,v)],x.S+x.B,[(Az,x.w,x.f,x.ce)],[(Az,v)],[],(),(),())) rfl ?_;exact key [(Az,v)] (.inr ⟨v,rfl⟩)
theorem Wh{part:Int}{k:List UInt8}{v c:Int}{s:ak}{m:Cr}{g b:Int}{ln:ML}(a:∀e∈ln,e.1≠(part,k))(i: -1000000000000000≤v/\v≤1000000000000000)(j: -1000000000000000≤c/\c≤1000000000000000):
  EC ((),part,Dj k v) (aq s m g b c ln)=some ((),aq s m g b (if part≠0/\part≠6 then c-v else c) (ln++ba part k v)):=by
 rw[Ko (by unfold Dj;split<;>simp)]
 have f:FA part (Dj k v) ln=ln++ba part k v:=by
  unfold Dj ba;split
  ·rw[List.append_nil];rfl
  ·rw[IC a (by show _/\_;dsimp only;omega)];rfl
 have d:GJ part (Dj k v) c=if part≠0/\part≠6 then c-v else c:=by
  unfold Dj;split
  ·rename_i h;subst h;show c=_;split<;>omega
  ·show(if part≠0/\part≠6 then i64.wrap (c-v)else c)=_;rw[A7 (by omega) (by omega)]
 rw[f,d]
theorem Aew{yy ii oo tb tt:Int}{bf:MI}{so:MS}{od:MI}{x:Mo}{y i o b c:Int}{ln:ML}(h:BT x)(q:cE so)(j:cF (Av so))(A: -100000000000000≤c/\c≤100000000000000)(t:∀e∈ln,e.1≠(2,Az))(r:∀e∈ln,e.1≠(6,Az)):
  KQ () (aq (yy,ii,oo,bf,so,tb,tt,od) (x.mon y i o) (x.S+x.B) b c ln)=
   some (0,aq (yy,ii,oo,bf,[(Az,Cu x (Av so))],tb,tt,od) (x.mon y i o) (x.S+x.B) b (c-B1 x (Av so)) (ln++ba 2 Az (B1 x (Av so))++ba 6 Az (Cg x (Av so)))):=by
 have l:=QU h j;have w:=Af4 h q j;have f:=Wh (part:=2) (k:=Az) (v:=B1 x (Av so)) (c:=c) (s:=(yy,ii,oo,bf,[(Az,Cu x (Av so))],tb,tt,od)) (m:=x.mon y i o) (g:=x.S+x.B) (b:=b) (ln:=ln) t (by omega) (by omega)
 have d:=Wh (part:=6) (k:=Az) (v:=Cg x (Av so)) (c:=c-B1 x (Av so)) (s:=(yy,ii,oo,bf,[(Az,Cu x (Av so))],tb,tt,od)) (m:=x.mon y i o) (g:=x.S+x.B) (b:=b) (ln:=ln++ba 2 Az (B1 x (Av so))) (by
  intro e a;rcases List.mem_append.1 a with a|a
  ·exact r e a
  ·unfold ba at a;split at a
   ·cases a
   ·rw[List.mem_singleton]at a;subst a
    show((2:Int),Az)≠((6:Int),Az);decide) (by omega) (by omega)
 rw[if_pos (by decide)]at f;rw[if_neg (by decide)]at d;unfold KQ;dsimp only[aq,Mo.mon]at f d⊢;rw[w,bs,f,bs];dsimp only;rw[d,bs]
theorem IT(c:Int):Gn c=some (A4 c):=by
 unfold Gn A4;dsimp only;simp only[aM,aJ,aN,aL,aK,gM,aR,Bq,aO,Br,Bw,aT,aS,aQ,aP,Bn,Bp,Bs,Bv,Bo,Bu,am];simp only[B4,B5,B6,B7,BA,BB,BC,BE,am,B3,aY,aX,aZ,b3,bs,ms];by_cases h:c≥ -1125899906842624
 ·rw[Am h,if_pos rfl];rfl
 ·rw[Al h,if_neg (by decide)];rfl
theorem X4(c:Int):KI c=some (Ca c):=by
 unfold KI Ca;dsimp only;simp only[aM,aJ,aN,aL,aK,gM,aR,Bq,aO,Br,Bw,aT,aS,aQ,aP,Bn,Bp,Bs,Bv,Bo,Bu,am];simp only[B4,B5,B6,B7,BA,BB,BC,BE,am,B3,aY,aX,aZ,b3,bs,ms];by_cases h:c≥0
 ·rw[Am h,if_pos rfl];rfl
 ·rw[Al h,if_neg (by decide)];rfl
theorem Ym{lo ed hi:Int}(c:0≤lo/\lo≤1000000)(e:1≤ed/\ed≤1125899906842624)(d:0≤hi/\hi≤1000000):band_Check [(0,lo),(ed,hi)]=some 0:=by
 have b:Hd ([(0,lo),(ed,hi)],[(0,lo),(ed,hi)],2,0,())=some (.inl ([(0,lo),(ed,hi)],[(0,lo),(ed,hi)],2,1,())):=by
  unfold Hd;dsimp only;simp only[aM,aJ,aN,aL,aK,gM,aR,Bq,aO,Br,Bw,aT,aS,aQ,aP,Bn,Bp,Bs,Bv,Bo,Bu,am];simp only[B4,B5,B6,B7,BA,BB,BC,BE,am,B3,aY,aX,aZ,b3,bs,ms];rw[show decide ((0:Int)<2)=true from rfl,if_pos rfl,show(ap [((0:Int),lo),(ed,hi)] (0:Int))=some (0,lo)from rfl];simp only[Option.bind_some,beq_self_eq_true,if_true,bne_self_eq_false,Ah,if_false];simp only[show decide ((0:Int)>0)=false from rfl,Ah,if_false,Option.bind_some];simp only[show decide ((0:Int)>1125899906842624)=false by decide,Ah,if_false];rw[Al (show ¬lo<0 by omega),if_neg (by decide),bs,Al (show ¬lo>1000000 by omega)];dsimp only;rw[if_neg (by decide)];rfl
 have a:Hd ([(0,lo),(ed,hi)],[(0,lo),(ed,hi)],2,1,())=some (.inl ([(0,lo),(ed,hi)],[(0,lo),(ed,hi)],2,2,())):=by
  unfold Hd;dsimp only;simp only[aM,aJ,aN,aL,aK,gM,aR,Bq,aO,Br,Bw,aT,aS,aQ,aP,Bn,Bp,Bs,Bv,Bo,Bu,am];simp only[B4,B5,B6,B7,BA,BB,BC,BE,am,B3,aY,aX,aZ,b3,bs,ms];rw[show decide ((1:Int)<2)=true from rfl,if_pos rfl,show(ap [((0:Int),lo),(ed,hi)] (1:Int))=some (ed,hi)from rfl,show i64.wrap (1-1)=0 from rfl,show(ap [((0:Int),lo),(ed,hi)] (0:Int))=some (0,lo)from rfl];simp only[Option.bind_some,show((1:Int)==0)=false from rfl,Ah,if_false,show decide ((1:Int)>0)=true from rfl,if_true];rw[Al (show ¬ed≤0 by omega),if_neg (by decide),Al (show ¬ed>1125899906842624 by omega),if_neg (by decide),Al (show ¬hi<0 by omega),if_neg (by decide),bs,Al (show ¬hi>1000000 by omega)];dsimp only;rw[if_neg (by decide)];rfl
 have s3:Hd ([(0,lo),(ed,hi)],[(0,lo),(ed,hi)],2,2,())=some (.inr (.inl ())):=by
  unfold Hd;dsimp only;rfl
 unfold band_Check;dsimp only;rw[show decide ((([(0,lo),(ed,hi)]:List (Int×Int)).length:Int)>64)=false from rfl,if_neg (by decide),show(([(0,lo),(ed,hi)]:List (Int×Int)).length:Int)=2 from rfl];rw[aH b,aH a,aD s3];rfl
theorem Xv{den:Int}(hd:0<den){p:Int×Int}{n r:Int}:(stepB den p n r).1*den+(stepB den p n r).2=p.1*den+p.2+n*r/\0≤(stepB den p n r).2/\(stepB den p n r).2<den:=by
 unfold stepB;dsimp only;have b:=Int.mul_ediv_add_emod (p.2+n % den*r) den;have a:=Int.mul_ediv_add_emod n den;refine⟨?_,Int.emod_nonneg _ (by omega),Int.emod_lt_of_pos _ hd⟩;have f:n*r=den*(n/den)*r+n % den*r:=by rw[<-Int.add_mul,a]
 have e:(p.1+n/den*r+(p.2+n % den*r)/den)*den=p.1*den+n/den*r*den+(p.2+n % den*r)/den*den:=by rw[Int.add_mul,Int.add_mul]
 have d:n/den*r*den=den*(n/den)*r:=by rw[Int.mul_comm (n/den*r) den,Int.mul_assoc]
 have c:(p.2+n % den*r)/den*den=den*((p.2+n % den*r)/den):=Int.mul_comm _ _;omega
theorem Aga{x i den f r0 r1:Int}(l:0≤x)(o:0≤f*i)(hd:1000000≤den)(g:0≤r0/\r0≤1000000)(e:0≤r1/\r1≤1000000):0≤scaledS x i den f r0 r1/\scaledS x i den f r0 r1≤x+1:=by
 have q0:=Xv (den:=den) (by omega) (p:=(0,0)) (n:=min x (f*i)) (r:=r0);have q1:=Xv (den:=den) (by omega) (p:=stepB den (0,0) (min x (f*i)) r0) (n:=max 0 (x-f*i)) (r:=r1);unfold scaledS;generalize stepB den (0,0) (min x (f*i)) r0=p0 at*;generalize stepB den p0 (max 0 (x-f*i)) r1=p1 at*;have c:0≤min x (f*i):=by omega
 have b:0≤max 0 (x-f*i):=by omega
 have d:min x (f*i)+max 0 (x-f*i)=x:=by omega
 generalize min x (f*i)=n0 at*;generalize max 0 (x-f*i)=n1 at*;have t:n0*r0≤n0*1000000:=Int.mul_le_mul_of_nonneg_left g.2 c;have s:n1*r1≤n1*1000000:=Int.mul_le_mul_of_nonneg_left e.2 b;have j:0≤n0*r0:=Int.mul_nonneg c g.1;have h:0≤n1*r1:=Int.mul_nonneg b e.1;have v:(0:Int)*den=0:=Int.zero_mul _;dsimp only at q0;have m:p1.1*den≤x*1000000:=by omega
 have k:x*1000000≤x*den:=Int.mul_le_mul_of_nonneg_left hd l;have w:p1.1≤x:=Int.le_of_mul_le_mul_right (a:=den) (by omega) (by omega)
 have q:0≤p1.1:=by
  have y: -den<p1.1*den:=by omega
  have: -1<p1.1:=by
   refine Int.lt_of_mul_lt_mul_right (a:=den) ?_ (by omega);omega
  omega
 split<;>omega
def IV(x:Mo)(tb i o:Int):Int:=max 0 (tb*o-x.al*i)
def Dn(x:Mo)(tb i o:Int):Int:=scaledS (IV x tb i o) i (o*1000000) x.ed x.lo x.hi
theorem XG{x:Mo}(h:BT x){tb i o:Int}(a: -1100000000000≤tb/\tb≤1100000000000)(hi:1≤i/\i≤o)(b:o≤26):
  (-28600000000000≤tb*o/\tb*o≤28600000000000)/\(0≤x.al*i/\x.al*i≤111669149696)/\0≤IV x tb i o/\IV x tb i o≤30000000000000:=by
 have f:tb*o≤1100000000000*o:=Int.mul_le_mul_of_nonneg_right a.2 (by omega);have e: -1100000000000*o≤tb*o:=Int.mul_le_mul_of_nonneg_right a.1 (by omega);have d:0≤x.al*i:=Int.mul_nonneg h.al.1 (by omega);have c:x.al*i≤4294967295*i:=Int.mul_le_mul_of_nonneg_right h.al.2 (by omega);unfold IV;omega
theorem QL{x:Mo}(h:BT x){tb i o:Int}(b: -1100000000000≤tb/\tb≤1100000000000)(hi:1≤i/\i≤o)(c:o≤26):0≤Dn x tb i o/\Dn x tb i o≤30000000000001:=by
 have a:=XG h b hi c;have d:=h.lo;have e:=h.hi;have g:=h.ed;have:=Aga (x:=IV x tb i o) (i:=i) (den:=o*1000000) (f:=x.ed) (r0:=x.lo) (r1:=x.hi) a.2.2.1 (Int.mul_nonneg (by omega) (by omega)) (by omega) (by omega) (by omega);unfold Dn;omega
theorem Ah2{x:Mo}(h:BT x){tb i o:Int}(d: -1100000000000≤tb/\tb≤1100000000000)(hi:1≤i/\i≤o)(e:o≤26):
  NE (tb,i,o,x.al,x.ex,[(0,x.lo),(x.ed,x.hi)])=some (Dn x tb i o,0):=by
 have c:=XG h d hi e;have f:=h.al;have hex:=h.ex;have k:=h.lo;have l:=h.hi;have m:=h.ed;have g:A4 tb=true:=by simp[A4];omega
 have r1:Ca x.al=true:=GN.2 (by omega);have b:Ca x.ex=true:=GN.2 (by omega);unfold NE;dsimp only;simp only[aM,aJ,aN,aL,aK,gM,aR,Bq,aO,Br,Bw,aT,aS,aQ,aP,Bn,Bp,Bs,Bv,Bo,Bu,am];simp only[B4,B5,B6,B7,BA,BB,BC,BE,am,B3,aY,aX,aZ,b3,bs,ms];rw[Al (show ¬i<1 by omega),if_neg (by decide),bs,Al (show ¬i>o by omega),if_neg (by decide),bs,Al (show ¬o>400 by omega),if_neg (by decide),IT,bs,g,if_neg (by decide),X4,bs,r1,if_neg (by decide),X4,bs,bs,bs,b];dsimp only;rw[if_neg (by decide)];rw[A7 (n:=tb*o) (by omega) (by omega),A7 (n:=x.al*i) (by omega) (by omega),A7 (n:=tb*o-x.al*i) (by omega) (by omega)]
 have j:band_Scaled (max 0 (tb*o-x.al*i),i,o,[(0,x.lo),(x.ed,x.hi)])=some (Dn x tb i o,0):=by
  unfold band_Scaled;dsimp only;rw[Ym (by omega) (by omega) (by omega),bs];have a:=c.2.2;unfold IV at a;rw[if_pos ⟨rfl,rfl,⟨hi.1,hi.2,by omega⟩,⟨a.1,by omega⟩,⟨by omega,by omega⟩,⟨by omega,by omega⟩,⟨by omega,by omega⟩⟩];rfl
 rw[j];rfl
def Ez(x:Mo)(tb tt b i o:Int):Int:=Dn x (tb+b) i o-tt+x.ex
theorem Ahv{x:Mo}(h:BT x){tb tt b i o:Int}(l: -1000000000000≤tb/\tb≤1000000000000)(d:0≤tt/\tt≤100000000000000)(m: -100000000000≤b/\b≤100000000000)(hi:1≤i/\i≤o)(c:o≤26):
  ND ((tb,tt),b,i,o,x.al,x.ex,[(0,x.lo),(x.ed,x.hi)])=some ((tb+b,Dn x (tb+b) i o),Ez x tb tt b i o,0):=by
 have k:=QL h (tb:=tb+b) (i:=i) (o:=o) (by omega) hi c;have hex:=h.ex;have j:A4 tb=true:=by simp[A4];omega
 have g:A4 tt=true:=by simp[A4];omega
 have f3:A4 b=true:=by simp[A4];omega
 have f:A4 (tb+b)=true:=by simp[A4];omega
 have e:A4 (Dn x (tb+b) i o-tt+x.ex)=true:=by simp[A4];omega
 unfold ND;dsimp only;simp only[aM,aJ,aN,aL,aK,gM,aR,Bq,aO,Br,Bw,aT,aS,aQ,aP,Bn,Bp,Bs,Bv,Bo,Bu,am];simp only[B4,B5,B6,B7,BA,BB,BC,BE,am,B3,aY,aX,aZ,b3,bs,ms];rw[IT,bs,j,if_neg (by decide),IT,bs,bs,g,if_neg (by decide),IT,bs,bs,f3,if_neg (by decide),A7 (n:=tb+b) (by omega) (by omega),IT,bs,f,if_neg (by decide),Ah2 h (by omega) hi c,bs,if_neg (show ¬((0:Int) !=0)=true by decide)];by_cases a:(tb+b==tb&&Dn x (tb+b) i o==tt)=true
 ·rw[if_pos a];simp only[Ag,beq_iff_eq]at a;unfold Ez;rw[a.2,a.1,show tt-tt+x.ex=x.ex by omega]
 ·rw[if_neg a];dsimp only;rw[A7 (n:=Dn x (tb+b) i o-tt) (by omega) (by omega),A7 (n:=Dn x (tb+b) i o-tt+x.ex) (by omega) (by omega),IT,bs,e];rfl
theorem Aex{yy ii oo tb tt:Int}{bf:MI}{so:MS}{od:MI}{x:Mo}{y i o g b c:Int}{ln:ML}(h:BT x)(j: -1000000000000≤tb/\tb≤1000000000000)(d:0≤tt/\tt≤100000000000000)(k: -100000000000≤b/\b≤100000000000)(hi:1≤i/\i≤o)(f:o≤26)(A: -100000000000000≤c/\c≤100000000000000)(q:∀e∈ln,e.1≠(3,DY)):
  KR () (aq (yy,ii,oo,bf,so,tb,tt,od) (x.mon y i o) g b c ln)=
   some (0,aq (yy,ii,oo,bf,so,tb+b,Dn x (tb+b) i o,od) (x.mon y i o) g b (c-Ez x tb tt b i o) (ln++ [((3,DY),Ez x tb tt b i o)])):=by
 have v:=QL h (tb:=tb+b) (i:=i) (o:=o) (by omega) hi f;have hex:=h.ex;have w: -100000000000000≤Ez x tb tt b i o/\Ez x tb tt b i o≤30000000000256:=by unfold Ez;omega
 have t:=Ahv h j d k hi f;have a:=Ko (part:=3) (l:= [(DY,Ez x tb tt b i o)]) (c:=c) (s:=(yy,ii,oo,bf,so,tb+b,Dn x (tb+b) i o,od)) (m:=x.mon y i o) (g:=g) (b:=b) (ln:=ln) (by simp);rw[IC q (by show _/\_;dsimp only;omega)]at a;have r:GJ 3 [(DY,Ez x tb tt b i o)] c=c-Ez x tb tt b i o:=A7 (by omega) (by omega);rw[r]at a;unfold KR;dsimp only[aq,Mo.mon]at a⊢;rw[t,bs];dsimp only;change Option.bind (EC ((),3,[(DY,Ez x tb tt b i o)]) _) _=_;rw[a,bs];rfl
def Ei(k:List UInt8)(v:Int):List It:=if v>0 then [(k,v)]else []
theorem Wj{part:Int}{k:List UInt8}{v c:Int}{s:ak}{m:Cr}{g b:Int}{ln:ML}(d:∀e∈ln,e.1≠(part,k))(a:part≠0/\part≠6)(i: -1000000000000000≤v/\v≤1000000000000000)(j: -1000000000000000≤c/\c≤1000000000000000):
  EC ((),part,Ei k v) (aq s m g b c ln)=some ((),aq s m g b (c-max v 0) (ln++b7 part k v)):=by
 rw[Ko (by unfold Ei;split<;>simp)]
 have h:FA part (Ei k v) ln=ln++b7 part k v:=by
  unfold Ei b7;split
  ·rw[IC d (by show _/\_;dsimp only;omega)];rfl
  ·rw[List.append_nil];rfl
 have f:GJ part (Ei k v) c=c-max v 0:=by
  unfold Ei;split
  ·show(if part≠0/\part≠6 then i64.wrap (c-v)else c)=_;rw[if_pos a,A7 (by omega) (by omega)];omega
  ·show c=_;omega
 rw[h,f]
theorem Aey{s:ak}{x:Mo}{y i o g b c:Int}{ln:ML}(h:BT x)(q: -100000000000000≤c/\c≤100000000000000)(j:∀e∈ln,e.1≠(4,DO)):
  KS () (aq s (x.mon y i o) g b c ln)=some (0,aq s (x.mon y i o) g b (c-max (min x.C c) 0) (ln++b7 4 DO (min x.C c))):=by
 have r:=h.C
 have l:Jd (c,[(DO,x.C)])=some (Ei DO (min x.C c),c-max (min x.C c) 0):=by
  rw[XH (by unfold Ef;omega) (by intro z d;rw[List.mem_singleton]at d;subst d;show Ef x.C;unfold Ef;omega) (by simp)];unfold EE EE Ei;dsimp only;by_cases a:min x.C c>0
  ·rw[if_pos a,if_pos a,show max (min x.C c) 0=min x.C c by omega]
  ·rw[if_neg a,if_neg a,show max (min x.C c) 0=0 by omega,Int.sub_zero]
 have f:=Wj (part:=4) (k:=DO) (v:=min x.C c) (c:=c) (s:=s) (m:=x.mon y i o) (g:=g) (b:=b) (ln:=ln) j (by decide) (by omega) (by omega);unfold KS;dsimp only[aq,Mo.mon]at f⊢;rw[l,bs];dsimp only;rw[f,bs]
theorem XX{c:Int}(b:0≤c/\c≤1125899906842624):Lr c=some false:=by
 have a:A4 c=true:=by simp[A4];omega
 unfold Lr;dsimp only;simp only[aM,aJ,aN,aL,aK,gM,aR,Bq,aO,Br,Bw,aT,aS,aQ,aP,Bn,Bp,Bs,Bv,Bo,Bu,am];simp only[B4,B5,B6,B7,BA,BB,BC,BE,am,B3,aY,aX,aZ,b3,bs,ms];rw[Al (show ¬c<0 by omega),if_neg (by decide),DZ,bs,a];rfl
theorem SK:∀(l pre:List Int),(∀c∈l,0≤c/\c≤1125899906842624)->pre.length+l.length≤1000000->iter Nr (pre++l,(),((pre++l).length:Int),(pre.length:Int),())=some (.inl ())
 | [],pre,_,hn=>by
  refine aD ?_;unfold Nr;dsimp only;have h:decide ((pre.length:Int)<(((pre++ []):List Int).length:Int))=false:=Al (by simp);rw[h,if_neg (by decide)]
 |x::l,pre,hl,hn=>by
  simp only[List.length_cons]at hn;have w1:i64.wrap ((pre.length:Int)+1)=((pre++ [x]).length:Int):=by rw[A7 (by omega) (by omega)];simp
  have h:decide ((pre.length:Int)<(((pre++x::l):List Int).length:Int))=true:=Am (by simp;omega);have e:=SK l (pre++ [x]) (fun c a=>hl c (by simp[a])) (by simp;omega);rw[List.append_assoc,List.singleton_append]at e;refine Eq.trans (aH ?_) e;unfold Nr;dsimp only;rw[h,if_pos rfl,Dk];simp only[Option.map_some,Option.bind_some];rw[XX (hl x (by simp)),bs,if_neg (by decide),w1]
theorem SJ{l:List Int}(a:∀c∈l,0≤c/\c≤1125899906842624)(b:l.length≤1000):Jb l=some true:=by
 have e:=SK l [] a (by simp;omega);simp only[List.nil_append,List.length_nil]at e;rw[show((0:Nat):Int)=0 from rfl]at e;unfold Jb Q9 QA;dsimp only;rw[e,bs];rfl
set_option maxRecDepth 100000 in
theorem Ya:Ls A2=some true:=by
 unfold Ls;dsimp only;exact CL (Gc 10 rfl) rfl
def AY(x:Mo):List UInt8×Int×Int×Int×Int×Int:=(A2,1,x.rt,x.fx,x.pr,x.tt)
theorem XY{x:Mo}(h:BT x):Ln [AY x]=some 0:=by
 have i:=h.rt;have g:=h.fx;have f:=h.pr;have e:=h.tt
 have d:Ja ([AY x],1,0,[],(),())=some (.inl ([AY x],1,1,[(A2,true)],(),())):=by
  unfold Ja;dsimp only;simp only[aM,aJ,aN,aL,aK,gM,aR,Bq,aO,Br,Bw,aT,aS,aQ,aP,Bn,Bp,Bs,Bv,Bo,Bu,am];simp only[B4,B5,B6,B7,BA,BB,BC,BE,am,B3,aY,aX,aZ,b3,bs,ms];rw[show decide ((0:Int)<1)=true from rfl,if_pos rfl,show(ap [AY x] (0:Int))=some (AY x)from rfl,bs];unfold AY;dsimp only;rw[Ya,bs,if_neg (by decide),show decide ((1:Int)<0)=false from rfl,if_neg (by decide),show decide ((1:Int)>99)=false from rfl,bs,if_neg (by decide),Al (show ¬x.rt<0 by omega),bs,if_neg (by decide),Al (show ¬x.rt>1000000 by omega),bs,if_neg (by decide)];rw[SJ (by intro c a;simp only[List.mem_cons,List.not_mem_nil,or_false]at a;rcases a with rfl|rfl|rfl<;>omega) (by simp)];rfl
 have b:Ja ([AY x],1,1,[(A2,true)],(),())=some (.inr (.inl ())):=by
  unfold Ja;dsimp only;rfl
 unfold Ln;dsimp only;rw[show decide ((([AY x]:List (List UInt8×Int×Int×Int×Int×Int)).length:Int)>64)=false from rfl,if_neg (by decide),show(([AY x]:List (List UInt8×Int×Int×Int×Int×Int)).length:Int)=1 from rfl,aH d,aD b];rfl
theorem SM{x:Mo}:Lp [AY x]=some [AY x]:=by
 have c:QB ([AY x],0,1,(),1,())=some (.inr ()):=by
  unfold QB;dsimp only;rfl
 have b:QD ([AY x],1,(),20,0,20,())=some (.inr ([AY x],1,(),20,0,())):=by
  unfold QD;dsimp only;rfl
 have a:QC ([AY x],1,(),20,())=some (.inr ()):=by
  unfold QC;dsimp only;rfl
 have g:KB ([AY x],0,1,())=some ():=by
  unfold KB;dsimp only;rw[show i64.wrap (0+1)=1 from rfl,aD c];rfl
 have f:Nu ([AY x],1,())=some ():=by
  unfold Nu;dsimp only;rw[aD b,bs];dsimp only;rw[g,bs,aD a];rfl
 have e:Nt ([AY x],())=some ():=by
  unfold Nt;dsimp only;rw[show(([AY x]:List (List UInt8×Int×Int×Int×Int×Int)).length:Int)=1 from rfl,f];rfl
 have d:Nq [AY x]=some [AY x]:=by
  unfold Nq;rw[if_pos ⟨by show 1*56≤_;decide,by show 1≤_;decide⟩]
 unfold Lp;dsimp only;rw[d,bs,e];rfl
theorem PP{l:List Int}{m v:Int}{i:Nat}(a:l[i]? =some v)(b:l.length≤1000):KA (l,m,(i:Int),())=some (.inl (l,min m v,((i+1:Nat):Int),())):=by
 unfold KA;dsimp only;rw[PJ a,if_pos rfl,H0 a];have:=(Af.1 a).1;simp only[Option.map_some,Option.bind_some];rw[QT (by omega)]
theorem V4{l:List Int}{m:Int}:KA (l,m,(l.length:Int),())=some (.inr (m,())):=by
 unfold KA;dsimp only;rw[Aeg,if_neg (by decide)]
theorem Ac8(a b:Int):Hc [a,b]=some (min a b):=by
 have c:=PP (l:= [a,b]) (m:=a) (v:=b) (i:=1) rfl (by simp);have d:=V4 (l:= [a,b]) (m:=min a b);unfold Hc Ns;dsimp only;rw[show decide ((([a,b]:List Int).length:Int)<1)=false from rfl,if_neg (by decide),show(ap [a,b] (0:Int))=some a from rfl];simp only[Option.map_some,Option.bind_some];rw[show((1:Nat):Int)=1 from rfl]at c;rw[show((1+1:Nat):Int)=((([a,b]:List Int).length:Nat):Int)from rfl]at c;rw[aH c,aD d];rfl
theorem Ac9(a b c:Int):Hc [a,b,c]=some (min (min a b) c):=by
 have e:=PP (l:= [a,b,c]) (m:=a) (v:=b) (i:=1) rfl (by simp);have d:=PP (l:= [a,b,c]) (m:=min a b) (v:=c) (i:=2) rfl (by simp);have s3:=V4 (l:= [a,b,c]) (m:=min (min a b) c);unfold Hc Ns;dsimp only;rw[show decide ((([a,b,c]:List Int).length:Int)<1)=false from rfl,if_neg (by decide),show(ap [a,b,c] (0:Int))=some a from rfl];simp only[Option.map_some,Option.bind_some];rw[show((1:Nat):Int)=1 from rfl]at e;rw[show((2+1:Nat):Int)=((([a,b,c]:List Int).length:Nat):Int)from rfl]at d;rw[aH e,aH d,aD s3];rfl
def NP(x:Mo)(c:Int):Int:=if x.fx=0 then Eo (max c 0) x.rt else x.fx
def Nh(x:Mo)(p:Int):Int:=if x.tt=0 then 1125899906842624 else if x.tt<max p 0 then 0 else min (x.tt-max p 0) 1125899906842624
def BV(x:Mo)(c p:Int):Int:=max (min (min (NP x c) (Nh x p)) (c-x.pr)) 0
theorem Yb{x:Mo}{c:Int}(h:BT x)(b: -100000000000000≤c/\c≤100000000000000):Lt (c,AY x)=some (NP x c):=by
 have d:=h.rt;unfold Lt NP AY;dsimp only;by_cases a:x.fx=0
 ·rw[if_pos a,a,if_neg (by decide),Qo (by omega) (by omega)];rfl
 ·rw[if_neg a,if_pos (by simpa using a)]
theorem XZ{x:Mo}{od:MI}(h:BT x)(c:0≤Au A2 od/\Au A2 od≤1000000000000000):Lo (od,AY x)=some (Nh x (Au A2 od)):=by
 have d:=h.tt;unfold Lo Nh AY;dsimp only;rw[fM];by_cases b:x.tt=0
 ·rw[if_pos b,b,if_pos (show((0:Int)==0)=true from rfl)]
 ·rw[if_neg b,if_neg (by simpa using b)];by_cases a:x.tt<max (Au A2 od) 0
  ·rw[if_pos a,Am a,if_pos rfl]
  ·rw[if_neg a,Al a,if_neg (by decide),A7 (by omega) (by omega),Ac8];rfl
theorem OD{x:Mo}{c p:Int}(h:BT x)(a: -100000000000000≤c/\c≤30010000000000):0≤BV x c p/\BV x c p≤30010000000000:=by
 have:=h.pr;unfold BV;omega
theorem Yk{x:Mo}{od:MI}{c:Int}(h:BT x)(m:cd A2 od)(l:0≤Au A2 od/\Au A2 od≤1000000000000000)(q: -100000000000000≤c/\c≤30010000000000):
  Lq (c,od,[AY x])=some (Ei A2 (BV x c (Au A2 od)),[(A2,Au A2 od+BV x c (Au A2 od))],0):=by
 have B:=OD (p:=Au A2 od) h q;have k:=h.pr;have s:A4 c=true:=by simp[A4];omega
 have r:A4 (Au A2 od+BV x c (Au A2 od))=true:=by simp[A4];omega
 have key:∀b:MI,cd A2 b->iter HW (c,od,c,[AY x],(([AY x]:List (List UInt8×Int×Int×Int×Int×Int)).length:Int),(0:Int),b,([]:List It),(),(),())=
   some (.inl ([(A2,Au A2 od+BV x c (Au A2 od))],Ei A2 (BV x c (Au A2 od)),(),(),())):=by
  intro b o
  have j:HW (c,od,c,[AY x],(([AY x]:List (List UInt8×Int×Int×Int×Int×Int)).length:Int),(0:Int),b,([]:List It),(),(),())=
    some (.inl (c,od,c-BV x c (Au A2 od),[AY x],1,1,[(A2,Au A2 od+BV x c (Au A2 od))],Ei A2 (BV x c (Au A2 od)),(),(),())):=by
   unfold HW;dsimp only;simp only[aM,aJ,aN,aL,aK,gM,aR,Bq,aO,Br,Bw,aT,aS,aQ,aP,Bn,Bp,Bs,Bv,Bo,Bu,am];simp only[B4,B5,B6,B7,BA,BB,BC,BE,am,B3,aY,aX,aZ,b3,bs,ms];rw[show decide ((0:Int)<(([AY x]:List (List UInt8×Int×Int×Int×Int×Int)).length:Int))=true from rfl,if_pos rfl,show(ap [AY x] (0:Int))=some (AY x)from rfl,bs];have t:∀f:(List UInt8×Int×Int×Int×Int×Int),f=(f.1,f.2.1,f.2.2.1,f.2.2.2.1,f.2.2.2.2.1,f.2.2.2.2.2):=fun f=>rfl;rw[<-t (AY x)];have y:(AY x).1=A2:=rfl;have w:(AY x).2.2.2.2.1=x.pr:=rfl;rw[y,w,fM,SJ (by intro z g;rw[List.mem_singleton]at g;subst g;omega) (by simp),bs,if_neg (by decide),Yb h (by omega),bs,XZ h l,bs,A7 (n:=c-x.pr) (by omega) (by omega),Ac9,bs];rw[show max (min (min (NP x c) (Nh x (Au A2 od))) (c-x.pr)) 0=BV x c (Au A2 od)from rfl];rw[A7 (n:=Au A2 od+BV x c (Au A2 od)) (by omega) (by omega),DZ,bs,r,if_neg (by decide),fP,Wi o,A7 (n:=c-BV x c (Au A2 od)) (by omega) (by omega)];unfold Ei;by_cases e:BV x c (Au A2 od)>0
   ·rw[Am e,if_pos rfl,if_pos e,if_pos ⟨by show(((0:Nat):Int)+((1:Nat):Int))*24≤_;decide,by show((0:Nat):Int)+((1:Nat):Int)≤_;decide⟩];rfl
   ·rw[Al e,if_neg (by decide),if_neg e];rfl
  have i:HW (c,od,c-BV x c (Au A2 od),[AY x],1,1,[(A2,Au A2 od+BV x c (Au A2 od))],Ei A2 (BV x c (Au A2 od)),(),(),())=some (.inr (.inl ([(A2,Au A2 od+BV x c (Au A2 od))],Ei A2 (BV x c (Au A2 od)),(),(),()))):=by
   unfold HW;dsimp only;rfl
  rw[aH j,aD i]
 unfold Lq;dsimp only;rw[DZ,bs,s,if_neg (by decide),XY h,bs,if_neg (by decide)];refine MQ.2 fun A d=> ?_;rcases m with rfl|⟨v,rfl⟩
 ·have:=d.eq_nil;subst this;refine CL (a:=(c,[],[AY x],[],(),())) rfl ?_;dsimp only;rw[SM,bs,key [] (.inl rfl)];rfl
 ·have:=List.perm_singleton.1 d;subst this;refine CL (a:=(c,[(A2,v)],[AY x],[(A2,v)],(),())) rfl ?_;dsimp only;rw[SM,bs,key [(A2,v)] (.inr ⟨v,rfl⟩)];rfl
theorem Aez{yy ii oo tb tt:Int}{bf:MI}{so:MS}{od:MI}{x:Mo}{y i o g b c:Int}{ln:ML}(h:BT x)(l:cd A2 od)(j:0≤Au A2 od/\Au A2 od≤1000000000000000)(d: -100000000000000≤c/\c≤30010000000000)(q:∀e∈ln,e.1≠(5,A2)):
  KU () (aq (yy,ii,oo,bf,so,tb,tt,od) (x.mon y i o) g b c ln)=
   some (0,aq (yy,ii,oo,bf,so,tb,tt,[(A2,Au A2 od+BV x c (Au A2 od))]) (x.mon y i o) g b (c-BV x c (Au A2 od)) (ln++b7 5 A2 (BV x c (Au A2 od)))):=by
 have r:=OD (p:=Au A2 od) h d;have f:=Yk h l j d;have a:=Wj (part:=5) (k:=A2) (v:=BV x c (Au A2 od)) (c:=c) (s:=(yy,ii,oo,bf,so,tb,tt,[(A2,Au A2 od+BV x c (Au A2 od))])) (m:=x.mon y i o) (g:=g) (b:=b) (ln:=ln) q (by decide) (by omega) (by omega);rw[show max (BV x c (Au A2 od)) 0=BV x c (Au A2 od) by omega]at a;unfold KU;dsimp only[aq,Mo.mon,AY]at f a⊢;rw[f,bs];dsimp only;rw[a,bs]
end WB
namespace WB
open Go Go.RowKit Go.Sort Go.Proofs
abbrev aI:=Int×List UInt8×Int
def cmpI(x y:Int):Int:=if x<y then-1 else if y<x then 1 else 0
def cmpT(x y:List UInt8):Int:=if sLess x y then-1 else if !(sLess x y||x==y)then 1 else 0
def cmpL(x y:aI):Int:=if cmpI x.1 y.1=0 then cmpT x.2.1 y.2.1 else cmpI x.1 y.1
theorem Q3:∀(x y:List UInt8),sLess x y=decide (x<y)
 | [],[]=>by simp[sLess,Op.bytesLess]
 |_::_,[]=>by simp[sLess,Op.bytesLess]
 | [],_::_=>by simp[sLess,Op.bytesLess]
 |a::x,b::y=>by
  have e:=Q3 x y;unfold sLess at e⊢;simp only[Op.bytesLess,List.cons_lt_cons_iff];by_cases d:a<b
  ·simp[d]
  ·by_cases c:a=b
   ·subst c;simp[e]
   ·have:b<a:=by
     rcases UInt8.lt_or_lt_of_ne c with h|h
     ·exact absurd h d
     ·exact h
    simp[d,c,this]
theorem YL(x y:Int):Jp (x,y)=some (cmpI x y):=by
 unfold Jp LA cmpI;dsimp only;simp only[bne_self_eq_false,Option.bind_some,Ah,if_false,decide_eq_true_eq];by_cases a:x<y
 ·rw[if_pos a,if_pos a]
 ·rw[if_neg a,if_neg a];by_cases b:y<x
  ·rw[if_pos b,if_pos b]
  ·rw[if_neg (by omega),if_neg b]
theorem YM(x y:List UInt8):Jq (x,y)=some (cmpT x y):=by
 unfold Jq LB cmpT;dsimp only;simp only[beq_self_eq_true,Bool.not_true,Option.bind_some,Ah,if_false];split
 ·rfl
 ·split<;>rfl
theorem VV{p q m:Int}{i:Nat}{l:List Int}(a:l[i]? =some m)(b:l.length≤1000):Js (0,l,(l.length:Int),(i:Int),())=some (if m=0 then .inl (0,l,(l.length:Int),((i+1:Nat):Int),())else .inr (.inr m)):=by
 unfold Js;dsimp only;rw[PJ a,if_pos rfl,H0 a];have:=(Af.1 a).1;simp only[Option.map_some,Option.bind_some];by_cases h:m=0
 ·rw[if_pos h,if_neg (by simp[h]),QT (by omega)]
 ·rw[if_neg h,if_pos (by simpa using h)]
theorem Aes(p q:Int):Jr [p,q]=some (if p=0 then q else p):=by
 have a:=VV (p:=p) (q:=q) (l:= [p,q]) (m:=p) (i:=0) rfl (by simp);have b:=VV (p:=p) (q:=q) (l:= [p,q]) (m:=q) (i:=1) rfl (by simp)
 have s3:Js (0,[p,q],(([p,q]:List Int).length:Int),((2:Nat):Int),())=some (.inr (.inl (0,()))):=by
  unfold Js;dsimp only;rfl
 unfold Jr;dsimp only;rw[show((0:Nat):Int)=0 from rfl]at a;by_cases d:p=0
 ·rw[if_pos d]at a⊢;by_cases c:q=0
  ·rw[if_pos c]at b;rw[aH a,aH b,aD s3,c];rfl
  ·rw[if_neg c]at b;rw[aH a,aD b];rfl
 ·rw[if_neg d]at a⊢;rw[aD a];rfl
theorem slip1_eq(x y:aI):year_stepping_slip_1 (x,y)=some (cmpL x y):=by
 unfold year_stepping_slip_1 cmpL;dsimp only;rw[YL,bs,YM,bs,Aes,bs]
def E2(x y:aI):Prop:=x.1<y.1\/x.1=y.1/\x.2.1<y.2.1
theorem YN(x y:List UInt8):cmpT x y<0<->x<y:=by
 unfold cmpT;rw[Q3];by_cases h:x<y
 ·simp[h]
 ·simp only[h,decide_false,Ah,if_false,iff_false];split<;>omega
theorem I1(x y:aI):ltOf cmpL x y=true<->E2 x y:=by
 unfold ltOf cmpL E2 cmpI;rw[decide_eq_true_eq];by_cases a:x.1<y.1
 ·simp[a]
 ·by_cases c:y.1<x.1
  ·simp only[a,if_false,c,if_true,show ¬((1:Int)=0) by decide,false_or];constructor
   ·intro h;omega
   ·rintro⟨h,_⟩;omega
  ·have b:x.1=y.1:=by omega
   rw[b];simp only[Int.lt_irrefl,if_false,if_true,false_or,true_and];exact YN _ _
theorem lnLt_swo:SWO (ltOf cmpL) where
 irrefl x:=by
  cases h:ltOf cmpL x x with
  |false=>rfl
  |true=>
   rcases(I1 x x).1 h with h|⟨_,h⟩
   ·omega
   ·exact absurd h (List.lt_irrefl _)
 trans x y z h1 h2:=by
  rw[I1]at*;rcases h1 with h1|⟨h1,g1⟩<;>rcases h2 with h2|⟨h2,g2⟩
  ·exact .inl (by omega)
  ·exact .inl (by omega)
  ·exact .inl (by omega)
  ·exact .inr ⟨by omega,List.lt_trans g1 g2⟩
 ntrans x y z h1 h2:=by
  have a:¬E2 x y:=fun h=>by rw[(I1 x y).2 h]at h1;cases h1
  have k2:¬E2 y z:=fun h=>by rw[(I1 y z).2 h]at h2;cases h2
  cases h:ltOf cmpL x z with
  |false=>rfl
  |true=>
   exfalso;unfold E2 at a k2;have e:¬x.1<y.1:=fun h=>a (.inl h);have d:¬y.1<z.1:=fun h=>k2 (.inl h);rcases(I1 x z).1 h with h|⟨h,g⟩
   ·omega
   ·have i:x.1=y.1:=by omega
    have f:y.1=z.1:=by omega
    have c:¬x.2.1<y.2.1:=fun h=>a (.inr ⟨i,h⟩);have b:¬y.2.1<z.2.1:=fun h=>k2 (.inr ⟨f,h⟩);exact List.le_trans (List.not_lt.1 b) (List.not_lt.1 c) g
def BG(m:ML):List aI:=m.flatMap fun e=>if e.2=0 then []else [(e.1.1,e.1.2,e.2)]
theorem Mr(a b:ML):BG (a++b)=BG a++BG b:=by unfold BG;rw[List.flatMap_append]
theorem Adk{a b:ML}(h:a.Perm b):(BG a).Perm (BG b):=h.flatMap_right _
abbrev SlT:=Int×Int×Int×Int×Int×Int×Int×MI×MS×Int×Int×MI×Int×Int×Int×List It×List It×List It×List (List UInt8×Int×Int)×List (List UInt8×Int×Int×Int)×Int×Int×List (Int×Int)×List (List UInt8×Int×Int×Int×Int×Int)×ML×Int×Int×Int×List aI×Unit×Unit×Unit×Unit×Unit×Unit×Unit×Unit
def cj(s:ak)(m:Cr)(g b l:Int)(ln:ML)(a:List aI):SlT:=
 (0,0,m.1,m.2.1,s.1,s.2.1,s.2.2.1,s.2.2.2.1,s.2.2.2.2.1,s.2.2.2.2.2.1,s.2.2.2.2.2.2.1,s.2.2.2.2.2.2.2,m.1,m.2.1,m.2.2.1,m.2.2.2.1,m.2.2.2.2.1,m.2.2.2.2.2.1,m.2.2.2.2.2.2.1,m.2.2.2.2.2.2.2.1,m.2.2.2.2.2.2.2.2.1,m.2.2.2.2.2.2.2.2.2.1,m.2.2.2.2.2.2.2.2.2.2.1,m.2.2.2.2.2.2.2.2.2.2.2,ln,g,b,l,a,(),(),(),(),(),(),(),())
abbrev XT:=Int×Int×Int×MI×MS×Int×Int×MI×Int×Int×Int×List It×List It×List It×List (List UInt8×Int×Int)×List (List UInt8×Int×Int×Int)×Int×Int×List (Int×Int)×List (List UInt8×Int×Int×Int×Int×Int)×Int×Int×Int×ML×Unit×Unit
def d7(s:ak)(m:Cr)(g b c:Int)(ln:ML):XT:=(s.1,s.2.1,s.2.2.1,s.2.2.2.1,s.2.2.2.2.1,s.2.2.2.2.2.1,s.2.2.2.2.2.2.1,s.2.2.2.2.2.2.2,m.1,m.2.1,m.2.2.1,m.2.2.2.1,m.2.2.2.2.1,m.2.2.2.2.2.1,m.2.2.2.2.2.2.1,m.2.2.2.2.2.2.2.1,m.2.2.2.2.2.2.2.2.1,m.2.2.2.2.2.2.2.2.2.1,m.2.2.2.2.2.2.2.2.2.2.1,m.2.2.2.2.2.2.2.2.2.2.2,g,b,c,ln,(),())
theorem Xo{s:ak}{m:Cr}{g b c:Int}{ln:ML}:∀(d:ML) (a:List aI),(∀e∈d,A4 e.2=true)->a.length+d.length≤100000->
  ER NZ QX d (cj s m g b c ln a)=some (.inl (cj s m g b c ln (a++BG d)))
 | [],a,_,_=>by
  unfold ER QX;dsimp only[cj];simp only[BG,List.flatMap_nil,List.append_nil];rfl
 |e::d,a,hf,hn=>by
  simp only[List.length_cons]at hn
  have h:NZ e (cj s m g b c ln a)=some (.inl (cj s m g b c ln (a++BG [e]))):=by
   unfold NZ;dsimp only[cj];rw[DZ,bs,hf e (by simp),if_neg (by decide)];by_cases f:e.2=0
   ·rw[if_neg (by simp[f])];simp only[BG,List.flatMap_cons,List.flatMap_nil,if_pos f,List.append_nil]
   ·rw[if_pos (by simpa using f)];simp only[BG,List.flatMap_cons,List.flatMap_nil,if_neg f,List.append_nil];rw[Ov (by simp;omega) (by decide),bs]
  unfold ER;rw[h,bs];dsimp only
  rw[Xo d (a++BG [e]) (fun j i=>hf j (by simp[i])) (by
   have:(BG [e]).length≤1:=by unfold BG;simp only[List.flatMap_cons,List.flatMap_nil,List.append_nil];split<;>simp
   simp only[List.length_append];omega)]
  rw[List.append_assoc,<-Mr];rfl
theorem Agw{s:ak}{m:Cr}{g b c:Int}{ln:ML}{L:List aI}(l:∀e∈ln,A4 e.2=true)(w:ln.length≤1000)(k:(BG ln).Perm L)(q:L.Pairwise E2):
  NY () (d7 s m g b c ln)=some (((m.1,m.2.1,L),0),d7 s m g b c ln):=by
 unfold NY;dsimp only[d7];refine MQ.2 fun f a=> ?_;have j:=Xo (s:=s) (m:=m) (g:=g) (b:=b) (c:=c) (ln:=ln) f [] (fun e o=>l e (a.subset o)) (by rw[a.length_eq];simp;omega);rw[List.nil_append]at j
 have t:srt_144_145 (BG f)=some L:=by
  have i:(fun x y:aI=>(year_stepping_slip_1 (x,y)).getD 0)=cmpL:=by
   funext x y;rw[slip1_eq];rfl
  have d:(BG f).length<4611686018427387904:=by
   have:∀m:ML,(BG m).length≤m.length:=by
    intro m
    induction m with
    |nil=>simp[BG]
    |cons e m ih=>
     have v:BG (e::m)=BG [e]++BG m:=by rw[<-Mr];rfl
     have:(BG [e]).length≤1:=by unfold BG;simp only[List.flatMap_cons,List.flatMap_nil,List.append_nil];split<;>simp
     rw[v,List.length_append,List.length_cons];omega
   have r:=this f;rw[a.length_eq]at r;omega
  unfold srt_144_145;rw[if_pos d]
  congr 1
  rw[i];exact Ag4 lnLt_swo ((Adk a).trans k) (q.imp fun h=>(I1 _ _).2 h)
 refine CL j ?_;dsimp only[cj];rw[t,bs]
theorem Hl{k:List UInt8}(f:(k== [])=false)(e:(k== [45])=false)(d:decide ((k.length:Int)>32)=false)(c:k.length≤70368744177664)
  (a:iter Xn (k.map (fun b=>(b.toNat:Int)),((k.map fun b=>(b.toNat:Int)).length:Int),0,())=some (.inl ())):E9 k=some true:=by
 unfold E9;dsimp only;simp only[aM,aJ,aN,aL,aK,gM,aR,Bq,aO,Br,Bw,aT,aS,aQ,aP,Bn,Bp,Bs,Bv,Bo,Bu,am];simp only[B4,B5,B6,B7,BA,BB,BC,BE,am,B3,aY,aX,aZ,b3,bs,ms];rw[f,if_neg (by decide),bs,e,if_neg (by decide),bs,d,if_neg (by decide),if_pos c,a];rfl
set_option maxRecDepth 100000 in
theorem YS:E9 DV=some true:=Hl rfl rfl rfl (by show 6≤70368744177664;decide) (Gc 10 rfl)
set_option maxRecDepth 100000 in
theorem YO:E9 DN=some true:=Hl rfl rfl rfl (by show 5≤70368744177664;decide) (Gc 10 rfl)
set_option maxRecDepth 100000 in
theorem YR:E9 AI=some true:=Hl rfl rfl rfl (by show 7≤70368744177664;decide) (Gc 10 rfl)
set_option maxRecDepth 100000 in
theorem T1:E9 Az=some true:=Hl rfl rfl rfl (by show 6≤70368744177664;decide) (Gc 10 rfl)
set_option maxRecDepth 100000 in
theorem YT:E9 DY=some true:=Hl rfl rfl rfl (by show 3≤70368744177664;decide) (Gc 10 rfl)
set_option maxRecDepth 100000 in
theorem YP:E9 DO=some true:=Hl rfl rfl rfl (by show 4≤70368744177664;decide) (Gc 10 rfl)
set_option maxRecDepth 100000 in
theorem YQ:E9 A2=some true:=Hl rfl rfl rfl (by show 5≤70368744177664;decide) (Gc 10 rfl)
def H1(x:aI):Prop:=(0≤x.1/\x.1<7)/\E9 x.2.1=some true/\x.2.2≠0/\A4 x.2.2=true
theorem Adf{x:aI}(h:H1 x):Nx x=some 0:=by
 obtain⟨d,c,b,a⟩:=h;unfold Nx;dsimp only;simp only[aM,aJ,aN,aL,aK,gM,aR,Bq,aO,Br,Bw,aT,aS,aQ,aP,Bn,Bp,Bs,Bv,Bo,Bu,am];simp only[B4,B5,B6,B7,BA,BB,BC,BE,am,B3,aY,aX,aZ,b3,bs,ms];rw[Al (show ¬x.1<0 by omega),if_neg (by decide),Al (show ¬x.1≥7 by omega),bs,if_neg (by decide),c,bs,if_neg (by decide),if_neg (by simpa using b),DZ,bs,a];rfl
theorem Add{x y:aI}(h:E2 x y):Nw (x,y)=some true:=by
 unfold Nw;dsimp only;simp only[aM,aJ,aN,aL,aK,gM,aR,Bq,aO,Br,Bw,aT,aS,aQ,aP,Bn,Bp,Bs,Bv,Bo,Bu,am];simp only[B4,B5,B6,B7,BA,BB,BC,BE,am,B3,aY,aX,aZ,b3,bs,ms];rcases h with h|⟨h1,h2⟩
 ·rw[Am h,if_pos rfl]
 ·rw[Al (show ¬x.1<y.1 by omega),if_neg (by decide),if_pos (by simpa using h1),Q3,Am h2]
theorem Tr{y i:Int}:∀(l pre:List aI),(∀x∈pre++l,H1 x)->(pre++l).Pairwise E2->pre.length+l.length≤448->
  iter Nv (pre++l,((pre++l).length:Int),(pre.length:Int),y,i,pre++l,(),(),())=some (.inl ())
 | [],pre,_,_,hn=>by
  refine aD ?_;unfold Nv;dsimp only;have h:decide ((pre.length:Int)<(((pre++ []):List aI).length:Int))=false:=Al (by simp);rw[h,if_neg (by decide)]
 |x::l,pre,hk,hp,hn=>by
  simp only[List.length_cons]at hn;have w1:i64.wrap ((pre.length:Int)+1)=((pre++ [x]).length:Int):=by rw[A7 (by omega) (by omega)];simp
  have h:decide ((pre.length:Int)<(((pre++x::l):List aI).length:Int))=true:=Am (by simp;omega);have e:=Tr (y:=y) (i:=i) l (pre++ [x]) (by rw[List.append_assoc];exact hk) (by rw[List.append_assoc];exact hp) (by simp;omega);rw[List.append_assoc,List.singleton_append]at e;refine Eq.trans (aH ?_) e;unfold Nv;dsimp only;simp only[aM,aJ,aN,aL,aK,gM,aR,Bq,aO,Br,Bw,aT,aS,aQ,aP,Bn,Bp,Bs,Bv,Bo,Bu,am];simp only[B4,B5,B6,B7,BA,BB,BC,BE,am,B3,aY,aX,aZ,b3,bs,ms];rw[h,if_pos rfl,Dk,bs];have d:∀f:aI,(f.1,f.2.1,f.2.2)=f:=fun f=>rfl;rw[d x,Adf (hk x (by simp)),bs,if_neg (by decide)];rcases List.eq_nil_or_concat pre with rfl|⟨q,z,rfl⟩
  ·rw[if_pos (by rfl),bs];dsimp only;rw[w1]
  ·rw[List.concat_eq_append]at*;have k:(((q++ [z]).length:Nat):Int)=(q.length:Int)+1:=by simp
   have a:E2 z x:=by
    rw[List.append_assoc,List.singleton_append]at hp;have c:=(List.pairwise_append.1 hp).2.1;exact(List.pairwise_cons.1 c).1 x (by simp)
   have j:(((q++ [z]).length:Nat):Int)-1=(q.length:Int):=by omega
   have g:ap (q++ [z]++x::l) (i64.wrap ((((q++ [z]).length:Nat):Int)-1))=some z:=by
    rw[j,A7 (by omega) (by omega),List.append_assoc,List.singleton_append];exact Dk
   rw[if_neg (by simp;omega),g,bs,d z,Add a]
   have b:(if(z.1==x.1)=true then some (z.2.1==x.2.1)else some false)=some false:=by
    rcases a with a|⟨c,h2⟩
    ·rw[if_neg (by simp;omega)]
    ·rw[if_pos (by simpa using c)]
     congr 1
     rw[beq_eq_false_iff_ne];intro e;rw[e]at h2;exact List.lt_irrefl _ h2
   rw[b,bs,if_neg (by decide),bs,if_neg (by decide),bs];dsimp only;rw[w1]
theorem Tq{y i:Int}{l:List aI}(c:1900≤y/\y≤2199)(hi:1≤i/\i≤400)(b:∀x∈l,H1 x)(a:l.Pairwise E2)(d:l.length≤448):KC (y,i,l)=some 0:=by
 have e:=Tr (y:=y) (i:=i) l [] b a (by simp;omega);simp only[List.nil_append,List.length_nil]at e;rw[show((0:Nat):Int)=0 from rfl]at e;unfold KC;dsimp only;simp only[aM,aJ,aN,aL,aK,gM,aR,Bq,aO,Br,Bw,aT,aS,aQ,aP,Bn,Bp,Bs,Bv,Bo,Bu,am];simp only[B4,B5,B6,B7,BA,BB,BC,BE,am,B3,aY,aX,aZ,b3,bs,ms];rw[Al (show ¬y<1900 by omega),if_neg (by decide),bs,Al (show ¬y>2199 by omega),if_neg (by decide),Al (show ¬i<1 by omega),if_neg (by decide),bs,bs,Al (show ¬i>400 by omega)];dsimp only;rw[if_neg (by decide),Al (show ¬(l.length:Int)>448 by omega),if_neg (by decide),e,bs]
theorem Ai8(s:List UInt8):QW s=some (C5 s):=by
 rw[<-JW];rfl
theorem UX{least:Int}:∀(l pre:List It),(∀x∈l,C5 x.1=true/\least≤x.2/\A4 x.2=true)->pre.length+l.length≤1000000->iter NV (least,pre++l,((pre++l).length:Int),(pre.length:Int),())=some (.inl ())
 | [],pre,_,hn=>by
  refine aD ?_;unfold NV;dsimp only;have h:decide ((pre.length:Int)<(((pre++ []):List It).length:Int))=false:=Al (by simp);rw[h,if_neg (by decide)]
 |x::l,pre,hl,hn=>by
  simp only[List.length_cons]at hn;have w1:i64.wrap ((pre.length:Int)+1)=((pre++ [x]).length:Int):=by rw[A7 (by omega) (by omega)];simp
  have h:decide ((pre.length:Int)<(((pre++x::l):List It).length:Int))=true:=Am (by simp;omega);have e:=UX (least:=least) l (pre++ [x]) (fun c a=>hl c (by simp[a])) (by simp;omega);rw[List.append_assoc,List.singleton_append]at e;refine Eq.trans (aH ?_) e;obtain⟨d,f,b⟩:=hl x (by simp);unfold NV;dsimp only;simp only[aM,aJ,aN,aL,aK,gM,aR,Bq,aO,Br,Bw,aT,aS,aQ,aP,Bn,Bp,Bs,Bv,Bo,Bu,am];rw[h,if_pos rfl,Dk,bs,Ai8,bs,d,if_neg (by decide),Al (show ¬x.2<least by omega),if_neg (by decide),DZ,bs,bs,b];dsimp only;rw[if_neg (by decide),w1]
theorem UW{least:Int}{l:List It}(a:∀x∈l,C5 x.1=true/\least≤x.2/\A4 x.2=true)(b:l.length≤64):KM (l,least)=some 0:=by
 have e:=UX l [] a (by simp;omega);simp only[List.nil_append,List.length_nil]at e;rw[show((0:Nat):Int)=0 from rfl]at e;unfold KM;dsimp only;rw[Al (show ¬(l.length:Int)>64 by omega),if_neg (by decide),e,bs]
theorem ZR(h g f e d c:Bool){β:Type}(F:Bool->Option β):((Option.bind (if h=true then some g else some false) fun b=>(if b=true then some f else some false).bind fun a=>(if a=true then some true else(if e=true then some d else some false).bind fun z=>if z=true then some c else some false).bind F))=F ((h&&g&&f)||(e&&d&&c)):=by
 cases h<;>cases g<;>cases f<;>cases e<;>cases d<;>cases c<;>rfl
def cG(yy ii oo y i o:Int):Prop:=ii≤0\/(yy=y/\oo=o/\ii+1=i)\/(ii=oo/\yy+1=y/\i=1)
theorem Agb{yy ii oo tb tt y i o:Int}{bf:MI}{so:MS}{od:MI}{x:Mo}(h:BT x)(k:2024≤y/\y≤2100)(hi:1≤i/\i≤o)(l:o≤26)(e:cG yy ii oo y i o)(f:0≤yy/\yy≤3000)(g:0≤ii/\ii≤3000):
  NU ((yy,ii,oo,bf,so,tb,tt,od),x.mon y i o)=some 0:=by
 have m:=h.S;have r:=h.B;have q:=h.C;unfold NU;dsimp only[Mo.mon];simp only[aM,aJ,aN,aL,aK,gM,aR,Bq,aO,Br,Bw,aT,aS,aQ,aP,Bn,Bp,Bs,Bv,Bo,Bu,am];simp only[B4,B5,B6,B7,BA,BB,BC,BE,am,B3,aY,aX,aZ,b3,bs,ms];rw[A7 (n:=ii+1) (by omega) (by omega),A7 (n:=yy+1) (by omega) (by omega)];rw[ZR];rw[Al (show ¬y<1900 by omega),if_neg (by decide),Al (show ¬y>2199 by omega),if_neg (by decide),Al (show ¬o<1 by omega),if_neg (by decide),Al (show ¬o>400 by omega),if_neg (by decide),Al (show ¬i<1 by omega),if_neg (by decide),Al (show ¬i>o by omega),bs];dsimp only;rw[if_neg (by decide)]
 have j:(if decide (ii>0)=true then some (!((yy==y&&oo==o&&ii+1==i)||(ii==oo&&yy+1==y&&i==1)))else some false)=some false:=by
  rcases e with e|⟨a,b,c⟩|⟨a,b,c⟩
  ·rw[Al (show ¬ii>0 by omega),if_neg (by decide)]
  ·rw[show(yy==y&&oo==o&&ii+1==i)=true by simp[a,b,c]];split<;>simp
  ·rw[show(ii==oo&&yy+1==y&&i==1)=true by simp[a,b,c]];split<;>simp
 rw[j,bs,if_neg (by decide)]
 rw[UW (by
  intro z d;simp only[List.mem_cons,List.not_mem_nil,or_false]at d;rcases d with rfl|rfl
  ·exact⟨by show C5 DV=true;decide,by show _≤x.S;omega,by simp[A4];omega⟩
  ·exact⟨by show C5 DN=true;decide,by show _≤x.B;omega,by simp[A4];omega⟩) (by simp),bs,if_neg (by decide)]
 rw[UW (by
  intro z d;simp only[List.mem_cons,List.not_mem_nil,or_false]at d;subst d
  exact⟨by show C5 DO=true;decide,by show _≤x.C;omega,by simp[A4];omega⟩) (by simp)]
abbrev PT:=Unit⊕(Unit⊕(Unit⊕(Unit⊕(Unit⊕Unit))))
def GG:List PT:= [.inl (),.inr (.inl ()),.inr (.inr (.inl ())),.inr (.inr (.inr (.inl ()))),.inr (.inr (.inr (.inr (.inl ())))),.inr (.inr (.inr (.inr (.inr ()))))]
abbrev LsT:=Int×List PT×Int×Int×Int×Int×Int×MI×MS×Int×Int×MI×Int×Int×Int×Int×Int×Int×Int×Int×Int×Int×MI×MS×Int×Int×MI×Int×Int×Int×List It×List It×List It×List (List UInt8×Int×Int)×List (List UInt8×Int×Int×Int)×Int×Int×List (Int×Int)×List (List UInt8×Int×Int×Int×Int×Int)×Int×Int×Int×ML×Unit×Unit×Unit×Unit×Unit×Unit×Unit×Unit×Unit×Unit×Unit×Unit×Unit×Unit
def CJ(j:Int)(s:ak)(t:Lf):LsT:=(0,GG,6,j,s.1,s.2.1,s.2.2.1,s.2.2.2.1,s.2.2.2.2.1,s.2.2.2.2.2.1,s.2.2.2.2.2.2.1,s.2.2.2.2.2.2.2,(0:Int),(0:Int),(0:Int),(0:Int),(0:Int),(0:Int),(0:Int),t.1,t.2.1,t.2.2.1,t.2.2.2.1,t.2.2.2.2.1,t.2.2.2.2.2.1,t.2.2.2.2.2.2.1,t.2.2.2.2.2.2.2.1,t.2.2.2.2.2.2.2.2.1,t.2.2.2.2.2.2.2.2.2.1,t.2.2.2.2.2.2.2.2.2.2.1,t.2.2.2.2.2.2.2.2.2.2.2.1,t.2.2.2.2.2.2.2.2.2.2.2.2.1,t.2.2.2.2.2.2.2.2.2.2.2.2.2.1,t.2.2.2.2.2.2.2.2.2.2.2.2.2.2.1,t.2.2.2.2.2.2.2.2.2.2.2.2.2.2.2.1,t.2.2.2.2.2.2.2.2.2.2.2.2.2.2.2.2.1,t.2.2.2.2.2.2.2.2.2.2.2.2.2.2.2.2.2.1,t.2.2.2.2.2.2.2.2.2.2.2.2.2.2.2.2.2.2.1,t.2.2.2.2.2.2.2.2.2.2.2.2.2.2.2.2.2.2.2.1,t.2.2.2.2.2.2.2.2.2.2.2.2.2.2.2.2.2.2.2.2.1,t.2.2.2.2.2.2.2.2.2.2.2.2.2.2.2.2.2.2.2.2.2.1,t.2.2.2.2.2.2.2.2.2.2.2.2.2.2.2.2.2.2.2.2.2.2.1,t.2.2.2.2.2.2.2.2.2.2.2.2.2.2.2.2.2.2.2.2.2.2.2.1,(),(),(),(),(),(),(),(),(),(),(),(),(),())
abbrev LeT:=Int×Int×Int×Int×MI×MS×Int×Int×MI×Int×Int×Int×Int×Int×Int×Int×Int×Int×Int×MI×MS×Int×Int×MI×Int×Int×Int×List It×List It×List It×List (List UInt8×Int×Int)×List (List UInt8×Int×Int×Int)×Int×Int×List (Int×Int)×List (List UInt8×Int×Int×Int×Int×Int)×Int×Int×Int×ML×Unit×Unit×Unit×Unit×Unit×Unit×Unit×Unit×Unit×Unit×Unit×Unit×Unit×Unit
def Vj(s:ak)(t:Lf):LeT:=(0,s.1,s.2.1,s.2.2.1,s.2.2.2.1,s.2.2.2.2.1,s.2.2.2.2.2.1,s.2.2.2.2.2.2.1,s.2.2.2.2.2.2.2,(0:Int),(0:Int),(0:Int),(0:Int),(0:Int),(0:Int),(0:Int),t.1,t.2.1,t.2.2.1,t.2.2.2.1,t.2.2.2.2.1,t.2.2.2.2.2.1,t.2.2.2.2.2.2.1,t.2.2.2.2.2.2.2.1,t.2.2.2.2.2.2.2.2.1,t.2.2.2.2.2.2.2.2.2.1,t.2.2.2.2.2.2.2.2.2.2.1,t.2.2.2.2.2.2.2.2.2.2.2.1,t.2.2.2.2.2.2.2.2.2.2.2.2.1,t.2.2.2.2.2.2.2.2.2.2.2.2.2.1,t.2.2.2.2.2.2.2.2.2.2.2.2.2.2.1,t.2.2.2.2.2.2.2.2.2.2.2.2.2.2.2.1,t.2.2.2.2.2.2.2.2.2.2.2.2.2.2.2.2.1,t.2.2.2.2.2.2.2.2.2.2.2.2.2.2.2.2.2.1,t.2.2.2.2.2.2.2.2.2.2.2.2.2.2.2.2.2.2.1,t.2.2.2.2.2.2.2.2.2.2.2.2.2.2.2.2.2.2.2.1,t.2.2.2.2.2.2.2.2.2.2.2.2.2.2.2.2.2.2.2.2.1,t.2.2.2.2.2.2.2.2.2.2.2.2.2.2.2.2.2.2.2.2.2.1,t.2.2.2.2.2.2.2.2.2.2.2.2.2.2.2.2.2.2.2.2.2.2.1,t.2.2.2.2.2.2.2.2.2.2.2.2.2.2.2.2.2.2.2.2.2.2.2.1,(),(),(),(),(),(),(),(),(),(),(),(),(),())
theorem Agn{s e d:ak}{m:Cr}{g b c f j i:Int}{ln a:ML}(h:KN () (aq e m g b c ln)=some (0,aq d m f j i a)):
  DI (CJ 0 s (aq e m g b c ln))=some (.inl (CJ 1 s (aq d m f j i a))):=by
 unfold DI;dsimp only[CJ,aq]at h⊢;rw[show decide ((0:Int)<6)=true from rfl,if_pos rfl,show(ap GG (0:Int))=some (.inl ())from rfl];simp only[Option.map_some,Option.bind_some];rw[if_neg (show ¬((0:Int) !=0)=true by decide)];try dsimp only
 rw[h,bs];rfl
theorem Ago{s e d:ak}{m:Cr}{g b c f j i:Int}{ln a:ML}(h:KO () (aq e m g b c ln)=some (0,aq d m f j i a)):
  DI (CJ 1 s (aq e m g b c ln))=some (.inl (CJ 2 s (aq d m f j i a))):=by
 unfold DI;dsimp only[CJ,aq]at h⊢;rw[show decide ((1:Int)<6)=true from rfl,if_pos rfl,show(ap GG (1:Int))=some (.inr (.inl ()))from rfl];simp only[Option.map_some,Option.bind_some];rw[if_neg (show ¬((0:Int) !=0)=true by decide)];try dsimp only
 rw[h,bs];rfl
theorem Agp{s e d:ak}{m:Cr}{g b c f j i:Int}{ln a:ML}(h:KQ () (aq e m g b c ln)=some (0,aq d m f j i a)):
  DI (CJ 2 s (aq e m g b c ln))=some (.inl (CJ 3 s (aq d m f j i a))):=by
 unfold DI;dsimp only[CJ,aq]at h⊢;rw[show decide ((2:Int)<6)=true from rfl,if_pos rfl,show(ap GG (2:Int))=some (.inr (.inr (.inl ())))from rfl];simp only[Option.map_some,Option.bind_some];rw[if_neg (show ¬((0:Int) !=0)=true by decide)];try dsimp only
 rw[h,bs];rfl
theorem Agq{s e d:ak}{m:Cr}{g b c f j i:Int}{ln a:ML}(h:KR () (aq e m g b c ln)=some (0,aq d m f j i a)):
  DI (CJ 3 s (aq e m g b c ln))=some (.inl (CJ 4 s (aq d m f j i a))):=by
 unfold DI;dsimp only[CJ,aq]at h⊢;rw[show decide ((3:Int)<6)=true from rfl,if_pos rfl,show(ap GG (3:Int))=some (.inr (.inr (.inr (.inl ()))))from rfl];simp only[Option.map_some,Option.bind_some];rw[if_neg (show ¬((0:Int) !=0)=true by decide)];try dsimp only
 rw[h,bs];rfl
theorem Agr{s e d:ak}{m:Cr}{g b c f j i:Int}{ln a:ML}(h:KS () (aq e m g b c ln)=some (0,aq d m f j i a)):
  DI (CJ 4 s (aq e m g b c ln))=some (.inl (CJ 5 s (aq d m f j i a))):=by
 unfold DI;dsimp only[CJ,aq]at h⊢;rw[show decide ((4:Int)<6)=true from rfl,if_pos rfl,show(ap GG (4:Int))=some (.inr (.inr (.inr (.inr (.inl ())))))from rfl];simp only[Option.map_some,Option.bind_some];rw[if_neg (show ¬((0:Int) !=0)=true by decide)];try dsimp only
 rw[h,bs];rfl
theorem Ags{s e d:ak}{m:Cr}{g b c f j i:Int}{ln a:ML}(h:KU () (aq e m g b c ln)=some (0,aq d m f j i a)):
  DI (CJ 5 s (aq e m g b c ln))=some (.inl (CJ 6 s (aq d m f j i a))):=by
 unfold DI;dsimp only[CJ,aq]at h⊢;rw[show decide ((5:Int)<6)=true from rfl,if_pos rfl,show(ap GG (5:Int))=some (.inr (.inr (.inr (.inr (.inr ())))))from rfl];simp only[Option.map_some,Option.bind_some];rw[if_neg (show ¬((0:Int) !=0)=true by decide)];try dsimp only
 rw[h,bs];rfl
theorem Agt{s:ak}{t:Lf}:DI (CJ 6 s t)=some (.inr (Vj s t)):=by
 unfold DI;dsimp only[CJ];rw[show decide ((6:Int)<6)=false from rfl,if_neg (by decide)];rfl
theorem Ae1{s:ak}{m:Cr}{g b c:Int}{ln:ML}:NW () (aq s m g b c ln)=some (GG,aq s m g b c ln):=by
 unfold NW;dsimp only[aq];rfl
def bI(s:ak)(y:Int):MI:=if s.1=y then s.2.2.2.1 else []
def an(s:ak)(y:Int):MS:=if s.1=y then s.2.2.2.2.1 else []
def C8(s:ak)(y:Int):Int:=if s.1=y then s.2.2.2.2.2.1 else 0
def EX(s:ak)(y:Int):Int:=if s.1=y then s.2.2.2.2.2.2.1 else 0
def bU(s:ak):MI:=s.2.2.2.2.2.2.2
def Cb(x:Mo):Int:=x.S+x.B-AS x
def CU(s:ak)(x:Mo)(y i o:Int):Int:=Ez x (C8 s y) (EX s y) (Cb x) i o
def E1(s:ak)(x:Mo)(y i o:Int):Int:=Cb x-B1 x (Av (an s y))-CU s x y i o
def Ec(s:ak)(x:Mo)(y i o:Int):Int:=max (min x.C (E1 s x y i o)) 0
def D9(s:ak)(x:Mo)(y i o:Int):Int:=E1 s x y i o-Ec s x y i o
def Cd(s:ak)(x:Mo)(y i o:Int):Int:=BV x (D9 s x y i o) (Au A2 (bU s))
def I6(s:ak)(x:Mo)(y i o:Int):ak:=
 (y,i,o,[(AI,Au AI (bI s y)+AS x)],[(Az,Cu x (Av (an s y)))],C8 s y+Cb x,Dn x (C8 s y+Cb x) i o,[(A2,Au A2 (bU s)+Cd s x y i o)])
def aW(p:Int)(k:List UInt8)(v:Int):List aI:=if v=0 then []else [(p,k,v)]
def BW(s:ak)(x:Mo)(y i o:Int):List aI:=
 aW 0 DN x.B++aW 0 DV x.S++aW 1 AI (AS x)++aW 2 Az (B1 x (Av (an s y)))++aW 3 DY (CU s x y i o)++aW 4 DO (Ec s x y i o)++aW 5 A2 (Cd s x y i o)++aW 6 Az (Cg x (Av (an s y)))
structure bx (n:Int) (s:ak):Prop where
 yy:0≤s.1/\s.1≤2100
 ii:0≤s.2.1/\s.2.1≤26
 bf:cd AI s.2.2.2.1
 bv:0≤Au AI s.2.2.2.1/\Au AI s.2.2.2.1≤n*1048576
 so:cE s.2.2.2.2.1
 sb: -(n*8589934592)≤(Av s.2.2.2.2.1).1/\(Av s.2.2.2.2.1).1≤n*8589934592
 sI:0≤(Av s.2.2.2.2.1).2.1/\(Av s.2.2.2.2.1).2.1≤n*8589934592
 sW:0≤(Av s.2.2.2.2.1).2.2.1/\(Av s.2.2.2.2.1).2.2.1≤(Av s.2.2.2.2.1).2.1
 sF:0≤(Av s.2.2.2.2.1).2.2.2/\(Av s.2.2.2.2.1).2.2.2≤(Av s.2.2.2.2.1).2.1
 tb: -(n*8589934592)≤s.2.2.2.2.2.1/\s.2.2.2.2.2.1≤n*8589934592
 tt:0≤s.2.2.2.2.2.2.1/\s.2.2.2.2.2.2.1≤30000000000001
 od:cd A2 s.2.2.2.2.2.2.2
 ov:0≤Au A2 s.2.2.2.2.2.2.2/\Au A2 s.2.2.2.2.2.2.2≤n*30010000000000
theorem bx.zero:bx 0 (0,0,0,[],[],0,0,[]):=by
 refine⟨by decide,by decide,.inl rfl, ?_,.inl rfl, ?_, ?_, ?_, ?_,by decide,by decide,.inl rfl, ?_⟩<;>decide
structure StJ (n:Int) (s:ak) (y:Int):Prop where
 bf:cd AI (bI s y)
 bv:0≤Au AI (bI s y)/\Au AI (bI s y)≤n*1048576
 so:cE (an s y)
 sb: -(n*8589934592)≤(Av (an s y)).1/\(Av (an s y)).1≤n*8589934592
 sI:0≤(Av (an s y)).2.1/\(Av (an s y)).2.1≤n*8589934592
 sW:0≤(Av (an s y)).2.2.1/\(Av (an s y)).2.2.1≤(Av (an s y)).2.1
 sF:0≤(Av (an s y)).2.2.2/\(Av (an s y)).2.2.2≤(Av (an s y)).2.1
 tb: -(n*8589934592)≤C8 s y/\C8 s y≤n*8589934592
 tt:0≤EX s y/\EX s y≤30000000000001
theorem bx.at{n:Int}{s:ak}(h:bx n s)(a:0≤n)(y:Int):StJ n s y:=by
 by_cases e:s.1=y
 ·refine⟨?_, ?_, ?_, ?_, ?_, ?_, ?_, ?_, ?_⟩<;>simp only[bI,an,C8,EX,if_pos e]
  ·exact h.bf
  ·exact h.bv
  ·exact h.so
  ·exact h.sb
  ·exact h.sI
  ·exact h.sW
  ·exact h.sF
  ·exact h.tb
  ·exact h.tt
 ·refine⟨?_, ?_, ?_, ?_, ?_, ?_, ?_, ?_, ?_⟩<;>simp only[bI,an,C8,EX,if_neg e]
  ·exact .inl rfl
  ·rw[JB];omega
  ·exact .inl rfl
  all_goals(try rw[Acm]);(try dsimp only);omega
structure KV (s:ak) (x:Mo) (y i o:Int):Prop where
 H:cF (Av (an s y))
 pre:0≤AS x/\AS x≤1048575
 base: -4296015871≤Cb x/\Cb x≤4294967294
 work:0≤B1 x (Av (an s y))/\B1 x (Av (an s y))≤1010000000000
 firm:0≤Cg x (Av (an s y))/\Cg x (Av (an s y))≤1010000000000
 tax:0≤Dn x (C8 s y+Cb x) i o/\Dn x (C8 s y+Cb x) i o≤30000000000001
 held: -30000000000001≤CU s x y i o/\CU s x y i o≤30000000000256
 l3: -32000000000000≤E1 s x y i o/\E1 s x y i o≤30004294967295
 club:0≤Ec s x y i o/\Ec s x y i o≤65535
 l4: -33000000000000≤D9 s x y i o/\D9 s x y i o≤30004294967295
 court:0≤Cd s x y i o/\Cd s x y i o≤30010000000000
theorem IY{n:Int}{s:ak}{x:Mo}{y i o:Int}(h:bx n s)(v:0≤n/\n≤31)(a:BT x)(hi:1≤i/\i≤o)(t:o≤26):KV s x y i o:=by
 have j:=h.at v.1 y;have w:=a.S;have E:=a.B;have A:=a.P;have D:=a.C;have hex:=a.ex;have m:cF (Av (an s y)):=⟨by have:=j.sb;omega,by have:=j.sI;omega,j.sW,j.sF⟩;have l:=Ql a;have c: -4296015871≤Cb x/\Cb x≤4294967294:=by unfold Cb;omega
 have k:=QU a m;have r:=j.tb;have q:=j.tt;have d:=QL a (tb:=C8 s y+Cb x) (i:=i) (o:=o) (by omega) hi t;have b: -30000000000001≤CU s x y i o/\CU s x y i o≤30000000000256:=by unfold CU Ez;omega
 have f: -32000000000000≤E1 s x y i o/\E1 s x y i o≤30004294967295:=by unfold E1;omega
 have g:0≤Ec s x y i o/\Ec s x y i o≤65535:=by unfold Ec;omega
 have e: -33000000000000≤D9 s x y i o/\D9 s x y i o≤30004294967295:=by unfold D9;omega
 exact⟨m,by omega,c,k.1,k.2,d,b,f,g,e,OD a (by omega)⟩
theorem PB{p:Int}{k:List UInt8}{v:Int}:∀e∈b7 p k v,e.1.1=p:=by
 intro e a;unfold b7 at a;split at a
 ·rw[List.mem_singleton]at a;subst a;rfl
 ·cases a
theorem Vn{p:Int}{k:List UInt8}{v:Int}:∀e∈ba p k v,e.1.1=p:=by
 intro e a;unfold ba at a;split at a
 ·cases a
 ·rw[List.mem_singleton]at a;subst a;rfl
theorem UL{x:Mo}:∀e∈CF x,e.1.1=0:=by
 intro e a;simp only[CF,List.mem_cons,List.not_mem_nil,or_false]at a;rcases a with rfl|rfl<;>rfl
theorem Kh{ln:ML}{p:Int}{k:List UInt8}(h:∀e∈ln,e.1.1≠p):∀e∈ln,e.1≠(p,k):=fun e b a=>h e b (by rw[a])
def Hb(s:ak)(x:Mo)(y i o:Int):ML:=
 CF x++b7 1 AI (AS x)++ba 2 Az (B1 x (Av (an s y)))++ba 6 Az (Cg x (Av (an s y)))++ [((3,DY),CU s x y i o)]++b7 4 DO (min x.C (E1 s x y i o))++b7 5 A2 (Cd s x y i o)
theorem Adi{p:Int}{k:List UInt8}{v:Int}:BG (ba p k v)=aW p k v:=by
 unfold ba aW;by_cases h:v=0
 ·rw[if_pos h,if_pos h];rfl
 ·rw[if_neg h,if_neg h];simp[BG,h]
theorem Ms{p:Int}{k:List UInt8}{v:Int}:BG [((p,k),v)]=aW p k v:=by
 unfold aW;by_cases h:v=0<;>simp[BG,h]
theorem Adj{p:Int}{k:List UInt8}{v:Int}:BG (b7 p k v)=aW p k (max v 0):=by
 unfold b7;by_cases h:v>0
 ·rw[if_pos h,Ms,show max v 0=v by omega]
 ·rw[if_neg h,show max v 0=0 by omega];rfl
theorem Adh{s:ak}{x:Mo}{y i o:Int}(h:KV s x y i o):(BG (Hb s x y i o)).Perm (BW s x y i o):=by
 have e:=h.pre;have f:=h.court;unfold Hb BW
 have d:BG (CF x)=aW 0 DV x.S++aW 0 DN x.B:=by
  show BG ([((0,DV),x.S)]++ [((0,DN),x.B)])=_;rw[Mr,Ms,Ms]
 simp only[Mr,Adi,Adj,Ms,d];rw[show max (AS x) 0=AS x by omega,show max (Cd s x y i o) 0=Cd s x y i o by omega,show max (min x.C (E1 s x y i o)) 0=Ec s x y i o from rfl];generalize aW 0 DV x.S=a1;generalize aW 0 DN x.B=a2;generalize aW 1 AI (AS x)=a3;generalize aW 2 Az (B1 x (Av (an s y)))=a4;generalize aW 6 Az (Cg x (Av (an s y)))=a5;generalize aW 3 DY (CU s x y i o)=a6;generalize aW 4 DO (Ec s x y i o)=a7;generalize aW 5 A2 (Cd s x y i o)=a8
 have c:(a1++a2++a3++a4++a5++a6++a7++a8).Perm (a2++a1++a3++a4++a5++a6++a7++a8):=by
  refine List.Perm.append_right _ (List.Perm.append_right _ (List.Perm.append_right _ (List.Perm.append_right _ (List.Perm.append_right _ (List.Perm.append_right _ ?_)))));exact List.perm_append_comm
 refine c.trans ?_;have b:(a5++(a6++(a7++a8))).Perm (a6++(a7++a8)++a5):=List.perm_append_comm;have a:=b.append_left (a2++a1++a3++a4);simp only[List.append_assoc]at a⊢;exact a
theorem G9{p:Int}{k:List UInt8}{v:Int}:(aW p k v).Sublist [(p,k,v)]:=by
 unfold aW;split
 ·exact List.nil_sublist _
 ·exact List.Sublist.refl _
theorem P8{s:ak}{x:Mo}{y i o:Int}:(BW s x y i o).Pairwise E2:=by
 have a:(BW s x y i o).Sublist ([(0,DN,x.B)]++ [(0,DV,x.S)]++ [(1,AI,AS x)]++ [(2,Az,B1 x (Av (an s y)))]++ [(3,DY,CU s x y i o)]++ [(4,DO,Ec s x y i o)]++ [(5,A2,Cd s x y i o)]++ [(6,Az,Cg x (Av (an s y)))]):=by
  unfold BW;exact(((((((G9.append G9).append G9).append G9).append G9).append G9).append G9).append G9)
 refine List.Pairwise.sublist a ?_;have b:DN<DV:=by decide
 simp[E2,b]
theorem Vm{s:ak}{x:Mo}{y i o:Int}(b:BT x)(h:KV s x y i o):∀z∈BW s x y i o,H1 z:=by
 have key:∀{p:Int} {k:List UInt8} {v:Int},(0≤p/\p<7)->E9 k=some true->(-1125899906842624≤v/\v≤1125899906842624)->∀z∈aW p k v,H1 z:=by
  intro p k v c d f z a;unfold aW at a;split at a
  ·cases a
  ·rename_i e;rw[List.mem_singleton]at a;subst a;exact⟨c,d,e,by show A4 v=true;simp[A4];omega⟩
 intro z a;unfold BW at a;simp only[List.mem_append]at a;have w:=b.S;have t:=b.B;have r:=h.pre;have q:=h.work;have m:=h.held;have l:=h.club;have j:=h.court;have g:=h.firm;rcases a with((((((a|a)|a)|a)|a)|a)|a)|a
 ·exact key (by decide) YO (by omega) z a
 ·exact key (by decide) YS (by omega) z a
 ·exact key (by decide) YR (by omega) z a
 ·exact key (by decide) T1 (by omega) z a
 ·exact key (by decide) YT (by omega) z a
 ·exact key (by decide) YP (by omega) z a
 ·exact key (by decide) YQ (by omega) z a
 ·exact key (by decide) T1 (by omega) z a
theorem P7{s:ak}{x:Mo}{y i o:Int}:(BW s x y i o).length≤8:=by
 have h:∀{p:Int} {k:List UInt8} {v:Int},(aW p k v).length≤1:=fun{p k v}=>by unfold aW;split<;>simp
 unfold BW;simp only[List.length_append];have j:=h (p:=0) (k:=DN) (v:=x.B);have g:=h (p:=0) (k:=DV) (v:=x.S);have f:=h (p:=1) (k:=AI) (v:=AS x);have e:=h (p:=2) (k:=Az) (v:=B1 x (Av (an s y)));have d:=h (p:=3) (k:=DY) (v:=CU s x y i o);have c:=h (p:=4) (k:=DO) (v:=Ec s x y i o);have b:=h (p:=5) (k:=A2) (v:=Cd s x y i o);have a:=h (p:=6) (k:=Az) (v:=Cg x (Av (an s y)));omega
theorem Yc{s:ak}{x:Mo}{y i o:Int}(d:BT x)(h:KV s x y i o):∀e∈Hb s x y i o,A4 e.2=true:=by
 have f:∀{p:Int} {k:List UInt8} {v:Int},(-1125899906842624≤v/\v≤1125899906842624)->∀e∈ba p k v,A4 e.2=true:=by
  intro p k v g e b;unfold ba at b;split at b
  ·cases b
  ·rw[List.mem_singleton]at b;subst b;show A4 v=true;simp[A4];omega
 have c:∀{p:Int} {k:List UInt8} {v:Int},(-1125899906842624≤v/\v≤1125899906842624)->∀e∈b7 p k v,A4 e.2=true:=by
  intro p k v g e b;unfold b7 at b;split at b
  ·rw[List.mem_singleton]at b;subst b;show A4 v=true;simp[A4];omega
  ·cases b
 intro z a;unfold Hb at a;simp only[List.mem_append]at a;have D:=d.S;have A:=d.B;have w:=h.pre;have t:=h.work;have r:=h.held;have q:=h.l3;have m:=h.court;have l:=h.firm;have j:=d.C;rcases a with(((((a|a)|a)|a)|a)|a)|a
 ·simp only[CF,List.mem_cons,List.not_mem_nil,or_false]at a;rcases a with rfl|rfl
  ·show A4 x.S=true;simp[A4];omega
  ·show A4 x.B=true;simp[A4];omega
 ·exact c (by omega) z a
 ·exact f (by omega) z a
 ·exact f (by omega) z a
 ·rw[List.mem_singleton]at a;subst a;show A4 (CU s x y i o)=true;simp[A4];omega
 ·exact c (by omega) z a
 ·exact c (by omega) z a
theorem Yd{s:ak}{x:Mo}{y i o:Int}:(Hb s x y i o).length≤1000:=by
 have b:∀{p:Int} {k:List UInt8} {v:Int},(ba p k v).length≤1:=fun{p k v}=>by unfold ba;split<;>simp
 have a:∀{p:Int} {k:List UInt8} {v:Int},(b7 p k v).length≤1:=fun{p k v}=>by unfold b7;split<;>simp
 unfold Hb;simp only[List.length_append];have j:(CF x).length=2:=rfl;have h:=a (p:=1) (k:=AI) (v:=AS x);have g:=b (p:=2) (k:=Az) (v:=B1 x (Av (an s y)));have f:=b (p:=6) (k:=Az) (v:=Cg x (Av (an s y)));have e:=a (p:=4) (k:=DO) (v:=min x.C (E1 s x y i o));have d:=a (p:=5) (k:=A2) (v:=Cd s x y i o);have c:([((3,DY),CU s x y i o)]:ML).length=1:=rfl;omega
end WB
