/-
  Own texts. No condition of their own.
-/
import Derived.Test.YtefbaepigpomaaaGreatDoorK9
import Derived.Lib.BitFns
set_option linter.unusedVariables false
set_option linter.unusedSimpArgs false
open Go.IntKind (i64 u64 u8 u32)
namespace WB
open Go Go.RowKit
theorem YS{n m:Nat}(b:n<18446744073709551616)(c:m<18446744073709551616):
  Nh ((n:Int),(m:Int))=some (((n*m/18446744073709551616:Nat):Int),((n*m % 18446744073709551616:Nat):Int)):=by
 unfold Nh;obtain⟨i,d,g,f⟩:=Go.Lib.mul64_hi n m b c;have l:∀{a:Nat},a<18446744073709551616->u64.wrap (a:Int)=(a:Int):=fun h=>E6 h
 have e:n*m/18446744073709551616<18446744073709551616:=by
  rw[Nat.div_lt_iff_lt_mul (by decide)];exact Nat.mul_lt_mul'' b c
 have r:=Int.natCast_mul (n % 4294967296) (m % 4294967296);have q:=Int.natCast_mul (n/4294967296) (m % 4294967296);have o:=Int.natCast_mul (n % 4294967296) (m/4294967296);have k:=Int.natCast_mul (n/4294967296) (m/4294967296);have j:=Int.natCast_mul n m;dsimp only;rw[Ho,bs,Ho,bs,Kv b,Kv c,<-r,<-q,<-o,<-k,<-j];generalize n % 4294967296*(m % 4294967296)=A at*;generalize n/4294967296*(m % 4294967296)=B at*;generalize n % 4294967296*(m/4294967296)=C at*;generalize n/4294967296*(m/4294967296)=E at*;generalize n*m=F at*;rw[E6 i,Ho,bs,E6 (show B<18446744073709551616 by omega),<-Int.natCast_add,E6 d,Ho,bs,Kv d,E6 (show C<18446744073709551616 by omega),<-Int.natCast_add,E6 g,Ho,bs,E6 (show E<18446744073709551616 by omega),<-Int.natCast_add,E6 (show E+(B+A/4294967296)/4294967296<18446744073709551616 by omega),<-Int.natCast_add,f,E6 e,YI]
theorem NK(n k:Nat)(a:k<=64):(if(k:Int)<0 then none else some ((n:Int).fdiv (2^(min (k:Int).toNat 64))))=some ((n/2^k:Nat):Int):=by
 rw[An (by omega),Int.toNat_natCast,Nat.min_eq_left a,Int.fdiv_eq_ediv_of_nonneg _ (Int.pow_nonneg (by decide))]
 congr 1
theorem Aic(n:Nat):(if(16:Int)<0 then none else some ((n:Int).fdiv (2^(min (16:Int).toNat 64))))=some ((n/65536:Nat):Int):=NK n 16 (by decide)
theorem Aid(n:Nat):(if(8:Int)<0 then none else some ((n:Int).fdiv (2^(min (8:Int).toNat 64))))=some ((n/256:Nat):Int):=NK n 8 (by decide)
theorem Ae5:∀n:Fin 256,([0,1,2,2,3,3,3,3,4,4,4,4,4,4,4,4,5,5,5,5,5,5,5,5,5,5,5,5,5,5,5,5,6,6,6,6,6,6,6,6,6,6,6,6,6,6,6,6,6,6,6,6,6,6,6,6,6,6,6,6,6,6,6,6,7,7,7,7,7,7,7,7,7,7,7,7,7,7,7,7,7,7,7,7,7,7,7,7,7,7,7,7,7,7,7,7,7,7,7,7,7,7,7,7,7,7,7,7,7,7,7,7,7,7,7,7,7,7,7,7,7,7,7,7,7,7,7,7,8,8,8,8,8,8,8,8,8,8,8,8,8,8,8,8,8,8,8,8,8,8,8,8,8,8,8,8,8,8,8,8,8,8,8,8,8,8,8,8,8,8,8,8,8,8,8,8,8,8,8,8,8,8,8,8,8,8,8,8,8,8,8,8,8,8,8,8,8,8,8,8,8,8,8,8,8,8,8,8,8,8,8,8,8,8,8,8,8,8,8,8,8,8,8,8,8,8,8,8,8,8,8,8,8,8,8,8,8,8,8,8,8,8,8,8,8,8,8,8,8,8,8,8,8,8,8,8]:List UInt8)[n.val]? =some (UInt8.ofNat (Go.Lib.bitLen n.val)):=by decide+kernel
theorem YR{n:Nat}(r:n<18446744073709551616):Ng (n:Int)=some (Go.Lib.bitLen n:Int):=by
 unfold Ng
 have A:∃n1 b:Nat,n1<4294967296/\b<=32/\Go.Lib.bitLen n=b+Go.Lib.bitLen n1/\(if decide ((n:Int)≥(4294967296:Int))=true then
   (if(32:Int)<0 then none else some ((n:Int).fdiv (2^(min (32:Int).toNat 64)))).bind fun c=>some (c,(32:Int),())else some ((n:Int),(0:Int),()))=some ((n1:Int),(b:Int),()):=by
  by_cases h:4294967296<=n
  ·refine⟨n/4294967296,32,by omega,by omega,Go.Lib.bitLen_shift32 n h r, ?_⟩;rw[Ao (by simpa using by omega),Ho];rfl
  ·refine⟨n,0,by omega,by omega,by omega, ?_⟩;rw[An (by simpa using by omega)];rfl
 obtain⟨n1,b,q,v,i,l⟩:=A
 have y:∃n2 a:Nat,n2<65536/\a<=48/\Go.Lib.bitLen n=a+Go.Lib.bitLen n2/\(if decide ((n1:Int)≥(65536:Int))=true then
   (if(16:Int)<0 then none else some ((n1:Int).fdiv (2^(min (16:Int).toNat 64)))).bind fun c=>some (c,i64.wrap ((b:Int)+(16:Int)),())else some ((n1:Int),(b:Int),()))=some ((n2:Int),(a:Int),()):=by
  by_cases h:65536<=n1
  ·refine⟨n1/65536,b+16,by omega,by omega,by rw[i,Go.Lib.bitLen_shift16 n1 h (by omega)];omega, ?_⟩;rw[Ao (by simpa using by omega),Aic,AI (by omega) (by omega)];rfl
  ·refine⟨n1,b,by omega,by omega,by omega, ?_⟩;rw[An (by simpa using by omega)]
 obtain⟨n2,a,o,t,g,k⟩:=y
 have x:∃n3 e:Nat,n3<256/\e<=56/\Go.Lib.bitLen n=e+Go.Lib.bitLen n3/\(if decide ((n2:Int)≥(256:Int))=true then
   (if(8:Int)<0 then none else some ((n2:Int).fdiv (2^(min (8:Int).toNat 64)))).bind fun c=>some (c,i64.wrap ((a:Int)+(8:Int)),())else some ((n2:Int),(a:Int),()))=some ((n3:Int),(e:Int),()):=by
  by_cases h:256<=n2
  ·refine⟨n2/256,a+8,by omega,by omega,by rw[g,Go.Lib.bitLen_shift8 n2 h (by omega)];omega, ?_⟩;rw[Ao (by simpa using by omega),Aid,AI (by omega) (by omega)];rfl
  ·refine⟨n2,a,by omega,by omega,by omega, ?_⟩;rw[An (by simpa using by omega)]
 obtain⟨n3,e,d,s,f,j⟩:=x;have B:Go.Lib.bitLen n3<=8:=Go.Lib.bitLen_le8 ⟨n3,d⟩;dsimp only;rw[l,bs];dsimp only;rw[k,bs];dsimp only;rw[j,bs];dsimp only;have m:u8.wrap (n3:Int)=(n3:Int):=by rw[IntKind.wrap_u8];omega
 rw[m,XX (Ae5 ⟨n3,d⟩),bs];have w:((UInt8.ofNat (Go.Lib.bitLen n3)).toNat)=Go.Lib.bitLen n3:=by rw[UInt8.toNat_ofNat'];omega
 rw[w,AI (n:=(Go.Lib.bitLen n3:Int)) (by omega) (by omega),AI (by omega) (by omega),f];rfl
theorem YQ{n:Nat}(a:n<18446744073709551616):Nf (n:Int)=some (64-(Go.Lib.bitLen n:Int)):=by
 unfold Nf;have:Go.Lib.bitLen n<=64:=Go.Lib.bitLen_le n 64 (by omega) a;dsimp only;rw[YR a,bs,AI (by omega) (by omega)]
theorem Z0:∀(n:Nat),n<18446744073709551616->n≠0->2^Go.Lib.bitLen n<=2*n/\n<2^Go.Lib.bitLen n:=by
 intro n
 induction n using Nat.strongRecOn with
 |_ n ih=>
  intro h d;rw[Go.Lib.bitLen_half n d h];by_cases c:n/2=0
  ·have:n=1:=by omega
   subst this;decide
  ·obtain⟨a,b⟩:=ih (n/2) (by omega) (by omega) c;rw[Nat.add_comm 1,Nat.pow_succ];omega
section
variable {p z u n:Nat}
theorem VT(g:z<4294967296)(l:n<4294967296)(i:u<p*4294967296+z){q r:Nat}(h:q*p+r=u)(o:(u*4294967296+n)/(p*4294967296+z)<=q)(j:q<=4294967297)(s:r<4294967296):
  q*z<18446744073709551616/\4294967296*r+n<18446744073709551616/\
  ((q<4294967296/\q*z<=4294967296*r+n->q=(u*4294967296+n)/(p*4294967296+z))
  /\(4294967296<=q\/4294967296*r+n<q*z->1<=q/\(q-1)*p+(r+p)=u/\(u*4294967296+n)/(p*4294967296+z)<=q-1/\(4294967296<=r+p->q-1=(u*4294967296+n)/(p*4294967296+z)))):=by
 have d:0<p*4294967296+z:=by omega
 have f:q*z<=4294967297*4294967295:=Nat.mul_le_mul j (by omega);refine⟨by omega,by omega,fun⟨a,b⟩=> ?_,fun a=> ?_⟩
 ·refine Nat.le_antisymm ?_ o;rw[Nat.le_div_iff_mul_le d];have:=(VS (b:=4294967296) (z:=z) (n:=n) h);omega
 ·have c:(u*4294967296+n)/(p*4294967296+z)<q:=by
   rcases a with a|a
   ·exact Nat.lt_of_lt_of_le (PZ l i) a
   ·exact(Ae0 d).1 ((VS h).1 a)
  have f:1<=q:=Nat.lt_of_le_of_lt (Nat.zero_le _) c
  have e:(q-1)*p+(r+p)=u:=by
   obtain⟨k,rfl⟩:∃k,q=k+1:=⟨q-1,by omega⟩;rw[Nat.add_mul]at h;simp only[Nat.add_sub_cancel];omega
  refine⟨f,e,Nat.le_sub_one_of_lt c,fun m=> ?_⟩;refine Nat.le_antisymm ?_ (Nat.le_sub_one_of_lt c);rw[Nat.le_div_iff_mul_le d];exact Aez m (by omega) g e
theorem YN(H:2147483648<=p)(v:p<4294967296)(f:z<4294967296)(i:n<4294967296)(g:u<p*4294967296+z)(y s a:Int):
  iter Nc (y,s,(p:Int),(z:Int),(u:Int),(n:Int),a,((u/p:Nat):Int),((u % p:Nat):Int),())=some (y,s,(p:Int),(z:Int),(u:Int),(n:Int),a,(((u*4294967296+n)/(p*4294967296+z):Nat):Int),()):=by
 obtain⟨A,I⟩:=VR (b:=4294967296) (p:=p) (by omega) (by omega) f i g;refine VK (fun m st=>∃q r:Nat,st=(y,s,(p:Int),(z:Int),(u:Int),(n:Int),a,(q:Int),(r:Int),())/\q*p+r=u/\(u*4294967296+n)/(p*4294967296+z)<=q/\q<=4294967297/\r<4294967296/\m=q) ?_ (u/p) _ ⟨u/p,u % p,rfl,Nat.div_add_mod' u p,A,by omega,Nat.lt_of_lt_of_le (Nat.mod_lt _ (by omega)) (by omega),rfl⟩
 rintro m st ⟨q,r,rfl,h1,h2,h3,h4,hm⟩
 obtain⟨G,K,F,E⟩:=VT f i g h1 h2 h3 h4;have w1:u64.wrap ((q:Int)*(z:Int))=((q*z:Nat):Int):=by rw[<-Int.natCast_mul];exact E6 G
 have o:u64.wrap ((4294967296:Int)*(r:Int))=((4294967296*r:Nat):Int):=by rw[E7 (by omega) (by omega)];omega
 have l:u64.wrap (((4294967296*r:Nat):Int)+(n:Int))=((4294967296*r+n:Nat):Int):=by rw[E7 (by omega) (by omega)];omega
 have k:u64.wrap ((r:Int)+(p:Int))=((r+p:Nat):Int):=by rw[E7 (by omega) (by omega)];omega
 have hT:∃t:Bool,(t=true<->(4294967296<=q\/4294967296*r+n<q*z))/\Nc (y,s,(p:Int),(z:Int),(u:Int),(n:Int),a,(q:Int),(r:Int),())=(if t then(if 4294967296<=r+p then some (Sum.inr (y,s,(p:Int),(z:Int),(u:Int),(n:Int),a,u64.wrap ((q:Int)-1),()))else some (Sum.inl (y,s,(p:Int),(z:Int),(u:Int),(n:Int),a,u64.wrap ((q:Int)-1),((r+p:Nat):Int),())))else some (Sum.inr (y,s,(p:Int),(z:Int),(u:Int),(n:Int),a,(q:Int),()))):=by
  unfold Nc;dsimp only;rw[k];have x:decide (((r+p:Nat):Int)≥4294967296)=decide (4294967296<=r+p):=by apply decide_eq_decide.2;omega
  rw[x];by_cases c:4294967296<=q
  ·have d:decide ((q:Int)≥4294967296)=true:=by simpa using by omega
   refine⟨true,by simp[c], ?_⟩;simp only[d,Bool.true_eq_false,if_false,if_true,bs,decide_eq_true_eq]
  ·have d:decide ((q:Int)≥4294967296)=false:=by simpa using by omega
   refine⟨decide (4294967296*r+n<q*z),by simp[c], ?_⟩;have w:decide (((q*z:Nat):Int)>((4294967296*r+n:Nat):Int))=decide (4294967296*r+n<q*z):=by apply decide_eq_decide.2;omega
   simp only[d,if_true,bs,ms,w1,o,l,w,Ah,if_false,decide_eq_true_eq]
 obtain⟨t,h,e⟩:=hT;rw[e]
 cases t with
 |false=>
  refine .inr ?_;have:=F (by have:=mt h.2 (by decide);omega);rw[An (by decide),<-this]
 |true=>
  obtain⟨J,D,C,B⟩:=E (h.1 rfl);have j:u64.wrap ((q:Int)-1)=((q-1:Nat):Int):=by rw[E7 (by omega) (by omega)];omega
  rw[Ao rfl,j];by_cases c:4294967296<=r+p
  ·rw[Ao c,B c];exact .inr rfl
  ·rw[An c];exact .inl ⟨_,rfl,q-1,by omega,q-1,r+p,rfl,D,C,by omega,by omega,rfl⟩
theorem YO(I:2147483648<=p)(w:p<4294967296)(g:z<4294967296)(j:n<4294967296)(h:u<p*4294967296+z)(y s c a:Int):
  iter Nd (y,s,(p:Int),(z:Int),(n:Int),c,((u % p:Nat):Int),a,((u/p:Nat):Int),())=some (y,s,(n:Int),c,a,(((u*4294967296+n)/(p*4294967296+z):Nat):Int),()):=by
 obtain⟨B,J⟩:=VR (b:=4294967296) (p:=p) (by omega) (by omega) g j h;refine VK (fun m st=>∃q r:Nat,st=(y,s,(p:Int),(z:Int),(n:Int),c,(r:Int),a,(q:Int),())/\q*p+r=u/\(u*4294967296+n)/(p*4294967296+z)<=q/\q<=4294967297/\r<4294967296/\m=q) ?_ (u/p) _ ⟨u/p,u % p,rfl,Nat.div_add_mod' u p,B,by omega,Nat.lt_of_lt_of_le (Nat.mod_lt _ (by omega)) (by omega),rfl⟩
 rintro m st ⟨q,r,rfl,h1,h2,h3,h4,hm⟩
 obtain⟨H,L,G,F⟩:=VT g j h h1 h2 h3 h4;have w1:u64.wrap ((q:Int)*(z:Int))=((q*z:Nat):Int):=by rw[<-Int.natCast_mul];exact E6 H
 have v:u64.wrap ((4294967296:Int)*(r:Int))=((4294967296*r:Nat):Int):=by rw[E7 (by omega) (by omega)];omega
 have o:u64.wrap (((4294967296*r:Nat):Int)+(n:Int))=((4294967296*r+n:Nat):Int):=by rw[E7 (by omega) (by omega)];omega
 have l:u64.wrap ((r:Int)+(p:Int))=((r+p:Nat):Int):=by rw[E7 (by omega) (by omega)];omega
 have hT:∃t:Bool,(t=true<->(4294967296<=q\/4294967296*r+n<q*z))/\Nd (y,s,(p:Int),(z:Int),(n:Int),c,(r:Int),a,(q:Int),())=(if t then(if 4294967296<=r+p then some (Sum.inr (y,s,(n:Int),c,a,u64.wrap ((q:Int)-1),()))else some (Sum.inl (y,s,(p:Int),(z:Int),(n:Int),c,((r+p:Nat):Int),a,u64.wrap ((q:Int)-1),())))else some (Sum.inr (y,s,(n:Int),c,a,(q:Int),()))):=by
  unfold Nd;dsimp only;rw[l];have A:decide (((r+p:Nat):Int)≥4294967296)=decide (4294967296<=r+p):=by apply decide_eq_decide.2;omega
  rw[A];by_cases d:4294967296<=q
  ·have f:decide ((q:Int)≥4294967296)=true:=by simpa using by omega
   refine⟨true,by simp[d], ?_⟩;simp only[f,Bool.true_eq_false,if_false,if_true,bs,decide_eq_true_eq]
  ·have f:decide ((q:Int)≥4294967296)=false:=by simpa using by omega
   refine⟨decide (4294967296*r+n<q*z),by simp[d], ?_⟩;have x:decide (((q*z:Nat):Int)>((4294967296*r+n:Nat):Int))=decide (4294967296*r+n<q*z):=by apply decide_eq_decide.2;omega
   simp only[f,if_true,bs,ms,w1,v,o,x,Ah,if_false,decide_eq_true_eq]
 obtain⟨t,i,e⟩:=hT;rw[e]
 cases t with
 |false=>
  refine .inr ?_;have:=G (by have:=mt i.2 (by decide);omega);rw[An (by decide),<-this]
 |true=>
  obtain⟨K,E,D,C⟩:=F (i.1 rfl);have k:u64.wrap ((q:Int)-1)=((q-1:Nat):Int):=by rw[E7 (by omega) (by omega)];omega
  rw[Ao rfl,k];by_cases d:4294967296<=r+p
  ·rw[Ao d,C d];exact .inr rfl
  ·rw[An d];exact .inl ⟨_,rfl,q-1,by omega,q-1,r+p,rfl,E,D,by omega,by omega,rfl⟩
end
theorem Rk(n k:Nat)(a:k<=64):(if(k:Int)<0 then none else some (u64.wrap ((n:Int)*2^(min (k:Int).toNat 64))))=some ((n*2^k % 18446744073709551616:Nat):Int):=by
 rw[An (by omega),Int.toNat_natCast,Nat.min_eq_left a];refine congrArg some ?_;rw[show(n:Int)*2^k=((n*2^k:Nat):Int) by rw[Int.natCast_mul,Int.natCast_pow];rfl];exact YI _
theorem orJ{x y k:Nat}(c:x % 2^k=0)(b:x<18446744073709551616)(f:y<2^k)(a:y<18446744073709551616):BS .or .u64 (x:Int) (y:Int)=((x+y:Nat):Int):=by
 rw[Ua _ _ _ _ (.inr rfl)]
 have h:=bits_join .u64 64 (by decide) (fun n e d=>E7 e (by simpa using d)) k (x:Int) (y:Int) (by omega) (by
   have:((x % 2^k:Nat):Int)=0:=by rw[c];rfl
   rw[Int.natCast_emod,Int.natCast_pow]at this
   exact this) (by have:((2:Int)^64)=18446744073709551616:=by decide
                   omega) (by omega) (by
   have:(y:Int)<((2^k:Nat):Int):=by omega
   rw[Int.natCast_pow]at this
   exact this) (by have:((2:Int)^64)=18446744073709551616:=by decide
                   omega)
 rw[h];omega
theorem QS{a b:Nat}(d:b≠0)(c:a<18446744073709551616):(if(b:Int)=0 then none else some (u64.wrap ((a:Int).tdiv (b:Int))))=some ((a/b:Nat):Int):=by
 rw[An (by omega)]
 congr 1
 rw[Int.tdiv_eq_ediv_of_nonneg (by omega),<-Int.natCast_ediv];exact E6 (Nat.lt_of_le_of_lt (Nat.div_le_self _ _) c)
theorem X2{a b:Nat}(c:b≠0):(if(b:Int)=0 then none else some ((a:Int).tmod (b:Int)))=some ((a % b:Nat):Int):=by
 rw[An (by omega)]
 congr 1
theorem Wb{a b m q:Nat}(c:0<m)(e:m<18446744073709551616)(h:q=(a*4294967296+b)/m):
  u64.wrap (u64.wrap (u64.wrap ((a:Int)*4294967296)+(b:Int))-u64.wrap ((q:Int)*(m:Int)))=(((a*4294967296+b)% m:Nat):Int):=by
 have d:=Nat.div_add_mod (a*4294967296+b) m;rw[<-h]at d;have f:=Nat.mod_lt (a*4294967296+b) c;generalize (a*4294967296+b)% m=r at*;rw[<-Int.natCast_mul,Nat.mul_comm q m];generalize m*q=t at*;simp only[IntKind.wrap_u64];omega
theorem Aj5{u b a w c d r v:Nat}(h:c+w=u*4294967296+b)(g:d+r=w*4294967296+a)(f:b*4294967296+a=v):u*18446744073709551616+v=c*4294967296+d+r:=by
 have e:u*18446744073709551616=u*4294967296*4294967296:=by rw[Nat.mul_assoc]
 rw[e,<-f,<-Nat.add_assoc,<-Nat.add_mul,<-h,Nat.add_mul,Nat.add_assoc,<-g,Nat.add_assoc]
theorem YM{hi lo y:Nat}(B:y<18446744073709551616)(o:lo<18446744073709551616)(T:hi<y):
  Kx ((hi:Int),(lo:Int),(y:Int))=some ((((hi*18446744073709551616+lo)/y:Nat):Int),(((hi*18446744073709551616+lo)% y:Nat):Int)):=by
 have f:y≠0:=by omega
 have J:((y:Int)==0)=false:=by simpa using by omega
 have I:decide ((y:Int)<=(hi:Int))=false:=by simpa using by omega
 by_cases V:hi=0
 ·subst V;unfold Kx;dsimp only;rw[J,I,QS f o,X2 f];simp
 obtain⟨R,G⟩:=Z0 y B f;have Q:Go.Lib.bitLen y<=64:=Go.Lib.bitLen_le y 64 (by omega) B
 have k4:1<=Go.Lib.bitLen y:=by
  rcases Nat.eq_zero_or_pos (Go.Lib.bitLen y)with h|h
  ·rw[h]at G;omega
  ·exact h
 obtain⟨s,hs⟩:∃s,s=64-Go.Lib.bitLen y:=⟨_,rfl⟩
 have g:2^Go.Lib.bitLen y*2^s=18446744073709551616:=by
  rw[<-Nat.pow_add,show Go.Lib.bitLen y+s=64 by omega]
 have A:0<2^s:=Nat.pow_pos (by decide)
 have n1:9223372036854775808<=y*2^s:=by
  have:=Nat.mul_le_mul_right (2^s) R;rw[Nat.mul_assoc]at this;omega
 have n2:y*2^s<18446744073709551616:=by rw[<-g];exact Nat.mul_lt_mul_of_pos_right G A
 have n3:hi*2^s+2^s<=y*2^s:=by
  have:=Nat.mul_le_mul_right (2^s) (show hi+1<=y from T)
  rwa [Nat.add_mul,Nat.one_mul]at this
 have n4:lo/2^Go.Lib.bitLen y<2^s:=by rw[Nat.div_lt_iff_lt_mul (Nat.pow_pos (by decide)),Nat.mul_comm,g];exact o
 have n5:lo*2^s/18446744073709551616=lo/2^Go.Lib.bitLen y:=by rw[<-g,Nat.mul_div_mul_right _ _ A]
 have n6:=Nat.div_add_mod (lo*2^s) 18446744073709551616;rw[n5]at n6;have n7:lo*2^s % 18446744073709551616<18446744073709551616:=Nat.mod_lt _ (by decide)
 have N:(hi*18446744073709551616+lo)*2^s=(hi*2^s+lo/2^Go.Lib.bitLen y)*18446744073709551616+lo*2^s % 18446744073709551616:=by
  rw[Nat.add_mul,Nat.add_mul,Nat.mul_right_comm];omega
 have M:=orJ (x:=hi*2^s) (y:=lo/2^Go.Lib.bitLen y) (k:=s) (Nat.mul_mod_left _ _) (by omega) n4 (by omega);unfold Kx;dsimp only;have W:((hi:Int)==0)=false:=by simpa using by omega
 have a0:u64.wrap (64-(Go.Lib.bitLen y:Int))=(s:Int):=by rw[E7 (by omega) (by omega)];omega
 have a1:u64.wrap (64-(s:Int))=(Go.Lib.bitLen y:Int):=by rw[E7 (by omega) (by omega)];omega
 rw[J,I,W,YQ B];simp only[Ah,if_false];rw[bs,a0,a1,Rk y s (by omega),bs,Rk hi s (by omega),Rk lo s (by omega),Nat.mod_eq_of_lt n2,Nat.mod_eq_of_lt (show hi*2^s<18446744073709551616 by omega),NK lo _ Q];simp only[bs];rw[M,Kv n2,Ho,Ho,Kv n7];simp only[bs];generalize hP:y*2^s=Y at*;generalize hU:hi*2^s+lo/2^Go.Lib.bitLen y=u at*;generalize hV:lo*2^s % 18446744073709551616=v at*;have e:Y/4294967296*4294967296+Y % 4294967296=Y:=Nat.div_add_mod' Y 4294967296;have Z:v/4294967296*4294967296+v % 4294967296=v:=Nat.div_add_mod' v 4294967296;have H:u<Y:=by omega
 have m:Y/4294967296≠0:=by omega
 have qr (a:Nat) (ha:a<18446744073709551616):u64.wrap ((a:Int)-u64.wrap (((a/(Y/4294967296):Nat):Int)*((Y/4294967296:Nat):Int)))=((a %(Y/4294967296):Nat):Int):=by
  have E:=Nat.div_add_mod' a (Y/4294967296);rw[<-Int.natCast_mul];generalize a/(Y/4294967296)*(Y/4294967296)=t at*;generalize a %(Y/4294967296)=r at*;rw[E6 (show t<18446744073709551616 by omega),E7 (by omega) (by omega)];omega
 rw[QS m (show u<18446744073709551616 by omega),bs,qr u (by omega)];rw[YN (by omega) (by omega) (by omega) (by omega) (by rw[e];exact H),e];simp only[bs];obtain⟨q1,b⟩:∃x,(u*4294967296+v/4294967296)/Y=x:=⟨_,rfl⟩;rw[b];have P:=Wb (show 0<Y by omega) n2 b.symm;rw[P];obtain⟨w,C⟩:∃x,(u*4294967296+v/4294967296)% Y=x:=⟨_,rfl⟩;rw[C];have j:w<Y:=by rw[<-C];exact Nat.mod_lt _ (by omega)
 rw[QS m (show w<18446744073709551616 by omega),bs,qr w (by omega)];rw[YO (by omega) (by omega) (by omega) (by omega) (by rw[e];exact j),e];simp only[bs];obtain⟨q0,d⟩:∃x,(w*4294967296+v % 4294967296)/Y=x:=⟨_,rfl⟩;rw[d];have O:=Wb (show 0<Y by omega) n2 d.symm;rw[O,NK _ s (by omega),bs];have K:=Nat.div_add_mod (u*4294967296+v/4294967296) Y;have F:=Nat.div_add_mod (w*4294967296+v % 4294967296) Y;have r1:(w*4294967296+v % 4294967296)% Y<Y:=Nat.mod_lt _ (by omega);rw[b,C]at K;rw[d]at F;obtain⟨r,l⟩:∃x,(w*4294967296+v % 4294967296)% Y=x:=⟨_,rfl⟩;rw[l]at F r1;rw[l];have d0:q0<4294967296:=by rw[<-d,<-e];exact PZ (by omega) (by rw[e];exact j)
 have d1:q1<4294967296:=by rw[<-b];conv=>lhs;rw[<-e]
                           exact PZ (by omega) (by rw[e];exact H)
 have tot:(hi*18446744073709551616+lo)*2^s=y*(q1*4294967296+q0)*2^s+r:=by
  have U:Y*(q1*4294967296+q0)=Y*q1*4294967296+Y*q0:=by rw[Nat.mul_add,<-Nat.mul_assoc]
  rw[Nat.mul_right_comm y,hP,N,U];exact Aj5 K F Z
 have L:2^s∣r:=by
  have E:2^s∣(hi*18446744073709551616+lo)*2^s:=Nat.dvd_mul_left _ _;rw[tot]at E;exact(Nat.dvd_add_right (Nat.dvd_mul_left _ _)).1 E
 obtain⟨c,D⟩:=L;have S:r/2^s=c:=by rw[D,Nat.mul_div_cancel_left _ A]
 have i:hi*18446744073709551616+lo=y*(q1*4294967296+q0)+c:=by
  rw[D,Nat.mul_comm (2^s) c,<-Nat.add_mul]at tot;exact Nat.eq_of_mul_eq_mul_right A tot
 have q:c<y:=by
  rw[D,<-hP,Nat.mul_comm]at r1;exact Nat.lt_of_mul_lt_mul_right r1
 rw[i,Nat.mul_add_div (by omega),Nat.mul_add_mod,Nat.div_eq_of_lt q,Nat.mod_eq_of_lt q,S,Nat.add_zero]
 have X:u64.wrap (u64.wrap ((q1:Int)*4294967296)+(q0:Int))=((q1*4294967296+q0:Nat):Int):=by
  simp only[IntKind.wrap_u64];omega
 rw[X]
def cV(neg:Bool)(q r d:Nat)(mode:Int):Bool:=
 if mode=4 then neg&&decide (0<r)
 else if mode=3 then decide (0<r)
 else if mode=2 then(if r=d-r then q % 2==1 else decide (d-r<=r))
 else if mode=1 then decide (d-r<=r)
 else false
def Dz(neg:Bool)(n d:Nat)(mode:Int):Nat:=n/d+(if cV neg (n/d) (n % d) d mode then 1 else 0)
def Ez(c num:Int):Bool:= !(decide (c<0)==decide (num<0))
def KK(c num den mode:Int):Int×Int:=
 if ¬(-1125899906842624<=c/\c<=1125899906842624)then(0,2)
 else if den=0 then(0,22)
 else if den<0 then(0,2)
 else if mode<0\/4<mode then(0,11)
 else if 1125899906842624<Dz (Ez c num) (c.natAbs*num.natAbs) den.toNat mode then(0,9)
 else(if Ez c num then-(Dz (Ez c num) (c.natAbs*num.natAbs) den.toNat mode:Int)else(Dz (Ez c num) (c.natAbs*num.natAbs) den.toNat mode:Int),0)
theorem TW(c:Int):KV c=some (decide (-1125899906842624<=c/\c<=1125899906842624)):=by
 unfold KV;by_cases a: -1125899906842624<=c
 ·have g:decide (c≥ -1125899906842624)=true:=by simpa using a
  simp only[g,if_true,bs,ms];simp[a]
 ·have g:decide (c≥ -1125899906842624)=false:=by simpa using a
  simp only[g,Ah,if_false,bs];simp[a]
theorem X9{c:Int}(b: -9223372036854775808<=c)(a:c<=9223372036854775807):KW c=some (c.natAbs:Int):=by
 unfold KW;by_cases h:c<0
 ·have g:decide (c<0)=true:=by simpa using h
  simp only[g,if_true,IntKind.wrap_u64];refine congrArg some ?_;omega
 ·have g:decide (c<0)=false:=by simpa using h
  simp only[g,Ah,if_false,IntKind.wrap_u64];refine congrArg some ?_;omega
theorem Ake{neg:Bool}{q r d:Nat}{mode:Int}(y:d<18446744073709551616)(x:r<d):N5 (neg,(q:Int),(r:Int),(d:Int),mode)=some (cV neg q r d mode):=by
 have w:u64.wrap ((d:Int)-(r:Int))=((d-r:Nat):Int):=by rw[E7 (by omega) (by omega)];omega
 have s:decide ((r:Int)>0)=decide (0<r):=by apply decide_eq_decide.2;omega
 have o:decide ((r:Int)≥((d-r:Nat):Int))=decide (d-r<=r):=by apply decide_eq_decide.2;omega
 have m:((r:Int)==((d-r:Nat):Int))=decide (r=d-r):=by
  rw[Bool.eq_iff_iff];simp only[beq_iff_eq,decide_eq_true_eq];omega
 have v:(if(2:Int)=0 then none else some ((q:Int).tmod 2))=some ((q % 2:Nat):Int):=X2 (b:=2) (by decide)
 have t:(((q % 2:Nat):Int)==1)=(q % 2==1):=by
  rw[Bool.eq_iff_iff];simp only[beq_iff_eq];omega
 unfold N5 cV;dsimp only;by_cases f:mode=4
 ·subst f;cases neg
  ·rfl
  ·simp only[beq_self_eq_true,if_true,Bool.not_true,Ah,if_false,bs,Bool.true_and,s]
 have c:(mode==4)=false:=by simpa using f
 rw[c,An f];by_cases h:mode=3
 ·subst h;simp only[beq_self_eq_true,if_true,Ah,if_false,bs,s]
 have g:(mode==3)=false:=by simpa using h
 rw[g,An h];by_cases j:mode=2
 ·subst j;by_cases e:r=d-r
  ·have a:((r:Int)==((d-r:Nat):Int))=true:=by rw[m];exact Am e
   simp only[beq_self_eq_true,if_true,Ah,if_false,bs,w,a,v,t,Ao e]
  ·have a:((r:Int)==((d-r:Nat):Int))=false:=by rw[m];exact Al e
   simp only[beq_self_eq_true,if_true,Ah,if_false,bs,w,a,o,An e]
 have i:(mode==2)=false:=by simpa using j
 rw[i,An j];by_cases l:mode=1
 ·subst l;simp only[beq_self_eq_true,if_true,Ah,if_false,bs,w,o]
 have k:(mode==1)=false:=by simpa using l
 rw[k,An l];rfl
theorem Ag9{c num:Int}{d:Nat}{mode:Int}(v: -9223372036854775808<=c)(t:c<=9223372036854775807)(n1: -9223372036854775808<=num)(n2:num<=9223372036854775807)(i:d<18446744073709551616)(b:0<d){a:Nat}(q:a<=1125899906842624):
  N3 (c,num,(d:Int),(a:Int),mode)=some (if a<Dz (Ez c num) (c.natAbs*num.natAbs) d mode then(0,false)else(if Ez c num then-(Dz (Ez c num) (c.natAbs*num.natAbs) d mode:Int)else(Dz (Ez c num) (c.natAbs*num.natAbs) d mode:Int),true)):=by
 unfold N3;dsimp only;rw[X9 v t,X9 n1 n2,show(!(decide (c<0)==decide (num<0)))=Ez c num from rfl];simp only[bs];have y:c.natAbs<18446744073709551616:=by omega
 have x:num.natAbs<18446744073709551616:=by omega
 rw[YS y x];simp only[bs];generalize Ez c num=neg;generalize c.natAbs*num.natAbs=N;have e:N/18446744073709551616*18446744073709551616+N % 18446744073709551616=N:=Nat.div_add_mod' N _;by_cases h:d<=N/18446744073709551616
 ·have g:decide (((N/18446744073709551616:Nat):Int)≥(d:Int))=true:=Am (by omega);rw[g,Ao rfl,Ao]
  have:18446744073709551616<=N/d:=by
   rw[Nat.le_div_iff_mul_le b,Nat.mul_comm,<-Nat.le_div_iff_mul_le (by decide)];exact h
  unfold Dz;omega
 ·have g:decide (((N/18446744073709551616:Nat):Int)≥(d:Int))=false:=Al (by omega);rw[g,An (by decide),YM i (Nat.mod_lt _ (by decide)) (by omega),e];simp only[bs];have l:N % d<d:=Nat.mod_lt _ b;have m:(0:Int)<=((N/d:Nat):Int):=Int.natCast_nonneg _;by_cases A:a<N/d
  ·have g:decide (((N/d:Nat):Int)>(a:Int))=true:=Am (by omega);rw[g,Ao rfl,Ao (by unfold Dz;omega)]
  ·have g:decide (((N/d:Nat):Int)>(a:Int))=false:=Al (by omega);rw[g,An (by decide),Ake i l];simp only[bs];have w:u64.wrap (((N/d:Nat):Int)+1)=((N/d+1:Nat):Int):=by rw[E7 (by omega) (by omega)];omega
   rw[w]
   have s:∀k:Nat,k=Dz neg N d mode->(Option.bind (some ((a:Int),neg,(k:Int),())) fun(o:Int×Bool×Int×Unit)=>if decide (o.2.2.1>o.1)then some ((0:Int),false)else if o.2.1 then some (i64.wrap (0-i64.wrap o.2.2.1),true)else some (i64.wrap o.2.2.1,true))=some (if a<Dz neg N d mode then(0,false)else(if neg then-(Dz neg N d mode:Int)else(Dz neg N d mode:Int),true)):=by
    intro k r;rw[<-r,bs];dsimp only;by_cases j:a<k
    ·have g:decide ((k:Int)>(a:Int))=true:=Am (by omega);rw[g,Ao rfl,Ao j]
    ·have g:decide ((k:Int)>(a:Int))=false:=Al (by omega);rw[g,An (by decide),An j,AI (n:=(k:Int)) (by omega) (by omega),AI (by omega) (by omega)];cases neg
     ·rfl
     ·simp
   by_cases f:cV neg (N/d) (N % d) d mode=true
   ·rw[f,Ao rfl];exact s _ (by unfold Dz;rw[Ao f])
   ·rw[Bool.eq_false_iff.2 f,An (by decide)];exact s _ (by unfold Dz;rw[An f];rfl)
theorem Aha{c num den mode:Int}(t: -9223372036854775808<=c)(s:c<=9223372036854775807)(n1: -9223372036854775808<=num)(n2:num<=9223372036854775807)(v:den<=9223372036854775807):N2 (c,num,den,mode)=some (KK c num den mode):=by
 unfold N2 KK;dsimp only;rw[TW,bs];by_cases q: -1125899906842624<=c/\c<=1125899906842624
 ·rw[Am q,An (show ¬((!true)=true) by decide),An (show ¬¬(-1125899906842624<=c/\c<=1125899906842624)from fun k=>k q)];by_cases r:den=0
  ·subst r;rfl
  have g:(den==0)=false:=by simpa using r
  rw[g,An (by decide),An r];by_cases l:den<0
  ·rw[Am l,Ao rfl,Ao l]
  rw[Al l,An (by decide),An l]
  have m:(Option.bind (if decide (mode<0)=false then(((if decide (mode<0)=false then some mode else none).bind (fun e=>some (e,(4:Int)))).map (fun a=>(decide (a.1>a.2)))).map some else some none) fun f=>(Option.bind (if decide (mode<0)then some true else f.map (fun b=>b)) some))=some (decide (mode<0\/4<mode)):=by
   by_cases j:mode<0
   ·simp only[Am j,if_true,Bool.true_eq_false,if_false,bs];simp[j]
   ·simp only[Al j,if_true,Ah,if_false,bs,ms];simp[j]
  have k:∀{β:Type} (F:Bool->Option β),(Option.bind (if decide (mode<0)=false then(((if decide (mode<0)=false then some mode else none).bind (fun e=>some (e,(4:Int)))).map (fun a=>(decide (a.1>a.2)))).map some else some none) fun f=>(Option.bind (if decide (mode<0)then some true else f.map (fun b=>b)) F))=F (decide (mode<0\/4<mode)):=by
   intro β F;have:=congrArg (fun o=>Option.bind o F) m;simp only[bs]at this;rw[<-this,Option.bind_assoc]
   congr 1
   funext x;rw[Option.bind_assoc];rfl
  rw[k];by_cases i:mode<0\/4<mode
  ·rw[Am i,Ao rfl,Ao i]
  rw[Al i,An (by decide),An i];obtain⟨d,rfl⟩:=Int.eq_ofNat_of_zero_le (show 0<=den by omega);rw[E6 (show d<18446744073709551616 by omega),show(1125899906842624:Int)=((1125899906842624:Nat):Int)from rfl,Ag9 t s n1 n2 (by omega) (by omega) (Nat.le_refl _),bs,Int.toNat_natCast];by_cases h:1125899906842624<Dz (Ez c num) (c.natAbs*num.natAbs) d mode
  ·rw[Ao h,Ao h];rfl
  ·rw[An h,An h];rfl
 ·rw[Al q,Ao (by decide),Ao q]
theorem Ahj(c:Int):N4 c=some (decide (-1000000000<=c/\c<=1000000000)):=by
 unfold N4;by_cases a: -1000000000<=c
 ·have g:decide (c≥ -1000000000)=true:=by simpa using a
  simp only[g,if_true,bs,ms];simp[a]
 ·have g:decide (c≥ -1000000000)=false:=by simpa using a
  simp only[g,Ah,if_false,bs];simp[a]
theorem orK{β:Type}(a b:Bool)(x:Int)(G:Int->Option Bool)(i:a=true->G x=some b)(F:Bool->Option β):
  (Option.bind (if(!a)=false then(((if(!a)=false then some x else none).map (fun f=>f)).bind (fun e=>G e)).map some else some none) fun h=>Option.bind (if(!a)=false then(h.map (fun d=>(!d))).map some else some none) fun g=>Option.bind (if(!a)then some true else g.map (fun c=>c)) F)=F (!(a&&b)):=by
 cases a
 ·rfl
 ·simp only[Bool.not_true,if_true,bs,ms,i rfl,Ah,if_false,Bool.true_and]
def ca(c r mode:Int):Int×Int:=if(-1125899906842624<=c/\c<=1125899906842624)/\(-1000000000<=r/\r<=1000000000)then KK c r 1000000 mode else(0,2)
theorem Xx{c r mode:Int}(b: -9223372036854775808<=c)(a:c<=9223372036854775807):Hj (c,r,mode)=some (ca c r mode):=by
 unfold Hj ca;dsimp only;rw[TW,bs,orK _ _ _ _ (fun _=>Ahj r)];by_cases h:(-1125899906842624<=c/\c<=1125899906842624)/\(-1000000000<=r/\r<=1000000000)
 ·rw[Ao h,Am h.1,Am h.2,An (by decide),Aha b a (by omega) (by omega) (by omega)];rfl
 ·rw[An h,Ao];rw[<-Bool.decide_and,Al h];rfl
theorem aH{S T:Type}{b:S->Option (S⊕T)}{s s':S}(h:b s=some (.inl s')):iter b s=iter b s':=by rw[Kg,h];rfl
theorem ay{S T:Type}{b:S->Option (S⊕T)}{s:S}{t:T}(h:b s=some (.inr t)):iter b s=some t:=by rw[Kg,h];rfl
theorem Ahz{pre t:List UInt8}{b:UInt8}:bX (pre++b::t) (pre.length:Int)=some (b.toNat:Int):=XX (by simp)
def cN(b:UInt8):Bool:= !((decide ((b.toNat:Int)<97)||decide ((b.toNat:Int)>122))&&(decide ((b.toNat:Int)<48)||decide ((b.toNat:Int)>57))&&((b.toNat:Int) !=46)&&((b.toNat:Int) !=95)&&((b.toNat:Int) !=45))
def CE(s:List UInt8):Bool:=s.all cN&& !(s== [])&& !(s== [45])&&decide ((s.length:Int)<=32)
theorem VH{pre t:List UInt8}{b:UInt8}{n:Int}(c:decide ((pre.length:Int)<n)=true):
  JZ (pre++b::t,n,(pre.length:Int),())=some (if cN b=true then .inl (pre++b::t,n,i64.wrap ((pre.length:Int)+1),())else .inr (.inr false)):=by
 unfold JZ;dsimp only;simp only[aN,aK,aO,aM,aL,gM,aS,B5,aP,B6,BC,aU,aT,aR,aQ,B2,B4,B7,BB,B3,BA,ao];simp only[BH,BI,BJ,BK,BL,BM,BN,BO,ao,BG,aX,aW,aY,aZ,bs,ms];simp only[c,if_true,Ahz,bs];unfold cN;generalize decide ((b.toNat:Int)<97)=q1;generalize decide ((b.toNat:Int)>122)=q2;generalize decide ((b.toNat:Int)<48)=q3;generalize decide ((b.toNat:Int)>57)=q4;generalize ((b.toNat:Int) !=46)=q5;generalize ((b.toNat:Int) !=95)=q6;generalize ((b.toNat:Int) !=45)=q7;cases q1<;>cases q2<;>cases q3<;>cases q4<;>cases q5<;>cases q6<;>cases q7<;>rfl
theorem VG:∀(t pre:List UInt8),pre.length+t.length<=4611686018427387904->iter JZ (pre++t,((pre++t).length:Int),(pre.length:Int),())=some (if t.all cN then .inl (pre++t,())else .inr false)
 | [],pre,h2=>by
  refine ay ?_;unfold JZ;dsimp only;have c:decide ((pre.length:Int)<(((pre++ []):List UInt8).length:Int))=false:=Al (by simp);simp only[c,Ah,if_false,List.all_nil,if_true]
 |b::t,pre,h2=>by
  simp only[Au]at h2;have w1:i64.wrap ((pre.length:Int)+1)=((pre++ [b]).length:Int):=by rw[AI (by omega) (by omega)];simp
  have c:decide ((pre.length:Int)<(((pre++b::t):List UInt8).length:Int))=true:=Am (by simp;omega);by_cases a:cN b=true
  ·have e:=VG t (pre++ [b]) (by simp;omega);rw[Ax,List.singleton_append]at e;refine(aH (s':=(pre++b::t,((pre++b::t).length:Int),((pre++ [b]).length:Int),())) ?_).trans (e.trans ?_)
   ·rw[VH c,Ao a,w1]
   ·simp[a]
  ·refine(ay (t:=Sum.inr false) ?_).trans ?_
   ·rw[VH c,An a]
   ·simp[a]
theorem Aes{s:List UInt8}(h:s.length<=4611686018427387904):IC s=some (CE s):=by
 unfold IC;dsimp only;simp only[aN,aK,aO,aM,aL,gM,aS,B5,aP,B6,BC,aU,aT,aR,aQ,B2,B4,B7,BB,B3,BA,ao];simp only[BH,BI,BJ,BK,BL,BM,BN,BO,ao,BG,aX,aW,aY,aZ,bs,ms];have:=VG s [] (by simpa using h);simp only[Ay,Av]at this;rw[show((0:Nat):Int)=0 from rfl]at this;rw[this];unfold CE
 cases a:s.all cN with
 |true=>
  simp only[if_true,bs];cases s== []<;>cases s== [45]<;>rfl
 |false=>rfl
theorem K0{s:List UInt8}:J9 s=some (CE s):=by
 unfold J9;dsimp only
 have key:JY (0,1,13,0,0,[],0,s)=some (if CE s=true then 0 else if decide ((s.length:Int)>4096)=true then 4 else 3):=by
  unfold JY;dsimp only;rw[show PB 13=some true from rfl];rw[show PD ()=some _ from rfl];simp only[aN,aK,aO,aM,aL,gM,aS,B5,aP,B6,BC,aU,aT,aR,aQ,B2,B4,B7,BB,B3,BA,ao];simp only[BH,BI,BJ,BK,BL,BM,BN,BO,ao,BG,aX,aW,aY,aZ,bs,ms];rw[An (by decide)];rw[show an _ (13:Int)=some _ from Kj (i:=13) rfl,bs];dsimp only;rw[An (by decide)];rw[show P9 ((0,1,13,0,0,[],0,s),[98,97,110,107],false,true,Sum.inl (),0,0,Sum.inr (Sum.inr (Sum.inr (Sum.inr (Sum.inl ())))))=some 0 from rfl,bs];rw[An (by decide)];rw[show PA []=some true from rfl,bs];rw[An (by decide)];rw[show(if decide ((0:Int)<0)=true then some true else some (decide ((0:Int)>0)))=some false from rfl,bs];rw[An (by decide)];by_cases h:(s.length:Int)>4096
  ·have d:decide ((s.length:Int)>4096)=true:=Am h
   have e:CE s=false:=by
    have:decide ((s.length:Int)<=32)=false:=Al (by omega);simp[CE,this]
   rw[d,Ao rfl,e,An (by decide),Ao rfl]
  ·have d:decide ((s.length:Int)>4096)=false:=Al h;rw[d,An (by decide)];unfold PE;dsimp only;rw[Aes (by omega),bs,bs];cases CE s<;>rfl
 rw[key,bs];by_cases h:CE s=true
 ·rw[Ao h,h];rfl
 ·rw[An h];have:CE s=false:=by simpa using h
  rw[this];split<;>rfl
abbrev It:=List UInt8×Int
def ET:Int->List It->List It×Int
 |left,[]=>([],left)
 |left,x::l=>if min x.2 left>0 then((x.1,min x.2 left)::(ET (left-min x.2 left) l).1,(ET (left-min x.2 left) l).2)else ET left l
theorem CZ{a:Type}{pre t:List a}{b:a}:an (pre++b::t) (pre.length:Int)=some b:=Kj (by simp)
theorem OV{a:Type}{xs:List a}{y:a}{k:Int}(c:xs.length<=1000000)(b:0<=k/\k<=1000){β:Type}{f:Option β}:
  (if((xs.length:Int)+(([y]:List a).length:Int))*k<=140737488355328/\(xs.length:Int)+(([y]:List a).length:Int)<=4611686018427387904 then f else none)=f:=by
 rw[Ao];have d:((xs.length:Int)+(([y]:List a).length:Int))*k<=2000000*1000:=Int.mul_le_mul (by simp;omega) b.2 b.1 (by omega);refine⟨by omega,by simp;omega⟩
def Et(n:Int):Prop:= -9223372036854775808<=n/\n<=9223372036854775807
theorem OC:∀(l pre:List It) (left:Int) (acc:List It),Et left->(∀x∈l,Et x.2)->acc.length<=pre.length->pre.length+l.length<=100000->
  iter J5 (left,pre++l,((pre++l).length:Int),(pre.length:Int),acc,(),())=some ((ET left l).2,acc++(ET left l).1,(),())
 | [],pre,left,acc,hl,hx,ha,hn=>by
  refine ay ?_;unfold J5;dsimp only;have c:decide ((pre.length:Int)<(((pre++ []):List It).length:Int))=false:=Al (by simp);rw[c,An (by decide)];simp[ET]
 |x::l,pre,left,acc,hl,hx,ha,hn=>by
  simp only[Au]at hn;have h:=hx x (by simp);have a:∀y∈l,Et y.2:=fun y g=>hx y (by simp[g]);have w1:i64.wrap ((pre.length:Int)+1)=((pre++ [x]).length:Int):=by rw[AI (by omega) (by omega)];simp
  have c:decide ((pre.length:Int)<(((pre++x::l):List It).length:Int))=true:=Am (by simp;omega);unfold Et at*;by_cases b:min x.2 left>0
  ·have e:=OC l (pre++ [x]) (left-min x.2 left) (acc++ [(x.1,min x.2 left)]) ⟨by omega,by omega⟩ a (by simp;omega) (by simp;omega);rw[Ax,List.singleton_append]at e;refine(aH (s':=(left-min x.2 left,pre++x::l,((pre++x::l).length:Int),((pre++ [x]).length:Int),acc++ [(x.1,min x.2 left)],(),())) ?_).trans (e.trans ?_)
   ·unfold J5;dsimp only;simp only[aN,aK,aO,aM,aL,gM,aS,B5,aP,B6,BC,aU,aT,aR,aQ,B2,B4,B7,BB,B3,BA,ao];simp only[BH,BI,BJ,BK,BL,BM,BN,BO,ao,BG,aX,aW,aY,aZ,bs,ms];unfold FD;dsimp only;have d:decide (min x.2 left>0)=true:=Am b;have f:i64.wrap (left-min x.2 left)=left-min x.2 left:=AI (by omega) (by omega);simp only[c,if_true,CZ,bs,d];rw[OV (by omega) (by decide),bs,w1,f]
   ·simp[ET,b]
  ·have e:=OC l (pre++ [x]) left acc hl a (by simp;omega) (by simp;omega);rw[Ax,List.singleton_append]at e;refine(aH (s':=(left,pre++x::l,((pre++x::l).length:Int),((pre++ [x]).length:Int),acc,(),())) ?_).trans (e.trans ?_)
   ·unfold J5;dsimp only;simp only[aN,aK,aO,aM,aL,gM,aS,B5,aP,B6,BC,aU,aT,aR,aQ,B2,B4,B7,BB,B3,BA,ao];simp only[BH,BI,BJ,BK,BL,BM,BN,BO,ao,BG,aX,aW,aY,aZ,bs,ms];unfold FD;dsimp only;have d:decide (min x.2 left>0)=false:=Al b;simp only[c,if_true,CZ,bs,d,Ah,if_false,w1]
   ·simp[ET,b]
theorem YL{left:Int}{l:List It}(c:Et left)(a:∀x∈l,Et x.2)(b:l.length<=100000):J4 (left,l)=some ((ET left l).1,(ET left l).2):=by
 unfold J4;dsimp only;have:=OC l [] left [] c a (by simp) (by simpa using b);simp only[Ay,Av]at this;rw[show((0:Nat):Int)=0 from rfl]at this;rw[this];rfl
def AO(a:Int):Bool:=decide (-1125899906842624<=a)&&decide (a<=1125899906842624)
def addS(a b:Int):Int×Int:=if(AO a&&AO b)=true then(if AO (a+b)=true then(a+b,0)else(0,9))else(0,2)
def DR:Int->List Int->Int×Int
 |s,[]=>(s,0)
 |s,x::l=>if(addS s x).2=0 then DR (addS s x).1 l else(0,(addS s x).2)
theorem E9(a:Int):Df a=some (AO a):=by
 unfold Df AO;dsimp only;simp only[aN,aK,aO,aM,aL,gM,aS,B5,aP,B6,BC,aU,aT,aR,aQ,B2,B4,B7,BB,B3,BA,ao];simp only[BH,BI,BJ,BK,BL,BM,BN,BO,ao,BG,aX,aW,aY,aZ,bs,ms];by_cases h:a≥ -1125899906842624
 ·rw[Am h,Ao rfl];rfl
 ·rw[Al h,An (by decide)];rfl
theorem RI(a b:Int):Ma (a,b)=some (addS a b):=by
 unfold Ma;dsimp only
 have:Mc (a,b,i64.wrap (a+b))=some (addS a b):=by
  unfold Mc;dsimp only;simp only[BH,BI,BJ,BK,BL,BM,BN,BO,ao,BG,aX,aW,aY,aZ,bs,ms];rw[E9,bs];unfold addS
  cases d:AO a with
  |false=>rfl
  |true=>
   simp only[Bool.not_true,Ah,if_false,Bool.true_and];rw[E9,bs,bs]
   cases c:AO b with
   |false=>rfl
   |true=>
    simp only[AO,Ag,decide_eq_true_eq]at d c;have w:i64.wrap (a+b)=a+b:=AI (by omega) (by omega);simp only[Bool.not_true,Ah,if_false,if_true];rw[E9,bs,w];cases AO (a+b)<;>rfl
 rw[this];rfl
theorem T0:∀(l pre:List Int) (s:Int),pre.length+l.length<=100000->
  iter JF (s,pre++l,((pre++l).length:Int),(pre.length:Int),())=some (if(DR s l).2=0 then .inl ((DR s l).1,())else .inr (0,(DR s l).2))
 | [],pre,s,hn=>by
  refine ay ?_;unfold JF;dsimp only;have c:decide ((pre.length:Int)<(((pre++ []):List Int).length:Int))=false:=Al (by simp);rw[c,An (by decide)];simp[DR]
 |x::l,pre,s,hn=>by
  simp only[Au]at hn;have w1:i64.wrap ((pre.length:Int)+1)=((pre++ [x]).length:Int):=by rw[AI (by omega) (by omega)];simp
  have c:decide ((pre.length:Int)<(((pre++x::l):List Int).length:Int))=true:=Am (by simp;omega);have e:=T0 l (pre++ [x]) (addS s x).1 (by simp;omega);rw[Ax,List.singleton_append]at e;by_cases a:(addS s x).2=0
  ·refine(aH (s':=((addS s x).1,pre++x::l,((pre++x::l).length:Int),((pre++ [x]).length:Int),())) ?_).trans (e.trans ?_)
   ·unfold JF;dsimp only;rw[c,Ao rfl,CZ];simp only[bs,ms,RI];have d:((addS s x).2 !=0)=false:=by simp[a]
    rw[d,An (by decide),w1]
   ·simp[DR,a]
  ·refine(ay (t:=Sum.inr (0,(addS s x).2)) ?_).trans ?_
   ·unfold JF;dsimp only;rw[c,Ao rfl,CZ];simp only[bs,ms,RI];have d:((addS s x).2 !=0)=true:=by simpa using a
    rw[d,Ao rfl]
   ·simp[DR,a]
theorem Y4:∀(l:List Int) (s:Int),(DR s l).2≠0->(DR s l).1=0
 | [],s,h=>by simp[DR]at h
 |x::l,s,h=>by
  unfold DR at h⊢;by_cases a:(addS s x).2=0
  ·rw[Ao a]at h⊢;exact Y4 l _ h
  ·rw[An a]
theorem YX{l:List Int}(a:l.length<=100000):Mb l=some (DR 0 l):=by
 unfold Mb;dsimp only;have:=T0 l [] 0 (by simpa using a);simp only[Ay,Av]at this;rw[show((0:Nat):Int)=0 from rfl]at this;rw[this,bs];by_cases h:(DR 0 l).2=0
 ·rw[Ao h];dsimp only;exact congrArg some (Prod.ext rfl h.symm)
 ·rw[An h];dsimp only;exact congrArg some (Prod.ext (Y4 l 0 h).symm rfl)
theorem TZ:∀(l pre:List It) (acc:List Int),acc.length<=pre.length->pre.length+l.length<=100000->
  iter LU (pre++l,((pre++l).length:Int),(pre.length:Int),acc,(),())=some (acc++l.map (·.2),(),())
 | [],pre,acc,ha,hn=>by
  refine ay ?_;unfold LU;dsimp only;have c:decide ((pre.length:Int)<(((pre++ []):List It).length:Int))=false:=Al (by simp);rw[c,An (by decide)];simp
 |x::l,pre,acc,ha,hn=>by
  simp only[Au]at hn;have w1:i64.wrap ((pre.length:Int)+1)=((pre++ [x]).length:Int):=by rw[AI (by omega) (by omega)];simp
  have c:decide ((pre.length:Int)<(((pre++x::l):List It).length:Int))=true:=Am (by simp;omega);have e:=TZ l (pre++ [x]) (acc++ [x.2]) (by simp;omega) (by simp;omega);rw[Ax,List.singleton_append]at e;refine(aH (s':=(pre++x::l,((pre++x::l).length:Int),((pre++ [x]).length:Int),acc++ [x.2],(),())) ?_).trans (e.trans ?_)
  ·unfold LU;dsimp only;simp only[c,if_true,CZ,bs,ms];rw[OV (by omega) (by decide),bs,w1]
  ·simp
theorem Zq{l:List It}(a:l.length<=100000):J6 l=some (DR 0 (l.map (·.2))):=by
 unfold J6;dsimp only;have:=TZ l [] [] (by simp) (by simpa using a);simp only[Ay,Av]at this;rw[show((0:Nat):Int)=0 from rfl]at this;rw[this,bs];dsimp only;rw[YX (by simpa using a)];rfl
abbrev MI:=List (List UInt8×Int)
abbrev bu:=List UInt8×Int×Int
theorem cP(a b:List UInt8):aj Ty.str a b=true<->a=b:=beq_iff_eq
def A7(k:List UInt8)(m:MI):Int:=(AW (aj Ty.str) (AT (Ty.int IntKind.i64)) k m).1
def Di(k:List UInt8)(v:Int)(m:MI):MI:=Bw (aj Ty.str) k v m
theorem PN(k a:List UInt8)(v:Int)(m:MI):A7 k (Di a v m)=if k=a then v else A7 k m:=by
 unfold A7 Di;rw[LD cP];split<;>rfl
theorem Kb(k:List UInt8):A7 k []=0:=rfl
def Ck(c:Int):Bool:=decide (0<=c)&&decide (c<=1125899906842624)
theorem Jk(c:Int):H6 c=some (Ck c):=by
 unfold H6 Ck;dsimp only;simp only[aN,aK,aO,aM,aL,gM,aS,B5,aP,B6,BC,aU,aT,aR,aQ,B2,B4,B7,BB,B3,BA,ao];simp only[BH,BI,BJ,BK,BL,BM,BN,BO,ao,BG,aX,aW,aY,aZ,bs,ms];by_cases h:c≥0
 ·rw[Am h,Ao rfl];rfl
 ·rw[Al h,An (by decide)];rfl
theorem Hk{c:Int}:Ck c=true<->0<=c/\c<=1125899906842624:=by simp[Ck]
def KY(g:Int)(l:bu)(now a:Int):Int:=
 max (if l.2.2≠0 then min (if l.2.1≠1000000 then min g ((ca g l.2.1 1).1-now)else g) (l.2.2-a)else(if l.2.1≠1000000 then min g ((ca g l.2.1 1).1-now)else g)) 0
theorem Agd(g r:Int): -1125899906842624<=(ca g r 1).1/\(ca g r 1).1<=1125899906842624:=by
 unfold ca;split
 ·unfold KK;split
  ·simp
  ·split
   ·simp
   ·split
    ·simp
    ·split
     ·simp
     ·split
      ·simp
      ·dsimp only;split<;>omega
 ·simp
def FR(l:bu):Bool:=decide (0<=l.2.1)&&decide (l.2.1<=1000000)&&Ck l.2.2
theorem Ahk{g:Int}{l:bu}{now b:Int}(t:0<=g/\g<=1125899906842624)(k:FR l=true)(s:0<=now/\now<=1125899906842624)(q:0<=b/\b<=1125899906842624):
  JA (g,l,now,b)=some (KY g l now b):=by
 obtain⟨c,e,a⟩:=l;simp only[FR,Ag,decide_eq_true_eq,Hk]at k;obtain⟨⟨o,m⟩,y1,y2⟩:=k;have r:=Agd g e;unfold JA KY;dsimp only;rw[Xx (by omega) (by omega)];unfold FD HA;dsimp only;have w1:i64.wrap ((ca g e 1).1-now)=(ca g e 1).1-now:=AI (by omega) (by omega);have j:i64.wrap (a-b)=a-b:=AI (by omega) (by omega);by_cases i:e=1000000
 ·have d:(e !=1000000)=false:=by simp[i]
  simp only[d,Ah,if_false,bs];by_cases f:a=0
  ·have h:(a !=0)=false:=by simp[f]
   simp only[h,Ah,if_false,bs];simp[i,f]
  ·have h:(a !=0)=true:=by simpa using f
   simp only[h,if_true,bs,j,i,ne_eq,not_true_eq_false,if_false,f,not_false_eq_true]
 ·have d:(e !=1000000)=true:=by simpa using i
  simp only[d,if_true,bs,w1];by_cases f:a=0
  ·have h:(a !=0)=false:=by simp[f]
   simp only[h,Ah,if_false,bs];simp[i,f]
  ·have h:(a !=0)=true:=by simpa using f
   simp only[h,if_true,bs,j,i,ne_eq,not_false_eq_true,f]
abbrev bD:=List (List UInt8×bu)
def byZ:bu:=AT (Ty.str.cons ((Ty.int IntKind.i64).cons (Ty.int IntKind.i64).one)).agg
def getB(k:List UInt8)(m:bD):bu×Bool:=AW (aj Ty.str) byZ k m
def BW(g:Int)(by_:bD)(left:Int)(now a:MI)(x:It):Int:=
 if(getB x.1 by_).2=true then min (min x.2 left) (KY (max g 0) (getB x.1 by_).1 (A7 x.1 now) (A7 x.1 a))else min x.2 left
def DD(g:Int)(by_:bD)(was:MI):Int->MI->MI->List It->List It->List It×MI×Int
 |_,_,year,out,[]=>(out,year,0)
 |left,now,year,out,x::l=>
  if CE x.1=false then([],[],12)
  else if(Ck x.2&&Ck (A7 x.1 was))=false then([],[],2)
  else if Ck (A7 x.1 year+BW g by_ left now year x)=false then([],[],9)
  else DD g by_ was (left-BW g by_ left now year x) (Di x.1 (A7 x.1 now+BW g by_ left now year x) now) (Di x.1 (A7 x.1 year+BW g by_ left now year x) year)
   (if BW g by_ left now year x>0 then out++ [(x.1,BW g by_ left now year x)]else out) l
theorem Zz{A B C:Type}{a:Option A}{v:A}{f:A->Option B}{g:B->Option C}(h:a=some v):(a.bind f).bind g=(f v).bind g:=by rw[h];rfl
theorem fM(k:List UInt8)(m:MI):(AW (aj Ty.str) (AT (Ty.int IntKind.i64)) k m).1=A7 k m:=rfl
theorem fB(k:List UInt8)(m:bD):AW (aj Ty.str) (AT (Ty.str.cons ((Ty.int IntKind.i64).cons (Ty.int IntKind.i64).one)).agg) k m=getB k m:=rfl
theorem fP(k:List UInt8)(v:Int)(m:MI):Bw (aj Ty.str) k v m=Di k v m:=rfl
structure H0 (g left:Int) (by_:bD) (was now year:MI):Prop where
 gR:Et g
 gG:max g 0<=1125899906842624
 l0:0<=left
 lG:left<=max g 0
 nowI:∀k,0<=A7 k now/\A7 k now<=max g 0-left
 yearI:∀k,A7 k year=A7 k was+A7 k now/\(A7 k now=0\/Ck (A7 k year)=true)
 limI:∀k,(getB k by_).2=true->FR (getB k by_).1=true
theorem Ajv{g left:Int}{by_:bD}{was now a:MI}(h:H0 g left by_ was now a){x:It}(b:0<=x.2):0<=BW g by_ left now a x/\BW g by_ left now a x<=left/\BW g by_ left now a x<=x.2:=by
 have d:=h.l0;unfold BW;split
 ·have c:0<=KY (max g 0) (getB x.1 by_).1 (A7 x.1 now) (A7 x.1 a):=by unfold KY;omega
  omega
 ·omega
theorem Ak9{g left:Int}{by_:bD}{was now a:MI}(h:H0 g left by_ was now a){k:List UInt8}(c:Ck (A7 k was)=true):Ck (A7 k a)=true:=by
 obtain⟨d,b⟩:=h.yearI k;rcases b with b|b
 ·rw[d,b,Int.add_zero];exact c
 ·exact b
theorem H0.step{g left:Int}{by_:bD}{was now a:MI}(h:H0 g left by_ was now a){x:It}{c:Int}(i:0<=c/\c<=left)(d:Ck (A7 x.1 a+c)=true):
  H0 g (left-c) by_ was (Di x.1 (A7 x.1 now+c) now) (Di x.1 (A7 x.1 a+c) a):=by
 refine⟨h.gR,h.gG,by omega,by have:=h.lG;omega,fun k=> ?_,fun k=> ?_,h.limI⟩
 ·rw[PN];have b:=h.nowI k;have f:=h.nowI x.1;split
  ·omega
  ·omega
 ·rw[PN,PN];have b:=h.yearI k;have f:=h.yearI x.1;split
  ·rename_i e;subst e;exact⟨by omega,.inr d⟩
  ·exact b
theorem T9{g:Int}{by_:bD}{was:MI}:∀(l pre:List It) (left:Int) (now a:MI) (out:List It),H0 g left by_ was now a->out.length<=pre.length->pre.length+l.length<=1000->
  iter H5 (g,was,by_,left,pre++l,((pre++l).length:Int),(pre.length:Int),now,a,out,(),(),(),())=
   some (if(DD g by_ was left now a out l).2.2=0 then .inl ((DD g by_ was left now a out l).2.1,(DD g by_ was left now a out l).1,(),(),())else .inr (DD g by_ was left now a out l))
 | [],pre,left,now,a,out,h,ho,hn=>by
  refine ay ?_;unfold H5;dsimp only;have c:decide ((pre.length:Int)<(((pre++ []):List It).length:Int))=false:=Al (by simp);rw[c,An (by decide)];rfl
 |x::l,pre,left,now,a,out,h,ho,hn=>by
  simp only[Au]at hn;have w1:i64.wrap ((pre.length:Int)+1)=((pre++ [x]).length:Int):=by rw[AI (by omega) (by omega)];simp
  have c:decide ((pre.length:Int)<(((pre++x::l):List It).length:Int))=true:=Am (by simp;omega);by_cases b:CE x.1=true
  ·by_cases d:(Ck x.2&&Ck (A7 x.1 was))=true
   ·have k:=d;simp only[Ag]at k;obtain⟨r1,q⟩:=k;have w:=Ak9 h q;have A:=Hk.1 r1;have y:=Hk.1 w;have E:=Ajv h A.1;have I:=h.gG;have F:=h.lG
    have f:H5 (g,was,by_,left,pre++x::l,((pre++x::l).length:Int),(pre.length:Int),now,a,out,(),(),(),())=
      if Ck (A7 x.1 a+BW g by_ left now a x)=true then
       some (.inl (g,was,by_,left-BW g by_ left now a x,pre++x::l,((pre++x::l).length:Int),((pre++ [x]).length:Int),Di x.1 (A7 x.1 now+BW g by_ left now a x) now,Di x.1 (A7 x.1 a+BW g by_ left now a x) a,
        if BW g by_ left now a x>0 then out++ [(x.1,BW g by_ left now a x)]else out,(),(),(),()))
      else some (.inr (.inr ([],[],9))):=by
     unfold H5;dsimp only;simp only[aN,aK,aO,aM,aL,gM,aS,B5,aP,B6,BC,aU,aT,aR,aQ,B2,B4,B7,BB,B3,BA,ao];simp only[BH,BI,BJ,BK,BL,BM,BN,BO,ao,BG,aX,aW,aY,aZ,bs,ms];rw[c,Ao rfl,CZ,bs,K0,bs,b,An (by decide),Jk,bs,r1,An (by decide),Jk,fM,q];simp only[bs,Bool.not_true,Ah,if_false,FD,HA];refine(Zz (v:=(g,was,by_,left,BW g by_ left now a x,pre++x::l,((pre++x::l).length:Int),(pre.length:Int),x.1,x.2,now,a,out,(),(),(),(),(),())) ?_).trans ?_
     ·change(if(getB x.1 by_).2=true then(JA (max g 0,(getB x.1 by_).1,A7 x.1 now,A7 x.1 a)).bind fun s=>some (g,was,by_,left,min (min x.2 left) s,pre++x::l,((pre++x::l).length:Int),(pre.length:Int),x.1,x.2,now,a,out,(),(),(),(),(),())
       else some (g,was,by_,left,min x.2 left,pre++x::l,((pre++x::l).length:Int),(pre.length:Int),x.1,x.2,now,a,out,(),(),(),(),(),()))=_
      unfold BW;by_cases o:(getB x.1 by_).2=true
      ·have m:=h.nowI x.1;have B:=h.l0;rw[Ao o,Ao o,Ahk ⟨by omega,I⟩ (h.limI _ o) ⟨m.1,by omega⟩ y,bs]
      ·rw[An o,An o]
     ·generalize BW g by_ left now a x=T at*;have m:=h.nowI x.1;have B:=h.l0;have G:=h.gR;have t:i64.wrap (A7 x.1 a+T)=A7 x.1 a+T:=AI (by omega) (by omega);have C:i64.wrap (A7 x.1 now+T)=A7 x.1 now+T:=AI (by omega) (by omega);have D:i64.wrap (left-T)=left-T:=AI (by omega) (by omega);dsimp only;simp only[Jk,bs];change Option.bind (if(!Ck (i64.wrap (A7 x.1 a+T)))=true then _ else _) _=_;rw[t]
      cases J:Ck (A7 x.1 a+T)with
      |false=>rfl
      |true=>
       rw[An (by decide),Ao rfl];by_cases r:T>0
       ·rw[Am r,Ao rfl,Ao r,OV (by omega) (by decide),bs];dsimp only;change some (Sum.inl (g,was,by_,i64.wrap (left-T),pre++x::l,((pre++x::l).length:Int),i64.wrap ((pre.length:Int)+1),Di x.1 (i64.wrap (A7 x.1 now+T)) now,Di x.1 (i64.wrap (A7 x.1 a+T)) a,out++ [(x.1,T)],(),(),(),()))=_;rw[D,w1,C,t]
       ·rw[Al r,An (by decide),An r,bs];dsimp only;change some (Sum.inl (g,was,by_,i64.wrap (left-T),pre++x::l,((pre++x::l).length:Int),i64.wrap ((pre.length:Int)+1),Di x.1 (i64.wrap (A7 x.1 now+T)) now,Di x.1 (i64.wrap (A7 x.1 a+T)) a,out,(),(),(),()))=_;rw[D,w1,C,t]
    by_cases i:Ck (A7 x.1 a+BW g by_ left now a x)=true
    ·rw[Ao i]at f
     have e:=T9 (g:=g) (by_:=by_) (was:=was) l (pre++ [x]) (left-BW g by_ left now a x) (Di x.1 (A7 x.1 now+BW g by_ left now a x) now) (Di x.1 (A7 x.1 a+BW g by_ left now a x) a)
      (if BW g by_ left now a x>0 then out++ [(x.1,BW g by_ left now a x)]else out) (h.step ⟨E.1,E.2.1⟩ i) (by split<;>simp<;>omega) (by simp;omega)
     rw[Ax,List.singleton_append]at e;rw[aH f,e]
     have j:DD g by_ was left now a out (x::l)=DD g by_ was (left-BW g by_ left now a x) (Di x.1 (A7 x.1 now+BW g by_ left now a x) now) (Di x.1 (A7 x.1 a+BW g by_ left now a x) a) (if BW g by_ left now a x>0 then out++ [(x.1,BW g by_ left now a x)]else out) l:=by
      rw[DD,An (by simp[b]),An (by simp[d]),An (by simp[i])]
     rw[j]
    ·rw[An i]at f;rw[ay f]
     have j:DD g by_ was left now a out (x::l)=([],[],9):=by
      rw[DD,An (by simp[b]),An (by simp[d]),Ao (by simpa using i)]
     rw[j];rfl
   ·have j:DD g by_ was left now a out (x::l)=([],[],2):=by
     rw[DD,An (by simp[b]),Ao (by simpa using d)]
    rw[j];refine ay ?_;unfold H5;dsimp only;simp only[aN,aK,aO,aM,aL,gM,aS,B5,aP,B6,BC,aU,aT,aR,aQ,B2,B4,B7,BB,B3,BA,ao];simp only[BH,BI,BJ,BK,BL,BM,BN,BO,ao,BG,aX,aW,aY,aZ,bs,ms];rw[c,Ao rfl,CZ,bs,K0,bs,b,An (by decide),Jk,bs]
    cases r1:Ck x.2 with
    |false=>rfl
    |true=>
     rw[An (by decide),Jk,fM]
     cases q:Ck (A7 x.1 was)with
     |false=>rfl
     |true=>exact absurd (by rw[r1,q];rfl) d
  ·have j:DD g by_ was left now a out (x::l)=([],[],12):=by
    rw[DD,Ao (by simpa using b)]
   rw[j];refine ay ?_;unfold H5;dsimp only;rw[c,Ao rfl,CZ];simp only[bs,ms,K0];have H:CE x.1=false:=by simpa using b
   rw[H];rfl
def Jb(k:List UInt8)(v:bu)(m:bD):bD:=Bw (aj Ty.str) k v m
theorem Aei(k a:List UInt8)(v:bu)(m:bD):getB k (Jb a v m)=if k=a then(v,true)else getB k m:=by
 unfold getB Jb;exact LD cP byZ k a v m
def CX:bD->List bu->bD×Int
 |m,[]=>(m,0)
 |m,x::l=>if CE x.1=false then([],12)else if(getB x.1 m).2=true then([],7)else if FR x=false then([],2)else CX (Jb x.1 x m) l
theorem Uc:∀(l pre:List bu) (m:bD),pre.length+l.length<=1000->
  iter J8 (pre++l,((pre++l).length:Int),(pre.length:Int),m,(),())=some (if(CX m l).2=0 then .inl ((CX m l).1,(),())else .inr (CX m l))
 | [],pre,m,hn=>by
  refine ay ?_;unfold J8;dsimp only;have c:decide ((pre.length:Int)<(((pre++ []):List bu).length:Int))=false:=Al (by simp);rw[c,An (by decide)];rfl
 |x::l,pre,m,hn=>by
  simp only[Au]at hn;have w1:i64.wrap ((pre.length:Int)+1)=((pre++ [x]).length:Int):=by rw[AI (by omega) (by omega)];simp
  have c:decide ((pre.length:Int)<(((pre++x::l):List bu).length:Int))=true:=Am (by simp;omega)
  have body:J8 (pre++x::l,((pre++x::l).length:Int),(pre.length:Int),m,(),())=
    if CE x.1=false then some (.inr (.inr ([],12)))else if(getB x.1 m).2=true then some (.inr (.inr ([],7)))else if FR x=false then some (.inr (.inr ([],2)))
    else some (.inl (pre++x::l,((pre++x::l).length:Int),((pre++ [x]).length:Int),Jb x.1 x m,(),())):=by
   obtain⟨g,b,o⟩:=x;unfold J8;dsimp only;simp only[aN,aK,aO,aM,aL,gM,aS,B5,aP,B6,BC,aU,aT,aR,aQ,B2,B4,B7,BB,B3,BA,ao];rw[c,Ao rfl,CZ,bs,K0,bs]
   cases a:CE g with
   |false=>rfl
   |true=>
    rw[An (show ¬((!true)=true) by decide),An (show ¬(true=false) by decide)];dsimp only;change(if(getB g m).2=true then _ else _)=_
    cases d:(getB g m).2 with
    |true=>rfl
    |false=>
     rw[An (show ¬(false=true) by decide),An (show ¬(false=true) by decide)];unfold FR;dsimp only;simp only[Jk,bs];by_cases k:b<0
     ·have i:decide (0<=b)=false:=Al (by omega);rw[Am k,Ao rfl,i];rfl
     ·have i:decide (0<=b)=true:=Am (by omega);rw[Al k,An (by decide),i];by_cases j:b>1000000
      ·have h:decide (b<=1000000)=false:=Al (by omega);rw[Am j,Ao rfl,h];rfl
      ·have h:decide (b<=1000000)=true:=Am (by omega);rw[Al j,An (by decide),h]
       cases Ck o with
       |false=>rfl
       |true=>
        rw[An (by decide),bs];dsimp only;rw[An (by decide),w1];rfl
  by_cases a:CE x.1=false
  ·rw[Ao a]at body;rw[ay body];have:CX m (x::l)=([],12):=by rw[CX,Ao a]
   rw[this];rfl
  ·rw[An a]at body;by_cases d:(getB x.1 m).2=true
   ·rw[Ao d]at body;rw[ay body];have:CX m (x::l)=([],7):=by rw[CX,An a,Ao d]
    rw[this];rfl
   ·rw[An d]at body;by_cases f:FR x=false
    ·rw[Ao f]at body;rw[ay body];have:CX m (x::l)=([],2):=by rw[CX,An a,An d,Ao f]
     rw[this];rfl
    ·rw[An f]at body;have e:=Uc l (pre++ [x]) (Jb x.1 x m) (by simp;omega);rw[Ax,List.singleton_append]at e;rw[aH body,e];have:CX m (x::l)=CX (Jb x.1 x m) l:=by rw[CX,An a,An d,An f]
     rw[this]
theorem Ub:∀(l:List bu) (m:bD),(∀k,(getB k m).2=true->FR (getB k m).1=true)->(CX m l).2=0->∀k,(getB k (CX m l).1).2=true->FR (getB k (CX m l).1).1=true
 | [],m,h,_=>h
 |x::l,m,h,h0=>by
  unfold CX at h0⊢;split at h0
  ·cases h0
  ·rename_i a;split at h0
   ·cases h0
   ·rename_i c;split at h0
    ·cases h0
    ·rename_i b;rw[An a,An c,An b];refine Ub l _ (fun k=> ?_) h0;rw[Aei];split
     ·intro _;simpa using b
     ·exact h k
def De(l:List bu):bD×Int:=if(l.length:Int)>64 then([],5)else CX [] l
theorem Z3{l:List bu}(h:(De l).2=0):∀k,(getB k (De l).1).2=true->FR (getB k (De l).1).1=true:=by
 unfold De at h⊢;by_cases a:(l.length:Int)>64
 ·rw[Ao a]at h;cases h
 ·rw[An a]at h⊢;exact Ub l [] (fun k b=>by cases b) h
theorem Z4(l:List bu):LV l=some (De l):=by
 unfold LV De;dsimp only;by_cases a:(l.length:Int)>64
 ·rw[Am a,Ao rfl,Ao a]
 ·rw[Al a,An (by decide),An a];have:=Uc l [] [] (by simp;omega);simp only[Ay,Av]at this;rw[show((0:Nat):Int)=0 from rfl]at this;rw[this,bs];by_cases b:(CX [] l).2=0
  ·rw[Ao b];exact congrArg some (Prod.ext rfl b.symm)
  ·rw[An b]
def R1(g:Int)(was:MI)(wanted:List It)(a:List bu):List It×MI×Int:=
 if AO g=false then([],[],2)
 else if(De a).2≠0 then([],[],(De a).2)
 else if(wanted.length:Int)>64 then([],[],5)
 else DD g (De a).1 was (max g 0) [] was [] wanted
theorem Ai3{g:Int}{was:MI}{a:List bu}(b:Et g)(c:AO g=true)(d:(De a).2=0):H0 g (max g 0) (De a).1 was [] was:=by
 simp only[AO,Ag,decide_eq_true_eq]at c;exact⟨b,by omega,by omega,by omega,fun k=>⟨by rw[Kb];omega,by rw[Kb];omega⟩,fun k=>⟨by rw[Kb];omega,.inl (Kb k)⟩,Z3 d⟩
theorem YY{g:Int}{was:MI}{wanted:List It}{a:List bu}(k:Et g)(j:∀p∈was,p.1.length<=9223372036854775807)(f:was.length<=9223372036854775807):J7 (g,was,wanted,a)=some (R1 g was wanted a):=by
 unfold J7 R1;dsimp only;rw[E9,bs]
 cases l:AO g with
 |false=>rfl
 |true=>
  rw[An (by decide),An (by decide),Z4,bs];by_cases b:(De a).2=0
  ·have e:((De a).2 !=0)=false:=by simp[b]
   rw[e,An (by decide),An (show ¬((De a).2≠0) by simp[b])];by_cases c:(wanted.length:Int)>64
   ·rw[Am c,Ao rfl,Ao c]
   ·rw[Al c,An (by decide),An c]
    have i:IS ([]:MI) was=some was:=by
     unfold IS;rw[Ao];exact⟨rfl,As.2 fun p h=>Am (j p h),f⟩
    unfold HA;dsimp only;rw[bs,i,bs];have:=T9 (g:=g) (by_:=(De a).1) (was:=was) wanted [] (max g 0) [] was [] (Ai3 k l b) (by simp) (by simp;omega);simp only[Ay,Av]at this;rw[show((0:Nat):Int)=0 from rfl]at this;rw[this,bs];by_cases d:(DD g (De a).1 was (max g 0) [] was [] wanted).2.2=0
    ·rw[Ao d];exact congrArg some (Prod.ext rfl (Prod.ext rfl d.symm))
    ·rw[An d]
  ·have e:((De a).2 !=0)=true:=by simpa using b
   rw[e,Ao rfl,Ao b]
abbrev LK:=Int×List UInt8
abbrev ML:=List (LK×Int)
abbrev MS:=List (List UInt8×Int×Int×Int×Int)
abbrev CO:=Int×Int×Int×List It×List It×List It×List (List UInt8×Int×Int)×List (List UInt8×Int×Int×Int)×Int×Int×List (Int×Int)×List (List UInt8×Int×Int×Int×Int×Int)
abbrev ak:=Int×Int×Int×MI×MS×Int×Int×MI
abbrev L4:=Int×Int×Int×MI×MS×Int×Int×MI×Int×Int×Int×List It×List It×List It×List (List UInt8×Int×Int)×List (List UInt8×Int×Int×Int)×Int×Int×List (Int×Int)×List (List UInt8×Int×Int×Int×Int×Int)×Int×Int×Int×ML×Unit×Unit×Unit
def br:LK->LK->Bool:=aj (.agg (.cons (.int .i64) (.one .str)))
theorem JU(a b:LK):br a b=true<->a=b:=by
 show((a.1==b.1)&&(a.2==b.2))=true<->a=b;rw[Ag,beq_iff_eq,beq_iff_eq];exact⟨fun h=>Prod.ext h.1 h.2,fun h=>by rw[h];exact⟨rfl,rfl⟩⟩
def HN(k:LK)(m:ML):Int:=(AW br (AT (.int .i64)) k m).1
def aq(s:ak)(m:CO)(g b l:Int)(ln:ML):L4:=
 (s.1,s.2.1,s.2.2.1,s.2.2.2.1,s.2.2.2.2.1,s.2.2.2.2.2.1,s.2.2.2.2.2.2.1,s.2.2.2.2.2.2.2,m.1,m.2.1,m.2.2.1,m.2.2.2.1,m.2.2.2.2.1,m.2.2.2.2.2.1,m.2.2.2.2.2.2.1,m.2.2.2.2.2.2.2.1,m.2.2.2.2.2.2.2.2.1,m.2.2.2.2.2.2.2.2.2.1,m.2.2.2.2.2.2.2.2.2.2.1,m.2.2.2.2.2.2.2.2.2.2.2,g,b,l,ln,(),(),())
def FV(part:Int):List It->ML->ML
 | [],m=>m
 |x::l,m=>FV part l (Bw br (part,x.1) (i64.wrap (HN (part,x.1) m+x.2)) (Bw br (part,x.1) (HN (part,x.1) m) m))
def Hh(part:Int):List It->Int->Int
 | [],c=>c
 |x::l,c=>Hh part l (if part≠0/\part≠6 then i64.wrap (c-x.2)else c)
theorem Xo{part:Int}{s:ak}{m:CO}{g b:Int}:∀(l pre:List It) (c:Int) (ln:ML),pre.length+l.length<=1000000->
  iter O8 (part,pre++l,((pre++l).length:Int),(pre.length:Int),s.1,s.2.1,s.2.2.1,s.2.2.2.1,s.2.2.2.2.1,s.2.2.2.2.2.1,s.2.2.2.2.2.2.1,s.2.2.2.2.2.2.2,m.1,m.2.1,m.2.2.1,m.2.2.2.1,m.2.2.2.2.1,m.2.2.2.2.2.1,m.2.2.2.2.2.2.1,m.2.2.2.2.2.2.2.1,m.2.2.2.2.2.2.2.2.1,m.2.2.2.2.2.2.2.2.2.1,m.2.2.2.2.2.2.2.2.2.2.1,m.2.2.2.2.2.2.2.2.2.2.2,g,b,c,ln,(),(),(),())=some (aq s m g b (Hh part l c) (FV part l ln))
 | [],pre,c,ln,hn=>by
  refine ay ?_;unfold O8;dsimp only;have h:decide ((pre.length:Int)<(((pre++ []):List It).length:Int))=false:=Al (by simp);rw[h,An (by decide)];rfl
 |x::l,pre,c,ln,hn=>by
  simp only[Au]at hn;have w1:i64.wrap ((pre.length:Int)+1)=((pre++ [x]).length:Int):=by rw[AI (by omega) (by omega)];simp
  have h:decide ((pre.length:Int)<(((pre++x::l):List It).length:Int))=true:=Am (by simp;omega)
  have e:=Xo (part:=part) (s:=s) (m:=m) (g:=g) (b:=b) l (pre++ [x]) (if part≠0/\part≠6 then i64.wrap (c-x.2)else c)
   (Bw br (part,x.1) (i64.wrap (HN (part,x.1) ln+x.2)) (Bw br (part,x.1) (HN (part,x.1) ln) ln)) (by simp;omega)
  rw[Ax,List.singleton_append]at e;refine Eq.trans (aH ?_) e;unfold O8;dsimp only;rw[h,Ao rfl,CZ]
  have i:(AW (aj (.agg (.cons (.int .i64) (.one .str)))) (AT (.int .i64)) (part,x.1) (Bw (aj (.agg (.cons (.int .i64) (.one .str)))) (part,x.1) ((AW (aj (.agg (.cons (.int .i64) (.one .str)))) (AT (.int .i64)) (part,x.1) ln).1) ln)).2=true:=by
   have f:=congrArg Prod.snd (LD JU (AT (.int .i64)) (part,x.1) (part,x.1) (HN (part,x.1) ln) ln);rw[Ao rfl]at f;exact f
  simp only[Aq,Ap];rw[Ao i];by_cases d:part=0
  ·subst d;simp only[bne_self_eq_false,Ah,if_false,Ap];rw[w1,An (show ¬((0:Int)≠0/\(0:Int)≠6) by decide)];rfl
  ·have k:(part !=0)=true:=by simpa using d
   rw[k];simp only[if_true,Ap,Aq];by_cases a:part=6
   ·subst a;simp only[bne_self_eq_false,Ah,if_false,Ap];rw[w1,An (show ¬((6:Int)≠0/\(6:Int)≠6) by decide)];rfl
   ·have j:(part !=6)=true:=by simpa using a
    rw[j];simp only[if_true,Ap];rw[w1,Ao (show part≠0/\part≠6 from⟨d,a⟩)];rfl
theorem KS{part:Int}{s:ak}{m:CO}{g b c:Int}{ln:ML}{l:List It}(a:l.length<=1000000):
  EQ ((),part,l) (aq s m g b c ln)=some ((),aq s m g b (Hh part l c) (FV part l ln)):=by
 unfold EQ;dsimp only[aq];have e:=Xo (part:=part) (s:=s) (m:=m) (g:=g) (b:=b) l [] c ln (by simpa using a);simp only[Ay,Av]at e;rw[show((0:Nat):Int)=0 from rfl]at e;rw[e,bs];rfl
def Ei:List UInt8:= [115,97,108,97,114,121]
def DZ:List UInt8:= [98,111,110,117,115]
def AS:List UInt8:= [112,101,110,115,105,111,110]
def Ea:List UInt8:= [99,108,117,98]
def AE:List UInt8:= [104,101,97,108,116,104]
def AG:List UInt8:= [99,111,117,114,116]
def El:List UInt8:= [116,97,120]
structure Mo where
 (S B P C w f ce al ex lo ed hi rt fx pr tt:Int)
def Mo.mon(x:Mo)(y i o:Int):CO:=(y,i,o,[(Ei,x.S),(DZ,x.B)],[(AS,x.P)],[(Ea,x.C)],[],[(AE,x.w,x.f,x.ce)],x.al,x.ex,[(0,x.lo),(x.ed,x.hi)],[(AG,1,x.rt,x.fx,x.pr,x.tt)])
structure Ce (x:Mo):Prop where
 S: -2147483648<=x.S/\x.S<=2147483647
 B: -2147483648<=x.B/\x.B<=2147483647
 P:0<=x.P/\x.P<=1048575
 C:0<=x.C/\x.C<=65535
 w:0<=x.w/\x.w<=655350
 f:0<=x.f/\x.f<=655350
 ce:0<=x.ce/\x.ce<=4294967295
 al:0<=x.al/\x.al<=4294967295
 ex:0<=x.ex/\x.ex<=255
 lo:0<=x.lo/\x.lo<=655350
 ed:1<=x.ed/\x.ed<=4294967296
 hi:0<=x.hi/\x.hi<=655350
 rt:0<=x.rt/\x.rt<=655350
 fx:0<=x.fx/\x.fx<=4294967295
 pr:0<=x.pr/\x.pr<=4294967295
 tt:0<=x.tt/\x.tt<=4294967295
theorem TL{k:LK}{v:Int}:∀{m:ML},(∀e∈m,e.1≠k)->Bw br k v m=m++ [(k,v)]
 | [],_=>rfl
 |p::m,h=>by
  have a:br k p.1=false:=by
   cases b:br k p.1 with
   |false=>rfl
   |true=>exact absurd ((JU _ _).1 b).symm (h p (by simp))
  show(if br k p.1=true then _ else _)=_;rw[a,An (by decide),TL fun e c=>h e (by simp[c])];rfl
theorem TK{k:LK}{u v:Int}:∀{m:ML},(∀e∈m,e.1≠k)->Bw br k v (m++ [(k,u)])=m++ [(k,v)]
 | [],_=>by
  show(if br k k=true then _ else _)=_;rw[(JU k k).2 rfl,Ao rfl];rfl
 |p::m,h=>by
  have a:br k p.1=false:=by
   cases b:br k p.1 with
   |false=>rfl
   |true=>exact absurd ((JU _ _).1 b).symm (h p (by simp))
  show(if br k p.1=true then _ else _)=_;rw[a,An (by decide)];exact congrArg (p:: ·) (TK fun e c=>h e (by simp[c]))
theorem V4{k:LK}:∀{m:ML},(∀e∈m,e.1≠k)->HN k m=0
 | [],_=>rfl
 |p::m,h=>by
  have a:br k p.1=false:=by
   cases b:br k p.1 with
   |false=>rfl
   |true=>exact absurd ((JU _ _).1 b).symm (h p (by simp))
  have e:=V4 (k:=k) fun e c=>h e (List.mem_cons_of_mem p c);unfold HN at e⊢;show(if br k p.1=true then(p.2,true)else AW br (AT (.int .i64)) k m).1=0;rw[a,An (by decide)];exact e
theorem Jc{part:Int}{x:It}{m:ML}{l:List It}(h:∀e∈m,e.1≠(part,x.1))(a: -9223372036854775808<=x.2/\x.2<=9223372036854775807):FV part (x::l) m=FV part l (m++ [((part,x.1),x.2)]):=by
 rw[FV,V4 h,Int.zero_add,AI a.1 a.2,TL h,TK h]
theorem Ajd{S B:Int}(g: -2147483648<=S/\S<=2147483647)(h: -2147483648<=B/\B<=2147483647):DR 0 [S,B]=(S+B,0):=by
 have a:AO S=true:=by simp[AO];omega
 have c:AO B=true:=by simp[AO];omega
 have b:AO (S+B)=true:=by simp[AO];omega
 have d:AO 0=true:=by decide
 have f:addS 0 S=(S,0):=by simp[addS,d,a]
 have e:addS S B=(S+B,0):=by simp[addS,a,c,b]
 simp[DR,f,e]
def CQ(x:Mo):ML:= [((0,Ei),x.S),((0,DZ),x.B)]
theorem Ago{s:ak}{x:Mo}{y i o g b c:Int}(h:Ce x):Lp () (aq s (x.mon y i o) g b c [])=some (0,aq s (x.mon y i o) (x.S+x.B) (x.S+x.B) (x.S+x.B) (CQ x)):=by
 have f:J6 [(Ei,x.S),(DZ,x.B)]=some (x.S+x.B,0):=by
  rw[Zq (by simp)];exact congrArg some (Ajd h.S h.B)
 have j:=h.S;have k:=h.B;have a:=KS (part:=0) (s:=s) (m:=x.mon y i o) (g:=x.S+x.B) (b:=x.S+x.B) (c:=x.S+x.B) (ln:= []) (l:= [(Ei,x.S),(DZ,x.B)]) (by simp);rw[Jc (by simp) (by show _/\_;dsimp only;omega),Jc (by intro e d;rw[Ay,List.mem_singleton]at d;subst d;show((0:Int),Ei)≠((0:Int),DZ);decide) (by show _/\_;dsimp only;omega)]at a;unfold Lp;dsimp only[aq,Mo.mon]at a⊢;rw[f,bs,a,bs];rfl
def Bh(x:Mo):Int:=min x.P (max (x.S+x.B) 0)
def E2(x:Mo):List It:=if Bh x>0 then [(AS,Bh x)]else []
theorem QQ{x:Mo}(h:Ce x):0<=Bh x/\Bh x<=x.P:=by
 have:=h.P;unfold Bh;omega
def cg(k:List UInt8)(m:MI):Prop:=m= []\/∃v,m= [(k,v)]
theorem Xj{k:List UInt8}{m:MI}{v:Int}(h:cg k m):Di k v m= [(k,v)]:=by
 rcases h with rfl|⟨u,rfl⟩
 ·rfl
 ·unfold Di;show(if aj Ty.str k k=true then _ else _)=_;rw[(cP k k).2 rfl,Ao rfl]
theorem Ajt{x:Mo}{bf:MI}(h:Ce x)(a:cg AS bf)(i:0<=A7 AS bf/\A7 AS bf<=1000000000000):
  J7 (x.S+x.B,bf,[(AS,x.P)],[])=some (E2 x,[(AS,A7 AS bf+Bh x)],0):=by
 have k:=h.S;have m:=h.B;have l:=h.P;have j:=QQ h;have e:Et (x.S+x.B):=by unfold Et;omega
 rw[YY e (by rcases a with rfl|⟨v,rfl⟩<;>simp[AS]) (by rcases a with rfl|⟨v,rfl⟩<;>simp)]
 congr 1
 have f:AO (x.S+x.B)=true:=by simp[AO];omega
 have g:De []=([],0):=by simp[De,CX]
 have n1:CE AS=true:=by decide
 have r1:Ck x.P=true:=Hk.2 (by omega);have c:Ck (A7 AS bf)=true:=Hk.2 (by omega);have d:BW (x.S+x.B) [] (max (x.S+x.B) 0) [] bf (AS,x.P)=Bh x:=rfl;have b:Ck (A7 AS bf+Bh x)=true:=Hk.2 (by omega);unfold R1;simp only[f,g,DD,n1,r1,c,d,b,Xj a];simp[E2]
def b7(part:Int)(k:List UInt8)(v:Int):ML:=if v>0 then [((part,k),v)]else []
def ba(part:Int)(k:List UInt8)(v:Int):ML:=if v=0 then []else [((part,k),v)]
theorem Zt{x4:Int}{s:ak}{m:CO}{g c:Int}{ln:ML}{l:List It}(a:l= []\/∃k v,l= [(k,v)])(b:Int):
  iter Lr ((),x4,l,(l.length:Int),0,s.1,s.2.1,s.2.2.1,s.2.2.2.1,s.2.2.2.2.1,s.2.2.2.2.2.1,s.2.2.2.2.2.2.1,s.2.2.2.2.2.2.2,m.1,m.2.1,m.2.2.1,m.2.2.2.1,m.2.2.2.2.1,m.2.2.2.2.2.1,m.2.2.2.2.2.2.1,m.2.2.2.2.2.2.2.1,m.2.2.2.2.2.2.2.2.1,m.2.2.2.2.2.2.2.2.2.1,m.2.2.2.2.2.2.2.2.2.2.1,m.2.2.2.2.2.2.2.2.2.2.2,g,b,c,ln,(),(),())=some (x4,aq s m g (l.foldl (fun b x=>i64.wrap (b-x.2)) b) c ln):=by
 rcases a with rfl|⟨k,v,rfl⟩
 ·refine ay ?_;unfold Lr;dsimp only;rfl
 ·refine(aH (s':=((),x4,[(k,v)],1,1,s.1,s.2.1,s.2.2.1,s.2.2.2.1,s.2.2.2.2.1,s.2.2.2.2.2.1,s.2.2.2.2.2.2.1,s.2.2.2.2.2.2.2,m.1,m.2.1,m.2.2.1,m.2.2.2.1,m.2.2.2.2.1,m.2.2.2.2.2.1,m.2.2.2.2.2.2.1,m.2.2.2.2.2.2.2.1,m.2.2.2.2.2.2.2.2.1,m.2.2.2.2.2.2.2.2.2.1,m.2.2.2.2.2.2.2.2.2.2.1,m.2.2.2.2.2.2.2.2.2.2.2,g,i64.wrap (b-v),c,ln,(),(),())) ?_).trans ?_
  ·unfold Lr;dsimp only;rfl
  ·refine ay ?_;unfold Lr;dsimp only;rfl
theorem Agp{yy ii oo tb tt:Int}{bf:MI}{so:MS}{od:MI}{x:Mo}{y i o:Int}(h:Ce x)(k:cg AS bf)(j:0<=A7 AS bf/\A7 AS bf<=1000000000000):
  Lq () (aq (yy,ii,oo,bf,so,tb,tt,od) (x.mon y i o) (x.S+x.B) (x.S+x.B) (x.S+x.B) (CQ x))=
   some (0,aq (yy,ii,oo,[(AS,A7 AS bf+Bh x)],so,tb,tt,od) (x.mon y i o) (x.S+x.B) (x.S+x.B-Bh x) (x.S+x.B-Bh x) (CQ x++b7 1 AS (Bh x))):=by
 have A:=h.S;have D:=h.B;have C:=h.P;have w:=QQ h;have v:=Ajt h k j;have f:=KS (part:=1) (s:=(yy,ii,oo,[(AS,A7 AS bf+Bh x)],so,tb,tt,od)) (m:=x.mon y i o) (g:=x.S+x.B) (b:=x.S+x.B) (c:=x.S+x.B) (ln:=CQ x) (l:=E2 x) (by unfold E2;split<;>simp);have d:=Zt (x4:=0) (s:=(yy,ii,oo,[(AS,A7 AS bf+Bh x)],so,tb,tt,od)) (m:=x.mon y i o) (g:=x.S+x.B) (c:=Hh 1 (E2 x) (x.S+x.B)) (ln:=FV 1 (E2 x) (CQ x)) (l:=E2 x) (by unfold E2;split<;>simp) (x.S+x.B);unfold Lq;dsimp only[aq,Mo.mon]at f d⊢;rw[v,bs,f,bs];dsimp only;rw[d,bs];have w1:i64.wrap (x.S+x.B-Bh x)=x.S+x.B-Bh x:=AI (by omega) (by omega)
 have t:(E2 x).foldl (fun b x=>i64.wrap (b-x.2)) (x.S+x.B)=x.S+x.B-Bh x:=by
  unfold E2;split
  ·exact w1
  ·show x.S+x.B=_;omega
 have r:Hh 1 (E2 x) (x.S+x.B)=x.S+x.B-Bh x:=by
  unfold E2;split
  ·exact w1
  ·show x.S+x.B=_;omega
 have q:FV 1 (E2 x) (CQ x)=CQ x++b7 1 AS (Bh x):=by
  unfold E2 b7;split
  ·rw[Jc (fun e a=>by
    simp only[CQ,List.mem_cons,List.not_mem_nil,or_false]at a;rcases a with rfl|rfl
    ·show((0:Int),Ei)≠((1:Int),AS);decide
    ·show((0:Int),DZ)≠((1:Int),AS);decide) (by show _/\_;dsimp only;omega)]
   rfl
  ·rw[List.append_nil];rfl
 rw[t,r,q]
theorem Aeo{n d:Nat}(c:0<d):Dz false n d 1=(2*n+d)/(2*d):=by
 have g:=Nat.div_add_mod n d;have f:=Nat.mod_lt n c;unfold Dz cV;simp only[show ¬((1:Int)=4) by decide,show ¬((1:Int)=3) by decide,show ¬((1:Int)=2) by decide,if_false,if_true,decide_eq_true_eq];generalize hq:n/d=q at*;generalize hr:n % d=r at*;have b:q*(2*d)=2*(d*q):=by rw[Nat.mul_left_comm,Nat.mul_comm q d]
 have a:(q+1)*(2*d)=2*(d*q)+2*d:=by rw[Nat.add_mul,b];omega
 have e:(q+1+1)*(2*d)=2*(d*q)+2*d+2*d:=by rw[Nat.add_mul,a];omega
 by_cases h:d-r<=r
 ·rw[Ao h];exact(Nat.div_eq_of_lt_le (by rw[a];omega) (by rw[e];omega)).symm
 ·rw[An h];exact(Nat.div_eq_of_lt_le (by rw[Nat.add_zero,b];omega) (by rw[Nat.add_zero,a];omega)).symm
def KJ(g m:Nat):Nat:=(2*(g*m)+1000000)/2000000
theorem Xb{g m:Nat}(h:m<=1000000):KJ g m<=g:=by
 unfold KJ;have:=Nat.mul_le_mul_left g h;omega
def E3(g m:Int):Int:=(KJ g.toNat m.toNat:Int)
theorem Agc{g m:Int}(e:0<=g/\g<=1125899906842624)(d:0<=m/\m<=1000000):ca g m 1=(E3 g m,0):=by
 have c:=Xb (g:=g.toNat) (m:=m.toNat) (by omega)
 have a:Ez g m=false:=by
  unfold Ez;rw[Al (show ¬g<0 by omega),Al (show ¬m<0 by omega)];rfl
 have b:Dz (Ez g m) (g.natAbs*m.natAbs) (1000000:Int).toNat 1=KJ g.toNat m.toNat:=by
  rw[a,show(1000000:Int).toNat=1000000 from rfl,Aeo (by decide),show g.natAbs=g.toNat by omega,show m.natAbs=m.toNat by omega];rfl
 unfold ca;rw[Ao ⟨by omega,by omega⟩];unfold KK;rw[An (show ¬¬(-1125899906842624<=g/\g<=1125899906842624) by omega),An (show ¬((1000000:Int)=0) by decide),An (show ¬((1000000:Int)<0) by decide),An (show ¬((1:Int)<0\/4<(1:Int)) by decide)];rw[b,a,An (show ¬(1125899906842624<KJ g.toNat m.toNat) by omega)];rfl
theorem Je{g m:Int}(b:0<=g)(a:0<=m/\m<=1000000):0<=E3 g m/\E3 g m<=g:=by
 have:=Xb (g:=g.toNat) (m:=m.toNat) (by omega);unfold E3;omega
theorem QT{g m:Int}(b:0<=g/\g<=1125899906842624)(a:0<=m/\m<=1000000):Hj (g,m,1)=some (E3 g m,0):=by
 rw[Xx (by omega) (by omega),Agc b a]
theorem Gy{S T:Type}{b:S->Option (S⊕T)}{s:S}{t:T}(n:Nat)(h:D9 b n s=some t):iter b s=some t:=HP.2 ⟨n,h⟩
theorem CP{b β:Type}{x:Option b}{a:b}{f:b->Option β}{r:Option β}(h:x=some a)(c:f a=r):x.bind f=r:=by rw[h];exact c
theorem XW:∀(l pre:List Int),(∀c∈l,0<=c/\c<=1125899906842624)->pre.length+l.length<=1000000->iter NX (pre++l,((pre++l).length:Int),(pre.length:Int),())=some (.inl ())
 | [],pre,_,hn=>by
  refine ay ?_;unfold NX;dsimp only;have h:decide ((pre.length:Int)<(((pre++ []):List Int).length:Int))=false:=Al (by simp);rw[h,An (by decide)]
 |x::l,pre,hl,hn=>by
  simp only[Au]at hn;have w1:i64.wrap ((pre.length:Int)+1)=((pre++ [x]).length:Int):=by rw[AI (by omega) (by omega)];simp
  have h:decide ((pre.length:Int)<(((pre++x::l):List Int).length:Int))=true:=Am (by simp;omega);have e:=XW l (pre++ [x]) (fun c a=>hl c (by simp[a])) (by simp;omega);rw[Ax,List.singleton_append]at e;refine Eq.trans (aH ?_) e;have d:=hl x (by simp);have b:AO x=true:=by simp[AO];omega
  unfold NX;dsimp only;simp only[aN,aK,aO,aM,aL,gM,aS,B5,aP,B6,BC,aU,aT,aR,aQ,B2,B4,B7,BB,B3,BA,ao];simp only[BH,BI,BJ,BK,BL,BM,BN,BO,ao,BG,aX,aW,aY,aZ,bs,ms];rw[h,Ao rfl,CZ,bs,Al (show ¬x<0 by omega),An (by decide),E9,bs,bs,b,w1];rfl
theorem XV{l:List Int}(a:∀c∈l,0<=c/\c<=1125899906842624)(b:l.length<=1000):Lj l=some true:=by
 unfold Lj;dsimp only;have e:=XW l [] a (by simp;omega);simp only[Ay,Av]at e;rw[show((0:Nat):Int)=0 from rfl]at e;rw[e,bs]
theorem XZ{b I W F:Int}(e: -1125899906842624<=b/\b<=1125899906842624)(g:0<=I/\I<=1125899906842624)(f:0<=W/\W<=1125899906842624)(h:0<=F/\F<=1125899906842624):Li (b,I,W,F)=some true:=by
 have d:AO b=true:=by simp[AO];omega
 unfold Li;dsimp only;simp only[aN,aK,aO,aM,aL,gM,aS,B5,aP,B6,BC,aU,aT,aR,aQ,B2,B4,B7,BB,B3,BA,ao];simp only[BH,BI,BJ,BK,BL,BM,BN,BO,ao,BG,aX,aW,aY,aZ,bs,ms];rw[E9,bs,d,Ao rfl,XV (by intro c a;simp only[List.mem_cons,List.not_mem_nil,or_false]at a;rcases a with rfl|rfl|rfl<;>assumption) (by simp)]
set_option maxRecDepth 100000 in
theorem Ah0:NY AE=some true:=by
 unfold NY;dsimp only;exact CP (Gy 10 rfl) rfl
theorem Ah2{w f ce:Int}(b:0<=w/\w<=655350)(d:0<=f/\f<=655350)(e:0<=ce/\ce<=4294967295):NZ (AE,w,f,ce)=some 0:=by
 unfold NZ;dsimp only;simp only[aN,aK,aO,aM,aL,gM,aS,B5,aP,B6,BC,aU,aT,aR,aQ,B2,B4,B7,BB,B3,BA,ao];simp only[BH,BI,BJ,BK,BL,BM,BN,BO,ao,BG,aX,aW,aY,aZ,bs,ms];rw[Ah0,bs,An (by decide),Al (show ¬w<0 by omega),Al (show ¬w>1000000 by omega),Al (show ¬f<0 by omega),Al (show ¬f>1000000 by omega)];rw[XV (by intro c a;simp only[List.mem_cons,List.not_mem_nil,or_false]at a;subst a;omega) (by simp)];rfl
def F4(ce b:Int):Int:=if ce>0 then min b ce else b
def Cj(ce b I:Int):Int:=max (F4 ce b-I) 0
theorem Ah1{b I W F w f ce g:Int}(s: -1099511627776<=b/\b<=1099511627776)(r: -8589934592<=g/\g<=8589934592)(v:0<=I/\I<=1099511627776)(t:0<=W/\W<=I)(x:0<=F/\F<=I)
  (c:0<=w/\w<=655350) (d:0<=f/\f<=655350) (l:0<=ce/\ce<=4294967295):
  Jq ((b,I,W,F),(AE,w,f,ce),g)=some ((b+g,I+Cj ce (b+g) I,W+E3 (Cj ce (b+g) I) w,F+E3 (Cj ce (b+g) I) f),0):=by
 have e:0<=Cj ce (b+g) I/\Cj ce (b+g) I<=1108101562368:=by unfold Cj F4;split<;>omega
 have j:=Je (g:=Cj ce (b+g) I) (m:=w) e.1 ⟨c.1,by omega⟩;have k:=Je (g:=Cj ce (b+g) I) (m:=f) e.1 ⟨d.1,by omega⟩;have o:AO g=true:=by simp[AO];omega
 unfold Jq;dsimp only;simp only[aN,aK,aO,aM,aL,gM,aS,B5,aP,B6,BC,aU,aT,aR,aQ,B2,B4,B7,BB,B3,BA,ao];simp only[BH,BI,BJ,BK,BL,BM,BN,BO,ao,BG,aX,aW,aY,aZ,bs,ms];rw[XZ (by omega) (by omega) (by omega) (by omega),bs,An (by decide),Ah2 c d l,bs,An (by decide),E9,bs,o,An (by decide)];have w1:i64.wrap (b+g)=b+g:=AI (by omega) (by omega);refine(CP (a:=(F4 ce (b+g),b,I,W,F,AE,w,f,ce,0,0,0,0,b+g,I,W,F,(),(),(),(),(),(),(),(),())) ?_ rfl).trans ?_
 ·rw[w1];unfold F4;by_cases h:ce>0
  ·rw[Am h,Ao rfl,Ao h]
  ·rw[Al h,An (by decide),An h]
 ·dsimp only;have i:i64.wrap (F4 ce (b+g)-I)=F4 ce (b+g)-I:=AI (by unfold F4;split<;>omega) (by unfold F4;split<;>omega);rw[i];have q:max (F4 ce (b+g)-I) 0=Cj ce (b+g) I:=rfl;rw[q,show min (Cj ce (b+g) I) 1125899906842624=Cj ce (b+g) I by omega,QT (by omega) ⟨c.1,by omega⟩,bs,QT (by omega) ⟨d.1,by omega⟩,bs];dsimp only;rw[AI (n:=I+Cj ce (b+g) I) (by omega) (by omega),AI (n:=W+E3 (Cj ce (b+g) I) w) (by omega) (by omega),AI (n:=F+E3 (Cj ce (b+g) I) f) (by omega) (by omega)];rw[XZ (by omega) (by omega) (by omega) (by omega)];rfl
def cK(m:MS):Prop:=m= []\/∃v,m= [(AE,v)]
def zS:Int×Int×Int×Int:=AT (.agg (.cons (.int .i64) (.cons (.int .i64) (.cons (.int .i64) (.one (.int .i64))))))
def A8(m:MS):Int×Int×Int×Int:=(AW (aj .str) zS AE m).1
theorem Aej:A8 []=(0,0,0,0):=rfl
theorem MD{v:Int×Int×Int×Int}:A8 [(AE,v)]=v:=by
 unfold A8;show(if aj Ty.str AE AE=true then(v,true)else _).1=v;rw[(cP AE AE).2 rfl,Ao rfl]
theorem Ag5{m:MS}{v:Int×Int×Int×Int}(h:cK m):Bw (aj .str) AE v m= [(AE,v)]:=by
 rcases h with rfl|⟨u,rfl⟩
 ·rfl
 ·show(if aj Ty.str AE AE=true then _ else _)=_;rw[(cP AE AE).2 rfl,Ao rfl]
def Dx(k:List UInt8)(c:Int):List It:=if c=0 then []else [(k,c)]
theorem XY{k:List UInt8}{c:Int}:Ij ((),k,c)=some (Dx k c):=by
 unfold Ij Dx;dsimp only;by_cases h:c=0
 ·rw[Ao (by simpa using h),Ao h]
 ·rw[An (by simpa using h),An h,Ao ⟨by show((1:Nat):Int)*24<=_;decide,by show((1:Nat):Int)<=_;decide⟩,bs]
def C6(x:Mo)(v:Int×Int×Int×Int):Int×Int×Int×Int:=
 (v.1+(x.S+x.B),v.2.1+Cj x.ce (v.1+(x.S+x.B)) v.2.1,v.2.2.1+E3 (Cj x.ce (v.1+(x.S+x.B)) v.2.1) x.w,v.2.2.2+E3 (Cj x.ce (v.1+(x.S+x.B)) v.2.1) x.f)
structure cQ (v:Int×Int×Int×Int):Prop where
 b: -1000000000000<=v.1/\v.1<=1000000000000
 I:0<=v.2.1/\v.2.1<=1000000000000
 W:0<=v.2.2.1/\v.2.2.1<=v.2.1
 F:0<=v.2.2.2/\v.2.2.2<=v.2.1
def Cd(x:Mo)(v:Int×Int×Int×Int):Int:=E3 (Cj x.ce (v.1+(x.S+x.B)) v.2.1) x.w
def Cy(x:Mo)(v:Int×Int×Int×Int):Int:=E3 (Cj x.ce (v.1+(x.S+x.B)) v.2.1) x.f
theorem Xc{x:Mo}{v:Int×Int×Int×Int}(h:Ce x)(a:cQ v):0<=Cj x.ce (v.1+(x.S+x.B)) v.2.1/\Cj x.ce (v.1+(x.S+x.B)) v.2.1<=1010000000000:=by
 have d:=h.S;have f:=h.B;have c:=a.b;have e:=a.I;unfold Cj F4;split<;>omega
theorem RC{x:Mo}{v:Int×Int×Int×Int}(h:Ce x)(b:cQ v):(0<=Cd x v/\Cd x v<=1010000000000)/\0<=Cy x v/\Cy x v<=1010000000000:=by
 have a:=Xc h b;have d:=Je (g:=Cj x.ce (v.1+(x.S+x.B)) v.2.1) (m:=x.w) a.1 ⟨h.w.1,by have:=h.w;omega⟩;have c:=Je (g:=Cj x.ce (v.1+(x.S+x.B)) v.2.1) (m:=x.f) a.1 ⟨h.f.1,by have:=h.f;omega⟩;unfold Cd Cy;omega
theorem Ahy{so:MS}{x:Mo}(h:Ce x)(r:cK so)(g:cQ (A8 so)):
  NU (so,x.S+x.B,[(AE,x.w,x.f,x.ce)])=some ([(AE,C6 x (A8 so))],Dx AE (Cd x (A8 so)),Dx AE (Cy x (A8 so)),0):=by
 have G:=h.S;have K:=h.B;have q:=RC h g;have H:=g.I;have E:=g.W;have J:=g.F;have D:=g.b
 have k:Jq (((A8 so).1,(A8 so).2.1,(A8 so).2.2.1,(A8 so).2.2.2),(AE,x.w,x.f,x.ce),x.S+x.B)=some (C6 x (A8 so),0):=by
  rw[Ah1 (by omega) (by omega) (by omega) (by omega) (by omega) h.w h.f h.ce];rfl
 have key:∀c:MS,cK c->
   (Option.bind (show Option (((List ((List UInt8)×Int))×(List ((List UInt8)×Int))×(List ((List UInt8)×(Int×Int×Int×Int)))×(Unit)×Unit)⊕((List ((List UInt8)×(Int×Int×Int×Int)))×(List ((List UInt8)×Int))×(List ((List UInt8)×Int))×Int))from(
    Option.bind ((NV (so,x.S+x.B,(),[(AE,x.w,x.f,x.ce)],(([(AE,x.w,x.f,x.ce)]:List (List UInt8×Int×Int×Int)).length:Int),(0:Int),c,[],(),(),(),(),())).bind fun w=>match w with|Sum.inl s=>iter NW s|Sum.inr o=>some o) fun o=>
    match o with
    |Sum.inl p1=>some (Sum.inl (p1.1,p1.2.1,p1.2.2.1,(),()))
    |Sum.inr q2=>some (Sum.inr q2))) fun o=>
   match o with
   |Sum.inl p3=>some (p3.2.2.1,p3.1,p3.2.1,(0:Int))
   |Sum.inr q4=>some q4)=some ([(AE,C6 x (A8 so))],Dx AE (Cd x (A8 so)),Dx AE (Cy x (A8 so)),0):=by
  intro c t
  have A:NV (so,x.S+x.B,(),[(AE,x.w,x.f,x.ce)],(([(AE,x.w,x.f,x.ce)]:List (List UInt8×Int×Int×Int)).length:Int),(0:Int),c,[],(),(),(),(),())=
    some (.inl (so,x.S+x.B,Dx AE (Cd x (A8 so)),Dx AE (Cy x (A8 so)),(),[(AE,x.w,x.f,x.ce)],1,1,[(AE,C6 x (A8 so))],[(AE,true)],(),(),())):=by
   unfold NV;dsimp only;rw[show decide ((0:Int)<(([(AE,x.w,x.f,x.ce)]:List (List UInt8×Int×Int×Int)).length:Int))=true from rfl,Ao rfl];rw[show(an [(AE,x.w,x.f,x.ce)] (0:Int))=some (AE,x.w,x.f,x.ce)from rfl];simp only[Aq,Ap];rw[show(AW (aj Ty.str) (AT Ty.bool) AE []).1=false from rfl,An (by decide)];have d:=k;unfold A8 zS at d;rw[d,bs,An (show ¬((0:Int) !=0)=true by decide)]
   change((Ij ((),AE,i64.wrap ((C6 x (A8 so)).2.2.1-(A8 so).2.2.1))).bind fun j=>(Ij ((),AE,i64.wrap ((C6 x (A8 so)).2.2.2-(A8 so).2.2.2))).bind fun i=>
    some (Sum.inl (so,x.S+x.B,j,i,(),[(AE,x.w,x.f,x.ce)],1,i64.wrap (0+1),Bw (aj .str) AE (C6 x (A8 so)) c,[(AE,true)],(),(),())))=_
   have m:(C6 x (A8 so)).2.2.1-(A8 so).2.2.1=Cd x (A8 so):=by unfold C6 Cd;dsimp only;omega
   have l:(C6 x (A8 so)).2.2.2-(A8 so).2.2.2=Cy x (A8 so):=by unfold C6 Cy;dsimp only;omega
   rw[m,l,AI (by omega) (by omega),AI (by omega) (by omega),XY,bs,XY,bs,Ag5 t];rfl
  have y:iter NW (so,x.S+x.B,Dx AE (Cd x (A8 so)),Dx AE (Cy x (A8 so)),(),[(AE,x.w,x.f,x.ce)],1,1,[(AE,C6 x (A8 so))],[(AE,true)],(),(),())=some (.inl (Dx AE (Cd x (A8 so)),Dx AE (Cy x (A8 so)),[(AE,C6 x (A8 so))],(),())):=by
   refine ay ?_;unfold NW;dsimp only;rfl
  rw[A,bs];dsimp only;rw[y];rfl
 unfold NU;dsimp only;rw[show decide ((([(AE,x.w,x.f,x.ce)]:List (List UInt8×Int×Int×Int)).length:Int)>64)=false from rfl,An (by decide)];refine Ny.2 fun C e=> ?_;rcases r with rfl|⟨v,rfl⟩
 ·have:=e.eq_nil;subst this;refine CP (a:=([],x.S+x.B,[(AE,x.w,x.f,x.ce)],[],[],(),(),())) rfl ?_;exact key [] (.inl rfl)
 ·have:=List.perm_singleton.1 e;subst this;refine CP (a:=([(AE,v)],x.S+x.B,[(AE,x.w,x.f,x.ce)],[(AE,v)],[],(),(),())) rfl ?_;exact key [(AE,v)] (.inr ⟨v,rfl⟩)
theorem Xi{part:Int}{k:List UInt8}{v c:Int}{s:ak}{m:CO}{g b:Int}{ln:ML}(a:∀e∈ln,e.1≠(part,k))(i: -1000000000000000<=v/\v<=1000000000000000)(j: -1000000000000000<=c/\c<=1000000000000000):
  EQ ((),part,Dx k v) (aq s m g b c ln)=some ((),aq s m g b (if part≠0/\part≠6 then c-v else c) (ln++ba part k v)):=by
 rw[KS (by unfold Dx;split<;>simp)]
 have f:FV part (Dx k v) ln=ln++ba part k v:=by
  unfold Dx ba;split
  ·rw[List.append_nil];rfl
  ·rw[Jc a (by show _/\_;dsimp only;omega)];rfl
 have d:Hh part (Dx k v) c=if part≠0/\part≠6 then c-v else c:=by
  unfold Dx;split
  ·rename_i h;subst h;show c=_;split<;>omega
  ·show(if part≠0/\part≠6 then i64.wrap (c-v)else c)=_;rw[AI (by omega) (by omega)]
 rw[f,d]
theorem Agq{yy ii oo tb tt:Int}{bf:MI}{so:MS}{od:MI}{x:Mo}{y i o b c:Int}{ln:ML}(h:Ce x)(q:cK so)(j:cQ (A8 so))(A: -100000000000000<=c/\c<=100000000000000)(t:∀e∈ln,e.1≠(2,AE))(r:∀e∈ln,e.1≠(6,AE)):
  Ls () (aq (yy,ii,oo,bf,so,tb,tt,od) (x.mon y i o) (x.S+x.B) b c ln)=
   some (0,aq (yy,ii,oo,bf,[(AE,C6 x (A8 so))],tb,tt,od) (x.mon y i o) (x.S+x.B) b (c-Cd x (A8 so)) (ln++ba 2 AE (Cd x (A8 so))++ba 6 AE (Cy x (A8 so)))):=by
 have l:=RC h j;have w:=Ahy h q j;have f:=Xi (part:=2) (k:=AE) (v:=Cd x (A8 so)) (c:=c) (s:=(yy,ii,oo,bf,[(AE,C6 x (A8 so))],tb,tt,od)) (m:=x.mon y i o) (g:=x.S+x.B) (b:=b) (ln:=ln) t (by omega) (by omega)
 have d:=Xi (part:=6) (k:=AE) (v:=Cy x (A8 so)) (c:=c-Cd x (A8 so)) (s:=(yy,ii,oo,bf,[(AE,C6 x (A8 so))],tb,tt,od)) (m:=x.mon y i o) (g:=x.S+x.B) (b:=b) (ln:=ln++ba 2 AE (Cd x (A8 so))) (by
  intro e a;rcases List.mem_append.1 a with a|a
  ·exact r e a
  ·unfold ba at a;split at a
   ·cases a
   ·rw[List.mem_singleton]at a;subst a
    show((2:Int),AE)≠((6:Int),AE);decide) (by omega) (by omega)
 rw[Ao (by decide)]at f;rw[An (by decide)]at d;unfold Ls;dsimp only[aq,Mo.mon]at f d⊢;rw[w,bs,f,bs];dsimp only;rw[d,bs]
theorem Js(c:Int):G9 c=some (AO c):=by
 unfold G9 AO;dsimp only;simp only[aN,aK,aO,aM,aL,gM,aS,B5,aP,B6,BC,aU,aT,aR,aQ,B2,B4,B7,BB,B3,BA,ao];simp only[BH,BI,BJ,BK,BL,BM,BN,BO,ao,BG,aX,aW,aY,aZ,bs,ms];by_cases h:c≥ -1125899906842624
 ·rw[Am h,Ao rfl];rfl
 ·rw[Al h,An (by decide)];rfl
theorem Y7(c:Int):Ll c=some (Ck c):=by
 unfold Ll Ck;dsimp only;simp only[aN,aK,aO,aM,aL,gM,aS,B5,aP,B6,BC,aU,aT,aR,aQ,B2,B4,B7,BB,B3,BA,ao];simp only[BH,BI,BJ,BK,BL,BM,BN,BO,ao,BG,aX,aW,aY,aZ,bs,ms];by_cases h:c≥0
 ·rw[Am h,Ao rfl];rfl
 ·rw[Al h,An (by decide)];rfl
theorem Zp{lo ed hi:Int}(d:0<=lo/\lo<=1000000)(f:1<=ed/\ed<=1125899906842624)(e:0<=hi/\hi<=1000000):band_Check [(0,lo),(ed,hi)]=some 0:=by
 have c:H4 ([(0,lo),(ed,hi)],[(0,lo),(ed,hi)],2,0,())=some (.inl ([(0,lo),(ed,hi)],[(0,lo),(ed,hi)],2,1,())):=by
  unfold H4;dsimp only;simp only[aN,aK,aO,aM,aL,gM,aS,B5,aP,B6,BC,aU,aT,aR,aQ,B2,B4,B7,BB,B3,BA,ao];simp only[BH,BI,BJ,BK,BL,BM,BN,BO,ao,BG,aX,aW,aY,aZ,bs,ms];rw[show decide ((0:Int)<2)=true from rfl,Ao rfl,show(an [((0:Int),lo),(ed,hi)] (0:Int))=some (0,lo)from rfl];simp only[Ap,beq_self_eq_true,if_true,bne_self_eq_false,Ah,if_false];simp only[show decide ((0:Int)>0)=false from rfl,Ah,if_false,Ap];simp only[show decide ((0:Int)>1125899906842624)=false by decide,Ah,if_false];rw[Al (show ¬lo<0 by omega),An (by decide),bs,Al (show ¬lo>1000000 by omega)];dsimp only;rw[An (by decide)];rfl
 have b:H4 ([(0,lo),(ed,hi)],[(0,lo),(ed,hi)],2,1,())=some (.inl ([(0,lo),(ed,hi)],[(0,lo),(ed,hi)],2,2,())):=by
  unfold H4;dsimp only;simp only[aN,aK,aO,aM,aL,gM,aS,B5,aP,B6,BC,aU,aT,aR,aQ,B2,B4,B7,BB,B3,BA,ao];simp only[BH,BI,BJ,BK,BL,BM,BN,BO,ao,BG,aX,aW,aY,aZ,bs,ms];rw[show decide ((1:Int)<2)=true from rfl,Ao rfl,show(an [((0:Int),lo),(ed,hi)] (1:Int))=some (ed,hi)from rfl,show i64.wrap (1-1)=0 from rfl,show(an [((0:Int),lo),(ed,hi)] (0:Int))=some (0,lo)from rfl];simp only[Ap,show((1:Int)==0)=false from rfl,Ah,if_false,show decide ((1:Int)>0)=true from rfl,if_true];rw[Al (show ¬ed<=0 by omega),An (by decide),Al (show ¬ed>1125899906842624 by omega),An (by decide),Al (show ¬hi<0 by omega),An (by decide),bs,Al (show ¬hi>1000000 by omega)];dsimp only;rw[An (by decide)];rfl
 have a:H4 ([(0,lo),(ed,hi)],[(0,lo),(ed,hi)],2,2,())=some (.inr (.inl ())):=by
  unfold H4;dsimp only;rfl
 unfold band_Check;dsimp only;rw[show decide ((([(0,lo),(ed,hi)]:List (Int×Int)).length:Int)>64)=false from rfl,An (by decide),show(([(0,lo),(ed,hi)]:List (Int×Int)).length:Int)=2 from rfl];rw[aH c,aH b,ay a];rfl
theorem Yz{den:Int}(a:0<den){p:Int×Int}{n r:Int}:(stepB den p n r).1*den+(stepB den p n r).2=p.1*den+p.2+n*r/\0<=(stepB den p n r).2/\(stepB den p n r).2<den:=by
 unfold stepB;dsimp only;have c:=Int.mul_ediv_add_emod (p.2+n % den*r) den;have b:=Int.mul_ediv_add_emod n den;refine⟨?_,Int.emod_nonneg _ (by omega),Int.emod_lt_of_pos _ a⟩;have g:n*r=den*(n/den)*r+n % den*r:=by rw[<-Int.add_mul,b]
 have f:(p.1+n/den*r+(p.2+n % den*r)/den)*den=p.1*den+n/den*r*den+(p.2+n % den*r)/den*den:=by rw[Int.add_mul,Int.add_mul]
 have e:n/den*r*den=den*(n/den)*r:=by rw[Int.mul_comm (n/den*r) den,Int.mul_assoc]
 have d:(p.2+n % den*r)/den*den=den*((p.2+n % den*r)/den):=Int.mul_comm _ _;omega
theorem Ah5{x i den f r0 r1:Int}(l:0<=x)(o:0<=f*i)(q:1000000<=den)(g:0<=r0/\r0<=1000000)(e:0<=r1/\r1<=1000000):0<=scaledS x i den f r0 r1/\scaledS x i den f r0 r1<=x+1:=by
 have q0:=Yz (den:=den) (by omega) (p:=(0,0)) (n:=min x (f*i)) (r:=r0);have q1:=Yz (den:=den) (by omega) (p:=stepB den (0,0) (min x (f*i)) r0) (n:=max 0 (x-f*i)) (r:=r1);unfold scaledS;generalize stepB den (0,0) (min x (f*i)) r0=p0 at*;generalize stepB den p0 (max 0 (x-f*i)) r1=p1 at*;have c:0<=min x (f*i):=by omega
 have b:0<=max 0 (x-f*i):=by omega
 have d:min x (f*i)+max 0 (x-f*i)=x:=by omega
 generalize min x (f*i)=n0 at*;generalize max 0 (x-f*i)=n1 at*;have v:n0*r0<=n0*1000000:=Int.mul_le_mul_of_nonneg_left g.2 c;have t:n1*r1<=n1*1000000:=Int.mul_le_mul_of_nonneg_left e.2 b;have j:0<=n0*r0:=Int.mul_nonneg c g.1;have h:0<=n1*r1:=Int.mul_nonneg b e.1;have w:(0:Int)*den=0:=Int.zero_mul _;dsimp only at q0;have m:p1.1*den<=x*1000000:=by omega
 have k:x*1000000<=x*den:=Int.mul_le_mul_of_nonneg_left q l;have y:p1.1<=x:=Int.le_of_mul_le_mul_right (a:=den) (by omega) (by omega)
 have s:0<=p1.1:=by
  have A: -den<p1.1*den:=by omega
  have: -1<p1.1:=by
   refine Int.lt_of_mul_lt_mul_right (a:=den) ?_ (by omega);omega
  omega
 split<;>omega
def Ju(x:Mo)(tb i o:Int):Int:=max 0 (tb*o-x.al*i)
def D1(x:Mo)(tb i o:Int):Int:=scaledS (Ju x tb i o) i (o*1000000) x.ed x.lo x.hi
theorem YJ{x:Mo}(h:Ce x){tb i o:Int}(a: -1100000000000<=tb/\tb<=1100000000000)(hi:1<=i/\i<=o)(b:o<=26):
  (-28600000000000<=tb*o/\tb*o<=28600000000000)/\(0<=x.al*i/\x.al*i<=111669149696)/\0<=Ju x tb i o/\Ju x tb i o<=30000000000000:=by
 have f:tb*o<=1100000000000*o:=Int.mul_le_mul_of_nonneg_right a.2 (by omega);have e: -1100000000000*o<=tb*o:=Int.mul_le_mul_of_nonneg_right a.1 (by omega);have d:0<=x.al*i:=Int.mul_nonneg h.al.1 (by omega);have c:x.al*i<=4294967295*i:=Int.mul_le_mul_of_nonneg_right h.al.2 (by omega);unfold Ju;omega
theorem R2{x:Mo}(h:Ce x){tb i o:Int}(b: -1100000000000<=tb/\tb<=1100000000000)(hi:1<=i/\i<=o)(c:o<=26):0<=D1 x tb i o/\D1 x tb i o<=30000000000001:=by
 have a:=YJ h b hi c;have d:=h.lo;have e:=h.hi;have g:=h.ed;have:=Ah5 (x:=Ju x tb i o) (i:=i) (den:=o*1000000) (f:=x.ed) (r0:=x.lo) (r1:=x.hi) a.2.2.1 (Int.mul_nonneg (by omega) (by omega)) (by omega) (by omega) (by omega);unfold D1;omega
theorem Aj4{x:Mo}(h:Ce x){tb i o:Int}(d: -1100000000000<=tb/\tb<=1100000000000)(hi:1<=i/\i<=o)(e:o<=26):
  Oh (tb,i,o,x.al,x.ex,[(0,x.lo),(x.ed,x.hi)])=some (D1 x tb i o,0):=by
 have c:=YJ h d hi e;have f:=h.al;have hex:=h.ex;have k:=h.lo;have l:=h.hi;have m:=h.ed;have g:AO tb=true:=by simp[AO];omega
 have r1:Ck x.al=true:=Hk.2 (by omega);have b:Ck x.ex=true:=Hk.2 (by omega);unfold Oh;dsimp only;simp only[aN,aK,aO,aM,aL,gM,aS,B5,aP,B6,BC,aU,aT,aR,aQ,B2,B4,B7,BB,B3,BA,ao];simp only[BH,BI,BJ,BK,BL,BM,BN,BO,ao,BG,aX,aW,aY,aZ,bs,ms];rw[Al (show ¬i<1 by omega),An (by decide),bs,Al (show ¬i>o by omega),An (by decide),bs,Al (show ¬o>400 by omega),An (by decide),Js,bs,g,An (by decide),Y7,bs,r1,An (by decide),Y7,bs,bs,bs,b];dsimp only;rw[An (by decide)];rw[AI (n:=tb*o) (by omega) (by omega),AI (n:=x.al*i) (by omega) (by omega),AI (n:=tb*o-x.al*i) (by omega) (by omega)]
 have j:band_Scaled (max 0 (tb*o-x.al*i),i,o,[(0,x.lo),(x.ed,x.hi)])=some (D1 x tb i o,0):=by
  unfold band_Scaled;dsimp only;rw[Zp (by omega) (by omega) (by omega),bs];have a:=c.2.2;unfold Ju at a;rw[Ao ⟨rfl,rfl,⟨hi.1,hi.2,by omega⟩,⟨a.1,by omega⟩,⟨by omega,by omega⟩,⟨by omega,by omega⟩,⟨by omega,by omega⟩⟩];rfl
 rw[j];rfl
def EE(x:Mo)(tb tt b i o:Int):Int:=D1 x (tb+b) i o-tt+x.ex
theorem Ajr{x:Mo}(h:Ce x){tb tt b i o:Int}(m: -1000000000000<=tb/\tb<=1000000000000)(d:0<=tt/\tt<=100000000000000)(q: -100000000000<=b/\b<=100000000000)(hi:1<=i/\i<=o)(c:o<=26):
  Og ((tb,tt),b,i,o,x.al,x.ex,[(0,x.lo),(x.ed,x.hi)])=some ((tb+b,D1 x (tb+b) i o),EE x tb tt b i o,0):=by
 have l:=R2 h (tb:=tb+b) (i:=i) (o:=o) (by omega) hi c;have hex:=h.ex;have k:AO tb=true:=by simp[AO];omega
 have j:AO tt=true:=by simp[AO];omega
 have g:AO b=true:=by simp[AO];omega
 have f:AO (tb+b)=true:=by simp[AO];omega
 have e:AO (D1 x (tb+b) i o-tt+x.ex)=true:=by simp[AO];omega
 unfold Og;dsimp only;simp only[aN,aK,aO,aM,aL,gM,aS,B5,aP,B6,BC,aU,aT,aR,aQ,B2,B4,B7,BB,B3,BA,ao];simp only[BH,BI,BJ,BK,BL,BM,BN,BO,ao,BG,aX,aW,aY,aZ,bs,ms];rw[Js,bs,k,An (by decide),Js,bs,bs,j,An (by decide),Js,bs,bs,g,An (by decide),AI (n:=tb+b) (by omega) (by omega),Js,bs,f,An (by decide),Aj4 h (by omega) hi c,bs,An (show ¬((0:Int) !=0)=true by decide)];by_cases a:(tb+b==tb&&D1 x (tb+b) i o==tt)=true
 ·rw[Ao a];simp only[Ag,beq_iff_eq]at a;unfold EE;rw[a.2,a.1,show tt-tt+x.ex=x.ex by omega]
 ·rw[An a];dsimp only;rw[AI (n:=D1 x (tb+b) i o-tt) (by omega) (by omega),AI (n:=D1 x (tb+b) i o-tt+x.ex) (by omega) (by omega),Js,bs,e];rfl
theorem Agr{yy ii oo tb tt:Int}{bf:MI}{so:MS}{od:MI}{x:Mo}{y i o g b c:Int}{ln:ML}(h:Ce x)(j: -1000000000000<=tb/\tb<=1000000000000)(d:0<=tt/\tt<=100000000000000)(k: -100000000000<=b/\b<=100000000000)(hi:1<=i/\i<=o)(f:o<=26)(A: -100000000000000<=c/\c<=100000000000000)(q:∀e∈ln,e.1≠(3,El)):
  Lt () (aq (yy,ii,oo,bf,so,tb,tt,od) (x.mon y i o) g b c ln)=
   some (0,aq (yy,ii,oo,bf,so,tb+b,D1 x (tb+b) i o,od) (x.mon y i o) g b (c-EE x tb tt b i o) (ln++ [((3,El),EE x tb tt b i o)])):=by
 have v:=R2 h (tb:=tb+b) (i:=i) (o:=o) (by omega) hi f;have hex:=h.ex;have w: -100000000000000<=EE x tb tt b i o/\EE x tb tt b i o<=30000000000256:=by unfold EE;omega
 have t:=Ajr h j d k hi f;have a:=KS (part:=3) (l:= [(El,EE x tb tt b i o)]) (c:=c) (s:=(yy,ii,oo,bf,so,tb+b,D1 x (tb+b) i o,od)) (m:=x.mon y i o) (g:=g) (b:=b) (ln:=ln) (by simp);rw[Jc q (by show _/\_;dsimp only;omega)]at a;have r:Hh 3 [(El,EE x tb tt b i o)] c=c-EE x tb tt b i o:=AI (by omega) (by omega);rw[r]at a;unfold Lt;dsimp only[aq,Mo.mon]at a⊢;rw[t,bs];dsimp only;change Option.bind (EQ ((),3,[(El,EE x tb tt b i o)]) _) _=_;rw[a,bs];rfl
def Ew(k:List UInt8)(v:Int):List It:=if v>0 then [(k,v)]else []
theorem Xk{part:Int}{k:List UInt8}{v c:Int}{s:ak}{m:CO}{g b:Int}{ln:ML}(d:∀e∈ln,e.1≠(part,k))(a:part≠0/\part≠6)(i: -1000000000000000<=v/\v<=1000000000000000)(j: -1000000000000000<=c/\c<=1000000000000000):
  EQ ((),part,Ew k v) (aq s m g b c ln)=some ((),aq s m g b (c-max v 0) (ln++b7 part k v)):=by
 rw[KS (by unfold Ew;split<;>simp)]
 have h:FV part (Ew k v) ln=ln++b7 part k v:=by
  unfold Ew b7;split
  ·rw[Jc d (by show _/\_;dsimp only;omega)];rfl
  ·rw[List.append_nil];rfl
 have f:Hh part (Ew k v) c=c-max v 0:=by
  unfold Ew;split
  ·show(if part≠0/\part≠6 then i64.wrap (c-v)else c)=_;rw[Ao a,AI (by omega) (by omega)];omega
  ·show c=_;omega
 rw[h,f]
theorem Ags{s:ak}{x:Mo}{y i o g b c:Int}{ln:ML}(h:Ce x)(q: -100000000000000<=c/\c<=100000000000000)(j:∀e∈ln,e.1≠(4,Ea)):
  Lu () (aq s (x.mon y i o) g b c ln)=some (0,aq s (x.mon y i o) g b (c-max (min x.C c) 0) (ln++b7 4 Ea (min x.C c))):=by
 have r:=h.C
 have l:J4 (c,[(Ea,x.C)])=some (Ew Ea (min x.C c),c-max (min x.C c) 0):=by
  rw[YL (by unfold Et;omega) (by intro z d;rw[List.mem_singleton]at d;subst d;show Et x.C;unfold Et;omega) (by simp)];unfold ET ET Ew;dsimp only;by_cases a:min x.C c>0
  ·rw[Ao a,Ao a,show max (min x.C c) 0=min x.C c by omega]
  ·rw[An a,An a,show max (min x.C c) 0=0 by omega,Int.sub_zero]
 have f:=Xk (part:=4) (k:=Ea) (v:=min x.C c) (c:=c) (s:=s) (m:=x.mon y i o) (g:=g) (b:=b) (ln:=ln) j (by decide) (by omega) (by omega);unfold Lu;dsimp only[aq,Mo.mon]at f⊢;rw[l,bs];dsimp only;rw[f,bs]
theorem YZ{c:Int}(b:0<=c/\c<=1125899906842624):LQ c=some false:=by
 have a:AO c=true:=by simp[AO];omega
 unfold LQ;dsimp only;simp only[aN,aK,aO,aM,aL,gM,aS,B5,aP,B6,BC,aU,aT,aR,aQ,B2,B4,B7,BB,B3,BA,ao];simp only[BH,BI,BJ,BK,BL,BM,BN,BO,ao,BG,aX,aW,aY,aZ,bs,ms];rw[Al (show ¬c<0 by omega),An (by decide),E9,bs,a];rfl
theorem TF:∀(l pre:List Int),(∀c∈l,0<=c/\c<=1125899906842624)->pre.length+l.length<=1000000->iter NM (pre++l,(),((pre++l).length:Int),(pre.length:Int),())=some (.inl ())
 | [],pre,_,hn=>by
  refine ay ?_;unfold NM;dsimp only;have h:decide ((pre.length:Int)<(((pre++ []):List Int).length:Int))=false:=Al (by simp);rw[h,An (by decide)]
 |x::l,pre,hl,hn=>by
  simp only[Au]at hn;have w1:i64.wrap ((pre.length:Int)+1)=((pre++ [x]).length:Int):=by rw[AI (by omega) (by omega)];simp
  have h:decide ((pre.length:Int)<(((pre++x::l):List Int).length:Int))=true:=Am (by simp;omega);have e:=TF l (pre++ [x]) (fun c a=>hl c (by simp[a])) (by simp;omega);rw[Ax,List.singleton_append]at e;refine Eq.trans (aH ?_) e;unfold NM;dsimp only;rw[h,Ao rfl,CZ];simp only[Aq,Ap];rw[YZ (hl x (by simp)),bs,An (by decide),w1]
theorem TD{l:List Int}(a:∀c∈l,0<=c/\c<=1125899906842624)(b:l.length<=1000):J2 l=some true:=by
 have e:=TF l [] a (by simp;omega);simp only[Ay,Av]at e;rw[show((0:Nat):Int)=0 from rfl]at e;unfold J2 Ro Rp;dsimp only;rw[e,bs];rfl
set_option maxRecDepth 100000 in
theorem Zc:LR AG=some true:=by
 unfold LR;dsimp only;exact CP (Gy 10 rfl) rfl
def Bl(x:Mo):List UInt8×Int×Int×Int×Int×Int:=(AG,1,x.rt,x.fx,x.pr,x.tt)
theorem Za{x:Mo}(h:Ce x):LM [Bl x]=some 0:=by
 have i:=h.rt;have g:=h.fx;have f:=h.pr;have e:=h.tt
 have d:J1 ([Bl x],1,0,[],(),())=some (.inl ([Bl x],1,1,[(AG,true)],(),())):=by
  unfold J1;dsimp only;simp only[aN,aK,aO,aM,aL,gM,aS,B5,aP,B6,BC,aU,aT,aR,aQ,B2,B4,B7,BB,B3,BA,ao];simp only[BH,BI,BJ,BK,BL,BM,BN,BO,ao,BG,aX,aW,aY,aZ,bs,ms];rw[show decide ((0:Int)<1)=true from rfl,Ao rfl,show(an [Bl x] (0:Int))=some (Bl x)from rfl,bs];unfold Bl;dsimp only;rw[Zc,bs,An (by decide),show decide ((1:Int)<0)=false from rfl,An (by decide),show decide ((1:Int)>99)=false from rfl,bs,An (by decide),Al (show ¬x.rt<0 by omega),bs,An (by decide),Al (show ¬x.rt>1000000 by omega),bs,An (by decide)];rw[TD (by intro c a;simp only[List.mem_cons,List.not_mem_nil,or_false]at a;rcases a with rfl|rfl|rfl<;>omega) (by simp)];rfl
 have b:J1 ([Bl x],1,1,[(AG,true)],(),())=some (.inr (.inl ())):=by
  unfold J1;dsimp only;rfl
 unfold LM;dsimp only;rw[show decide ((([Bl x]:List (List UInt8×Int×Int×Int×Int×Int)).length:Int)>64)=false from rfl,An (by decide),show(([Bl x]:List (List UInt8×Int×Int×Int×Int×Int)).length:Int)=1 from rfl,aH d,ay b];rfl
theorem TG{x:Mo}:LO [Bl x]=some [Bl x]:=by
 have c:Rr ([Bl x],0,1,(),1,())=some (.inr ()):=by
  unfold Rr;dsimp only;rfl
 have b:Ru ([Bl x],1,(),20,0,20,())=some (.inr ([Bl x],1,(),20,0,())):=by
  unfold Ru;dsimp only;rfl
 have a:Rs ([Bl x],1,(),20,())=some (.inr ()):=by
  unfold Rs;dsimp only;rfl
 have g:Lh ([Bl x],0,1,())=some ():=by
  unfold Lh;dsimp only;rw[show i64.wrap (0+1)=1 from rfl,ay c];rfl
 have f:NP ([Bl x],1,())=some ():=by
  unfold NP;dsimp only;rw[ay b,bs];dsimp only;rw[g,bs,ay a];rfl
 have e:NO ([Bl x],())=some ():=by
  unfold NO;dsimp only;rw[show(([Bl x]:List (List UInt8×Int×Int×Int×Int×Int)).length:Int)=1 from rfl,f];rfl
 have d:NL [Bl x]=some [Bl x]:=by
  unfold NL;rw[Ao ⟨by show 1*56<=_;decide,by show 1<=_;decide⟩]
 unfold LO;dsimp only;rw[d,bs,e];rfl
theorem Q6{l:List Int}{m v:Int}{i:Nat}(a:l[i]? =some v)(b:l.length<=1000):Lg (l,m,(i:Int),())=some (.inl (l,min m v,((i+1:Nat):Int),())):=by
 unfold Lg;dsimp only;rw[Wn a,Ao rfl,Kj a];have:=(Af.1 a).1;simp only[Aq,Ap];rw[YH (by omega)]
theorem Ww{l:List Int}{m:Int}:Lg (l,m,(l.length:Int),())=some (.inr (m,())):=by
 unfold Lg;dsimp only;rw[Aga,An (by decide)]
theorem Ae3(a b:Int):H3 [a,b]=some (min a b):=by
 have c:=Q6 (l:= [a,b]) (m:=a) (v:=b) (i:=1) rfl (by simp);have d:=Ww (l:= [a,b]) (m:=min a b);unfold H3 NN;dsimp only;rw[show decide ((([a,b]:List Int).length:Int)<1)=false from rfl,An (by decide),show(an [a,b] (0:Int))=some a from rfl];simp only[Aq,Ap];rw[show((1:Nat):Int)=1 from rfl]at c;rw[show((1+1:Nat):Int)=((([a,b]:List Int).length:Nat):Int)from rfl]at c;rw[aH c,ay d];rfl
theorem Ae4(a b c:Int):H3 [a,b,c]=some (min (min a b) c):=by
 have e:=Q6 (l:= [a,b,c]) (m:=a) (v:=b) (i:=1) rfl (by simp);have d:=Q6 (l:= [a,b,c]) (m:=min a b) (v:=c) (i:=2) rfl (by simp);have f:=Ww (l:= [a,b,c]) (m:=min (min a b) c);unfold H3 NN;dsimp only;rw[show decide ((([a,b,c]:List Int).length:Int)<1)=false from rfl,An (by decide),show(an [a,b,c] (0:Int))=some a from rfl];simp only[Aq,Ap];rw[show((1:Nat):Int)=1 from rfl]at e;rw[show((2+1:Nat):Int)=((([a,b,c]:List Int).length:Nat):Int)from rfl]at d;rw[aH e,aH d,ay f];rfl
def O1(x:Mo)(c:Int):Int:=if x.fx=0 then E3 (max c 0) x.rt else x.fx
def ND(x:Mo)(p:Int):Int:=if x.tt=0 then 1125899906842624 else if x.tt<max p 0 then 0 else min (x.tt-max p 0) 1125899906842624
def Ch(x:Mo)(c p:Int):Int:=max (min (min (O1 x c) (ND x p)) (c-x.pr)) 0
theorem Zd{x:Mo}{c:Int}(h:Ce x)(b: -100000000000000<=c/\c<=100000000000000):LS (c,Bl x)=some (O1 x c):=by
 have d:=h.rt;unfold LS O1 Bl;dsimp only;by_cases a:x.fx=0
 ·rw[Ao a,a,An (by decide),QT (by omega) (by omega)];rfl
 ·rw[An a,Ao (by simpa using a)]
theorem Zb{x:Mo}{od:MI}(h:Ce x)(c:0<=A7 AG od/\A7 AG od<=1000000000000000):LN (od,Bl x)=some (ND x (A7 AG od)):=by
 have d:=h.tt;unfold LN ND Bl;dsimp only;rw[fM];by_cases b:x.tt=0
 ·rw[Ao b,b,Ao (show((0:Int)==0)=true from rfl)]
 ·rw[An b,An (by simpa using b)];by_cases a:x.tt<max (A7 AG od) 0
  ·rw[Ao a,Am a,Ao rfl]
  ·rw[An a,Al a,An (by decide),AI (by omega) (by omega),Ae3];rfl
theorem Pp{x:Mo}{c p:Int}(h:Ce x)(a: -100000000000000<=c/\c<=30010000000000):0<=Ch x c p/\Ch x c p<=30010000000000:=by
 have:=h.pr;unfold Ch;omega
theorem Zn{x:Mo}{od:MI}{c:Int}(h:Ce x)(m:cg AG od)(l:0<=A7 AG od/\A7 AG od<=1000000000000000)(q: -100000000000000<=c/\c<=30010000000000):
  LP (c,od,[Bl x])=some (Ew AG (Ch x c (A7 AG od)),[(AG,A7 AG od+Ch x c (A7 AG od))],0):=by
 have B:=Pp (p:=A7 AG od) h q;have k:=h.pr;have s:AO c=true:=by simp[AO];omega
 have r:AO (A7 AG od+Ch x c (A7 AG od))=true:=by simp[AO];omega
 have key:∀b:MI,cg AG b->iter Iv (c,od,c,[Bl x],(([Bl x]:List (List UInt8×Int×Int×Int×Int×Int)).length:Int),(0:Int),b,([]:List It),(),(),())=
   some (.inl ([(AG,A7 AG od+Ch x c (A7 AG od))],Ew AG (Ch x c (A7 AG od)),(),(),())):=by
  intro b o
  have j:Iv (c,od,c,[Bl x],(([Bl x]:List (List UInt8×Int×Int×Int×Int×Int)).length:Int),(0:Int),b,([]:List It),(),(),())=
    some (.inl (c,od,c-Ch x c (A7 AG od),[Bl x],1,1,[(AG,A7 AG od+Ch x c (A7 AG od))],Ew AG (Ch x c (A7 AG od)),(),(),())):=by
   unfold Iv;dsimp only;simp only[aN,aK,aO,aM,aL,gM,aS,B5,aP,B6,BC,aU,aT,aR,aQ,B2,B4,B7,BB,B3,BA,ao];simp only[BH,BI,BJ,BK,BL,BM,BN,BO,ao,BG,aX,aW,aY,aZ,bs,ms];rw[show decide ((0:Int)<(([Bl x]:List (List UInt8×Int×Int×Int×Int×Int)).length:Int))=true from rfl,Ao rfl,show(an [Bl x] (0:Int))=some (Bl x)from rfl,bs];have t:∀f:(List UInt8×Int×Int×Int×Int×Int),f=(f.1,f.2.1,f.2.2.1,f.2.2.2.1,f.2.2.2.2.1,f.2.2.2.2.2):=fun f=>rfl;rw[<-t (Bl x)];have y:(Bl x).1=AG:=rfl;have w:(Bl x).2.2.2.2.1=x.pr:=rfl;rw[y,w,fM,TD (by intro z g;rw[List.mem_singleton]at g;subst g;omega) (by simp),bs,An (by decide),Zd h (by omega),bs,Zb h l,bs,AI (n:=c-x.pr) (by omega) (by omega),Ae4,bs];rw[show max (min (min (O1 x c) (ND x (A7 AG od))) (c-x.pr)) 0=Ch x c (A7 AG od)from rfl];rw[AI (n:=A7 AG od+Ch x c (A7 AG od)) (by omega) (by omega),E9,bs,r,An (by decide),fP,Xj o,AI (n:=c-Ch x c (A7 AG od)) (by omega) (by omega)];unfold Ew;by_cases e:Ch x c (A7 AG od)>0
   ·rw[Am e,Ao rfl,Ao e,Ao ⟨by show(((0:Nat):Int)+((1:Nat):Int))*24<=_;decide,by show((0:Nat):Int)+((1:Nat):Int)<=_;decide⟩];rfl
   ·rw[Al e,An (by decide),An e];rfl
  have i:Iv (c,od,c-Ch x c (A7 AG od),[Bl x],1,1,[(AG,A7 AG od+Ch x c (A7 AG od))],Ew AG (Ch x c (A7 AG od)),(),(),())=some (.inr (.inl ([(AG,A7 AG od+Ch x c (A7 AG od))],Ew AG (Ch x c (A7 AG od)),(),(),()))):=by
   unfold Iv;dsimp only;rfl
  rw[aH j,ay i]
 unfold LP;dsimp only;rw[E9,bs,s,An (by decide),Za h,bs,An (by decide)];refine Ny.2 fun A d=> ?_;rcases m with rfl|⟨v,rfl⟩
 ·have:=d.eq_nil;subst this;refine CP (a:=(c,[],[Bl x],[],(),())) rfl ?_;dsimp only;rw[TG,bs,key [] (.inl rfl)];rfl
 ·have:=List.perm_singleton.1 d;subst this;refine CP (a:=(c,[(AG,v)],[Bl x],[(AG,v)],(),())) rfl ?_;dsimp only;rw[TG,bs,key [(AG,v)] (.inr ⟨v,rfl⟩)];rfl
theorem Agt{yy ii oo tb tt:Int}{bf:MI}{so:MS}{od:MI}{x:Mo}{y i o g b c:Int}{ln:ML}(h:Ce x)(l:cg AG od)(j:0<=A7 AG od/\A7 AG od<=1000000000000000)(d: -100000000000000<=c/\c<=30010000000000)(q:∀e∈ln,e.1≠(5,AG)):
  Lv () (aq (yy,ii,oo,bf,so,tb,tt,od) (x.mon y i o) g b c ln)=
   some (0,aq (yy,ii,oo,bf,so,tb,tt,[(AG,A7 AG od+Ch x c (A7 AG od))]) (x.mon y i o) g b (c-Ch x c (A7 AG od)) (ln++b7 5 AG (Ch x c (A7 AG od)))):=by
 have r:=Pp (p:=A7 AG od) h d;have f:=Zn h l j d;have a:=Xk (part:=5) (k:=AG) (v:=Ch x c (A7 AG od)) (c:=c) (s:=(yy,ii,oo,bf,so,tb,tt,[(AG,A7 AG od+Ch x c (A7 AG od))])) (m:=x.mon y i o) (g:=g) (b:=b) (ln:=ln) q (by decide) (by omega) (by omega);rw[show max (Ch x c (A7 AG od)) 0=Ch x c (A7 AG od) by omega]at a;unfold Lv;dsimp only[aq,Mo.mon,Bl]at f a⊢;rw[f,bs];dsimp only;rw[a,bs]
end WB
namespace WB
open Go Go.RowKit Go.Sort Go.Proofs
abbrev bb:=Int×List UInt8×Int
def cmpI(x y:Int):Int:=if x<y then-1 else if y<x then 1 else 0
def cmpT(x y:List UInt8):Int:=if sLess x y then-1 else if !(sLess x y||x==y)then 1 else 0
def cmpL(x y:bb):Int:=if cmpI x.1 y.1=0 then cmpT x.2.1 y.2.1 else cmpI x.1 y.1
theorem Ri:∀(x y:List UInt8),sLess x y=decide (x<y)
 | [],[]=>by simp[sLess,Op.bytesLess]
 |_::_,[]=>by simp[sLess,Op.bytesLess]
 | [],_::_=>by simp[sLess,Op.bytesLess]
 |a::x,b::y=>by
  have e:=Ri x y;unfold sLess at e⊢;simp only[Op.bytesLess,List.cons_lt_cons_iff];by_cases d:a<b
  ·simp[d]
  ·by_cases c:a=b
   ·subst c;simp[e]
   ·have:b<a:=by
     rcases UInt8.lt_or_lt_of_ne c with h|h
     ·exact absurd h d
     ·exact h
    simp[d,c,this]
theorem ZP(x y:Int):JG (x,y)=some (cmpI x y):=by
 unfold JG Mi cmpI;dsimp only;simp only[bne_self_eq_false,Ap,Ah,if_false,decide_eq_true_eq];by_cases a:x<y
 ·rw[Ao a,Ao a]
 ·rw[An a,An a];by_cases b:y<x
  ·rw[Ao b,Ao b]
  ·rw[An (by omega),An b]
theorem ZQ(x y:List UInt8):JH (x,y)=some (cmpT x y):=by
 unfold JH Mj cmpT;dsimp only;simp only[beq_self_eq_true,Bool.not_true,Ap,Ah,if_false];split
 ·rfl
 ·split<;>rfl
theorem WW{p q m:Int}{i:Nat}{l:List Int}(a:l[i]? =some m)(b:l.length<=1000):JJ (0,l,(l.length:Int),(i:Int),())=some (if m=0 then .inl (0,l,(l.length:Int),((i+1:Nat):Int),())else .inr (.inr m)):=by
 unfold JJ;dsimp only;rw[Wn a,Ao rfl,Kj a];have:=(Af.1 a).1;simp only[Aq,Ap];by_cases h:m=0
 ·rw[Ao h,An (by simp[h]),YH (by omega)]
 ·rw[An h,Ao (by simpa using h)]
theorem Agm(p q:Int):JI [p,q]=some (if p=0 then q else p):=by
 have a:=WW (p:=p) (q:=q) (l:= [p,q]) (m:=p) (i:=0) rfl (by simp);have b:=WW (p:=p) (q:=q) (l:= [p,q]) (m:=q) (i:=1) rfl (by simp)
 have e:JJ (0,[p,q],(([p,q]:List Int).length:Int),((2:Nat):Int),())=some (.inr (.inl (0,()))):=by
  unfold JJ;dsimp only;rfl
 unfold JI;dsimp only;rw[show((0:Nat):Int)=0 from rfl]at a;by_cases d:p=0
 ·rw[Ao d]at a⊢;by_cases c:q=0
  ·rw[Ao c]at b;rw[aH a,aH b,ay e,c];rfl
  ·rw[An c]at b;rw[aH a,ay b];rfl
 ·rw[An d]at a⊢;rw[ay a];rfl
theorem slip1_eq(x y:bb):year_stepping_slip_1 (x,y)=some (cmpL x y):=by
 unfold year_stepping_slip_1 cmpL;dsimp only;rw[ZP,bs,ZQ,bs,Agm,bs]
def Ff(x y:bb):Prop:=x.1<y.1\/x.1=y.1/\x.2.1<y.2.1
theorem ZR(x y:List UInt8):cmpT x y<0<->x<y:=by
 unfold cmpT;rw[Ri];by_cases h:x<y
 ·simp[h]
 ·simp only[h,decide_false,Ah,if_false,iff_false];split<;>omega
theorem IQ(x y:bb):ltOf cmpL x y=true<->Ff x y:=by
 unfold ltOf cmpL Ff cmpI;rw[decide_eq_true_eq];by_cases a:x.1<y.1
 ·simp[a]
 ·by_cases c:y.1<x.1
  ·simp only[a,if_false,c,if_true,show ¬((1:Int)=0) by decide,false_or];constructor
   ·intro h;omega
   ·rintro⟨h,_⟩;omega
  ·have b:x.1=y.1:=by omega
   rw[b];simp only[Int.lt_irrefl,if_false,if_true,false_or,true_and];exact ZR _ _
theorem lnLt_swo:SWO (ltOf cmpL) where
 irrefl x:=by
  cases h:ltOf cmpL x x with
  |false=>rfl
  |true=>
   rcases(IQ x x).1 h with h|⟨_,h⟩
   ·omega
   ·exact absurd h (List.lt_irrefl _)
 trans x y z h1 h2:=by
  rw[IQ]at*;rcases h1 with h1|⟨h1,g1⟩<;>rcases h2 with h2|⟨h2,g2⟩
  ·exact .inl (by omega)
  ·exact .inl (by omega)
  ·exact .inl (by omega)
  ·exact .inr ⟨by omega,List.lt_trans g1 g2⟩
 ntrans x y z h1 h2:=by
  have b:¬Ff x y:=fun h=>by rw[(IQ x y).2 h]at h1;cases h1
  have a:¬Ff y z:=fun h=>by rw[(IQ y z).2 h]at h2;cases h2
  cases h:ltOf cmpL x z with
  |false=>rfl
  |true=>
   exfalso;unfold Ff at b a;have f:¬x.1<y.1:=fun h=>b (.inl h);have e:¬y.1<z.1:=fun h=>a (.inl h);rcases(IQ x z).1 h with h|⟨h,g⟩
   ·omega
   ·have j:x.1=y.1:=by omega
    have i:y.1=z.1:=by omega
    have d:¬x.2.1<y.2.1:=fun h=>b (.inr ⟨j,h⟩);have c:¬y.2.1<z.2.1:=fun h=>a (.inr ⟨i,h⟩);exact List.le_trans (List.not_lt.1 c) (List.not_lt.1 d) g
def BQ(m:ML):List bb:=m.flatMap fun e=>if e.2=0 then []else [(e.1.1,e.1.2,e.2)]
theorem MT(a b:ML):BQ (a++b)=BQ a++BQ b:=by unfold BQ;rw[List.flatMap_append]
theorem Aff{a b:ML}(h:a.Perm b):(BQ a).Perm (BQ b):=h.flatMap_right _
abbrev SlT:=Int×Int×Int×Int×Int×Int×Int×MI×MS×Int×Int×MI×Int×Int×Int×List It×List It×List It×List (List UInt8×Int×Int)×List (List UInt8×Int×Int×Int)×Int×Int×List (Int×Int)×List (List UInt8×Int×Int×Int×Int×Int)×ML×Int×Int×Int×List bb×Unit×Unit×Unit×Unit×Unit×Unit×Unit×Unit
def cA(s:ak)(m:CO)(g b l:Int)(ln:ML)(acc:List bb):SlT:=
 (0,0,m.1,m.2.1,s.1,s.2.1,s.2.2.1,s.2.2.2.1,s.2.2.2.2.1,s.2.2.2.2.2.1,s.2.2.2.2.2.2.1,s.2.2.2.2.2.2.2,m.1,m.2.1,m.2.2.1,m.2.2.2.1,m.2.2.2.2.1,m.2.2.2.2.2.1,m.2.2.2.2.2.2.1,m.2.2.2.2.2.2.2.1,m.2.2.2.2.2.2.2.2.1,m.2.2.2.2.2.2.2.2.2.1,m.2.2.2.2.2.2.2.2.2.2.1,m.2.2.2.2.2.2.2.2.2.2.2,ln,g,b,l,acc,(),(),(),(),(),(),(),())
abbrev YW:=Int×Int×Int×MI×MS×Int×Int×MI×Int×Int×Int×List It×List It×List It×List (List UInt8×Int×Int)×List (List UInt8×Int×Int×Int)×Int×Int×List (Int×Int)×List (List UInt8×Int×Int×Int×Int×Int)×Int×Int×Int×ML×Unit×Unit
def dC(s:ak)(m:CO)(g b c:Int)(ln:ML):YW:=(s.1,s.2.1,s.2.2.1,s.2.2.2.1,s.2.2.2.2.1,s.2.2.2.2.2.1,s.2.2.2.2.2.2.1,s.2.2.2.2.2.2.2,m.1,m.2.1,m.2.2.1,m.2.2.2.1,m.2.2.2.2.1,m.2.2.2.2.2.1,m.2.2.2.2.2.2.1,m.2.2.2.2.2.2.2.1,m.2.2.2.2.2.2.2.2.1,m.2.2.2.2.2.2.2.2.2.1,m.2.2.2.2.2.2.2.2.2.2.1,m.2.2.2.2.2.2.2.2.2.2.2,g,b,c,ln,(),())
theorem Yp{s:ak}{m:CO}{g b c:Int}{ln:ML}:∀(a:ML) (acc:List bb),(∀e∈a,AO e.2=true)->acc.length+a.length<=100000->
  Fh OA RG a (cA s m g b c ln acc)=some (.inl (cA s m g b c ln (acc++BQ a)))
 | [],acc,_,_=>by
  unfold Fh RG;dsimp only[cA];simp only[BQ,List.flatMap_nil,List.append_nil];rfl
 |e::a,acc,hf,hn=>by
  simp only[Au]at hn
  have f:OA e (cA s m g b c ln acc)=some (.inl (cA s m g b c ln (acc++BQ [e]))):=by
   unfold OA;dsimp only[cA];rw[E9,bs,hf e (by simp),An (by decide)];by_cases d:e.2=0
   ·rw[An (by simp[d])];simp only[BQ,List.flatMap_cons,List.flatMap_nil,Ao d,List.append_nil]
   ·rw[Ao (by simpa using d)];simp only[BQ,List.flatMap_cons,List.flatMap_nil,An d,List.append_nil];rw[OW (by simp;omega) (by decide),bs]
  unfold Fh;rw[f,bs];dsimp only
  rw[Yp a (acc++BQ [e]) (fun i h=>hf i (by simp[h])) (by
   have:(BQ [e]).length<=1:=by unfold BQ;simp only[List.flatMap_cons,List.flatMap_nil,List.append_nil];split<;>simp
   simp only[List.length_append];omega)]
  rw[Ax,<-MT];rfl
theorem Ais{s:ak}{m:CO}{g b c:Int}{ln:ML}{L:List bb}(l:∀e∈ln,AO e.2=true)(w:ln.length<=1000)(k:(BQ ln).Perm L)(q:L.Pairwise Ff):
  O9 () (dC s m g b c ln)=some (((m.1,m.2.1,L),0),dC s m g b c ln):=by
 unfold O9;dsimp only[dC];refine Ny.2 fun f a=> ?_;have j:=Yp (s:=s) (m:=m) (g:=g) (b:=b) (c:=c) (ln:=ln) f [] (fun e o=>l e (a.subset o)) (by rw[a.length_eq];simp;omega);rw[Ay]at j
 have t:srt_144_145 (BQ f)=some L:=by
  have i:(fun x y:bb=>(year_stepping_slip_1 (x,y)).getD 0)=cmpL:=by
   funext x y;rw[slip1_eq];rfl
  have d:(BQ f).length<4611686018427387904:=by
   have:∀m:ML,(BQ m).length<=m.length:=by
    intro m
    induction m with
    |nil=>simp[BQ]
    |cons e m ih=>
     have v:BQ (e::m)=BQ [e]++BQ m:=by rw[<-MT];rfl
     have:(BQ [e]).length<=1:=by unfold BQ;simp only[List.flatMap_cons,List.flatMap_nil,List.append_nil];split<;>simp
     rw[v,List.length_append,Au];omega
   have r:=this f;rw[a.length_eq]at r;omega
  unfold srt_144_145;rw[Ao d]
  congr 1
  rw[i];exact Aiz lnLt_swo ((Aff a).trans k) (q.imp fun h=>(IQ _ _).2 h)
 refine CP j ?_;dsimp only[cA];rw[t,bs]
theorem HC{k:List UInt8}(f:(k== [])=false)(e:(k== [45])=false)(d:decide ((k.length:Int)>32)=false)(c:k.length<=70368744177664)
  (a:iter Yo (k.map (fun b=>(b.toNat:Int)),((k.map fun b=>(b.toNat:Int)).length:Int),0,())=some (.inl ())):EN k=some true:=by
 unfold EN;dsimp only;simp only[aN,aK,aO,aM,aL,gM,aS,B5,aP,B6,BC,aU,aT,aR,aQ,B2,B4,B7,BB,B3,BA,ao];simp only[BH,BI,BJ,BK,BL,BM,BN,BO,ao,BG,aX,aW,aY,aZ,bs,ms];rw[f,An (by decide),bs,e,An (by decide),bs,d,An (by decide),Ao c,a];rfl
set_option maxRecDepth 100000 in
theorem ZW:EN Ei=some true:=HC rfl rfl rfl (by show 6<=70368744177664;decide) (Gy 10 rfl)
set_option maxRecDepth 100000 in
theorem ZS:EN DZ=some true:=HC rfl rfl rfl (by show 5<=70368744177664;decide) (Gy 10 rfl)
set_option maxRecDepth 100000 in
theorem ZV:EN AS=some true:=HC rfl rfl rfl (by show 7<=70368744177664;decide) (Gy 10 rfl)
set_option maxRecDepth 100000 in
theorem Uv:EN AE=some true:=HC rfl rfl rfl (by show 6<=70368744177664;decide) (Gy 10 rfl)
set_option maxRecDepth 100000 in
theorem ZX:EN El=some true:=HC rfl rfl rfl (by show 3<=70368744177664;decide) (Gy 10 rfl)
set_option maxRecDepth 100000 in
theorem ZT:EN Ea=some true:=HC rfl rfl rfl (by show 4<=70368744177664;decide) (Gy 10 rfl)
set_option maxRecDepth 100000 in
theorem ZU:EN AG=some true:=HC rfl rfl rfl (by show 5<=70368744177664;decide) (Gy 10 rfl)
def Ko(x:bb):Prop:=(0<=x.1/\x.1<7)/\EN x.2.1=some true/\x.2.2≠0/\AO x.2.2=true
theorem Afa{x:bb}(h:Ko x):NS x=some 0:=by
 obtain⟨d,c,b,a⟩:=h;unfold NS;dsimp only;simp only[aN,aK,aO,aM,aL,gM,aS,B5,aP,B6,BC,aU,aT,aR,aQ,B2,B4,B7,BB,B3,BA,ao];simp only[BH,BI,BJ,BK,BL,BM,BN,BO,ao,BG,aX,aW,aY,aZ,bs,ms];rw[Al (show ¬x.1<0 by omega),An (by decide),Al (show ¬x.1≥7 by omega),bs,An (by decide),c,bs,An (by decide),An (by simpa using b),E9,bs,a];rfl
theorem Ae8{x y:bb}(h:Ff x y):NR (x,y)=some true:=by
 unfold NR;dsimp only;simp only[aN,aK,aO,aM,aL,gM,aS,B5,aP,B6,BC,aU,aT,aR,aQ,B2,B4,B7,BB,B3,BA,ao];simp only[BH,BI,BJ,BK,BL,BM,BN,BO,ao,BG,aX,aW,aY,aZ,bs,ms];rcases h with h|⟨h1,h2⟩
 ·rw[Am h,Ao rfl]
 ·rw[Al (show ¬x.1<y.1 by omega),An (by decide),Ao (by simpa using h1),Ri,Am h2]
theorem Um{y i:Int}:∀(l pre:List bb),(∀x∈pre++l,Ko x)->(pre++l).Pairwise Ff->pre.length+l.length<=448->
  iter NQ (pre++l,((pre++l).length:Int),(pre.length:Int),y,i,pre++l,(),(),())=some (.inl ())
 | [],pre,_,_,hn=>by
  refine ay ?_;unfold NQ;dsimp only;have h:decide ((pre.length:Int)<(((pre++ []):List bb).length:Int))=false:=Al (by simp);rw[h,An (by decide)]
 |x::l,pre,hk,hp,hn=>by
  simp only[Au]at hn;have w1:i64.wrap ((pre.length:Int)+1)=((pre++ [x]).length:Int):=by rw[AI (by omega) (by omega)];simp
  have h:decide ((pre.length:Int)<(((pre++x::l):List bb).length:Int))=true:=Am (by simp;omega);have e:=Um (y:=y) (i:=i) l (pre++ [x]) (by rw[Ax];exact hk) (by rw[Ax];exact hp) (by simp;omega);rw[Ax,List.singleton_append]at e;refine Eq.trans (aH ?_) e;unfold NQ;dsimp only;simp only[aN,aK,aO,aM,aL,gM,aS,B5,aP,B6,BC,aU,aT,aR,aQ,B2,B4,B7,BB,B3,BA,ao];simp only[BH,BI,BJ,BK,BL,BM,BN,BO,ao,BG,aX,aW,aY,aZ,bs,ms];rw[h,Ao rfl,CZ,bs];have d:∀f:bb,(f.1,f.2.1,f.2.2)=f:=fun f=>rfl;rw[d x,Afa (hk x (by simp)),bs,An (by decide)];rcases List.eq_nil_or_concat pre with rfl|⟨q,z,rfl⟩
  ·rw[Ao (by rfl),bs];dsimp only;rw[w1]
  ·rw[List.concat_eq_append]at*;have k:(((q++ [z]).length:Nat):Int)=(q.length:Int)+1:=by simp
   have a:Ff z x:=by
    rw[Ax,List.singleton_append]at hp;have c:=(List.pairwise_append.1 hp).2.1;exact(List.pairwise_cons.1 c).1 x (by simp)
   have j:(((q++ [z]).length:Nat):Int)-1=(q.length:Int):=by omega
   have g:an (q++ [z]++x::l) (i64.wrap ((((q++ [z]).length:Nat):Int)-1))=some z:=by
    rw[j,AI (by omega) (by omega),Ax,List.singleton_append];exact CZ
   rw[An (by simp;omega),g,bs,d z,Ae8 a]
   have b:(if(z.1==x.1)=true then some (z.2.1==x.2.1)else some false)=some false:=by
    rcases a with a|⟨c,h2⟩
    ·rw[An (by simp;omega)]
    ·rw[Ao (by simpa using c)]
     congr 1
     rw[beq_eq_false_iff_ne];intro e;rw[e]at h2;exact List.lt_irrefl _ h2
   rw[b,bs,An (by decide),bs,An (by decide),bs];dsimp only;rw[w1]
theorem Ul{y i:Int}{l:List bb}(c:1900<=y/\y<=2199)(hi:1<=i/\i<=400)(b:∀x∈l,Ko x)(a:l.Pairwise Ff)(d:l.length<=448):Hp (y,i,l)=some 0:=by
 have e:=Um (y:=y) (i:=i) l [] b a (by simp;omega);simp only[Ay,Av]at e;rw[show((0:Nat):Int)=0 from rfl]at e;unfold Hp;dsimp only;simp only[aN,aK,aO,aM,aL,gM,aS,B5,aP,B6,BC,aU,aT,aR,aQ,B2,B4,B7,BB,B3,BA,ao];simp only[BH,BI,BJ,BK,BL,BM,BN,BO,ao,BG,aX,aW,aY,aZ,bs,ms];rw[Al (show ¬y<1900 by omega),An (by decide),bs,Al (show ¬y>2199 by omega),An (by decide),Al (show ¬i<1 by omega),An (by decide),bs,bs,Al (show ¬i>400 by omega)];dsimp only;rw[An (by decide),Al (show ¬(l.length:Int)>448 by omega),An (by decide),e,bs]
theorem Ala(s:List UInt8):RF s=some (CE s):=by
 rw[<-K0];rfl
theorem VJ{least:Int}:∀(l pre:List It),(∀x∈l,CE x.1=true/\least<=x.2/\AO x.2=true)->pre.length+l.length<=1000000->iter O6 (least,pre++l,((pre++l).length:Int),(pre.length:Int),())=some (.inl ())
 | [],pre,_,hn=>by
  refine ay ?_;unfold O6;dsimp only;have h:decide ((pre.length:Int)<(((pre++ []):List It).length:Int))=false:=Al (by simp);rw[h,An (by decide)]
 |x::l,pre,hl,hn=>by
  simp only[Au]at hn;have w1:i64.wrap ((pre.length:Int)+1)=((pre++ [x]).length:Int):=by rw[AI (by omega) (by omega)];simp
  have h:decide ((pre.length:Int)<(((pre++x::l):List It).length:Int))=true:=Am (by simp;omega);have e:=VJ (least:=least) l (pre++ [x]) (fun c a=>hl c (by simp[a])) (by simp;omega);rw[Ax,List.singleton_append]at e;refine Eq.trans (aH ?_) e;obtain⟨d,f,b⟩:=hl x (by simp);unfold O6;dsimp only;simp only[aN,aK,aO,aM,aL,gM,aS,B5,aP,B6,BC,aU,aT,aR,aQ,B2,B4,B7,BB,B3,BA,ao];rw[h,Ao rfl,CZ,bs,Ala,bs,d,An (by decide),Al (show ¬x.2<least by omega),An (by decide),E9,bs,bs,b];dsimp only;rw[An (by decide),w1]
theorem VI{least:Int}{l:List It}(a:∀x∈l,CE x.1=true/\least<=x.2/\AO x.2=true)(b:l.length<=64):Lo (l,least)=some 0:=by
 have e:=VJ l [] a (by simp;omega);simp only[Ay,Av]at e;rw[show((0:Nat):Int)=0 from rfl]at e;unfold Lo;dsimp only;rw[Al (show ¬(l.length:Int)>64 by omega),An (by decide),e,bs]
theorem Abw(h g f e d c:Bool){β:Type}(F:Bool->Option β):(((if h=true then some g else some false).bind fun b=>(if b=true then some f else some false).bind fun a=>(if a=true then some true else(if e=true then some d else some false).bind fun z=>if z=true then some c else some false).bind F))=F ((h&&g&&f)||(e&&d&&c)):=by
 cases h<;>cases g<;>cases f<;>cases e<;>cases d<;>cases c<;>rfl
def cR(yy ii oo y i o:Int):Prop:=ii<=0\/(yy=y/\oo=o/\ii+1=i)\/(ii=oo/\yy+1=y/\i=1)
theorem Ah6{yy ii oo tb tt y i o:Int}{bf:MI}{so:MS}{od:MI}{x:Mo}(h:Ce x)(k:2024<=y/\y<=2100)(hi:1<=i/\i<=o)(l:o<=26)(e:cR yy ii oo y i o)(f:0<=yy/\yy<=3000)(g:0<=ii/\ii<=3000):
  O5 ((yy,ii,oo,bf,so,tb,tt,od),x.mon y i o)=some 0:=by
 have m:=h.S;have r:=h.B;have q:=h.C;unfold O5;dsimp only[Mo.mon];simp only[aN,aK,aO,aM,aL,gM,aS,B5,aP,B6,BC,aU,aT,aR,aQ,B2,B4,B7,BB,B3,BA,ao];simp only[BH,BI,BJ,BK,BL,BM,BN,BO,ao,BG,aX,aW,aY,aZ,bs,ms];rw[AI (n:=ii+1) (by omega) (by omega),AI (n:=yy+1) (by omega) (by omega)];rw[Abw];rw[Al (show ¬y<1900 by omega),An (by decide),Al (show ¬y>2199 by omega),An (by decide),Al (show ¬o<1 by omega),An (by decide),Al (show ¬o>400 by omega),An (by decide),Al (show ¬i<1 by omega),An (by decide),Al (show ¬i>o by omega),bs];dsimp only;rw[An (by decide)]
 have j:(if decide (ii>0)=true then some (!((yy==y&&oo==o&&ii+1==i)||(ii==oo&&yy+1==y&&i==1)))else some false)=some false:=by
  rcases e with e|⟨a,b,c⟩|⟨a,b,c⟩
  ·rw[Al (show ¬ii>0 by omega),An (by decide)]
  ·rw[show(yy==y&&oo==o&&ii+1==i)=true by simp[a,b,c]];split<;>simp
  ·rw[show(ii==oo&&yy+1==y&&i==1)=true by simp[a,b,c]];split<;>simp
 rw[j,bs,An (by decide)]
 rw[VI (by
  intro z d;simp only[List.mem_cons,List.not_mem_nil,or_false]at d;rcases d with rfl|rfl
  ·exact⟨by show CE Ei=true;decide,by show _<=x.S;omega,by simp[AO];omega⟩
  ·exact⟨by show CE DZ=true;decide,by show _<=x.B;omega,by simp[AO];omega⟩) (by simp),bs,An (by decide)]
 rw[VI (by
  intro z d;simp only[List.mem_cons,List.not_mem_nil,or_false]at d;subst d
  exact⟨by show CE Ea=true;decide,by show _<=x.C;omega,by simp[AO];omega⟩) (by simp)]
abbrev PT:=Unit⊕(Unit⊕(Unit⊕(Unit⊕(Unit⊕Unit))))
def He:List PT:= [.inl (),.inr (.inl ()),.inr (.inr (.inl ())),.inr (.inr (.inr (.inl ()))),.inr (.inr (.inr (.inr (.inl ())))),.inr (.inr (.inr (.inr (.inr ()))))]
abbrev LsT:=Int×List PT×Int×Int×Int×Int×Int×MI×MS×Int×Int×MI×Int×Int×Int×Int×Int×Int×Int×Int×Int×Int×MI×MS×Int×Int×MI×Int×Int×Int×List It×List It×List It×List (List UInt8×Int×Int)×List (List UInt8×Int×Int×Int)×Int×Int×List (Int×Int)×List (List UInt8×Int×Int×Int×Int×Int)×Int×Int×Int×ML×Unit×Unit×Unit×Unit×Unit×Unit×Unit×Unit×Unit×Unit×Unit×Unit×Unit×Unit
def CU(j:Int)(s:ak)(t:L4):LsT:=(0,He,6,j,s.1,s.2.1,s.2.2.1,s.2.2.2.1,s.2.2.2.2.1,s.2.2.2.2.2.1,s.2.2.2.2.2.2.1,s.2.2.2.2.2.2.2,(0:Int),(0:Int),(0:Int),(0:Int),(0:Int),(0:Int),(0:Int),t.1,t.2.1,t.2.2.1,t.2.2.2.1,t.2.2.2.2.1,t.2.2.2.2.2.1,t.2.2.2.2.2.2.1,t.2.2.2.2.2.2.2.1,t.2.2.2.2.2.2.2.2.1,t.2.2.2.2.2.2.2.2.2.1,t.2.2.2.2.2.2.2.2.2.2.1,t.2.2.2.2.2.2.2.2.2.2.2.1,t.2.2.2.2.2.2.2.2.2.2.2.2.1,t.2.2.2.2.2.2.2.2.2.2.2.2.2.1,t.2.2.2.2.2.2.2.2.2.2.2.2.2.2.1,t.2.2.2.2.2.2.2.2.2.2.2.2.2.2.2.1,t.2.2.2.2.2.2.2.2.2.2.2.2.2.2.2.2.1,t.2.2.2.2.2.2.2.2.2.2.2.2.2.2.2.2.2.1,t.2.2.2.2.2.2.2.2.2.2.2.2.2.2.2.2.2.2.1,t.2.2.2.2.2.2.2.2.2.2.2.2.2.2.2.2.2.2.2.1,t.2.2.2.2.2.2.2.2.2.2.2.2.2.2.2.2.2.2.2.2.1,t.2.2.2.2.2.2.2.2.2.2.2.2.2.2.2.2.2.2.2.2.2.1,t.2.2.2.2.2.2.2.2.2.2.2.2.2.2.2.2.2.2.2.2.2.2.1,t.2.2.2.2.2.2.2.2.2.2.2.2.2.2.2.2.2.2.2.2.2.2.2.1,(),(),(),(),(),(),(),(),(),(),(),(),(),())
abbrev LeT:=Int×Int×Int×Int×MI×MS×Int×Int×MI×Int×Int×Int×Int×Int×Int×Int×Int×Int×Int×MI×MS×Int×Int×MI×Int×Int×Int×List It×List It×List It×List (List UInt8×Int×Int)×List (List UInt8×Int×Int×Int)×Int×Int×List (Int×Int)×List (List UInt8×Int×Int×Int×Int×Int)×Int×Int×Int×ML×Unit×Unit×Unit×Unit×Unit×Unit×Unit×Unit×Unit×Unit×Unit×Unit×Unit×Unit
def Wa(s:ak)(t:L4):LeT:=(0,s.1,s.2.1,s.2.2.1,s.2.2.2.1,s.2.2.2.2.1,s.2.2.2.2.2.1,s.2.2.2.2.2.2.1,s.2.2.2.2.2.2.2,(0:Int),(0:Int),(0:Int),(0:Int),(0:Int),(0:Int),(0:Int),t.1,t.2.1,t.2.2.1,t.2.2.2.1,t.2.2.2.2.1,t.2.2.2.2.2.1,t.2.2.2.2.2.2.1,t.2.2.2.2.2.2.2.1,t.2.2.2.2.2.2.2.2.1,t.2.2.2.2.2.2.2.2.2.1,t.2.2.2.2.2.2.2.2.2.2.1,t.2.2.2.2.2.2.2.2.2.2.2.1,t.2.2.2.2.2.2.2.2.2.2.2.2.1,t.2.2.2.2.2.2.2.2.2.2.2.2.2.1,t.2.2.2.2.2.2.2.2.2.2.2.2.2.2.1,t.2.2.2.2.2.2.2.2.2.2.2.2.2.2.2.1,t.2.2.2.2.2.2.2.2.2.2.2.2.2.2.2.2.1,t.2.2.2.2.2.2.2.2.2.2.2.2.2.2.2.2.2.1,t.2.2.2.2.2.2.2.2.2.2.2.2.2.2.2.2.2.2.1,t.2.2.2.2.2.2.2.2.2.2.2.2.2.2.2.2.2.2.2.1,t.2.2.2.2.2.2.2.2.2.2.2.2.2.2.2.2.2.2.2.2.1,t.2.2.2.2.2.2.2.2.2.2.2.2.2.2.2.2.2.2.2.2.2.1,t.2.2.2.2.2.2.2.2.2.2.2.2.2.2.2.2.2.2.2.2.2.2.1,t.2.2.2.2.2.2.2.2.2.2.2.2.2.2.2.2.2.2.2.2.2.2.2.1,(),(),(),(),(),(),(),(),(),(),(),(),(),())
theorem Aii{s e d:ak}{m:CO}{g b c f j i:Int}{ln a:ML}(h:Lp () (aq e m g b c ln)=some (0,aq d m f j i a)):
  DU (CU 0 s (aq e m g b c ln))=some (.inl (CU 1 s (aq d m f j i a))):=by
 unfold DU;dsimp only[CU,aq]at h⊢;rw[show decide ((0:Int)<6)=true from rfl,Ao rfl,show(an He (0:Int))=some (.inl ())from rfl];simp only[Aq,Ap];rw[An (show ¬((0:Int) !=0)=true by decide)];try dsimp only
 rw[h,bs];rfl
theorem Aij{s e d:ak}{m:CO}{g b c f j i:Int}{ln a:ML}(h:Lq () (aq e m g b c ln)=some (0,aq d m f j i a)):
  DU (CU 1 s (aq e m g b c ln))=some (.inl (CU 2 s (aq d m f j i a))):=by
 unfold DU;dsimp only[CU,aq]at h⊢;rw[show decide ((1:Int)<6)=true from rfl,Ao rfl,show(an He (1:Int))=some (.inr (.inl ()))from rfl];simp only[Aq,Ap];rw[An (show ¬((0:Int) !=0)=true by decide)];try dsimp only
 rw[h,bs];rfl
theorem Aik{s e d:ak}{m:CO}{g b c f j i:Int}{ln a:ML}(h:Ls () (aq e m g b c ln)=some (0,aq d m f j i a)):
  DU (CU 2 s (aq e m g b c ln))=some (.inl (CU 3 s (aq d m f j i a))):=by
 unfold DU;dsimp only[CU,aq]at h⊢;rw[show decide ((2:Int)<6)=true from rfl,Ao rfl,show(an He (2:Int))=some (.inr (.inr (.inl ())))from rfl];simp only[Aq,Ap];rw[An (show ¬((0:Int) !=0)=true by decide)];try dsimp only
 rw[h,bs];rfl
theorem Ail{s e d:ak}{m:CO}{g b c f j i:Int}{ln a:ML}(h:Lt () (aq e m g b c ln)=some (0,aq d m f j i a)):
  DU (CU 3 s (aq e m g b c ln))=some (.inl (CU 4 s (aq d m f j i a))):=by
 unfold DU;dsimp only[CU,aq]at h⊢;rw[show decide ((3:Int)<6)=true from rfl,Ao rfl,show(an He (3:Int))=some (.inr (.inr (.inr (.inl ()))))from rfl];simp only[Aq,Ap];rw[An (show ¬((0:Int) !=0)=true by decide)];try dsimp only
 rw[h,bs];rfl
theorem Aim{s e d:ak}{m:CO}{g b c f j i:Int}{ln a:ML}(h:Lu () (aq e m g b c ln)=some (0,aq d m f j i a)):
  DU (CU 4 s (aq e m g b c ln))=some (.inl (CU 5 s (aq d m f j i a))):=by
 unfold DU;dsimp only[CU,aq]at h⊢;rw[show decide ((4:Int)<6)=true from rfl,Ao rfl,show(an He (4:Int))=some (.inr (.inr (.inr (.inr (.inl ())))))from rfl];simp only[Aq,Ap];rw[An (show ¬((0:Int) !=0)=true by decide)];try dsimp only
 rw[h,bs];rfl
theorem Ain{s e d:ak}{m:CO}{g b c f j i:Int}{ln a:ML}(h:Lv () (aq e m g b c ln)=some (0,aq d m f j i a)):
  DU (CU 5 s (aq e m g b c ln))=some (.inl (CU 6 s (aq d m f j i a))):=by
 unfold DU;dsimp only[CU,aq]at h⊢;rw[show decide ((5:Int)<6)=true from rfl,Ao rfl,show(an He (5:Int))=some (.inr (.inr (.inr (.inr (.inr ())))))from rfl];simp only[Aq,Ap];rw[An (show ¬((0:Int) !=0)=true by decide)];try dsimp only
 rw[h,bs];rfl
theorem Aio{s:ak}{t:L4}:DU (CU 6 s t)=some (.inr (Wa s t)):=by
 unfold DU;dsimp only[CU];rw[show decide ((6:Int)<6)=false from rfl,An (by decide)];rfl
theorem Agv{s:ak}{m:CO}{g b c:Int}{ln:ML}:O7 () (aq s m g b c ln)=some (He,aq s m g b c ln):=by
 unfold O7;dsimp only[aq];rfl
def bN(s:ak)(y:Int):MI:=if s.1=y then s.2.2.2.1 else []
def ar(s:ak)(y:Int):MS:=if s.1=y then s.2.2.2.2.1 else []
def CH(s:ak)(y:Int):Int:=if s.1=y then s.2.2.2.2.2.1 else 0
def Fn(s:ak)(y:Int):Int:=if s.1=y then s.2.2.2.2.2.2.1 else 0
def c5(s:ak):MI:=s.2.2.2.2.2.2.2
def Ct(x:Mo):Int:=x.S+x.B-Bh x
def DL(s:ak)(x:Mo)(y i o:Int):Int:=EE x (CH s y) (Fn s y) (Ct x) i o
def Fd(s:ak)(x:Mo)(y i o:Int):Int:=Ct x-Cd x (A8 (ar s y))-DL s x y i o
def Ft(s:ak)(x:Mo)(y i o:Int):Int:=max (min x.C (Fd s x y i o)) 0
def G0(s:ak)(x:Mo)(y i o:Int):Int:=Fd s x y i o-Ft s x y i o
def EB(s:ak)(x:Mo)(y i o:Int):Int:=Ch x (G0 s x y i o) (A7 AG (c5 s))
def IW(s:ak)(x:Mo)(y i o:Int):ak:=
 (y,i,o,[(AS,A7 AS (bN s y)+Bh x)],[(AE,C6 x (A8 (ar s y)))],CH s y+Ct x,D1 x (CH s y+Ct x) i o,[(AG,A7 AG (c5 s)+EB s x y i o)])
def b6(p:Int)(k:List UInt8)(v:Int):List bb:=if v=0 then []else [(p,k,v)]
def Ec(s:ak)(x:Mo)(y i o:Int):List bb:=
 b6 0 DZ x.B++b6 0 Ei x.S++b6 1 AS (Bh x)++b6 2 AE (Cd x (A8 (ar s y)))++b6 3 El (DL s x y i o)++b6 4 Ea (Ft s x y i o)++b6 5 AG (EB s x y i o)++b6 6 AE (Cy x (A8 (ar s y)))
structure bo (n:Int) (s:ak):Prop where
 yy:0<=s.1/\s.1<=2100
 ii:0<=s.2.1/\s.2.1<=26
 bf:cg AS s.2.2.2.1
 bv:0<=A7 AS s.2.2.2.1/\A7 AS s.2.2.2.1<=n*1048576
 so:cK s.2.2.2.2.1
 sb: -(n*8589934592)<=(A8 s.2.2.2.2.1).1/\(A8 s.2.2.2.2.1).1<=n*8589934592
 sI:0<=(A8 s.2.2.2.2.1).2.1/\(A8 s.2.2.2.2.1).2.1<=n*8589934592
 sW:0<=(A8 s.2.2.2.2.1).2.2.1/\(A8 s.2.2.2.2.1).2.2.1<=(A8 s.2.2.2.2.1).2.1
 sF:0<=(A8 s.2.2.2.2.1).2.2.2/\(A8 s.2.2.2.2.1).2.2.2<=(A8 s.2.2.2.2.1).2.1
 tb: -(n*8589934592)<=s.2.2.2.2.2.1/\s.2.2.2.2.2.1<=n*8589934592
 tt:0<=s.2.2.2.2.2.2.1/\s.2.2.2.2.2.2.1<=30000000000001
 od:cg AG s.2.2.2.2.2.2.2
 ov:0<=A7 AG s.2.2.2.2.2.2.2/\A7 AG s.2.2.2.2.2.2.2<=n*30010000000000
theorem bo.zero:bo 0 (0,0,0,[],[],0,0,[]):=by
 refine⟨by decide,by decide,.inl rfl, ?_,.inl rfl, ?_, ?_, ?_, ?_,by decide,by decide,.inl rfl, ?_⟩<;>decide
structure StJ (n:Int) (s:ak) (y:Int):Prop where
 bf:cg AS (bN s y)
 bv:0<=A7 AS (bN s y)/\A7 AS (bN s y)<=n*1048576
 so:cK (ar s y)
 sb: -(n*8589934592)<=(A8 (ar s y)).1/\(A8 (ar s y)).1<=n*8589934592
 sI:0<=(A8 (ar s y)).2.1/\(A8 (ar s y)).2.1<=n*8589934592
 sW:0<=(A8 (ar s y)).2.2.1/\(A8 (ar s y)).2.2.1<=(A8 (ar s y)).2.1
 sF:0<=(A8 (ar s y)).2.2.2/\(A8 (ar s y)).2.2.2<=(A8 (ar s y)).2.1
 tb: -(n*8589934592)<=CH s y/\CH s y<=n*8589934592
 tt:0<=Fn s y/\Fn s y<=30000000000001
theorem bo.at{n:Int}{s:ak}(h:bo n s)(a:0<=n)(y:Int):StJ n s y:=by
 by_cases e:s.1=y
 ·refine⟨?_, ?_, ?_, ?_, ?_, ?_, ?_, ?_, ?_⟩<;>simp only[bN,ar,CH,Fn,Ao e]
  ·exact h.bf
  ·exact h.bv
  ·exact h.so
  ·exact h.sb
  ·exact h.sI
  ·exact h.sW
  ·exact h.sF
  ·exact h.tb
  ·exact h.tt
 ·refine⟨?_, ?_, ?_, ?_, ?_, ?_, ?_, ?_, ?_⟩<;>simp only[bN,ar,CH,Fn,An e]
  ·exact .inl rfl
  ·rw[Kb];omega
  ·exact .inl rfl
  all_goals(try rw[Aej]);(try dsimp only);omega
structure Lw (s:ak) (x:Mo) (y i o:Int):Prop where
 H:cQ (A8 (ar s y))
 pre:0<=Bh x/\Bh x<=1048575
 base: -4296015871<=Ct x/\Ct x<=4294967294
 work:0<=Cd x (A8 (ar s y))/\Cd x (A8 (ar s y))<=1010000000000
 firm:0<=Cy x (A8 (ar s y))/\Cy x (A8 (ar s y))<=1010000000000
 tax:0<=D1 x (CH s y+Ct x) i o/\D1 x (CH s y+Ct x) i o<=30000000000001
 held: -30000000000001<=DL s x y i o/\DL s x y i o<=30000000000256
 l3: -32000000000000<=Fd s x y i o/\Fd s x y i o<=30004294967295
 club:0<=Ft s x y i o/\Ft s x y i o<=65535
 l4: -33000000000000<=G0 s x y i o/\G0 s x y i o<=30004294967295
 court:0<=EB s x y i o/\EB s x y i o<=30010000000000
theorem LH{n:Int}{s:ak}{x:Mo}{y i o:Int}(h:bo n s)(v:0<=n/\n<=31)(a:Ce x)(hi:1<=i/\i<=o)(t:o<=26):Lw s x y i o:=by
 have j:=h.at v.1 y;have w:=a.S;have E:=a.B;have A:=a.P;have D:=a.C;have hex:=a.ex;have m:cQ (A8 (ar s y)):=⟨by have:=j.sb;omega,by have:=j.sI;omega,j.sW,j.sF⟩;have l:=QQ a;have c: -4296015871<=Ct x/\Ct x<=4294967294:=by unfold Ct;omega
 have k:=RC a m;have r:=j.tb;have q:=j.tt;have d:=R2 a (tb:=CH s y+Ct x) (i:=i) (o:=o) (by omega) hi t;have b: -30000000000001<=DL s x y i o/\DL s x y i o<=30000000000256:=by unfold DL EE;omega
 have f: -32000000000000<=Fd s x y i o/\Fd s x y i o<=30004294967295:=by unfold Fd;omega
 have g:0<=Ft s x y i o/\Ft s x y i o<=65535:=by unfold Ft;omega
 have e: -33000000000000<=G0 s x y i o/\G0 s x y i o<=30004294967295:=by unfold G0;omega
 exact⟨m,by omega,c,k.1,k.2,d,b,f,g,e,Pp a (by omega)⟩
theorem Qr{p:Int}{k:List UInt8}{v:Int}:∀e∈b7 p k v,e.1.1=p:=by
 intro e a;unfold b7 at a;split at a
 ·rw[List.mem_singleton]at a;subst a;rfl
 ·cases a
theorem We{p:Int}{k:List UInt8}{v:Int}:∀e∈ba p k v,e.1.1=p:=by
 intro e a;unfold ba at a;split at a
 ·cases a
 ·rw[List.mem_singleton]at a;subst a;rfl
theorem V9{x:Mo}:∀e∈CQ x,e.1.1=0:=by
 intro e a;simp only[CQ,List.mem_cons,List.not_mem_nil,or_false]at a;rcases a with rfl|rfl<;>rfl
theorem KL{ln:ML}{p:Int}{k:List UInt8}(h:∀e∈ln,e.1.1≠p):∀e∈ln,e.1≠(p,k):=fun e b a=>h e b (by rw[a])
def H2(s:ak)(x:Mo)(y i o:Int):ML:=
 CQ x++b7 1 AS (Bh x)++ba 2 AE (Cd x (A8 (ar s y)))++ba 6 AE (Cy x (A8 (ar s y)))++ [((3,El),DL s x y i o)]++b7 4 Ea (min x.C (Fd s x y i o))++b7 5 AG (EB s x y i o)
theorem Afd{p:Int}{k:List UInt8}{v:Int}:BQ (ba p k v)=b6 p k v:=by
 unfold ba b6;by_cases h:v=0
 ·rw[Ao h,Ao h];rfl
 ·rw[An h,An h];simp[BQ,h]
theorem MU{p:Int}{k:List UInt8}{v:Int}:BQ [((p,k),v)]=b6 p k v:=by
 unfold b6;by_cases h:v=0<;>simp[BQ,h]
theorem Afe{p:Int}{k:List UInt8}{v:Int}:BQ (b7 p k v)=b6 p k (max v 0):=by
 unfold b7;by_cases h:v>0
 ·rw[Ao h,MU,show max v 0=v by omega]
 ·rw[An h,show max v 0=0 by omega];rfl
theorem Afc{s:ak}{x:Mo}{y i o:Int}(h:Lw s x y i o):(BQ (H2 s x y i o)).Perm (Ec s x y i o):=by
 have e:=h.pre;have f:=h.court;unfold H2 Ec
 have d:BQ (CQ x)=b6 0 Ei x.S++b6 0 DZ x.B:=by
  show BQ ([((0,Ei),x.S)]++ [((0,DZ),x.B)])=_;rw[MT,MU,MU]
 simp only[MT,Afd,Afe,MU,d];rw[show max (Bh x) 0=Bh x by omega,show max (EB s x y i o) 0=EB s x y i o by omega,show max (min x.C (Fd s x y i o)) 0=Ft s x y i o from rfl];generalize b6 0 Ei x.S=a1;generalize b6 0 DZ x.B=a2;generalize b6 1 AS (Bh x)=a3;generalize b6 2 AE (Cd x (A8 (ar s y)))=a4;generalize b6 6 AE (Cy x (A8 (ar s y)))=a5;generalize b6 3 El (DL s x y i o)=a6;generalize b6 4 Ea (Ft s x y i o)=a7;generalize b6 5 AG (EB s x y i o)=a8
 have c:(a1++a2++a3++a4++a5++a6++a7++a8).Perm (a2++a1++a3++a4++a5++a6++a7++a8):=by
  refine List.Perm.append_right _ (List.Perm.append_right _ (List.Perm.append_right _ (List.Perm.append_right _ (List.Perm.append_right _ (List.Perm.append_right _ ?_)))));exact List.perm_append_comm
 refine c.trans ?_;have b:(a5++(a6++(a7++a8))).Perm (a6++(a7++a8)++a5):=List.perm_append_comm;have a:=b.append_left (a2++a1++a3++a4);simp only[Ax]at a⊢;exact a
theorem GX{p:Int}{k:List UInt8}{v:Int}:(b6 p k v).Sublist [(p,k,v)]:=by
 unfold b6;split
 ·exact List.nil_sublist _
 ·exact List.Sublist.refl _
theorem Qo{s:ak}{x:Mo}{y i o:Int}:(Ec s x y i o).Pairwise Ff:=by
 have a:(Ec s x y i o).Sublist ([(0,DZ,x.B)]++ [(0,Ei,x.S)]++ [(1,AS,Bh x)]++ [(2,AE,Cd x (A8 (ar s y)))]++ [(3,El,DL s x y i o)]++ [(4,Ea,Ft s x y i o)]++ [(5,AG,EB s x y i o)]++ [(6,AE,Cy x (A8 (ar s y)))]):=by
  unfold Ec;exact(((((((GX.append GX).append GX).append GX).append GX).append GX).append GX).append GX)
 refine List.Pairwise.sublist a ?_;have b:DZ<Ei:=by decide
 simp[Ff,b]
theorem Wd{s:ak}{x:Mo}{y i o:Int}(b:Ce x)(h:Lw s x y i o):∀z∈Ec s x y i o,Ko z:=by
 have key:∀{p:Int} {k:List UInt8} {v:Int},(0<=p/\p<7)->EN k=some true->(-1125899906842624<=v/\v<=1125899906842624)->∀z∈b6 p k v,Ko z:=by
  intro p k v c d f z a;unfold b6 at a;split at a
  ·cases a
  ·rename_i e;rw[List.mem_singleton]at a;subst a;exact⟨c,d,e,by show AO v=true;simp[AO];omega⟩
 intro z a;unfold Ec at a;simp only[List.mem_append]at a;have w:=b.S;have t:=b.B;have r:=h.pre;have q:=h.work;have m:=h.held;have l:=h.club;have j:=h.court;have g:=h.firm;rcases a with((((((a|a)|a)|a)|a)|a)|a)|a
 ·exact key (by decide) ZS (by omega) z a
 ·exact key (by decide) ZW (by omega) z a
 ·exact key (by decide) ZV (by omega) z a
 ·exact key (by decide) Uv (by omega) z a
 ·exact key (by decide) ZX (by omega) z a
 ·exact key (by decide) ZT (by omega) z a
 ·exact key (by decide) ZU (by omega) z a
 ·exact key (by decide) Uv (by omega) z a
theorem Qn{s:ak}{x:Mo}{y i o:Int}:(Ec s x y i o).length<=8:=by
 have h:∀{p:Int} {k:List UInt8} {v:Int},(b6 p k v).length<=1:=fun{p k v}=>by unfold b6;split<;>simp
 unfold Ec;simp only[List.length_append];have j:=h (p:=0) (k:=DZ) (v:=x.B);have g:=h (p:=0) (k:=Ei) (v:=x.S);have f:=h (p:=1) (k:=AS) (v:=Bh x);have e:=h (p:=2) (k:=AE) (v:=Cd x (A8 (ar s y)));have d:=h (p:=3) (k:=El) (v:=DL s x y i o);have c:=h (p:=4) (k:=Ea) (v:=Ft s x y i o);have b:=h (p:=5) (k:=AG) (v:=EB s x y i o);have a:=h (p:=6) (k:=AE) (v:=Cy x (A8 (ar s y)));omega
theorem Zf{s:ak}{x:Mo}{y i o:Int}(d:Ce x)(h:Lw s x y i o):∀e∈H2 s x y i o,AO e.2=true:=by
 have f:∀{p:Int} {k:List UInt8} {v:Int},(-1125899906842624<=v/\v<=1125899906842624)->∀e∈ba p k v,AO e.2=true:=by
  intro p k v g e b;unfold ba at b;split at b
  ·cases b
  ·rw[List.mem_singleton]at b;subst b;show AO v=true;simp[AO];omega
 have c:∀{p:Int} {k:List UInt8} {v:Int},(-1125899906842624<=v/\v<=1125899906842624)->∀e∈b7 p k v,AO e.2=true:=by
  intro p k v g e b;unfold b7 at b;split at b
  ·rw[List.mem_singleton]at b;subst b;show AO v=true;simp[AO];omega
  ·cases b
 intro z a;unfold H2 at a;simp only[List.mem_append]at a;have D:=d.S;have A:=d.B;have w:=h.pre;have t:=h.work;have r:=h.held;have q:=h.l3;have m:=h.court;have l:=h.firm;have j:=d.C;rcases a with(((((a|a)|a)|a)|a)|a)|a
 ·simp only[CQ,List.mem_cons,List.not_mem_nil,or_false]at a;rcases a with rfl|rfl
  ·show AO x.S=true;simp[AO];omega
  ·show AO x.B=true;simp[AO];omega
 ·exact c (by omega) z a
 ·exact f (by omega) z a
 ·exact f (by omega) z a
 ·rw[List.mem_singleton]at a;subst a;show AO (DL s x y i o)=true;simp[AO];omega
 ·exact c (by omega) z a
 ·exact c (by omega) z a
theorem Zg{s:ak}{x:Mo}{y i o:Int}:(H2 s x y i o).length<=1000:=by
 have b:∀{p:Int} {k:List UInt8} {v:Int},(ba p k v).length<=1:=fun{p k v}=>by unfold ba;split<;>simp
 have a:∀{p:Int} {k:List UInt8} {v:Int},(b7 p k v).length<=1:=fun{p k v}=>by unfold b7;split<;>simp
 unfold H2;simp only[List.length_append];have j:(CQ x).length=2:=rfl;have h:=a (p:=1) (k:=AS) (v:=Bh x);have g:=b (p:=2) (k:=AE) (v:=Cd x (A8 (ar s y)));have f:=b (p:=6) (k:=AE) (v:=Cy x (A8 (ar s y)));have e:=a (p:=4) (k:=Ea) (v:=min x.C (Fd s x y i o));have d:=a (p:=5) (k:=AG) (v:=EB s x y i o);have c:([((3,El),DL s x y i o)]:ML).length=1:=rfl;omega
end WB
