/-
  OWN TEXTS, MERGED (wip/merge.py): CoreTc, CoreTd, CoreTe, CoreTf, CoreTg, CoreTga, CoreTh, CoreTi, CoreTj. No condition of their own.
-/
import Derived.Test.YtlglbkbfmhelcaaGreatDoorK3
set_option linter.unusedVariables false
set_option linter.unusedSimpArgs false
open Go.IntKind (i64 u64 u8 u32)
namespace WB
open Go Go.RowKit
def lAt{α:Type}(xs:List α)(n:Int):Option α:=if 0≤n∧n<xs.length then xs[n.toNat]? else none
def sAt(s:List UInt8)(n:Int):Option Int:=if 0≤n∧n<s.length then(s[n.toNat]?).map fun b=>(b.toNat:Int)else none
def AV{α:Type}(xs:List α)(lo hi:Int):Option (List α):=if 0≤lo∧lo≤hi∧hi≤xs.length then some ((xs.take hi.toNat).drop lo.toNat)else none
def HZ(op:BinOp)(k:IntKind)(x y:Int):Int:=
 match op with
 | .and=>k.wrap (BitVec.ofInt k.bits x&&&BitVec.ofInt k.bits y).toNat
 | .or=>k.wrap (BitVec.ofInt k.bits x|||BitVec.ofInt k.bits y).toNat
 | .xor=>k.wrap (BitVec.ofInt k.bits x^^^BitVec.ofInt k.bits y).toNat
 |_=>k.wrap (BitVec.ofInt k.bits x&&& ~~~(BitVec.ofInt k.bits y)).toNat
def BK{α β:Type}(eq:α→α→Bool)(z:β)(x:α):List (α×β)→β×Bool
 | []=>(z,false)
 |p::m=>if eq x p.1 then(p.2,true)else BK eq z x m
def C0{α β:Type}(eq:α→α→Bool)(x:α)(y:β):List (α×β)→List (α×β)
 | []=> [(x,y)]
 |p::m=>if eq x p.1 then(p.1,y)::m else p::C0 eq x y m
section
variable (G:Nat→List CV) (Γ:TC)
def rdV:SO→Option (Σ t:Ty,Dyn (HS Γ) (D t))
 | .t i=>match get Γ (.s i)with
  |some ⟨.v t,f⟩=>some ⟨t,.tot f⟩
  |some ⟨.opt (.v t),f⟩=>some ⟨t,.par f⟩
  |_=>none
 | .k c=>match Bz c with
  |some q=>some ⟨q.1,.tot fun _=>q.2⟩
  |none=>none
 | .g _=>none
def rdK:SO→Option (Σ k:EK,Dyn (HS Γ) (DK k))
 | .t i=>match get Γ (.s i)with
  |some ⟨.opt k,f⟩=>some ⟨k,.par f⟩
  |some q=>some ⟨q.1,.tot q.2⟩
  |none=>none
 | .k c=>match Bz c with
  |some q=>some ⟨.v q.1,.tot fun _=>q.2⟩
  |none=>none
 | .g i=>match G i,EU (G i)with
  |_::_,some q=>some ⟨.rp true q.1,.tot fun _=>q.2⟩
  |_,_=>none
end
section
variable {G:Nat→List CV} {Γ:TC} {ρ:HS Γ} {st:St}
theorem AP{x:SO}{q:Σ t:Ty,Dyn (HS Γ) (D t)}(h:rdV Γ x=some q)(hr:Rep Γ ρ st){a:D q.1}(ha:q.2.val ρ=some a):∃c,so G st.fr x=.c c∧Can q.1 a [c]:=by
 cases x with
 |t i=>
  simp only[rdV]at h;split at h
  ·rename_i t f hg;cases h;cases ha;exact hr.s i _ hg
  ·rename_i t f hg;cases h;have:=hr.s i _ hg;have ha':f ρ=some a:=ha;unfold RS at this;simp only[ha']at this;unfold RS at this;exact this
  ·cases h
 |k c=>
  simp only[rdV]at h;split at h<;>(try cases h;done);rename_i p hp;cases h;cases ha;exact⟨c,rfl,Io hp⟩
 |g i=>cases h
theorem Bo{x:SO}{q:Σ k:EK,Dyn (HS Γ) (DK k)}(h:rdK G Γ x=some q)(hr:Rep Γ ρ st){a:DK q.1}(ha:q.2.val ρ=some a):RS q.1 a (so G st.fr x):=by
 cases x with
 |t i=>
  simp only[rdK]at h;split at h
  ·rename_i t f hg;cases h;have:=hr.s i _ hg;have ha':f ρ=some a:=ha;unfold RS at this;simp only[ha']at this;exact this
  ·rename_i p hp hg;cases h;cases ha;exact hr.s i _ hg
  ·cases h
 |k c=>
  simp only[rdK]at h;split at h<;>(try cases h;done);rename_i p hp;cases h;cases ha;exact⟨c,rfl,Io hp⟩
 |g i=>
  simp only[rdK]at h;split at h<;>(try cases h;done);rename_i c cs p hG hp;cases h;cases ha;refine⟨G i,[], ?_,In hp,fun _=>rfl⟩;simp[so,hG]
end
def LQ(op:BinOp)(k:IntKind):Option (Σ t:Ty,Dyn (Int×Int) (D t)):=
 match op with
 | .add=>some ⟨.int k,.tot fun p=>k.wrap (p.1+p.2)⟩
 | .sub=>some ⟨.int k,.tot fun p=>k.wrap (p.1-p.2)⟩
 | .mul=>some ⟨.int k,.tot fun p=>k.wrap (p.1*p.2)⟩
 | .quo=>some ⟨.int k,.par fun p=>if p.2=0 then none else some (k.wrap (p.1.tdiv p.2))⟩
 | .rem=>some ⟨.int k,.par fun p=>if p.2=0 then none else some (p.1.tmod p.2)⟩
 | .and=>some ⟨.int k,.tot fun p=>HZ .and k p.1 p.2⟩
 | .or=>some ⟨.int k,.tot fun p=>HZ .or k p.1 p.2⟩
 | .xor=>some ⟨.int k,.tot fun p=>HZ .xor k p.1 p.2⟩
 | .andNot=>some ⟨.int k,.tot fun p=>HZ .andNot k p.1 p.2⟩
 | .eql=>some ⟨.bool,.tot fun p=>p.1==p.2⟩
 | .neq=>some ⟨.bool,.tot fun p=>p.1 !=p.2⟩
 | .lss=>some ⟨.bool,.tot fun p=>decide (p.1<p.2)⟩
 | .leq=>some ⟨.bool,.tot fun p=>decide (p.1≤p.2)⟩
 | .gtr=>some ⟨.bool,.tot fun p=>decide (p.1>p.2)⟩
 | .geq=>some ⟨.bool,.tot fun p=>decide (p.1≥p.2)⟩
 |_=>none
def LR(op:BinOp):Option (Σ t:Ty,Dyn (List UInt8×List UInt8) (D t)):=
 match op with
 | .add=>some ⟨.str,.par fun p=>if p.1.length+p.2.length≤4611686018427387904 then some (p.1++p.2)else none⟩
 | .eql=>some ⟨.bool,.tot fun p=>p.1==p.2⟩
 | .neq=>some ⟨.bool,.tot fun p=> !(p.1==p.2)⟩
 | .lss=>some ⟨.bool,.tot fun p=>Fn p.1 p.2⟩
 | .leq=>some ⟨.bool,.tot fun p=>Fn p.1 p.2||p.1==p.2⟩
 | .gtr=>some ⟨.bool,.tot fun p=> !(Fn p.1 p.2||p.1==p.2)⟩
 | .geq=>some ⟨.bool,.tot fun p=> !(Fn p.1 p.2)⟩
 |_=>none
def LP(op:BinOp):(t u:Ty)→Option (Σ v:Ty,Dyn (D t×D u) (D v))
 | .int k,.int k'=>match op with
  | .shl=>some ⟨.int k,.par fun p=>if p.2<0 then none else some (k.wrap (p.1*2^(min p.2.toNat k.bits)))⟩
  | .shr=>some ⟨.int k,.par fun p=>if p.2<0 then none else some (p.1.fdiv (2^(min p.2.toNat k.bits)))⟩
  |_=>if k=k' then LQ op k else none
 | .str,.str=>LR op
 |_,_=>none
theorem Tw{op:BinOp}{k:IntKind}{q:Σ t:Ty,Dyn (Int×Int) (D t)}(h:LQ op k=some q){a b:Int}{x:D q.1}(hx:q.2.val (a,b)=some x):∃c,Gg op k a b=some c∧Can q.1 x [c]:=by
 cases op<;>simp only[LQ,Ac,reduceCtorEq]at h<;>cases h
 case quo=>
  simp only[Dyn.val]at hx;split at hx<;>(try cases hx;done);rename_i hb;cases hx;exact⟨_,by simp only[Gg];rw[if_neg hb],by unfold Can;rfl⟩
 case rem=>
  simp only[Dyn.val]at hx;split at hx<;>(try cases hx;done);rename_i hb;cases hx;exact⟨_,by simp only[Gg];rw[if_neg hb],by unfold Can;rfl⟩
 all_goals
  cases hx;exact⟨_,rfl,by unfold Can;rfl⟩
theorem Tx{op:BinOp}{q:Σ t:Ty,Dyn (List UInt8×List UInt8) (D t)}(h:LR op=some q){a b:List UInt8}{x:D q.1}(hx:q.2.val (a,b)=some x):∃c,HY op a b=some c∧Can q.1 x [c]:=by
 cases op<;>simp only[LR,Ac,reduceCtorEq]at h<;>cases h
 case add=>
  simp only[Dyn.val]at hx;split at hx<;>(try cases hx;done);rename_i hb;cases hx;exact⟨_,by simp only[HY];rw[if_pos hb],by unfold Can;rfl⟩
 all_goals
  cases hx;exact⟨_,rfl,by unfold Can;rfl⟩
theorem Tz{op:BinOp}{t u:Ty}{q:Σ v:Ty,Dyn (D t×D u) (D v)}(h:LP op t u=some q){a:D t}{b:D u}{ca cb:CV}(ha:Can t a [ca])(hb:Can u b [cb]){x:D q.1}(hx:q.2.val (a,b)=some x):
  ∃c,D8 op ca cb=some c∧Can q.1 x [c]:=by
 unfold LP at h;split at h
 ·rename_i k k';unfold Can at ha hb;cases ha;cases hb;split at h
  ·cases h;simp only[Dyn.val]at hx;split at hx<;>(try cases hx;done);rename_i hneg;cases hx;exact⟨_,by simp only[D8];rw[if_neg hneg],by unfold Can;rfl⟩
  ·cases h;simp only[Dyn.val]at hx;split at hx<;>(try cases hx;done);rename_i hneg;cases hx;exact⟨_,by simp only[D8];rw[if_neg hneg],by unfold Can;rfl⟩
  ·rename_i hl hr;split at h<;>(try cases h;done);rename_i hk;subst hk;obtain⟨c,h1,h2⟩:=Tw h hx;refine⟨c, ?_,h2⟩;cases op<;>first|(exact(hl rfl).elim)|(exact(hr rfl).elim)|(simp only[D8,if_true];exact h1)
 ·unfold Can at ha hb;cases ha;cases hb;exact Tx h hx
 ·cases h
def Iv:KT→(t u:Ty)→Option (D t→D u→Bool)
 | .int _,.int k,.int k'=>if k=k' then some fun(a b:Int)=>a==b else none
 | .str,.str,.str=>some fun(a b:List UInt8)=>a==b
 | .bool,.bool,.bool=>some fun(a b:Bool)=>a==b
 |_,_,_=>none
def Iw:(r s:Ty)→List KT→Option (D r→D s→Bool)
 | .nil,.nil,ks=>if ks.isEmpty then some fun _ _=>true else none
 | .one t,.one u,ks=>match ks with
  | [k]=>Iv k t u
  |_=>none
 | .cons t r,.cons u s,ks=>match ks with
  |k::ks=>match Iv k t u,Iw r s ks with
   |some f,some g=>some fun x y=>f x.1 y.1&&g x.2 y.2
   |_,_=>none
  | []=>none
 |_,_,_=>none
theorem PW{k:KT}{t u:Ty}{f:D t→D u→Bool}(h:Iv k t u=some f){a:D t}{b:D u}{ca cb:CV}(ha:Can t a [ca])(hb:Can u b [cb]):eq1 k ca cb=some (f a b):=by
 unfold Iv at h;split at h
 ·split at h<;>(try cases h;done);rename_i hk;cases h;unfold Can at ha hb;cases ha;cases hb;simp[eq1,hk]
 ·cases h;unfold Can at ha hb;cases ha;cases hb;rfl
 ·cases h;unfold Can at ha hb;cases ha;cases hb;rfl
 ·cases h
theorem UW:∀{r s:Ty} {ks:List KT} {f:D r→D s→Bool},Iw r s ks=some f→∀{a:D r} {b:D s} {la lb:List CV},Can r a la→Can s b lb→eqL ks la lb=some (f a b):=by
 intro r
 induction r with
 |nil=>
  intro s ks f h a b la lb ha hb;cases s<;>(try cases h;done);simp only[Iw,Ad,Ac]at h;obtain⟨hk,rfl⟩:=h;cases ks<;>simp at hk;unfold Can at ha hb;subst ha;subst hb;rfl
 |one t=>
  intro s ks f h a b la lb ha hb;cases s<;>(try cases h;done);rename_i u
  match ks,h with
  | [k],h=>
   unfold Can at ha hb;obtain⟨ca,rfl,ha⟩:=ha;obtain⟨cb,rfl,hb⟩:=hb;have h':Iv k t u=some f:=h;simp[eqL,PW h' ha hb]
  | [],h=>cases h
  |_::_::_,h=>cases h
 |cons t r iht ihr=>
  intro s ks f h a b la lb ha hb;cases s<;>(try cases h;done)
  match ks,h with
  | [],h=>cases h
  |k::ks,h=>
   simp only[Iw]at h;split at h<;>(try cases h;done);rename_i f1 g1 hf hg;cases h;unfold Can at ha hb;obtain⟨ca,la',rfl,ha1,ha2⟩:=ha;obtain⟨cb,lb',rfl,hb1,hb2⟩:=hb;simp[eqL,PW hf ha1 hb1,ihr hg ha2 hb2]
 |_=>
  intro s ks f h;cases s<;>cases h
def HA:Ty→Bool
 | .int _| .str| .bool=>true
 |_=>false
def KX:Ty→Bool
 | .one t=>HA t
 | .cons t r=>HA t&&KX r
 |_=>false
def Ep:Ty→Bool
 | .agg r=>KX r
 |t=>HA t
def JT:(t:Ty)→D t→D t→Bool
 | .int _,a,b=>(a:Int)==b
 | .str,a,b=>(a:List UInt8)==b
 | .bool,a,b=>(a:Bool)==b
 |_,_,_=>false
def Ix:(r:Ty)→D r→D r→Bool
 | .one t,a,b=>JT t a b
 | .cons t r,a,b=>JT t a.1 b.1&&Ix r a.2 b.2
 |_,_,_=>false
def eqZ:(t:Ty)→D t→D t→Bool
 | .agg r,a,b=>Ix r a b
 | .int _,a,b=>(a:Int)==b
 | .str,a,b=>(a:List UInt8)==b
 | .bool,a,b=>(a:Bool)==b
 |_,_,_=>false
theorem Qc{t:Ty}(hp:HA t=true){a b:D t}{ca cb:CV}(ha:Can t a [ca])(hb:Can t b [cb]):eq1 (EB t) ca cb=some (JT t a b)∧By (EB t) ca=true:=by
 cases t<;>simp only[HA,Ag]at hp<;>(unfold Can at ha hb;cases ha;cases hb;simp[eq1,JT,EB,By])
theorem UX:∀{r:Ty} (_:KX r=true) {a b:D r} {la lb:List CV},Can r a la→Can r b lb→eqL (EA r) la lb=some (Ix r a b)∧B3 (EA r) la=true:=by
 intro r
 induction r with
 |one t=>
  intro hp a b la lb ha hb;unfold Can at ha hb;obtain⟨ca,rfl,ha⟩:=ha;obtain⟨cb,rfl,hb⟩:=hb;have:=Qc hp ha hb;simp[EA,eqL,Ix,B3,this.1,this.2]
 |cons t r iht ihr=>
  intro hp a b la lb ha hb;simp only[KX,Af]at hp;unfold Can at ha hb;obtain⟨ca,la',rfl,ha1,ha2⟩:=ha;obtain⟨cb,lb',rfl,hb1,hb2⟩:=hb;have h1:=Qc hp.1 ha1 hb1;have h2:=ihr hp.2 ha2 hb2;simp[EA,eqL,Ix,B3,h1.1,h1.2,h2.1,h2.2]
 |_=>intro hp;cases hp
theorem Gu{k:Ty}(hp:Ep k=true){a b:D k}{ca cb:CV}(ha:Can k a [ca])(hb:Can k b [cb]):BX (ktT k) ca cb=eqZ k a b∧AN (ktT k) ca=true:=by
 cases k<;>simp only[Ep,HA,Ag]at hp
 case agg r=>
  unfold Can at ha hb;obtain⟨la,e,ha⟩:=ha;cases e;obtain⟨lb,e,hb⟩:=hb;cases e;have:=UX hp ha hb;simp[ktT,BX,AN,eqZ,this.1,this.2]
 all_goals(unfold Can at ha hb;cases ha;cases hb;simp[eq1,eqZ,ktT,EB,BX,AN,By])
theorem KB{k v:Ty}(hp:Ep k=true){x:D k}{cx:CV}(hx:Can k x [cx]){zv:D v}{z:CV}(hz:Can v zv [z]):∀{m:List (D k×D v)} {ks vs:List CV},Aq (fun x c=>Can k x.1 [c]) m ks→Aq (fun x c=>Can v x.2 [c]) m vs→
  ∃c,AS (ktT k) z ks vs cx=(c,(BK (eqZ k) zv x m).2)∧Can v (BK (eqZ k) zv x m).1 [c]
 | [],ks,vs,h1,h2=>by
  unfold Aq at h1 h2;subst h1;subst h2;exact⟨z,rfl,hz⟩
 |p::m,ks,vs,h1,h2=>by
  obtain⟨ck,ks',rfl,g1,h1⟩:=h1;obtain⟨cv,vs',rfl,g2,h2⟩:=h2;have he:=(Gu hp hx g1).1;obtain⟨c,q1,q2⟩:=KB hp hx hz h1 h2;unfold BK
  cases hb:eqZ k x p.1 with
  |true=>
   refine⟨cv, ?_,by simpa using g2⟩;simp[AS,AO,he,hb]
  |false=>
   refine⟨c, ?_,by simpa using q2⟩;simp only[Ag,if_false];rw[←q1];simp only[AS,AO,he,hb,Ag,if_false];cases AO (ktT k) cx ks'<;>simp
theorem Ko{k v:Ty}(hp:Ep k=true){x:D k}{cx:CV}(hx:Can k x [cx]){y:D v}{cy:CV}(hy:Can v y [cy]):∀{m:List (D k×D v)} {ks vs:List CV},Aq (fun x c=>Can k x.1 [c]) m ks→Aq (fun x c=>Can v x.2 [c]) m vs→
  Aq (fun x c=>Can k x.1 [c]) (C0 (eqZ k) x y m) (Br (ktT k) ks cx)∧Aq (fun x c=>Can v x.2 [c]) (C0 (eqZ k) x y m) (Bs (ktT k) ks vs cx cy)
 | [],ks,vs,h1,h2=>by
  unfold Aq at h1 h2;subst h1;subst h2;exact⟨⟨cx,[],rfl,hx,rfl⟩,⟨cy,[],rfl,hy,rfl⟩⟩
 |p::m,ks,vs,h1,h2=>by
  obtain⟨ck,ks',rfl,g1,h1⟩:=h1;obtain⟨cv,vs',rfl,g2,h2⟩:=h2;have he:=(Gu hp hx g1).1;obtain⟨q1,q2⟩:=Ko hp hx hy h1 h2;unfold C0
  cases hb:eqZ k x p.1 with
  |true=>
   simp only[if_true];rw[hb]at he;exact⟨⟨ck,ks',by simp[Br,AO,he],g1,h1⟩,⟨cy,vs',by simp[Bs,AO,he],hy,h2⟩⟩
  |false=>
   simp only[Ag,if_false];rw[hb]at he;refine⟨⟨ck,Br (ktT k) ks' cx, ?_,g1,q1⟩,⟨cv,Bs (ktT k) ks' vs' cx cy, ?_,g2,q2⟩⟩
   ·simp only[Br,AO,he,Ag,if_false];cases AO (ktT k) cx ks'<;>simp
   ·simp only[Bs,AO,he,Ag,if_false];cases AO (ktT k) cx ks'<;>simp
theorem Q7{k v:Ty}(hp:Ep k=true):∀{m:List (D k×D v)} {ks:List CV},Aq (fun x c=>Can k x.1 [c]) m ks→ks.all (AN (ktT k))=true
 | [],ks,h=>by unfold Aq at h;subst h;rfl
 |p::m,ks,h=>by
  obtain⟨c,ks',rfl,h1,h2⟩:=h;simp[(Gu hp h1 h1).2];simpa using Q7 hp h2
def IZ{A B:Type}:Dyn A Bool→Dyn A B→Dyn A B→Dyn A B
 | .tot c,.tot f,.tot g=>.tot fun ρ=>if c ρ then f ρ else g ρ
 |c,f,g=>.par fun ρ=>(c.val ρ).bind fun b=>if b then f.val ρ else g.val ρ
theorem Xn{A B:Type}{c:Dyn A Bool}{f g:Dyn A B}{a:A}{x:B}(h:(IZ c f g).val a=some x):∃b,c.val a=some b∧(if b then f.val a else g.val a)=some x:=by
 cases c<;>cases f<;>cases g
 ·rename_i c f g;refine⟨c a,rfl, ?_⟩;simp only[IZ,Dyn.val]at h;rw[←h];cases c a<;>rfl
 all_goals exact Ab.1 h
def Jn:(r:Ty)→Option (D r→List (List UInt8))
 | .one .str=>some fun x=> [x]
 | .cons .str r=>match Jn r with
  |some f=>some fun x=>x.1::f x.2
  |none=>none
 |_=>none
theorem SD:∀{r:Ty} {f:D r→List (List UInt8)} {x:D r} {l:List CV},Jn r=some f→Can r x l→l=(f x).map CV.str
 | .one .str,f,x,l,h,hc=>by
  simp only[Jn,Ac]at h;subst h;unfold Can at hc;obtain⟨c,rfl,hc⟩:=hc;unfold Can at hc;cases hc;rfl
 | .cons .str r,f,x,l,h,hc=>by
  simp only[Jn]at h;split at h
  ·rename_i g hg;cases h;unfold Can at hc;obtain⟨c,l',rfl,h1,h2⟩:=hc;unfold Can at h1;cases h1;rw[SD hg h2];rfl
  ·cases h
theorem SF:∀(l:List (List UInt8)),(l.map CV.str).all IB=true
 | []=>rfl
 |s::l=>by simp only[List.map_cons,List.all_cons,IB,SF l,Bool.and_self]
theorem SG:∀(l:List (List UInt8)),Aq (fun(x:D .str) c=>Can .str x [c]) l (l.map CV.str)
 | []=>rfl
 |s::l=>⟨_,_,rfl,by unfold Can;rfl,SG l⟩
def GQ(q:Ty)(size:Nat):(n:Nat)→(r:Ty)→Option (D r→List (D q))
 |0,_=>some fun _=> []
 |n+1,r=>match D5 r size,E5 r size with
  |some f,some g=>if h:f.1=q then match GQ q size n g.1 with
    |some k=>some fun x=>(h▸f.2 x)::k (g.2 x)
    |none=>none
   else none
  |_,_=>none
theorem LO{q:Ty}{size:Nat}:∀{n:Nat} {r:Ty} {f:D r→List (D q)} {x:D r} {l:List CV},GQ q size n r=some f→Can r x l→(f x).length=n∧∀{j:Nat} {a:D q},(f x)[j]? =some a→Can q a ((l.drop (j*size)).take size)∧j*size+size≤l.length:=by
 intro n
 induction n with
 |zero=>intro r f x l h hc;cases h;exact⟨rfl,fun h=>by simp at h⟩
 |succ n ih=>
  intro r f x l h hc;simp only[GQ]at h;split at h<;>(try cases h;done);rename_i p g hp hg;split at h<;>(try cases h;done);rename_i he;split at h<;>(try cases h;done);rename_i k hk;cases h;subst he;obtain⟨h1,h2⟩:=Ly hp hc;obtain⟨h3,h4⟩:=JP hg hc;obtain⟨h5,h6⟩:=ih hk h3;refine⟨by simp[h5],fun{j a} hj=> ?_⟩
  cases j with
  |zero=>
   simp only[List.getElem?_cons_zero,Ac]at hj;subst hj;exact⟨by simpa using h1,by simpa using h2⟩
  |succ j=>
   simp only[List.getElem?_cons_succ]at hj;obtain⟨g1,g2⟩:=h6 hj;simp only[List.drop_drop,List.length_drop]at g1 g2;have e:size+j*size=(j+1)*size:=by rw[Nat.succ_mul];omega
   rw[e]at g1;exact⟨g1,by rw[←e];omega⟩
def BA:(t:Ty)→List CV→Bool
 | .int k,[.int k' n]=>k'=k&&n==0
 | .bool,[.bool b]=> !b
 | .str,[.str s]=>s.isEmpty
 | .err,[.nilif]=>true
 | .nsl,[.sl (some true) []]=>true
 | .nmap,[.map (some true) [] []]=>true
 | .sl _,[.sl (some true) []]=>true
 | .map _ _,[.map (some true) [] []]=>true
 | .agg r,[.agg l]=>BA r l
 | .nil,[]=>true
 | .one t,[c]=>BA t [c]
 | .cons t r,c::l=>BA t [c]&&BA r l
 |_,_=>false
theorem Oe:∀{t:Ty} {cs:List CV},BA t cs=true→Can t (BM t) cs:=by
 intro t
 induction t with
 |int k=>
  intro cs h;unfold BA at h;split at h<;>(try cases h;done);all_goals first|(rename_i e;cases e;done)|skip
  rename_i e;cases e;simp only[Af,decide_eq_true_eq,beq_iff_eq]at h;obtain⟨rfl,rfl⟩:=h;unfold Can;rfl
 |nam N=>intro cs h;unfold BA at h;cases h
 |bptr N=>intro cs h;unfold BA at h;cases h
 |nilp=>intro cs h;unfold BA at h;cases h
 |bool=>
  intro cs h;unfold BA at h;split at h<;>(try cases h;done);all_goals first|(rename_i e;cases e;done)|skip
  simp only[Bool.not_eq_true']at h;subst h;unfold Can;rfl
 |str=>
  intro cs h;unfold BA at h;split at h<;>(try cases h;done);all_goals first|(rename_i e;cases e;done)|skip
  simp only[List.isEmpty_iff]at h;subst h;unfold Can;rfl
 |err=>
  intro cs h;unfold BA at h;split at h<;>(try cases h;done);all_goals first|(rename_i e;cases e;done)|skip
  unfold Can;rfl
 |nsl=>
  intro cs h;unfold BA at h;split at h<;>(try cases h;done);all_goals first|(rename_i e;cases e;done)|skip
  unfold Can;rfl
 |nmap=>
  intro cs h;unfold BA at h;split at h<;>(try cases h;done);all_goals first|(rename_i e;cases e;done)|skip
  unfold Can;rfl
 |sl e _=>
  intro cs h;unfold BA at h;split at h<;>(try cases h;done);all_goals first|(rename_i e;cases e;done)|skip
  unfold Can;exact⟨_,_,rfl,rfl⟩
 |map k v _ _=>
  intro cs h;unfold BA at h;split at h<;>(try cases h;done);all_goals first|(rename_i e;cases e;done)|skip
  unfold Can;exact⟨_,_,_,rfl,rfl,rfl⟩
 |agg r ih=>
  intro cs h;unfold BA at h;split at h<;>(try cases h;done);all_goals first|(rename_i e;cases e;done)|skip
  rename_i e;cases e;unfold Can;exact⟨_,rfl,ih h⟩
 |nil=>
  intro cs h;unfold BA at h;split at h<;>(try cases h;done);all_goals first|(rename_i e;cases e;done)|skip
  unfold Can;rfl
 |one t ih=>
  intro cs h;unfold BA at h;split at h<;>(try cases h;done);all_goals first|(rename_i e;cases e;done)|skip
  rename_i e;cases e;unfold Can;exact⟨_,rfl,ih h⟩
 |cons t r iht ihr=>
  intro cs h;unfold BA at h;split at h<;>(try cases h;done);all_goals first|(rename_i e;cases e;done)|skip
  rename_i e;cases e;simp only[Af]at h;unfold Can;exact⟨_,_,rfl,iht h.1,ihr h.2⟩
 |tup r _=>intro cs h;unfold BA at h;cases h
 |clo f r _=>intro cs h;unfold BA at h;cases h
 |pt r _=>intro cs h;unfold BA at h;cases h
 |nw e size t _=>intro cs h;unfold BA at h;cases h
 |falt f r l _ _=>intro cs h;unfold BA at h;cases h
 |nfn=>intro cs h;unfold BA at h;cases h
def H0:KT→Ty→Bool
 | .int k,.int k'=>k=k'
 | .str,.str=>true
 | .bool,.bool=>true
 |_,_=>false
def IF:List KT→Ty→Bool
 | [k],.one t=>H0 k t
 |k::ks,.cons t r=>H0 k t&&IF ks r
 |_,_=>false
def ktB:KT→Ty→Bool
 | .struct ks,.agg r=>IF ks r
 |k,t=>H0 k t
theorem MG{k:KT}{t:Ty}(h:H0 k t=true):k=EB t:=by
 cases k<;>cases t<;>simp_all[H0,EB]
theorem Wr:∀{ks:List KT} {r:Ty},IF ks r=true→ks=EA r:=by
 intro ks
 induction ks with
 |nil=>intro r h;cases r<;>cases h
 |cons k ks ih=>
  intro r h;cases r<;>(try cases ks<;>cases h;done)
  ·cases ks with
   |nil=>simp only[EA];rw[MG h]
   |cons _ _=>cases h
  ·cases ks with
   |nil=>simp only[IF,Af]at h;simp only[EA];rw[MG h.1,←ih h.2]
   |cons k' ks'=>simp only[IF,Af]at h;simp only[EA];rw[MG h.1,←ih h.2]
theorem QC{k:KT}{t:Ty}(h:ktB k t=true):k=ktT t:=by
 cases k<;>cases t<;>first
  |(simp only[ktB]at h;simp only[ktT];rw[Wr h];done)
  |(simp_all[ktB,H0,ktT,EB];done)
section
variable (G:Nat→List CV) (Γ:TC) (msk:List Nat)
def D1(id:Nat):Option (Σ k:EK,HS Γ→DK k):=if msk.contains id then none else get Γ (.o id)
def Gi(id:Nat):Nat→Nat→Option (Σ r:Ty,HS Γ→D r)
 |0,off=>match get Γ (.c id off)with
  |some ⟨.v t,f⟩=>some ⟨.one t,f⟩
  |_=>none
 |n+1,off=>match get Γ (.c id off),Gi id n (off+1)with
  |some ⟨.v t,f⟩,some q=>some ⟨.cons t q.1,fun ρ=>(f ρ,q.2 ρ)⟩
  |_,_=>none
def Il(id:Nat)(t:Ty):Nat→Nat→Option (HS Γ→List (D t))
 |0,_=>some fun _=> []
 |n+1,off=>match get Γ (.c id off),Il id t n (off+1)with
  |some ⟨.v u,f⟩,some g=>if h:u=t then some fun ρ=>(h▸f ρ:D t)::g ρ else none
  |_,_=>none
def IY(r:Σ r:Ty,Dyn (HS Γ) (D r)):List (Nat×Nat×SO)→Option (Σ r:Ty,Dyn (HS Γ) (D r))
 | []=>some r
 |p::ps=>match rdV Γ p.2.2 with
  |some q=>match Ja (Cb q.1) r.1 p.1 with
   |some g=>if q.1.val=true∧Bb (Cb q.1)=some p.2.1 then IY ⟨g.1,(r.2.both q.2).map fun _ z=>g.2 z.1 (Fl q.1 z.2)⟩ ps else none
   |none=>none
  |none=>none
def mmT(mx:Bool)(k:IntKind)(acc:Dyn (HS Γ) Int):List SO→Option (Dyn (HS Γ) Int)
 | []=>some acc
 |x::xs=>match rdV Γ x with
  |some ⟨.int k',d⟩=>if k'=k then mmT mx k (match mx with
    |true=>(acc.both d).map fun _ p=>max p.1 p.2
    |false=>(acc.both d).map fun _ p=>min p.1 p.2) xs else none
  |_=>none
def F0:List SO→Option (Σ r:Ty,Dyn (HS Γ) (D r))
 | []=>some ⟨.nil,.tot fun _=>()⟩
 | [x]=>match rdV Γ x with
  |some q=>some ⟨.one q.1,q.2⟩
  |none=>none
 |x::y::xs=>match rdV Γ x,F0 (y::xs)with
  |some q,some p=>some ⟨.cons q.1 p.1,q.2.both p.2⟩
  |_,_=>none
def J2{A:Type}(len:A→Int)(da:Dyn (HS Γ) A)(lo hi:Option SO):Option (Dyn (HS Γ) (A×Int×Int)):=
 match lo,hi with
 |none,none=>some (da.map fun _ a=>(a,0,len a))
 |some l,none=>match rdV Γ l with
  |some ⟨.int _,dl⟩=>some ((da.both dl).map fun _ p=>(p.1,p.2,len p.1))
  |_=>none
 |none,some h=>match rdV Γ h with
  |some ⟨.int _,dh⟩=>some ((da.both dh).map fun _ p=>(p.1,0,p.2))
  |_=>none
 |some l,some h=>match rdV Γ l,rdV Γ h with
  |some ⟨.int _,dl⟩,some ⟨.int _,dh⟩=>some ((da.both (dl.both dh)).map fun _ p=>(p.1,p.2.1,p.2.2))
  |_,_=>none
def DE(q:Σ k:EK,Dyn (HS Γ) (DK k)):Σ k:EK,Dyn (HS Γ) (DK k):=
 match q with
 |⟨.v (.nam N),d⟩=>if Nat.ble At N=true then match D1 Γ msk N with
  |some ⟨.box _,_⟩=>⟨.ptr N 0,d.map fun _ _=>()⟩
  |_=>⟨.v (.nam N),d⟩
  else⟨.v (.nam N),d⟩
 |q=>q
def drK:EK→Bool
 | .rp _ _| .v (.pt _)| .ptr _ _| .eptr _ _ _| .aptr _ _ _=>true
 |_=>false
def EC(sz:Option Nat)(q:Σ k:EK,Dyn (HS Γ) (DK k)):Option (Σ k:EK,Dyn (HS Γ) (DK k)):=
 match q with
 |⟨.rp _ r,d⟩=>match sz with
  |none=>match D0 r 0 with
   |some p=>some ⟨.v p.1,d.map fun _ x=>p.2 x⟩
   |none=>none
  |some n=>match D5 r n with
   |some p=>some ⟨.v (.agg p.1),d.map fun _ x=>p.2 x⟩
   |none=>none
 |⟨.v (.pt r),d⟩=>match sz with
  |none=>match D0 r 0 with
   |some p=>some ⟨.v p.1,d.map fun _ x=>p.2 x⟩
   |none=>none
  |some n=>match D5 r n with
   |some p=>some ⟨.v (.agg p.1),d.map fun _ x=>p.2 x⟩
   |none=>none
 |⟨.ptr id o,d⟩=>match D1 Γ msk id with
  |some ⟨.box nb,_⟩=>match sz with
   |none=>if o<nb then match get Γ (.c id o)with
    |some p=>some ⟨p.1,d.map fun ρ _=>p.2 ρ⟩
    |none=>none
    else none
   |some (n+1)=>if o+n<nb then match Gi Γ id n o with
    |some p=>some ⟨.v (.agg p.1),d.map fun ρ _=>p.2 ρ⟩
    |none=>none
    else none
   |some 0=>none
  |_=>none
 |⟨.eptr id size o,d⟩=>match D1 Γ msk id with
  |some ⟨.arr _ size' t,xs⟩=>if size=size'∧t.val=true then match sz with
   |none=>match D0 (Cb t) o with
    |some p=>some ⟨.v p.1,(d.map fun ρ i=>(xs ρ)[i]?).comp (.par fun x=>x.map fun y=>p.2 (Fl t y))⟩
    |none=>none
   |some n=>if n=0 then none else match Lx (Cb t) o n with
    |some p=>some ⟨.v (.agg p.1),(d.map fun ρ i=>(xs ρ)[i]?).comp (.par fun x=>x.map fun y=>p.2 (Fl t y))⟩
    |none=>none
   else none
  |_=>none
 |⟨.aptr id n o,d⟩=>match D1 Γ msk id with
  |some ⟨.box nb,_⟩=>match sz,get Γ (.c id o)with
   |none,some ⟨.v t,_⟩=>match Il Γ id t n o with
    |some f=>if o+n≤nb then some ⟨.v t,(d.map fun ρ i=>(f ρ)[i]?).comp (.par fun x=>x)⟩else none
    |none=>none
   |_,_=>none
  |_=>none
 |_=>none
def MK(kd:Nat)(x:SO):Option (Dyn (HS Γ) Int):=
 match kd,rdK G Γ x with
 |0,some ⟨.v .str,d⟩=>some (d.map fun _ s=>((s:List UInt8).length:Int))
 |1,some ⟨.v (.sl _),d⟩=>some (d.map fun _ s=>(s.length:Int))
 |1,some ⟨.v .nsl,d⟩=>some (d.map fun _ _=>0)
 |1,some ⟨.own id,d⟩=>match D1 Γ msk id with
  |some ⟨.arr _ _ _,xs⟩=>some (d.map fun ρ _=>((xs ρ).length:Int))
  |_=>none
 |2,some ⟨.v (.map _ _),d⟩=>some (d.map fun _ s=>(s.length:Int))
 |2,some ⟨.mp id,d⟩=>match D1 Γ msk id with
  |some ⟨.mob _ _ _,xs⟩=>some (d.map fun ρ _=>((xs ρ).length:Int))
  |_=>none
 |_,_=>none
def KA(kq:Σ t:Ty,Dyn (HS Γ) (D t))(ok:Bool)(k v:Ty)(dm:Dyn (HS Γ) (List (D k×D v))):Option (Σ k:EK,Dyn (HS Γ) (DK k)):=
 match Be kq.1 k with
 |some f=>if Ep k=true then
   match ok with
   |true=>some ⟨.v (.tup (.cons v (.one .bool))),(dm.both kq.2).map fun _ p=>BK (eqZ k) (BM v) (f p.2) p.1⟩
   |false=>some ⟨.v v,(dm.both kq.2).map fun _ p=>(BK (eqZ k) (BM v) (f p.2) p.1).1⟩
  else none
 |none=>none
def MS(mt:TypeId)(kt:KT)(z:CV)(ok:Bool)(x key:SO):Option (Σ k:EK,Dyn (HS Γ) (DK k)):=
 match rdV Γ key with
 |some kq=>match rdK G Γ x with
  |some ⟨.v (.map k v),d⟩=>if BA v [z]=true∧ktB kt k=true then KA Γ kq ok k v d else none
  |some ⟨.mp id,d⟩=>match D1 Γ msk id with
   |some ⟨.mob mt' k v,m⟩=>if mt'=mt then KA Γ kq ok k v (d.map fun ρ _=>m ρ)else none
   |_=>none
  |_=>none
 |none=>none
def NZ:SOp→Option (Σ k:EK,Dyn (HS Γ) (DK k))
 | .mov x=>rdK G Γ x
 | .pick c a b=>match rdV Γ c,rdV Γ a,rdV Γ b with
  |some ⟨.bool,dc⟩,some qa,some qb=>match Be qb.1 qa.1 with
   |some f=>some ⟨.v qa.1,IZ dc qa.2 (qb.2.map fun _ y=>f y)⟩
   |none=>match Be qa.1 qb.1 with
    |some f=>some ⟨.v qb.1,IZ dc (qa.2.map fun _ y=>f y) qb.2⟩
    |none=>none
  |_,_,_=>none
 | .bin op x y=>match rdV Γ x,rdV Γ y with
  |some p,some q=>match LP op p.1 q.1 with
   |some b=>some ⟨.v b.1,(p.2.both q.2).comp b.2⟩
   |none=>none
  |_,_=>none
 | .eqs neg ts x y=>match rdV Γ x,rdV Γ y with
  |some ⟨.agg r,d⟩,some ⟨.agg s,e⟩=>match Iw r s ts with
   |some f=>match neg with
    |true=>some ⟨.v .bool,(d.both e).map fun _ p=> !(f p.1 p.2)⟩
    |false=>some ⟨.v .bool,(d.both e).map fun _ p=>f p.1 p.2⟩
   |none=>none
  |_,_=>none
 | .beq neg x y=>match rdV Γ x,rdV Γ y with
  |some ⟨.bool,d⟩,some ⟨.bool,e⟩=>match neg with
   |true=>some ⟨.v .bool,(d.both e).map fun _ p=> !(p.1==p.2)⟩
   |false=>some ⟨.v .bool,(d.both e).map fun _ p=>p.1==p.2⟩
  |_,_=>none
 | .isnil kd neg x=>match kd,rdV Γ x with
  |3,some ⟨.err,d⟩=>match neg with
   |true=>some ⟨.v .bool,d.map fun _ b=> !(b:Bool)⟩
   |false=>some ⟨.v .bool,d.map fun _ b=>b⟩
  |1,some ⟨.nsl,d⟩=>some ⟨.v .bool,d.map fun _ _=> !neg⟩
  |_,_=>none
 | .un op x=>match op,rdV Γ x with
  | .neg,some ⟨.int k,d⟩=>some ⟨.v (.int k),d.map fun _ n=>k.wrap (0-n)⟩
  | .xor,some ⟨.int k,d⟩=>some ⟨.v (.int k),d.map fun _ n=>HZ .xor k (if k.signed then-1 else k.max) n⟩
  | .not,some ⟨.bool,d⟩=>some ⟨.v .bool,d.map fun _ b=> !(b:Bool)⟩
  |_,_=>none
 | .cvi k x=>match rdV Γ x with
  |some ⟨.int _,d⟩=>some ⟨.v (.int k),d.map fun _ n=>k.wrap n⟩
  |_=>none
 | .cvrune x=>match rdV Γ x with
  |some ⟨.int _,d⟩=>some ⟨.v .str,d.map fun _ n=>(Utf8.encode n).data.toList⟩
  |_=>none
 | .bytes _ x=>match rdV Γ x with
  |some ⟨.str,d⟩=>some ⟨.v (.sl (.int .u8)),d.comp (.par fun s=>if s.length≤70368744177664 then some (s.map fun b=>(b.toNat:Int))else none)⟩
  |_=>none
 | .cvbs x=>match rdK G Γ x with
  |some ⟨.v (.sl (.int .u8)),d⟩=>some ⟨.v .str,d.map fun _ ns=>ns.map fun n=>UInt8.ofNat n.toNat⟩
  |some ⟨.v .nsl,d⟩=>some ⟨.v .str,d.map fun _ _=> []⟩
  |some ⟨.own id,d⟩=>match D1 Γ msk id with
   |some ⟨.arr _ _ (.int .u8),xs⟩=>some ⟨.v .str,d.map fun ρ _=>(xs ρ).map fun n=>UInt8.ofNat n.toNat⟩
   |_=>none
  |_=>none
 | .cvid x=>match rdV Γ x with
  |some ⟨.str,d⟩=>some ⟨.v .str,d⟩
  |_=>none
 | .build z AY=>match EU z with
  |some q=>match IY Γ ⟨q.1,.tot fun _=>q.2⟩ AY with
   |some r=>some ⟨.v (.agg r.1),r.2⟩
   |none=>none
  |none=>none
 | .field off sz x=>match rdV Γ x with
  |some ⟨.agg r,d⟩=>match sz with
   |none=>match D0 r off with
    |some p=>some ⟨.v p.1,d.map fun _ x=>p.2 x⟩
    |none=>none
   |some n=>match Lx r off n with
    |some p=>if 0<n then some ⟨.v (.agg p.1),d.map fun _ x=>p.2 x⟩else none
    |none=>none
  |_=>none
 | .ext x i=>match rdK G Γ x with
  |some ⟨.v (.tup r),d⟩=>match D0 r i with
   |some p=>some ⟨.v p.1,d.map fun _ x=>p.2 x⟩
   |none=>none
  |some ⟨.ent id k v,d⟩=>match i with
   |0=>some ⟨.v v,d.map fun _ x=>x.2⟩
   |1=>some ⟨.stamp id k,d.map fun _ x=>x.1⟩
   |_=>none
  |_=>none
 | .minmax mx xs=>match xs with
  | []=>none
  |x::xs=>match rdV Γ x with
   |some ⟨.int k,d⟩=>match mmT Γ mx k d xs with
    |some e=>some ⟨.v (.int k),e⟩
    |none=>none
   |_=>none
 | .fnv f caps=>match F0 Γ caps with
  |some q=>some ⟨.v (.clo f q.1),q.2⟩
  |none=>none
 | .faddr off x=>match (rdK G Γ x).map (DE Γ msk)with
  |some ⟨.rp ex r,d⟩=>match E5 r off with
   |some p=>some ⟨.rp ex p.1,d.map fun _ x=>p.2 x⟩
   |none=>none
  |some ⟨.v (.pt r),d⟩=>match E5 r off with
   |some p=>some ⟨.rp true p.1,d.map fun _ x=>p.2 x⟩
   |none=>none
  |some ⟨.ptr id o,d⟩=>some ⟨.ptr id (o+off),d⟩
  |some ⟨.eptr id s o,d⟩=>some ⟨.eptr id s (o+off),d⟩
  |some ⟨.aptr id n o,d⟩=>if off=0 then some ⟨.aptr id n o,d⟩else none
  |_=>none
 | .iaddr size x i=>match rdK G Γ x,rdV Γ i with
  |some ⟨.v (.sl e),d⟩,some ⟨.int _,di⟩=>if e.val=true∧Bb (Cb e)=some size then some ⟨.rp true (Cb e),(d.both di).comp (.par fun p=>(lAt p.1 p.2).map fun y=>Fl e y)⟩else none
  |some ⟨.own id,d⟩,some ⟨.int _,di⟩=>match D1 Γ msk id with
   |some ⟨.arr _ sz _,xs⟩=>if size=sz then some ⟨.eptr id size 0,((d.both di).map fun ρ p=>if 0≤(p.2:Int)∧(p.2:Int)<((xs ρ).length:Int)then some (p.2:Int).toNat else none).comp (.par fun x=>x)⟩else none
   |_=>none
  |_,_=>none
 | .aaddr len size x i=>match rdK G Γ x,rdV Γ i with
  |some ⟨.rp true r,d⟩,some ⟨.int _,di⟩=>match D5 r size with
   |some q=>match GQ q.1 size len r with
    |some f=>if Bb r=some (len*size)then some ⟨.rp false q.1,(d.both di).comp (.par fun p=>lAt (f p.1) p.2)⟩else none
    |none=>none
   |none=>none
  |some ⟨.ptr id o,d⟩,some ⟨.int _,di⟩=>if size=1 then some ⟨.aptr id len o,(d.both di).comp (.par fun p=>if 0≤(p.2:Int)∧(p.2:Int)<(len:Int)then some (p.2:Int).toNat else none)⟩else none
  |_,_=>none
 | .sidx x i=>match rdV Γ x,rdV Γ i with
  |some ⟨.str,d⟩,some ⟨.int _,di⟩=>some ⟨.v (.int .u8),(d.both di).comp (.par fun p=>sAt p.1 p.2)⟩
  |_,_=>none
 | .aidx len size sz x i=>match rdV Γ x,rdV Γ i with
  |some ⟨.agg r,d⟩,some ⟨.int _,di⟩=>match sz with
   |none=>match D5 r 1 with
    |some q=>match D0 q.1 0 with
     |some p=>match GQ q.1 1 len r with
         |some f=>if size=1 then some ⟨.v p.1,(d.both di).comp (.par fun z=>(lAt (f z.1) z.2).map fun y=>p.2 y)⟩else none
         |none=>none
     |none=>none
    |none=>none
   |some n=>match D5 r size with
    |some q=>match GQ q.1 size len r with
     |some f=>if n=size∧0<size then some ⟨.v (.agg q.1),(d.both di).comp (.par fun z=>lAt (f z.1) z.2)⟩else none
     |none=>none
    |none=>none
  |_,_=>none
 | .load sz x=>match rdK G Γ x with
  |some q=>EC Γ msk sz (DE Γ msk q)
  |none=>none
 | .len kd x=>match MK G Γ msk kd x with
  |some d=>some ⟨.v (.int .i64),d⟩
  |none=>none
 | .sslice x lo hi=>match rdV Γ x with
  |some ⟨.str,d⟩=>match J2 Γ (fun s=>((s:List UInt8).length:Int)) d lo hi with
   |some e=>some ⟨.v .str,e.comp (.par fun p=>AV p.1 p.2.1 p.2.2)⟩
   |none=>none
  |_=>none
 | .slice size x lo hi=>match rdV Γ x with
  |some ⟨.sl e,d⟩=>if e.val=true∧Bb (Cb e)=some size then match J2 Γ (fun s=>(s.length:Int)) d lo hi with
   |some g=>some ⟨.v (.sl e),g.comp (.par fun p=>AV p.1 p.2.1 p.2.2)⟩
   |none=>none
   else none
  |_=>none
 | .lookup mt kt z ok x k=>MS G Γ msk mt kt z ok x k
 | .asl n x=>match rdK G Γ x with
  |some ⟨.rp true r,d⟩=>match Jn r with
   |some f=>if Bb r=some n then some ⟨.v (.sl .str),d.map fun _ z=>f z⟩else none
   |none=>none
  |_=>none
 |_=>none
end
section
variable {G:Nat→List CV} {Γ:TC} {msk:List Nat} {ρ:HS Γ} {st:St} {rd:Nat→Ob}
theorem El{id:Nat}{q:Σ k:EK,HS Γ→DK k}(h:D1 Γ msk id=some q)(hr:Rep Γ ρ st)(hrd:∀id,msk.contains id=false→rd id=st.ob id):RO Γ ρ id q.1 (q.2 ρ) (rd id):=by
 unfold D1 at h;split at h<;>(try cases h;done);rename_i hm;rw[hrd id (by simpa using hm)];exact hr.o id q h
theorem Md{id nb:Nat}{cs:List SV}(hcs:∀j q,j<nb→get Γ (.c id j)=some q→∃sv,cs[j]? =some sv∧RS q.1 (q.2 ρ) sv):∀{n off:Nat} {q:Σ r:Ty,HS Γ→D r},Gi Γ id n off=some q→off+n<nb→∃l,Ap closed ((cs.drop off).take (n+1))=some l∧Can q.1 (q.2 ρ) l∧off+(n+1)≤cs.length:=by
 intro n
 induction n with
 |zero=>
  intro off q h hb;simp only[Gi]at h;split at h<;>(try cases h;done);rename_i t f hg;cases h;obtain⟨sv,h1,c,rfl,h3⟩:=hcs off _ (by omega) hg;have hlt:=(Ae.1 h1).1;refine⟨[c], ?_, ?_,by omega⟩
  ·rw[List.drop_eq_getElem_cons hlt,(Ae.1 h1).2];simp[Ap,closed]
  ·unfold Can;exact⟨c,rfl,h3⟩
 |succ n ih=>
  intro off q h hb;simp only[Gi]at h;split at h<;>(try cases h;done);rename_i t f p hg hp;cases h;obtain⟨sv,h1,c,rfl,h3⟩:=hcs off _ (by omega) hg;have hlt:=(Ae.1 h1).1;obtain⟨l,g1,g2,g3⟩:=ih hp (by omega);refine⟨c::l, ?_, ?_,by omega⟩
  ·rw[List.drop_eq_getElem_cons hlt,(Ae.1 h1).2];simp only[List.take_succ_cons,Ap,closed,Option.bind_some];rw[g1];rfl
  ·unfold Can;exact⟨c,l,rfl,h3,g2⟩
theorem GT{t:Ty}{x:D t}{c:CV}{n:Nat}(hv:t.val=true)(hl:Bb (Cb t)=some n)(h:Can t x [c]):c.cells.length=n∧BC c=n:=by
 have h1:=DN hl (FQ hv h);refine⟨h1, ?_⟩;rw[←h1];cases c<;>simp[BC,CV.cells]
theorem Xl(hr:Rep Γ ρ st):∀{ps:List (Nat×Nat×SO)} {r q:Σ r:Ty,Dyn (HS Γ) (D r)} {cs:List CV} {x:D q.1},IY Γ r ps=some q→q.2.val ρ=some x→(∀y,r.2.val ρ=some y→Can r.1 y cs)→
  (∃y,r.2.val ρ=some y)∧∃l cs',Ap (fun p=>(closed (so G st.fr p.2.2)).map fun v=>(p.1,p.2.1,v)) ps=some l∧Gy cs l=some cs'∧Can q.1 x cs':=by
 intro ps
 induction ps with
 |nil=>
  intro r q cs x h hx hc;simp only[IY,Ac]at h;subst h;exact⟨⟨x,hx⟩,[],cs,rfl,rfl,hc x hx⟩
 |cons p ps ih=>
  intro r q cs x h hx hc;simp only[IY]at h;split at h<;>(try cases h;done);rename_i t ht;split at h<;>(try cases h;done);rename_i g hg;split at h<;>(try cases h;done);rename_i hvl
  have key:∀y,((r.2.both t.2).map fun _ z=>g.2 z.1 (Fl t.1 z.2)).val ρ=some y→∃y0 z c,r.2.val ρ=some y0∧t.2.val ρ=some z∧so G st.fr p.2.2=.c c∧BC c=p.2.1∧p.1+p.2.1≤cs.length∧Can g.1 y (cs.take p.1++c.cells++cs.drop (p.1+p.2.1)):=by
   intro y hy;obtain⟨b,h1,h2⟩:=Dyn.map_val hy;obtain⟨h3,h4⟩:=Dyn.both_val h1;obtain⟨c,h5,h6⟩:=AP (G:=G) ht hr h4;obtain⟨e1,e2⟩:=GT hvl.1 hvl.2 h6;obtain⟨g1,g2⟩:=RD hg (hc _ h3) (FQ hvl.1 h6);rw[e1]at g1 g2;exact⟨_,_,c,h3,h4,h5,e2,g2,h2▸g1⟩
  by_cases hex:∃y,((r.2.both t.2).map fun _ z=>g.2 z.1 (Fl t.1 z.2)).val ρ=some y
  ·obtain⟨y,hy⟩:=hex;obtain⟨y0,z,c,k1,k2,k3,k4,k5,k6⟩:=key y hy
   obtain⟨_,l,cs',i1,i2,i3⟩:=ih (cs:=cs.take p.1++c.cells++cs.drop (p.1+p.2.1)) h hx (fun y' hy'=>by
    rw[hy]at hy';cases hy'
    exact k6)
   refine⟨⟨y0,k1⟩,(p.1,p.2.1,c)::l,cs', ?_, ?_,i3⟩
   ·simp only[Ap];rw[k3,i1];rfl
   ·simp only[Gy];rw[if_pos ⟨k4,k5⟩];exact i2
  ·exfalso;obtain⟨⟨y,hy⟩,_⟩:=ih (cs:= []) h hx (fun y hy=>absurd ⟨y,hy⟩ hex);exact hex ⟨y,hy⟩
theorem WC(hr:Rep Γ ρ st){mx:Bool}{k:IntKind}:∀{xs:List SO} {acc e:Dyn (HS Γ) Int} {z:Int},mmT Γ mx k acc xs=some e→e.val ρ=some z→∃a l,acc.val ρ=some a∧Ap (fun x=>closed (so G st.fr x)) xs=some l∧l.foldlM (G5 mx) (.int k a)=some (.int k z):=by
 intro xs
 induction xs with
 |nil=>
  intro acc e z h hz;simp only[mmT,Ac]at h;subst h;exact⟨z,[],hz,rfl,rfl⟩
 |cons x xs ih=>
  intro acc e z h hz;simp only[mmT]at h;split at h<;>(try cases h;done);rename_i k' d hd;split at h<;>(try cases h;done);rename_i hk;subst hk;obtain⟨a,l,h1,h2,h3⟩:=ih h hz
  cases mx<;>
  ·obtain⟨b,g1,g2⟩:=Dyn.map_val h1;obtain⟨g3,g4⟩:=Dyn.both_val g1;obtain⟨c,g5,g6⟩:=AP (G:=G) hd hr g4;unfold Can at g6;cases g6;refine⟨b.1,_::l,g3,by simp only[Ap];rw[g5,h2];rfl, ?_⟩;simp only[List.foldlM_cons,G5,if_true,Ag,if_false];subst g2;exact h3
theorem Ib(hr:Rep Γ ρ st):∀{xs:List SO} {q:Σ r:Ty,Dyn (HS Γ) (D r)} {x:D q.1},F0 Γ xs=some q→q.2.val ρ=some x→∃l,Ap (fun x=>closed (so G st.fr x)) xs=some l∧Can q.1 x l
 | [],q,x,h,hx=>by
  simp only[F0,Ac]at h;subst h;exact⟨[],rfl,by unfold Can;rfl⟩
 | [y],q,x,h,hx=>by
  simp only[F0]at h;split at h<;>(try cases h;done);rename_i p hp;cases h;obtain⟨c,h1,h2⟩:=AP (G:=G) hp hr hx;exact⟨[c],by simp[Ap,h1,closed],by unfold Can;exact⟨c,rfl,h2⟩⟩
 |y::z::xs,q,x,h,hx=>by
  simp only[F0]at h;split at h<;>(try cases h;done);rename_i p p' hp hp';cases h;obtain⟨g1,g2⟩:=Dyn.both_val hx;obtain⟨c,h1,h2⟩:=AP (G:=G) hp hr g1;obtain⟨l,h3,h4⟩:=Ib hr hp' g2;refine⟨c::l, ?_,by unfold Can;exact⟨c,l,rfl,h2,h4⟩⟩;have e:Ap (fun x=>closed (so G st.fr x)) (y::z::xs)=(closed (so G st.fr y)).bind fun b=>(Ap (fun x=>closed (so G st.fr x)) (z::xs)).map fun bs=>b::bs:=rfl;rw[e,h1,h3];rfl
theorem Pd(hr:Rep Γ ρ st){A:Type}{len:A→Int}{da:Dyn (HS Γ) A}{lo hi:Option SO}{e:Dyn (HS Γ) (A×Int×Int)}{p:A×Int×Int}(h:J2 Γ len da lo hi=some e)(hp:e.val ρ=some p):
  da.val ρ=some p.1∧(∀n:Nat,(n:Int)=len p.1→0≤p.2.2→C1 n (hi.map (so G st.fr))=some p.2.2.toNat)∧(0≤p.2.1→C1 0 (lo.map (so G st.fr))=some p.2.1.toNat):=by
 have hint:∀{x:SO} {k:IntKind} {d:Dyn (HS Γ) (D (.int k))} {n:Int} {m:Nat},rdV Γ x=some ⟨.int k,d⟩→d.val ρ=some n→0≤n→C1 m (some (so G st.fr x))=some n.toNat:=by
  intro x k d n m hx hn h0;obtain⟨c,h1,h2⟩:=AP (G:=G) hx hr hn;unfold Can at h2;cases h2;simp[C1,h1,h0]
 unfold J2 at h;split at h
 ·cases h;obtain⟨b,h1,h2⟩:=Dyn.map_val hp;subst h2;refine⟨h1,fun n hn _=> ?_,fun _=>rfl⟩;simp[C1,←hn]
 ·split at h<;>(try cases h;done);rename_i l k d hd;cases h;obtain⟨b,h1,h2⟩:=Dyn.map_val hp;obtain⟨h3,h4⟩:=Dyn.both_val h1;subst h2;refine⟨h3,fun n hn _=> ?_,fun h0=>hint hd h4 h0⟩;simp[C1,←hn]
 ·split at h<;>(try cases h;done);rename_i l k d hd;cases h;obtain⟨b,h1,h2⟩:=Dyn.map_val hp;obtain⟨h3,h4⟩:=Dyn.both_val h1;subst h2;exact⟨h3,fun n _ h0=>hint hd h4 h0,fun _=>rfl⟩
 ·split at h<;>(try cases h;done);rename_i l hh k d k' d' hd hd';cases h;obtain⟨b,h1,h2⟩:=Dyn.map_val hp;obtain⟨h3,h4⟩:=Dyn.both_val h1;obtain⟨h5,h6⟩:=Dyn.both_val h4;subst h2;exact⟨h3,fun n _ h0=>hint hd' h6 h0,fun h0=>hint hd h5 h0⟩
theorem P3{id nb:Nat}{t:Ty}{cs:List SV}(hcs:∀j q,j<nb→get Γ (.c id j)=some q→∃sv,cs[j]? =some sv∧RS q.1 (q.2 ρ) sv):∀{n off:Nat} {f:HS Γ→List (D t)} {i:Nat} {y:D t},Il Γ id t n off=some f→off+n≤nb→(f ρ)[i]? =some y→i<n∧∃c,cs[off+i]? =some (.c c)∧Can t y [c]
 |0,off,f,i,y,h,_,hy=>by
  simp only[Il,Ac]at h;subst h;simp at hy
 |n+1,off,f,i,y,h,hb,hy=>by
  simp only[Il]at h;split at h<;>(try cases h;done);rename_i u g g' hg hg';split at h<;>(try cases h;done);rename_i hu;subst hu;cases h
  cases i with
  |zero=>
   simp at hy;obtain⟨sv,h1,c,h2,h3⟩:=hcs off _ (by omega) hg;subst h2;exact⟨by omega,c,h1,hy▸h3⟩
  |succ i=>
   simp only[List.getElem?_cons_succ]at hy;obtain⟨h1,c,h2,h3⟩:=P3 hcs hg' (by omega) hy;exact⟨by omega,c,by rw[←h2];congr 1;omega,h3⟩
theorem U6{k:EK}{x:DK k}{sv:SV}(hk:drK k=true)(h:RS k x sv):deref rd sv=sv:=by
 cases k<;>simp only[drK,Ag]at hk
 case v t=>
  cases t<;>simp only[Ag]at hk;obtain⟨c,rfl,hc⟩:=h;unfold Can at hc;obtain⟨l,e,_⟩:=hc;cases e;rfl
 case rp=>obtain⟨cs,rest,rfl,_⟩:=h;rfl
 case ptr=>unfold RS at h;rw[h];rfl
 case eptr=>unfold RS at h;rw[h];rfl
 case aptr=>unfold RS at h;rw[h.1];rfl
theorem U5(hr:Rep Γ ρ st)(hrd:∀id,msk.contains id=false→rd id=st.ob id){q q':Σ k:EK,Dyn (HS Γ) (DK k)}{sv:SV}(hs:∀x,q.2.val ρ=some x→RS q.1 x sv)(h:DE Γ msk q=q'){x:DK q'.1}(hx:q'.2.val ρ=some x)
  (hk:drK q'.1=true):RS q'.1 x (deref rd sv):=by
 have same:∀{q':Σ k:EK,Dyn (HS Γ) (DK k)} {x:DK q'.1},(∀x,q'.2.val ρ=some x→RS q'.1 x sv)→q'.2.val ρ=some x→drK q'.1=true→RS q'.1 x (deref rd sv):=by
  intro q' x h1 h2 h3;rw[U6 h3 (h1 x h2)];exact h1 x h2
 unfold DE at h;split at h
 ·rename_i N d;split at h
  ·rename_i hN;split at h
   ·rename_i n f ho;subst h;obtain⟨y,h1,_⟩:=Dyn.map_val (d:=d) (g:=fun _ _=>()) hx;obtain⟨c,e,hc⟩:=hs y h1;unfold Can at hc;cases hc;obtain⟨cs,h3,_⟩:=El ho hr hrd;subst e;show deref rd (.c (.nam N))=.ptr N 0;simp only[deref,h3];rw[if_pos (Ah hN)]
   ·subst h;cases hk
  ·subst h;cases hk
 ·subst h;exact same hs hx hk
theorem Is(hr:Rep Γ ρ st)(hrd:∀id,msk.contains id=false→rd id=st.ob id){q:Σ k:EK,Dyn (HS Γ) (DK k)}{sv:SV}(hs:∀x,q.2.val ρ=some x→RS q.1 x sv){x:DK (DE Γ msk q).1}(hx:(DE Γ msk q).2.val ρ=some x)
  (hk:drK (DE Γ msk q).1=true):RS (DE Γ msk q).1 x (deref rd sv):=U5 hr hrd hs rfl hx hk
theorem K0(hr:Rep Γ ρ st)(hrd:∀id,msk.contains id=false→rd id=st.ob id){sz:Option Nat}{q q':Σ k:EK,Dyn (HS Γ) (DK k)}{sv:SV}{y:DK q'.1}(h:EC Γ msk sz q=some q')(hy:q'.2.val ρ=some y)
  (hs:∀x,q.2.val ρ=some x→RS q.1 x sv):∃sv',Bt rd sz sv=some sv'∧RS q'.1 y sv':=by
 obtain⟨k,d⟩:=q;cases k<;>(try cases h;done)
 ·rename_i t;cases t<;>(try cases h;done);rename_i r;simp only[EC]at h;split at h
  ·split at h<;>(try cases h;done);rename_i p hp;cases h;obtain⟨x,h1,h2⟩:=Dyn.map_val hy;obtain⟨c0,e,hc0⟩:=hs x h1;subst e;unfold Can at hc0;obtain⟨cs,e,hc⟩:=hc0;cases e;obtain⟨c,h3,h4⟩:=H8 hp hc;refine⟨.c c, ?_,c,rfl,h2▸h4⟩;simp[Bt,h3]
  ·rename_i n;split at h<;>(try cases h;done);rename_i p hp;cases h;obtain⟨x,h1,h2⟩:=Dyn.map_val hy;obtain⟨c0,e,hc0⟩:=hs x h1;subst e;unfold Can at hc0;obtain⟨cs,e,hc⟩:=hc0;cases e;obtain⟨h3,h4⟩:=Ly hp hc;refine⟨.c (.agg (cs.take n)), ?_,.agg (cs.take n),rfl,by unfold Can;exact⟨_,rfl,h2▸h3⟩⟩;have:n≤cs.length:=by omega
   simp[Bt,Ck,this]
 ·rename_i ex r;simp only[EC]at h;split at h
  ·split at h<;>(try cases h;done);rename_i p hp;cases h;obtain⟨x,h1,h2⟩:=Dyn.map_val hy;obtain⟨cs,rest,e,hc,_⟩:=hs x h1;subst e;obtain⟨c,h3,h4⟩:=H8 hp hc;refine⟨.c c, ?_,c,rfl,h2▸h4⟩;have hlt:=(Ae.1 h3).1;simp[Bt,List.getElem?_append_left hlt,h3]
  ·rename_i n;split at h<;>(try cases h;done);rename_i p hp;cases h;obtain⟨x,h1,h2⟩:=Dyn.map_val hy;obtain⟨cs,rest,e,hc,_⟩:=hs x h1;subst e;obtain⟨h3,h4⟩:=Ly hp hc;refine⟨.c (.agg (cs.take n)), ?_,.agg (cs.take n),rfl,by unfold Can;exact⟨_,rfl,h2▸h3⟩⟩;have:n≤cs.length+rest.length:=by omega
   simp[Bt,Ck,this,List.take_append_of_le_length h4]
 ·rename_i id o;simp only[EC]at h;split at h<;>(try cases h;done);rename_i n g hg;obtain⟨cs,e,hl,hcs⟩:=El hg hr hrd;split at h
  ·split at h<;>(try cases h;done);rename_i hb;split at h<;>(try cases h;done);rename_i p hp;cases h;dsimp only at hy;obtain⟨u,hu,hy⟩:=Dyn.map_val hy;have hsv:sv=.ptr id o:=hs u hu;subst hsv;subst hy;obtain⟨sv',h1,h2⟩:=hcs o _ hb hp;exact⟨sv',by simp[Bt,e,h1],h2⟩
  ·rename_i n;split at h<;>(try cases h;done);rename_i hb;split at h<;>(try cases h;done);rename_i p hp;cases h;dsimp only at hy;obtain⟨u,hu,hy⟩:=Dyn.map_val hy;have hsv:sv=.ptr id o:=hs u hu;subst hsv;subst hy;obtain⟨l,h1,h2,h3⟩:=Md hcs hp hb;exact⟨.c (.agg l),by simp only[Bt,e];rw[if_pos h3,h1];rfl,.agg l,rfl,by unfold Can;exact⟨l,rfl,h2⟩⟩
  ·cases h
 ·rename_i id size o;simp only[EC]at h;split at h<;>(try cases h;done);rename_i e' size' t xs hg;split at h<;>(try cases h;done);rename_i hsz;obtain⟨hsz,hv⟩:=hsz;subst hsz;obtain⟨es,e,hes⟩:=El hg hr hrd;split at h
  ·split at h<;>(try cases h;done);rename_i p hp;cases h;obtain⟨b,h1,h2⟩:=Dyn.comp_val hy;obtain⟨i,h3,h4⟩:=Dyn.map_val h1;subst h4;have hsv:sv=.eptr id i size o:=hs i h3;subst hsv;obtain⟨a,h5,h6⟩:=Aa.1 h2;obtain⟨c,h7,h8⟩:=hes.get h5;obtain⟨c',h9,h10⟩:=H8 hp (FQ hv h8);exact⟨.c c',by simp[Bt,e,h7,Ck,h9],c',rfl,h6▸h10⟩
  ·rename_i n;split at h<;>(try cases h;done);rename_i hpos;split at h<;>(try cases h;done);rename_i p hp;cases h;obtain⟨b,h1,h2⟩:=Dyn.comp_val hy;obtain⟨i,h3,h4⟩:=Dyn.map_val h1;subst h4;have hsv:sv=.eptr id i size o:=hs i h3;subst hsv;obtain⟨a,h5,h6⟩:=Aa.1 h2;obtain⟨c,h7,h8⟩:=hes.get h5;obtain⟨h9,h10⟩:=SI hp (FQ hv h8);refine⟨.c (.agg ((c.cells.drop o).take n)), ?_,_,rfl,by unfold Can;exact⟨_,rfl,h6▸h9⟩⟩;have hle:o+n≤c.cells.length∨n=0:=by omega
   rcases hle with hle|hle
   ·simp only[Bt,e,if_true,h7,Option.bind_some,Ck];rw[if_pos hle];rfl
   ·exact(hpos hle).elim
 ·rename_i id n o;simp only[EC]at h;split at h<;>(try cases h;done);rename_i nb g hg;obtain⟨cs,e,hl,hcs⟩:=El hg hr hrd;split at h<;>(try cases h;done);rename_i t g2 hg2;split at h<;>(try cases h;done);rename_i f hf;split at h<;>(try cases h;done);rename_i hb;cases h;obtain⟨b,h1,h2⟩:=Dyn.comp_val hy;obtain⟨i,h3,h4⟩:=Dyn.map_val h1;subst h4;obtain⟨hsv,_⟩:=hs i h3;subst hsv;obtain⟨h5,c,h6,h7⟩:=P3 hcs hf hb h2;exact⟨.c c,by simp only[Bt,e];exact h6,c,rfl,h7⟩
theorem Wu(hr:Rep Γ ρ st)(hrd:∀id,msk.contains id=false→rd id=st.ob id){kd:Nat}{x:SO}{d:Dyn (HS Γ) Int}{n:Int}(h:MK G Γ msk kd x=some d)(hn:d.val ρ=some n):Cq rd kd (so G st.fr x)=some n:=by
 unfold MK at h;split at h
 ·rename_i d' hd;cases h;obtain⟨s,h1,h2⟩:=Dyn.map_val hn;obtain⟨c,e,hc⟩:=Bo hd hr h1;unfold Can at hc;cases hc;rw[e,h2];rfl
 ·rename_i t d' hd;cases h;obtain⟨s,h1,h2⟩:=Dyn.map_val hn;obtain⟨c,e,hc⟩:=Bo hd hr h1;unfold Can at hc;obtain⟨nl,es,e',hes⟩:=hc;cases e';rw[e,h2];simp[Cq,hes.length]
 ·rename_i d' hd;cases h;obtain⟨s,h1,h2⟩:=Dyn.map_val hn;obtain⟨c,e,hc⟩:=Bo hd hr h1;unfold Can at hc;cases hc;rw[e,h2];rfl
 ·rename_i id f hd;split at h<;>(try cases h;done);rename_i e' sz t xs hg;cases h;obtain⟨u,hu,hn⟩:=Dyn.map_val hn;subst hn;obtain⟨es,e,hes⟩:=El hg hr hrd;have hs:so G st.fr x=.osl id:=Bo hd hr hu;rw[hs];simp[Cq,e,hes.length]
 ·rename_i k v d' hd;cases h;obtain⟨s,h1,h2⟩:=Dyn.map_val hn;obtain⟨c,e,hc⟩:=Bo hd hr h1;unfold Can at hc;obtain⟨nl,ks,vs,e',hks,_⟩:=hc;cases e';rw[e,h2];simp[Cq,hks.length]
 ·rename_i id f hd;split at h<;>(try cases h;done);rename_i mt k v xs hg;cases h;obtain⟨u,hu,hn⟩:=Dyn.map_val hn;subst hn;obtain⟨z,ks,vs,e,_,hks,_⟩:=El hg hr hrd;have hs:so G st.fr x=.omap id:=Bo hd hr hu;rw[hs];simp[Cq,e,hks.length]
 ·cases h
theorem QM(hr:Rep Γ ρ st){key:SO}{kq:Σ t:Ty,Dyn (HS Γ) (D t)}(hkq:rdV Γ key=some kq){ok:Bool}{k v:Ty}{dm:Dyn (HS Γ) (List (D k×D v))}{q:Σ k:EK,Dyn (HS Γ) (DK k)}{y:DK q.1}(h:KA Γ kq ok k v dm=some q)(hy:q.2.val ρ=some y):
  ∃m ck,dm.val ρ=some m∧so G st.fr key=.c ck∧Ep k=true∧AN (ktT k) ck=true∧
    ∀{ks vs:List CV},Aq (fun x c=>Can k x.1 [c]) m ks→Aq (fun x c=>Can v x.2 [c]) m vs→∀{z:CV},Can v (BM v) [z]→∃c,(let(a,b):=AS (ktT k) z ks vs ck;some (if ok then CV.tup [a,.bool b]else a))=some c∧RS q.1 y (.c c):=by
 unfold KA at h;split at h<;>(try cases h;done);rename_i f hf;split at h<;>(try cases h;done);rename_i hp;split at h
 ·cases h;obtain⟨p,h1,h2⟩:∃p,(dm.both kq.2).val ρ=some p∧y=BK (eqZ k) (BM v) (f p.2) p.1:=Dyn.map_val (C:=D (.tup (.cons v (.one .bool)))) (B:=List (D k×D v)×D kq.1) (g:=fun _ p=>BK (eqZ k) (BM v) (f p.2) p.1) hy;obtain⟨h3,h4⟩:=Dyn.both_val h1;obtain⟨ck,h5,h6⟩:=AP (G:=G) hkq hr h4;have h7:=BU _ _ hf h6;refine⟨p.1,ck,h3,h5,hp,(Gu hp h7 h7).2,fun{ks vs} g1 g2 {z} g3=> ?_⟩;obtain⟨c,l1,l2⟩:=KB hp h7 g3 g1 g2;rw[l1];subst h2;refine⟨_,rfl,_,rfl, ?_⟩;unfold Can;refine⟨_,rfl, ?_⟩;unfold Can;refine⟨_,_,rfl,l2, ?_⟩;unfold Can;exact⟨_,rfl,by unfold Can;rfl⟩
 ·cases h;obtain⟨p,h1,h2⟩:∃p,(dm.both kq.2).val ρ=some p∧y=(BK (eqZ k) (BM v) (f p.2) p.1).1:=Dyn.map_val (C:=D v) (B:=List (D k×D v)×D kq.1) (g:=fun _ p=>(BK (eqZ k) (BM v) (f p.2) p.1).1) hy;obtain⟨h3,h4⟩:=Dyn.both_val h1;obtain⟨ck,h5,h6⟩:=AP (G:=G) hkq hr h4;have h7:=BU _ _ hf h6;refine⟨p.1,ck,h3,h5,hp,(Gu hp h7 h7).2,fun{ks vs} g1 g2 {z} g3=> ?_⟩;obtain⟨c,l1,l2⟩:=KB hp h7 g3 g1 g2;rw[l1];subst h2;exact⟨_,rfl,_,rfl,l2⟩
theorem W1(hr:Rep Γ ρ st)(hrd:∀id,msk.contains id=false→rd id=st.ob id){mt:TypeId}{kt:KT}{z:CV}{ok:Bool}{x key:SO}{q:Σ k:EK,Dyn (HS Γ) (DK k)}{y:DK q.1}(h:MS G Γ msk mt kt z ok x key=some q)(hy:q.2.val ρ=some y):
  ∃c,Dk rd mt kt z ok (so G st.fr x) (so G st.fr key)=some c∧RS q.1 y (.c c):=by
 unfold MS at h;split at h<;>(try cases h;done);rename_i kq hkq;split at h
 ·rename_i k v d hd;split at h<;>(try cases h;done);rename_i hz;obtain⟨m,ck,h1,h2,hp,h3,h4⟩:=QM (G:=G) hr hkq h hy;obtain⟨c,e,hc⟩:=Bo hd hr h1;unfold Can at hc;obtain⟨nl,ks,vs,e',hk,hv⟩:=hc;cases e';rw[e,h2];have hkt:=QC hz.2;subst hkt;obtain⟨c,g1,g2⟩:=h4 hk hv (Oe hz.1);refine⟨c, ?_,g2⟩;simp only[Dk,h3,Q7 hp hk,Bool.and_self,if_true];exact g1
 ·rename_i id f hd;split at h<;>(try cases h;done);rename_i mt' k v m' hg;split at h<;>(try cases h;done);rename_i hmt;subst hmt;obtain⟨m,ck,h1,h2,hp,h3,h4⟩:=QM (G:=G) hr hkq h hy;obtain⟨u,hu,h1⟩:=Dyn.map_val h1;subst h1;obtain⟨z',ks,vs,e,hz,hk,hv⟩:=El hg hr hrd;have hs:so G st.fr x=.omap id:=Bo hd hr hu;rw[hs,h2];obtain⟨c,g1,g2⟩:=h4 hk hv hz;refine⟨c, ?_,g2⟩;simp only[Dk,e,h3,and_self,if_true];exact g1
 ·cases h
end
section
variable {G:Nat→List CV} {Γ:TC} {msk:List Nat} {ρ:HS Γ} {st:St} {rd:Nat→Ob}
theorem VU{α β:Type}{R:α→β→Prop}{xs:List α}{es:List β}(h:Aq R xs es){n:Int}{a:α}(ha:lAt xs n=some a):∃b,Cf n es.length=some n.toNat∧es[n.toNat]? =some b∧R a b∧xs[n.toNat]? =some a:=by
 unfold lAt at ha;split at ha<;>(try cases ha;done);rename_i hn;obtain⟨b,h1,h2⟩:=h.get ha;refine⟨b, ?_,h1,h2,ha⟩;unfold Cf;rw[h.length,if_pos hn]
theorem MI{α:Type}{xs:List α}{n:Int}{a:α}(ha:lAt xs n=some a):0≤n∧n<xs.length∧xs[n.toNat]? =some a:=by
 unfold lAt at ha;split at ha<;>(try cases ha;done);rename_i hn;exact⟨hn.1,hn.2,ha⟩
theorem QD{α:Type}{xs ys:List α}{lo hi:Int}(h:AV xs lo hi=some ys):0≤lo∧lo≤hi∧hi≤xs.length∧ys=(xs.take hi.toNat).drop lo.toNat:=by
 unfold AV at h;split at h<;>(try cases h;done);rename_i hh;cases h;exact⟨hh.1,hh.2.1,hh.2.2,rfl⟩
theorem LT:∀{ns:List Int} {es:List CV},Aq (fun x c=>Can (.int .u8) x [c]) ns es→DZ es=some ns
 | [],es,h=>by unfold Aq at h;subst h;rfl
 |n::ns,es,h=>by
  obtain⟨c,es',rfl,h1,h2⟩:=h;unfold Can at h1;cases h1;simp[DZ,LT h2]
theorem Fk{x:SO}{q:Σ k:EK,Dyn (HS Γ) (DK k)}(h:(rdK G Γ x).map (DE Γ msk)=some q)(hr:Rep Γ ρ st)(hrd:∀id,msk.contains id=false→rd id=st.ob id){a:DK q.1}(ha:q.2.val ρ=some a)(hk:drK q.1=true):RS q.1 a (deref rd (so G st.fr x)):=by
 obtain⟨p,hp,rfl⟩:=Aa.1 h;exact Is hr hrd (fun x hx=>Bo hp hr hx) ha hk
theorem Kz{sz:Option Nat}{q q':Σ k:EK,Dyn (HS Γ) (DK k)}(h:EC Γ msk sz q=some q'):drK q.1=true:=by
 obtain⟨k,d⟩:=q
 cases k<;>first
  |rfl
  |(cases h;done)
  |(rename_i t;cases t<;>first|rfl|(cases h;done))
theorem SY(hr:Rep Γ ρ st)(hrd:∀id,msk.contains id=false→rd id=st.ob id){op:SOp}{q:Σ k:EK,Dyn (HS Γ) (DK k)}{y:DK q.1}(h:NZ G Γ msk op=some q)(hy:q.2.val ρ=some y):
  ∃sv,Ao rd (so G st.fr) op=some sv∧RS q.1 y sv:=by
 cases op<;>simp only[NZ]at h<;>(try cases h;done)
 case mov x=>exact⟨_,rfl,Bo h hr hy⟩
 case pick c a b=>
  split at h<;>(try cases h;done);rename_i dc qa qb hc ha hb
  have fin:∀{t:Ty} {f:D qa.1→D t} {g:D qb.1→D t},(∀{x:D qa.1} {cs:List CV},Can qa.1 x cs→Can t (f x) cs)→(∀{x:D qb.1} {cs:List CV},Can qb.1 x cs→Can t (g x) cs)→∀{z:D t},(IZ dc (qa.2.map fun _ y=>f y) (qb.2.map fun _ y=>g y)).val ρ=some z→
    ∃sv,Ao rd (so G st.fr) (.pick c a b)=some sv∧RS (.v t) z sv:=by
   intro t f g hf hg z hz;obtain⟨b',h1,h2⟩:=Xn hz;obtain⟨c1,h3,h4⟩:=AP (G:=G) hc hr h1;unfold Can at h4;cases h4;cases b'
   ·simp only[Ag,if_false]at h2;obtain⟨w,h5,h6⟩:=Dyn.map_val h2;obtain⟨c2,h7,h8⟩:=AP (G:=G) hb hr h5;exact⟨so G st.fr b,by simp[Ao,h3],c2,h7,h6▸hg h8⟩
   ·simp only[if_true]at h2;obtain⟨w,h5,h6⟩:=Dyn.map_val h2;obtain⟨c2,h7,h8⟩:=AP (G:=G) ha hr h5;exact⟨so G st.fr a,by simp[Ao,h3],c2,h7,h6▸hf h8⟩
  have idm:∀{t:Ty} (d:Dyn (HS Γ) (D t)),d.map (fun _ y=>y)=d:=by
   intro t d
   cases d with
   |tot f=>rfl
   |par f=>
    simp only[Dyn.map,Dyn.par.injEq];funext a;cases f a<;>rfl
  split at h
  ·rename_i g hg;cases h;try dsimp only at hy
   refine fin (f:=fun y=>y) (fun hx=>hx) (fun hx=>BU _ _ hg hx) ?_;rw[idm];exact hy
  ·split at h<;>(try cases h;done);rename_i g hg;cases h;try dsimp only at hy
   refine fin (g:=fun y=>y) (fun hx=>BU _ _ hg hx) (fun hx=>hx) ?_;rw[idm];exact hy
 case bin op x y'=>
  split at h<;>(try cases h;done);rename_i p q' hp hq;split at h<;>(try cases h;done);rename_i b hb;cases h;try dsimp only at hy
  obtain⟨z,h1,h2⟩:=Dyn.comp_val hy;obtain⟨h3,h4⟩:=Dyn.both_val h1;obtain⟨c1,e1,g1⟩:=AP (G:=G) hp hr h3;obtain⟨c2,e2,g2⟩:=AP (G:=G) hq hr h4;obtain⟨c,h5,h6⟩:=Tz hb g1 g2 h2;exact⟨.c c,by simp[Ao,e1,e2,h5],c,rfl,h6⟩
 case eqs neg ts x y'=>
  split at h<;>(try cases h;done);rename_i r d s e hd he;split at h<;>(try cases h;done);rename_i f hf
  split at h<;>
  ·cases h;try dsimp only at hy
   obtain⟨z,h1,h2⟩:=Dyn.map_val hy;obtain⟨h3,h4⟩:=Dyn.both_val h1;obtain⟨c1,e1,g1⟩:=AP (G:=G) hd hr h3;obtain⟨c2,e2,g2⟩:=AP (G:=G) he hr h4;unfold Can at g1 g2;obtain⟨l1,q1,g1⟩:=g1;obtain⟨l2,q2,g2⟩:=g2;cases q1;cases q2;have h5:=UW hf g1 g2;exact⟨.c (.bool y),by rw[h2];simp[Ao,e1,e2,eqA,h5],_,rfl,by unfold Can;rfl⟩
 case beq neg x y'=>
  split at h<;>(try cases h;done);rename_i d e hd he
  split at h<;>
  ·cases h;try dsimp only at hy
   obtain⟨z,h1,h2⟩:=Dyn.map_val hy;obtain⟨h3,h4⟩:=Dyn.both_val h1;obtain⟨c1,e1,g1⟩:=AP (G:=G) hd hr h3;obtain⟨c2,e2,g2⟩:=AP (G:=G) he hr h4;unfold Can at g1 g2;cases g1;cases g2;exact⟨.c (.bool y),by rw[h2];simp[Ao,e1,e2],_,rfl,by unfold Can;rfl⟩
 case isnil kd neg x=>
  split at h<;>(try cases h;done)
  ·rename_i d hd
   split at h<;>
   ·cases h;try dsimp only at hy
    obtain⟨z,h1,h2⟩:=Dyn.map_val hy;obtain⟨c1,e1,g1⟩:=AP (G:=G) hd hr h1;unfold Can at g1;cases g1;refine⟨.c (.bool y), ?_,_,rfl,by unfold Can;rfl⟩;rw[h2];cases z<;>simp[Ao,e1]
  ·rename_i d hd;cases h;try dsimp only at hy
   obtain⟨z,h1,h2⟩:=Dyn.map_val hy;obtain⟨c1,e1,g1⟩:=AP (G:=G) hd hr h1;unfold Can at g1;cases g1;refine⟨.c (.bool y), ?_,_,rfl,by unfold Can;rfl⟩;rw[h2];cases neg<;>simp[Ao,e1]
 case un op x=>
  split at h<;>(try cases h;done)
  all_goals
   rename_i d hd;cases h;try dsimp only at hy
   obtain⟨z,h1,h2⟩:=Dyn.map_val hy;obtain⟨c1,e1,g1⟩:=AP (G:=G) hd hr h1;unfold Can at g1;cases g1;subst h2;exact⟨_,by simp only[Ao,e1];rfl,_,rfl,by unfold Can;rfl⟩
 case cvi k x=>
  split at h<;>(try cases h;done);rename_i k' d hd;cases h;try dsimp only at hy
  obtain⟨z,h1,h2⟩:=Dyn.map_val hy;obtain⟨c1,e1,g1⟩:=AP (G:=G) hd hr h1;unfold Can at g1;cases g1;subst h2;exact⟨_,by simp only[Ao,e1];rfl,_,rfl,by unfold Can;rfl⟩
 case cvrune x=>
  split at h<;>(try cases h;done);rename_i k' d hd;cases h;try dsimp only at hy
  obtain⟨z,h1,h2⟩:=Dyn.map_val hy;obtain⟨c1,e1,g1⟩:=AP (G:=G) hd hr h1;unfold Can at g1;cases g1;subst h2;exact⟨_,by simp only[Ao,e1];rfl,_,rfl,by unfold Can;rfl⟩
 case bytes e x=>
  split at h<;>(try cases h;done);rename_i d hd;cases h;try dsimp only at hy
  obtain⟨s,h1,h2⟩:=Dyn.comp_val hy;obtain⟨c1,e1,g1⟩:=AP (G:=G) hd hr h1;unfold Can at g1;cases g1;simp only[Dyn.val]at h2;split at h2<;>(try cases h2;done);rename_i hl;cases h2;refine⟨_,by simp only[Ao,e1];rw[if_pos hl],_,rfl, ?_⟩;unfold Can;refine⟨_,_,rfl, ?_⟩;clear h1 e1 hl hy
  induction s with
  |nil=>rfl
  |cons b s ih=>exact⟨_,_,rfl,by unfold Can;rfl,ih⟩
 case cvbs x=>
  split at h<;>(try cases h;done)
  ·rename_i d hd;cases h;try dsimp only at hy
   obtain⟨ns,h1,h2⟩:=Dyn.map_val hy;obtain⟨c,e1,g1⟩:=Bo hd hr h1;unfold Can at g1;obtain⟨nl,es,e2,g1⟩:=g1;cases e2;exact⟨.c (.str y),by simp only[Ao,e1,LT g1,Option.map_some,h2],_,rfl,by unfold Can;rfl⟩
  ·rename_i d hd;cases h;try dsimp only at hy
   obtain⟨ns,h1,h2⟩:=Dyn.map_val hy;obtain⟨c,e1,g1⟩:=Bo hd hr h1;unfold Can at g1;cases g1;exact⟨.c (.str y),by rw[h2];simp[Ao,e1,DZ],_,rfl,by unfold Can;rfl⟩
  ·rename_i id d hd;split at h<;>(try cases h;done);rename_i e' sz xs hg;cases h;try dsimp only at hy
   obtain⟨u,h1,h2⟩:=Dyn.map_val hy;obtain⟨es,e,hes⟩:=El hg hr hrd;have hs:so G st.fr x=.osl id:=Bo hd hr h1;exact⟨.c (.str y),by simp only[Ao,hs,e,LT hes,Option.map_some,h2],_,rfl,by unfold Can;rfl⟩
 case cvid x=>
  split at h<;>(try cases h;done);rename_i d hd;cases h;try dsimp only at hy
  obtain⟨c1,e1,g1⟩:=AP (G:=G) hd hr hy;have g1':=g1;unfold Can at g1';cases g1';exact⟨_,by simp only[Ao,e1],_,rfl,g1⟩
 case build z AY=>
  split at h<;>(try cases h;done);rename_i p hp;split at h<;>(try cases h;done);rename_i r hr';cases h;try dsimp only at hy
  obtain⟨_,l,cs',h1,h2,h3⟩:=Xl (G:=G) hr hr' hy (cs:=z) (fun y hy'=>by cases hy';exact In hp);refine⟨.c (.agg cs'), ?_,_,rfl,by unfold Can;exact⟨_,rfl,h3⟩⟩;simp only[Ao];rw[h1];simp[h2]
 case field off sz x=>
  split at h<;>(try cases h;done);rename_i r d hd;split at h
  ·split at h<;>(try cases h;done);rename_i p hp;cases h;try dsimp only at hy
   obtain⟨z,h1,h2⟩:=Dyn.map_val hy;obtain⟨c1,e1,g1⟩:=AP (G:=G) hd hr h1;unfold Can at g1;obtain⟨l,e2,g1⟩:=g1;cases e2;obtain⟨c,h3,h4⟩:=H8 hp g1;exact⟨.c c,by simp[Ao,e1,Ck,h3],c,rfl,h2▸h4⟩
  ·rename_i n;split at h<;>(try cases h;done);rename_i p hp;split at h<;>(try cases h;done);rename_i hn;cases h;try dsimp only at hy
   obtain⟨z,h1,h2⟩:=Dyn.map_val hy;obtain⟨c1,e1,g1⟩:=AP (G:=G) hd hr h1;unfold Can at g1;obtain⟨l,e2,g1⟩:=g1;cases e2;obtain⟨h3,h4⟩:=SI hp g1;have hle:off+n≤l.length:=by omega
   exact⟨.c (.agg ((l.drop off).take n)),by simp[Ao,e1,Ck,hle],_,rfl,by unfold Can;exact⟨_,rfl,h2▸h3⟩⟩
 case ext x i=>
  split at h<;>(try cases h;done)
  ·rename_i r d hd;split at h<;>(try cases h;done);rename_i p hp;cases h;try dsimp only at hy
   obtain⟨z,h1,h2⟩:=Dyn.map_val hy;obtain⟨c1,e1,g1⟩:=Bo hd hr h1;unfold Can at g1;obtain⟨l,e2,g1⟩:=g1;cases e2;obtain⟨c,h3,h4⟩:=H8 hp g1;exact⟨.c c,by simp[Ao,e1,h3],c,rfl,h2▸h4⟩
  ·rename_i id k v d hd;split at h<;>(try cases h;done)
   ·cases h;try dsimp only at hy
    obtain⟨z,h1,h2⟩:=Dyn.map_val hy;obtain⟨ck,cv,e1,g1,g2⟩:=Bo hd hr h1;exact⟨.c cv,by simp[Ao,e1],cv,rfl,h2▸g2⟩
   ·cases h;try dsimp only at hy
    obtain⟨z,h1,h2⟩:=Dyn.map_val hy;obtain⟨ck,cv,e1,g1,g2⟩:=Bo hd hr h1;exact⟨.stamp id ck,by simp[Ao,e1],ck,rfl,h2▸g1⟩
 case minmax mx xs=>
  split at h<;>(try cases h;done);rename_i x xs;split at h<;>(try cases h;done);rename_i k d hd;split at h<;>(try cases h;done);rename_i e he;cases h;try dsimp only at hy
  obtain⟨a,l,h1,h2,h3⟩:=WC (G:=G) hr he hy;obtain⟨c1,e1,g1⟩:=AP (G:=G) hd hr h1;unfold Can at g1;cases g1;refine⟨_, ?_,_,rfl,by unfold Can;rfl⟩;have e:Ap (fun x=>closed (so G st.fr x)) (x::xs)=(closed (so G st.fr x)).bind fun b=>(Ap (fun x=>closed (so G st.fr x)) xs).map fun bs=>b::bs:=rfl;simp only[Ao];rw[e,e1,h2];simp only[closed,Option.bind_some,Option.map_some,h3]
 case fnv f caps=>
  split at h<;>(try cases h;done);rename_i p hp;cases h;try dsimp only at hy
  obtain⟨l,h1,h2⟩:=Ib (G:=G) hr hp hy;refine⟨.c (.fn f l), ?_,_,rfl,by unfold Can;exact⟨l,rfl,h2⟩⟩;simp only[Ao];rw[h1];rfl
 case faddr off x=>
  split at h<;>(try cases h;done)
  ·rename_i ex r d hd;split at h<;>(try cases h;done);rename_i p hp;cases h;try dsimp only at hy
   obtain⟨z,h1,h2⟩:=Dyn.map_val hy;obtain⟨cs,rest,e1,g1,g2⟩:=Fk hd hr hrd h1 rfl;obtain⟨g3,g4⟩:=JP hp g1;have hle:off≤cs.length:=by omega
   refine⟨_,by simp only[Ao,e1];rw[if_pos (by simp;omega)],cs.drop off,rest, ?_,h2▸g3,g2⟩;rw[List.drop_append_of_le_length hle]
  ·rename_i r d hd;split at h<;>(try cases h;done);rename_i p hp;cases h;try dsimp only at hy
   obtain⟨z,h1,h2⟩:=Dyn.map_val hy;obtain⟨c0,e1,hc0⟩:=Fk hd hr hrd h1 rfl;unfold Can at hc0;obtain⟨cs,e,g1⟩:=hc0;cases e;obtain⟨g3,g4⟩:=JP hp g1;have hle:off≤cs.length:=by omega
   refine⟨_,by simp only[Ao,e1];rw[if_pos hle],cs.drop off,[],by rw[List.append_nil],h2▸g3,fun _=>rfl⟩
  ·rename_i id o d hd;cases h;try dsimp only at hy
   have hs:deref rd (so G st.fr x)=.ptr id o:=Fk hd hr hrd hy rfl;exact⟨.ptr id (o+off),by simp[Ao,hs],rfl⟩
  ·rename_i id s o d hd;cases h;try dsimp only at hy
   have hs:deref rd (so G st.fr x)=.eptr id y s o:=Fk hd hr hrd hy rfl;exact⟨.eptr id y s (o+off),by simp[Ao,hs],rfl⟩
  ·rename_i id n o d hd;split at h<;>(try cases h;done);rename_i h0;cases h;try dsimp only at hy
   have hs:=Fk hd hr hrd hy rfl;obtain⟨hs1,hs2⟩:=hs;exact⟨.ptr id (o+y),by simp[Ao,hs1,h0],rfl,hs2⟩
 case iaddr size x i=>
  split at h<;>(try cases h;done)
  ·rename_i e d k di hd hdi;split at h<;>(try cases h;done);rename_i hv;cases h;try dsimp only at hy
   obtain⟨z,h1,h2⟩:=Dyn.comp_val hy;obtain⟨h3,h4⟩:=Dyn.both_val h1;obtain⟨a,h5,h6⟩:=Aa.1 h2;obtain⟨c1,e1,g1⟩:=Bo hd hr h3;obtain⟨c2,e2,g2⟩:=AP (G:=G) hdi hr h4;unfold Can at g1 g2;cases g2;obtain⟨nl,es,e3,g1⟩:=g1;cases e3;obtain⟨c,i1,i2,i3,_⟩:=VU g1 h5;obtain⟨n1,n2⟩:=GT hv.1 hv.2 i3;refine⟨.c (.rp c.cells), ?_,c.cells,[],by simp,h6▸FQ hv.1 i3,fun _=>rfl⟩;simp[Ao,Di,e1,e2,i1,i2,n2]
  ·rename_i id f k di hd hdi;split at h<;>(try cases h;done);rename_i e' sz t xs hg;split at h<;>(try cases h;done);rename_i hsz;cases h;try dsimp only at hy
   obtain⟨z,h1,h2⟩:=Dyn.comp_val hy;obtain⟨n,h3,h4⟩:=Dyn.map_val h1;obtain⟨u,n⟩:=n;obtain⟨h5,h6⟩:=Dyn.both_val h3;have h2':z=some y:=h2;subst h2';obtain⟨c2,e2,g2⟩:=AP (G:=G) hdi hr h6;unfold Can at g2;cases g2;obtain⟨es,e,hes⟩:=El hg hr hrd;have hs:so G st.fr x=.osl id:=Bo hd hr h5;split at h4<;>(try cases h4;done);rename_i hn;cases h4;refine⟨.eptr id n.toNat size 0, ?_,rfl⟩
   have hi:Cf n es.length=some n.toNat:=by
    unfold Cf;rw[hes.length,if_pos hn]
   simp[Ao,Di,hs,e2,e,hsz,hi]
 case aaddr len size x i=>
  split at h<;>(try cases h;done)
  case h_2=>
   rename_i id o d k di hd hdi;split at h<;>(try cases h;done);rename_i hsz;subst hsz;cases h;try dsimp only at hy
   obtain⟨z,h1,h2⟩:=Dyn.comp_val hy;obtain⟨h3,h4⟩:=Dyn.both_val h1;obtain⟨c2,e2,g2⟩:=AP (G:=G) hdi hr h4;unfold Can at g2;cases g2;have hs:so G st.fr x=.ptr id o:=Bo hd hr h3;have h2':(if 0≤(z.2:Int)∧(z.2:Int)<(len:Int)then some (z.2:Int).toNat else none)=some y:=h2;split at h2'<;>(try cases h2';done);rename_i hn;cases h2';refine⟨.ptr id (o+(z.2:Int).toNat), ?_,rfl,(Int.toNat_lt hn.1).2 hn.2⟩
   have hi:Cf z.2 len=some z.2.toNat:=by
    unfold Cf;rw[if_pos hn]
   simp[Ao,Dq,hs,e2,hi]
  rename_i r d k di hd hdi;split at h<;>(try cases h;done);rename_i p hp;split at h<;>(try cases h;done);rename_i f hf;split at h<;>(try cases h;done);rename_i hlen;cases h;try dsimp only at hy
  obtain⟨z,h1,h2⟩:=Dyn.comp_val hy;obtain⟨h3,h4⟩:=Dyn.both_val h1;obtain⟨cs,rest,e1,g1,g3⟩:=Bo hd hr h3;have hrest:=g3 rfl;subst hrest;obtain⟨c2,e2,g2⟩:=AP (G:=G) hdi hr h4;unfold Can at g2;cases g2;obtain⟨j1,j2,j3⟩:=MI h2;obtain⟨a1,a2⟩:=LO hf g1;obtain⟨a3,a4⟩:=a2 j3;have hl:=DN hlen g1;refine⟨.c (.rp ((cs++ []).drop (z.2.toNat*size))), ?_,(cs.drop (z.2.toNat*size)).take size,(cs.drop (z.2.toNat*size)).drop size, ?_,a3,fun hh=>by cases hh⟩
  ·have hi:Cf z.2 len=some z.2.toNat:=by
    unfold Cf;rw[if_pos ⟨j1,by rw[a1]at j2;exact j2⟩]
   simp[Ao,Dq,e1,e2,hl,hi]
  ·rw[List.append_nil,List.take_append_drop]
 case sidx x i=>
  split at h<;>(try cases h;done);rename_i d k di hd hdi;cases h;try dsimp only at hy
  obtain⟨z,h1,h2⟩:=Dyn.comp_val hy;obtain⟨h3,h4⟩:=Dyn.both_val h1;obtain⟨c1,e1,g1⟩:=AP (G:=G) hd hr h3;obtain⟨c2,e2,g2⟩:=AP (G:=G) hdi hr h4;unfold Can at g1 g2;cases g1;cases g2;have h2':sAt z.1 z.2=some y:=h2;unfold sAt at h2';split at h2'<;>(try cases h2';done);rename_i hn;obtain⟨b,h5,h6⟩:=Aa.1 h2';refine⟨.c (.int .u8 y), ?_,_,rfl,by unfold Can;rfl⟩
  have hi:Cf z.2 z.1.length=some z.2.toNat:=by
   unfold Cf;rw[if_pos hn]
  simp[Ao,e1,e2,hi,h5,h6]
 case aidx len size sz x i=>
  split at h<;>(try cases h;done);rename_i r d k di hd hdi;split at h
  ·split at h<;>(try cases h;done);rename_i p hp;split at h<;>(try cases h;done);rename_i p1 hp1;split at h<;>(try cases h;done);rename_i f hf;split at h<;>(try cases h;done);rename_i hlen;subst hlen;cases h;try dsimp only at hy
   obtain⟨z,h1,h2⟩:=Dyn.comp_val hy;obtain⟨h3,h4⟩:=Dyn.both_val h1;obtain⟨a,h5,h6⟩:=Aa.1 h2;obtain⟨c1,e1,g1⟩:=AP (G:=G) hd hr h3;obtain⟨c2,e2,g2⟩:=AP (G:=G) hdi hr h4;unfold Can at g1 g2;cases g2;obtain⟨l,e3,g1⟩:=g1;cases e3;obtain⟨j1,j2,j3⟩:=MI h5;obtain⟨a1,a2⟩:=LO hf g1;obtain⟨a3,a4⟩:=a2 j3;obtain⟨c,b1,b2⟩:=H8 hp1 a3;refine⟨.c c, ?_,c,rfl,h6▸b2⟩
   have hi:Cf z.2 len=some z.2.toNat:=by
    unfold Cf;rw[if_pos ⟨j1,by rw[a1]at j2;exact j2⟩]
   simp only[Nat.mul_one]at b1 a4
   have hc:l[z.2.toNat]? =some c:=by
    rw[List.getElem?_take_of_lt (by omega),List.getElem?_drop]at b1;simpa using b1
   simp[Ao,e1,e2,hi,Ck,hc]
  ·rename_i n;split at h<;>(try cases h;done);rename_i p hp;split at h<;>(try cases h;done);rename_i f hf;split at h<;>(try cases h;done);rename_i hlen;obtain⟨hlen,hpos⟩:=hlen;subst hlen;cases h;try dsimp only at hy
   obtain⟨z,h1,h2⟩:=Dyn.comp_val hy;obtain⟨h3,h4⟩:=Dyn.both_val h1;obtain⟨c1,e1,g1⟩:=AP (G:=G) hd hr h3;obtain⟨c2,e2,g2⟩:=AP (G:=G) hdi hr h4;unfold Can at g1 g2;cases g2;obtain⟨l,e3,g1⟩:=g1;cases e3;obtain⟨j1,j2,j3⟩:=MI h2;obtain⟨a1,a2⟩:=LO hf g1;obtain⟨a3,a4⟩:=a2 j3;refine⟨.c (.agg ((l.drop (z.2.toNat*n)).take n)), ?_,_,rfl,by unfold Can;exact⟨_,rfl,a3⟩⟩
   have hi:Cf z.2 len=some z.2.toNat:=by
    unfold Cf;rw[if_pos ⟨j1,by rw[a1]at j2;exact j2⟩]
   simp[Ao,e1,e2,hi,Ck,a4]
 case load sz x=>
  split at h<;>(try cases h;done);rename_i p hp;exact K0 hr hrd h hy fun x hx=>Is hr hrd (fun x hx=>Bo hp hr hx) hx (Kz h)
 case len kd x=>
  split at h<;>(try cases h;done);rename_i d hd;cases h;try dsimp only at hy
  exact⟨_,by simp only[Ao];rw[Wu hr hrd hd hy];rfl,_,rfl,by unfold Can;rfl⟩
 case sslice x lo hi=>
  split at h<;>(try cases h;done);rename_i d hd;split at h<;>(try cases h;done);rename_i e he;cases h;try dsimp only at hy
  obtain⟨p,h1,h2⟩:=Dyn.comp_val hy;obtain⟨h3,h4,h5⟩:=Pd (G:=G) hr he h1;obtain⟨c1,e1,g1⟩:=AP (G:=G) hd hr h3;unfold Can at g1;cases g1;obtain⟨l1,l2,l3,l4⟩:=QD h2;refine⟨.c (.str y), ?_,_,rfl,by unfold Can;rfl⟩;simp only[Ao,e1];rw[h4 _ rfl (by omega),Option.bind_some,h5 l1,Option.bind_some,if_pos (by omega),l4]
 case slice size x lo hi=>
  split at h<;>(try cases h;done);rename_i e d hd;split at h<;>(try cases h;done);rename_i hv;split at h<;>(try cases h;done);rename_i g hg;cases h;try dsimp only at hy
  obtain⟨p,h1,h2⟩:=Dyn.comp_val hy;obtain⟨h3,h4,h5⟩:=Pd (G:=G) hr hg h1;obtain⟨c1,e1,g1⟩:=AP (G:=G) hd hr h3;unfold Can at g1;obtain⟨nl,es,e3,g1⟩:=g1;cases e3;obtain⟨l1,l2,l3,l4⟩:=QD h2;have hlen:=g1.length;refine⟨.c (.sl nl ((es.take p.2.2.toNat).drop p.2.1.toNat)), ?_,_,rfl,by unfold Can;exact⟨_,_,rfl,by rw[l4];exact(g1.take _).drop _⟩⟩;simp only[Ao,e1]
  have hall:(es.all fun e=>BC e==size)=true:=by
   rw[List.all_eq_true];intro c hc;obtain⟨i,hi⟩:=List.getElem?_of_mem hc;obtain⟨a,_,h7⟩:=g1.getB hi;simp[(GT hv.1 hv.2 h7).2]
  rw[h4 _ (by rw[hlen]) (by omega),Option.bind_some,h5 l1,Option.bind_some,if_pos ⟨by omega,hall⟩]
 case lookup mt kt z ok x k=>
  obtain⟨c,h1,h2⟩:=W1 hr hrd h hy;exact⟨.c c,by simp only[Ao,h1,Option.map_some],h2⟩
 case asl n x=>
  split at h<;>(try cases h;done);rename_i r d hd;split at h<;>(try cases h;done);rename_i f hf;split at h<;>(try cases h;done);rename_i hlen;cases h;try dsimp only at hy
  obtain⟨z,h3,rfl⟩:=Dyn.map_val hy;obtain⟨cs,rest,e1,g1,g3⟩:=Bo hd hr h3;have hrest:=g3 rfl;subst hrest;rw[List.append_nil]at e1;have hl:=DN hlen g1;have hs:=SD hf g1;subst hs;refine⟨.c (.sl (some false) ((f z).map CV.str)), ?_,_,rfl,by unfold Can;exact⟨_,_,rfl,SG _⟩⟩;simp only[Ao,e1,SF,hl,and_self,if_true]
end
def EK.refs:EK→Option Nat
 | .ptr id _| .eptr id _ _| .aptr id _ _| .own id| .mp id| .iter id| .ent id _ _| .stamp id _=>some id
 | .opt k=>k.refs
 |_=>none
def BI:TC→Key→Option EK
 | [],_=>none
 |e::Γ,p=>if e.1=p then some e.2 else BI Γ p
theorem Bq:∀{Γ:TC} {p:Key} {q:Σ k:EK,HS Γ→DK k},get Γ p=some q→BI Γ p=some q.1
 | [],p,q,h=>by cases h
 |e::Γ,p,q,h=>by
  unfold get at h;unfold BI;split at h
  ·rename_i he;cases h;rw[if_pos he]
  ·rename_i he;rw[if_neg he];split at h<;>(try cases h;done);rename_i t ht;cases h;exact Bq ht
theorem Hr:∀{Γ:TC} {p:Key} {k:EK},BI Γ p=some k→∃f,get Γ p=some ⟨k,f⟩
 | [],p,k,h=>by cases h
 |e::Γ,p,k,h=>by
  unfold BI at h;unfold get;split at h
  ·rename_i he;cases h;rw[if_pos he];exact⟨_,rfl⟩
  ·rename_i he;rw[if_neg he];obtain⟨f,hf⟩:=Hr h;rw[hf];exact⟨_,rfl⟩
def Gr(Γ:TC)(ids:List Nat):List Key:=(Γ.map (·.1)).filter fun p=>match BI Γ p with
 |some k=>match k.refs with
  |some id=>ids.contains id
  |none=>false
 |none=>false
def shT:List Key→TC→TC
 | [],Γ=>Γ
 |k::ks,Γ=>(k,.undef)::shT ks Γ
def shP{Γ:TC}:(ks:List Key)→HS Γ→HS (shT ks Γ)
 | [],ρ=>ρ
 |_::ks,ρ=>((),shP ks ρ)
def goT:List Nat→TC→TC
 | [],Γ=>Γ
 |d::ds,Γ=>(.o d,.gone)::goT ds Γ
def goP{Γ:TC}:(ds:List Nat)→HS Γ→HS (goT ds Γ)
 | [],ρ=>ρ
 |_::ds,ρ=>((),goP ds ρ)
def Bx(ids:List Nat)(Γ:TC):TC:=goT ids (shT (Gr Γ ids) Γ)
def B8(ids:List Nat){Γ:TC}(ρ:HS Γ):HS (Bx ids Γ):=goP ids (shP (Gr Γ ids) ρ)
section
variable {Γ:TC} {ρ:HS Γ} {st:St}
theorem Hs(ρ:HS Γ):∀{ks:List Key} {p:Key} {q:Σ k:EK,HS (shT ks Γ)→DK k},get (shT ks Γ) p=some q→(p∈ks∧q.1=.undef)∨(p∉ks∧∃f,get Γ p=some ⟨q.1,f⟩∧q.2 (shP ks ρ)=f ρ)
 | [],p,q,h=>.inr ⟨by simp,q.2,h,rfl⟩
 |k::ks,p,q,h=>by
  by_cases hk:k=p
  ·subst hk;change get ((k,.undef)::shT ks Γ) k=some q at h;rw[C7]at h;cases h;exact .inl ⟨by simp,rfl⟩
  ·obtain⟨f,hf,hx⟩:=BW hk h;rcases Hs ρ hf with⟨h1,h2⟩|⟨h1,g,h2,h3⟩
   ·exact .inl ⟨by simp[h1],h2⟩
   ·refine .inr ⟨by simp[h1,Ne.symm hk],g,h2, ?_⟩;exact(hx _).trans h3
theorem Hq(ρ:HS Γ):∀{ds:List Nat} {p:Key} {q:Σ k:EK,HS (goT ds Γ)→DK k},get (goT ds Γ) p=some q→(∃d∈ds,p=.o d∧q.1=.gone)∨((∀d∈ds,p≠ .o d)∧∃f,get Γ p=some ⟨q.1,f⟩∧q.2 (goP ds ρ)=f ρ)
 | [],p,q,h=>.inr ⟨by simp,q.2,h,rfl⟩
 |d::ds,p,q,h=>by
  by_cases hk:Key.o d=p
  ·subst hk;change get ((.o d,.gone)::goT ds Γ) (.o d)=some q at h;rw[C7]at h;cases h;exact .inl ⟨d,by simp,rfl,rfl⟩
  ·obtain⟨f,hf,hx⟩:=BW hk h;rcases Hq ρ hf with⟨d',h0,h1,h2⟩|⟨h1,g,h2,h3⟩
   ·exact .inl ⟨d',by simp[h0],h1,h2⟩
   ·refine .inr ⟨fun d' hd'=> ?_,g,h2, ?_⟩
    ·simp only[List.mem_cons]at hd';rcases hd' with rfl|hd'
     ·exact Ne.symm hk
     ·exact h1 d' hd'
    ·exact(hx _).trans h3
theorem E7:∀{Γ:TC} {p:Key} {k:EK},BI Γ p=some k→p∈Γ.map (·.1)
 | [],p,k,h=>by cases h
 |e::Γ,p,k,h=>by
  unfold BI at h;split at h
  ·rename_i he;simp[←he]
  ·simp only[List.map_cons,List.mem_cons];exact .inr (E7 h)
theorem RS.kill{ids:List Nat}{k:EK}{x:DK k}{sv:SV}(h:RS k x sv)(hn:∀id,k.refs=some id→ids.contains id=false):RS k x (A4 ids sv):=by
 induction k
 case v t=>obtain⟨c,rfl,hc⟩:=h;exact⟨c,rfl,hc⟩
 case opt k ih=>
  unfold RS at h⊢
  cases x with
  |none=>simp only at h;subst h;rfl
  |some y=>exact ih h hn
 case rp ex r=>obtain⟨cs,rest,rfl,hc⟩:=h;exact⟨cs,rest,rfl,hc⟩
 case undef=>trivial
 case ptr id o=>have:=hn id rfl;unfold RS at h;subst h;simp[RS,A4];simpa using this
 case eptr id s o=>have:=hn id rfl;unfold RS at h;subst h;simp[RS,A4];simpa using this
 case aptr id n o=>have:=hn id rfl;obtain⟨h,hi⟩:=h;subst h;refine⟨?_,hi⟩;simp[A4];simpa using this
 case own id=>have:=hn id rfl;unfold RS at h;subst h;simp[RS,A4];simpa using this
 case mp id=>have:=hn id rfl;unfold RS at h;subst h;simp[RS,A4];simpa using this
 case iter id=>have:=hn id rfl;unfold RS at h;subst h;simp[RS,A4];simpa using this
 case ent id k v=>
  have:=hn id rfl;obtain⟨ck,cv,rfl,h1,h2⟩:=h;refine⟨ck,cv, ?_,h1,h2⟩;simp only[A4,this,Ag,if_false]
 case stamp id k=>
  have:=hn id rfl;obtain⟨ck,rfl,h1⟩:=h;refine⟨ck, ?_,h1⟩;simp only[A4,this,Ag,if_false]
 all_goals exact h
theorem W0(ids:List Nat){p:Key}{k:EK}{f:HS Γ→DK k}(hg:get Γ p=some ⟨k,f⟩)(hp:p∉Gr Γ ids):∀id,k.refs=some id→ids.contains id=false:=by
 intro id hid;have hk:=Bq hg
 cases hc:ids.contains id with
 |false=>rfl
 |true=>
  exfalso;apply hp;unfold Gr;rw[List.mem_filter];refine⟨E7 hk, ?_⟩;simp only at hk;simp only[hk,hid,hc]
theorem Rep.kill(h:Rep Γ ρ st)(ids:List Nat):Rep (Bx ids Γ) (B8 ids ρ) (WB.kill ids st):=by
 have AS:∀p q,(∀d,p≠ .o d)→get (Bx ids Γ) p=some q→q.1=.undef∨∃f,get Γ p=some ⟨q.1,f⟩∧q.2 (B8 ids ρ)=f ρ∧∀id,q.1.refs=some id→ids.contains id=false:=by
  intro p q hp hq;rcases Hq (shP (Gr Γ ids) ρ) hq with⟨d,_,h1,_⟩|⟨_,f,h2,h3⟩
  ·exact absurd h1 (hp d)
  ·rcases Hs ρ h2 with⟨_,h4⟩|⟨h4,g,h5,h6⟩
   ·exact .inl h4
   ·refine .inr ⟨g,h5, ?_,W0 ids h5 h4⟩;rw[←h6];exact h3
 have key:∀q:Σ k:EK,HS (Bx ids Γ)→DK k,q.1=.undef→∀sv,RS q.1 (q.2 (B8 ids ρ)) sv:=by
  intro q hq sv;obtain⟨k,f⟩:=q;simp only at hq;subst hq
  trivial
 refine⟨fun i q hq=> ?_,fun id q hq=> ?_⟩
 ·rcases AS _ q (by simp) hq with h1|⟨f,h1,h2,h3⟩
  ·exact key q h1 _
  ·rw[h2];exact RS.kill (h.s i _ h1) h3
 ·rcases Hq (shP (Gr Γ ids) ρ) hq with⟨d,hd,h1,h2⟩|⟨hnd,f,h2,h3⟩
  ·cases h1;obtain⟨k,f⟩:=q;simp only at h2;subst h2;have:ids.contains id=true:=by simpa using hd
   show(WB.kill ids st).ob id=.none;simp only[WB.kill,this,if_true]
  ·have hnc:ids.contains id=false:=by
    cases hc:ids.contains id with
    |false=>rfl
    |true=>exact absurd rfl (hnd id (by simpa using hc))
   rcases Hs ρ h2 with⟨_,h4⟩|⟨h4,g,h5,h6⟩
   ·obtain⟨k,f'⟩:=q;simp only at h4;subst h4
    trivial
   ·have hob:=h.o id _ h5;have e:q.2 (B8 ids ρ)=g ρ:=by rw[←h6];exact h3
    rw[e];have e2:(WB.kill ids st).ob id=Cg ids (st.ob id):=by simp only[WB.kill,hnc,Ag,if_false]
    rw[e2];obtain⟨k,f'⟩:=q;simp only at hob⊢;cases k<;>try exact hob
    ·obtain⟨cs,h7,h8,h9⟩:=hob;rw[h7];refine⟨cs.map (A4 ids),rfl,by simp[h8],fun j q' hj hq'=> ?_⟩;rcases AS _ q' (by simp) hq' with g1|⟨f2,g1,g2,g3⟩
     ·exact⟨A4 ids (cs[j]'(by omega)),by simp[Ai (show j<cs.length by omega)],key q' g1 _⟩
     ·obtain⟨sv,g4,g5⟩:=h9 j _ hj g1;exact⟨A4 ids sv,by simp[g4],g2▸RS.kill g5 g3⟩
    all_goals first
     |(obtain⟨es,h7,h8⟩:=hob;rw[h7];exact⟨es,rfl,h8⟩)
     |(obtain⟨z,ks,vs,h7,h8⟩:=hob;rw[h7];exact⟨z,ks,vs,rfl,h8⟩)
     |(unfold RO at hob;rw[hob];rfl)
def Dc(id:Nat)(Γ:TC)(ρ:HS Γ)(Γc:TC)(ρc:HS Γc):Prop:=∀p q,get Γc p=some q→(∃j,p=.c id j)∨∃f,get Γ p=some ⟨q.1,f⟩∧q.2 ρc=f ρ
theorem Dc.refl(id:Nat):Dc id Γ ρ Γ ρ:=fun p q h=>.inr ⟨q.2,h,rfl⟩
theorem Rep.newObj{Γc:TC}{ρc:HS Γc}{d:Nat}{k ko:EK}{x:DK k}{y:DK ko}{v:SV}{o:Ob}(h:Rep Γ ρ st)(hx:Dc d Γ ρ Γc ρc)(ho:RO Γc ρc d ko y o)(hs:RS k x v):
  Rep ((.s d,k)::(.o d,ko)::Γc) (x,y,ρc) {fr:=upd st.fr d v,ob:=upd st.ob d o}:=by
 have down:∀p q,p≠ .s d→p≠ .o d→get ((.s d,k)::(.o d,ko)::Γc) p=some q→∃f,get Γc p=some ⟨q.1,f⟩∧q.2 (x,y,ρc)=f ρc:=by
  intro p q h1 h2 hq;obtain⟨f,hf,e⟩:=BW (Ne.symm h1) hq;obtain⟨g,hg,e2⟩:=BW (Ne.symm h2) hf;exact⟨g,hg,(e _).trans (e2 _)⟩
 refine⟨fun i q hq=> ?_,fun id q hq=> ?_⟩
 ·by_cases hi:i=d
  ·subst hi;rw[C7]at hq;cases hq;simpa[upd]using hs
  ·obtain⟨f,hf,e⟩:=down _ q (by simpa using hi) (by simp) hq;rcases hx _ _ hf with⟨j,hj⟩|⟨g,hg,e2⟩
   ·cases hj
   ·have:=h.s i _ hg;simp only at e2;rw[e];simp only[upd,hi,if_false];rw[e2];exact this
 ·by_cases hi:id=d
  ·subst hi;obtain⟨f,hf,e⟩:=BW (by simp) hq;rw[C7]at hf;obtain⟨kq,fq⟩:=q;simp only[Ac,Sigma.mk.injEq]at hf;obtain⟨rfl,hf⟩:=hf;cases eq_of_heq hf;have e':=e (x,y,ρc);simp only at e';simp only[upd,if_true];rw[e'];exact RO.congr ho fun j q' hq'=>down _ q' (by simp) (by simp) hq'
  ·obtain⟨f,hf,e⟩:=down _ q (by simp) (by simpa using hi) hq;rcases hx _ _ hf with⟨j,hj⟩|⟨g,hg,e2⟩
   ·cases hj
   ·have:=h.o id _ hg;simp only at e2;rw[e];simp only[upd,hi,if_false];rw[e2];refine RO.congr this fun j q' hq'=> ?_;obtain⟨f',hf',e'⟩:=down _ q' (by simp) (by simp) hq';rcases hx _ _ hf' with⟨j',hj'⟩|⟨g',hg',e2'⟩
    ·cases hj';exact absurd rfl hi
    ·exact⟨g',hg',e'.trans e2'⟩
theorem Rep.turnObj{id:Nat}{k:EK}{y:DK k}{o:Ob}(h:Rep Γ ρ st)(ho:RO Γ ρ id k y o):Rep ((.o id,k)::Γ) (y,ρ) {st with ob:=upd st.ob id o}:=by
 have down:∀p q,p≠ .o id→get ((.o id,k)::Γ) p=some q→∃f,get Γ p=some ⟨q.1,f⟩∧q.2 (y,ρ)=f ρ:=by
  intro p q h1 hq;obtain⟨f,hf,e⟩:=BW (Ne.symm h1) hq;exact⟨f,hf,e _⟩
 refine⟨fun i q hq=> ?_,fun id' q hq=> ?_⟩
 ·obtain⟨f,hf,e⟩:=down _ q (by simp) hq;rw[e];exact h.s i _ hf
 ·by_cases hi:id'=id
  ·subst hi;rw[C7]at hq;cases hq;simp only[upd,if_true];exact RO.congr ho fun j q' hq'=>down _ q' (by simp) hq'
  ·obtain⟨f,hf,e⟩:=down _ q (by simpa using hi) hq;have:=h.o id' _ hf;rw[e];simp only[upd,hi,if_false];exact RO.congr this fun j q' hq'=>down _ q' (by simp) hq'
theorem Rep.turnCells{Γc:TC}{ρc:HS Γc}{id n:Nat}{f:HS Γ→DK (.box n)}{cs:List SV}(h:Rep Γ ρ st)(hx:Dc id Γ ρ Γc ρc)(hg:get Γ (.o id)=some ⟨.box n,f⟩)(hl:cs.length=n)
  (hc:∀j q,j<n→get Γc (.c id j)=some q→∃sv,cs[j]? =some sv∧RS q.1 (q.2 ρc) sv):Rep Γc ρc {st with ob:=upd st.ob id (.box cs)}:=by
 refine⟨fun i q hq=> ?_,fun id' q hq=> ?_⟩
 ·rcases hx _ _ hq with⟨j,hj⟩|⟨g,hg',e2⟩
  ·cases hj
  ·rw[e2];exact h.s i _ hg'
 ·rcases hx _ _ hq with⟨j,hj⟩|⟨g,hg',e2⟩
  ·cases hj
  ·by_cases hi:id'=id
   ·subst hi;rw[hg]at hg';simp only[upd,if_true];obtain⟨k,f'⟩:=q;simp only[Ac,Sigma.mk.injEq]at hg';obtain⟨rfl,_⟩:=hg';exact⟨cs,rfl,hl,hc⟩
   ·have:=h.o id' _ hg';rw[e2];simp only[upd,hi,if_false];refine RO.congr this fun j q' hq'=> ?_;rcases hx _ _ hq' with⟨j',hj'⟩|⟨g',hg2,e3⟩
    ·cases hj';exact absurd rfl hi
    ·exact⟨g',hg2,e3⟩
end
def En:Ty→Bool
 | .agg _| .tup _| .nil| .one _| .cons _ _| .nw _ _ _=>false
 | .falt _ _ l=>l.isFn
 |_=>true
theorem FM{t:Ty}{x:D t}{c:CV}(ho:En t=true)(h:Can t x [c]):C8 c=true:=by
 cases t<;>simp only[En,Ag]at ho<;>unfold Can at h
 case clo=>obtain⟨l,e,_⟩:=h;cases e;rfl
 case falt f r l=>
  obtain⟨c',e,_,hc'⟩:=Kq (t:=.falt f r l) ho (by unfold Can;exact h);cases e;cases c<;>first|rfl|(exact absurd rfl (hc' _).1)|(exact absurd rfl (hc' _).2)
 case sl=>obtain⟨_,_,e,_⟩:=h;cases e;rfl
 case map=>obtain⟨_,_,_,e,_⟩:=h;cases e;rfl
 case err=>cases x<;>(cases h;rfl)
 case pt=>obtain⟨l,e,_⟩:=h;cases e;rfl
 case bptr=>rcases h with e|e|e<;>(cases e;rfl)
 all_goals(cases h;rfl)
def FL:Ty→Bool
 | .nil=>true
 | .one t=>En t
 | .cons t r=>En t&&FL r
 |_=>false
theorem Nn:∀{r:Ty} {x:D r} {l:List CV},FL r=true→Can r x l→l.all C8=true:=by
 intro r
 induction r with
 |nil=>intro x l _ h;unfold Can at h;subst h;rfl
 |one t _=>intro x l ho h;unfold Can at h;obtain⟨c,rfl,h⟩:=h;simp[FM ho h]
 |cons t r _ ihr=>
  intro x l ho h;simp only[FL,Af]at ho;unfold Can at h;obtain⟨c,l',rfl,h1,h2⟩:=h;simp only[List.all_cons,Af];exact⟨FM ho.1 h1,ihr ho.2 h2⟩
 |_=>intro x l ho;cases ho
def Fi(id:Nat):(off:Nat)→(r:Ty)→(Γ:TC)→Option (Σ Γ':TC,HS Γ→D r→HS Γ')
 |_,.nil,Γ=>some ⟨Γ,fun ρ _=>ρ⟩
 |off,.one t,Γ=>some ⟨(.c id off,.v t)::Γ,fun ρ x=>(x,ρ)⟩
 |off,.cons t r,Γ=>match Fi id (off+1) r Γ with
  |some p=>some ⟨(.c id off,.v t)::p.1,fun ρ x=>(x.1,p.2 ρ x.2)⟩
  |none=>none
 |_,_,_=>none
theorem KZ{id:Nat}:∀{r:Ty} {off:Nat} {Γ:TC} {p:Σ Γ':TC,HS Γ→D r→HS Γ'} {ρ:HS Γ} {x:D r} {l:List CV},Fi id off r Γ=some p→Can r x l→
  Dc id Γ ρ p.1 (p.2 ρ x)∧∀j q,get p.1 (.c id j)=some q→(off≤j∧∃c,l[j-off]? =some c∧RS q.1 (q.2 (p.2 ρ x)) (.c c))∨((j<off∨off+l.length≤j)∧∃f,get Γ (.c id j)=some ⟨q.1,f⟩∧q.2 (p.2 ρ x)=f ρ):=by
 intro r
 induction r with
 |nil=>
  intro off Γ p ρ x l h hc;simp only[Fi,Ac]at h;subst h;unfold Can at hc;subst hc;refine⟨Dc.refl id,fun j q hq=>.inr ⟨by simp;omega,q.2,hq,rfl⟩⟩
 |one t _=>
  intro off Γ p ρ x l h hc;simp only[Fi,Ac]at h;subst h;unfold Can at hc;obtain⟨c,rfl,hc⟩:=hc;refine⟨fun p q hq=> ?_,fun j q hq=> ?_⟩
  ·by_cases hp:Key.c id off=p
   ·exact .inl ⟨off,hp.symm⟩
   ·obtain⟨f,hf,e⟩:=BW hp hq;exact .inr ⟨f,hf,e _⟩
  ·by_cases hj:j=off
   ·subst hj;rw[C7]at hq;cases hq;exact .inl ⟨Nat.le_refl _,c,by simp,c,rfl,hc⟩
   ·obtain⟨f,hf,e⟩:=BW (by simpa using Ne.symm hj) hq;exact .inr ⟨by simp;omega,f,hf,e _⟩
 |cons t r _ ihr=>
  intro off Γ p ρ x l h hc;simp only[Fi]at h;split at h<;>(try cases h;done);rename_i p' hp';cases h;unfold Can at hc;obtain⟨c,l',rfl,h1,h2⟩:=hc;obtain⟨g1,g2⟩:=ihr (ρ:=ρ) hp' h2;refine⟨fun p q hq=> ?_,fun j q hq=> ?_⟩
  ·by_cases hp:Key.c id off=p
   ·exact .inl ⟨off,hp.symm⟩
   ·obtain⟨f,hf,e⟩:=BW hp hq;rcases g1 _ _ hf with hh|⟨f',hf',e'⟩
    ·exact .inl hh
    ·exact .inr ⟨f',hf',(e _).trans e'⟩
  ·by_cases hj:j=off
   ·subst hj;rw[C7]at hq;cases hq;exact .inl ⟨Nat.le_refl _,c,by simp,c,rfl,h1⟩
   ·obtain⟨f,hf,e⟩:=BW (by simpa using Ne.symm hj) hq;rcases g2 j _ hf with⟨k1,c',k2,k3⟩|⟨k1,f',k2,k3⟩
    ·refine .inl ⟨by omega,c', ?_,(e _)▸k3⟩;have:j-off=(j-(off+1))+1:=by omega
     rw[this];simpa using k2
    ·exact .inr ⟨by simp;omega,f',k2,(e _).trans k3⟩
 |_=>intro off Γ p ρ x l h;cases h
def Gm:(k k':EK)→Option (DK k→DK k')
 | .v t,.v t'=>Be t t'
 |k,k'=>if h:k=k' then some fun x=>h▸x else none
theorem P1{k k':EK}{f:DK k→DK k'}(h:(if h:k=k' then some (fun x=>h▸x:DK k→DK k')else none)=some f):∃e:k=k',∀x,f x=e▸x:=by
 split at h<;>(try cases h;done);rename_i e;subst e;cases h;exact⟨rfl,fun _=>rfl⟩
theorem P2{k k':EK}{f:DK k→DK k'}(h:Gm k k'=some f){x:DK k}{sv:SV}(hs:RS k x sv):RS k' (f x) sv:=by
 unfold Gm at h;split at h
 ·obtain⟨c,e,hc⟩:=hs;exact⟨c,e,BU _ _ h hc⟩
 ·obtain⟨e,hf⟩:=P1 h;subst e;rw[hf];exact hs
theorem Um{k k':EK}{f:DK k→DK k'}(h:Gm k k'=some f){Γ Γ':TC}{ρ:HS Γ}{ρ':HS Γ'}{id:Nat}{x:DK k}{ob:Ob}(ho:RO Γ ρ id k x ob)
  (hc:∀j q,get Γ' (.c id j)=some q→∃p g,get Γ (.c id j)=some p∧Gm p.1 q.1=some g∧q.2 ρ'=g (p.2 ρ)):RO Γ' ρ' id k' (f x) ob:=by
 unfold Gm at h;split at h
 ·exact ho.elim
 ·obtain⟨e,hf⟩:=P1 h;subst e;rw[hf];cases k<;>try exact ho
  obtain⟨cs,e,hl,hh⟩:=ho;refine⟨cs,e,hl,fun j q hj hq=> ?_⟩;obtain⟨p,g,h1,h2,h3⟩:=hc j q hq;obtain⟨sv,h4,h5⟩:=hh j p hj h1;exact⟨sv,h4,h3▸P2 h2 h5⟩
def Cn(Γ:TC):(Γ':TC)→Option (HS Γ→HS Γ')
 | []=>some fun _=>()
 |e::Γ'=>match get Γ e.1,Cn Γ Γ' with
  |some q,some f=>match Gm q.1 e.2 with
   |some g=>some fun ρ=>(g (q.2 ρ),f ρ)
   |none=>none
  |_,_=>none
theorem JE{Γ:TC}{ρ:HS Γ}:∀{Γ':TC} {f:HS Γ→HS Γ'},Cn Γ Γ'=some f→∀p q,get Γ' p=some q→∃r g,get Γ p=some r∧Gm r.1 q.1=some g∧q.2 (f ρ)=g (r.2 ρ)
 | [],f,h,p,q,hq=>by cases hq
 |e::Γ',f,h,p,q,hq=>by
  simp only[Cn]at h;split at h<;>(try cases h;done);rename_i r f' hr hf';split at h<;>(try cases h;done);rename_i g hg;cases h;obtain⟨key,k⟩:=e;by_cases hk:key=p
  ·subst hk;rw[C7]at hq;cases hq;exact⟨r,g,hr,hg,rfl⟩
  ·obtain⟨f2,h2,h3⟩:=BW hk hq;obtain⟨r2,g2,h4,h5,h6⟩:=JE (ρ:=ρ) hf' p _ h2;exact⟨r2,g2,h4,h5,(h3 _).trans h6⟩
theorem Dr{Γ Γ':TC}{ρ:HS Γ}{st:St}{f:HS Γ→HS Γ'}(h:Cn Γ Γ'=some f)(hr:Rep Γ ρ st):Rep Γ' (f ρ) st:=by
 refine⟨fun i q hq=> ?_,fun id q hq=> ?_⟩
 ·obtain⟨r,g,h1,h2,h3⟩:=JE (ρ:=ρ) h _ q hq;rw[h3];exact P2 h2 (hr.s i r h1)
 ·obtain⟨r,g,h1,h2,h3⟩:=JE (ρ:=ρ) h _ q hq;rw[h3];exact Um h2 (hr.o id r h1) fun j q' hq'=>JE (ρ:=ρ) h _ q' hq'
def Cc:(Θ:TC)→{Γ:TC}→HS Θ→HS Γ→HS (Θ++Γ)
 | [],_,_,ρ=>ρ
 |_::Θ,_,θ,ρ=>(θ.1,Cc Θ θ.2 ρ)
theorem CM{Γ:TC}:∀{Θ:TC} {p:Key} {q:Σ k:EK,HS (Θ++Γ)→DK k},get (Θ++Γ) p=some q→
  (p∈Θ.map (·.1)∧∃f,get Θ p=some ⟨q.1,f⟩∧∀θ ρ,q.2 (Cc Θ θ ρ)=f θ)∨(p∉Θ.map (·.1)∧∃f,get Γ p=some ⟨q.1,f⟩∧∀θ ρ,q.2 (Cc Θ θ ρ)=f ρ)
 | [],p,q,h=>.inr ⟨by simp,q.2,h,fun _ _=>rfl⟩
 |(k0,e0)::Θ,p,q,h=>by
  by_cases hk:k0=p
  ·subst hk;change get ((k0,e0)::(Θ++Γ)) k0=some q at h;rw[C7]at h;cases h;exact .inl ⟨by simp,_,C7 Θ k0 e0,fun _ _=>rfl⟩
  ·obtain⟨f,hf,hx⟩:=BW (Γ:=Θ++Γ) hk h;rcases CM hf with⟨h1,g,hg,e⟩|⟨h1,g,hg,e⟩
   ·refine .inl ⟨by simp[h1],fun θ=>g θ.2, ?_,fun θ ρ=>(hx _).trans (e θ.2 ρ)⟩;unfold get;rw[if_neg hk,hg]
   ·exact .inr ⟨by simp[h1,Ne.symm hk],g,hg,fun θ ρ=>(hx _).trans (e θ.2 ρ)⟩
def AJ:TC→List Nat
 | []=> []
 |(.o id,_)::Θ=>id::AJ Θ
 |_::Θ=>AJ Θ
theorem Fh:∀{Θ:TC} {id:Nat},id∈AJ Θ↔Key.o id∈Θ.map (·.1)
 | [],id=>by simp[AJ]
 |(.o i,k)::Θ,id=>by simp[AJ,Fh (Θ:=Θ)]
 |(.s i,k)::Θ,id=>by simp[AJ,Fh (Θ:=Θ)]
 |(.c i j,k)::Θ,id=>by simp[AJ,Fh (Θ:=Θ)]
def Ty.names(T:Nat→Bool):Ty→Bool
 | .nam M| .bptr M=>T M
 | .agg r| .tup r| .pt r| .clo _ r| .sl r| .one r=>r.names T
 | .falt _ r l=>r.names T&&l.names T
 | .map k v=>k.names T&&v.names T
 | .cons t r=>t.names T&&r.names T
 | .nw _ _ t=>t.names T
 |_=>true
theorem FK{T:Nat→Bool}{c:CV}:noNamL T [c]=Bh T c:=by simp[noNamL]
theorem WF{T:Nat→Bool}:∀{t:Ty} (x:D t),t.names T=true→noNamL T (AI t x)=true:=by
 have hd:∀{l:List CV},noNamL T l=true→Bh T (l.headD .nilif)=true:=fun{l} h=>by
  cases l with
  |nil=>rfl
  |cons c l=>simp only[noNamL,Af]at h;exact h.1
 have hm:∀{α:Type} {f:α→List CV} {l:List α},(∀x∈l,noNamL T (f x)=true)→noNamL T (l.map fun x=>(f x).headD .nilif)=true:=fun{α f l} h=>by
  induction l with
  |nil=>rfl
  |cons x l ih=>
   simp only[List.map_cons,noNamL,Af];exact⟨hd (h x (by simp)),ih fun y hy=>h y (by simp[hy])⟩
 intro t
 induction t with
 |nam M=>intro x h;simpa[AI,noNamL,Bh,Ty.names]using h
 |bptr M=>intro x h;simpa[AI,noNamL,Bh,Ty.names]using h
 |agg r ih=>intro x h;simp only[AI,FK,Bh];exact ih x h
 |tup r ih=>intro x h;simp only[AI,FK,Bh];exact ih x h
 |pt r ih=>intro x h;simp only[AI,FK,Bh];exact ih x h
 |clo f r ih=>intro x h;simp only[AI,FK,Bh];exact ih x h
 |falt f r l ih ihl=>
  intro x h;simp only[Ty.names,Af]at h
  cases x with
  |inl y=>simp only[AI,FK,Bh];exact ih y h.1
  |inr y=>simp only[AI];exact ihl y h.2
 |sl e ih=>intro x h;simp only[AI,FK,Bh];exact hm fun y _=>ih y h
 |map k v ihk ihv=>
  intro x h;simp only[Ty.names,Af]at h;simp only[AI,FK,Bh,Af];exact⟨hm (f:=fun(y:D k×D v)=>AI k y.1) fun y _=>ihk y.1 h.1,hm (f:=fun(y:D k×D v)=>AI v y.2) fun y _=>ihv y.2 h.2⟩
 |one t ih=>intro x h;simp only[AI,FK];exact hd (ih x h)
 |cons t r iht ihr=>
  intro x h;simp only[Ty.names,Af]at h;simp only[AI,noNamL,Af];exact⟨hd (iht x.1 h.1),ihr x.2 h.2⟩
 |nw e s t _=>intro x h;rfl
 |err=>intro x _;cases x<;>rfl
 |_=>intro x _;rfl
theorem Ng{T:Nat→Bool}{t:Ty}(x:D t)(h:t.names T=true):Bh T (enc t x)=true:=by
 have:=WF x h;unfold enc
 cases he:AI t x with
 |nil=>rfl
 |cons c l=>rw[he]at this;simp only[noNamL,Af]at this;exact this.1
def okC(T:Nat→Bool)(Θ:TC):EK→Bool
 | .v t=>t.val&&t.ok&&t.names T
 | .own K=>T K&&(match BI Θ (.o K)with
  |some (.arr _ _ _)|some (.buf _)=>true
  |_=>false)
 |_=>false
def okE(T:Nat→Bool)(Θ:TC):Key×EK→Bool
 |(.o id,.box n)=>T id&&(List.range n).all fun j=>match BI Θ (.c id j)with
  |some k=>okC T Θ k
  |none=>false
 |(.o id,.arr _ _ t)=>T id&&t.val&&t.ok&&t.names T
 |(.o id,.buf _)=>T id
 |(.c id j,_)=>match BI Θ (.o id)with
  |some (.box n)=>Nat.blt j n
  |_=>false
 |_=>false
def Kw:TC→Bool
 | []=>true
 |e::Θ=> !(Θ.map (·.1)).contains e.1&&Kw Θ
def okΘ(Θ:TC):Bool:=Kw Θ&&Θ.all (okE (AJ Θ).contains Θ)
theorem Ok:∀{Θ:TC} {θ θ':HS Θ},Kw Θ=true→(∀p k (f:HS Θ→DK k),get Θ p=some ⟨k,f⟩→f θ=f θ')→θ=θ'
 | [],_,_,_,_=>rfl
 |(p,k)::Θ,θ,θ',hk,h=>by
  simp only[Kw,Af,Bool.not_eq_true']at hk;have h1:θ.1=θ'.1:=h p k (fun ρ=>ρ.1) (C7 Θ p k)
  have h2:θ.2=θ'.2:=Ok (Θ:=Θ) hk.2 fun p' k' f hf=>by
   have hne:p≠p':=fun e=>by
    have:=E7 (Bq hf);rw[←e]at this;have h3:=hk.1;simp only[List.contains_eq_mem,decide_eq_false_iff_not]at h3;exact h3 this
   exact h p' k' (fun ρ=>f ρ.2) (by unfold get;rw[if_neg hne,hf])
  exact Prod.ext h1 h2
theorem BP{Θ:TC}{pr:Key×EK→Bool}(h:Θ.all pr=true){p:Key}{k:EK}(hk:BI Θ p=some k):pr (p,k)=true:=by
 induction Θ with
 |nil=>cases hk
 |cons e Θ ih=>
  simp only[List.all_cons,Af]at h;unfold BI at hk;split at hk
  ·rename_i he;cases hk;rw[←he];exact h.1
  ·exact ih h.2 hk
theorem Rep.uniq{Θ:TC}{θ θ':HS Θ}{st st':St}(ho:okΘ Θ=true)(hob:st.ob=st'.ob)(h:Rep Θ θ st)(h':Rep Θ θ' st'):θ=θ':=by
 simp only[okΘ,Af]at ho;refine Ok ho.1 fun p k f hg=> ?_;have hok:=BP ho.2 (Bq hg)
 cases p with
 |s i=>cases k<;>cases hok
 |o id=>
  have r:=h.o id _ hg;have r':=h'.o id _ hg;rw[←hob]at r';cases k<;>(try cases hok;done)
  case box n=>rfl
  case arr e size t=>
   obtain⟨es,e1,c1⟩:=r;obtain⟨es',e2,c2⟩:=r';rw[e1]at e2;cases e2;exact Aq.uniq (R:=fun x c=>Can t x [c]) (fun a a' b h k=>Can.uniq t h k) c1 c2
  case buf e=>
   have r1:st.ob id=.buf e (f θ):=r;have r2:st.ob id=.buf e (f θ'):=r';rw[r1]at r2;exact(Ob.buf.inj r2).2
 |c id j=>
  have hok':(match BI Θ (.o id)with
   |some (.box n)=>Nat.blt j n
   |_=>false)=true:=hok
  split at hok'<;>(try cases hok';done);rename_i n hn;have hj:j<n:=Nat.lt_of_succ_le (Ah hok');obtain⟨fo,hfo⟩:=Hr hn;obtain⟨cs,e1,_,c1⟩:=h.o id _ hfo;obtain⟨cs',e2,_,c2⟩:=h'.o id _ hfo;rw[←hob,e1]at e2;cases e2;obtain⟨sv,g1,g2⟩:=c1 j _ hj hg;obtain⟨sv',g3,g4⟩:=c2 j _ hj hg;rw[g1]at g3;cases g3;have hbox:=BP ho.2 hn;simp only[okE,Af,List.all_eq_true,List.mem_range]at hbox;have hc:=hbox.2 j hj;rw[Bq hg]at hc;cases k<;>(try cases hc;done)
  case v t=>
   obtain⟨c,d1,d2⟩:=g2;obtain⟨c',d3,d4⟩:=g4;rw[d1]at d3;cases d3;exact Can.uniq t d2 d4
  case own K=>rfl
def Hi(Θ:TC)(θ:HS Θ)(id j:Nat):SV:=
 match get Θ (.c id j)with
 |some ⟨.v t,f⟩=>.c (enc t (f θ))
 |some ⟨.own K,_⟩=>.osl K
 |_=>.undef
def Bl(Θ:TC)(θ:HS Θ)(id:Nat):Ob:=
 match get Θ (.o id)with
 |some ⟨.box n,_⟩=>.box ((List.range n).map (Hi Θ θ id))
 |some ⟨.arr e size t,f⟩=>.arr e size ((f θ).map (enc t))
 |some ⟨.buf e,f⟩=>.buf e (f θ)
 |_=>.none
theorem PT{t:Ty}(hv:t.val=true)(ho:t.ok=true):∀(ys:List (D t)),Aq (fun x c=>Can t x [c]) ys (ys.map (enc t))
 | []=>rfl
 |y::ys=>⟨_,_,rfl,Can.enc y hv ho,PT hv ho ys⟩
theorem UT{Θ:TC}(ho:okΘ Θ=true)(θ:HS Θ)(fr:Nat→SV):Rep Θ θ {fr:=fr,ob:=Bl Θ θ}:=by
 simp only[okΘ,Af]at ho;refine⟨fun i q hq=> ?_,fun id q hq=> ?_⟩
 ·have:=BP ho.2 (Bq hq);obtain⟨k,f⟩:=q;cases k<;>cases this
 ·have hok:=BP ho.2 (Bq hq);obtain⟨k,f⟩:=q;show RO Θ θ id k (f θ) (Bl Θ θ id);unfold Bl;rw[hq];cases k<;>(try cases hok;done)
  case box n=>
   refine⟨_,rfl,by simp,fun j q' hj hq'=> ?_⟩;simp only[okE,Af,List.all_eq_true,List.mem_range]at hok;have hc:=hok.2 j hj;rw[Bq hq']at hc;refine⟨Hi Θ θ id j,by simp[hj], ?_⟩;unfold Hi;rw[hq'];obtain⟨k',f'⟩:=q';cases k'<;>(try cases hc;done)
   case v t=>
    simp only[okC,Af]at hc;exact⟨_,rfl,Can.enc _ hc.1.1 hc.1.2⟩
   case own K=>rfl
  case arr e size t=>
   simp only[okE,Af]at hok;exact⟨_,rfl,PT hok.1.1.2 hok.1.2 _⟩
  case buf e=>rfl
theorem PS{Θ:TC}{θ:HS Θ}{id:Nat}(h:Bl Θ θ id≠ .none):(AJ Θ).contains id=true:=by
 unfold Bl at h
 cases hg:get Θ (.o id)with
 |none=>rw[hg]at h;exact absurd rfl h
 |some q=>
  have:=Fh.2 (E7 (Bq hg));simpa using this
theorem Rep.turned{Γ Θ:TC}{ρ:HS Γ}{θ:HS Θ}{st:St}{H':Nat→Ob}{fr:Nat→SV}(ho:okΘ Θ=true)(h:Rep Γ ρ st)(hΘ:Rep Θ θ {fr:=fr,ob:=H'}):Rep (Θ++Bx (AJ Θ) Γ) (Cc Θ θ (B8 (AJ Θ) ρ)) (Ch (AJ Θ) H' st):=by
 simp only[okΘ,Af]at ho;have hk:=h.kill (AJ Θ);refine⟨fun i q hq=> ?_,fun id q hq=> ?_⟩
 ·rcases CM hq with⟨h1,f,hf,_⟩|⟨_,f,hf,e⟩
  ·have:=BP ho.2 (Bq hf);obtain⟨k,fq⟩:=q;cases k<;>cases this
  ·rw[e];exact hk.s i _ hf
 ·rcases CM hq with⟨h1,f,hf,e⟩|⟨h1,f,hf,e⟩
  ·have hid:(AJ Θ).contains id=true:=by simpa using Fh.2 h1
   have r:=hΘ.o id _ hf;have hok:=BP ho.2 (Bq hf);rw[e];show RO _ _ id q.1 (f θ) (if(AJ Θ).contains id=true then H' id else _);rw[if_pos hid];obtain⟨k,fq⟩:=q;cases k<;>(try cases hok;done)
   case box n=>
    obtain⟨cs,e1,hl,hc⟩:=r;refine⟨cs,e1,hl,fun j q' hj hq'=> ?_⟩;simp only[okE,Af,List.all_eq_true,List.mem_range]at hok;have hcj:=hok.2 j hj
    cases hkc:BI Θ (.c id j)with
    |none=>rw[hkc]at hcj;cases hcj
    |some kc=>
     rcases CM hq' with⟨_,f',hf',e'⟩|⟨h1',_⟩
     ·rw[e'];exact hc j _ hj hf'
     ·exact absurd (E7 hkc) h1'
   all_goals exact r
  ·have hid:¬(AJ Θ).contains id=true:=fun hh=>h1 (Fh.1 (by simpa using hh));have r:=hk.o id _ hf;have hob:(WB.kill (AJ Θ) st).ob id=Cg (AJ Θ) (st.ob id):=by show(if _ then _ else _)=_;rw[if_neg hid]
   rw[hob]at r;rw[e];show RO _ _ id q.1 (f _) (if(AJ Θ).contains id=true then H' id else Cg (AJ Θ) (st.ob id));rw[if_neg hid];refine RO.congr r fun j q' hq'=> ?_;rcases CM hq' with⟨h1',f',hf',_⟩|⟨_,f',hf',e'⟩
   ·exfalso;have hok:=BP ho.2 (Bq hf')
    have hok':(match BI Θ (.o id)with
     |some (.box n)=>Nat.blt j n
     |_=>false)=true:=hok
    split at hok'<;>(try cases hok';done);rename_i n hn;exact hid (by simpa using Fh.2 (E7 hn))
   ·exact⟨f',hf',e' _ _⟩
theorem Rep.unturned{Γ Θ:TC}{ρ:HS Γ}{θ:HS Θ}{st:St}(ho:okΘ Θ=true)(h:Rep Γ ρ st)(hΘ:Rep Θ θ st):Rep (Θ++Bx (AJ Θ) Γ) (Cc Θ θ (B8 (AJ Θ) ρ)) st:=by
 simp only[okΘ,Af]at ho
 have down:∀p q,p∉Θ.map (·.1)→get (Bx (AJ Θ) Γ) p=some q→q.1=.undef∨∃f,get Γ p=some ⟨q.1,f⟩∧q.2 (B8 (AJ Θ) ρ)=f ρ:=by
  intro p q hp hq;rcases Hq (shP (Gr Γ (AJ Θ)) ρ) hq with⟨d,hd,h1,_⟩|⟨_,f,hf,e⟩
  ·exact absurd (h1▸Fh.1 hd) hp
  ·rcases Hs ρ hf with⟨_,h2⟩|⟨_,g,hg,e2⟩
   ·exact .inl h2
   ·exact .inr ⟨g,hg,e.trans e2⟩
 refine⟨fun i q hq=> ?_,fun id q hq=> ?_⟩
 ·rcases CM hq with⟨h1,f,hf,e⟩|⟨h1,f,hf,e⟩
  ·rw[e];exact hΘ.s i _ hf
  ·rcases down _ _ h1 hf with h2|⟨g,hg,e2⟩
   ·obtain⟨k,fq⟩:=q;simp only at h2;subst h2
    trivial
   ·have e3:=(e θ (B8 (AJ Θ) ρ)).trans e2;rw[e3];exact h.s i _ hg
 ·rcases CM hq with⟨h1,f,hf,e⟩|⟨h1,f,hf,e⟩
  ·have r:=hΘ.o id _ hf;have hok:=BP ho.2 (Bq hf);rw[e];obtain⟨k,fq⟩:=q;cases k<;>(try cases hok;done)
   case box n=>
    obtain⟨cs,e1,hl,hc⟩:=r;refine⟨cs,e1,hl,fun j q' hj hq'=> ?_⟩;simp only[okE,Af,List.all_eq_true,List.mem_range]at hok;have hcj:=hok.2 j hj
    cases hkc:BI Θ (.c id j)with
    |none=>rw[hkc]at hcj;cases hcj
    |some kc=>
     rcases CM hq' with⟨_,f',hf',e'⟩|⟨h1',_⟩
     ·rw[e'];exact hc j _ hj hf'
     ·exact absurd (E7 hkc) h1'
   all_goals exact r
  ·rcases down _ _ h1 hf with h2|⟨g,hg,e2⟩
   ·obtain⟨k,fq⟩:=q;simp only at h2;subst h2
    trivial
   ·have r:=h.o id _ hg;have e3:=(e θ (B8 (AJ Θ) ρ)).trans e2;rw[e3];obtain⟨k,fq⟩:=q;cases k<;>try exact r
    obtain⟨cs,q1,q2,q3⟩:=r;refine⟨cs,q1,q2,fun j q' hj hq'=> ?_⟩;rcases CM hq' with⟨h1',f',hf',_⟩|⟨h1',f',hf',e'⟩
    ·exfalso;have hok:=BP ho.2 (Bq hf')
     have hok':(match BI Θ (.o id)with
      |some (.box n)=>Nat.blt j n
      |_=>false)=true:=hok
     split at hok'<;>(try cases hok';done);rename_i n' hn;exact h1 (E7 hn)
    ·rcases down _ _ h1' hf' with h2|⟨g',hg',e2'⟩
     ·obtain⟨k',fq'⟩:=q';simp only at h2;subst h2;have:j<cs.length:=by omega
      exact⟨cs[j],by simp[this],trivial⟩
     ·obtain⟨sv,q4,q5⟩:=q3 j _ hj hg';have e3':=(e' θ (B8 (AJ Θ) ρ)).trans e2';rw[e3'];exact⟨sv,q4,q5⟩
structure Sig where
 a:Ty
 r:Ty
 fn:D a→Option (D r)
structure Bv where
 Θ:TC
 a:Ty
 r:Ty
 fn:D a→HS Θ→Option (D r×HS Θ)
def Ej:Option TC→D6
 |none=>.no
 |some Θ=>⟨fun N=>(AJ Θ).contains N=true,fun N=>(AJ Θ).contains N=true⟩
def Ky:Option TC→Nat→Bool
 |none,_=>false
 |some Θ,id=>(AJ Θ).contains id
theorem Wv{o:Option TC}{id:Nat}(h:Ky o id=false):¬(Ej o).I id:=by
 cases o with
 |none=>exact fun h=>h
 |some Θ=>intro h2;have h1:(AJ Θ).contains id=false:=h;have h3:(AJ Θ).contains id=true:=h2;rw[h1]at h3;cases h3
structure TP where
 G:Nat→List CV
 T:FuncId→Option Sig
 TT:Nat→Option Ty
 TM:Nat→Option (Ty×Ty)
 cp:FuncId→Bool:=fun _=>false
 TN:FuncId→Option Sig:=fun _=>none
 TE:FuncId→Option Bv:=fun _=>none
 Θ:Option TC:=none
structure TOk (X:TP) (E:Env):Prop where
 G:E.G=X.G
 cp:E.cp=X.cp
 fn:∀f s,X.T f=some s→s.r.val=true∧s.r.ok=true∧∀x l y,Can s.a x l→s.fn x=some y→E.fn f l=some (.val (enc s.r y))
 ef:∀f,(X.T f).isSome=true∨(X.TN f).isSome=true→E.ef f=none
 nw:∀f a e size t fn,X.TN f=some ⟨a,.nw e size t,fn⟩→t.val=true∧∀x l ys,Can a x l→fn x=some ys→∃es,E.fn f l=some (.new (.arr e size es))∧Aq (fun x c=>Can t x [c]) ys es
def BN(X:TP)(E:Env):Prop:=∀f s,X.TE f=some s→(s.r.val=true∧((AJ s.Θ).all fun N=>Nat.ble At N)=true)∧s.r.ok=true∧∃e,E.ef f=some e∧e.T=AJ s.Θ∧
 ∀x l θ H y θ',Can s.a x l→Rep s.Θ θ {fr:=fun _=>.undef,ob:=H}→s.fn x θ=some (y,θ')→e.fn l H=some (enc s.r y,Bl s.Θ θ')
def TP.noE(X:TP):TP:={X with TE:=fun _=>none}
theorem TOk.noE{X:TP}{E:Env}(h:TOk X E):TOk X.noE E:=⟨h.G,h.cp,h.fn,h.ef,h.nw⟩
theorem BN.noE(X:TP)(E:Env):BN X.noE E:=fun _ _ h=>by cases h
theorem TOk.named{X:TP}{E:Env}(h:TOk X E):TOk X E.named:=⟨h.G,h.cp,fun f s hs=>by
 obtain⟨h1,h2,h3⟩:=h.fn f s hs;refine⟨h1,h2,fun x l y hx hy=> ?_⟩
 show(match E.fn f l with
  |some (Res.new o)=>if Dx o=true then some (Res.new o)else none
  |r=>r)=_
 rw[h3 x l y hx hy],fun f hf=>by
 show(match E.ef f with
  |some e=>if(e.T.all fun N=>Nat.ble At N)=true then some e else none
  |none=>none)=none
 rw[h.ef f hf],fun f a e size t fn hs=>by
 obtain⟨h1,h2⟩:=h.nw f a e size t fn hs;refine⟨h1,fun x l ys hx hy=> ?_⟩;obtain⟨es,h3,h4⟩:=h2 x l ys hx hy;refine⟨es, ?_,h4⟩
 show(match E.fn f l with
  |some (Res.new o)=>if Dx o=true then some (Res.new o)else none
  |r=>r)=_
 rw[h3]
 rfl⟩
theorem BN.named{X:TP}{E:Env}(h:BN X E):BN X E.named:=fun f s hs=>by
 obtain⟨h1,h2,e,h3,h4,h5⟩:=h f s hs;refine⟨h1,h2,e, ?_,h4,h5⟩
 show(match E.ef f with
  |some e=>if(e.T.all fun N=>Nat.ble At N)=true then some e else none
  |none=>none)=_
 rw[h3];simp only;rw[h4,if_pos h1.2]
def Env.pois(E:Env):Env:={E with ef:=fun f=>(E.ef f).map fun e=>⟨e.T,fun _ _=>none⟩}
theorem TOk.pois{X:TP}{E:Env}(h:TOk X E):TOk X E.pois:=⟨h.G,h.cp,h.fn,fun f hf=>by
 show(E.ef f).map _=none
 rw[h.ef f hf];rfl,h.nw⟩
theorem TOk.at{X:TP}{E:Env}(h:TOk X E)(D:Option (List Nat)):TOk X (E.at D):=⟨by rw[Fx];exact h.G,by rw[Tu];exact h.cp,by rw[Pc];exact h.fn,fun f hf=>Tv (h.ef f hf),by rw[Pc];exact h.nw⟩
def mlT:Ty→Bool
 | .int _| .bool| .str=>true
 | .agg r| .tup r=>mlT r
 | .nil=>true
 | .one t=>mlT t
 | .cons t r=>mlT t&&mlT r
 |_=>false
theorem QX:∀{t:Ty} {x:D t} {cs:List CV},mlT t=true→Can t x cs→BZ cs=true:=by
 intro t
 induction t with
 |int k=>intro x cs _ h;unfold Can at h;subst h;rfl
 |bool=>intro x cs _ h;unfold Can at h;subst h;rfl
 |str=>intro x cs _ h;unfold Can at h;subst h;rfl
 |nil=>intro x cs _ h;unfold Can at h;subst h;rfl
 |agg r ih=>intro x cs hm h;unfold Can at h;obtain⟨l,rfl,h⟩:=h;simp[BZ,memless,ih hm h]
 |tup r ih=>intro x cs hm h;unfold Can at h;obtain⟨l,rfl,h⟩:=h;simp[BZ,memless,ih hm h]
 |one t ih=>intro x cs hm h;unfold Can at h;obtain⟨c,rfl,h⟩:=h;exact ih hm h
 |cons t r iht ihr=>
  intro x cs hm h;simp only[mlT,Af]at hm;unfold Can at h;obtain⟨c,l,rfl,h1,h2⟩:=h;have:=iht hm.1 h1;simp only[BZ,Bool.and_true]at this;simp[BZ,this,ihr hm.2 h2]
 |_=>intro x cs hm;cases hm
def B2:(r s:Ty)→Σ q:Ty,D r→D s→D q
 | .one t,.nil=>⟨.one t,fun x _=>x⟩
 | .one t,s=>⟨.cons t s,fun x y=>(x,y)⟩
 | .cons t r,s=>⟨.cons t (B2 r s).1,fun x y=>(x.1,(B2 r s).2 x.2 y)⟩
 |_,s=>⟨s,fun _ y=>y⟩
theorem GP:∀{r s:Ty} {n:Nat} {x:D r} {y:D s} {l m:List CV},Bb r=some n→Can r x l→Can s y m→Can (B2 r s).1 ((B2 r s).2 x y) (l++m):=by
 intro r
 induction r with
 |nil=>intro s n x y l m _ h k;unfold Can at h;subst h;exact k
 |one t _=>
  intro s n x y l m _ h k;unfold Can at h;obtain⟨c,rfl,h⟩:=h;cases s
  case nil=>
   unfold Can at k;subst k;change Can (.one t) x [c];unfold Can;exact⟨c,rfl,h⟩
  all_goals
   change Can (.cons t _) (x,y) (c::m);unfold Can;exact⟨c,m,rfl,h,k⟩
 |cons t r _ ihr=>
  intro s n x y l m hn h k;simp only[Bb,Aa]at hn;obtain⟨n',hn,_⟩:=hn;unfold Can at h;obtain⟨c,l',rfl,h1,h2⟩:=h;change Can (.cons t (B2 r s).1) (x.1,(B2 r s).2 x.2 y) (c::(l'++m));unfold Can;exact⟨c,l'++m,rfl,h1,ihr hn h2 k⟩
 |_=>intro s n x y l m hn;cases hn
def Na{V:Type}(m y:List (List UInt8×V)):Option (List (List UInt8×V)):=
 if m.isEmpty=true∧(y.all fun p=>decide (p.1.length≤9223372036854775807))=true∧y.length≤9223372036854775807 then some y else none
structure OpD (Γ:TC):Type 1 where
 Γ':TC
 B:Type
 d:Dyn (HS Γ) B
 up:HS Γ→B→HS Γ'
section
variable (X:TP) (Γ:TC) (msk:List Nat)
def rdC:SO→Option (Bool×Σ t:Ty,Dyn (HS Γ) (D t))
 | .t i=>match get Γ (.s i)with
  |some ⟨.v t,f⟩=>some (true,⟨t,.tot f⟩)
  |some ⟨.opt (.v t),f⟩=>some (true,⟨t,.par f⟩)
  |some ⟨.own id,_⟩=>match D1 Γ msk id with
   |some ⟨.arr _ _ t,xs⟩=>some (false,⟨.sl t,.tot xs⟩)
   |_=>none
  |some ⟨.mp id,_⟩=>match D1 Γ msk id with
   |some ⟨.mob _ k v,xs⟩=>some (false,⟨.map k v,.tot xs⟩)
   |_=>none
  |_=>none
 | .k c=>match Bz c with
  |some q=>some (true,⟨q.1,.tot fun _=>q.2⟩)
  |none=>none
 | .g _=>none
def EQ:List SO→Option (Bool×Σ r:Ty,Dyn (HS Γ) (D r))
 | []=>some (true,⟨.nil,.tot fun _=>()⟩)
 | [x]=>match rdC Γ msk x with
  |some q=>some (q.1,⟨.one q.2.1,q.2.2⟩)
  |none=>none
 |x::y::xs=>match rdC Γ msk x,EQ (y::xs)with
  |some q,some p=>some (q.1&&p.1,⟨.cons q.2.1 p.2.1,q.2.2.both p.2.2⟩)
  |_,_=>none
def GR(a Rt:Ty)(fl:Bool):(t:Ty)→Option (D t→D a→Option (D Rt))
 | .nfn=>some fun _ _=>none
 | .clo g r=>match X.T g with
  |some s=>match Be (B2 a r).1 s.a,Be s.r Rt with
   |some h,some k=>if(fl||mlT s.r)=true then some fun x y=>(s.fn (h ((B2 a r).2 y x))).map k else none
   |_,_=>none
  |none=>none
 | .falt g r l=>match X.T g with
  |some s=>match Be (B2 a r).1 s.a,Be s.r Rt,GR a Rt fl l with
   |some h,some k,some F=>if(fl||mlT s.r)=true then some fun x y=>match x with
     | .inl c=>(s.fn (h ((B2 a r).2 y c))).map k
     | .inr z=>F z y
    else none
   |_,_,_=>none
  |none=>none
 |_=>none
def J4:SOp→Option (Σ k:EK,Dyn (HS Γ) (DK k))
 | .call f args=>match X.T f with
  |some s=>match EQ Γ msk args with
   |some q=>match Be q.2.1 s.a with
    |some g=>if(q.1||mlT s.r)=true then some ⟨.v s.r,(q.2.2.map fun _ x=>g x).comp (.par s.fn)⟩else none
    |none=>none
   |none=>none
  |none=>none
 | .callv f args=>match rdV Γ f with
  |some ⟨.clo g r,d⟩=>match X.T g with
   |some s=>match EQ Γ msk args with
    |some q=>match Bb q.2.1,Be (B2 q.2.1 r).1 s.a with
     |some _,some h=>if(q.1||mlT s.r)=true then some ⟨.v s.r,((q.2.2.both d).map fun _ x=>h ((B2 q.2.1 r).2 x.1 x.2)).comp (.par s.fn)⟩else none
     |_,_=>none
    |none=>none
   |none=>none
  |some ⟨.falt g r l,d⟩=>match X.T g with
   |some s=>match EQ Γ msk args with
    |some q=>match Bb q.2.1,GR X q.2.1 s.r q.1 (.falt g r l)with
     |some _,some F=>some ⟨.v s.r,(q.2.2.both d).comp (.par fun x=>F x.2 x.1)⟩
     |_,_=>none
    |none=>none
   |none=>none
  |_=>none
 |_=>none
def IH(t:Ty):List SO→Option (Dyn (HS Γ) (List (D t)))
 | []=>some (.tot fun _=> [])
 |x::xs=>match rdV Γ x,IH t xs with
  |some q,some e=>match Be q.1 t with
   |some g=>some ((q.2.both e).map fun _ p=>g p.1::p.2)
   |none=>none
  |_,_=>none
def FN(d:Nat):SOp→Option (OpD Γ)
 | .alloc z=>match EU z with
  |some q=>match Fi d 0 q.1 Γ with
   |some p=>some ⟨(.s d,.ptr d 0)::(.o d,.box z.length)::p.1,Unit,.tot fun _=>(),fun ρ _=>((),(),p.2 ρ q.2)⟩
   |none=>none
  |none=>none
 | .box x=>match rdV Γ x with
  |some ⟨.agg r,e⟩=>match Bb r,Fi d 0 r Γ with
   |some n,some p=>some ⟨(.s d,.ptr d 0)::(.o d,.box n)::p.1,D r,e,fun ρ y=>((),(),p.2 ρ y)⟩
   |_,_=>none
  |some ⟨t,e⟩=>if En t=true then some ⟨(.s d,.ptr d 0)::(.o d,.box 1)::(.c d 0,.v t)::Γ,D t,e,fun ρ y=>((),(),y,ρ)⟩else none
  |none=>none
 | .mksl e size AY=>match X.TT e with
  |some t=>match IH Γ t AY with
   |some l=>if t.val=true∧Bb (Cb t)=some size then some ⟨(.s d,.own d)::(.o d,.arr e size t)::Γ,List (D t),l,fun ρ y=>((),y,ρ)⟩else none
   |none=>none
  |none=>none
 | .mkmap mt kt z=>match X.TM mt with
  |some (k,v)=>if BA v [z]=true∧ktB kt k=true∧Ep k=true then some ⟨(.s d,.mp d)::(.o d,.mob mt k v)::Γ,Unit,.tot fun _=>(),fun ρ _=>((),[],ρ)⟩else none
  |none=>none
 | .make e size bytes z x y=>match X.TT e,rdV Γ x,rdV Γ y with
  |some t,some ⟨.int _,dx⟩,some ⟨.int _,dy⟩=>if BA t [z]=true then some ⟨(.s d,.own d)::(.o d,.arr e size t)::Γ,List (D t),(dx.both dy).comp (.par fun p=>if 0≤p.1∧p.1≤p.2∧p.2*(bytes:Int)≤140737488355328∧p.2≤4611686018427387904 then some (List.replicate p.1.toNat (BM t))else none),fun ρ y=>((),y,ρ)⟩else none
  |_,_,_=>none
 | .siter x=>match rdV Γ x with
  |some ⟨.str,e⟩=>some ⟨(.s d,.iter d)::(.o d,.sit)::Γ,List UInt8,e,fun ρ y=>((),(y,0),ρ)⟩
  |_=>none
 |_=>none
def KJ(t:Ty)(x:SO):Option (Dyn (HS Γ) (List (D t))):=
 match rdC Γ [] x with
 |some (_,⟨u,e⟩)=>match Be u (.sl t)with
  |some g=>some (e.map fun _ y=>g y)
  |none=>none
 |none=>none
def HB(t:Ty)(o n:Nat)(u:Ty):Option (D t→D u→D t):=
 match t with
 | .agg r=>match Bb (Cb u),Ja (Cb u) r o with
  |some m,some q=>if h:q.1=r then if m=n∧u.val=true then some fun x y=>h▸q.2 x (Fl u y)else none else none
  |_,_=>none
 |t=>if n=1∧o=0∧En u=true then match Be u t with
   |some g=>some fun _ y=>g y
   |none=>none
  else none
def Ji(id:Nat)(t:Ty)(o:Nat):(n j:Nat)→Option (Σ Γ':TC,HS Γ→Nat→D t→HS Γ')
 |0,_=>some ⟨Γ,fun ρ _ _=>ρ⟩
 |n+1,j=>match get Γ (.c id (o+j)),Ji id t o n (j+1)with
  |some ⟨.v u,f⟩,some p=>if h:u=t then some ⟨(.c id (o+j),.v t)::p.1,fun ρ i y=>(if i=j then y else(h▸f ρ:D t),p.2 ρ i y)⟩else none
  |_,_=>none
def G8(d:Option Nat):SOp→Option (OpD Γ)
 | .store n a x=>match (rdK X.G Γ a).map (DE Γ [])with
  |some ⟨.ptr id o,.tot _⟩=>match get Γ (.o id)with
   |some ⟨.box nb,_⟩=>match rdK X.G Γ x with
    |some ⟨.v (.agg r),e⟩=>match Bb r,Fi id o r Γ with
     |some m,some p=>if m=n∧o+n≤nb∧FL r=true then some ⟨p.1,D r,e,fun ρ y=>p.2 ρ y⟩else none
     |_,_=>none
    |some ⟨.v t,e⟩=>if n=1∧o<nb∧En t=true then some ⟨(.c id o,.v t)::Γ,D t,e,fun ρ y=>(y,ρ)⟩else none
    |some ⟨.own i,.tot _⟩=>if n=1∧o<nb then some ⟨(.c id o,.own i)::Γ,Unit,.tot fun _=>(),fun ρ _=>((),ρ)⟩else none
    |some ⟨.mp i,.tot _⟩=>if n=1∧o<nb then some ⟨(.c id o,.mp i)::Γ,Unit,.tot fun _=>(),fun ρ _=>((),ρ)⟩else none
    |_=>none
   |_=>none
  |some ⟨.aptr id len o,di⟩=>match get Γ (.o id)with
   |some ⟨.box nb,_⟩=>match rdV Γ x with
    |some ⟨t,e⟩=>match Ji Γ id t o len 0 with
     |some p=>if n=1∧o+len≤nb∧En t=true then some ⟨p.1,Nat×D t,di.both e,fun ρ z=>p.2 ρ z.1 z.2⟩else none
     |none=>none
    |none=>none
   |_=>none
  |some ⟨.eptr id size o,di⟩=>match get Γ (.o id)with
   |some ⟨.arr e sz t,xs⟩=>match rdV Γ x with
    |some ⟨u,dx⟩=>match HB t o n u with
     |some g=>if size=sz∧0<n∧t.val=true∧Bb (Cb t)=some sz∧FL (Cb u)=true then some ⟨(.o id,.arr e sz t)::Γ,List (D t),((di.both dx).map fun ρ p=>((xs ρ)[p.1]?).map fun el=>(xs ρ).set p.1 (g el p.2)).comp (.par fun y=>y),fun ρ y=>(y,ρ)⟩else none
     |none=>none
    |none=>none
   |_=>none
  |some ⟨.v (.pt (.one .bool)),da⟩=>match rdV Γ x with
   |some ⟨.bool,dx⟩=>if n=1 then some ⟨Γ,Unit,(da.both dx).comp (.par fun p=>if(show Bool from p.1)=(show Bool from p.2)then some ()else none),fun ρ _=>ρ⟩else none
   |_=>none
  |_=>none
 | .append e size bytes x y=>match rdK X.G Γ x with
  |some ⟨.own id,.tot _⟩=>match get Γ (.o id)with
   |some ⟨.arr e' size' t,xs⟩=>match KJ Γ t y,d with
    |some l,some d=>if e'=e∧size'=size∧t.val=true∧Bb (Cb t)=some size∧FL (Cb t)=true then some ⟨(.s d,.own id)::(.o id,.arr e size t)::Bx [id] Γ,List (D t),(l.map fun ρ ys=>if(((xs ρ).length:Int)+(ys.length:Int))*(bytes:Int)≤140737488355328∧((xs ρ).length:Int)+(ys.length:Int)≤4611686018427387904 then some (xs ρ++ys)else none).comp (.par fun y=>y),fun ρ y=>((),y,B8 [id] ρ)⟩else none
    |_,_=>none
   |_=>none
  |some ⟨.v .nsl,.tot _⟩=>match X.TT e with
   |some t=>match KJ Γ t y,d with
    |some l,some d=>if t.val=true∧Bb (Cb t)=some size∧FL (Cb t)=true then some ⟨(.s d,.own d)::(.o d,.arr e size t)::Bx [d] Γ,List (D t),l.comp (.par fun ys=>if(ys.length:Int)*(bytes:Int)≤140737488355328∧(ys.length:Int)≤4611686018427387904 then some ys else none),fun ρ y=>((),y,B8 [d] ρ)⟩else none
    |_,_=>none
   |none=>none
  |_=>none
 | .mapent mt x k=>match rdK X.G Γ x,rdV Γ k,d with
  |some ⟨.mp id,.tot _⟩,some q,some d=>match get Γ (.o id)with
   |some ⟨.mob mt' kt vt,m⟩=>match Be q.1 kt with
    |some g=>if mt'=mt∧Ep kt=true then some ⟨(.s d,.ent id kt vt)::(.o id,.mob mt kt vt)::Γ,D kt×D vt,q.2.map fun ρ k=>(g k,(BK (eqZ kt) (BM vt) (g k) (m ρ)).1),fun ρ p=>(p,C0 (eqZ kt) p.1 p.2 (m ρ),ρ)⟩else none
    |none=>none
   |_=>none
  |_,_,_=>none
 | .entst x s v=>match rdK X.G Γ x,rdK X.G Γ s,rdV Γ v with
  |some ⟨.mp id,.tot _⟩,some ⟨.stamp id' kt,.tot fs⟩,some q=>match get Γ (.o id)with
   |some ⟨.mob mt kt' vt,m⟩=>match Be q.1 vt with
    |some g=>if h:kt=kt' then if id=id'∧Ep kt'=true then some ⟨(.o id,.mob mt kt' vt)::Γ,List (D kt'×D vt),(q.2.map fun ρ v=>if(BK (eqZ kt') (BM vt) (h▸fs ρ) (m ρ)).2=true then some (C0 (eqZ kt') (h▸fs ρ) (g v) (m ρ))else none).comp (.par fun y=>y),fun ρ y=>(y,ρ)⟩else none else none
    |none=>none
   |_=>none
  |_,_,_=>none
 | .mapupd mt x k v=>match rdK X.G Γ x,rdV Γ k,rdV Γ v with
  |some ⟨.mp id,.tot _⟩,some q,some p=>match get Γ (.o id)with
   |some ⟨.mob mt' kt vt,m⟩=>match Be q.1 kt,Be p.1 vt with
    |some g,some f=>if mt'=mt∧Ep kt=true then some ⟨(.o id,.mob mt kt vt)::Γ,List (D kt×D vt),(q.2.both p.2).map fun ρ z=>C0 (eqZ kt) (g z.1) (f z.2) (m ρ),fun ρ y=>(y,ρ)⟩else none
    |_,_=>none
   |_=>none
  |_,_,_=>none
 |_=>none
def Nq(d:Option Nat):SOp→Option (OpD Γ)
 | .mcopy f x y=>if X.cp f=true then match rdK X.G Γ x,rdV Γ y,d with
  |some ⟨.mp id,.tot _⟩,some ⟨.map .str ut,q⟩,some d=>match get Γ (.o id)with
   |some ⟨.mob mt .str vt,m⟩=>match Be (.map .str ut) (.map .str vt)with
    |some g=>some ⟨(.s d,.v (.tup .nil))::(.o id,.mob mt .str vt)::Γ,List (List UInt8×D vt),(q.map fun ρ y=>Na (m ρ) (g y)).comp (.par fun y=>y),fun ρ y=>((),y,ρ)⟩
    |none=>none
   |_=>none
  |_,_,_=>none
 else none
 |_=>none
def gD{A B:Type}(f:A→Bool)(want:Bool):Dyn A B→Dyn A (Option B)
 | .tot g=>.tot fun ρ=>if f ρ=want then some (g ρ)else none
 | .par g=>.par fun ρ=>if f ρ=want then(g ρ).map some else some none
def gO{A B:Type}(f:A→Option Bool)(want:Bool):Dyn A B→Dyn A (Option B)
 | .tot g=>.tot fun ρ=>if f ρ=some want then some (g ρ)else none
 | .par g=>.par fun ρ=>if f ρ=some want then(g ρ).map some else some none
def Lq(op:SOp):Option (Σ k:EK,Dyn (HS Γ) (DK k)):=
 match op.cls with
 | .val| .grow=>NZ X.G Γ msk op
 | .call=>J4 X Γ msk op
 |_=>none
def Np(d:Nat):SOp→Option (OpD Γ)
 | .call f args=>match X.TN f with
  |some ⟨a,.nw e size t,fn⟩=>match get Γ (.o d)with
   |some ⟨.gone,_⟩=>match EQ Γ msk args with
    |some q=>match Be q.2.1 a with
     |some g=>if(q.1||mlT t)=true then some ⟨(.s d,.own d)::(.o d,.arr e size t)::Γ,List (D t),(q.2.2.map fun _ x=>g x).comp (.par fn),fun ρ y=>((),y,ρ)⟩else none
     |none=>none
    |none=>none
   |_=>none
  |_=>none
 |_=>none
structure EfD (Γ:TC) where
 Θ:TC
 r:Ty
 θ:HS Γ→HS Θ
 d:Dyn (HS Γ) (D r×HS Θ)
def Mb{Θ Θ':TC}{a r r':Ty}(fn:D a→HS Θ→Option (D r×HS Θ))(h:Θ=Θ')(h':r=r'):D a→HS Θ'→Option (D r'×HS Θ'):=h▸h'▸fn
def Ia(a:Ty)(Θ:TC)(r:Ty):(t:Ty)→Option (D t→D a→HS Θ→Option (D r×HS Θ))
 | .clo g c=>match X.TE g with
  |some s=>match Be (B2 a c).1 s.a with
   |some h=>if hΘ:s.Θ=Θ then(if hr:s.r=r then some fun x y θ=>Mb s.fn hΘ hr (h ((B2 a c).2 y x)) θ else none)else none
   |none=>none
  |none=>none
 | .falt g c l=>match X.TE g,Ia a Θ r l with
  |some s,some F=>match Be (B2 a c).1 s.a with
   |some h=>if hΘ:s.Θ=Θ then(if hr:s.r=r then some fun x y θ=>match x with
     | .inl z=>Mb s.fn hΘ hr (h ((B2 a c).2 y z)) θ
     | .inr z=>F z y θ
    else none)else none
   |none=>none
  |_,_=>none
 |_=>none
def efK:SOp→Option (EfD Γ)
 | .call f args=>match X.TE f with
  |some s=>match F0 Γ args,Cn Γ s.Θ with
   |some q,some g=>match Be q.1 s.a with
    |some h=>some ⟨s.Θ,s.r,g,(q.2.map fun ρ x=>(h x,g ρ)).comp (.par fun p=>s.fn p.1 p.2)⟩
    |none=>none
   |_,_=>none
  |none=>none
 | .callv f args=>match rdV Γ f,F0 Γ args with
  |some ⟨.clo g c,d⟩,some q=>match X.TE g with
   |some s=>match Bb q.1,Be (B2 q.1 c).1 s.a,Cn Γ s.Θ with
    |some _,some h,some gθ=>some ⟨s.Θ,s.r,gθ,((q.2.both d).map fun ρ x=>(h ((B2 q.1 c).2 x.1 x.2),gθ ρ)).comp (.par fun p=>s.fn p.1 p.2)⟩
    |_,_,_=>none
   |none=>none
  |some ⟨.falt g c l,d⟩,some q=>match X.TE g with
   |some s=>match Bb q.1,Cn Γ s.Θ,Ia X q.1 s.Θ s.r (.falt g c l)with
    |some _,some gθ,some F=>some ⟨s.Θ,s.r,gθ,((q.2.both d).map fun ρ x=>(x,gθ ρ)).comp (.par fun p=>F p.1.2 p.1.1 p.2)⟩
    |_,_,_=>none
   |none=>none
  |_,_=>none
 |_=>none
def G7(l:SL):Option (OpD Γ):=
 match efK X Γ l.op with
 |some e=>if okΘ e.Θ=true then match l.guard,l.dst with
  |none,some d=>some ⟨(.s d,.v e.r)::(e.Θ++Bx (AJ e.Θ) Γ),D e.r×HS e.Θ,e.d,fun ρ p=>(p.1,Cc e.Θ p.2 (B8 (AJ e.Θ) ρ))⟩
  |none,none=>some ⟨e.Θ++Bx (AJ e.Θ) Γ,D e.r×HS e.Θ,e.d,fun ρ p=>Cc e.Θ p.2 (B8 (AJ e.Θ) ρ)⟩
  |some (g,want),some d=>match get Γ (.s g)with
   |some ⟨.v .bool,f⟩=>some ⟨(.s d,.opt (.v e.r))::(e.Θ++Bx (AJ e.Θ) Γ),Option (D e.r×HS e.Θ),gD f want e.d,fun ρ b=>(b.map fun p=>p.1,Cc e.Θ (match b with
         |some p=>p.2
         |none=>e.θ ρ) (B8 (AJ e.Θ) ρ))⟩
   |some ⟨.opt (.v .bool),f⟩=>some ⟨(.s d,.opt (.v e.r))::(e.Θ++Bx (AJ e.Θ) Γ),Option (D e.r×HS e.Θ),gO f want e.d,fun ρ b=>(b.map fun p=>p.1,Cc e.Θ (match b with
         |some p=>p.2
         |none=>e.θ ρ) (B8 (AJ e.Θ) ρ))⟩
   |_=>none
  |_,_=>none
  else none
 |none=>none
def G9(l:SL):Option (OpD Γ):=
 match l.guard with
 |none=>match l.op.cls with
  | .new=>match l.dst with
   |some d=>match get Γ (.o d)with
    |some ⟨.gone,_⟩=>FN X Γ d l.op
    |_=>none
   |none=>none
  | .eff=>G8 X Γ l.dst l.op
  | .copy=>Nq X Γ l.dst l.op
  |_=>match Lq X Γ (hid l.op msk) l.op with
   |some q=>match l.dst with
    |some d=>some ⟨(.s d,q.1)::Γ,DK q.1,q.2,fun ρ x=>(x,ρ)⟩
    |none=>some ⟨Γ,DK q.1,q.2,fun ρ _=>ρ⟩
   |none=>match l.dst with
    |some d=>Np X Γ (hid l.op msk) d l.op
    |none=>none
 |some (g,want)=>match Lq X Γ (hid l.op msk) l.op,l.dst with
  |some q,some d=>match get Γ (.s g)with
   |some ⟨.v .bool,f⟩=>some ⟨(.s d,.opt q.1)::Γ,Option (DK q.1),gD f want q.2,fun ρ x=>(x,ρ)⟩
   |some ⟨.opt (.v .bool),f⟩=>some ⟨(.s d,.opt q.1)::Γ,Option (DK q.1),gO f want q.2,fun ρ x=>(x,ρ)⟩
   |_=>none
  |_,_=>none
def opL(l:SL):Option (OpD Γ):=
 match G7 X Γ l with
 |some o=>some o
 |none=>G9 X Γ msk l
end
section
variable {X:TP} {E:Env} {Γ:TC} {msk:List Nat} {ρ:HS Γ} {st:St} {rd:Nat→Ob}
theorem Lc{x:SO}{fl:Bool}{q:Σ t:Ty,Dyn (HS Γ) (D t)}(h:rdC Γ msk x=some (fl,q))(hr:Rep Γ ρ st)(hrd:∀id,msk.contains id=false→rd id=st.ob id){a:D q.1}(ha:q.2.val ρ=some a){G:Nat→List CV}:
  ∃c,Cd rd (so G st.fr x)=some c∧Can q.1 a [c]∧(fl=true→isC (so G st.fr x)=true)∧
   (so G st.fr x=.c c∨(∃id e size es,so G st.fr x=.osl id∧rd id=.arr e size es∧c=.sl none es)∨∃nl ks vs,c=.map nl ks vs):=by
 cases x with
 |t i=>
  simp only[rdC]at h;split at h
  ·rename_i t f hg;cases h;cases ha;obtain⟨c,e,hc⟩:=hr.s i _ hg;have e':so G st.fr (.t i)=.c c:=e;exact⟨c,by rw[e'];rfl,hc,fun _=>by rw[e'];rfl,.inl e'⟩
  ·rename_i t f hg;cases h;have:=hr.s i _ hg;have ha':f ρ=some a:=ha;unfold RS at this;simp only[ha']at this;unfold RS at this;obtain⟨c,e,hc⟩:=this;have e':so G st.fr (.t i)=.c c:=e;exact⟨c,by rw[e'];rfl,hc,fun _=>by rw[e'];rfl,.inl e'⟩
  ·rename_i id f hg;split at h<;>(try cases h;done);rename_i e' size t xs ho;cases h;cases ha;obtain⟨es,e,hes⟩:=El ho hr hrd;have e2:so G st.fr (.t i)=.osl id:=hr.s i _ hg;exact⟨.sl none es,by rw[e2];simp only[Cd,e],by unfold Can;exact⟨_,_,rfl,hes⟩,(fun hh=>by cases hh),.inr (.inl ⟨id,_,_,es,e2,e,rfl⟩)⟩
  ·rename_i id f hg;split at h<;>(try cases h;done);rename_i mt k v xs ho;cases h;cases ha;obtain⟨z,ks,vs,e,_,hk,hv⟩:=El ho hr hrd;have e2:so G st.fr (.t i)=.omap id:=hr.s i _ hg;exact⟨.map none ks vs,by rw[e2];simp only[Cd,e],by unfold Can;exact⟨_,_,_,rfl,hk,hv⟩,(fun hh=>by cases hh),.inr (.inr ⟨_,_,_,rfl⟩)⟩
  ·cases h
 |k c=>
  simp only[rdC]at h;split at h<;>(try cases h;done);rename_i p hp;cases h;cases ha;exact⟨c,rfl,Io hp,fun _=>rfl,.inl rfl⟩
 |g i=>cases h
theorem HW(hr:Rep Γ ρ st)(hrd:∀id,msk.contains id=false→rd id=st.ob id){G:Nat→List CV}:∀{xs:List SO} {fl:Bool} {q:Σ r:Ty,Dyn (HS Γ) (D r)} {a:D q.1},EQ Γ msk xs=some (fl,q)→q.2.val ρ=some a→
  ∃l,Ap (fun x=>Cd rd (so G st.fr x)) xs=some l∧Can q.1 a l∧(fl=true→(xs.all fun x=>isC (so G st.fr x))=true)
 | [],fl,q,a,h,ha=>by
  simp only[EQ,Ac]at h;cases h;exact⟨[],rfl,by unfold Can;rfl,fun _=>rfl⟩
 | [x],fl,q,a,h,ha=>by
  simp only[EQ]at h;split at h<;>(try cases h;done);rename_i p hp;cases h;obtain⟨c,h1,h2,h3,_⟩:=Lc (G:=G) (fl:=p.1) (q:=p.2) hp hr hrd ha;exact⟨[c],by simp[Ap,h1],by unfold Can;exact⟨c,rfl,h2⟩,fun hh=>by simp[h3 hh]⟩
 |x::y::xs,fl,q,a,h,ha=>by
  simp only[EQ]at h;split at h<;>(try cases h;done);rename_i p p' hp hp';cases h;obtain⟨g1,g2⟩:=Dyn.both_val ha;obtain⟨c,h1,h2,h3,_⟩:=Lc (G:=G) (fl:=p.1) (q:=p.2) hp hr hrd g1;obtain⟨l,h4,h5,h6⟩:=HW hr hrd (G:=G) (fl:=p'.1) (q:=p'.2) hp' g2;refine⟨c::l, ?_,by unfold Can;exact⟨c,l,rfl,h2,h5⟩,fun hh=> ?_⟩
  ·have e:Ap (fun x=>Cd rd (so G st.fr x)) (x::y::xs)=(Cd rd (so G st.fr x)).bind fun b=>(Ap (fun x=>Cd rd (so G st.fr x)) (y::xs)).map fun bs=>b::bs:=rfl;rw[e,h1,h4];rfl
  ·simp only[Af]at hh;have:=h6 hh.2;rw[List.all_cons,h3 hh.1,this];rfl
theorem Mu{t:Ty}{x:D t}(hv:t.val=true)(ho:t.ok=true)(hm:mlT t=true):memless (enc t x)=true:=by
 have:=QX hm (Can.enc x hv ho);simpa[BZ]using this
theorem T6(hT:TOk X E){a Rt:Ty}{fl:Bool}{n:Nat}(hn:Bb a=some n):∀{t:Ty} {F:D t→D a→Option (D Rt)} {x:D t} {y:D a} {z:D Rt} {c:CV} {l:List CV},GR X a Rt fl t=some F→F x y=some z→Can t x [c]→Can a y l→
  ∃g caps s v,c=.fn g caps∧E.fn g (l++caps)=some (.val (enc (Sig.r s) v))∧Can Rt z [enc s.r v]∧(fl||memless (enc s.r v))=true∧E.ef g=none:=by
 have one:∀{g:Nat} {r:Ty} {s:Sig} {h:D (B2 a r).1→D s.a} {k:D s.r→D Rt} {c:D r} {y:D a} {z:D Rt} {caps l:List CV},X.T g=some s→Be (B2 a r).1 s.a=some h→Be s.r Rt=some k→(fl||mlT s.r)=true→(s.fn (h ((B2 a r).2 y c))).map k=some z→Can r c caps→Can a y l→
   ∃v,E.fn g (l++caps)=some (.val (enc s.r v))∧Can Rt z [enc s.r v]∧(fl||memless (enc s.r v))=true:=by
  intro g r s h k c y z caps l hs hh hk hf hz hc hy;obtain⟨v,h1,h2⟩:=Aa.1 hz;obtain⟨s1,s2,s3⟩:=hT.fn g s hs;refine⟨v,s3 _ _ v (BU _ _ hh (GP hn hy hc)) h1,h2▸BU _ _ hk (Can.enc v s1 s2), ?_⟩
  cases fl with
  |true=>rfl
  |false=>
   simp only[Bool.false_or]at hf⊢;exact Mu s1 s2 hf
 intro t
 induction t with
 |clo g r _=>
  intro F x y z c l h hz hx hy;simp only[GR]at h;split at h<;>(try cases h;done);rename_i s hs;split at h<;>(try cases h;done);rename_i hh kk h1 h2;split at h<;>(try cases h;done);rename_i hf;cases h;unfold Can at hx;obtain⟨caps,e,hx⟩:=hx;cases e;obtain⟨v,g1,g2,g3⟩:=one hs h1 h2 hf hz hx hy;exact⟨g,caps,s,v,rfl,g1,g2,g3,hT.ef g (.inl (by rw[hs];rfl))⟩
 |falt g r l' _ ihl=>
  intro F x y z c l h hz hx hy;simp only[GR]at h;split at h<;>(try cases h;done);rename_i s hs;split at h<;>(try cases h;done);rename_i hh kk FF h1 h2 h3;split at h<;>(try cases h;done);rename_i hf;cases h
  cases x with
  |inl w=>
   unfold Can at hx;obtain⟨caps,e,hx⟩:=hx;cases e;obtain⟨v,g1,g2,g3⟩:=one hs h1 h2 hf hz hx hy;exact⟨g,caps,s,v,rfl,g1,g2,g3,hT.ef g (.inl (by rw[hs];rfl))⟩
  |inr w=>
   unfold Can at hx;exact ihl h3 hz hx.2 hy
 |nfn=>
  intro F x y z c l h hz;simp only[GR,Ac]at h;subst h;cases hz
 |_=>intro F x y z c l h;cases h
theorem T7(hT:TOk X E)(hr:Rep Γ ρ st)(hrd:∀id,msk.contains id=false→rd id=st.ob id){op:SOp}{q:Σ k:EK,Dyn (HS Γ) (DK k)}{y:DK q.1}(hcls:op.cls=.call)(h:J4 X Γ msk op=some q)(hy:q.2.val ρ=some y)(d:Option Nat):
  ∃v,AU E rd st d op=some (st.set d (.c v))∧RS q.1 y (.c v):=by
 cases op<;>(try cases h;done)
 case call f args=>
  simp only[J4]at h;split at h<;>(try cases h;done);rename_i s hs;split at h<;>(try cases h;done);rename_i p hp;split at h<;>(try cases h;done);rename_i g hg;split at h<;>(try cases h;done);rename_i hc;cases h;try dsimp only at hy
  obtain⟨z,h1,h2⟩:=Dyn.comp_val hy;obtain⟨a,h3,h4⟩:=Dyn.map_val h1;subst h4;obtain⟨l,h5,h6,h7⟩:=HW hr hrd (G:=E.G) (fl:=p.1) (q:=p.2) hp h3;obtain⟨s1,s2,s3⟩:=hT.fn f s hs;have h8:=s3 _ l y (BU _ _ hg h6) h2;refine⟨enc s.r y, ?_,_,rfl,Can.enc y s1 s2⟩
  have hm:((args.all fun x=>isC (so E.G st.fr x))||(Res.val (enc s.r y)).memless)=true:=by
   cases hp1:p.1 with
   |true=>rw[h7 hp1];rfl
   |false=>
    rw[hp1]at hc;simp only[Bool.false_or]at hc;simp[Res.memless,Mu s1 s2 hc]
  simp only[AU,SOp.cls,hT.ef f (.inl (by rw[hs];rfl)),DA,h5,Option.bind_some,List.append_nil,h8,hm,if_true,DV]
 case callv f args=>
  simp only[J4]at h;split at h<;>(try cases h;done)
  case h_2=>
   rename_i g r lt e he;split at h<;>(try cases h;done);rename_i s hs;split at h<;>(try cases h;done);rename_i p hp;split at h<;>(try cases h;done);rename_i n F hn hF;cases h;try dsimp only at hy
   obtain⟨z,h1,h2⟩:=Dyn.comp_val hy;obtain⟨h3,h3'⟩:=Dyn.both_val h1;obtain⟨l,h5,h6,h7⟩:=HW hr hrd (G:=E.G) (fl:=p.1) (q:=p.2) hp h3;obtain⟨c,e1,e2⟩:=AP (G:=E.G) he hr h3';obtain⟨g',caps,s',v,e3,h8,h9,h10,h11⟩:=T6 hT hn hF h2 e2 h6;subst e3;refine⟨enc s'.r v, ?_,_,rfl,h9⟩
   have hm:((args.all fun x=>isC (so E.G st.fr x))||(Res.val (enc s'.r v)).memless)=true:=by
    cases hp1:p.1 with
    |true=>rw[h7 hp1];rfl
    |false=>
     rw[hp1]at h10;simp only[Bool.false_or]at h10;simp[Res.memless,h10]
   simp only[AU,SOp.cls,e1,h11,DA,h5,Option.bind_some,h8,hm,if_true,DV]
  rename_i g r e he;split at h<;>(try cases h;done);rename_i s hs;split at h<;>(try cases h;done);rename_i p hp;split at h<;>(try cases h;done);rename_i n k hn hk;split at h<;>(try cases h;done);rename_i hc;cases h;try dsimp only at hy
  obtain⟨z,h1,h2⟩:=Dyn.comp_val hy;obtain⟨a,h3,h4⟩:=Dyn.map_val h1;obtain⟨h3,h3'⟩:=Dyn.both_val h3;subst h4;obtain⟨l,h5,h6,h7⟩:=HW hr hrd (G:=E.G) (fl:=p.1) (q:=p.2) hp h3;obtain⟨c,e1,e2⟩:=AP (G:=E.G) he hr h3';unfold Can at e2;obtain⟨caps,e3,e2⟩:=e2;cases e3;obtain⟨s1,s2,s3⟩:=hT.fn g s hs;have h8:=s3 _ (l++caps) y (BU _ _ hk (GP hn h6 e2)) h2;refine⟨enc s.r y, ?_,_,rfl,Can.enc y s1 s2⟩
  have hm:((args.all fun x=>isC (so E.G st.fr x))||(Res.val (enc s.r y)).memless)=true:=by
   cases hp1:p.1 with
   |true=>rw[h7 hp1];rfl
   |false=>
    rw[hp1]at hc;simp only[Bool.false_or]at hc;simp[Res.memless,Mu s1 s2 hc]
  simp only[AU,SOp.cls,e1,hT.ef g (.inl (by rw[hs];rfl)),DA,h5,Option.bind_some,h8,hm,if_true,DV]
theorem Lr(hT:TOk X E)(hr:Rep Γ ρ st)(hrd:∀id,msk.contains id=false→rd id=st.ob id){op:SOp}{q:Σ k:EK,Dyn (HS Γ) (DK k)}{y:DK q.1}(h:Lq X Γ msk op=some q)(hy:q.2.val ρ=some y)(d:Option Nat):
  ∃sv,AU E rd st d op=some (st.set d sv)∧RS q.1 y sv:=by
 unfold Lq at h;split at h
 ·rename_i hcls;obtain⟨sv,h1,h2⟩:=SY hr hrd h hy;rw[←hT.G]at h1;exact⟨sv,by simp only[AU,hcls,h1,Option.map_some],h2⟩
 ·rename_i hcls;obtain⟨sv,h1,h2⟩:=SY hr hrd h hy;rw[←hT.G]at h1;exact⟨sv,by simp only[AU,hcls,h1,Option.map_some],h2⟩
 ·rename_i hcls;obtain⟨v,h1,h2⟩:=T7 hT hr hrd hcls h hy d;exact⟨.c v,h1,h2⟩
 ·cases h
theorem QK(hr:Rep Γ ρ st){G:Nat→List CV}{t:Ty}:∀{xs:List SO} {e:Dyn (HS Γ) (List (D t))} {ys:List (D t)},IH Γ t xs=some e→e.val ρ=some ys→∃l,Ap (fun x=>closed (so G st.fr x)) xs=some l∧Aq (fun x c=>Can t x [c]) ys l
 | [],e,ys,h,hy=>by
  simp only[IH,Ac]at h;subst h;cases hy;exact⟨[],rfl,rfl⟩
 |x::xs,e,ys,h,hy=>by
  simp only[IH]at h;split at h<;>(try cases h;done);rename_i q e' hq he';split at h<;>(try cases h;done);rename_i g hg;cases h;obtain⟨p,h1,h2⟩:=Dyn.map_val hy;obtain⟨h3,h4⟩:=Dyn.both_val h1;obtain⟨c,h5,h6⟩:=AP (G:=G) hq hr h3;obtain⟨l,h7,h8⟩:=QK hr (G:=G) he' h4;subst h2;refine⟨c::l, ?_,c,l,rfl,BU _ _ hg h6,h8⟩;have e:Ap (fun x=>closed (so G st.fr x)) (x::xs)=(closed (so G st.fr x)).bind fun b=>(Ap (fun x=>closed (so G st.fr x)) xs).map fun bs=>b::bs:=rfl;rw[e,h5,h7];rfl
theorem Xa(hr:Rep Γ ρ st){d:Nat}{op:SOp}{o:OpD Γ}{b:o.B}(h:FN X Γ d op=some o)(hb:o.d.val ρ=some b):∃v ob,BG (so X.G st.fr) d op=some (v,ob)∧Rep o.Γ' (o.up ρ b) {fr:=upd st.fr d v,ob:=upd st.ob d ob}:=by
 cases op<;>(try cases h;done)
 case alloc z=>
  simp only[FN]at h;split at h<;>(try cases h;done);rename_i q hq;split at h<;>(try cases h;done);rename_i p hp;cases h;have hc:=In hq;obtain⟨h1,h2⟩:=KZ (ρ:=ρ) hp hc;refine⟨.ptr d 0,.box (z.map .c),rfl,Rep.newObj hr h1 ⟨z.map .c,rfl,by simp,fun j q' hj hq'=> ?_⟩ rfl⟩;rcases h2 j q' hq' with⟨_,c,h3,h4⟩|⟨h3,_⟩
  ·exact⟨.c c,by simpa using h3,h4⟩
  ·omega
 case box x=>
  simp only[FN]at h;split at h<;>(try cases h;done)
  ·rename_i r e he;split at h<;>(try cases h;done);rename_i n p hn hp;cases h;try dsimp only at hb
   obtain⟨c,e1,e2⟩:=AP (G:=X.G) he hr hb;unfold Can at e2;obtain⟨l,e3,e2⟩:=e2;cases e3;have hl:=DN hn e2;obtain⟨h1,h2⟩:=KZ (ρ:=ρ) hp e2;refine⟨.ptr d 0,.box (l.map .c),by simp only[BG,e1],Rep.newObj hr h1 ⟨l.map .c,rfl,by simp[hl],fun j q' hj hq'=> ?_⟩ rfl⟩;rcases h2 j q' hq' with⟨_,c,h3,h4⟩|⟨h3,_⟩
   ·exact⟨.c c,by have h3':l[j]? =some c:=by simpa using h3
                  simp[h3'],h4⟩
   ·omega
  ·rename_i t e hne he;split at h<;>(try cases h;done);rename_i h1;cases h;try dsimp only at hb
   obtain⟨c,e1,e2⟩:=AP (G:=X.G) he hr hb
   have hn:BG (so X.G st.fr) d (.box x)=some (.ptr d 0,.box [.c c]):=by
    simp only[BG,e1];have:=FM h1 e2;cases c<;>first|rfl|(simp[C8]at this)
   refine⟨_,_,hn, ?_⟩
   have hx:Dc d Γ ρ ((.c d 0,.v t)::Γ) (b,ρ):=fun p q hq=>by
    by_cases hp:Key.c d 0=p
    ·exact .inl ⟨0,hp.symm⟩
    ·obtain⟨f,hf,e⟩:=BW hp hq;exact .inr ⟨f,hf,e _⟩
   refine Rep.newObj hr hx ⟨[.c c],rfl,rfl,fun j q' hj hq'=> ?_⟩ rfl;have hj0:j=0:=by omega
   subst hj0;rw[C7]at hq';cases hq';exact⟨.c c,rfl,c,rfl,e2⟩
 case mksl e size AY=>
  simp only[FN]at h;split at h<;>(try cases h;done);rename_i t ht;split at h<;>(try cases h;done);rename_i l hl;split at h<;>(try cases h;done);rename_i hv;cases h;obtain⟨cs,h1,h2⟩:=QK hr (G:=X.G) hl hb
  have hall:(cs.all fun v=>BC v==size)=true:=by
   rw[List.all_eq_true];intro c hc;obtain⟨i,hi⟩:=List.getElem?_of_mem hc;obtain⟨a,_,h7⟩:=h2.getB hi;simp[(GT hv.1 hv.2 h7).2]
  refine⟨.osl d,.arr e size cs, ?_,Rep.newObj hr (Dc.refl d) ⟨cs,rfl,h2⟩ rfl⟩;simp only[BG];rw[h1,Option.bind_some,if_pos hall]
 case mkmap mt kt z=>
  simp only[FN]at h;split at h<;>(try cases h;done);rename_i k v hm;split at h<;>(try cases h;done);rename_i hh;cases h;have hk:=QC hh.2.1;subst hk;exact⟨.omap d,.map mt (ktT k) z [] [],rfl,Rep.newObj hr (Dc.refl d) ⟨z,[],[],rfl,Oe hh.1,rfl,rfl⟩ rfl⟩
 case make e size bytes z x y=>
  simp only[FN]at h;split at h<;>(try cases h;done);rename_i t k dx k' dy ht hx hy;split at h<;>(try cases h;done);rename_i hz;cases h;obtain⟨p,h1,h2⟩:=Dyn.comp_val hb;obtain⟨h3,h4⟩:=Dyn.both_val h1;obtain⟨c1,e1,g1⟩:=AP (G:=X.G) hx hr h3;obtain⟨c2,e2,g2⟩:=AP (G:=X.G) hy hr h4;unfold Can at g1 g2;cases g1;cases g2;simp only[Dyn.val]at h2;split at h2<;>(try cases h2;done);rename_i hc;cases h2;refine⟨.osl d,.arr e size (List.replicate p.1.toNat z), ?_,Rep.newObj hr (Dc.refl d) ⟨_,rfl,Aq.replicate (R:=fun x c=>Can t x [c]) (Oe hz) _⟩ rfl⟩;simp only[BG,e1,e2];rw[if_pos hc]
 case siter x=>
  simp only[FN]at h;split at h<;>(try cases h;done);rename_i e he;cases h;obtain⟨c,e1,e2⟩:=AP (G:=X.G) he hr hb;unfold Can at e2;cases e2;exact⟨.iter d,.siter b 0,by simp only[BG,e1],Rep.newObj hr (Dc.refl d) rfl rfl⟩
theorem Rd(hr:Rep Γ ρ st){G:Nat→List CV}{t:Ty}{x:SO}{l:Dyn (HS Γ) (List (D t))}{ys:List (D t)}(h:KJ Γ t x=some l)(hy:l.val ρ=some ys):∃es,CT st (so G st.fr x)=some es∧Aq (fun x c=>Can t x [c]) ys es:=by
 unfold KJ at h;split at h<;>(try cases h;done);rename_i fl u e he;split at h<;>(try cases h;done);rename_i g hg;cases h;obtain⟨y,h1,h2⟩:=Dyn.map_val hy;obtain⟨c,h3,h4,_,h5⟩:=Lc (msk:= []) (rd:=st.ob) (G:=G) he hr (fun _ _=>rfl) h1;have h6:=BU _ _ hg h4;unfold Can at h6;obtain⟨nl,es,e1,h6⟩:=h6;cases e1;refine⟨es, ?_,h2▸h6⟩;rcases h5 with h5|⟨id,e',size,es',h5,h7,h8⟩|⟨nl',ks,vs,h5⟩
 ·rw[h5];rfl
 ·cases h8;rw[h5];simp only[CT,h7]
 ·cases h5
theorem Pn{t:Ty}{n:Nat}{xs:List (D t)}{es:List CV}(hv:t.val=true)(hl:Bb (Cb t)=some n)(ho:FL (Cb t)=true)(h:Aq (fun x c=>Can t x [c]) xs es):(es.all (fun v=>BC v==n)&&es.all fun v=>v.cells.all C8)=true:=by
 rw[Af,List.all_eq_true,List.all_eq_true];refine⟨fun c hc=> ?_,fun c hc=> ?_⟩
 ·obtain⟨i,hi⟩:=List.getElem?_of_mem hc;obtain⟨a,_,h7⟩:=h.getB hi;simp[(GT hv hl h7).2]
 ·obtain⟨i,hi⟩:=List.getElem?_of_mem hc;obtain⟨a,_,h7⟩:=h.getB hi;exact Nn ho (FQ hv h7)
theorem Xs{t u:Ty}{o n:Nat}{g:D t→D u→D t}(h:HB t o n u=some g){x:D t}{y:D u}{c c':CV}(hv:t.val=true)(hx:Can t x [c])(hy:Can u y [c']):
  BC c'=n∧o+n≤BC c∧Can t (g x y) [Fj c o n c']:=by
 have single:∀{f:D u→D t},n=1∧o=0∧En u=true→Be u t=some f→(∀l,c≠ .agg l)→BC c'=n∧o+n≤BC c∧Can t (f y) [Fj c o n c']:=by
  intro f ⟨h1,h2,h3⟩ hf hna;have ho:=FM h3 hy;have h4:BC c'=1:=by cases c'<;>first|rfl|(simp[C8]at ho)
  have h5:BC c=1:=by cases c<;>first|rfl|(exact absurd rfl (hna _))
  have h6:Fj c o n c'=c':=by cases c<;>first|rfl|(exact absurd rfl (hna _))
  rw[h6];exact⟨by omega,by omega,BU _ _ hf hy⟩
 cases t
 case agg r=>
  simp only[HB]at h;split at h<;>(try cases h;done);rename_i m q hm hq;split at h<;>(try cases h;done);rename_i he;split at h<;>(try cases h;done);rename_i hn;cases h;obtain⟨r',f⟩:=q;simp only at he;subst he;unfold Can at hx;obtain⟨l,e,hx⟩:=hx;cases e;obtain⟨g1,g2⟩:=RD hq hx (FQ hn.2 hy);obtain⟨n1,n2⟩:=GT hn.2 hm hy;rw[n1]at g1 g2;rw[hn.1]at n2 g1 g2;refine⟨n2,g2, ?_⟩;unfold Can;exact⟨_,rfl,g1⟩
 case falt f0 r0 l0=>
  simp only[HB]at h;split at h<;>(try cases h;done);rename_i hh;split at h<;>(try cases h;done);rename_i f hf;have hg:=Option.some.inj h;rw[←hg];refine single hh hf fun l hl=> ?_;subst hl;obtain⟨c1,e,_,e2⟩:=Kq (t:=.falt f0 r0 l0) hv hx;cases e;exact(e2 _).1 rfl
 all_goals(try(cases hv;done))
 all_goals
  simp only[HB]at h;split at h<;>(try cases h;done);rename_i hh;split at h<;>(try cases h;done);rename_i f hf;have hg:=Option.some.inj h;rw[←hg];refine single hh hf fun l hl=> ?_;subst hl;unfold Can at hx
  first
   |(rcases hx with e|e|e<;>(cases e;done))
   |(cases hx;done)
   |(obtain⟨_,e,_⟩:=hx;cases e;done)
   |(obtain⟨_,_,e,_⟩:=hx;cases e;done)
   |(obtain⟨_,_,_,e,_⟩:=hx;cases e;done)
   |(cases x<;>cases hx;done)
theorem OS{α β:Type}{eq:α→α→Bool}{z:β}{x:α}{y:β}:∀{m:List (α×β)},(BK eq z x m).2=true→(C0 eq x y m).map (·.1)=m.map (·.1)
 | [],h=>by cases h
 |p::m,h=>by
  unfold BK at h;unfold C0;split
  ·rfl
  ·rename_i hp;rw[if_neg hp]at h;simp[OS h]
theorem Aq.fst{α β γ:Type}{R:α→γ→Prop}:∀{m m':List (α×β)} {ks:List γ},m.map (·.1)=m'.map (·.1)→Aq (fun x c=>R x.1 c) m ks→Aq (fun x c=>R x.1 c) m' ks
 | [],[],_,_,h=>h
 | [],_::_,_,e,_=>by cases e
 |_::_,[],_,e,_=>by cases e
 |p::m,p'::m',ks,e,h=>by
  simp only[List.map_cons,List.cons.injEq]at e;obtain⟨c,ks',rfl,h1,h2⟩:=h;exact⟨c,ks',rfl,(by show R p'.1 c;rw[←e.1];exact h1),Aq.fst e.2 h2⟩
theorem Ic{id nb off:Nat}{fo:HS Γ→DK (.box nb)}{cs:List SV}{k:EK}{x:DK k}{sv:SV}(hr:Rep Γ ρ st)(ho:get Γ (.o id)=some ⟨.box nb,fo⟩)(hl:cs.length=nb)(hcs:∀j q,j<nb→get Γ (.c id j)=some q→∃sv,cs[j]? =some sv∧RS q.1 (q.2 ρ) sv)
  (hoff:off<nb) (hs:RS k x sv):Rep ((.c id off,k)::Γ) (x,ρ) {st with ob:=upd st.ob id (.box (cs.set off sv))}:=by
 refine Rep.turnCells hr (Γc:=(.c id off,k)::Γ) (ρc:=(x,ρ)) (fun p q hq=> ?_) ho (cs:=cs.set off sv) (by simp[hl]) fun j q hj hq=> ?_
 ·by_cases hp:Key.c id off=p
  ·exact .inl ⟨off,hp.symm⟩
  ·obtain⟨f,hf,e⟩:=BW hp hq;exact .inr ⟨f,hf,e _⟩
 ·by_cases hjo:off=j
  ·subst hjo;rw[C7]at hq;cases hq;exact⟨sv,by simp[List.getElem?_set];omega,hs⟩
  ·obtain⟨f,hf,e'⟩:=BW (by simpa using hjo) hq;obtain⟨sv',h6,h7⟩:=hcs j _ hj hf;exact⟨sv',by simp[hjo,h6],(e' _)▸h7⟩
theorem Rep.newObjS{d id:Nat}{k ko:EK}{x:DK k}{y:DK ko}{v:SV}{o:Ob}(h:Rep Γ ρ st)(ho:RO Γ ρ id ko y o)(hs:RS k x v):
  Rep ((.s d,k)::(.o id,ko)::Γ) (x,y,ρ) {fr:=upd st.fr d v,ob:=upd st.ob id o}:=by
 have h1:=Rep.turnObj h ho;have h2:=Rep.set h1 (d:=d) hs;exact h2
theorem QF{n:Nat}{i:Int}(e:(n:Int)=i)(h:i≤140737488355328):n≤140737488355328:=by omega
theorem QG{n:Nat}{i:Int}(e:(n:Int)=i)(h:i≤4611686018427387904):n≤4611686018427387904:=by omega
theorem Sy{id:Nat}{t:Ty}{o nb:Nat}{cs:List SV}(hcs:∀j q,j<nb→get Γ (.c id j)=some q→∃sv,cs[j]? =some sv∧RS q.1 (q.2 ρ) sv){i:Nat}{y:D t}{c:CV}(hc:Can t y [c]):∀{n j:Nat} {p:Σ Γ':TC,HS Γ→Nat→D t→HS Γ'},Ji Γ id t o n j=some p→o+j+n≤nb→
  Dc id Γ ρ p.1 (p.2 ρ i y)∧∀j' q,get p.1 (.c id j')=some q→(o+j≤j'∧j'<o+j+n∧∃sv,(if j'=o+i then some (.c c)else cs[j']?)=some sv∧RS q.1 (q.2 (p.2 ρ i y)) sv)∨((j'<o+j∨o+j+n≤j')∧∃f,get Γ (.c id j')=some ⟨q.1,f⟩∧q.2 (p.2 ρ i y)=f ρ)
 |0,j,p,h,_=>by
  simp only[Ji,Ac]at h;subst h;exact⟨Dc.refl id,fun j' q hq=>.inr ⟨by omega,q.2,hq,rfl⟩⟩
 |n+1,j,p,h,hb=>by
  simp only[Ji]at h;split at h<;>(try cases h;done);rename_i u f p' hf hp';split at h<;>(try cases h;done);rename_i hu;subst hu;cases h;obtain⟨g1,g2⟩:=Sy hcs hc hp' (by omega);refine⟨fun k q hq=> ?_,fun j' q hq=> ?_⟩
  ·by_cases hk:Key.c id (o+j)=k
   ·exact .inl ⟨_,hk.symm⟩
   ·obtain⟨f',hf',e⟩:=BW hk hq;rcases g1 _ _ hf' with hh|⟨f2,hf2,e2⟩
    ·exact .inl hh
    ·exact .inr ⟨f2,hf2,(e _).trans e2⟩
  ·by_cases hj:j'=o+j
   ·subst hj;rw[C7]at hq;cases hq;refine .inl ⟨by omega,by omega, ?_⟩;by_cases hi:i=j
    ·subst hi;refine⟨.c c,by simp,c,rfl, ?_⟩;simpa using hc
    ·obtain⟨sv,h1,h2⟩:=hcs (o+j) _ (by omega) hf;refine⟨sv,by rw[if_neg (by omega)];exact h1, ?_⟩;simp only[hi,if_false];exact h2
   ·obtain⟨f',hf',e⟩:=BW (by simpa using Ne.symm hj) hq;rcases g2 j' _ hf' with⟨k1,k2,sv,k3,k4⟩|⟨k1,f2,k2,k3⟩
    ·exact .inl ⟨by omega,by omega,sv,k3,(e _)▸k4⟩
    ·exact .inr ⟨by omega,f2,k2,(e _).trans k3⟩
theorem WZ(hr:Rep Γ ρ st){d:Option Nat}{op:SOp}{o:OpD Γ}{b:o.B}(h:G8 X Γ d op=some o)(hb:o.d.val ρ=some b):∃st',Bf d (so X.G st.fr) st op=some st'∧Rep o.Γ' (o.up ρ b) st':=by
 cases op<;>(try cases h;done)
 case store n a x=>
  simp only[G8]at h;split at h<;>(try cases h;done)
  ·rename_i id off fa ha;have ha':deref st.ob (so X.G st.fr a)=.ptr id off:=Fk ha hr (fun _ _=>rfl) (a:=fa ρ) rfl rfl;split at h<;>(try cases h;done);rename_i nb fo ho;obtain⟨cs,e,hl,hcs⟩:=hr.o id _ ho;split at h<;>(try cases h;done)
   ·rename_i r ex hx;split at h<;>(try cases h;done);rename_i m p hm hp;split at h<;>(try cases h;done);rename_i hh;cases h;obtain⟨c,e1,e2⟩:=Bo hx hr hb;unfold Can at e2;obtain⟨l,e3,e2⟩:=e2;cases e3;have hlen:=DN hm e2;obtain⟨h1,h2⟩:=KZ (ρ:=ρ) hp e2;refine⟨_, ?_,Rep.turnCells hr h1 ho (cs:=Fo cs off (l.map .c)) ?_ fun j q hj hq=> ?_⟩
    ·simp only[Bf,ha',e,e1];rw[if_pos ⟨by omega,by omega,Nn hh.2.2 e2⟩]
    ·simp[Fo];omega
    ·rcases h2 j q hq with⟨h3,c,h4,h5⟩|⟨h3,f,h4,h5⟩
     ·have hjl:=(Ae.1 h4).1;refine⟨.c c, ?_,h5⟩;simp only[Fo];rw[List.append_assoc,List.getElem?_append_right (by simp;omega),List.getElem?_append_left (by simp;omega)];have:j-(cs.take off).length=j-off:=by simp;omega
      rw[this,List.getElem?_map,h4];rfl
     ·obtain⟨sv,h6,h7⟩:=hcs j _ hj h4;refine⟨sv, ?_,h5▸h7⟩;simp only[Fo];rcases h3 with h3|h3
      ·rw[List.append_assoc,List.getElem?_append_left (by simp;omega),List.getElem?_take_of_lt h3,h6]
      ·rw[List.getElem?_append_right (by simp;omega),List.getElem?_drop];have:off+(l.map SV.c).length+(j-(cs.take off++l.map SV.c).length)=j:=by simp;omega
       rw[this,h6]
   ·rename_i t ex hna hx;split at h<;>(try cases h;done);rename_i hh;cases h;obtain⟨c,e1,e2⟩:=Bo hx hr hb;have ho1:=FM hh.2.2 e2;refine⟨_, ?_,Ic hr ho hl hcs hh.2.1 (k:=.v t) (x:=b) (sv:=.c c) ⟨c,rfl,e2⟩⟩;simp only[Bf,ha',e,e1]
    cases c<;>first
     |(simp[C8]at ho1;done)
     |(exact if_pos ⟨hh.1,by omega,ho1⟩)
   ·rename_i i fx hx;split at h<;>(try cases h;done);rename_i hh;cases h;have e1:so X.G st.fr x=.osl i:=Bo hx hr (a:=fx ρ) rfl;refine⟨_, ?_,Ic hr ho hl hcs hh.2 (k:=.own i) (x:=()) (sv:=.osl i) rfl⟩;simp only[Bf,ha',e,e1];exact if_pos ⟨hh.1,by omega,rfl⟩
   ·rename_i i fx hx;split at h<;>(try cases h;done);rename_i hh;cases h;have e1:so X.G st.fr x=.omap i:=Bo hx hr (a:=fx ρ) rfl;refine⟨_, ?_,Ic hr ho hl hcs hh.2 (k:=.mp i) (x:=()) (sv:=.omap i) rfl⟩;simp only[Bf,ha',e,e1];exact if_pos ⟨hh.1,by omega,rfl⟩
  ·rename_i id len off di ha;split at h<;>(try cases h;done);rename_i nb fo ho;obtain⟨cs,e,hl,hcs⟩:=hr.o id _ ho;split at h<;>(try cases h;done);rename_i t ex hx;split at h<;>(try cases h;done);rename_i p hp;split at h<;>(try cases h;done);rename_i hh;obtain⟨hn,hbd,hone⟩:=hh;cases h;obtain⟨h3,h4⟩:=Dyn.both_val hb;obtain⟨ha',hi⟩:=Fk (rd:=st.ob) ha hr (fun _ _=>rfl) h3 rfl
   have hlt:off+b.1<cs.length:=by
    have:b.1<len:=hi;rw[hl];exact Nat.lt_of_lt_of_le (Nat.add_lt_add_left this off) hbd
   obtain⟨c,e1,e2⟩:=AP (G:=X.G) hx hr h4;have ho1:=FM hone e2;obtain⟨h1,h2⟩:=Sy (i:=b.1) hcs e2 hp (by omega);refine⟨_, ?_,Rep.turnCells hr h1 ho (cs:=cs.set (off+b.1) (.c c)) (by simpa using hl) fun j q hj hq=> ?_⟩
   ·simp only[Bf,ha',e,e1]
    cases c<;>first
     |(simp[C8]at ho1;done)
     |(exact if_pos ⟨hn,hlt,ho1⟩)
   ·rcases h2 j q hq with⟨_,_,sv,h6,h7⟩|⟨h5,f,h6,h7⟩
    ·refine⟨sv, ?_,h7⟩;rw[←h6,List.getElem?_set];by_cases hji:j=off+b.1
     ·subst hji;rw[if_pos rfl,if_pos hlt,if_pos rfl]
     ·rw[if_neg (Ne.symm hji),if_neg hji]
    ·obtain⟨sv,h8,h9⟩:=hcs j _ hj h6;refine⟨sv, ?_,h7▸h9⟩;rw[List.getElem?_set_ne (by have:b.1<len:=hi;omega)];exact h8
  ·rename_i id size off di ha;split at h<;>(try cases h;done);rename_i e' sz t xs ho;split at h<;>(try cases h;done);rename_i u dx hx;split at h<;>(try cases h;done);rename_i g hg;split at h<;>(try cases h;done);rename_i hh;obtain⟨hsz,hn,hv,hlt,hone⟩:=hh;cases h;obtain⟨w,h1,h2⟩:=Dyn.comp_val hb;obtain⟨p,h3,h4⟩:=Dyn.map_val h1;obtain⟨h5,h6⟩:=Dyn.both_val h3;have h2':w=some b:=h2;rw[h2']at h4;obtain⟨el,h7,h8⟩:=Aa.1 h4.symm;have ha':deref st.ob (so X.G st.fr a)=.eptr id p.1 size off:=Fk ha hr (fun _ _=>rfl) h5 rfl;obtain⟨c,e1,e2⟩:=AP (G:=X.G) hx hr h6;obtain⟨es,e,hes⟩:=hr.o id _ ho;obtain⟨c0,h9,h10⟩:=hes.get h7;obtain⟨g1,g2,g3⟩:=Xs hg hv h10 e2
   have hob:c.cells.all C8=true:=by
    unfold HB at hg
    cases hu:u.val with
    |true=>exact Nn hone (FQ hu e2)
    |false=>
     exfalso;split at hg
     ·split at hg<;>(try cases hg;done);split at hg<;>(try cases hg;done);split at hg<;>(try cases hg;done);rename_i hh;rw[hu]at hh;cases hh.2
     ·split at hg<;>(try cases hg;done);rename_i hh;have:=hh.2.2;cases u<;>first|(cases hu;done)|(cases this;done)|(simp only[Ty.val]at hu;simp only[En]at this;rw[hu]at this;cases this;done)
   refine⟨_, ?_,Rep.turnObj hr (k:=.arr e' sz t) (y:=b) ⟨es.set p.1 (Fj c0 off n c),rfl,h8▸hes.set p.1 g3⟩⟩;simp only[Bf,ha',e,e1];rw[if_pos ⟨hsz,hn,g1,hob⟩,h9,Option.bind_some,if_pos g2]
  ·rename_i da ha;split at h<;>(try cases h;done);rename_i dx hx;split at h<;>(try cases h;done);rename_i hn;cases h;obtain⟨p,h1,h2⟩:=Dyn.comp_val hb;obtain⟨h3,h4⟩:=Dyn.both_val h1;obtain⟨c,e1,e2⟩:=Fk (rd:=st.ob) ha hr (fun _ _=>rfl) h3 rfl;unfold Can at e2;obtain⟨l,e3,e2⟩:=e2;cases e3;unfold Can at e2;obtain⟨c',rfl,e2⟩:=e2;unfold Can at e2;cases e2;obtain⟨c2,g1,g2⟩:=AP (G:=X.G) hx hr h4;unfold Can at g2;cases g2;simp only[Dyn.val,Ad]at h2;obtain⟨h5,_⟩:=h2;refine⟨st, ?_,hr⟩;simp only[Bf,e1,g1];exact if_pos ⟨hn,h5⟩
 case append e size bytes x y=>
  simp only[G8]at h;split at h<;>(try cases h;done)
  ·rename_i id fx hx;split at h<;>(try cases h;done);rename_i e' size' t xs ho;split at h<;>(try cases h;done);rename_i l d' hl;split at h<;>(try cases h;done);rename_i hh;obtain⟨he,hs,hv,hlr,hone⟩:=hh;cases h;have hx':so X.G st.fr x=.osl id:=Bo hx hr (a:=fx ρ) rfl;obtain⟨w,h1,h2⟩:=Dyn.comp_val hb;obtain⟨ys,h3,h4⟩:=Dyn.map_val h1;have h2':w=some b:=h2;rw[h2']at h4;split at h4<;>(try cases h4;done);rename_i hc;cases h4;obtain⟨news,h5,h6⟩:=Rd hr (G:=X.G) hl h3;obtain⟨es,e0,hes⟩:=hr.o id _ ho;have hall:=Pn hv hlr hone h6;have hl1:=hes.length;have hl2:=h6.length;refine⟨_, ?_,Rep.newObjS (hr.kill [id]) (k:=.own id) (ko:=.arr e size t) (x:=()) (y:=xs ρ++ys) (v:=.osl id) (o:=.arr e size (es++news)) ⟨_,rfl,hes.append h6⟩ rfl⟩;simp only[Bf,h5,hall,if_true,hx',e0];rw[if_pos ⟨he,hs,by rw[hl1,hl2];exact QF (by rw[Int.natCast_mul,Int.natCast_add]) hc.1,by rw[hl1,hl2];exact QG (by rw[Int.natCast_add]) hc.2⟩];rfl
  ·rename_i fx hx;split at h<;>(try cases h;done);rename_i t ht;split at h<;>(try cases h;done);rename_i l d' hl;split at h<;>(try cases h;done);rename_i hh;obtain⟨hv,hlr,hone⟩:=hh;cases h;obtain⟨c,hx',hcx⟩:=Bo hx hr (a:=fx ρ) rfl;unfold Can at hcx;cases hcx;obtain⟨ys,h1,h2⟩:=Dyn.comp_val hb;simp only[Dyn.val]at h2;split at h2<;>(try cases h2;done);rename_i hc;cases h2;obtain⟨news,h5,h6⟩:=Rd hr (G:=X.G) hl h1;have hall:=Pn hv hlr hone h6;have hl2:=h6.length;refine⟨_, ?_,Rep.newObjS (hr.kill [d']) (k:=.own d') (ko:=.arr e size t) (x:=()) (y:=b) (v:=.osl d') (o:=.arr e size news) ⟨_,rfl,h6⟩ rfl⟩;simp only[Bf,h5,hall,if_true,hx'];rw[if_pos ⟨by rw[hl2];exact QF (by rw[Int.natCast_mul]) hc.1,by rw[hl2];exact QG rfl hc.2⟩]
 case mapent mt x k=>
  simp only[G8]at h;split at h<;>(try cases h;done);rename_i id fx q d' hx hk;split at h<;>(try cases h;done);rename_i mt' kt vt m ho;split at h<;>(try cases h;done);rename_i g hg;split at h<;>(try cases h;done);rename_i hh;obtain⟨hm,hp⟩:=hh;cases h;have hx':so X.G st.fr x=.omap id:=Bo hx hr (a:=fx ρ) rfl;dsimp only at hb;obtain⟨y,h1,h2⟩:=Dyn.map_val hb;obtain⟨ck,e1,e2⟩:=AP (G:=X.G) hk hr h1;have e3:=BU _ _ hg e2;obtain⟨z,ks,vs,e0,hz,hks,hvs⟩:=hr.o id _ ho;obtain⟨cv,l1,l2⟩:=KB hp e3 hz hks hvs;obtain⟨i1,i2⟩:=Ko hp e3 l2 hks hvs;subst h2;refine⟨_, ?_,Rep.newObjS hr (k:=.ent id kt vt) (ko:=.mob mt kt vt) (x:=_) (y:=_) (v:=.ent id ck cv) (o:=.map mt (ktT kt) z (Br (ktT kt) ks ck) (Bs (ktT kt) ks vs ck cv)) ⟨z,_,_,rfl,hz,i1,i2⟩ ⟨ck,cv,rfl,e3,l2⟩⟩;simp only[Bf,hx',e1,e0];rw[if_pos ⟨hm,(Gu hp e3 e3).2,by rw[hks.length,hvs.length]⟩];simp only[l1,St.set,hm]
 case entst x s v=>
  simp only[G8]at h;split at h<;>(try cases h;done);rename_i id fx id' kt fs q hx hs hv;split at h<;>(try cases h;done);rename_i mt kt' vt m ho;split at h<;>(try cases h;done);rename_i g hg;split at h<;>(try cases h;done);rename_i hk;subst hk;split at h<;>(try cases h;done);rename_i hh;obtain⟨hid,hp⟩:=hh;subst hid;cases h;have hx':so X.G st.fr x=.omap id:=Bo hx hr (a:=fx ρ) rfl;obtain⟨ck,hs',hck⟩:=Bo hs hr (a:=fs ρ) rfl;obtain⟨w,h1,h2⟩:=Dyn.comp_val hb;obtain⟨y,h3,h4⟩:=Dyn.map_val h1;have h2':w=some b:=h2;rw[h2']at h4;split at h4<;>(try cases h4;done);rename_i hkey;cases h4;obtain⟨cv,e1,e2⟩:=AP (G:=X.G) hv hr h3;have e3:=BU _ _ hg e2;obtain⟨z,ks,vs,e0,hz,hks,hvs⟩:=hr.o id _ ho;obtain⟨i1,i2⟩:=Ko hp hck e3 hks hvs;refine⟨_, ?_,Rep.turnObj hr (k:=.mob mt kt vt) (y:=C0 (eqZ kt) (fs ρ) (g y) (m ρ)) ⟨z,ks,Bs (ktT kt) ks vs ck cv,rfl,hz,Aq.fst (R:=fun k c=>Can kt k [c]) (OS hkey).symm hks,i2⟩⟩;simp only[Bf,hx',hs',e1,e0,if_true]
 case mapupd mt x k v=>
  simp only[G8]at h;split at h<;>(try cases h;done);rename_i id fx q p hx hk hv;split at h<;>(try cases h;done);rename_i mt' kt vt m ho;split at h<;>(try cases h;done);rename_i g f hg hf;split at h<;>(try cases h;done);rename_i hh;obtain⟨hm,hp⟩:=hh;cases h;have hx':so X.G st.fr x=.omap id:=Bo hx hr (a:=fx ρ) rfl;dsimp only at hb;obtain⟨y,h1,h2⟩:=Dyn.map_val hb;obtain⟨h3,h4⟩:=Dyn.both_val h1;obtain⟨ck,e1,e2⟩:=AP (G:=X.G) hk hr h3;obtain⟨cv,e1',e2'⟩:=AP (G:=X.G) hv hr h4;have e3:=BU _ _ hg e2;have e3':=BU _ _ hf e2';obtain⟨z,ks,vs,e0,hz,hks,hvs⟩:=hr.o id _ ho;obtain⟨i1,i2⟩:=Ko hp e3 e3' hks hvs;refine⟨_, ?_,Rep.turnObj hr (k:=.mob mt kt vt) (y:=b) ⟨z,Br (ktT kt) ks ck,Bs (ktT kt) ks vs ck cv,rfl,hz,h2▸i1,h2▸i2⟩⟩;simp only[Bf,hx',e1,e1',e0];rw[if_pos ⟨hm,(Gu hp e3 e3).2⟩,hm]
theorem WY(hT:TOk X E)(hr:Rep Γ ρ st){d:Option Nat}{op:SOp}{o:OpD Γ}{b:o.B}(h:Nq X Γ d op=some o)(hb:o.d.val ρ=some b)(rd:Nat→Ob):∃st',AU E rd st d op=some st'∧Rep o.Γ' (o.up ρ b) st':=by
 unfold Nq at h;split at h<;>(try cases h;done);rename_i f x y;split at h<;>(try cases h;done);rename_i hcp;split at h<;>(try cases h;done);rename_i id fx ut q d hx hy;split at h<;>(try cases h;done);rename_i mt vt m ho;split at h<;>(try cases h;done);rename_i g hg;cases h;have hx':so X.G st.fr x=.omap id:=Bo hx hr (a:=fx ρ) rfl;obtain⟨w,h1,h2⟩:=Dyn.comp_val hb;obtain⟨yv,h3,h4⟩:=Dyn.map_val h1;have h2':w=some b:=h2;rw[h2']at h4;have h5:Na (m ρ) (g yv)=some b:=h4.symm;unfold Na at h5;split at h5<;>(try cases h5;done);rename_i hcond;obtain⟨c1,c2,c3⟩:=hcond;simp only[Ac]at h5;obtain⟨cv,e1,e2⟩:=AP (G:=X.G) hy hr h3;have e3:=BU _ _ hg e2;obtain⟨z,ks,vs,e0,hz,hks,hvs⟩:=hr.o id _ ho;have hm:m ρ= []:=List.isEmpty_iff.1 c1;replace hks:Aq (fun(x:List UInt8×D vt) c=>Can .str x.1 [c]) (m ρ) ks:=hks;replace hvs:Aq (fun(x:List UInt8×D vt) c=>Can vt x.2 [c]) (m ρ) vs:=hvs;rw[hm]at hks hvs;unfold Aq at hks hvs;subst hks;subst hvs;unfold Can at e3;obtain⟨nl,ks,us,e4,k1,k2⟩:=e3;cases e4
 have key:∀(l:List (List UInt8×D vt)) (ks:List CV),Aq (fun x c=>Can .str x.1 [c]) l ks→(l.all fun p=>decide (p.1.length≤9223372036854775807))=true→ks.all GG=true:=by
  intro l
  induction l with
  |nil=>intro ks h _;unfold Aq at h;subst h;rfl
  |cons p l ih=>
   intro ks h hl;obtain⟨c,ks',rfl,q1,q2⟩:=h;simp only[List.all_cons,Af]at hl⊢;unfold Can at q1;cases q1;exact⟨hl.1,ih ks' q2 hl.2⟩
 have kl:ks.length≤9223372036854775807:=by rw[k1.length];exact c3
 subst h5;refine⟨_, ?_,Rep.set (Rep.turnObj hr (k:=.mob mt .str vt) (y:=g yv) ⟨z,ks,us,rfl,hz,k1,k2⟩) (k:=.v (.tup .nil)) (x:=()) ⟨.tup [],rfl,by unfold Can;exact⟨[],rfl,by unfold Can;rfl⟩⟩⟩;have hcp':E.cp f=true:=by rw[hT.cp];exact hcp
 have e0':st.ob id=.map mt .str z [] []:=e0;show Hb E (so E.G st.fr) st (some d) f x y=_;unfold Hb;rw[if_pos hcp',hT.G,hx',e1];dsimp only;rw[e0'];dsimp only;rw[if_pos ⟨key _ _ k1 c2,kl⟩];rfl
end
def AK(le:D6)(st st':St):Prop:=∀{P:Program} {G:Nat→List CV} {w0:WL} {M0:MM} {n:Nat} {a:Act} {w:World} {z:Cz},w0.le=le→SR P G w0 M0 n st a w z→∃z',SR P G w0 M0 n st' a w z'
variable {le:D6}
theorem AK.refl(st:St):AK le st st:=fun _ h=>⟨_,h⟩
theorem AK.trans{s t u:St}(h:AK le s t)(k:AK le t u):AK le s u:=fun he hs=>by
 obtain⟨z',h1⟩:=h he hs;exact k he h1
theorem AK.kill(st:St)(ids:List Nat):AK le st (WB.kill ids st):=fun _ h=>⟨_,h.killed ids⟩
section
variable {P:Program} {G:Nat→List CV} {w0:WL} {M0:MM} {n:Nat} {st:St} {a:Act} {w:World} {z:Cz}
theorem SR.reslot(h:SR P G w0 M0 n st a w z){i:Nat}{sv:SV}(hs:As w (Am M0 z st.ob) z st.ob sv (a.tmps.getD i undef)):SR P G w0 M0 n {st with fr:=upd st.fr i sv} a w z:=by
 refine⟨h.size,h.defers,h.below,h.outer,h.nam,h.glob,fun j=> ?_,h.ob,h.lo,h.apart⟩;show As w _ z st.ob (upd st.fr i sv j) _;by_cases hj:j=i
 ·subst hj;rw[Bk];exact hs
 ·rw[AM _ _ hj];exact h.fr j
theorem SR.reob(h:SR P G w0 M0 n st a w z){b:Nat}{o:Ob}(hl:st.ob b≠ .none)(hl':o≠ .none)(hbox:∀cs',o=.box cs'→∃cs,st.ob b=.box cs)(ho:Bc P w (Am M0 z st.ob) 0 z st.ob b (z.σ b) o):SR P G w0 M0 n {st with ob:=upd st.ob b o} a w z:=by
 have live:∀id,upd st.ob b o id≠ .none↔st.ob id≠ .none:=by
  intro id;by_cases hid:id=b
  ·subst hid;simp[Bk,hl,hl']
  ·rw[AM _ _ hid]
 have hm:∀g,Am M0 z (upd st.ob b o) g→Am M0 z st.ob g:=fun g hg=>Or.imp id (fun⟨id,h1,h2⟩=>⟨id,(live id).1 h1,h2⟩) hg;have hk:Bp w (Am M0 z st.ob) w (Am M0 z (upd st.ob b o)):=⟨Nat.le_refl _,fun _ _ _=>rfl,fun g _ hg=>hm g hg,rfl⟩;have hz:∀s,Ew st.ob z (upd st.ob b o) z s:=fun s=>⟨fun id _ hh=>(live id).2 hh,fun _ _ _=>rfl,fun _ _ _ _ _ hh=>hh⟩
 have hn:Gb w0 M0 n z (upd st.ob b o):=h.nam.of rfl fun N cs' hN hc=>by
  by_cases hNb:N=b
  ·subst hNb;rw[Bk]at hc;obtain⟨cs,e⟩:=hbox cs' hc;exact⟨cs,e,rfl⟩
  ·rw[AM _ _ hNb]at hc;exact⟨cs',hc,rfl⟩
 refine⟨h.size,h.defers,h.below,h.outer,hn,h.glob,fun i=>As.keep hk (hz _) (h.fr i),fun id=> ?_,fun id g h1 h2=>h.lo id g ((live id).1 h1) h2,fun i j g hij h1 h2=>h.apart i j g hij ((live i).1 h1) ((live j).1 h2)⟩;show Bc P w _ _ z (upd st.ob b o) id (z.σ id) (upd st.ob b o id);by_cases hid:id=b
 ·subst hid;rw[Bk];exact Bc.keep hk (fun _ _=>rfl) (fun _ _ _ _=>hz _) (fun _ _ hh=>hh) ho
 ·rw[AM _ _ hid];exact Bc.keep hk (fun _ _=>rfl) (fun _ _ _ _=>hz _) (fun _ _ hh=>hh) (h.ob id)
theorem SR.newNil(h:SR P G w0 M0 n st a w z){id e size:Nat}(hn:st.ob id=.none):SR P G w0 M0 n {st with ob:=upd st.ob id (.arr e size [])} a w (z.new id (.slice none 0 0)):=by
 have hk:=Kv (M0:=M0) (z:=z) (d:=id) (v:=.slice none 0 0) (o:=.arr e size []) (w:=w) (w':=w) hn (Below.refl _ _) (fun g hg=>by cases hg)
 have hnm:Gb w0 M0 n (z.new id (.slice none 0 0)) (upd st.ob id (.arr e size [])):=h.nam.of rfl fun N cs' hN hc=>by
  by_cases hNb:N=id
  ·subst hNb;rw[Bk]at hc;cases hc
  ·rw[AM _ _ hNb]at hc;exact⟨cs',hc,by simp[Cz.new,upd,hNb]⟩
 refine⟨h.size,h.defers,h.below,h.outer,hnm,h.glob,fun i=>As.keep hk (IE hn _) (h.fr i),fun i=> ?_,fun i g h1 h2=> ?_,fun i j g hij h1 h2 h3 h4=> ?_⟩
 ·show Bc P w _ _ _ (upd st.ob id _) i _ (upd st.ob id _ i);by_cases hi:i=id
  ·subst hi;rw[Bk];have:(z.new i (.slice none 0 0)).σ i=.slice none 0 0:=by simp[Cz.new,upd]
   rw[this];exact⟨[],⟨by simp,.inl ⟨rfl,rfl⟩⟩,rfl⟩
  ·rw[AM _ _ hi];have e1:(z.new id (.slice none 0 0)).σ i=z.σ i:=by simp[Cz.new,upd,hi]
   rw[e1];by_cases hl:st.ob i=.none
   ·rw[hl];trivial
   ·exact Bc.keep hk (fun g hg=>rfl) (fun _ _ _ _=>IE hn _) (fun k b hh=>by simpa[Cz.new,hi]using hh) (h.ob i)
 ·by_cases hi:i=id
  ·subst hi;simp only[Cz.new,Bk]at h2;cases h2
  ·simp only[AM _ _ hi]at h1;simp only[Cz.new,AM _ _ hi]at h2;exact h.lo i g h1 h2
 ·by_cases hi:i=id
  ·subst hi;simp only[Cz.new,Bk]at h3;cases h3
  ·by_cases hj:j=id
   ·subst hj;simp only[Cz.new,Bk]at h4;cases h4
   ·simp only[AM _ _ hi]at h1;simp only[AM _ _ hj]at h2;simp only[Cz.new,AM _ _ hi]at h3;simp only[Cz.new,AM _ _ hj]at h4;exact h.apart i j g hij h1 h2 h3 h4
theorem Qo(h:SR P G w0 M0 n st a w z){id et sz:Nat}(hI:¬w0.le.I id){es:List CV}(hob:st.ob id=.arr et sz es){v:Value}(hv:As w (Am M0 z st.ob) z st.ob (.osl id) v):RelC w (Am M0 z (kill [id] st).ob) (.sl none es) v:=by
 have hless:∀g,Am M0 z (kill [id] st).ob g→Am M0 z st.ob g:=fun g hg=>Or.imp _root_.id IX hg;have hk:Bp w (Am M0 z st.ob) w (Am M0 z (kill [id] st).ob):=⟨Nat.le_refl _,fun _ _ _=>rfl,fun g _ hg=>hless g hg,rfl⟩;obtain⟨hlive,e⟩:=hv
 have hout:∀g,blk (z.σ id)=some g→¬Am M0 z (kill [id] st).ob g:=fun g hb hm=>by
  rcases hm with hm|⟨id',hl',hb'⟩
  ·exact h.out hlive hb hI hm
  ·have hl2:=Fe.1 hl';have hne:id≠id':=fun e=>hl2.1 (by simp[e]);exact h.apart id id' g hne hlive hl2.2 hb hb'
 have ho:=h.ob id;rw[hob]at ho;obtain⟨xs,hown,hf⟩:=ho;unfold RelC;rcases hown.2 with⟨e1,e2⟩|⟨g,cap,cur,e1,e2,e3,e4,e5,e6,e7⟩
 ·refine⟨none,0,0,by rw[e,e1],e2.symm,Nat.le_refl _,(fun hh=>by cases hh),(fun hh=>by cases hh),fun _=>rfl,fun hne=> ?_⟩;exact absurd (List.eq_nil_of_length_eq_zero e2) hne
 ·refine⟨some ⟨g,0,none⟩,es.length,cap,by rw[e,e1],rfl,e4,(fun hh=>by cases hh),(fun hh=>by cases hh),(fun hh=>by cases hh),fun _=>⟨⟨g,0,none⟩,sz,rfl,heap_lt e3,hout g (by rw[e1];rfl), ?_⟩⟩;refine Gc fun k el hel=> ?_;obtain⟨u,g1,g2,g3⟩:=GM hf hel;refine⟨u,RelC.keep hk _ _ g1,g2,fun j u' hu=> ?_⟩;rw[D7,cell_of_row w g _ cur et (0,0) e3];have h8:=g3 j u' hu;rw[←e7,List.getElem?_take]at h8;split at h8
  ·simpa using h8
  ·cases h8
theorem OP{ob:Nat→Ob}{M:MM}:∀{cvs:List CV} {vs:List Value},AE w M z ob (cvs.map .c) vs→RelL w M cvs vs
 | [],vs,h=>h
 |c::cvs,vs,h=>by
  obtain⟨v,vs',rfl,h1,h2⟩:=h;exact RelL.cons h1 (OP h2)
theorem Vu(h:SR P G w0 M0 n st a w z){id:Nat}(hI:¬w0.le.I id){cvs:List CV}(hob:st.ob id=.box (cvs.map .c)){v:Value}(hv:As w (Am M0 z st.ob) z st.ob (.ptr id 0) v):RelC w (Am M0 z (kill [id] st).ob) (.wp cvs) v:=by
 have hless:∀g,Am M0 z (kill [id] st).ob g→Am M0 z st.ob g:=fun g hg=>Or.imp _root_.id IX hg;have hk:Bp w (Am M0 z st.ob) w (Am M0 z (kill [id] st).ob):=⟨Nat.le_refl _,fun _ _ _=>rfl,fun g _ hg=>hless g hg,rfl⟩;obtain⟨hlive,g0,e0,e⟩:=hv
 have hout:∀g,blk (z.σ id)=some g→¬Am M0 z (kill [id] st).ob g:=fun g hb hm=>by
  rcases hm with hm|⟨id',hl',hb'⟩
  ·exact h.out hlive hb hI hm
  ·have hl2:=Fe.1 hl';have hne:id≠id':=fun e=>hl2.1 (by simp[e]);exact h.apart id id' g hne hlive hl2.2 hb hb'
 have ho:=h.ob id;rw[hob]at ho;obtain⟨g,ty,vs,e1,e2,e3⟩:=ho;rw[e0]at e1;cases e1;unfold RelC;exact⟨g0,ty,vs,e,e2,hout g0 (by rw[e0];rfl),RelL.keep hk _ _ (OP e3)⟩
theorem Vv(h:SR P G w0 M0 n st a w z){id:Nat}(hI:¬w0.le.I id){mt:TypeId}{kt:KT}{zc:CV}{ks vs:List CV}(hob:st.ob id=.map mt kt zc ks vs){v:Value}(hv:As w (Am M0 z st.ob) z st.ob (.omap id) v):RelC w (Am M0 z (kill [id] st).ob) (.map none ks vs) v:=by
 have hless:∀g,Am M0 z (kill [id] st).ob g→Am M0 z st.ob g:=fun g hg=>Or.imp _root_.id IX hg;have hk:Bp w (Am M0 z st.ob) w (Am M0 z (kill [id] st).ob):=⟨Nat.le_refl _,fun _ _ _=>rfl,fun g _ hg=>hless g hg,rfl⟩;obtain⟨hlive,e⟩:=hv
 have hout:∀g,blk (z.σ id)=some g→¬Am M0 z (kill [id] st).ob g:=fun g hb hm=>by
  rcases hm with hm|⟨id',hl',hb'⟩
  ·exact h.out hlive hb hI hm
  ·have hl2:=Fe.1 hl';have hne:id≠id':=fun e=>hl2.1 (by simp[e]);exact h.apart id id' g hne hlive hl2.2 hb hb'
 obtain⟨hmt,ks',vs',r,ens,clk,hmp,e1,hh,h1,h2,h3,h4,h5,h6,_⟩:=H3 h hob;obtain⟨ens',hp,h1',h2'⟩:=RX hmp h1 h2;unfold RelC;refine⟨some r,by rw[e,e1],(fun hh=>by cases hh),(fun hh=>by cases hh),(fun hh=>by cases hh),fun b hb=> ?_⟩;cases hb;exact⟨hout r (by rw[e1];rfl),ens,ens',clk,hh,⟨Nj h3 h1 h4,h5,h6⟩,hp,RelL.keep hk _ _ h1',RelL.keep hk _ _ h2'⟩
end
theorem Rf{w:World}{M:MM}{v:Value}(h:RelC w M (.sl (some true) []) v):v=.slice none 0 0:=by
 unfold RelC at h;obtain⟨a,m,c,rfl,h1,_,h2,_,h3,_⟩:=h;have:=h2 rfl;subst this;have hm:m=0:=by simpa using h1
 subst hm;rw[h3 rfl]
theorem AK.own{st:St}{i id e size:Nat}(hi:st.fr i=.c (.sl (some true) []))(hn:st.ob id=.none):AK le st {fr:=upd st.fr i (.osl id),ob:=upd st.ob id (.arr e size [])}:=fun{P G w0 M0 n a w z} he h=>by
 have h1:=h.newNil (e:=e) (size:=size) hn;refine⟨_,h1.reslot (i:=i) (sv:=.osl id) ⟨by simp[upd], ?_⟩⟩;have hr:=h.fr i;rw[hi]at hr;rw[Rf hr];simp[Cz.new,upd]
theorem AE.set{P:Program}{w:World}{M:MM}{z:Cz}{ob:Nat→Ob}:∀{cs:List SV} {vs:List Value} (j:Nat) {s:SV},AE w M z ob cs vs→(∀v,vs[j]? =some v→As w M z ob s v)→AE w M z ob (cs.set j s) vs
 | [],_,_,_,h,_=>by simpa using h
 |c::cs,vs,0,s,h,k=>by
  obtain⟨v,vs',rfl,_,h2⟩:=h;exact⟨v,vs',rfl,k v rfl,h2⟩
 |c::cs,vs,j+1,s,h,k=>by
  obtain⟨v,vs',rfl,h1,h2⟩:=h;exact⟨v,vs',rfl,h1,AE.set (P:=P) j h2 (fun u hu=>k u (by simpa using hu))⟩
theorem AK.ownc{st:St}{b j id e size:Nat}{cs:List SV}(hb:st.ob b=.box cs)(hj:cs[j]? =some (.c (.sl (some true) [])))(hn:st.ob id=.none):AK le st {fr:=st.fr,ob:=upd (upd st.ob id (.arr e size [])) b (.box (cs.set j (.osl id)))}:=fun{P G w0 M0 n a w z} he h=>by
 have hne:b≠id:=fun e=>by rw[e,hn]at hb;cases hb
 have h1:=h.newNil (e:=e) (size:=size) hn;have ho:=h1.ob b;simp only[AM _ _ hne,hb]at ho;have ho0:=h.ob b;rw[hb]at ho0;obtain⟨g,ty,vs,e1,e2,e3⟩:=ho;obtain⟨g',ty',vs',e1',e2',e3'⟩:=ho0;have hσ:(z.new id (.slice none 0 0)).σ b=z.σ b:=by simp[Cz.new,upd,hne]
 rw[hσ,e1']at e1;cases e1;rw[e2']at e2;cases e2;refine⟨_,h1.reob (b:=b) (o:=.box (cs.set j (.osl id))) ?_ (by simp) (fun _ _=>⟨cs,by simp only[AM _ _ hne,hb]⟩) ⟨g,ty,vs,by rw[hσ,e1'],e2',AE.set (P:=P) j e3 fun v hv=>⟨by simp[upd], ?_⟩⟩⟩
 ·simp only[AM _ _ hne,hb];simp
 ·obtain⟨v',h3,h4⟩:=AE.get e3' hj;rw[hv]at h3;cases h3;rw[Rf h4];simp[Cz.new,upd]
theorem AK.frz{st:St}{i id e size:Nat}{es:List CV}(hI:¬le.I id)(hi:st.fr i=.osl id)(ho:st.ob id=.arr e size es):AK le st {fr:=upd (WB.kill [id] st).fr i (.c (.sl none es)),ob:=(WB.kill [id] st).ob}:=fun{P G w0 M0 n a w z} he h=>by
 have hr:=h.fr i;rw[hi]at hr;exact⟨z,(h.killed [id]).reslot (Qo h (he▸hI) ho hr)⟩
theorem AK.frzb{st:St}{i id:Nat}{cvs:List CV}(hI:¬le.I id)(hi:st.fr i=.ptr id 0)(ho:st.ob id=.box (cvs.map .c)):AK le st {fr:=upd (WB.kill [id] st).fr i (.c (.wp cvs)),ob:=(WB.kill [id] st).ob}:=fun{P G w0 M0 n a w z} he h=>by
 have hr:=h.fr i;rw[hi]at hr;exact⟨z,(h.killed [id]).reslot (Vu h (he▸hI) ho hr)⟩
theorem AK.frzm{st:St}{i id:Nat}{mt:TypeId}{kt:KT}{zc:CV}{ks vs:List CV}(hI:¬le.I id)(hi:st.fr i=.omap id)(ho:st.ob id=.map mt kt zc ks vs):AK le st {fr:=upd (WB.kill [id] st).fr i (.c (.map none ks vs)),ob:=(WB.kill [id] st).ob}:=fun{P G w0 M0 n a w z} he h=>by
 have hr:=h.fr i;rw[hi]at hr;exact⟨z,(h.killed [id]).reslot (Vv h (he▸hI) ho hr)⟩
theorem AK.frzc{st:St}{b j id e size:Nat}{cs:List SV}{es:List CV}(hI:¬le.I id)(hb:st.ob b=.box cs)(hj:cs[j]? =some (.osl id))(ho:st.ob id=.arr e size es):AK le st {fr:=(WB.kill [id] st).fr,ob:=upd (WB.kill [id] st).ob b (.box ((cs.map (A4 [id])).set j (.c (.sl none es))))}:=fun{P G w0 M0 n a w z} he h=>by
 have hne:b≠id:=fun e=>by rw[e,ho]at hb;cases hb
 have h1:=h.killed [id];have hkb:(WB.kill [id] st).ob b=.box (cs.map (A4 [id])):=by simp[WB.kill,hne,hb,Cg]
 have o1:=h1.ob b;rw[hkb]at o1;have o0:=h.ob b;rw[hb]at o0;obtain⟨g,ty,vs,e1,e2,e3⟩:=o1;obtain⟨g',ty',vs',e1',e2',e3'⟩:=o0;rw[e1']at e1;cases e1;rw[e2']at e2;cases e2;refine⟨z,h1.reob (b:=b) (by rw[hkb];simp) (by simp) (fun _ _=>⟨_,hkb⟩) ⟨g,ty,vs,e1',e2',AE.set (P:=P) j e3 fun v hv=> ?_⟩⟩;obtain⟨v',h3,h4⟩:=AE.get e3' hj;rw[hv]at h3;cases h3;exact Qo h (he▸hI) ho h4
end WB
