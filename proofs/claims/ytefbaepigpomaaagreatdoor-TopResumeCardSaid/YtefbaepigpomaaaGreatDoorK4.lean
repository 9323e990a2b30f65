/-
  Own texts. No condition of their own.
-/
import Derived.Test.YtefbaepigpomaaaGreatDoorK3
import Derived.Deep.LoopGhost
import Derived.IntWalk
import Derived.Deep.Slices
import Derived.Deep.Fields
import Derived.ChangeSame
import Derived.ChangeShapes
import Derived.ProofKit
import Derived.OpenShut
set_option linter.unusedVariables false
set_option linter.unusedSimpArgs false
open Go.IntKind (i64 u64 u8 u32)
namespace WB
open Go Go.RowKit
def bj(π:List Nat)(i:Nat):Nat:=π.idxOf i
def Jf(π:List Nat)(o:Oper):Oper:={o with after:=o.after.map fun e=>{e with on:=bj π e.on}}
def Hg(π:List Nat)(ops:Array Oper):Array Oper:=(π.filterMap fun i=>(ops[i]?).map (Jf π)).toArray
def permL(π:List Nat)(ls:List SL):List SL:=π.filterMap fun i=>ls[i]?
def Hf(π:List Nat)(L:Array Bool):Array Bool:=(π.map fun j=>L.getD j true).toArray
def D8(n:Nat)(π:List Nat):Bool:=π.length==n&&((List.range n).all fun k=>π.contains k&&Nat.blt (π.getD k n) n&&bj π (π.getD k n)==k)
theorem PF{α β:Type}{f:α->Option β}:∀{l:List α},(∀x∈l,(f x).isSome=true)->∀k:Nat,(l.filterMap f)[k]? =(l[k]?).bind f
 | [],_,k=>by simp
 |x::l,h,k=>by
  obtain⟨y,b⟩:=Option.isSome_iff_exists.1 (h x (by simp));rw[List.filterMap_cons_some b]
  cases k with
  |zero=>simp[b]
  |succ k=>simpa using PF (fun z c=>h z (by simp[c])) k
section
variable {n:Nat} {π:List Nat}
theorem Ib(b:D8 n π=true):π.length=n:=by
 simp only[D8,Ag,beq_iff_eq]at b;exact b.1
theorem N0(b:D8 n π=true){k:Nat}(d:k<n):∃j,π[k]? =some j/\j<n/\bj π j=k:=by
 have c:=Ib b;simp only[D8,Ag,As,Az]at b;have h:=b.2 k d;have e:π[k]? =some (π[k]'(by omega)):=Aj _;simp only[List.getD_eq_getElem?_getD,e,Option.getD_some,beq_iff_eq]at h;exact⟨_,e,by simpa using h.1.2,h.2⟩
theorem Ag0(b:D8 n π=true){i:Nat}(hi:i<n):i∈π:=by
 simp only[D8,Ag,As,Az]at b;simpa using(b.2 i hi).1.1
theorem KN(b:D8 n π=true){i:Nat}(hi:i<n):bj π i<n/\π[bj π i]? =some i:=by
 have h:=Ag0 b hi;have c:π.idxOf i<π.length:=List.idxOf_lt_length_iff.2 h;refine⟨by rw[<-Ib b];exact c, ?_⟩;unfold bj;rw[Aj c,List.getElem_idxOf]
theorem N1(c:D8 n π=true){j:Nat}(h:j∈π):j<n:=by
 obtain⟨k,d⟩:=List.getElem?_of_mem h;have b:k<n:=by rw[<-Ib c];exact(Af.1 d).1
 obtain⟨g,e,f,_⟩:=N0 c b;rw[d]at e;cases e;exact f
theorem QM(c:D8 n π=true){L:Array Bool}{i:Nat}(hi:i<n)(b:Bool)(e:L.size=n):(Hf π L).getD (bj π i) b=L.getD i b:=by
 obtain⟨f,d⟩:=KN c hi;simp[Hf,Ar,d,Array.getElem?_eq_getElem (show i<L.size by omega)]
theorem Agw(c:D8 n π=true){L:Array Bool}{i:Nat}(hi:i<n)(l:L.getD i true=false):Hf π (L.setIfInBounds i true)=(Hf π L).setIfInBounds (bj π i) true:=by
 obtain⟨o,g⟩:=KN c hi;have b:=Ib c;apply Array.ext_getElem?;intro k;simp only[Hf,List.getElem?_toArray,List.getElem?_map,Array.getElem?_setIfInBounds,List.size_toArray,List.length_map];by_cases f:k<n
 ·obtain⟨j,h,p,m⟩:=N0 c f;simp only[h,Aq,getD_set L i j true l];by_cases d:j=i
  ·subst d;simp[m,b,f]
  ·have:¬bj π i=k:=fun e=>d (by rw[e,h]at g;exact Option.some.inj g);simp[d,this]
 ·have e:π[k]? =none:=List.getElem?_eq_none (by omega);have:¬bj π i=k:=by omega
  simp[e,this]
end
theorem Agz{π:List Nat}{ops:Array Oper}(b:D8 ops.size π=true){i:Nat}(hi:i<ops.size):(Hg π ops)[bj π i]? =(ops[i]?).map (Jf π):=by
 obtain⟨e,d⟩:=KN b hi;simp only[Hg,List.getElem?_toArray];rw[PF (fun x c=> ?_),d]
 ·rfl
 ·have:=N1 b c;simp[Array.getElem?_eq_getElem this]
theorem Nz{π:List Nat}{ops:Array Oper}(c:D8 ops.size π=true):(Hg π ops).size=ops.size:=by
 have h:(π.filterMap fun i=>(ops[i]?).map (Jf π)).length=π.length:=by
  have:∀(l:List Nat),(∀x∈l,x<ops.size)->(l.filterMap fun i=>(ops[i]?).map (Jf π)).length=l.length:=by
   intro l
   induction l with
   |nil=>intro _;rfl
   |cons x l ih=>
    intro h;rw[List.filterMap_cons_some (b:=Jf π (ops[x]'(h x (by simp)))) (by simp[Array.getElem?_eq_getElem (h x (by simp))])];simp[ih fun y d=>h y (by simp[d])]
  exact this π fun x e=>N1 c e
 simp only[Hg,List.size_toArray,h,Ib c]
theorem Aem{π:List Nat}{ops:Array Oper}(b:D8 ops.size π=true){L:Array Bool}{g:List Nat}(r:Good ops L g):L.size=ops.size->Good (Hg π ops) (Hf π L) (g.map (bj π)):=by
 induction r with
 | @nil L h=>
  intro c;refine .nil ?_;simp only[left]at h⊢;rw[List.filter_eq_nil_iff]at h⊢;intro k p;rw[Az,Nz b]at p;obtain⟨j,F,s,y⟩:=N0 b p;have:=h j (Az.2 s);rw[<-y,QM b s _ c];exact this
 | @cons L i g hi hL he r ih=>
  intro c;have t:=KN b hi;refine .cons (by rw[Nz b];exact t.1) (by rw[QM b hi _ c];exact hL) ?_ ?_
  ·intro o' d I f v;rw[Agz b hi]at d;obtain⟨o,u,rfl⟩:=Aa.1 d;simp only[Jf,Array.mem_map]at f;obtain⟨e,l,rfl⟩:=f;have m:=he o u e l v
   have x:e.on<ops.size:=by
    rw[<-c];rw[Ar]at m;by_cases q:e.on<L.size
    ·exact q
    ·simp[Array.getElem?_eq_none (Nat.le_of_not_lt q)]at m
   rw[QM b x _ c];exact m
  ·rw[<-Agw b hi hL];exact ih (by simp[c])
section
variable {P:Program} {E:ah} {ops:Array Oper} {A D:List Nat} {ls:List SL}
theorem Zs(h:(ops.toList.zipIdx.all fun p=>p.1.after.all fun e=> !(Region.binds .any e)||decide (e.on<p.2))=true):∀i o,ops[i]? =some o->∀e∈o.after,Region.binds .any e=true->e.on<i:=by
 intro i o c e d f;rw[As]at h
 have b:(o,i)∈ops.toList.zipIdx:=by
  rw[List.mem_zipIdx_iff_getElem?];simpa using c
 have:=h _ b;rw[Array.all_eq_true']at this;have:=this e d;simpa[f]using this
theorem left_all(n:Nat):left n (Array.replicate n false)=List.range n:=by
 simp only[left];rw[List.filter_eq_self];intro i hi;have:=Az.1 hi;simp[Ar,this]
theorem Px(b:ls.length=ops.size)(s:Dt P ops A D ls=true){st st':St}(m:Cn E (some D) ls st=some st'){r:List Nat}(F:Good ops (Array.replicate ops.size false) r):
  Cv E (some D) ls r st=some st':=by
 simp only[Dt,Ag]at s;obtain⟨⟨⟨⟨I,d⟩,q⟩,e⟩,g⟩:=s;have m:=QK ls [] (by simp) d m;refine NH (A:=A) _ ?_;refine PQ b ?_ F ?_ (by simp) ?_ ?_
 ·intro j f i p;rw[As]at g;have:=g j (Az.2 f);rw[As]at this;have:=this i (Az.2 p);rw[Ak]at this;rcases this with h|h
  ·rw[FT ops f]at h;exact .inl (GY ops f h)
  ·refine .inr ?_;split at h
   ·rename_i x y u t;exact⟨x,y,u,t,h⟩
   ·cases h
 ·intro i o hi;exfalso;rw[Ar,Array.getElem?_replicate]at hi;split at hi<;>cases hi
 ·intro k _ l v c j f;rw[As]at e;have:=e l (List.mem_of_getElem? v);simpa[c,f]using this
 ·rw[left_all,List.range_eq_range',<-b];have:=MZ (E:=E) (A:=A) (D:=D) ls [] st;simp only[Ay,Av]at this;rw[this];exact m
def Vq(ops:Array Oper)(n i:Nat):Nat:=((List.range n).find? fun j=>((ops[j]?).map fun o=>o.after.any fun e=>Region.binds .any e&&Nat.beq e.on i).getD false).getD n
def Qh(ops:Array Oper)(ls:List SL):Nat->List Nat->List Nat
 |0,π=>π.reverse
 |k+1,π=>
  let ready:=(List.range ls.length).filter fun i=> !π.contains i&&((ops[i]?).map fun o=>o.after.all fun e=> !(Region.binds .any e)||π.contains e.on).getD false
  match ready.find? fun i=>(ls[i]?).all fun l=>match l.op with| .load .. =>false|_=>true with
  |some i=>Qh ops ls k (i::π)
  |none=>match ready with
   |i::r=>Qh ops ls k (r.foldl (fun i j=>if Nat.blt (Vq ops ls.length j) (Vq ops ls.length i)=true then j else i) i::π)
   | []=>π.reverse
def Kl(ops:Array Oper)(ls:List SL):List Nat:=Qh ops ls ls.length []
def Zr(ops:Array Oper):Bool:=ops.toList.zipIdx.all fun p=>p.1.after.all fun e=> !(Region.binds .any e)||decide (e.on<p.2)
def Pv(P:Program)(ops:Array Oper)(π A D:List Nat)(ls:List SL):Bool:=D8 ops.size π&&Zr ops&&Dt P (Hg π ops) A D (permL π ls)
theorem PP{L:Array Bool}{c:List Nat}(d:Good ops L c):∀i∈c,i<ops.size:=by
 induction d with
 |nil h=>intro i hi;cases hi
 |cons hi _ _ _ ih=>
  intro j b;rcases List.mem_cons.1 b with rfl|b
  ·exact hi
  ·exact ih j b
theorem Agx{π:List Nat}(c:ls.length=ops.size)(b:D8 ops.size π=true){i:Nat}(hi:i<ops.size):(permL π ls)[bj π i]? =ls[i]? :=by
 obtain⟨f,e⟩:=KN b hi;unfold permL;rw[PF (fun x d=> ?_),e]
 ·rfl
 ·have:=N1 b d;simp[Aj (show x<ls.length by omega)]
theorem Agy{π:List Nat}(b:ls.length=ops.size)(c:D8 ops.size π=true):(permL π ls).length=ops.size:=by
 have:∀(l:List Nat),(∀x∈l,x<ls.length)->(l.filterMap fun i=>ls[i]?).length=l.length:=by
  intro l
  induction l with
  |nil=>intro _;rfl
  |cons x l ih=>
   intro h;rw[List.filterMap_cons_some (Aj (h x (by simp)))];simp[ih fun y d=>h y (by simp[d])]
 rw[<-Ib c];exact this π fun x e=>by rw[b];exact N1 c e
theorem Yf{π:List Nat}(b:ls.length=ops.size)(d:D8 ops.size π=true):∀(c:List Nat) (st:St),(∀i∈c,i<ops.size)->Cv E (some D) (permL π ls) (c.map (bj π)) st=Cv E (some D) ls c st
 | [],_,_=>rfl
 |i::c,st,h=>by
  simp only[List.map_cons,Cv,Agx b d (h i (by simp))];split
  ·congr 1
   funext s;exact Yf b d c s fun j e=>h j (by simp[e])
  ·rfl
theorem Aaq{n:Nat}(o:A5 (Dg P n ops) ops.toList=some ls){π:List Nat}(f:Pv P ops π A D ls=true){st st':St}(l:Cn E (some D) (permL π ls) st=some st')(t:Nat):
  Cv E (some D) ls (Region.schedule (P.follows .mixedOrders) ops t) st=some st':=by
 have b:ls.length=ops.size:=by rw[DF o];simp
 simp only[Pv,Ag]at f;obtain⟨⟨c,p⟩,f⟩:=f
 have m:P.follows .mixedOrders=true:=by
  have h:=f;simp only[Dt,Ag]at h;exact h.1.1.1.1
 simp only[Region.schedule,m,Bool.true_or,if_true,Region.linearise];have i:=lin_good (Zs p) ops.size t (Array.replicate ops.size false) (by simp) (by rw[left_all];simp);have d:=Aem c i (by simp)
 have q:Hf π (Array.replicate ops.size false)=Array.replicate (Hg π ops).size false:=by
  rw[Nz c];apply Array.ext_getElem?;intro k;simp only[Hf,List.getElem?_toArray,List.getElem?_map,Array.getElem?_replicate];by_cases g:k<ops.size
  ·obtain⟨j,s,r,_⟩:=N0 c g;simp[s,g,Ar,r]
  ·have e:π[k]? =none:=List.getElem?_eq_none (by rw[Ib c];omega);simp[e,g]
 rw[q]at d;have h:=Px (E:=E) (by rw[Agy b c,Nz c]) f l d;rw[Yf b c _ _ (PP i)]at h;exact h
end
def Pq(P:Program)(ops:Array Oper)(A D:List Nat)(ls:List SL)(c:Nat):Bool:=
 Dt P ops A D ls&&Dt P (ops.extract 0 c) A D (ls.take c)&&Nat.blt c ops.size&&
 (List.range ls.length).all fun j=>Nat.blt j c||(List.range c).all fun i=>((DN ops ls.length).getD j 0).testBit i
def Aah(ls:List SL):Option Nat:=
 match ls.findIdx? fun l=>l.op.calls with
 |some c=>if(ls.take c).any fun l=>match l.op with| .mkmap .. =>true|_=>false then some c else none
 |none=>none
def firstC(c n:Nat):Array Bool:=Array.replicate c true++Array.replicate (n-c) false
theorem PH{c n:Nat}(h:c<=n):(firstC c n).size=n:=by simp[firstC];omega
theorem ID{c n j:Nat}{b:Bool}(d:j<n)(e:c<=n):(firstC c n).getD j b=decide (j<c):=by
 unfold firstC;rw[Ar];by_cases h:j<c
 ·rw[Array.getElem?_append_left (by simpa using h)];simp[h]
 ·rw[Array.getElem?_append_right (by simpa using Nat.le_of_not_lt h)];rw[Array.getElem?_replicate,Ao (by rw[Array.size_replicate];omega),Al h];rfl
section
variable {P:Program} {E:ah} {n:Nat} {ops:Array Oper} {A D:List Nat} {ls:List SL}
theorem Gw{α:Type}{L:Array α}{c j:Nat}(b:j<c):(L.extract 0 c)[j]? =L[j]? :=by
 rw[Array.getElem?_extract];split
 ·simp
 ·rename_i h;rw[Array.getElem?_eq_none (by omega)]
theorem PO{c N:Nat}(O:c<ops.size)(v:∀i o,ops[i]? =some o->∀e∈o.after,Region.binds .any e=true->e.on<i)(U:∀j,c<=j->j<ops.size->∀i<c,Gl ops N i j=true){L:Array Bool}{X:List Nat}(Z:Good ops L X):
  L.size=ops.size->(∀j,c<=j->j<ops.size->L.getD j true=false)->(∀i o,L.getD i false=true->ops[i]? =some o->∀e∈o.after,Region.binds .any e=true->L.getD e.on false=true)->
  ∃l g,X=l++g/\Good (ops.extract 0 c) (L.extract 0 c) l/\Good ops (firstC c ops.size) g:=by
 induction Z with
 | @nil L' h=>
  intro F m _;exfalso
  have:c∈left ops.size L':=by
   unfold left;rw[List.mem_filter,Az];exact⟨O,by rw[m c (Nat.le_refl _) O];rfl⟩
  rw[h]at this;cases this
 | @cons L i X hi hL he Z ih=>
  intro F m d;have t:(ops.extract 0 c).size=c:=by simp;omega
  by_cases s:i<c
  ·obtain⟨l,g,e1,e2,e3⟩:=ih (by simp[F]) (fun j u Y=>by
    rw[getD_set L i j true hL,An (by omega)]
    exact m j u Y) (fun k o p y e b T=>by
    rw[getD_set L i _ _ hL]at p⊢;split
    ·rfl
    ·by_cases J:k=i
     ·subst J;exact he o y e b T
     ·rw[An J]at p
      exact d k o p y e b T)
   refine⟨i::l,g,by rw[e1];rfl,.cons (by rw[t];exact s) ?_ ?_ ?_,e3⟩
   ·rw[Ar,Gw s,<-Ar];exact hL
   ·intro o y e b T;rw[Gw s]at y;have f:=he o y e b T;have x:=v i o y e b T;rw[Ar,Gw (by omega),<-Ar];exact f
   ·have hx:(L.extract 0 c).setIfInBounds i true=(L.setIfInBounds i true).extract 0 c:=by
     apply Array.ext_getElem?;intro j;by_cases u:j<c
     ·rw[Gw u,Array.getElem?_setIfInBounds,Array.getElem?_setIfInBounds,Gw u];have:i<L.size:=by omega
      have x:i<(L.extract 0 c).size:=by simp;omega
      by_cases q:i=j
      ·rw[Ao q,Ao q,Ao x,Ao this]
      ·rw[An q,An q]
     ·rw[Array.getElem?_eq_none (by simp;omega),Array.getElem?_eq_none (by simp;omega)]
    rw[hx];exact e2
  ·have V:∀k,k<c->L.getD k false=true:=fun k p=>LI d N k i he (U i (Nat.le_of_not_lt s) hi k p)
   have I:∀k,k<c->L.getD k true=true:=fun k p=>by
    have f:=V k p;rw[Ar]at f⊢;rw[Array.getElem?_eq_getElem (by omega)]at f⊢;simpa using f
   have hLe:L=firstC c ops.size:=by
    apply Array.ext_getElem?;intro j;by_cases u:j<ops.size
    ·have f:(firstC c ops.size).getD j true=decide (j<c):=ID u (Nat.le_of_lt O)
     have x:L.getD j true=decide (j<c):=by
      by_cases r:j<c
      ·rw[I j r,Am r]
      ·rw[m j (Nat.le_of_not_lt r) u,Al r]
     rw[Ar]at f x;have s1:=PH (Nat.le_of_lt O);rw[Array.getElem?_eq_getElem (by omega)]at f x⊢;rw[Array.getElem?_eq_getElem (by omega)];simp at f x;rw[f,x]
    ·have s1:=PH (Nat.le_of_lt O);rw[Array.getElem?_eq_none (by omega),Array.getElem?_eq_none (by omega)]
   refine⟨[],i::X,rfl,.nil ?_, ?_⟩
   ·rw[t];unfold left;rw[List.filter_eq_nil_iff];intro k p;have M:=Az.1 p;rw[Ar,Gw M,<-Ar,I k M];decide
   ·rw[<-hLe];exact .cons hi hL he Z
theorem P7{D:Option (List Nat)}{c:Nat}:∀(b:List Nat) (st:St),(∀i∈b,i<c)->Cv E D (ls.take c) b st=Cv E D ls b st
 | [],_,_=>rfl
 |i::b,st,h=>by
  simp only[Cv];rw[List.getElem?_take,Ao (h i (by simp))]
  cases ls[i]? with
  |none=>rfl
  |some l=>
   simp only
   congr 1
   funext s;exact P7 b s fun j d=>h j (by simp[d])
theorem Ah7(f:ls.length=ops.size){c:Nat}(p:c<=ops.size)(hd:Dt P ops A D ls=true){st st':St}(hm:∀l∈ls.drop c,l.own A=none)(L:Cn E (some D) (ls.drop c) st=some st'){X:List Nat}(hg:Good ops (firstC c ops.size) X):
  Cv E (some D) ls X st=some st':=by
 simp only[Dt,Ag]at hd;obtain⟨⟨⟨⟨_,Y⟩,d⟩,q⟩,v⟩:=hd
 have U:∀i o,ops[i]? =some o->∀e∈o.after,Region.binds .any e=true->e.on<i:=by
  intro i o I e T V;rw[As]at d
  have r:(o,i)∈ops.toList.zipIdx:=by
   rw[List.mem_zipIdx_iff_getElem?];simpa using I
  have:=d _ r;rw[Array.all_eq_true']at this;have:=this e T;simpa[V]using this
 have t:∀(b:List SL) {s s':St},(∀l∈b,l.own A=none)->Cn E (some D) b s=some s'->cE E A D b s=some s':=by
  intro b
  induction b with
  |nil=>intro s s' _ h;exact h
  |cons l b ih=>
   intro s s' Z h;simp only[Cn,Ab]at h;obtain⟨s1,F,h2⟩:=h;have M:bd A l s=true:=by unfold bd;rw[Z l (by simp)]
   simp only[cE,FM M F,Ap];exact ih (fun x J=>Z x (by simp[J])) h2
 have L:=t _ hm L;refine NH (A:=A) _ ?_;refine PQ f ?_ hg ?_ (PH p) ?_ ?_
 ·intro j u i O;rw[As]at v;have:=v j (Az.2 u);rw[As]at this;have:=this i (Az.2 O);rw[Ak]at this;rcases this with h|h
  ·rw[FT ops u]at h;exact .inl (GY ops u h)
  ·refine .inr ?_;split at h
   ·rename_i x y J hy;exact⟨x,y,J,hy,h⟩
   ·cases h
 ·intro i o hi I e T V;have N:i<ops.size:=(Array.getElem?_eq_some_iff.1 I).1;rw[ID N p]at hi;have F:=U i o I e T V;have h2:i<c:=by simpa using hi
  rw[ID (by omega) p];simp;omega
 ·intro k _ l hl g j u;rw[As]at q;have:=q l (List.mem_of_getElem? hl);simpa[g,u]using this
 ·have m:left ops.size (firstC c ops.size)=List.range' c (ops.size-c):=by
   unfold left;rw[List.range_eq_range',show ops.size=c+(ops.size-c) by omega,<-List.range'_append_1,List.filter_append]
   have e1:((List.range' 0 c).filter fun i=> !(firstC c (c+(ops.size-c))).getD i true)= []:=by
    rw[List.filter_eq_nil_iff];intro i hi;have:=(List.mem_range'_1.1 hi).2;rw[ID (by omega) (by omega),Am (by omega)];decide
   have e2:((List.range' (0+c) (ops.size-c)).filter fun i=> !(firstC c (c+(ops.size-c))).getD i true)=List.range' (0+c) (ops.size-c):=by
    rw[List.filter_eq_self];intro i hi;have:=(List.mem_range'_1.1 hi);rw[ID (by omega) (by omega),Al (by omega)];rfl
   rw[e1,e2];simp
  rw[m];have F:=MZ (E:=E) (A:=A) (D:=D) (ls.drop c) (ls.take c) st;rw[List.take_append_drop,List.length_take,List.length_drop,Nat.min_eq_left (by omega),f]at F;rw[F];exact L
variable {w0:WL} {M0:MM}
theorem P8(hE:aV P E){D:Option (List Nat)}(e:A5 (Dg P n ops) ops.toList=some ls){Q:Exit->Act->World->Prop}{j:List Nat}:∀{c:List Nat} {st st':St} {a:Act} {w:World} {z:Cz},SR P E.G w0 M0 n st a w z->
  Cv E D ls c st=some st'->(∀g w' z',SR P E.G w0 M0 n st' g w' z'->wpOps P ops Q j g w')->wpOps P ops Q (c++j) a w
 | [],st,st',a,w,z,h,hv,hK=>by
  simp only[Cv,Ac]at hv;subst hv;exact hK _ _ _ h
 |i::c,st,st',a,w,z,h,hv,hK=>by
  simp only[Cv]at hv;split at hv<;>(try cases hv;done);rename_i l m;simp only[Ab]at hv;obtain⟨o,r,q⟩:=hv;have b:=DF e;have hi:i<ops.toList.length:=by rw[<-b];exact(Af.1 m).1
  have k:ops.toList[i]? =some (ops.toList[i]):=Aj hi;obtain⟨l',f,s⟩:=Jz e k;rw[m]at f;simp only[Ac]at f;subst f;have d:ops[i]? =some (ops.toList[i]):=by rw[<-Array.getElem?_toList];exact k
  exact M6 hE h d s r fun g w' z' p=>P8 hE e p q hK
theorem U6(hE:aV P E){id c:Nat}(r:A5 (Dg P n ops) ops.toList=some ls)(hd:Pq P ops A D ls c=true)(hm:(ls.drop c).all (fun l=>(l.own A).isNone)=true){Q:Exit->Act->World->Prop}{st q:St}{a:Act}{w:World}{z:Cz}(h:SR P E.G w0 M0 n st a w z)(h1:Cn E (some D) (ls.take c) st=some q)
  (K:∀L w' z',SR P E.G w0 M0 n q L w' z'->∃p z2 m,SR P E.G w0 M0 n p L w' z2/\Cn E (some D) (ls.drop c) p=some m/\∀J s M,SR P E.G w0 M0 n m J s M->Q .normal J s):(Code.region id ops true).wp P Q a w:=by
 simp only[Pq,Ag]at hd;obtain⟨⟨⟨F,Y⟩,Z⟩,k⟩:=hd;have g:c<ops.size:=Ai Z;have d:ls.length=ops.size:=by rw[DF r];simp
 have f:=F;simp only[Dt,Ag]at f;obtain⟨⟨⟨⟨U,_⟩,b⟩,_⟩,_⟩:=f
 have I:∀i o,ops[i]? =some o->∀e∈o.after,Region.binds .any e=true->e.on<i:=by
  intro i o ho e he hb;rw[As]at b
  have v:(o,i)∈ops.toList.zipIdx:=by
   rw[List.mem_zipIdx_iff_getElem?];simpa using ho
  have:=b _ v;rw[Array.all_eq_true']at this;have:=this e he;simpa[hb]using this
 refine wp_region_draw fun t=> ?_
 have X:Good ops (Array.replicate ops.size false) (Region.schedule (P.follows .mixedOrders) ops t):=by
  simp only[Region.schedule,U,Bool.true_or,if_true,Region.linearise];exact lin_good I ops.size t _ (by simp) (by rw[left_all];simp)
 obtain⟨u,is2,e1,g1,g2⟩:=PO (N:=ls.length) g I (fun j hj y i hi=>by
  rw[As]at k;have:=k j (Az.2 (by omega));rw[Ak]at this;rcases this with h|h
  ·have:j<c:=Ai h;omega
  ·rw[As]at h;have:=h i (Az.2 hi);rw[FT ops (show j<ls.length by omega)]at this
   exact GY ops (by omega) this) X (by simp) (fun j _ y=>by simp[Ar,y]) (fun i o hi=>by
  exfalso;rw[Ar,Array.getElem?_replicate]at hi
  split at hi<;>cases hi)
 rw[e1]
 have hx:(Array.replicate ops.size false).extract 0 c=Array.replicate (ops.extract 0 c).size false:=by
  apply Array.ext_getElem?;intro j;simp only[Array.getElem?_replicate,Array.size_extract];by_cases hj:j<c
  ·rw[Gw hj,Array.getElem?_replicate,Ao (by omega),Ao (by omega)]
  ·rw[Array.getElem?_eq_none (by simp;omega),An (by omega)]
 rw[hx]at g1;have x:=PP g1
 have T:Cv E (some D) ls u st=some q:=by
  rw[<-P7 (c:=c) u st (fun i hi=>by have:=x i hi;simp at this;omega)];exact Px (by simp[d]) Y h1 g1
 have V:SR P E.G w0 M0 n st a {w with drawn:=w.drawn+1} z:=h.grow ⟨rfl,rfl,rfl,Nat.le_refl _,fun _ _=>rfl⟩;refine P8 hE r V T fun L w' z' hS=> ?_;obtain⟨p,z2,m,k1,k2,k3⟩:=K L w' z' hS
 have O:=Ah7 d (Nat.le_of_lt g) F (fun l hl=>by
  have:=As.1 hm l hl
  simpa using this) k2 g2
 exact HJ hE r k1 O k3
theorem Ael{c:Nat}(o:ops.size=c+1){d:List Nat}(f:Good ops (firstC c ops.size) d):d= [c]:=by
 have at_:∀{j:Nat} {b:Bool},j<ops.size->(firstC c ops.size).getD j b=decide (j<c):=fun k=>ID k (by omega)
 cases f with
 |nil h=>
  exfalso
  have:c∈left ops.size (firstC c ops.size):=by
   unfold left;rw[List.mem_filter,Az];exact⟨by omega,by rw[at_ (by omega),Al (by omega)];rfl⟩
  rw[h]at this;cases this
 |cons hi hL he f=>
  rename_i i d
  have e:i=c:=by
   rw[at_ hi]at hL;have:=of_decide_eq_false hL;omega
  subst e;have l:(firstC i ops.size).getD i true=false:=hL
  cases f with
  |nil h=>rfl
  |cons hi2 hL2 _ _=>
   rename_i m g;exfalso;rw[getD_set _ _ _ _ l]at hL2;split at hL2
   ·cases hL2
   ·rw[at_ hi2]at hL2;have:=of_decide_eq_false hL2;omega
def Qe(P:Program)(ops:Array Oper)(A D:List Nat)(ls:List SL):Bool:=
 P.follows .mixedOrders&&(ops.toList.zipIdx.all fun p=>p.1.after.all fun e=> !(Region.binds .any e)||decide (e.on<p.2))&&
 Dt P (ops.extract 0 (ls.length-1)) A D (ls.take (ls.length-1))&&Nat.blt (ls.length-1) ops.size&&
 (List.range (ls.length-1)).all fun i=>((DN ops ls.length).getD (ls.length-1) 0).testBit i
theorem VZ(hE:aV P E){id:Nat}(m:A5 (Dg P n ops) ops.toList=some ls)(U:Qe P ops A D ls=true){Q:Exit->Act->World->Prop}{st d:St}{a:Act}{w:World}{z:Cz}(h:SR P E.G w0 M0 n st a w z)(h1:Cn E (some D) (ls.take (ls.length-1)) st=some d)
  (K:∀v w' z',SR P E.G w0 M0 n d v w' z'->wpOps P ops Q (List.range' (ls.take (ls.length-1)).length (ls.drop (ls.length-1)).length) v w'):(Code.region id ops true).wp P Q a w:=by
 simp only[Qe,Ag]at U;obtain⟨⟨⟨⟨y,b⟩,L⟩,M⟩,u⟩:=U;have r:ls.length-1<ops.size:=Ai M;have p:ls.length=ops.size:=by rw[DF m];simp
 have g:ops.size=(ls.length-1)+1:=by omega
 have Y:List.range' (ls.take (ls.length-1)).length (ls.drop (ls.length-1)).length= [ls.length-1]:=by
  rw[List.length_take,List.length_drop,Nat.min_eq_left (by omega),show ls.length-(ls.length-1)=1 by omega];rfl
 rw[Y]at K;generalize hcdef:ls.length-1=c at*
 have s:∀i o,ops[i]? =some o->∀e∈o.after,Region.binds .any e=true->e.on<i:=by
  intro i o Z e he hb;rw[As]at b
  have k:(o,i)∈ops.toList.zipIdx:=by
   rw[List.mem_zipIdx_iff_getElem?];simpa using Z
  have:=b _ k;rw[Array.all_eq_true']at this;have:=this e he;simpa[hb]using this
 refine wp_region_draw fun t=> ?_
 have J:Good ops (Array.replicate ops.size false) (Region.schedule (P.follows .mixedOrders) ops t):=by
  simp only[Region.schedule,y,Bool.true_or,if_true,Region.linearise];exact lin_good s ops.size t _ (by simp) (by rw[left_all];simp)
 obtain⟨f,V,e1,O,g2⟩:=PO (N:=ls.length) r s (fun j T q i hi=>by
  have F:j=c:=by omega
  subst F;have:=As.1 u i (Az.2 hi);rw[FT ops (show j<ls.length by omega)]at this
  exact GY ops (by omega) this) J (by simp) (fun j _ q=>by simp[Ar,q]) (fun i o hi=>by
  exfalso;rw[Ar,Array.getElem?_replicate]at hi
  split at hi<;>cases hi)
 rw[e1,Ael g g2]
 have X:(Array.replicate ops.size false).extract 0 c=Array.replicate (ops.extract 0 c).size false:=by
  apply Array.ext_getElem?;intro j;simp only[Array.getElem?_replicate,Array.size_extract];by_cases T:j<c
  ·rw[Gw T,Array.getElem?_replicate,Ao (by omega),Ao (by omega)]
  ·rw[Array.getElem?_eq_none (by simp;omega),An (by omega)]
 rw[X]at O;have l:=PP O
 have x:Cv E (some D) ls f st=some d:=by
  rw[<-P7 (c:=c) f st (fun i hi=>by have:=l i hi;simp at this;omega)];exact Px (by simp[p];try omega) L h1 O
 have I:SR P E.G w0 M0 n st a {w with drawn:=w.drawn+1} z:=h.grow ⟨rfl,rfl,rfl,Nat.le_refl _,fun _ _=>rfl⟩;exact P8 hE m I x fun v w' z' hS=>K v w' z' hS
end
theorem Aie{op:aa}(h:op.simple=true):op.hard=false/\op.makes=false/\op.calls=false:=by
 cases op<;>first|exact⟨rfl,rfl,rfl⟩|cases h
theorem YG{l:SL}{k:Nat}(h:l.via=some k):∃n x,l.op=.store n (.t k) x/\l.guard=none/\l.dst=none:=by
 unfold SL.via at h;split at h<;>(try cases h;done);rename_i n j x d c b;cases h;exact⟨n,x,d,c,b⟩
theorem Ak5{l:SL}(h:l.op.simple=true):l.via=none:=by
 cases b:l.via with
 |none=>rfl
 |some k=>
  obtain⟨n,x,c,_⟩:=YG b;rw[c]at h;cases h
def M9(x y:SL):Bool:=
 (x.via.isNone||y.via.isNone)&&(x.dst.all fun i=> !y.looks.contains i&& !(match y.dst with|some j=>j==i|none=>false))&&(y.dst.all fun i=> !x.looks.contains i)
def Pw(P:Program)(ops:Array Oper)(ls:List SL):Bool:=
 P.follows .mixedOrders&&(ls.any fun l=>l.via.isSome)&&(ls.all fun l=>l.via.isSome||l.op.simple)&&
 (ops.toList.zipIdx.all fun p=>p.1.after.all fun e=> !(Region.binds .any e)||decide (e.on<p.2))&&
 ((List.range ls.length).all fun j=>(List.range j).all fun i=>((DN ops ls.length).getD j 0).testBit i||match ls[i]?,ls[j]? with
   |some x,some y=>M9 x y
   |_,_=>false)
section
variable {P:Program} {E:ah} {n:Nat} {ops:Array Oper} {W:List (Nat×Nat)} {ls:List SL}
def Fg(o o':Ob):Prop:=o'=o\/∃cs b bt,o=.box cs bt/\o'=.box b bt/\b<+:cs
theorem Fg.trans{a b c:Ob}(h:Fg a b)(k:Fg b c):Fg a c:=by
 rcases h with rfl|⟨cs,cs',bt,rfl,rfl,h1⟩
 ·exact k
 ·rcases k with rfl|⟨ds,ds',bt',e,rfl,k1⟩
  ·exact .inr ⟨_,_,_,rfl,rfl,h1⟩
  ·cases e;exact .inr ⟨_,_,_,rfl,rfl,k1.trans h1⟩
theorem Aj6(k:Nat)(o:Ob):Fg o (DT k o):=by
 cases o with
 |box cs bt=>exact .inr ⟨cs,_,bt,rfl,rfl,List.take_prefix _ _⟩
 |_=>exact .inl rfl
theorem Vu(i:Nat):∀(W:List (Nat×Nat)) (o:Ob),Fg o (W.foldl (fun o p=>if p.1=i then DT p.2 o else o) o)
 | [],o=>.inl rfl
 |p::W,o=>by
  simp only[List.foldl_cons];refine Fg.trans ?_ (Vu i W _);split
  ·exact Aj6 _ _
  ·exact .inl rfl
theorem JN(W:List (Nat×Nat))(ob:Nat->Ob)(i:Nat):Fg (ob i) (Eb W ob i):=Vu i W _
theorem YA(k m:Nat)(o:Ob):DT k (DT m o)=DT m (DT k o):=by
 cases o with
 |box cs bt=>simp only[DT,List.take_take,Nat.min_comm]
 |_=>rfl
theorem PK{i k:Nat}:∀{W:List (Nat×Nat)} {c b:Ob},(i,k)∈W->DT k c=DT k b->W.foldl (fun o p=>if p.1=i then DT p.2 o else o) c=W.foldl (fun o p=>if p.1=i then DT p.2 o else o) b
 |p::W,c,b,h,he=>by
  simp only[List.foldl_cons];rcases List.mem_cons.1 h with rfl|h
  ·simp only[if_true,he]
  ·split
   ·refine PK h ?_;rw[YA,he,YA]
   ·exact PK h he
theorem Aj7{n o k:Nat}{ob c:Ob}{v:SV}(h:Dl n o ob v=some c)(b:k<=o):DT k c=DT k ob:=by
 unfold Dl at h;split at h
 ·rename_i cs bt
  split at h<;>split at h<;>first
   |cases h;done
   |(rename_i d
     cases h;simp only[DT,FY,Ob.box.injEq,and_true]
     first
      |exact List.take_set_of_le b
      |(rw[Ax,List.take_append_of_le_length (by rw[List.length_take];omega),List.take_take,Nat.min_eq_left b]))
 ·cases h
theorem U7{n id o:Nat}{ob:Nat->Ob}{c:Ob}{v:SV}(b:de W id o=true)(h:Dl n o (ob id) v=some c):Eb W (ac ob id c)=Eb W ob:=by
 unfold de at b;rw[List.any_eq_true]at b;obtain⟨⟨q,k⟩,f,e⟩:=b;simp only[Ag]at e;obtain⟨d,g⟩:=e;have d:q=id:=Nat.eq_of_beq_eq_true d;subst d;funext i;by_cases hi:i=q
 ·subst hi;unfold Eb;rw[Be];exact PK f (Aj7 h (Ai g))
 ·unfold Eb;rw[AL _ _ hi]
theorem Mt{rd ob:Nat->Ob}(b:∀i,Fg (ob i) (rd i))(s:SV):deref rd s=deref ob s:=by
 unfold deref;split
 ·rename_i N;split
  ·rcases b N with h|⟨cs,cs',bt,h1,h2,_⟩
   ·rw[h]
   ·rw[h1,h2]
  ·rfl
 ·rfl
theorem Xh{cs b:List SV}{o:Nat}{v:SV}(h:b<+:cs)(c:b[o]? =some v):cs[o]? =some v:=by
 obtain⟨t,rfl⟩:=h;have:=(Af.1 c).1;rw[List.getElem?_append_left this];exact c
theorem Xg{cs b:List SV}{o n:Nat}(h:b<+:cs)(c:o+n<=b.length):(cs.drop o).take n=(b.drop o).take n:=by
 obtain⟨t,rfl⟩:=h;rw[List.drop_append_of_le_length (by omega),List.take_append_of_le_length (by rw[List.length_drop];omega)]
theorem Wf{rd ob:Nat->Ob}(b:∀i,Fg (ob i) (rd i)){sz:Option Nat}{s v:SV}(h:Bb rd sz s=some v):Bb ob sz s=some v:=by
 unfold Bb at h⊢;split at h
 ·exact h
 ·exact h
 ·rename_i id o;rcases b id with e|⟨cs,cs',bt,e1,e2,e3⟩
  ·rw[e]at h;exact h
  ·rw[e2]at h;simp only[e1]
   cases sz with
   |none=>exact Xh e3 h
   |some n=>
    simp only at h⊢;split at h<;>(try cases h;done);rename_i c;rw[Ao (Nat.le_trans c e3.length_le),Xg e3 c];exact h
 ·rename_i id i size o;rcases b id with e|⟨cs,cs',bt,e1,e2,e3⟩
  ·rw[e]at h;exact h
  ·rw[e2]at h;cases h
 ·cases h
theorem Rl{op:aa}(h:op.simple=true):op.cls=.val:=by
 cases op<;>first|rfl|cases h
theorem Akf{rd ob:Nat->Ob}(b:∀i,Fg (ob i) (rd i)){ρ:SO->SV}{op:aa}(c:op.simple=true){v:SV}(h:A2 rd ρ op=some v):A2 ob ρ op=some v:=by
 cases op with
 |mov x=>exact h
 |nchk x=>exact h
 |faddr off x=>
  simp only[A2,Mt b]at h⊢;exact h
 |load sz x=>
  simp only[A2,Mt b]at h⊢;exact Wf b h
 |bin op x y=>exact h
 |_=>cases c
theorem Aix{rd ob:Nat->Ob}(e:∀i,Fg (ob i) (rd i)){l:SL}(d:l.op.simple=true){fr:Nat->SV}{p:SV×Option Ob}(h:BF E l fr rd=some p):BF E l fr ob=some p:=by
 have key:∀p,AJ E rd (so E.G fr) l.dst l.op=some p->AJ E ob (so E.G fr) l.dst l.op=some p:=fun p b=>by
  unfold AJ at b⊢;rw[Rl d]at b⊢;simp only[Aa]at b⊢;obtain⟨v,g,f⟩:=b;exact⟨v,Akf e d g,f⟩
 unfold BF at h⊢;split at h
 ·exact key _ h
 ·split at h
  ·split at h
   ·rename_i c;simp only[c,if_true];exact key _ h
   ·rename_i c;simp only[c,if_false];exact h
  ·exact h
  ·cases h
theorem Rm{rd:Nat->Ob}{l:SL}(e:l.op.simple=true){st:St}:Bz E rd l st=(BF E l st.fr rd).bind (put st l.dst):=by
 have key:AM E rd st l.dst l.op=(AJ E rd (so E.G st.fr) l.dst l.op).bind (put st l.dst):=by
  unfold AM AJ;rw[Rl e];simp only;cases A2 rd (so E.G st.fr) l.op<;>rfl
 unfold Bz BF
 cases l.guard with
 |none=>exact key
 |some p=>
  obtain⟨g,d⟩:=p;simp only;generalize st.fr g=q
  cases q with
  |c v=>
   cases v with
   |bool b=>
    simp only;split
    ·exact key
    ·rfl
   |tup l=>cases l<;>rfl
   |_=>rfl
  |_=>rfl
theorem Yl{l:SL}{st:St}:A6 E none l st=Bz E st.ob l st:=rfl
theorem Gt{l:SL}(h:l.op.simple=true){st:St}:bq E W l st=(BF E l st.fr (Eb W st.ob)).bind (put st l.dst):=by
 unfold bq;rw[Ak5 h];simp only[h,if_true];exact Rm h
theorem UT{l:SL}{st s:St}(h:bq E W l st=some s):A6 E none l st=some s:=by
 cases c:l.via with
 |some k=>
  unfold bq at h;rw[c]at h;simp only at h;split at h<;>(try cases h;done);split at h
  ·exact h
  ·cases h
 |none=>
  have b:l.op.simple=true:=by
   unfold bq at h;rw[c]at h;simp only at h;split at h
   ·assumption
   ·cases h
  rw[Gt b,Ab]at h;obtain⟨p,e,d⟩:=h;rw[Yl,Rm b,Aix (fun i=>JN W st.ob i) b e];exact d
theorem UU{l:SL}{k:Nat}(h:l.via=some k):∃n x,(∀i∈x.slot,i∈l.looks)/\k∈l.looks/\l.dst=none/\∀(st s:St),bq E W l st=some s<->∃id o b,st.fr k=.ptr id o/\de W id o=true/\Dl n o (st.ob id) (so E.G st.fr x)=some b/\s={st with ob:=ac st.ob id b}:=by
 obtain⟨n,x,m,y,u⟩:=YG h;refine⟨n,x,fun i hi=>by simp[SL.looks,m,aa.slots,hi],by simp[SL.looks,m,aa.slots,SO.slot],u,fun st s=> ?_⟩
 have f:∀id o,st.fr k=.ptr id o->A6 E none l st=(Dl n o (st.ob id) (so E.G st.fr x)).map fun b=>{st with ob:=ac st.ob id b}:=by
  intro id o p;simp only[A6,y,m,AM,aa.cls,AY,D4];rw[show so E.G st.fr (.t k)=.ptr id o from p];simp only[Dl,deref];cases q:st.ob id<;>simp only[q]<;>try rfl
  generalize so E.G st.fr x=v
  cases v with
  |c cv=>cases cv<;>(simp only;split<;>rfl)
  |_=>simp only;split<;>rfl
 unfold bq;rw[h];simp only;constructor
 ·intro d;split at d<;>(try cases d;done);rename_i id o e;split at d<;>(try cases d;done);rename_i g;rw[f id o e,Aa]at d;obtain⟨b,j,r⟩:=d;exact⟨id,o,b,e,g,j,r.symm⟩
 ·rintro⟨id,o,b,e,g,j,rfl⟩
  simp only[e,g,if_true];rw[f id o e,j];rfl
theorem P3{l:SL}{st s:St}(h:bq E W l st=some s)(b:l.via=none):l.op.simple=true:=by
 unfold bq at h;rw[b]at h;simp only at h;split at h
 ·assumption
 ·cases h
theorem Rn{l:SL}(b:l.op.simple=true){fr:Nat->SV}{rd:Nat->Ob}{p:SV×Option Ob}(h:BF E l fr rd=some p):p.2=none:=by
 cases c:p.2 with
 |none=>rfl
 |some o=>
  have:=Ik h (by rw[c];rfl);rw[(Aie b).2.1]at this;cases this
theorem Jo{st:St}{d:Option Nat}{v:SV}:(st.set d v).ob=st.ob:=by cases d<;>rfl
theorem NJ{st:St}{d:Option Nat}{v:SV}{i:Nat}(hi:d≠some i):(st.set d v).fr i=st.fr i:=by
 cases d with
 |none=>rfl
 |some j=>exact AL _ _ (fun e=>hi (by rw[e]))
theorem Ajf{a b:SL}(X:M9 a b=true)(st I V:St)(h:bq E W a st=some I)(g:bq E W b I=some V):∃s,bq E W b st=some s/\bq E W a s=some V:=by
 simp only[M9,Ag,Ak,Option.isNone_iff_eq_none]at X;obtain⟨⟨t,p⟩,v⟩:=X
 have f:∀i,a.dst=some i->i∉b.looks/\b.dst≠some i:=fun i hi=>by
  rw[hi]at p;simp only[Option.all_some,Ag,Bool.not_eq_true',List.contains_eq_mem,decide_eq_false_iff_not]at p;refine⟨p.1,fun e=> ?_⟩;rw[e]at p;simp at p
 have l:∀i,b.dst=some i->i∉a.looks:=fun i hi=>by
  rw[hi]at v;simpa using v
 cases T:a.via with
 |none=>
  have has:=P3 h T;rw[Gt has,Ab]at h;obtain⟨⟨pv,J⟩,U,h⟩:=h;have M:J=none:=Rn has U;subst M
  cases y:b.via with
  |none=>
   have d:=P3 g y;rw[Gt d,Ab]at g;obtain⟨⟨qv,qo⟩,r,g⟩:=g;have hq:qo=none:=Rn d r;subst hq
   have N:I.ob=st.ob:=by
    simp only[put,Ac]at h;rw[<-h];exact Jo
   rw[N,Ga (fr':=st.fr) (fun i hi=>Dj h (fun e=>(f i e).1 hi))]at r;obtain⟨s,F,g2⟩:=Xm h g (fun i j hi hj e=>(f i hi).2 (by rw[hj,e]))
   have u:s.ob=st.ob:=by
    simp only[put,Ac]at F;rw[<-F];exact Jo
   refine⟨s,by rw[Gt d,r];exact F, ?_⟩;rw[Gt has,u,Ga (fr':=st.fr) (fun i hi=>Dj F (fun e=>l i e hi)),U];exact g2
  |some k=>
   obtain⟨m,x,L,O,hd,Y⟩:=UU (E:=E) (W:=W) y;simp only[put,Ac]at h;subst h;rw[Y]at g;obtain⟨id,o,c,q1,q2,q3,rfl⟩:=g;have q:a.dst≠some k:=fun e=>(f k e).1 O;rw[NJ q]at q1;rw[Jo,DQ x (fr':=st.fr) (fun i hi=>NJ (fun e=>(f i e).1 (L i hi)))]at q3;refine⟨_,(Y _ _).2 ⟨id,o,c,q1,q2,q3,rfl⟩, ?_⟩;rw[Gt has];simp only[U7 q2 q3,U,Ap,put,Jo];cases a.dst<;>rfl
 |some k=>
  obtain⟨m,x,L,O,hd,Z⟩:=UU (E:=E) (W:=W) T
  have y:b.via=none:=by
   rcases t with t|t
   ·rw[T]at t;cases t
   ·exact t
  have d:=P3 g y;rw[Z]at h;obtain⟨id,o,c,q1,q2,q3,rfl⟩:=h;rw[Gt d,Ab]at g;obtain⟨⟨pv,J⟩,r,g⟩:=g;simp only[U7 q2 q3]at r;have M:J=none:=Rn d r;subst M;simp only[put,Ac]at g;subst g;have q:b.dst≠some k:=fun e=>l k e O;refine⟨st.set b.dst pv, ?_,(Z _ _).2 ⟨id,o,c,by rw[NJ q];exact q1,q2, ?_, ?_⟩⟩
  ·rw[Gt d,r];rfl
  ·rw[Jo,DQ x (fr':=st.fr) (fun i hi=>NJ (fun e=>l i e (L i hi)))];exact q3
  ·rw[Jo];cases b.dst<;>rfl
def GU(W:List (Nat×Nat))(id m:Nat):Bool:=W.all fun p=> !(Nat.beq p.1 id)||Nat.ble m p.2
theorem PL{id m:Nat}{bt:Option TypeId}:∀{W:List (Nat×Nat)} {cs:List SV},GU W id m=true->m<=cs.length->∃b,W.foldl (fun o p=>if p.1=id then DT p.2 o else o) (.box cs bt)=.box b bt/\m<=b.length/\b<+:cs
 | [],cs,_,hm=>⟨cs,rfl,hm,List.prefix_rfl⟩
 |p::W,cs,h,hm=>by
  simp only[GU,List.all_cons,Ag]at h;simp only[List.foldl_cons];by_cases c:p.1=id
  ·rw[Ao c]
   have g:m<=p.2:=by
    have:=h.1;rw[c,Nat.beq_refl]at this;exact Ai (by simpa using this)
   obtain⟨b,f,e,d⟩:=PL (W:=W) (cs:=cs.take p.2) h.2 (by rw[List.length_take];omega);exact⟨b,f,e,d.trans (List.take_prefix _ _)⟩
  ·rw[An c];exact PL h.2 hm
theorem Afj{ob:Nat->Ob}{sz:Option Nat}{s v:SV}(h:Bb ob sz s=some v)(q:∀id o,s=.ptr id o->GU W id (o+sz.getD 1)=true):Bb (Eb W ob) sz s=some v:=by
 have e:∀g,Bb (Eb W ob) sz s=some g->g=v:=fun g r=>by
  have:=Wf (fun i=>JN W ob i) r;rw[h]at this;exact(Option.some.inj this).symm
 have l:=h;unfold Bb at h;split at h
 ·rw[<-l];rfl
 ·rw[<-l];rfl
 ·rename_i id o;split at h<;>(try cases h;done);rename_i cs bt c
  have j:o+sz.getD 1<=cs.length:=by
   cases sz with
   |none=>exact(Af.1 h).1
   |some n=>
    simp only at h;split at h
    ·assumption
    ·cases h
  obtain⟨d,t,p,m⟩:=PL (bt:=bt) (q id o rfl) j;have b:Eb W ob id=.box d bt:=by unfold Eb;rw[c];exact t
  unfold Bb;simp only[b]
  cases sz with
  |none=>
   have k:o<d.length:=p;have:=Xh m (Aj k);simp only at h;rw[h]at this;simp only[Aj k];exact this.symm
  |some n=>
   have f:o+n<=d.length:=p;simp only at h⊢;rw[Ao (show o+n<=cs.length from j),Xg m f]at h;rw[Ao f];exact h
 ·rename_i id i size o;split at h<;>(try cases h;done);rename_i c
  have b:Eb W ob id=ob id:=by
   rcases JN W ob id with h1|⟨cs,d,bt,h1,h2,_⟩
   ·exact h1
   ·rw[c]at h1;cases h1
  unfold Bb;simp only[b,c];exact h
 ·cases h
theorem Akg{ob:Nat->Ob}{ρ:SO->SV}{op:aa}(b:op.simple=true)(c:∀sz x,op=.load sz x->∀id o,deref ob (ρ x)=.ptr id o->GU W id (o+sz.getD 1)=true){v:SV}(h:A2 ob ρ op=some v):A2 (Eb W ob) ρ op=some v:=by
 cases op with
 |mov x=>exact h
 |nchk x=>exact h
 |faddr off x=>
  simp only[A2,Mt (fun i=>JN W ob i)]at h⊢;exact h
 |load sz x=>
  simp only[A2,Mt (fun i=>JN W ob i)]at h⊢;exact Afj h (c sz x rfl)
 |bin op x y=>exact h
 |_=>cases b
theorem Aiy{ob:Nat->Ob}{l:SL}(d:l.op.simple=true){fr:Nat->SV}(b:∀sz x,l.op=.load sz x->∀id o,deref ob (so E.G fr x)=.ptr id o->GU W id (o+sz.getD 1)=true){p:SV×Option Ob}(h:BF E l fr ob=some p):BF E l fr (Eb W ob)=some p:=by
 have key:∀p,AJ E ob (so E.G fr) l.dst l.op=some p->AJ E (Eb W ob) (so E.G fr) l.dst l.op=some p:=fun p c=>by
  unfold AJ at c⊢;rw[Rl d]at c⊢;simp only[Aa]at c⊢;obtain⟨v,f,e⟩:=c;exact⟨v,Akg d b f,e⟩
 unfold BF at h⊢;split at h
 ·exact key _ h
 ·split at h
  ·split at h
   ·rename_i b;simp only[b,if_true];exact key _ h
   ·rename_i b;simp only[b,if_false];exact h
  ·exact h
  ·cases h
theorem Abj{l:SL}{st s:St}(f:l.via=none)(b:l.op.simple=true)(c:∀sz x,l.op=.load sz x->∀id o,deref st.ob (so E.G st.fr x)=.ptr id o->GU W id (o+sz.getD 1)=true)(h:A6 E none l st=some s):bq E W l st=some s:=by
 rw[Yl,Rm b,Ab]at h;obtain⟨p,e,d⟩:=h;rw[Gt b,Aiy b c e];exact d
theorem Wm:∀(ls:List SL) (pre:List SL) (st:St),Dk (bq E W) (pre++ls) (List.range' pre.length ls.length) st=ci E W ls st
 | [],_,_=>rfl
 |l::ls,pre,st=>by
  have h:=Wm ls (pre++ [l]);simp only[List.length_append,Au,Av,Ax,List.cons_append,Ay]at h;simp only[Au,List.range'_succ,Dk,ci];rw[show(pre++l::ls)[pre.length]? =some l by simp];simp only
  congr 1
  funext s;exact h s
theorem Ye:∀(b:List Nat) {st s:St},Dk (bq E W) ls b st=some s->Cv E none ls b st=some s
 | [],_,_,h=>h
 |i::b,st,s,h=>by
  simp only[Dk]at h;simp only[Cv]
  cases c:ls[i]? with
  |none=>rw[c]at h;cases h
  |some l=>
   rw[c]at h;simp only[Ab]at h⊢;obtain⟨d,f,e⟩:=h;exact⟨d,UT f,Ye b e⟩
theorem Aap(N:A5 (Dg P n ops) ops.toList=some ls)(r:Pw P ops ls=true){st st':St}(I:ci E W ls st=some st')(t:Nat):
  Cv E none ls (Region.schedule (P.follows .mixedOrders) ops t) st=some st':=by
 have g:ls.length=ops.size:=by rw[DF N];simp
 simp only[Pw,Ag]at r;obtain⟨⟨⟨⟨L,_⟩,_⟩,d⟩,m⟩:=r;refine Ye (W:=W) _ ?_;simp only[Region.schedule,L,Bool.true_or,if_true,Region.linearise]
 have c:left ops.size (Array.replicate ops.size false)=List.range ops.size:=by
  simp only[left];rw[List.filter_eq_self];intro i hi;have:=Az.1 hi;simp[Ar,this]
 have f:∀i o,ops[i]? =some o->∀e∈o.after,Region.binds .any e=true->e.on<i:=by
  intro i o J e M O;rw[As]at d
  have l:(o,i)∈ops.toList.zipIdx:=by
   rw[List.mem_zipIdx_iff_getElem?];simpa using J
  have:=d _ l;rw[Array.all_eq_true']at this;have:=this e M;simpa[O]using this
 refine V8 (R:=fun a b=>M9 a b=true) (fun a b st u s T k U=>Ajf T st u s k U) g ?_ (lin_good f ops.size t _ (by simp) (by rw[c];simp)) ?_ (by simp) ?_
 ·intro j p i q;rw[As]at m;have k:=m j (Az.2 p);rw[As]at k;have k:=k i (Az.2 q);rw[Ak]at k;rcases k with h|h
  ·rw[FT ops p]at h;exact .inl (GY ops p h)
  ·refine .inr ?_;split at h
   ·rename_i x y F v;exact⟨x,y,F,v,h⟩
   ·cases h
 ·intro i o hi;exfalso;rw[Ar,Array.getElem?_replicate]at hi;split at hi<;>cases hi
 ·rw[c,List.range_eq_range',<-g];have:=Wm (E:=E) (W:=W) ls [] st;simp only[Ay,Av]at this;rw[this];exact I
end
def Ak6(P:Program)(o:Oper)(l:SL):Bool:=
 match l.op.cls with
 | .new=>true
 | .call=>match P.underlying o.type with
  |some (.slice _)|some (.map _ _)=>true
  |_=>false
 |_=>false
def Fx(P:Program)(ops:List Oper)(ls:List SL):List Nat:=(ops.zip ls).filterMap fun p=>if Ak6 P p.1 p.2 then p.2.dst else none
def Ed(ls:List SL):List Nat:=ls.filterMap fun l=>if l.op.makes then l.dst else none
def Yk(ls:List SL):List Nat:=
 let Dw:=ls.filterMap fun l=>match l.op with| .append .. =>l.dst|_=>none
 if ls.any fun l=>match l.op with| .call _ xs=>xs.any fun x=>x.slot.any Dw.contains|_=>false then
  ls.filterMap fun l=>match l.op,l.dst with
   | .mksl ..,some d| .call ..,some d=>if ls.any fun m=>match m.op with| .append _ _ _ (.t i) _=>i==d| .call _ xs=>xs.any fun x=>x.slot.contains d|_=>false then some d else none
   |_,_=>none
 else []
def EZ(P:Program)(ops:Array Oper)(ls:List SL):List Nat:=if Dt P ops (G2 ls) (Yk ls++Ed ls) ls then Yk ls++Ed ls else Ed ls
def Km(P:Program)(ops:Array Oper)(ls:List SL):List Nat:=EZ P (Hg (Kl ops ls) ops) (permL (Kl ops ls) ls)
def U5(P:Program)(ops:Array Oper)(ls:List SL):Option Cx:=
 (Aah ls).bind fun c=>if Pq P ops (G2 ls) (Ed ls) ls c=true/\(ls.drop c).all (fun l=>(l.own (G2 ls)).isNone)=true then some (.seq (.reg true (Ed ls) (ls.take c)) (.reg true (Ed ls) (ls.drop c)))else none
def Kk(P:Program)(ops:Array Oper)(ls:List SL):Option Cx:=
 if((ls.drop (ls.length-1)).all (fun l=>l.op.calls)&&(ls.take (ls.length-1)).all (fun l=> !l.op.calls))=true/\Qe P ops (G2 (ls.take (ls.length-1))) (Ed (ls.take (ls.length-1))) ls=true then
  some (.seq (.reg true (Ed (ls.take (ls.length-1))) (ls.take (ls.length-1))) (.reg false (Fx P (ops.toList.drop (ls.length-1)) (ls.drop (ls.length-1))) (ls.drop (ls.length-1))))else none
def JL(P:Program)(n:Nat)(ops:Array Oper)(draw:Bool):Option Cx:=match A5 (Dg P n ops) ops.toList with
 |some ls=>if draw then(match U5 P ops ls with|some sc=>some sc|none=>match Kk P ops ls with|some sc=>some sc|none=>if Mw P ops (G2 ls) (EZ P ops ls) ls then some (.regE (EZ P ops ls) ls)else if Dt P ops (G2 ls) (EZ P ops ls) ls then some (.reg true (EZ P ops ls) ls)else if Pv P ops (Kl ops ls) (G2 (permL (Kl ops ls) ls)) (Km P ops ls) ls then some (.reg true (Km P ops ls) (permL (Kl ops ls) ls))else if Pw P ops ls then some (.regW ls)else some .bad)else some (.reg false (Fx P ops.toList ls) ls)
 |none=>some .bad
def Nj(n:Nat)(ops:Array Oper):Option (Nat×Nat×Nat):=
 match ops.toList with
 | [x,y]=>match x.op,x.dst,x.guard,y.op,y.dst,y.guard with
  | .next (.tmp it) false,some d,none,.extract (.tmp d') 0,some ok,none=>if(Nat.beq d' d&&Nat.blt d n&&Nat.blt ok n&& !Nat.beq d ok)=true then some (it,d,ok)else none
  |_,_,_,_,_,_=>none
 |_=>none
theorem Af7{n:Nat}{ops:Array Oper}{it d ok:Nat}(h:Nj n ops=some (it,d,ok)):∃x y,ops= #[x,y]/\x.op=.next (.tmp it) false/\x.dst=some d/\x.guard=none/\y.op=.extract (.tmp d) 0/\y.dst=some ok/\y.guard=none/\d<n/\ok<n/\d≠ok:=by
 unfold Nj at h;split at h<;>(try cases h;done);rename_i x y j;split at h<;>(try cases h;done);rename_i g d' F f r q p o l k;split at h<;>(try cases h;done);rename_i c;simp only[Ac,Prod.mk.injEq]at h;obtain⟨rfl,rfl,rfl⟩:=h;simp only[Ag,Bool.not_eq_true']at c;obtain⟨⟨⟨v,u⟩,t⟩,s⟩:=c;have b:=Nat.eq_of_beq_eq_true v;subst b;have lt:∀{i m:Nat},Nat.blt i m=true->i<m:=fun h=>Ai h;exact⟨x,y,Array.toList_inj.1 j,r,q,p,o,l,k,lt u,lt t,fun e=>by subst e;simp at s⟩
def BZ(P:Program)(n:Nat):Code->Option Cx
 | .skip=>some .skip
 | .region _ ops draw=>match cond draw none (Nj n ops)with
  |some p=>some (.mnext p.1 p.2.1 p.2.2)
  |none=>JL P n ops draw
 | .seq a b=>(BZ P n a).bind fun x=>(BZ P n b).map fun y=>.seq x y
 | .cond c a b=>(A4 c).bind fun c=>(BZ P n a).bind fun x=>(BZ P n b).map fun y=>.cond c x y
 | .block id b=>(BZ P n b).map (.block id)
 | .loop b=>(BZ P n b).map .loop
 | .exit id=>some (.exit id)
 | .label _=>some .skip
 | .scope b=>BZ P n b
 | .ret=>some .ret
 |_=>some .bad
def Abm:Ex->Exit
 | .normal=>.normal
 | .exit i=>.exit i
 | .ret=>.ret
section
variable {P:Program} {E:ah} {w0:WL} {M0:MM} {n:Nat}
def GD(P:Program)(E:ah)(w0:WL)(M0:MM)(n:Nat)(Q:Ex->St->Prop)(e:Exit)(a:Act)(w:World):Prop:=
 ∃b st z,Abm b=e/\Q b st/\SR P E.G w0 M0 n st a w z
theorem N9(hE:aV P E){id:Nat}{ops:Array Oper}{draw:Bool}{Y:Cx}(j:JL P n ops draw=some Y){Q:Ex->St->Prop}{st:St}{a:Act}{w:World}{z:Cz}(h:SR P E.G w0 M0 n st a w z)
  (s:bz E Y Q st):(Code.region id ops draw).wp P (GD P E w0 M0 n Q) a w:=by
 simp only[JL]at j;split at j
 case h_2=>cases j;exact s.elim
 rename_i ls f;have J:=DF f
 have start:∀D:List Nat,∃z',SR P E.G w0 M0 n (if D.isEmpty then st else kill D st) a w z':=fun D=>by
  split
  ·exact⟨z,h⟩
  ·exact⟨z,h.killed D⟩
 cases draw with
 |false=>
  simp only[Ah,if_false,Ac]at j;subst j;obtain⟨st',i,l⟩:=s;unfold Co at i;simp only[Ah,if_false]at i;obtain⟨z',u⟩:=start (Fx P ops.toList ls);refine wp_region ?_;have b:=P6 E none ls [] (if(Fx P ops.toList ls).isEmpty then st else kill (Fx P ops.toList ls) st);rw[i]at b;simp only[Ay,Av]at b;rw[List.range_eq_range',<-Array.length_toList,<-J];exact HJ hE f u b fun v w' d e=>⟨.normal,st',d,rfl,l,e⟩
 |true=>
  have plain:Dt P ops (G2 ls) (EZ P ops ls) ls=true->∀st',Co E true (EZ P ops ls) ls st=some st'->Q .normal st'->(Code.region id ops true).wp P (GD P E w0 M0 n Q) a w:=fun q st' i l=>by
   unfold Co at i;simp only[if_true]at i;obtain⟨z',u⟩:=start (EZ P ops ls);refine wp_region_draw fun t=> ?_;have b:=Aan f q i t;have x:SR P E.G w0 M0 n (if(EZ P ops ls).isEmpty then st else kill (EZ P ops ls) st) a {w with drawn:=w.drawn+1} z':=u.grow ⟨rfl,rfl,rfl,Nat.le_refl _,fun _ _=>rfl⟩;exact HJ hE f x b fun v w' d e=>⟨.normal,st',d,rfl,l,e⟩
  simp only[if_true]at j;split at j
  ·rename_i T k;cases j;obtain⟨c,_,k⟩:=Ab.1 k;split at k<;>(try cases k;done);rename_i q;cases k;obtain⟨m,p,r,o,l⟩:=s;unfold Co at p o;simp only[if_true]at p o;obtain⟨z',u⟩:=start (Ed ls);refine U6 hE f q.1 q.2 u p fun v w' d e=> ?_
   have g:∃I,SR P E.G w0 M0 n (if(Ed ls).isEmpty then m else kill (Ed ls) m) v w' I:=by
    split
    ·exact⟨d,e⟩
    ·exact⟨d,e.killed _⟩
   obtain⟨I,F⟩:=g;exact⟨_,I,r,F,o,fun V O N y=>⟨.normal,r,N,rfl,l,y⟩⟩
  split at j
  ·rename_i T M;cases j;unfold Kk at M;split at M<;>(try cases M;done);rename_i q;cases M;obtain⟨m,p,r,o,l⟩:=s;unfold Co at p o;simp only[if_true,Ah,if_false]at p o;obtain⟨z',u⟩:=start (Ed (ls.take (ls.length-1)));refine VZ hE f q.2 u p fun v w' d e=> ?_
   have g:∀X:List Nat,∃I,SR P E.G w0 M0 n (if X.isEmpty then m else kill X m) v w' I:=fun X=>by
    split
    ·exact⟨d,e⟩
    ·exact⟨d,e.killed _⟩
   obtain⟨I,F⟩:=g (Fx P (ops.toList.drop (ls.length-1)) (ls.drop (ls.length-1)));have b:=P6 E none (ls.drop (ls.length-1)) (ls.take (ls.length-1)) (if(Fx P (ops.toList.drop (ls.length-1)) (ls.drop (ls.length-1))).isEmpty then m else kill (Fx P (ops.toList.drop (ls.length-1)) (ls.drop (ls.length-1))) m);rw[o,List.take_append_drop]at b;exact HJ hE f F b fun V O N y=>⟨.normal,r,N,rfl,l,y⟩
  split at j
  ·rename_i q;cases j
   have U:Dt P ops (G2 ls) (EZ P ops ls) ls=true:=by
    have L:=q;simp only[Mw,Ag]at L;exact L.1.2
   obtain⟨st',i|i,l⟩:=s
   ·exact plain U st' i l
   ·refine wp_region_draw fun t=> ?_;have b:=Aao f q (ZJ _) i t;have x:SR P E.G w0 M0 n (D5 (kill (EZ P ops ls) st)) a {w with drawn:=w.drawn+1} z:=(h.killed _).clean.grow ⟨rfl,rfl,rfl,Nat.le_refl _,fun _ _=>rfl⟩;exact Yd hE f x b fun v w' d e=>⟨.normal,st',d,rfl,l,e⟩
  ·split at j
   ·rename_i q;cases j;obtain⟨st',i,l⟩:=s;exact plain q st' i l
   ·split at j
    case isFalse=>
     split at j
     case isFalse=>cases j;exact s.elim
     rename_i q;cases j;obtain⟨W,st',i,l⟩:=s;refine wp_region_draw fun t=> ?_;have b:=Aap f q i t;have x:SR P E.G w0 M0 n st a {w with drawn:=w.drawn+1} z:=h.grow ⟨rfl,rfl,rfl,Nat.le_refl _,fun _ _=>rfl⟩;exact HJ hE f x b fun v w' d e=>⟨.normal,st',d,rfl,l,e⟩
    rename_i q;cases j;obtain⟨st',i,l⟩:=s;unfold Co at i;simp only[if_true]at i;obtain⟨z',u⟩:=start (Km P ops ls);refine wp_region_draw fun t=> ?_;have b:=Aaq f q i t;have x:SR P E.G w0 M0 n (if(Km P ops ls).isEmpty then st else kill (Km P ops ls) st) a {w with drawn:=w.drawn+1} z':=u.grow ⟨rfl,rfl,rfl,Nat.le_refl _,fun _ _=>rfl⟩;exact HJ hE f x b fun v w' d e=>⟨.normal,st',d,rfl,l,e⟩
theorem Ah9{w w1:World}{r:Nat}{o:Obj}(c:w1=w\/w1=w.drew):w.grownBy (Go.ChangeMaps.setBlock w1 r o) (some r):=by
 have f:w1.os=w.os/\w1.tape=w.tape/\w1.output=w.output/\w1.heap=w.heap:=by rcases c with rfl|rfl<;>exact⟨rfl,rfl,rfl,rfl⟩
 obtain⟨i,h,g,b⟩:=f;refine⟨i,h,g,by simp[Go.ChangeMaps.setBlock,b],fun k _ d=> ?_⟩;simp only[Go.ChangeMaps.setBlock,b];rw[Array.getElem?_setIfInBounds];rw[An (fun e=>d (by rw[e]))]
theorem Ah8{w w1:World}{r:Nat}{o o':Obj}(b:w1=w\/w1=w.drew)(c:w.heap[r]? =some o'):(Go.ChangeMaps.setBlock w1 r o).heap[r]? =some o:=by
 have d:w1.heap=w.heap:=by rcases b with rfl|rfl<;>rfl
 simp only[Go.ChangeMaps.setBlock,d];rw[Array.getElem?_setIfInBounds];simp[C1 c]
theorem Abd{b rem:List MapEntry}{h:Nat}(hE:cS b h){f:MapEntry->Bool}(j:rem.Perm (b.filter f)){i:Nat}{e:MapEntry}(hi:rem[i]? =some e):rem.eraseIdx i=rem.filter fun x=>x.born !=e.born:=by
 have c:(rem.map (·.born)).Nodup:=((j.map (·.born)).nodup_iff).2 (List.Nodup.sublist (List.Sublist.map _ List.filter_sublist) hE.2.2);clear j
 induction rem generalizing i with
 |nil=>simp at hi
 |cons x rem ih=>
  simp only[List.map_cons,List.nodup_cons]at c
  cases i with
  |zero=>
   simp only[List.getElem?_cons_zero,Ac]at hi;subst hi;simp only[List.eraseIdx_cons_zero,List.filter_cons,bne_self_eq_false,Ah,if_false];symm;rw[List.filter_eq_self];intro y k;simp only[bne_iff_ne,ne_eq];intro g;exact c.1 (List.mem_map.2 ⟨y,k,g⟩)
  |succ i=>
   simp only[List.getElem?_cons_succ]at hi
   have d:(x.born !=e.born)=true:=by
    simp only[bne_iff_ne,ne_eq];intro g;exact c.1 (List.mem_map.2 ⟨e,List.mem_of_getElem? hi,g.symm⟩)
   simp only[List.eraseIdx_cons_succ,List.filter_cons,d,if_true];rw[ih hi c.2]
theorem RelL.eraseIdx{w:World}{M:MM}:∀{cs:List CV} {vs:List Value} (i:Nat),RelL w M cs vs->RelL w M (cs.eraseIdx i) (vs.eraseIdx i)
 | [],_,_,h=>by unfold RelL at h;subst h;exact RelL.nil
 |_::_,_,0,h=>by
  unfold RelL at h;obtain⟨v,b,rfl,_,c⟩:=h;exact c
 |_::_,_,i+1,h=>by
  unfold RelL at h;obtain⟨v,b,rfl,d,c⟩:=h;exact RelL.cons d (RelL.eraseIdx i c)
theorem W6(hE:aV P E){id:Nat}{ops:Array Oper}{it d ok:Nat}(hc:Nj n ops=some (it,d,ok)){Q:Ex->St->Prop}{st:St}{a:Act}{w:World}{z:Cz}(h:SR P E.G w0 M0 n st a w z)
  (hp:bz E (.mnext it d ok) Q st):(Code.region id ops false).wp P (GD P E w0 M0 n Q) a w:=by
 obtain⟨x,y,rfl,O,hx2,hx3,hy1,hy2,hy3,hd,hok,hne⟩:=Af7 hc;obtain⟨J,ks,vs,cur,hit,hob,Y,hq1⟩:=hp;refine wp_region ?_;show wpOps P #[x,y] _ [0,1] a w
 have g:∀{I:St} {a1:Act} {w1:World} {z1:Cz} {b:Bool} {l:List CV} {F:St},SR P E.G w0 M0 n I a1 w1 z1->I.fr d=.c (.tup (.bool b::l))->I.set (some ok) (.c (.bool b))=F->Q .normal F->wpOps P #[x,y] (GD P E w0 M0 n Q) [1] a1 w1:=by
  intro I a1 w1 z1 b l F h1 hf h2 hQ
  have hc2:Dg P n #[x,y] y=some ⟨some ok,.ext (.t d) 0,none⟩:=by
   have e1:Cf P y=some (.ext (.t d) 0):=by
    unfold Cf;rw[hy1];rfl
   simp only[Dg,e1,Aq,Na,hy2,hy3,Ap];simp[HW,hok]
  refine M6 hE (D:=none) h1 (i:=1) (o:=y) rfl hc2 (st':=F) ?_ fun a' w' z' hS=>⟨.normal,F,z',rfl,hQ,hS⟩;have hv:so (E.at none).G I.fr (.t d)=.c (.tup (.bool b::l)):=hf;simp only[A6,AM,aa.cls,A2,hv];subst h2;rfl
 have q:∀{v:Value} {w1:World},(execOp a.eval x).run P w=.ok (.value v) w1->wpOps P #[x,y] (GD P E w0 M0 n Q) [1] (a.put (some d) v) w1->wpOps P #[x,y] (GD P E w0 M0 n Q) [0,1] a w:=by
  intro v w1 u hK;have h0:(#[x,y]:Array Oper)[0]? =some x:=rfl
  conv=>unfold wpOps
  simp only[h0];rw[Ao (by simp[Region.wanted,hx3])];refine .inl ?_;unfold Oper.wp;rw[u];show wpOps P #[x,y] _ [1] (a.put x.dst v) w1;rw[hx2];exact hK
 have hr:=h.fr it;rw[hit]at hr;obtain⟨L,e1⟩:=hr;have ho:=h.ob J;rw[hob]at ho;obtain⟨r,mo,f,seen,e2,T,hm⟩:=ho
 have U:a.eval (.tmp it)=.pointer (some ⟨r,0,none⟩):=by
  show a.tmps.getD it undef=_;rw[e1,e2]
 rcases hm with⟨rfl,rfl,rfl,_⟩|⟨m,M,rem,rfl,e4,e5,e6,V,e8,e9,_⟩
 ·refine q (v:=.tuple #[.bool false]) (w1:=w) ?_ ?_
  ·simp only[execOp,O,U];simp[Instr.next,getObj,Sem.run,T,Result.andThen]
  ·refine g (b:=false) (l:= []) (h.put (fun i hi=>by cases hi;exact hd) (s:=.c (.tup [.bool false])) ?_) ?_ rfl (Y rfl)
   ·show RelC _ _ (.tup _) _;unfold RelC;exact⟨[.bool false],rfl,RelL.cons EI RelL.nil⟩
   ·show ac st.fr d _ d=_;rw[Be]
 ·rcases run_next_at (P:=P) w x.type r m f f seen ⟨M⟩ f T e5 (fun y hy=>e6.2.1 y hy) (Nat.le_refl _)with⟨h0,u⟩|⟨e,he,w1,X,u⟩
  ·have hk0:ks= []:=by
    have:(M.filter fun e=> !seen.contains e.born)= []:=by
     have h0':=h0;unfold leftOf at h0';simpa using h0'
    rw[this]at V;have hr0:=V.length_eq;have:rem= []:=Aw (by simpa using hr0);subst this;exact Aw (by have:=e8.length;simpa using this.symm)
   refine q (v:=.tuple #[.bool false]) (w1:=w) (by simp only[execOp,O,U];simp[u]) ?_;refine g (b:=false) (l:= []) (h.put (fun i hi=>by cases hi;exact hd) (s:=.c (.tup [.bool false])) ?_) ?_ rfl (Y hk0)
   ·show RelC _ _ (.tup _) _;unfold RelC;exact⟨[.bool false],rfl,RelL.cons EI RelL.nil⟩
   ·show ac st.fr d _ d=_;rw[Be]
  ·have N:e∈rem:=by
    refine V.mem_iff.2 ?_;unfold leftOf at he;simpa using he
   have Z:e∈M:=by
    have:=V.mem_iff.1 N;exact(List.mem_filter.1 this).1
   obtain⟨i,hi⟩:=List.getElem?_of_mem N;have hlk:=e8.length;have hlv:=e9.length;have hil:i<rem.length:=(Af.1 hi).1;simp only[List.length_map]at hlk hlv;obtain⟨k,hk⟩:∃k,ks[i]? =some k:=⟨ks[i],Aj (by omega)⟩;obtain⟨v,hv⟩:∃v,vs[i]? =some v:=⟨vs[i],Aj (by omega)⟩;obtain⟨u1,g1,g2⟩:=e8.get hk;obtain⟨u2,g3,g4⟩:=e9.get hv;rw[List.getElem?_map,hi]at g1 g3;cases g1;cases g3
   have hg:w.grownBy (Go.ChangeMaps.setBlock w1 r (.mapIter (some m) f (seen.push e.born) f)) (blk (z.σ J)):=by
    rw[e2];exact Ah9 X
   have hS:=SR.turn h (id:=J) L (o':=.miter (ks.eraseIdx i) (vs.eraseIdx i) (some (k,v))) (by simp) hg (β':=z.β J) (fun _ _ T=>T) (fun T=>by cases T) fun j hz=>by
    refine⟨r,some m,f,seen.push e.born,e2,Ah8 X T,.inr ⟨m,M,rem.eraseIdx i,rfl,fun hM=>e4 (j.less m (C1 e5) hM),(j.heap m (C1 e5) e4).trans e5,e6, ?_, ?_, ?_, ?_⟩⟩
    ·rw[Abd e6 V hi];have p2:=V.filter fun x=>x.born !=e.born;refine p2.trans ?_;rw[List.filter_filter];refine List.Perm.of_eq (List.filter_congr fun x _=> ?_);simp only[Array.contains_push,Bool.not_or,bne];rw[Bool.and_comm]
    ·rw[Go.ChangeMaps.map_eraseIdx];exact RelL.keep j _ _ (e8.eraseIdx i)
    ·rw[Go.ChangeMaps.map_eraseIdx];exact RelL.keep j _ _ (e9.eraseIdx i)
    ·intro p hp;cases hp;exact⟨seen,e,rfl,Z,RelC.keep j _ _ g2,RelC.keep j _ _ g4⟩
   refine q (v:=.tuple #[.bool true,e.key,e.val]) (w1:=Go.ChangeMaps.setBlock w1 r (.mapIter (some m) f (seen.push e.born) f)) (by simp only[execOp,O,U];simp[u]) ?_;refine g (b:=true) (l:= [k,v]) (hS.put (d:=some d) (fun i hi=>by cases hi;exact hd) (s:=.c (.tup [.bool true,k,v])) ?_) ?_ ?_ (hq1 i k v hk hv)
   ·have j:=SR.turnK (M0:=M0) (z:=z) (st:=st) L (o':=.miter (ks.eraseIdx i) (vs.eraseIdx i) (some (k,v))) (by simp) hg (β':=z.β J);show RelC _ _ (.tup _) _;unfold RelC;exact⟨[.bool true,e.key,e.val],rfl,RelL.cons EI (RelL.cons (RelC.keep j _ _ g2) (RelL.cons (RelC.keep j _ _ g4) RelL.nil))⟩
   ·show ac st.fr d _ d=_;rw[Be]
   ·rfl
theorem Hi:∀(c:Cx) {Q d:Ex->St->Prop} {st:St},(∀e s,Q e s->d e s)->bz E c Q st->bz E c d st
 | .skip,Q,d,st,h,hp=>h _ _ hp
 | .regE _ _,Q,d,st,h,⟨s,j,g⟩=>⟨s,j,h _ _ g⟩
 | .regW _,Q,d,st,h,⟨W,s,j,g⟩=>⟨W,s,j,h _ _ g⟩
 | .mnext _ _ _,Q,d,st,h,⟨id,ks,vs,cur,j,g,q,h4⟩=>⟨id,ks,vs,cur,j,g,fun o=>h _ _ (q o),fun i k v o r=>h _ _ (h4 i k v o r)⟩
 | .reg _ _ _,Q,d,st,h,hp=>by
  obtain⟨s,j,g⟩:=hp;exact⟨s,j,h _ _ g⟩
 | .seq a b,Q,d,st,h,hp=>by
  refine Hi a (fun e s f=> ?_) hp
  cases e with
  |normal=>exact Hi b h f
  |exit i=>exact h _ _ f
  |ret=>exact h _ _ f
 | .cond c x y,Q,d,st,h,hp=>by
  obtain⟨b,j,g,q⟩:=hp;exact⟨b,j,fun p=>Hi x h (g p),fun p=>Hi y h (q p)⟩
 | .block id c,Q,d,st,h,hp=>by
  refine Hi c (fun e s f=> ?_) hp
  cases e with
  |normal=>exact h _ _ f
  |exit i=>
   simp only at f⊢;split<;>rename_i hi
   ·rw[Ao hi]at f;exact h _ _ f
   ·rw[An hi]at f;exact h _ _ f
  |ret=>exact h _ _ f
 | .loop c,Q,d,st,h,hp=>by
  obtain⟨R,j,g⟩:=hp;refine⟨R,j,fun m s f=>Hi c (fun e s' l=> ?_) (g m s f)⟩
  cases e with
  |normal=>exact l
  |exit i=>exact h _ _ l
  |ret=>exact h _ _ l
 | .exit i,Q,d,st,h,hp=>h _ _ hp
 | .ret,Q,d,st,h,hp=>h _ _ hp
 | .bad,Q,d,st,h,hp=>hp.elim
theorem GN(hE:aV P E):∀(c:Code) {g:Cx} {Q:Ex->St->Prop} {st:St} {a:Act} {w:World} {z:Cz},BZ P n c=some g->SR P E.G w0 M0 n st a w z->bz E g Q st->c.wp P (GD P E w0 M0 n Q) a w
 | .skip,g,Q,st,a,w,z,hc,h,hp=>by
  simp only[BZ,Ac]at hc;subst hc;exact wp_skip ⟨.normal,st,z,rfl,hp,h⟩
 | .region id ops draw,g,Q,st,a,w,z,hc,h,hp=>by
  simp only[BZ]at hc;split at hc
  ·rename_i p O;cases hc
   cases draw with
   |true=>cases O
   |false=>exact W6 hE O h hp
  ·exact N9 hE hc h hp
 | .seq x y,g,Q,st,a,w,z,hc,h,hp=>by
  simp only[BZ,Ab,Aa]at hc;obtain⟨sx,q,U,v,rfl⟩:=hc;refine wp_seq (wp_mono (GN hE x q h hp) fun e N w' d=> ?_);obtain⟨u,st',z',r,f,j⟩:=d;subst r
  cases u with
  |normal=>exact GN hE y v j f
  |exit i=>exact⟨.exit i,st',z',rfl,f,j⟩
  |ret=>exact⟨.ret,st',z',rfl,f,j⟩
 | .cond c x y,g,Q,st,a,w,z,hc,h,hp=>by
  simp only[BZ,Ab,Aa]at hc;obtain⟨V,F,sx,q,U,v,rfl⟩:=hc;obtain⟨b,h1,h2,h3⟩:=hp;have I:=h.ctx.c F h1;have Z:=Ee I;exact wp_cond_split Z (fun L=>GN hE x q h (h2 L)) (fun L=>GN hE y v h (h3 L))
 | .block id c,g,Q,st,a,w,z,hc,h,hp=>by
  simp only[BZ,Aa]at hc;obtain⟨sx,q,rfl⟩:=hc;refine wp_block (wp_mono (GN hE c q h hp) fun e N w' d=> ?_);obtain⟨u,st',z',r,f,j⟩:=d;subst r
  cases u with
  |normal=>exact⟨.normal,st',z',rfl,f,j⟩
  |exit i=>
   simp only at f;show(if i=id then _ else _);split at f
   ·rename_i hi;rw[Ao hi];exact⟨.normal,st',z',rfl,f,j⟩
   ·rename_i hi;rw[An hi];exact⟨.exit i,st',z',rfl,f,j⟩
  |ret=>exact⟨.ret,st',z',rfl,f,j⟩
 | .loop c,g,Q,st,a,w,z,hc,h,hp=>by
  simp only[BZ,Aa]at hc;obtain⟨sx,q,rfl⟩:=hc;obtain⟨R,⟨m,Y⟩,I⟩:=hp;refine wp_loop_ghost (fun k a w=>∃s z,R k s/\SR P E.G w0 M0 n s a w z) m ⟨st,z,Y,h⟩ fun k N w' hI=> ?_;obtain⟨s,z',hR,j⟩:=hI;refine wp_mono (GN hE c q j (I k s hR)) fun e a'' T d=> ?_;obtain⟨u,st',o,r,f,t⟩:=d;subst r
  cases u with
  |normal=>
   obtain⟨X,J,M⟩:=f;exact⟨X,J,st',o,M,t⟩
  |exit i=>exact⟨.exit i,st',o,rfl,f,t⟩
  |ret=>exact⟨.ret,st',o,rfl,f,t⟩
 | .exit i,g,Q,st,a,w,z,hc,h,hp=>by
  simp only[BZ,Ac]at hc;subst hc;exact wp_exit ⟨.exit i,st,z,rfl,hp,h⟩
 | .label l,g,Q,st,a,w,z,hc,h,hp=>by
  simp only[BZ,Ac]at hc;subst hc;exact wp_label ⟨.normal,st,z,rfl,hp,h⟩
 | .scope c,g,Q,st,a,w,z,hc,h,hp=>by
  simp only[BZ]at hc;refine wp_scope_straight (wp_mono (GN hE c hc h hp) fun e N w' d=> ?_);obtain⟨u,st',z',r,f,j⟩:=d;subst r;cases u<;>exact⟨_,st',z',rfl,f,j⟩
 | .ret,g,Q,st,a,w,z,hc,h,hp=>by
  simp only[BZ,Ac]at hc;subst hc;exact wp_ret ⟨.ret,st,z,rfl,hp,h⟩
 | .goto _,g,Q,st,a,w,z,hc,h,hp=>by cases hc;exact hp.elim
 | .rangeFunc _ _ _ _,g,Q,st,a,w,z,hc,h,hp=>by cases hc;exact hp.elim
 | .refuse _,g,Q,st,a,w,z,hc,h,hp=>by cases hc;exact hp.elim
end
mutual
def CV.same:CV->CV->Bool
 | .int k n,.int k' n'=>decide (k=k')&&decide (n=n')
 | .bool b,.bool b'=>decide (b=b')
 | .str s,.str s'=>decide (s=s')
 | .agg cs,.agg cs'=>CV.sameL cs cs'
 | .sl nl es,.sl nl' es'=>decide (nl=nl')&&CV.sameL es es'
 | .map nl ks vs,.map nl' ks' vs'=>decide (nl=nl')&&CV.sameL ks ks'&&CV.sameL vs vs'
 | .rp cs,.rp cs'=>CV.sameL cs cs'
 | .wp cs,.wp cs'=>CV.sameL cs cs'
 | .fn f cs,.fn f' cs'=>decide (f=f')&&CV.sameL cs cs'
 | .tup cs,.tup cs'=>CV.sameL cs cs'
 | .nilif,.nilif=>true
 | .nilfn,.nilfn=>true
 | .ifc,.ifc=>true
 | .adr b,.adr b'=>decide (b=b')
 | .nilp,.nilp=>true
 | .nam b,.nam b'=>decide (b=b')
 | .bptr b,.bptr b'=>decide (b=b')
 |_,_=>false
def CV.sameL:List CV->List CV->Bool
 | [],[]=>true
 |a::as,b::bs=>CV.same a b&&CV.sameL as bs
 |_,_=>false
end
mutual
theorem CV.same_iff:∀(a b:CV),CV.same a b=true<->a=b
 | .int k n,b=>by cases b<;>simp[CV.same]
 | .bool x,b=>by cases b<;>simp[CV.same]
 | .str s,b=>by cases b<;>simp[CV.same]
 | .agg cs,b=>by cases b<;>simp[CV.same,CV.sameL_iff cs]
 | .sl nl es,b=>by cases b<;>simp[CV.same,CV.sameL_iff es]
 | .map nl ks vs,b=>by cases b<;>simp[CV.same,CV.sameL_iff ks,CV.sameL_iff vs,and_assoc]
 | .rp cs,b=>by cases b<;>simp[CV.same,CV.sameL_iff cs]
 | .wp cs,b=>by cases b<;>simp[CV.same,CV.sameL_iff cs]
 | .fn f cs,b=>by cases b<;>simp[CV.same,CV.sameL_iff cs]
 | .tup cs,b=>by cases b<;>simp[CV.same,CV.sameL_iff cs]
 | .nilif,b=>by cases b<;>simp[CV.same]
 | .nilfn,b=>by cases b<;>simp[CV.same]
 | .ifc,b=>by cases b<;>simp[CV.same]
 | .adr x,b=>by cases b<;>simp[CV.same]
 | .nilp,b=>by cases b<;>simp[CV.same]
 | .nam x,b=>by cases b<;>simp[CV.same]
 | .bptr x,b=>by cases b<;>simp[CV.same]
theorem CV.sameL_iff:∀(a b:List CV),CV.sameL a b=true<->a=b
 | [],b=>by cases b<;>simp[CV.sameL]
 |a::as,b=>by cases b<;>simp[CV.sameL,CV.same_iff a,CV.sameL_iff as]
end
instance :DecidableEq CV:=fun a b=>decidable_of_iff _ (CV.same_iff a b)
mutual
def KT.same:KT->KT->Bool
 | .int k,.int k'=>decide (k=k')
 | .str,.str=>true
 | .bool,.bool=>true
 | .struct fs,.struct fs'=>KT.sameL fs fs'
 |_,_=>false
def KT.sameL:List KT->List KT->Bool
 | [],[]=>true
 |a::as,b::bs=>KT.same a b&&KT.sameL as bs
 |_,_=>false
end
mutual
theorem KT.same_iff:∀(a b:KT),KT.same a b=true<->a=b
 | .int k,b=>by cases b<;>simp[KT.same]
 | .str,b=>by cases b<;>simp[KT.same]
 | .bool,b=>by cases b<;>simp[KT.same]
 | .struct fs,b=>by cases b<;>simp[KT.same,KT.sameL_iff fs]
theorem KT.sameL_iff:∀(a b:List KT),KT.sameL a b=true<->a=b
 | [],b=>by cases b<;>simp[KT.sameL]
 |a::as,b=>by cases b<;>simp[KT.sameL,KT.same_iff a,KT.sameL_iff as]
end
instance :DecidableEq KT:=fun a b=>decidable_of_iff _ (KT.same_iff a b)
deriving instance DecidableEq for SO
deriving instance DecidableEq for aa
deriving instance DecidableEq for SL
deriving instance DecidableEq for Cx
inductive Bj where
 |tmp (t:Nat)
 |cell (t:Nat) (sz:Option Nat)
def FE(P:Program):ResultVar->Option Bj
 | .tmp t=>some (.tmp t)
 | .cell a t=>(DS P t).map (.cell a)
def Fk(st:St):Bj->Option CV
 | .tmp t=>C9 st.ob (st.fr t)
 | .cell a sz=>(Bb st.ob sz (deref st.ob (st.fr a))).bind (C9 st.ob)
def F1:List CV->CV
 | [c]=>c
 |l=>.tup l
def Eh(st:St)(rs:List Bj):Option CV:=(A5 (Fk st) rs).map F1
structure Hx where
 n:Nat
 code:Cx
 res:List Bj
def Dq(P:Program)(f:FuncId):Option Hx:=
 if hasBody P f then(P.funcs[f]?).bind fun fn=>fn.body.bind fun b=>if Nat.ble fn.ntmps A9 then(BZ P fn.ntmps b).bind fun c=>(A5 (FE P) fn.results.toList).map fun rs=>⟨fn.ntmps,c,rs⟩else none else none
def Ev(l:List CV):St:={fr:=fun i=>match l[i]? with|some c=>.c c|none=>.undef,ob:=fun _=>.none}
def av(rs:List Bj)(r:CV)(e:Ex)(st:St):Prop:=
 match e with
 | .exit _=>False
 |_=>Eh st rs=some r
section
variable {P:Program} {E:ah} {w0:WL} {M0:MM} {n:Nat} {st:St} {a:Act} {w:World} {z:Cz}
theorem Uj{G:Nat->List CV}(h:SR P G w0 M0 n st a w z){b:Nat}{t:TypeId}{sz:Option Nat}(k:DS P t=some sz){sv:SV}(i:Bb st.ob sz (deref st.ob (st.fr b))=some sv):
  ∃v,((asAddr (a.tmps.getD b undef)>>=fun d=>loadVar t d):Sem Value).run P w=.ok v w/\AA w (A3 M0 z st.ob) z st.ob sv v:=by
 obtain⟨v,j,m⟩:=YB (x:=.tmp b) (sx:=.t b) h.ctx (fun _=>.inr rfl) k rfl i
 have f:∃d,a.tmps.getD b undef=.pointer (some d):=by
  have c:=h.ctx.deref (rd:=st.ob) (fun _=>.inr rfl) (h.fr b);generalize deref st.ob (st.fr b)=q at c i;generalize a.tmps.getD b undef=u at c;cases q<;>(try simp only[Bb,reduceCtorEq]at i;done)
  ·rename_i o;cases o<;>(try simp only[Bb,reduceCtorEq]at i;done)
   ·unfold AA RelC at c;obtain⟨d,_,e,_⟩:=c;exact⟨d,e⟩
   ·unfold AA RelC at c;obtain⟨g,_,_,e,_⟩:=c;exact⟨_,e⟩
  ·obtain⟨_,g,_,e⟩:=c;exact⟨_,e⟩
  ·obtain⟨_,g,_,_,_,e⟩:=c;exact⟨_,e⟩
 obtain⟨d,f⟩:=f;refine⟨v, ?_,m⟩;have l:a.eval (.tmp b)=.pointer (some d):=f;rw[l]at j;simp only[f];exact j
theorem Agh{G:Nat->List CV}(h:SR P G w0 M0 n st a w z){rv:ResultVar}{g:Bj}(d:FE P rv=some g){c:CV}(e:Fk st g=some c):
  ∃v,(match rv with| .tmp t=>pure (a.tmps.getD t undef)| .cell b t=>(asAddr (a.tmps.getD b undef)>>=fun m=>loadVar t m):Sem Value).run P w=.ok v w/\RelC w (bP w0 M0 z) c v:=by
 cases rv with
 |tmp t=>
  simp only[FE,Ac]at d;subst d;exact⟨_,rfl,Pm h (fun _=>.inr rfl) (h.fr t) e⟩
 |cell b t=>
  simp only[FE,Aa]at d;obtain⟨sz,i,rfl⟩:=d;simp only[Fk,Ab]at e;obtain⟨sv,j,f⟩:=e;obtain⟨v,l,k⟩:=Uj h i j;exact⟨v,l,Pm h (fun _=>.inr rfl) k f⟩
theorem TS{G:Nat->List CV}(h:SR P G w0 M0 n st a w z){f:ResultVar->Sem Value}(j:∀rv,f rv=(match rv with| .tmp t=>pure (a.tmps.getD t undef)| .cell b t=>(asAddr (a.tmps.getD b undef)>>=fun u=>loadVar t u))):∀{e:List ResultVar} {d:List Bj} {cs:List CV},A5 (FE P) e=some d->A5 (Fk st) d=some cs->
  ∃vs,(e.mapM f).run P w=.ok vs w/\RelL w (bP w0 M0 z) cs vs
 | [],d,cs,h1,h2=>by
  simp only[A5,Ac]at h1;subst h1;simp only[A5,Ac]at h2;subst h2;exact⟨[],by simp,RelL.nil⟩
 |rv::e,d,cs,h1,h2=>by
  simp only[A5,Ab,Aa]at h1;obtain⟨s,l,x,g,rfl⟩:=h1;simp only[A5,Ab,Aa]at h2;obtain⟨c,m,r,i,rfl⟩:=h2;obtain⟨v,k,q⟩:=Agh h l m;obtain⟨vs,p,o⟩:=TS h j g i;rw[<-j]at k;exact⟨v::vs,by rw[List.mapM_cons];simp[k,p],RelL.cons q o⟩
theorem X3{G:Nat->List CV}(h:SR P G w0 M0 n st a w z){fn:Func}{rs:List Bj}(p:A5 (FE P) fn.results.toList=some rs){c:CV}(k:Eh st rs=some c):
  ∃v,(results fn a.tmps).run P w=.ok v w/\RelC w (bP w0 M0 z) c v:=by
 simp only[Eh,Aa]at k;obtain⟨cs,i,rfl⟩:=k;obtain⟨vs,l,d⟩:=TS h (f:=fun rv=>match rv with| .tmp t=>pure (a.tmps.getD t undef)| .cell b t=>do loadVar t (<-asAddr (a.tmps.getD b undef))) (fun rv=>by cases rv<;>rfl) p i
 have o:(results fn a.tmps).run P w=.ok (if h:(⟨vs⟩:Array Value).size=1 then(⟨vs⟩:Array Value)[0]else .tuple ⟨vs⟩) w:=by
  have e:results fn a.tmps=(fn.results.mapM (fun rv=>match rv with| .tmp t=>pure (a.tmps.getD t undef)| .cell b t=>do loadVar t (<-asAddr (a.tmps.getD b undef)))>>=fun(vs:Array Value)=>pure (if h:vs.size=1 then vs[0]else .tuple vs)):=rfl;rw[e,Array.mapM_eq_mapM_toList];generalize (fun(rv:ResultVar)=>(match rv with| .tmp t=>pure (a.tmps.getD t undef)| .cell b t=>do loadVar t (<-asAddr (a.tmps.getD b undef)):Sem Value))=f at l;simp[l]
 refine⟨_,o, ?_⟩;have g:=d.length
 match cs,vs,d,g with
 | [],[],d,_=>
  simp only[F1];unfold RelC;exact⟨[],rfl,d⟩
 | [c],[v],d,_=>
  simp only[F1];unfold RelL at d;obtain⟨j,m,e,q,_⟩:=d;cases e;exact q
 |c::c'::cs,v::j::vs,d,_=>
  simp only[F1];unfold RelC;exact⟨v::j::vs,by simp,d⟩
theorem VD{P:Program}{G:Nat->List CV}{w:World}{M:MM}{n:Nat}{l:List CV}{vs:List Value}(p:∀g,M g->g<w.heap.size)(q:GOk G w M)(s:l.length<=n)(h:RelL w M l vs)(m:n<=A9):
  SR P G (Ks w) M n (Ev l) {tmps:=(⟨vs⟩:Array Value)++Array.replicate (n-(⟨vs⟩:Array Value).size) undef,defers:= []} w (z0 undef M.al):=by
 have e:=h.length;refine⟨?_,rfl,Qt.2 (Below.refl _ _),p,⟨fun _ g b=>b.elim,fun N _ b=>(by cases b),fun _ _=>rfl,m⟩,q,fun i=> ?_,fun id=>trivial,fun id g b=>absurd rfl b,fun i j g _ b=>absurd rfl b⟩
 ·simp;omega
 ·simp only[Ev]
  cases hi:l[i]? with
  |none=>trivial
  |some c=>
   obtain⟨v,f,r⟩:=h.get hi
   have o:Bu w M w (A3 M (z0 undef M.al) fun _=>Ob.none):=⟨Nat.le_refl _,fun _ _ _=>rfl,fun g _ d=>by
    rcases d with d|⟨id,b,_⟩
    ·exact d
    ·exact absurd rfl b,rfl⟩
   have k:((⟨vs⟩:Array Value)++Array.replicate (n-(⟨vs⟩:Array Value).size) undef).getD i undef=v:=by
    have:i<vs.length:=(Af.1 f).1;rw[Ar,Array.getElem?_append_left (by simpa using this)];simp[f]
   show RelC w _ c _;simp only[k];exact RelC.keep o c v r
theorem Wg{w1:World}{G:Nat->List CV}{M:MM}(h:SR P G (Ks w1) M n st a w z){c:CV}{v:Value}(b:RelC w (bP (Ks w1) M z) c v):RelC w M c v:=
 have d:Bu w (bP (Ks w1) M z) w M:=⟨Nat.le_refl _,fun _ _ _=>rfl,fun _ _ f=>⟨f,fun _ e=>e⟩,funext fun N=>(h.nam.names N trivial).symm⟩
 RelC.keep d _ _ b
theorem PJ(hE:aV P E){f:FuncId}{m:Hx}(o:Dq P f=some m){l:List CV}{r:CV}(F:l.length<=m.n)(h:bz E m.code (av m.res r) (Ev l)):hasBody P f=true/\CallsTo P E.G f l (.val r):=by
 unfold Dq at o;split at o<;>(try cases o;done);rename_i L;refine⟨L, ?_⟩;simp only[Ab,Aa,Ae]at o;obtain⟨fn,I,b,k,y,c,j,rs,q,rfl⟩:=o;intro w M vs N T O;refine calls_of_wp I k (wp_mono (GN hE b j (VD N T F O (Ai y)) h) fun e t w' g=> ?_);obtain⟨X,st',z',J,s,p⟩:=g;subst J
 have d:Eh st' rs=some r->t.defers= []/\∃v,(results fn t.tmps).run P w'=.ok v w'/\∃u,Ending.returned v=.returned u/\Below w.heap.size w w'/\Im P w' M w.heap.size u (.val r):=fun x=>by
  obtain⟨v,V,U⟩:=X3 p q x;exact⟨p.defers,v,V,v,rfl,Qt.1 p.below,Wg p U⟩
 cases X with
 |normal=>exact d s
 |exit i=>exact s.elim
 |ret=>exact d s
theorem aV.add(hE:aV P E){f:FuncId}{m:Hx}(c:Dq P f=some m){F:List CV->Option CV}(h:∀l r,F l=some r->l.length<=m.n/\bz E m.code (av m.res r) (Ev l)):
  aV P {E with fn:=fun g l=>if g=f then(F l).map .val else E.fn g l}:=by
 refine⟨?_,hE.2,hE.3,hE.4⟩;intro g l r b;simp only at b;split at b
 ·rename_i e;subst e;simp only[Aa]at b;obtain⟨r,b,rfl⟩:=b;obtain⟨i,d⟩:=h l r b;exact PJ hE c i d
 ·exact hE.1 g l r b
end
section
variable {E:ah} {Q:Ex->St->Prop} {st:St}
theorem Vo{rs:List Bj}{r:CV}(h:Eh st rs=some r):av rs r .ret st:=h
variable {D:Option (List Nat)} {K:St->Prop} {ls:List SL}
end
def RU(p:Prop):Prop:=p
theorem RU.out{p:Prop}(h:RU p):p:=h
def Abq(rs:List Bj)(o:Ob)(e:Ex)(st:St):Prop:=
 match e with
 | .exit _=>False
 |_=>∃t,rs= [.tmp t]/\((∃id,(st.fr t=.osl id\/st.fr t=.omap id)/\st.ob id=o/\ED o=true)\/(st.fr t=.c (.sl (some true) [])/\∃e size,o=.arr e size []))
section
variable {P:Program} {E:ah} {w0:WL} {M0:MM} {n:Nat} {st:St} {a:Act} {w:World} {z:Cz}
theorem aV.nil(G:Nat->List CV):aV P {G:=G,fn:=fun _ _=>none}:=⟨fun _ _ _ h=>(by cases h),fun _ h=>(by cases h),(fun _ _ h=>(by cases h)),fun _ _ _ _ _ _ h=>(by cases h)⟩
end
end WB
namespace WB
open Go Go.RowKit Go.ChangeShapes Go.WideShapes Go.Deep
section
variable {H:Type} {enc:TypeId×Value->H} {P:Program} {w:World} {base:Nat} {spare:Nat->Bool} {held:Bool}
theorem Vd{α:Type}{p:Nat->α->Prop}:∀(n:Nat),(∀i,i<n->∃x,p i x)->∃l:List α,l.length=n/\∀i x,l[i]? =some x->p i x
 |0,_=>⟨[],rfl,fun i x h=>by simp at h⟩
 |n+1,h=>by
  obtain⟨l,e,d⟩:=Vd n (fun i hi=>h i (by omega));obtain⟨x,c⟩:=h n (by omega);refine⟨l++ [x],by simp[e],fun i y b=> ?_⟩;by_cases hi:i<n
  ·rw[List.getElem?_append_left (by omega)]at b;exact d i y b
  ·rw[List.getElem?_append_right (by omega)]at b
   have:i-l.length=0:=by
    rcases Nat.eq_zero_or_pos (i-l.length)with h0|h0
    ·exact h0
    ·rw[List.getElem?_eq_none (by simp;omega)]at b;cases b
   rw[this]at b;simp only[List.getElem?_cons_zero,Ac]at b;subst b;have:i=n:=by omega
   subst this;exact c
theorem Ag4{f:Func}{s:ChangeSpec}{apart fresh handsOn again:Bool}{W k:World}{args:Array Value}{v:Value}{o gs:List (DataW H)}{before pa pv:List MemPlace}
  (u:DataW.Whole enc P f.params.toList s.vars apart W args.toList o gs before)
  (h:∀(b:Nat) (sp:Nat->Bool) (I:Bool),DataW.TrodAll enc P k b sp I f.resultTypes.toList (v.resultList f.resultTypes.size) (s.fn H (o++gs)).results [])
  (e:∀sp:Nat->Bool,(∀p∈before,sp p.block=true)->DataW.TrodAll enc P k 0 sp true f.params.toList args.toList (s.fn H (o++gs)).args pa)
  (c:∀sp:Nat->Bool,(∀p∈before,sp p.block=true)->DataW.TrodVars enc P k sp s.vars (s.fn H (o++gs)).vars pv)
  (g:before=pa++pv) (x:Below W.heap.size W k)
  (q:∀(j:Nat) (t:TypeId) (r:Value),f.resultTypes[j]? =some t->(v.resultList f.resultTypes.size)[j]? =some r->Value.okWide P k .any 0 t r):
  s.post enc P f apart fresh handsOn again W args v k:=by
 have l:∀p∈before,p.block<W.heap.size:=fun p d=>u.lt p d;have i:∀p∈before,(fun b=>decide (b<W.heap.size)) p.block=true:=fun p d=>by simpa using l p d
 refine⟨o,gs,before,[],pa,pv,u,h _ _ _,e _ i,c _ i,World.keptBut_mono (fun p d=>⟨d, ?_⟩) (x.frame (· ∈before)),fun _=> ?_⟩
 ·rw[g,List.mem_append]at d;exact Or.inr d
 ·obtain⟨_,_,_,_,_,y,F⟩:=u;refine⟨q,_,_,([]++pa)++pv,⟨[]++pa,pv,trodAll_append (e _ (fun _ _=>rfl)) (h _ _ _),c _ (fun _ _=>rfl),rfl, ?_, ?_⟩, ?_⟩
  ·intro b off d;have m:MemPlace.cell b off∈before:=by rw[g];simpa using d
   rw[x.frozen (l _ m)];exact y b off m
  ·intro J;have:=F J;rw[g]at this;simpa using this
  ·intro p d _;rw[g];simpa using d
end
theorem Y8{H:Type}{enc:TypeId×Value->H}{P:Program}(g:laidOutB P=true){W j:World}(i:Below W.heap.size W j){sp:Nat->Bool}:
  ∀{c:List TypeId} {vs:List Value} {d:List (DataW H)} {b:List MemPlace},(c.all fun t=>P.readableRec t&&decide (t<P.types.size))=true->(∀p∈b,p.block<W.heap.size)->(∀p∈b,sp p.block=true)->
  DataW.TrodAll enc P W 0 (fun _=>true) true c vs d b->DataW.TrodAll enc P j 0 sp true c vs d b
 | [],vs,d,b,_,_,_,h=>by
  obtain⟨rfl,rfl,rfl⟩:=trodAll_nil h;exact trodAll_mk0
 |t::c,vs,d,b,hr,hlt,hsp,h=>by
  obtain⟨o,k,r,m,q,q0,rfl,rfl,rfl,l,r0⟩:=trodAll_cons h;simp only[List.all_cons,Ag,decide_eq_true_eq]at hr;refine trodAll_cons_mk ?_ (Y8 g i hr.2 (fun p f=>hlt p (by simp[f])) (fun p f=>hsp p (by simp[f])) r0);exact WideElems.Trod_stays g hr.1.1 hr.1.2 l (fun x e=>i.same (hlt x (by simp[e]))) (fun x e=>hsp x (by simp[e]))
end WB
namespace WB
open Go Go.RowKit
inductive Ty where
 |int (k:IntKind)
 |bool
 |str
 |err
 |clo (f:Nat) (r:Ty)
 |falt (f:Nat) (r l:Ty)
 |nsl
 |nmap
 |nfn
 |nam (N:Nat)
 |bptr (N:Nat)
 |nilp
 |pt (r:Ty)
 |nw (e size:Nat) (t:Ty)
 |agg (r:Ty)
 |tup (r:Ty)
 |sl (e:Ty)
 |map (k v:Ty)
 |nil
 |one (t:Ty)
 |cons (t r:Ty)
 deriving DecidableEq
@[reducible] def D:Ty->Type
 | .int _=>Int
 | .bool=>Bool
 | .str=>List UInt8
 | .err=>Bool
 | .clo _ r=>D r
 | .falt _ r l=>D r⊕D l
 | .nsl=>Unit
 | .nmap=>Unit
 | .nfn=>Unit
 | .nam _=>Unit
 | .bptr _=>Unit
 | .nilp=>Unit
 | .pt r=>D r
 | .nw _ _ t=>List (D t)
 | .agg r=>D r
 | .tup r=>D r
 | .sl e=>List (D e)
 | .map k v=>List (D k×D v)
 | .nil=>Unit
 | .one t=>D t
 | .cons t r=>D t×D r
def CanAll{α β:Type}(R:α->β->Prop):List α->List β->Prop
 | [],bs=>bs= []
 |a::as,bs=>∃b c,bs=b::c/\R a b/\CanAll R as c
def Can:(t:Ty)->D t->List CV->Prop
 | .int k,n,cs=>cs= [.int k n]
 | .bool,b,cs=>cs= [.bool b]
 | .str,s,cs=>cs= [.str s]
 | .err,b,cs=>cs= [if b then .nilif else .ifc]
 | .clo f r,x,cs=>∃l,cs= [.fn f l]/\Can r x l
 | .falt f r l,x,cs=>match x with
  | .inl y=>∃cap,cs= [.fn f cap]/\Can r y cap
  | .inr z=>(∀cap,cs≠ [.fn f cap])/\Can l z cs
 | .nsl,_,cs=>cs= [.sl (some true) []]
 | .nmap,_,cs=>cs= [.map (some true) [] []]
 | .nfn,_,cs=>cs= [.nilfn]
 | .nam N,_,cs=>cs= [.nam N]
 | .bptr N,_,cs=>cs= [.bptr N]\/cs= [.nam N]\/cs= [.nilp]
 | .nilp,_,cs=>cs= [.nilp]
 | .pt r,x,cs=>∃l,cs= [.wp l]/\Can r x l
 | .nw _ _ _,_,_=>False
 | .agg r,x,cs=>∃l,cs= [.agg l]/\Can r x l
 | .tup r,x,cs=>∃l,cs= [.tup l]/\Can r x l
 | .sl e,xs,cs=>∃d es,cs= [.sl d es]/\CanAll (fun x c=>Can e x [c]) xs es
 | .map k v,m,cs=>∃d ks vs,cs= [.map d ks vs]/\CanAll (fun x c=>Can k x.1 [c]) m ks/\CanAll (fun x c=>Can v x.2 [c]) m vs
 | .nil,_,cs=>cs= []
 | .one t,x,cs=>∃c,cs= [c]/\Can t x [c]
 | .cons t r,x,cs=>∃c l,cs=c::l/\Can t x.1 [c]/\Can r x.2 l
def encL:(t:Ty)->D t->List CV
 | .int k,n=> [.int k n]
 | .bool,b=> [.bool b]
 | .str,s=> [.str s]
 | .err,b=> [if b then .nilif else .ifc]
 | .clo f r,x=> [.fn f (encL r x)]
 | .falt f r l,x=>match x with
  | .inl y=> [.fn f (encL r y)]
  | .inr z=>encL l z
 | .nsl,_=> [.sl (some true) []]
 | .nmap,_=> [.map (some true) [] []]
 | .nfn,_=> [.nilfn]
 | .nam N,_=> [.nam N]
 | .bptr N,_=> [.bptr N]
 | .nilp,_=> [.nilp]
 | .pt r,x=> [.wp (encL r x)]
 | .nw _ _ _,_=> []
 | .agg r,x=> [.agg (encL r x)]
 | .tup r,x=> [.tup (encL r x)]
 | .sl e,xs=> [.sl none (xs.map fun x=>(encL e x).headD .nilif)]
 | .map k v,m=> [.map none (m.map fun x=>(encL k x.1).headD .nilif) (m.map fun x=>(encL v x.2).headD .nilif)]
 | .nil,_=> []
 | .one t,x=> [(encL t x).headD .nilif]
 | .cons t r,x=>(encL t x.1).headD .nilif::encL r x.2
def enc(t:Ty)(x:D t):CV:=(encL t x).headD .nilif
def Ty.isFn:Ty->Bool
 | .clo _ _=>true
 | .nfn=>true
 | .falt _ _ l=>l.isFn
 |_=>false
theorem MF:∀{t:Ty} {x:D t} {cs:List CV},t.isFn=true->Can t x cs->∃c,cs= [c]/\c.cells= [c]/\∀l,c≠ .agg l/\c≠ .tup l:=by
 intro t
 induction t with
 |clo f r _=>intro x cs _ h;unfold Can at h;obtain⟨l,rfl,_⟩:=h;exact⟨_,rfl,rfl,fun l=>⟨(fun e=>by cases e),(fun e=>by cases e)⟩⟩
 |nfn=>intro x cs _ h;unfold Can at h;subst h;exact⟨_,rfl,rfl,fun l=>⟨(fun e=>by cases e),(fun e=>by cases e)⟩⟩
 |falt f r l _ ihl=>
  intro x cs h b
  cases x with
  |inl y=>unfold Can at b;obtain⟨cap,rfl,_⟩:=b;exact⟨_,rfl,rfl,fun l=>⟨(fun e=>by cases e),(fun e=>by cases e)⟩⟩
  |inr z=>unfold Can at b;exact ihl h b.2
 |_=>intro x cs h;cases h
def Ty.val:Ty->Bool
 | .nil| .one _| .cons _ _| .nw _ _ _=>false
 | .falt _ _ l=>l.isFn
 |_=>true
section
variable {α β:Type} {R S:α->β->Prop}
theorem CanAll.length:∀{c:List α} {bs:List β},CanAll R c bs->bs.length=c.length
 | [],_,h=>by unfold CanAll at h;subst h;rfl
 |_::_,_,h=>by
  obtain⟨b,e,rfl,_,d⟩:=h;simp[CanAll.length d]
theorem CanAll.get:∀{d:List α} {bs:List β} {i:Nat} {a:α},CanAll R d bs->d[i]? =some a->∃b,bs[i]? =some b/\R a b
 | [],_,_,_,_,h=>by simp at h
 |_::_,_,0,_,hc,h=>by
  obtain⟨b,c,rfl,f,_⟩:=hc;simp at h;subst h;exact⟨b,rfl,f⟩
 |_::_,_,i+1,_,hc,h=>by
  obtain⟨b,c,rfl,_,e⟩:=hc;simp only[List.getElem?_cons_succ]at h⊢;exact CanAll.get e h
theorem CanAll.getB:∀{d:List α} {bs:List β} {i:Nat} {b:β},CanAll R d bs->bs[i]? =some b->∃a,d[i]? =some a/\R a b
 | [],_,_,_,hc,h=>by unfold CanAll at hc;subst hc;simp at h
 |_::_,_,0,_,hc,h=>by
  obtain⟨b,c,rfl,f,_⟩:=hc;simp at h;subst h;exact⟨_,rfl,f⟩
 |_::_,_,i+1,_,hc,h=>by
  obtain⟨b,c,rfl,_,e⟩:=hc;simp only[List.getElem?_cons_succ]at h⊢;exact CanAll.getB e h
theorem CanAll.mono:∀{d:List α} {bs:List β},(∀a b,a∈d->R a b->S a b)->CanAll R d bs->CanAll S d bs
 | [],_,_,h=>h
 |_::_,_,f,h=>by
  obtain⟨b,c,rfl,i,g⟩:=h;exact⟨b,c,rfl,f _ _ (by simp) i,CanAll.mono (fun a b e=>f a b (by simp[e])) g⟩
theorem CanAll.append:∀{e d:List α} {bs c:List β},CanAll R e bs->CanAll R d c->CanAll R (e++d) (bs++c)
 | [],_,_,_,h,k=>by unfold CanAll at h;subst h;exact k
 |_::_,_,_,_,h,k=>by
  obtain⟨b,c,rfl,g,f⟩:=h;exact⟨b,_,rfl,g,CanAll.append f k⟩
theorem CanAll.take:∀(n:Nat) {c:List α} {bs:List β},CanAll R c bs->CanAll R (c.take n) (bs.take n)
 |0,_,_,_=>by simp[CanAll]
 |n+1,[],_,h=>by unfold CanAll at h;subst h;simp[CanAll]
 |n+1,_::_,_,h=>by
  obtain⟨b,f,rfl,e,d⟩:=h;exact⟨b,_,rfl,e,CanAll.take n d⟩
theorem CanAll.drop:∀(n:Nat) {c:List α} {bs:List β},CanAll R c bs->CanAll R (c.drop n) (bs.drop n)
 |0,_,_,h=>h
 |n+1,[],_,h=>by unfold CanAll at h;subst h;simp[CanAll]
 |n+1,_::_,_,h=>by
  obtain⟨b,e,rfl,f,d⟩:=h;exact CanAll.drop n d
theorem CanAll.set:∀(n:Nat) {f:List α} {bs:List β} {a:α} {b:β},CanAll R f bs->R a b->CanAll R (f.set n a) (bs.set n b)
 |_,[],_,_,_,h,_=>by unfold CanAll at h;subst h;simp[CanAll]
 |0,_::_,_,_,_,h,k=>by
  obtain⟨b,d,rfl,e,c⟩:=h;exact⟨_,_,rfl,k,c⟩
 |n+1,_::_,_,_,_,h,k=>by
  obtain⟨b,d,rfl,e,c⟩:=h;exact⟨b,_,rfl,e,CanAll.set n c k⟩
theorem CanAll.cons{a:α}{b:β}{c:List α}{bs:List β}(h:R a b)(k:CanAll R c bs):CanAll R (a::c) (b::bs):=⟨b,bs,rfl,h,k⟩
theorem CanAll.nil:CanAll R [] []:=rfl
theorem CanAll.replicate{a:α}{b:β}(h:R a b):∀n,CanAll R (List.replicate n a) (List.replicate n b)
 |0=>rfl
 |n+1=>⟨b,_,rfl,h,CanAll.replicate h n⟩
theorem CanAll.uniq:∀{g d:List α} {bs:List β},(∀a i b,R a b->R i b->a=i)->CanAll R g bs->CanAll R d bs->g=d
 | [],[],_,_,_,_=>rfl
 | [],_::_,_,_,h,k=>by
  obtain⟨b,c,rfl,_⟩:=k;unfold CanAll at h;cases h
 |_::_,[],_,_,h,k=>by
  obtain⟨b,c,rfl,_⟩:=h;unfold CanAll at k;cases k
 |_::_,_::_,_,f,h,k=>by
  obtain⟨b,c,rfl,o,m⟩:=h;obtain⟨q,p,e,l,j⟩:=k;cases e;rw[f _ _ _ o l,CanAll.uniq f m j]
end
theorem Can.one:∀{t:Ty} {x:D t} {cs:List CV},t.val=true->Can t x cs->∃c,cs= [c]:=by
 intro t
 induction t with
 |falt f r l _ ihl=>
  intro x cs b h
  cases x with
  |inl y=>unfold Can at h;obtain⟨l,h,_⟩:=h;exact⟨_,h⟩
  |inr z=>
   unfold Can at h;obtain⟨c,e,_⟩:=MF (show l.isFn=true by simpa[Ty.val]using b) h.2;exact⟨_,e⟩
 |agg=>intro x cs b h;unfold Can at h;obtain⟨l,h,_⟩:=h;exact⟨_,h⟩
 |pt=>intro x cs b h;unfold Can at h;obtain⟨l,h,_⟩:=h;exact⟨_,h⟩
 |bptr N=>intro x cs b h;unfold Can at h;rcases h with h|h|h<;>exact⟨_,h⟩
 |nw=>intro x cs b;cases b
 |clo=>intro x cs b h;unfold Can at h;obtain⟨l,h,_⟩:=h;exact⟨_,h⟩
 |tup=>intro x cs b h;unfold Can at h;obtain⟨l,h,_⟩:=h;exact⟨_,h⟩
 |sl=>intro x cs b h;unfold Can at h;obtain⟨_,_,h,_⟩:=h;exact⟨_,h⟩
 |map=>intro x cs b h;unfold Can at h;obtain⟨_,_,_,h,_⟩:=h;exact⟨_,h⟩
 |nil=>intro x cs b;cases b
 |one=>intro x cs b;cases b
 |cons=>intro x cs b;cases b
 |_=>intro x cs b h;unfold Can at h;exact⟨_,h⟩
theorem Can.uniq:∀(t:Ty) {x y:D t} {cs:List CV},Can t x cs->Can t y cs->x=y
 | .int _,_,_,_,h,k=>by unfold Can at h k;rw[h]at k;simpa using k
 | .bool,_,_,_,h,k=>by unfold Can at h k;rw[h]at k;simpa using k
 | .str,_,_,_,h,k=>by unfold Can at h k;rw[h]at k;simpa using k
 | .err,x,y,_,h,k=>by unfold Can at h k;rw[h]at k;cases x<;>cases y<;>simp_all
 | .clo f r,_,_,_,h,k=>by
  unfold Can at h k;obtain⟨l,rfl,h⟩:=h;obtain⟨l',e,k⟩:=k;cases e;exact Can.uniq r h k
 | .falt f r l,x,y,_,h,k=>by
  cases x with
  |inl a=>
   unfold Can at h;obtain⟨cap,rfl,h⟩:=h
   cases y with
   |inl X=>
    unfold Can at k;obtain⟨g,e,k⟩:=k;cases e;rw[Can.uniq r h k]
   |inr b'=>
    unfold Can at k;exact absurd rfl (k.1 cap)
  |inr b=>
   unfold Can at h
   cases y with
   |inl X=>
    unfold Can at k;obtain⟨g,e,k⟩:=k;exact absurd e (h.1 g)
   |inr b'=>
    unfold Can at k;rw[Can.uniq l h.2 k.2]
 | .nsl,_,_,_,_,_=>rfl
 | .nmap,_,_,_,_,_=>rfl
 | .nfn,_,_,_,_,_=>rfl
 | .nam _,_,_,_,_,_=>rfl
 | .bptr _,_,_,_,_,_=>rfl
 | .nilp,_,_,_,_,_=>rfl
 | .pt r,_,_,_,h,k=>by
  unfold Can at h k;obtain⟨l,rfl,h⟩:=h;obtain⟨l',e,k⟩:=k;cases e;exact Can.uniq r h k
 | .nw _ _ _,_,_,_,h,_=>by unfold Can at h;exact h.elim
 | .agg r,_,_,_,h,k=>by
  unfold Can at h k;obtain⟨l,rfl,h⟩:=h;obtain⟨l',e,k⟩:=k;cases e;exact Can.uniq r h k
 | .tup r,_,_,_,h,k=>by
  unfold Can at h k;obtain⟨l,rfl,h⟩:=h;obtain⟨l',e,k⟩:=k;cases e;exact Can.uniq r h k
 | .sl e,_,_,_,h,k=>by
  unfold Can at h k;obtain⟨Z,es,rfl,h⟩:=h;obtain⟨I,es',T,k⟩:=k;cases T;exact CanAll.uniq (R:=fun x c=>Can e x [c]) (fun a X b h k=>Can.uniq e h k) h k
 | .map kt vt,x,y,_,h,k=>by
  unfold Can at h k;obtain⟨Z,ks,vs,rfl,O,N⟩:=h;obtain⟨I,J,F,T,M,L⟩:=k;cases T
  have key:∀{m i:List (D kt×D vt)} {ks vs:List CV},CanAll (fun x c=>Can kt x.1 [c]) m ks->CanAll (fun x c=>Can vt x.2 [c]) m vs->CanAll (fun x c=>Can kt x.1 [c]) i ks->CanAll (fun x c=>Can vt x.2 [c]) i vs->m=i:=by
   intro m
   induction m with
   |nil=>
    intro i ks vs o v j u;have:=j.length;unfold CanAll at o;subst o;exact(Aw (by simpa using this.symm)).symm
   |cons p m ih=>
    intro i ks vs o v j u;obtain⟨c,ks,rfl,c1,o⟩:=o;obtain⟨d,vs,rfl,d1,v⟩:=v
    cases i with
    |nil=>unfold CanAll at j;cases j
    |cons p' i=>
     obtain⟨Y,J,e,V,j⟩:=j;cases e;obtain⟨d',F,e,U,u⟩:=u;cases e;rw[ih o v j u];have s:=Can.uniq kt c1 V;have q:=Can.uniq vt d1 U;obtain⟨p1,p2⟩:=p;obtain⟨q1,q2⟩:=p';simp only at s q;rw[s,q]
  exact key O N M L
 | .nil,_,_,_,_,_=>rfl
 | .one t,_,_,_,h,k=>by
  unfold Can at h k;obtain⟨c,rfl,h⟩:=h;obtain⟨Y,e,k⟩:=k;cases e;exact Can.uniq t h k
 | .cons t r,(a,b),(X,b'),_,h,k=>by
  unfold Can at h k;obtain⟨c,l,rfl,O,N⟩:=h;obtain⟨Y,l',e,M,L⟩:=k;cases e;have s:=Can.uniq t O M;have q:=Can.uniq r N L;simp only at s q;rw[s,q]
theorem RelC.plain{w:World}{M:MM}:∀(t:Ty) {x:D t} {cs:List CV} {vs:List Value},Can t x cs->RelL w M cs vs->RelL w M (encL t x) vs:=by
 have Y:∀(t:Ty),(∀{x:D t} {cs:List CV} {vs:List Value},Can t x cs->RelL w M cs vs->RelL w M (encL t x) vs)->∀{x:D t} {c:CV} {v:Value},Can t x [c]->RelC w M c v->RelC w M ((encL t x).headD .nilif) v:=by
  intro t s x c v hc g;have:=s hc (RelL.cons g RelL.nil);have I:=this.length
  match he:encL t x with
  | []=>rw[he]at I;simp at I
  | [d]=>
   rw[he]at this;unfold RelL at this;obtain⟨v',J,e,q,L⟩:=this;cases e;exact q
  |d::d'::ds=>rw[he]at I;simp at I
 have j:∀{c:CV} {vs:List Value},RelL w M [c] vs->∃v,vs= [v]/\RelC w M c v:=by
  intro c vs h;unfold RelL at h;obtain⟨v,J,rfl,q,L⟩:=h;unfold RelL at L;subst L;exact⟨v,rfl,q⟩
 intro t
 induction t with
 |int k=>intro x cs vs h g;unfold Can at h;subst h;exact g
 |bool=>intro x cs vs h g;unfold Can at h;subst h;exact g
 |str=>intro x cs vs h g;unfold Can at h;subst h;exact g
 |err=>intro x cs vs h g;unfold Can at h;subst h;exact g
 |clo f r s=>
  intro x cs vs h g;unfold Can at h;obtain⟨l,rfl,h⟩:=h;obtain⟨v,rfl,o⟩:=j g;refine RelL.cons ?_ RelL.nil;unfold RelC at o⊢;obtain⟨us,e,I⟩:=o;exact⟨us,e,s h I⟩
 |falt f r l s ihl=>
  intro x cs vs h g
  cases x with
  |inl y=>
   unfold Can at h;obtain⟨cap,rfl,h⟩:=h;obtain⟨v,rfl,o⟩:=j g;refine RelL.cons ?_ RelL.nil;unfold RelC at o⊢;obtain⟨us,e,I⟩:=o;exact⟨us,e,s h I⟩
  |inr z=>
   unfold Can at h;exact ihl h.2 g
 |nsl=>intro x cs vs h g;unfold Can at h;subst h;exact g
 |nmap=>intro x cs vs h g;unfold Can at h;subst h;exact g
 |nfn=>intro x cs vs h g;unfold Can at h;subst h;exact g
 |nam N=>intro x cs vs h g;unfold Can at h;subst h;exact g
 |nilp=>intro x cs vs h g;unfold Can at h;subst h;exact g
 |bptr N=>
  intro x cs vs h g;unfold Can at h;unfold encL;rcases h with rfl|rfl|rfl
  ·exact g
  ·obtain⟨v,rfl,o⟩:=j g;refine RelL.cons ?_ RelL.nil;unfold RelC at o⊢;exact .inr o
  ·obtain⟨v,rfl,o⟩:=j g;refine RelL.cons ?_ RelL.nil;unfold RelC at o⊢;exact .inl o
 |nw e size t _=>intro x cs vs h;unfold Can at h;exact h.elim
 |pt r s=>
  intro x cs vs h g;unfold Can at h;obtain⟨l,rfl,h⟩:=h;obtain⟨v,rfl,o⟩:=j g;refine RelL.cons ?_ RelL.nil;unfold RelC at o⊢;obtain⟨Z,ty,us,e,U,T,I⟩:=o;exact⟨Z,ty,us,e,U,T,s h I⟩
 |nil=>intro x cs vs h g;unfold Can at h;subst h;exact g
 |agg r s=>
  intro x cs vs h g;unfold Can at h;obtain⟨l,rfl,h⟩:=h;obtain⟨v,rfl,o⟩:=j g;refine RelL.cons ?_ RelL.nil;unfold RelC at o⊢;obtain⟨us,e,I⟩:=o;exact⟨us,e,s h I⟩
 |tup r s=>
  intro x cs vs h g;unfold Can at h;obtain⟨l,rfl,h⟩:=h;obtain⟨v,rfl,o⟩:=j g;refine RelL.cons ?_ RelL.nil;unfold RelC at o⊢;obtain⟨us,e,I⟩:=o;exact⟨us,e,s h I⟩
 |sl e s=>
  intro x cs vs h g;unfold Can at h;obtain⟨nl,es,rfl,h⟩:=h;obtain⟨v,rfl,o⟩:=j g;refine RelL.cons ?_ RelL.nil;have F:=h.length;unfold RelC at o⊢;obtain⟨a,n,c,ev,hn,hle,_,_,hc0,X⟩:=o;refine⟨a,n,c,ev,by simp[hn,F],hle,(fun h=>by cases h),(fun h=>by cases h),hc0,fun V=> ?_⟩
  obtain⟨Z,size,ea,hlt,hM,hE⟩:=X (by
   intro h0;subst h0;simp only[Av]at F
   exact V (by simp[Aw F.symm]))
  refine⟨Z,size,ea,hlt,hM, ?_⟩;clear V ea hn F
  have key:∀{xs:List (D e)} {es:List CV} {i:Nat},CanAll (fun x c=>Can e x [c]) xs es->RelE w M Z size i es->RelE w M Z size i (xs.map fun x=>(encL e x).headD .nilif):=by
   intro xs
   induction xs with
   |nil=>intro es i _ _;unfold RelE;trivial
   |cons y ys ihx=>
    intro es i hc hE;obtain⟨c,es',rfl,q,L⟩:=hc;unfold RelE at hE;obtain⟨⟨u,U,T,g3⟩,g4⟩:=hE;simp only[List.map_cons];unfold RelE;exact⟨⟨u,Y e s q U,T,g3⟩,ihx L g4⟩
  exact key h hE
 |map kt vt ihk ihv=>
  intro x cs vs h g;unfold Can at h;obtain⟨nl,ks,us,rfl,q,L⟩:=h;obtain⟨v,rfl,o⟩:=j g;refine RelL.cons ?_ RelL.nil;have hl1:=q.length;have hl2:=L.length;unfold RelC at o⊢;obtain⟨r,ev,_,_,h0,hm⟩:=o;refine⟨r,ev,(fun h=>by cases h),(fun h=>by cases h),fun hr0=> ?_,fun b hb=> ?_⟩
  ·obtain⟨e1,e2⟩:=h0 hr0;subst e1;have:x= []:=Aw (by simpa using hl1.symm);subst this;exact⟨rfl,rfl⟩
  ·obtain⟨hM,ens,ens',clk,hh,hE,hp,r1,r2⟩:=hm b hb;refine⟨hM,ens,ens',clk,hh,hE,hp, ?_, ?_⟩
   ·have key:∀(m:List (D kt×D vt)) (ks:List CV) (vs:List Value),CanAll (fun x c=>Can kt x.1 [c]) m ks->RelL w M ks vs->RelL w M (m.map fun x=>(encL kt x.1).headD .nilif) vs:=by
     intro m
     induction m with
     |nil=>
      intro ks vs q r1;unfold CanAll at q;subst q;exact r1
     |cons p m ihm=>
      intro ks vs q r1;obtain⟨c,O,rfl,U,T⟩:=q;unfold RelL at r1;obtain⟨v',J,e,q1,q2⟩:=r1;rw[e];exact RelL.cons (Y kt ihk U q1) (ihm O J T q2)
    exact key _ _ _ q r1
   ·have key:∀(m:List (D kt×D vt)) (ks:List CV) (vs:List Value),CanAll (fun x c=>Can vt x.2 [c]) m ks->RelL w M ks vs->RelL w M (m.map fun x=>(encL vt x.2).headD .nilif) vs:=by
     intro m
     induction m with
     |nil=>
      intro ks vs q r1;unfold CanAll at q;subst q;exact r1
     |cons p m ihm=>
      intro ks vs q r1;obtain⟨c,O,rfl,U,T⟩:=q;unfold RelL at r1;obtain⟨v',J,e,q1,q2⟩:=r1;rw[e];exact RelL.cons (Y vt ihv U q1) (ihm O J T q2)
    exact key _ _ _ L r2
 |one t s=>
  intro x cs vs h g;unfold Can at h;obtain⟨c,rfl,h⟩:=h;obtain⟨v,rfl,o⟩:=j g;exact RelL.cons (Y t s h o) RelL.nil
 |cons t r iht ihr=>
  intro x cs vs h g;unfold Can at h;obtain⟨c,l,rfl,q,L⟩:=h;unfold RelL at g;obtain⟨v,J,rfl,h3,h4⟩:=g;exact RelL.cons (Y t iht q h3) (ihr L h4)
theorem RelC.enc{w:World}{M:MM}{t:Ty}{x:D t}{c:CV}{v:Value}(h:Can t x [c])(g:RelC w M c v):RelC w M (enc t x) v:=by
 have:=RelC.plain t h (RelL.cons g RelL.nil);have b:=this.length;unfold WB.enc
 match he:encL t x with
 | []=>rw[he]at b;simp at b
 | [d]=>
  rw[he]at this;unfold RelL at this;obtain⟨j,f,e,i,k⟩:=this;cases e;exact i
 |d::d'::ds=>rw[he]at b;simp at b
def Ty.fnNo(f:Nat):Ty->Bool
 | .clo g _=>g !=f
 | .nfn=>true
 | .falt g _ l=>g !=f&&l.fnNo f
 |_=>false
def Ty.ok:Ty->Bool
 | .agg r=> !r.val&&r.ok
 | .tup r=> !r.val&&r.ok
 | .pt r=> !r.val&&r.ok
 | .nw _ _ _=>false
 | .clo _ r=> !r.val&&r.ok
 | .falt f r l=> !r.val&&r.ok&&l.ok&&l.fnNo f
 | .sl e=>e.val&&e.ok
 | .map k v=>k.val&&k.ok&&v.val&&v.ok
 | .one t=>t.val&&t.ok
 | .cons t r=>t.val&&t.ok&& !r.val&&r.ok
 |_=>true
theorem Aa9{f:Nat}:∀{l:Ty} {x:D l},l.fnNo f=true->∀cap,encL l x≠ [.fn f cap]:=by
 intro l
 induction l with
 |clo g r _=>
  intro x h cap e;unfold encL at e;simp only[List.cons.injEq,CV.fn.injEq,and_true]at e;simp[Ty.fnNo]at h;exact h e.1
 |nfn=>intro x h cap e;unfold encL at e;cases e
 |falt g r l _ ihl=>
  intro x h cap e;simp only[Ty.fnNo,Ag]at h
  cases x with
  |inl y=>
   unfold encL at e;simp only[List.cons.injEq,CV.fn.injEq,and_true]at e;simp at h;exact h.1 e.1
  |inr z=>unfold encL at e;exact ihl h.2 cap e
 |_=>intro x h;cases h
theorem Can.plain:∀(t:Ty) (x:D t),t.ok=true->Can t x (encL t x):=by
 have d:∀(t:Ty),(∀(x:D t),t.ok=true->Can t x (encL t x))->∀(x:D t),t.val=true->t.ok=true->Can t x [(encL t x).headD .nilif]:=by
  intro t b x o p;have h:=b x p;obtain⟨c,q⟩:=h.one o;rw[q]at h⊢;exact h
 intro t
 induction t with
 |int k=>intro x _;unfold Can encL;rfl
 |bool=>intro x _;unfold Can encL;rfl
 |str=>intro x _;unfold Can encL;rfl
 |err=>intro x _;unfold Can encL;rfl
 |clo f r b=>
  intro x h;simp only[Ty.ok,Ag]at h;unfold Can encL;exact⟨_,rfl,b x h.2⟩
 |falt f r l b ihl=>
  intro x h;simp only[Ty.ok,Ag]at h
  cases x with
  |inl y=>unfold Can encL;exact⟨_,rfl,b y h.1.1.2⟩
  |inr z=>
   have i:=ihl z h.1.2;have g:∀cap,encL l z≠ [.fn f cap]:=Aa9 h.2;unfold Can;have e:encL (.falt f r l) (.inr z)=encL l z:=rfl;rw[e];exact⟨g,i⟩
 |nsl=>intro x _;unfold Can encL;rfl
 |nmap=>intro x _;unfold Can encL;rfl
 |nfn=>intro x _;unfold Can encL;rfl
 |nam N=>intro x _;unfold Can encL;rfl
 |bptr N=>intro x _;unfold Can encL;exact .inl rfl
 |nilp=>intro x _;unfold Can encL;rfl
 |nw e size t _=>intro x h;cases h
 |pt r b=>
  intro x h;simp only[Ty.ok,Ag]at h;unfold Can encL;exact⟨_,rfl,b x h.2⟩
 |nil=>intro x _;unfold Can encL;rfl
 |agg r b=>
  intro x h;simp only[Ty.ok,Ag]at h;unfold Can encL;exact⟨_,rfl,b x h.2⟩
 |tup r b=>
  intro x h;simp only[Ty.ok,Ag]at h;unfold Can encL;exact⟨_,rfl,b x h.2⟩
 |sl e b=>
  intro x h;simp only[Ty.ok,Ag]at h;unfold Can encL;refine⟨none,_,rfl, ?_⟩
  induction x with
  |nil=>rfl
  |cons y ys ihx=>exact⟨_,_,rfl,d e b y h.1 h.2,ihx⟩
 |map kt vt ihk ihv=>
  intro x h;simp only[Ty.ok,Ag]at h;obtain⟨⟨⟨i,g⟩,m⟩,j⟩:=h;unfold Can encL;refine⟨none,_,_,rfl, ?_, ?_⟩
  ·induction x with
   |nil=>rfl
   |cons y ys ihx=>exact⟨_,_,rfl,d kt ihk _ i g,ihx⟩
  ·induction x with
   |nil=>rfl
   |cons y ys ihx=>exact⟨_,_,rfl,d vt ihv _ m j,ihx⟩
 |one t b=>
  intro x h;simp only[Ty.ok,Ag]at h;unfold Can encL;exact⟨_,rfl,d t b x h.1 h.2⟩
 |cons t r iht ihr=>
  intro x h;simp only[Ty.ok,Ag]at h;obtain⟨⟨⟨i,g⟩,m⟩,j⟩:=h;unfold Can encL;exact⟨_,_,rfl,d t iht x.1 i g,ihr x.2 j⟩
theorem Can.enc{t:Ty}(x:D t)(b:t.val=true)(d:t.ok=true):Can t x [WB.enc t x]:=by
 have h:=Can.plain t x d;obtain⟨c,e⟩:=h.one b;unfold WB.enc;rw[e]at h⊢;exact h
def Bc:Ty->Option Nat
 | .nil=>some 0
 | .one _=>some 1
 | .cons _ r=>(Bc r).map (· +1)
 |_=>none
def BV:Ty->Ty
 | .agg r=>r
 |t=>.one t
def G7:(t:Ty)->D t->D (BV t)
 | .int _,x| .bool,x| .str,x| .err,x| .clo _ _,x| .falt _ _ _,x| .nfn,x| .nam _,x| .bptr _,x| .nilp,x| .pt _,x| .nw _ _ _,x| .nsl,x| .nmap,x| .agg _,x| .tup _,x| .sl _,x| .map _ _,x| .nil,x| .one _,x| .cons _ _,x=>x
def FJ:(r:Ty)->Nat->Option (Σ q:Ty,D r->D q)
 |r,0=>some ⟨r,fun x=>x⟩
 | .one _,1=>some ⟨.nil,fun _=>()⟩
 | .cons _ r,n+1=>match FJ r n with
  |some q=>some ⟨q.1,fun x=>q.2 x.2⟩
  |none=>none
 |_,_=>none
def EO:(r:Ty)->Nat->Option (Σ q:Ty,D r->D q)
 | .one t,1=>some ⟨.one t,fun x=>x⟩
 | .cons t _,1=>some ⟨.one t,fun x=>x.1⟩
 | .cons t r,n+2=>match EO r (n+1)with
  |some q=>some ⟨.cons t q.1,fun x=>(x.1,q.2 x.2)⟩
  |none=>none
 |_,0=>some ⟨.nil,fun _=>()⟩
 |_,_=>none
def EH:(r:Ty)->Nat->Option (Σ t:Ty,D r->D t)
 | .one t,0=>some ⟨t,fun x=>x⟩
 | .cons t _,0=>some ⟨t,fun x=>x.1⟩
 | .cons _ r,n+1=>match EH r n with
  |some q=>some ⟨q.1,fun x=>q.2 x.2⟩
  |none=>none
 |_,_=>none
def Oe(r:Ty)(off n:Nat):Option (Σ q:Ty,D r->D q):=
 match FJ r off with
 |some p=>match EO p.1 n with
  |some q=>some ⟨q.1,fun x=>q.2 (p.2 x)⟩
  |none=>none
 |none=>none
def FZ:(r:Ty)->Nat->(t:Ty)->Option (Σ q:Ty,D r->D t->D q)
 | .one _,0,t=>some ⟨.one t,fun _ y=>y⟩
 | .cons _ r,0,t=>some ⟨.cons t r,fun x y=>(y,x.2)⟩
 | .cons u r,n+1,t=>match FZ r n t with
  |some q=>some ⟨.cons u q.1,fun x y=>(x.1,q.2 x.2 y)⟩
  |none=>none
 |_,_,_=>none
def KR:(p:Ty)->(r:Ty)->Nat->Option (Σ q:Ty,D r->D p->D q)
 | .one t,r,off=>FZ r off t
 | .cons t p,r,off=>match FZ r off t with
  |some q=>match KR p q.1 (off+1)with
   |some q'=>some ⟨q'.1,fun x y=>q'.2 (q.2 x y.1) y.2⟩
   |none=>none
  |none=>none
 |_,_,_=>none
theorem Fe:∀{r:Ty} {n:Nat} {x:D r} {l:List CV},Bc r=some n->Can r x l->l.length=n
 | .nil,_,_,_,hn,h=>by unfold Can at h;subst h;simpa[Bc]using hn
 | .one t,_,_,_,hn,h=>by unfold Can at h;obtain⟨c,rfl,_⟩:=h;simpa[Bc]using hn
 | .cons t r,n,x,l,hn,h=>by
  unfold Can at h;obtain⟨c,l',rfl,_,h⟩:=h;simp only[Bc,Aa]at hn;obtain⟨m,b,rfl⟩:=hn;simp[Fe b h]
theorem Mx:∀{r:Ty} {n:Nat} {q:Σ q:Ty,D r->D q} {x:D r} {l:List CV},FJ r n=some q->Can r x l->Can q.1 (q.2 x) (l.drop n)/\(n=0\/n<=l.length):=by
 intro r n
 induction n generalizing r with
 |zero=>
  intro q x l h b;have e:FJ r 0=some ⟨r,fun x=>x⟩:=by cases r<;>rfl
  rw[e]at h;cases h;exact⟨b,.inl rfl⟩
 |succ n ih=>
  intro q x l h b;cases r<;>(try simp[FJ]at h;done)
  ·rename_i t
   cases n with
   |zero=>
    change(some (⟨.nil,fun _=>()⟩:Σ q:Ty,D (.one t)->D q))=some q at h;cases h;unfold Can at b;obtain⟨c,rfl,_⟩:=b;exact⟨by simp[Can],.inr (by simp)⟩
   |succ n=>simp[FJ]at h
  ·rename_i t r;unfold Can at b;obtain⟨c,l',rfl,_,b⟩:=b;simp only[FJ]at h;split at h<;>(try cases h;done);rename_i p d;cases h;obtain⟨f,g⟩:=ih d b;exact⟨by simpa using f,.inr (by simp;omega)⟩
theorem Of:∀{n:Nat} {r:Ty} {q:Σ q:Ty,D r->D q} {x:D r} {l:List CV},EO r n=some q->Can r x l->Can q.1 (q.2 x) (l.take n)/\n<=l.length:=by
 intro n
 induction n with
 |zero=>
  intro r q x l h b;have e:EO r 0=some ⟨.nil,fun _=>()⟩:=by cases r<;>rfl
  rw[e]at h;cases h;exact⟨by simp[Can],by omega⟩
 |succ n ih=>
  intro r q x l h b;cases r<;>(try simp[EO]at h;done)
  ·rename_i t
   cases n with
   |zero=>
    change(some (⟨.one t,fun x=>x⟩:Σ q:Ty,D (.one t)->D q))=some q at h;cases h;have d:=b;unfold Can at d;obtain⟨c,rfl,_⟩:=d;exact⟨b,by simp⟩
   |succ n=>simp[EO]at h
  ·rename_i t r;unfold Can at b;obtain⟨c,l',rfl,f,b⟩:=b
   cases n with
   |zero=>
    change(some (⟨.one t,fun x=>x.1⟩:Σ q:Ty,D (.cons t r)->D q))=some q at h;cases h;refine⟨?_,by simp⟩;simp only[List.take_succ_cons,List.take_zero];unfold Can;exact⟨c,rfl,f⟩
   |succ n=>
    simp only[EO]at h;split at h<;>(try cases h;done);rename_i p g;cases h;obtain⟨i,j⟩:=ih g b;refine⟨?_,by simp;omega⟩;simp only[List.take_succ_cons];unfold Can;exact⟨c,_,rfl,f,i⟩
theorem Y3{r:Ty}{off n:Nat}{q:Σ q:Ty,D r->D q}{x:D r}{l:List CV}(h:Oe r off n=some q)(d:Can r x l):Can q.1 (q.2 x) ((l.drop off).take n)/\(n<=l.length-off):=by
 unfold Oe at h;split at h<;>(try cases h;done);rename_i p c;split at h<;>(try cases h;done);rename_i g b;cases h;obtain⟨f,e⟩:=Of b (Mx c d).1;exact⟨f,by simpa using e⟩
theorem IX:∀{r:Ty} {n:Nat} {q:Σ q:Ty,D r->D q} {x:D r} {l:List CV},EH r n=some q->Can r x l->∃c,l[n]? =some c/\Can q.1 (q.2 x) [c]:=by
 intro r n
 induction n generalizing r with
 |zero=>
  intro q x l h b;cases r<;>(try simp[EH]at h;done)
  ·simp only[EH,Ac]at h;subst h;unfold Can at b;obtain⟨c,rfl,d⟩:=b;exact⟨c,rfl,d⟩
  ·simp only[EH,Ac]at h;subst h;unfold Can at b;obtain⟨c,l',rfl,d,b⟩:=b;exact⟨c,rfl,d⟩
 |succ n ih=>
  intro q x l h b;cases r<;>(try simp[EH]at h;done);rename_i t r;unfold Can at b;obtain⟨c,l',rfl,d,b⟩:=b;simp only[EH]at h;split at h<;>(try cases h;done);rename_i p e;cases h;simpa using ih e b
theorem Yi:∀{n:Nat} {r t:Ty} {q:Σ q:Ty,D r->D t->D q} {x:D r} {y:D t} {l:List CV} {c:CV},FZ r n t=some q->Can r x l->Can t y [c]->Can q.1 (q.2 x y) (l.set n c)/\n<l.length:=by
 intro n
 induction n with
 |zero=>
  intro r t q x y l c h b e;cases r<;>(try simp[FZ]at h;done)
  ·simp only[FZ,Ac]at h;subst h;unfold Can at b;obtain⟨d,rfl,f⟩:=b;refine⟨?_,by simp⟩;simp only[List.set_cons_zero];unfold Can;exact⟨c,rfl,e⟩
  ·simp only[FZ,Ac]at h;subst h;unfold Can at b;obtain⟨d,l',rfl,f,b⟩:=b;refine⟨?_,by simp⟩;simp only[List.set_cons_zero];unfold Can;exact⟨c,_,rfl,e,b⟩
 |succ n ih=>
  intro r t q x y l c h b e;cases r<;>(try simp[FZ]at h;done);rename_i u r;unfold Can at b;obtain⟨d,l',rfl,f,b⟩:=b;simp only[FZ]at h;split at h<;>(try cases h;done);rename_i p g;cases h;obtain⟨i,j⟩:=ih g b e;refine⟨?_,by simp;omega⟩;simp only[List.set_cons_succ];unfold Can;exact⟨d,_,rfl,f,i⟩
theorem Xl:∀{p r:Ty} {off:Nat} {q:Σ q:Ty,D r->D p->D q} {x:D r} {y:D p} {l cs:List CV},KR p r off=some q->Can r x l->Can p y cs->Can q.1 (q.2 x y) (l.take off++cs++l.drop (off+cs.length))/\off+cs.length<=l.length:=by
 intro p
 induction p with
 |one t iht=>
  intro r off q x y l cs h m d;have b:FZ r off t=some q:=h;unfold Can at d;obtain⟨c,rfl,d⟩:=d;obtain⟨f,o⟩:=Yi b m d;refine⟨?_,by simp;omega⟩;rw[List.set_eq_take_append_cons_drop,Ao o]at f;simpa using f
 |cons t p iht ihp=>
  intro r off q x y l cs h m d;unfold Can at d;obtain⟨c,e,rfl,i,g⟩:=d;have b:=h;unfold KR at b;split at b<;>(try cases b;done);rename_i q1 k;split at b<;>(try cases b;done);rename_i q2 j;cases b;obtain⟨f,o⟩:=Yi k m i;obtain⟨s,u⟩:=ihp j f g;simp only[List.length_set]at u;refine⟨?_,by simp;omega⟩
  have F:(l.set off c).take (off+1)=l.take off++ [c]:=by
   rw[List.set_eq_take_append_cons_drop,Ao o];rw[List.take_append,List.take_of_length_le (by simp;omega)];have:off+1-(l.take off).length=1:=by simp;omega
   rw[this];simp
  have v:(l.set off c).drop (off+1+e.length)=l.drop (off+(e.length+1)):=by
   rw[List.drop_set_of_lt (by omega)]
   congr 1
   omega
  rw[F,v]at s;simpa using s
 |_=>intro r off q x y l cs h;cases h
theorem Hl{t:Ty}{x:D t}{c:CV}(g:t.val=true)(h:Can t x [c]):Can (BV t) (G7 t x) c.cells:=by
 cases t<;>(try(simp[Ty.val]at g;done))
 case agg=>
  unfold Can at h;obtain⟨l,e,h⟩:=h;cases e;exact h
 all_goals(simp only[BV,G7];have b:=h;unfold Can at b)
 case clo=>obtain⟨l,e,_⟩:=b;cases e;unfold Can;exact⟨_,rfl,h⟩
 case falt f r l=>
  have i:c.cells= [c]:=by
   obtain⟨j,e,d,_⟩:=MF (t:=.falt f r l) (show l.isFn=true by simpa[Ty.val]using g) h;cases e;exact d
  rw[i];unfold Can;exact⟨_,rfl,h⟩
 case tup=>obtain⟨l,e,_⟩:=b;cases e;unfold Can;exact⟨_,rfl,h⟩
 case pt=>obtain⟨l,e,_⟩:=b;cases e;unfold Can;exact⟨_,rfl,h⟩
 case bptr=>rcases b with e|e|e<;>(cases e;unfold Can;exact⟨_,rfl,h⟩)
 case sl=>obtain⟨_,_,e,_⟩:=b;cases e;unfold Can;exact⟨_,rfl,h⟩
 case map=>obtain⟨_,_,_,e,_⟩:=b;cases e;unfold Can;exact⟨_,rfl,h⟩
 case err=>cases b;unfold Can;cases x<;>exact⟨_,rfl,h⟩
 all_goals(cases b;unfold Can;exact⟨_,rfl,h⟩)
mutual
def BU:CV->Option (Σ t:Ty,D t)
 | .int k n=>some ⟨.int k,n⟩
 | .bool b=>some ⟨.bool,b⟩
 | .str s=>some ⟨.str,s⟩
 | .nilif=>some ⟨.err,true⟩
 | .nilfn=>some ⟨.nfn,()⟩
 | .nilp=>some ⟨.nilp,()⟩
 | .nam N=>some ⟨.nam N,()⟩
 | .fn f []=>some ⟨.clo f .nil,()⟩
 | .sl (some true) []=>some ⟨.nsl,()⟩
 | .map (some true) [] []=>some ⟨.nmap,()⟩
 | .agg cs=>match FG cs with
  |some q=>some ⟨.agg q.1,q.2⟩
  |none=>none
 |_=>none
def FG:List CV->Option (Σ t:Ty,D t)
 | []=>some ⟨.nil,()⟩
 | [c]=>match BU c with
  |some q=>some ⟨.one q.1,q.2⟩
  |none=>none
 |c::d::cs=>match BU c,FG (d::cs)with
  |some q,some p=>some ⟨.cons q.1 p.1,(q.2,p.2)⟩
  |_,_=>none
end
mutual
theorem JM:∀{c:CV} {q:Σ t:Ty,D t},BU c=some q->Can q.1 q.2 [c]
 | .int k n,q,h=>by simp only[BU,Ac]at h;subst h;unfold Can;rfl
 | .bool b,q,h=>by simp only[BU,Ac]at h;subst h;unfold Can;rfl
 | .str s,q,h=>by simp only[BU,Ac]at h;subst h;unfold Can;rfl
 | .nilif,q,h=>by simp only[BU,Ac]at h;subst h;unfold Can;rfl
 | .nilfn,q,h=>by simp only[BU,Ac]at h;subst h;unfold Can;rfl
 | .nilp,q,h=>by simp only[BU,Ac]at h;subst h;unfold Can;rfl
 | .nam _,q,h=>by simp only[BU,Ac]at h;subst h;unfold Can;rfl
 | .sl nl es,q,h=>by
  match nl,es,h with
  |some true,[],h=>simp only[BU,Ac]at h;subst h;unfold Can;rfl
  |none,_,h=>simp[BU]at h
  |some false,_,h=>simp[BU]at h
  |some true,_::_,h=>simp[BU]at h
 | .map nl ks vs,q,h=>by
  match nl,ks,vs,h with
  |some true,[],[],h=>simp only[BU,Ac]at h;subst h;unfold Can;rfl
  |none,_,_,h=>simp[BU]at h
  |some false,_,_,h=>simp[BU]at h
  |some true,_::_,_,h=>simp[BU]at h
  |some true,[],_::_,h=>simp[BU]at h
 | .agg cs,q,h=>by
  simp only[BU]at h;split at h<;>(try cases h;done);rename_i p e;cases h;unfold Can;exact⟨cs,rfl,I2 e⟩
 | .rp _,q,h=>by simp[BU]at h
 | .wp _,q,h=>by simp[BU]at h
 | .fn f l,q,h=>by
  match l,h with
  | [],h=>simp only[BU,Ac]at h;subst h;unfold Can;exact⟨[],rfl,by unfold Can;rfl⟩
  |_::_,h=>simp[BU]at h
 | .tup _,q,h=>by simp[BU]at h
 | .ifc,q,h=>by simp[BU]at h
 | .adr _,q,h=>by simp[BU]at h
 | .bptr _,q,h=>by simp[BU]at h
theorem I2:∀{cs:List CV} {q:Σ t:Ty,D t},FG cs=some q->Can q.1 q.2 cs
 | [],q,h=>by simp only[FG,Ac]at h;subst h;unfold Can;rfl
 | [c],q,h=>by
  simp only[FG]at h;split at h<;>(try cases h;done);rename_i p e;cases h;unfold Can;exact⟨c,rfl,JM e⟩
 |c::d::cs,q,h=>by
  simp only[FG]at h;split at h<;>(try cases h;done);rename_i p i e g;cases h;unfold Can;exact⟨c,_,rfl,JM e,I2 g⟩
end
def HB(f:Nat)(r:Ty):(l:Ty)->Option (D r->D l)
 | .clo g r'=>if f=g then(if h:r=r' then some fun x=>h▸x else none)else none
 | .falt g r' l=>if f=g then(if h:r=r' then some fun x=>.inl (h▸x)else none)else match HB f r l with
  |some a=>some fun x=>.inr (a x)
  |none=>none
 |_=>none
def Nk:(l:Ty)->Option (D l)
 | .nfn=>some ()
 | .falt _ _ l=>match Nk l with
  |some a=>some (.inr a)
  |none=>none
 |_=>none
theorem WG:∀{l:Ty} {a:D l},Nk l=some a->Can l a [.nilfn]
 | .nfn,a,ha=>by unfold Can;rfl
 | .falt g r' l,a,ha=>by
  simp only[Nk]at ha;split at ha<;>(try cases ha;done);rename_i d b;cases ha;unfold Can;exact⟨(fun c e=>by cases e),WG b⟩
 | .clo _ _,_,ha| .int _,_,ha| .bool,_,ha| .str,_,ha| .err,_,ha| .nsl,_,ha| .nmap,_,ha| .nam _,_,ha| .bptr _,_,ha| .nilp,_,ha| .pt _,_,ha| .nw _ _ _,_,ha| .agg _,_,ha| .tup _,_,ha| .sl _,_,ha| .map _ _,_,ha| .nil,_,ha| .one _,_,ha| .cons _ _,_,ha=>by cases ha
theorem Mg{f:Nat}{r:Ty}{x:D r}{cap:List CV}(h:Can r x cap):∀{l:Ty} {a:D r->D l},HB f r l=some a->Can l (a x) [.fn f cap]
 | .clo g r',a,ha=>by
  simp only[HB]at ha;split at ha<;>(try cases ha;done);rename_i b;split at ha<;>(try cases ha;done);rename_i c;subst b;subst c;cases ha;unfold Can;exact⟨cap,rfl,h⟩
 | .falt g r' l,a,ha=>by
  simp only[HB]at ha;split at ha
  ·rename_i b;split at ha<;>(try cases ha;done);rename_i c;subst b;subst c;cases ha;unfold Can;exact⟨cap,rfl,h⟩
  ·rename_i b;split at ha<;>(try cases ha;done);rename_i j d;cases ha;unfold Can;exact⟨fun i e=>by simp only[List.cons.injEq,CV.fn.injEq,and_true]at e;exact b e.1,Mg h d⟩
 | .nfn,_,ha| .int _,_,ha| .bool,_,ha| .str,_,ha| .err,_,ha| .nsl,_,ha| .nmap,_,ha| .nam _,_,ha| .bptr _,_,ha| .nilp,_,ha| .pt _,_,ha| .agg _,_,ha| .tup _,_,ha| .sl _,_,ha| .map _ _,_,ha| .nil,_,ha| .one _,_,ha| .cons _ _,_,ha=>by cases ha
def I0:(l m:Ty)->Option (D l->D m)
 | .clo f r,m=>HB f r m
 | .nfn,m=>match Nk m with
  |some a=>some fun _=>a
  |none=>none
 | .falt f r l,m=>match HB f r m,I0 l m with
  |some a,some b=>some fun x=>match x with
   | .inl y=>a y
   | .inr z=>b z
  |_,_=>none
 |_,_=>none
theorem Uw:∀{l m:Ty} {a:D l->D m} {x:D l} {cs:List CV},I0 l m=some a->Can l x cs->Can m (a x) cs:=by
 intro l
 induction l with
 |clo f r _=>
  intro m a x cs h c;unfold Can at c;obtain⟨cap,rfl,c⟩:=c;exact Mg c h
 |nfn=>
  intro m a x cs h c;unfold Can at c;subst c;simp only[I0]at h;split at h<;>(try cases h;done);rename_i b d;cases h;exact WG d
 |falt f r l _ ihl=>
  intro m a x cs h c;simp only[I0]at h;split at h<;>(try cases h;done);rename_i i g e d;cases h
  cases x with
  |inl y=>
   unfold Can at c;obtain⟨cap,rfl,c⟩:=c;exact Mg c e
  |inr z=>
   unfold Can at c;exact ihl d c.2
 |_=>intro m a x cs h;cases h
def Bn:(t u:Ty)->Option (D t->D u)
 | .nsl,.sl _=>some fun _=> []
 | .nmap,.map _ _=>some fun _=> []
 | .nilp,.bptr _=>some fun _=>()
 | .nam N,.bptr N'=>if N=N' then some fun _=>()else none
 | .clo f r,.falt g r' l=>HB f r (.falt g r' l)
 | .nfn,.falt g r' l=>I0 .nfn (.falt g r' l)
 | .falt f r l,.falt g r' l'=>if h:Ty.falt f r l=.falt g r' l' then some fun x=>h▸x else I0 (.falt f r l) (.falt g r' l')
 | .agg r,.agg r'=>Bn r r'
 | .tup r,.tup r'=>Bn r r'
 | .one t,.one t'=>Bn t t'
 | .cons t r,.cons t' r'=>match Bn t t',Bn r r' with
  |some f,some g=>some fun x=>(f x.1,g x.2)
  |_,_=>none
 |t,u=>if h:t=u then some fun x=>h▸x else none
theorem EX{t u:Ty}{f:D t->D u}(h:(if h:t=u then some (fun x=>h▸x:D t->D u)else none)=some f){x:D t}{cs:List CV}(b:Can t x cs):Can u (f x) cs:=by
 split at h<;>(try cases h;done);rename_i e;subst e;cases h;exact b
theorem CA:∀(t u:Ty) {f:D t->D u} {x:D t} {cs:List CV},Bn t u=some f->Can t x cs->Can u (f x) cs:=by
 intro t
 induction t with
 |clo g r _=>
  intro u f x cs h b
  cases u with
  |falt g' r' l=>
   unfold Can at b;obtain⟨cap,rfl,b⟩:=b;exact Mg b h
  |_=>exact EX h b
 |nfn=>
  intro u f x cs h b
  cases u with
  |falt g' r' l'=>exact Uw (l:=.nfn) (m:=.falt g' r' l') h b
  |_=>exact EX h b
 |falt g r l _ _=>
  intro u f x cs h b
  cases u with
  |falt g' r' l'=>
   simp only[Bn]at h;split at h
   ·rename_i e;cases e;cases h;exact b
   ·exact Uw (l:=.falt g r l) (m:=.falt g' r' l') h b
  |_=>exact EX h b
 |nsl=>
  intro u f x cs h b
  cases u with
  |sl e=>
   simp only[Bn,Ac]at h;subst h;unfold Can at b⊢;exact⟨_,_,b,rfl⟩
  |_=>exact EX h b
 |nmap=>
  intro u f x cs h b
  cases u with
  |map k v=>
   simp only[Bn,Ac]at h;subst h;unfold Can at b⊢;exact⟨_,_,_,b,rfl,rfl⟩
  |_=>exact EX h b
 |nilp=>
  intro u f x cs h b
  cases u with
  |bptr N=>unfold Can at b⊢;exact .inr (.inr b)
  |_=>exact EX h b
 |nam N=>
  intro u f x cs h b
  cases u with
  |bptr N'=>
   simp only[Bn]at h;split at h<;>(try cases h;done);rename_i e;subst e;unfold Can at b⊢;exact .inr (.inl b)
  |_=>exact EX h b
 |agg r ih=>
  intro u f x cs h b
  cases u with
  |agg r'=>
   unfold Can at b⊢;obtain⟨l,e,b⟩:=b;exact⟨l,e,ih r' h b⟩
  |_=>exact EX h b
 |tup r ih=>
  intro u f x cs h b
  cases u with
  |tup r'=>
   unfold Can at b⊢;obtain⟨l,e,b⟩:=b;exact⟨l,e,ih r' h b⟩
  |_=>exact EX h b
 |one t ih=>
  intro u f x cs h b
  cases u with
  |one t'=>
   unfold Can at b⊢;obtain⟨c,e,b⟩:=b;exact⟨c,e,ih t' h b⟩
  |_=>exact EX h b
 |cons t r iht ihr=>
  intro u f x cs h b
  cases u with
  |cons t' r'=>
   simp only[Bn]at h;split at h<;>(try cases h;done);rename_i q p i d;cases h;unfold Can at b⊢;obtain⟨c,l,e,o,j⟩:=b;exact⟨c,l,e,iht t' i o,ihr r' d j⟩
  |_=>exact EX h b
 |_=>intro u f x cs h b;exact EX (by cases u<;>exact h) b
inductive ab (A B:Type) where
 |tot (f:A->B)
 |par (f:A->Option B)
def ab.val{A B:Type}:ab A B->A->Option B
 | .tot f,a=>some (f a)
 | .par f,a=>f a
def ab.app{A B R:Type}(d:ab A B)(a:A)(K:B->Option R):Option R:=
 match d with
 | .tot f=>K (f a)
 | .par f=>(f a).bind K
def ab.map{A B C:Type}(g:A->B->C):ab A B->ab A C
 | .tot f=>.tot fun a=>g a (f a)
 | .par f=>.par fun a=>(f a).map (g a)
def ab.both{A B C:Type}:ab A B->ab A C->ab A (B×C)
 | .tot f,.tot g=>.tot fun a=>(f a,g a)
 |d,e=>.par fun a=>(d.val a).bind fun b=>(e.val a).map fun c=>(b,c)
def ab.comp{A B C:Type}:ab A B->ab B C->ab A C
 | .tot f,.tot g=>.tot fun a=>g (f a)
 | .tot f,.par g=>.par fun a=>g (f a)
 | .par f,.tot g=>.par fun a=>(f a).map g
 | .par f,.par g=>.par fun a=>(f a).bind g
section
variable {A B C R:Type}
theorem ab.app_some{d:ab A B}{a:A}{K:B->Option R}{r:R}(h:d.app a K=some r):∃b,d.val a=some b/\K b=some r:=by
 cases d with
 |tot f=>exact⟨_,rfl,h⟩
 |par f=>exact Ab.1 h
theorem ab.map_val{g:A->B->C}{d:ab A B}{a:A}{c:C}(h:(d.map g).val a=some c):∃b,d.val a=some b/\c=g a b:=by
 cases d with
 |tot f=>cases h;exact⟨_,rfl,rfl⟩
 |par f=>
  obtain⟨b,i,e⟩:=Aa.1 h;exact⟨b,i,e.symm⟩
theorem ab.both_val{d:ab A B}{e:ab A C}{a:A}{p:B×C}(h:(d.both e).val a=some p):d.val a=some p.1/\e.val a=some p.2:=by
 have key:∀{x:Option B} {y:Option C},(x.bind fun b=>y.map fun c=>(b,c))=some p->x=some p.1/\y=some p.2:=by
  intro x y h;obtain⟨b,j,i⟩:=Ab.1 h;obtain⟨c,g,f⟩:=Aa.1 i;subst f;exact⟨j,g⟩
 cases d<;>cases e
 ·cases h;exact⟨rfl,rfl⟩
 all_goals exact key h
theorem ab.comp_val{d:ab A B}{e:ab B C}{a:A}{c:C}(h:(d.comp e).val a=some c):∃b,d.val a=some b/\e.val b=some c:=by
 cases d<;>cases e
 ·exact⟨_,rfl,h⟩
 ·exact⟨_,rfl,h⟩
 ·obtain⟨b,g,f⟩:=Aa.1 h;exact⟨b,g,by rw[<-f];rfl⟩
 ·exact Ab.1 h
end
inductive EK where
 |v (t:Ty)
 |opt (k:EK)
 |rp (ex:Bool) (r:Ty)
 |ptr (id off:Nat)
 |eptr (id size off:Nat)
 |aptr (id len off:Nat)
 |own (id:Nat)
 |mp (id:Nat)
 |iter (id:Nat)
 |ent (id:Nat) (k v:Ty)
 |stamp (id:Nat) (k:Ty)
 |undef
 |box (n:Nat) (bt:Option TypeId)
 |arr (e size:Nat) (t:Ty)
 |mob (mt:Nat) (k v:Ty)
 |sit
 |mit (k v:Ty)
 |mcur (k v:Ty)
 |gone
 |buf (e:Nat)
 deriving DecidableEq
@[reducible] def DK:EK->Type
 | .v t=>D t
 | .opt k=>Option (DK k)
 | .rp _ r=>D r
 | .eptr _ _ _=>Nat
 | .aptr _ _ _=>Nat
 | .ent _ k v=>D k×D v
 | .stamp _ k=>D k
 | .arr _ _ t=>List (D t)
 | .mob _ k v=>List (D k×D v)
 | .sit=>List UInt8×Nat
 | .mit k v=>List (D k×D v)
 | .mcur k v=>D k×D v
 | .buf _=>List UInt8
 |_=>Unit
inductive aw where
 |s (i:Nat)
 |o (id:Nat)
 |c (id j:Nat)
 deriving DecidableEq
abbrev TC:=List (aw×EK)
@[reducible] def HS:TC->Type
 | []=>Unit
 |e::Γ=>DK e.2×HS Γ
def get:(Γ:TC)->aw->Option (Σ k:EK,HS Γ->DK k)
 | [],_=>none
 |e::Γ,p=>if e.1=p then some ⟨e.2,fun ρ=>ρ.1⟩else match get Γ p with
  |some q=>some ⟨q.1,fun ρ=>q.2 ρ.2⟩
  |none=>none
theorem Dh(Γ:TC)(p:aw)(k:EK):get ((p,k)::Γ) p=some ⟨k,fun ρ=>ρ.1⟩:=by simp[get]
theorem CB{Γ:TC}{q p:aw}{k:EK}(h:q≠p){r:Σ k':EK,HS ((q,k)::Γ)->DK k'}(b:get ((q,k)::Γ) p=some r):∃f,get Γ p=some ⟨r.1,f⟩/\∀ρ,r.2 ρ=f ρ.2:=by
 unfold get at b;rw[An h]at b;split at b<;>(try cases b;done);rename_i t c;cases b;exact⟨t.2,c,fun _=>rfl⟩
def FQ:Ty->KT
 | .int k=>.int k
 | .str=>.str
 | .bool=>.bool
 |_=>.struct []
def FP:Ty->List KT
 | .one t=> [FQ t]
 | .cons t r=>FQ t::FP r
 |_=> []
def b3:Ty->KT
 | .agg r=>.struct (FP r)
 |t=>FQ t
def AT:(t:Ty)->D t
 | .int _=>0
 | .bool=>false
 | .str=> []
 | .err=>true
 | .clo _ r=>AT r
 | .falt _ r _=>.inl (AT r)
 | .nsl=>()
 | .nmap=>()
 | .nfn=>()
 | .nam _=>()
 | .bptr _=>()
 | .nilp=>()
 | .pt r=>AT r
 | .nw _ _ _=> []
 | .agg r=>AT r
 | .tup r=>AT r
 | .sl _=> []
 | .map _ _=> []
 | .nil=>()
 | .one t=>AT t
 | .cons t r=>(AT t,AT r)
def RS:(k:EK)->DK k->SV->Prop
 | .v t,x,sv=>∃c,sv=.c c/\Can t x [c]
 | .opt k,x,sv=>match x with
  |none=>sv=Bs
  |some y=>RS k y sv
 | .rp ex r,x,sv=>∃cs rest,sv=.c (.rp (cs++rest))/\Can r x cs/\(ex=true->rest= [])
 | .ptr id o,_,sv=>sv=.ptr id o
 | .eptr id s o,i,sv=>sv=.eptr id i s o
 | .aptr id n o,i,sv=>sv=.ptr id (o+i)/\i<n
 | .own id,_,sv=>sv=.osl id
 | .mp id,_,sv=>sv=.omap id
 | .iter id,_,sv=>sv=.iter id
 | .ent id k v,x,sv=>∃b d,sv=.ent id b d/\Can k x.1 [b]/\Can v x.2 [d]
 | .stamp id k,x,sv=>∃b,sv=.stamp id b/\Can k x [b]
 | .undef,_,_=>True
 |_,_,_=>False
def RO(Γ:TC)(ρ:HS Γ)(id:Nat):(k:EK)->DK k->Ob->Prop
 | .box n bt,_,ob=>∃cs,ob=.box cs bt/\cs.length=n/\∀j q,j<n->get Γ (.c id j)=some q->∃sv,cs[j]? =some sv/\RS q.1 (q.2 ρ) sv
 | .arr e size t,xs,ob=>∃es,ob=.arr e size es/\CanAll (fun x c=>Can t x [c]) xs es
 | .mob mt k v,m,ob=>∃z ks vs,ob=.map mt (b3 k) z ks vs/\Can v (AT v) [z]/\CanAll (fun x c=>Can k x.1 [c]) m ks/\CanAll (fun x c=>Can v x.2 [c]) m vs
 | .sit,x,ob=>ob=.siter x.1 x.2
 | .mit k v,m,ob=>∃ks vs b,ob=.miter ks vs b/\CanAll (fun x c=>Can k x.1 [c]) m ks/\CanAll (fun x c=>Can v x.2 [c]) m vs
 | .mcur k v,x,ob=>∃ks vs f d,ob=.miter ks vs (some (f,d))/\Can k x.1 [f]/\Can v x.2 [d]
 | .gone,_,ob=>ob=.none
 | .buf e,s,ob=>ob=.buf e s
 | .undef,_,_=>True
 |_,_,_=>False
structure ae (Γ:TC) (ρ:HS Γ) (st:St):Prop where
 s:∀i q,get Γ (.s i)=some q->RS q.1 (q.2 ρ) (st.fr i)
 o:∀id q,get Γ (.o id)=some q->RO Γ ρ id q.1 (q.2 ρ) (st.ob id)
theorem RO.congr{Γ Γ':TC}{ρ:HS Γ}{b:HS Γ'}{id:Nat}{k:EK}{x:DK k}{ob:Ob}(h:RO Γ ρ id k x ob)(p:∀j q,get Γ' (.c id j)=some q->∃f,get Γ (.c id j)=some ⟨q.1,f⟩/\q.2 b=f ρ):RO Γ' b id k x ob:=by
 cases k<;>try exact h
 unfold RO at h⊢;obtain⟨cs,e,i,m⟩:=h;refine⟨cs,e,i,fun j q l g=> ?_⟩;obtain⟨f,o,d⟩:=p j q g;obtain⟨sv,s,r⟩:=m j _ l o;exact⟨sv,s,d▸r⟩
theorem ae.set{Γ:TC}{ρ:HS Γ}{st:St}(h:ae Γ ρ st){d:Nat}{k:EK}{x:DK k}{sv:SV}(p:RS k x sv):ae ((.s d,k)::Γ) (x,ρ) (st.set (some d) (sv)):=by
 refine⟨fun i q b=> ?_,fun id q b=> ?_⟩
 ·by_cases hi:d=i
  ·subst hi;rw[Dh]at b;cases b;simpa[St.set,ac]using p
  ·obtain⟨f,m,e⟩:=CB (by simpa using hi) b;have:=h.s i _ m;rw[e];simpa[St.set,ac,Ne.symm hi]using this
 ·obtain⟨f,m,e⟩:=CB (by simp) b;have:=h.o id _ m;rw[e];refine RO.congr this fun j t g=> ?_;obtain⟨r,l,c⟩:=CB (by simp) g;exact⟨r,l,c _⟩
def an{α:Type}(xs:List α)(n:Int):Option α:=if 0<=n/\n<xs.length then xs[n.toNat]? else none
def bX(s:List UInt8)(n:Int):Option Int:=if 0<=n/\n<s.length then(s[n.toNat]?).map fun b=>(b.toNat:Int)else none
def Fv{α:Type}(xs:List α)(lo hi:Int):Option (List α):=if 0<=lo/\lo<=hi/\hi<=xs.length then some ((xs.take hi.toNat).drop lo.toNat)else none
def BS(op:BinOp)(k:IntKind)(x y:Int):Int:=
 match op with
 | .and=>k.wrap (BitVec.ofInt k.bits x&&&BitVec.ofInt k.bits y).toNat
 | .or=>k.wrap (BitVec.ofInt k.bits x|||BitVec.ofInt k.bits y).toNat
 | .xor=>k.wrap (BitVec.ofInt k.bits x^^^BitVec.ofInt k.bits y).toNat
 |_=>k.wrap (BitVec.ofInt k.bits x&&& ~~~(BitVec.ofInt k.bits y)).toNat
def AW{α β:Type}(eq:α->α->Bool)(z:β)(x:α):List (α×β)->β×Bool
 | []=>(z,false)
 |p::m=>if eq x p.1 then(p.2,true)else AW eq z x m
def Bw{α β:Type}(eq:α->α->Bool)(x:α)(y:β):List (α×β)->List (α×β)
 | []=> [(x,y)]
 |p::m=>if eq x p.1 then(p.1,y)::m else p::Bw eq x y m
section
variable (G:Nat->List CV) (Γ:TC)
def ap:SO->Option (Σ t:Ty,ab (HS Γ) (D t))
 | .t i=>match get Γ (.s i)with
  |some ⟨.v t,f⟩=>some ⟨t,.tot f⟩
  |some ⟨.opt (.v t),f⟩=>some ⟨t,.par f⟩
  |_=>none
 | .k c=>match BU c with
  |some q=>some ⟨q.1,.tot fun _=>q.2⟩
  |none=>none
 | .g _=>none
def b5:SO->Option (Σ k:EK,ab (HS Γ) (DK k))
 | .t i=>match get Γ (.s i)with
  |some ⟨.opt k,f⟩=>some ⟨k,.par f⟩
  |some q=>some ⟨q.1,.tot q.2⟩
  |none=>none
 | .k c=>match BU c with
  |some q=>some ⟨.v q.1,.tot fun _=>q.2⟩
  |none=>none
 | .g i=>match G i,FG (G i)with
  |_::_,some q=>some ⟨.rp true q.1,.tot fun _=>q.2⟩
  |_,_=>none
end
section
variable {G:Nat->List CV} {Γ:TC} {ρ:HS Γ} {st:St}
theorem AP{x:SO}{q:Σ t:Ty,ab (HS Γ) (D t)}(h:ap Γ x=some q)(j:ae Γ ρ st){a:D q.1}(e:q.2.val ρ=some a):∃c,so G st.fr x=.c c/\Can q.1 a [c]:=by
 cases x with
 |t i=>
  simp only[ap]at h;split at h
  ·rename_i t f b;cases h;cases e;exact j.s i _ b
  ·rename_i t f b;cases h;have:=j.s i _ b;have d:f ρ=some a:=e;unfold RS at this;simp only[d]at this;unfold RS at this;exact this
  ·cases h
 |k c=>
  simp only[ap]at h;split at h<;>(try cases h;done);rename_i p l;cases h;cases e;exact⟨c,rfl,JM l⟩
 |g i=>cases h
theorem Bf{x:SO}{q:Σ k:EK,ab (HS Γ) (DK k)}(h:b5 G Γ x=some q)(l:ae Γ ρ st){a:DK q.1}(d:q.2.val ρ=some a):RS q.1 a (so G st.fr x):=by
 cases x with
 |t i=>
  simp only[b5]at h;split at h
  ·rename_i t f e;cases h;have:=l.s i _ e;have j:f ρ=some a:=d;unfold RS at this;simp only[j]at this;exact this
  ·rename_i p b e;cases h;cases d;exact l.s i _ e
  ·cases h
 |k c=>
  simp only[b5]at h;split at h<;>(try cases h;done);rename_i p b;cases h;cases d;exact⟨c,rfl,JM b⟩
 |g i=>
  simp only[b5]at h;split at h<;>(try cases h;done);rename_i c cs p m b;cases h;cases d;refine⟨G i,[], ?_,I2 b,fun _=>rfl⟩;simp[so,m]
end
def Pa(op:BinOp)(k:IntKind):Option (Σ t:Ty,ab (Int×Int) (D t)):=
 match op with
 | .add=>some ⟨.int k,.tot fun p=>k.wrap (p.1+p.2)⟩
 | .sub=>some ⟨.int k,.tot fun p=>k.wrap (p.1-p.2)⟩
 | .mul=>some ⟨.int k,.tot fun p=>k.wrap (p.1*p.2)⟩
 | .quo=>some ⟨.int k,.par fun p=>if p.2=0 then none else some (k.wrap (p.1.tdiv p.2))⟩
 | .rem=>some ⟨.int k,.par fun p=>if p.2=0 then none else some (p.1.tmod p.2)⟩
 | .and=>some ⟨.int k,.tot fun p=>BS .and k p.1 p.2⟩
 | .or=>some ⟨.int k,.tot fun p=>BS .or k p.1 p.2⟩
 | .xor=>some ⟨.int k,.tot fun p=>BS .xor k p.1 p.2⟩
 | .andNot=>some ⟨.int k,.tot fun p=>BS .andNot k p.1 p.2⟩
 | .eql=>some ⟨.bool,.tot fun p=>p.1==p.2⟩
 | .neq=>some ⟨.bool,.tot fun p=>p.1 !=p.2⟩
 | .lss=>some ⟨.bool,.tot fun p=>decide (p.1<p.2)⟩
 | .leq=>some ⟨.bool,.tot fun p=>decide (p.1<=p.2)⟩
 | .gtr=>some ⟨.bool,.tot fun p=>decide (p.1>p.2)⟩
 | .geq=>some ⟨.bool,.tot fun p=>decide (p.1≥p.2)⟩
 |_=>none
def Pb(op:BinOp):Option (Σ t:Ty,ab (List UInt8×List UInt8) (D t)):=
 match op with
 | .add=>some ⟨.str,.par fun p=>if p.1.length+p.2.length<=4611686018427387904 then some (p.1++p.2)else none⟩
 | .eql=>some ⟨.bool,.tot fun p=>p.1==p.2⟩
 | .neq=>some ⟨.bool,.tot fun p=> !(p.1==p.2)⟩
 | .lss=>some ⟨.bool,.tot fun p=>sLess p.1 p.2⟩
 | .leq=>some ⟨.bool,.tot fun p=>sLess p.1 p.2||p.1==p.2⟩
 | .gtr=>some ⟨.bool,.tot fun p=> !(sLess p.1 p.2||p.1==p.2)⟩
 | .geq=>some ⟨.bool,.tot fun p=> !(sLess p.1 p.2)⟩
 |_=>none
def OZ(op:BinOp):(t u:Ty)->Option (Σ v:Ty,ab (D t×D u) (D v))
 | .int k,.int k'=>match op with
  | .shl=>some ⟨.int k,.par fun p=>if p.2<0 then none else some (k.wrap (p.1*2^(min p.2.toNat k.bits)))⟩
  | .shr=>some ⟨.int k,.par fun p=>if p.2<0 then none else some (p.1.fdiv (2^(min p.2.toNat k.bits)))⟩
  |_=>if k=k' then Pa op k else none
 | .str,.str=>Pb op
 |_,_=>none
theorem Zu{op:BinOp}{k:IntKind}{q:Σ t:Ty,ab (Int×Int) (D t)}(h:Pa op k=some q){a b:Int}{x:D q.1}(d:q.2.val (a,b)=some x):∃c,H7 op k a b=some c/\Can q.1 x [c]:=by
 cases op<;>simp only[Pa,Ac,reduceCtorEq]at h<;>cases h
 case quo=>
  simp only[ab.val]at d;split at d<;>(try cases d;done);rename_i e;cases d;exact⟨_,by simp only[H7];rw[An e],by unfold Can;rfl⟩
 case rem=>
  simp only[ab.val]at d;split at d<;>(try cases d;done);rename_i e;cases d;exact⟨_,by simp only[H7];rw[An e],by unfold Can;rfl⟩
 all_goals
  cases d;exact⟨_,rfl,by unfold Can;rfl⟩
theorem Zv{op:BinOp}{q:Σ t:Ty,ab (List UInt8×List UInt8) (D t)}(h:Pb op=some q){a b:List UInt8}{x:D q.1}(d:q.2.val (a,b)=some x):∃c,JB op a b=some c/\Can q.1 x [c]:=by
 cases op<;>simp only[Pb,Ac,reduceCtorEq]at h<;>cases h
 case add=>
  simp only[ab.val]at d;split at d<;>(try cases d;done);rename_i e;cases d;exact⟨_,by simp only[JB];rw[Ao e],by unfold Can;rfl⟩
 all_goals
  cases d;exact⟨_,rfl,by unfold Can;rfl⟩
theorem Zw{op:BinOp}{t u:Ty}{q:Σ v:Ty,ab (D t×D u) (D v)}(h:OZ op t u=some q){a:D t}{b:D u}{j i:CV}(g:Can t a [j])(f:Can u b [i]){x:D q.1}(e:q.2.val (a,b)=some x):
  ∃c,EV op j i=some c/\Can q.1 x [c]:=by
 unfold OZ at h;split at h
 ·rename_i k s;unfold Can at g f;cases g;cases f;split at h
  ·cases h;simp only[ab.val]at e;split at e<;>(try cases e;done);rename_i d;cases e;exact⟨_,by simp only[EV];rw[An d],by unfold Can;rfl⟩
  ·cases h;simp only[ab.val]at e;split at e<;>(try cases e;done);rename_i d;cases e;exact⟨_,by simp only[EV];rw[An d],by unfold Can;rfl⟩
  ·rename_i m l;split at h<;>(try cases h;done);rename_i o;subst o;obtain⟨c,r,p⟩:=Zu h e;refine⟨c, ?_,p⟩;cases op<;>first|(exact(m rfl).elim)|(exact(l rfl).elim)|(simp only[EV,if_true];exact r)
 ·unfold Can at g f;cases g;cases f;exact Zv h e
 ·cases h
def JT:KT->(t u:Ty)->Option (D t->D u->Bool)
 | .int _,.int k,.int k'=>if k=k' then some fun(a b:Int)=>a==b else none
 | .str,.str,.str=>some fun(a b:List UInt8)=>a==b
 | .bool,.bool,.bool=>some fun(a b:Bool)=>a==b
 |_,_,_=>none
def JV:(r s:Ty)->List KT->Option (D r->D s->Bool)
 | .nil,.nil,ks=>if ks.isEmpty then some fun _ _=>true else none
 | .one t,.one u,ks=>match ks with
  | [k]=>JT k t u
  |_=>none
 | .cons t r,.cons u s,ks=>match ks with
  |k::ks=>match JT k t u,JV r s ks with
   |some f,some g=>some fun x y=>f x.1 y.1&&g x.2 y.2
   |_,_=>none
  | []=>none
 |_,_,_=>none
theorem UL{k:KT}{t u:Ty}{f:D t->D u->Bool}(h:JT k t u=some f){a:D t}{b:D u}{g e:CV}(d:Can t a [g])(c:Can u b [e]):bc k g e=some (f a b):=by
 unfold JT at h;split at h
 ·split at h<;>(try cases h;done);rename_i i;cases h;unfold Can at d c;cases d;cases c;simp[bc,i]
 ·cases h;unfold Can at d c;cases d;cases c;rfl
 ·cases h;unfold Can at d c;cases d;cases c;rfl
 ·cases h
theorem Aba:∀{r s:Ty} {ks:List KT} {f:D r->D s->Bool},JV r s ks=some f->∀{a:D r} {b:D s} {e lb:List CV},Can r a e->Can s b lb->bg ks e lb=some (f a b):=by
 intro r
 induction r with
 |nil=>
  intro s ks f h a b e lb d c;cases s<;>(try cases h;done);simp only[JV,Ae,Ac]at h;obtain⟨p,rfl⟩:=h;cases ks<;>simp at p;unfold Can at d c;subst d;subst c;rfl
 |one t=>
  intro s ks f h a b e lb d c;cases s<;>(try cases h;done);rename_i u
  match ks,h with
  | [k],h=>
   unfold Can at d c;obtain⟨F,rfl,d⟩:=d;obtain⟨y,rfl,c⟩:=c;have x:JT k t u=some f:=h;simp[bg,UL x d c]
  | [],h=>cases h
  |_::_::_,h=>cases h
 |cons t r iht ihr=>
  intro s ks f h a b e lb d c;cases s<;>(try cases h;done)
  match ks,h with
  | [],h=>cases h
  |k::ks,h=>
   simp only[JV]at h;split at h<;>(try cases h;done);rename_i J I v q;cases h;unfold Can at d c;obtain⟨F,o,rfl,l,j⟩:=d;obtain⟨y,m,rfl,i,g⟩:=c;simp[bg,UL v l i,ihr q j g]
 |_=>
  intro s ks f h;cases s<;>cases h
def Id:Ty->Bool
 | .int _| .str| .bool=>true
 |_=>false
def Ja:Ty->Bool
 | .one t=>Id t
 | .cons t r=>Id t&&Ja r
 |_=>false
def Eg:Ty->Bool
 | .agg r=>Ja r
 |t=>Id t
def M4:(t:Ty)->D t->D t->Bool
 | .int _,a,b=>(a:Int)==b
 | .str,a,b=>(a:List UInt8)==b
 | .bool,a,b=>(a:Bool)==b
 |_,_,_=>false
def JW:(r:Ty)->D r->D r->Bool
 | .one t,a,b=>M4 t a b
 | .cons t r,a,b=>M4 t a.1 b.1&&JW r a.2 b.2
 |_,_,_=>false
def aj:(t:Ty)->D t->D t->Bool
 | .agg r,a,b=>JW r a b
 | .int _,a,b=>(a:Int)==b
 | .str,a,b=>(a:List UInt8)==b
 | .bool,a,b=>(a:Bool)==b
 |_,_,_=>false
theorem UR{t:Ty}(g:Id t=true){a b:D t}{c f:CV}(e:Can t a [c])(d:Can t b [f]):bc (FQ t) c f=some (M4 t a b)/\BT (FQ t) c=true:=by
 cases t<;>simp only[Id,Ah]at g<;>(unfold Can at e d;cases e;cases d;simp[bc,M4,FQ,BT])
theorem Abb:∀{r:Ty} (_:Ja r=true) {a b:D r} {f lb:List CV},Can r a f->Can r b lb->bg (FP r) f lb=some (JW r a b)/\Ca (FP r) f=true:=by
 intro r
 induction r with
 |one t=>
  intro c a b f lb e d;unfold Can at e d;obtain⟨q,rfl,e⟩:=e;obtain⟨p,rfl,d⟩:=d;have:=UR c e d;simp[FP,bg,JW,Ca,this.1,this.2]
 |cons t r iht ihr=>
  intro c a b f lb e d;simp only[Ja,Ag]at c;unfold Can at e d;obtain⟨q,o,rfl,j,i⟩:=e;obtain⟨p,m,rfl,h,g⟩:=d;have l:=UR c.1 j h;have k:=ihr c.2 i g;simp[FP,bg,JW,Ca,l.1,l.2,k.1,k.2]
 |_=>intro c;cases c
theorem HH{k:Ty}(g:Eg k=true){a b:D k}{f h:CV}(d:Can k a [f])(c:Can k b [h]):CC (b3 k) f h=aj k a b/\AR (b3 k) f=true:=by
 cases k<;>simp only[Eg,Id,Ah]at g
 case agg r=>
  unfold Can at d c;obtain⟨i,e,d⟩:=d;cases e;obtain⟨lb,e,c⟩:=c;cases e;have:=Abb g d c;simp[b3,CC,AR,aj,this.1,this.2]
 all_goals(unfold Can at d c;cases d;cases c;simp[bc,aj,b3,FQ,CC,AR,BT])
theorem MW{k v:Ty}(j:Eg k=true){x:D k}{g:CV}(i:Can k x [g]){e:D v}{z:CV}(h:Can v e [z]):∀{m:List (D k×D v)} {ks vs:List CV},CanAll (fun x c=>Can k x.1 [c]) m ks->CanAll (fun x c=>Can v x.2 [c]) m vs->
  ∃c,AZ (b3 k) z ks vs g=(c,(AW (aj k) e x m).2)/\Can v (AW (aj k) e x m).1 [c]
 | [],ks,vs,d,b=>by
  unfold CanAll at d b;subst d;subst b;exact⟨z,rfl,h⟩
 |p::m,ks,vs,d,b=>by
  obtain⟨u,f,rfl,s,d⟩:=d;obtain⟨t,q,rfl,r,b⟩:=b;have l:=(HH j i s).1;obtain⟨c,q1,q2⟩:=MW j i h d b;unfold AW
  cases o:aj k x p.1 with
  |true=>
   refine⟨t, ?_,by simpa using r⟩;simp[AZ,AV,l,o]
  |false=>
   refine⟨c, ?_,by simpa using q2⟩;simp only[Ah,if_false];rw[<-q1];simp only[AZ,AV,l,o,Ah,if_false];cases AV (b3 k) g f<;>simp
theorem ME{k v:Ty}(q:Eg k=true){x:D k}{d:CV}(l:Can k x [d]){y:D v}{i:CV}(j:Can v y [i]):∀{m:List (D k×D v)} {ks vs:List CV},CanAll (fun x c=>Can k x.1 [c]) m ks->CanAll (fun x c=>Can v x.2 [c]) m vs->
  CanAll (fun x c=>Can k x.1 [c]) (Bw (aj k) x y m) (Bp (b3 k) ks d)/\CanAll (fun x c=>Can v x.2 [c]) (Bw (aj k) x y m) (Bq (b3 k) ks vs d i)
 | [],ks,vs,f,e=>by
  unfold CanAll at f e;subst f;subst e;exact⟨⟨d,[],rfl,l,rfl⟩,⟨i,[],rfl,j,rfl⟩⟩
 |p::m,ks,vs,f,e=>by
  obtain⟨s,b,rfl,o,f⟩:=f;obtain⟨u,h,rfl,t,e⟩:=e;have g:=(HH q l o).1;obtain⟨q1,q2⟩:=ME q l j f e;unfold Bw
  cases r:aj k x p.1 with
  |true=>
   simp only[if_true];rw[r]at g;exact⟨⟨s,b,by simp[Bp,AV,g],o,f⟩,⟨i,h,by simp[Bq,AV,g],j,e⟩⟩
  |false=>
   simp only[Ah,if_false];rw[r]at g;refine⟨⟨s,Bp (b3 k) b d, ?_,o,q1⟩,⟨u,Bq (b3 k) b h d i, ?_,t,q2⟩⟩
   ·simp only[Bp,AV,g,Ah,if_false];cases AV (b3 k) d b<;>simp
   ·simp only[Bq,AV,g,Ah,if_false];cases AV (b3 k) d b<;>simp
theorem VN{k v:Ty}(b:Eg k=true):∀{m:List (D k×D v)} {ks:List CV},CanAll (fun x c=>Can k x.1 [c]) m ks->ks.all (AR (b3 k))=true
 | [],ks,h=>by unfold CanAll at h;subst h;rfl
 |p::m,ks,h=>by
  obtain⟨c,e,rfl,d,f⟩:=h;simp[(HH b d d).2];simpa using VN b f
end WB
