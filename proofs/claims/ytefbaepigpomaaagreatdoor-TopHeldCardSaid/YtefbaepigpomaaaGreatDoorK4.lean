/-
  OWN TEXTS, MERGED (wip/merge.py): CoreWp, CoreWq, CoreWr, CoreX, CoreEq, CoreY, CoreZ, CoreZa, CoreYb, CoreZr, CoreTa, CoreTb, CoreTc. No condition of their own.
-/
import Derived.Test.YtefbaepigpomaaaGreatDoorK3
import Derived.Deep.LoopGhost
import Derived.IntWalk
import Derived.Deep.Slices
import Derived.Deep.Fields
import Derived.ChangeSame
import Derived.ChangeShapes
import Derived.ProofKit
import Derived.OpenShut
set_option linter.unusedVariables false
set_option linter.unusedSimpArgs false
open Go.IntKind (i64 u64 u8 u32)
namespace WB
open Go Go.RowKit
def pos(π:List Nat)(i:Nat):Nat:=π.idxOf i
def IF(π:List Nat)(o:Oper):Oper:={o with after:=o.after.map fun e=>{e with on:=pos π e.on}}
def GI(π:List Nat)(ops:Array Oper):Array Oper:=(π.filterMap fun i=>(ops[i]?).map (IF π)).toArray
def permL(π:List Nat)(ls:List SL):List SL:=π.filterMap fun i=>ls[i]?
def GH(π:List Nat)(L:Array Bool):Array Bool:=(π.map fun j=>L.getD j true).toArray
def Dv(n:Nat)(π:List Nat):Bool:=π.length==n&&((List.range n).all fun k=>π.contains k&&Nat.blt (π.getD k n) n&&pos π (π.getD k n)==k)
theorem Pd{α β:Type}{f:α->Option β}:∀{l:List α},(∀x∈l,(f x).isSome=true)->∀k:Nat,(l.filterMap f)[k]? =(l[k]?).bind f
 | [],_,k=>by simp
 |x::l,h,k=>by
  obtain⟨y,b⟩:=Option.isSome_iff_exists.1 (h x (by simp));rw[List.filterMap_cons_some b]
  cases k with
  |zero=>simp[b]
  |succ k=>simpa using Pd (fun z c=>h z (by simp[c])) k
section
variable {n:Nat} {π:List Nat}
theorem HB(b:Dv n π=true):π.length=n:=by
 simp only[Dv,Ag,beq_iff_eq]at b;exact b.1
theorem MT(b:Dv n π=true){k:Nat}(d:k<n):∃j,π[k]? =some j/\j<n/\pos π j=k:=by
 have c:=HB b;simp only[Dv,Ag,List.all_eq_true,List.mem_range]at b;have h:=b.2 k d;have e:π[k]? =some (π[k]'(by omega)):=Aj _;simp only[List.getD_eq_getElem?_getD,e,Option.getD_some,beq_iff_eq]at h;exact⟨_,e,by simpa using h.1.2,h.2⟩
theorem Ae6(b:Dv n π=true){i:Nat}(hi:i<n):i∈π:=by
 simp only[Dv,Ag,List.all_eq_true,List.mem_range]at b;simpa using(b.2 i hi).1.1
theorem Kj(b:Dv n π=true){i:Nat}(hi:i<n):pos π i<n/\π[pos π i]? =some i:=by
 have h:=Ae6 b hi;have c:π.idxOf i<π.length:=List.idxOf_lt_length_iff.2 h;refine⟨by rw[<-HB b];exact c, ?_⟩;unfold pos;rw[Aj c,List.getElem_idxOf]
theorem MU(c:Dv n π=true){j:Nat}(h:j∈π):j<n:=by
 obtain⟨k,d⟩:=List.getElem?_of_mem h;have b:k<n:=by rw[<-HB c];exact(Af.1 d).1
 obtain⟨g,e,f,_⟩:=MT c b;rw[d]at e;cases e;exact f
theorem Qh(c:Dv n π=true){L:Array Bool}{i:Nat}(hi:i<n)(b:Bool)(e:L.size=n):(GH π L).getD (pos π i) b=L.getD i b:=by
 obtain⟨f,d⟩:=Kj c hi;simp[GH,Array.getD_eq_getD_getElem?,d,Array.getElem?_eq_getElem (show i<L.size by omega)]
theorem Ae2(c:Dv n π=true){L:Array Bool}{i:Nat}(hi:i<n)(l:L.getD i true=false):GH π (L.setIfInBounds i true)=(GH π L).setIfInBounds (pos π i) true:=by
 obtain⟨m,g⟩:=Kj c hi;have b:=HB c;apply Array.ext_getElem?;intro k;simp only[GH,List.getElem?_toArray,List.getElem?_map,Array.getElem?_setIfInBounds,List.size_toArray,List.length_map];by_cases f:k<n
 ·obtain⟨j,h,o,g3⟩:=MT c f;simp only[h,Option.map_some,getD_set L i j true l];by_cases d:j=i
  ·subst d;simp[g3,b,f]
  ·have:¬pos π i=k:=fun e=>d (by rw[e,h]at g;exact Option.some.inj g);simp[d,this]
 ·have e:π[k]? =none:=List.getElem?_eq_none (by omega);have:¬pos π i=k:=by omega
  simp[e,this]
end
theorem Ae5{π:List Nat}{ops:Array Oper}(b:Dv ops.size π=true){i:Nat}(hi:i<ops.size):(GI π ops)[pos π i]? =(ops[i]?).map (IF π):=by
 obtain⟨e,d⟩:=Kj b hi;simp only[GI,List.getElem?_toArray];rw[Pd (fun x c=> ?_),d]
 ·rfl
 ·have:=MU b c;simp[Array.getElem?_eq_getElem this]
theorem MR{π:List Nat}{ops:Array Oper}(c:Dv ops.size π=true):(GI π ops).size=ops.size:=by
 have h:(π.filterMap fun i=>(ops[i]?).map (IF π)).length=π.length:=by
  have:∀(l:List Nat),(∀x∈l,x<ops.size)->(l.filterMap fun i=>(ops[i]?).map (IF π)).length=l.length:=by
   intro l
   induction l with
   |nil=>intro _;rfl
   |cons x l ih=>
    intro h;rw[List.filterMap_cons_some (b:=IF π (ops[x]'(h x (by simp)))) (by simp[Array.getElem?_eq_getElem (h x (by simp))])];simp[ih fun y d=>h y (by simp[d])]
  exact this π fun x e=>MU c e
 simp only[GI,List.size_toArray,h,HB c]
theorem Acp{π:List Nat}{ops:Array Oper}(b:Dv ops.size π=true){L:Array Bool}{g:List Nat}(r:Good ops L g):L.size=ops.size->Good (GI π ops) (GH π L) (g.map (pos π)):=by
 induction r with
 | @nil L h=>
  intro c;refine .nil ?_;simp only[left]at h⊢;rw[List.filter_eq_nil_iff]at h⊢;intro k p;rw[List.mem_range,MR b]at p;obtain⟨j,y,s,g3⟩:=MT b p;have:=h j (List.mem_range.2 s);rw[<-g3,Qh b s _ c];exact this
 | @cons L i g hi hL he r ih=>
  intro c;have t:=Kj b hi;refine .cons (by rw[MR b];exact t.1) (by rw[Qh b hi _ c];exact hL) ?_ ?_
  ·intro o' d F f v;rw[Ae5 b hi]at d;obtain⟨o,u,rfl⟩:=Aa.1 d;simp only[IF,Array.mem_map]at f;obtain⟨e,l,rfl⟩:=f;have m:=he o u e l v
   have x:e.on<ops.size:=by
    rw[<-c];rw[Array.getD_eq_getD_getElem?]at m;by_cases q:e.on<L.size
    ·exact q
    ·simp[Array.getElem?_eq_none (Nat.le_of_not_lt q)]at m
   rw[Qh b x _ c];exact m
  ·rw[<-Ae2 b hi hL];exact ih (by simp[c])
section
variable {P:Program} {E:ah} {ops:Array Oper} {A D:List Nat} {ls:List SL}
theorem Yp(h:(ops.toList.zipIdx.all fun p=>p.1.after.all fun e=> !(Region.binds .any e)||decide (e.on<p.2))=true):∀i o,ops[i]? =some o->∀e∈o.after,Region.binds .any e=true->e.on<i:=by
 intro i o c e d f;rw[List.all_eq_true]at h
 have b:(o,i)∈ops.toList.zipIdx:=by
  rw[List.mem_zipIdx_iff_getElem?];simpa using c
 have:=h _ b;rw[Array.all_eq_true']at this;have:=this e d;simpa[f]using this
theorem left_all(n:Nat):left n (Array.replicate n false)=List.range n:=by
 simp only[left];rw[List.filter_eq_self];intro i hi;have:=List.mem_range.1 hi;simp[Array.getD_eq_getD_getElem?,this]
theorem OL(b:ls.length=ops.size)(hd:Df P ops A D ls=true){st st':St}(m:Ce E (some D) ls st=some st'){r:List Nat}(v:Good ops (Array.replicate ops.size false) r):
  Cm E (some D) ls r st=some st':=by
 simp only[Df,Ag]at hd;obtain⟨⟨⟨⟨F,d⟩,q⟩,e⟩,g⟩:=hd;have m:=Qf ls [] (by simp) d m;refine Nl (A:=A) _ ?_;refine Po b ?_ v ?_ (by simp) ?_ ?_
 ·intro j f i p;rw[List.all_eq_true]at g;have:=g j (List.mem_range.2 f);rw[List.all_eq_true]at this;have:=this i (List.mem_range.2 p);rw[Ak]at this;rcases this with h|h
  ·rw[F8 ops f]at h;exact .inl (GA ops f h)
  ·refine .inr ?_;split at h
   ·rename_i x y t s;exact⟨x,y,t,s,h⟩
   ·cases h
 ·intro i o hi;exfalso;rw[Array.getD_eq_getD_getElem?,Array.getElem?_replicate]at hi;split at hi<;>cases hi
 ·intro k _ l u c j f;rw[List.all_eq_true]at e;have:=e l (List.mem_of_getElem? u);simpa[c,f]using this
 ·rw[left_all,List.range_eq_range',<-b];have:=Mx (E:=E) (A:=A) (D:=D) ls [] st;simp only[List.nil_append,List.length_nil]at this;rw[this];exact m
def U2(ops:Array Oper)(n i:Nat):Nat:=((List.range n).find? fun j=>((ops[j]?).map fun o=>o.after.any fun e=>Region.binds .any e&&Nat.beq e.on i).getD false).getD n
def P1(ops:Array Oper)(ls:List SL):Nat->List Nat->List Nat
 |0,π=>π.reverse
 |k+1,π=>
  let ready:=(List.range ls.length).filter fun i=> !π.contains i&&((ops[i]?).map fun o=>o.after.all fun e=> !(Region.binds .any e)||π.contains e.on).getD false
  match ready.find? fun i=>(ls[i]?).all fun l=>match l.op with| .load .. =>false|_=>true with
  |some i=>P1 ops ls k (i::π)
  |none=>match ready with
   |i::r=>P1 ops ls k (r.foldl (fun i j=>if Nat.blt (U2 ops ls.length j) (U2 ops ls.length i)=true then j else i) i::π)
   | []=>π.reverse
def JK(ops:Array Oper)(ls:List SL):List Nat:=P1 ops ls ls.length []
def Yo(ops:Array Oper):Bool:=ops.toList.zipIdx.all fun p=>p.1.after.all fun e=> !(Region.binds .any e)||decide (e.on<p.2)
def OJ(P:Program)(ops:Array Oper)(π A D:List Nat)(ls:List SL):Bool:=Dv ops.size π&&Yo ops&&Df P (GI π ops) A D (permL π ls)
theorem Pn{L:Array Bool}{c:List Nat}(d:Good ops L c):∀i∈c,i<ops.size:=by
 induction d with
 |nil h=>intro i hi;cases hi
 |cons hi _ _ _ ih=>
  intro j b;rcases List.mem_cons.1 b with rfl|b
  ·exact hi
  ·exact ih j b
theorem Ae3{π:List Nat}(c:ls.length=ops.size)(b:Dv ops.size π=true){i:Nat}(hi:i<ops.size):(permL π ls)[pos π i]? =ls[i]? :=by
 obtain⟨f,e⟩:=Kj b hi;unfold permL;rw[Pd (fun x d=> ?_),e]
 ·rfl
 ·have:=MU b d;simp[Aj (show x<ls.length by omega)]
theorem Ae4{π:List Nat}(b:ls.length=ops.size)(c:Dv ops.size π=true):(permL π ls).length=ops.size:=by
 have:∀(l:List Nat),(∀x∈l,x<ls.length)->(l.filterMap fun i=>ls[i]?).length=l.length:=by
  intro l
  induction l with
  |nil=>intro _;rfl
  |cons x l ih=>
   intro h;rw[List.filterMap_cons_some (Aj (h x (by simp)))];simp[ih fun y d=>h y (by simp[d])]
 rw[<-HB c];exact this π fun x e=>by rw[b];exact MU c e
theorem Xf{π:List Nat}(b:ls.length=ops.size)(d:Dv ops.size π=true):∀(c:List Nat) (st:St),(∀i∈c,i<ops.size)->Cm E (some D) (permL π ls) (c.map (pos π)) st=Cm E (some D) ls c st
 | [],_,_=>rfl
 |i::c,st,h=>by
  simp only[List.map_cons,Cm,Ae3 b d (h i (by simp))];split
  ·congr 1
   funext s;exact Xf b d c s fun j e=>h j (by simp[e])
  ·rfl
theorem Zm{n:Nat}(m:Aq (CS P n ops) ops.toList=some ls){π:List Nat}(hd:OJ P ops π A D ls=true){st st':St}(i:Ce E (some D) (permL π ls) st=some st')(t:Nat):
  Cm E (some D) ls (Region.schedule (P.follows .mixedOrders) ops t) st=some st':=by
 have b:ls.length=ops.size:=by rw[D3 m];simp
 simp only[OJ,Ag]at hd;obtain⟨⟨c,o⟩,hd⟩:=hd
 have l:P.follows .mixedOrders=true:=by
  have h:=hd;simp only[Df,Ag]at h;exact h.1.1.1.1
 simp only[Region.schedule,l,Bool.true_or,if_true,Region.linearise];have g:=lin_good (Yp o) ops.size t (Array.replicate ops.size false) (by simp) (by rw[left_all];simp);have d:=Acp c g (by simp)
 have p:GH π (Array.replicate ops.size false)=Array.replicate (GI π ops).size false:=by
  rw[MR c];apply Array.ext_getElem?;intro k;simp only[GH,List.getElem?_toArray,List.getElem?_map,Array.getElem?_replicate];by_cases f:k<ops.size
  ·obtain⟨j,r,q,_⟩:=MT c f;simp[r,f,Array.getD_eq_getD_getElem?,q]
  ·have e:π[k]? =none:=List.getElem?_eq_none (by rw[HB c];omega);simp[e,f]
 rw[p]at d;have h:=OL (E:=E) (by rw[Ae4 b c,MR c]) hd i d;rw[Xf b c _ _ (Pn g)]at h;exact h
end
def OE(P:Program)(ops:Array Oper)(A D:List Nat)(ls:List SL)(c:Nat):Bool:=
 Df P ops A D ls&&Df P (ops.extract 0 c) A D (ls.take c)&&Nat.blt c ops.size&&
 (List.range ls.length).all fun j=>Nat.blt j c||(List.range c).all fun i=>((DA ops ls.length).getD j 0).testBit i
def Zd(ls:List SL):Option Nat:=
 match ls.findIdx? fun l=>l.op.calls with
 |some c=>if(ls.take c).any fun l=>match l.op with| .mkmap .. =>true|_=>false then some c else none
 |none=>none
def firstC(c n:Nat):Array Bool:=Array.replicate c true++Array.replicate (n-c) false
theorem Pe{c n:Nat}(h:c≤n):(firstC c n).size=n:=by simp[firstC];omega
theorem In{c n j:Nat}{b:Bool}(d:j<n)(e:c≤n):(firstC c n).getD j b=decide (j<c):=by
 unfold firstC;rw[Array.getD_eq_getD_getElem?];by_cases h:j<c
 ·rw[Array.getElem?_append_left (by simpa using h)];simp[h]
 ·rw[Array.getElem?_append_right (by simpa using Nat.le_of_not_lt h)];rw[Array.getElem?_replicate,if_pos (by rw[Array.size_replicate];omega),Al h];rfl
section
variable {P:Program} {E:ah} {n:Nat} {ops:Array Oper} {A D:List Nat} {ls:List SL}
theorem Ga{α:Type}{L:Array α}{c j:Nat}(b:j<c):(L.extract 0 c)[j]? =L[j]? :=by
 rw[Array.getElem?_extract];split
 ·simp
 ·rename_i h;rw[Array.getElem?_eq_none (by omega)]
theorem Pm{c N:Nat}(O:c<ops.size)(v:∀i o,ops[i]? =some o->∀e∈o.after,Region.binds .any e=true->e.on<i)(U:∀j,c≤j->j<ops.size->∀i<c,FQ ops N i j=true){L:Array Bool}{X:List Nat}(Z:Good ops L X):
  L.size=ops.size->(∀j,c≤j->j<ops.size->L.getD j true=false)->(∀i o,L.getD i false=true->ops[i]? =some o->∀e∈o.after,Region.binds .any e=true->L.getD e.on false=true)->
  ∃l g,X=l++g/\Good (ops.extract 0 c) (L.extract 0 c) l/\Good ops (firstC c ops.size) g:=by
 induction Z with
 | @nil L' h=>
  intro F m _;exfalso
  have:c∈left ops.size L':=by
   unfold left;rw[List.mem_filter,List.mem_range];exact⟨O,by rw[m c (Nat.le_refl _) O];rfl⟩
  rw[h]at this;cases this
 | @cons L i X hi hL he Z ih=>
  intro F m d;have t:(ops.extract 0 c).size=c:=by simp;omega
  by_cases s:i<c
  ·obtain⟨l,g,e1,e2,e3⟩:=ih (by simp[F]) (fun j u Y=>by
    rw[getD_set L i j true hL,if_neg (by omega)]
    exact m j u Y) (fun k o p y e b T=>by
    rw[getD_set L i _ _ hL]at p⊢;split
    ·rfl
    ·by_cases J:k=i
     ·subst J;exact he o y e b T
     ·rw[if_neg J]at p
      exact d k o p y e b T)
   refine⟨i::l,g,by rw[e1];rfl,.cons (by rw[t];exact s) ?_ ?_ ?_,e3⟩
   ·rw[Array.getD_eq_getD_getElem?,Ga s,<-Array.getD_eq_getD_getElem?];exact hL
   ·intro o y e b T;rw[Ga s]at y;have f:=he o y e b T;have x:=v i o y e b T;rw[Array.getD_eq_getD_getElem?,Ga (by omega),<-Array.getD_eq_getD_getElem?];exact f
   ·have hx:(L.extract 0 c).setIfInBounds i true=(L.setIfInBounds i true).extract 0 c:=by
     apply Array.ext_getElem?;intro j;by_cases u:j<c
     ·rw[Ga u,Array.getElem?_setIfInBounds,Array.getElem?_setIfInBounds,Ga u];have:i<L.size:=by omega
      have x:i<(L.extract 0 c).size:=by simp;omega
      by_cases q:i=j
      ·rw[if_pos q,if_pos q,if_pos x,if_pos this]
      ·rw[if_neg q,if_neg q]
     ·rw[Array.getElem?_eq_none (by simp;omega),Array.getElem?_eq_none (by simp;omega)]
    rw[hx];exact e2
  ·have V:∀k,k<c->L.getD k false=true:=fun k p=>Lk d N k i he (U i (Nat.le_of_not_lt s) hi k p)
   have I:∀k,k<c->L.getD k true=true:=fun k p=>by
    have f:=V k p;rw[Array.getD_eq_getD_getElem?]at f⊢;rw[Array.getElem?_eq_getElem (by omega)]at f⊢;simpa using f
   have hLe:L=firstC c ops.size:=by
    apply Array.ext_getElem?;intro j;by_cases u:j<ops.size
    ·have f:(firstC c ops.size).getD j true=decide (j<c):=In u (Nat.le_of_lt O)
     have x:L.getD j true=decide (j<c):=by
      by_cases r:j<c
      ·rw[I j r,Am r]
      ·rw[m j (Nat.le_of_not_lt r) u,Al r]
     rw[Array.getD_eq_getD_getElem?]at f x;have s1:=Pe (Nat.le_of_lt O);rw[Array.getElem?_eq_getElem (by omega)]at f x⊢;rw[Array.getElem?_eq_getElem (by omega)];simp at f x;rw[f,x]
    ·have s1:=Pe (Nat.le_of_lt O);rw[Array.getElem?_eq_none (by omega),Array.getElem?_eq_none (by omega)]
   refine⟨[],i::X,rfl,.nil ?_, ?_⟩
   ·rw[t];unfold left;rw[List.filter_eq_nil_iff];intro k p;have M:=List.mem_range.1 p;rw[Array.getD_eq_getD_getElem?,Ga M,<-Array.getD_eq_getD_getElem?,I k M];decide
   ·rw[<-hLe];exact .cons hi hL he Z
theorem OV{D:Option (List Nat)}{c:Nat}:∀(b:List Nat) (st:St),(∀i∈b,i<c)->Cm E D (ls.take c) b st=Cm E D ls b st
 | [],_,_=>rfl
 |i::b,st,h=>by
  simp only[Cm];rw[List.getElem?_take,if_pos (h i (by simp))]
  cases ls[i]? with
  |none=>rfl
  |some l=>
   simp only
   congr 1
   funext s;exact OV b s fun j d=>h j (by simp[d])
theorem Agc(f:ls.length=ops.size){c:Nat}(p:c≤ops.size)(hd:Df P ops A D ls=true){st st':St}(hm:∀l∈ls.drop c,l.own A=none)(L:Ce E (some D) (ls.drop c) st=some st'){X:List Nat}(hg:Good ops (firstC c ops.size) X):
  Cm E (some D) ls X st=some st':=by
 simp only[Df,Ag]at hd;obtain⟨⟨⟨⟨_,Y⟩,d⟩,q⟩,v⟩:=hd
 have U:∀i o,ops[i]? =some o->∀e∈o.after,Region.binds .any e=true->e.on<i:=by
  intro i o I e T V;rw[List.all_eq_true]at d
  have r:(o,i)∈ops.toList.zipIdx:=by
   rw[List.mem_zipIdx_iff_getElem?];simpa using I
  have:=d _ r;rw[Array.all_eq_true']at this;have:=this e T;simpa[V]using this
 have t:∀(b:List SL) {s s':St},(∀l∈b,l.own A=none)->Ce E (some D) b s=some s'->co E A D b s=some s':=by
  intro b
  induction b with
  |nil=>intro s s' _ h;exact h
  |cons l b ih=>
   intro s s' Z h;simp only[Ce,Ab]at h;obtain⟨s1,F,h2⟩:=h;have M:bc A l s=true:=by unfold bc;rw[Z l (by simp)]
   simp only[co,F1 M F,Option.bind_some];exact ih (fun x J=>Z x (by simp[J])) h2
 have L:=t _ hm L;refine Nl (A:=A) _ ?_;refine Po f ?_ hg ?_ (Pe p) ?_ ?_
 ·intro j u i O;rw[List.all_eq_true]at v;have:=v j (List.mem_range.2 u);rw[List.all_eq_true]at this;have:=this i (List.mem_range.2 O);rw[Ak]at this;rcases this with h|h
  ·rw[F8 ops u]at h;exact .inl (GA ops u h)
  ·refine .inr ?_;split at h
   ·rename_i x y J hy;exact⟨x,y,J,hy,h⟩
   ·cases h
 ·intro i o hi I e T V;have N:i<ops.size:=(Array.getElem?_eq_some_iff.1 I).1;rw[In N p]at hi;have F:=U i o I e T V;have h2:i<c:=by simpa using hi
  rw[In (by omega) p];simp;omega
 ·intro k _ l hl g j u;rw[List.all_eq_true]at q;have:=q l (List.mem_of_getElem? hl);simpa[g,u]using this
 ·have m:left ops.size (firstC c ops.size)=List.range' c (ops.size-c):=by
   unfold left;rw[List.range_eq_range',show ops.size=c+(ops.size-c) by omega,<-List.range'_append_1,List.filter_append]
   have e1:((List.range' 0 c).filter fun i=> !(firstC c (c+(ops.size-c))).getD i true)= []:=by
    rw[List.filter_eq_nil_iff];intro i hi;have:=(List.mem_range'_1.1 hi).2;rw[In (by omega) (by omega),Am (by omega)];decide
   have e2:((List.range' (0+c) (ops.size-c)).filter fun i=> !(firstC c (c+(ops.size-c))).getD i true)=List.range' (0+c) (ops.size-c):=by
    rw[List.filter_eq_self];intro i hi;have:=(List.mem_range'_1.1 hi);rw[In (by omega) (by omega),Al (by omega)];rfl
   rw[e1,e2];simp
  rw[m];have F:=Mx (E:=E) (A:=A) (D:=D) (ls.drop c) (ls.take c) st;rw[List.take_append_drop,List.length_take,List.length_drop,Nat.min_eq_left (by omega),f]at F;rw[F];exact L
variable {w0:WL} {M0:MM}
theorem OW(hE:aV P E){D:Option (List Nat)}(e:Aq (CS P n ops) ops.toList=some ls){Q:Exit->Act->World->Prop}{j:List Nat}:∀{c:List Nat} {st st':St} {a:Act} {w:World} {z:Cz},SR P E.G w0 M0 n st a w z->
  Cm E D ls c st=some st'->(∀g w' z',SR P E.G w0 M0 n st' g w' z'->wpOps P ops Q j g w')->wpOps P ops Q (c++j) a w
 | [],st,st',a,w,z,h,hv,hK=>by
  simp only[Cm,Ac]at hv;subst hv;exact hK _ _ _ h
 |i::c,st,st',a,w,z,h,hv,hK=>by
  simp only[Cm]at hv;split at hv<;>(try cases hv;done);rename_i l m;simp only[Ab]at hv;obtain⟨o,r,q⟩:=hv;have b:=D3 e;have hi:i<ops.toList.length:=by rw[<-b];exact(Af.1 m).1
  have k:ops.toList[i]? =some (ops.toList[i]):=Aj hi;obtain⟨l',f,s⟩:=IX e k;rw[m]at f;simp only[Ac]at f;subst f;have d:ops[i]? =some (ops.toList[i]):=by rw[<-Array.getElem?_toList];exact k
  exact LX hE h d s r fun g w' z' p=>OW hE e p q hK
theorem TF(hE:aV P E){id c:Nat}(r:Aq (CS P n ops) ops.toList=some ls)(hd:OE P ops A D ls c=true)(hm:(ls.drop c).all (fun l=>(l.own A).isNone)=true){Q:Exit->Act->World->Prop}{st q:St}{a:Act}{w:World}{z:Cz}(h:SR P E.G w0 M0 n st a w z)(h1:Ce E (some D) (ls.take c) st=some q)
  (K:∀L w' z',SR P E.G w0 M0 n q L w' z'->∃p z2 m,SR P E.G w0 M0 n p L w' z2/\Ce E (some D) (ls.drop c) p=some m/\∀J s M,SR P E.G w0 M0 n m J s M->Q .normal J s):(Code.region id ops true).wp P Q a w:=by
 simp only[OE,Ag]at hd;obtain⟨⟨⟨F,Y⟩,Z⟩,k⟩:=hd;have g:c<ops.size:=Ai Z;have d:ls.length=ops.size:=by rw[D3 r];simp
 have f:=F;simp only[Df,Ag]at f;obtain⟨⟨⟨⟨U,_⟩,b⟩,_⟩,_⟩:=f
 have I:∀i o,ops[i]? =some o->∀e∈o.after,Region.binds .any e=true->e.on<i:=by
  intro i o ho e he hb;rw[List.all_eq_true]at b
  have v:(o,i)∈ops.toList.zipIdx:=by
   rw[List.mem_zipIdx_iff_getElem?];simpa using ho
  have:=b _ v;rw[Array.all_eq_true']at this;have:=this e he;simpa[hb]using this
 refine wp_region_draw fun t=> ?_
 have X:Good ops (Array.replicate ops.size false) (Region.schedule (P.follows .mixedOrders) ops t):=by
  simp only[Region.schedule,U,Bool.true_or,if_true,Region.linearise];exact lin_good I ops.size t _ (by simp) (by rw[left_all];simp)
 obtain⟨u,is2,e1,g1,g2⟩:=Pm (N:=ls.length) g I (fun j hj y i hi=>by
  rw[List.all_eq_true]at k;have:=k j (List.mem_range.2 (by omega));rw[Ak]at this;rcases this with h|h
  ·have:j<c:=Ai h;omega
  ·rw[List.all_eq_true]at h;have:=h i (List.mem_range.2 hi);rw[F8 ops (show j<ls.length by omega)]at this
   exact GA ops (by omega) this) X (by simp) (fun j _ y=>by simp[Array.getD_eq_getD_getElem?,y]) (fun i o hi=>by
  exfalso;rw[Array.getD_eq_getD_getElem?,Array.getElem?_replicate]at hi
  split at hi<;>cases hi)
 rw[e1]
 have hx:(Array.replicate ops.size false).extract 0 c=Array.replicate (ops.extract 0 c).size false:=by
  apply Array.ext_getElem?;intro j;simp only[Array.getElem?_replicate,Array.size_extract];by_cases hj:j<c
  ·rw[Ga hj,Array.getElem?_replicate,if_pos (by omega),if_pos (by omega)]
  ·rw[Array.getElem?_eq_none (by simp;omega),if_neg (by omega)]
 rw[hx]at g1;have x:=Pn g1
 have T:Cm E (some D) ls u st=some q:=by
  rw[<-OV (c:=c) u st (fun i hi=>by have:=x i hi;simp at this;omega)];exact OL (by simp[d]) Y h1 g1
 have V:SR P E.G w0 M0 n st a {w with drawn:=w.drawn+1} z:=h.grow ⟨rfl,rfl,rfl,Nat.le_refl _,fun _ _=>rfl⟩;refine OW hE r V T fun L w' z' hS=> ?_;obtain⟨p,z2,m,k1,k2,k3⟩:=K L w' z' hS
 have O:=Agc d (Nat.le_of_lt g) F (fun l hl=>by
  have:=List.all_eq_true.1 hm l hl
  simpa using this) k2 g2
 exact Ht hE r k1 O k3
theorem Aco{c:Nat}(o:ops.size=c+1){d:List Nat}(f:Good ops (firstC c ops.size) d):d= [c]:=by
 have at_:∀{j:Nat} {b:Bool},j<ops.size->(firstC c ops.size).getD j b=decide (j<c):=fun k=>In k (by omega)
 cases f with
 |nil h=>
  exfalso
  have:c∈left ops.size (firstC c ops.size):=by
   unfold left;rw[List.mem_filter,List.mem_range];exact⟨by omega,by rw[at_ (by omega),Al (by omega)];rfl⟩
  rw[h]at this;cases this
 |cons hi hL he f=>
  rename_i i d
  have e:i=c:=by
   rw[at_ hi]at hL;have:=of_decide_eq_false hL;omega
  subst e;have l:(firstC i ops.size).getD i true=false:=hL
  cases f with
  |nil h=>rfl
  |cons hi2 hL2 _ _=>
   rename_i m g;exfalso;rw[getD_set _ _ _ _ l]at hL2;split at hL2
   ·cases hL2
   ·rw[at_ hi2]at hL2;have:=of_decide_eq_false hL2;omega
def P0(P:Program)(ops:Array Oper)(A D:List Nat)(ls:List SL):Bool:=
 P.follows .mixedOrders&&(ops.toList.zipIdx.all fun p=>p.1.after.all fun e=> !(Region.binds .any e)||decide (e.on<p.2))&&
 Df P (ops.extract 0 (ls.length-1)) A D (ls.take (ls.length-1))&&Nat.blt (ls.length-1) ops.size&&
 (List.range (ls.length-1)).all fun i=>((DA ops ls.length).getD (ls.length-1) 0).testBit i
theorem Vi(hE:aV P E){id:Nat}(m:Aq (CS P n ops) ops.toList=some ls)(hd:P0 P ops A D ls=true){Q:Exit->Act->World->Prop}{st d:St}{a:Act}{w:World}{z:Cz}(h:SR P E.G w0 M0 n st a w z)(h1:Ce E (some D) (ls.take (ls.length-1)) st=some d)
  (K:∀v w' z',SR P E.G w0 M0 n d v w' z'->wpOps P ops Q (List.range' (ls.take (ls.length-1)).length (ls.drop (ls.length-1)).length) v w'):(Code.region id ops true).wp P Q a w:=by
 simp only[P0,Ag]at hd;obtain⟨⟨⟨⟨y,b⟩,L⟩,M⟩,u⟩:=hd;have r:ls.length-1<ops.size:=Ai M;have p:ls.length=ops.size:=by rw[D3 m];simp
 have g:ops.size=(ls.length-1)+1:=by omega
 have X:List.range' (ls.take (ls.length-1)).length (ls.drop (ls.length-1)).length= [ls.length-1]:=by
  rw[List.length_take,List.length_drop,Nat.min_eq_left (by omega),show ls.length-(ls.length-1)=1 by omega];rfl
 rw[X]at K;generalize hcdef:ls.length-1=c at*
 have s:∀i o,ops[i]? =some o->∀e∈o.after,Region.binds .any e=true->e.on<i:=by
  intro i o Y e Z hb;rw[List.all_eq_true]at b
  have k:(o,i)∈ops.toList.zipIdx:=by
   rw[List.mem_zipIdx_iff_getElem?];simpa using Y
  have:=b _ k;rw[Array.all_eq_true']at this;have:=this e Z;simpa[hb]using this
 refine wp_region_draw fun t=> ?_
 have J:Good ops (Array.replicate ops.size false) (Region.schedule (P.follows .mixedOrders) ops t):=by
  simp only[Region.schedule,y,Bool.true_or,if_true,Region.linearise];exact lin_good s ops.size t _ (by simp) (by rw[left_all];simp)
 obtain⟨f,U,e1,O,g2⟩:=Pm (N:=ls.length) r s (fun j T q i hi=>by
  have F:j=c:=by omega
  subst F;have:=List.all_eq_true.1 u i (List.mem_range.2 hi);rw[F8 ops (show j<ls.length by omega)]at this
  exact GA ops (by omega) this) J (by simp) (fun j _ q=>by simp[Array.getD_eq_getD_getElem?,q]) (fun i o hi=>by
  exfalso;rw[Array.getD_eq_getD_getElem?,Array.getElem?_replicate]at hi
  split at hi<;>cases hi)
 rw[e1,Aco g g2]
 have V:(Array.replicate ops.size false).extract 0 c=Array.replicate (ops.extract 0 c).size false:=by
  apply Array.ext_getElem?;intro j;simp only[Array.getElem?_replicate,Array.size_extract];by_cases T:j<c
  ·rw[Ga T,Array.getElem?_replicate,if_pos (by omega),if_pos (by omega)]
  ·rw[Array.getElem?_eq_none (by simp;omega),if_neg (by omega)]
 rw[V]at O;have l:=Pn O
 have x:Cm E (some D) ls f st=some d:=by
  rw[<-OV (c:=c) f st (fun i hi=>by have:=l i hi;simp at this;omega)];exact OL (by simp[p];try omega) L h1 O
 have I:SR P E.G w0 M0 n st a {w with drawn:=w.drawn+1} z:=h.grow ⟨rfl,rfl,rfl,Nat.le_refl _,fun _ _=>rfl⟩;exact OW hE m I x fun v w' z' hS=>K v w' z' hS
end
theorem Agj{op:aa}(h:op.simple=true):op.hard=false/\op.makes=false/\op.calls=false:=by
 cases op<;>first|exact⟨rfl,rfl,rfl⟩|cases h
theorem XE{l:SL}{k:Nat}(h:l.via=some k):∃n x,l.op=.store n (.t k) x/\l.guard=none/\l.dst=none:=by
 unfold SL.via at h;split at h<;>(try cases h;done);rename_i n j x d c b;cases h;exact⟨n,x,d,c,b⟩
theorem Ai3{l:SL}(h:l.op.simple=true):l.via=none:=by
 cases b:l.via with
 |none=>rfl
 |some k=>
  obtain⟨n,x,c,_⟩:=XE b;rw[c]at h;cases h
def Ma(x y:SL):Bool:=
 (x.via.isNone||y.via.isNone)&&(x.dst.all fun i=> !y.looks.contains i&& !(match y.dst with|some j=>j==i|none=>false))&&(y.dst.all fun i=> !x.looks.contains i)
def OK(P:Program)(ops:Array Oper)(ls:List SL):Bool:=
 P.follows .mixedOrders&&(ls.any fun l=>l.via.isSome)&&(ls.all fun l=>l.via.isSome||l.op.simple)&&
 (ops.toList.zipIdx.all fun p=>p.1.after.all fun e=> !(Region.binds .any e)||decide (e.on<p.2))&&
 ((List.range ls.length).all fun j=>(List.range j).all fun i=>((DA ops ls.length).getD j 0).testBit i||match ls[i]?,ls[j]? with
   |some x,some y=>Ma x y
   |_,_=>false)
section
variable {P:Program} {E:ah} {n:Nat} {ops:Array Oper} {W:List (Nat×Nat)} {ls:List SL}
def EQ(o o':Ob):Prop:=o'=o\/∃cs b bt,o=.box cs bt/\o'=.box b bt/\b<+:cs
theorem EQ.trans{a b c:Ob}(h:EQ a b)(k:EQ b c):EQ a c:=by
 rcases h with rfl|⟨cs,cs',bt,rfl,rfl,h1⟩
 ·exact k
 ·rcases k with rfl|⟨ds,ds',bt',e,rfl,k1⟩
  ·exact .inr ⟨_,_,_,rfl,rfl,h1⟩
  ·cases e;exact .inr ⟨_,_,_,rfl,rfl,k1.trans h1⟩
theorem Ah4(k:Nat)(o:Ob):EQ o (DH k o):=by
 cases o with
 |box cs bt=>exact .inr ⟨cs,_,bt,rfl,rfl,List.take_prefix _ _⟩
 |_=>exact .inl rfl
theorem U6(i:Nat):∀(W:List (Nat×Nat)) (o:Ob),EQ o (W.foldl (fun o p=>if p.1=i then DH p.2 o else o) o)
 | [],o=>.inl rfl
 |p::W,o=>by
  simp only[List.foldl_cons];refine EQ.trans ?_ (U6 i W _);split
  ·exact Ah4 _ _
  ·exact .inl rfl
theorem Jw(W:List (Nat×Nat))(ob:Nat->Ob)(i:Nat):EQ (ob i) (DP W ob i):=U6 i W _
theorem X7(k m:Nat)(o:Ob):DH k (DH m o)=DH m (DH k o):=by
 cases o with
 |box cs bt=>simp only[DH,List.take_take,Nat.min_comm]
 |_=>rfl
theorem Ph{i k:Nat}:∀{W:List (Nat×Nat)} {c b:Ob},(i,k)∈W->DH k c=DH k b->W.foldl (fun o p=>if p.1=i then DH p.2 o else o) c=W.foldl (fun o p=>if p.1=i then DH p.2 o else o) b
 |p::W,c,b,h,he=>by
  simp only[List.foldl_cons];rcases List.mem_cons.1 h with rfl|h
  ·simp only[if_true,he]
  ·split
   ·refine Ph h ?_;rw[X7,he,X7]
   ·exact Ph h he
theorem Ah5{n o k:Nat}{ob c:Ob}{v:SV}(h:CZ n o ob v=some c)(b:k≤o):DH k c=DH k ob:=by
 unfold CZ at h;split at h
 ·rename_i cs bt
  split at h<;>split at h<;>first
   |cases h;done
   |(rename_i d
     cases h;simp only[DH,FD,Ob.box.injEq,and_true]
     first
      |exact List.take_set_of_le b
      |(rw[List.append_assoc,List.take_append_of_le_length (by rw[List.length_take];omega),List.take_take,Nat.min_eq_left b]))
 ·cases h
theorem TG{n id o:Nat}{ob:Nat->Ob}{c:Ob}{v:SV}(b:cR W id o=true)(h:CZ n o (ob id) v=some c):DP W (ac ob id c)=DP W ob:=by
 unfold cR at b;rw[List.any_eq_true]at b;obtain⟨⟨q,k⟩,f,e⟩:=b;simp only[Ag]at e;obtain⟨d,g⟩:=e;have d:q=id:=Nat.eq_of_beq_eq_true d;subst d;funext i;by_cases hi:i=q
 ·subst hi;unfold DP;rw[AR];exact Ph f (Ah5 h (Ai g))
 ·unfold DP;rw[A8 _ _ hi]
theorem LO{rd ob:Nat->Ob}(b:∀i,EQ (ob i) (rd i))(s:SV):deref rd s=deref ob s:=by
 unfold deref;split
 ·rename_i N;split
  ·rcases b N with h|⟨cs,cs',bt,h1,h2,_⟩
   ·rw[h]
   ·rw[h1,h2]
  ·rfl
 ·rfl
theorem Wg{cs b:List SV}{o:Nat}{v:SV}(h:b<+:cs)(c:b[o]? =some v):cs[o]? =some v:=by
 obtain⟨t,rfl⟩:=h;have:=(Af.1 c).1;rw[List.getElem?_append_left this];exact c
theorem Wf{cs b:List SV}{o n:Nat}(h:b<+:cs)(c:o+n≤b.length):(cs.drop o).take n=(b.drop o).take n:=by
 obtain⟨t,rfl⟩:=h;rw[List.drop_append_of_le_length (by omega),List.take_append_of_le_length (by rw[List.length_drop];omega)]
theorem Vo{rd ob:Nat->Ob}(b:∀i,EQ (ob i) (rd i)){sz:Option Nat}{s v:SV}(h:AO rd sz s=some v):AO ob sz s=some v:=by
 unfold AO at h⊢;split at h
 ·exact h
 ·exact h
 ·rename_i id o;rcases b id with e|⟨cs,cs',bt,e1,e2,e3⟩
  ·rw[e]at h;exact h
  ·rw[e2]at h;simp only[e1]
   cases sz with
   |none=>exact Wg e3 h
   |some n=>
    simp only at h⊢;split at h<;>(try cases h;done);rename_i c;rw[if_pos (Nat.le_trans c e3.length_le),Wf e3 c];exact h
 ·rename_i id i size o;rcases b id with e|⟨cs,cs',bt,e1,e2,e3⟩
  ·rw[e]at h;exact h
  ·rw[e2]at h;cases h
 ·cases h
theorem Q6{op:aa}(h:op.simple=true):op.cls=.val:=by
 cases op<;>first|rfl|cases h
theorem Aid{rd ob:Nat->Ob}(b:∀i,EQ (ob i) (rd i)){ρ:SO->SV}{op:aa}(c:op.simple=true){v:SV}(h:An rd ρ op=some v):An ob ρ op=some v:=by
 cases op with
 |mov x=>exact h
 |nchk x=>exact h
 |faddr off x=>
  simp only[An,LO b]at h⊢;exact h
 |load sz x=>
  simp only[An,LO b]at h⊢;exact Vo b h
 |bin op x y=>exact h
 |_=>cases c
theorem Ag2{rd ob:Nat->Ob}(e:∀i,EQ (ob i) (rd i)){l:SL}(d:l.op.simple=true){fr:Nat->SV}{p:SV×Option Ob}(h:B0 E l fr rd=some p):B0 E l fr ob=some p:=by
 have key:∀p,A5 E rd (so E.G fr) l.dst l.op=some p->A5 E ob (so E.G fr) l.dst l.op=some p:=fun p b=>by
  unfold A5 at b⊢;rw[Q6 d]at b⊢;simp only[Aa]at b⊢;obtain⟨v,g,f⟩:=b;exact⟨v,Aid e d g,f⟩
 unfold B0 at h⊢;split at h
 ·exact key _ h
 ·split at h
  ·split at h
   ·rename_i c;simp only[c,if_true];exact key _ h
   ·rename_i c;simp only[c,if_false];exact h
  ·exact h
  ·cases h
theorem Q7{rd:Nat->Ob}{l:SL}(e:l.op.simple=true){st:St}:Bm E rd l st=(B0 E l st.fr rd).bind (put st l.dst):=by
 have key:A9 E rd st l.dst l.op=(A5 E rd (so E.G st.fr) l.dst l.op).bind (put st l.dst):=by
  unfold A9 A5;rw[Q6 e];simp only;cases An rd (so E.G st.fr) l.op<;>rfl
 unfold Bm B0
 cases l.guard with
 |none=>exact key
 |some p=>
  obtain⟨g,d⟩:=p;simp only;generalize st.fr g=q
  cases q with
  |c v=>
   cases v with
   |bool b=>
    simp only;split
    ·exact key
    ·rfl
   |tup l=>cases l<;>rfl
   |_=>rfl
  |_=>rfl
theorem Xl{l:SL}{st:St}:Ar E none l st=Bm E st.ob l st:=rfl
theorem FX{l:SL}(h:l.op.simple=true){st:St}:bl E W l st=(B0 E l st.fr (DP W st.ob)).bind (put st l.dst):=by
 unfold bl;rw[Ai3 h];simp only[h,if_true];exact Q7 h
theorem Uf{l:SL}{st s:St}(h:bl E W l st=some s):Ar E none l st=some s:=by
 cases c:l.via with
 |some k=>
  unfold bl at h;rw[c]at h;simp only at h;split at h<;>(try cases h;done);split at h
  ·exact h
  ·cases h
 |none=>
  have b:l.op.simple=true:=by
   unfold bl at h;rw[c]at h;simp only at h;split at h
   ·assumption
   ·cases h
  rw[FX b,Ab]at h;obtain⟨p,e,d⟩:=h;rw[Xl,Q7 b,Ag2 (fun i=>Jw W st.ob i) b e];exact d
theorem Ug{l:SL}{k:Nat}(h:l.via=some k):∃n x,(∀i∈x.slot,i∈l.looks)/\k∈l.looks/\l.dst=none/\∀(st s:St),bl E W l st=some s<->∃id o b,st.fr k=.ptr id o/\cR W id o=true/\CZ n o (st.ob id) (so E.G st.fr x)=some b/\s={st with ob:=ac st.ob id b}:=by
 obtain⟨n,x,m,y,u⟩:=XE h;refine⟨n,x,fun i hi=>by simp[SL.looks,m,aa.slots,hi],by simp[SL.looks,m,aa.slots,SO.slot],u,fun st s=> ?_⟩
 have f:∀id o,st.fr k=.ptr id o->Ar E none l st=(CZ n o (st.ob id) (so E.G st.fr x)).map fun b=>{st with ob:=ac st.ob id b}:=by
  intro id o p;simp only[Ar,y,m,A9,aa.cls,AJ,Dp];rw[show so E.G st.fr (.t k)=.ptr id o from p];simp only[CZ,deref];cases q:st.ob id<;>simp only[q]<;>try rfl
  generalize so E.G st.fr x=v
  cases v with
  |c cv=>cases cv<;>(simp only;split<;>rfl)
  |_=>simp only;split<;>rfl
 unfold bl;rw[h];simp only;constructor
 ·intro d;split at d<;>(try cases d;done);rename_i id o e;split at d<;>(try cases d;done);rename_i g;rw[f id o e,Aa]at d;obtain⟨b,j,r⟩:=d;exact⟨id,o,b,e,g,j,r.symm⟩
 ·rintro⟨id,o,b,e,g,j,rfl⟩
  simp only[e,g,if_true];rw[f id o e,j];rfl
theorem OR{l:SL}{st s:St}(h:bl E W l st=some s)(b:l.via=none):l.op.simple=true:=by
 unfold bl at h;rw[b]at h;simp only at h;split at h
 ·assumption
 ·cases h
theorem Q8{l:SL}(b:l.op.simple=true){fr:Nat->SV}{rd:Nat->Ob}{p:SV×Option Ob}(h:B0 E l fr rd=some p):p.2=none:=by
 cases c:p.2 with
 |none=>rfl
 |some o=>
  have:=HK h (by rw[c];rfl);rw[(Agj b).2.1]at this;cases this
theorem IO{st:St}{d:Option Nat}{v:SV}:(st.set d v).ob=st.ob:=by cases d<;>rfl
theorem Nn{st:St}{d:Option Nat}{v:SV}{i:Nat}(hi:d≠some i):(st.set d v).fr i=st.fr i:=by
 cases d with
 |none=>rfl
 |some j=>exact A8 _ _ (fun e=>hi (by rw[e]))
theorem Ahj{a b:SL}(X:Ma a b=true)(st I V:St)(h:bl E W a st=some I)(g:bl E W b I=some V):∃s,bl E W b st=some s/\bl E W a s=some V:=by
 simp only[Ma,Ag,Ak,Option.isNone_iff_eq_none]at X;obtain⟨⟨t,p⟩,v⟩:=X
 have f:∀i,a.dst=some i->i∉b.looks/\b.dst≠some i:=fun i hi=>by
  rw[hi]at p;simp only[Option.all_some,Ag,Bool.not_eq_true',List.contains_eq_mem,decide_eq_false_iff_not]at p;refine⟨p.1,fun e=> ?_⟩;rw[e]at p;simp at p
 have l:∀i,b.dst=some i->i∉a.looks:=fun i hi=>by
  rw[hi]at v;simpa using v
 cases T:a.via with
 |none=>
  have has:=OR h T;rw[FX has,Ab]at h;obtain⟨⟨pv,J⟩,U,h⟩:=h;have M:J=none:=Q8 has U;subst M
  cases y:b.via with
  |none=>
   have d:=OR g y;rw[FX d,Ab]at g;obtain⟨⟨qv,qo⟩,r,g⟩:=g;have hq:qo=none:=Q8 d r;subst hq
   have N:I.ob=st.ob:=by
    simp only[put,Ac]at h;rw[<-h];exact IO
   rw[N,FH (fr':=st.fr) (fun i hi=>CX h (fun e=>(f i e).1 hi))]at r;obtain⟨s,F,g2⟩:=Wl h g (fun i j hi hj e=>(f i hi).2 (by rw[hj,e]))
   have u:s.ob=st.ob:=by
    simp only[put,Ac]at F;rw[<-F];exact IO
   refine⟨s,by rw[FX d,r];exact F, ?_⟩;rw[FX has,u,FH (fr':=st.fr) (fun i hi=>CX F (fun e=>l i e hi)),U];exact g2
  |some k=>
   obtain⟨m,x,L,O,hd,Y⟩:=Ug (E:=E) (W:=W) y;simp only[put,Ac]at h;subst h;rw[Y]at g;obtain⟨id,o,c,q1,q2,q3,rfl⟩:=g;have q:a.dst≠some k:=fun e=>(f k e).1 O;rw[Nn q]at q1;rw[IO,DE x (fr':=st.fr) (fun i hi=>Nn (fun e=>(f i e).1 (L i hi)))]at q3;refine⟨_,(Y _ _).2 ⟨id,o,c,q1,q2,q3,rfl⟩, ?_⟩;rw[FX has];simp only[TG q2 q3,U,Option.bind_some,put,IO];cases a.dst<;>rfl
 |some k=>
  obtain⟨m,x,L,O,hd,Z⟩:=Ug (E:=E) (W:=W) T
  have y:b.via=none:=by
   rcases t with t|t
   ·rw[T]at t;cases t
   ·exact t
  have d:=OR g y;rw[Z]at h;obtain⟨id,o,c,q1,q2,q3,rfl⟩:=h;rw[FX d,Ab]at g;obtain⟨⟨pv,J⟩,r,g⟩:=g;simp only[TG q2 q3]at r;have M:J=none:=Q8 d r;subst M;simp only[put,Ac]at g;subst g;have q:b.dst≠some k:=fun e=>l k e O;refine⟨st.set b.dst pv, ?_,(Z _ _).2 ⟨id,o,c,by rw[Nn q];exact q1,q2, ?_, ?_⟩⟩
  ·rw[FX d,r];rfl
  ·rw[IO,DE x (fr':=st.fr) (fun i hi=>Nn (fun e=>l i e (L i hi)))];exact q3
  ·rw[IO];cases b.dst<;>rfl
def G6(W:List (Nat×Nat))(id m:Nat):Bool:=W.all fun p=> !(Nat.beq p.1 id)||Nat.ble m p.2
theorem Pi{id m:Nat}{bt:Option TypeId}:∀{W:List (Nat×Nat)} {cs:List SV},G6 W id m=true->m≤cs.length->∃b,W.foldl (fun o p=>if p.1=id then DH p.2 o else o) (.box cs bt)=.box b bt/\m≤b.length/\b<+:cs
 | [],cs,_,hm=>⟨cs,rfl,hm,List.prefix_rfl⟩
 |p::W,cs,h,hm=>by
  simp only[G6,List.all_cons,Ag]at h;simp only[List.foldl_cons];by_cases c:p.1=id
  ·rw[if_pos c]
   have g:m≤p.2:=by
    have:=h.1;rw[c,Nat.beq_refl]at this;exact Ai (by simpa using this)
   obtain⟨b,f,e,d⟩:=Pi (W:=W) (cs:=cs.take p.2) h.2 (by rw[List.length_take];omega);exact⟨b,f,e,d.trans (List.take_prefix _ _)⟩
  ·rw[if_neg c];exact Pi h.2 hm
theorem Adp{ob:Nat->Ob}{sz:Option Nat}{s v:SV}(h:AO ob sz s=some v)(q:∀id o,s=.ptr id o->G6 W id (o+sz.getD 1)=true):AO (DP W ob) sz s=some v:=by
 have e:∀g,AO (DP W ob) sz s=some g->g=v:=fun g r=>by
  have:=Vo (fun i=>Jw W ob i) r;rw[h]at this;exact(Option.some.inj this).symm
 have l:=h;unfold AO at h;split at h
 ·rw[<-l];rfl
 ·rw[<-l];rfl
 ·rename_i id o;split at h<;>(try cases h;done);rename_i cs bt c
  have j:o+sz.getD 1≤cs.length:=by
   cases sz with
   |none=>exact(Af.1 h).1
   |some n=>
    simp only at h;split at h
    ·assumption
    ·cases h
  obtain⟨d,t,p,m⟩:=Pi (bt:=bt) (q id o rfl) j;have b:DP W ob id=.box d bt:=by unfold DP;rw[c];exact t
  unfold AO;simp only[b]
  cases sz with
  |none=>
   have k:o<d.length:=p;have:=Wg m (Aj k);simp only at h;rw[h]at this;simp only[Aj k];exact this.symm
  |some n=>
   have f:o+n≤d.length:=p;simp only at h⊢;rw[if_pos (show o+n≤cs.length from j),Wf m f]at h;rw[if_pos f];exact h
 ·rename_i id i size o;split at h<;>(try cases h;done);rename_i c
  have b:DP W ob id=ob id:=by
   rcases Jw W ob id with h1|⟨cs,d,bt,h1,h2,_⟩
   ·exact h1
   ·rw[c]at h1;cases h1
  unfold AO;simp only[b,c];exact h
 ·cases h
theorem Aie{ob:Nat->Ob}{ρ:SO->SV}{op:aa}(b:op.simple=true)(c:∀sz x,op=.load sz x->∀id o,deref ob (ρ x)=.ptr id o->G6 W id (o+sz.getD 1)=true){v:SV}(h:An ob ρ op=some v):An (DP W ob) ρ op=some v:=by
 cases op with
 |mov x=>exact h
 |nchk x=>exact h
 |faddr off x=>
  simp only[An,LO (fun i=>Jw W ob i)]at h⊢;exact h
 |load sz x=>
  simp only[An,LO (fun i=>Jw W ob i)]at h⊢;exact Adp h (c sz x rfl)
 |bin op x y=>exact h
 |_=>cases b
theorem Ag3{ob:Nat->Ob}{l:SL}(d:l.op.simple=true){fr:Nat->SV}(b:∀sz x,l.op=.load sz x->∀id o,deref ob (so E.G fr x)=.ptr id o->G6 W id (o+sz.getD 1)=true){p:SV×Option Ob}(h:B0 E l fr ob=some p):B0 E l fr (DP W ob)=some p:=by
 have key:∀p,A5 E ob (so E.G fr) l.dst l.op=some p->A5 E (DP W ob) (so E.G fr) l.dst l.op=some p:=fun p c=>by
  unfold A5 at c⊢;rw[Q6 d]at c⊢;simp only[Aa]at c⊢;obtain⟨v,f,e⟩:=c;exact⟨v,Aie d b f,e⟩
 unfold B0 at h⊢;split at h
 ·exact key _ h
 ·split at h
  ·split at h
   ·rename_i b;simp only[b,if_true];exact key _ h
   ·rename_i b;simp only[b,if_false];exact h
  ·exact h
  ·cases h
theorem ZF{l:SL}{st s:St}(f:l.via=none)(b:l.op.simple=true)(c:∀sz x,l.op=.load sz x->∀id o,deref st.ob (so E.G st.fr x)=.ptr id o->G6 W id (o+sz.getD 1)=true)(h:Ar E none l st=some s):bl E W l st=some s:=by
 rw[Xl,Q7 b,Ab]at h;obtain⟨p,e,d⟩:=h;rw[FX b,Ag3 b c e];exact d
theorem Vv:∀(ls:List SL) (pre:List SL) (st:St),CY (bl E W) (pre++ls) (List.range' pre.length ls.length) st=c5 E W ls st
 | [],_,_=>rfl
 |l::ls,pre,st=>by
  have h:=Vv ls (pre++ [l]);simp only[List.length_append,List.length_cons,List.length_nil,List.append_assoc,List.cons_append,List.nil_append]at h;simp only[List.length_cons,List.range'_succ,CY,c5];rw[show(pre++l::ls)[pre.length]? =some l by simp];simp only
  congr 1
  funext s;exact h s
theorem Xe:∀(b:List Nat) {st s:St},CY (bl E W) ls b st=some s->Cm E none ls b st=some s
 | [],_,_,h=>h
 |i::b,st,s,h=>by
  simp only[CY]at h;simp only[Cm]
  cases c:ls[i]? with
  |none=>rw[c]at h;cases h
  |some l=>
   rw[c]at h;simp only[Ab]at h⊢;obtain⟨d,f,e⟩:=h;exact⟨d,Uf f,Xe b e⟩
theorem Zl(M:Aq (CS P n ops) ops.toList=some ls)(hd:OK P ops ls=true){st st':St}(F:c5 E W ls st=some st')(t:Nat):
  Cm E none ls (Region.schedule (P.follows .mixedOrders) ops t) st=some st':=by
 have g:ls.length=ops.size:=by rw[D3 M];simp
 simp only[OK,Ag]at hd;obtain⟨⟨⟨⟨J,_⟩,_⟩,d⟩,m⟩:=hd;refine Xe (W:=W) _ ?_;simp only[Region.schedule,J,Bool.true_or,if_true,Region.linearise]
 have c:left ops.size (Array.replicate ops.size false)=List.range ops.size:=by
  simp only[left];rw[List.filter_eq_self];intro i hi;have:=List.mem_range.1 hi;simp[Array.getD_eq_getD_getElem?,this]
 have f:∀i o,ops[i]? =some o->∀e∈o.after,Region.binds .any e=true->e.on<i:=by
  intro i o I e L N;rw[List.all_eq_true]at d
  have l:(o,i)∈ops.toList.zipIdx:=by
   rw[List.mem_zipIdx_iff_getElem?];simpa using I
  have:=d _ l;rw[Array.all_eq_true']at this;have:=this e L;simpa[N]using this
 refine UK (R:=fun a b=>Ma a b=true) (fun a b st s r O k T=>Ahj O st s r k T) g ?_ (lin_good f ops.size t _ (by simp) (by rw[c];simp)) ?_ (by simp) ?_
 ·intro j p i q;rw[List.all_eq_true]at m;have k:=m j (List.mem_range.2 p);rw[List.all_eq_true]at k;have k:=k i (List.mem_range.2 q);rw[Ak]at k;rcases k with h|h
  ·rw[F8 ops p]at h;exact .inl (GA ops p h)
  ·refine .inr ?_;split at h
   ·rename_i x y v u;exact⟨x,y,v,u,h⟩
   ·cases h
 ·intro i o hi;exfalso;rw[Array.getD_eq_getD_getElem?,Array.getElem?_replicate]at hi;split at hi<;>cases hi
 ·rw[c,List.range_eq_range',<-g];have:=Vv (E:=E) (W:=W) ls [] st;simp only[List.nil_append,List.length_nil]at this;rw[this];exact F
end
def Ai4(P:Program)(o:Oper)(l:SL):Bool:=
 match l.op.cls with
 | .new=>true
 | .call=>match P.underlying o.type with
  |some (.slice _)|some (.map _ _)=>true
  |_=>false
 |_=>false
def Fg(P:Program)(ops:List Oper)(ls:List SL):List Nat:=(ops.zip ls).filterMap fun p=>if Ai4 P p.1 p.2 then p.2.dst else none
def DQ(ls:List SL):List Nat:=ls.filterMap fun l=>if l.op.makes then l.dst else none
def Xk(ls:List SL):List Nat:=
 let Di:=ls.filterMap fun l=>match l.op with| .append .. =>l.dst|_=>none
 if ls.any fun l=>match l.op with| .call _ xs=>xs.any fun x=>x.slot.any Di.contains|_=>false then
  ls.filterMap fun l=>match l.op,l.dst with
   | .mksl ..,some d| .call ..,some d=>if ls.any fun m=>match m.op with| .append _ _ _ (.t i) _=>i==d| .call _ xs=>xs.any fun x=>x.slot.contains d|_=>false then some d else none
   |_,_=>none
 else []
def EL(P:Program)(ops:Array Oper)(ls:List SL):List Nat:=if Df P ops (Gf ls) (Xk ls++DQ ls) ls then Xk ls++DQ ls else DQ ls
def JL(P:Program)(ops:Array Oper)(ls:List SL):List Nat:=EL P (GI (JK ops ls) ops) (permL (JK ops ls) ls)
def TD(P:Program)(ops:Array Oper)(ls:List SL):Option Co:=
 (Zd ls).bind fun c=>if OE P ops (Gf ls) (DQ ls) ls c=true/\(ls.drop c).all (fun l=>(l.own (Gf ls)).isNone)=true then some (.seq (.reg true (DQ ls) (ls.take c)) (.reg true (DQ ls) (ls.drop c)))else none
def JJ(P:Program)(ops:Array Oper)(ls:List SL):Option Co:=
 if((ls.drop (ls.length-1)).all (fun l=>l.op.calls)&&(ls.take (ls.length-1)).all (fun l=> !l.op.calls))=true/\P0 P ops (Gf (ls.take (ls.length-1))) (DQ (ls.take (ls.length-1))) ls=true then
  some (.seq (.reg true (DQ (ls.take (ls.length-1))) (ls.take (ls.length-1))) (.reg false (Fg P (ops.toList.drop (ls.length-1)) (ls.drop (ls.length-1))) (ls.drop (ls.length-1))))else none
def Ju(P:Program)(n:Nat)(ops:Array Oper)(draw:Bool):Option Co:=match Aq (CS P n ops) ops.toList with
 |some ls=>if draw then(match TD P ops ls with|some sc=>some sc|none=>match JJ P ops ls with|some sc=>some sc|none=>if LP P ops (Gf ls) (EL P ops ls) ls then some (.regE (EL P ops ls) ls)else if Df P ops (Gf ls) (EL P ops ls) ls then some (.reg true (EL P ops ls) ls)else if OJ P ops (JK ops ls) (Gf (permL (JK ops ls) ls)) (JL P ops ls) ls then some (.reg true (JL P ops ls) (permL (JK ops ls) ls))else if OK P ops ls then some (.regW ls)else some .bad)else some (.reg false (Fg P ops.toList ls) ls)
 |none=>some .bad
def M8(n:Nat)(ops:Array Oper):Option (Nat×Nat×Nat):=
 match ops.toList with
 | [x,y]=>match x.op,x.dst,x.guard,y.op,y.dst,y.guard with
  | .next (.tmp it) false,some d,none,.extract (.tmp d') 0,some ok,none=>if(Nat.beq d' d&&Nat.blt d n&&Nat.blt ok n&& !Nat.beq d ok)=true then some (it,d,ok)else none
  |_,_,_,_,_,_=>none
 |_=>none
theorem Aed{n:Nat}{ops:Array Oper}{it d ok:Nat}(h:M8 n ops=some (it,d,ok)):∃x y,ops= #[x,y]/\x.op=.next (.tmp it) false/\x.dst=some d/\x.guard=none/\y.op=.extract (.tmp d) 0/\y.dst=some ok/\y.guard=none/\d<n/\ok<n/\d≠ok:=by
 unfold M8 at h;split at h<;>(try cases h;done);rename_i x y j;split at h<;>(try cases h;done);rename_i g d' v f r q p o l k;split at h<;>(try cases h;done);rename_i c;simp only[Ac,Prod.mk.injEq]at h;obtain⟨rfl,rfl,rfl⟩:=h;simp only[Ag,Bool.not_eq_true']at c;obtain⟨⟨⟨u,t⟩,g3⟩,s⟩:=c;have b:=Nat.eq_of_beq_eq_true u;subst b;have lt:∀{i m:Nat},Nat.blt i m=true->i<m:=fun h=>Ai h;exact⟨x,y,Array.toList_inj.1 j,r,q,p,o,l,k,lt t,lt g3,fun e=>by subst e;simp at s⟩
def BP(P:Program)(n:Nat):Code->Option Co
 | .skip=>some .skip
 | .region _ ops draw=>match cond draw none (M8 n ops)with
  |some p=>some (.mnext p.1 p.2.1 p.2.2)
  |none=>Ju P n ops draw
 | .seq a b=>(BP P n a).bind fun x=>(BP P n b).map fun y=>.seq x y
 | .cond c a b=>(Ap c).bind fun c=>(BP P n a).bind fun x=>(BP P n b).map fun y=>.cond c x y
 | .block id b=>(BP P n b).map (.block id)
 | .loop b=>(BP P n b).map .loop
 | .exit id=>some (.exit id)
 | .label _=>some .skip
 | .scope b=>BP P n b
 | .ret=>some .ret
 |_=>some .bad
def ZI:Ex->Exit
 | .normal=>.normal
 | .exit i=>.exit i
 | .ret=>.ret
section
variable {P:Program} {E:ah} {w0:WL} {M0:MM} {n:Nat}
def Gr(P:Program)(E:ah)(w0:WL)(M0:MM)(n:Nat)(Q:Ex->St->Prop)(e:Exit)(a:Act)(w:World):Prop:=
 ∃b st z,ZI b=e/\Q b st/\SR P E.G w0 M0 n st a w z
theorem Nc(hE:aV P E){id:Nat}{ops:Array Oper}{draw:Bool}{X:Co}(j:Ju P n ops draw=some X){Q:Ex->St->Prop}{st:St}{a:Act}{w:World}{z:Cz}(h:SR P E.G w0 M0 n st a w z)
  (r:br E X Q st):(Code.region id ops draw).wp P (Gr P E w0 M0 n Q) a w:=by
 simp only[Ju]at j;split at j
 case h_2=>cases j;exact r.elim
 rename_i ls f;have I:=D3 f
 have start:∀D:List Nat,∃z',SR P E.G w0 M0 n (if D.isEmpty then st else kill D st) a w z':=fun D=>by
  split
  ·exact⟨z,h⟩
  ·exact⟨z,h.killed D⟩
 cases draw with
 |false=>
  simp only[Ah,if_false,Ac]at j;subst j;obtain⟨st',i,l⟩:=r;unfold Cf at i;simp only[Ah,if_false]at i;obtain⟨z',s⟩:=start (Fg P ops.toList ls);refine wp_region ?_;have b:=OU E none ls [] (if(Fg P ops.toList ls).isEmpty then st else kill (Fg P ops.toList ls) st);rw[i]at b;simp only[List.nil_append,List.length_nil]at b;rw[List.range_eq_range',<-Array.length_toList,<-I];exact Ht hE f s b fun u w' d e=>⟨.normal,st',d,rfl,l,e⟩
 |true=>
  have plain:Df P ops (Gf ls) (EL P ops ls) ls=true->∀st',Cf E true (EL P ops ls) ls st=some st'->Q .normal st'->(Code.region id ops true).wp P (Gr P E w0 M0 n Q) a w:=fun hd st' i l=>by
   unfold Cf at i;simp only[if_true]at i;obtain⟨z',s⟩:=start (EL P ops ls);refine wp_region_draw fun t=> ?_;have b:=Zj f hd i t;have v:SR P E.G w0 M0 n (if(EL P ops ls).isEmpty then st else kill (EL P ops ls) st) a {w with drawn:=w.drawn+1} z':=s.grow ⟨rfl,rfl,rfl,Nat.le_refl _,fun _ _=>rfl⟩;exact Ht hE f v b fun u w' d e=>⟨.normal,st',d,rfl,l,e⟩
  simp only[if_true]at j;split at j
  ·rename_i O k;cases j;obtain⟨c,_,k⟩:=Ab.1 k;split at k<;>(try cases k;done);rename_i hd;cases k;obtain⟨m,p,q,o,l⟩:=r;unfold Cf at p o;simp only[if_true]at p o;obtain⟨z',s⟩:=start (DQ ls);refine TF hE f hd.1 hd.2 s p fun u w' d e=> ?_
   have g:∃F,SR P E.G w0 M0 n (if(DQ ls).isEmpty then m else kill (DQ ls) m) u w' F:=by
    split
    ·exact⟨d,e⟩
    ·exact⟨d,e.killed _⟩
   obtain⟨F,y⟩:=g;exact⟨_,F,q,y,o,fun U N M x=>⟨.normal,q,M,rfl,l,x⟩⟩
  split at j
  ·rename_i O L;cases j;unfold JJ at L;split at L<;>(try cases L;done);rename_i hd;cases L;obtain⟨m,p,q,o,l⟩:=r;unfold Cf at p o;simp only[if_true,Ah,if_false]at p o;obtain⟨z',s⟩:=start (DQ (ls.take (ls.length-1)));refine Vi hE f hd.2 s p fun u w' d e=> ?_
   have g:∀V:List Nat,∃F,SR P E.G w0 M0 n (if V.isEmpty then m else kill V m) u w' F:=fun V=>by
    split
    ·exact⟨d,e⟩
    ·exact⟨d,e.killed _⟩
   obtain⟨F,y⟩:=g (Fg P (ops.toList.drop (ls.length-1)) (ls.drop (ls.length-1)));have b:=OU E none (ls.drop (ls.length-1)) (ls.take (ls.length-1)) (if(Fg P (ops.toList.drop (ls.length-1)) (ls.drop (ls.length-1))).isEmpty then m else kill (Fg P (ops.toList.drop (ls.length-1)) (ls.drop (ls.length-1))) m);rw[o,List.take_append_drop]at b;exact Ht hE f y b fun U N M x=>⟨.normal,q,M,rfl,l,x⟩
  split at j
  ·rename_i hd;cases j
   have T:Df P ops (Gf ls) (EL P ops ls) ls=true:=by
    have J:=hd;simp only[LP,Ag]at J;exact J.1.2
   obtain⟨st',i|i,l⟩:=r
   ·exact plain T st' i l
   ·refine wp_region_draw fun t=> ?_;have b:=Zk f hd (YF _) i t;have v:SR P E.G w0 M0 n (Dr (kill (EL P ops ls) st)) a {w with drawn:=w.drawn+1} z:=(h.killed _).clean.grow ⟨rfl,rfl,rfl,Nat.le_refl _,fun _ _=>rfl⟩;exact Xd hE f v b fun u w' d e=>⟨.normal,st',d,rfl,l,e⟩
  ·split at j
   ·rename_i hd;cases j;obtain⟨st',i,l⟩:=r;exact plain hd st' i l
   ·split at j
    case isFalse=>
     split at j
     case isFalse=>cases j;exact r.elim
     rename_i hd;cases j;obtain⟨W,st',i,l⟩:=r;refine wp_region_draw fun t=> ?_;have b:=Zl f hd i t;have v:SR P E.G w0 M0 n st a {w with drawn:=w.drawn+1} z:=h.grow ⟨rfl,rfl,rfl,Nat.le_refl _,fun _ _=>rfl⟩;exact Ht hE f v b fun u w' d e=>⟨.normal,st',d,rfl,l,e⟩
    rename_i hd;cases j;obtain⟨st',i,l⟩:=r;unfold Cf at i;simp only[if_true]at i;obtain⟨z',s⟩:=start (JL P ops ls);refine wp_region_draw fun t=> ?_;have b:=Zm f hd i t;have v:SR P E.G w0 M0 n (if(JL P ops ls).isEmpty then st else kill (JL P ops ls) st) a {w with drawn:=w.drawn+1} z':=s.grow ⟨rfl,rfl,rfl,Nat.le_refl _,fun _ _=>rfl⟩;exact Ht hE f v b fun u w' d e=>⟨.normal,st',d,rfl,l,e⟩
theorem Age{w w1:World}{r:Nat}{o:Obj}(c:w1=w\/w1=w.drew):w.grownBy (Go.ChangeMaps.setBlock w1 r o) (some r):=by
 have f:w1.os=w.os/\w1.tape=w.tape/\w1.output=w.output/\w1.heap=w.heap:=by rcases c with rfl|rfl<;>exact⟨rfl,rfl,rfl,rfl⟩
 obtain⟨i,h,g,b⟩:=f;refine⟨i,h,g,by simp[Go.ChangeMaps.setBlock,b],fun k _ d=> ?_⟩;simp only[Go.ChangeMaps.setBlock,b];rw[Array.getElem?_setIfInBounds];rw[if_neg (fun e=>d (by rw[e]))]
theorem Agd{w w1:World}{r:Nat}{o o':Obj}(b:w1=w\/w1=w.drew)(c:w.heap[r]? =some o'):(Go.ChangeMaps.setBlock w1 r o).heap[r]? =some o:=by
 have d:w1.heap=w.heap:=by rcases b with rfl|rfl<;>rfl
 simp only[Go.ChangeMaps.setBlock,d];rw[Array.getElem?_setIfInBounds];simp[C2 c]
theorem Z9{b rem:List MapEntry}{h:Nat}(hE:cH b h){f:MapEntry->Bool}(j:rem.Perm (b.filter f)){i:Nat}{e:MapEntry}(hi:rem[i]? =some e):rem.eraseIdx i=rem.filter fun x=>x.born !=e.born:=by
 have c:(rem.map (·.born)).Nodup:=((j.map (·.born)).nodup_iff).2 (List.Nodup.sublist (List.Sublist.map _ List.filter_sublist) hE.2.2);clear j
 induction rem generalizing i with
 |nil=>simp at hi
 |cons x rem ih=>
  simp only[List.map_cons,List.nodup_cons]at c
  cases i with
  |zero=>
   simp only[List.getElem?_cons_zero,Ac]at hi;subst hi;simp only[List.eraseIdx_cons_zero,List.filter_cons,bne_self_eq_false,Ah,if_false];symm;rw[List.filter_eq_self];intro y k;simp only[bne_iff_ne,ne_eq];intro g;exact c.1 (List.mem_map.2 ⟨y,k,g⟩)
  |succ i=>
   simp only[List.getElem?_cons_succ]at hi
   have d:(x.born !=e.born)=true:=by
    simp only[bne_iff_ne,ne_eq];intro g;exact c.1 (List.mem_map.2 ⟨e,List.mem_of_getElem? hi,g.symm⟩)
   simp only[List.eraseIdx_cons_succ,List.filter_cons,d,if_true];rw[ih hi c.2]
theorem RelL.eraseIdx{w:World}{M:MM}:∀{cs:List CV} {vs:List Value} (i:Nat),RelL w M cs vs->RelL w M (cs.eraseIdx i) (vs.eraseIdx i)
 | [],_,_,h=>by unfold RelL at h;subst h;exact RelL.nil
 |_::_,_,0,h=>by
  unfold RelL at h;obtain⟨v,b,rfl,_,c⟩:=h;exact c
 |_::_,_,i+1,h=>by
  unfold RelL at h;obtain⟨v,b,rfl,d,c⟩:=h;exact RelL.cons d (RelL.eraseIdx i c)
theorem V8(hE:aV P E){id:Nat}{ops:Array Oper}{it d ok:Nat}(hc:M8 n ops=some (it,d,ok)){Q:Ex->St->Prop}{st:St}{a:Act}{w:World}{z:Cz}(h:SR P E.G w0 M0 n st a w z)
  (hp:br E (.mnext it d ok) Q st):(Code.region id ops false).wp P (Gr P E w0 M0 n Q) a w:=by
 obtain⟨x,y,rfl,O,hx2,hx3,hy1,hy2,hy3,hd,hok,hne⟩:=Aed hc;obtain⟨J,ks,vs,cur,hit,hob,Y,hq1⟩:=hp;refine wp_region ?_;show wpOps P #[x,y] _ [0,1] a w
 have g:∀{I:St} {a1:Act} {w1:World} {z1:Cz} {b:Bool} {l:List CV} {F:St},SR P E.G w0 M0 n I a1 w1 z1->I.fr d=.c (.tup (.bool b::l))->I.set (some ok) (.c (.bool b))=F->Q .normal F->wpOps P #[x,y] (Gr P E w0 M0 n Q) [1] a1 w1:=by
  intro I a1 w1 z1 b l F h1 hf h2 hQ
  have hc2:CS P n #[x,y] y=some ⟨some ok,.ext (.t d) 0,none⟩:=by
   have e1:BU P y=some (.ext (.t d) 0):=by
    unfold BU;rw[hy1];rfl
   simp only[CS,e1,Option.map_some,My,hy2,hy3,Option.bind_some];simp[H5,hok]
  refine LX hE (D:=none) h1 (i:=1) (o:=y) rfl hc2 (st':=F) ?_ fun a' w' z' hS=>⟨.normal,F,z',rfl,hQ,hS⟩;have hv:so (E.at none).G I.fr (.t d)=.c (.tup (.bool b::l)):=hf;simp only[Ar,A9,aa.cls,An,hv];subst h2;rfl
 have q:∀{v:Value} {w1:World},(execOp a.eval x).run P w=.ok (.value v) w1->wpOps P #[x,y] (Gr P E w0 M0 n Q) [1] (a.put (some d) v) w1->wpOps P #[x,y] (Gr P E w0 M0 n Q) [0,1] a w:=by
  intro v w1 u hK;have h0:(#[x,y]:Array Oper)[0]? =some x:=rfl
  conv=>unfold wpOps
  simp only[h0];rw[if_pos (by simp[Region.wanted,hx3])];refine .inl ?_;unfold Oper.wp;rw[u];show wpOps P #[x,y] _ [1] (a.put x.dst v) w1;rw[hx2];exact hK
 have hr:=h.fr it;rw[hit]at hr;obtain⟨L,e1⟩:=hr;have ho:=h.ob J;rw[hob]at ho;obtain⟨r,mo,f,seen,e2,T,hm⟩:=ho
 have U:a.eval (.tmp it)=.pointer (some ⟨r,0,none⟩):=by
  show a.tmps.getD it undef=_;rw[e1,e2]
 rcases hm with⟨rfl,rfl,rfl,_⟩|⟨m,M,rem,rfl,e4,e5,e6,V,e8,e9,_⟩
 ·refine q (v:=.tuple #[.bool false]) (w1:=w) ?_ ?_
  ·simp only[execOp,O,U];simp[Instr.next,getObj,Sem.run,T,Result.andThen]
  ·refine g (b:=false) (l:= []) (h.put (fun i hi=>by cases hi;exact hd) (s:=.c (.tup [.bool false])) ?_) ?_ rfl (Y rfl)
   ·show RelC _ _ (.tup _) _;unfold RelC;exact⟨[.bool false],rfl,RelL.cons E5 RelL.nil⟩
   ·show ac st.fr d _ d=_;rw[AR]
 ·rcases run_next_at (P:=P) w x.type r m f f seen ⟨M⟩ f T e5 (fun y hy=>e6.2.1 y hy) (Nat.le_refl _)with⟨h0,u⟩|⟨e,he,w1,X,u⟩
  ·have hk0:ks= []:=by
    have:(M.filter fun e=> !seen.contains e.born)= []:=by
     have h0':=h0;unfold leftOf at h0';simpa using h0'
    rw[this]at V;have hr0:=V.length_eq;have:rem= []:=List.eq_nil_of_length_eq_zero (by simpa using hr0);subst this;exact List.eq_nil_of_length_eq_zero (by have:=e8.length;simpa using this.symm)
   refine q (v:=.tuple #[.bool false]) (w1:=w) (by simp only[execOp,O,U];simp[u]) ?_;refine g (b:=false) (l:= []) (h.put (fun i hi=>by cases hi;exact hd) (s:=.c (.tup [.bool false])) ?_) ?_ rfl (Y hk0)
   ·show RelC _ _ (.tup _) _;unfold RelC;exact⟨[.bool false],rfl,RelL.cons E5 RelL.nil⟩
   ·show ac st.fr d _ d=_;rw[AR]
  ·have N:e∈rem:=by
    refine V.mem_iff.2 ?_;unfold leftOf at he;simpa using he
   have Z:e∈M:=by
    have:=V.mem_iff.1 N;exact(List.mem_filter.1 this).1
   obtain⟨i,hi⟩:=List.getElem?_of_mem N;have hlk:=e8.length;have hlv:=e9.length;have hil:i<rem.length:=(Af.1 hi).1;simp only[List.length_map]at hlk hlv;obtain⟨k,hk⟩:∃k,ks[i]? =some k:=⟨ks[i],Aj (by omega)⟩;obtain⟨v,hv⟩:∃v,vs[i]? =some v:=⟨vs[i],Aj (by omega)⟩;obtain⟨u1,g1,g2⟩:=e8.get hk;obtain⟨u2,g3,g4⟩:=e9.get hv;rw[List.getElem?_map,hi]at g1 g3;cases g1;cases g3
   have hg:w.grownBy (Go.ChangeMaps.setBlock w1 r (.mapIter (some m) f (seen.push e.born) f)) (blk (z.σ J)):=by
    rw[e2];exact Age X
   have hS:=SR.turn h (id:=J) L (o':=.miter (ks.eraseIdx i) (vs.eraseIdx i) (some (k,v))) (by simp) hg (β':=z.β J) (fun _ _ T=>T) (fun T=>by cases T) fun j hz=>by
    refine⟨r,some m,f,seen.push e.born,e2,Agd X T,.inr ⟨m,M,rem.eraseIdx i,rfl,fun hM=>e4 (j.less m (C2 e5) hM),(j.heap m (C2 e5) e4).trans e5,e6, ?_, ?_, ?_, ?_⟩⟩
    ·rw[Z9 e6 V hi];have p2:=V.filter fun x=>x.born !=e.born;refine p2.trans ?_;rw[List.filter_filter];refine List.Perm.of_eq (List.filter_congr fun x _=> ?_);simp only[Array.contains_push,Bool.not_or,bne];rw[Bool.and_comm]
    ·rw[Go.ChangeMaps.map_eraseIdx];exact RelL.keep j _ _ (e8.eraseIdx i)
    ·rw[Go.ChangeMaps.map_eraseIdx];exact RelL.keep j _ _ (e9.eraseIdx i)
    ·intro p hp;cases hp;exact⟨seen,e,rfl,Z,RelC.keep j _ _ g2,RelC.keep j _ _ g4⟩
   refine q (v:=.tuple #[.bool true,e.key,e.val]) (w1:=Go.ChangeMaps.setBlock w1 r (.mapIter (some m) f (seen.push e.born) f)) (by simp only[execOp,O,U];simp[u]) ?_;refine g (b:=true) (l:= [k,v]) (hS.put (d:=some d) (fun i hi=>by cases hi;exact hd) (s:=.c (.tup [.bool true,k,v])) ?_) ?_ ?_ (hq1 i k v hk hv)
   ·have j:=SR.turnK (M0:=M0) (z:=z) (st:=st) L (o':=.miter (ks.eraseIdx i) (vs.eraseIdx i) (some (k,v))) (by simp) hg (β':=z.β J);show RelC _ _ (.tup _) _;unfold RelC;exact⟨[.bool true,e.key,e.val],rfl,RelL.cons E5 (RelL.cons (RelC.keep j _ _ g2) (RelL.cons (RelC.keep j _ _ g4) RelL.nil))⟩
   ·show ac st.fr d _ d=_;rw[AR]
   ·rfl
theorem GK:∀(c:Co) {Q d:Ex->St->Prop} {st:St},(∀e s,Q e s->d e s)->br E c Q st->br E c d st
 | .skip,Q,d,st,h,hp=>h _ _ hp
 | .regE _ _,Q,d,st,h,⟨s,j,g⟩=>⟨s,j,h _ _ g⟩
 | .regW _,Q,d,st,h,⟨W,s,j,g⟩=>⟨W,s,j,h _ _ g⟩
 | .mnext _ _ _,Q,d,st,h,⟨id,ks,vs,cur,j,g,q,h4⟩=>⟨id,ks,vs,cur,j,g,fun o=>h _ _ (q o),fun i k v o r=>h _ _ (h4 i k v o r)⟩
 | .reg _ _ _,Q,d,st,h,hp=>by
  obtain⟨s,j,g⟩:=hp;exact⟨s,j,h _ _ g⟩
 | .seq a b,Q,d,st,h,hp=>by
  refine GK a (fun e s f=> ?_) hp
  cases e with
  |normal=>exact GK b h f
  |exit i=>exact h _ _ f
  |ret=>exact h _ _ f
 | .cond c x y,Q,d,st,h,hp=>by
  obtain⟨b,j,g,q⟩:=hp;exact⟨b,j,fun p=>GK x h (g p),fun p=>GK y h (q p)⟩
 | .block id c,Q,d,st,h,hp=>by
  refine GK c (fun e s f=> ?_) hp
  cases e with
  |normal=>exact h _ _ f
  |exit i=>
   simp only at f⊢;split<;>rename_i hi
   ·rw[if_pos hi]at f;exact h _ _ f
   ·rw[if_neg hi]at f;exact h _ _ f
  |ret=>exact h _ _ f
 | .loop c,Q,d,st,h,hp=>by
  obtain⟨R,j,g⟩:=hp;refine⟨R,j,fun m s f=>GK c (fun e s' l=> ?_) (g m s f)⟩
  cases e with
  |normal=>exact l
  |exit i=>exact h _ _ l
  |ret=>exact h _ _ l
 | .exit i,Q,d,st,h,hp=>h _ _ hp
 | .ret,Q,d,st,h,hp=>h _ _ hp
 | .bad,Q,d,st,h,hp=>hp.elim
theorem Gz(hE:aV P E):∀(c:Code) {g:Co} {Q:Ex->St->Prop} {st:St} {a:Act} {w:World} {z:Cz},BP P n c=some g->SR P E.G w0 M0 n st a w z->br E g Q st->c.wp P (Gr P E w0 M0 n Q) a w
 | .skip,g,Q,st,a,w,z,hc,h,hp=>by
  simp only[BP,Ac]at hc;subst hc;exact wp_skip ⟨.normal,st,z,rfl,hp,h⟩
 | .region id ops draw,g,Q,st,a,w,z,hc,h,hp=>by
  simp only[BP]at hc;split at hc
  ·rename_i p O;cases hc
   cases draw with
   |true=>cases O
   |false=>exact V8 hE O h hp
  ·exact Nc hE hc h hp
 | .seq x y,g,Q,st,a,w,z,hc,h,hp=>by
  simp only[BP,Ab,Aa]at hc;obtain⟨sx,q,U,v,rfl⟩:=hc;refine wp_seq (wp_mono (Gz hE x q h hp) fun e N w' d=> ?_);obtain⟨u,st',z',r,f,j⟩:=d;subst r
  cases u with
  |normal=>exact Gz hE y v j f
  |exit i=>exact⟨.exit i,st',z',rfl,f,j⟩
  |ret=>exact⟨.ret,st',z',rfl,f,j⟩
 | .cond c x y,g,Q,st,a,w,z,hc,h,hp=>by
  simp only[BP,Ab,Aa]at hc;obtain⟨V,F,sx,q,U,v,rfl⟩:=hc;obtain⟨b,h1,h2,h3⟩:=hp;have I:=h.ctx.c F h1;have Z:=DR I;exact wp_cond_split Z (fun L=>Gz hE x q h (h2 L)) (fun L=>Gz hE y v h (h3 L))
 | .block id c,g,Q,st,a,w,z,hc,h,hp=>by
  simp only[BP,Aa]at hc;obtain⟨sx,q,rfl⟩:=hc;refine wp_block (wp_mono (Gz hE c q h hp) fun e N w' d=> ?_);obtain⟨u,st',z',r,f,j⟩:=d;subst r
  cases u with
  |normal=>exact⟨.normal,st',z',rfl,f,j⟩
  |exit i=>
   simp only at f;show(if i=id then _ else _);split at f
   ·rename_i hi;rw[if_pos hi];exact⟨.normal,st',z',rfl,f,j⟩
   ·rename_i hi;rw[if_neg hi];exact⟨.exit i,st',z',rfl,f,j⟩
  |ret=>exact⟨.ret,st',z',rfl,f,j⟩
 | .loop c,g,Q,st,a,w,z,hc,h,hp=>by
  simp only[BP,Aa]at hc;obtain⟨sx,q,rfl⟩:=hc;obtain⟨R,⟨m,Y⟩,I⟩:=hp;refine wp_loop_ghost (fun k a w=>∃s z,R k s/\SR P E.G w0 M0 n s a w z) m ⟨st,z,Y,h⟩ fun k N w' hI=> ?_;obtain⟨s,z',hR,j⟩:=hI;refine wp_mono (Gz hE c q j (I k s hR)) fun e a'' T d=> ?_;obtain⟨u,st',o,r,f,t⟩:=d;subst r
  cases u with
  |normal=>
   obtain⟨X,J,M⟩:=f;exact⟨X,J,st',o,M,t⟩
  |exit i=>exact⟨.exit i,st',o,rfl,f,t⟩
  |ret=>exact⟨.ret,st',o,rfl,f,t⟩
 | .exit i,g,Q,st,a,w,z,hc,h,hp=>by
  simp only[BP,Ac]at hc;subst hc;exact wp_exit ⟨.exit i,st,z,rfl,hp,h⟩
 | .label l,g,Q,st,a,w,z,hc,h,hp=>by
  simp only[BP,Ac]at hc;subst hc;exact wp_label ⟨.normal,st,z,rfl,hp,h⟩
 | .scope c,g,Q,st,a,w,z,hc,h,hp=>by
  simp only[BP]at hc;refine wp_scope_straight (wp_mono (Gz hE c hc h hp) fun e N w' d=> ?_);obtain⟨u,st',z',r,f,j⟩:=d;subst r;cases u<;>exact⟨_,st',z',rfl,f,j⟩
 | .ret,g,Q,st,a,w,z,hc,h,hp=>by
  simp only[BP,Ac]at hc;subst hc;exact wp_ret ⟨.ret,st,z,rfl,hp,h⟩
 | .goto _,g,Q,st,a,w,z,hc,h,hp=>by cases hc;exact hp.elim
 | .rangeFunc _ _ _ _,g,Q,st,a,w,z,hc,h,hp=>by cases hc;exact hp.elim
 | .refuse _,g,Q,st,a,w,z,hc,h,hp=>by cases hc;exact hp.elim
end
mutual
def CV.same:CV->CV->Bool
 | .int k n,.int k' n'=>decide (k=k')&&decide (n=n')
 | .bool b,.bool b'=>decide (b=b')
 | .str s,.str s'=>decide (s=s')
 | .agg cs,.agg cs'=>CV.sameL cs cs'
 | .sl nl es,.sl nl' es'=>decide (nl=nl')&&CV.sameL es es'
 | .map nl ks vs,.map nl' ks' vs'=>decide (nl=nl')&&CV.sameL ks ks'&&CV.sameL vs vs'
 | .rp cs,.rp cs'=>CV.sameL cs cs'
 | .wp cs,.wp cs'=>CV.sameL cs cs'
 | .fn f cs,.fn f' cs'=>decide (f=f')&&CV.sameL cs cs'
 | .tup cs,.tup cs'=>CV.sameL cs cs'
 | .nilif,.nilif=>true
 | .nilfn,.nilfn=>true
 | .ifc,.ifc=>true
 | .adr b,.adr b'=>decide (b=b')
 | .nilp,.nilp=>true
 | .nam b,.nam b'=>decide (b=b')
 | .bptr b,.bptr b'=>decide (b=b')
 |_,_=>false
def CV.sameL:List CV->List CV->Bool
 | [],[]=>true
 |a::as,b::bs=>CV.same a b&&CV.sameL as bs
 |_,_=>false
end
mutual
theorem CV.same_iff:∀(a b:CV),CV.same a b=true<->a=b
 | .int k n,b=>by cases b<;>simp[CV.same]
 | .bool x,b=>by cases b<;>simp[CV.same]
 | .str s,b=>by cases b<;>simp[CV.same]
 | .agg cs,b=>by cases b<;>simp[CV.same,CV.sameL_iff cs]
 | .sl nl es,b=>by cases b<;>simp[CV.same,CV.sameL_iff es]
 | .map nl ks vs,b=>by cases b<;>simp[CV.same,CV.sameL_iff ks,CV.sameL_iff vs,and_assoc]
 | .rp cs,b=>by cases b<;>simp[CV.same,CV.sameL_iff cs]
 | .wp cs,b=>by cases b<;>simp[CV.same,CV.sameL_iff cs]
 | .fn f cs,b=>by cases b<;>simp[CV.same,CV.sameL_iff cs]
 | .tup cs,b=>by cases b<;>simp[CV.same,CV.sameL_iff cs]
 | .nilif,b=>by cases b<;>simp[CV.same]
 | .nilfn,b=>by cases b<;>simp[CV.same]
 | .ifc,b=>by cases b<;>simp[CV.same]
 | .adr x,b=>by cases b<;>simp[CV.same]
 | .nilp,b=>by cases b<;>simp[CV.same]
 | .nam x,b=>by cases b<;>simp[CV.same]
 | .bptr x,b=>by cases b<;>simp[CV.same]
theorem CV.sameL_iff:∀(a b:List CV),CV.sameL a b=true<->a=b
 | [],b=>by cases b<;>simp[CV.sameL]
 |a::as,b=>by cases b<;>simp[CV.sameL,CV.same_iff a,CV.sameL_iff as]
end
instance :DecidableEq CV:=fun a b=>decidable_of_iff _ (CV.same_iff a b)
mutual
def KT.same:KT->KT->Bool
 | .int k,.int k'=>decide (k=k')
 | .str,.str=>true
 | .bool,.bool=>true
 | .struct fs,.struct fs'=>KT.sameL fs fs'
 |_,_=>false
def KT.sameL:List KT->List KT->Bool
 | [],[]=>true
 |a::as,b::bs=>KT.same a b&&KT.sameL as bs
 |_,_=>false
end
mutual
theorem KT.same_iff:∀(a b:KT),KT.same a b=true<->a=b
 | .int k,b=>by cases b<;>simp[KT.same]
 | .str,b=>by cases b<;>simp[KT.same]
 | .bool,b=>by cases b<;>simp[KT.same]
 | .struct fs,b=>by cases b<;>simp[KT.same,KT.sameL_iff fs]
theorem KT.sameL_iff:∀(a b:List KT),KT.sameL a b=true<->a=b
 | [],b=>by cases b<;>simp[KT.sameL]
 |a::as,b=>by cases b<;>simp[KT.sameL,KT.same_iff a,KT.sameL_iff as]
end
instance :DecidableEq KT:=fun a b=>decidable_of_iff _ (KT.same_iff a b)
deriving instance DecidableEq for SO
deriving instance DecidableEq for aa
deriving instance DecidableEq for SL
deriving instance DecidableEq for Co
inductive AW where
 |tmp (t:Nat)
 |cell (t:Nat) (sz:Option Nat)
def Fu(P:Program):ResultVar->Option AW
 | .tmp t=>some (.tmp t)
 | .cell a t=>(DG P t).map (.cell a)
def EU(st:St):AW->Option CV
 | .tmp t=>Cy st.ob (st.fr t)
 | .cell a sz=>(AO st.ob sz (deref st.ob (st.fr a))).bind (Cy st.ob)
def Fk:List CV->CV
 | [c]=>c
 |l=>.tup l
def DU(st:St)(rs:List AW):Option CV:=(Aq (EU st) rs).map Fk
structure GW where
 n:Nat
 code:Co
 res:List AW
def Dc(P:Program)(f:FuncId):Option GW:=
 if hasBody P f then(P.funcs[f]?).bind fun fn=>fn.body.bind fun b=>if Nat.ble fn.ntmps As then(BP P fn.ntmps b).bind fun c=>(Aq (Fu P) fn.results.toList).map fun rs=>⟨fn.ntmps,c,rs⟩else none else none
def Eh(l:List CV):St:={fr:=fun i=>match l[i]? with|some c=>.c c|none=>.undef,ob:=fun _=>.none}
def ay(rs:List AW)(r:CV)(e:Ex)(st:St):Prop:=
 match e with
 | .exit _=>False
 |_=>DU st rs=some r
section
variable {P:Program} {E:ah} {w0:WL} {M0:MM} {n:Nat} {st:St} {a:Act} {w:World} {z:Cz}
theorem Tn{G:Nat->List CV}(h:SR P G w0 M0 n st a w z){b:Nat}{t:TypeId}{sz:Option Nat}(k:DG P t=some sz){sv:SV}(i:AO st.ob sz (deref st.ob (st.fr b))=some sv):
  ∃v,((asAddr (a.tmps.getD b undef)>>=fun d=>loadVar t d):Sem Value).run P w=.ok v w/\Aw w (Ao M0 z st.ob) z st.ob sv v:=by
 obtain⟨v,j,m⟩:=X8 (x:=.tmp b) (sx:=.t b) h.ctx (fun _=>.inr rfl) k rfl i
 have f:∃d,a.tmps.getD b undef=.pointer (some d):=by
  have c:=h.ctx.deref (rd:=st.ob) (fun _=>.inr rfl) (h.fr b);generalize deref st.ob (st.fr b)=q at c i;generalize a.tmps.getD b undef=u at c;cases q<;>(try simp only[AO,reduceCtorEq]at i;done)
  ·rename_i o;cases o<;>(try simp only[AO,reduceCtorEq]at i;done)
   ·unfold Aw RelC at c;obtain⟨d,_,e,_⟩:=c;exact⟨d,e⟩
   ·unfold Aw RelC at c;obtain⟨g,_,_,e,_⟩:=c;exact⟨_,e⟩
  ·obtain⟨_,g,_,e⟩:=c;exact⟨_,e⟩
  ·obtain⟨_,g,_,_,_,e⟩:=c;exact⟨_,e⟩
 obtain⟨d,f⟩:=f;refine⟨v, ?_,m⟩;have l:a.eval (.tmp b)=.pointer (some d):=f;rw[l]at j;simp only[f];exact j
theorem Aen{G:Nat->List CV}(h:SR P G w0 M0 n st a w z){rv:ResultVar}{g:AW}(d:Fu P rv=some g){c:CV}(e:EU st g=some c):
  ∃v,(match rv with| .tmp t=>pure (a.tmps.getD t undef)| .cell b t=>(asAddr (a.tmps.getD b undef)>>=fun m=>loadVar t m):Sem Value).run P w=.ok v w/\RelC w (bJ w0 M0 z) c v:=by
 cases rv with
 |tmp t=>
  simp only[Fu,Ac]at d;subst d;exact⟨_,rfl,OA h (fun _=>.inr rfl) (h.fr t) e⟩
 |cell b t=>
  simp only[Fu,Aa]at d;obtain⟨sz,i,rfl⟩:=d;simp only[EU,Ab]at e;obtain⟨sv,j,f⟩:=e;obtain⟨v,l,k⟩:=Tn h i j;exact⟨v,l,OA h (fun _=>.inr rfl) k f⟩
theorem SX{G:Nat->List CV}(h:SR P G w0 M0 n st a w z){f:ResultVar->Sem Value}(j:∀rv,f rv=(match rv with| .tmp t=>pure (a.tmps.getD t undef)| .cell b t=>(asAddr (a.tmps.getD b undef)>>=fun r=>loadVar t r))):∀{e:List ResultVar} {d:List AW} {cs:List CV},Aq (Fu P) e=some d->Aq (EU st) d=some cs->
  ∃vs,(e.mapM f).run P w=.ok vs w/\RelL w (bJ w0 M0 z) cs vs
 | [],d,cs,h1,h2=>by
  simp only[Aq,Ac]at h1;subst h1;simp only[Aq,Ac]at h2;subst h2;exact⟨[],by simp,RelL.nil⟩
 |rv::e,d,cs,h1,h2=>by
  simp only[Aq,Ab,Aa]at h1;obtain⟨s,l,u,g,rfl⟩:=h1;simp only[Aq,Ab,Aa]at h2;obtain⟨c,m,q,i,rfl⟩:=h2;obtain⟨v,k,p⟩:=Aen h l m;obtain⟨vs,g3,o⟩:=SX h j g i;rw[<-j]at k;exact⟨v::vs,by rw[List.mapM_cons];simp[k,g3],RelL.cons p o⟩
theorem W6{G:Nat->List CV}(h:SR P G w0 M0 n st a w z){fn:Func}{rs:List AW}(p:Aq (Fu P) fn.results.toList=some rs){c:CV}(k:DU st rs=some c):
  ∃v,(results fn a.tmps).run P w=.ok v w/\RelC w (bJ w0 M0 z) c v:=by
 simp only[DU,Aa]at k;obtain⟨cs,i,rfl⟩:=k;obtain⟨vs,l,d⟩:=SX h (f:=fun rv=>match rv with| .tmp t=>pure (a.tmps.getD t undef)| .cell b t=>do loadVar t (<-asAddr (a.tmps.getD b undef))) (fun rv=>by cases rv<;>rfl) p i
 have o:(results fn a.tmps).run P w=.ok (if h:(⟨vs⟩:Array Value).size=1 then(⟨vs⟩:Array Value)[0]else .tuple ⟨vs⟩) w:=by
  have e:results fn a.tmps=(fn.results.mapM (fun rv=>match rv with| .tmp t=>pure (a.tmps.getD t undef)| .cell b t=>do loadVar t (<-asAddr (a.tmps.getD b undef)))>>=fun(vs:Array Value)=>pure (if h:vs.size=1 then vs[0]else .tuple vs)):=rfl;rw[e,Array.mapM_eq_mapM_toList];generalize (fun(rv:ResultVar)=>(match rv with| .tmp t=>pure (a.tmps.getD t undef)| .cell b t=>do loadVar t (<-asAddr (a.tmps.getD b undef)):Sem Value))=f at l;simp[l]
 refine⟨_,o, ?_⟩;have g:=d.length
 match cs,vs,d,g with
 | [],[],d,_=>
  simp only[Fk];unfold RelC;exact⟨[],rfl,d⟩
 | [c],[v],d,_=>
  simp only[Fk];unfold RelL at d;obtain⟨j,m,e,q,_⟩:=d;cases e;exact q
 |c::c'::cs,v::j::vs,d,_=>
  simp only[Fk];unfold RelC;exact⟨v::j::vs,by simp,d⟩
theorem UR{P:Program}{G:Nat->List CV}{w:World}{M:MM}{n:Nat}{l:List CV}{vs:List Value}(p:∀g,M g->g<w.heap.size)(q:GOk G w M)(s:l.length≤n)(h:RelL w M l vs)(m:n≤As):
  SR P G (JP w) M n (Eh l) {tmps:=(⟨vs⟩:Array Value)++Array.replicate (n-(⟨vs⟩:Array Value).size) undef,defers:= []} w (z0 undef M.al):=by
 have e:=h.length;refine⟨?_,rfl,PD.2 (Below.refl _ _),p,⟨fun _ g b=>b.elim,fun N _ b=>(by cases b),fun _ _=>rfl,m⟩,q,fun i=> ?_,fun id=>trivial,fun id g b=>absurd rfl b,fun i j g _ b=>absurd rfl b⟩
 ·simp;omega
 ·simp only[Eh]
  cases hi:l[i]? with
  |none=>trivial
  |some c=>
   obtain⟨v,f,r⟩:=h.get hi
   have o:Bg w M w (Ao M (z0 undef M.al) fun _=>Ob.none):=⟨Nat.le_refl _,fun _ _ _=>rfl,fun g _ d=>by
    rcases d with d|⟨id,b,_⟩
    ·exact d
    ·exact absurd rfl b,rfl⟩
   have k:((⟨vs⟩:Array Value)++Array.replicate (n-(⟨vs⟩:Array Value).size) undef).getD i undef=v:=by
    have:i<vs.length:=(Af.1 f).1;rw[Array.getD_eq_getD_getElem?,Array.getElem?_append_left (by simpa using this)];simp[f]
   show RelC w _ c _;simp only[k];exact RelC.keep o c v r
theorem Vp{w1:World}{G:Nat->List CV}{M:MM}(h:SR P G (JP w1) M n st a w z){c:CV}{v:Value}(b:RelC w (bJ (JP w1) M z) c v):RelC w M c v:=
 have d:Bg w (bJ (JP w1) M z) w M:=⟨Nat.le_refl _,fun _ _ _=>rfl,fun _ _ f=>⟨f,fun _ e=>e⟩,funext fun N=>(h.nam.names N trivial).symm⟩
 RelC.keep d _ _ b
theorem Pg(hE:aV P E){f:FuncId}{m:GW}(o:Dc P f=some m){l:List CV}{r:CV}(F:l.length≤m.n)(h:br E m.code (ay m.res r) (Eh l)):hasBody P f=true/\CallsTo P E.G f l (.val r):=by
 unfold Dc at o;split at o<;>(try cases o;done);rename_i L;refine⟨L, ?_⟩;simp only[Ab,Aa,Ae]at o;obtain⟨fn,I,b,k,y,c,j,rs,q,rfl⟩:=o;intro w M vs N T O;refine calls_of_wp I k (wp_mono (Gz hE b j (UR N T F O (Ai y)) h) fun e t w' g=> ?_);obtain⟨X,st',z',J,s,p⟩:=g;subst J
 have d:DU st' rs=some r->t.defers= []/\∃v,(results fn t.tmps).run P w'=.ok v w'/\∃u,Ending.returned v=.returned u/\Below w.heap.size w w'/\Lc P w' M w.heap.size u (.val r):=fun x=>by
  obtain⟨v,V,U⟩:=W6 p q x;exact⟨p.defers,v,V,v,rfl,PD.1 p.below,Vp p U⟩
 cases X with
 |normal=>exact d s
 |exit i=>exact s.elim
 |ret=>exact d s
theorem aV.add(hE:aV P E){f:FuncId}{m:GW}(c:Dc P f=some m){F:List CV->Option CV}(h:∀l r,F l=some r->l.length≤m.n/\br E m.code (ay m.res r) (Eh l)):
  aV P {E with fn:=fun g l=>if g=f then(F l).map .val else E.fn g l}:=by
 refine⟨?_,hE.2,hE.3,hE.4⟩;intro g l r b;simp only at b;split at b
 ·rename_i e;subst e;simp only[Aa]at b;obtain⟨r,b,rfl⟩:=b;obtain⟨i,d⟩:=h l r b;exact Pg hE c i d
 ·exact hE.1 g l r b
end
section
variable {E:ah} {Q:Ex->St->Prop} {st:St}
theorem U0{rs:List AW}{r:CV}(h:DU st rs=some r):ay rs r .ret st:=h
variable {D:Option (List Nat)} {K:St->Prop} {ls:List SL}
end
def Rg(p:Prop):Prop:=p
theorem Rg.out{p:Prop}(h:Rg p):p:=h
def ZM(rs:List AW)(o:Ob)(e:Ex)(st:St):Prop:=
 match e with
 | .exit _=>False
 |_=>∃t,rs= [.tmp t]/\((∃id,(st.fr t=.osl id\/st.fr t=.omap id)/\st.ob id=o/\Ey o=true)\/(st.fr t=.c (.sl (some true) [])/\∃e size,o=.arr e size []))
section
variable {P:Program} {E:ah} {w0:WL} {M0:MM} {n:Nat} {st:St} {a:Act} {w:World} {z:Cz}
theorem aV.nil(G:Nat->List CV):aV P {G:=G,fn:=fun _ _=>none}:=⟨fun _ _ _ h=>(by cases h),fun _ h=>(by cases h),(fun _ _ h=>(by cases h)),fun _ _ _ _ _ _ h=>(by cases h)⟩
end
end WB
namespace WB
open Go Go.RowKit Go.ChangeShapes Go.WideShapes Go.Deep
section
variable {H:Type} {enc:TypeId×Value->H} {P:Program} {w:World} {base:Nat} {spare:Nat->Bool} {held:Bool}
theorem Up{α:Type}{p:Nat->α->Prop}:∀(n:Nat),(∀i,i<n->∃x,p i x)->∃l:List α,l.length=n/\∀i x,l[i]? =some x->p i x
 |0,_=>⟨[],rfl,fun i x h=>by simp at h⟩
 |n+1,h=>by
  obtain⟨l,e,d⟩:=Up n (fun i hi=>h i (by omega));obtain⟨x,c⟩:=h n (by omega);refine⟨l++ [x],by simp[e],fun i y b=> ?_⟩;by_cases hi:i<n
  ·rw[List.getElem?_append_left (by omega)]at b;exact d i y b
  ·rw[List.getElem?_append_right (by omega)]at b
   have:i-l.length=0:=by
    rcases Nat.eq_zero_or_pos (i-l.length)with h0|h0
    ·exact h0
    ·rw[List.getElem?_eq_none (by simp;omega)]at b;cases b
   rw[this]at b;simp only[List.getElem?_cons_zero,Ac]at b;subst b;have:i=n:=by omega
   subst this;exact c
theorem Afa{f:Func}{s:ChangeSpec}{apart fresh handsOn again:Bool}{W k:World}{args:Array Value}{v:Value}{o gs:List (DataW H)}{before pa pv:List MemPlace}
  (u:DataW.Whole enc P f.params.toList s.vars apart W args.toList o gs before)
  (h:∀(b:Nat) (sp:Nat->Bool) (hd:Bool),DataW.TrodAll enc P k b sp hd f.resultTypes.toList (v.resultList f.resultTypes.size) (s.fn H (o++gs)).results [])
  (e:∀sp:Nat->Bool,(∀p∈before,sp p.block=true)->DataW.TrodAll enc P k 0 sp true f.params.toList args.toList (s.fn H (o++gs)).args pa)
  (c:∀sp:Nat->Bool,(∀p∈before,sp p.block=true)->DataW.TrodVars enc P k sp s.vars (s.fn H (o++gs)).vars pv)
  (g:before=pa++pv) (x:Below W.heap.size W k)
  (q:∀(j:Nat) (t:TypeId) (r:Value),f.resultTypes[j]? =some t->(v.resultList f.resultTypes.size)[j]? =some r->Value.okWide P k .any 0 t r):
  s.post enc P f apart fresh handsOn again W args v k:=by
 have l:∀p∈before,p.block<W.heap.size:=fun p d=>u.lt p d;have i:∀p∈before,(fun b=>decide (b<W.heap.size)) p.block=true:=fun p d=>by simpa using l p d
 refine⟨o,gs,before,[],pa,pv,u,h _ _ _,e _ i,c _ i,World.keptBut_mono (fun p d=>⟨d, ?_⟩) (x.frame (· ∈before)),fun _=> ?_⟩
 ·rw[g,List.mem_append]at d;exact Or.inr d
 ·obtain⟨_,_,_,_,_,y,F⟩:=u;refine⟨q,_,_,([]++pa)++pv,⟨[]++pa,pv,trodAll_append (e _ (fun _ _=>rfl)) (h _ _ _),c _ (fun _ _=>rfl),rfl, ?_, ?_⟩, ?_⟩
  ·intro b off d;have m:MemPlace.cell b off∈before:=by rw[g];simpa using d
   rw[x.frozen (l _ m)];exact y b off m
  ·intro I;have:=F I;rw[g]at this;simpa using this
  ·intro p d _;rw[g];simpa using d
end
theorem X5{H:Type}{enc:TypeId×Value->H}{P:Program}(g:laidOutB P=true){W j:World}(i:Below W.heap.size W j){sp:Nat->Bool}:
  ∀{c:List TypeId} {vs:List Value} {d:List (DataW H)} {b:List MemPlace},(c.all fun t=>P.readableRec t&&decide (t<P.types.size))=true->(∀p∈b,p.block<W.heap.size)->(∀p∈b,sp p.block=true)->
  DataW.TrodAll enc P W 0 (fun _=>true) true c vs d b->DataW.TrodAll enc P j 0 sp true c vs d b
 | [],vs,d,b,_,_,_,h=>by
  obtain⟨rfl,rfl,rfl⟩:=trodAll_nil h;exact trodAll_mk0
 |t::c,vs,d,b,hr,hlt,hsp,h=>by
  obtain⟨o,k,r,m,q,q0,rfl,rfl,rfl,l,r0⟩:=trodAll_cons h;simp only[List.all_cons,Ag,decide_eq_true_eq]at hr;refine trodAll_cons_mk ?_ (X5 g i hr.2 (fun p f=>hlt p (by simp[f])) (fun p f=>hsp p (by simp[f])) r0);exact WideElems.Trod_stays g hr.1.1 hr.1.2 l (fun x e=>i.same (hlt x (by simp[e]))) (fun x e=>hsp x (by simp[e]))
end WB
namespace WB
open Go Go.RowKit
inductive Ty where
 |int (k:IntKind)
 |bool
 |str
 |err
 |clo (f:Nat) (r:Ty)
 |falt (f:Nat) (r l:Ty)
 |nsl
 |nmap
 |nfn
 |nam (N:Nat)
 |bptr (N:Nat)
 |nilp
 |pt (r:Ty)
 |nw (e size:Nat) (t:Ty)
 |agg (r:Ty)
 |tup (r:Ty)
 |sl (e:Ty)
 |map (k v:Ty)
 |nil
 |one (t:Ty)
 |cons (t r:Ty)
 deriving DecidableEq
@[reducible] def D:Ty->Type
 | .int _=>Int
 | .bool=>Bool
 | .str=>List UInt8
 | .err=>Bool
 | .clo _ r=>D r
 | .falt _ r l=>D r⊕D l
 | .nsl=>Unit
 | .nmap=>Unit
 | .nfn=>Unit
 | .nam _=>Unit
 | .bptr _=>Unit
 | .nilp=>Unit
 | .pt r=>D r
 | .nw _ _ t=>List (D t)
 | .agg r=>D r
 | .tup r=>D r
 | .sl e=>List (D e)
 | .map k v=>List (D k×D v)
 | .nil=>Unit
 | .one t=>D t
 | .cons t r=>D t×D r
def CanAll{α β:Type}(R:α->β->Prop):List α->List β->Prop
 | [],bs=>bs= []
 |a::as,bs=>∃b c,bs=b::c/\R a b/\CanAll R as c
def Can:(t:Ty)->D t->List CV->Prop
 | .int k,n,cs=>cs= [.int k n]
 | .bool,b,cs=>cs= [.bool b]
 | .str,s,cs=>cs= [.str s]
 | .err,b,cs=>cs= [if b then .nilif else .ifc]
 | .clo f r,x,cs=>∃l,cs= [.fn f l]/\Can r x l
 | .falt f r l,x,cs=>match x with
  | .inl y=>∃cap,cs= [.fn f cap]/\Can r y cap
  | .inr z=>(∀cap,cs≠ [.fn f cap])/\Can l z cs
 | .nsl,_,cs=>cs= [.sl (some true) []]
 | .nmap,_,cs=>cs= [.map (some true) [] []]
 | .nfn,_,cs=>cs= [.nilfn]
 | .nam N,_,cs=>cs= [.nam N]
 | .bptr N,_,cs=>cs= [.bptr N]\/cs= [.nam N]\/cs= [.nilp]
 | .nilp,_,cs=>cs= [.nilp]
 | .pt r,x,cs=>∃l,cs= [.wp l]/\Can r x l
 | .nw _ _ _,_,_=>False
 | .agg r,x,cs=>∃l,cs= [.agg l]/\Can r x l
 | .tup r,x,cs=>∃l,cs= [.tup l]/\Can r x l
 | .sl e,xs,cs=>∃d es,cs= [.sl d es]/\CanAll (fun x c=>Can e x [c]) xs es
 | .map k v,m,cs=>∃d ks vs,cs= [.map d ks vs]/\CanAll (fun x c=>Can k x.1 [c]) m ks/\CanAll (fun x c=>Can v x.2 [c]) m vs
 | .nil,_,cs=>cs= []
 | .one t,x,cs=>∃c,cs= [c]/\Can t x [c]
 | .cons t r,x,cs=>∃c l,cs=c::l/\Can t x.1 [c]/\Can r x.2 l
def encL:(t:Ty)->D t->List CV
 | .int k,n=> [.int k n]
 | .bool,b=> [.bool b]
 | .str,s=> [.str s]
 | .err,b=> [if b then .nilif else .ifc]
 | .clo f r,x=> [.fn f (encL r x)]
 | .falt f r l,x=>match x with
  | .inl y=> [.fn f (encL r y)]
  | .inr z=>encL l z
 | .nsl,_=> [.sl (some true) []]
 | .nmap,_=> [.map (some true) [] []]
 | .nfn,_=> [.nilfn]
 | .nam N,_=> [.nam N]
 | .bptr N,_=> [.bptr N]
 | .nilp,_=> [.nilp]
 | .pt r,x=> [.wp (encL r x)]
 | .nw _ _ _,_=> []
 | .agg r,x=> [.agg (encL r x)]
 | .tup r,x=> [.tup (encL r x)]
 | .sl e,xs=> [.sl none (xs.map fun x=>(encL e x).headD .nilif)]
 | .map k v,m=> [.map none (m.map fun x=>(encL k x.1).headD .nilif) (m.map fun x=>(encL v x.2).headD .nilif)]
 | .nil,_=> []
 | .one t,x=> [(encL t x).headD .nilif]
 | .cons t r,x=>(encL t x.1).headD .nilif::encL r x.2
def enc(t:Ty)(x:D t):CV:=(encL t x).headD .nilif
def Ty.isFn:Ty->Bool
 | .clo _ _=>true
 | .nfn=>true
 | .falt _ _ l=>l.isFn
 |_=>false
theorem Mh:∀{t:Ty} {x:D t} {cs:List CV},t.isFn=true->Can t x cs->∃c,cs= [c]/\c.cells= [c]/\∀l,c≠ .agg l/\c≠ .tup l:=by
 intro t
 induction t with
 |clo f r _=>intro x cs _ h;unfold Can at h;obtain⟨l,rfl,_⟩:=h;exact⟨_,rfl,rfl,fun l=>⟨(fun e=>by cases e),(fun e=>by cases e)⟩⟩
 |nfn=>intro x cs _ h;unfold Can at h;subst h;exact⟨_,rfl,rfl,fun l=>⟨(fun e=>by cases e),(fun e=>by cases e)⟩⟩
 |falt f r l _ ihl=>
  intro x cs h b
  cases x with
  |inl y=>unfold Can at b;obtain⟨cap,rfl,_⟩:=b;exact⟨_,rfl,rfl,fun l=>⟨(fun e=>by cases e),(fun e=>by cases e)⟩⟩
  |inr z=>unfold Can at b;exact ihl h b.2
 |_=>intro x cs h;cases h
def Ty.val:Ty->Bool
 | .nil| .one _| .cons _ _| .nw _ _ _=>false
 | .falt _ _ l=>l.isFn
 |_=>true
section
variable {α β:Type} {R S:α->β->Prop}
theorem CanAll.length:∀{c:List α} {bs:List β},CanAll R c bs->bs.length=c.length
 | [],_,h=>by unfold CanAll at h;subst h;rfl
 |_::_,_,h=>by
  obtain⟨b,e,rfl,_,d⟩:=h;simp[CanAll.length d]
theorem CanAll.get:∀{d:List α} {bs:List β} {i:Nat} {a:α},CanAll R d bs->d[i]? =some a->∃b,bs[i]? =some b/\R a b
 | [],_,_,_,_,h=>by simp at h
 |_::_,_,0,_,hc,h=>by
  obtain⟨b,c,rfl,f,_⟩:=hc;simp at h;subst h;exact⟨b,rfl,f⟩
 |_::_,_,i+1,_,hc,h=>by
  obtain⟨b,c,rfl,_,e⟩:=hc;simp only[List.getElem?_cons_succ]at h⊢;exact CanAll.get e h
theorem CanAll.getB:∀{d:List α} {bs:List β} {i:Nat} {b:β},CanAll R d bs->bs[i]? =some b->∃a,d[i]? =some a/\R a b
 | [],_,_,_,hc,h=>by unfold CanAll at hc;subst hc;simp at h
 |_::_,_,0,_,hc,h=>by
  obtain⟨b,c,rfl,f,_⟩:=hc;simp at h;subst h;exact⟨_,rfl,f⟩
 |_::_,_,i+1,_,hc,h=>by
  obtain⟨b,c,rfl,_,e⟩:=hc;simp only[List.getElem?_cons_succ]at h⊢;exact CanAll.getB e h
theorem CanAll.mono:∀{d:List α} {bs:List β},(∀a b,a∈d->R a b->S a b)->CanAll R d bs->CanAll S d bs
 | [],_,_,h=>h
 |_::_,_,f,h=>by
  obtain⟨b,c,rfl,i,g⟩:=h;exact⟨b,c,rfl,f _ _ (by simp) i,CanAll.mono (fun a b e=>f a b (by simp[e])) g⟩
theorem CanAll.append:∀{e d:List α} {bs c:List β},CanAll R e bs->CanAll R d c->CanAll R (e++d) (bs++c)
 | [],_,_,_,h,k=>by unfold CanAll at h;subst h;exact k
 |_::_,_,_,_,h,k=>by
  obtain⟨b,c,rfl,g,f⟩:=h;exact⟨b,_,rfl,g,CanAll.append f k⟩
theorem CanAll.take:∀(n:Nat) {c:List α} {bs:List β},CanAll R c bs->CanAll R (c.take n) (bs.take n)
 |0,_,_,_=>by simp[CanAll]
 |n+1,[],_,h=>by unfold CanAll at h;subst h;simp[CanAll]
 |n+1,_::_,_,h=>by
  obtain⟨b,f,rfl,e,d⟩:=h;exact⟨b,_,rfl,e,CanAll.take n d⟩
theorem CanAll.drop:∀(n:Nat) {c:List α} {bs:List β},CanAll R c bs->CanAll R (c.drop n) (bs.drop n)
 |0,_,_,h=>h
 |n+1,[],_,h=>by unfold CanAll at h;subst h;simp[CanAll]
 |n+1,_::_,_,h=>by
  obtain⟨b,e,rfl,f,d⟩:=h;exact CanAll.drop n d
theorem CanAll.set:∀(n:Nat) {f:List α} {bs:List β} {a:α} {b:β},CanAll R f bs->R a b->CanAll R (f.set n a) (bs.set n b)
 |_,[],_,_,_,h,_=>by unfold CanAll at h;subst h;simp[CanAll]
 |0,_::_,_,_,_,h,k=>by
  obtain⟨b,d,rfl,e,c⟩:=h;exact⟨_,_,rfl,k,c⟩
 |n+1,_::_,_,_,_,h,k=>by
  obtain⟨b,d,rfl,e,c⟩:=h;exact⟨b,_,rfl,e,CanAll.set n c k⟩
theorem CanAll.cons{a:α}{b:β}{c:List α}{bs:List β}(h:R a b)(k:CanAll R c bs):CanAll R (a::c) (b::bs):=⟨b,bs,rfl,h,k⟩
theorem CanAll.nil:CanAll R [] []:=rfl
theorem CanAll.replicate{a:α}{b:β}(h:R a b):∀n,CanAll R (List.replicate n a) (List.replicate n b)
 |0=>rfl
 |n+1=>⟨b,_,rfl,h,CanAll.replicate h n⟩
theorem CanAll.uniq:∀{g d:List α} {bs:List β},(∀a i b,R a b->R i b->a=i)->CanAll R g bs->CanAll R d bs->g=d
 | [],[],_,_,_,_=>rfl
 | [],_::_,_,_,h,k=>by
  obtain⟨b,c,rfl,_⟩:=k;unfold CanAll at h;cases h
 |_::_,[],_,_,h,k=>by
  obtain⟨b,c,rfl,_⟩:=h;unfold CanAll at k;cases k
 |_::_,_::_,_,f,h,k=>by
  obtain⟨b,c,rfl,m,l⟩:=h;obtain⟨p,o,e,j,k2⟩:=k;cases e;rw[f _ _ _ m j,CanAll.uniq f l k2]
end
theorem Can.one:∀{t:Ty} {x:D t} {cs:List CV},t.val=true->Can t x cs->∃c,cs= [c]:=by
 intro t
 induction t with
 |falt f r l _ ihl=>
  intro x cs b h
  cases x with
  |inl y=>unfold Can at h;obtain⟨l,h,_⟩:=h;exact⟨_,h⟩
  |inr z=>
   unfold Can at h;obtain⟨c,e,_⟩:=Mh (show l.isFn=true by simpa[Ty.val]using b) h.2;exact⟨_,e⟩
 |agg=>intro x cs b h;unfold Can at h;obtain⟨l,h,_⟩:=h;exact⟨_,h⟩
 |pt=>intro x cs b h;unfold Can at h;obtain⟨l,h,_⟩:=h;exact⟨_,h⟩
 |bptr N=>intro x cs b h;unfold Can at h;rcases h with h|h|h<;>exact⟨_,h⟩
 |nw=>intro x cs b;cases b
 |clo=>intro x cs b h;unfold Can at h;obtain⟨l,h,_⟩:=h;exact⟨_,h⟩
 |tup=>intro x cs b h;unfold Can at h;obtain⟨l,h,_⟩:=h;exact⟨_,h⟩
 |sl=>intro x cs b h;unfold Can at h;obtain⟨_,_,h,_⟩:=h;exact⟨_,h⟩
 |map=>intro x cs b h;unfold Can at h;obtain⟨_,_,_,h,_⟩:=h;exact⟨_,h⟩
 |nil=>intro x cs b;cases b
 |one=>intro x cs b;cases b
 |cons=>intro x cs b;cases b
 |_=>intro x cs b h;unfold Can at h;exact⟨_,h⟩
theorem Can.uniq:∀(t:Ty) {x y:D t} {cs:List CV},Can t x cs->Can t y cs->x=y
 | .int _,_,_,_,h,k=>by unfold Can at h k;rw[h]at k;simpa using k
 | .bool,_,_,_,h,k=>by unfold Can at h k;rw[h]at k;simpa using k
 | .str,_,_,_,h,k=>by unfold Can at h k;rw[h]at k;simpa using k
 | .err,x,y,_,h,k=>by unfold Can at h k;rw[h]at k;cases x<;>cases y<;>simp_all
 | .clo f r,_,_,_,h,k=>by
  unfold Can at h k;obtain⟨l,rfl,h⟩:=h;obtain⟨l',e,k⟩:=k;cases e;exact Can.uniq r h k
 | .falt f r l,x,y,_,h,k=>by
  cases x with
  |inl a=>
   unfold Can at h;obtain⟨cap,rfl,h⟩:=h
   cases y with
   |inl V=>
    unfold Can at k;obtain⟨g,e,k⟩:=k;cases e;rw[Can.uniq r h k]
   |inr b'=>
    unfold Can at k;exact absurd rfl (k.1 cap)
  |inr b=>
   unfold Can at h
   cases y with
   |inl V=>
    unfold Can at k;obtain⟨g,e,k⟩:=k;exact absurd e (h.1 g)
   |inr b'=>
    unfold Can at k;rw[Can.uniq l h.2 k.2]
 | .nsl,_,_,_,_,_=>rfl
 | .nmap,_,_,_,_,_=>rfl
 | .nfn,_,_,_,_,_=>rfl
 | .nam _,_,_,_,_,_=>rfl
 | .bptr _,_,_,_,_,_=>rfl
 | .nilp,_,_,_,_,_=>rfl
 | .pt r,_,_,_,h,k=>by
  unfold Can at h k;obtain⟨l,rfl,h⟩:=h;obtain⟨l',e,k⟩:=k;cases e;exact Can.uniq r h k
 | .nw _ _ _,_,_,_,h,_=>by unfold Can at h;exact h.elim
 | .agg r,_,_,_,h,k=>by
  unfold Can at h k;obtain⟨l,rfl,h⟩:=h;obtain⟨l',e,k⟩:=k;cases e;exact Can.uniq r h k
 | .tup r,_,_,_,h,k=>by
  unfold Can at h k;obtain⟨l,rfl,h⟩:=h;obtain⟨l',e,k⟩:=k;cases e;exact Can.uniq r h k
 | .sl e,_,_,_,h,k=>by
  unfold Can at h k;obtain⟨Y,es,rfl,h⟩:=h;obtain⟨I,Z,O,k⟩:=k;cases O;exact CanAll.uniq (R:=fun x c=>Can e x [c]) (fun a V b h k=>Can.uniq e h k) h k
 | .map kt vt,x,y,_,h,k=>by
  unfold Can at h k;obtain⟨Y,ks,vs,rfl,N,M⟩:=h;obtain⟨I,J,F,O,L,k2⟩:=k;cases O
  have key:∀{m i:List (D kt×D vt)} {ks vs:List CV},CanAll (fun x c=>Can kt x.1 [c]) m ks->CanAll (fun x c=>Can vt x.2 [c]) m vs->CanAll (fun x c=>Can kt x.1 [c]) i ks->CanAll (fun x c=>Can vt x.2 [c]) i vs->m=i:=by
   intro m
   induction m with
   |nil=>
    intro i ks vs o v j u;have:=j.length;unfold CanAll at o;subst o;exact(List.eq_nil_of_length_eq_zero (by simpa using this.symm)).symm
   |cons p m ih=>
    intro i ks vs o v j u;obtain⟨c,ks,rfl,c1,o⟩:=o;obtain⟨d,vs,rfl,d1,v⟩:=v
    cases i with
    |nil=>unfold CanAll at j;cases j
    |cons p' i=>
     obtain⟨X,J,e,U,j⟩:=j;cases e;obtain⟨d',F,e,T,u⟩:=u;cases e;rw[ih o v j u];have s:=Can.uniq kt c1 U;have q:=Can.uniq vt d1 T;obtain⟨p1,p2⟩:=p;obtain⟨q1,q2⟩:=p';simp only at s q;rw[s,q]
  exact key N M L k2
 | .nil,_,_,_,_,_=>rfl
 | .one t,_,_,_,h,k=>by
  unfold Can at h k;obtain⟨c,rfl,h⟩:=h;obtain⟨X,e,k⟩:=k;cases e;exact Can.uniq t h k
 | .cons t r,(a,b),(V,b'),_,h,k=>by
  unfold Can at h k;obtain⟨c,l,rfl,N,M⟩:=h;obtain⟨X,l',e,L,k2⟩:=k;cases e;have s:=Can.uniq t N L;have q:=Can.uniq r M k2;simp only at s q;rw[s,q]
theorem RelC.plain{w:World}{M:MM}:∀(t:Ty) {x:D t} {cs:List CV} {vs:List Value},Can t x cs->RelL w M cs vs->RelL w M (encL t x) vs:=by
 have hd:∀(t:Ty),(∀{x:D t} {cs:List CV} {vs:List Value},Can t x cs->RelL w M cs vs->RelL w M (encL t x) vs)->∀{x:D t} {c:CV} {v:Value},Can t x [c]->RelC w M c v->RelC w M ((encL t x).headD .nilif) v:=by
  intro t s x c v hc g;have:=s hc (RelL.cons g RelL.nil);have I:=this.length
  match he:encL t x with
  | []=>rw[he]at I;simp at I
  | [d]=>
   rw[he]at this;unfold RelL at this;obtain⟨v',J,e,q,L⟩:=this;cases e;exact q
  |d::d'::ds=>rw[he]at I;simp at I
 have j:∀{c:CV} {vs:List Value},RelL w M [c] vs->∃v,vs= [v]/\RelC w M c v:=by
  intro c vs h;unfold RelL at h;obtain⟨v,J,rfl,q,L⟩:=h;unfold RelL at L;subst L;exact⟨v,rfl,q⟩
 intro t
 induction t with
 |int k=>intro x cs vs h g;unfold Can at h;subst h;exact g
 |bool=>intro x cs vs h g;unfold Can at h;subst h;exact g
 |str=>intro x cs vs h g;unfold Can at h;subst h;exact g
 |err=>intro x cs vs h g;unfold Can at h;subst h;exact g
 |clo f r s=>
  intro x cs vs h g;unfold Can at h;obtain⟨l,rfl,h⟩:=h;obtain⟨v,rfl,o⟩:=j g;refine RelL.cons ?_ RelL.nil;unfold RelC at o⊢;obtain⟨us,e,I⟩:=o;exact⟨us,e,s h I⟩
 |falt f r l s ihl=>
  intro x cs vs h g
  cases x with
  |inl y=>
   unfold Can at h;obtain⟨cap,rfl,h⟩:=h;obtain⟨v,rfl,o⟩:=j g;refine RelL.cons ?_ RelL.nil;unfold RelC at o⊢;obtain⟨us,e,I⟩:=o;exact⟨us,e,s h I⟩
  |inr z=>
   unfold Can at h;exact ihl h.2 g
 |nsl=>intro x cs vs h g;unfold Can at h;subst h;exact g
 |nmap=>intro x cs vs h g;unfold Can at h;subst h;exact g
 |nfn=>intro x cs vs h g;unfold Can at h;subst h;exact g
 |nam N=>intro x cs vs h g;unfold Can at h;subst h;exact g
 |nilp=>intro x cs vs h g;unfold Can at h;subst h;exact g
 |bptr N=>
  intro x cs vs h g;unfold Can at h;unfold encL;rcases h with rfl|rfl|rfl
  ·exact g
  ·obtain⟨v,rfl,o⟩:=j g;refine RelL.cons ?_ RelL.nil;unfold RelC at o⊢;exact .inr o
  ·obtain⟨v,rfl,o⟩:=j g;refine RelL.cons ?_ RelL.nil;unfold RelC at o⊢;exact .inl o
 |nw e size t _=>intro x cs vs h;unfold Can at h;exact h.elim
 |pt r s=>
  intro x cs vs h g;unfold Can at h;obtain⟨l,rfl,h⟩:=h;obtain⟨v,rfl,o⟩:=j g;refine RelL.cons ?_ RelL.nil;unfold RelC at o⊢;obtain⟨Y,ty,us,e,U,T,I⟩:=o;exact⟨Y,ty,us,e,U,T,s h I⟩
 |nil=>intro x cs vs h g;unfold Can at h;subst h;exact g
 |agg r s=>
  intro x cs vs h g;unfold Can at h;obtain⟨l,rfl,h⟩:=h;obtain⟨v,rfl,o⟩:=j g;refine RelL.cons ?_ RelL.nil;unfold RelC at o⊢;obtain⟨us,e,I⟩:=o;exact⟨us,e,s h I⟩
 |tup r s=>
  intro x cs vs h g;unfold Can at h;obtain⟨l,rfl,h⟩:=h;obtain⟨v,rfl,o⟩:=j g;refine RelL.cons ?_ RelL.nil;unfold RelC at o⊢;obtain⟨us,e,I⟩:=o;exact⟨us,e,s h I⟩
 |sl e s=>
  intro x cs vs h g;unfold Can at h;obtain⟨nl,es,rfl,h⟩:=h;obtain⟨v,rfl,o⟩:=j g;refine RelL.cons ?_ RelL.nil;have F:=h.length;unfold RelC at o⊢;obtain⟨a,n,c,ev,hn,hle,_,_,hc0,X⟩:=o;refine⟨a,n,c,ev,by simp[hn,F],hle,(fun h=>by cases h),(fun h=>by cases h),hc0,fun V=> ?_⟩
  obtain⟨Y,size,ea,hlt,hM,hE⟩:=X (by
   intro h0;subst h0;simp only[List.length_nil]at F
   exact V (by simp[List.eq_nil_of_length_eq_zero F.symm]))
  refine⟨Y,size,ea,hlt,hM, ?_⟩;clear V ea hn F
  have key:∀{Z:List (D e)} {es:List CV} {i:Nat},CanAll (fun x c=>Can e x [c]) Z es->RelE w M Y size i es->RelE w M Y size i (Z.map fun x=>(encL e x).headD .nilif):=by
   intro Z
   induction Z with
   |nil=>intro es i _ _;unfold RelE;trivial
   |cons y ys ihx=>
    intro es i hc hE;obtain⟨c,es',rfl,q,L⟩:=hc;unfold RelE at hE;obtain⟨⟨u,U,T,g3⟩,g4⟩:=hE;simp only[List.map_cons];unfold RelE;exact⟨⟨u,hd e s q U,T,g3⟩,ihx L g4⟩
  exact key h hE
 |map kt vt ihk ihv=>
  intro x cs vs h g;unfold Can at h;obtain⟨nl,ks,us,rfl,q,L⟩:=h;obtain⟨v,rfl,o⟩:=j g;refine RelL.cons ?_ RelL.nil;have hl1:=q.length;have hl2:=L.length;unfold RelC at o⊢;obtain⟨r,ev,_,_,h0,hm⟩:=o;refine⟨r,ev,(fun h=>by cases h),(fun h=>by cases h),fun hr0=> ?_,fun b hb=> ?_⟩
  ·obtain⟨e1,e2⟩:=h0 hr0;subst e1;have:x= []:=List.eq_nil_of_length_eq_zero (by simpa using hl1.symm);subst this;exact⟨rfl,rfl⟩
  ·obtain⟨hM,ens,ens',clk,hh,hE,hp,r1,r2⟩:=hm b hb;refine⟨hM,ens,ens',clk,hh,hE,hp, ?_, ?_⟩
   ·have key:∀(m:List (D kt×D vt)) (ks:List CV) (vs:List Value),CanAll (fun x c=>Can kt x.1 [c]) m ks->RelL w M ks vs->RelL w M (m.map fun x=>(encL kt x.1).headD .nilif) vs:=by
     intro m
     induction m with
     |nil=>
      intro ks vs q r1;unfold CanAll at q;subst q;exact r1
     |cons p m ihm=>
      intro ks vs q r1;obtain⟨c,O,rfl,U,T⟩:=q;unfold RelL at r1;obtain⟨v',J,e,q1,q2⟩:=r1;rw[e];exact RelL.cons (hd kt ihk U q1) (ihm O J T q2)
    exact key _ _ _ q r1
   ·have key:∀(m:List (D kt×D vt)) (ks:List CV) (vs:List Value),CanAll (fun x c=>Can vt x.2 [c]) m ks->RelL w M ks vs->RelL w M (m.map fun x=>(encL vt x.2).headD .nilif) vs:=by
     intro m
     induction m with
     |nil=>
      intro ks vs q r1;unfold CanAll at q;subst q;exact r1
     |cons p m ihm=>
      intro ks vs q r1;obtain⟨c,O,rfl,U,T⟩:=q;unfold RelL at r1;obtain⟨v',J,e,q1,q2⟩:=r1;rw[e];exact RelL.cons (hd vt ihv U q1) (ihm O J T q2)
    exact key _ _ _ L r2
 |one t s=>
  intro x cs vs h g;unfold Can at h;obtain⟨c,rfl,h⟩:=h;obtain⟨v,rfl,o⟩:=j g;exact RelL.cons (hd t s h o) RelL.nil
 |cons t r iht ihr=>
  intro x cs vs h g;unfold Can at h;obtain⟨c,l,rfl,q,L⟩:=h;unfold RelL at g;obtain⟨v,J,rfl,h3,h4⟩:=g;exact RelL.cons (hd t iht q h3) (ihr L h4)
theorem RelC.enc{w:World}{M:MM}{t:Ty}{x:D t}{c:CV}{v:Value}(h:Can t x [c])(g:RelC w M c v):RelC w M (enc t x) v:=by
 have:=RelC.plain t h (RelL.cons g RelL.nil);have b:=this.length;unfold WB.enc
 match he:encL t x with
 | []=>rw[he]at b;simp at b
 | [d]=>
  rw[he]at this;unfold RelL at this;obtain⟨j,f,e,i,k⟩:=this;cases e;exact i
 |d::d'::ds=>rw[he]at b;simp at b
def Ty.fnNo(f:Nat):Ty->Bool
 | .clo g _=>g !=f
 | .nfn=>true
 | .falt g _ l=>g !=f&&l.fnNo f
 |_=>false
def Ty.ok:Ty->Bool
 | .agg r=> !r.val&&r.ok
 | .tup r=> !r.val&&r.ok
 | .pt r=> !r.val&&r.ok
 | .nw _ _ _=>false
 | .clo _ r=> !r.val&&r.ok
 | .falt f r l=> !r.val&&r.ok&&l.ok&&l.fnNo f
 | .sl e=>e.val&&e.ok
 | .map k v=>k.val&&k.ok&&v.val&&v.ok
 | .one t=>t.val&&t.ok
 | .cons t r=>t.val&&t.ok&& !r.val&&r.ok
 |_=>true
theorem Z5{f:Nat}:∀{l:Ty} {x:D l},l.fnNo f=true->∀cap,encL l x≠ [.fn f cap]:=by
 intro l
 induction l with
 |clo g r _=>
  intro x h cap e;unfold encL at e;simp only[List.cons.injEq,CV.fn.injEq,and_true]at e;simp[Ty.fnNo]at h;exact h e.1
 |nfn=>intro x h cap e;unfold encL at e;cases e
 |falt g r l _ ihl=>
  intro x h cap e;simp only[Ty.fnNo,Ag]at h
  cases x with
  |inl y=>
   unfold encL at e;simp only[List.cons.injEq,CV.fn.injEq,and_true]at e;simp at h;exact h.1 e.1
  |inr z=>unfold encL at e;exact ihl h.2 cap e
 |_=>intro x h;cases h
theorem Can.plain:∀(t:Ty) (x:D t),t.ok=true->Can t x (encL t x):=by
 have hd:∀(t:Ty),(∀(x:D t),t.ok=true->Can t x (encL t x))->∀(x:D t),t.val=true->t.ok=true->Can t x [(encL t x).headD .nilif]:=by
  intro t b x m o;have h:=b x o;obtain⟨c,p⟩:=h.one m;rw[p]at h⊢;exact h
 intro t
 induction t with
 |int k=>intro x _;unfold Can encL;rfl
 |bool=>intro x _;unfold Can encL;rfl
 |str=>intro x _;unfold Can encL;rfl
 |err=>intro x _;unfold Can encL;rfl
 |clo f r b=>
  intro x h;simp only[Ty.ok,Ag]at h;unfold Can encL;exact⟨_,rfl,b x h.2⟩
 |falt f r l b ihl=>
  intro x h;simp only[Ty.ok,Ag]at h
  cases x with
  |inl y=>unfold Can encL;exact⟨_,rfl,b y h.1.1.2⟩
  |inr z=>
   have g:=ihl z h.1.2;have d:∀cap,encL l z≠ [.fn f cap]:=Z5 h.2;unfold Can;have e:encL (.falt f r l) (.inr z)=encL l z:=rfl;rw[e];exact⟨d,g⟩
 |nsl=>intro x _;unfold Can encL;rfl
 |nmap=>intro x _;unfold Can encL;rfl
 |nfn=>intro x _;unfold Can encL;rfl
 |nam N=>intro x _;unfold Can encL;rfl
 |bptr N=>intro x _;unfold Can encL;exact .inl rfl
 |nilp=>intro x _;unfold Can encL;rfl
 |nw e size t _=>intro x h;cases h
 |pt r b=>
  intro x h;simp only[Ty.ok,Ag]at h;unfold Can encL;exact⟨_,rfl,b x h.2⟩
 |nil=>intro x _;unfold Can encL;rfl
 |agg r b=>
  intro x h;simp only[Ty.ok,Ag]at h;unfold Can encL;exact⟨_,rfl,b x h.2⟩
 |tup r b=>
  intro x h;simp only[Ty.ok,Ag]at h;unfold Can encL;exact⟨_,rfl,b x h.2⟩
 |sl e b=>
  intro x h;simp only[Ty.ok,Ag]at h;unfold Can encL;refine⟨none,_,rfl, ?_⟩
  induction x with
  |nil=>rfl
  |cons y ys ihx=>exact⟨_,_,rfl,hd e b y h.1 h.2,ihx⟩
 |map kt vt ihk ihv=>
  intro x h;simp only[Ty.ok,Ag]at h;obtain⟨⟨⟨g,d⟩,j⟩,i⟩:=h;unfold Can encL;refine⟨none,_,_,rfl, ?_, ?_⟩
  ·induction x with
   |nil=>rfl
   |cons y ys ihx=>exact⟨_,_,rfl,hd kt ihk _ g d,ihx⟩
  ·induction x with
   |nil=>rfl
   |cons y ys ihx=>exact⟨_,_,rfl,hd vt ihv _ j i,ihx⟩
 |one t b=>
  intro x h;simp only[Ty.ok,Ag]at h;unfold Can encL;exact⟨_,rfl,hd t b x h.1 h.2⟩
 |cons t r iht ihr=>
  intro x h;simp only[Ty.ok,Ag]at h;obtain⟨⟨⟨g,d⟩,j⟩,i⟩:=h;unfold Can encL;exact⟨_,_,rfl,hd t iht x.1 g d,ihr x.2 i⟩
theorem Can.enc{t:Ty}(x:D t)(b:t.val=true)(d:t.ok=true):Can t x [WB.enc t x]:=by
 have h:=Can.plain t x d;obtain⟨c,e⟩:=h.one b;unfold WB.enc;rw[e]at h⊢;exact h
def AQ:Ty->Option Nat
 | .nil=>some 0
 | .one _=>some 1
 | .cons _ r=>(AQ r).map (· +1)
 |_=>none
def BL:Ty->Ty
 | .agg r=>r
 |t=>.one t
def Gl:(t:Ty)->D t->D (BL t)
 | .int _,x| .bool,x| .str,x| .err,x| .clo _ _,x| .falt _ _ _,x| .nfn,x| .nam _,x| .bptr _,x| .nilp,x| .pt _,x| .nw _ _ _,x| .nsl,x| .nmap,x| .agg _,x| .tup _,x| .sl _,x| .map _ _,x| .nil,x| .one _,x| .cons _ _,x=>x
def Fy:(r:Ty)->Nat->Option (Σ q:Ty,D r->D q)
 |r,0=>some ⟨r,fun x=>x⟩
 | .one _,1=>some ⟨.nil,fun _=>()⟩
 | .cons _ r,n+1=>match Fy r n with
  |some q=>some ⟨q.1,fun x=>q.2 x.2⟩
  |none=>none
 |_,_=>none
def EA:(r:Ty)->Nat->Option (Σ q:Ty,D r->D q)
 | .one t,1=>some ⟨.one t,fun x=>x⟩
 | .cons t _,1=>some ⟨.one t,fun x=>x.1⟩
 | .cons t r,n+2=>match EA r (n+1)with
  |some q=>some ⟨.cons t q.1,fun x=>(x.1,q.2 x.2)⟩
  |none=>none
 |_,0=>some ⟨.nil,fun _=>()⟩
 |_,_=>none
def E4:(r:Ty)->Nat->Option (Σ t:Ty,D r->D t)
 | .one t,0=>some ⟨t,fun x=>x⟩
 | .cons t _,0=>some ⟨t,fun x=>x.1⟩
 | .cons _ r,n+1=>match E4 r n with
  |some q=>some ⟨q.1,fun x=>q.2 x.2⟩
  |none=>none
 |_,_=>none
def N8(r:Ty)(off n:Nat):Option (Σ q:Ty,D r->D q):=
 match Fy r off with
 |some p=>match EA p.1 n with
  |some q=>some ⟨q.1,fun x=>q.2 (p.2 x)⟩
  |none=>none
 |none=>none
def FE:(r:Ty)->Nat->(t:Ty)->Option (Σ q:Ty,D r->D t->D q)
 | .one _,0,t=>some ⟨.one t,fun _ y=>y⟩
 | .cons _ r,0,t=>some ⟨.cons t r,fun x y=>(y,x.2)⟩
 | .cons u r,n+1,t=>match FE r n t with
  |some q=>some ⟨.cons u q.1,fun x y=>(x.1,q.2 x.2 y)⟩
  |none=>none
 |_,_,_=>none
def Kn:(p:Ty)->(r:Ty)->Nat->Option (Σ q:Ty,D r->D p->D q)
 | .one t,r,off=>FE r off t
 | .cons t p,r,off=>match FE r off t with
  |some q=>match Kn p q.1 (off+1)with
   |some q'=>some ⟨q'.1,fun x y=>q'.2 (q.2 x y.1) y.2⟩
   |none=>none
  |none=>none
 |_,_,_=>none
theorem EP:∀{r:Ty} {n:Nat} {x:D r} {l:List CV},AQ r=some n->Can r x l->l.length=n
 | .nil,_,_,_,hn,h=>by unfold Can at h;subst h;simpa[AQ]using hn
 | .one t,_,_,_,hn,h=>by unfold Can at h;obtain⟨c,rfl,_⟩:=h;simpa[AQ]using hn
 | .cons t r,n,x,l,hn,h=>by
  unfold Can at h;obtain⟨c,l',rfl,_,h⟩:=h;simp only[AQ,Aa]at hn;obtain⟨m,b,rfl⟩:=hn;simp[EP b h]
theorem LQ:∀{r:Ty} {n:Nat} {q:Σ q:Ty,D r->D q} {x:D r} {l:List CV},Fy r n=some q->Can r x l->Can q.1 (q.2 x) (l.drop n)/\(n=0\/n≤l.length):=by
 intro r n
 induction n generalizing r with
 |zero=>
  intro q x l h b;have e:Fy r 0=some ⟨r,fun x=>x⟩:=by cases r<;>rfl
  rw[e]at h;cases h;exact⟨b,.inl rfl⟩
 |succ n ih=>
  intro q x l h b;cases r<;>(try simp[Fy]at h;done)
  ·rename_i t
   cases n with
   |zero=>
    change(some (⟨.nil,fun _=>()⟩:Σ q:Ty,D (.one t)->D q))=some q at h;cases h;unfold Can at b;obtain⟨c,rfl,_⟩:=b;exact⟨by simp[Can],.inr (by simp)⟩
   |succ n=>simp[Fy]at h
  ·rename_i t r;unfold Can at b;obtain⟨c,l',rfl,_,b⟩:=b;simp only[Fy]at h;split at h<;>(try cases h;done);rename_i p d;cases h;obtain⟨f,g⟩:=ih d b;exact⟨by simpa using f,.inr (by simp;omega)⟩
theorem NC:∀{n:Nat} {r:Ty} {q:Σ q:Ty,D r->D q} {x:D r} {l:List CV},EA r n=some q->Can r x l->Can q.1 (q.2 x) (l.take n)/\n≤l.length:=by
 intro n
 induction n with
 |zero=>
  intro r q x l h b;have e:EA r 0=some ⟨.nil,fun _=>()⟩:=by cases r<;>rfl
  rw[e]at h;cases h;exact⟨by simp[Can],by omega⟩
 |succ n ih=>
  intro r q x l h b;cases r<;>(try simp[EA]at h;done)
  ·rename_i t
   cases n with
   |zero=>
    change(some (⟨.one t,fun x=>x⟩:Σ q:Ty,D (.one t)->D q))=some q at h;cases h;have d:=b;unfold Can at d;obtain⟨c,rfl,_⟩:=d;exact⟨b,by simp⟩
   |succ n=>simp[EA]at h
  ·rename_i t r;unfold Can at b;obtain⟨c,l',rfl,f,b⟩:=b
   cases n with
   |zero=>
    change(some (⟨.one t,fun x=>x.1⟩:Σ q:Ty,D (.cons t r)->D q))=some q at h;cases h;refine⟨?_,by simp⟩;simp only[List.take_succ_cons,List.take_zero];unfold Can;exact⟨c,rfl,f⟩
   |succ n=>
    simp only[EA]at h;split at h<;>(try cases h;done);rename_i p g;cases h;obtain⟨i,j⟩:=ih g b;refine⟨?_,by simp;omega⟩;simp only[List.take_succ_cons];unfold Can;exact⟨c,_,rfl,f,i⟩
theorem Xz{r:Ty}{off n:Nat}{q:Σ q:Ty,D r->D q}{x:D r}{l:List CV}(h:N8 r off n=some q)(d:Can r x l):Can q.1 (q.2 x) ((l.drop off).take n)/\(n≤l.length-off):=by
 unfold N8 at h;split at h<;>(try cases h;done);rename_i p c;split at h<;>(try cases h;done);rename_i g b;cases h;obtain⟨f,e⟩:=NC b (LQ c d).1;exact⟨f,by simpa using e⟩
theorem I7:∀{r:Ty} {n:Nat} {q:Σ q:Ty,D r->D q} {x:D r} {l:List CV},E4 r n=some q->Can r x l->∃c,l[n]? =some c/\Can q.1 (q.2 x) [c]:=by
 intro r n
 induction n generalizing r with
 |zero=>
  intro q x l h b;cases r<;>(try simp[E4]at h;done)
  ·simp only[E4,Ac]at h;subst h;unfold Can at b;obtain⟨c,rfl,d⟩:=b;exact⟨c,rfl,d⟩
  ·simp only[E4,Ac]at h;subst h;unfold Can at b;obtain⟨c,l',rfl,d,b⟩:=b;exact⟨c,rfl,d⟩
 |succ n ih=>
  intro q x l h b;cases r<;>(try simp[E4]at h;done);rename_i t r;unfold Can at b;obtain⟨c,l',rfl,d,b⟩:=b;simp only[E4]at h;split at h<;>(try cases h;done);rename_i p e;cases h;simpa using ih e b
theorem Xi:∀{n:Nat} {r t:Ty} {q:Σ q:Ty,D r->D t->D q} {x:D r} {y:D t} {l:List CV} {c:CV},FE r n t=some q->Can r x l->Can t y [c]->Can q.1 (q.2 x y) (l.set n c)/\n<l.length:=by
 intro n
 induction n with
 |zero=>
  intro r t q x y l c h b e;cases r<;>(try simp[FE]at h;done)
  ·simp only[FE,Ac]at h;subst h;unfold Can at b;obtain⟨d,rfl,f⟩:=b;refine⟨?_,by simp⟩;simp only[List.set_cons_zero];unfold Can;exact⟨c,rfl,e⟩
  ·simp only[FE,Ac]at h;subst h;unfold Can at b;obtain⟨d,l',rfl,f,b⟩:=b;refine⟨?_,by simp⟩;simp only[List.set_cons_zero];unfold Can;exact⟨c,_,rfl,e,b⟩
 |succ n ih=>
  intro r t q x y l c h b e;cases r<;>(try simp[FE]at h;done);rename_i u r;unfold Can at b;obtain⟨d,l',rfl,f,b⟩:=b;simp only[FE]at h;split at h<;>(try cases h;done);rename_i p g;cases h;obtain⟨i,j⟩:=ih g b e;refine⟨?_,by simp;omega⟩;simp only[List.set_cons_succ];unfold Can;exact⟨d,_,rfl,f,i⟩
theorem Wk:∀{p r:Ty} {off:Nat} {q:Σ q:Ty,D r->D p->D q} {x:D r} {y:D p} {l cs:List CV},Kn p r off=some q->Can r x l->Can p y cs->Can q.1 (q.2 x y) (l.take off++cs++l.drop (off+cs.length))/\off+cs.length≤l.length:=by
 intro p
 induction p with
 |one t iht=>
  intro r off q x y l cs h m d;have b:FE r off t=some q:=h;unfold Can at d;obtain⟨c,rfl,d⟩:=d;obtain⟨f,o⟩:=Xi b m d;refine⟨?_,by simp;omega⟩;rw[List.set_eq_take_append_cons_drop,if_pos o]at f;simpa using f
 |cons t p iht ihp=>
  intro r off q x y l cs h m d;unfold Can at d;obtain⟨c,e,rfl,i,g⟩:=d;have b:=h;unfold Kn at b;split at b<;>(try cases b;done);rename_i q1 k;split at b<;>(try cases b;done);rename_i q2 j;cases b;obtain⟨f,o⟩:=Xi k m i;obtain⟨s,u⟩:=ihp j f g;simp only[List.length_set]at u;refine⟨?_,by simp;omega⟩
  have F:(l.set off c).take (off+1)=l.take off++ [c]:=by
   rw[List.set_eq_take_append_cons_drop,if_pos o];rw[List.take_append,List.take_of_length_le (by simp;omega)];have:off+1-(l.take off).length=1:=by simp;omega
   rw[this];simp
  have v:(l.set off c).drop (off+1+e.length)=l.drop (off+(e.length+1)):=by
   rw[List.drop_set_of_lt (by omega)]
   congr 1
   omega
  rw[F,v]at s;simpa using s
 |_=>intro r off q x y l cs h;cases h
theorem GO{t:Ty}{x:D t}{c:CV}(g:t.val=true)(h:Can t x [c]):Can (BL t) (Gl t x) c.cells:=by
 cases t<;>(try(simp[Ty.val]at g;done))
 case agg=>
  unfold Can at h;obtain⟨l,e,h⟩:=h;cases e;exact h
 all_goals(simp only[BL,Gl];have b:=h;unfold Can at b)
 case clo=>obtain⟨l,e,_⟩:=b;cases e;unfold Can;exact⟨_,rfl,h⟩
 case falt f r l=>
  have i:c.cells= [c]:=by
   obtain⟨j,e,d,_⟩:=Mh (t:=.falt f r l) (show l.isFn=true by simpa[Ty.val]using g) h;cases e;exact d
  rw[i];unfold Can;exact⟨_,rfl,h⟩
 case tup=>obtain⟨l,e,_⟩:=b;cases e;unfold Can;exact⟨_,rfl,h⟩
 case pt=>obtain⟨l,e,_⟩:=b;cases e;unfold Can;exact⟨_,rfl,h⟩
 case bptr=>rcases b with e|e|e<;>(cases e;unfold Can;exact⟨_,rfl,h⟩)
 case sl=>obtain⟨_,_,e,_⟩:=b;cases e;unfold Can;exact⟨_,rfl,h⟩
 case map=>obtain⟨_,_,_,e,_⟩:=b;cases e;unfold Can;exact⟨_,rfl,h⟩
 case err=>cases b;unfold Can;cases x<;>exact⟨_,rfl,h⟩
 all_goals(cases b;unfold Can;exact⟨_,rfl,h⟩)
mutual
def BK:CV->Option (Σ t:Ty,D t)
 | .int k n=>some ⟨.int k,n⟩
 | .bool b=>some ⟨.bool,b⟩
 | .str s=>some ⟨.str,s⟩
 | .nilif=>some ⟨.err,true⟩
 | .nilfn=>some ⟨.nfn,()⟩
 | .nilp=>some ⟨.nilp,()⟩
 | .nam N=>some ⟨.nam N,()⟩
 | .fn f []=>some ⟨.clo f .nil,()⟩
 | .sl (some true) []=>some ⟨.nsl,()⟩
 | .map (some true) [] []=>some ⟨.nmap,()⟩
 | .agg cs=>match Fv cs with
  |some q=>some ⟨.agg q.1,q.2⟩
  |none=>none
 |_=>none
def Fv:List CV->Option (Σ t:Ty,D t)
 | []=>some ⟨.nil,()⟩
 | [c]=>match BK c with
  |some q=>some ⟨.one q.1,q.2⟩
  |none=>none
 |c::d::cs=>match BK c,Fv (d::cs)with
  |some q,some p=>some ⟨.cons q.1 p.1,(q.2,p.2)⟩
  |_,_=>none
end
mutual
theorem Jv:∀{c:CV} {q:Σ t:Ty,D t},BK c=some q->Can q.1 q.2 [c]
 | .int k n,q,h=>by simp only[BK,Ac]at h;subst h;unfold Can;rfl
 | .bool b,q,h=>by simp only[BK,Ac]at h;subst h;unfold Can;rfl
 | .str s,q,h=>by simp only[BK,Ac]at h;subst h;unfold Can;rfl
 | .nilif,q,h=>by simp only[BK,Ac]at h;subst h;unfold Can;rfl
 | .nilfn,q,h=>by simp only[BK,Ac]at h;subst h;unfold Can;rfl
 | .nilp,q,h=>by simp only[BK,Ac]at h;subst h;unfold Can;rfl
 | .nam _,q,h=>by simp only[BK,Ac]at h;subst h;unfold Can;rfl
 | .sl nl es,q,h=>by
  match nl,es,h with
  |some true,[],h=>simp only[BK,Ac]at h;subst h;unfold Can;rfl
  |none,_,h=>simp[BK]at h
  |some false,_,h=>simp[BK]at h
  |some true,_::_,h=>simp[BK]at h
 | .map nl ks vs,q,h=>by
  match nl,ks,vs,h with
  |some true,[],[],h=>simp only[BK,Ac]at h;subst h;unfold Can;rfl
  |none,_,_,h=>simp[BK]at h
  |some false,_,_,h=>simp[BK]at h
  |some true,_::_,_,h=>simp[BK]at h
  |some true,[],_::_,h=>simp[BK]at h
 | .agg cs,q,h=>by
  simp only[BK]at h;split at h<;>(try cases h;done);rename_i p e;cases h;unfold Can;exact⟨cs,rfl,Ic e⟩
 | .rp _,q,h=>by simp[BK]at h
 | .wp _,q,h=>by simp[BK]at h
 | .fn f l,q,h=>by
  match l,h with
  | [],h=>simp only[BK,Ac]at h;subst h;unfold Can;exact⟨[],rfl,by unfold Can;rfl⟩
  |_::_,h=>simp[BK]at h
 | .tup _,q,h=>by simp[BK]at h
 | .ifc,q,h=>by simp[BK]at h
 | .adr _,q,h=>by simp[BK]at h
 | .bptr _,q,h=>by simp[BK]at h
theorem Ic:∀{cs:List CV} {q:Σ t:Ty,D t},Fv cs=some q->Can q.1 q.2 cs
 | [],q,h=>by simp only[Fv,Ac]at h;subst h;unfold Can;rfl
 | [c],q,h=>by
  simp only[Fv]at h;split at h<;>(try cases h;done);rename_i p e;cases h;unfold Can;exact⟨c,rfl,Jv e⟩
 |c::d::cs,q,h=>by
  simp only[Fv]at h;split at h<;>(try cases h;done);rename_i p i e g;cases h;unfold Can;exact⟨c,_,rfl,Jv e,Ic g⟩
end
def Hk(f:Nat)(r:Ty):(l:Ty)->Option (D r->D l)
 | .clo g r'=>if f=g then(if h:r=r' then some fun x=>h▸x else none)else none
 | .falt g r' l=>if f=g then(if h:r=r' then some fun x=>.inl (h▸x)else none)else match Hk f r l with
  |some a=>some fun x=>.inr (a x)
  |none=>none
 |_=>none
def M9:(l:Ty)->Option (D l)
 | .nfn=>some ()
 | .falt _ _ l=>match M9 l with
  |some a=>some (.inr a)
  |none=>none
 |_=>none
theorem VH:∀{l:Ty} {a:D l},M9 l=some a->Can l a [.nilfn]
 | .nfn,a,ha=>by unfold Can;rfl
 | .falt g r' l,a,ha=>by
  simp only[M9]at ha;split at ha<;>(try cases ha;done);rename_i d b;cases ha;unfold Can;exact⟨(fun c e=>by cases e),VH b⟩
 | .clo _ _,_,ha| .int _,_,ha| .bool,_,ha| .str,_,ha| .err,_,ha| .nsl,_,ha| .nmap,_,ha| .nam _,_,ha| .bptr _,_,ha| .nilp,_,ha| .pt _,_,ha| .nw _ _ _,_,ha| .agg _,_,ha| .tup _,_,ha| .sl _,_,ha| .map _ _,_,ha| .nil,_,ha| .one _,_,ha| .cons _ _,_,ha=>by cases ha
theorem L6{f:Nat}{r:Ty}{x:D r}{cap:List CV}(h:Can r x cap):∀{l:Ty} {a:D r->D l},Hk f r l=some a->Can l (a x) [.fn f cap]
 | .clo g r',a,ha=>by
  simp only[Hk]at ha;split at ha<;>(try cases ha;done);rename_i b;split at ha<;>(try cases ha;done);rename_i c;subst b;subst c;cases ha;unfold Can;exact⟨cap,rfl,h⟩
 | .falt g r' l,a,ha=>by
  simp only[Hk]at ha;split at ha
  ·rename_i b;split at ha<;>(try cases ha;done);rename_i c;subst b;subst c;cases ha;unfold Can;exact⟨cap,rfl,h⟩
  ·rename_i b;split at ha<;>(try cases ha;done);rename_i j d;cases ha;unfold Can;exact⟨fun i e=>by simp only[List.cons.injEq,CV.fn.injEq,and_true]at e;exact b e.1,L6 h d⟩
 | .nfn,_,ha| .int _,_,ha| .bool,_,ha| .str,_,ha| .err,_,ha| .nsl,_,ha| .nmap,_,ha| .nam _,_,ha| .bptr _,_,ha| .nilp,_,ha| .pt _,_,ha| .agg _,_,ha| .tup _,_,ha| .sl _,_,ha| .map _ _,_,ha| .nil,_,ha| .one _,_,ha| .cons _ _,_,ha=>by cases ha
def Ia:(l m:Ty)->Option (D l->D m)
 | .clo f r,m=>Hk f r m
 | .nfn,m=>match M9 m with
  |some a=>some fun _=>a
  |none=>none
 | .falt f r l,m=>match Hk f r m,Ia l m with
  |some a,some b=>some fun x=>match x with
   | .inl y=>a y
   | .inr z=>b z
  |_,_=>none
 |_,_=>none
theorem T2:∀{l m:Ty} {a:D l->D m} {x:D l} {cs:List CV},Ia l m=some a->Can l x cs->Can m (a x) cs:=by
 intro l
 induction l with
 |clo f r _=>
  intro m a x cs h c;unfold Can at c;obtain⟨cap,rfl,c⟩:=c;exact L6 c h
 |nfn=>
  intro m a x cs h c;unfold Can at c;subst c;simp only[Ia]at h;split at h<;>(try cases h;done);rename_i b d;cases h;exact VH d
 |falt f r l _ ihl=>
  intro m a x cs h c;simp only[Ia]at h;split at h<;>(try cases h;done);rename_i i g e d;cases h
  cases x with
  |inl y=>
   unfold Can at c;obtain⟨cap,rfl,c⟩:=c;exact L6 c e
  |inr z=>
   unfold Can at c;exact ihl d c.2
 |_=>intro m a x cs h;cases h
def Ba:(t u:Ty)->Option (D t->D u)
 | .nsl,.sl _=>some fun _=> []
 | .nmap,.map _ _=>some fun _=> []
 | .nilp,.bptr _=>some fun _=>()
 | .nam N,.bptr N'=>if N=N' then some fun _=>()else none
 | .clo f r,.falt g r' l=>Hk f r (.falt g r' l)
 | .nfn,.falt g r' l=>Ia .nfn (.falt g r' l)
 | .falt f r l,.falt g r' l'=>if h:Ty.falt f r l=.falt g r' l' then some fun x=>h▸x else Ia (.falt f r l) (.falt g r' l')
 | .agg r,.agg r'=>Ba r r'
 | .tup r,.tup r'=>Ba r r'
 | .one t,.one t'=>Ba t t'
 | .cons t r,.cons t' r'=>match Ba t t',Ba r r' with
  |some f,some g=>some fun x=>(f x.1,g x.2)
  |_,_=>none
 |t,u=>if h:t=u then some fun x=>h▸x else none
theorem EI{t u:Ty}{f:D t->D u}(h:(if h:t=u then some (fun x=>h▸x:D t->D u)else none)=some f){x:D t}{cs:List CV}(b:Can t x cs):Can u (f x) cs:=by
 split at h<;>(try cases h;done);rename_i e;subst e;cases h;exact b
theorem C0:∀(t u:Ty) {f:D t->D u} {x:D t} {cs:List CV},Ba t u=some f->Can t x cs->Can u (f x) cs:=by
 intro t
 induction t with
 |clo g r _=>
  intro u f x cs h b
  cases u with
  |falt g' r' l=>
   unfold Can at b;obtain⟨cap,rfl,b⟩:=b;exact L6 b h
  |_=>exact EI h b
 |nfn=>
  intro u f x cs h b
  cases u with
  |falt g' r' l'=>exact T2 (l:=.nfn) (m:=.falt g' r' l') h b
  |_=>exact EI h b
 |falt g r l _ _=>
  intro u f x cs h b
  cases u with
  |falt g' r' l'=>
   simp only[Ba]at h;split at h
   ·rename_i e;cases e;cases h;exact b
   ·exact T2 (l:=.falt g r l) (m:=.falt g' r' l') h b
  |_=>exact EI h b
 |nsl=>
  intro u f x cs h b
  cases u with
  |sl e=>
   simp only[Ba,Ac]at h;subst h;unfold Can at b⊢;exact⟨_,_,b,rfl⟩
  |_=>exact EI h b
 |nmap=>
  intro u f x cs h b
  cases u with
  |map k v=>
   simp only[Ba,Ac]at h;subst h;unfold Can at b⊢;exact⟨_,_,_,b,rfl,rfl⟩
  |_=>exact EI h b
 |nilp=>
  intro u f x cs h b
  cases u with
  |bptr N=>unfold Can at b⊢;exact .inr (.inr b)
  |_=>exact EI h b
 |nam N=>
  intro u f x cs h b
  cases u with
  |bptr N'=>
   simp only[Ba]at h;split at h<;>(try cases h;done);rename_i e;subst e;unfold Can at b⊢;exact .inr (.inl b)
  |_=>exact EI h b
 |agg r ih=>
  intro u f x cs h b
  cases u with
  |agg r'=>
   unfold Can at b⊢;obtain⟨l,e,b⟩:=b;exact⟨l,e,ih r' h b⟩
  |_=>exact EI h b
 |tup r ih=>
  intro u f x cs h b
  cases u with
  |tup r'=>
   unfold Can at b⊢;obtain⟨l,e,b⟩:=b;exact⟨l,e,ih r' h b⟩
  |_=>exact EI h b
 |one t ih=>
  intro u f x cs h b
  cases u with
  |one t'=>
   unfold Can at b⊢;obtain⟨c,e,b⟩:=b;exact⟨c,e,ih t' h b⟩
  |_=>exact EI h b
 |cons t r iht ihr=>
  intro u f x cs h b
  cases u with
  |cons t' r'=>
   simp only[Ba]at h;split at h<;>(try cases h;done);rename_i q p i d;cases h;unfold Can at b⊢;obtain⟨c,l,e,o,j⟩:=b;exact⟨c,l,e,iht t' i o,ihr r' d j⟩
  |_=>exact EI h b
 |_=>intro u f x cs h b;exact EI (by cases u<;>exact h) b
inductive ab (A B:Type) where
 |tot (f:A->B)
 |par (f:A->Option B)
def ab.val{A B:Type}:ab A B->A->Option B
 | .tot f,a=>some (f a)
 | .par f,a=>f a
def ab.app{A B R:Type}(d:ab A B)(a:A)(K:B->Option R):Option R:=
 match d with
 | .tot f=>K (f a)
 | .par f=>(f a).bind K
def ab.map{A B C:Type}(g:A->B->C):ab A B->ab A C
 | .tot f=>.tot fun a=>g a (f a)
 | .par f=>.par fun a=>(f a).map (g a)
def ab.both{A B C:Type}:ab A B->ab A C->ab A (B×C)
 | .tot f,.tot g=>.tot fun a=>(f a,g a)
 |d,e=>.par fun a=>(d.val a).bind fun b=>(e.val a).map fun c=>(b,c)
def ab.comp{A B C:Type}:ab A B->ab B C->ab A C
 | .tot f,.tot g=>.tot fun a=>g (f a)
 | .tot f,.par g=>.par fun a=>g (f a)
 | .par f,.tot g=>.par fun a=>(f a).map g
 | .par f,.par g=>.par fun a=>(f a).bind g
section
variable {A B C R:Type}
theorem ab.app_some{d:ab A B}{a:A}{K:B->Option R}{r:R}(h:d.app a K=some r):∃b,d.val a=some b/\K b=some r:=by
 cases d with
 |tot f=>exact⟨_,rfl,h⟩
 |par f=>exact Ab.1 h
theorem ab.map_val{g:A->B->C}{d:ab A B}{a:A}{c:C}(h:(d.map g).val a=some c):∃b,d.val a=some b/\c=g a b:=by
 cases d with
 |tot f=>cases h;exact⟨_,rfl,rfl⟩
 |par f=>
  obtain⟨b,i,e⟩:=Aa.1 h;exact⟨b,i,e.symm⟩
theorem ab.both_val{d:ab A B}{e:ab A C}{a:A}{p:B×C}(h:(d.both e).val a=some p):d.val a=some p.1/\e.val a=some p.2:=by
 have key:∀{x:Option B} {y:Option C},(x.bind fun b=>y.map fun c=>(b,c))=some p->x=some p.1/\y=some p.2:=by
  intro x y h;obtain⟨b,j,i⟩:=Ab.1 h;obtain⟨c,g,f⟩:=Aa.1 i;subst f;exact⟨j,g⟩
 cases d<;>cases e
 ·cases h;exact⟨rfl,rfl⟩
 all_goals exact key h
theorem ab.comp_val{d:ab A B}{e:ab B C}{a:A}{c:C}(h:(d.comp e).val a=some c):∃b,d.val a=some b/\e.val b=some c:=by
 cases d<;>cases e
 ·exact⟨_,rfl,h⟩
 ·exact⟨_,rfl,h⟩
 ·obtain⟨b,g,f⟩:=Aa.1 h;exact⟨b,g,by rw[<-f];rfl⟩
 ·exact Ab.1 h
end
inductive EK where
 |v (t:Ty)
 |opt (k:EK)
 |rp (ex:Bool) (r:Ty)
 |ptr (id off:Nat)
 |eptr (id size off:Nat)
 |aptr (id len off:Nat)
 |own (id:Nat)
 |mp (id:Nat)
 |iter (id:Nat)
 |ent (id:Nat) (k v:Ty)
 |stamp (id:Nat) (k:Ty)
 |undef
 |box (n:Nat) (bt:Option TypeId)
 |arr (e size:Nat) (t:Ty)
 |mob (mt:Nat) (k v:Ty)
 |sit
 |mit (k v:Ty)
 |mcur (k v:Ty)
 |gone
 |buf (e:Nat)
 deriving DecidableEq
@[reducible] def DK:EK->Type
 | .v t=>D t
 | .opt k=>Option (DK k)
 | .rp _ r=>D r
 | .eptr _ _ _=>Nat
 | .aptr _ _ _=>Nat
 | .ent _ k v=>D k×D v
 | .stamp _ k=>D k
 | .arr _ _ t=>List (D t)
 | .mob _ k v=>List (D k×D v)
 | .sit=>List UInt8×Nat
 | .mit k v=>List (D k×D v)
 | .mcur k v=>D k×D v
 | .buf _=>List UInt8
 |_=>Unit
inductive ax where
 |s (i:Nat)
 |o (id:Nat)
 |c (id j:Nat)
 deriving DecidableEq
abbrev TC:=List (ax×EK)
@[reducible] def HS:TC->Type
 | []=>Unit
 |e::Γ=>DK e.2×HS Γ
def get:(Γ:TC)->ax->Option (Σ k:EK,HS Γ->DK k)
 | [],_=>none
 |e::Γ,p=>if e.1=p then some ⟨e.2,fun ρ=>ρ.1⟩else match get Γ p with
  |some q=>some ⟨q.1,fun ρ=>q.2 ρ.2⟩
  |none=>none
theorem CT(Γ:TC)(p:ax)(k:EK):get ((p,k)::Γ) p=some ⟨k,fun ρ=>ρ.1⟩:=by simp[get]
theorem C1{Γ:TC}{q p:ax}{k:EK}(h:q≠p){r:Σ k':EK,HS ((q,k)::Γ)->DK k'}(b:get ((q,k)::Γ) p=some r):∃f,get Γ p=some ⟨r.1,f⟩/\∀ρ,r.2 ρ=f ρ.2:=by
 unfold get at b;rw[if_neg h]at b;split at b<;>(try cases b;done);rename_i t c;cases b;exact⟨t.2,c,fun _=>rfl⟩
def F5:Ty->KT
 | .int k=>.int k
 | .str=>.str
 | .bool=>.bool
 |_=>.struct []
def F4:Ty->List KT
 | .one t=> [F5 t]
 | .cons t r=>F5 t::F4 r
 |_=> []
def b4:Ty->KT
 | .agg r=>.struct (F4 r)
 |t=>F5 t
def AL:(t:Ty)->D t
 | .int _=>0
 | .bool=>false
 | .str=> []
 | .err=>true
 | .clo _ r=>AL r
 | .falt _ r _=>.inl (AL r)
 | .nsl=>()
 | .nmap=>()
 | .nfn=>()
 | .nam _=>()
 | .bptr _=>()
 | .nilp=>()
 | .pt r=>AL r
 | .nw _ _ _=> []
 | .agg r=>AL r
 | .tup r=>AL r
 | .sl _=> []
 | .map _ _=> []
 | .nil=>()
 | .one t=>AL t
 | .cons t r=>(AL t,AL r)
def RS:(k:EK)->DK k->SV->Prop
 | .v t,x,sv=>∃c,sv=.c c/\Can t x [c]
 | .opt k,x,sv=>match x with
  |none=>sv=Bf
  |some y=>RS k y sv
 | .rp ex r,x,sv=>∃cs rest,sv=.c (.rp (cs++rest))/\Can r x cs/\(ex=true->rest= [])
 | .ptr id o,_,sv=>sv=.ptr id o
 | .eptr id s o,i,sv=>sv=.eptr id i s o
 | .aptr id n o,i,sv=>sv=.ptr id (o+i)/\i<n
 | .own id,_,sv=>sv=.osl id
 | .mp id,_,sv=>sv=.omap id
 | .iter id,_,sv=>sv=.iter id
 | .ent id k v,x,sv=>∃b d,sv=.ent id b d/\Can k x.1 [b]/\Can v x.2 [d]
 | .stamp id k,x,sv=>∃b,sv=.stamp id b/\Can k x [b]
 | .undef,_,_=>True
 |_,_,_=>False
def RO(Γ:TC)(ρ:HS Γ)(id:Nat):(k:EK)->DK k->Ob->Prop
 | .box n bt,_,ob=>∃cs,ob=.box cs bt/\cs.length=n/\∀j q,j<n->get Γ (.c id j)=some q->∃sv,cs[j]? =some sv/\RS q.1 (q.2 ρ) sv
 | .arr e size t,xs,ob=>∃es,ob=.arr e size es/\CanAll (fun x c=>Can t x [c]) xs es
 | .mob mt k v,m,ob=>∃z ks vs,ob=.map mt (b4 k) z ks vs/\Can v (AL v) [z]/\CanAll (fun x c=>Can k x.1 [c]) m ks/\CanAll (fun x c=>Can v x.2 [c]) m vs
 | .sit,x,ob=>ob=.siter x.1 x.2
 | .mit k v,m,ob=>∃ks vs b,ob=.miter ks vs b/\CanAll (fun x c=>Can k x.1 [c]) m ks/\CanAll (fun x c=>Can v x.2 [c]) m vs
 | .mcur k v,x,ob=>∃ks vs f d,ob=.miter ks vs (some (f,d))/\Can k x.1 [f]/\Can v x.2 [d]
 | .gone,_,ob=>ob=.none
 | .buf e,s,ob=>ob=.buf e s
 | .undef,_,_=>True
 |_,_,_=>False
structure af (Γ:TC) (ρ:HS Γ) (st:St):Prop where
 s:∀i q,get Γ (.s i)=some q->RS q.1 (q.2 ρ) (st.fr i)
 o:∀id q,get Γ (.o id)=some q->RO Γ ρ id q.1 (q.2 ρ) (st.ob id)
theorem RO.congr{Γ Γ':TC}{ρ:HS Γ}{b:HS Γ'}{id:Nat}{k:EK}{x:DK k}{ob:Ob}(h:RO Γ ρ id k x ob)(p:∀j q,get Γ' (.c id j)=some q->∃f,get Γ (.c id j)=some ⟨q.1,f⟩/\q.2 b=f ρ):RO Γ' b id k x ob:=by
 cases k<;>try exact h
 unfold RO at h⊢;obtain⟨cs,e,i,m⟩:=h;refine⟨cs,e,i,fun j q l g=> ?_⟩;obtain⟨f,o,d⟩:=p j q g;obtain⟨sv,s,r⟩:=m j _ l o;exact⟨sv,s,d▸r⟩
theorem af.set{Γ:TC}{ρ:HS Γ}{st:St}(h:af Γ ρ st){d:Nat}{k:EK}{x:DK k}{sv:SV}(p:RS k x sv):af ((.s d,k)::Γ) (x,ρ) (st.set (some d) (sv)):=by
 refine⟨fun i q b=> ?_,fun id q b=> ?_⟩
 ·by_cases hi:d=i
  ·subst hi;rw[CT]at b;cases b;simpa[St.set,ac]using p
  ·obtain⟨f,m,e⟩:=C1 (by simpa using hi) b;have:=h.s i _ m;rw[e];simpa[St.set,ac,Ne.symm hi]using this
 ·obtain⟨f,m,e⟩:=C1 (by simp) b;have:=h.o id _ m;rw[e];refine RO.congr this fun j t g=> ?_;obtain⟨r,l,c⟩:=C1 (by simp) g;exact⟨r,l,c _⟩
def ap{α:Type}(b:List α)(n:Int):Option α:=if 0≤n/\n<b.length then b[n.toNat]? else none
def bQ(s:List UInt8)(n:Int):Option Int:=if 0≤n/\n<s.length then(s[n.toNat]?).map fun b=>(b.toNat:Int)else none
def JI{α:Type}(b:List α)(lo hi:Int):Option (List α):=if 0≤lo/\lo≤hi/\hi≤b.length then some ((b.take hi.toNat).drop lo.toNat)else none
def BI(op:BinOp)(k:IntKind)(x y:Int):Int:=
 match op with
 | .and=>k.wrap (BitVec.ofInt k.bits x&&&BitVec.ofInt k.bits y).toNat
 | .or=>k.wrap (BitVec.ofInt k.bits x|||BitVec.ofInt k.bits y).toNat
 | .xor=>k.wrap (BitVec.ofInt k.bits x^^^BitVec.ofInt k.bits y).toNat
 |_=>k.wrap (BitVec.ofInt k.bits x&&& ~~~(BitVec.ofInt k.bits y)).toNat
def AP{α β:Type}(eq:α->α->Bool)(z:β)(x:α):List (α×β)->β×Bool
 | []=>(z,false)
 |p::m=>if eq x p.1 then(p.2,true)else AP eq z x m
def Bk{α β:Type}(eq:α->α->Bool)(x:α)(y:β):List (α×β)->List (α×β)
 | []=> [(x,y)]
 |p::m=>if eq x p.1 then(p.1,y)::m else p::Bk eq x y m
section
variable (G:Nat->List CV) (Γ:TC)
def ao:SO->Option (Σ t:Ty,ab (HS Γ) (D t))
 | .t i=>match get Γ (.s i)with
  |some ⟨.v t,f⟩=>some ⟨t,.tot f⟩
  |some ⟨.opt (.v t),f⟩=>some ⟨t,.par f⟩
  |_=>none
 | .k c=>match BK c with
  |some q=>some ⟨q.1,.tot fun _=>q.2⟩
  |none=>none
 | .g _=>none
def b5:SO->Option (Σ k:EK,ab (HS Γ) (DK k))
 | .t i=>match get Γ (.s i)with
  |some ⟨.opt k,f⟩=>some ⟨k,.par f⟩
  |some q=>some ⟨q.1,.tot q.2⟩
  |none=>none
 | .k c=>match BK c with
  |some q=>some ⟨.v q.1,.tot fun _=>q.2⟩
  |none=>none
 | .g i=>match G i,Fv (G i)with
  |_::_,some q=>some ⟨.rp true q.1,.tot fun _=>q.2⟩
  |_,_=>none
end
section
variable {G:Nat->List CV} {Γ:TC} {ρ:HS Γ} {st:St}
theorem AB{x:SO}{q:Σ t:Ty,ab (HS Γ) (D t)}(h:ao Γ x=some q)(j:af Γ ρ st){a:D q.1}(e:q.2.val ρ=some a):∃c,so G st.fr x=.c c/\Can q.1 a [c]:=by
 cases x with
 |t i=>
  simp only[ao]at h;split at h
  ·rename_i t f b;cases h;cases e;exact j.s i _ b
  ·rename_i t f b;cases h;have:=j.s i _ b;have d:f ρ=some a:=e;unfold RS at this;simp only[d]at this;unfold RS at this;exact this
  ·cases h
 |k c=>
  simp only[ao]at h;split at h<;>(try cases h;done);rename_i p l;cases h;cases e;exact⟨c,rfl,Jv l⟩
 |g i=>cases h
theorem AT{x:SO}{q:Σ k:EK,ab (HS Γ) (DK k)}(h:b5 G Γ x=some q)(l:af Γ ρ st){a:DK q.1}(d:q.2.val ρ=some a):RS q.1 a (so G st.fr x):=by
 cases x with
 |t i=>
  simp only[b5]at h;split at h
  ·rename_i t f e;cases h;have:=l.s i _ e;have j:f ρ=some a:=d;unfold RS at this;simp only[j]at this;exact this
  ·rename_i p b e;cases h;cases d;exact l.s i _ e
  ·cases h
 |k c=>
  simp only[b5]at h;split at h<;>(try cases h;done);rename_i p b;cases h;cases d;exact⟨c,rfl,Jv b⟩
 |g i=>
  simp only[b5]at h;split at h<;>(try cases h;done);rename_i c cs p m b;cases h;cases d;refine⟨G i,[], ?_,Ic b,fun _=>rfl⟩;simp[so,m]
end
def Oz(op:BinOp)(k:IntKind):Option (Σ t:Ty,ab (Int×Int) (D t)):=
 match op with
 | .add=>some ⟨.int k,.tot fun p=>k.wrap (p.1+p.2)⟩
 | .sub=>some ⟨.int k,.tot fun p=>k.wrap (p.1-p.2)⟩
 | .mul=>some ⟨.int k,.tot fun p=>k.wrap (p.1*p.2)⟩
 | .quo=>some ⟨.int k,.par fun p=>if p.2=0 then none else some (k.wrap (p.1.tdiv p.2))⟩
 | .rem=>some ⟨.int k,.par fun p=>if p.2=0 then none else some (p.1.tmod p.2)⟩
 | .and=>some ⟨.int k,.tot fun p=>BI .and k p.1 p.2⟩
 | .or=>some ⟨.int k,.tot fun p=>BI .or k p.1 p.2⟩
 | .xor=>some ⟨.int k,.tot fun p=>BI .xor k p.1 p.2⟩
 | .andNot=>some ⟨.int k,.tot fun p=>BI .andNot k p.1 p.2⟩
 | .eql=>some ⟨.bool,.tot fun p=>p.1==p.2⟩
 | .neq=>some ⟨.bool,.tot fun p=>p.1 !=p.2⟩
 | .lss=>some ⟨.bool,.tot fun p=>decide (p.1<p.2)⟩
 | .leq=>some ⟨.bool,.tot fun p=>decide (p.1≤p.2)⟩
 | .gtr=>some ⟨.bool,.tot fun p=>decide (p.1>p.2)⟩
 | .geq=>some ⟨.bool,.tot fun p=>decide (p.1≥p.2)⟩
 |_=>none
def O0(op:BinOp):Option (Σ t:Ty,ab (List UInt8×List UInt8) (D t)):=
 match op with
 | .add=>some ⟨.str,.par fun p=>if p.1.length+p.2.length≤4611686018427387904 then some (p.1++p.2)else none⟩
 | .eql=>some ⟨.bool,.tot fun p=>p.1==p.2⟩
 | .neq=>some ⟨.bool,.tot fun p=> !(p.1==p.2)⟩
 | .lss=>some ⟨.bool,.tot fun p=>sLess p.1 p.2⟩
 | .leq=>some ⟨.bool,.tot fun p=>sLess p.1 p.2||p.1==p.2⟩
 | .gtr=>some ⟨.bool,.tot fun p=> !(sLess p.1 p.2||p.1==p.2)⟩
 | .geq=>some ⟨.bool,.tot fun p=> !(sLess p.1 p.2)⟩
 |_=>none
def Oy(op:BinOp):(t u:Ty)->Option (Σ v:Ty,ab (D t×D u) (D v))
 | .int k,.int k'=>match op with
  | .shl=>some ⟨.int k,.par fun p=>if p.2<0 then none else some (k.wrap (p.1*2^(min p.2.toNat k.bits)))⟩
  | .shr=>some ⟨.int k,.par fun p=>if p.2<0 then none else some (p.1.fdiv (2^(min p.2.toNat k.bits)))⟩
  |_=>if k=k' then Oz op k else none
 | .str,.str=>O0 op
 |_,_=>none
theorem Yr{op:BinOp}{k:IntKind}{q:Σ t:Ty,ab (Int×Int) (D t)}(h:Oz op k=some q){a b:Int}{x:D q.1}(d:q.2.val (a,b)=some x):∃c,Hg op k a b=some c/\Can q.1 x [c]:=by
 cases op<;>simp only[Oz,Ac,reduceCtorEq]at h<;>cases h
 case quo=>
  simp only[ab.val]at d;split at d<;>(try cases d;done);rename_i e;cases d;exact⟨_,by simp only[Hg];rw[if_neg e],by unfold Can;rfl⟩
 case rem=>
  simp only[ab.val]at d;split at d<;>(try cases d;done);rename_i e;cases d;exact⟨_,by simp only[Hg];rw[if_neg e],by unfold Can;rfl⟩
 all_goals
  cases d;exact⟨_,rfl,by unfold Can;rfl⟩
theorem Ys{op:BinOp}{q:Σ t:Ty,ab (List UInt8×List UInt8) (D t)}(h:O0 op=some q){a b:List UInt8}{x:D q.1}(d:q.2.val (a,b)=some x):∃c,Jk op a b=some c/\Can q.1 x [c]:=by
 cases op<;>simp only[O0,Ac,reduceCtorEq]at h<;>cases h
 case add=>
  simp only[ab.val]at d;split at d<;>(try cases d;done);rename_i e;cases d;exact⟨_,by simp only[Jk];rw[if_pos e],by unfold Can;rfl⟩
 all_goals
  cases d;exact⟨_,rfl,by unfold Can;rfl⟩
theorem Yt{op:BinOp}{t u:Ty}{q:Σ v:Ty,ab (D t×D u) (D v)}(h:Oy op t u=some q){a:D t}{b:D u}{j i:CV}(g:Can t a [j])(f:Can u b [i]){x:D q.1}(e:q.2.val (a,b)=some x):
  ∃c,EG op j i=some c/\Can q.1 x [c]:=by
 unfold Oy at h;split at h
 ·rename_i k s;unfold Can at g f;cases g;cases f;split at h
  ·cases h;simp only[ab.val]at e;split at e<;>(try cases e;done);rename_i d;cases e;exact⟨_,by simp only[EG];rw[if_neg d],by unfold Can;rfl⟩
  ·cases h;simp only[ab.val]at e;split at e<;>(try cases e;done);rename_i d;cases e;exact⟨_,by simp only[EG];rw[if_neg d],by unfold Can;rfl⟩
  ·rename_i m l;split at h<;>(try cases h;done);rename_i o;subst o;obtain⟨c,r,p⟩:=Yr h e;refine⟨c, ?_,p⟩;cases op<;>first|(exact(m rfl).elim)|(exact(l rfl).elim)|(simp only[EG,if_true];exact r)
 ·unfold Can at g f;cases g;cases f;exact Ys h e
 ·cases h
def J3:KT->(t u:Ty)->Option (D t->D u->Bool)
 | .int _,.int k,.int k'=>if k=k' then some fun(a b:Int)=>a==b else none
 | .str,.str,.str=>some fun(a b:List UInt8)=>a==b
 | .bool,.bool,.bool=>some fun(a b:Bool)=>a==b
 |_,_,_=>none
def J5:(r s:Ty)->List KT->Option (D r->D s->Bool)
 | .nil,.nil,ks=>if ks.isEmpty then some fun _ _=>true else none
 | .one t,.one u,ks=>match ks with
  | [k]=>J3 k t u
  |_=>none
 | .cons t r,.cons u s,ks=>match ks with
  |k::ks=>match J3 k t u,J5 r s ks with
   |some f,some g=>some fun x y=>f x.1 y.1&&g x.2 y.2
   |_,_=>none
  | []=>none
 |_,_,_=>none
theorem TX{k:KT}{t u:Ty}{f:D t->D u->Bool}(h:J3 k t u=some f){a:D t}{b:D u}{g e:CV}(d:Can t a [g])(c:Can u b [e]):bb k g e=some (f a b):=by
 unfold J3 at h;split at h
 ·split at h<;>(try cases h;done);rename_i i;cases h;unfold Can at d c;cases d;cases c;simp[bb,i]
 ·cases h;unfold Can at d c;cases d;cases c;rfl
 ·cases h;unfold Can at d c;cases d;cases c;rfl
 ·cases h
theorem Z6:∀{r s:Ty} {ks:List KT} {f:D r->D s->Bool},J5 r s ks=some f->∀{a:D r} {b:D s} {e lb:List CV},Can r a e->Can s b lb->bd ks e lb=some (f a b):=by
 intro r
 induction r with
 |nil=>
  intro s ks f h a b e lb d c;cases s<;>(try cases h;done);simp only[J5,Ae,Ac]at h;obtain⟨p,rfl⟩:=h;cases ks<;>simp at p;unfold Can at d c;subst d;subst c;rfl
 |one t=>
  intro s ks f h a b e lb d c;cases s<;>(try cases h;done);rename_i u
  match ks,h with
  | [k],h=>
   unfold Can at d c;obtain⟨F,rfl,d⟩:=d;obtain⟨y,rfl,c⟩:=c;have x:J3 k t u=some f:=h;simp[bd,TX x d c]
  | [],h=>cases h
  |_::_::_,h=>cases h
 |cons t r iht ihr=>
  intro s ks f h a b e lb d c;cases s<;>(try cases h;done)
  match ks,h with
  | [],h=>cases h
  |k::ks,h=>
   simp only[J5]at h;split at h<;>(try cases h;done);rename_i J I v q;cases h;unfold Can at d c;obtain⟨F,o,rfl,l,j⟩:=d;obtain⟨y,m,rfl,i,g⟩:=c;simp[bd,TX v l i,ihr q j g]
 |_=>
  intro s ks f h;cases s<;>cases h
def HD:Ty->Bool
 | .int _| .str| .bool=>true
 |_=>false
def IA:Ty->Bool
 | .one t=>HD t
 | .cons t r=>HD t&&IA r
 |_=>false
def DT:Ty->Bool
 | .agg r=>IA r
 |t=>HD t
def LV:(t:Ty)->D t->D t->Bool
 | .int _,a,b=>(a:Int)==b
 | .str,a,b=>(a:List UInt8)==b
 | .bool,a,b=>(a:Bool)==b
 |_,_,_=>false
def J6:(r:Ty)->D r->D r->Bool
 | .one t,a,b=>LV t a b
 | .cons t r,a,b=>LV t a.1 b.1&&J6 r a.2 b.2
 |_,_,_=>false
def aj:(t:Ty)->D t->D t->Bool
 | .agg r,a,b=>J6 r a b
 | .int _,a,b=>(a:Int)==b
 | .str,a,b=>(a:List UInt8)==b
 | .bool,a,b=>(a:Bool)==b
 |_,_,_=>false
theorem Ud{t:Ty}(g:HD t=true){a b:D t}{c f:CV}(e:Can t a [c])(d:Can t b [f]):bb (F5 t) c f=some (LV t a b)/\BJ (F5 t) c=true:=by
 cases t<;>simp only[HD,Ah]at g<;>(unfold Can at e d;cases e;cases d;simp[bb,LV,F5,BJ])
theorem Z7:∀{r:Ty} (_:IA r=true) {a b:D r} {f lb:List CV},Can r a f->Can r b lb->bd (F4 r) f lb=some (J6 r a b)/\BQ (F4 r) f=true:=by
 intro r
 induction r with
 |one t=>
  intro c a b f lb e d;unfold Can at e d;obtain⟨q,rfl,e⟩:=e;obtain⟨p,rfl,d⟩:=d;have:=Ud c e d;simp[F4,bd,J6,BQ,this.1,this.2]
 |cons t r iht ihr=>
  intro c a b f lb e d;simp only[IA,Ag]at c;unfold Can at e d;obtain⟨q,o,rfl,j,i⟩:=e;obtain⟨p,m,rfl,h,g⟩:=d;have l:=Ud c.1 j h;have k:=ihr c.2 i g;simp[F4,bd,J6,BQ,l.1,l.2,k.1,k.2]
 |_=>intro c;cases c
theorem Hr{k:Ty}(g:DT k=true){a b:D k}{f h:CV}(d:Can k a [f])(c:Can k b [h]):C3 (b4 k) f h=aj k a b/\AE (b4 k) f=true:=by
 cases k<;>simp only[DT,HD,Ah]at g
 case agg r=>
  unfold Can at d c;obtain⟨i,e,d⟩:=d;cases e;obtain⟨lb,e,c⟩:=c;cases e;have:=Z7 g d c;simp[b4,C3,AE,aj,this.1,this.2]
 all_goals(unfold Can at d c;cases d;cases c;simp[bb,aj,b4,F5,C3,AE,BJ])
theorem Mu{k v:Ty}(j:DT k=true){x:D k}{g:CV}(i:Can k x [g]){e:D v}{z:CV}(h:Can v e [z]):∀{m:List (D k×D v)} {ks vs:List CV},CanAll (fun x c=>Can k x.1 [c]) m ks->CanAll (fun x c=>Can v x.2 [c]) m vs->
  ∃c,AK (b4 k) z ks vs g=(c,(AP (aj k) e x m).2)/\Can v (AP (aj k) e x m).1 [c]
 | [],ks,vs,d,b=>by
  unfold CanAll at d b;subst d;subst b;exact⟨z,rfl,h⟩
 |p::m,ks,vs,d,b=>by
  obtain⟨u,f,rfl,s,d⟩:=d;obtain⟨t,q,rfl,r,b⟩:=b;have l:=(Hr j i s).1;obtain⟨c,q1,q2⟩:=Mu j i h d b;unfold AP
  cases o:aj k x p.1 with
  |true=>
   refine⟨t, ?_,by simpa using r⟩;simp[AK,AH,l,o]
  |false=>
   refine⟨c, ?_,by simpa using q2⟩;simp only[Ah,if_false];rw[<-q1];simp only[AK,AH,l,o,Ah,if_false];cases AH (b4 k) g f<;>simp
theorem Mg{k v:Ty}(q:DT k=true){x:D k}{d:CV}(l:Can k x [d]){y:D v}{i:CV}(j:Can v y [i]):∀{m:List (D k×D v)} {ks vs:List CV},CanAll (fun x c=>Can k x.1 [c]) m ks->CanAll (fun x c=>Can v x.2 [c]) m vs->
  CanAll (fun x c=>Can k x.1 [c]) (Bk (aj k) x y m) (Bc (b4 k) ks d)/\CanAll (fun x c=>Can v x.2 [c]) (Bk (aj k) x y m) (Be (b4 k) ks vs d i)
 | [],ks,vs,f,e=>by
  unfold CanAll at f e;subst f;subst e;exact⟨⟨d,[],rfl,l,rfl⟩,⟨i,[],rfl,j,rfl⟩⟩
 |p::m,ks,vs,f,e=>by
  obtain⟨s,b,rfl,o,f⟩:=f;obtain⟨u,h,rfl,t,e⟩:=e;have g:=(Hr q l o).1;obtain⟨q1,q2⟩:=Mg q l j f e;unfold Bk
  cases r:aj k x p.1 with
  |true=>
   simp only[if_true];rw[r]at g;exact⟨⟨s,b,by simp[Bc,AH,g],o,f⟩,⟨i,h,by simp[Be,AH,g],j,e⟩⟩
  |false=>
   simp only[Ah,if_false];rw[r]at g;refine⟨⟨s,Bc (b4 k) b d, ?_,o,q1⟩,⟨u,Be (b4 k) b h d i, ?_,t,q2⟩⟩
   ·simp only[Bc,AH,g,Ah,if_false];cases AH (b4 k) d b<;>simp
   ·simp only[Be,AH,g,Ah,if_false];cases AH (b4 k) d b<;>simp
theorem Vb{k v:Ty}(b:DT k=true):∀{m:List (D k×D v)} {ks:List CV},CanAll (fun x c=>Can k x.1 [c]) m ks->ks.all (AE (b4 k))=true
 | [],ks,h=>by unfold CanAll at h;subst h;rfl
 |p::m,ks,h=>by
  obtain⟨c,e,rfl,d,f⟩:=h;simp[(Hr b d d).2];simpa using Vb b f
end WB
