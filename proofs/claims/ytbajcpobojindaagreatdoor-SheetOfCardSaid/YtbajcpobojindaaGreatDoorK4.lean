/-
  OWN TEXTS, MERGED (wip/merge.py): CoreWq, CoreX, CoreY, CoreZ, CoreZa, CoreYb, CoreZr, CoreTa, CoreTb, CoreTc, CoreTd, CoreTe. No condition of their own.
-/
import Derived.Test.YtbajcpobojindaaGreatDoorK3
import Derived.Deep.LoopGhost
import Derived.IntWalk
import Derived.Deep.Slices
import Derived.Deep.Fields
import Derived.ChangeSame
import Derived.ChangeShapes
import Derived.ProofKit
import Derived.OpenShut
set_option linter.unusedVariables false
set_option linter.unusedSimpArgs false
open Go.IntKind (i64 u64 u8 u32)
namespace WB
open Go Go.RowKit
def MR(P:Program)(ops:Array Oper)(A D:List Nat)(ls:List SL)(c:Nat):Bool:=
 CO P ops A D ls&&CO P (ops.extract 0 c) A D (ls.take c)&&Nat.blt c ops.size&&
 (List.range ls.length).all fun j=>Nat.blt j c||(List.range c).all fun i=>((D5 ops ls.length).getD j 0).testBit i
def V1(ls:List SL):Option Nat:=
 match ls.findIdx? fun l=>l.op.calls with
 |some c=>if(ls.take c).any fun l=>match l.op with| .mkmap .. =>true|_=>false then some c else none
 |none=>none
def Er(c n:Nat):Array Bool:=Array.replicate c true++Array.replicate (n-c) false
theorem Nh{c n:Nat}(h:c≤n):(Er c n).size=n:=by simp[Er];omega
theorem I7{c n j:Nat}{b:Bool}(hj:j<n)(hc:c≤n):(Er c n).getD j b=decide (j<c):=by
 unfold Er;rw[Array.getD_eq_getD_getElem?];by_cases h:j<c
 ·rw[Array.getElem?_append_left (by simpa using h)];simp[h]
 ·rw[Array.getElem?_append_right (by simpa using Nat.le_of_not_lt h)];rw[Array.getElem?_replicate,if_pos (by rw[Array.size_replicate];omega),Ak h];rfl
section
variable {P:Program} {E:Env} {n:Nat} {ops:Array Oper} {A D:List Nat} {ls:List SL}
theorem Gv{α:Type}{L:Array α}{c j:Nat}(hj:j<c):(L.extract 0 c)[j]? =L[j]? :=by
 rw[Array.getElem?_extract];split
 ·simp
 ·rename_i h;rw[Array.getElem?_eq_none (by omega)]
theorem WN{c N:Nat}(hc:c<ops.size)(hback:∀i o,ops[i]? =some o→∀e∈o.after,Region.binds .any e=true→e.on<i)(hanc:∀j,c≤j→j<ops.size→∀i<c,Fz ops N i j=true){L:Array Bool}{is:List Nat}(hg:CB ops L is):
  L.size=ops.size→(∀j,c≤j→j<ops.size→L.getD j true=false)→(∀i o,L.getD i false=true→ops[i]? =some o→∀e∈o.after,Region.binds .any e=true→L.getD e.on false=true)→
  ∃is1 is2,is=is1++is2∧CB (ops.extract 0 c) (L.extract 0 c) is1∧CB ops (Er c ops.size) is2:=by
 induction hg with
 | @nil L' h=>
  intro hsz hlo _;exfalso
  have:c∈left ops.size L':=by
   unfold left;rw[List.mem_filter,List.mem_range];exact⟨hc,by rw[hlo c (Nat.le_refl _) hc];rfl⟩
  rw[h]at this;cases this
 | @cons L i is hi hL he hg ih=>
  intro hsz hlo hdown;have hsz1:(ops.extract 0 c).size=c:=by simp;omega
  by_cases hic:i<c
  ·obtain⟨is1,is2,e1,e2,e3⟩:=ih (by simp[hsz]) (fun j hj hjn=>by
    rw[Ht L i j true hL,if_neg (by omega)]
    exact hlo j hj hjn) (fun k o hk ho e hee hb=>by
    rw[Ht L i _ _ hL]at hk⊢;split
    ·rfl
    ·by_cases hki:k=i
     ·subst hki;exact he o ho e hee hb
     ·rw[if_neg hki]at hk
      exact hdown k o hk ho e hee hb)
   refine⟨i::is1,is2,by rw[e1];rfl,.cons (by rw[hsz1];exact hic) ?_ ?_ ?_,e3⟩
   ·rw[Array.getD_eq_getD_getElem?,Gv hic,←Array.getD_eq_getD_getElem?];exact hL
   ·intro o ho e hee hb;rw[Gv hic]at ho;have h1:=he o ho e hee hb;have h2:=hback i o ho e hee hb;rw[Array.getD_eq_getD_getElem?,Gv (by omega),←Array.getD_eq_getD_getElem?];exact h1
   ·have hx:(L.extract 0 c).setIfInBounds i true=(L.setIfInBounds i true).extract 0 c:=by
     apply Array.ext_getElem?;intro j;by_cases hj:j<c
     ·rw[Gv hj,Array.getElem?_setIfInBounds,Array.getElem?_setIfInBounds,Gv hj];have:i<L.size:=by omega
      have h2:i<(L.extract 0 c).size:=by simp;omega
      by_cases hji:i=j
      ·rw[if_pos hji,if_pos hji,if_pos h2,if_pos this]
      ·rw[if_neg hji,if_neg hji]
     ·rw[Array.getElem?_eq_none (by simp;omega),Array.getElem?_eq_none (by simp;omega)]
    rw[hx];exact e2
  ·have hall:∀k,k<c→L.getD k false=true:=fun k hk=>JM hdown N k i he (hanc i (Nat.le_of_not_lt hic) hi k hk)
   have hlt:∀k,k<c→L.getD k true=true:=fun k hk=>by
    have h1:=hall k hk;rw[Array.getD_eq_getD_getElem?]at h1⊢;rw[Array.getElem?_eq_getElem (by omega)]at h1⊢;simpa using h1
   have hLe:L=Er c ops.size:=by
    apply Array.ext_getElem?;intro j;by_cases hj:j<ops.size
    ·have h1:(Er c ops.size).getD j true=decide (j<c):=I7 hj (Nat.le_of_lt hc)
     have h2:L.getD j true=decide (j<c):=by
      by_cases hjc:j<c
      ·rw[hlt j hjc,Al hjc]
      ·rw[hlo j (Nat.le_of_not_lt hjc) hj,Ak hjc]
     rw[Array.getD_eq_getD_getElem?]at h1 h2;have s1:=Nh (Nat.le_of_lt hc);rw[Array.getElem?_eq_getElem (by omega)]at h1 h2⊢;rw[Array.getElem?_eq_getElem (by omega)];simp at h1 h2;rw[h1,h2]
    ·have s1:=Nh (Nat.le_of_lt hc);rw[Array.getElem?_eq_none (by omega),Array.getElem?_eq_none (by omega)]
   refine⟨[],i::is,rfl,.nil ?_, ?_⟩
   ·rw[hsz1];unfold left;rw[List.filter_eq_nil_iff];intro k hk;have hk':=List.mem_range.1 hk;rw[Array.getD_eq_getD_getElem?,Gv hk',←Array.getD_eq_getD_getElem?,hlt k hk'];decide
   ·rw[←hLe];exact .cons hi hL he hg
theorem QT{D:Option (List Nat)}{c:Nat}:∀(is:List Nat) (st:St),(∀i∈is,i<c)→Cq E D (ls.take c) is st=Cq E D ls is st
 | [],_,_=>rfl
 |i::is,st,h=>by
  simp only[Cq];rw[List.getElem?_take,if_pos (h i (by simp))]
  cases ls[i]? with
  |none=>rfl
  |some l=>
   simp only
   congr 1
   funext s;exact QT is s fun j hj=>h j (by simp[hj])
theorem YP(hlen:ls.length=ops.size){c:Nat}(hcn:c≤ops.size)(hd:CO P ops A D ls=true){st st':St}(hm:∀l∈ls.drop c,l.own A=none)(hv:BU E (some D) (ls.drop c) st=some st'){is:List Nat}(hg:CB ops (Er c ops.size) is):
  Cq E (some D) ls is st=some st':=by
 simp only[CO,Af]at hd;obtain⟨⟨⟨⟨_,hown⟩,hback⟩,hmk⟩,hfr⟩:=hd
 have hb':∀i o,ops[i]? =some o→∀e∈o.after,Region.binds .any e=true→e.on<i:=by
  intro i o ho e he hb;rw[List.all_eq_true]at hback
  have hmem:(o,i)∈ops.toList.zipIdx:=by
   rw[List.mem_zipIdx_iff_getElem?];simpa using ho
  have:=hback _ hmem;rw[Array.all_eq_true']at this;have:=this e he;simpa[hb]using this
 have hlst:∀(ls':List SL) {s s':St},(∀l∈ls',l.own A=none)→BU E (some D) ls' s=some s'→lsT E A D ls' s=some s':=by
  intro ls'
  induction ls' with
  |nil=>intro s s' _ h;exact h
  |cons l ls' ih=>
   intro s s' hn h;simp only[BU,Ab]at h;obtain⟨s1,h1,h2⟩:=h;have hok:okS A l s=true:=by unfold okS;rw[hn l (by simp)]
   simp only[lsT,EI hok h1,Option.bind_some];exact ih (fun x hx=>hn x (by simp[hx])) h2
 have hv:=hlst _ hm hv;refine LT (A:=A) _ ?_;refine Nn hlen ?_ hg ?_ (Nh hcn) ?_ ?_
 ·intro j hj i hij;rw[List.all_eq_true]at hfr;have:=hfr j (List.mem_range.2 hj);rw[List.all_eq_true]at this;have:=this i (List.mem_range.2 hij);rw[Aj]at this;rcases this with h|h
  ·rw[FK ops hj]at h;exact .inl (H6 ops hj h)
  ·refine .inr ?_;split at h
   ·rename_i x y hx hy;exact⟨x,y,hx,hy,h⟩
   ·cases h
 ·intro i o hi ho e he hb;have hin:i<ops.size:=(Array.getElem?_eq_some_iff.1 ho).1;rw[I7 hin hcn]at hi;have h1:=hb' i o ho e he hb;have h2:i<c:=by simpa using hi
  rw[I7 (by omega) hcn];simp;omega
 ·intro k _ l hl hmake j hj;rw[List.all_eq_true]at hmk;have:=hmk l (List.mem_of_getElem? hl);simpa[hmake,hj]using this
 ·have hleft:left ops.size (Er c ops.size)=List.range' c (ops.size-c):=by
   unfold left;rw[List.range_eq_range',show ops.size=c+(ops.size-c) by omega,←List.range'_append_1,List.filter_append]
   have e1:((List.range' 0 c).filter fun i=> !(Er c (c+(ops.size-c))).getD i true)= []:=by
    rw[List.filter_eq_nil_iff];intro i hi;have:=(List.mem_range'_1.1 hi).2;rw[I7 (by omega) (by omega),Al (by omega)];decide
   have e2:((List.range' (0+c) (ops.size-c)).filter fun i=> !(Er c (c+(ops.size-c))).getD i true)=List.range' (0+c) (ops.size-c):=by
    rw[List.filter_eq_self];intro i hi;have:=(List.mem_range'_1.1 hi);rw[I7 (by omega) (by omega),Ak (by omega)];rfl
   rw[e1,e2];simp
  rw[hleft];have h1:=Lf (E:=E) (A:=A) (D:=D) (ls.drop c) (ls.take c) st;rw[List.take_append_drop,List.length_take,List.length_drop,Nat.min_eq_left (by omega),hlen]at h1;rw[h1];exact hv
variable {w0:WL} {M0:MM}
theorem QU(hE:EOk P E){D:Option (List Nat)}(hc:Aq (De P n ops) ops.toList=some ls){Q:Exit→Act→World→Prop}{js:List Nat}:∀{is:List Nat} {st st':St} {a:Act} {w:World} {z:Cz},SR P E.G w0 M0 n st a w z→
  Cq E D ls is st=some st'→(∀a' w' z',SR P E.G w0 M0 n st' a' w' z'→wpOps P ops Q js a' w')→wpOps P ops Q (is++js) a w
 | [],st,st',a,w,z,h,hv,hK=>by
  simp only[Cq,Ac]at hv;subst hv;exact hK _ _ _ h
 |i::is,st,st',a,w,z,h,hv,hK=>by
  simp only[Cq]at hv;split at hv<;>(try cases hv;done);rename_i l hl;simp only[Ab]at hv;obtain⟨st1,h1,h2⟩:=hv;have hlen:=DB hc;have hi:i<ops.toList.length:=by rw[←hlen];exact(Ae.1 hl).1
  have ho:ops.toList[i]? =some (ops.toList[i]):=Ai hi;obtain⟨l',g1,g2⟩:=If hc ho;rw[hl]at g1;simp only[Ac]at g1;subst g1;have ho':ops[i]? =some (ops.toList[i]):=by rw[←Array.getElem?_toList];exact ho
  exact Ks hE h ho' g2 h1 fun a' w' z' hS=>QU hE hc hS h2 hK
theorem Qm(hE:EOk P E){id c:Nat}(hls:Aq (De P n ops) ops.toList=some ls)(hd:MR P ops A D ls c=true)(hm:(ls.drop c).all (fun l=>(l.own A).isNone)=true){Q:Exit→Act→World→Prop}{st st1:St}{a:Act}{w:World}{z:Cz}(h:SR P E.G w0 M0 n st a w z)(h1:BU E (some D) (ls.take c) st=some st1)
  (K:∀a' w' z',SR P E.G w0 M0 n st1 a' w' z'→∃st2 z2 st3,SR P E.G w0 M0 n st2 a' w' z2∧BU E (some D) (ls.drop c) st2=some st3∧∀a'' w'' z'',SR P E.G w0 M0 n st3 a'' w'' z''→Q .normal a'' w''):(Code.region id ops true).wp P Q a w:=by
 simp only[MR,Af]at hd;obtain⟨⟨⟨hd1,hd2⟩,hcn⟩,hanc⟩:=hd;have hcn':c<ops.size:=Ah hcn;have hlen:ls.length=ops.size:=by rw[DB hls];simp
 have hd1':=hd1;simp only[CO,Af]at hd1';obtain⟨⟨⟨⟨hmx,_⟩,hback⟩,_⟩,_⟩:=hd1'
 have hb':∀i o,ops[i]? =some o→∀e∈o.after,Region.binds .any e=true→e.on<i:=by
  intro i o ho e he hb;rw[List.all_eq_true]at hback
  have hmem:(o,i)∈ops.toList.zipIdx:=by
   rw[List.mem_zipIdx_iff_getElem?];simpa using ho
  have:=hback _ hmem;rw[Array.all_eq_true']at this;have:=this e he;simpa[hb]using this
 refine wp_region_draw fun t=> ?_
 have hg0:CB ops (Array.replicate ops.size false) (Region.schedule (P.follows .mixedOrders) ops t):=by
  simp only[Region.schedule,hmx,Bool.true_or,if_true,Region.linearise];exact IQ hb' ops.size t _ (by simp) (by rw[N7];simp)
 obtain⟨is1,is2,e1,g1,g2⟩:=WN (N:=ls.length) hcn' hb' (fun j hj hjn i hi=>by
  rw[List.all_eq_true]at hanc;have:=hanc j (List.mem_range.2 (by omega));rw[Aj]at this;rcases this with h|h
  ·have:j<c:=Ah h;omega
  ·rw[List.all_eq_true]at h;have:=h i (List.mem_range.2 hi);rw[FK ops (show j<ls.length by omega)]at this
   exact H6 ops (by omega) this) hg0 (by simp) (fun j _ hjn=>by simp[Array.getD_eq_getD_getElem?,hjn]) (fun i o hi=>by
  exfalso;rw[Array.getD_eq_getD_getElem?,Array.getElem?_replicate]at hi
  split at hi<;>cases hi)
 rw[e1]
 have hx:(Array.replicate ops.size false).extract 0 c=Array.replicate (ops.extract 0 c).size false:=by
  apply Array.ext_getElem?;intro j;simp only[Array.getElem?_replicate,Array.size_extract];by_cases hj:j<c
  ·rw[Gv hj,Array.getElem?_replicate,if_pos (by omega),if_pos (by omega)]
  ·rw[Array.getElem?_eq_none (by simp;omega),if_neg (by omega)]
 rw[hx]at g1;have hlt1:=Rj g1
 have hs1:Cq E (some D) ls is1 st=some st1:=by
  rw[←QT (c:=c) is1 st (fun i hi=>by have:=hlt1 i hi;simp at this;omega)];exact Q1 (by simp[hlen]) hd2 h1 g1
 have hgr:SR P E.G w0 M0 n st a {w with drawn:=w.drawn+1} z:=h.grow ⟨rfl,rfl,rfl,Nat.le_refl _,fun _ _=>rfl⟩;refine QU hE hls hgr hs1 fun a' w' z' hS=> ?_;obtain⟨st2,z2,st3,k1,k2,k3⟩:=K a' w' z' hS
 have hs2:=YP hlen (Nat.le_of_lt hcn') hd1 (fun l hl=>by
  have:=List.all_eq_true.1 hm l hl
  simpa using this) k2 g2
 exact I2 hE hls k1 hs2 k3
end
def Aan(P:Program)(o:Oper)(l:SL):Bool:=
 match l.op.cls with
 | .new=>true
 | .call=>match P.underlying o.type with
  |some (.slice _)|some (.map _ _)=>true
  |_=>false
 |_=>false
def H8(P:Program)(ops:List Oper)(ls:List SL):List Nat:=(ops.zip ls).filterMap fun p=>if Aan P p.1 p.2 then p.2.dst else none
def Ez(ls:List SL):List Nat:=ls.filterMap fun l=>if l.op.makes then l.dst else none
def Ts(ls:List SL):List Nat:=
 let CS:=ls.filterMap fun l=>match l.op with| .append .. =>l.dst|_=>none
 if ls.any fun l=>match l.op with| .call _ xs=>xs.any fun x=>x.slot.any CS.contains|_=>false then
  ls.filterMap fun l=>match l.op,l.dst with
   | .mksl ..,some d| .call ..,some d=>if ls.any fun m=>match m.op with| .append _ _ _ (.t i) _=>i==d| .call _ xs=>xs.any fun x=>x.slot.contains d|_=>false then some d else none
   |_,_=>none
 else []
def DY(P:Program)(ops:Array Oper)(ls:List SL):List Nat:=if CO P ops (FJ ls) (Ts ls++Ez ls) ls then Ts ls++Ez ls else Ez ls
def IL(P:Program)(ops:Array Oper)(ls:List SL):List Nat:=DY P (FR (IK ops ls) ops) (permL (IK ops ls) ls)
def Qj(P:Program)(ops:Array Oper)(ls:List SL):Option Cc:=
 (V1 ls).bind fun c=>if MR P ops (FJ ls) (Ez ls) ls c=true∧(ls.drop c).all (fun l=>(l.own (FJ ls)).isNone)=true then some (.seq (.reg true (Ez ls) (ls.take c)) (.reg true (Ez ls) (ls.drop c)))else none
def Io(P:Program)(n:Nat)(ops:Array Oper)(draw:Bool):Option Cc:=match Aq (De P n ops) ops.toList with
 |some ls=>if draw then(match Qj P ops ls with|some sc=>some sc|none=>if Kh P ops (FJ ls) (DY P ops ls) ls then some (.regE (DY P ops ls) ls)else if CO P ops (FJ ls) (DY P ops ls) ls then some (.reg true (DY P ops ls) ls)else if MX P ops (IK ops ls) (FJ (permL (IK ops ls) ls)) (IL P ops ls) ls then some (.reg true (IL P ops ls) (permL (IK ops ls) ls))else some .bad)else some (.reg false (H8 P ops.toList ls) ls)
 |none=>some .bad
def Lj(n:Nat)(ops:Array Oper):Option (Nat×Nat×Nat):=
 match ops.toList with
 | [x,y]=>match x.op,x.dst,x.guard,y.op,y.dst,y.guard with
  | .next (.tmp it) false,some d,none,.extract (.tmp d') 0,some ok,none=>if(Nat.beq d' d&&Nat.blt d n&&Nat.blt ok n&& !Nat.beq d ok)=true then some (it,d,ok)else none
  |_,_,_,_,_,_=>none
 |_=>none
theorem XH{n:Nat}{ops:Array Oper}{it d ok:Nat}(h:Lj n ops=some (it,d,ok)):∃x y,ops= #[x,y]∧x.op=.next (.tmp it) false∧x.dst=some d∧x.guard=none∧y.op=.extract (.tmp d) 0∧y.dst=some ok∧y.guard=none∧d<n∧ok<n∧d≠ok:=by
 unfold Lj at h;split at h<;>(try cases h;done);rename_i x y hl;split at h<;>(try cases h;done);rename_i it' d' d'' ok' h1 h2 h3 h4 h5 h6;split at h<;>(try cases h;done);rename_i hh;simp only[Ac,Prod.mk.injEq]at h;obtain⟨rfl,rfl,rfl⟩:=h;simp only[Af,Bool.not_eq_true']at hh;obtain⟨⟨⟨g1,g2⟩,g3⟩,g4⟩:=hh;have g1':=Nat.eq_of_beq_eq_true g1;subst g1';have lt:∀{i m:Nat},Nat.blt i m=true→i<m:=fun h=>Ah h;exact⟨x,y,Array.toList_inj.1 hl,h1,h2,h3,h4,h5,h6,lt g2,lt g3,fun e=>by subst e;simp at g4⟩
def B7(P:Program)(n:Nat):Code→Option Cc
 | .skip=>some .skip
 | .region _ ops draw=>match cond draw none (Lj n ops)with
  |some p=>some (.mnext p.1 p.2.1 p.2.2)
  |none=>Io P n ops draw
 | .seq a b=>(B7 P n a).bind fun x=>(B7 P n b).map fun y=>.seq x y
 | .cond c a b=>(An c).bind fun c=>(B7 P n a).bind fun x=>(B7 P n b).map fun y=>.cond c x y
 | .block id b=>(B7 P n b).map (.block id)
 | .loop b=>(B7 P n b).map .loop
 | .exit id=>some (.exit id)
 | .label _=>some .skip
 | .scope b=>B7 P n b
 | .ret=>some .ret
 |_=>some .bad
def Wo:Ex→Exit
 | .normal=>.normal
 | .exit i=>.exit i
 | .ret=>.ret
section
variable {P:Program} {E:Env} {w0:WL} {M0:MM} {n:Nat}
def Fv(P:Program)(E:Env)(w0:WL)(M0:MM)(n:Nat)(Q:Ex→St→Prop)(e:Exit)(a:Act)(w:World):Prop:=
 ∃e' st z,Wo e'=e∧Q e' st∧SR P E.G w0 M0 n st a w z
theorem Ou(hE:EOk P E){id:Nat}{ops:Array Oper}{draw:Bool}{sc:Cc}(hc:Io P n ops draw=some sc){Q:Ex→St→Prop}{st:St}{a:Act}{w:World}{z:Cz}(h:SR P E.G w0 M0 n st a w z)
  (hp:pwp E sc Q st):(Code.region id ops draw).wp P (Fv P E w0 M0 n Q) a w:=by
 simp only[Io]at hc;split at hc
 case h_2=>cases hc;exact hp.elim
 rename_i ls hls;have hlen:=DB hls
 have start:∀D:List Nat,∃z',SR P E.G w0 M0 n (if D.isEmpty then st else kill D st) a w z':=fun D=>by
  split
  ·exact⟨z,h⟩
  ·exact⟨z,h.killed D⟩
 cases draw with
 |false=>
  simp only[Ag,if_false,Ac]at hc;subst hc;obtain⟨st',hv,hq⟩:=hp;unfold Cd at hv;simp only[Ag,if_false]at hv;obtain⟨z',hS⟩:=start (H8 P ops.toList ls);refine wp_region ?_;have hseq:=QO E none ls [] (if(H8 P ops.toList ls).isEmpty then st else kill (H8 P ops.toList ls) st);rw[hv]at hseq;simp only[List.nil_append,List.length_nil]at hseq;rw[List.range_eq_range',←Array.length_toList,←hlen];exact I2 hE hls hS hseq fun a' w' z'' hS'=>⟨.normal,st',z'',rfl,hq,hS'⟩
 |true=>
  have plain:CO P ops (FJ ls) (DY P ops ls) ls=true→∀st',Cd E true (DY P ops ls) ls st=some st'→Q .normal st'→(Code.region id ops true).wp P (Fv P E w0 M0 n Q) a w:=fun hd st' hv hq=>by
   unfold Cd at hv;simp only[if_true]at hv;obtain⟨z',hS⟩:=start (DY P ops ls);refine wp_region_draw fun t=> ?_;have hseq:=VF hls hd hv t;have hg:SR P E.G w0 M0 n (if(DY P ops ls).isEmpty then st else kill (DY P ops ls) st) a {w with drawn:=w.drawn+1} z':=hS.grow ⟨rfl,rfl,rfl,Nat.le_refl _,fun _ _=>rfl⟩;exact I2 hE hls hg hseq fun a' w' z'' hS'=>⟨.normal,st',z'',rfl,hq,hS'⟩
  simp only[if_true]at hc;split at hc
  ·rename_i sc' hcut;cases hc;obtain⟨c,_,hcut⟩:=Ab.1 hcut;split at hcut<;>(try cases hcut;done);rename_i hd;cases hcut;obtain⟨st1,hv1,st3,hv3,hq⟩:=hp;unfold Cd at hv1 hv3;simp only[if_true]at hv1 hv3;obtain⟨z',hS⟩:=start (Ez ls);refine Qm hE hls hd.1 hd.2 hS hv1 fun a' w' z'' hS'=> ?_
   have start2:∃z3,SR P E.G w0 M0 n (if(Ez ls).isEmpty then st1 else kill (Ez ls) st1) a' w' z3:=by
    split
    ·exact⟨z'',hS'⟩
    ·exact⟨z'',hS'.killed _⟩
   obtain⟨z3,hS3⟩:=start2;exact⟨_,z3,st3,hS3,hv3,fun a'' w'' z4 hS4=>⟨.normal,st3,z4,rfl,hq,hS4⟩⟩
  split at hc
  ·rename_i hd;cases hc
   have hdo:CO P ops (FJ ls) (DY P ops ls) ls=true:=by
    have hd':=hd;simp only[Kh,Af]at hd';exact hd'.1.2
   obtain⟨st',hv|hv,hq⟩:=hp
   ·exact plain hdo st' hv hq
   ·refine wp_region_draw fun t=> ?_;have hseq:=VG hls hd (Vs _) hv t;have hg:SR P E.G w0 M0 n (CL (kill (DY P ops ls) st)) a {w with drawn:=w.drawn+1} z:=(h.killed _).clean.grow ⟨rfl,rfl,rfl,Nat.le_refl _,fun _ _=>rfl⟩;exact Tk hE hls hg hseq fun a' w' z'' hS'=>⟨.normal,st',z'',rfl,hq,hS'⟩
  ·split at hc
   ·rename_i hd;cases hc;obtain⟨st',hv,hq⟩:=hp;exact plain hd st' hv hq
   ·split at hc
    case isFalse=>cases hc;exact hp.elim
    rename_i hd;cases hc;obtain⟨st',hv,hq⟩:=hp;unfold Cd at hv;simp only[if_true]at hv;obtain⟨z',hS⟩:=start (IL P ops ls);refine wp_region_draw fun t=> ?_;have hseq:=VH hls hd hv t;have hg:SR P E.G w0 M0 n (if(IL P ops ls).isEmpty then st else kill (IL P ops ls) st) a {w with drawn:=w.drawn+1} z':=hS.grow ⟨rfl,rfl,rfl,Nat.le_refl _,fun _ _=>rfl⟩;exact I2 hE hls hg hseq fun a' w' z'' hS'=>⟨.normal,st',z'',rfl,hq,hS'⟩
theorem YR{w w1:World}{r:Nat}{o:Obj}(hw:w1=w∨w1=w.drew):w.grownBy (Go.ChangeMaps.setBlock w1 r o) (some r):=by
 have h1:w1.os=w.os∧w1.tape=w.tape∧w1.output=w.output∧w1.heap=w.heap:=by rcases hw with rfl|rfl<;>exact⟨rfl,rfl,rfl,rfl⟩
 obtain⟨e1,e2,e3,e4⟩:=h1;refine⟨e1,e2,e3,by simp[Go.ChangeMaps.setBlock,e4],fun k _ hk=> ?_⟩;simp only[Go.ChangeMaps.setBlock,e4];rw[Array.getElem?_setIfInBounds];rw[if_neg (fun e=>hk (by rw[e]))]
theorem YQ{w w1:World}{r:Nat}{o o':Obj}(hw:w1=w∨w1=w.drew)(hr:w.heap[r]? =some o'):(Go.ChangeMaps.setBlock w1 r o).heap[r]? =some o:=by
 have e4:w1.heap=w.heap:=by rcases hw with rfl|rfl<;>rfl
 simp only[Go.ChangeMaps.setBlock,e4];rw[Array.getElem?_setIfInBounds];simp[heap_lt hr]
theorem Wg{ens rem:List MapEntry}{clk:Nat}(hE:Ens ens clk){f:MapEntry→Bool}(hp:rem.Perm (ens.filter f)){i:Nat}{e:MapEntry}(hi:rem[i]? =some e):rem.eraseIdx i=rem.filter fun x=>x.born !=e.born:=by
 have hn:(rem.map (·.born)).Nodup:=((hp.map (·.born)).nodup_iff).2 (List.Nodup.sublist (List.Sublist.map _ List.filter_sublist) hE.2.2);clear hp
 induction rem generalizing i with
 |nil=>simp at hi
 |cons x rem ih=>
  simp only[List.map_cons,List.nodup_cons]at hn
  cases i with
  |zero=>
   simp only[List.getElem?_cons_zero,Ac]at hi;subst hi;simp only[List.eraseIdx_cons_zero,List.filter_cons,bne_self_eq_false,Ag,if_false];symm;rw[List.filter_eq_self];intro y hy;simp only[bne_iff_ne,ne_eq];intro hh;exact hn.1 (List.mem_map.2 ⟨y,hy,hh⟩)
  |succ i=>
   simp only[List.getElem?_cons_succ]at hi
   have hne:(x.born !=e.born)=true:=by
    simp only[bne_iff_ne,ne_eq];intro hh;exact hn.1 (List.mem_map.2 ⟨e,List.mem_of_getElem? hi,hh.symm⟩)
   simp only[List.eraseIdx_cons_succ,List.filter_cons,hne,if_true];rw[ih hi hn.2]
theorem RelL.eraseIdx{w:World}{M:MM}:∀{cs:List CV} {vs:List Value} (i:Nat),RelL w M cs vs→RelL w M (cs.eraseIdx i) (vs.eraseIdx i)
 | [],_,_,h=>by unfold RelL at h;subst h;exact RelL.nil
 |_::_,_,0,h=>by
  unfold RelL at h;obtain⟨v,vs',rfl,_,h2⟩:=h;exact h2
 |_::_,_,i+1,h=>by
  unfold RelL at h;obtain⟨v,vs',rfl,h1,h2⟩:=h;exact RelL.cons h1 (RelL.eraseIdx i h2)
theorem RQ(hE:EOk P E){id:Nat}{ops:Array Oper}{it d ok:Nat}(hc:Lj n ops=some (it,d,ok)){Q:Ex→St→Prop}{st:St}{a:Act}{w:World}{z:Cz}(h:SR P E.G w0 M0 n st a w z)
  (hp:pwp E (.mnext it d ok) Q st):(Code.region id ops false).wp P (Fv P E w0 M0 n Q) a w:=by
 obtain⟨x,y,rfl,hx1,hx2,hx3,hy1,hy2,hy3,hd,hok,hne⟩:=XH hc;obtain⟨oid,ks,vs,cur,hit,hob,hq0,hq1⟩:=hp;refine wp_region ?_;show wpOps P #[x,y] _ [0,1] a w
 have second:∀{st1:St} {a1:Act} {w1:World} {z1:Cz} {b:Bool} {l:List CV} {st2:St},SR P E.G w0 M0 n st1 a1 w1 z1→st1.fr d=.c (.tup (.bool b::l))→st1.set (some ok) (.c (.bool b))=st2→Q .normal st2→wpOps P #[x,y] (Fv P E w0 M0 n Q) [1] a1 w1:=by
  intro st1 a1 w1 z1 b l st2 h1 hf h2 hQ
  have hc2:De P n #[x,y] y=some ⟨some ok,.ext (.t d) 0,none⟩:=by
   have e1:BC P y=some (.ext (.t d) 0):=by
    unfold BC;rw[hy1];rfl
   simp only[De,e1,Option.map_some,Lg,hy2,hy3,Option.bind_some];simp[G8,hok]
  refine Ks hE (D:=none) h1 (i:=1) (o:=y) rfl hc2 (st':=st2) ?_ fun a' w' z' hS=>⟨.normal,st2,z',rfl,hQ,hS⟩;have hv:so (E.at none).G st1.fr (.t d)=.c (.tup (.bool b::l)):=hf;simp only[Aw,A4,SOp.cls,Am,hv];subst h2;rfl
 have hfirst:∀{v:Value} {w1:World},(execOp a.eval x).run P w=.ok (.value v) w1→wpOps P #[x,y] (Fv P E w0 M0 n Q) [1] (a.put (some d) v) w1→wpOps P #[x,y] (Fv P E w0 M0 n Q) [0,1] a w:=by
  intro v w1 hrun hK;have h0:(#[x,y]:Array Oper)[0]? =some x:=rfl
  conv=>unfold wpOps
  simp only[h0];rw[if_pos (by simp[Region.wanted,hx3])];refine .inl ?_;unfold Oper.wp;rw[hrun];show wpOps P #[x,y] _ [1] (a.put x.dst v) w1;rw[hx2];exact hK
 have hr:=h.fr it;rw[hit]at hr;obtain⟨hlive,e1⟩:=hr;have ho:=h.ob oid;rw[hob]at ho;obtain⟨r,mo,since,seen,e2,hh,hm⟩:=ho
 have hev:a.eval (.tmp it)=.pointer (some ⟨r,0,none⟩):=by
  show a.tmps.getD it undef=_;rw[e1,e2]
 rcases hm with⟨rfl,rfl,rfl,_⟩|⟨m,ens,rem,rfl,e4,e5,e6,e7,e8,e9,_⟩
 ·refine hfirst (v:=.tuple #[.bool false]) (w1:=w) ?_ ?_
  ·simp only[execOp,hx1,hev];simp[Instr.next,getObj,Sem.run,hh,Result.andThen]
  ·refine second (b:=false) (l:= []) (h.put (fun i hi=>by cases hi;exact hd) (s:=.c (.tup [.bool false])) ?_) ?_ rfl (hq0 rfl)
   ·show RelC _ _ (.tup _) _;unfold RelC;exact⟨[.bool false],rfl,RelL.cons DH RelL.nil⟩
   ·show upd st.fr d _ d=_;rw[AZ]
 ·rcases run_next_at (P:=P) w x.type r m since since seen ⟨ens⟩ since hh e5 (fun y hy=>e6.2.1 y hy) (Nat.le_refl _)with⟨h0,hrun⟩|⟨e,he,w1,hw1,hrun⟩
  ·have hk0:ks= []:=by
    have:(ens.filter fun e=> !seen.contains e.born)= []:=by
     have h0':=h0;unfold leftOf at h0';simpa using h0'
    rw[this]at e7;have hr0:=e7.length_eq;have:rem= []:=List.eq_nil_of_length_eq_zero (by simpa using hr0);subst this;exact List.eq_nil_of_length_eq_zero (by have:=e8.length;simpa using this.symm)
   refine hfirst (v:=.tuple #[.bool false]) (w1:=w) (by simp only[execOp,hx1,hev];simp[hrun]) ?_;refine second (b:=false) (l:= []) (h.put (fun i hi=>by cases hi;exact hd) (s:=.c (.tup [.bool false])) ?_) ?_ rfl (hq0 hk0)
   ·show RelC _ _ (.tup _) _;unfold RelC;exact⟨[.bool false],rfl,RelL.cons DH RelL.nil⟩
   ·show upd st.fr d _ d=_;rw[AZ]
  ·have hmem:e∈rem:=by
    refine e7.mem_iff.2 ?_;unfold leftOf at he;simpa using he
   have hens:e∈ens:=by
    have:=e7.mem_iff.1 hmem;exact(List.mem_filter.1 this).1
   obtain⟨i,hi⟩:=List.getElem?_of_mem hmem;have hlk:=e8.length;have hlv:=e9.length;have hil:i<rem.length:=(Ae.1 hi).1;simp only[List.length_map]at hlk hlv;obtain⟨k,hk⟩:∃k,ks[i]? =some k:=⟨ks[i],Ai (by omega)⟩;obtain⟨v,hv⟩:∃v,vs[i]? =some v:=⟨vs[i],Ai (by omega)⟩;obtain⟨u1,g1,g2⟩:=e8.get hk;obtain⟨u2,g3,g4⟩:=e9.get hv;rw[List.getElem?_map,hi]at g1 g3;cases g1;cases g3
   have hg:w.grownBy (Go.ChangeMaps.setBlock w1 r (.mapIter (some m) since (seen.push e.born) since)) (blk (z.σ oid)):=by
    rw[e2];exact YR hw1
   have hS:=SR.turn h (id:=oid) hlive (o':=.miter (ks.eraseIdx i) (vs.eraseIdx i) (some (k,v))) (by simp) hg (β':=z.β oid) (fun _ _ hh=>hh) (fun _ hh=>by cases hh) fun hk2 hz=>by
    refine⟨r,some m,since,seen.push e.born,e2,YQ hw1 hh,.inr ⟨m,ens,rem.eraseIdx i,rfl,fun hM=>e4 (hk2.less m (heap_lt e5) hM),(hk2.heap m (heap_lt e5) e4).trans e5,e6, ?_, ?_, ?_, ?_⟩⟩
    ·rw[Wg e6 e7 hi];have p2:=e7.filter fun x=>x.born !=e.born;refine p2.trans ?_;rw[List.filter_filter];refine List.Perm.of_eq (List.filter_congr fun x _=> ?_);simp only[Array.contains_push,Bool.not_or,bne];rw[Bool.and_comm]
    ·rw[Go.ChangeMaps.map_eraseIdx];exact RelL.keep hk2 _ _ (e8.eraseIdx i)
    ·rw[Go.ChangeMaps.map_eraseIdx];exact RelL.keep hk2 _ _ (e9.eraseIdx i)
    ·intro p hp;cases hp;exact⟨seen,e,rfl,hens,RelC.keep hk2 _ _ g2,RelC.keep hk2 _ _ g4⟩
   refine hfirst (v:=.tuple #[.bool true,e.key,e.val]) (w1:=Go.ChangeMaps.setBlock w1 r (.mapIter (some m) since (seen.push e.born) since)) (by simp only[execOp,hx1,hev];simp[hrun]) ?_;refine second (b:=true) (l:= [k,v]) (hS.put (d:=some d) (fun i hi=>by cases hi;exact hd) (s:=.c (.tup [.bool true,k,v])) ?_) ?_ ?_ (hq1 i k v hk hv)
   ·have hk2:=SR.turnK (M0:=M0) (z:=z) (st:=st) hlive (o':=.miter (ks.eraseIdx i) (vs.eraseIdx i) (some (k,v))) (by simp) hg (β':=z.β oid);show RelC _ _ (.tup _) _;unfold RelC;exact⟨[.bool true,e.key,e.val],rfl,RelL.cons DH (RelL.cons (RelC.keep hk2 _ _ g2) (RelL.cons (RelC.keep hk2 _ _ g4) RelL.nil))⟩
   ·show upd st.fr d _ d=_;rw[AZ]
   ·rfl
theorem GJ:∀(c:Cc) {Q Q':Ex→St→Prop} {st:St},(∀e s,Q e s→Q' e s)→pwp E c Q st→pwp E c Q' st
 | .skip,Q,Q',st,h,hp=>h _ _ hp
 | .regE _ _,Q,Q',st,h,⟨s,h1,h2⟩=>⟨s,h1,h _ _ h2⟩
 | .mnext _ _ _,Q,Q',st,h,⟨id,ks,vs,cur,h1,h2,h3,h4⟩=>⟨id,ks,vs,cur,h1,h2,fun hk=>h _ _ (h3 hk),fun i k v hk hv=>h _ _ (h4 i k v hk hv)⟩
 | .reg _ _ _,Q,Q',st,h,hp=>by
  obtain⟨s,h1,h2⟩:=hp;exact⟨s,h1,h _ _ h2⟩
 | .seq a b,Q,Q',st,h,hp=>by
  refine GJ a (fun e s hs=> ?_) hp
  cases e with
  |normal=>exact GJ b h hs
  |exit i=>exact h _ _ hs
  |ret=>exact h _ _ hs
 | .cond c x y,Q,Q',st,h,hp=>by
  obtain⟨b,h1,h2,h3⟩:=hp;exact⟨b,h1,fun hb=>GJ x h (h2 hb),fun hb=>GJ y h (h3 hb)⟩
 | .block id c,Q,Q',st,h,hp=>by
  refine GJ c (fun e s hs=> ?_) hp
  cases e with
  |normal=>exact h _ _ hs
  |exit i=>
   simp only at hs⊢;split<;>rename_i hi
   ·rw[if_pos hi]at hs;exact h _ _ hs
   ·rw[if_neg hi]at hs;exact h _ _ hs
  |ret=>exact h _ _ hs
 | .loop c,Q,Q',st,h,hp=>by
  obtain⟨R,h1,h2⟩:=hp;refine⟨R,h1,fun m s hs=>GJ c (fun e s' hs'=> ?_) (h2 m s hs)⟩
  cases e with
  |normal=>exact hs'
  |exit i=>exact h _ _ hs'
  |ret=>exact h _ _ hs'
 | .exit i,Q,Q',st,h,hp=>h _ _ hp
 | .ret,Q,Q',st,h,hp=>h _ _ hp
 | .bad,Q,Q',st,h,hp=>hp.elim
theorem F5(hE:EOk P E):∀(c:Code) {sc:Cc} {Q:Ex→St→Prop} {st:St} {a:Act} {w:World} {z:Cz},B7 P n c=some sc→SR P E.G w0 M0 n st a w z→pwp E sc Q st→c.wp P (Fv P E w0 M0 n Q) a w
 | .skip,sc,Q,st,a,w,z,hc,h,hp=>by
  simp only[B7,Ac]at hc;subst hc;exact wp_skip ⟨.normal,st,z,rfl,hp,h⟩
 | .region id ops draw,sc,Q,st,a,w,z,hc,h,hp=>by
  simp only[B7]at hc;split at hc
  ·rename_i p hn;cases hc
   cases draw with
   |true=>cases hn
   |false=>exact RQ hE hn h hp
  ·exact Ou hE hc h hp
 | .seq x y,sc,Q,st,a,w,z,hc,h,hp=>by
  simp only[B7,Ab,Aa]at hc;obtain⟨sx,hx,sy,hy,rfl⟩:=hc;refine wp_seq (wp_mono (F5 hE x hx h hp) fun e a' w' hpost=> ?_);obtain⟨e',st',z',he,hq,hS⟩:=hpost;subst he
  cases e' with
  |normal=>exact F5 hE y hy hS hq
  |exit i=>exact⟨.exit i,st',z',rfl,hq,hS⟩
  |ret=>exact⟨.ret,st',z',rfl,hq,hS⟩
 | .cond c x y,sc,Q,st,a,w,z,hc,h,hp=>by
  simp only[B7,Ab,Aa]at hc;obtain⟨so',hso,sx,hx,sy,hy,rfl⟩:=hc;obtain⟨b,h1,h2,h3⟩:=hp;have hr:=h.ctx.c hso h1;have hb:=Dp hr;exact wp_cond_split hb (fun hh=>F5 hE x hx h (h2 hh)) (fun hh=>F5 hE y hy h (h3 hh))
 | .block id c,sc,Q,st,a,w,z,hc,h,hp=>by
  simp only[B7,Aa]at hc;obtain⟨sx,hx,rfl⟩:=hc;refine wp_block (wp_mono (F5 hE c hx h hp) fun e a' w' hpost=> ?_);obtain⟨e',st',z',he,hq,hS⟩:=hpost;subst he
  cases e' with
  |normal=>exact⟨.normal,st',z',rfl,hq,hS⟩
  |exit i=>
   simp only at hq;show(if i=id then _ else _);split at hq
   ·rename_i hi;rw[if_pos hi];exact⟨.normal,st',z',rfl,hq,hS⟩
   ·rename_i hi;rw[if_neg hi];exact⟨.exit i,st',z',rfl,hq,hS⟩
  |ret=>exact⟨.ret,st',z',rfl,hq,hS⟩
 | .loop c,sc,Q,st,a,w,z,hc,h,hp=>by
  simp only[B7,Aa]at hc;obtain⟨sx,hx,rfl⟩:=hc;obtain⟨R,⟨m,hm⟩,hr⟩:=hp;refine wp_loop_ghost (fun k a w=>∃s z,R k s∧SR P E.G w0 M0 n s a w z) m ⟨st,z,hm,h⟩ fun k a' w' hI=> ?_;obtain⟨s,z',hR,hS⟩:=hI;refine wp_mono (F5 hE c hx hS (hr k s hR)) fun e a'' w'' hpost=> ?_;obtain⟨e',st',z'',he,hq,hS'⟩:=hpost;subst he
  cases e' with
  |normal=>
   obtain⟨k',hk',hR'⟩:=hq;exact⟨k',hk',st',z'',hR',hS'⟩
  |exit i=>exact⟨.exit i,st',z'',rfl,hq,hS'⟩
  |ret=>exact⟨.ret,st',z'',rfl,hq,hS'⟩
 | .exit i,sc,Q,st,a,w,z,hc,h,hp=>by
  simp only[B7,Ac]at hc;subst hc;exact wp_exit ⟨.exit i,st,z,rfl,hp,h⟩
 | .label l,sc,Q,st,a,w,z,hc,h,hp=>by
  simp only[B7,Ac]at hc;subst hc;exact wp_label ⟨.normal,st,z,rfl,hp,h⟩
 | .scope c,sc,Q,st,a,w,z,hc,h,hp=>by
  simp only[B7]at hc;refine wp_scope_straight (wp_mono (F5 hE c hc h hp) fun e a' w' hpost=> ?_);obtain⟨e',st',z',he,hq,hS⟩:=hpost;subst he;cases e'<;>exact⟨_,st',z',rfl,hq,hS⟩
 | .ret,sc,Q,st,a,w,z,hc,h,hp=>by
  simp only[B7,Ac]at hc;subst hc;exact wp_ret ⟨.ret,st,z,rfl,hp,h⟩
 | .goto _,sc,Q,st,a,w,z,hc,h,hp=>by cases hc;exact hp.elim
 | .rangeFunc _ _ _ _,sc,Q,st,a,w,z,hc,h,hp=>by cases hc;exact hp.elim
 | .refuse _,sc,Q,st,a,w,z,hc,h,hp=>by cases hc;exact hp.elim
end
inductive Bx where
 |tmp (t:Nat)
 |cell (t:Nat) (sz:Option Nat)
def Hh(P:Program):ResultVar→Option Bx
 | .tmp t=>some (.tmp t)
 | .cell a t=>(Dj P t).map (.cell a)
def E0(st:St):Bx→Option CV
 | .tmp t=>Cn st.ob (st.fr t)
 | .cell a sz=>(Bj st.ob sz (deref st.ob (st.fr a))).bind (Cn st.ob)
def HC:List CV→CV
 | [c]=>c
 |l=>.tup l
def DI(st:St)(rs:List Bx):Option CV:=(Aq (E0 st) rs).map HC
structure JJ where
 n:Nat
 code:Cc
 res:List Bx
def EB(P:Program)(f:FuncId):Option JJ:=
 if Bs P f then(P.funcs[f]?).bind fun fn=>fn.body.bind fun b=>if Nat.ble fn.ntmps As then(B7 P fn.ntmps b).bind fun c=>(Aq (Hh P) fn.results.toList).map fun rs=>⟨fn.ntmps,c,rs⟩else none else none
def G1(l:List CV):St:={fr:=fun i=>match l[i]? with|some c=>.c c|none=>.undef,ob:=fun _=>.none}
def fin(rs:List Bx)(r:CV)(e:Ex)(st:St):Prop:=
 match e with
 | .exit _=>False
 |_=>DI st rs=some r
section
variable {P:Program} {E:Env} {w0:WL} {M0:MM} {n:Nat} {st:St} {a:Act} {w:World} {z:Cz}
theorem UP{G:Nat→List CV}(h:SR P G w0 M0 n st a w z){b:Nat}{t:TypeId}{sz:Option Nat}(hs:Dj P t=some sz){sv:SV}(hl:Bj st.ob sz (deref st.ob (st.fr b))=some sv):
  ∃v,((asAddr (a.tmps.getD b undef)>>=fun ad=>loadVar t ad):Sem Value).run P w=.ok v w∧Ar w (Ao M0 z st.ob) z st.ob sv v:=by
 obtain⟨v,h1,h2⟩:=TU (x:=.tmp b) (sx:=.t b) h.ctx (fun _=>.inr rfl) hs rfl hl
 have hp:∃ad,a.tmps.getD b undef=.pointer (some ad):=by
  have hr:=h.ctx.deref (rd:=st.ob) (fun _=>.inr rfl) (h.fr b);generalize deref st.ob (st.fr b)=q at hr hl;generalize a.tmps.getD b undef=u at hr;cases q<;>(try simp only[Bj,reduceCtorEq]at hl;done)
  ·rename_i cv;cases cv<;>(try simp only[Bj,reduceCtorEq]at hl;done)
   ·unfold Ar RelC at hr;obtain⟨ad,_,e,_⟩:=hr;exact⟨ad,e⟩
   ·unfold Ar RelC at hr;obtain⟨g,_,_,e,_⟩:=hr;exact⟨_,e⟩
  ·obtain⟨_,g,_,e⟩:=hr;exact⟨_,e⟩
  ·obtain⟨_,g,_,_,_,e⟩:=hr;exact⟨_,e⟩
 obtain⟨ad,hp⟩:=hp;refine⟨v, ?_,h2⟩;have he:a.eval (.tmp b)=.pointer (some ad):=hp;rw[he]at h1;simp only[hp];exact h1
theorem XT{G:Nat→List CV}(h:SR P G w0 M0 n st a w z){rv:ResultVar}{sr:Bx}(hc:Hh P rv=some sr){c:CV}(ho:E0 st sr=some c):
  ∃v,(match rv with| .tmp t=>pure (a.tmps.getD t undef)| .cell b t=>(asAddr (a.tmps.getD b undef)>>=fun ad=>loadVar t ad):Sem Value).run P w=.ok v w∧RelC w (mm0 w0 M0 z) c v:=by
 cases rv with
 |tmp t=>
  simp only[Hh,Ac]at hc;subst hc;exact⟨_,rfl,ML h (fun _=>.inr rfl) (h.fr t) ho⟩
 |cell b t=>
  simp only[Hh,Aa]at hc;obtain⟨sz,hs,rfl⟩:=hc;simp only[E0,Ab]at ho;obtain⟨sv,hl,hcl⟩:=ho;obtain⟨v,h1,h2⟩:=UP h hs hl;exact⟨v,h1,ML h (fun _=>.inr rfl) h2 hcl⟩
theorem P9{G:Nat→List CV}(h:SR P G w0 M0 n st a w z){f:ResultVar→Sem Value}(hf:∀rv,f rv=(match rv with| .tmp t=>pure (a.tmps.getD t undef)| .cell b t=>(asAddr (a.tmps.getD b undef)>>=fun ad=>loadVar t ad))):∀{rvs:List ResultVar} {srs:List Bx} {cs:List CV},Aq (Hh P) rvs=some srs→Aq (E0 st) srs=some cs→
  ∃vs,(rvs.mapM f).run P w=.ok vs w∧RelL w (mm0 w0 M0 z) cs vs
 | [],srs,cs,h1,h2=>by
  simp only[Aq,Ac]at h1;subst h1;simp only[Aq,Ac]at h2;subst h2;exact⟨[],by simp,RelL.nil⟩
 |rv::rvs,srs,cs,h1,h2=>by
  simp only[Aq,Ab,Aa]at h1;obtain⟨s,hs,ss,hss,rfl⟩:=h1;simp only[Aq,Ab,Aa]at h2;obtain⟨c,hc,cs',hcs,rfl⟩:=h2;obtain⟨v,g1,g2⟩:=XT h hs hc;obtain⟨vs,g3,g4⟩:=P9 h hf hss hcs;rw[←hf]at g1;exact⟨v::vs,by rw[List.mapM_cons];simp[g1,g3],RelL.cons g2 g4⟩
theorem SI{G:Nat→List CV}(h:SR P G w0 M0 n st a w z){fn:Func}{rs:List Bx}(hc:Aq (Hh P) fn.results.toList=some rs){c:CV}(ho:DI st rs=some c):
  ∃v,(results fn a.tmps).run P w=.ok v w∧RelC w (mm0 w0 M0 z) c v:=by
 simp only[DI,Aa]at ho;obtain⟨cs,hcs,rfl⟩:=ho;obtain⟨vs,h1,h2⟩:=P9 h (f:=fun rv=>match rv with| .tmp t=>pure (a.tmps.getD t undef)| .cell b t=>do loadVar t (←asAddr (a.tmps.getD b undef))) (fun rv=>by cases rv<;>rfl) hc hcs
 have hr:(results fn a.tmps).run P w=.ok (if h:(⟨vs⟩:Array Value).size=1 then(⟨vs⟩:Array Value)[0]else .tuple ⟨vs⟩) w:=by
  have e:results fn a.tmps=(fn.results.mapM (fun rv=>match rv with| .tmp t=>pure (a.tmps.getD t undef)| .cell b t=>do loadVar t (←asAddr (a.tmps.getD b undef)))>>=fun(vs:Array Value)=>pure (if h:vs.size=1 then vs[0]else .tuple vs)):=rfl;rw[e,Array.mapM_eq_mapM_toList];generalize (fun(rv:ResultVar)=>(match rv with| .tmp t=>pure (a.tmps.getD t undef)| .cell b t=>do loadVar t (←asAddr (a.tmps.getD b undef)):Sem Value))=f at h1;simp[h1]
 refine⟨_,hr, ?_⟩;have hlen:=h2.length
 match cs,vs,h2,hlen with
 | [],[],h2,_=>
  simp only[HC];unfold RelC;exact⟨[],rfl,h2⟩
 | [c],[v],h2,_=>
  simp only[HC];unfold RelL at h2;obtain⟨v',vs',e,h3,_⟩:=h2;cases e;exact h3
 |c::c'::cs,v::v'::vs,h2,_=>
  simp only[HC];unfold RelC;exact⟨v::v'::vs,by simp,h2⟩
theorem Rq{P:Program}{G:Nat→List CV}{w:World}{M:MM}{n:Nat}{l:List CV}{vs:List Value}(hM:∀g,M g→g<w.heap.size)(hG:GOk G w M)(hl:l.length≤n)(h:RelL w M l vs)(hn:n≤As):
  SR P G (IS w) M n (G1 l) {tmps:=(⟨vs⟩:Array Value)++Array.replicate (n-(⟨vs⟩:Array Value).size) undef,defers:= []} w (z0 undef M.al):=by
 have hlen:=h.length;refine⟨?_,rfl,ND.2 (Below.refl _ _),hM,⟨fun _ g h'=>h'.elim,fun N cs _ h'=>(by cases h'),fun _ _=>rfl,hn⟩,hG,fun i=> ?_,fun id=>trivial,fun id g h'=>absurd rfl h',fun i j g _ h'=>absurd rfl h'⟩
 ·simp;omega
 ·simp only[G1]
  cases hi:l[i]? with
  |none=>trivial
  |some c=>
   obtain⟨v,h1,h2⟩:=h.get hi
   have hk:Br w M w (Ao M (z0 undef M.al) fun _=>Ob.none):=⟨Nat.le_refl _,fun _ _ _=>rfl,fun g _ hg=>by
    rcases hg with hg|⟨id,h',_⟩
    ·exact hg
    ·exact absurd rfl h',rfl⟩
   have hv:((⟨vs⟩:Array Value)++Array.replicate (n-(⟨vs⟩:Array Value).size) undef).getD i undef=v:=by
    have:i<vs.length:=(Ae.1 h1).1;rw[Array.getD_eq_getD_getElem?,Array.getElem?_append_left (by simpa using this)];simp[h1]
   show RelC w _ c _;simp only[hv];exact RelC.keep hk c v h2
theorem R9{w1:World}{G:Nat→List CV}{M:MM}(h:SR P G (IS w1) M n st a w z){c:CV}{v:Value}(hr:RelC w (mm0 (IS w1) M z) c v):RelC w M c v:=
 have hk:Br w (mm0 (IS w1) M z) w M:=⟨Nat.le_refl _,fun _ _ _=>rfl,fun _ _ hg=>⟨hg,fun _ hh=>hh⟩,funext fun N=>(h.nam.names N trivial).symm⟩
 RelC.keep hk _ _ hr
theorem Wy(hE:EOk P E){f:FuncId}{m:JJ}(hc:EB P f=some m){l:List CV}{r:CV}(hl:l.length≤m.n)(h:pwp E m.code (fin m.res r) (G1 l)):Bs P f=true∧CallsTo P E.G f l (.val r):=by
 unfold EB at hc;split at hc<;>(try cases hc;done);rename_i hb;refine⟨hb, ?_⟩;simp only[Ab,Aa,Ad]at hc;obtain⟨fn,hf,b,hbody,hn,c,hcode,rs,hrs,rfl⟩:=hc;intro w M vs hM hG hL;refine calls_of_wp hf hbody (wp_mono (F5 hE b hcode (Rq hM hG hl hL (Ah hn)) h) fun e a' w' hpost=> ?_);obtain⟨e',st',z',he,hq,hS⟩:=hpost;subst he
 have fin_:DI st' rs=some r→a'.defers= []∧∃v,(results fn a'.tmps).run P w'=.ok v w'∧∃u,Ending.returned v=.returned u∧Below w.heap.size w w'∧Gf P w' M w.heap.size u (.val r):=fun hr=>by
  obtain⟨v,h1,h2⟩:=SI hS hrs hr;exact⟨hS.defers,v,h1,v,rfl,ND.1 hS.below,R9 hS h2⟩
 cases e' with
 |normal=>exact fin_ hq
 |exit i=>exact hq.elim
 |ret=>exact fin_ hq
theorem EOk.add(hE:EOk P E){f:FuncId}{m:JJ}(hc:EB P f=some m){F:List CV→Option CV}(h:∀l r,F l=some r→l.length≤m.n∧pwp E m.code (fin m.res r) (G1 l)):
  EOk P {E with fn:=fun g l=>if g=f then(F l).map .val else E.fn g l}:=by
 refine⟨?_,hE.2,hE.3⟩;intro g l r hr;simp only at hr;split at hr
 ·rename_i e;subst e;simp only[Aa]at hr;obtain⟨r,hr,rfl⟩:=hr;obtain⟨h1,h2⟩:=h l r hr;exact Wy hE hc h1 h2
 ·exact hE.1 g l r hr
end
section
variable {E:Env} {Q:Ex→St→Prop} {st:St}
variable {D:Option (List Nat)} {K:St→Prop} {ls:List SL}
end
def Pd(p:Prop):Prop:=p
theorem Pd.out{p:Prop}(h:Pd p):p:=h
def Wt(rs:List Bx)(o:Ob)(e:Ex)(st:St):Prop:=
 match e with
 | .exit _=>False
 |_=>∃t,rs= [.tmp t]∧((∃id,(st.fr t=.osl id∨st.fr t=.omap id)∧st.ob id=o∧DD o=true)∨(st.fr t=.c (.sl (some true) [])∧∃e size,o=.arr e size []))
section
variable {P:Program} {E:Env} {w0:WL} {M0:MM} {n:Nat} {st:St} {a:Act} {w:World} {z:Cz}
theorem EOk.nil(G:Nat→List CV):EOk P {G:=G,fn:=fun _ _=>none}:=⟨fun _ _ _ h=>(by cases h),fun _ h=>(by cases h),fun _ _ h=>(by cases h)⟩
end
end WB
namespace WB
open Go Go.RowKit Go.ChangeShapes Go.WideShapes Go.Deep
section
variable {H:Type} {enc:TypeId×Value→H} {P:Program} {w:World} {base:Nat} {spare:Nat→Bool} {held:Bool}
theorem QV{α:Type}{p:Nat→α→Prop}:∀(n:Nat),(∀i,i<n→∃x,p i x)→∃l:List α,l.length=n∧∀i x,l[i]? =some x→p i x
 |0,_=>⟨[],rfl,fun i x h=>by simp at h⟩
 |n+1,h=>by
  obtain⟨l,hl,hp⟩:=QV n (fun i hi=>h i (by omega));obtain⟨x,hx⟩:=h n (by omega);refine⟨l++ [x],by simp[hl],fun i y hy=> ?_⟩;by_cases hi:i<n
  ·rw[List.getElem?_append_left (by omega)]at hy;exact hp i y hy
  ·rw[List.getElem?_append_right (by omega)]at hy
   have:i-l.length=0:=by
    rcases Nat.eq_zero_or_pos (i-l.length)with h0|h0
    ·exact h0
    ·rw[List.getElem?_eq_none (by simp;omega)]at hy;cases hy
   rw[this]at hy;simp only[List.getElem?_cons_zero,Ac]at hy;subst hy;have:i=n:=by omega
   subst this;exact hx
theorem Ym{f:Func}{s:ChangeSpec}{apart fresh handsOn again:Bool}{W W':World}{args:Array Value}{v:Value}{ds gs:List (DataW H)}{before pa pv:List MemPlace}
  (hW:DataW.Whole enc P f.params.toList s.vars apart W args.toList ds gs before)
  (hres:∀(b:Nat) (sp:Nat→Bool) (hd:Bool),DataW.TrodAll enc P W' b sp hd f.resultTypes.toList (v.resultList f.resultTypes.size) (s.fn H (ds++gs)).results [])
  (hargs:∀sp:Nat→Bool,(∀p∈before,sp p.block=true)→DataW.TrodAll enc P W' 0 sp true f.params.toList args.toList (s.fn H (ds++gs)).args pa)
  (hvars:∀sp:Nat→Bool,(∀p∈before,sp p.block=true)→DataW.TrodVars enc P W' sp s.vars (s.fn H (ds++gs)).vars pv)
  (hps:before=pa++pv) (hb:Below W.heap.size W W')
  (hok:∀(j:Nat) (t:TypeId) (r:Value),f.resultTypes[j]? =some t→(v.resultList f.resultTypes.size)[j]? =some r→Value.okWide P W' .any 0 t r):
  s.post enc P f apart fresh handsOn again W args v W':=by
 have hlt:∀p∈before,p.block<W.heap.size:=fun p hp=>hW.lt p hp;have hold:∀p∈before,(fun b=>decide (b<W.heap.size)) p.block=true:=fun p hp=>by simpa using hlt p hp
 refine⟨ds,gs,before,[],pa,pv,hW,hres _ _ _,hargs _ hold,hvars _ hold,World.keptBut_mono (fun p hp=>⟨hp, ?_⟩) (hb.frame (· ∈before)),fun _=> ?_⟩
 ·rw[hps,List.mem_append]at hp;exact Or.inr hp
 ·obtain⟨_,_,_,_,_,hz,hn⟩:=hW;refine⟨hok,_,_,([]++pa)++pv,⟨[]++pa,pv,trodAll_append (hargs _ (fun _ _=>rfl)) (hres _ _ _),hvars _ (fun _ _=>rfl),rfl, ?_, ?_⟩, ?_⟩
  ·intro b off hp;have hin:MemPlace.cell b off∈before:=by rw[hps];simpa using hp
   rw[hb.frozen (hlt _ hin)];exact hz b off hin
  ·intro ha;have:=hn ha;rw[hps]at this;simpa using this
  ·intro p hp _;rw[hps];simpa using hp
end
theorem TK{H:Type}{enc:TypeId×Value→H}{P:Program}(hl:laidOutB P=true){W W':World}(hb:Below W.heap.size W W'){sp:Nat→Bool}:
  ∀{ts:List TypeId} {vs:List Value} {ds:List (DataW H)} {ps:List MemPlace},(ts.all fun t=>P.readableRec t&&decide (t<P.types.size))=true→(∀p∈ps,p.block<W.heap.size)→(∀p∈ps,sp p.block=true)→
  DataW.TrodAll enc P W 0 (fun _=>true) true ts vs ds ps→DataW.TrodAll enc P W' 0 sp true ts vs ds ps
 | [],vs,ds,ps,_,_,_,h=>by
  obtain⟨rfl,rfl,rfl⟩:=trodAll_nil h;exact trodAll_mk0
 |t::ts,vs,ds,ps,hr,hlt,hsp,h=>by
  obtain⟨v0,vs0,d0,ds0,p0,q0,rfl,rfl,rfl,h0,r0⟩:=trodAll_cons h;simp only[List.all_cons,Af,decide_eq_true_eq]at hr;refine trodAll_cons_mk ?_ (TK hl hb hr.2 (fun p hp=>hlt p (by simp[hp])) (fun p hp=>hsp p (by simp[hp])) r0);exact WideElems.Trod_stays hl hr.1.1 hr.1.2 h0 (fun x hx=>hb.same (hlt x (by simp[hx]))) (fun x hx=>hsp x (by simp[hx]))
end WB
namespace WB
open Go Go.RowKit
inductive Ty where
 |int (k:IntKind)
 |bool
 |str
 |err
 |clo (f:Nat) (r:Ty)
 |falt (f:Nat) (r l:Ty)
 |nsl
 |nmap
 |nfn
 |nam (N:Nat)
 |bptr (N:Nat)
 |nilp
 |pt (r:Ty)
 |nw (e size:Nat) (t:Ty)
 |agg (r:Ty)
 |tup (r:Ty)
 |sl (e:Ty)
 |map (k v:Ty)
 |nil
 |one (t:Ty)
 |cons (t r:Ty)
 deriving DecidableEq
@[reducible] def D:Ty→Type
 | .int _=>Int
 | .bool=>Bool
 | .str=>List UInt8
 | .err=>Bool
 | .clo _ r=>D r
 | .falt _ r l=>D r⊕D l
 | .nsl=>Unit
 | .nmap=>Unit
 | .nfn=>Unit
 | .nam _=>Unit
 | .bptr _=>Unit
 | .nilp=>Unit
 | .pt r=>D r
 | .nw _ _ t=>List (D t)
 | .agg r=>D r
 | .tup r=>D r
 | .sl e=>List (D e)
 | .map k v=>List (D k×D v)
 | .nil=>Unit
 | .one t=>D t
 | .cons t r=>D t×D r
def Ap{α β:Type}(R:α→β→Prop):List α→List β→Prop
 | [],bs=>bs= []
 |a::as,bs=>∃b bs',bs=b::bs'∧R a b∧Ap R as bs'
def Can:(t:Ty)→D t→List CV→Prop
 | .int k,n,cs=>cs= [.int k n]
 | .bool,b,cs=>cs= [.bool b]
 | .str,s,cs=>cs= [.str s]
 | .err,b,cs=>cs= [if b then .nilif else .ifc]
 | .clo f r,x,cs=>∃l,cs= [.fn f l]∧Can r x l
 | .falt f r l,x,cs=>match x with
  | .inl y=>∃cap,cs= [.fn f cap]∧Can r y cap
  | .inr z=>(∀cap,cs≠ [.fn f cap])∧Can l z cs
 | .nsl,_,cs=>cs= [.sl (some true) []]
 | .nmap,_,cs=>cs= [.map (some true) [] []]
 | .nfn,_,cs=>cs= [.nilfn]
 | .nam N,_,cs=>cs= [.nam N]
 | .bptr N,_,cs=>cs= [.bptr N]∨cs= [.nam N]∨cs= [.nilp]
 | .nilp,_,cs=>cs= [.nilp]
 | .pt r,x,cs=>∃l,cs= [.wp l]∧Can r x l
 | .nw _ _ _,_,_=>False
 | .agg r,x,cs=>∃l,cs= [.agg l]∧Can r x l
 | .tup r,x,cs=>∃l,cs= [.tup l]∧Can r x l
 | .sl e,xs,cs=>∃nl es,cs= [.sl nl es]∧Ap (fun x c=>Can e x [c]) xs es
 | .map k v,m,cs=>∃nl ks vs,cs= [.map nl ks vs]∧Ap (fun x c=>Can k x.1 [c]) m ks∧Ap (fun x c=>Can v x.2 [c]) m vs
 | .nil,_,cs=>cs= []
 | .one t,x,cs=>∃c,cs= [c]∧Can t x [c]
 | .cons t r,x,cs=>∃c l,cs=c::l∧Can t x.1 [c]∧Can r x.2 l
def AU:(t:Ty)→D t→List CV
 | .int k,n=> [.int k n]
 | .bool,b=> [.bool b]
 | .str,s=> [.str s]
 | .err,b=> [if b then .nilif else .ifc]
 | .clo f r,x=> [.fn f (AU r x)]
 | .falt f r l,x=>match x with
  | .inl y=> [.fn f (AU r y)]
  | .inr z=>AU l z
 | .nsl,_=> [.sl (some true) []]
 | .nmap,_=> [.map (some true) [] []]
 | .nfn,_=> [.nilfn]
 | .nam N,_=> [.nam N]
 | .bptr N,_=> [.bptr N]
 | .nilp,_=> [.nilp]
 | .pt r,x=> [.wp (AU r x)]
 | .nw _ _ _,_=> []
 | .agg r,x=> [.agg (AU r x)]
 | .tup r,x=> [.tup (AU r x)]
 | .sl e,xs=> [.sl none (xs.map fun x=>(AU e x).headD .nilif)]
 | .map k v,m=> [.map none (m.map fun x=>(AU k x.1).headD .nilif) (m.map fun x=>(AU v x.2).headD .nilif)]
 | .nil,_=> []
 | .one t,x=> [(AU t x).headD .nilif]
 | .cons t r,x=>(AU t x.1).headD .nilif::AU r x.2
def enc(t:Ty)(x:D t):CV:=(AU t x).headD .nilif
def Ty.isFn:Ty→Bool
 | .clo _ _=>true
 | .nfn=>true
 | .falt _ _ l=>l.isFn
 |_=>false
theorem KN:∀{t:Ty} {x:D t} {cs:List CV},t.isFn=true→Can t x cs→∃c,cs= [c]∧c.cells= [c]∧∀l,c≠ .agg l∧c≠ .tup l:=by
 intro t
 induction t with
 |clo f r _=>intro x cs _ h;unfold Can at h;obtain⟨l,rfl,_⟩:=h;exact⟨_,rfl,rfl,fun l=>⟨(fun e=>by cases e),(fun e=>by cases e)⟩⟩
 |nfn=>intro x cs _ h;unfold Can at h;subst h;exact⟨_,rfl,rfl,fun l=>⟨(fun e=>by cases e),(fun e=>by cases e)⟩⟩
 |falt f r l _ ihl=>
  intro x cs h hc
  cases x with
  |inl y=>unfold Can at hc;obtain⟨cap,rfl,_⟩:=hc;exact⟨_,rfl,rfl,fun l=>⟨(fun e=>by cases e),(fun e=>by cases e)⟩⟩
  |inr z=>unfold Can at hc;exact ihl h hc.2
 |_=>intro x cs h;cases h
def Ty.val:Ty→Bool
 | .nil| .one _| .cons _ _| .nw _ _ _=>false
 | .falt _ _ l=>l.isFn
 |_=>true
section
variable {α β:Type} {R S:α→β→Prop}
theorem Ap.length:∀{as:List α} {bs:List β},Ap R as bs→bs.length=as.length
 | [],_,h=>by unfold Ap at h;subst h;rfl
 |_::_,_,h=>by
  obtain⟨b,bs',rfl,_,h2⟩:=h;simp[Ap.length h2]
theorem Ap.get:∀{as:List α} {bs:List β} {i:Nat} {a:α},Ap R as bs→as[i]? =some a→∃b,bs[i]? =some b∧R a b
 | [],_,_,_,_,h=>by simp at h
 |_::_,_,0,_,hc,h=>by
  obtain⟨b,bs',rfl,h1,_⟩:=hc;simp at h;subst h;exact⟨b,rfl,h1⟩
 |_::_,_,i+1,_,hc,h=>by
  obtain⟨b,bs',rfl,_,h2⟩:=hc;simp only[List.getElem?_cons_succ]at h⊢;exact Ap.get h2 h
theorem Ap.getB:∀{as:List α} {bs:List β} {i:Nat} {b:β},Ap R as bs→bs[i]? =some b→∃a,as[i]? =some a∧R a b
 | [],_,_,_,hc,h=>by unfold Ap at hc;subst hc;simp at h
 |_::_,_,0,_,hc,h=>by
  obtain⟨b,bs',rfl,h1,_⟩:=hc;simp at h;subst h;exact⟨_,rfl,h1⟩
 |_::_,_,i+1,_,hc,h=>by
  obtain⟨b,bs',rfl,_,h2⟩:=hc;simp only[List.getElem?_cons_succ]at h⊢;exact Ap.getB h2 h
theorem Ap.mono:∀{as:List α} {bs:List β},(∀a b,a∈as→R a b→S a b)→Ap R as bs→Ap S as bs
 | [],_,_,h=>h
 |_::_,_,f,h=>by
  obtain⟨b,bs',rfl,h1,h2⟩:=h;exact⟨b,bs',rfl,f _ _ (by simp) h1,Ap.mono (fun a b ha=>f a b (by simp[ha])) h2⟩
theorem Ap.append:∀{as as':List α} {bs bs':List β},Ap R as bs→Ap R as' bs'→Ap R (as++as') (bs++bs')
 | [],_,_,_,h,k=>by unfold Ap at h;subst h;exact k
 |_::_,_,_,_,h,k=>by
  obtain⟨b,bs',rfl,h1,h2⟩:=h;exact⟨b,_,rfl,h1,Ap.append h2 k⟩
theorem Ap.take:∀(n:Nat) {as:List α} {bs:List β},Ap R as bs→Ap R (as.take n) (bs.take n)
 |0,_,_,_=>by simp[Ap]
 |n+1,[],_,h=>by unfold Ap at h;subst h;simp[Ap]
 |n+1,_::_,_,h=>by
  obtain⟨b,bs',rfl,h1,h2⟩:=h;exact⟨b,_,rfl,h1,Ap.take n h2⟩
theorem Ap.drop:∀(n:Nat) {as:List α} {bs:List β},Ap R as bs→Ap R (as.drop n) (bs.drop n)
 |0,_,_,h=>h
 |n+1,[],_,h=>by unfold Ap at h;subst h;simp[Ap]
 |n+1,_::_,_,h=>by
  obtain⟨b,bs',rfl,h1,h2⟩:=h;exact Ap.drop n h2
theorem Ap.set:∀(n:Nat) {as:List α} {bs:List β} {a:α} {b:β},Ap R as bs→R a b→Ap R (as.set n a) (bs.set n b)
 |_,[],_,_,_,h,_=>by unfold Ap at h;subst h;simp[Ap]
 |0,_::_,_,_,_,h,k=>by
  obtain⟨b,bs',rfl,h1,h2⟩:=h;exact⟨_,_,rfl,k,h2⟩
 |n+1,_::_,_,_,_,h,k=>by
  obtain⟨b,bs',rfl,h1,h2⟩:=h;exact⟨b,_,rfl,h1,Ap.set n h2 k⟩
theorem Ap.cons{a:α}{b:β}{as:List α}{bs:List β}(h:R a b)(k:Ap R as bs):Ap R (a::as) (b::bs):=⟨b,bs,rfl,h,k⟩
theorem Ap.nil:Ap R [] []:=rfl
theorem Ap.replicate{a:α}{b:β}(h:R a b):∀n,Ap R (List.replicate n a) (List.replicate n b)
 |0=>rfl
 |n+1=>⟨b,_,rfl,h,Ap.replicate h n⟩
theorem Ap.uniq:∀{as as':List α} {bs:List β},(∀a a' b,R a b→R a' b→a=a')→Ap R as bs→Ap R as' bs→as=as'
 | [],[],_,_,_,_=>rfl
 | [],_::_,_,_,h,k=>by
  obtain⟨b,bs',rfl,_⟩:=k;unfold Ap at h;cases h
 |_::_,[],_,_,h,k=>by
  obtain⟨b,bs',rfl,_⟩:=h;unfold Ap at k;cases k
 |_::_,_::_,_,f,h,k=>by
  obtain⟨b,bs',rfl,h1,h2⟩:=h;obtain⟨b2,bs2,e,k1,k2⟩:=k;cases e;rw[f _ _ _ h1 k1,Ap.uniq f h2 k2]
end
theorem Can.one:∀{t:Ty} {x:D t} {cs:List CV},t.val=true→Can t x cs→∃c,cs= [c]:=by
 intro t
 induction t with
 |falt f r l _ ihl=>
  intro x cs hv h
  cases x with
  |inl y=>unfold Can at h;obtain⟨l,h,_⟩:=h;exact⟨_,h⟩
  |inr z=>
   unfold Can at h;obtain⟨c,e,_⟩:=KN (show l.isFn=true by simpa[Ty.val]using hv) h.2;exact⟨_,e⟩
 |agg=>intro x cs hv h;unfold Can at h;obtain⟨l,h,_⟩:=h;exact⟨_,h⟩
 |pt=>intro x cs hv h;unfold Can at h;obtain⟨l,h,_⟩:=h;exact⟨_,h⟩
 |bptr N=>intro x cs hv h;unfold Can at h;rcases h with h|h|h<;>exact⟨_,h⟩
 |nw=>intro x cs hv;cases hv
 |clo=>intro x cs hv h;unfold Can at h;obtain⟨l,h,_⟩:=h;exact⟨_,h⟩
 |tup=>intro x cs hv h;unfold Can at h;obtain⟨l,h,_⟩:=h;exact⟨_,h⟩
 |sl=>intro x cs hv h;unfold Can at h;obtain⟨_,_,h,_⟩:=h;exact⟨_,h⟩
 |map=>intro x cs hv h;unfold Can at h;obtain⟨_,_,_,h,_⟩:=h;exact⟨_,h⟩
 |nil=>intro x cs hv;cases hv
 |one=>intro x cs hv;cases hv
 |cons=>intro x cs hv;cases hv
 |_=>intro x cs hv h;unfold Can at h;exact⟨_,h⟩
theorem Can.uniq:∀(t:Ty) {x y:D t} {cs:List CV},Can t x cs→Can t y cs→x=y
 | .int _,_,_,_,h,k=>by unfold Can at h k;rw[h]at k;simpa using k
 | .bool,_,_,_,h,k=>by unfold Can at h k;rw[h]at k;simpa using k
 | .str,_,_,_,h,k=>by unfold Can at h k;rw[h]at k;simpa using k
 | .err,x,y,_,h,k=>by unfold Can at h k;rw[h]at k;cases x<;>cases y<;>simp_all
 | .clo f r,_,_,_,h,k=>by
  unfold Can at h k;obtain⟨l,rfl,h⟩:=h;obtain⟨l',e,k⟩:=k;cases e;exact Can.uniq r h k
 | .falt f r l,x,y,_,h,k=>by
  cases x with
  |inl a=>
   unfold Can at h;obtain⟨cap,rfl,h⟩:=h
   cases y with
   |inl a'=>
    unfold Can at k;obtain⟨cap',e,k⟩:=k;cases e;rw[Can.uniq r h k]
   |inr b'=>
    unfold Can at k;exact absurd rfl (k.1 cap)
  |inr b=>
   unfold Can at h
   cases y with
   |inl a'=>
    unfold Can at k;obtain⟨cap',e,k⟩:=k;exact absurd e (h.1 cap')
   |inr b'=>
    unfold Can at k;rw[Can.uniq l h.2 k.2]
 | .nsl,_,_,_,_,_=>rfl
 | .nmap,_,_,_,_,_=>rfl
 | .nfn,_,_,_,_,_=>rfl
 | .nam _,_,_,_,_,_=>rfl
 | .bptr _,_,_,_,_,_=>rfl
 | .nilp,_,_,_,_,_=>rfl
 | .pt r,_,_,_,h,k=>by
  unfold Can at h k;obtain⟨l,rfl,h⟩:=h;obtain⟨l',e,k⟩:=k;cases e;exact Can.uniq r h k
 | .nw _ _ _,_,_,_,h,_=>by unfold Can at h;exact h.elim
 | .agg r,_,_,_,h,k=>by
  unfold Can at h k;obtain⟨l,rfl,h⟩:=h;obtain⟨l',e,k⟩:=k;cases e;exact Can.uniq r h k
 | .tup r,_,_,_,h,k=>by
  unfold Can at h k;obtain⟨l,rfl,h⟩:=h;obtain⟨l',e,k⟩:=k;cases e;exact Can.uniq r h k
 | .sl e,_,_,_,h,k=>by
  unfold Can at h k;obtain⟨nl,es,rfl,h⟩:=h;obtain⟨nl',es',e',k⟩:=k;cases e';exact Ap.uniq (R:=fun x c=>Can e x [c]) (fun a a' b h k=>Can.uniq e h k) h k
 | .map kt vt,x,y,_,h,k=>by
  unfold Can at h k;obtain⟨nl,ks,vs,rfl,h1,h2⟩:=h;obtain⟨nl',ks',vs',e',k1,k2⟩:=k;cases e'
  have key:∀{m m':List (D kt×D vt)} {ks vs:List CV},Ap (fun x c=>Can kt x.1 [c]) m ks→Ap (fun x c=>Can vt x.2 [c]) m vs→Ap (fun x c=>Can kt x.1 [c]) m' ks→Ap (fun x c=>Can vt x.2 [c]) m' vs→m=m':=by
   intro m
   induction m with
   |nil=>
    intro m' ks vs a1 a2 b1 b2;have:=b1.length;unfold Ap at a1;subst a1;exact(List.eq_nil_of_length_eq_zero (by simpa using this.symm)).symm
   |cons p m ih=>
    intro m' ks vs a1 a2 b1 b2;obtain⟨c,ks,rfl,c1,a1⟩:=a1;obtain⟨d,vs,rfl,d1,a2⟩:=a2
    cases m' with
    |nil=>unfold Ap at b1;cases b1
    |cons p' m'=>
     obtain⟨c',ks',e,c1',b1⟩:=b1;cases e;obtain⟨d',vs',e,d1',b2⟩:=b2;cases e;rw[ih a1 a2 b1 b2];have e1:=Can.uniq kt c1 c1';have e2:=Can.uniq vt d1 d1';obtain⟨p1,p2⟩:=p;obtain⟨q1,q2⟩:=p';simp only at e1 e2;rw[e1,e2]
  exact key h1 h2 k1 k2
 | .nil,_,_,_,_,_=>rfl
 | .one t,_,_,_,h,k=>by
  unfold Can at h k;obtain⟨c,rfl,h⟩:=h;obtain⟨c',e,k⟩:=k;cases e;exact Can.uniq t h k
 | .cons t r,(a,b),(a',b'),_,h,k=>by
  unfold Can at h k;obtain⟨c,l,rfl,h1,h2⟩:=h;obtain⟨c',l',e,k1,k2⟩:=k;cases e;have e1:=Can.uniq t h1 k1;have e2:=Can.uniq r h2 k2;simp only at e1 e2;rw[e1,e2]
theorem RelC.plain{w:World}{M:MM}:∀(t:Ty) {x:D t} {cs:List CV} {vs:List Value},Can t x cs→RelL w M cs vs→RelL w M (AU t x) vs:=by
 have hd:∀(t:Ty),(∀{x:D t} {cs:List CV} {vs:List Value},Can t x cs→RelL w M cs vs→RelL w M (AU t x) vs)→∀{x:D t} {c:CV} {v:Value},Can t x [c]→RelC w M c v→RelC w M ((AU t x).headD .nilif) v:=by
  intro t ih x c v hc hr;have:=ih hc (RelL.cons hr RelL.nil);have hl:=this.length
  match he:AU t x with
  | []=>rw[he]at hl;simp at hl
  | [d]=>
   rw[he]at this;unfold RelL at this;obtain⟨v',vs',e,h1,h2⟩:=this;cases e;exact h1
  |d::d'::ds=>rw[he]at hl;simp at hl
 have relL1:∀{c:CV} {vs:List Value},RelL w M [c] vs→∃v,vs= [v]∧RelC w M c v:=by
  intro c vs h;unfold RelL at h;obtain⟨v,vs',rfl,h1,h2⟩:=h;unfold RelL at h2;subst h2;exact⟨v,rfl,h1⟩
 intro t
 induction t with
 |int k=>intro x cs vs h hr;unfold Can at h;subst h;exact hr
 |bool=>intro x cs vs h hr;unfold Can at h;subst h;exact hr
 |str=>intro x cs vs h hr;unfold Can at h;subst h;exact hr
 |err=>intro x cs vs h hr;unfold Can at h;subst h;exact hr
 |clo f r ih=>
  intro x cs vs h hr;unfold Can at h;obtain⟨l,rfl,h⟩:=h;obtain⟨v,rfl,hv⟩:=relL1 hr;refine RelL.cons ?_ RelL.nil;unfold RelC at hv⊢;obtain⟨us,e,hl⟩:=hv;exact⟨us,e,ih h hl⟩
 |falt f r l ih ihl=>
  intro x cs vs h hr
  cases x with
  |inl y=>
   unfold Can at h;obtain⟨cap,rfl,h⟩:=h;obtain⟨v,rfl,hv⟩:=relL1 hr;refine RelL.cons ?_ RelL.nil;unfold RelC at hv⊢;obtain⟨us,e,hl⟩:=hv;exact⟨us,e,ih h hl⟩
  |inr z=>
   unfold Can at h;exact ihl h.2 hr
 |nsl=>intro x cs vs h hr;unfold Can at h;subst h;exact hr
 |nmap=>intro x cs vs h hr;unfold Can at h;subst h;exact hr
 |nfn=>intro x cs vs h hr;unfold Can at h;subst h;exact hr
 |nam N=>intro x cs vs h hr;unfold Can at h;subst h;exact hr
 |nilp=>intro x cs vs h hr;unfold Can at h;subst h;exact hr
 |bptr N=>
  intro x cs vs h hr;unfold Can at h;unfold AU;rcases h with rfl|rfl|rfl
  ·exact hr
  ·obtain⟨v,rfl,hv⟩:=relL1 hr;refine RelL.cons ?_ RelL.nil;unfold RelC at hv⊢;exact .inr hv
  ·obtain⟨v,rfl,hv⟩:=relL1 hr;refine RelL.cons ?_ RelL.nil;unfold RelC at hv⊢;exact .inl hv
 |nw e size t _=>intro x cs vs h;unfold Can at h;exact h.elim
 |pt r ih=>
  intro x cs vs h hr;unfold Can at h;obtain⟨l,rfl,h⟩:=h;obtain⟨v,rfl,hv⟩:=relL1 hr;refine RelL.cons ?_ RelL.nil;unfold RelC at hv⊢;obtain⟨ad,ty,us,e,g1,g2,hl⟩:=hv;exact⟨ad,ty,us,e,g1,g2,ih h hl⟩
 |nil=>intro x cs vs h hr;unfold Can at h;subst h;exact hr
 |agg r ih=>
  intro x cs vs h hr;unfold Can at h;obtain⟨l,rfl,h⟩:=h;obtain⟨v,rfl,hv⟩:=relL1 hr;refine RelL.cons ?_ RelL.nil;unfold RelC at hv⊢;obtain⟨us,e,hl⟩:=hv;exact⟨us,e,ih h hl⟩
 |tup r ih=>
  intro x cs vs h hr;unfold Can at h;obtain⟨l,rfl,h⟩:=h;obtain⟨v,rfl,hv⟩:=relL1 hr;refine RelL.cons ?_ RelL.nil;unfold RelC at hv⊢;obtain⟨us,e,hl⟩:=hv;exact⟨us,e,ih h hl⟩
 |sl e ih=>
  intro x cs vs h hr;unfold Can at h;obtain⟨nl,es,rfl,h⟩:=h;obtain⟨v,rfl,hv⟩:=relL1 hr;refine RelL.cons ?_ RelL.nil;have hlen:=h.length;unfold RelC at hv⊢;obtain⟨a,n,c,ev,hn,hle,_,_,hc0,hmem⟩:=hv;refine⟨a,n,c,ev,by simp[hn,hlen],hle,(fun h=>by cases h),(fun h=>by cases h),hc0,fun hne=> ?_⟩
  obtain⟨ad,size,ea,hlt,hM,hE⟩:=hmem (by
   intro h0;subst h0;simp only[List.length_nil]at hlen
   exact hne (by simp[List.eq_nil_of_length_eq_zero hlen.symm]))
  refine⟨ad,size,ea,hlt,hM, ?_⟩;clear hne ea hn hlen
  have key:∀{xs:List (D e)} {es:List CV} {i:Nat},Ap (fun x c=>Can e x [c]) xs es→Bo w M ad size i es→Bo w M ad size i (xs.map fun x=>(AU e x).headD .nilif):=by
   intro xs
   induction xs with
   |nil=>intro es i _ _;unfold Bo;trivial
   |cons y ys ihx=>
    intro es i hc hE;obtain⟨c,es',rfl,h1,h2⟩:=hc;unfold Bo at hE;obtain⟨⟨u,g1,g2,g3⟩,g4⟩:=hE;simp only[List.map_cons];unfold Bo;exact⟨⟨u,hd e ih h1 g1,g2,g3⟩,ihx h2 g4⟩
  exact key h hE
 |map kt vt ihk ihv=>
  intro x cs vs h hr;unfold Can at h;obtain⟨nl,ks,us,rfl,h1,h2⟩:=h;obtain⟨v,rfl,hv⟩:=relL1 hr;refine RelL.cons ?_ RelL.nil;have hl1:=h1.length;have hl2:=h2.length;unfold RelC at hv⊢;obtain⟨r,ev,_,_,h0,hm⟩:=hv;refine⟨r,ev,(fun h=>by cases h),(fun h=>by cases h),fun hr0=> ?_,fun b hb=> ?_⟩
  ·obtain⟨e1,e2⟩:=h0 hr0;subst e1;have:x= []:=List.eq_nil_of_length_eq_zero (by simpa using hl1.symm);subst this;exact⟨rfl,rfl⟩
  ·obtain⟨hM,ens,ens',clk,hh,hE,hp,r1,r2⟩:=hm b hb;refine⟨hM,ens,ens',clk,hh,hE,hp, ?_, ?_⟩
   ·have key:∀(m:List (D kt×D vt)) (ks:List CV) (vs:List Value),Ap (fun x c=>Can kt x.1 [c]) m ks→RelL w M ks vs→RelL w M (m.map fun x=>(AU kt x.1).headD .nilif) vs:=by
     intro m
     induction m with
     |nil=>
      intro ks vs h1 r1;unfold Ap at h1;subst h1;exact r1
     |cons p m ihm=>
      intro ks vs h1 r1;obtain⟨c,ks',rfl,g1,g2⟩:=h1;unfold RelL at r1;obtain⟨v',vs',e,q1,q2⟩:=r1;rw[e];exact RelL.cons (hd kt ihk g1 q1) (ihm ks' vs' g2 q2)
    exact key _ _ _ h1 r1
   ·have key:∀(m:List (D kt×D vt)) (ks:List CV) (vs:List Value),Ap (fun x c=>Can vt x.2 [c]) m ks→RelL w M ks vs→RelL w M (m.map fun x=>(AU vt x.2).headD .nilif) vs:=by
     intro m
     induction m with
     |nil=>
      intro ks vs h1 r1;unfold Ap at h1;subst h1;exact r1
     |cons p m ihm=>
      intro ks vs h1 r1;obtain⟨c,ks',rfl,g1,g2⟩:=h1;unfold RelL at r1;obtain⟨v',vs',e,q1,q2⟩:=r1;rw[e];exact RelL.cons (hd vt ihv g1 q1) (ihm ks' vs' g2 q2)
    exact key _ _ _ h2 r2
 |one t ih=>
  intro x cs vs h hr;unfold Can at h;obtain⟨c,rfl,h⟩:=h;obtain⟨v,rfl,hv⟩:=relL1 hr;exact RelL.cons (hd t ih h hv) RelL.nil
 |cons t r iht ihr=>
  intro x cs vs h hr;unfold Can at h;obtain⟨c,l,rfl,h1,h2⟩:=h;unfold RelL at hr;obtain⟨v,vs',rfl,h3,h4⟩:=hr;exact RelL.cons (hd t iht h1 h3) (ihr h2 h4)
theorem RelC.enc{w:World}{M:MM}{t:Ty}{x:D t}{c:CV}{v:Value}(h:Can t x [c])(hr:RelC w M c v):RelC w M (enc t x) v:=by
 have:=RelC.plain t h (RelL.cons hr RelL.nil);have hl:=this.length;unfold WB.enc
 match he:AU t x with
 | []=>rw[he]at hl;simp at hl
 | [d]=>
  rw[he]at this;unfold RelL at this;obtain⟨v',vs',e,h1,h2⟩:=this;cases e;exact h1
 |d::d'::ds=>rw[he]at hl;simp at hl
def Ty.fnNo(f:Nat):Ty→Bool
 | .clo g _=>g !=f
 | .nfn=>true
 | .falt g _ l=>g !=f&&l.fnNo f
 |_=>false
def Ty.ok:Ty→Bool
 | .agg r=> !r.val&&r.ok
 | .tup r=> !r.val&&r.ok
 | .pt r=> !r.val&&r.ok
 | .nw _ _ _=>false
 | .clo _ r=> !r.val&&r.ok
 | .falt f r l=> !r.val&&r.ok&&l.ok&&l.fnNo f
 | .sl e=>e.val&&e.ok
 | .map k v=>k.val&&k.ok&&v.val&&v.ok
 | .one t=>t.val&&t.ok
 | .cons t r=>t.val&&t.ok&& !r.val&&r.ok
 |_=>true
theorem Wc{f:Nat}:∀{l:Ty} {x:D l},l.fnNo f=true→∀cap,AU l x≠ [.fn f cap]:=by
 intro l
 induction l with
 |clo g r _=>
  intro x h cap e;unfold AU at e;simp only[List.cons.injEq,CV.fn.injEq,and_true]at e;simp[Ty.fnNo]at h;exact h e.1
 |nfn=>intro x h cap e;unfold AU at e;cases e
 |falt g r l _ ihl=>
  intro x h cap e;simp only[Ty.fnNo,Af]at h
  cases x with
  |inl y=>
   unfold AU at e;simp only[List.cons.injEq,CV.fn.injEq,and_true]at e;simp at h;exact h.1 e.1
  |inr z=>unfold AU at e;exact ihl h.2 cap e
 |_=>intro x h;cases h
theorem Can.plain:∀(t:Ty) (x:D t),t.ok=true→Can t x (AU t x):=by
 have hd:∀(t:Ty),(∀(x:D t),t.ok=true→Can t x (AU t x))→∀(x:D t),t.val=true→t.ok=true→Can t x [(AU t x).headD .nilif]:=by
  intro t ih x hv ho;have h:=ih x ho;obtain⟨c,hc⟩:=h.one hv;rw[hc]at h⊢;exact h
 intro t
 induction t with
 |int k=>intro x _;unfold Can AU;rfl
 |bool=>intro x _;unfold Can AU;rfl
 |str=>intro x _;unfold Can AU;rfl
 |err=>intro x _;unfold Can AU;rfl
 |clo f r ih=>
  intro x h;simp only[Ty.ok,Af]at h;unfold Can AU;exact⟨_,rfl,ih x h.2⟩
 |falt f r l ih ihl=>
  intro x h;simp only[Ty.ok,Af]at h
  cases x with
  |inl y=>unfold Can AU;exact⟨_,rfl,ih y h.1.1.2⟩
  |inr z=>
   have h1:=ihl z h.1.2;have h2:∀cap,AU l z≠ [.fn f cap]:=Wc h.2;unfold Can;have e:AU (.falt f r l) (.inr z)=AU l z:=rfl;rw[e];exact⟨h2,h1⟩
 |nsl=>intro x _;unfold Can AU;rfl
 |nmap=>intro x _;unfold Can AU;rfl
 |nfn=>intro x _;unfold Can AU;rfl
 |nam N=>intro x _;unfold Can AU;rfl
 |bptr N=>intro x _;unfold Can AU;exact .inl rfl
 |nilp=>intro x _;unfold Can AU;rfl
 |nw e size t _=>intro x h;cases h
 |pt r ih=>
  intro x h;simp only[Ty.ok,Af]at h;unfold Can AU;exact⟨_,rfl,ih x h.2⟩
 |nil=>intro x _;unfold Can AU;rfl
 |agg r ih=>
  intro x h;simp only[Ty.ok,Af]at h;unfold Can AU;exact⟨_,rfl,ih x h.2⟩
 |tup r ih=>
  intro x h;simp only[Ty.ok,Af]at h;unfold Can AU;exact⟨_,rfl,ih x h.2⟩
 |sl e ih=>
  intro x h;simp only[Ty.ok,Af]at h;unfold Can AU;refine⟨none,_,rfl, ?_⟩
  induction x with
  |nil=>rfl
  |cons y ys ihx=>exact⟨_,_,rfl,hd e ih y h.1 h.2,ihx⟩
 |map kt vt ihk ihv=>
  intro x h;simp only[Ty.ok,Af]at h;obtain⟨⟨⟨h1,h2⟩,h3⟩,h4⟩:=h;unfold Can AU;refine⟨none,_,_,rfl, ?_, ?_⟩
  ·induction x with
   |nil=>rfl
   |cons y ys ihx=>exact⟨_,_,rfl,hd kt ihk _ h1 h2,ihx⟩
  ·induction x with
   |nil=>rfl
   |cons y ys ihx=>exact⟨_,_,rfl,hd vt ihv _ h3 h4,ihx⟩
 |one t ih=>
  intro x h;simp only[Ty.ok,Af]at h;unfold Can AU;exact⟨_,rfl,hd t ih x h.1 h.2⟩
 |cons t r iht ihr=>
  intro x h;simp only[Ty.ok,Af]at h;obtain⟨⟨⟨h1,h2⟩,h3⟩,h4⟩:=h;unfold Can AU;exact⟨_,_,rfl,hd t iht x.1 h1 h2,ihr x.2 h4⟩
theorem Can.enc{t:Ty}(x:D t)(hv:t.val=true)(ho:t.ok=true):Can t x [WB.enc t x]:=by
 have h:=Can.plain t x ho;obtain⟨c,hc⟩:=h.one hv;unfold WB.enc;rw[hc]at h⊢;exact h
def Ba:Ty→Option Nat
 | .nil=>some 0
 | .one _=>some 1
 | .cons _ r=>(Ba r).map (· +1)
 |_=>none
def BD:Ty→Ty
 | .agg r=>r
 |t=>.one t
def Fo:(t:Ty)→D t→D (BD t)
 | .int _,x| .bool,x| .str,x| .err,x| .clo _ _,x| .falt _ _ _,x| .nfn,x| .nam _,x| .bptr _,x| .nilp,x| .pt _,x| .nw _ _ _,x| .nsl,x| .nmap,x| .agg _,x| .tup _,x| .sl _,x| .map _ _,x| .nil,x| .one _,x| .cons _ _,x=>x
def EF:(r:Ty)→Nat→Option (Σ q:Ty,D r→D q)
 |r,0=>some ⟨r,fun x=>x⟩
 | .one _,1=>some ⟨.nil,fun _=>()⟩
 | .cons _ r,n+1=>match EF r n with
  |some q=>some ⟨q.1,fun x=>q.2 x.2⟩
  |none=>none
 |_,_=>none
def DQ:(r:Ty)→Nat→Option (Σ q:Ty,D r→D q)
 | .one t,1=>some ⟨.one t,fun x=>x⟩
 | .cons t _,1=>some ⟨.one t,fun x=>x.1⟩
 | .cons t r,n+2=>match DQ r (n+1)with
  |some q=>some ⟨.cons t q.1,fun x=>(x.1,q.2 x.2)⟩
  |none=>none
 |_,0=>some ⟨.nil,fun _=>()⟩
 |_,_=>none
def DG:(r:Ty)→Nat→Option (Σ t:Ty,D r→D t)
 | .one t,0=>some ⟨t,fun x=>x⟩
 | .cons t _,0=>some ⟨t,fun x=>x.1⟩
 | .cons _ r,n+1=>match DG r n with
  |some q=>some ⟨q.1,fun x=>q.2 x.2⟩
  |none=>none
 |_,_=>none
def Mh(r:Ty)(off n:Nat):Option (Σ q:Ty,D r→D q):=
 match EF r off with
 |some p=>match DQ p.1 n with
  |some q=>some ⟨q.1,fun x=>q.2 (p.2 x)⟩
  |none=>none
 |none=>none
def ET:(r:Ty)→Nat→(t:Ty)→Option (Σ q:Ty,D r→D t→D q)
 | .one _,0,t=>some ⟨.one t,fun _ y=>y⟩
 | .cons _ r,0,t=>some ⟨.cons t r,fun x y=>(y,x.2)⟩
 | .cons u r,n+1,t=>match ET r n t with
  |some q=>some ⟨.cons u q.1,fun x y=>(x.1,q.2 x.2 y)⟩
  |none=>none
 |_,_,_=>none
def Jj:(p:Ty)→(r:Ty)→Nat→Option (Σ q:Ty,D r→D p→D q)
 | .one t,r,off=>ET r off t
 | .cons t p,r,off=>match ET r off t with
  |some q=>match Jj p q.1 (off+1)with
   |some q'=>some ⟨q'.1,fun x y=>q'.2 (q.2 x y.1) y.2⟩
   |none=>none
  |none=>none
 |_,_,_=>none
theorem Ew:∀{r:Ty} {n:Nat} {x:D r} {l:List CV},Ba r=some n→Can r x l→l.length=n
 | .nil,_,_,_,hn,h=>by unfold Can at h;subst h;simpa[Ba]using hn
 | .one t,_,_,_,hn,h=>by unfold Can at h;obtain⟨c,rfl,_⟩:=h;simpa[Ba]using hn
 | .cons t r,n,x,l,hn,h=>by
  unfold Can at h;obtain⟨c,l',rfl,_,h⟩:=h;simp only[Ba,Aa]at hn;obtain⟨m,hm,rfl⟩:=hn;simp[Ew hm h]
theorem Ki:∀{r:Ty} {n:Nat} {q:Σ q:Ty,D r→D q} {x:D r} {l:List CV},EF r n=some q→Can r x l→Can q.1 (q.2 x) (l.drop n)∧(n=0∨n≤l.length):=by
 intro r n
 induction n generalizing r with
 |zero=>
  intro q x l h hc;have e:EF r 0=some ⟨r,fun x=>x⟩:=by cases r<;>rfl
  rw[e]at h;cases h;exact⟨hc,.inl rfl⟩
 |succ n ih=>
  intro q x l h hc;cases r<;>(try simp[EF]at h;done)
  ·rename_i t
   cases n with
   |zero=>
    change(some (⟨.nil,fun _=>()⟩:Σ q:Ty,D (.one t)→D q))=some q at h;cases h;unfold Can at hc;obtain⟨c,rfl,_⟩:=hc;exact⟨by simp[Can],.inr (by simp)⟩
   |succ n=>simp[EF]at h
  ·rename_i t r;unfold Can at hc;obtain⟨c,l',rfl,_,hc⟩:=hc;simp only[EF]at h;split at h<;>(try cases h;done);rename_i p hp;cases h;obtain⟨h1,h2⟩:=ih hp hc;exact⟨by simpa using h1,.inr (by simp;omega)⟩
theorem Mi:∀{n:Nat} {r:Ty} {q:Σ q:Ty,D r→D q} {x:D r} {l:List CV},DQ r n=some q→Can r x l→Can q.1 (q.2 x) (l.take n)∧n≤l.length:=by
 intro n
 induction n with
 |zero=>
  intro r q x l h hc;have e:DQ r 0=some ⟨.nil,fun _=>()⟩:=by cases r<;>rfl
  rw[e]at h;cases h;exact⟨by simp[Can],by omega⟩
 |succ n ih=>
  intro r q x l h hc;cases r<;>(try simp[DQ]at h;done)
  ·rename_i t
   cases n with
   |zero=>
    change(some (⟨.one t,fun x=>x⟩:Σ q:Ty,D (.one t)→D q))=some q at h;cases h;have hc':=hc;unfold Can at hc';obtain⟨c,rfl,_⟩:=hc';exact⟨hc,by simp⟩
   |succ n=>simp[DQ]at h
  ·rename_i t r;unfold Can at hc;obtain⟨c,l',rfl,h1,hc⟩:=hc
   cases n with
   |zero=>
    change(some (⟨.one t,fun x=>x.1⟩:Σ q:Ty,D (.cons t r)→D q))=some q at h;cases h;refine⟨?_,by simp⟩;simp only[List.take_succ_cons,List.take_zero];unfold Can;exact⟨c,rfl,h1⟩
   |succ n=>
    simp only[DQ]at h;split at h<;>(try cases h;done);rename_i p hp;cases h;obtain⟨h3,h4⟩:=ih hp hc;refine⟨?_,by simp;omega⟩;simp only[List.take_succ_cons];unfold Can;exact⟨c,_,rfl,h1,h3⟩
theorem T6{r:Ty}{off n:Nat}{q:Σ q:Ty,D r→D q}{x:D r}{l:List CV}(h:Mh r off n=some q)(hc:Can r x l):Can q.1 (q.2 x) ((l.drop off).take n)∧(n≤l.length-off):=by
 unfold Mh at h;split at h<;>(try cases h;done);rename_i p hp;split at h<;>(try cases h;done);rename_i q' hq;cases h;obtain⟨h1,h2⟩:=Mi hq (Ki hp hc).1;exact⟨h1,by simpa using h2⟩
theorem HA:∀{r:Ty} {n:Nat} {q:Σ q:Ty,D r→D q} {x:D r} {l:List CV},DG r n=some q→Can r x l→∃c,l[n]? =some c∧Can q.1 (q.2 x) [c]:=by
 intro r n
 induction n generalizing r with
 |zero=>
  intro q x l h hc;cases r<;>(try simp[DG]at h;done)
  ·simp only[DG,Ac]at h;subst h;unfold Can at hc;obtain⟨c,rfl,h1⟩:=hc;exact⟨c,rfl,h1⟩
  ·simp only[DG,Ac]at h;subst h;unfold Can at hc;obtain⟨c,l',rfl,h1,hc⟩:=hc;exact⟨c,rfl,h1⟩
 |succ n ih=>
  intro q x l h hc;cases r<;>(try simp[DG]at h;done);rename_i t r;unfold Can at hc;obtain⟨c,l',rfl,h1,hc⟩:=hc;simp only[DG]at h;split at h<;>(try cases h;done);rename_i p hp;cases h;simpa using ih hp hc
theorem Tp:∀{n:Nat} {r t:Ty} {q:Σ q:Ty,D r→D t→D q} {x:D r} {y:D t} {l:List CV} {c:CV},ET r n t=some q→Can r x l→Can t y [c]→Can q.1 (q.2 x y) (l.set n c)∧n<l.length:=by
 intro n
 induction n with
 |zero=>
  intro r t q x y l c h hc hy;cases r<;>(try simp[ET]at h;done)
  ·simp only[ET,Ac]at h;subst h;unfold Can at hc;obtain⟨d,rfl,h1⟩:=hc;refine⟨?_,by simp⟩;simp only[List.set_cons_zero];unfold Can;exact⟨c,rfl,hy⟩
  ·simp only[ET,Ac]at h;subst h;unfold Can at hc;obtain⟨d,l',rfl,h1,hc⟩:=hc;refine⟨?_,by simp⟩;simp only[List.set_cons_zero];unfold Can;exact⟨c,_,rfl,hy,hc⟩
 |succ n ih=>
  intro r t q x y l c h hc hy;cases r<;>(try simp[ET]at h;done);rename_i u r;unfold Can at hc;obtain⟨d,l',rfl,h1,hc⟩:=hc;simp only[ET]at h;split at h<;>(try cases h;done);rename_i p hp;cases h;obtain⟨h2,h3⟩:=ih hp hc hy;refine⟨?_,by simp;omega⟩;simp only[List.set_cons_succ];unfold Can;exact⟨d,_,rfl,h1,h2⟩
theorem S0:∀{p r:Ty} {off:Nat} {q:Σ q:Ty,D r→D p→D q} {x:D r} {y:D p} {l cs:List CV},Jj p r off=some q→Can r x l→Can p y cs→Can q.1 (q.2 x y) (l.take off++cs++l.drop (off+cs.length))∧off+cs.length≤l.length:=by
 intro p
 induction p with
 |one t iht=>
  intro r off q x y l cs h hc hy;have h':ET r off t=some q:=h;unfold Can at hy;obtain⟨c,rfl,hy⟩:=hy;obtain⟨h1,h2⟩:=Tp h' hc hy;refine⟨?_,by simp;omega⟩;rw[List.set_eq_take_append_cons_drop,if_pos h2]at h1;simpa using h1
 |cons t p iht ihp=>
  intro r off q x y l cs h hc hy;unfold Can at hy;obtain⟨c,cs',rfl,hy1,hy2⟩:=hy;have h':=h;unfold Jj at h';split at h'<;>(try cases h';done);rename_i q1 hq1;split at h'<;>(try cases h';done);rename_i q2 hq2;cases h';obtain⟨h1,h2⟩:=Tp hq1 hc hy1;obtain⟨h3,h4⟩:=ihp hq2 h1 hy2;simp only[List.length_set]at h4;refine⟨?_,by simp;omega⟩
  have e1:(l.set off c).take (off+1)=l.take off++ [c]:=by
   rw[List.set_eq_take_append_cons_drop,if_pos h2];rw[List.take_append,List.take_of_length_le (by simp;omega)];have:off+1-(l.take off).length=1:=by simp;omega
   rw[this];simp
  have e2:(l.set off c).drop (off+1+cs'.length)=l.drop (off+(cs'.length+1)):=by
   rw[List.drop_set_of_lt (by omega)]
   congr 1
   omega
  rw[e1,e2]at h3;simpa using h3
 |_=>intro r off q x y l cs h;cases h
theorem FT{t:Ty}{x:D t}{c:CV}(hv:t.val=true)(h:Can t x [c]):Can (BD t) (Fo t x) c.cells:=by
 cases t<;>(try(simp[Ty.val]at hv;done))
 case agg=>
  unfold Can at h;obtain⟨l,e,h⟩:=h;cases e;exact h
 all_goals(simp only[BD,Fo];have h':=h;unfold Can at h')
 case clo=>obtain⟨l,e,_⟩:=h';cases e;unfold Can;exact⟨_,rfl,h⟩
 case falt f r l=>
  have hc:c.cells= [c]:=by
   obtain⟨c',e,hc',_⟩:=KN (t:=.falt f r l) (show l.isFn=true by simpa[Ty.val]using hv) h;cases e;exact hc'
  rw[hc];unfold Can;exact⟨_,rfl,h⟩
 case tup=>obtain⟨l,e,_⟩:=h';cases e;unfold Can;exact⟨_,rfl,h⟩
 case pt=>obtain⟨l,e,_⟩:=h';cases e;unfold Can;exact⟨_,rfl,h⟩
 case bptr=>rcases h' with e|e|e<;>(cases e;unfold Can;exact⟨_,rfl,h⟩)
 case sl=>obtain⟨_,_,e,_⟩:=h';cases e;unfold Can;exact⟨_,rfl,h⟩
 case map=>obtain⟨_,_,_,e,_⟩:=h';cases e;unfold Can;exact⟨_,rfl,h⟩
 case err=>cases h';unfold Can;cases x<;>exact⟨_,rfl,h⟩
 all_goals(cases h';unfold Can;exact⟨_,rfl,h⟩)
mutual
def B2:CV→Option (Σ t:Ty,D t)
 | .int k n=>some ⟨.int k,n⟩
 | .bool b=>some ⟨.bool,b⟩
 | .str s=>some ⟨.str,s⟩
 | .nilif=>some ⟨.err,true⟩
 | .nilfn=>some ⟨.nfn,()⟩
 | .nilp=>some ⟨.nilp,()⟩
 | .nam N=>some ⟨.nam N,()⟩
 | .fn f []=>some ⟨.clo f .nil,()⟩
 | .sl (some true) []=>some ⟨.nsl,()⟩
 | .map (some true) [] []=>some ⟨.nmap,()⟩
 | .agg cs=>match EC cs with
  |some q=>some ⟨.agg q.1,q.2⟩
  |none=>none
 |_=>none
def EC:List CV→Option (Σ t:Ty,D t)
 | []=>some ⟨.nil,()⟩
 | [c]=>match B2 c with
  |some q=>some ⟨.one q.1,q.2⟩
  |none=>none
 |c::d::cs=>match B2 c,EC (d::cs)with
  |some q,some p=>some ⟨.cons q.1 p.1,(q.2,p.2)⟩
  |_,_=>none
end
mutual
theorem Ip:∀{c:CV} {q:Σ t:Ty,D t},B2 c=some q→Can q.1 q.2 [c]
 | .int k n,q,h=>by simp only[B2,Ac]at h;subst h;unfold Can;rfl
 | .bool b,q,h=>by simp only[B2,Ac]at h;subst h;unfold Can;rfl
 | .str s,q,h=>by simp only[B2,Ac]at h;subst h;unfold Can;rfl
 | .nilif,q,h=>by simp only[B2,Ac]at h;subst h;unfold Can;rfl
 | .nilfn,q,h=>by simp only[B2,Ac]at h;subst h;unfold Can;rfl
 | .nilp,q,h=>by simp only[B2,Ac]at h;subst h;unfold Can;rfl
 | .nam _,q,h=>by simp only[B2,Ac]at h;subst h;unfold Can;rfl
 | .sl nl es,q,h=>by
  match nl,es,h with
  |some true,[],h=>simp only[B2,Ac]at h;subst h;unfold Can;rfl
  |none,_,h=>simp[B2]at h
  |some false,_,h=>simp[B2]at h
  |some true,_::_,h=>simp[B2]at h
 | .map nl ks vs,q,h=>by
  match nl,ks,vs,h with
  |some true,[],[],h=>simp only[B2,Ac]at h;subst h;unfold Can;rfl
  |none,_,_,h=>simp[B2]at h
  |some false,_,_,h=>simp[B2]at h
  |some true,_::_,_,h=>simp[B2]at h
  |some true,[],_::_,h=>simp[B2]at h
 | .agg cs,q,h=>by
  simp only[B2]at h;split at h<;>(try cases h;done);rename_i p hp;cases h;unfold Can;exact⟨cs,rfl,Hi hp⟩
 | .rp _,q,h=>by simp[B2]at h
 | .wp _,q,h=>by simp[B2]at h
 | .fn f l,q,h=>by
  match l,h with
  | [],h=>simp only[B2,Ac]at h;subst h;unfold Can;exact⟨[],rfl,by unfold Can;rfl⟩
  |_::_,h=>simp[B2]at h
 | .tup _,q,h=>by simp[B2]at h
 | .ifc,q,h=>by simp[B2]at h
 | .adr _,q,h=>by simp[B2]at h
 | .bptr _,q,h=>by simp[B2]at h
theorem Hi:∀{cs:List CV} {q:Σ t:Ty,D t},EC cs=some q→Can q.1 q.2 cs
 | [],q,h=>by simp only[EC,Ac]at h;subst h;unfold Can;rfl
 | [c],q,h=>by
  simp only[EC]at h;split at h<;>(try cases h;done);rename_i p hp;cases h;unfold Can;exact⟨c,rfl,Ip hp⟩
 |c::d::cs,q,h=>by
  simp only[EC]at h;split at h<;>(try cases h;done);rename_i p p' hp hp';cases h;unfold Can;exact⟨c,_,rfl,Ip hp,Hi hp'⟩
end
def Gl(f:Nat)(r:Ty):(l:Ty)→Option (D r→D l)
 | .clo g r'=>if f=g then(if h:r=r' then some fun x=>h▸x else none)else none
 | .falt g r' l=>if f=g then(if h:r=r' then some fun x=>.inl (h▸x)else none)else match Gl f r l with
  |some a=>some fun x=>.inr (a x)
  |none=>none
 |_=>none
def Lk:(l:Ty)→Option (D l)
 | .nfn=>some ()
 | .falt _ _ l=>match Lk l with
  |some a=>some (.inr a)
  |none=>none
 |_=>none
theorem RW:∀{l:Ty} {a:D l},Lk l=some a→Can l a [.nilfn]
 | .nfn,a,ha=>by unfold Can;rfl
 | .falt g r' l,a,ha=>by
  simp only[Lk]at ha;split at ha<;>(try cases ha;done);rename_i a' ha';cases ha;unfold Can;exact⟨(fun cap' e=>by cases e),RW ha'⟩
 | .clo _ _,_,ha| .int _,_,ha| .bool,_,ha| .str,_,ha| .err,_,ha| .nsl,_,ha| .nmap,_,ha| .nam _,_,ha| .bptr _,_,ha| .nilp,_,ha| .pt _,_,ha| .nw _ _ _,_,ha| .agg _,_,ha| .tup _,_,ha| .sl _,_,ha| .map _ _,_,ha| .nil,_,ha| .one _,_,ha| .cons _ _,_,ha=>by cases ha
theorem JW{f:Nat}{r:Ty}{x:D r}{cap:List CV}(h:Can r x cap):∀{l:Ty} {a:D r→D l},Gl f r l=some a→Can l (a x) [.fn f cap]
 | .clo g r',a,ha=>by
  simp only[Gl]at ha;split at ha<;>(try cases ha;done);rename_i hf;split at ha<;>(try cases ha;done);rename_i hr;subst hf;subst hr;cases ha;unfold Can;exact⟨cap,rfl,h⟩
 | .falt g r' l,a,ha=>by
  simp only[Gl]at ha;split at ha
  ·rename_i hf;split at ha<;>(try cases ha;done);rename_i hr;subst hf;subst hr;cases ha;unfold Can;exact⟨cap,rfl,h⟩
  ·rename_i hf;split at ha<;>(try cases ha;done);rename_i a' ha';cases ha;unfold Can;exact⟨fun cap' e=>by simp only[List.cons.injEq,CV.fn.injEq,and_true]at e;exact hf e.1,JW h ha'⟩
 | .nfn,_,ha| .int _,_,ha| .bool,_,ha| .str,_,ha| .err,_,ha| .nsl,_,ha| .nmap,_,ha| .nam _,_,ha| .bptr _,_,ha| .nilp,_,ha| .pt _,_,ha| .agg _,_,ha| .tup _,_,ha| .sl _,_,ha| .map _ _,_,ha| .nil,_,ha| .one _,_,ha| .cons _ _,_,ha=>by cases ha
def Hf:(l m:Ty)→Option (D l→D m)
 | .clo f r,m=>Gl f r m
 | .nfn,m=>match Lk m with
  |some a=>some fun _=>a
  |none=>none
 | .falt f r l,m=>match Gl f r m,Hf l m with
  |some a,some b=>some fun x=>match x with
   | .inl y=>a y
   | .inr z=>b z
  |_,_=>none
 |_,_=>none
theorem Qa:∀{l m:Ty} {a:D l→D m} {x:D l} {cs:List CV},Hf l m=some a→Can l x cs→Can m (a x) cs:=by
 intro l
 induction l with
 |clo f r _=>
  intro m a x cs h hc;unfold Can at hc;obtain⟨cap,rfl,hc⟩:=hc;exact JW hc h
 |nfn=>
  intro m a x cs h hc;unfold Can at hc;subst hc;simp only[Hf]at h;split at h<;>(try cases h;done);rename_i b hb;cases h;exact RW hb
 |falt f r l _ ihl=>
  intro m a x cs h hc;simp only[Hf]at h;split at h<;>(try cases h;done);rename_i a' b' ha hb;cases h
  cases x with
  |inl y=>
   unfold Can at hc;obtain⟨cap,rfl,hc⟩:=hc;exact JW hc ha
  |inr z=>
   unfold Can at hc;exact ihl hb hc.2
 |_=>intro m a x cs h;cases h
def Bi:(t u:Ty)→Option (D t→D u)
 | .nsl,.sl _=>some fun _=> []
 | .nmap,.map _ _=>some fun _=> []
 | .nilp,.bptr _=>some fun _=>()
 | .nam N,.bptr N'=>if N=N' then some fun _=>()else none
 | .clo f r,.falt g r' l=>Gl f r (.falt g r' l)
 | .nfn,.falt g r' l=>Hf .nfn (.falt g r' l)
 | .falt f r l,.falt g r' l'=>if h:Ty.falt f r l=.falt g r' l' then some fun x=>h▸x else Hf (.falt f r l) (.falt g r' l')
 | .agg r,.agg r'=>Bi r r'
 | .tup r,.tup r'=>Bi r r'
 | .one t,.one t'=>Bi t t'
 | .cons t r,.cons t' r'=>match Bi t t',Bi r r' with
  |some f,some g=>some fun x=>(f x.1,g x.2)
  |_,_=>none
 |t,u=>if h:t=u then some fun x=>h▸x else none
theorem DW{t u:Ty}{f:D t→D u}(h:(if h:t=u then some (fun x=>h▸x:D t→D u)else none)=some f){x:D t}{cs:List CV}(hc:Can t x cs):Can u (f x) cs:=by
 split at h<;>(try cases h;done);rename_i e;subst e;cases h;exact hc
theorem Co:∀(t u:Ty) {f:D t→D u} {x:D t} {cs:List CV},Bi t u=some f→Can t x cs→Can u (f x) cs:=by
 intro t
 induction t with
 |clo g r _=>
  intro u f x cs h hc
  cases u with
  |falt g' r' l=>
   unfold Can at hc;obtain⟨cap,rfl,hc⟩:=hc;exact JW hc h
  |_=>exact DW h hc
 |nfn=>
  intro u f x cs h hc
  cases u with
  |falt g' r' l'=>exact Qa (l:=.nfn) (m:=.falt g' r' l') h hc
  |_=>exact DW h hc
 |falt g r l _ _=>
  intro u f x cs h hc
  cases u with
  |falt g' r' l'=>
   simp only[Bi]at h;split at h
   ·rename_i e;cases e;cases h;exact hc
   ·exact Qa (l:=.falt g r l) (m:=.falt g' r' l') h hc
  |_=>exact DW h hc
 |nsl=>
  intro u f x cs h hc
  cases u with
  |sl e=>
   simp only[Bi,Ac]at h;subst h;unfold Can at hc⊢;exact⟨_,_,hc,rfl⟩
  |_=>exact DW h hc
 |nmap=>
  intro u f x cs h hc
  cases u with
  |map k v=>
   simp only[Bi,Ac]at h;subst h;unfold Can at hc⊢;exact⟨_,_,_,hc,rfl,rfl⟩
  |_=>exact DW h hc
 |nilp=>
  intro u f x cs h hc
  cases u with
  |bptr N=>unfold Can at hc⊢;exact .inr (.inr hc)
  |_=>exact DW h hc
 |nam N=>
  intro u f x cs h hc
  cases u with
  |bptr N'=>
   simp only[Bi]at h;split at h<;>(try cases h;done);rename_i e;subst e;unfold Can at hc⊢;exact .inr (.inl hc)
  |_=>exact DW h hc
 |agg r ih=>
  intro u f x cs h hc
  cases u with
  |agg r'=>
   unfold Can at hc⊢;obtain⟨l,e,hc⟩:=hc;exact⟨l,e,ih r' h hc⟩
  |_=>exact DW h hc
 |tup r ih=>
  intro u f x cs h hc
  cases u with
  |tup r'=>
   unfold Can at hc⊢;obtain⟨l,e,hc⟩:=hc;exact⟨l,e,ih r' h hc⟩
  |_=>exact DW h hc
 |one t ih=>
  intro u f x cs h hc
  cases u with
  |one t'=>
   unfold Can at hc⊢;obtain⟨c,e,hc⟩:=hc;exact⟨c,e,ih t' h hc⟩
  |_=>exact DW h hc
 |cons t r iht ihr=>
  intro u f x cs h hc
  cases u with
  |cons t' r'=>
   simp only[Bi]at h;split at h<;>(try cases h;done);rename_i f1 g1 hf hg;cases h;unfold Can at hc⊢;obtain⟨c,l,e,h1,h2⟩:=hc;exact⟨c,l,e,iht t' hf h1,ihr r' hg h2⟩
  |_=>exact DW h hc
 |_=>intro u f x cs h hc;exact DW (by cases u<;>exact h) hc
inductive Dyn (A B:Type) where
 |tot (f:A→B)
 |par (f:A→Option B)
def Dyn.val{A B:Type}:Dyn A B→A→Option B
 | .tot f,a=>some (f a)
 | .par f,a=>f a
def Dyn.app{A B R:Type}(d:Dyn A B)(a:A)(K:B→Option R):Option R:=
 match d with
 | .tot f=>K (f a)
 | .par f=>(f a).bind K
def Dyn.map{A B C:Type}(g:A→B→C):Dyn A B→Dyn A C
 | .tot f=>.tot fun a=>g a (f a)
 | .par f=>.par fun a=>(f a).map (g a)
def Dyn.both{A B C:Type}:Dyn A B→Dyn A C→Dyn A (B×C)
 | .tot f,.tot g=>.tot fun a=>(f a,g a)
 |d,e=>.par fun a=>(d.val a).bind fun b=>(e.val a).map fun c=>(b,c)
def Dyn.comp{A B C:Type}:Dyn A B→Dyn B C→Dyn A C
 | .tot f,.tot g=>.tot fun a=>g (f a)
 | .tot f,.par g=>.par fun a=>g (f a)
 | .par f,.tot g=>.par fun a=>(f a).map g
 | .par f,.par g=>.par fun a=>(f a).bind g
section
variable {A B C R:Type}
theorem Dyn.app_some{d:Dyn A B}{a:A}{K:B→Option R}{r:R}(h:d.app a K=some r):∃b,d.val a=some b∧K b=some r:=by
 cases d with
 |tot f=>exact⟨_,rfl,h⟩
 |par f=>exact Ab.1 h
theorem Dyn.map_val{g:A→B→C}{d:Dyn A B}{a:A}{c:C}(h:(d.map g).val a=some c):∃b,d.val a=some b∧c=g a b:=by
 cases d with
 |tot f=>cases h;exact⟨_,rfl,rfl⟩
 |par f=>
  obtain⟨b,h1,h2⟩:=Aa.1 h;exact⟨b,h1,h2.symm⟩
theorem Dyn.both_val{d:Dyn A B}{e:Dyn A C}{a:A}{p:B×C}(h:(d.both e).val a=some p):d.val a=some p.1∧e.val a=some p.2:=by
 have key:∀{x:Option B} {y:Option C},(x.bind fun b=>y.map fun c=>(b,c))=some p→x=some p.1∧y=some p.2:=by
  intro x y h;obtain⟨b,h1,h2⟩:=Ab.1 h;obtain⟨c,h3,h4⟩:=Aa.1 h2;subst h4;exact⟨h1,h3⟩
 cases d<;>cases e
 ·cases h;exact⟨rfl,rfl⟩
 all_goals exact key h
theorem Dyn.comp_val{d:Dyn A B}{e:Dyn B C}{a:A}{c:C}(h:(d.comp e).val a=some c):∃b,d.val a=some b∧e.val b=some c:=by
 cases d<;>cases e
 ·exact⟨_,rfl,h⟩
 ·exact⟨_,rfl,h⟩
 ·obtain⟨b,h1,h2⟩:=Aa.1 h;exact⟨b,h1,by rw[←h2];rfl⟩
 ·exact Ab.1 h
end
inductive EK where
 |v (t:Ty)
 |opt (k:EK)
 |rp (ex:Bool) (r:Ty)
 |ptr (id off:Nat)
 |eptr (id size off:Nat)
 |aptr (id len off:Nat)
 |own (id:Nat)
 |mp (id:Nat)
 |iter (id:Nat)
 |ent (id:Nat) (k v:Ty)
 |stamp (id:Nat) (k:Ty)
 |undef
 |box (n:Nat) (bt:Option TypeId)
 |arr (e size:Nat) (t:Ty)
 |mob (mt:Nat) (k v:Ty)
 |sit
 |mit (k v:Ty)
 |mcur (k v:Ty)
 |gone
 |buf (e:Nat)
 deriving DecidableEq
@[reducible] def DK:EK→Type
 | .v t=>D t
 | .opt k=>Option (DK k)
 | .rp _ r=>D r
 | .eptr _ _ _=>Nat
 | .aptr _ _ _=>Nat
 | .ent _ k v=>D k×D v
 | .stamp _ k=>D k
 | .arr _ _ t=>List (D t)
 | .mob _ k v=>List (D k×D v)
 | .sit=>List UInt8×Nat
 | .mit k v=>List (D k×D v)
 | .mcur k v=>D k×D v
 | .buf _=>List UInt8
 |_=>Unit
inductive Key where
 |s (i:Nat)
 |o (id:Nat)
 |c (id j:Nat)
 deriving DecidableEq
abbrev TC:=List (Key×EK)
@[reducible] def HS:TC→Type
 | []=>Unit
 |e::Γ=>DK e.2×HS Γ
def get:(Γ:TC)→Key→Option (Σ k:EK,HS Γ→DK k)
 | [],_=>none
 |e::Γ,p=>if e.1=p then some ⟨e.2,fun ρ=>ρ.1⟩else match get Γ p with
  |some q=>some ⟨q.1,fun ρ=>q.2 ρ.2⟩
  |none=>none
theorem C7(Γ:TC)(p:Key)(k:EK):get ((p,k)::Γ) p=some ⟨k,fun ρ=>ρ.1⟩:=by simp[get]
theorem Ce{Γ:TC}{q p:Key}{k:EK}(h:q≠p){r:Σ k':EK,HS ((q,k)::Γ)→DK k'}(hg:get ((q,k)::Γ) p=some r):∃f,get Γ p=some ⟨r.1,f⟩∧∀ρ,r.2 ρ=f ρ.2:=by
 unfold get at hg;rw[if_neg h]at hg;split at hg<;>(try cases hg;done);rename_i t ht;cases hg;exact⟨t.2,ht,fun _=>rfl⟩
def EN:Ty→KT
 | .int k=>.int k
 | .str=>.str
 | .bool=>.bool
 |_=>.struct []
def EM:Ty→List KT
 | .one t=> [EN t]
 | .cons t r=>EN t::EM r
 |_=> []
def ktT:Ty→KT
 | .agg r=>.struct (EM r)
 |t=>EN t
def Bv:(t:Ty)→D t
 | .int _=>0
 | .bool=>false
 | .str=> []
 | .err=>true
 | .clo _ r=>Bv r
 | .falt _ r _=>.inl (Bv r)
 | .nsl=>()
 | .nmap=>()
 | .nfn=>()
 | .nam _=>()
 | .bptr _=>()
 | .nilp=>()
 | .pt r=>Bv r
 | .nw _ _ _=> []
 | .agg r=>Bv r
 | .tup r=>Bv r
 | .sl _=> []
 | .map _ _=> []
 | .nil=>()
 | .one t=>Bv t
 | .cons t r=>(Bv t,Bv r)
def RS:(k:EK)→DK k→SV→Prop
 | .v t,x,sv=>∃c,sv=.c c∧Can t x [c]
 | .opt k,x,sv=>match x with
  |none=>sv=Bn
  |some y=>RS k y sv
 | .rp ex r,x,sv=>∃cs rest,sv=.c (.rp (cs++rest))∧Can r x cs∧(ex=true→rest= [])
 | .ptr id o,_,sv=>sv=.ptr id o
 | .eptr id s o,i,sv=>sv=.eptr id i s o
 | .aptr id n o,i,sv=>sv=.ptr id (o+i)∧i<n
 | .own id,_,sv=>sv=.osl id
 | .mp id,_,sv=>sv=.omap id
 | .iter id,_,sv=>sv=.iter id
 | .ent id k v,x,sv=>∃ck cv,sv=.ent id ck cv∧Can k x.1 [ck]∧Can v x.2 [cv]
 | .stamp id k,x,sv=>∃ck,sv=.stamp id ck∧Can k x [ck]
 | .undef,_,_=>True
 |_,_,_=>False
def RO(Γ:TC)(ρ:HS Γ)(id:Nat):(k:EK)→DK k→Ob→Prop
 | .box n bt,_,ob=>∃cs,ob=.box cs bt∧cs.length=n∧∀j q,j<n→get Γ (.c id j)=some q→∃sv,cs[j]? =some sv∧RS q.1 (q.2 ρ) sv
 | .arr e size t,xs,ob=>∃es,ob=.arr e size es∧Ap (fun x c=>Can t x [c]) xs es
 | .mob mt k v,m,ob=>∃z ks vs,ob=.map mt (ktT k) z ks vs∧Can v (Bv v) [z]∧Ap (fun x c=>Can k x.1 [c]) m ks∧Ap (fun x c=>Can v x.2 [c]) m vs
 | .sit,x,ob=>ob=.siter x.1 x.2
 | .mit k v,m,ob=>∃ks vs cur,ob=.miter ks vs cur∧Ap (fun x c=>Can k x.1 [c]) m ks∧Ap (fun x c=>Can v x.2 [c]) m vs
 | .mcur k v,x,ob=>∃ks vs ck cv,ob=.miter ks vs (some (ck,cv))∧Can k x.1 [ck]∧Can v x.2 [cv]
 | .gone,_,ob=>ob=.none
 | .buf e,s,ob=>ob=.buf e s
 | .undef,_,_=>True
 |_,_,_=>False
structure Rep (Γ:TC) (ρ:HS Γ) (st:St):Prop where
 s:∀i q,get Γ (.s i)=some q→RS q.1 (q.2 ρ) (st.fr i)
 o:∀id q,get Γ (.o id)=some q→RO Γ ρ id q.1 (q.2 ρ) (st.ob id)
theorem RO.congr{Γ Γ':TC}{ρ:HS Γ}{ρ':HS Γ'}{id:Nat}{k:EK}{x:DK k}{ob:Ob}(h:RO Γ ρ id k x ob)(hc:∀j q,get Γ' (.c id j)=some q→∃f,get Γ (.c id j)=some ⟨q.1,f⟩∧q.2 ρ'=f ρ):RO Γ' ρ' id k x ob:=by
 cases k<;>try exact h
 unfold RO at h⊢;obtain⟨cs,e,hl,hh⟩:=h;refine⟨cs,e,hl,fun j q hj hq=> ?_⟩;obtain⟨f,hf,hx⟩:=hc j q hq;obtain⟨sv,h1,h2⟩:=hh j _ hj hf;exact⟨sv,h1,hx▸h2⟩
theorem Rep.set{Γ:TC}{ρ:HS Γ}{st:St}(h:Rep Γ ρ st){d:Nat}{k:EK}{x:DK k}{sv:SV}(hs:RS k x sv):Rep ((.s d,k)::Γ) (x,ρ) (st.set (some d) (sv)):=by
 refine⟨fun i q hq=> ?_,fun id q hq=> ?_⟩
 ·by_cases hi:d=i
  ·subst hi;rw[C7]at hq;cases hq;simpa[St.set,upd]using hs
  ·obtain⟨f,hf,hx⟩:=Ce (by simpa using hi) hq;have:=h.s i _ hf;rw[hx];simpa[St.set,upd,Ne.symm hi]using this
 ·obtain⟨f,hf,hx⟩:=Ce (by simp) hq;have:=h.o id _ hf;rw[hx];refine RO.congr this fun j q' hq'=> ?_;obtain⟨f',hf',hx'⟩:=Ce (by simp) hq';exact⟨f',hf',hx' _⟩
def lAt{α:Type}(xs:List α)(n:Int):Option α:=if 0≤n∧n<xs.length then xs[n.toNat]? else none
def sAt(s:List UInt8)(n:Int):Option Int:=if 0≤n∧n<s.length then(s[n.toNat]?).map fun b=>(b.toNat:Int)else none
def Be{α:Type}(xs:List α)(lo hi:Int):Option (List α):=if 0≤lo∧lo≤hi∧hi≤xs.length then some ((xs.take hi.toNat).drop lo.toNat)else none
def Ii(op:BinOp)(k:IntKind)(x y:Int):Int:=
 match op with
 | .and=>k.wrap (BitVec.ofInt k.bits x&&&BitVec.ofInt k.bits y).toNat
 | .or=>k.wrap (BitVec.ofInt k.bits x|||BitVec.ofInt k.bits y).toNat
 | .xor=>k.wrap (BitVec.ofInt k.bits x^^^BitVec.ofInt k.bits y).toNat
 |_=>k.wrap (BitVec.ofInt k.bits x&&& ~~~(BitVec.ofInt k.bits y)).toNat
def Bh{α β:Type}(eq:α→α→Bool)(z:β)(x:α):List (α×β)→β×Bool
 | []=>(z,false)
 |p::m=>if eq x p.1 then(p.2,true)else Bh eq z x m
def B0{α β:Type}(eq:α→α→Bool)(x:α)(y:β):List (α×β)→List (α×β)
 | []=> [(x,y)]
 |p::m=>if eq x p.1 then(p.1,y)::m else p::B0 eq x y m
section
variable (G:Nat→List CV) (Γ:TC)
def rdV:SO→Option (Σ t:Ty,Dyn (HS Γ) (D t))
 | .t i=>match get Γ (.s i)with
  |some ⟨.v t,f⟩=>some ⟨t,.tot f⟩
  |some ⟨.opt (.v t),f⟩=>some ⟨t,.par f⟩
  |_=>none
 | .k c=>match B2 c with
  |some q=>some ⟨q.1,.tot fun _=>q.2⟩
  |none=>none
 | .g _=>none
def rdK:SO→Option (Σ k:EK,Dyn (HS Γ) (DK k))
 | .t i=>match get Γ (.s i)with
  |some ⟨.opt k,f⟩=>some ⟨k,.par f⟩
  |some q=>some ⟨q.1,.tot q.2⟩
  |none=>none
 | .k c=>match B2 c with
  |some q=>some ⟨.v q.1,.tot fun _=>q.2⟩
  |none=>none
 | .g i=>match G i,EC (G i)with
  |_::_,some q=>some ⟨.rp true q.1,.tot fun _=>q.2⟩
  |_,_=>none
end
section
variable {G:Nat→List CV} {Γ:TC} {ρ:HS Γ} {st:St}
theorem A5{x:SO}{q:Σ t:Ty,Dyn (HS Γ) (D t)}(h:rdV Γ x=some q)(hr:Rep Γ ρ st){a:D q.1}(ha:q.2.val ρ=some a):∃c,so G st.fr x=.c c∧Can q.1 a [c]:=by
 cases x with
 |t i=>
  simp only[rdV]at h;split at h
  ·rename_i t f hg;cases h;cases ha;exact hr.s i _ hg
  ·rename_i t f hg;cases h;have:=hr.s i _ hg;have ha':f ρ=some a:=ha;unfold RS at this;simp only[ha']at this;unfold RS at this;exact this
  ·cases h
 |k c=>
  simp only[rdV]at h;split at h<;>(try cases h;done);rename_i p hp;cases h;cases ha;exact⟨c,rfl,Ip hp⟩
 |g i=>cases h
theorem Bc{x:SO}{q:Σ k:EK,Dyn (HS Γ) (DK k)}(h:rdK G Γ x=some q)(hr:Rep Γ ρ st){a:DK q.1}(ha:q.2.val ρ=some a):RS q.1 a (so G st.fr x):=by
 cases x with
 |t i=>
  simp only[rdK]at h;split at h
  ·rename_i t f hg;cases h;have:=hr.s i _ hg;have ha':f ρ=some a:=ha;unfold RS at this;simp only[ha']at this;exact this
  ·rename_i p hp hg;cases h;cases ha;exact hr.s i _ hg
  ·cases h
 |k c=>
  simp only[rdK]at h;split at h<;>(try cases h;done);rename_i p hp;cases h;cases ha;exact⟨c,rfl,Ip hp⟩
 |g i=>
  simp only[rdK]at h;split at h<;>(try cases h;done);rename_i c cs p hG hp;cases h;cases ha;refine⟨G i,[], ?_,Hi hp,fun _=>rfl⟩;simp[so,hG]
end
def M7(op:BinOp)(k:IntKind):Option (Σ t:Ty,Dyn (Int×Int) (D t)):=
 match op with
 | .add=>some ⟨.int k,.tot fun p=>k.wrap (p.1+p.2)⟩
 | .sub=>some ⟨.int k,.tot fun p=>k.wrap (p.1-p.2)⟩
 | .mul=>some ⟨.int k,.tot fun p=>k.wrap (p.1*p.2)⟩
 | .quo=>some ⟨.int k,.par fun p=>if p.2=0 then none else some (k.wrap (p.1.tdiv p.2))⟩
 | .rem=>some ⟨.int k,.par fun p=>if p.2=0 then none else some (p.1.tmod p.2)⟩
 | .and=>some ⟨.int k,.tot fun p=>Ii .and k p.1 p.2⟩
 | .or=>some ⟨.int k,.tot fun p=>Ii .or k p.1 p.2⟩
 | .xor=>some ⟨.int k,.tot fun p=>Ii .xor k p.1 p.2⟩
 | .andNot=>some ⟨.int k,.tot fun p=>Ii .andNot k p.1 p.2⟩
 | .eql=>some ⟨.bool,.tot fun p=>p.1==p.2⟩
 | .neq=>some ⟨.bool,.tot fun p=>p.1 !=p.2⟩
 | .lss=>some ⟨.bool,.tot fun p=>decide (p.1<p.2)⟩
 | .leq=>some ⟨.bool,.tot fun p=>decide (p.1≤p.2)⟩
 | .gtr=>some ⟨.bool,.tot fun p=>decide (p.1>p.2)⟩
 | .geq=>some ⟨.bool,.tot fun p=>decide (p.1≥p.2)⟩
 |_=>none
def M8(op:BinOp):Option (Σ t:Ty,Dyn (List UInt8×List UInt8) (D t)):=
 match op with
 | .add=>some ⟨.str,.par fun p=>if p.1.length+p.2.length≤4611686018427387904 then some (p.1++p.2)else none⟩
 | .eql=>some ⟨.bool,.tot fun p=>p.1==p.2⟩
 | .neq=>some ⟨.bool,.tot fun p=> !(p.1==p.2)⟩
 | .lss=>some ⟨.bool,.tot fun p=>Fp p.1 p.2⟩
 | .leq=>some ⟨.bool,.tot fun p=>Fp p.1 p.2||p.1==p.2⟩
 | .gtr=>some ⟨.bool,.tot fun p=> !(Fp p.1 p.2||p.1==p.2)⟩
 | .geq=>some ⟨.bool,.tot fun p=> !(Fp p.1 p.2)⟩
 |_=>none
def M6(op:BinOp):(t u:Ty)→Option (Σ v:Ty,Dyn (D t×D u) (D v))
 | .int k,.int k'=>match op with
  | .shl=>some ⟨.int k,.par fun p=>if p.2<0 then none else some (k.wrap (p.1*2^(min p.2.toNat k.bits)))⟩
  | .shr=>some ⟨.int k,.par fun p=>if p.2<0 then none else some (p.1.fdiv (2^(min p.2.toNat k.bits)))⟩
  |_=>if k=k' then M7 op k else none
 | .str,.str=>M8 op
 |_,_=>none
theorem U5{op:BinOp}{k:IntKind}{q:Σ t:Ty,Dyn (Int×Int) (D t)}(h:M7 op k=some q){a b:Int}{x:D q.1}(hx:q.2.val (a,b)=some x):∃c,Gg op k a b=some c∧Can q.1 x [c]:=by
 cases op<;>simp only[M7,Ac,reduceCtorEq]at h<;>cases h
 case quo=>
  simp only[Dyn.val]at hx;split at hx<;>(try cases hx;done);rename_i hb;cases hx;exact⟨_,by simp only[Gg];rw[if_neg hb],by unfold Can;rfl⟩
 case rem=>
  simp only[Dyn.val]at hx;split at hx<;>(try cases hx;done);rename_i hb;cases hx;exact⟨_,by simp only[Gg];rw[if_neg hb],by unfold Can;rfl⟩
 all_goals
  cases hx;exact⟨_,rfl,by unfold Can;rfl⟩
theorem U6{op:BinOp}{q:Σ t:Ty,Dyn (List UInt8×List UInt8) (D t)}(h:M8 op=some q){a b:List UInt8}{x:D q.1}(hx:q.2.val (a,b)=some x):∃c,Ih op a b=some c∧Can q.1 x [c]:=by
 cases op<;>simp only[M8,Ac,reduceCtorEq]at h<;>cases h
 case add=>
  simp only[Dyn.val]at hx;split at hx<;>(try cases hx;done);rename_i hb;cases hx;exact⟨_,by simp only[Ih];rw[if_pos hb],by unfold Can;rfl⟩
 all_goals
  cases hx;exact⟨_,rfl,by unfold Can;rfl⟩
theorem U7{op:BinOp}{t u:Ty}{q:Σ v:Ty,Dyn (D t×D u) (D v)}(h:M6 op t u=some q){a:D t}{b:D u}{ca cb:CV}(ha:Can t a [ca])(hb:Can u b [cb]){x:D q.1}(hx:q.2.val (a,b)=some x):
  ∃c,DT op ca cb=some c∧Can q.1 x [c]:=by
 unfold M6 at h;split at h
 ·rename_i k k';unfold Can at ha hb;cases ha;cases hb;split at h
  ·cases h;simp only[Dyn.val]at hx;split at hx<;>(try cases hx;done);rename_i hneg;cases hx;exact⟨_,by simp only[DT];rw[if_neg hneg],by unfold Can;rfl⟩
  ·cases h;simp only[Dyn.val]at hx;split at hx<;>(try cases hx;done);rename_i hneg;cases hx;exact⟨_,by simp only[DT];rw[if_neg hneg],by unfold Can;rfl⟩
  ·rename_i hl hr;split at h<;>(try cases h;done);rename_i hk;subst hk;obtain⟨c,h1,h2⟩:=U5 h hx;refine⟨c, ?_,h2⟩;cases op<;>first|(exact(hl rfl).elim)|(exact(hr rfl).elim)|(simp only[DT,if_true];exact h1)
 ·unfold Can at ha hb;cases ha;cases hb;exact U6 h hx
 ·cases h
def Ix:KT→(t u:Ty)→Option (D t→D u→Bool)
 | .int _,.int k,.int k'=>if k=k' then some fun(a b:Int)=>a==b else none
 | .str,.str,.str=>some fun(a b:List UInt8)=>a==b
 | .bool,.bool,.bool=>some fun(a b:Bool)=>a==b
 |_,_,_=>none
def Iy:(r s:Ty)→List KT→Option (D r→D s→Bool)
 | .nil,.nil,ks=>if ks.isEmpty then some fun _ _=>true else none
 | .one t,.one u,ks=>match ks with
  | [k]=>Ix k t u
  |_=>none
 | .cons t r,.cons u s,ks=>match ks with
  |k::ks=>match Ix k t u,Iy r s ks with
   |some f,some g=>some fun x y=>f x.1 y.1&&g x.2 y.2
   |_,_=>none
  | []=>none
 |_,_,_=>none
theorem Q9{k:KT}{t u:Ty}{f:D t→D u→Bool}(h:Ix k t u=some f){a:D t}{b:D u}{ca cb:CV}(ha:Can t a [ca])(hb:Can u b [cb]):eq1 k ca cb=some (f a b):=by
 unfold Ix at h;split at h
 ·split at h<;>(try cases h;done);rename_i hk;cases h;unfold Can at ha hb;cases ha;cases hb;simp[eq1,hk]
 ·cases h;unfold Can at ha hb;cases ha;cases hb;rfl
 ·cases h;unfold Can at ha hb;cases ha;cases hb;rfl
 ·cases h
theorem Wd:∀{r s:Ty} {ks:List KT} {f:D r→D s→Bool},Iy r s ks=some f→∀{a:D r} {b:D s} {la lb:List CV},Can r a la→Can s b lb→eqL ks la lb=some (f a b):=by
 intro r
 induction r with
 |nil=>
  intro s ks f h a b la lb ha hb;cases s<;>(try cases h;done);simp only[Iy,Ad,Ac]at h;obtain⟨hk,rfl⟩:=h;cases ks<;>simp at hk;unfold Can at ha hb;subst ha;subst hb;rfl
 |one t=>
  intro s ks f h a b la lb ha hb;cases s<;>(try cases h;done);rename_i u
  match ks,h with
  | [k],h=>
   unfold Can at ha hb;obtain⟨ca,rfl,ha⟩:=ha;obtain⟨cb,rfl,hb⟩:=hb;have h':Ix k t u=some f:=h;simp[eqL,Q9 h' ha hb]
  | [],h=>cases h
  |_::_::_,h=>cases h
 |cons t r iht ihr=>
  intro s ks f h a b la lb ha hb;cases s<;>(try cases h;done)
  match ks,h with
  | [],h=>cases h
  |k::ks,h=>
   simp only[Iy]at h;split at h<;>(try cases h;done);rename_i f1 g1 hf hg;cases h;unfold Can at ha hb;obtain⟨ca,la',rfl,ha1,ha2⟩:=ha;obtain⟨cb,lb',rfl,hb1,hb2⟩:=hb;simp[eqL,Q9 hf ha1 hb1,ihr hg ha2 hb2]
 |_=>
  intro s ks f h;cases s<;>cases h
def HD:Ty→Bool
 | .int _| .str| .bool=>true
 |_=>false
def LB:Ty→Bool
 | .one t=>HD t
 | .cons t r=>HD t&&LB r
 |_=>false
def E3:Ty→Bool
 | .agg r=>LB r
 |t=>HD t
def Ko:(t:Ty)→D t→D t→Bool
 | .int _,a,b=>(a:Int)==b
 | .str,a,b=>(a:List UInt8)==b
 | .bool,a,b=>(a:Bool)==b
 |_,_,_=>false
def Iz:(r:Ty)→D r→D r→Bool
 | .one t,a,b=>Ko t a b
 | .cons t r,a,b=>Ko t a.1 b.1&&Iz r a.2 b.2
 |_,_,_=>false
def eqZ:(t:Ty)→D t→D t→Bool
 | .agg r,a,b=>Iz r a b
 | .int _,a,b=>(a:Int)==b
 | .str,a,b=>(a:List UInt8)==b
 | .bool,a,b=>(a:Bool)==b
 |_,_,_=>false
theorem QH{t:Ty}(hp:HD t=true){a b:D t}{ca cb:CV}(ha:Can t a [ca])(hb:Can t b [cb]):eq1 (EN t) ca cb=some (Ko t a b)∧B1 (EN t) ca=true:=by
 cases t<;>simp only[HD,Ag]at hp<;>(unfold Can at ha hb;cases ha;cases hb;simp[eq1,Ko,EN,B1])
theorem We:∀{r:Ty} (_:LB r=true) {a b:D r} {la lb:List CV},Can r a la→Can r b lb→eqL (EM r) la lb=some (Iz r a b)∧B8 (EM r) la=true:=by
 intro r
 induction r with
 |one t=>
  intro hp a b la lb ha hb;unfold Can at ha hb;obtain⟨ca,rfl,ha⟩:=ha;obtain⟨cb,rfl,hb⟩:=hb;have:=QH hp ha hb;simp[EM,eqL,Iz,B8,this.1,this.2]
 |cons t r iht ihr=>
  intro hp a b la lb ha hb;simp only[LB,Af]at hp;unfold Can at ha hb;obtain⟨ca,la',rfl,ha1,ha2⟩:=ha;obtain⟨cb,lb',rfl,hb1,hb2⟩:=hb;have h1:=QH hp.1 ha1 hb1;have h2:=ihr hp.2 ha2 hb2;simp[EM,eqL,Iz,B8,h1.1,h1.2,h2.1,h2.2]
 |_=>intro hp;cases hp
theorem Gt{k:Ty}(hp:E3 k=true){a b:D k}{ca cb:CV}(ha:Can k a [ca])(hb:Can k b [cb]):Cf (ktT k) ca cb=eqZ k a b∧AI (ktT k) ca=true:=by
 cases k<;>simp only[E3,HD,Ag]at hp
 case agg r=>
  unfold Can at ha hb;obtain⟨la,e,ha⟩:=ha;cases e;obtain⟨lb,e,hb⟩:=hb;cases e;have:=We hp ha hb;simp[ktT,Cf,AI,eqZ,this.1,this.2]
 all_goals(unfold Can at ha hb;cases ha;cases hb;simp[eq1,eqZ,ktT,EN,Cf,AI,B1])
theorem Lc{k v:Ty}(hp:E3 k=true){x:D k}{cx:CV}(hx:Can k x [cx]){zv:D v}{z:CV}(hz:Can v zv [z]):∀{m:List (D k×D v)} {ks vs:List CV},Ap (fun x c=>Can k x.1 [c]) m ks→Ap (fun x c=>Can v x.2 [c]) m vs→
  ∃c,AX (ktT k) z ks vs cx=(c,(Bh (eqZ k) zv x m).2)∧Can v (Bh (eqZ k) zv x m).1 [c]
 | [],ks,vs,h1,h2=>by
  unfold Ap at h1 h2;subst h1;subst h2;exact⟨z,rfl,hz⟩
 |p::m,ks,vs,h1,h2=>by
  obtain⟨ck,ks',rfl,g1,h1⟩:=h1;obtain⟨cv,vs',rfl,g2,h2⟩:=h2;have he:=(Gt hp hx g1).1;obtain⟨c,q1,q2⟩:=Lc hp hx hz h1 h2;unfold Bh
  cases hb:eqZ k x p.1 with
  |true=>
   refine⟨cv, ?_,by simpa using g2⟩;simp[AX,AJ,he,hb]
  |false=>
   refine⟨c, ?_,by simpa using q2⟩;simp only[Ag,if_false];rw[←q1];simp only[AX,AJ,he,hb,Ag,if_false];cases AJ (ktT k) cx ks'<;>simp
theorem KK{k v:Ty}(hp:E3 k=true){x:D k}{cx:CV}(hx:Can k x [cx]){y:D v}{cy:CV}(hy:Can v y [cy]):∀{m:List (D k×D v)} {ks vs:List CV},Ap (fun x c=>Can k x.1 [c]) m ks→Ap (fun x c=>Can v x.2 [c]) m vs→
  Ap (fun x c=>Can k x.1 [c]) (B0 (eqZ k) x y m) (Bk (ktT k) ks cx)∧Ap (fun x c=>Can v x.2 [c]) (B0 (eqZ k) x y m) (Bl (ktT k) ks vs cx cy)
 | [],ks,vs,h1,h2=>by
  unfold Ap at h1 h2;subst h1;subst h2;exact⟨⟨cx,[],rfl,hx,rfl⟩,⟨cy,[],rfl,hy,rfl⟩⟩
 |p::m,ks,vs,h1,h2=>by
  obtain⟨ck,ks',rfl,g1,h1⟩:=h1;obtain⟨cv,vs',rfl,g2,h2⟩:=h2;have he:=(Gt hp hx g1).1;obtain⟨q1,q2⟩:=KK hp hx hy h1 h2;unfold B0
  cases hb:eqZ k x p.1 with
  |true=>
   simp only[if_true];rw[hb]at he;exact⟨⟨ck,ks',by simp[Bk,AJ,he],g1,h1⟩,⟨cy,vs',by simp[Bl,AJ,he],hy,h2⟩⟩
  |false=>
   simp only[Ag,if_false];rw[hb]at he;refine⟨⟨ck,Bk (ktT k) ks' cx, ?_,g1,q1⟩,⟨cv,Bl (ktT k) ks' vs' cx cy, ?_,g2,q2⟩⟩
   ·simp only[Bk,AJ,he,Ag,if_false];cases AJ (ktT k) cx ks'<;>simp
   ·simp only[Bl,AJ,he,Ag,if_false];cases AJ (ktT k) cx ks'<;>simp
theorem R0{k v:Ty}(hp:E3 k=true):∀{m:List (D k×D v)} {ks:List CV},Ap (fun x c=>Can k x.1 [c]) m ks→ks.all (AI (ktT k))=true
 | [],ks,h=>by unfold Ap at h;subst h;rfl
 |p::m,ks,h=>by
  obtain⟨c,ks',rfl,h1,h2⟩:=h;simp[(Gt hp h1 h1).2];simpa using R0 hp h2
def E1:Ty→Bool
 | .agg _| .tup _| .nil| .one _| .cons _ _| .nw _ _ _=>false
 | .falt _ _ l=>l.isFn
 |_=>true
def ER:Ty→Bool
 | .nil=>true
 | .one t=>E1 t
 | .cons t r=>E1 t&&ER r
 |_=>false
def Jh{A B:Type}:Dyn A Bool→Dyn A B→Dyn A B→Dyn A B
 | .tot c,.tot f,.tot g=>.tot fun ρ=>if c ρ then f ρ else g ρ
 |c,f,g=>.par fun ρ=>(c.val ρ).bind fun b=>if b then f.val ρ else g.val ρ
theorem Yj{A B:Type}{c:Dyn A Bool}{f g:Dyn A B}{a:A}{x:B}(h:(Jh c f g).val a=some x):∃b,c.val a=some b∧(if b then f.val a else g.val a)=some x:=by
 cases c<;>cases f<;>cases g
 ·rename_i c f g;refine⟨c a,rfl, ?_⟩;simp only[Jh,Dyn.val]at h;rw[←h];cases c a<;>rfl
 all_goals exact Ab.1 h
def J9:(r:Ty)→Option (D r→List (List UInt8))
 | .one .str=>some fun x=> [x]
 | .cons .str r=>match J9 r with
  |some f=>some fun x=>x.1::f x.2
  |none=>none
 |_=>none
theorem T2:∀{r:Ty} {f:D r→List (List UInt8)} {x:D r} {l:List CV},J9 r=some f→Can r x l→l=(f x).map CV.str
 | .one .str,f,x,l,h,hc=>by
  simp only[J9,Ac]at h;subst h;unfold Can at hc;obtain⟨c,rfl,hc⟩:=hc;unfold Can at hc;cases hc;rfl
 | .cons .str r,f,x,l,h,hc=>by
  simp only[J9]at h;split at h
  ·rename_i g hg;cases h;unfold Can at hc;obtain⟨c,l',rfl,h1,h2⟩:=hc;unfold Can at h1;cases h1;rw[T2 hg h2];rfl
  ·cases h
theorem T4:∀(l:List (List UInt8)),(l.map CV.str).all ID=true
 | []=>rfl
 |s::l=>by simp only[List.map_cons,List.all_cons,ID,T4 l,Bool.and_self]
theorem T5:∀(l:List (List UInt8)),Ap (fun(x:D .str) c=>Can .str x [c]) l (l.map CV.str)
 | []=>rfl
 |s::l=>⟨_,_,rfl,by unfold Can;rfl,T5 l⟩
def GY(q:Ty)(size:Nat):(n:Nat)→(r:Ty)→Option (D r→List (D q))
 |0,_=>some fun _=> []
 |n+1,r=>match DQ r size,EF r size with
  |some f,some g=>if h:f.1=q then match GY q size n g.1 with
    |some k=>some fun x=>(h▸f.2 x)::k (g.2 x)
    |none=>none
   else none
  |_,_=>none
theorem M4{q:Ty}{size:Nat}:∀{n:Nat} {r:Ty} {f:D r→List (D q)} {x:D r} {l:List CV},GY q size n r=some f→Can r x l→(f x).length=n∧∀{j:Nat} {a:D q},(f x)[j]? =some a→Can q a ((l.drop (j*size)).take size)∧j*size+size≤l.length:=by
 intro n
 induction n with
 |zero=>intro r f x l h hc;cases h;exact⟨rfl,fun h=>by simp at h⟩
 |succ n ih=>
  intro r f x l h hc;simp only[GY]at h;split at h<;>(try cases h;done);rename_i p g hp hg;split at h<;>(try cases h;done);rename_i he;split at h<;>(try cases h;done);rename_i k hk;cases h;subst he;obtain⟨h1,h2⟩:=Mi hp hc;obtain⟨h3,h4⟩:=Ki hg hc;obtain⟨h5,h6⟩:=ih hk h3;refine⟨by simp[h5],fun{j a} hj=> ?_⟩
  cases j with
  |zero=>
   simp only[List.getElem?_cons_zero,Ac]at hj;subst hj;exact⟨by simpa using h1,by simpa using h2⟩
  |succ j=>
   simp only[List.getElem?_cons_succ]at hj;obtain⟨g1,g2⟩:=h6 hj;simp only[List.drop_drop,List.length_drop]at g1 g2;have e:size+j*size=(j+1)*size:=by rw[Nat.succ_mul];omega
   rw[e]at g1;exact⟨g1,by rw[←e];omega⟩
def BE:(t:Ty)→List CV→Bool
 | .int k,[.int k' n]=>k'=k&&n==0
 | .bool,[.bool b]=> !b
 | .str,[.str s]=>s.isEmpty
 | .err,[.nilif]=>true
 | .nsl,[.sl (some true) []]=>true
 | .nmap,[.map (some true) [] []]=>true
 | .sl _,[.sl (some true) []]=>true
 | .map _ _,[.map (some true) [] []]=>true
 | .agg r,[.agg l]=>BE r l
 | .nil,[]=>true
 | .one t,[c]=>BE t [c]
 | .cons t r,c::l=>BE t [c]&&BE r l
 |_,_=>false
theorem OX:∀{t:Ty} {cs:List CV},BE t cs=true→Can t (Bv t) cs:=by
 intro t
 induction t with
 |int k=>
  intro cs h;unfold BE at h;split at h<;>(try cases h;done);all_goals first|(rename_i e;cases e;done)|skip
  rename_i e;cases e;simp only[Af,decide_eq_true_eq,beq_iff_eq]at h;obtain⟨rfl,rfl⟩:=h;unfold Can;rfl
 |nam N=>intro cs h;unfold BE at h;cases h
 |bptr N=>intro cs h;unfold BE at h;cases h
 |nilp=>intro cs h;unfold BE at h;cases h
 |bool=>
  intro cs h;unfold BE at h;split at h<;>(try cases h;done);all_goals first|(rename_i e;cases e;done)|skip
  simp only[Bool.not_eq_true']at h;subst h;unfold Can;rfl
 |str=>
  intro cs h;unfold BE at h;split at h<;>(try cases h;done);all_goals first|(rename_i e;cases e;done)|skip
  simp only[List.isEmpty_iff]at h;subst h;unfold Can;rfl
 |err=>
  intro cs h;unfold BE at h;split at h<;>(try cases h;done);all_goals first|(rename_i e;cases e;done)|skip
  unfold Can;rfl
 |nsl=>
  intro cs h;unfold BE at h;split at h<;>(try cases h;done);all_goals first|(rename_i e;cases e;done)|skip
  unfold Can;rfl
 |nmap=>
  intro cs h;unfold BE at h;split at h<;>(try cases h;done);all_goals first|(rename_i e;cases e;done)|skip
  unfold Can;rfl
 |sl e _=>
  intro cs h;unfold BE at h;split at h<;>(try cases h;done);all_goals first|(rename_i e;cases e;done)|skip
  unfold Can;exact⟨_,_,rfl,rfl⟩
 |map k v _ _=>
  intro cs h;unfold BE at h;split at h<;>(try cases h;done);all_goals first|(rename_i e;cases e;done)|skip
  unfold Can;exact⟨_,_,_,rfl,rfl,rfl⟩
 |agg r ih=>
  intro cs h;unfold BE at h;split at h<;>(try cases h;done);all_goals first|(rename_i e;cases e;done)|skip
  rename_i e;cases e;unfold Can;exact⟨_,rfl,ih h⟩
 |nil=>
  intro cs h;unfold BE at h;split at h<;>(try cases h;done);all_goals first|(rename_i e;cases e;done)|skip
  unfold Can;rfl
 |one t ih=>
  intro cs h;unfold BE at h;split at h<;>(try cases h;done);all_goals first|(rename_i e;cases e;done)|skip
  rename_i e;cases e;unfold Can;exact⟨_,rfl,ih h⟩
 |cons t r iht ihr=>
  intro cs h;unfold BE at h;split at h<;>(try cases h;done);all_goals first|(rename_i e;cases e;done)|skip
  rename_i e;cases e;simp only[Af]at h;unfold Can;exact⟨_,_,rfl,iht h.1,ihr h.2⟩
 |tup r _=>intro cs h;unfold BE at h;cases h
 |clo f r _=>intro cs h;unfold BE at h;cases h
 |pt r _=>intro cs h;unfold BE at h;cases h
 |nw e size t _=>intro cs h;unfold BE at h;cases h
 |falt f r l _ _=>intro cs h;unfold BE at h;cases h
 |nfn=>intro cs h;unfold BE at h;cases h
def H1:KT→Ty→Bool
 | .int k,.int k'=>k=k'
 | .str,.str=>true
 | .bool,.bool=>true
 |_,_=>false
def IJ:List KT→Ty→Bool
 | [k],.one t=>H1 k t
 |k::ks,.cons t r=>H1 k t&&IJ ks r
 |_,_=>false
def ktB:KT→Ty→Bool
 | .struct ks,.agg r=>IJ ks r
 |k,t=>H1 k t
theorem Nz{k:KT}{t:Ty}(h:H1 k t=true):k=EN t:=by
 cases k<;>cases t<;>simp_all[H1,EN]
theorem Xk:∀{ks:List KT} {r:Ty},IJ ks r=true→ks=EM r:=by
 intro ks
 induction ks with
 |nil=>intro r h;cases r<;>cases h
 |cons k ks ih=>
  intro r h;cases r<;>(try cases ks<;>cases h;done)
  ·cases ks with
   |nil=>simp only[EM];rw[Nz h]
   |cons _ _=>cases h
  ·cases ks with
   |nil=>simp only[IJ,Af]at h;simp only[EM];rw[Nz h.1,←ih h.2]
   |cons k' ks'=>simp only[IJ,Af]at h;simp only[EM];rw[Nz h.1,←ih h.2]
theorem R6{k:KT}{t:Ty}(h:ktB k t=true):k=ktT t:=by
 cases k<;>cases t<;>first
  |(simp only[ktB]at h;simp only[ktT];rw[Xk h];done)
  |(simp_all[ktB,H1,ktT,EN];done)
section
variable (G:Nat→List CV) (Γ:TC) (msk:List Nat)
def D6(id:Nat):Option (Σ k:EK,HS Γ→DK k):=if msk.contains id then none else get Γ (.o id)
def Gj(id:Nat):Nat→Nat→Option (Σ r:Ty,HS Γ→D r)
 |0,off=>match get Γ (.c id off)with
  |some ⟨.v t,f⟩=>some ⟨.one t,f⟩
  |_=>none
 |n+1,off=>match get Γ (.c id off),Gj id n (off+1)with
  |some ⟨.v t,f⟩,some q=>some ⟨.cons t q.1,fun ρ=>(f ρ,q.2 ρ)⟩
  |_,_=>none
def In(id:Nat)(t:Ty):Nat→Nat→Option (HS Γ→List (D t))
 |0,_=>some fun _=> []
 |n+1,off=>match get Γ (.c id off),In id t n (off+1)with
  |some ⟨.v u,f⟩,some g=>if h:u=t then some fun ρ=>(h▸f ρ:D t)::g ρ else none
  |_,_=>none
def Jf(r:Σ r:Ty,Dyn (HS Γ) (D r)):List (Nat×Nat×SO)→Option (Σ r:Ty,Dyn (HS Γ) (D r))
 | []=>some r
 |p::ps=>match rdV Γ p.2.2 with
  |some q=>match Jj (BD q.1) r.1 p.1 with
   |some g=>if q.1.val=true∧Ba (BD q.1)=some p.2.1 then Jf ⟨g.1,(r.2.both q.2).map fun _ z=>g.2 z.1 (Fo q.1 z.2)⟩ ps else none
   |none=>none
  |none=>none
def mmT(mx:Bool)(k:IntKind)(acc:Dyn (HS Γ) Int):List SO→Option (Dyn (HS Γ) Int)
 | []=>some acc
 |x::xs=>match rdV Γ x with
  |some ⟨.int k',d⟩=>if k'=k then mmT mx k (match mx with
    |true=>(acc.both d).map fun _ p=>max p.1 p.2
    |false=>(acc.both d).map fun _ p=>min p.1 p.2) xs else none
  |_=>none
def F2:List SO→Option (Σ r:Ty,Dyn (HS Γ) (D r))
 | []=>some ⟨.nil,.tot fun _=>()⟩
 | [x]=>match rdV Γ x with
  |some q=>some ⟨.one q.1,q.2⟩
  |none=>none
 |x::y::xs=>match rdV Γ x,F2 (y::xs)with
  |some q,some p=>some ⟨.cons q.1 p.1,q.2.both p.2⟩
  |_,_=>none
def JO{A:Type}(len:A→Int)(da:Dyn (HS Γ) A)(lo hi:Option SO):Option (Dyn (HS Γ) (A×Int×Int)):=
 match lo,hi with
 |none,none=>some (da.map fun _ a=>(a,0,len a))
 |some l,none=>match rdV Γ l with
  |some ⟨.int _,dl⟩=>some ((da.both dl).map fun _ p=>(p.1,p.2,len p.1))
  |_=>none
 |none,some h=>match rdV Γ h with
  |some ⟨.int _,dh⟩=>some ((da.both dh).map fun _ p=>(p.1,0,p.2))
  |_=>none
 |some l,some h=>match rdV Γ l,rdV Γ h with
  |some ⟨.int _,dl⟩,some ⟨.int _,dh⟩=>some ((da.both (dl.both dh)).map fun _ p=>(p.1,p.2.1,p.2.2))
  |_,_=>none
def Df(q:Σ k:EK,Dyn (HS Γ) (DK k)):Σ k:EK,Dyn (HS Γ) (DK k):=
 match q with
 |⟨.v (.nam N),d⟩=>if Nat.ble As N=true then match D6 Γ msk N with
  |some ⟨.box _ bt,_⟩=>⟨.ptr N 0,d.map fun _ _=>()⟩
  |_=>⟨.v (.nam N),d⟩
  else⟨.v (.nam N),d⟩
 |q=>q
def QY:EK→Bool
 | .rp _ _| .v (.pt _)| .ptr _ _| .aptr _ _ _=>true
 |_=>false
def drK:EK→Bool
 | .rp _ _| .v (.pt _)| .ptr _ _| .eptr _ _ _| .aptr _ _ _=>true
 |_=>false
def DE(sz:Option Nat)(q:Σ k:EK,Dyn (HS Γ) (DK k)):Option (Σ k:EK,Dyn (HS Γ) (DK k)):=
 match q with
 |⟨.rp _ r,d⟩=>match sz with
  |none=>match DG r 0 with
   |some p=>some ⟨.v p.1,d.map fun _ x=>p.2 x⟩
   |none=>none
  |some n=>match DQ r n with
   |some p=>some ⟨.v (.agg p.1),d.map fun _ x=>p.2 x⟩
   |none=>none
 |⟨.v (.pt r),d⟩=>match sz with
  |none=>match DG r 0 with
   |some p=>some ⟨.v p.1,d.map fun _ x=>p.2 x⟩
   |none=>none
  |some n=>match DQ r n with
   |some p=>some ⟨.v (.agg p.1),d.map fun _ x=>p.2 x⟩
   |none=>none
 |⟨.ptr id o,d⟩=>match D6 Γ msk id with
  |some ⟨.box nb bt,_⟩=>match sz with
   |none=>if o<nb then match get Γ (.c id o)with
    |some p=>some ⟨p.1,d.map fun ρ _=>p.2 ρ⟩
    |none=>none
    else none
   |some (n+1)=>if o+n<nb then match Gj Γ id n o with
    |some p=>some ⟨.v (.agg p.1),d.map fun ρ _=>p.2 ρ⟩
    |none=>none
    else none
   |some 0=>none
  |_=>none
 |⟨.eptr id size o,d⟩=>match D6 Γ msk id with
  |some ⟨.arr _ size' t,xs⟩=>if size=size'∧t.val=true then match sz with
   |none=>match DG (BD t) o with
    |some p=>some ⟨.v p.1,(d.map fun ρ i=>(xs ρ)[i]?).comp (.par fun x=>x.map fun y=>p.2 (Fo t y))⟩
    |none=>none
   |some n=>if n=0 then none else match Mh (BD t) o n with
    |some p=>some ⟨.v (.agg p.1),(d.map fun ρ i=>(xs ρ)[i]?).comp (.par fun x=>x.map fun y=>p.2 (Fo t y))⟩
    |none=>none
   else none
  |_=>none
 |⟨.aptr id n o,d⟩=>match D6 Γ msk id with
  |some ⟨.box nb bt,_⟩=>match sz,get Γ (.c id o)with
   |none,some ⟨.v t,_⟩=>match In Γ id t n o with
    |some f=>if o+n≤nb then some ⟨.v t,(d.map fun ρ i=>(f ρ)[i]?).comp (.par fun x=>x)⟩else none
    |none=>none
   |_,_=>none
  |_=>none
 |_=>none
def N8(kd:Nat)(x:SO):Option (Dyn (HS Γ) Int):=
 match kd,rdK G Γ x with
 |0,some ⟨.v .str,d⟩=>some (d.map fun _ s=>((s:List UInt8).length:Int))
 |1,some ⟨.v (.sl _),d⟩=>some (d.map fun _ s=>(s.length:Int))
 |1,some ⟨.v .nsl,d⟩=>some (d.map fun _ _=>0)
 |1,some ⟨.own id,d⟩=>match D6 Γ msk id with
  |some ⟨.arr _ _ _,xs⟩=>some (d.map fun ρ _=>((xs ρ).length:Int))
  |_=>none
 |2,some ⟨.v (.map _ _),d⟩=>some (d.map fun _ s=>(s.length:Int))
 |2,some ⟨.mp id,d⟩=>match D6 Γ msk id with
  |some ⟨.mob _ _ _,xs⟩=>some (d.map fun ρ _=>((xs ρ).length:Int))
  |_=>none
 |_,_=>none
def Lb(kq:Σ t:Ty,Dyn (HS Γ) (D t))(ok:Bool)(k v:Ty)(dm:Dyn (HS Γ) (List (D k×D v))):Option (Σ k:EK,Dyn (HS Γ) (DK k)):=
 match Bi kq.1 k with
 |some f=>if E3 k=true then
   match ok with
   |true=>some ⟨.v (.tup (.cons v (.one .bool))),(dm.both kq.2).map fun _ p=>Bh (eqZ k) (Bv v) (f p.2) p.1⟩
   |false=>some ⟨.v v,(dm.both kq.2).map fun _ p=>(Bh (eqZ k) (Bv v) (f p.2) p.1).1⟩
  else none
 |none=>none
def NE(mt:TypeId)(kt:KT)(z:CV)(ok:Bool)(x key:SO):Option (Σ k:EK,Dyn (HS Γ) (DK k)):=
 match rdV Γ key with
 |some kq=>match rdK G Γ x with
  |some ⟨.v (.map k v),d⟩=>if BE v [z]=true∧ktB kt k=true then Lb Γ kq ok k v d else none
  |some ⟨.mp id,d⟩=>match D6 Γ msk id with
   |some ⟨.mob mt' k v,m⟩=>if mt'=mt then Lb Γ kq ok k v (d.map fun ρ _=>m ρ)else none
   |_=>none
  |_=>none
 |none=>none
def H4(t:Ty):List SO→Option (Dyn (HS Γ) (List (D t)))
 | []=>some (.tot fun _=> [])
 |x::xs=>match rdV Γ x,H4 t xs with
  |some q,some e=>match Bi q.1 t with
   |some g=>some ((q.2.both e).map fun _ p=>g p.1::p.2)
   |none=>none
  |_,_=>none
def OT:SOp→Option (Σ k:EK,Dyn (HS Γ) (DK k))
 | .mov x=>rdK G Γ x
 | .pick c a b=>match rdV Γ c,rdV Γ a,rdV Γ b with
  |some ⟨.bool,dc⟩,some qa,some qb=>match Bi qb.1 qa.1 with
   |some f=>some ⟨.v qa.1,Jh dc qa.2 (qb.2.map fun _ y=>f y)⟩
   |none=>match Bi qa.1 qb.1 with
    |some f=>some ⟨.v qb.1,Jh dc (qa.2.map fun _ y=>f y) qb.2⟩
    |none=>none
  |_,_,_=>none
 | .bin op x y=>match rdV Γ x,rdV Γ y with
  |some p,some q=>match M6 op p.1 q.1 with
   |some b=>some ⟨.v b.1,(p.2.both q.2).comp b.2⟩
   |none=>none
  |_,_=>none
 | .eqs neg ts x y=>match rdV Γ x,rdV Γ y with
  |some ⟨.agg r,d⟩,some ⟨.agg s,e⟩=>match Iy r s ts with
   |some f=>match neg with
    |true=>some ⟨.v .bool,(d.both e).map fun _ p=> !(f p.1 p.2)⟩
    |false=>some ⟨.v .bool,(d.both e).map fun _ p=>f p.1 p.2⟩
   |none=>none
  |_,_=>none
 | .beq neg x y=>match rdV Γ x,rdV Γ y with
  |some ⟨.bool,d⟩,some ⟨.bool,e⟩=>match neg with
   |true=>some ⟨.v .bool,(d.both e).map fun _ p=> !(p.1==p.2)⟩
   |false=>some ⟨.v .bool,(d.both e).map fun _ p=>p.1==p.2⟩
  |_,_=>none
 | .isnil kd neg x=>match kd,rdV Γ x with
  |3,some ⟨.err,d⟩=>match neg with
   |true=>some ⟨.v .bool,d.map fun _ b=> !(b:Bool)⟩
   |false=>some ⟨.v .bool,d.map fun _ b=>b⟩
  |1,some ⟨.nsl,d⟩=>some ⟨.v .bool,d.map fun _ _=> !neg⟩
  |2,some ⟨.nmap,d⟩=>some ⟨.v .bool,d.map fun _ _=> !neg⟩
  |_,_=>none
 | .un op x=>match op,rdV Γ x with
  | .neg,some ⟨.int k,d⟩=>some ⟨.v (.int k),d.map fun _ n=>k.wrap (0-n)⟩
  | .xor,some ⟨.int k,d⟩=>some ⟨.v (.int k),d.map fun _ n=>Ii .xor k (if k.signed then-1 else k.max) n⟩
  | .not,some ⟨.bool,d⟩=>some ⟨.v .bool,d.map fun _ b=> !(b:Bool)⟩
  |_,_=>none
 | .cvi k x=>match rdV Γ x with
  |some ⟨.int _,d⟩=>some ⟨.v (.int k),d.map fun _ n=>k.wrap n⟩
  |_=>none
 | .cvrune x=>match rdV Γ x with
  |some ⟨.int _,d⟩=>some ⟨.v .str,d.map fun _ n=>(Utf8.encode n).data.toList⟩
  |_=>none
 | .bytes _ x=>match rdV Γ x with
  |some ⟨.str,d⟩=>some ⟨.v (.sl (.int .u8)),d.comp (.par fun s=>if s.length≤70368744177664 then some (s.map fun b=>(b.toNat:Int))else none)⟩
  |_=>none
 | .cvbs x=>match rdK G Γ x with
  |some ⟨.v (.sl (.int .u8)),d⟩=>some ⟨.v .str,d.map fun _ ns=>ns.map fun n=>UInt8.ofNat n.toNat⟩
  |some ⟨.v .nsl,d⟩=>some ⟨.v .str,d.map fun _ _=> []⟩
  |some ⟨.own id,d⟩=>match D6 Γ msk id with
   |some ⟨.arr _ _ (.int .u8),xs⟩=>some ⟨.v .str,d.map fun ρ _=>(xs ρ).map fun n=>UInt8.ofNat n.toNat⟩
   |_=>none
  |_=>none
 | .cvid x=>match rdV Γ x with
  |some ⟨.str,d⟩=>some ⟨.v .str,d⟩
  |_=>none
 | .nchk x=>match rdK G Γ x with
  |some ⟨.v (.nam N),d⟩=>some ⟨.v (.nam N),d⟩
  |some ⟨.v (.pt r),d⟩=>some ⟨.v (.pt r),d⟩
  |some ⟨.rp ex r,d⟩=>some ⟨.rp ex r,d⟩
  |some ⟨.ptr id o,d⟩=>some ⟨.ptr id o,d⟩
  |some ⟨.eptr id s o,d⟩=>some ⟨.eptr id s o,d⟩
  |_=>none
 | .lsl _ size AK=>match AK with
  | []=>none
  |x::xs=>match rdV Γ x with
   |some ⟨t,_⟩=>match H4 Γ t (x::xs)with
    |some l=>if t.val=true∧Ba (BD t)=some size then some ⟨.v (.sl t),l⟩else none
    |none=>none
   |none=>none
 | .build z AK=>match EC z with
  |some q=>match Jf Γ ⟨q.1,.tot fun _=>q.2⟩ AK with
   |some r=>some ⟨.v (.agg r.1),r.2⟩
   |none=>none
  |none=>none
 | .field off sz x=>match rdV Γ x with
  |some ⟨.agg r,d⟩=>match sz with
   |none=>match DG r off with
    |some p=>some ⟨.v p.1,d.map fun _ x=>p.2 x⟩
    |none=>none
   |some n=>match Mh r off n with
    |some p=>if 0<n then some ⟨.v (.agg p.1),d.map fun _ x=>p.2 x⟩else none
    |none=>none
  |_=>none
 | .ext x i=>match rdK G Γ x with
  |some ⟨.v (.tup r),d⟩=>match DG r i with
   |some p=>some ⟨.v p.1,d.map fun _ x=>p.2 x⟩
   |none=>none
  |some ⟨.ent id k v,d⟩=>match i with
   |0=>some ⟨.v v,d.map fun _ x=>x.2⟩
   |1=>some ⟨.stamp id k,d.map fun _ x=>x.1⟩
   |_=>none
  |_=>none
 | .minmax mx xs=>match xs with
  | []=>none
  |x::xs=>match rdV Γ x with
   |some ⟨.int k,d⟩=>match mmT Γ mx k d xs with
    |some e=>some ⟨.v (.int k),e⟩
    |none=>none
   |_=>none
 | .fnv f caps=>match F2 Γ caps with
  |some q=>some ⟨.v (.clo f q.1),q.2⟩
  |none=>none
 | .faddr off x=>match (rdK G Γ x).map (Df Γ msk)with
  |some ⟨.rp ex r,d⟩=>match EF r off with
   |some p=>some ⟨.rp ex p.1,d.map fun _ x=>p.2 x⟩
   |none=>none
  |some ⟨.v (.pt r),d⟩=>match EF r off with
   |some p=>some ⟨.rp true p.1,d.map fun _ x=>p.2 x⟩
   |none=>none
  |some ⟨.ptr id o,d⟩=>some ⟨.ptr id (o+off),d⟩
  |some ⟨.eptr id s o,d⟩=>some ⟨.eptr id s (o+off),d⟩
  |some ⟨.aptr id n o,d⟩=>if off=0 then some ⟨.aptr id n o,d⟩else none
  |_=>none
 | .iaddr size x i=>match rdK G Γ x,rdV Γ i with
  |some ⟨.v (.sl e),d⟩,some ⟨.int _,di⟩=>if e.val=true∧Ba (BD e)=some size then some ⟨.rp true (BD e),(d.both di).comp (.par fun p=>(lAt p.1 p.2).map fun y=>Fo e y)⟩else none
  |some ⟨.own id,d⟩,some ⟨.int _,di⟩=>match D6 Γ msk id with
   |some ⟨.arr _ sz _,xs⟩=>if size=sz then some ⟨.eptr id size 0,((d.both di).map fun ρ p=>if 0≤(p.2:Int)∧(p.2:Int)<((xs ρ).length:Int)then some (p.2:Int).toNat else none).comp (.par fun x=>x)⟩else none
   |_=>none
  |_,_=>none
 | .aaddr len size x i=>match rdK G Γ x,rdV Γ i with
  |some ⟨.rp true r,d⟩,some ⟨.int _,di⟩=>match DQ r size with
   |some q=>match GY q.1 size len r with
    |some f=>if Ba r=some (len*size)then some ⟨.rp false q.1,(d.both di).comp (.par fun p=>lAt (f p.1) p.2)⟩else none
    |none=>none
   |none=>none
  |some ⟨.ptr id o,d⟩,some ⟨.int _,di⟩=>if size=1 then some ⟨.aptr id len o,(d.both di).comp (.par fun p=>if 0≤(p.2:Int)∧(p.2:Int)<(len:Int)then some (p.2:Int).toNat else none)⟩else none
  |_,_=>none
 | .sidx x i=>match rdV Γ x,rdV Γ i with
  |some ⟨.str,d⟩,some ⟨.int _,di⟩=>some ⟨.v (.int .u8),(d.both di).comp (.par fun p=>sAt p.1 p.2)⟩
  |_,_=>none
 | .aidx len size sz x i=>match rdV Γ x,rdV Γ i with
  |some ⟨.agg r,d⟩,some ⟨.int _,di⟩=>match sz with
   |none=>match DQ r 1 with
    |some q=>match DG q.1 0 with
     |some p=>match GY q.1 1 len r with
         |some f=>if size=1 then some ⟨.v p.1,(d.both di).comp (.par fun z=>(lAt (f z.1) z.2).map fun y=>p.2 y)⟩else none
         |none=>none
     |none=>none
    |none=>none
   |some n=>match DQ r size with
    |some q=>match GY q.1 size len r with
     |some f=>if n=size∧0<size then some ⟨.v (.agg q.1),(d.both di).comp (.par fun z=>lAt (f z.1) z.2)⟩else none
     |none=>none
    |none=>none
  |_,_=>none
 | .load sz x=>match rdK G Γ x with
  |some q=>DE Γ msk sz (Df Γ msk q)
  |none=>none
 | .loadb sz x=>match rdK G Γ x with
  |some q=>match QY (Df Γ msk q).1 with
   |true=>DE Γ msk sz (Df Γ msk q)
   |false=>none
  |none=>none
 | .len kd x=>match N8 G Γ msk kd x with
  |some d=>some ⟨.v (.int .i64),d⟩
  |none=>none
 | .sslice x lo hi=>match rdV Γ x with
  |some ⟨.str,d⟩=>match JO Γ (fun s=>((s:List UInt8).length:Int)) d lo hi with
   |some e=>some ⟨.v .str,e.comp (.par fun p=>Be p.1 p.2.1 p.2.2)⟩
   |none=>none
  |_=>none
 | .slice size x lo hi=>match rdV Γ x with
  |some ⟨.sl e,d⟩=>if e.val=true∧Ba (BD e)=some size then match JO Γ (fun s=>(s.length:Int)) d lo hi with
   |some g=>some ⟨.v (.sl e),g.comp (.par fun p=>Be p.1 p.2.1 p.2.2)⟩
   |none=>none
   else none
  |_=>none
 | .slice3 size x lo hi mx=>match lo,rdV Γ x,rdV Γ hi,rdV Γ mx with
  |none,some ⟨.nsl,d⟩,some ⟨.int _,dh⟩,some ⟨.int _,dm⟩=>some ⟨.v .nsl,(d.both (dh.both dm)).comp (.par fun p=>if p.2.1=(0:Int)∧p.2.2=(0:Int)then some p.1 else none)⟩
  |none,some ⟨.sl e,d⟩,some ⟨.int _,dh⟩,some ⟨.int _,dm⟩=>if e.val=true∧Ba (BD e)=some size then some ⟨.v (.sl e),(d.both (dh.both dm)).comp (.par fun p=>if(p.2.1:Int)=p.2.2 then Be p.1 0 p.2.1 else none)⟩else none
  |_,_,_,_=>none
 | .capp _ size bytes x y=>match rdV Γ x,rdV Γ y with
  |some ⟨.nsl,dx⟩,some ⟨.sl e,dy⟩=>if e.val=true∧Ba (BD e)=some size∧ER (BD e)=true then some ⟨.v (.sl e),(dx.both dy).comp (.par fun p=>if((p.2:List (D e)).length:Int)*(bytes:Int)≤140737488355328∧((p.2:List (D e)).length:Int)≤4611686018427387904 then some p.2 else none)⟩else none
  |_,_=>none
 | .mentry x=>match rdK G Γ x with
  |some ⟨.iter id,d⟩=>match D6 Γ msk id with
   |some ⟨.mcur k v,f⟩=>some ⟨.v (.tup (.cons k (.one v))),d.map fun ρ _=>f ρ⟩
   |_=>none
  |_=>none
 | .lookup mt kt z ok x k=>NE G Γ msk mt kt z ok x k
 | .asl n x=>match rdK G Γ x with
  |some ⟨.rp true r,d⟩=>match J9 r with
   |some f=>if Ba r=some n then some ⟨.v (.sl .str),d.map fun _ z=>f z⟩else none
   |none=>none
  |_=>none
 |_=>none
end
section
variable {G:Nat→List CV} {Γ:TC} {msk:List Nat} {ρ:HS Γ} {st:St} {rd:Nat→Ob}
theorem Eg{id:Nat}{q:Σ k:EK,HS Γ→DK k}(h:D6 Γ msk id=some q)(hr:Rep Γ ρ st)(hrd:∀id,msk.contains id=false→rd id=st.ob id):RO Γ ρ id q.1 (q.2 ρ) (rd id):=by
 unfold D6 at h;split at h<;>(try cases h;done);rename_i hm;rw[hrd id (by simpa using hm)];exact hr.o id q h
theorem MH{id nb:Nat}{cs:List SV}(hcs:∀j q,j<nb→get Γ (.c id j)=some q→∃sv,cs[j]? =some sv∧RS q.1 (q.2 ρ) sv):∀{n off:Nat} {q:Σ r:Ty,HS Γ→D r},Gj Γ id n off=some q→off+n<nb→∃l,Aq closed ((cs.drop off).take (n+1))=some l∧Can q.1 (q.2 ρ) l∧off+(n+1)≤cs.length:=by
 intro n
 induction n with
 |zero=>
  intro off q h hb;simp only[Gj]at h;split at h<;>(try cases h;done);rename_i t f hg;cases h;obtain⟨sv,h1,c,rfl,h3⟩:=hcs off _ (by omega) hg;have hlt:=(Ae.1 h1).1;refine⟨[c], ?_, ?_,by omega⟩
  ·rw[List.drop_eq_getElem_cons hlt,(Ae.1 h1).2];simp[Aq,closed]
  ·unfold Can;exact⟨c,rfl,h3⟩
 |succ n ih=>
  intro off q h hb;simp only[Gj]at h;split at h<;>(try cases h;done);rename_i t f p hg hp;cases h;obtain⟨sv,h1,c,rfl,h3⟩:=hcs off _ (by omega) hg;have hlt:=(Ae.1 h1).1;obtain⟨l,g1,g2,g3⟩:=ih hp (by omega);refine⟨c::l, ?_, ?_,by omega⟩
  ·rw[List.drop_eq_getElem_cons hlt,(Ae.1 h1).2];simp only[List.take_succ_cons,Aq,closed,Option.bind_some];rw[g1];rfl
  ·unfold Can;exact⟨c,l,rfl,h3,g2⟩
theorem F3{t:Ty}{x:D t}{c:CV}{n:Nat}(hv:t.val=true)(hl:Ba (BD t)=some n)(h:Can t x [c]):c.cells.length=n∧Bq c=n:=by
 have h1:=Ew hl (FT hv h);refine⟨h1, ?_⟩;rw[←h1];cases c<;>simp[Bq,CV.cells]
theorem Yd(hr:Rep Γ ρ st):∀{ps:List (Nat×Nat×SO)} {r q:Σ r:Ty,Dyn (HS Γ) (D r)} {cs:List CV} {x:D q.1},Jf Γ r ps=some q→q.2.val ρ=some x→(∀y,r.2.val ρ=some y→Can r.1 y cs)→
  (∃y,r.2.val ρ=some y)∧∃l cs',Aq (fun p=>(closed (so G st.fr p.2.2)).map fun v=>(p.1,p.2.1,v)) ps=some l∧Gy cs l=some cs'∧Can q.1 x cs':=by
 intro ps
 induction ps with
 |nil=>
  intro r q cs x h hx hc;simp only[Jf,Ac]at h;subst h;exact⟨⟨x,hx⟩,[],cs,rfl,rfl,hc x hx⟩
 |cons p ps ih=>
  intro r q cs x h hx hc;simp only[Jf]at h;split at h<;>(try cases h;done);rename_i t ht;split at h<;>(try cases h;done);rename_i g hg;split at h<;>(try cases h;done);rename_i hvl
  have key:∀y,((r.2.both t.2).map fun _ z=>g.2 z.1 (Fo t.1 z.2)).val ρ=some y→∃y0 z c,r.2.val ρ=some y0∧t.2.val ρ=some z∧so G st.fr p.2.2=.c c∧Bq c=p.2.1∧p.1+p.2.1≤cs.length∧Can g.1 y (cs.take p.1++c.cells++cs.drop (p.1+p.2.1)):=by
   intro y hy;obtain⟨b,h1,h2⟩:=Dyn.map_val hy;obtain⟨h3,h4⟩:=Dyn.both_val h1;obtain⟨c,h5,h6⟩:=A5 (G:=G) ht hr h4;obtain⟨e1,e2⟩:=F3 hvl.1 hvl.2 h6;obtain⟨g1,g2⟩:=S0 hg (hc _ h3) (FT hvl.1 h6);rw[e1]at g1 g2;exact⟨_,_,c,h3,h4,h5,e2,g2,h2▸g1⟩
  by_cases hex:∃y,((r.2.both t.2).map fun _ z=>g.2 z.1 (Fo t.1 z.2)).val ρ=some y
  ·obtain⟨y,hy⟩:=hex;obtain⟨y0,z,c,k1,k2,k3,k4,k5,k6⟩:=key y hy
   obtain⟨_,l,cs',i1,i2,i3⟩:=ih (cs:=cs.take p.1++c.cells++cs.drop (p.1+p.2.1)) h hx (fun y' hy'=>by
    rw[hy]at hy';cases hy'
    exact k6)
   refine⟨⟨y0,k1⟩,(p.1,p.2.1,c)::l,cs', ?_, ?_,i3⟩
   ·simp only[Aq];rw[k3,i1];rfl
   ·simp only[Gy];rw[if_pos ⟨k4,k5⟩];exact i2
  ·exfalso;obtain⟨⟨y,hy⟩,_⟩:=ih (cs:= []) h hx (fun y hy=>absurd ⟨y,hy⟩ hex);exact hex ⟨y,hy⟩
theorem X8(hr:Rep Γ ρ st){mx:Bool}{k:IntKind}:∀{xs:List SO} {acc e:Dyn (HS Γ) Int} {z:Int},mmT Γ mx k acc xs=some e→e.val ρ=some z→∃a l,acc.val ρ=some a∧Aq (fun x=>closed (so G st.fr x)) xs=some l∧l.foldlM (G7 mx) (.int k a)=some (.int k z):=by
 intro xs
 induction xs with
 |nil=>
  intro acc e z h hz;simp only[mmT,Ac]at h;subst h;exact⟨z,[],hz,rfl,rfl⟩
 |cons x xs ih=>
  intro acc e z h hz;simp only[mmT]at h;split at h<;>(try cases h;done);rename_i k' d hd;split at h<;>(try cases h;done);rename_i hk;subst hk;obtain⟨a,l,h1,h2,h3⟩:=ih h hz
  cases mx<;>
  ·obtain⟨b,g1,g2⟩:=Dyn.map_val h1;obtain⟨g3,g4⟩:=Dyn.both_val g1;obtain⟨c,g5,g6⟩:=A5 (G:=G) hd hr g4;unfold Can at g6;cases g6;refine⟨b.1,_::l,g3,by simp only[Aq];rw[g5,h2];rfl, ?_⟩;simp only[List.foldlM_cons,G7,if_true,Ag,if_false];subst g2;exact h3
theorem Ik(hr:Rep Γ ρ st):∀{xs:List SO} {q:Σ r:Ty,Dyn (HS Γ) (D r)} {x:D q.1},F2 Γ xs=some q→q.2.val ρ=some x→∃l,Aq (fun x=>closed (so G st.fr x)) xs=some l∧Can q.1 x l
 | [],q,x,h,hx=>by
  simp only[F2,Ac]at h;subst h;exact⟨[],rfl,by unfold Can;rfl⟩
 | [y],q,x,h,hx=>by
  simp only[F2]at h;split at h<;>(try cases h;done);rename_i p hp;cases h;obtain⟨c,h1,h2⟩:=A5 (G:=G) hp hr hx;exact⟨[c],by simp[Aq,h1,closed],by unfold Can;exact⟨c,rfl,h2⟩⟩
 |y::z::xs,q,x,h,hx=>by
  simp only[F2]at h;split at h<;>(try cases h;done);rename_i p p' hp hp';cases h;obtain⟨g1,g2⟩:=Dyn.both_val hx;obtain⟨c,h1,h2⟩:=A5 (G:=G) hp hr g1;obtain⟨l,h3,h4⟩:=Ik hr hp' g2;refine⟨c::l, ?_,by unfold Can;exact⟨c,l,rfl,h2,h4⟩⟩;have e:Aq (fun x=>closed (so G st.fr x)) (y::z::xs)=(closed (so G st.fr y)).bind fun b=>(Aq (fun x=>closed (so G st.fr x)) (z::xs)).map fun bs=>b::bs:=rfl;rw[e,h1,h3];rfl
theorem PD(hr:Rep Γ ρ st){A:Type}{len:A→Int}{da:Dyn (HS Γ) A}{lo hi:Option SO}{e:Dyn (HS Γ) (A×Int×Int)}{p:A×Int×Int}(h:JO Γ len da lo hi=some e)(hp:e.val ρ=some p):
  da.val ρ=some p.1∧(∀n:Nat,(n:Int)=len p.1→0≤p.2.2→BL n (hi.map (so G st.fr))=some p.2.2.toNat)∧(0≤p.2.1→BL 0 (lo.map (so G st.fr))=some p.2.1.toNat):=by
 have hint:∀{x:SO} {k:IntKind} {d:Dyn (HS Γ) (D (.int k))} {n:Int} {m:Nat},rdV Γ x=some ⟨.int k,d⟩→d.val ρ=some n→0≤n→BL m (some (so G st.fr x))=some n.toNat:=by
  intro x k d n m hx hn h0;obtain⟨c,h1,h2⟩:=A5 (G:=G) hx hr hn;unfold Can at h2;cases h2;simp[BL,h1,h0]
 unfold JO at h;split at h
 ·cases h;obtain⟨b,h1,h2⟩:=Dyn.map_val hp;subst h2;refine⟨h1,fun n hn _=> ?_,fun _=>rfl⟩;simp[BL,←hn]
 ·split at h<;>(try cases h;done);rename_i l k d hd;cases h;obtain⟨b,h1,h2⟩:=Dyn.map_val hp;obtain⟨h3,h4⟩:=Dyn.both_val h1;subst h2;refine⟨h3,fun n hn _=> ?_,fun h0=>hint hd h4 h0⟩;simp[BL,←hn]
 ·split at h<;>(try cases h;done);rename_i l k d hd;cases h;obtain⟨b,h1,h2⟩:=Dyn.map_val hp;obtain⟨h3,h4⟩:=Dyn.both_val h1;subst h2;exact⟨h3,fun n _ h0=>hint hd h4 h0,fun _=>rfl⟩
 ·split at h<;>(try cases h;done);rename_i l hh k d k' d' hd hd';cases h;obtain⟨b,h1,h2⟩:=Dyn.map_val hp;obtain⟨h3,h4⟩:=Dyn.both_val h1;obtain⟨h5,h6⟩:=Dyn.both_val h4;subst h2;exact⟨h3,fun n _ h0=>hint hd' h6 h0,fun h0=>hint hd h5 h0⟩
theorem Qd{id nb:Nat}{t:Ty}{cs:List SV}(hcs:∀j q,j<nb→get Γ (.c id j)=some q→∃sv,cs[j]? =some sv∧RS q.1 (q.2 ρ) sv):∀{n off:Nat} {f:HS Γ→List (D t)} {i:Nat} {y:D t},In Γ id t n off=some f→off+n≤nb→(f ρ)[i]? =some y→i<n∧∃c,cs[off+i]? =some (.c c)∧Can t y [c]
 |0,off,f,i,y,h,_,hy=>by
  simp only[In,Ac]at h;subst h;simp at hy
 |n+1,off,f,i,y,h,hb,hy=>by
  simp only[In]at h;split at h<;>(try cases h;done);rename_i u g g' hg hg';split at h<;>(try cases h;done);rename_i hu;subst hu;cases h
  cases i with
  |zero=>
   simp at hy;obtain⟨sv,h1,c,h2,h3⟩:=hcs off _ (by omega) hg;subst h2;exact⟨by omega,c,h1,hy▸h3⟩
  |succ i=>
   simp only[List.getElem?_cons_succ]at hy;obtain⟨h1,c,h2,h3⟩:=Qd hcs hg' (by omega) hy;exact⟨by omega,c,by rw[←h2];congr 1;omega,h3⟩
theorem VB{k:EK}{x:DK k}{sv:SV}(hk:drK k=true)(h:RS k x sv):deref rd sv=sv:=by
 cases k<;>simp only[drK,Ag]at hk
 case v t=>
  cases t<;>simp only[Ag]at hk;obtain⟨c,rfl,hc⟩:=h;unfold Can at hc;obtain⟨l,e,_⟩:=hc;cases e;rfl
 case rp=>obtain⟨cs,rest,rfl,_⟩:=h;rfl
 case ptr=>unfold RS at h;rw[h];rfl
 case eptr=>unfold RS at h;rw[h];rfl
 case aptr=>unfold RS at h;rw[h.1];rfl
theorem VA(hr:Rep Γ ρ st)(hrd:∀id,msk.contains id=false→rd id=st.ob id){q q':Σ k:EK,Dyn (HS Γ) (DK k)}{sv:SV}(hs:∀x,q.2.val ρ=some x→RS q.1 x sv)(h:Df Γ msk q=q'){x:DK q'.1}(hx:q'.2.val ρ=some x)
  (hk:drK q'.1=true):RS q'.1 x (deref rd sv):=by
 have same:∀{q':Σ k:EK,Dyn (HS Γ) (DK k)} {x:DK q'.1},(∀x,q'.2.val ρ=some x→RS q'.1 x sv)→q'.2.val ρ=some x→drK q'.1=true→RS q'.1 x (deref rd sv):=by
  intro q' x h1 h2 h3;rw[VB h3 (h1 x h2)];exact h1 x h2
 unfold Df at h;split at h
 ·rename_i N d;split at h
  ·rename_i hN;split at h
   ·rename_i n f ho;subst h;obtain⟨y,h1,_⟩:=Dyn.map_val (d:=d) (g:=fun _ _=>()) hx;obtain⟨c,e,hc⟩:=hs y h1;unfold Can at hc;cases hc;obtain⟨cs,h3,_⟩:=Eg ho hr hrd;subst e;show deref rd (.c (.nam N))=.ptr N 0;simp only[deref,h3];rw[if_pos (Ah hN)]
   ·subst h;cases hk
  ·subst h;cases hk
 ·subst h;exact same hs hx hk
theorem Iu(hr:Rep Γ ρ st)(hrd:∀id,msk.contains id=false→rd id=st.ob id){q:Σ k:EK,Dyn (HS Γ) (DK k)}{sv:SV}(hs:∀x,q.2.val ρ=some x→RS q.1 x sv){x:DK (Df Γ msk q).1}(hx:(Df Γ msk q).2.val ρ=some x)
  (hk:drK (Df Γ msk q).1=true):RS (Df Γ msk q).1 x (deref rd sv):=VA hr hrd hs rfl hx hk
theorem La(hr:Rep Γ ρ st)(hrd:∀id,msk.contains id=false→rd id=st.ob id){sz:Option Nat}{q q':Σ k:EK,Dyn (HS Γ) (DK k)}{sv:SV}{y:DK q'.1}(h:DE Γ msk sz q=some q')(hy:q'.2.val ρ=some y)
  (hs:∀x,q.2.val ρ=some x→RS q.1 x sv):∃sv',Bj rd sz sv=some sv'∧RS q'.1 y sv':=by
 obtain⟨k,d⟩:=q;cases k<;>(try cases h;done)
 ·rename_i t;cases t<;>(try cases h;done);rename_i r;simp only[DE]at h;split at h
  ·split at h<;>(try cases h;done);rename_i p hp;cases h;obtain⟨x,h1,h2⟩:=Dyn.map_val hy;obtain⟨c0,e,hc0⟩:=hs x h1;subst e;unfold Can at hc0;obtain⟨cs,e,hc⟩:=hc0;cases e;obtain⟨c,h3,h4⟩:=HA hp hc;refine⟨.c c, ?_,c,rfl,h2▸h4⟩;simp[Bj,h3]
  ·rename_i n;split at h<;>(try cases h;done);rename_i p hp;cases h;obtain⟨x,h1,h2⟩:=Dyn.map_val hy;obtain⟨c0,e,hc0⟩:=hs x h1;subst e;unfold Can at hc0;obtain⟨cs,e,hc⟩:=hc0;cases e;obtain⟨h3,h4⟩:=Mi hp hc;refine⟨.c (.agg (cs.take n)), ?_,.agg (cs.take n),rfl,by unfold Can;exact⟨_,rfl,h2▸h3⟩⟩;have:n≤cs.length:=by omega
   simp[Bj,Cx,this]
 ·rename_i ex r;simp only[DE]at h;split at h
  ·split at h<;>(try cases h;done);rename_i p hp;cases h;obtain⟨x,h1,h2⟩:=Dyn.map_val hy;obtain⟨cs,rest,e,hc,_⟩:=hs x h1;subst e;obtain⟨c,h3,h4⟩:=HA hp hc;refine⟨.c c, ?_,c,rfl,h2▸h4⟩;have hlt:=(Ae.1 h3).1;simp[Bj,List.getElem?_append_left hlt,h3]
  ·rename_i n;split at h<;>(try cases h;done);rename_i p hp;cases h;obtain⟨x,h1,h2⟩:=Dyn.map_val hy;obtain⟨cs,rest,e,hc,_⟩:=hs x h1;subst e;obtain⟨h3,h4⟩:=Mi hp hc;refine⟨.c (.agg (cs.take n)), ?_,.agg (cs.take n),rfl,by unfold Can;exact⟨_,rfl,h2▸h3⟩⟩;have:n≤cs.length+rest.length:=by omega
   simp[Bj,Cx,this,List.take_append_of_le_length h4]
 ·rename_i id o;simp only[DE]at h;split at h<;>(try cases h;done);rename_i n g hg;obtain⟨cs,e,hl,hcs⟩:=Eg hg hr hrd;split at h
  ·split at h<;>(try cases h;done);rename_i hb;split at h<;>(try cases h;done);rename_i p hp;cases h;dsimp only at hy;obtain⟨u,hu,hy⟩:=Dyn.map_val hy;have hsv:sv=.ptr id o:=hs u hu;subst hsv;subst hy;obtain⟨sv',h1,h2⟩:=hcs o _ hb hp;exact⟨sv',by simp[Bj,e,h1],h2⟩
  ·rename_i n;split at h<;>(try cases h;done);rename_i hb;split at h<;>(try cases h;done);rename_i p hp;cases h;dsimp only at hy;obtain⟨u,hu,hy⟩:=Dyn.map_val hy;have hsv:sv=.ptr id o:=hs u hu;subst hsv;subst hy;obtain⟨l,h1,h2,h3⟩:=MH hcs hp hb;exact⟨.c (.agg l),by simp only[Bj,e];rw[if_pos h3,h1];rfl,.agg l,rfl,by unfold Can;exact⟨l,rfl,h2⟩⟩
  ·cases h
 ·rename_i id size o;simp only[DE]at h;split at h<;>(try cases h;done);rename_i e' size' t xs hg;split at h<;>(try cases h;done);rename_i hsz;obtain⟨hsz,hv⟩:=hsz;subst hsz;obtain⟨es,e,hes⟩:=Eg hg hr hrd;split at h
  ·split at h<;>(try cases h;done);rename_i p hp;cases h;obtain⟨b,h1,h2⟩:=Dyn.comp_val hy;obtain⟨i,h3,h4⟩:=Dyn.map_val h1;subst h4;have hsv:sv=.eptr id i size o:=hs i h3;subst hsv;obtain⟨a,h5,h6⟩:=Aa.1 h2;obtain⟨c,h7,h8⟩:=hes.get h5;obtain⟨c',h9,h10⟩:=HA hp (FT hv h8);exact⟨.c c',by simp[Bj,e,h7,Cx,h9],c',rfl,h6▸h10⟩
  ·rename_i n;split at h<;>(try cases h;done);rename_i hpos;split at h<;>(try cases h;done);rename_i p hp;cases h;obtain⟨b,h1,h2⟩:=Dyn.comp_val hy;obtain⟨i,h3,h4⟩:=Dyn.map_val h1;subst h4;have hsv:sv=.eptr id i size o:=hs i h3;subst hsv;obtain⟨a,h5,h6⟩:=Aa.1 h2;obtain⟨c,h7,h8⟩:=hes.get h5;obtain⟨h9,h10⟩:=T6 hp (FT hv h8);refine⟨.c (.agg ((c.cells.drop o).take n)), ?_,_,rfl,by unfold Can;exact⟨_,rfl,h6▸h9⟩⟩;have hle:o+n≤c.cells.length∨n=0:=by omega
   rcases hle with hle|hle
   ·simp only[Bj,e,if_true,h7,Option.bind_some,Cx];rw[if_pos hle];rfl
   ·exact(hpos hle).elim
 ·rename_i id n o;simp only[DE]at h;split at h<;>(try cases h;done);rename_i nb g hg;obtain⟨cs,e,hl,hcs⟩:=Eg hg hr hrd;split at h<;>(try cases h;done);rename_i t g2 hg2;split at h<;>(try cases h;done);rename_i f hf;split at h<;>(try cases h;done);rename_i hb;cases h;obtain⟨b,h1,h2⟩:=Dyn.comp_val hy;obtain⟨i,h3,h4⟩:=Dyn.map_val h1;subst h4;obtain⟨hsv,_⟩:=hs i h3;subst hsv;obtain⟨h5,c,h6,h7⟩:=Qd hcs hf hb h2;exact⟨.c c,by simp only[Bj,e];exact h6,c,rfl,h7⟩
theorem Xr(hr:Rep Γ ρ st)(hrd:∀id,msk.contains id=false→rd id=st.ob id){kd:Nat}{x:SO}{d:Dyn (HS Γ) Int}{n:Int}(h:N8 G Γ msk kd x=some d)(hn:d.val ρ=some n):C2 rd kd (so G st.fr x)=some n:=by
 unfold N8 at h;split at h
 ·rename_i d' hd;cases h;obtain⟨s,h1,h2⟩:=Dyn.map_val hn;obtain⟨c,e,hc⟩:=Bc hd hr h1;unfold Can at hc;cases hc;rw[e,h2];rfl
 ·rename_i t d' hd;cases h;obtain⟨s,h1,h2⟩:=Dyn.map_val hn;obtain⟨c,e,hc⟩:=Bc hd hr h1;unfold Can at hc;obtain⟨nl,es,e',hes⟩:=hc;cases e';rw[e,h2];simp[C2,hes.length]
 ·rename_i d' hd;cases h;obtain⟨s,h1,h2⟩:=Dyn.map_val hn;obtain⟨c,e,hc⟩:=Bc hd hr h1;unfold Can at hc;cases hc;rw[e,h2];rfl
 ·rename_i id f hd;split at h<;>(try cases h;done);rename_i e' sz t xs hg;cases h;obtain⟨u,hu,hn⟩:=Dyn.map_val hn;subst hn;obtain⟨es,e,hes⟩:=Eg hg hr hrd;have hs:so G st.fr x=.osl id:=Bc hd hr hu;rw[hs];simp[C2,e,hes.length]
 ·rename_i k v d' hd;cases h;obtain⟨s,h1,h2⟩:=Dyn.map_val hn;obtain⟨c,e,hc⟩:=Bc hd hr h1;unfold Can at hc;obtain⟨nl,ks,vs,e',hks,_⟩:=hc;cases e';rw[e,h2];simp[C2,hks.length]
 ·rename_i id f hd;split at h<;>(try cases h;done);rename_i mt k v xs hg;cases h;obtain⟨u,hu,hn⟩:=Dyn.map_val hn;subst hn;obtain⟨z,ks,vs,e,_,hks,_⟩:=Eg hg hr hrd;have hs:so G st.fr x=.omap id:=Bc hd hr hu;rw[hs];simp[C2,e,hks.length]
 ·cases h
theorem RA(hr:Rep Γ ρ st){key:SO}{kq:Σ t:Ty,Dyn (HS Γ) (D t)}(hkq:rdV Γ key=some kq){ok:Bool}{k v:Ty}{dm:Dyn (HS Γ) (List (D k×D v))}{q:Σ k:EK,Dyn (HS Γ) (DK k)}{y:DK q.1}(h:Lb Γ kq ok k v dm=some q)(hy:q.2.val ρ=some y):
  ∃m ck,dm.val ρ=some m∧so G st.fr key=.c ck∧E3 k=true∧AI (ktT k) ck=true∧
    ∀{ks vs:List CV},Ap (fun x c=>Can k x.1 [c]) m ks→Ap (fun x c=>Can v x.2 [c]) m vs→∀{z:CV},Can v (Bv v) [z]→∃c,(let(a,b):=AX (ktT k) z ks vs ck;some (if ok then CV.tup [a,.bool b]else a))=some c∧RS q.1 y (.c c):=by
 unfold Lb at h;split at h<;>(try cases h;done);rename_i f hf;split at h<;>(try cases h;done);rename_i hp;split at h
 ·cases h;obtain⟨p,h1,h2⟩:∃p,(dm.both kq.2).val ρ=some p∧y=Bh (eqZ k) (Bv v) (f p.2) p.1:=Dyn.map_val (C:=D (.tup (.cons v (.one .bool)))) (B:=List (D k×D v)×D kq.1) (g:=fun _ p=>Bh (eqZ k) (Bv v) (f p.2) p.1) hy;obtain⟨h3,h4⟩:=Dyn.both_val h1;obtain⟨ck,h5,h6⟩:=A5 (G:=G) hkq hr h4;have h7:=Co _ _ hf h6;refine⟨p.1,ck,h3,h5,hp,(Gt hp h7 h7).2,fun{ks vs} g1 g2 {z} g3=> ?_⟩;obtain⟨c,l1,l2⟩:=Lc hp h7 g3 g1 g2;rw[l1];subst h2;refine⟨_,rfl,_,rfl, ?_⟩;unfold Can;refine⟨_,rfl, ?_⟩;unfold Can;refine⟨_,_,rfl,l2, ?_⟩;unfold Can;exact⟨_,rfl,by unfold Can;rfl⟩
 ·cases h;obtain⟨p,h1,h2⟩:∃p,(dm.both kq.2).val ρ=some p∧y=(Bh (eqZ k) (Bv v) (f p.2) p.1).1:=Dyn.map_val (C:=D v) (B:=List (D k×D v)×D kq.1) (g:=fun _ p=>(Bh (eqZ k) (Bv v) (f p.2) p.1).1) hy;obtain⟨h3,h4⟩:=Dyn.both_val h1;obtain⟨ck,h5,h6⟩:=A5 (G:=G) hkq hr h4;have h7:=Co _ _ hf h6;refine⟨p.1,ck,h3,h5,hp,(Gt hp h7 h7).2,fun{ks vs} g1 g2 {z} g3=> ?_⟩;obtain⟨c,l1,l2⟩:=Lc hp h7 g3 g1 g2;rw[l1];subst h2;exact⟨_,rfl,_,rfl,l2⟩
theorem Xy(hr:Rep Γ ρ st)(hrd:∀id,msk.contains id=false→rd id=st.ob id){mt:TypeId}{kt:KT}{z:CV}{ok:Bool}{x key:SO}{q:Σ k:EK,Dyn (HS Γ) (DK k)}{y:DK q.1}(h:NE G Γ msk mt kt z ok x key=some q)(hy:q.2.val ρ=some y):
  ∃c,D4 rd mt kt z ok (so G st.fr x) (so G st.fr key)=some c∧RS q.1 y (.c c):=by
 unfold NE at h;split at h<;>(try cases h;done);rename_i kq hkq;split at h
 ·rename_i k v d hd;split at h<;>(try cases h;done);rename_i hz;obtain⟨m,ck,h1,h2,hp,h3,h4⟩:=RA (G:=G) hr hkq h hy;obtain⟨c,e,hc⟩:=Bc hd hr h1;unfold Can at hc;obtain⟨nl,ks,vs,e',hk,hv⟩:=hc;cases e';rw[e,h2];have hkt:=R6 hz.2;subst hkt;obtain⟨c,g1,g2⟩:=h4 hk hv (OX hz.1);refine⟨c, ?_,g2⟩;simp only[D4,h3,R0 hp hk,Bool.and_self,if_true];exact g1
 ·rename_i id f hd;split at h<;>(try cases h;done);rename_i mt' k v m' hg;split at h<;>(try cases h;done);rename_i hmt;subst hmt;obtain⟨m,ck,h1,h2,hp,h3,h4⟩:=RA (G:=G) hr hkq h hy;obtain⟨u,hu,h1⟩:=Dyn.map_val h1;subst h1;obtain⟨z',ks,vs,e,hz,hk,hv⟩:=Eg hg hr hrd;have hs:so G st.fr x=.omap id:=Bc hd hr hu;rw[hs,h2];obtain⟨c,g1,g2⟩:=h4 hk hv hz;refine⟨c, ?_,g2⟩;simp only[D4,e,h3,and_self,if_true];exact g1
 ·cases h
end
end WB
