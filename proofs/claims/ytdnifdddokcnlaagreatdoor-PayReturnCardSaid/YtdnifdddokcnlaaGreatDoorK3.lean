/-
  OWN TEXTS, MERGED (wip/merge.py): CoreW, CoreWb, CoreWd, CoreWe, CoreWc, CoreWf, CoreWg, CoreWh, CoreWp, CoreWq, CoreX, CoreY. No condition of their own.
-/
import Derived.Test.YtdnifdddokcnlaaGreatDoorK2
import Derived.Orders
import Derived.Deep.LoopGhost
set_option linter.unusedVariables false
set_option linter.unusedSimpArgs false
open Go.IntKind (i64 u64 u8 u32)
namespace WB
open Go Go.RowKit
def SO.slot:SO→List Nat
 | .t i=> [i]
 |_=> []
def Kc:Option SO→List Nat
 |some x=>x.slot
 |none=> []
def SOp.slots:SOp→List Nat
 | .mov x| .un _ x| .cvi _ x| .cvrune x| .cvbs x| .cvid x| .isnil _ _ x| .field _ _ x| .ext x _| .faddr _ x| .load _ x| .len _ x| .box x| .bytes _ x| .nbytes _ x| .nchk x| .siter x| .snext x| .asl _ x=>x.slot
 | .pick c a b=>c.slot++a.slot++b.slot
 | .bin _ x y| .eqs _ _ x y| .beq _ x y| .iaddr _ x y| .aaddr _ _ x y| .sidx x y| .aidx _ _ _ x y| .lookup _ _ _ _ x y| .make _ _ _ _ x y| .store _ x y| .append _ _ _ x y| .mapent _ x y=>x.slot++y.slot
 | .build _ ps=>ps.flatMap fun p=>p.2.2.slot
 | .minmax _ xs| .fnv _ xs| .mksl _ _ xs| .lsl _ _ xs| .call _ xs=>xs.flatMap SO.slot
 | .callv f xs=>f.slot++xs.flatMap SO.slot
 | .mcopy _ x y=>x.slot++y.slot
 | .sslice x l h| .slice _ x l h=>x.slot++Kc l++Kc h
 | .alloc _| .allocT .. | .mkmap .. => []
 | .entst x y z| .mapupd _ x y z=>x.slot++y.slot++z.slot
def SL.looks(l:SL):List Nat:=l.op.slots++(match l.guard with|some (g,_)=> [g]|none=> [])
def SOp.hard:SOp→Bool
 | .store .. | .append .. | .mapent .. | .entst .. | .mapupd .. | .snext .. | .mcopy .. =>true
 |_=>false
def SOp.calm:SOp→Bool
 | .bin .. | .eqs .. | .beq .. | .un .. | .cvi .. | .mov .. | .ext .. | .minmax .. | .lookup _ _ _ false _ _=>true
 |_=>false
def SOp.entry:SOp→Bool
 | .mapent .. =>true
 |_=>false
def SOp.makes:SOp→Bool
 | .alloc .. | .allocT .. | .box .. | .mksl .. | .mkmap .. | .make .. | .siter .. | .nbytes .. | .call .. | .callv .. =>true
 |_=>false
def SOp.still:SOp→Bool
 | .bin .. | .eqs .. | .beq .. | .un .. | .cvi .. | .mov .. | .ext .. | .minmax .. | .isnil .. | .pick .. =>true
 |_=>false
def SOp.stores:SOp→Bool
 | .store .. =>true
 |_=>false
def SOp.grows:SOp→Bool
 | .append .. =>true
 |_=>false
def SOp.loads:SOp→Bool
 | .load .. =>true
 |_=>false
def SOp.puts:SOp→Bool
 | .mapupd .. =>true
 |_=>false
def SOp.moves:SOp→Bool
 | .mov .. =>true
 |_=>false
def SOp.tame:SOp→Bool
 | .load .. | .alloc .. | .mksl .. =>true
 |_=>false
def Fx(D:List Nat)(x y:SL):Bool:=
 (x.dst.all fun d=> !y.looks.contains d&&y.dst !=some d)&&(y.dst.all fun d=> !x.looks.contains d)&&
 ((!x.op.hard&&((!y.op.hard&&(!x.op.makes||x.dst.all fun d=>(hid y.op D).contains d)&&(!y.op.makes||y.dst.all fun d=>(hid x.op D).contains d))||(y.op.entry&&x.op.calm)||(y.op.stores&&x.op.still)||(y.op.grows&&y.guard.isNone&&x.op.moves&&x.guard.isNone)||(y.op.puts&&y.guard.isNone&&x.op.loads&&x.guard.isNone)))||(x.op.grows&&x.guard.isNone&&y.op.tame&&y.guard.isNone))
def Fl(ops:Array Oper):Nat→Nat→Nat→Bool
 |0,_,_=>false
 |k+1,i,j=>match ops[j]? with
  |some o=>o.after.any fun e=>Region.binds .any e&&(e.on==i||(e.on<j&&Fl ops k i e.on))
  |none=>false
def If(ops:Array Oper)(ms:List Nat)(j:Nat):Nat:=
 match ops[j]? with
 |some o=>o.after.foldl (fun m e=>if Region.binds .any e&&decide (e.on<j)then m|||(1<<<e.on)|||ms.getD e.on 0 else m) 0
 |none=>0
def Dg(ops:Array Oper):Nat→List Nat
 |0=> []
 |n+1=>Dg ops n++ [If ops (Dg ops n) n]
theorem JN(ops:Array Oper):∀n,(Dg ops n).length=n
 |0=>rfl
 |n+1=>by simp[Dg,JN ops n]
theorem F2(ops:Array Oper):∀{n j:Nat},j<n→(Dg ops n).getD j 0=If ops (Dg ops j) j
 |0,_,h=>by omega
 |n+1,j,h=>by
  show(Dg ops n++ [If ops (Dg ops n) n]).getD j 0=_;by_cases hj:j<n
  ·have:=F2 ops hj;rw[List.getD_eq_getElem?_getD,List.getElem?_append_left (by rw[JN];exact hj),←List.getD_eq_getElem?_getD];exact this
  ·have e:j=n:=by omega
   subst e;rw[List.getD_eq_getElem?_getD,List.getElem?_append_right (by rw[JN];exact Nat.le_refl _)];simp[JN]
theorem GZ(ops:Array Oper):∀{j k i:Nat},j<k→(If ops (Dg ops j) j).testBit i=true→Fl ops k i j=true:=by
 intro j
 induction j using Nat.strongRecOn with
 |_ j ih=>
  intro k i hk h;obtain⟨k,rfl⟩:∃k',k=k'+1:=⟨k-1,by omega⟩;unfold If at h;unfold Fl;split at h
  ·rename_i o ho;try simp only[ho]
   rw[←Array.foldl_toList]at h
   have key:∀(l:List Edge) (m:Nat),(l.foldl (fun m e=>if Region.binds .any e&&decide (e.on<j)then m|||(1<<<e.on)|||(Dg ops j).getD e.on 0 else m) m).testBit i=true→
     m.testBit i=true∨∃e∈l,Region.binds .any e=true∧e.on<j∧(e.on=i∨((Dg ops j).getD e.on 0).testBit i=true):=by
    intro l
    induction l with
    |nil=>intro m h;exact .inl h
    |cons e l ihl=>
     intro m h;simp only[List.foldl_cons]at h;rcases ihl _ h with h|⟨e',h1,h2⟩
     ·split at h
      ·rename_i hb;simp only[Af,decide_eq_true_eq]at hb;rw[Nat.testBit_or,Nat.testBit_or,Aj,Aj]at h;rcases h with(h|h)|h
       ·exact .inl h
       ·refine .inr ⟨e,by simp,hb.1,hb.2,.inl ?_⟩;rw[Nat.shiftLeft_eq,Nat.one_mul,Nat.testBit_two_pow]at h;simpa using h
       ·exact .inr ⟨e,by simp,hb.1,hb.2,.inr h⟩
      ·exact .inl h
     ·exact .inr ⟨e',by simp[h1],h2⟩
   rcases key _ _ h with h|⟨e,h1,h2,h3,h4⟩
   ·simp at h
   ·rw[Array.any_eq_true'];refine⟨e,by simpa using h1, ?_⟩;simp only[Af,Aj,beq_iff_eq,decide_eq_true_eq];refine⟨h2, ?_⟩;rcases h4 with h4|h4
    ·exact .inl h4
    ·right;rw[F2 ops h3]at h4;exact⟨h3,ih e.on h3 (by omega) h4⟩
  ·simp at h
def FE(E:Env)(rd:Nat→Ob)(ρ:SO→SV)(d:Option Nat)(f:FuncId)(args:List SO)(caps:List CV):Option (SV×Option Ob):=
 (Ao (fun x=>BC rd (ρ x)) args).bind fun l=>(E.fn f (l++caps)).bind fun r=>
  if(args.all fun x=>isC (ρ x))||r.memless then some (match r with| .val v=>(.c v,none)| .new o=>(KA (d.getD 0) o,some o))else none
def Az(E:Env)(rd:Nat→Ob)(ρ:SO→SV)(d:Option Nat)(op:SOp):Option (SV×Option Ob):=
 match op.cls with
 | .val| .grow=>(Am rd ρ op).map fun v=>(v,none)
 | .new=>(AT ρ (d.getD 0) op).map fun(v,o)=>(v,some o)
 | .eff| .copy=>none
 | .call=>match op with
  | .call f args=>FE E rd ρ d f args []
  | .callv f args=>match ρ f with
   | .c (.fn f caps)=>FE E rd ρ d f args caps
   |_=>none
  |_=>none
def Cm(E:Env)(l:SL)(fr:Nat→SV)(rd:Nat→Ob):Option (SV×Option Ob):=
 match l.guard with
 |none=>Az E rd (so E.G fr) l.dst l.op
 |some (g,want)=>match fr g with
  | .c (.bool b)=>if b=want then Az E rd (so E.G fr) l.dst l.op else some (AL,none)
  | .c (.tup [])=>some (AL,none)
  |_=>none
def put(st:St)(d:Option Nat):SV×Option Ob→Option St
 |(v,none)=>some (st.set d v)
 |(v,some o)=>AU st d v o
section
variable {E:Env}
theorem Se{rd:Nat→Ob}{ρ:SO→SV}{st:St}{d:Option Nat}{f:FuncId}{args:List SO}{caps:List CV}:Da E rd ρ st d f args caps=(FE E rd ρ d f args caps).bind (put st d):=by
 unfold Da FE
 cases Ao (fun x=>BC rd (ρ x)) args with
 |none=>rfl
 |some l=>
  simp only[Option.bind_some]
  cases E.fn f (l++caps)with
  |none=>rfl
  |some r=>
   simp only[Option.bind_some];split
   ·cases r<;>rfl
   ·rfl
theorem Hv{rd:Nat→Ob}{st:St}{d:Option Nat}{op:SOp}(hs:op.hard=false):Aw E.still rd st d op=(Az E rd (so E.G st.fr) d op).bind (put st d):=by
 cases op<;>simp only[SOp.hard,Bool.true_eq_false]at hs<;>simp only[Aw,Az,SOp.cls,WW]<;>first
  |rfl
  |(cases Am rd (so E.G st.fr) _<;>rfl)
  |(generalize AT (so E.G st.fr) (d.getD 0) _=q;cases q<;>rfl)
  |exact Se
  |skip
 show(match so E.G st.fr _ with| .c (.fn f caps)=>_|_=>none)=_;generalize so E.G st.fr _=q
 cases q<;>first
  |rfl
  |(rename_i v;cases v<;>first|rfl|exact Se)
theorem Cn{D:List Nat}{st:St}{l:SL}(hs:l.op.hard=false):As E (some D) l st=(Cm E l st.fr (A0 (some (hid l.op D)) st.ob)).bind (put st l.dst):=by
 unfold As Cm;simp only[Option.map_some]
 cases l.guard with
 |none=>exact Hv hs
 |some p=>
  obtain⟨g,want⟩:=p;simp only;generalize st.fr g=q
  cases q with
  |c v=>
   cases v with
   |bool b=>
    simp only;split
    ·exact Hv hs
    ·rfl
   |tup l=>cases l<;>rfl
   |_=>rfl
  |_=>rfl
theorem EC{G:Nat→List CV}{fr fr':Nat→SV}(x:SO)(h:∀i∈x.slot,fr i=fr' i):so G fr x=so G fr' x:=by
 cases x with
 |t i=>exact h i (by simp[SO.slot])
 |_=>rfl
theorem Fk{α β:Type}{f g:α→Option β}:∀(l:List α),(∀x∈l,f x=g x)→Ao f l=Ao g l
 | [],_=>rfl
 |x::l,h=>by
  simp only[Ao,h x (by simp),Fk l (fun y hy=>h y (by simp[hy]))]
theorem Lt{α:Type}{f g:α→Bool}:∀(l:List α),(∀x∈l,f x=g x)→l.all f=l.all g
 | [],_=>rfl
 |x::l,h=>by
  simp only[List.all_cons,h x (by simp),Lt l (fun y hy=>h y (by simp[hy]))]
theorem Kd{ρ ρ':SO→SV}(o:Option SO)(h:∀x,(∀i∈x.slot,i∈Kc o)→ρ x=ρ' x):o.map ρ=o.map ρ':=by
 cases o with
 |none=>rfl
 |some x=>simp[h x (fun i hi=>by simpa[Kc]using hi)]
theorem Sf{rd:Nat→Ob}{fr fr':Nat→SV}{d:Option Nat}(op:SOp)(h:∀i∈op.slots,fr i=fr' i):Az E rd (so E.G fr) d op=Az E rd (so E.G fr') d op:=by
 have key:∀x:SO,(∀i∈x.slot,i∈op.slots)→so E.G fr x=so E.G fr' x:=fun x hx=>EC x fun i hi=>h i (hx i hi);generalize so E.G fr=ρ at key⊢;generalize so E.G fr'=ρ' at key⊢
 cases op with
 |mov x=>simp only[Az,SOp.cls,Am,key x (fun i hi=>by simp[SOp.slots,hi])]
 |pick c x y=>simp only[Az,SOp.cls,Am,key c (fun i hi=>by simp[SOp.slots,hi]),key x (fun i hi=>by simp[SOp.slots,hi]),key y (fun i hi=>by simp[SOp.slots,hi])]
 |bin op x y=>simp only[Az,SOp.cls,Am,key x (fun i hi=>by simp[SOp.slots,hi]),key y (fun i hi=>by simp[SOp.slots,hi])]
 |eqs n ts x y=>simp only[Az,SOp.cls,Am,key x (fun i hi=>by simp[SOp.slots,hi]),key y (fun i hi=>by simp[SOp.slots,hi])]
 |beq n x y=>simp only[Az,SOp.cls,Am,key x (fun i hi=>by simp[SOp.slots,hi]),key y (fun i hi=>by simp[SOp.slots,hi])]
 |isnil k n x=>simp only[Az,SOp.cls,Am,key x (fun i hi=>by simp[SOp.slots,hi])]
 |un op x=>simp only[Az,SOp.cls,Am,key x (fun i hi=>by simp[SOp.slots,hi])]
 |cvi k x=>simp only[Az,SOp.cls,Am,key x (fun i hi=>by simp[SOp.slots,hi])]
 |cvrune x=>simp only[Az,SOp.cls,Am,key x (fun i hi=>by simp[SOp.slots,hi])]
 |cvbs x=>simp only[Az,SOp.cls,Am,key x (fun i hi=>by simp[SOp.slots,hi])]
 |cvid x=>simp only[Az,SOp.cls,Am,key x (fun i hi=>by simp[SOp.slots,hi])]
 |field o s x=>simp only[Az,SOp.cls,Am,key x (fun i hi=>by simp[SOp.slots,hi])]
 |ext x j=>simp only[Az,SOp.cls,Am,key x (fun i hi=>by simp[SOp.slots,hi])]
 |faddr o x=>simp only[Az,SOp.cls,Am,key x (fun i hi=>by simp[SOp.slots,hi])]
 |iaddr s x y=>simp only[Az,SOp.cls,Am,key x (fun i hi=>by simp[SOp.slots,hi]),key y (fun i hi=>by simp[SOp.slots,hi])]
 |aaddr l s x y=>simp only[Az,SOp.cls,Am,key x (fun i hi=>by simp[SOp.slots,hi]),key y (fun i hi=>by simp[SOp.slots,hi])]
 |sidx x y=>simp only[Az,SOp.cls,Am,key x (fun i hi=>by simp[SOp.slots,hi]),key y (fun i hi=>by simp[SOp.slots,hi])]
 |aidx l s z x y=>simp only[Az,SOp.cls,Am,key x (fun i hi=>by simp[SOp.slots,hi]),key y (fun i hi=>by simp[SOp.slots,hi])]
 |load s x=>simp only[Az,SOp.cls,Am,key x (fun i hi=>by simp[SOp.slots,hi])]
 |len k x=>simp only[Az,SOp.cls,Am,key x (fun i hi=>by simp[SOp.slots,hi])]
 |lookup mt kt z ok x y=>simp only[Az,SOp.cls,Am,key x (fun i hi=>by simp[SOp.slots,hi]),key y (fun i hi=>by simp[SOp.slots,hi])]
 |alloc z=>rfl
 |allocT T z=>rfl
 |box x=>simp only[Az,SOp.cls,AT,key x (fun i hi=>by simp[SOp.slots,hi])]
 |mkmap mt kt z=>rfl
 |make e s b z x y=>simp only[Az,SOp.cls,AT,key x (fun i hi=>by simp[SOp.slots,hi]),key y (fun i hi=>by simp[SOp.slots,hi])]
 |bytes e x=>simp only[Az,SOp.cls,Am,key x (fun i hi=>by simp[SOp.slots,hi])]
 |nchk x=>simp only[Az,SOp.cls,Am,key x (fun i hi=>by simp[SOp.slots,hi])]
 |siter x=>simp only[Az,SOp.cls,AT,key x (fun i hi=>by simp[SOp.slots,hi])]
 |nbytes e x=>simp only[Az,SOp.cls,AT,key x (fun i hi=>by simp[SOp.slots,hi])]
 |store n x y=>rfl
 |append e s b x y=>rfl
 |mapent mt x y=>rfl
 |entst x y z=>rfl
 |mapupd mt x y z=>rfl
 |mcopy f x y=>rfl
 |snext x=>rfl
 |asl n x=>simp only[Az,SOp.cls,Am,key x (fun i hi=>by simp[SOp.slots,hi])]
 |sslice x lo hi=>
  have e1:=Kd lo (fun y hy=>key y (fun i hi=>by simp[SOp.slots,hy i hi]));have e2:=Kd hi (fun y hy=>key y (fun i hi=>by simp[SOp.slots,hy i hi]));simp only[Az,SOp.cls,Am,key x (fun i hi=>by simp[SOp.slots,hi]),e1,e2]
 |slice s x lo hi=>
  have e1:=Kd lo (fun y hy=>key y (fun i hi=>by simp[SOp.slots,hy i hi]));have e2:=Kd hi (fun y hy=>key y (fun i hi=>by simp[SOp.slots,hy i hi]));simp only[Az,SOp.cls,Am,key x (fun i hi=>by simp[SOp.slots,hi]),e1,e2]
 |build z ps=>
  simp only[Az,SOp.cls,Am];rw[Fk ps (fun p hp=>by rw[key p.2.2 (fun i hi=>by simp only[SOp.slots,List.mem_flatMap];exact⟨p,hp,hi⟩)])]
 |minmax m xs=>
  simp only[Az,SOp.cls,Am];rw[Fk xs (fun p hp=>by rw[key p (fun i hi=>by simp only[SOp.slots,List.mem_flatMap];exact⟨p,hp,hi⟩)])]
 |fnv f xs=>
  simp only[Az,SOp.cls,Am];rw[Fk xs (fun p hp=>by rw[key p (fun i hi=>by simp only[SOp.slots,List.mem_flatMap];exact⟨p,hp,hi⟩)])]
 |lsl e s xs=>
  simp only[Az,SOp.cls,Am];rw[Fk xs (fun p hp=>by rw[key p (fun i hi=>by simp only[SOp.slots,List.mem_flatMap];exact⟨p,hp,hi⟩)])]
 |mksl e s xs=>
  simp only[Az,SOp.cls,AT];rw[Fk xs (fun p hp=>by rw[key p (fun i hi=>by simp only[SOp.slots,List.mem_flatMap];exact⟨p,hp,hi⟩)])]
 |call f xs=>
  simp only[Az,SOp.cls,FE]
  rw[Fk xs (fun p hp=>by rw[key p (fun i hi=>by simp only[SOp.slots,List.mem_flatMap];exact⟨p,hp,hi⟩)]),
   Lt xs (fun p hp=>by rw[key p (fun i hi=>by simp only[SOp.slots,List.mem_flatMap];exact⟨p,hp,hi⟩)])]
 |callv f xs=>
  simp only[Az,SOp.cls,FE]
  rw[Fk xs (fun p hp=>by rw[key p (fun i hi=>by simp only[SOp.slots,List.mem_append,List.mem_flatMap];exact .inr ⟨p,hp,hi⟩)]),
   Lt xs (fun p hp=>by rw[key p (fun i hi=>by simp only[SOp.slots,List.mem_append,List.mem_flatMap];exact .inr ⟨p,hp,hi⟩)]),
   key f (fun i hi=>by simp[SOp.slots,hi])]
theorem Hu{rd:Nat→Ob}{fr fr':Nat→SV}{l:SL}(h:∀i∈l.looks,fr i=fr' i):Cm E l fr rd=Cm E l fr' rd:=by
 have h1:∀i∈l.op.slots,fr i=fr' i:=fun i hi=>h i (by simp[SL.looks,hi]);unfold Cm
 cases hg:l.guard with
 |none=>exact Sf _ h1
 |some p=>
  obtain⟨g,want⟩:=p;simp only;rw[h g (by simp[SL.looks,hg]),Sf _ h1]
theorem Rg{D:List Nat}{st st':St}{d:Option Nat}{p:SV×Option Ob}(h:put st d p=some st')(hD:p.2.isSome=true→∀j,d=some j→D.contains j=true):A0 (some D) st'.ob=A0 (some D) st.ob:=by
 obtain⟨v,o⟩:=p
 cases o with
 |none=>
  simp only[put,Ac]at h;subst h;cases d<;>rfl
 |some o=>
  simp only[put,AU]at h
  cases d with
  |none=>cases h
  |some d=>
   simp only at h;split at h<;>(try cases h;done);cases h;have:=hD rfl d rfl;funext i;simp only[A0,BL];split
   ·rfl
   ·rename_i hi;split
    ·rename_i e;subst e;exact(hi this).elim
    ·rfl
theorem DN{st st':St}{d:Option Nat}{p:SV×Option Ob}(h:put st d p=some st'){i:Nat}(hi:d≠some i):st'.fr i=st.fr i:=by
 obtain⟨v,o⟩:=p
 cases o with
 |none=>
  simp only[put,Ac]at h;subst h
  cases d with
  |none=>rfl
  |some d=>exact upd_ne _ _ (fun e=>hi (by rw[e]))
 |some o=>
  simp only[put,AU]at h
  cases d with
  |none=>cases h
  |some d=>
   simp only at h;split at h<;>(try cases h;done);cases h;exact upd_ne _ _ (fun e=>hi (by rw[e]))
theorem EE{α:Type}(f:Nat→α){i j:Nat}(u v:α)(h:i≠j):upd (upd f i u) j v=upd (upd f j v) i u:=by
 funext k;simp only[BL];by_cases h1:k=i<;>by_cases h2:k=j<;>simp_all
theorem Wt{st s1 s2:St}{d1 d2:Option Nat}{p1 p2:SV×Option Ob}(h1:put st d1 p1=some s1)(h2:put s1 d2 p2=some s2)(hd:∀i j,d1=some i→d2=some j→i≠j):∃s,put st d2 p2=some s∧put s d1 p1=some s2:=by
 obtain⟨v1,o1⟩:=p1;obtain⟨v2,o2⟩:=p2
 cases d1 with
 |none=>
  cases o1 with
  |none=>
   simp only[put,Ac]at h1;cases h1;exact⟨s2,h2,rfl⟩
  |some o=>cases h1
 |some i=>
  cases d2 with
  |none=>
   cases o2 with
   |none=>
    simp only[put,Ac]at h2;cases h2;exact⟨st,rfl,h1⟩
   |some o=>cases h2
  |some j=>
   have hij:=hd i j rfl rfl
   cases o1 with
   |none=>
    simp only[put,Ac]at h1;cases h1
    cases o2 with
    |none=>
     simp only[put,Ac]at h2;cases h2;exact⟨_,rfl,by simp[put,St.set,EE _ _ _ hij]⟩
    |some o2=>
     simp only[put,AU,St.set]at h2;split at h2<;>(try cases h2;done);rename_i hn;cases h2;exact⟨{fr:=upd st.fr j v2,ob:=upd st.ob j o2},by simp[put,AU,hn],by simp[put,St.set,EE _ _ _ hij]⟩
   |some o1=>
    simp only[put,AU]at h1;split at h1<;>(try cases h1;done);rename_i hn;cases h1
    cases o2 with
    |none=>
     simp only[put,Ac]at h2;cases h2;exact⟨_,rfl,by simp[put,AU,St.set,hn,EE _ _ _ hij]⟩
    |some o2=>
     simp only[put,AU,upd_ne _ _ (Ne.symm hij)]at h2;split at h2<;>(try cases h2;done);rename_i hn2;cases h2;exact⟨{fr:=upd st.fr j v2,ob:=upd st.ob j o2},by simp[put,AU,hn2],by simp[put,AU,upd_ne _ _ hij,hn,EE _ _ _ hij]⟩
theorem Sg{rd:Nat→Ob}{ρ:SO→SV}{d:Option Nat}{op:SOp}{p:SV×Option Ob}(h:Az E rd ρ d op=some p)(hp:p.2.isSome=true):op.makes=true:=by
 cases op<;>simp only[Az,SOp.cls,Aa,reduceCtorEq]at h<;>first
  |rfl
  |(obtain⟨v,_,rfl⟩:=h;cases hp)
theorem KR{l:SL}{fr:Nat→SV}{rd:Nat→Ob}{p:SV×Option Ob}(h:Cm E l fr rd=some p)(hp:p.2.isSome=true):l.op.makes=true:=by
 unfold Cm at h;split at h
 ·exact Sg h hp
 ·split at h
  ·split at h
   ·exact Sg h hp
   ·cases h;cases hp
  ·cases h;cases hp
  ·cases h
theorem Xq{D:List Nat}{a b:SL}{st s1 s2:St}(ha:a.op.hard=false)(hb:b.op.hard=false)(hDa:a.op.makes=true→∀j,a.dst=some j→(hid b.op D).contains j=true)(hDb:b.op.makes=true→∀j,b.dst=some j→(hid a.op D).contains j=true)
  (hab:∀i,a.dst=some i→i∉b.looks∧b.dst≠some i) (hba:∀i,b.dst=some i→i∉a.looks) (h1:As E (some D) a st=some s1) (h2:As E (some D) b s1=some s2):
  ∃s,As E (some D) b st=some s∧As E (some D) a s=some s2:=by
 rw[Cn ha,Ab]at h1;rw[Cn hb,Ab]at h2;obtain⟨p1,e1,h1⟩:=h1;obtain⟨p2,e2,h2⟩:=h2;have m1:=Rg (D:=hid b.op D) h1 (fun hs j hj=>hDa (KR e1 hs) j hj);rw[m1,Hu (fr':=st.fr) (fun i hi=>DN h1 (fun e=>(hab i e).1 hi))]at e2;obtain⟨s,g1,g2⟩:=Wt h1 h2 (fun i j hi hj e=>(hab i hi).2 (by rw[hj,e]));have m2:=Rg (D:=hid a.op D) g1 (fun hs j hj=>hDb (KR e2 hs) j hj);refine⟨s, ?_, ?_⟩
 ·rw[Cn hb,e2];exact g1
 ·rw[Cn ha,m2,Hu (fr':=st.fr) (fun i hi=>DN g1 (fun e=>hba i e hi)),e1];exact g2
end
def gd(l:SL)(fr:Nat→SV):Option Bool:=
 match l.guard with
 |none=>some true
 |some (g,want)=>match fr g with
  | .c (.bool b)=>some (decide (b=want))
  | .c (.tup [])=>some false
  |_=>none
section
variable {E:Env}
theorem FY{D:Option (List Nat)}{l:SL}{st:St}:As E D l st=(gd l st.fr).bind fun t=>if t=true then Aw (E.at D) (A0 (D.map (hid l.op)) st.ob) st l.dst l.op else some (st.set l.dst AL):=by
 unfold As gd
 cases l.guard with
 |none=>rfl
 |some p=>
  obtain⟨g,want⟩:=p;simp only;generalize st.fr g=q
  cases q with
  |c v=>
   cases v with
   |bool b=>by_cases hb:b=want<;>simp[hb]
   |tup l=>cases l<;>rfl
   |_=>rfl
  |_=>rfl
theorem Mm{l:SL}{fr fr':Nat→SV}(h:∀i∈l.looks,fr i=fr' i):gd l fr=gd l fr':=by
 unfold gd
 cases hg:l.guard with
 |none=>rfl
 |some p=>
  obtain⟨g,want⟩:=p;simp only;rw[h g (by simp[SL.looks,hg])]
theorem Qg{kt:KT}{k c:CV}:∀(ks:List CV),Ay kt k (ks++ [c])=match Ay kt k ks with
  |some i=>some i
  |none=>if BH kt k c then some ks.length else none
 | []=>by simp[Ay]
 |a::ks=>by
  simp only[List.cons_append,Ay,Qg ks];split
  ·rfl
  ·cases Ay kt k ks with
   |some i=>rfl
   |none=>
    simp only[Option.map_none];split<;>simp
theorem V5{kt:KT}{z:CV}{ks vs:List CV}(k k':CV)(hl:ks.length=vs.length):(A2 kt z (AH kt ks k) (AI kt ks vs k (A2 kt z ks vs k).1) k').1=(A2 kt z ks vs k').1:=by
 unfold AH AI
 cases hk:Ay kt k ks with
 |some i=>
  have:(A2 kt z ks vs k).1=vs.getD i z:=by simp[A2,hk]
  rw[this];have hi:=J6 hk
  have:vs.set i (vs.getD i z)=vs:=by
   rw[List.getD_eq_getElem?_getD,Ai (by omega:i<vs.length)];simp
  simp only[this]
 |none=>
  have:(A2 kt z ks vs k).1=z:=by simp[A2,hk]
  rw[this];simp only[A2,Qg]
  cases hk':Ay kt k' ks with
  |some j=>
   have hj:=J6 hk';simp[List.getD_eq_getElem?_getD,List.getElem?_append_left (by omega:j<vs.length)]
  |none=>
   simp only;by_cases he:BH kt k' k<;>simp[he,List.getD_eq_getElem?_getD,hl]
theorem Tw{rd rd':Nat→Ob}{mt:TypeId}{kt:KT}{z:CV}{ks vs:List CV}{k:CV}(hl:ks.length=vs.length)
  (h:∀i,rd' i=rd i∨(rd i=.map mt kt z ks vs∧rd' i=.map mt kt z (AH kt ks k) (AI kt ks vs k (A2 kt z ks vs k).1))) {ρ:SO→SV} {d:Option Nat} {op:SOp} (hc:op.calm=true):Az E rd' ρ d op=Az E rd ρ d op:=by
 cases op<;>simp only[SOp.calm,Ag]at hc<;>try rfl
 rename_i mt' kt' z' ok x y;cases ok<;>simp only[Ag]at hc;simp only[Az,SOp.cls,Am]
 congr 2
 generalize ρ x=q1;generalize ρ y=q2
 cases q1 with
 |omap id=>
  cases q2 with
  |c kc=>
   rcases h id with e|⟨e1,e2⟩
   ·simp only[Df,e]
   ·simp only[Df,e1,e2,Ag,if_false,V5 k kc hl]
  |_=>rfl
 |c v=>cases v<;>cases q2<;>rfl
 |_=>rfl
theorem Xl{D:List Nat}{a b:SL}{st s1 s2:St}(ha:a.op.calm=true)(hb:b.op.entry=true)
  (hab:∀i,a.dst=some i→i∉b.looks∧b.dst≠some i) (hba:∀i,b.dst=some i→i∉a.looks) (h1:As E (some D) a st=some s1) (h2:As E (some D) b s1=some s2):
  ∃s,As E (some D) b st=some s∧As E (some D) a s=some s2:=by
 have hah:a.op.hard=false:=by
  revert ha;cases a.op<;>simp[SOp.calm,SOp.hard]
 have ham:a.op.makes=false:=by
  revert ha;cases a.op<;>simp[SOp.calm,SOp.makes]
 rw[Cn hah,Ab]at h1;obtain⟨⟨v,o⟩,e1,h1⟩:=h1
 have ho:o=none:=by
  cases o with
  |none=>rfl
  |some o=>have:=KR e1 rfl;rw[ham]at this;cases this
 subst ho;have hf1:∀i∈b.looks,s1.fr i=st.fr i:=fun i hi=>DN h1 (fun e=>(hab i e).1 hi);simp only[put,Ac]at h1;have hob1:s1.ob=st.ob:=by subst h1;cases a.dst<;>rfl
 rw[FY,Mm hf1,Ab]at h2;obtain⟨t,ht,h2⟩:=h2;have dcomm:∀i j,b.dst=some i→a.dst=some j→i≠j:=fun i j hi hj e=>(hab j hj).2 (by rw[hi,e])
 cases t with
 |false=>
  simp only[Ag,if_false,Ac]at h2;refine⟨st.set b.dst AL,by rw[FY,ht];rfl, ?_⟩;have g1:put st b.dst (AL,none)=some (st.set b.dst AL):=rfl;have hm:(st.set b.dst AL).ob=st.ob:=by cases b.dst<;>rfl
  rw[Cn hah,hm,Hu (fr':=st.fr) (fun i hi=>DN g1 (fun e=>hba i e hi)),e1]
  have hc:∀(x y:Option Nat) (u v:SV),(∀i j,x=some i→y=some j→i≠j)→(st.set x u).set y v=(st.set y v).set x u:=by
   intro x y u v hxy;cases x<;>cases y<;>try rfl
   simp only[St.set,EE _ _ _ (hxy _ _ rfl rfl)]
  simp only[Option.bind_some,put,←h2,←h1,hc _ _ _ _ dcomm]
 |true=>
  simp only[if_true]at h2;cases hop:b.op<;>simp only[hop,SOp.entry,Ag]at hb;rename_i mt x k
  have hslots:∀y:SO,(y=x∨y=k)→so E.G s1.fr y=so E.G st.fr y:=fun y hy=>EC y fun i hi=>hf1 i (by
   simp only[SL.looks,hop,SOp.slots,List.mem_append];rcases hy with rfl|rfl
   ·exact .inl (.inl hi)
   ·exact .inl (.inr hi))
  simp only[hop,Aw,SOp.cls,A6,CK,hslots x (.inl rfl),hslots k (.inr rfl),hob1]at h2;cases hx:so E.G st.fr x<;>simp only[hx,reduceCtorEq]at h2;cases hkk:so E.G st.fr k<;>simp only[hkk,reduceCtorEq]at h2;rename_i id kc;cases hobi:st.ob id<;>simp only[hobi,reduceCtorEq]at h2;rename_i mt' kt z ks vs;simp only[Ad,Ac]at h2;obtain⟨⟨rfl,hcf,hlen⟩,h2⟩:=h2;refine⟨St.set {st with ob:=upd st.ob id (.map mt' kt z (AH kt ks kc) (AI kt ks vs kc (A2 kt z ks vs kc).1))} b.dst (.ent id kc (A2 kt z ks vs kc).1), ?_, ?_⟩
  ·rw[FY,ht];simp[hop,Aw,SOp.cls,A6,hx,hkk,hobi,hcf,hlen]
  ·have hfr:∀i∈a.looks,(St.set {st with ob:=upd st.ob id (.map mt' kt z (AH kt ks kc) (AI kt ks vs kc (A2 kt z ks vs kc).1))} b.dst (.ent id kc (A2 kt z ks vs kc).1)).fr i=st.fr i:=by
    intro i hi
    cases hbd:b.dst with
    |none=>rfl
    |some j=>exact upd_ne _ _ (fun e=>hba j hbd (e▸hi))
   have hob:(St.set {st with ob:=upd st.ob id (.map mt' kt z (AH kt ks kc) (AI kt ks vs kc (A2 kt z ks vs kc).1))} b.dst (.ent id kc (A2 kt z ks vs kc).1)).ob=upd st.ob id (.map mt' kt z (AH kt ks kc) (AI kt ks vs kc (A2 kt z ks vs kc).1)):=by
    cases b.dst<;>rfl
   have hrd:∀i,A0 (some (hid a.op D)) (upd st.ob id (.map mt' kt z (AH kt ks kc) (AI kt ks vs kc (A2 kt z ks vs kc).1))) i=A0 (some (hid a.op D)) st.ob i∨(A0 (some (hid a.op D)) st.ob i=.map mt' kt z ks vs∧A0 (some (hid a.op D)) (upd st.ob id (.map mt' kt z (AH kt ks kc) (AI kt ks vs kc (A2 kt z ks vs kc).1))) i=.map mt' kt z (AH kt ks kc) (AI kt ks vs kc (A2 kt z ks vs kc).1)):=by
    intro i;simp only[A0,BL];by_cases hi:(hid a.op D).contains i=true
    ·simp only[hi,if_true];exact .inl trivial
    ·by_cases e:i=id
     ·subst e;rw[if_neg hi,if_neg hi,if_pos rfl];exact .inr ⟨hobi,rfl⟩
     ·rw[if_neg hi,if_neg hi,if_neg e];exact .inl rfl
   have e1':Cm E a st.fr (A0 (some (hid a.op D)) (upd st.ob id (.map mt' kt z (AH kt ks kc) (AI kt ks vs kc (A2 kt z ks vs kc).1))))=some (v,none):=by
    rw[←e1];unfold Cm;simp only[Tw hlen hrd ha]
   rw[Cn hah,hob,Hu hfr,e1'];simp only[Option.bind_some,put,←h2,←h1]
   congr 1
   cases hbd:b.dst<;>cases had:a.dst<;>try rfl
   simp only[St.set,EE _ _ _ (dcomm _ _ hbd had)]
end
section
variable {E:Env}
theorem St.set_comm(st:St):∀(x y:Option Nat) (u v:SV),(∀i j,x=some i→y=some j→i≠j)→(st.set x u).set y v=(st.set y v).set x u:=by
 intro x y u v hxy;cases x<;>cases y<;>try rfl
 simp only[St.set,EE _ _ _ (hxy _ _ rfl rfl)]
theorem WY{d d':Option Nat}{ρ ρ':SO→SV}{st st' s:St}{n:Nat}{x y:SO}(hx:ρ x=ρ' x)(hy:ρ y=ρ' y)(hob:st.ob=st'.ob)(h:A6 d ρ st (.store n x y)=some s):
  s.fr=st.fr∧A6 d' ρ' st' (.store n x y)=some {fr:=st'.fr,ob:=s.ob}:=by
 simp only[A6,hx,hy,hob]at h⊢;generalize deref st'.ob (ρ' x)=q at h⊢;cases q<;>(try(cases h;done))
 ·rename_i cv;cases cv<;>(try cases h;done);rename_i cs
  cases cs with
  |nil=>cases h
  |cons c0 cs=>
   cases cs with
   |cons _ _=>cases c0<;>cases h
   |nil=>
    cases c0<;>(try cases h;done);cases hv:ρ' y<;>simp only[hv]at h⊢ <;>(try cases h;done);rename_i c2;cases c2<;>(try cases h;done);simp only[Ad,Ac]at h⊢;obtain⟨hc,rfl⟩:=h;exact⟨rfl,hc,by rw[hob]⟩
 ·rename_i id o;cases hb:st'.ob id<;>simp only[hb,reduceCtorEq]at h⊢;cases hv:ρ' y<;>simp only[hv,reduceCtorEq]at h⊢;all_goals(repeat' (split at h))<;>(try cases h)<;>simp_all
 ·rename_i id i size o;cases hb:st'.ob id<;>simp only[hb,reduceCtorEq]at h⊢;cases hv:ρ' y<;>simp only[hv,reduceCtorEq]at h⊢;split at h
  ·rename_i hc;rw[Ab]at h;obtain⟨el,h1,h2⟩:=h;split at h2
   ·rename_i hc2;cases h2;simp[hc,h1,hc2]
   ·cases h2
  ·cases h
theorem WX{a:SL}(ha:a.op.still=true){fr:Nat→SV}{rd rd':Nat→Ob}:Cm E a fr rd=Cm E a fr rd':=by
 have key:∀ρ d,Az E rd ρ d a.op=Az E rd' ρ d a.op:=by
  intro ρ d;revert ha;cases a.op<;>simp[SOp.still,Az,SOp.cls,Am]
 unfold Cm;simp only[key]
theorem Xr{D:List Nat}{a b:SL}{st s1 s2:St}(ha:a.op.still=true)(hb:b.op.stores=true)
  (hab:∀i,a.dst=some i→i∉b.looks∧b.dst≠some i) (hba:∀i,b.dst=some i→i∉a.looks) (h1:As E (some D) a st=some s1) (h2:As E (some D) b s1=some s2):
  ∃s,As E (some D) b st=some s∧As E (some D) a s=some s2:=by
 have hah:a.op.hard=false:=by
  revert ha;cases a.op<;>simp[SOp.still,SOp.hard]
 have ham:a.op.makes=false:=by
  revert ha;cases a.op<;>simp[SOp.still,SOp.makes]
 rw[Cn hah,Ab]at h1;obtain⟨⟨v,o⟩,e1,h1⟩:=h1
 have ho:o=none:=by
  cases o with
  |none=>rfl
  |some o=>have:=KR e1 rfl;rw[ham]at this;cases this
 subst ho;have hf1:∀i∈b.looks,s1.fr i=st.fr i:=fun i hi=>DN h1 (fun e=>(hab i e).1 hi);simp only[put,Ac]at h1;have hob1:s1.ob=st.ob:=by subst h1;cases a.dst<;>rfl
 rw[FY,Mm hf1,Ab]at h2;obtain⟨t,ht,h2⟩:=h2;have dcomm:∀i j,b.dst=some i→a.dst=some j→i≠j:=fun i j hi hj e=>(hab j hj).2 (by rw[hi,e])
 cases t with
 |false=>
  simp only[Ag,if_false,Ac]at h2;refine⟨st.set b.dst AL,by rw[FY,ht];rfl, ?_⟩;have g1:put st b.dst (AL,none)=some (st.set b.dst AL):=rfl;have hm:(st.set b.dst AL).ob=st.ob:=by cases b.dst<;>rfl
  rw[Cn hah,hm,Hu (fr':=st.fr) (fun i hi=>DN g1 (fun e=>hba i e hi)),e1];simp only[Option.bind_some,put,←h2,←h1,St.set_comm st _ _ _ _ dcomm]
 |true=>
  simp only[if_true]at h2;cases hop:b.op<;>simp only[hop,SOp.stores,Ag]at hb;rename_i n x y
  have hslots:∀z:SO,(z=x∨z=y)→so E.G s1.fr z=so E.G st.fr z:=fun z hz=>EC z fun i hi=>hf1 i (by
   simp only[SL.looks,hop,SOp.slots,List.mem_append];rcases hz with rfl|rfl
   ·exact .inl (.inl hi)
   ·exact .inl (.inr hi))
  simp only[hop,Aw,SOp.cls]at h2;obtain⟨k1,k2⟩:=WY (d':=b.dst) (hslots x (.inl rfl)) (hslots y (.inr rfl)) hob1 h2;refine⟨{fr:=st.fr,ob:=s2.ob},by rw[FY,ht];simp only[Option.bind_some,if_true,hop,Aw,SOp.cls];exact k2, ?_⟩;rw[Cn hah,WX ha (rd':=A0 (some (hid a.op D)) st.ob),e1];simp only[Option.bind_some,put]
  congr 1
  have:s2={fr:=s1.fr,ob:=s2.ob}:=by rw[←k1]
  rw[this,←h1];cases a.dst<;>rfl
def EH(st:St)(d:Option Nat)(e size bytes:Nat)(vx vy:SV):Option (Nat×Ob):=
 match CE st vy with
 |none=>none
 |some news=>
  if(news.all (fun v=>AP v==size)&&news.all fun v=>v.cells.all BY)=true then
   match vx with
   | .c (.sl (some true) _)=>
     if news.length*bytes≤140737488355328∧news.length≤4611686018427387904 then
      match d with
      |some d=>some (d,.arr e size news)
      |none=>none
     else none
   | .osl id=>match st.ob id with
     | .arr e' size' es=>
      if e'=e∧size'=size∧(es.length+news.length)*bytes≤140737488355328∧es.length+news.length≤4611686018427387904 then some (id,.arr e size (es++news))else none
     |_=>none
   |_=>none
  else none
def C2(st:St)(d:Option Nat)(p:Nat×Ob):St:=St.set {fr:=fun i=>Ar [p.1] (st.fr i),ob:=upd (kill [p.1] st).ob p.1 p.2} d (.osl p.1)
theorem Lw{d:Option Nat}{ρ:SO→SV}{st:St}{e size bytes:Nat}{x y:SO}:A6 d ρ st (.append e size bytes x y)=(EH st d e size bytes (ρ x) (ρ y)).map (C2 st d):=by
 simp only[A6,EH]
 cases CE st (ρ y)with
 |none=>rfl
 |some news=>
  simp only;split
  ·generalize ρ x=q;split
   ·split
    ·cases d<;>rfl
    ·rfl
   ·rename_i id
    cases hq:st.ob id with
    |arr e' size' es=>
     simp only[hq];by_cases hc:e'=e∧size'=size∧(es.length+news.length)*bytes≤140737488355328∧es.length+news.length≤4611686018427387904
     ·rw[if_pos hc,if_pos hc];rfl
     ·rw[if_neg hc,if_neg hc];rfl
    |_=>simp only[hq];rfl
   ·rename_i h1 h2;split
    ·exact(h1 _ rfl).elim
    ·exact(h2 _ rfl).elim
    ·rfl
  ·rfl
theorem VM{st st':St}{v:SV}{news:List CV}(hk:∀i e s es,st.ob i=.arr e s es→st'.ob i=.arr e s es)(h:CE st v=some news):CE st' v=some news:=by
 unfold CE at h⊢;split at h
 ·exact h
 ·split at h
  ·rename_i hq;rw[hk _ _ _ _ hq];exact h
  ·cases h
 ·cases h
theorem Lu{st st':St}{d:Option Nat}{e size bytes:Nat}{vx vy:SV}{p:Nat×Ob}(hk:∀i e s es,st.ob i=.arr e s es→st'.ob i=.arr e s es)(h:EH st d e size bytes vx vy=some p):EH st' d e size bytes vx vy=some p:=by
 unfold EH at h⊢
 cases hn:CE st vy with
 |none=>rw[hn]at h;cases h
 |some news=>
  rw[hn]at h;rw[VM hk hn];simp only at h⊢;split at h
  ·rename_i hc;rw[if_pos hc];split at h
   ·exact h
   ·rename_i id;cases hob:st.ob id<;>simp only[hob,reduceCtorEq]at h;rw[hk _ _ _ _ hob];exact h
   ·cases h
  ·cases h
theorem SZ{st:St}{d:Option Nat}{e size bytes:Nat}{vx vy:SV}{p:Nat×Ob}(h:EH st d e size bytes vx vy=some p):∃es,p.2=.arr e size es:=by
 unfold EH at h;split at h
 ·cases h
 ·split at h
  ·split at h
   ·split at h
    ·split at h
     ·cases h;exact⟨_,rfl⟩
     ·cases h
    ·cases h
   ·split at h
    ·split at h
     ·cases h;exact⟨_,rfl⟩
     ·cases h
    ·cases h
   ·cases h
  ·cases h
theorem Pb{D:List Nat}{v:SV}{c:CV}(h:closed (Ar D v)=some c):closed v=some c:=by
 cases v<;>simp only[Ar]at h<;>first
  |exact h
  |(split at h<;>simp[closed]at h)
theorem O7{α β:Type}{f g:α→Option β}:∀{l:List α} {r:List β},(∀x c,f x=some c→g x=some c)→Ao f l=some r→Ao g l=some r
 | [],_,_,h=>h
 |x::l,r,hfg,h=>by
  simp only[Ao,Ab,Aa]at h⊢;obtain⟨c,h1,bs,h2,h3⟩:=h;exact⟨c,hfg x c h1,bs,O7 hfg h2,h3⟩
theorem Xv{D:List Nat}{b:SOp}(ht:b.tame=true){d:Option Nat}{st:St}{id:Nat}{e s:Nat}{es:List CV}{v':SV}{o':Option Ob}(hd:o'.isSome=true→∀j,d=some j→j≠id)(hd':o'.isSome=true→d≠none)
  (h:Az E (A0 (some D) (upd (kill [id] st).ob id (.arr e s es))) (so E.G fun i=>Ar [id] (st.fr i)) d b=some (v',o')):
  ∃v o,Az E (A0 (some D) st.ob) (so E.G st.fr) d b=some (v,o)∧v'=Ar [id] v∧o'=o.map (BQ [id]):=by
 have hso:∀x,so E.G (fun i=>Ar [id] (st.fr i)) x=Ar [id] (so E.G st.fr x):=by
  intro x
  cases x with
  |t i=>rfl
  |k c=>rfl
  |g i=>simp only[so];cases E.G i<;>rfl
 cases b<;>simp only[SOp.tame,Ag]at ht
 case load sz x=>
  simp only[Az,SOp.cls,Am,hso,Aa,Prod.mk.injEq]at h;obtain⟨r,h,rfl,rfl⟩:=h
  suffices hs:∃v,AM (A0 (some D) st.ob) sz (deref (A0 (some D) st.ob) (so E.G st.fr x))=some v∧r=Ar [id] v by
   obtain⟨v,k1,k2⟩:=hs;exact⟨v,none,by simp[Az,SOp.cls,Am,k1],k2,rfl⟩
  generalize so E.G st.fr x=q0 at h⊢
  have hdr:deref (A0 (some D) (upd (kill [id] st).ob id (.arr e s es))) (Ar [id] q0)=.undef∨deref (A0 (some D) (upd (kill [id] st).ob id (.arr e s es))) (Ar [id] q0)=Ar [id] (deref (A0 (some D) st.ob) q0):=by
   cases q0 with
   |c v=>
    cases v<;>try exact .inr rfl
    rename_i N;simp only[Ar,deref];by_cases hN:tbase≤N
    ·simp only[if_pos hN];by_cases hD:D.contains N=true
     ·simp only[A0,hD,if_true];exact .inl trivial
     ·simp only[A0,hD,Ag,if_false];by_cases hNi:N=id
      ·subst hNi;simp only[upd_same];exact .inl trivial
      ·simp only[upd_ne _ _ hNi,kill,show([id].contains N)=false by simpa using hNi,Ag,if_false];cases hob:st.ob N<;>simp only[BQ,Ar,show([id].contains N)=false by simpa using hNi,Ag,if_false]<;>first|exact .inr trivial|exact .inr rfl|exact .inl trivial
    ·simp only[if_neg hN];exact .inl trivial
   |ptr j o=>simp only[Ar];split<;>simp_all[deref,Ar]
   |eptr j i size o=>simp only[Ar];split<;>simp_all[deref,Ar]
   |osl j=>simp only[Ar];split<;>simp_all[deref,Ar]
   |omap j=>simp only[Ar];split<;>simp_all[deref,Ar]
   |iter j=>simp only[Ar];split<;>simp_all[deref,Ar]
   |stamp j k=>simp only[Ar];split<;>simp_all[deref,Ar]
   |ent j k v=>simp only[Ar];split<;>simp_all[deref,Ar]
   |undef=>exact .inl rfl
  rcases hdr with hdr|hdr
  ·rw[hdr]at h;cases h
  rw[hdr]at h;clear hdr;generalize deref (A0 (some D) st.ob) q0=q at h⊢
  cases q with
  |c v=>
   have h2:AM (A0 (some D) st.ob) sz (.c v)=some r:=by
    cases v<;>simp only[Ar,AM,reduceCtorEq]at h⊢;all_goals exact h
   refine⟨r,h2, ?_⟩;cases v<;>simp only[AM,reduceCtorEq]at h2;all_goals(split at h2<;>(rw[Aa]at h2;obtain⟨c,_,rfl⟩:=h2;rfl))
  |ptr j o=>
   simp only[Ar]at h;split at h
   ·cases h
   ·rename_i hj;have hj':j≠id:=fun e=>hj (by simp[e]);simp only[AM,A0,upd_ne _ _ hj',kill,hj]at h⊢;cases hD:D.contains j<;>simp only[hD,if_true,Ag,if_false,reduceCtorEq]at h⊢;cases hb:st.ob j<;>simp only[hb,BQ,reduceCtorEq]at h⊢;rename_i cs
    cases sz with
    |none=>
     simp only[List.getElem?_map,Aa]at h;obtain⟨v,h1,rfl⟩:=h;exact⟨v,h1,rfl⟩
    |some n=>
     simp only[List.length_map]at h⊢;split at h
     ·rename_i hl;rw[if_pos hl];rw[Aa]at h;obtain⟨l,h1,rfl⟩:=h;refine⟨.c (.agg l), ?_,rfl⟩
      have:∀(l2:List SV) r,Ao closed (l2.map (Ar [id]))=some r→Ao closed l2=some r:=by
       intro l2
       induction l2 with
       |nil=>intro r h;exact h
       |cons a l2 ih=>
        intro r h;simp only[List.map_cons,Ao,Ab,Aa]at h⊢;obtain⟨c,k1,bs,k2,k3⟩:=h;exact⟨c,Pb k1,bs,ih bs k2,k3⟩
      rw[this _ l (by rw[List.map_take,List.map_drop];exact h1)];rfl
     ·cases h
  |eptr j i size o=>
   simp only[Ar]at h;split at h
   ·cases h
   ·rename_i hj;have hj':j≠id:=fun e=>hj (by simp[e]);simp only[AM,A0,upd_ne _ _ hj',kill,hj]at h⊢;cases hD:D.contains j<;>simp only[hD,if_true,Ag,if_false,reduceCtorEq]at h⊢;cases hb:st.ob j<;>simp only[hb,BQ,reduceCtorEq]at h⊢;refine⟨r,h, ?_⟩;split at h
    ·rw[Ab]at h;obtain⟨el,_,h⟩:=h;rw[Aa]at h;obtain⟨c,_,rfl⟩:=h;rfl
    ·cases h
  |undef=>cases h
  |_=>simp only[Ar]at h;split at h<;>cases h
 case alloc z=>
  simp only[Az,SOp.cls,AT,Option.map_some,Ac,Prod.mk.injEq]at h;obtain⟨rfl,rfl⟩:=h;refine⟨_,_,rfl, ?_, ?_⟩
  ·cases d with
   |none=>exact(hd' rfl rfl).elim
   |some j=>simp[Ar,hd rfl j rfl]
  ·simp[BQ,Ar,Function.comp_def]
 case mksl e2 s2 parts=>
  simp only[Az,SOp.cls,AT,hso,Aa,Ab,Prod.mk.injEq]at h;obtain⟨⟨q1,q2⟩,⟨l,h1,h2⟩,rfl,rfl⟩:=h;split at h2
  ·rename_i hc;cases h2;have h1':=O7 (g:=fun x=>closed (so E.G st.fr x)) (fun x c=>Pb) h1;refine⟨.osl (d.getD 0),some (.arr e2 s2 l), ?_, ?_,rfl⟩
   ·simp only[Az,SOp.cls,AT,h1',Option.bind_some,if_pos hc,Option.map_some]
   ·cases d with
    |none=>exact(hd' rfl rfl).elim
    |some j=>simp[Ar,hd rfl j rfl]
  ·cases h2
theorem Xm{D:List Nat}{a b:SL}{st s1 s2:St}(ha:a.op.grows=true)(hga:a.guard=none)(hb:b.op.tame=true)(hgb:b.guard=none)
  (hab:∀i,a.dst=some i→i∉b.looks∧b.dst≠some i) (hba:∀i,b.dst=some i→i∉a.looks) (h1:As E (some D) a st=some s1) (h2:As E (some D) b s1=some s2):
  ∃s,As E (some D) b st=some s∧As E (some D) a s=some s2:=by
 have hbh:b.op.hard=false:=by
  revert hb;cases b.op<;>simp[SOp.tame,SOp.hard]
 cases hop:a.op<;>simp only[hop,SOp.grows,Ag]at ha;rename_i e size bytes x y
 have eva:∀s,As E (some D) a s=(EH s a.dst e size bytes (so E.G s.fr x) (so E.G s.fr y)).map (C2 s a.dst):=by
  intro s;simp only[As,hga,hop,Aw,SOp.cls];exact Lw
 rw[eva,Aa]at h1;obtain⟨⟨id,oa⟩,p1,rfl⟩:=h1;obtain⟨es,he⟩:=SZ p1;simp only at he;subst he;rw[Cn hbh,Ab]at h2;obtain⟨⟨v',o'⟩,e2,h2⟩:=h2
 have hfr:∀i∈b.looks,(C2 st a.dst (id,.arr e size es)).fr i=Ar [id] (st.fr i):=by
  intro i hi;unfold C2
  cases hd:a.dst with
  |none=>rfl
  |some j=>exact upd_ne _ _ (fun h=>(hab j hd).1 (h▸hi))
 have hob:(C2 st a.dst (id,.arr e size es)).ob=upd (kill [id] st).ob id (.arr e size es):=by
  unfold C2;cases a.dst<;>rfl
 rw[Hu hfr,hob]at e2
 have e2':Az E (A0 (some (hid b.op D)) (upd (kill [id] st).ob id (.arr e size es))) (so E.G fun i=>Ar [id] (st.fr i)) b.dst b.op=some (v',o'):=by
  simpa only[Cm,hgb]using e2
 have hnew:∀o,o'=some o→∃j,b.dst=some j∧j≠id∧st.ob j=.none:=by
  intro o ho;subst ho;simp only[put,AU]at h2
  cases hbd:b.dst with
  |none=>rw[hbd]at h2;cases h2
  |some j=>
   rw[hbd]at h2;simp only[hob]at h2;split at h2<;>(try cases h2;done);rename_i hn
   have hj:j≠id:=by
    intro hh;rw[hh,upd_same]at hn;cases hn
   refine⟨j,rfl,hj, ?_⟩;rw[upd_ne _ _ hj]at hn;simp only[kill]at hn;rw[if_neg (by simpa using hj)]at hn;cases hq:st.ob j<;>simp only[hq,BQ,reduceCtorEq]at hn;rfl
 obtain⟨v,o,k1,k2,k3⟩:=Xv hb (fun hs j hj=>by
   obtain⟨o,ho⟩:=Option.isSome_iff_exists.1 hs;obtain⟨j',h3,h4,_⟩:=hnew o ho;rw[hj]at h3;cases h3
   exact h4) (fun hs hn=>by
   obtain⟨o,ho⟩:=Option.isSome_iff_exists.1 hs;obtain⟨j',h3,_⟩:=hnew o ho;rw[hn]at h3
   cases h3) e2'
 have evb:As E (some D) b st=put st b.dst (v,o):=by
  rw[Cn hbh];simp only[Cm,hgb,k1,Option.bind_some]
 have dcomm:∀i j,a.dst=some i→b.dst=some j→i≠j:=fun i j hi hj h=>(hab i hi).2 (by rw[hj,h])
 have hslots:∀(s:St),put st b.dst (v,o)=some s→∀z:SO,(z=x∨z=y)→so E.G s.fr z=so E.G st.fr z:=fun s hs z hz=>EC z fun i hi=>DN hs (fun h=>hba i h (by
  simp only[SL.looks,hop,SOp.slots,List.mem_append];rcases hz with rfl|rfl
  ·exact .inl (.inl hi)
  ·exact .inl (.inr hi)))
 subst k2;subst k3;rw[evb]
 cases o with
 |none=>
  have hs:put st b.dst (v,none)=some (st.set b.dst v):=rfl;refine⟨st.set b.dst v,hs, ?_⟩;have hobs:(st.set b.dst v).ob=st.ob:=by cases b.dst<;>rfl
  rw[eva,hslots _ hs x (.inl rfl),hslots _ hs y (.inr rfl),Lu (st:=st) (fun i e s es h=>by rw[hobs];exact h) p1];simp only[Option.map_some,Ac];simp only[put,Option.map_none,Ac]at h2;rw[←h2];unfold C2;rw[St.set_comm _ _ _ _ _ dcomm]
  congr 1
  cases hbd:b.dst with
  |none=>rfl
  |some j=>
   simp only[St.set,kill]
   congr 1
   funext i;simp only[BL];split<;>rfl
 |some ob=>
  obtain⟨j,hj1,hj2,hj3⟩:=hnew (BQ [id] ob) rfl;have hs:put st b.dst (v,some ob)=some {fr:=upd st.fr j v,ob:=upd st.ob j ob}:=by simp[put,AU,hj1,hj3]
  refine⟨_,hs, ?_⟩
  rw[eva,hslots _ hs x (.inl rfl),hslots _ hs y (.inr rfl),Lu (st:=st) (fun i e s es h=>by
   simp only;rw[upd_ne _ _ (fun hh=>by rw[hh,hj3]at h;cases h)]
   exact h) p1]
  simp only[Option.map_some,Ac]
  have hn1:(C2 st a.dst (id,.arr e size es)).ob j=.none:=by
   rw[hob,upd_ne _ _ hj2];simp only[kill];rw[if_neg (by simpa using hj2),hj3];rfl
  simp only[put,AU,Option.map_some,hj1,hn1,Ac]at h2;rw[←h2,hob]
  have hobs:upd (kill [id] {fr:=upd st.fr j v,ob:=upd st.ob j ob:St}).ob id (.arr e size es)=upd (upd (kill [id] st).ob id (.arr e size es)) j (BQ [id] ob):=by
   funext i;simp only[BL,kill];by_cases c1:i=id
   ·subst c1;simp[Ne.symm hj2]
   ·by_cases c2:i=j
    ·subst c2;simp[c1]
    ·simp[c1,c2]
  have hfrs:(fun i=>Ar [id] (upd st.fr j v i))=upd (fun i=>Ar [id] (st.fr i)) j (Ar [id] v):=by
   funext i;simp only[BL];split<;>rfl
  unfold C2;simp only[hobs,hfrs]
  cases had:a.dst with
  |none=>rfl
  |some i=>
   simp only[St.set];rw[EE _ _ _ (Ne.symm (dcomm i j had hj1))]
theorem Xn{D:List Nat}{a b:SL}{st s1 s2:St}(ha:a.op.moves=true)(hga:a.guard=none)(hb:b.op.grows=true)(hgb:b.guard=none)
  (hab:∀i,a.dst=some i→i∉b.looks∧b.dst≠some i) (hba:∀i,b.dst=some i→i∉a.looks) (h1:As E (some D) a st=some s1) (h2:As E (some D) b s1=some s2):
  ∃s,As E (some D) b st=some s∧As E (some D) a s=some s2:=by
 cases hoa:a.op<;>simp only[hoa,SOp.moves,Ag]at ha;rename_i q;cases hob:b.op<;>simp only[hob,SOp.grows,Ag]at hb;rename_i e size bytes x y
 have eva:∀s,As E (some D) a s=some (s.set a.dst (so E.G s.fr q)):=by
  intro s;simp only[As,hga,hoa,Aw,SOp.cls,Am,Option.map_some,CK]
 have evb:∀s,As E (some D) b s=(EH s b.dst e size bytes (so E.G s.fr x) (so E.G s.fr y)).map (C2 s b.dst):=by
  intro s;simp only[As,hgb,hob,Aw,SOp.cls];exact Lw
 rw[eva,Ac]at h1;subst h1;rw[evb,Aa]at h2;obtain⟨⟨id,oa⟩,p1,rfl⟩:=h2;have hobs:(st.set a.dst (so E.G st.fr q)).ob=st.ob:=by cases a.dst<;>rfl
 have hslots:∀z:SO,(z=x∨z=y)→so E.G (st.set a.dst (so E.G st.fr q)).fr z=so E.G st.fr z:=fun z hz=>EC z fun i hi=>by
  cases hd:a.dst with
  |none=>rfl
  |some j=>exact upd_ne _ _ fun h=>(hab j hd).1 (h▸(by
    simp only[SL.looks,hob,SOp.slots,List.mem_append];rcases hz with rfl|rfl
    ·exact .inl (.inl hi)
    ·exact .inl (.inr hi)))
 rw[hslots x (.inl rfl),hslots y (.inr rfl)]at p1;have p2:=Lu (st':=st) (fun i e s es h=>by rw[hobs]at h;exact h) p1;have dcomm:∀i j,a.dst=some i→b.dst=some j→i≠j:=fun i j hi hj h=>(hab i hi).2 (by rw[hj,h]);refine⟨_,by rw[evb,p2];rfl, ?_⟩;rw[eva]
 congr 1
 have hq:so E.G (C2 st b.dst (id,oa)).fr q=Ar [id] (so E.G st.fr q):=by
  cases q with
  |t i=>
   show(C2 st b.dst (id,oa)).fr i=Ar [id] (st.fr i);unfold C2
   cases hd:b.dst with
   |none=>rfl
   |some j=>exact upd_ne _ _ fun h=>hba j hd (h▸by simp[SL.looks,hoa,SOp.slots,SO.slot])
  |k v=>rfl
  |g i=>
   show so E.G _ (.g i)=Ar [id] (so E.G st.fr (.g i));simp only[so];split<;>rfl
 rw[hq];unfold C2;rw[St.set_comm _ _ _ _ _ fun i j hi hj=>Ne.symm (dcomm j i hj hi)]
 congr 1
 cases had:a.dst with
 |none=>rfl
 |some i=>
  simp only[St.set,kill]
  congr 1
  funext j;simp only[BL];split<;>rfl
theorem V3{rd rd':Nat→Ob}(h:∀i,rd i=rd' i∨((∀cs bt,rd i≠ .box cs bt)∧(∀e s es,rd i≠ .arr e s es)∧(∀cs bt,rd' i≠ .box cs bt)∧(∀e s es,rd' i≠ .arr e s es)))(sz:Option Nat)(v:SV):AM rd sz (deref rd v)=AM rd' sz (deref rd' v):=by
 have hd:deref rd v=deref rd' v:=by
  unfold deref;split
  ·rename_i N;split
   ·rcases h N with e|⟨h1,_,h3,_⟩
    ·rw[e]
    ·cases e1:rd N<;>cases e2:rd' N<;>first
      |rfl
      |exact absurd e1 (h1 _ _)
      |exact absurd e2 (h3 _ _)
   ·rfl
  ·rfl
 rw[hd];generalize deref rd' v=q;unfold AM
 cases q with
 |c cv=>cases cv<;>rfl
 |ptr id o=>
  simp only;rcases h id with e|⟨h1,_,h3,_⟩
  ·rw[e]
  ·cases e1:rd id<;>cases e2:rd' id<;>first
    |rfl
    |exact absurd e1 (h1 _ _)
    |exact absurd e2 (h3 _ _)
 |eptr id i size o=>
  simp only;rcases h id with e|⟨_,h1,_,h3⟩
  ·rw[e]
  ·cases e1:rd id<;>cases e2:rd' id<;>first
    |rfl
    |exact absurd e1 (h1 _ _ _)
    |exact absurd e2 (h3 _ _ _)
 |_=>rfl
theorem Xp{D:List Nat}{a b:SL}{st s1 s2:St}(ha:a.op.loads=true)(hga:a.guard=none)(hb:b.op.puts=true)(hgb:b.guard=none)
  (hab:∀i,a.dst=some i→i∉b.looks∧b.dst≠some i) (hba:∀i,b.dst=some i→i∉a.looks) (h1:As E (some D) a st=some s1) (h2:As E (some D) b s1=some s2):
  ∃s,As E (some D) b st=some s∧As E (some D) a s=some s2:=by
 cases hoa:a.op<;>simp only[hoa,SOp.loads,Ag]at ha;rename_i sz q;cases hob:b.op<;>simp only[hob,SOp.puts,Ag]at hb;rename_i mt x k v
 have eva:∀s,As E (some D) a s=(AM (A0 (some (hid a.op D)) s.ob) sz (deref (A0 (some (hid a.op D)) s.ob) (so E.G s.fr q))).map fun v=>s.set a.dst v:=by
  intro s;simp only[As,hga,hoa,Aw,SOp.cls,Am,CK,Option.map_some]
 rw[eva,Aa]at h1;obtain⟨lv,hl,rfl⟩:=h1;have hobs:(st.set a.dst lv).ob=st.ob:=by cases a.dst<;>rfl
 have hslots:∀z:SO,(z=x∨z=k∨z=v)→so E.G (st.set a.dst lv).fr z=so E.G st.fr z:=fun z hz=>EC z fun i hi=>by
  cases hd:a.dst with
  |none=>rfl
  |some j=>exact upd_ne _ _ fun h=>(hab j hd).1 (h▸(by
    simp only[SL.looks,hob,SOp.slots,List.mem_append];rcases hz with rfl|rfl|rfl
    ·exact .inl (.inl (.inl hi))
    ·exact .inl (.inl (.inr hi))
    ·exact .inl (.inr hi)))
 simp only[As,hgb,hob,Aw,SOp.cls,A6,CK,hslots x (.inl rfl),hslots k (.inr (.inl rfl)),hslots v (.inr (.inr rfl)),hobs]at h2
 have evb:As E (some D) b st=match so E.G st.fr x,so E.G st.fr k,so E.G st.fr v with
  | .omap id,.c k,.c v=>match st.ob id with
   | .map mt' kt z ks vs=>if mt'=mt∧Ax kt k=true then some {st with ob:=upd st.ob id (.map mt' kt z (AH kt ks k) (AI kt ks vs k v))}else none
   |_=>none
  |_,_,_=>none:=by
  simp only[As,hgb,hob,Aw,SOp.cls,A6,CK];rfl
 rw[evb];split at h2<;>(try cases h2;done);rename_i id kc vc e1 e2 e3;rw[e1,e2,e3];simp only;split at h2<;>(try cases h2;done);rename_i mt' kt z ks vs e4;rw[e4];simp only;split at h2<;>(try cases h2;done);rename_i hc;cases h2;rw[if_pos hc];refine⟨_,rfl, ?_⟩;rw[eva]
 have hm:∀i,A0 (some (hid a.op D)) st.ob i=A0 (some (hid a.op D)) (upd st.ob id (.map mt' kt z (AH kt ks kc) (AI kt ks vs kc vc))) i∨((∀cs bt,A0 (some (hid a.op D)) st.ob i≠ .box cs bt)∧(∀e s es,A0 (some (hid a.op D)) st.ob i≠ .arr e s es)∧(∀cs bt,A0 (some (hid a.op D)) (upd st.ob id (.map mt' kt z (AH kt ks kc) (AI kt ks vs kc vc))) i≠ .box cs bt)∧(∀e s es,A0 (some (hid a.op D)) (upd st.ob id (.map mt' kt z (AH kt ks kc) (AI kt ks vs kc vc))) i≠ .arr e s es)):=by
  intro i;by_cases hi:i=id
  ·subst hi;right;simp only[A0,upd_same,e4];refine⟨fun _ _ h=> ?_,fun _ _ _ h=> ?_,fun _ _ h=> ?_,fun _ _ _ h=> ?_⟩<;>(split at h<;>cases h)
  ·left;simp only[A0,upd_ne _ _ hi]
 have hq:so E.G ({fr:=st.fr,ob:=upd st.ob id (.map mt' kt z (AH kt ks kc) (AI kt ks vs kc vc))}:St).fr q=so E.G st.fr q:=rfl;simp only[←V3 hm,hl,Option.map_some,Ac];cases a.dst<;>rfl
end
def SL.own(A:List Nat)(l:SL):Option Nat:=
 match l.op,l.guard with
 | .store _ (.t a) _,none=>if A.contains a then some a else none
 |_,_=>none
def F1(ls:List SL):List Nat:=
 (ls.filterMap fun l=>match l.op,l.guard,l.dst with| .alloc _,none,some d=>some d|_,_,_=>none).filter fun d=>(ls.filter fun l=>l.dst==some d).length==1
def MU(m:List Nat)(l:SL):List Nat:=
 match l.op,l.guard,l.dst with
 | .alloc _,none,some d=>d::m
 |_,_,some d=>m.filter fun i=>i !=d
 |_,_,none=>m
def Hg(A:List Nat):List Nat→List SL→Bool
 |_,[]=>true
 |m,l::ls=>(match l.own A with|some a=>m.contains a|none=>true)&&Hg A (MU m l) ls
def Cr(A D:List Nat)(x y:SL):Bool:=
 Fx D x y||((x.dst.all fun d=> !y.looks.contains d&&y.dst !=some d)&&(y.dst.all fun d=> !x.looks.contains d)&&
  match x.own A,y.own A with
  |some a,some b=>a !=b
  |some a,none=> !y.op.hard&&(hid y.op D).contains a
  |none,some b=> !x.op.hard&&(hid x.op D).contains b
  |none,none=>false)
def okS(A:List Nat)(l:SL)(st:St):Bool:=
 match l.own A with
 |some a=>match st.fr a with
  | .ptr j _=>j==a
  |_=>false
 |none=>true
section
variable {E:Env} {A D:List Nat}
def evT(E:Env)(A D:List Nat)(l:SL)(st:St):Option St:=if okS A l st=true then As E (some D) l st else none
theorem Fv{l:SL}{st s:St}(h:evT E A D l st=some s):okS A l st=true∧As E (some D) l st=some s:=by
 unfold evT at h;split at h
 ·rename_i h1;exact⟨h1,h⟩
 ·cases h
theorem Eu{l:SL}{st s:St}(h1:okS A l st=true)(h2:As E (some D) l st=some s):evT E A D l st=some s:=by
 unfold evT;rw[if_pos h1,h2]
theorem F5{l:SL}{a:Nat}(h:l.own A=some a):∃n x,l.op=.store n (.t a) x∧l.guard=none:=by
 unfold SL.own at h;split at h
 ·rename_i n a' x h1 h2;split at h
  ·cases h;exact⟨n,x,h1,h2⟩
  ·cases h
 ·cases h
theorem Nj{l:SL}{a:Nat}(h:l.own A=some a):a∈l.looks:=by
 obtain⟨n,x,h1,h2⟩:=F5 h;simp[SL.looks,h1,SOp.slots,SO.slot]
theorem Kh{l:SL}(h:l.op.hard=false):l.own A=none:=by
 cases hl:l.own A with
 |none=>rfl
 |some a=>
  obtain⟨n,x,h1,h2⟩:=F5 hl;rw[h1]at h;cases h
theorem VU{l:SL}{st st':St}(h:∀a,l.own A=some a→st'.fr a=st.fr a)(ho:okS A l st=true):okS A l st'=true:=by
 unfold okS at ho⊢
 cases hl:l.own A with
 |none=>rfl
 |some a=>
  rw[hl]at ho;simp only[h a hl]at ho⊢;exact ho
theorem NI{l:SL}{st s:St}(hs:l.op.hard=false)(h:As E (some D) l st=some s){i:Nat}(hi:l.dst≠some i):s.fr i=st.fr i:=by
 rw[Cn hs,Ab]at h;obtain⟨p,_,h⟩:=h;exact DN h hi
def D2(n o:Nat)(ob:Ob)(v:SV):Option Ob:=
 match ob with
 | .box cs bt=>match v with
  | .c (.agg l)=>if l.length=n∧o+n≤cs.length∧l.all BY=true then some (.box (Ff cs o (l.map .c)) bt)else none
  |v=>if n=1∧o<cs.length∧Gf v=true then some (.box (cs.set o v) bt)else none
 |_=>none
theorem WV{n o:Nat}{ob ob':Ob}{v:SV}(h:D2 n o ob v=some ob'):ob≠ .none∧ob'≠ .none:=by
 unfold D2 at h;split at h
 ·refine⟨by simp, ?_⟩
  split at h<;>split at h<;>first
   |cases h;done
   |(cases h;simp)
 ·cases h
theorem Kf{l:SL}{a:Nat}(h:l.own A=some a):∃n x,(∀i∈x.slot,i∈l.looks)∧∀(st s:St),evT E A D l st=some s↔∃o b,st.fr a=.ptr a o∧D2 n o (st.ob a) (so E.G st.fr x)=some b∧s={st with ob:=upd st.ob a b}:=by
 obtain⟨n,x,h1,h2⟩:=F5 h;refine⟨n,x,fun i hi=>by simp[SL.looks,h1,SOp.slots,hi],fun st s=> ?_⟩
 have hev:∀o,st.fr a=.ptr a o→As E (some D) l st=(D2 n o (st.ob a) (so E.G st.fr x)).map fun b=>{st with ob:=upd st.ob a b}:=by
  intro o ho;simp only[As,h2,h1,Aw,SOp.cls,A6,CK];rw[show so E.G st.fr (.t a)=.ptr a o from ho];simp only[D2,deref];cases hb:st.ob a<;>simp only[hb]<;>try rfl
  generalize so E.G st.fr x=v
  cases v with
  |c cv=>cases cv<;>(simp only;split<;>rfl)
  |_=>simp only;split<;>rfl
 constructor
 ·intro h3;obtain⟨h4,h5⟩:=Fv h3;unfold okS at h4;rw[h]at h4;simp only at h4;split at h4
  ·rename_i j o hj;have hja:j=a:=by simpa using h4
   subst hja;rw[hev o hj,Aa]at h5;obtain⟨b,h6,h7⟩:=h5;exact⟨o,b,hj,h6,h7.symm⟩
  ·cases h4
 ·rintro⟨o,b,h3,h4,rfl⟩
  refine Eu ?_ ?_
  ·unfold okS;rw[h];simp[h3]
  ·rw[hev o h3,h4];rfl
theorem Q2{L:List Nat}{ob:Nat→Ob}{a:Nat}{b:Ob}(h:L.contains a=true):A0 (some L) (upd ob a b)=A0 (some L) ob:=by
 funext i;simp only[A0,BL];split
 ·rfl
 ·rename_i hi;split
  ·rename_i e;subst e;exact(hi h).elim
  ·rfl
theorem Rh{st s:St}{d:Option Nat}{p:SV×Option Ob}(h:put st d p=some s){a:Nat}(ha:d≠some a):s.ob a=st.ob a:=by
 obtain⟨v,o⟩:=p
 cases o with
 |none=>
  simp only[put,Ac]at h;subst h;cases d<;>rfl
 |some o=>
  simp only[put,AU]at h
  cases d with
  |none=>cases h
  |some d=>
   simp only at h;split at h<;>(try cases h;done);cases h;exact upd_ne _ _ (fun e=>ha (by rw[e]))
theorem Ri{st s:St}{d:Option Nat}{p:SV×Option Ob}{a:Nat}{b:Ob}(hd:d≠some a):put st d p=some s→put {st with ob:=upd st.ob a b} d p=some {s with ob:=upd s.ob a b}:=by
 intro h;obtain⟨v,o⟩:=p
 cases o with
 |none=>
  simp only[put,Ac]at h⊢;subst h;cases d<;>rfl
 |some o=>
  simp only[put,AU]at h⊢
  cases d with
  |none=>cases h
  |some j=>
   have hj:j≠a:=fun e=>hd (by rw[e]);simp only at h;split at h<;>(try cases h;done);rename_i hn;cases h;simp only[upd_ne _ _ hj,hn,Ac,St.mk.injEq,true_and];exact EE _ _ _ (Ne.symm hj)
theorem Ws{st s:St}{d:Option Nat}{p:SV×Option Ob}{a:Nat}{b:Ob}(ha:st.ob a≠ .none)(h:put {st with ob:=upd st.ob a b} d p=some s)(hd:d≠some a):∃s',put st d p=some s':=by
 obtain⟨v,o⟩:=p
 cases o with
 |none=>exact⟨_,rfl⟩
 |some o=>
  simp only[put,AU]at h⊢
  cases d with
  |none=>cases h
  |some j=>
   have hj:j≠a:=fun e=>hd (by rw[e]);simp only[upd_ne _ _ hj]at h;simp only;split at h<;>(try cases h;done);rename_i hn;exact⟨{fr:=upd st.fr j v,ob:=upd st.ob j o},by simp[hn]⟩
theorem Xo{a b:SL}{st s1 s2:St}
  (hab:∀i,a.dst=some i→i∉b.looks∧b.dst≠some i) (hba:∀i,b.dst=some i→i∉a.looks)
  (ho:(match a.own A,b.own A with
  |some a,some b=>a !=b
  |some k,none=> !b.op.hard&&(hid b.op D).contains k
  |none,some k=> !a.op.hard&&(hid a.op D).contains k
  |none,none=>false)=true) (h1:evT E A D a st=some s1) (h2:evT E A D b s1=some s2):∃s,evT E A D b st=some s∧evT E A D a s=some s2:=by
 cases hoa:a.own A with
 |some k=>
  cases hob:b.own A with
  |some k'=>
   rw[hoa,hob]at ho;have hk:k≠k':=by simpa using ho
   obtain⟨n,x,hx,ea⟩:=Kf (E:=E) (D:=D) hoa;obtain⟨n',x',hx',eb⟩:=Kf (E:=E) (D:=D) hob;rw[ea]at h1;obtain⟨o,c,q1,q2,rfl⟩:=h1;rw[eb]at h2;obtain⟨o',c',q3,q4,rfl⟩:=h2;simp only[upd_ne _ _ (Ne.symm hk)]at q4;refine⟨_,(eb _ _).2 ⟨o',c',q3,q4,rfl⟩,(ea _ _).2 ⟨o,c,q1, ?_, ?_⟩⟩
   ·simp only[upd_ne _ _ hk];exact q2
   ·simp only[St.mk.injEq,true_and];exact EE _ _ _ hk
  |none=>
   rw[hoa,hob]at ho;simp only[Af,Bool.not_eq_true']at ho;obtain⟨hbs,hk⟩:=ho;obtain⟨n,x,hx,ea⟩:=Kf (E:=E) (D:=D) hoa;rw[ea]at h1;obtain⟨o,c,q1,q2,rfl⟩:=h1;obtain⟨_,h2⟩:=Fv h2;rw[Cn hbs,Ab]at h2;obtain⟨p,e2,h2⟩:=h2;simp only[Q2 hk]at e2;have hd:b.dst≠some k:=fun e=>hba k e (Nj hoa);obtain⟨s',h3⟩:=Ws (WV q2).1 h2 hd;have h4:=Ri (b:=c) hd h3;rw[h4]at h2;cases h2;refine⟨s',Eu (by unfold okS;rw[Kh hbs]) (by rw[Cn hbs,e2];exact h3),(ea _ _).2 ⟨o,c, ?_, ?_,rfl⟩⟩
   ·rw[DN h3 hd];exact q1
   ·rw[Rh h3 hd,EC x (fr':=st.fr) (fun i hi=>DN h3 (fun e=>hba i e (hx i hi)))];exact q2
 |none=>
  cases hob:b.own A with
  |none=>rw[hoa,hob]at ho;cases ho
  |some k=>
   rw[hoa,hob]at ho;simp only[Af,Bool.not_eq_true']at ho;obtain⟨has,hk⟩:=ho;obtain⟨n,x,hx,eb⟩:=Kf (E:=E) (D:=D) hob;obtain⟨_,h1⟩:=Fv h1;rw[Cn has,Ab]at h1;obtain⟨p,e1,h1⟩:=h1;have hd:a.dst≠some k:=fun e=>(hab k e).1 (Nj hob);rw[eb]at h2;obtain⟨o,c,q1,q2,rfl⟩:=h2;rw[DN h1 hd]at q1;rw[Rh h1 hd,EC x (fr':=st.fr) (fun i hi=>DN h1 (fun e=>(hab i e).1 (hx i hi)))]at q2;refine⟨_,(eb _ _).2 ⟨o,c,q1,q2,rfl⟩,Eu (by unfold okS;rw[Kh has]) ?_⟩;rw[Cn has];simp only[Q2 hk,e1,Option.bind_some];exact Ri hd h1
theorem keep{l:SL}{st s:St}(h:As E (some D) l st=some s){i:Nat}(hi:l.dst≠some i):s.fr i=st.fr i∨s.fr i=.undef:=by
 cases hh:l.op.hard with
 |false=>exact .inl (NI hh h hi)
 |true=>
  have hset:∀(st:St) (d:Option Nat) (v:SV),d≠some i→(st.set d v).fr i=st.fr i:=by
   intro st d v hd
   cases d with
   |none=>rfl
   |some d=>exact upd_ne _ _ (fun e=>hd (by rw[e]))
  have hkill:∀(L:List Nat) (v:SV),Ar L v=v∨Ar L v=.undef:=by
   intro L v
   cases v<;>simp only[Ar]<;>first
    |exact .inl trivial
    |exact .inl rfl
    |(split<;>first|exact .inl rfl|exact .inr rfl)
  rw[FY,Ab]at h;obtain⟨t,_,h⟩:=h;split at h
  case isFalse=>cases h;exact .inl (hset _ _ _ hi)
  cases hop:l.op<;>simp only[hop,SOp.hard,Ag]at hh<;>simp only[hop,Aw,SOp.cls]at h
  case append e size bytes x y=>
   rw[Lw,Aa]at h;obtain⟨p,_,rfl⟩:=h;unfold C2;rw[hset _ _ _ hi];exact hkill _ _
  case mcopy f x y=>
   unfold FS at h
   repeat' split at h
   all_goals first
    |(cases h;done)
    |(cases h;exact .inl (hset _ _ _ hi))
  all_goals
   simp only[A6]at h;try(cases h;done)
   repeat' split at h
   all_goals first
    |(cases h;done)
    |(cases h;exact .inl rfl)
    |(cases h;exact .inl (hset _ _ _ hi))
    |skip
  all_goals
   rw[Ab]at h;obtain⟨_,_,h⟩:=h;split at h
   ·cases h;exact .inl rfl
   ·cases h
def lsT(E:Env)(A D:List Nat):List SL→St→Option St
 | [],st=>some st
 |l::ls,st=>(evT E A D l st).bind (lsT E A D ls)
def Dz(E:Env)(A D:List Nat)(ls:List SL):List Nat→St→Option St
 | [],st=>some st
 |i::is,st=>match ls[i]? with
  |some l=>(evT E A D l st).bind (Dz E A D ls is)
  |none=>none
theorem Nk:∀(ls:List SL) (m:List Nat) {st s:St},(∀a∈m,st.fr a=.ptr a 0∨st.fr a=.undef)→Hg A m ls=true→BA E (some D) ls st=some s→lsT E A D ls st=some s
 | [],_,_,_,_,_,h=>h
 |l::ls,m,st,s,hm,hk,h=>by
  simp only[BA,Ab]at h;obtain⟨s1,h1,h2⟩:=h;simp only[Hg,Af]at hk;obtain⟨k1,k2⟩:=hk
  have hok:okS A l st=true:=by
   unfold okS
   cases hl:l.own A with
   |none=>rfl
   |some a=>
    rw[hl]at k1;simp only[List.contains_iff_mem]at k1;rcases hm a k1 with e|e
    ·simp[e]
    ·exfalso;obtain⟨n,x,g1,g2⟩:=F5 hl;simp only[As,g2,g1,Aw,SOp.cls,A6,CK]at h1;rw[show so E.G st.fr (.t a)=.undef from e]at h1;cases h1
  simp only[lsT,Eu hok h1,Option.bind_some];refine Nk ls _ ?_ k2 h2
  have hkeep:∀a∈m,l.dst≠some a→s1.fr a=.ptr a 0∨s1.fr a=.undef:=by
   intro a ha hd;rcases keep h1 hd with e|e
   ·rw[e];exact hm a ha
   ·exact .inr e
  intro a ha;unfold MU at ha;split at ha
  ·rename_i z d g1 g2 g3;by_cases had:a=d
   ·subst had;simp only[As,g2,g1,Aw,SOp.cls,AT,Option.bind_some,g3,Option.getD_some,AU]at h1;split at h1
    ·cases h1;exact .inl (upd_same _ _ _)
    ·cases h1
   ·rcases List.mem_cons.1 ha with e|e
    ·exact(had e).elim
    ·exact hkeep a e (fun hh=>had (by rw[g3]at hh;cases hh;rfl))
  ·rename_i d g2 g1;rw[List.mem_filter]at ha;exact hkeep a ha.1 (fun hh=>by rw[g2]at hh;cases hh;simp at ha)
  ·rename_i g1;exact hkeep a ha (fun hh=>by rw[g1]at hh;cases hh)
theorem KJ{ls:List SL}:∀(is:List Nat) {st s:St},Dz E A D ls is st=some s→BP E (some D) ls is st=some s
 | [],_,_,h=>h
 |i::is,st,s,h=>by
  simp only[Dz,BP]at h⊢;split at h
  ·rename_i l hl;rw[Ab]at h;obtain⟨s1,h1,h2⟩:=h;simp only[hl,(Fv h1).2,Option.bind_some];exact KJ is h2
  ·cases h
theorem JM:∀(ls:List SL) (pre:List SL) (st:St),Dz E A D (pre++ls) (List.range' pre.length ls.length) st=lsT E A D ls st
 | [],_,_=>rfl
 |l::ls,pre,st=>by
  have h:=JM ls (pre++ [l]);simp only[List.length_append,List.length_cons,List.length_nil,List.append_assoc,List.cons_append,List.nil_append]at h;simp only[List.length_cons,List.range'_succ,Dz,lsT];rw[show(pre++l::ls)[pre.length]? =some l by simp];simp only
  congr 1
  funext s;exact h s
end
theorem UI{E:Env}{D:List Nat}{a b:SL}{st s1 s2:St}(hf:Fx D a b=true)(hDa:a.op.makes=true→∀j,a.dst=some j→D.contains j=true)(hDb:b.op.makes=true→∀j,b.dst=some j→D.contains j=true)
  (h1:As E (some D) a st=some s1) (h2:As E (some D) b s1=some s2):∃s,As E (some D) b st=some s∧As E (some D) a s=some s2:=by
 simp only[Fx,Af,Aj,Bool.not_eq_true']at hf;obtain⟨⟨g1,g2⟩,g4⟩:=hf
 have hab:∀i,a.dst=some i→i∉b.looks∧b.dst≠some i:=by
  intro i hi;simp only[hi,Option.all_some,Af,Bool.not_eq_true',bne_iff_ne]at g1;exact⟨fun hm=>by have:=g1.1;simp[hm]at this,g1.2⟩
 have hba:∀i,b.dst=some i→i∉a.looks:=by
  intro i hi hm;simp[hi,hm]at g2
 rcases g4 with⟨g3,(((⟨⟨g4,m1⟩,m2⟩|⟨g4,g5⟩)|⟨g4,g5⟩)|⟨⟨⟨g4,g5⟩,g6⟩,g7⟩)|⟨⟨⟨g4,g5⟩,g6⟩,g7⟩⟩|⟨⟨⟨g3,g5⟩,g4⟩,g6⟩
 ·exact Xq g3 g4 (fun hm j hj=>by simpa[hm,hj]using m1) (fun hm j hj=>by simpa[hm,hj]using m2) hab hba h1 h2
 ·exact Xl g5 g4 hab hba h1 h2
 ·exact Xr g5 g4 hab hba h1 h2
 ·exact Xn g6 (by simpa using g7) g4 (by simpa using g5) hab hba h1 h2
 ·exact Xp g6 (by simpa using g7) g4 (by simpa using g5) hab hba h1 h2
 ·exact Xm g3 (by simpa using g5) g4 (by simpa using g6) hab hba h1 h2
def C0(P:Program)(ops:Array Oper)(A D:List Nat)(ls:List SL):Bool:=
 P.follows .mixedOrders&&Hg A [] ls&&
 (ops.toList.zipIdx.all fun p=>p.1.after.all fun e=> !(Region.binds .any e)||decide (e.on<p.2))&&
 (ls.all fun l=> !l.op.makes||l.dst.all fun d=>D.contains d)&&
 ((List.range ls.length).all fun j=>(List.range j).all fun i=>((Dg ops ls.length).getD j 0).testBit i||match ls[i]?,ls[j]? with
   |some x,some y=>Cr A D x y
   |_,_=>false)
theorem Jy{E:Env}{A D:List Nat}{a b:SL}{st s1 s2:St}(hf:Cr A D a b=true)(hDa:a.op.makes=true→∀j,a.dst=some j→D.contains j=true)(hDb:b.op.makes=true→∀j,b.dst=some j→D.contains j=true)
  (h1:evT E A D a st=some s1) (h2:evT E A D b s1=some s2):∃s,evT E A D b st=some s∧evT E A D a s=some s2:=by
 simp only[Cr,Aj]at hf;rcases hf with hf|hf
 ·obtain⟨k1,e1⟩:=Fv h1;obtain⟨k2,e2⟩:=Fv h2;obtain⟨s,g1,g2⟩:=UI hf hDa hDb e1 e2;simp only[Fx,Af,Aj,Bool.not_eq_true']at hf;obtain⟨⟨q1,q2⟩,q4⟩:=hf
  have hoa:a.own A=none:=by
   rcases q4 with⟨q3,_⟩|⟨⟨⟨q3,_⟩,_⟩,_⟩
   ·exact Kh q3
   ·cases ha:a.own A with
    |none=>rfl
    |some k=>
     obtain⟨n,x,h,_⟩:=F5 ha;rw[h]at q3;cases q3
  refine⟨s,Eu (VU (fun k hk=> ?_) k2) g1,Eu (by unfold okS;rw[hoa]) g2⟩;obtain⟨n,x,h,_⟩:=F5 hk
  have hah:a.op.hard=false:=by
   rcases q4 with⟨q3,_⟩|⟨⟨⟨_,_⟩,q3⟩,_⟩
   ·exact q3
   ·rw[h]at q3;cases q3
  refine(NI hah e1 fun hd=> ?_).symm;simp only[hd,Option.all_some,Af,Bool.not_eq_true',bne_iff_ne]at q1;have:=q1.1;simp[Nj hk]at this
 ·simp only[Af]at hf;obtain⟨⟨q1,q2⟩,q4⟩:=hf
  have hab:∀i,a.dst=some i→i∉b.looks∧b.dst≠some i:=by
   intro i hi;simp only[hi,Option.all_some,Af,Bool.not_eq_true',bne_iff_ne]at q1;exact⟨fun hm=>by have:=q1.1;simp[hm]at this,q1.2⟩
  have hba:∀i,b.dst=some i→i∉a.looks:=by
   intro i hi hm;simp[hi,hm]at q2
  exact Xo hab hba q4 h1 h2
def left(n:Nat)(L:Array Bool):List Nat:=(List.range n).filter fun i=> !L.getD i true
inductive Cp (ops:Array Oper):Array Bool→List Nat→Prop where
 |nil {L:Array Bool}:left ops.size L= []→Cp ops L []
 |cons {L:Array Bool} {i:Nat} {is:List Nat}:i<ops.size→L.getD i true=false→(∀o,ops[i]? =some o→∀e∈o.after,Region.binds .any e=true→L.getD e.on false=true)→Cp ops (L.setIfInBounds i true) is→Cp ops L (i::is)
theorem GH(L:Array Bool)(i j:Nat)(b:Bool)(hi:L.getD i true=false):(L.setIfInBounds i true).getD j b=if j=i then true else L.getD j b:=by
 have hlt:i<L.size:=by
  rw[Array.getD_eq_getD_getElem?]at hi;by_cases h:i<L.size
  ·exact h
  ·simp[Array.getElem?_eq_none (Nat.le_of_not_lt h)]at hi
 simp only[Array.getD_eq_getD_getElem?,Array.getElem?_setIfInBounds];by_cases h:j=i
 ·subst h;simp[hlt]
 ·have h':¬i=j:=fun e=>h e.symm;simp[h,h']
theorem JC(n:Nat)(L:Array Bool)(i:Nat)(hin:i<n)(hi:L.getD i true=false):∃p q,left n L=p++i::q∧left n (L.setIfInBounds i true)=p++q∧∀j∈p,j<i∧L.getD j true=false:=by
 have hr:List.range n=List.range i++i::List.range' (i+1) (n-i-1):=by
  rw[List.range_eq_range',List.range_eq_range',show n=i+((n-i-1)+1) by omega,←List.range'_append_1,List.range'_succ];simp
 refine⟨(List.range i).filter fun j=> !L.getD j true,(List.range' (i+1) (n-i-1)).filter fun j=> !L.getD j true, ?_, ?_, ?_⟩
 ·simp only[left,hr,List.filter_append,List.filter_cons,hi,Bool.not_false,if_true]
 ·simp only[left,hr,List.filter_append,List.filter_cons,GH L i _ _ hi,if_true,Bool.not_true,Ag,if_false]
  congr 1
  ·apply List.filter_congr;intro j hj;rw[if_neg (by have:=List.mem_range.1 hj;omega)]
  ·apply List.filter_congr;intro j hj;rw[if_neg (by have:=(List.mem_range'_1.1 hj).1;omega)]
 ·intro j hj;rw[List.mem_filter,List.mem_range]at hj;exact⟨hj.1,by simpa using hj.2⟩
section
variable {P:Program} {E:Env} {n:Nat} {ops:Array Oper} {A D:List Nat} {ls:List SL}
theorem Q9{i:Nat}{b:SL}(hb:ls[i]? =some b)(hDb:b.op.makes=true→∀j,b.dst=some j→D.contains j=true)(q:List Nat):∀(p:List Nat) {st st':St},(∀k∈p,∀l,ls[k]? =some l→l.op.makes=true→∀j,l.dst=some j→D.contains j=true)→(∀j∈p,∃a,ls[j]? =some a∧Cr A D a b=true)→Dz E A D ls (p++i::q) st=some st'→Dz E A D ls (i::(p++q)) st=some st'
 | [],_,_,_,_,h=>h
 |j::p,st,st',hD,hf,h=>by
  obtain⟨a,ha,hfr⟩:=hf j (by simp);simp only[List.cons_append,Dz,ha,Ab]at h;obtain⟨s1,h1,h2⟩:=h;have h3:=Q9 hb hDb q p (fun k hk=>hD k (by simp[hk])) (fun j hj=>hf j (by simp[hj])) h2;simp only[Dz,hb,Ab]at h3;obtain⟨s2,h3,h4⟩:=h3;obtain⟨s,g1,g2⟩:=Jy hfr (hD j (by simp) a ha) hDb h1 h3;simp only[List.cons_append,Dz,hb,ha,g1,g2,Option.bind_some,h4]
theorem IN{L:Array Bool}(hdown:∀i o,L.getD i false=true→ops[i]? =some o→∀e∈o.after,Region.binds .any e=true→L.getD e.on false=true):∀(k i j:Nat),(∀o,ops[j]? =some o→∀e∈o.after,Region.binds .any e=true→L.getD e.on false=true)→Fl ops k i j=true→L.getD i false=true
 |0,_,_,_,h=>by cases h
 |k+1,i,j,hj,h=>by
  simp only[Fl]at h;split at h<;>(try cases h;done);rename_i o ho;rw[Array.any_eq_true']at h;obtain⟨e,he,h⟩:=h;simp only[Af,Aj,beq_iff_eq,decide_eq_true_eq]at h;obtain⟨hb,h⟩:=h;have hl:=hj o ho e he hb;rcases h with h|⟨_,h⟩
  ·rw[←h];exact hl
  ·exact IN hdown k i e.on (fun o' ho'=>hdown e.on o' hl ho') h
theorem Mn(hlen:ls.length=ops.size)
  (hfree:∀j<ls.length,∀i<j,Fl ops ls.length i j=true∨∃x y,ls[i]? =some x∧ls[j]? =some y∧Cr A D x y=true) {L:Array Bool} {is:List Nat} (hg:Cp ops L is):
  (∀i o,L.getD i false=true→ops[i]? =some o→∀e∈o.after,Region.binds .any e=true→L.getD e.on false=true)→L.size=ops.size→(∀k∈left ops.size L,∀l,ls[k]? =some l→l.op.makes=true→∀j,l.dst=some j→D.contains j=true)→∀{st st':St},Dz E A D ls (left ops.size L) st=some st'→Dz E A D ls is st=some st':=by
 induction hg with
 |nil h=>
  intro _ _ _ st st' hv;rw[h]at hv;exact hv
 | @cons L i is hi hL he hg ih=>
  intro hdown hsz hD st st' hv;obtain⟨p,q,e1,e2,e3⟩:=JC ops.size L i hi hL;have hb:ls[i]? =some (ls[i]'(by omega)):=Ai _;rw[e1]at hv hD
  have hv':=Q9 hb (hD i (by simp) _ hb) q p (fun k hk=>hD k (by simp[hk])) (fun j hj=>by
   obtain⟨hji,hjL⟩:=e3 j hj;rcases hfree i (by omega) j hji with ha|⟨x,y,hx,hy,hf⟩
   ·have:=IN hdown _ j i he ha;have hjs:j<L.size:=by omega
    simp[Array.getD_eq_getD_getElem?,Array.getElem?_eq_getElem hjs]at this hjL;rw[this]at hjL;cases hjL
   ·rw[hb]at hy;cases hy
    exact⟨x,hx,hf⟩) hv
  simp only[Dz,hb,Ab]at hv'⊢;obtain⟨s,h1,h2⟩:=hv';refine⟨s,h1,ih ?_ (by simp[hsz]) (by rw[e2];intro k hk;exact hD k (by rcases List.mem_append.1 hk with hk|hk<;>simp[hk])) (by rw[e2];exact h2)⟩;intro k o hk ho e hem heb;rw[GH L i _ _ hL]at hk⊢;split
  ·rfl
  ·split at hk
   ·rename_i e';subst e';exact he o ho e hem heb
   ·exact hdown k o hk ho e hem heb
theorem Wx{L:Array Bool}(hback:∀i o,ops[i]? =some o→∀e∈o.after,Region.binds .any e=true→e.on<i)(hsz:L.size=ops.size)(h:left ops.size L≠ []):Region.ready .any ops L≠ []:=by
 cases hl:left ops.size L with
 |nil=>exact(h hl).elim
 |cons i q=>
  have hmem:i∈left ops.size L:=by rw[hl];simp
  have hmem':=hmem;simp only[left,List.mem_filter,List.mem_range]at hmem';obtain⟨hi,hiL⟩:=hmem';have hiL:L.getD i true=false:=by simpa using hiL
  obtain⟨p,q',e1,_,e3⟩:=JC ops.size L i hi hiL
  have hp:p= []:=by
   cases p with
   |nil=>rfl
   |cons j p=>
    rw[hl]at e1;simp only[List.cons_append,List.cons.injEq]at e1;have:=(e3 j (by simp)).1;omega
  subst hp
  have hmin:∀j,j<i→L.getD j false=true:=by
   intro j hj;have hjs:j<L.size:=by omega
   cases hv:L.getD j false with
   |true=>rfl
   |false=>
    exfalso
    have hjm:j∈left ops.size L:=by
     simp only[left,List.mem_filter,List.mem_range];refine⟨by omega, ?_⟩;simp[Array.getD_eq_getD_getElem?,Array.getElem?_eq_getElem hjs]at hv⊢;exact hv
    rw[e1]at hjm;have hsorted:(left ops.size L).Pairwise (· < ·):=List.Pairwise.filter _ List.pairwise_lt_range;rw[e1,List.nil_append,List.pairwise_cons]at hsorted;simp only[List.nil_append,List.mem_cons]at hjm;rcases hjm with hjm|hjm
    ·omega
    ·have:=hsorted.1 j hjm;omega
  intro hr
  have:i∈Region.ready .any ops L:=by
   simp only[Region.ready,List.mem_filter,List.mem_range];refine⟨hi, ?_⟩;have ho:ops[i]? =some (ops[i]'hi):=Array.getElem?_eq_getElem hi;simp only[hiL,Bool.not_false,ho,Option.map_some,Option.getD_some,Bool.true_and,Array.all_eq_true'];intro e he
   cases hb:Region.binds .any e with
   |false=>rfl
   |true=>simp[hmin e.on (hback i _ ho e he hb)]
  rw[hr]at this;cases this
theorem Ic(hback:∀i o,ops[i]? =some o→∀e∈o.after,Region.binds .any e=true→e.on<i):∀(fuel t:Nat) (L:Array Bool),L.size=ops.size→(left ops.size L).length≤fuel→Cp ops L (Region.linearise.go .any ops fuel t L [])
 |0,t,L,hsz,hf=>by
  have:left ops.size L= []:=List.eq_nil_of_length_eq_zero (by omega);simpa[Region.linearise.go]using Cp.nil this
 |fuel+1,t,L,hsz,hf=>by
  simp only[Region.linearise.go]
  change Cp ops L (match (Region.ready .any ops L)[t %(Region.ready .any ops L).length]? with
   |some i=>Region.linearise.go .any ops fuel (t/(Region.ready .any ops L).length) (L.setIfInBounds i true) [i]
   |none=> [].reverse)
  by_cases hl:left ops.size L= []
  ·have hr:Region.ready .any ops L= []:=by
    cases hr:Region.ready .any ops L with
    |nil=>rfl
    |cons j js=>
     exfalso;have hj:j∈Region.ready .any ops L:=by rw[hr];simp
     simp only[Region.ready,List.mem_filter,List.mem_range,Af]at hj
     have:j∈left ops.size L:=by
      simp only[left,List.mem_filter,List.mem_range];exact⟨hj.1,hj.2.1⟩
     rw[hl]at this;cases this
   simpa[hr]using Cp.nil hl
  ·have hr:=Wx hback hsz hl;have hlt:t %(Region.ready .any ops L).length<(Region.ready .any ops L).length:=Nat.mod_lt _ (List.length_pos_iff.2 hr);rw[Ai hlt];generalize hi:(Region.ready .any ops L)[t %(Region.ready .any ops L).length]=i;have him:i∈Region.ready .any ops L:=by rw[←hi];exact List.getElem_mem _
   simp only[Region.ready,List.mem_filter,List.mem_range,Af,Bool.not_eq_true']at him;obtain⟨h1,h2,h3⟩:=him;simp only;rw[linearise_go_acc,List.reverse_singleton,List.singleton_append];obtain⟨p,q,e1,e2,_⟩:=JC ops.size L i h1 h2;refine .cons h1 h2 ?_ (Ic hback fuel _ _ (by simp[hsz]) ?_)
   ·intro o ho e he hb;rw[ho]at h3;simp only[Option.map_some,Option.getD_some,Array.all_eq_true']at h3;have:=h3 e he;simpa[hb]using this
   ·rw[e1]at hf;rw[e2];simp only[List.length_append,List.length_cons]at hf⊢;omega
theorem PC(E:Env)(D:Option (List Nat)):∀(ls:List SL) (pre:List SL) (st:St),BP E D (pre++ls) (List.range' pre.length ls.length) st=BA E D ls st
 | [],_,_=>rfl
 |l::ls,pre,st=>by
  have h:=PC E D ls (pre++ [l]);simp only[List.length_append,List.length_cons,List.length_nil,List.append_assoc,List.cons_append,List.nil_append]at h;simp only[List.length_cons,List.range'_succ,BP,BA];rw[show(pre++l::ls)[pre.length]? =some l by simp];simp only
  congr 1
  funext s;exact h s
theorem Uc(hc:Ao (Dc P n ops) ops.toList=some ls)(hd:C0 P ops A D ls=true){st st':St}(hv:BA E (some D) ls st=some st')(t:Nat):
  BP E (some D) ls (Region.schedule (P.follows .mixedOrders) ops t) st=some st':=by
 have hlen:ls.length=ops.size:=by rw[CY hc];simp
 simp only[C0,Af]at hd;obtain⟨⟨⟨⟨hm,hown⟩,hback⟩,hmk⟩,hfr⟩:=hd;have hv:=Nk ls [] (by simp) hown hv;refine KJ (A:=A) _ ?_;simp only[Region.schedule,hm,Bool.true_or,if_true,Region.linearise]
 have hleft:left ops.size (Array.replicate ops.size false)=List.range ops.size:=by
  simp only[left];rw[List.filter_eq_self];intro i hi;have:=List.mem_range.1 hi;simp[Array.getD_eq_getD_getElem?,this]
 have hback':∀i o,ops[i]? =some o→∀e∈o.after,Region.binds .any e=true→e.on<i:=by
  intro i o ho e he hb;rw[List.all_eq_true]at hback
  have hmem:(o,i)∈ops.toList.zipIdx:=by
   rw[List.mem_zipIdx_iff_getElem?];simpa using ho
  have:=hback _ hmem;rw[Array.all_eq_true']at this;have:=this e he;simpa[hb]using this
 refine Mn hlen ?_ (Ic hback' ops.size t _ (by simp) (by rw[hleft];simp)) ?_ (by simp) ?_ ?_
 ·intro j hj i hij;rw[List.all_eq_true]at hfr;have:=hfr j (List.mem_range.2 hj);rw[List.all_eq_true]at this;have:=this i (List.mem_range.2 hij);rw[Aj]at this;rcases this with h|h
  ·rw[F2 ops hj]at h;exact .inl (GZ ops hj h)
  ·refine .inr ?_;split at h
   ·rename_i x y hx hy;exact⟨x,y,hx,hy,h⟩
   ·cases h
 ·intro i o hi;exfalso;rw[Array.getD_eq_getD_getElem?,Array.getElem?_replicate]at hi;split at hi<;>cases hi
 ·intro k _ l hl hmake j hj;rw[List.all_eq_true]at hmk;have:=hmk l (List.mem_of_getElem? hl);simpa[hmake,hj]using this
 ·rw[hleft,List.range_eq_range',←hlen];have:=JM (E:=E) (A:=A) (D:=D) ls [] st;simp only[List.nil_append,List.length_nil]at this;rw[this];exact hv
end
def cl(s:SV):Prop:=∀id,s.ref=some id→id<tbase
def D9(o:Ob):Prop:=∀cs bt,o=.box cs bt→∀s∈cs,cl s
structure Cl (st:St):Prop where
 fr:∀i,cl (st.fr i)
 ob:∀j,j<tbase→D9 (st.ob j)
theorem B9(c:CV):cl (.c c):=fun _ h=>by cases h
theorem Jb:cl .undef:=fun _ h=>by cases h
theorem LJ{bt:Option TypeId}(l:List CV):D9 (.box (l.map .c) bt):=fun cs _ h s hs=>by
 cases h;obtain⟨c,_,rfl⟩:=List.mem_map.1 hs;exact B9 c
theorem OY(s:SV):cl (C6 s):=fun id h=>by
 unfold C6 at h
 cases hr:s.ref with
 |none=>rw[hr]at h;simp only at h;rw[hr]at h;cases h
 |some j=>
  rw[hr]at h;simp only at h;split at h
  ·cases h
  ·rw[hr]at h;cases h;omega
theorem T7(st:St):Cl (CM st):=by
 refine⟨fun i=>OY _,fun j hj cs bt hcs s hs=> ?_⟩;have h:(if tbase≤j then st.ob j else Fn (st.ob j))=.box cs bt:=hcs;rw[if_neg (by omega)]at h;cases hob:st.ob j<;>rw[hob]at h<;>cases h;obtain⟨s',_,rfl⟩:=List.mem_map.1 hs;exact OY _
section
variable {P:Program} {w0:WL} {M0:MM} {n:Nat} {st:St} {a:Act} {w:World} {z:Cz}
theorem SR.clean{G:Nat→List CV}(h:SR P G w0 M0 n st a w z):SR P G w0 M0 n (CM st) a w z:=by
 have hlive:∀id,(CM st).ob id≠ .none↔st.ob id≠ .none:=fun id=>by
  show(if tbase≤id then st.ob id else Fn (st.ob id))≠ .none↔_;split
  ·exact Iff.rfl
  ·cases st.ob id<;>simp[Fn]
 have hk:AN w (mutb M0 z st.ob) w (mutb M0 z (CM st).ob):=⟨Nat.le_refl _,fun _ _ _=>rfl,fun g _ hg=>by
  rcases hg with hg|⟨id,h1,h2⟩
  ·exact .inl hg
  ·exact .inr ⟨id,(hlive id).1 h1,h2⟩,rfl⟩
 have hz:∀s:SV,Eh st.ob z (CM st).ob z s:=fun s=>⟨fun id _ h1=>(hlive id).2 h1,fun _ _ _=>rfl,fun _ _ _ _ _ hb=>hb⟩
 have hs:∀{s:SV} {v:Value},Aq w (mutb M0 z st.ob) z st.ob s v→Aq w (mutb M0 z (CM st).ob) z (CM st).ob (C6 s) v:=by
  intro s v hv
  have:C6 s=s∨C6 s=.undef:=by
   unfold C6;split
   ·split
    ·exact .inr rfl
    ·exact .inl rfl
   ·exact .inl rfl
  rcases this with e|e
  ·rw[e];exact Aq.keep hk (hz s) hv
  ·rw[e];trivial
 have hss:∀(cs:List SV) vs,Au w (mutb M0 z st.ob) z st.ob cs vs→Au w (mutb M0 z (CM st).ob) z (CM st).ob (cs.map C6) vs:=by
  intro cs
  induction cs with
  |nil=>intro vs hh;exact hh
  |cons c cs ih=>
   intro vs hh;obtain⟨v,vs',e,h1,h2⟩:=hh;exact⟨v,vs',e,hs h1,ih vs' h2⟩
 refine⟨h.size,h.defers,h.below,h.outer,⟨h.nam.lent,fun N cs hN hc=> ?_,h.nam.names,h.nam.low⟩,h.glob,fun i=>hs (h.fr i),fun id=> ?_,fun id g h1 h2=>h.lo id g ((hlive id).1 h1) h2,fun i j g hij h1 h2=>h.apart i j g hij ((hlive i).1 h1) ((hlive j).1 h2)⟩
 ·have hc':(if tbase≤N then st.ob N else Fn (st.ob N))=.box cs _:=hc;rw[if_pos hN]at hc';exact h.nam.told N cs hN hc'
 ·show A7 P w _ 0 z _ id (z.σ id) (if tbase≤id then st.ob id else Fn (st.ob id));have hoi:=h.ob id;split
  ·exact A7.keep hk (fun _ _=>rfl) (fun cs _ s _=>hz s) (fun _ _ hh=>hh) hoi
  ·cases hob:st.ob id with
   |box cs=>
    rw[hob]at hoi;obtain⟨g,ty,vs,e1,e2,e3⟩:=hoi;exact⟨g,ty,vs,e1,e2,hss cs vs e3⟩
   |_=>
    rw[hob]at hoi;exact A7.keep hk (fun _ _=>rfl) (fun cs hc=>by cases hc) (fun _ _ hh=>hh) hoi
end
theorem G6{x:Option CV}{v:SV}(h:x.map .c=some v):cl v:=by
 obtain⟨c,_,rfl⟩:=Aa.1 h;exact B9 c
theorem T2{rd:Nat→Ob}(hrd:∀j,D9 (rd j)){sz:Option Nat}{s v:SV}(h:AM rd sz s=some v):cl v:=by
 unfold AM at h
 repeat' split at h
 all_goals first
  |(cases h;done)
  |exact G6 h
  |skip
 ·rename_i cs _ hob _;exact hrd _ cs _ hob _ (List.mem_of_getElem? h)
 ·obtain⟨l,_,rfl⟩:=Aa.1 h;exact B9 _
 ·obtain⟨e,_,h⟩:=Ab.1 h;exact G6 h
theorem OX{rd:Nat→Ob}{ρ:SO→SV}{op:SOp}{v:SV}(hρ:∀x,cl (ρ x))(hrd:∀j,D9 (rd j))(hN:∀N,tbase≤N→rd N=.none)(h:Am rd ρ op=some v):cl v:=by
 have hdr:∀x,cl (deref rd (ρ x)):=fun x=>by
  have:=hρ x;generalize ρ x=s at this⊢;unfold deref;split
  ·split
   ·rename_i hN';rw[hN _ hN'];exact Jb
   ·exact Jb
  ·exact this
 cases op
 case mov x=>cases h;exact hρ _
 case pick c a b=>
  simp only[Am]at h;split at h<;>(try cases h;done);cases h;split<;>exact hρ _
 case load sz x=>exact T2 hrd h
 case nchk x=>
  simp only[Am]at h;have:=hρ x;split at h<;>(try cases h;done)
  all_goals
   rename_i he;cases h;rw[he]at this;exact this
 case lsl e size parts=>
  simp only[Am]at h;obtain⟨_,_,h⟩:=Ab.1 h;split at h<;>cases h;exact B9 _
 case faddr off x=>
  simp only[Am]at h;have:=hdr x;split at h
  ·split at h<;>cases h;exact B9 _
  ·split at h<;>cases h;exact B9 _
  ·rename_i he;cases h;rw[he]at this;exact fun id hid=>this id hid
  ·rename_i he;cases h;rw[he]at this;exact fun id hid=>this id hid
  ·cases h
 case iaddr size x i=>
  have:=hρ x;simp only[Am,Dd]at h;split at h<;>(try cases h;done)
  ·obtain⟨j,_,h⟩:=Ab.1 h;obtain⟨e,_,h⟩:=Ab.1 h;split at h<;>cases h;exact B9 _
  ·rename_i he _;rw[he]at this;split at h<;>(try cases h;done);split at h<;>(try cases h;done);obtain⟨j,_,rfl⟩:=Aa.1 h;exact fun id hid=>this id hid
 case aaddr len size x i=>
  have:=hρ x;simp only[Am,Dm]at h;split at h<;>(try cases h;done)
  ·split at h<;>(try cases h;done);obtain⟨j,_,rfl⟩:=Aa.1 h;exact B9 _
  ·rename_i he _;rw[he]at this;obtain⟨j,_,rfl⟩:=Aa.1 h;exact fun id hid=>this id hid
 case ext x i=>
  have:=hρ x;simp only[Am]at h;split at h<;>(try cases h;done)
  ·exact G6 h
  ·rename_i he;rw[he]at this
   repeat' split at h
   all_goals first
    |(cases h;done)
    |(cases h;exact B9 _)
    |(cases h;exact fun id hid=>this id hid)
 case build z parts=>
  simp only[Am]at h;obtain⟨_,_,h⟩:=Ab.1 h;obtain⟨_,_,rfl⟩:=Aa.1 h;exact B9 _
 case minmax mx xs=>
  simp only[Am]at h;obtain⟨_,_,h⟩:=Ab.1 h;split at h
  ·cases h
  ·exact G6 h
 case sidx x i=>
  simp only[Am]at h;split at h<;>(try cases h;done);obtain⟨_,_,h⟩:=Ab.1 h;obtain⟨_,_,rfl⟩:=Aa.1 h;exact B9 _
 case aidx len size sz x i=>
  simp only[Am]at h;split at h<;>(try cases h;done);obtain⟨_,_,h⟩:=Ab.1 h;exact G6 h
 case sslice x lo hi=>
  simp only[Am]at h;split at h<;>(try cases h;done);obtain⟨_,_,h⟩:=Ab.1 h;obtain⟨_,_,h⟩:=Ab.1 h;split at h<;>cases h;exact B9 _
 case slice size x lo hi=>
  simp only[Am]at h;split at h<;>(try cases h;done);obtain⟨_,_,h⟩:=Ab.1 h;obtain⟨_,_,h⟩:=Ab.1 h;split at h<;>cases h;exact B9 _
 all_goals
  simp only[Am,reduceCtorEq]at h;try(cases h;done)
  repeat' split at h
  all_goals first
   |(cases h;done)
   |exact G6 h
   |(cases h;exact B9 _)
   |(obtain⟨_,_,rfl⟩:=Aa.1 h;exact B9 _)
theorem T3{ρ:SO→SV}{d:Nat}{op:SOp}{v:SV}{o:Ob}(hρ:∀x,cl (ρ x))(hd:d<tbase)(h:AT ρ d op=some (v,o)):cl v∧D9 o:=by
 have hv:∀s:SV,s.ref=some d→cl s:=fun s hs id hid=>by rw[hs]at hid;cases hid;exact hd
 cases op<;>simp only[AT,reduceCtorEq]at h
 case alloc z=>cases h;exact⟨hv _ rfl,LJ _⟩
 case allocT T z=>cases h;exact⟨hv _ rfl,LJ _⟩
 case nbytes e x=>
  split at h<;>(try cases h;done);simp only[Ad,Ac,Prod.mk.injEq]at h;obtain⟨_,rfl,rfl⟩:=h;exact⟨hv _ rfl,fun cs _ hcs=>by cases hcs⟩
 case box x=>
  split at h
  ·cases h;exact⟨hv _ rfl,LJ _⟩
  ·cases h
  ·cases h;refine⟨hv _ rfl,fun cs _ hcs s hs=> ?_⟩;cases hcs;simp only[List.mem_singleton]at hs;subst hs;exact hρ x
 case mksl e size parts=>
  obtain⟨l,_,h⟩:=Ab.1 h;split at h<;>cases h;exact⟨hv _ rfl,fun cs _ hcs=>by cases hcs⟩
 case mkmap=>cases h;exact⟨hv _ rfl,fun cs _ hcs=>by cases hcs⟩
 case make=>
  repeat' split at h
  all_goals first
   |(cases h;done)
   |(cases h;exact⟨hv _ rfl,fun cs _ hcs=>by cases hcs⟩)
 case siter=>
  repeat' split at h
  all_goals first
   |(cases h;done)
   |(cases h;exact⟨hv _ rfl,fun cs _ hcs=>by cases hcs⟩)
section
variable {E:Env}
def clP(p:SV×Option Ob):Prop:=cl p.1∧∀o,p.2=some o→D9 o
theorem OW{rd:Nat→Ob}{ρ:SO→SV}{d:Option Nat}{f:FuncId}{args:List SO}{caps:List CV}{p:SV×Option Ob}(hd:∀j,d=some j→j<tbase)(h:FE E.named rd ρ d f args caps=some p):clP p:=by
 unfold FE at h;obtain⟨l,_,h⟩:=Ab.1 h;obtain⟨r,hr,h⟩:=Ab.1 h;split at h<;>cases h
 cases r with
 |val v=>exact⟨B9 _,fun o ho=>by cases ho⟩
 |new o=>
  have hh:C8 o=true:=by
   have hr':(match E.fn f (l++caps)with
    |some (.new o)=>if C8 o=true then some (.new o)else none
    |r=>r)=some (.new o):=hr
   split at hr'
   ·split at hr'<;>(try cases hr';done);rename_i hh;cases hr';exact hh
   ·rename_i hne;exact absurd hr' (hne o)
  have hdd:d.getD 0<tbase:=by
   cases d with
   |none=>decide
   |some j=>exact hd j rfl
  refine⟨fun id hid=> ?_,fun o' ho'=> ?_⟩
  ·cases o<;>simp[C8]at hh<;>(simp only[KA,SV.ref,Ac]at hid;omega)
  ·cases ho';intro cs _ hcs;subst hcs;cases hh
theorem T5{rd:Nat→Ob}{l:SL}{fr:Nat→SV}{p:SV×Option Ob}(hfr:∀i,cl (fr i))(hrd:∀j,D9 (rd j))(hN:∀N,tbase≤N→rd N=.none)(hd:∀j,l.dst=some j→j<tbase)(h:Cm E.named l fr rd=some p):clP p:=by
 have hso:∀x,cl (so E.named.G fr x):=fun x=>by
  cases x with
  |t i=>exact hfr i
  |k c=>exact B9 c
  |g i=>
   simp only[so]
   cases E.named.G i with
   |nil=>exact Jb
   |cons c cs=>exact B9 _
 have hop:∀p,Az E.named rd (so E.named.G fr) l.dst l.op=some p→clP p:=fun p h=>by
  have hdd:l.dst.getD 0<tbase:=by
   cases hl:l.dst with
   |none=>decide
   |some j=>exact hd j hl
  unfold Az at h;split at h
  ·obtain⟨v,hv,rfl⟩:=Aa.1 h;exact⟨OX hso hrd hN hv,fun o ho=>by cases ho⟩
  ·obtain⟨v,hv,rfl⟩:=Aa.1 h;exact⟨OX hso hrd hN hv,fun o ho=>by cases ho⟩
  ·obtain⟨⟨v,o⟩,hv,rfl⟩:=Aa.1 h;obtain⟨h1,h2⟩:=T3 hso hdd hv;exact⟨h1,fun o' ho=>by cases ho;exact h2⟩
  ·cases h
  ·cases h
  ·split at h
   ·exact OW hd h
   ·split at h<;>(try cases h;done);exact OW hd h
   ·cases h
 unfold Cm at h;split at h
 ·exact hop _ h
 ·split at h
  ·split at h
   ·exact hop _ h
   ·cases h;exact⟨B9 _,fun o ho=>by cases ho⟩
  ·cases h;exact⟨B9 _,fun o ho=>by cases ho⟩
  ·cases h
theorem T4{st s:St}{d:Option Nat}{p:SV×Option Ob}(hs:Cl st)(hp:clP p)(h:put st d p=some s):Cl s:=by
 have hfr:∀v i,cl v→cl (upd st.fr i v i):=fun v i hv=>by rw[upd_same];exact hv
 obtain⟨v,o⟩:=p
 cases o with
 |none=>
  cases h
  cases d with
  |none=>exact hs
  |some d=>
   refine⟨fun i=> ?_,hs.ob⟩;show cl (upd st.fr d v i);rw[BL];split
   ·exact hp.1
   ·exact hs.fr i
 |some o=>
  simp only[put,AU]at h
  cases d with
  |none=>cases h
  |some d=>
   simp only at h;split at h<;>(try cases h;done);cases h;refine⟨fun i=> ?_,fun j hj=> ?_⟩
   ·show cl (upd st.fr d v i);rw[BL];split
    ·exact hp.1
    ·exact hs.fr i
   ·show D9 (upd st.ob d o j);rw[BL];split
    ·exact hp.2 o rfl
    ·exact hs.ob j hj
theorem T6{n o:Nat}{ob ob':Ob}{v:SV}(ho:D9 ob)(hv:cl v)(h:D2 n o ob v=some ob'):D9 ob':=by
 unfold D2 at h;split at h<;>(try cases h;done);rename_i cs bt;split at h
 ·split at h<;>cases h;intro cs' _ hcs s hs;cases hcs;unfold Ff at hs;simp only[List.mem_append]at hs;rcases hs with(hs|hs)|hs
  ·exact ho cs _ rfl s (List.mem_of_mem_take hs)
  ·obtain⟨c,_,rfl⟩:=List.mem_map.1 hs;exact B9 c
  ·exact ho cs _ rfl s (List.mem_of_mem_drop hs)
 ·split at h<;>cases h;intro cs' _ hcs s hs;cases hcs;rcases List.mem_or_eq_of_mem_set hs with hs|hs
  ·exact ho cs _ rfl s hs
  ·subst hs;exact hv
end
def low(st:St):St:={fr:=st.fr,ob:=BB st.ob}
def merge(s st:St):St:={fr:=s.fr,ob:=fun i=>if tbase≤i then st.ob i else s.ob i}
def efL(E:Env)(l:SL)(fr:Nat→SV):Option (Eff×List SO×List CV):=
 match l.op with
 | .call f args=>match E.ef f with
  |some e=>some (e,args,[])
  |none=>none
 | .callv f args=>match so E.G fr f with
  | .c (.fn f caps)=>match E.ef f with
   |some e=>some (e,args,caps)
   |none=>none
  |_=>none
 |_=>none
def Bv(E:Env)(l:SL)(fr:Nat→SV):Option (Eff×List SO×List CV):=if gd l fr=some true then efL E l fr else none
section
variable {E:Env} {A D:List Nat}
theorem Md{rd:Nat→Ob}{l:SL}{st:St}:Bg E rd l st=(gd l st.fr).bind fun t=>if t=true then Aw E rd st l.dst l.op else some (st.set l.dst AL):=by
 unfold Bg gd
 cases l.guard with
 |none=>rfl
 |some p=>
  obtain⟨g,want⟩:=p;simp only;generalize st.fr g=q
  cases q with
  |c v=>
   cases v with
   |bool b=>by_cases hb:b=want<;>simp[hb]
   |tup l=>cases l<;>rfl
   |_=>rfl
  |_=>rfl
theorem Uj{l:SL}{fr:Nat→SV}{q:Eff×List SO×List CV}(h:efL E l fr=some q):l.op.calls=true:=by
 unfold efL at h;split at h
 ·rename_i ho;rw[ho];rfl
 ·rename_i ho;rw[ho];rfl
 ·cases h
theorem Li{l:SL}{fr:Nat→SV}{q:Eff×List SO×List CV}(h:Bv E l fr=some q):l.op.calls=true:=by
 unfold Bv at h;split at h
 ·exact Uj h
 ·cases h
theorem Lj{l:SL}{fr fr':Nat→SV}(h:∀i∈l.looks,fr i=fr' i):Bv E l fr=Bv E l fr':=by
 unfold Bv;rw[Mm h]
 have:efL E l fr=efL E l fr':=by
  unfold efL;cases ho:l.op<;>simp only;rename_i f args;rw[EC (fr':=fr') f fun i hi=>h i (by simp[SL.looks,ho,SOp.slots,hi])]
 rw[this]
theorem L7{op:SOp}(h:op.calls=true):op.hard=false:=by
 cases op<;>first|rfl|cases h
theorem L6{l:SL}(h:l.op.calls=true):l.own A=none:=Kh (L7 h)
theorem Nd{l:SL}{rd:Nat→Ob}{st:St}(h:efL E l st.fr=none):Aw E rd st l.dst l.op=Aw E.still rd st l.dst l.op:=by
 unfold efL at h;cases ho:l.op<;>rw[ho]at h<;>try rfl
 ·rename_i f args;simp only at h
  cases he:E.ef f with
  |some e=>rw[he]at h;cases h
  |none=>
   simp only[Aw,SOp.cls,he];rfl
 ·rename_i f args;simp only at h
  show(match so E.G st.fr f with
   | .c (.fn f caps)=>match E.ef f with
    |some e=>CN (so E.G st.fr) st l.dst e args caps
    |none=>Da E rd (so E.G st.fr) st l.dst f args caps
   |_=>none)=(match so E.G st.fr f with
   | .c (.fn f caps)=>Da E rd (so E.G st.fr) st l.dst f args caps
   |_=>none)
  generalize so E.G st.fr f=q at h;cases q<;>try rfl
  rename_i c;cases c<;>try rfl
  rename_i g caps;simp only at h⊢
  cases he:E.ef g with
  |some e=>rw[he]at h;cases h
  |none=>rfl
theorem V9{l:SL}{st:St}(ht:Bv E l st.fr=none):C1 E D l st=(gd l st.fr).bind fun t=>if t=true then Aw E.still (A0 (some (hid l.op D)) (BB st.ob)) st l.dst l.op else some (st.set l.dst AL):=by
 unfold C1;rw[Md];unfold Bv at ht
 cases hg:gd l st.fr with
 |none=>rfl
 |some t=>
  cases t with
  |false=>rfl
  |true=>
   rw[hg,if_pos rfl]at ht;simp only[Option.bind_some,if_true];exact Nd ht
theorem WU{l:SL}{rd:Nat→Ob}{st:St}(hh:l.op.hard=false):(Cm E l st.fr rd).bind (put st l.dst)=(gd l st.fr).bind fun t=>if t=true then Aw E.still rd st l.dst l.op else some (st.set l.dst AL):=by
 unfold Cm gd
 cases l.guard with
 |none=>simp only[Option.bind_some,if_true];exact(Hv hh).symm
 |some p=>
  obtain⟨g,want⟩:=p;simp only;generalize st.fr g=q
  cases q with
  |c v=>
   cases v with
   |bool b=>
    by_cases hb:b=want
    ·simp only[hb,if_true,Option.bind_some,decide_true];exact(Hv hh).symm
    ·simp[hb,put]
   |tup l=>cases l<;>simp[put]
   |_=>rfl
  |_=>rfl
theorem MI{l:SL}{st:St}(hh:l.op.hard=false)(ht:Bv E l st.fr=none):C1 E D l st=(Cm E l st.fr (A0 (some (hid l.op D)) (BB st.ob))).bind (put st l.dst):=by
 rw[V9 ht,WU hh]
theorem Wu{st s:St}{d:Option Nat}{p:SV×Option Ob}(hd:∀j,d=some j→j<tbase)(h:put st d p=some s):put (low st) d p=some (low s)∧∀i,tbase≤i→s.ob i=st.ob i:=by
 obtain⟨v,o⟩:=p
 cases o with
 |none=>
  cases h;cases d<;>exact⟨rfl,fun _ _=>rfl⟩
 |some o=>
  simp only[put,AU]at h⊢
  cases d with
  |none=>cases h
  |some d=>
   have hdd:=hd d rfl;simp only at h⊢;split at h<;>(try cases h;done);rename_i hn;cases h;have hl:(low st).ob d=.none:=by show(if tbase≤d then Ob.none else st.ob d)=_;rw[if_neg (by omega),hn]
   refine⟨?_,fun i hi=>upd_ne _ _ (by omega)⟩;rw[hl];simp only[low,Ac,St.mk.injEq,true_and];funext i;simp only[BL,BB];by_cases h1:i=d
   ·subst h1;rw[if_pos rfl,if_pos rfl,if_neg (by omega)]
   ·rw[if_neg h1,if_neg h1]
theorem Nu{st t:St}{d:Option Nat}{p:SV×Option Ob}(hd:∀j,d=some j→j<tbase)(h:put (low st) d p=some t):put st d p=some (merge t st)∧low (merge t st)=t:=by
 obtain⟨v,o⟩:=p
 cases o with
 |none=>
  cases h
  have key:∀st':St,st'.ob=st.ob→merge (low st') st=st'∧low (merge (low st') st)=low st':=fun st' hob=>by
   have h1:merge (low st') st=st':=by
    cases st' with
    |mk fr ob=>
     cases hob;simp only[merge,low,St.mk.injEq,true_and];funext i;simp only[BB];split<;>rfl
   exact⟨h1,by rw[h1]⟩
  have e:(low st).set d v=low (st.set d v):=by cases d<;>rfl
  obtain⟨k1,k2⟩:=key (st.set d v) (by cases d<;>rfl);rw[e];exact⟨by rw[k1];rfl,k2⟩
 |some o=>
  simp only[put,AU]at h⊢
  cases d with
  |none=>cases h
  |some d=>
   have hdd:=hd d rfl;have hl:(low st).ob d=st.ob d:=by show(if tbase≤d then Ob.none else st.ob d)=_;rw[if_neg (by omega)]
   simp only[hl]at h⊢;split at h<;>(try cases h;done);rename_i hn;cases h;constructor
   ·simp only[merge,low,Ac,St.mk.injEq,true_and];funext i;simp only[BL,BB];by_cases h1:i=d
    ·subst h1;rw[if_pos rfl,if_neg (by omega),if_pos rfl]
    ·rw[if_neg h1,if_neg h1];split<;>rfl
   ·simp only[merge,low,St.mk.injEq,true_and];funext i;simp only[BL,BB];by_cases h1:i=d
    ·subst h1;rw[if_neg (by omega),if_neg (by omega)]
    ·rw[if_neg h1];split<;>rfl
structure DQ (A D:List Nat) (l:SL):Prop where
 hard:l.op.hard=true→∃k,l.own A=some k∧k<tbase
 dst:∀j,l.dst=some j→j<tbase
 makes:l.op.makes=true→∀j,l.dst=some j→D.contains j=true
open Classical in
noncomputable def evR(E:Env)(A D:List Nat)(l:SL)(st:St):Option St:=if Cl st∧okS A l st=true then C1 E.named D l st else none
theorem HJ{l:SL}{st s:St}(h:evR E A D l st=some s):Cl st∧okS A l st=true∧C1 E.named D l st=some s:=by
 unfold evR at h;split at h
 ·rename_i hh;exact⟨hh.1,hh.2,h⟩
 ·cases h
theorem Jv{l:SL}{st s:St}(h1:Cl st)(h2:okS A l st=true)(h3:C1 E.named D l st=some s):evR E A D l st=some s:=by
 unfold evR;rw[if_pos ⟨h1,h2⟩,h3]
theorem Kg{l:SL}{k:Nat}(hl:l.own A=some k):∃n x,(∀i∈x.slot,i∈l.looks)∧∀(st:St) (o:Nat),st.fr k=.ptr k o→C1 E D l st=(D2 n o (st.ob k) (so E.G st.fr x)).map (fun b=>{st with ob:=upd st.ob k b})∧As E (some D) l st=(D2 n o (st.ob k) (so E.G st.fr x)).map fun b=>{st with ob:=upd st.ob k b}:=by
 obtain⟨n,x,h1,h2⟩:=F5 hl;refine⟨n,x,fun i hi=>by simp[SL.looks,h1,SOp.slots,hi],fun st o ho=> ?_⟩
 have key:∀(E':Env) rd,E'.G=E.G→Aw E' rd st l.dst l.op=(D2 n o (st.ob k) (so E.G st.fr x)).map fun b=>{st with ob:=upd st.ob k b}:=fun E' rd hG=>by
  simp only[h1,Aw,SOp.cls,A6,hG];rw[show so E.G st.fr (.t k)=.ptr k o from ho];simp only[D2,deref];cases hb:st.ob k<;>simp only[hb]<;>try rfl
  generalize so E.G st.fr x=v
  cases v with
  |c cv=>cases cv<;>(simp only;split<;>rfl)
  |_=>simp only;split<;>rfl
 constructor
 ·unfold C1 Bg;rw[h2];exact key E _ rfl
 ·unfold As;rw[h2];exact key _ _ CK
theorem JX{l:SL}{k:Nat}{st:St}(hl:l.own A=some k)(h:okS A l st=true):∃o,st.fr k=.ptr k o:=by
 unfold okS at h;rw[hl]at h;simp only at h;split at h
 ·rename_i j o hj;have:j=k:=by simpa using h
  subst this;exact⟨o,hj⟩
 ·cases h
theorem JT{l:SL}(hok:DQ A D l){st s:St}(ht:Bv E.named l st.fr=none)(h:evR E A D l st=some s):evT E.named A D l (low st)=some (low s)∧∀i,tbase≤i→s.ob i=st.ob i:=by
 obtain⟨hcl,hos,h⟩:=HJ h;have hos':okS A l (low st)=true:=hos
 cases hh:l.op.hard with
 |false=>
  rw[MI hh ht,Ab]at h;obtain⟨p,h1,h2⟩:=h;obtain⟨h3,h4⟩:=Wu hok.dst h2;refine⟨Eu hos' ?_,h4⟩;rw[Cn hh,Ab];exact⟨p,h1,h3⟩
 |true=>
  obtain⟨k,hk,hkt⟩:=hok.hard hh;obtain⟨o,ho⟩:=JX hk hos;obtain⟨n,x,hx,hf⟩:=Kg (E:=E.named) (D:=D) hk;rw[(hf st o ho).1,Aa]at h;obtain⟨b,h1,rfl⟩:=h;have hl:(low st).ob k=st.ob k:=by show(if tbase≤k then Ob.none else st.ob k)=_;rw[if_neg (by omega)]
  refine⟨Eu hos' ?_,fun i hi=>upd_ne _ _ (by omega)⟩;rw[(hf (low st) o ho).2,hl];show(D2 n o (st.ob k) (so E.named.G st.fr x)).map _=_;rw[h1];simp only[low,Option.map_some,Ac,St.mk.injEq,true_and];funext i;simp only[BL,BB];by_cases h1:i=k
  ·subst h1;rw[if_pos rfl,if_pos rfl,if_neg (by omega)]
  ·rw[if_neg h1,if_neg h1]
theorem JU{l:SL}(hok:DQ A D l){st t:St}(hcl:Cl st)(ht:Bv E.named l st.fr=none)(h:evT E.named A D l (low st)=some t):evR E A D l st=some (merge t st)∧low (merge t st)=t:=by
 obtain⟨hos,h⟩:=Fv h;have hos':okS A l st=true:=hos
 cases hh:l.op.hard with
 |false=>
  rw[Cn hh,Ab]at h;obtain⟨p,h1,h2⟩:=h;obtain⟨h3,h4⟩:=Nu hok.dst h2;refine⟨Jv hcl hos' ?_,h4⟩;rw[MI hh ht,Ab];exact⟨p,h1,h3⟩
 |true=>
  obtain⟨k,hk,hkt⟩:=hok.hard hh;obtain⟨o,ho⟩:=JX hk hos';obtain⟨n,x,hx,hf⟩:=Kg (E:=E.named) (D:=D) hk;rw[(hf (low st) o ho).2,Aa]at h;obtain⟨b,h1,rfl⟩:=h;have hl:(low st).ob k=st.ob k:=by show(if tbase≤k then Ob.none else st.ob k)=_;rw[if_neg (by omega)]
  rw[hl]at h1;have h1':D2 n o (st.ob k) (so E.named.G st.fr x)=some b:=h1
  have e:merge {low st with ob:=upd (low st).ob k b} st={st with ob:=upd st.ob k b}:=by
   simp only[merge,low,St.mk.injEq,true_and];funext i;simp only[BL,BB];by_cases h1:i=k
   ·subst h1;rw[if_pos rfl,if_neg (by omega),if_pos rfl]
   ·rw[if_neg h1,if_neg h1];split<;>rfl
  constructor
  ·refine Jv hcl hos' ?_;rw[(hf st o ho).1,h1',e];rfl
  ·rw[e];simp only[low,St.mk.injEq,true_and];funext i;simp only[BL,BB];by_cases h1:i=k
   ·subst h1;rw[if_pos rfl,if_pos rfl,if_neg (by omega)]
   ·rw[if_neg h1,if_neg h1]
theorem MY{l:SL}(hok:DQ A D l){st s:St}(ht:Bv E.named l st.fr=none)(h:evR E A D l st=some s):Cl s:=by
 obtain⟨hcl,hos,h⟩:=HJ h
 cases hh:l.op.hard with
 |false=>
  rw[MI hh ht,Ab]at h;obtain⟨p,h1,h2⟩:=h;refine T4 hcl (T5 hcl.fr (fun j=> ?_) (fun N hN=> ?_) hok.dst h1) h2
  ·intro cs _ hcs;simp only[A0,BB]at hcs;split at hcs
   ·cases hcs
   ·split at hcs
    ·cases hcs
    ·exact hcl.ob j (by omega) cs _ hcs
  ·simp only[A0,BB];rw[if_pos hN];split<;>rfl
 |true=>
  obtain⟨k,hk,hkt⟩:=hok.hard hh;obtain⟨o,ho⟩:=JX hk hos;obtain⟨n,x,hx,hf⟩:=Kg (E:=E.named) (D:=D) hk;rw[(hf st o ho).1,Aa]at h;obtain⟨b,h1,rfl⟩:=h
  have hv:cl (so E.named.G st.fr x):=by
   cases x with
   |t i=>exact hcl.fr i
   |k c=>exact B9 c
   |g i=>
    simp only[so]
    cases E.named.G i with
    |nil=>exact Jb
    |cons c cs=>exact B9 _
  refine⟨hcl.fr,fun j hj=> ?_⟩;show D9 (upd st.ob k b j);rw[BL];split
  ·exact T6 (hcl.ob k hkt) hv h1
  ·exact hcl.ob j hj
theorem JS{l:SL}(hok:DQ A D l){L t:St}(h:evT E.named A D l L=some t){i:Nat}(hi:l.dst≠some i):t.fr i=L.fr i:=by
 obtain⟨hos,h⟩:=Fv h
 cases hh:l.op.hard with
 |false=>exact NI hh h hi
 |true=>
  obtain⟨k,hk,hkt⟩:=hok.hard hh;obtain⟨o,ho⟩:=JX hk hos;obtain⟨n,x,hx,hf⟩:=Kg (E:=E.named) (D:=D) hk;rw[(hf L o ho).2,Aa]at h;obtain⟨b,h1,rfl⟩:=h;rfl
theorem QC{f:FuncId}{e:Eff}(h:E.named.ef f=some e):∀N,e.T.contains N=true→tbase≤N:=by
 have h':(match E.ef f with
  |some e=>if(e.T.all fun N=>Nat.ble tbase N)=true then some e else none
  |none=>none)=some e:=h
 split at h'<;>(try cases h';done);split at h'<;>(try cases h';done);rename_i hh;cases h';intro N hN;rw[List.all_eq_true]at hh;exact Ah (hh N (by simpa using hN))
theorem X2{l:SL}{fr:Nat→SV}{q:Eff×List SO×List CV}(h:Bv E.named l fr=some q):∀N,q.1.T.contains N=true→tbase≤N:=by
 unfold Bv efL at h;split at h<;>(try cases h;done);split at h<;>(try cases h;done)
 ·split at h<;>(try cases h;done);rename_i e he;cases h;exact QC he
 ·split at h<;>(try cases h;done);split at h<;>(try cases h;done);rename_i e he;cases h;exact QC he
theorem Ql{T:List Nat}(hT:∀N,T.contains N=true→tbase≤N){s:SV}(h:cl s):Ar T s=s:=by
 have key:∀id,s.ref=some id→¬T.contains id=true:=fun id hr hc=>by
  have:=h id hr;have:=hT id hc;omega
 cases s<;>simp only[Ar]<;>first
  |rfl
  |(rw[if_neg (key _ rfl)])
def hiT(T:List Nat)(H:Nat→Ob)(ob:Nat→Ob):Nat→Ob:=fun i=>if T.contains i=true then H i else BQ T (ob i)
theorem X1{T:List Nat}(hT:∀N,T.contains N=true→tbase≤N){H:Nat→Ob}{st:St}(h:Cl st):BU T H st={fr:=st.fr,ob:=fun i=>if tbase≤i then hiT T H st.ob i else st.ob i}:=by
 unfold BU;simp only[St.mk.injEq];refine⟨funext fun i=>Ql hT (h.fr i),funext fun i=> ?_⟩;split
 ·rename_i hc;rw[if_pos (hT i hc)];show H i=(if _ then _ else _);rw[if_pos hc]
 ·rename_i hc;split
  ·show _=(if _ then _ else _);rw[if_neg hc]
  ·rename_i hi
   cases hob:st.ob i with
   |box cs=>
    simp only[BQ,Ob.box.injEq,and_true];have h1:=h.ob i (by omega) cs _ hob;have h2:∀s∈cs,Ar T s=s:=fun s hs=>Ql hT (h1 s hs);exact(List.map_congr_left h2).trans (List.map_id _)
   |_=>rfl
theorem Wh{T:List Nat}(hT:∀N,T.contains N=true→tbase≤N){ob ob':Nat→Ob}(h:∀i,tbase≤i→ob' i=ob i):Ca T ob'=Ca T ob:=by
 funext i;unfold Ca;split
 ·rename_i hc;rw[h i (hT i hc)]
 ·rfl
theorem V7{l:SL}{fr:Nat→SV}{q:Eff×List SO×List CV}(h:Bv E l fr=some q):∀x∈q.2.1,∀i∈x.slot,i∈l.looks:=by
 unfold Bv efL at h;split at h<;>(try cases h;done);split at h<;>(try cases h;done)
 ·rename_i ho;split at h<;>(try cases h;done);cases h;intro x hx i hi;simp only[SL.looks,ho,SOp.slots,List.mem_append,List.mem_flatMap];exact .inl ⟨x,hx,hi⟩
 ·rename_i ho;split at h<;>(try cases h;done);split at h<;>(try cases h;done);cases h;intro x hx i hi;simp only[SL.looks,ho,SOp.slots,List.mem_append,List.mem_flatMap];exact .inl (.inr ⟨x,hx,hi⟩)
theorem Qz{l:SL}{st:St}{q:Eff×List SO×List CV}(h:Bv E l st.fr=some q):C1 E D l st=CN (so E.G st.fr) st l.dst q.1 q.2.1 q.2.2:=by
 unfold C1;rw[Md];unfold Bv at h;split at h<;>(try cases h;done);rename_i hg;rw[hg];simp only[Option.bind_some,if_true];unfold efL at h;split at h<;>(try cases h;done)
 ·rename_i ho;split at h<;>(try cases h;done);rename_i e he;cases h;simp only[ho,Aw,SOp.cls,he]
 ·rename_i ho;split at h<;>(try cases h;done);rename_i hf;split at h<;>(try cases h;done);rename_i e he;cases h;simp only[ho,Aw,SOp.cls,hf,he]
theorem O6{α β:Type}{f g:α→Option β}:∀{l:List α},(∀x∈l,f x=g x)→Ao f l=Ao g l
 | [],_=>rfl
 |x::l,h=>by
  simp only[Ao];rw[h x (by simp),O6 (l:=l) fun y hy=>h y (by simp[hy])]
theorem LX{l:SL}{st s:St}{q:Eff×List SO×List CV}(ht:Bv E.named l st.fr=some q)(h:evR E A D l st=some s):
  ∃(c:CV) (hi:Nat→Ob),s={fr:=(st.set l.dst (.c c)).fr,ob:=fun i=>if tbase≤i then hi i else st.ob i}∧∀st',(∀i∈l.looks,st'.fr i=st.fr i)→(∀i,tbase≤i→st'.ob i=st.ob i)→Cl st'→
   evR E A D l st'=some {fr:=(st'.set l.dst (.c c)).fr,ob:=fun i=>if tbase≤i then hi i else st'.ob i}:=by
 obtain⟨hcl,hos,h⟩:=HJ h;have hT:=X2 ht;rw[Qz ht]at h;unfold CN at h;obtain⟨ls,h1,h⟩:=Ab.1 h;obtain⟨⟨c,H⟩,h2,h3⟩:=Ab.1 h
 have form:∀st0:St,Cl st0→(BU q.1.T H st0).set l.dst (.c c)={fr:=(st0.set l.dst (.c c)).fr,ob:=fun i=>if tbase≤i then hiT q.1.T H st0.ob i else st0.ob i}:=fun st0 h0=>by
  rw[X1 hT h0];cases l.dst<;>rfl
 refine⟨c,hiT q.1.T H st.ob, ?_,fun st' hf hh hcl'=> ?_⟩
 ·cases h3;exact form st hcl
 ·have ht':Bv E.named l st'.fr=some q:=by rw[Lj hf];exact ht
  refine Jv hcl' (by unfold okS;rw[L6 (Li ht)]) ?_;rw[Qz ht'];unfold CN
  have e1:Ao (fun x=>closed (so E.named.G st'.fr x)) q.2.1=Ao (fun x=>closed (so E.named.G st.fr x)) q.2.1:=O6 fun x hx=>by
   rw[EC (fr':=st.fr) x fun i hi=>hf i (V7 ht x hx i hi)]
  rw[e1,h1,Option.bind_some,Wh hT hh,h2,Option.bind_some,form st' hcl'];simp only[Ac,St.mk.injEq,true_and];funext i;split
  ·rename_i hi;simp only[hiT,hh i hi]
  ·rfl
theorem Py{st:St}(h:Cl st)(d:Option Nat)(c:CV)(hi:Nat→Ob):Cl {fr:=(st.set d (.c c)).fr,ob:=fun i=>if tbase≤i then hi i else st.ob i}:=by
 refine⟨fun i=> ?_,fun j hj=> ?_⟩
 ·cases d with
  |none=>exact h.fr i
  |some d=>
   show cl (upd st.fr d (.c c) i);rw[BL];split
   ·exact B9 c
   ·exact h.fr i
 ·show D9 (if tbase≤j then hi j else st.ob j);rw[if_neg (by omega)];exact h.ob j hj
def I7(d:Option Nat)(c:CV):SL:=⟨d,.mov (.k c),none⟩
theorem KK{L:St}{d:Option Nat}{c:CV}:evT E A D (I7 d c) L=some (L.set d (.c c)):=Eu rfl rfl
theorem JL{st:St}(d:Option Nat)(c:CV)(hi:Nat→Ob):low {fr:=(st.set d (.c c)).fr,ob:=fun i=>if tbase≤i then hi i else st.ob i}=(low st).set d (.c c):=by
 have e:(low st).set d (.c c)=low (st.set d (.c c)):=by cases d<;>rfl
 rw[e];simp only[low,St.mk.injEq,true_and];funext i;simp only[BB];split
 ·rfl
 ·cases d<;>rfl
theorem Mo{op:SOp}{D:List Nat}{i:Nat}(h:(hid op D).contains i=true):D.contains i=true:=by
 unfold hid at h;split at h
 ·simp only[List.contains_eq_mem,List.mem_filter,decide_eq_true_eq]at h⊢;exact h.1
 ·exact h
theorem PO{a b:SL}(q1:(a.dst.all fun d=> !b.looks.contains d&&b.dst !=some d)=true)(q2:(b.dst.all fun d=> !a.looks.contains d)=true)
  (q3:(a.op.hard=false∧b.op.hard=false∧(a.op.makes=true→(a.dst.all fun d=>(hid b.op D).contains d)=true)∧(b.op.makes=true→(b.dst.all fun d=>(hid a.op D).contains d)=true))∨(∃k,a.own A=none∧b.own A=some k∧a.op.hard=false∧(hid a.op D).contains k=true)∨(∃k,a.own A=some k∧b.own A=none∧b.op.hard=false∧(hid b.op D).contains k=true)):Cr A D a b=true:=by
 unfold Cr Fx;rw[q1,q2];rcases q3 with⟨h1,h2,h3,h4⟩|⟨k,h1,h2,h3,h4⟩|⟨k,h1,h2,h3,h4⟩
 ·rw[h1,h2]
  have e3:(!a.op.makes||(a.dst.all fun d=>(hid b.op D).contains d))=true:=by
   cases hm:a.op.makes with
   |false=>rfl
   |true=>rw[h3 hm];rfl
  have e4:(!b.op.makes||(b.dst.all fun d=>(hid a.op D).contains d))=true:=by
   cases hm:b.op.makes with
   |false=>rfl
   |true=>rw[h4 hm];rfl
  rw[e3,e4];rfl
 ·rw[h1,h2,h3];simp only[h4];simp
 ·rw[h1,h2,h3];simp only[h4];simp
theorem UE{a b:SL}(ha:a.op.calls=true)(h:Cr A D a b=true):(a.dst.all fun d=> !b.looks.contains d&&b.dst !=some d)=true∧(b.dst.all fun d=> !a.looks.contains d)=true∧
  ((b.op.hard=false∧(b.op.makes=true→(b.dst.all fun d=>(hid a.op D).contains d)=true))∨∃k,b.own A=some k∧(hid a.op D).contains k=true):=by
 have h1:a.op.grows=false:=by revert ha;cases a.op<;>simp[SOp.calls,SOp.grows]
 have h2:a.op.calm=false:=by revert ha;cases a.op<;>simp[SOp.calls,SOp.calm]
 have h3:a.op.still=false:=by revert ha;cases a.op<;>simp[SOp.calls,SOp.still]
 have h5:a.op.moves=false:=by revert ha;cases a.op<;>simp[SOp.calls,SOp.moves]
 have h6:a.op.loads=false:=by revert ha;cases a.op<;>simp[SOp.calls,SOp.loads]
 unfold Cr Fx at h;rw[L6 ha,L7 ha,h1,h2,h3,h5,h6]at h;simp only[Bool.not_false,Bool.true_and,Bool.false_and,Bool.and_false,Bool.or_false]at h;rw[Aj]at h;rcases h with h|h
 ·simp only[Af,Aj,Bool.not_eq_true']at h;refine⟨?_, ?_,.inl ⟨h.2.1.1,fun hm=> ?_⟩⟩
  ·simpa only[Af,Bool.not_eq_true']using h.1.1
  ·simpa only[Bool.not_eq_true']using h.1.2
  ·rcases h.2.2 with h4|h4
   ·rw[hm]at h4;cases h4
   ·exact h4
 ·rw[Af,Af]at h;refine⟨h.1.1,h.1.2,.inr ?_⟩;have h4:=h.2;split at h4
  ·rename_i hn _;cases hn
  ·rename_i hn _;cases hn
  ·rename_i k _ hb;exact⟨k,hb,h4⟩
  ·cases h4
theorem UF{a b:SL}(hb:b.op.calls=true)(h:Cr A D a b=true):(a.dst.all fun d=> !b.looks.contains d&&b.dst !=some d)=true∧(b.dst.all fun d=> !a.looks.contains d)=true∧
  ((a.op.hard=false∧(a.op.makes=true→(a.dst.all fun d=>(hid b.op D).contains d)=true))∨∃k,a.own A=some k∧(hid b.op D).contains k=true):=by
 have h1:b.op.entry=false:=by revert hb;cases b.op<;>simp[SOp.calls,SOp.entry]
 have h2:b.op.stores=false:=by revert hb;cases b.op<;>simp[SOp.calls,SOp.stores]
 have h3:b.op.tame=false:=by revert hb;cases b.op<;>simp[SOp.calls,SOp.tame]
 have h5:b.op.grows=false:=by revert hb;cases b.op<;>simp[SOp.calls,SOp.grows]
 have h6:b.op.puts=false:=by revert hb;cases b.op<;>simp[SOp.calls,SOp.puts]
 unfold Cr Fx at h;rw[L6 hb,L7 hb,h1,h2,h3,h5,h6]at h;simp only[Bool.not_false,Bool.true_and,Bool.false_and,Bool.and_false,Bool.or_false]at h;rw[Aj]at h;rcases h with h|h
 ·simp only[Af,Aj,Bool.not_eq_true']at h;refine⟨?_, ?_,.inl ⟨h.2.1,fun hm=> ?_⟩⟩
  ·simpa only[Af,Bool.not_eq_true']using h.1.1
  ·simpa only[Bool.not_eq_true']using h.1.2
  ·rcases h.2.2.1 with h4|h4
   ·rw[hm]at h4;cases h4
   ·exact h4
 ·rw[Af,Af]at h;refine⟨h.1.1,h.1.2,.inr ?_⟩;have h4:=h.2;split at h4
  ·rename_i hn;cases hn
  ·rename_i k ha _;exact⟨k,ha,h4⟩
  ·rename_i hn;cases hn
  ·cases h4
theorem OB{d:Option Nat}{op:SOp}(h:(d.all fun d=>(hid op D).contains d)=true):(d.all fun d=>D.contains d)=true:=by
 cases d with
 |none=>rfl
 |some d=>exact Mo h
theorem UG{a b:SL}(ha:a.op.calls=true)(c:CV)(h:Cr A D a b=true):Cr A D (I7 a.dst c) b=true:=by
 obtain⟨q1,q2,q3⟩:=UE ha h;refine PO q1 (by cases b.dst<;>rfl) ?_;rcases q3 with⟨q3,q4⟩|⟨k,q3,q4⟩
 ·exact .inl ⟨rfl,q3,fun hm=>(by cases hm),fun hm=>OB (q4 hm)⟩
 ·exact .inr (.inl ⟨k,rfl,q3,rfl,Mo q4⟩)
theorem UH{a b:SL}(hb:b.op.calls=true)(c:CV)(h:Cr A D a b=true):Cr A D a (I7 b.dst c)=true:=by
 obtain⟨q1,q2,q3⟩:=UF hb h;refine PO ?_ q2 ?_
 ·cases ha:a.dst with
  |none=>rfl
  |some d=>
   rw[ha]at q1;simp only[Option.all_some,Af]at q1⊢;exact⟨rfl,q1.2⟩
 ·rcases q3 with⟨q3,q4⟩|⟨k,q3,q4⟩
  ·exact .inl ⟨q3,rfl,fun hm=>OB (q4 hm),fun hm=>(by cases hm)⟩
  ·exact .inr (.inr ⟨k,q3,rfl,rfl,Mo q4⟩)
theorem RZ{st:St}{d:Option Nat}{v:SV}{i:Nat}(h:d≠some i):(st.set d v).fr i=st.fr i:=by
 cases d with
 |none=>rfl
 |some d=>exact upd_ne _ _ (fun e=>h (by rw[e]))
theorem MH{s t:St}(h1:low s=low t)(h2:∀i,tbase≤i→s.ob i=t.ob i):s=t:=by
 obtain⟨f1,o1⟩:=s;obtain⟨f2,o2⟩:=t;simp only[low,St.mk.injEq]at h1;simp only[St.mk.injEq];refine⟨h1.1,funext fun i=> ?_⟩;by_cases hi:tbase≤i
 ·exact h2 i hi
 ·have:=congrFun h1.2 i;simp only[BB,if_neg hi]at this;exact this
theorem Xk{a b:SL}(hf:Cr A D a b=true)(hcc:(a.op.calls&&b.op.calls)=false)(la:DQ A D a)(lb:DQ A D b){st s1 s2:St}(h1:evR E A D a st=some s1)(h2:evR E A D b s1=some s2):∃s,evR E A D b st=some s∧evR E A D a s=some s2:=by
 have hcl:Cl st:=(HJ h1).1
 have g1:(a.dst.all fun d=> !b.looks.contains d&&b.dst !=some d)=true∧(b.dst.all fun d=> !a.looks.contains d)=true:=by
  unfold Cr Fx at hf;rw[Aj]at hf;rcases hf with hf|hf
  ·rw[Af,Af]at hf;exact hf.1
  ·rw[Af,Af]at hf;exact hf.1
 have hab:∀i∈b.looks,a.dst≠some i:=fun i hi e=>by
  have:=g1.1;rw[e]at this;simp[hi]at this
 have hba:∀i∈a.looks,b.dst≠some i:=fun i hi e=>by
  have:=g1.2;rw[e]at this;simp[hi]at this
 cases ha:Bv E.named a st.fr with
 |some q=>
  have hac:=Li ha;have hbc:b.op.calls=false:=by rw[hac]at hcc;simpa using hcc
  have hbt:∀fr,Bv E.named b fr=none:=fun fr=>by
   cases ht:Bv E.named b fr with
   |none=>rfl
   |some q'=>have:=Li ht;rw[hbc]at this;cases this
  obtain⟨c,hi,rfl,hform⟩:=LX ha h1;obtain⟨k1,k2⟩:=JT lb (hbt _) h2;rw[JL]at k1;have hset:evT E.named A D (I7 a.dst c) (low st)=some ((low st).set a.dst (.c c)):=KK;obtain⟨t,t1,t2⟩:=Jy (UG hac c hf) (fun hm=>by cases hm) lb.makes hset k1;rw[KK,Ac]at t2;obtain⟨m1,m2⟩:=JU lb hcl (hbt _) t1;have hcs:Cl (merge t st):=MY lb (hbt _) m1;refine⟨merge t st,m1, ?_⟩;rw[hform (merge t st) (fun i hi'=>JS lb t1 (hba i hi')) (fun i hi'=>by show(if tbase≤i then st.ob i else t.ob i)=_;rw[if_pos hi']) hcs,Ac];refine MH ?_ fun i hi'=> ?_
  ·rw[JL,m2,t2]
  ·rw[k2 i hi'];show(if tbase≤i then hi i else(merge t st).ob i)=if tbase≤i then hi i else st.ob i;rw[if_pos hi',if_pos hi']
 |none=>
  obtain⟨j1,j2⟩:=JT la ha h1;have hfa:∀i∈b.looks,s1.fr i=st.fr i:=fun i hi=>JS la j1 (hab i hi)
  cases hb:Bv E.named b s1.fr with
  |none=>
   obtain⟨k1,k2⟩:=JT lb hb h2;obtain⟨t,t1,t2⟩:=Jy hf la.makes lb.makes j1 k1;have hb':Bv E.named b st.fr=none:=by rw[←Lj hfa];exact hb
   obtain⟨m1,m2⟩:=JU lb hcl hb' t1;have hcs:Cl (merge t st):=MY lb hb' m1
   have ha':Bv E.named a (merge t st).fr=none:=by
    rw[Lj (fr':=st.fr) (show ∀i∈a.looks,(merge t st).fr i=st.fr i from fun i hi=>JS lb t1 (hba i hi))];exact ha
   rw[←m2]at t2;obtain⟨n1,n2⟩:=JU la hcs ha' t2;refine⟨merge t st,m1, ?_⟩;rw[n1,Ac];refine MH n2 fun i hi=> ?_;rw[k2 i hi,j2 i hi];show(if tbase≤i then(if tbase≤i then st.ob i else t.ob i)else _)=_;rw[if_pos hi,if_pos hi]
  |some q=>
   have hbc:=Li hb;obtain⟨c,hi,rfl,hform⟩:=LX hb h2;have hset:evT E.named A D (I7 b.dst c) (low s1)=some ((low s1).set b.dst (.c c)):=KK;obtain⟨t,t1,t2⟩:=Jy (UH hbc c hf) la.makes (fun hm=>by cases hm) j1 hset;rw[KK,Ac]at t1;subst t1;have m1:=hform st (fun i hi=>(hfa i hi).symm) (fun i hi=>(j2 i hi).symm) hcl;refine⟨_,m1, ?_⟩;have hcs:=Py hcl b.dst c hi
   have ha':Bv E.named a (st.set b.dst (.c c)).fr=none:=by
    rw[Lj (fr':=st.fr) fun i hi=>RZ (hba i hi)];exact ha
   rw[←JL b.dst c hi]at t2;obtain⟨n1,n2⟩:=JU la hcs ha' t2;rw[n1,Ac];refine MH ?_ fun i hi'=> ?_
   ·rw[n2,JL]
   ·show(if tbase≤i then(if tbase≤i then hi i else st.ob i)else _)=if tbase≤i then hi i else s1.ob i;rw[if_pos hi',if_pos hi',if_pos hi']
end
def CT(step:SL→St→Option St)(ls:List SL):List Nat→St→Option St
 | [],st=>some st
 |i::is,st=>match ls[i]? with
  |some l=>(step l st).bind (CT step ls is)
  |none=>none
section
variable {step:SL→St→Option St} {R:SL→SL→Prop} {ops:Array Oper} {ls:List SL}
theorem QA(hsw:∀a b st s1 s2,R a b→step a st=some s1→step b s1=some s2→∃s,step b st=some s∧step a s=some s2){i:Nat}{b:SL}(hb:ls[i]? =some b)(q:List Nat):∀(p:List Nat) {st st':St},(∀j∈p,∃a,ls[j]? =some a∧R a b)→CT step ls (p++i::q) st=some st'→CT step ls (i::(p++q)) st=some st'
 | [],_,_,_,h=>h
 |j::p,st,st',hf,h=>by
  obtain⟨a,ha,hfr⟩:=hf j (by simp);simp only[List.cons_append,CT,ha,Ab]at h;obtain⟨s1,h1,h2⟩:=h;have h3:=QA hsw hb q p (fun j hj=>hf j (by simp[hj])) h2;simp only[CT,hb,Ab]at h3;obtain⟨s2,h3,h4⟩:=h3;obtain⟨s,g1,g2⟩:=hsw a b st s1 s2 hfr h1 h3;simp only[List.cons_append,CT,hb,ha,g1,g2,Option.bind_some,h4]
theorem UW(hsw:∀a b st s1 s2,R a b→step a st=some s1→step b s1=some s2→∃s,step b st=some s∧step a s=some s2)(hlen:ls.length=ops.size)
  (hfree:∀j<ls.length,∀i<j,Fl ops ls.length i j=true∨∃x y,ls[i]? =some x∧ls[j]? =some y∧R x y) {L:Array Bool} {is:List Nat} (hg:Cp ops L is):
  (∀i o,L.getD i false=true→ops[i]? =some o→∀e∈o.after,Region.binds .any e=true→L.getD e.on false=true)→L.size=ops.size→∀{st st':St},CT step ls (left ops.size L) st=some st'→CT step ls is st=some st':=by
 induction hg with
 |nil h=>
  intro _ _ st st' hv;rw[h]at hv;exact hv
 | @cons L i is hi hL he hg ih=>
  intro hdown hsz st st' hv;obtain⟨p,q,e1,e2,e3⟩:=JC ops.size L i hi hL;have hb:ls[i]? =some (ls[i]'(by omega)):=Ai _;rw[e1]at hv
  have hv':=QA hsw hb q p (fun j hj=>by
   obtain⟨hji,hjL⟩:=e3 j hj;rcases hfree i (by omega) j hji with ha|⟨x,y,hx,hy,hf⟩
   ·have:=IN hdown _ j i he ha;have hjs:j<L.size:=by omega
    simp[Array.getD_eq_getD_getElem?,Array.getElem?_eq_getElem hjs]at this hjL;rw[this]at hjL;cases hjL
   ·rw[hb]at hy;cases hy
    exact⟨x,hx,hf⟩) hv
  simp only[CT,hb,Ab]at hv'⊢;obtain⟨s,h1,h2⟩:=hv';refine⟨s,h1,ih ?_ (by simp[hsz]) (by rw[e2];exact h2)⟩;intro k o hk ho e hem heb;rw[GH L i _ _ hL]at hk⊢;split
  ·rfl
  ·split at hk
   ·rename_i e';subst e';exact he o ho e hem heb
   ·exact hdown k o hk ho e hem heb
end
def M9(A:List Nat)(l:SL):Bool:=(!l.op.hard||(match l.own A with
 |some k=>Nat.blt k tbase
 |none=>false))&&l.dst.all fun j=>Nat.blt j tbase
def Jo(P:Program)(ops:Array Oper)(A D:List Nat)(ls:List SL):Bool:=
 (ls.any fun l=>l.op.calls)&&(ls.all (M9 A))&&C0 P ops A D ls&&
 ((List.range ls.length).all fun j=>match ls[j]? with
   |some y=> !y.op.calls||(List.range j).all fun i=>((Dg ops ls.length).getD j 0).testBit i||match ls[i]? with
    |some x=> !x.op.calls
    |none=>false
   |none=>false)
section
variable {P:Program} {E:Env} {n:Nat} {ops:Array Oper} {A D:List Nat} {ls:List SL}
theorem Vv{l:SL}(h:M9 A l=true)(hm:l.op.makes=true→∀j,l.dst=some j→D.contains j=true):DQ A D l:=by
 simp only[M9,Af,Aj,Bool.not_eq_true']at h;refine⟨fun hh=> ?_,fun j hj=> ?_,hm⟩
 ·rcases h.1 with h1|h1
  ·rw[hh]at h1;cases h1
  ·split at h1
   ·rename_i k hk;exact⟨k,hk,Nat.lt_of_succ_le (Ah h1)⟩
   ·cases h1
 ·have:=h.2;rw[hj]at this;exact Nat.lt_of_succ_le (Ah this)
noncomputable def lsR(E:Env)(A D:List Nat):List SL→St→Option St
 | [],st=>some st
 |l::ls,st=>(evR E A D l st).bind (lsR E A D ls)
theorem X5{l:SL}{st s:St}{a:Nat}(hl:l.own A=some a)(h:C1 E D l st=some s)(hf:st.fr a=.undef):False:=by
 obtain⟨n,x,h1,h2⟩:=F5 hl;unfold C1 Bg at h;rw[h2]at h;simp only[h1,Aw,SOp.cls,A6]at h;rw[show so E.G st.fr (.t a)=.undef from hf]at h;cases h
theorem QY:∀(ls:List SL) (m:List Nat) {st s:St},(∀l∈ls,DQ A D l)→(∀a∈m,st.fr a=.ptr a 0∨st.fr a=.undef)→Cl st→Hg A m ls=true→Fw E.named D ls st=some s→lsR E A D ls st=some s
 | [],_,_,_,_,_,_,_,h=>h
 |l::ls,m,st,s,hok,hm,hcl,hk,h=>by
  simp only[Fw,Ab]at h;obtain⟨s1,h1,h2⟩:=h;simp only[Hg,Af]at hk;obtain⟨k1,k2⟩:=hk;have hlo:=hok l (by simp)
  have hos:okS A l st=true:=by
   unfold okS
   cases hl:l.own A with
   |none=>rfl
   |some a=>
    rw[hl]at k1;simp only[List.contains_iff_mem]at k1;rcases hm a k1 with e|e
    ·simp[e]
    ·exact(X5 hl h1 e).elim
  have hev:=Jv hcl hos h1;simp only[lsR,hev,Option.bind_some]
  have hnext:Cl s1∧(∀i,l.dst≠some i→s1.fr i=st.fr i):=by
   cases ht:Bv E.named l st.fr with
   |none=>
    refine⟨MY hlo ht hev,fun i hi=> ?_⟩;exact JS hlo (JT hlo ht hev).1 hi
   |some q=>
    obtain⟨c,hi,rfl,_⟩:=LX ht hev;exact⟨Py hcl _ _ _,fun i hd=>RZ hd⟩
  refine QY ls _ (fun l hl=>hok l (by simp[hl])) ?_ hnext.1 k2 h2
  have hkeep:∀a∈m,l.dst≠some a→s1.fr a=.ptr a 0∨s1.fr a=.undef:=by
   intro a ha hd;rw[hnext.2 a hd];exact hm a ha
  intro a ha;unfold MU at ha;split at ha
  ·rename_i z d g1 g2 g3;by_cases had:a=d
   ·subst had;unfold C1 Bg at h1;simp only[g2,g1,Aw,SOp.cls,AT,Option.bind_some,g3,Option.getD_some,AU]at h1;split at h1
    ·cases h1;exact .inl (upd_same _ _ _)
    ·cases h1
   ·rcases List.mem_cons.1 ha with e|e
    ·exact(had e).elim
    ·exact hkeep a e (fun hh=>had (by rw[g3]at hh;cases hh;rfl))
  ·rename_i d g2 g1;rw[List.mem_filter]at ha;exact hkeep a ha.1 (fun hh=>by rw[g2]at hh;cases hh;simp at ha)
  ·rename_i g1;exact hkeep a ha (fun hh=>by rw[g1]at hh;cases hh)
theorem Q0:∀(ls:List SL) (pre:List SL) (st:St),CT (evR E A D) (pre++ls) (List.range' pre.length ls.length) st=lsR E A D ls st
 | [],_,_=>rfl
 |l::ls,pre,st=>by
  have h:=Q0 ls (pre++ [l]);simp only[List.length_append,List.length_cons,List.length_nil,List.append_assoc,List.cons_append,List.nil_append]at h;simp only[List.length_cons,List.range'_succ,CT,lsR];rw[show(pre++l::ls)[pre.length]? =some l by simp];simp only
  congr 1
  funext s;exact h s
theorem Ud(hc:Ao (Dc P n ops) ops.toList=some ls)(hd:Jo P ops A D ls=true){st st':St}(hcl:Cl st)(hv:Fw E.named D ls st=some st')(t:Nat):
  CT (evR E A D) ls (Region.schedule (P.follows .mixedOrders) ops t) st=some st':=by
 have hlen:ls.length=ops.size:=by rw[CY hc];simp
 simp only[Jo,Af]at hd;obtain⟨⟨⟨_,hlb⟩,hdo⟩,hcb⟩:=hd;simp only[C0,Af]at hdo;obtain⟨⟨⟨⟨hm,hown⟩,hback⟩,hmk⟩,hfr⟩:=hdo
 have hmk':∀l∈ls,l.op.makes=true→∀j,l.dst=some j→D.contains j=true:=by
  intro l hl hmake j hj;rw[List.all_eq_true]at hmk;have:=hmk l hl;simpa[hmake,hj]using this
 have hok:∀l∈ls,DQ A D l:=fun l hl=>by
  rw[List.all_eq_true]at hlb;exact Vv (hlb l hl) (hmk' l hl)
 have hv:=QY ls [] hok (by simp) hcl hown hv;simp only[Region.schedule,hm,Bool.true_or,if_true,Region.linearise]
 have hleft:left ops.size (Array.replicate ops.size false)=List.range ops.size:=by
  simp only[left];rw[List.filter_eq_self];intro i hi;have:=List.mem_range.1 hi;simp[Array.getD_eq_getD_getElem?,this]
 have hback':∀i o,ops[i]? =some o→∀e∈o.after,Region.binds .any e=true→e.on<i:=by
  intro i o ho e he hb;rw[List.all_eq_true]at hback
  have hmem:(o,i)∈ops.toList.zipIdx:=by
   rw[List.mem_zipIdx_iff_getElem?];simpa using ho
  have:=hback _ hmem;rw[Array.all_eq_true']at this;have:=this e he;simpa[hb]using this
 refine UW (R:=fun a b=>Cr A D a b=true∧(a.op.calls&&b.op.calls)=false∧DQ A D a∧DQ A D b) (fun a b st s1 s2 hR h1 h2=>Xk hR.1 hR.2.1 hR.2.2.1 hR.2.2.2 h1 h2) hlen ?_ (Ic hback' ops.size t _ (by simp) (by rw[hleft];simp)) ?_ (by simp) ?_
 ·intro j hj i hij;rw[List.all_eq_true]at hfr hcb;have h1:=hfr j (List.mem_range.2 hj);rw[List.all_eq_true]at h1;have h1:=h1 i (List.mem_range.2 hij);rw[Aj]at h1;rcases h1 with h|h
  ·rw[F2 ops hj]at h;exact .inl (GZ ops hj h)
  ·have hcj:=hcb j (List.mem_range.2 hj);split at h
   ·rename_i x y hx hy;rw[hy]at hcj;simp only[Aj,Bool.not_eq_true',List.all_eq_true]at hcj;have hx':=List.mem_of_getElem? hx;have hy':=List.mem_of_getElem? hy;rcases hcj with hcj|hcj
    ·exact .inr ⟨x,y,hx,hy,h,by rw[hcj,Bool.and_false],hok x hx',hok y hy'⟩
    ·rcases hcj i (List.mem_range.2 hij)with h2|h2
     ·rw[F2 ops hj]at h2;exact .inl (GZ ops hj h2)
     ·rw[hx]at h2;simp only[Bool.not_eq_true']at h2;exact .inr ⟨x,y,hx,hy,h,by rw[h2,Bool.false_and],hok x hx',hok y hy'⟩
   ·cases h
 ·intro i o hi;exfalso;rw[Array.getD_eq_getD_getElem?,Array.getElem?_replicate]at hi;split at hi<;>cases hi
 ·rw[hleft,List.range_eq_range',←hlen];have:=Q0 (E:=E) (A:=A) (D:=D) ls [] st;simp only[List.nil_append,List.length_nil]at this;rw[this];exact hv
variable {w0:WL} {M0:MM}
theorem RU(hE:EOk P E)(hc:Ao (Dc P n ops) ops.toList=some ls){Q:Exit→Act→World→Prop}:∀{is:List Nat} {st st':St} {a:Act} {w:World} {z:Cz},SR P E.G w0 M0 n st a w z→
  CT (evR E A D) ls is st=some st'→(∀a' w' z',SR P E.G w0 M0 n st' a' w' z'→Q .normal a' w')→wpOps P ops Q is a w
 | [],st,st',a,w,z,h,hv,hK=>by
  simp only[CT,Ac]at hv;subst hv;exact hK _ _ _ h
 |i::is,st,st',a,w,z,h,hv,hK=>by
  simp only[CT]at hv;split at hv<;>(try cases hv;done);rename_i l hl;simp only[Ab]at hv;obtain⟨st1,h1,h2⟩:=hv;have hlen:=CY hc;have hi:i<ops.toList.length:=by rw[←hlen];exact(Ae.1 hl).1
  have ho:ops.toList[i]? =some (ops.toList[i]):=Ai hi;obtain⟨l',g1,g2⟩:=H0 hc ho;rw[hl]at g1;simp only[Ac]at g1;subst g1;have ho':ops[i]? =some (ops.toList[i]):=by rw[←Array.getElem?_toList];exact ho
  obtain⟨hcl,_,h1⟩:=HJ h1;refine PB (E:=E.named) hE.named h (rd:=A0 (some (hid l.op D)) (BB st.ob)) (fun id=> ?_) ho' g2 h1 fun a' w' z' hS=>RU hE hc hS h2 hK;simp only[A0,BB];split
  ·exact .inl rfl
  ·split
   ·exact .inl rfl
   ·exact .inr rfl
end
def pos(π:List Nat)(i:Nat):Nat:=π.idxOf i
def Hm(π:List Nat)(o:Oper):Oper:={o with after:=o.after.map fun e=>{e with on:=pos π e.on}}
def F7(π:List Nat)(ops:Array Oper):Array Oper:=(π.filterMap fun i=>(ops[i]?).map (Hm π)).toArray
def permL(π:List Nat)(ls:List SL):List SL:=π.filterMap fun i=>ls[i]?
def F6(π:List Nat)(L:Array Bool):Array Bool:=(π.map fun j=>L.getD j true).toArray
def C3(n:Nat)(π:List Nat):Bool:=π.length==n&&((List.range n).all fun k=>π.contains k&&Nat.blt (π.getD k n) n&&pos π (π.getD k n)==k)
theorem Me{α β:Type}{f:α→Option β}:∀{l:List α},(∀x∈l,(f x).isSome=true)→∀k:Nat,(l.filterMap f)[k]? =(l[k]?).bind f
 | [],_,k=>by simp
 |x::l,h,k=>by
  obtain⟨y,hy⟩:=Option.isSome_iff_exists.1 (h x (by simp));rw[List.filterMap_cons_some hy]
  cases k with
  |zero=>simp[hy]
  |succ k=>simpa using Me (fun z hz=>h z (by simp[hz])) k
section
variable {n:Nat} {π:List Nat}
theorem Gp(hp:C3 n π=true):π.length=n:=by
 simp only[C3,Af,beq_iff_eq]at hp;exact hp.1
theorem Kw(hp:C3 n π=true){k:Nat}(hk:k<n):∃j,π[k]? =some j∧j<n∧pos π j=k:=by
 have hlen:=Gp hp;simp only[C3,Af,List.all_eq_true,List.mem_range]at hp;have h:=hp.2 k hk;have e:π[k]? =some (π[k]'(by omega)):=Ai _;simp only[List.getD_eq_getElem?_getD,e,Option.getD_some,beq_iff_eq]at h;exact⟨_,e,by simpa using h.1.2,h.2⟩
theorem Wn(hp:C3 n π=true){i:Nat}(hi:i<n):i∈π:=by
 simp only[C3,Af,List.all_eq_true,List.mem_range]at hp;simpa using(hp.2 i hi).1.1
theorem It(hp:C3 n π=true){i:Nat}(hi:i<n):pos π i<n∧π[pos π i]? =some i:=by
 have h:=Wn hp hi;have h1:π.idxOf i<π.length:=List.idxOf_lt_length_iff.2 h;refine⟨by rw[←Gp hp];exact h1, ?_⟩;unfold pos;rw[Ai h1,List.getElem_idxOf]
theorem Kx(hp:C3 n π=true){j:Nat}(h:j∈π):j<n:=by
 obtain⟨k,hk⟩:=List.getElem?_of_mem h;have hkn:k<n:=by rw[←Gp hp];exact(Ae.1 hk).1
 obtain⟨j',h1,h2,_⟩:=Kw hp hkn;rw[hk]at h1;cases h1;exact h2
theorem Nq(hp:C3 n π=true){L:Array Bool}{i:Nat}(hi:i<n)(b:Bool)(hL:L.size=n):(F6 π L).getD (pos π i) b=L.getD i b:=by
 obtain⟨h1,h2⟩:=It hp hi;simp[F6,Array.getD_eq_getD_getElem?,h2,Array.getElem?_eq_getElem (show i<L.size by omega)]
theorem Wj(hp:C3 n π=true){L:Array Bool}{i:Nat}(hi:i<n)(hL:L.getD i true=false):F6 π (L.setIfInBounds i true)=(F6 π L).setIfInBounds (pos π i) true:=by
 obtain⟨h1,h2⟩:=It hp hi;have hlen:=Gp hp;apply Array.ext_getElem?;intro k;simp only[F6,List.getElem?_toArray,List.getElem?_map,Array.getElem?_setIfInBounds,List.size_toArray,List.length_map];by_cases hk:k<n
 ·obtain⟨j,g1,g2,g3⟩:=Kw hp hk;simp only[g1,Option.map_some,GH L i j true hL];by_cases hj:j=i
  ·subst hj;simp[g3,hlen,hk]
  ·have:¬pos π i=k:=fun e=>hj (by rw[e,g1]at h2;exact Option.some.inj h2);simp[hj,this]
 ·have e:π[k]? =none:=List.getElem?_eq_none (by omega);have:¬pos π i=k:=by omega
  simp[e,this]
end
theorem Wm{π:List Nat}{ops:Array Oper}(hp:C3 ops.size π=true){i:Nat}(hi:i<ops.size):(F7 π ops)[pos π i]? =(ops[i]?).map (Hm π):=by
 obtain⟨h1,h2⟩:=It hp hi;simp only[F7,List.getElem?_toArray];rw[Me (fun x hx=> ?_),h2]
 ·rfl
 ·have:=Kx hp hx;simp[Array.getElem?_eq_getElem this]
theorem Kv{π:List Nat}{ops:Array Oper}(hp:C3 ops.size π=true):(F7 π ops).size=ops.size:=by
 have h:(π.filterMap fun i=>(ops[i]?).map (Hm π)).length=π.length:=by
  have:∀(l:List Nat),(∀x∈l,x<ops.size)→(l.filterMap fun i=>(ops[i]?).map (Hm π)).length=l.length:=by
   intro l
   induction l with
   |nil=>intro _;rfl
   |cons x l ih=>
    intro h;rw[List.filterMap_cons_some (b:=Hm π (ops[x]'(h x (by simp)))) (by simp[Array.getElem?_eq_getElem (h x (by simp))])];simp[ih fun y hy=>h y (by simp[hy])]
  exact this π fun x hx=>Kx hp hx
 simp only[F7,List.size_toArray,h,Gp hp]
theorem UV{π:List Nat}{ops:Array Oper}(hp:C3 ops.size π=true){L:Array Bool}{is:List Nat}(hg:Cp ops L is):L.size=ops.size→Cp (F7 π ops) (F6 π L) (is.map (pos π)):=by
 induction hg with
 | @nil L h=>
  intro hs;refine .nil ?_;simp only[left]at h⊢;rw[List.filter_eq_nil_iff]at h⊢;intro k hk;rw[List.mem_range,Kv hp]at hk;obtain⟨j,g1,g2,g3⟩:=Kw hp hk;have:=h j (List.mem_range.2 g2);rw[←g3,Nq hp g2 _ hs];exact this
 | @cons L i is hi hL he hg ih=>
  intro hs;have hq:=It hp hi;refine .cons (by rw[Kv hp];exact hq.1) (by rw[Nq hp hi _ hs];exact hL) ?_ ?_
  ·intro o' ho' e' he' hb;rw[Wm hp hi]at ho';obtain⟨o,ho,rfl⟩:=Aa.1 ho';simp only[Hm,Array.mem_map]at he';obtain⟨e,hem,rfl⟩:=he';have h1:=he o ho e hem hb
   have h2:e.on<ops.size:=by
    rw[←hs];rw[Array.getD_eq_getD_getElem?]at h1;by_cases hh:e.on<L.size
    ·exact hh
    ·simp[Array.getElem?_eq_none (Nat.le_of_not_lt hh)]at h1
   rw[Nq hp h2 _ hs];exact h1
  ·rw[←Wj hp hi hL];exact ih (by simp[hs])
section
variable {P:Program} {E:Env} {ops:Array Oper} {A D:List Nat} {ls:List SL}
theorem Td(h:(ops.toList.zipIdx.all fun p=>p.1.after.all fun e=> !(Region.binds .any e)||decide (e.on<p.2))=true):∀i o,ops[i]? =some o→∀e∈o.after,Region.binds .any e=true→e.on<i:=by
 intro i o ho e he hb;rw[List.all_eq_true]at h
 have hmem:(o,i)∈ops.toList.zipIdx:=by
  rw[List.mem_zipIdx_iff_getElem?];simpa using ho
 have:=h _ hmem;rw[Array.all_eq_true']at this;have:=this e he;simpa[hb]using this
theorem M7(n:Nat):left n (Array.replicate n false)=List.range n:=by
 simp only[left];rw[List.filter_eq_self];intro i hi;have:=List.mem_range.1 hi;simp[Array.getD_eq_getD_getElem?,this]
theorem Pw(hlen:ls.length=ops.size)(hd:C0 P ops A D ls=true){st st':St}(hv:BA E (some D) ls st=some st'){is:List Nat}(hg:Cp ops (Array.replicate ops.size false) is):
  BP E (some D) ls is st=some st':=by
 simp only[C0,Af]at hd;obtain⟨⟨⟨⟨hm,hown⟩,hback⟩,hmk⟩,hfr⟩:=hd;have hv:=Nk ls [] (by simp) hown hv;refine KJ (A:=A) _ ?_;refine Mn hlen ?_ hg ?_ (by simp) ?_ ?_
 ·intro j hj i hij;rw[List.all_eq_true]at hfr;have:=hfr j (List.mem_range.2 hj);rw[List.all_eq_true]at this;have:=this i (List.mem_range.2 hij);rw[Aj]at this;rcases this with h|h
  ·rw[F2 ops hj]at h;exact .inl (GZ ops hj h)
  ·refine .inr ?_;split at h
   ·rename_i x y hx hy;exact⟨x,y,hx,hy,h⟩
   ·cases h
 ·intro i o hi;exfalso;rw[Array.getD_eq_getD_getElem?,Array.getElem?_replicate]at hi;split at hi<;>cases hi
 ·intro k _ l hl hmake j hj;rw[List.all_eq_true]at hmk;have:=hmk l (List.mem_of_getElem? hl);simpa[hmake,hj]using this
 ·rw[M7,List.range_eq_range',←hlen];have:=JM (E:=E) (A:=A) (D:=D) ls [] st;simp only[List.nil_append,List.length_nil]at this;rw[this];exact hv
def M5(ops:Array Oper)(ls:List SL):Nat→List Nat→List Nat
 |0,π=>π.reverse
 |k+1,π=>
  let ready:=(List.range ls.length).filter fun i=> !π.contains i&&((ops[i]?).map fun o=>o.after.all fun e=> !(Region.binds .any e)||π.contains e.on).getD false
  match ready.find? fun i=>(ls[i]?).all fun l=>match l.op with| .load .. =>false|_=>true with
  |some i=>M5 ops ls k (i::π)
  |none=>match ready with
   |i::_=>M5 ops ls k (i::π)
   | []=>π.reverse
def HY(ops:Array Oper)(ls:List SL):List Nat:=M5 ops ls ls.length []
def Tc(ops:Array Oper):Bool:=ops.toList.zipIdx.all fun p=>p.1.after.all fun e=> !(Region.binds .any e)||decide (e.on<p.2)
def LW(P:Program)(ops:Array Oper)(π A D:List Nat)(ls:List SL):Bool:=C3 ops.size π&&Tc ops&&C0 P (F7 π ops) A D (permL π ls)
theorem PW{L:Array Bool}{is:List Nat}(hg:Cp ops L is):∀i∈is,i<ops.size:=by
 induction hg with
 |nil h=>intro i hi;cases hi
 |cons hi _ _ _ ih=>
  intro j hj;rcases List.mem_cons.1 hj with rfl|hj
  ·exact hi
  ·exact ih j hj
theorem Wk{π:List Nat}(hlen:ls.length=ops.size)(hp:C3 ops.size π=true){i:Nat}(hi:i<ops.size):(permL π ls)[pos π i]? =ls[i]? :=by
 obtain⟨h1,h2⟩:=It hp hi;unfold permL;rw[Me (fun x hx=> ?_),h2]
 ·rfl
 ·have:=Kx hp hx;simp[Ai (show x<ls.length by omega)]
theorem Wl{π:List Nat}(hlen:ls.length=ops.size)(hp:C3 ops.size π=true):(permL π ls).length=ops.size:=by
 have:∀(l:List Nat),(∀x∈l,x<ls.length)→(l.filterMap fun i=>ls[i]?).length=l.length:=by
  intro l
  induction l with
  |nil=>intro _;rfl
  |cons x l ih=>
   intro h;rw[List.filterMap_cons_some (Ai (h x (by simp)))];simp[ih fun y hy=>h y (by simp[hy])]
 rw[←Gp hp];exact this π fun x hx=>by rw[hlen];exact Kx hp hx
theorem RV{π:List Nat}(hlen:ls.length=ops.size)(hp:C3 ops.size π=true):∀(is:List Nat) (st:St),(∀i∈is,i<ops.size)→BP E (some D) (permL π ls) (is.map (pos π)) st=BP E (some D) ls is st
 | [],_,_=>rfl
 |i::is,st,h=>by
  simp only[List.map_cons,BP,Wk hlen hp (h i (by simp))];split
  ·congr 1
   funext s;exact RV hlen hp is s fun j hj=>h j (by simp[hj])
  ·rfl
theorem Ue{n:Nat}(hc:Ao (Dc P n ops) ops.toList=some ls){π:List Nat}(hd:LW P ops π A D ls=true){st st':St}(hv:BA E (some D) (permL π ls) st=some st')(t:Nat):
  BP E (some D) ls (Region.schedule (P.follows .mixedOrders) ops t) st=some st':=by
 have hlen:ls.length=ops.size:=by rw[CY hc];simp
 simp only[LW,Af]at hd;obtain⟨⟨hp,hb⟩,hd⟩:=hd
 have hm:P.follows .mixedOrders=true:=by
  have h:=hd;simp only[C0,Af]at h;exact h.1.1.1.1
 simp only[Region.schedule,hm,Bool.true_or,if_true,Region.linearise];have hg:=Ic (Td hb) ops.size t (Array.replicate ops.size false) (by simp) (by rw[M7];simp);have hg':=UV hp hg (by simp)
 have hA:F6 π (Array.replicate ops.size false)=Array.replicate (F7 π ops).size false:=by
  rw[Kv hp];apply Array.ext_getElem?;intro k;simp only[F6,List.getElem?_toArray,List.getElem?_map,Array.getElem?_replicate];by_cases hk:k<ops.size
  ·obtain⟨j,g1,g2,_⟩:=Kw hp hk;simp[g1,hk,Array.getD_eq_getD_getElem?,g2]
  ·have e:π[k]? =none:=List.getElem?_eq_none (by rw[Gp hp];omega);simp[e,hk]
 rw[hA]at hg';have h:=Pw (E:=E) (by rw[Wl hlen hp,Kv hp]) hd hv hg';rw[RV hlen hp _ _ (PW hg)]at h;exact h
end
def LO(P:Program)(ops:Array Oper)(A D:List Nat)(ls:List SL)(c:Nat):Bool:=
 C0 P ops A D ls&&C0 P (ops.extract 0 c) A D (ls.take c)&&Nat.blt c ops.size&&
 (List.range ls.length).all fun j=>Nat.blt j c||(List.range c).all fun i=>((Dg ops ls.length).getD j 0).testBit i
def TS(ls:List SL):Option Nat:=
 match ls.findIdx? fun l=>l.op.calls with
 |some c=>if(ls.take c).any fun l=>match l.op with| .mkmap .. =>true|_=>false then some c else none
 |none=>none
def DT(c n:Nat):Array Bool:=Array.replicate c true++Array.replicate (n-c) false
theorem Mg{c n:Nat}(h:c≤n):(DT c n).size=n:=by simp[DT];omega
theorem HO{c n j:Nat}{b:Bool}(hj:j<n)(hc:c≤n):(DT c n).getD j b=decide (j<c):=by
 unfold DT;rw[Array.getD_eq_getD_getElem?];by_cases h:j<c
 ·rw[Array.getElem?_append_left (by simpa using h)];simp[h]
 ·rw[Array.getElem?_append_right (by simpa using Nat.le_of_not_lt h)];rw[Array.getElem?_replicate,if_pos (by rw[Array.size_replicate];omega),Ak h];rfl
section
variable {P:Program} {E:Env} {n:Nat} {ops:Array Oper} {A D:List Nat} {ls:List SL}
theorem FZ{α:Type}{L:Array α}{c j:Nat}(hj:j<c):(L.extract 0 c)[j]? =L[j]? :=by
 rw[Array.getElem?_extract];split
 ·simp
 ·rename_i h;rw[Array.getElem?_eq_none (by omega)]
theorem UU{c N:Nat}(hc:c<ops.size)(hback:∀i o,ops[i]? =some o→∀e∈o.after,Region.binds .any e=true→e.on<i)(hanc:∀j,c≤j→j<ops.size→∀i<c,Fl ops N i j=true){L:Array Bool}{is:List Nat}(hg:Cp ops L is):
  L.size=ops.size→(∀j,c≤j→j<ops.size→L.getD j true=false)→(∀i o,L.getD i false=true→ops[i]? =some o→∀e∈o.after,Region.binds .any e=true→L.getD e.on false=true)→
  ∃is1 is2,is=is1++is2∧Cp (ops.extract 0 c) (L.extract 0 c) is1∧Cp ops (DT c ops.size) is2:=by
 induction hg with
 | @nil L' h=>
  intro hsz hlo _;exfalso
  have:c∈left ops.size L':=by
   unfold left;rw[List.mem_filter,List.mem_range];exact⟨hc,by rw[hlo c (Nat.le_refl _) hc];rfl⟩
  rw[h]at this;cases this
 | @cons L i is hi hL he hg ih=>
  intro hsz hlo hdown;have hsz1:(ops.extract 0 c).size=c:=by simp;omega
  by_cases hic:i<c
  ·obtain⟨is1,is2,e1,e2,e3⟩:=ih (by simp[hsz]) (fun j hj hjn=>by
    rw[GH L i j true hL,if_neg (by omega)]
    exact hlo j hj hjn) (fun k o hk ho e hee hb=>by
    rw[GH L i _ _ hL]at hk⊢;split
    ·rfl
    ·by_cases hki:k=i
     ·subst hki;exact he o ho e hee hb
     ·rw[if_neg hki]at hk
      exact hdown k o hk ho e hee hb)
   refine⟨i::is1,is2,by rw[e1];rfl,.cons (by rw[hsz1];exact hic) ?_ ?_ ?_,e3⟩
   ·rw[Array.getD_eq_getD_getElem?,FZ hic,←Array.getD_eq_getD_getElem?];exact hL
   ·intro o ho e hee hb;rw[FZ hic]at ho;have h1:=he o ho e hee hb;have h2:=hback i o ho e hee hb;rw[Array.getD_eq_getD_getElem?,FZ (by omega),←Array.getD_eq_getD_getElem?];exact h1
   ·have hx:(L.extract 0 c).setIfInBounds i true=(L.setIfInBounds i true).extract 0 c:=by
     apply Array.ext_getElem?;intro j;by_cases hj:j<c
     ·rw[FZ hj,Array.getElem?_setIfInBounds,Array.getElem?_setIfInBounds,FZ hj];have:i<L.size:=by omega
      have h2:i<(L.extract 0 c).size:=by simp;omega
      by_cases hji:i=j
      ·rw[if_pos hji,if_pos hji,if_pos h2,if_pos this]
      ·rw[if_neg hji,if_neg hji]
     ·rw[Array.getElem?_eq_none (by simp;omega),Array.getElem?_eq_none (by simp;omega)]
    rw[hx];exact e2
  ·have hall:∀k,k<c→L.getD k false=true:=fun k hk=>IN hdown N k i he (hanc i (Nat.le_of_not_lt hic) hi k hk)
   have hlt:∀k,k<c→L.getD k true=true:=fun k hk=>by
    have h1:=hall k hk;rw[Array.getD_eq_getD_getElem?]at h1⊢;rw[Array.getElem?_eq_getElem (by omega)]at h1⊢;simpa using h1
   have hLe:L=DT c ops.size:=by
    apply Array.ext_getElem?;intro j;by_cases hj:j<ops.size
    ·have h1:(DT c ops.size).getD j true=decide (j<c):=HO hj (Nat.le_of_lt hc)
     have h2:L.getD j true=decide (j<c):=by
      by_cases hjc:j<c
      ·rw[hlt j hjc,Al hjc]
      ·rw[hlo j (Nat.le_of_not_lt hjc) hj,Ak hjc]
     rw[Array.getD_eq_getD_getElem?]at h1 h2;have s1:=Mg (Nat.le_of_lt hc);rw[Array.getElem?_eq_getElem (by omega)]at h1 h2⊢;rw[Array.getElem?_eq_getElem (by omega)];simp at h1 h2;rw[h1,h2]
    ·have s1:=Mg (Nat.le_of_lt hc);rw[Array.getElem?_eq_none (by omega),Array.getElem?_eq_none (by omega)]
   refine⟨[],i::is,rfl,.nil ?_, ?_⟩
   ·rw[hsz1];unfold left;rw[List.filter_eq_nil_iff];intro k hk;have hk':=List.mem_range.1 hk;rw[Array.getD_eq_getD_getElem?,FZ hk',←Array.getD_eq_getD_getElem?,hlt k hk'];decide
   ·rw[←hLe];exact .cons hi hL he hg
theorem PF{D:Option (List Nat)}{c:Nat}:∀(is:List Nat) (st:St),(∀i∈is,i<c)→BP E D (ls.take c) is st=BP E D ls is st
 | [],_,_=>rfl
 |i::is,st,h=>by
  simp only[BP];rw[List.getElem?_take,if_pos (h i (by simp))]
  cases ls[i]? with
  |none=>rfl
  |some l=>
   simp only
   congr 1
   funext s;exact PF is s fun j hj=>h j (by simp[hj])
theorem WO(hlen:ls.length=ops.size){c:Nat}(hcn:c≤ops.size)(hd:C0 P ops A D ls=true){st st':St}(hm:∀l∈ls.drop c,l.own A=none)(hv:BA E (some D) (ls.drop c) st=some st'){is:List Nat}(hg:Cp ops (DT c ops.size) is):
  BP E (some D) ls is st=some st':=by
 simp only[C0,Af]at hd;obtain⟨⟨⟨⟨_,hown⟩,hback⟩,hmk⟩,hfr⟩:=hd
 have hb':∀i o,ops[i]? =some o→∀e∈o.after,Region.binds .any e=true→e.on<i:=by
  intro i o ho e he hb;rw[List.all_eq_true]at hback
  have hmem:(o,i)∈ops.toList.zipIdx:=by
   rw[List.mem_zipIdx_iff_getElem?];simpa using ho
  have:=hback _ hmem;rw[Array.all_eq_true']at this;have:=this e he;simpa[hb]using this
 have hlst:∀(ls':List SL) {s s':St},(∀l∈ls',l.own A=none)→BA E (some D) ls' s=some s'→lsT E A D ls' s=some s':=by
  intro ls'
  induction ls' with
  |nil=>intro s s' _ h;exact h
  |cons l ls' ih=>
   intro s s' hn h;simp only[BA,Ab]at h;obtain⟨s1,h1,h2⟩:=h;have hok:okS A l s=true:=by unfold okS;rw[hn l (by simp)]
   simp only[lsT,Eu hok h1,Option.bind_some];exact ih (fun x hx=>hn x (by simp[hx])) h2
 have hv:=hlst _ hm hv;refine KJ (A:=A) _ ?_;refine Mn hlen ?_ hg ?_ (Mg hcn) ?_ ?_
 ·intro j hj i hij;rw[List.all_eq_true]at hfr;have:=hfr j (List.mem_range.2 hj);rw[List.all_eq_true]at this;have:=this i (List.mem_range.2 hij);rw[Aj]at this;rcases this with h|h
  ·rw[F2 ops hj]at h;exact .inl (GZ ops hj h)
  ·refine .inr ?_;split at h
   ·rename_i x y hx hy;exact⟨x,y,hx,hy,h⟩
   ·cases h
 ·intro i o hi ho e he hb;have hin:i<ops.size:=(Array.getElem?_eq_some_iff.1 ho).1;rw[HO hin hcn]at hi;have h1:=hb' i o ho e he hb;have h2:i<c:=by simpa using hi
  rw[HO (by omega) hcn];simp;omega
 ·intro k _ l hl hmake j hj;rw[List.all_eq_true]at hmk;have:=hmk l (List.mem_of_getElem? hl);simpa[hmake,hj]using this
 ·have hleft:left ops.size (DT c ops.size)=List.range' c (ops.size-c):=by
   unfold left;rw[List.range_eq_range',show ops.size=c+(ops.size-c) by omega,←List.range'_append_1,List.filter_append]
   have e1:((List.range' 0 c).filter fun i=> !(DT c (c+(ops.size-c))).getD i true)= []:=by
    rw[List.filter_eq_nil_iff];intro i hi;have:=(List.mem_range'_1.1 hi).2;rw[HO (by omega) (by omega),Al (by omega)];decide
   have e2:((List.range' (0+c) (ops.size-c)).filter fun i=> !(DT c (c+(ops.size-c))).getD i true)=List.range' (0+c) (ops.size-c):=by
    rw[List.filter_eq_self];intro i hi;have:=(List.mem_range'_1.1 hi);rw[HO (by omega) (by omega),Ak (by omega)];rfl
   rw[e1,e2];simp
  rw[hleft];have h1:=JM (E:=E) (A:=A) (D:=D) (ls.drop c) (ls.take c) st;rw[List.take_append_drop,List.length_take,List.length_drop,Nat.min_eq_left (by omega),hlen]at h1;rw[h1];exact hv
variable {w0:WL} {M0:MM}
theorem PG(hE:EOk P E){D:Option (List Nat)}(hc:Ao (Dc P n ops) ops.toList=some ls){Q:Exit→Act→World→Prop}{js:List Nat}:∀{is:List Nat} {st st':St} {a:Act} {w:World} {z:Cz},SR P E.G w0 M0 n st a w z→
  BP E D ls is st=some st'→(∀a' w' z',SR P E.G w0 M0 n st' a' w' z'→wpOps P ops Q js a' w')→wpOps P ops Q (is++js) a w
 | [],st,st',a,w,z,h,hv,hK=>by
  simp only[BP,Ac]at hv;subst hv;exact hK _ _ _ h
 |i::is,st,st',a,w,z,h,hv,hK=>by
  simp only[BP]at hv;split at hv<;>(try cases hv;done);rename_i l hl;simp only[Ab]at hv;obtain⟨st1,h1,h2⟩:=hv;have hlen:=CY hc;have hi:i<ops.toList.length:=by rw[←hlen];exact(Ae.1 hl).1
  have ho:ops.toList[i]? =some (ops.toList[i]):=Ai hi;obtain⟨l',g1,g2⟩:=H0 hc ho;rw[hl]at g1;simp only[Ac]at g1;subst g1;have ho':ops[i]? =some (ops.toList[i]):=by rw[←Array.getElem?_toList];exact ho
  exact Mc hE h ho' g2 h1 fun a' w' z' hS=>PG hE hc hS h2 hK
theorem Po(hE:EOk P E){id c:Nat}(hls:Ao (Dc P n ops) ops.toList=some ls)(hd:LO P ops A D ls c=true)(hm:(ls.drop c).all (fun l=>(l.own A).isNone)=true){Q:Exit→Act→World→Prop}{st st1:St}{a:Act}{w:World}{z:Cz}(h:SR P E.G w0 M0 n st a w z)(h1:BA E (some D) (ls.take c) st=some st1)
  (K:∀a' w' z',SR P E.G w0 M0 n st1 a' w' z'→∃st2 z2 st3,SR P E.G w0 M0 n st2 a' w' z2∧BA E (some D) (ls.drop c) st2=some st3∧∀a'' w'' z'',SR P E.G w0 M0 n st3 a'' w'' z''→Q .normal a'' w''):(Code.region id ops true).wp P Q a w:=by
 simp only[LO,Af]at hd;obtain⟨⟨⟨hd1,hd2⟩,hcn⟩,hanc⟩:=hd;have hcn':c<ops.size:=Ah hcn;have hlen:ls.length=ops.size:=by rw[CY hls];simp
 have hd1':=hd1;simp only[C0,Af]at hd1';obtain⟨⟨⟨⟨hmx,_⟩,hback⟩,_⟩,_⟩:=hd1'
 have hb':∀i o,ops[i]? =some o→∀e∈o.after,Region.binds .any e=true→e.on<i:=by
  intro i o ho e he hb;rw[List.all_eq_true]at hback
  have hmem:(o,i)∈ops.toList.zipIdx:=by
   rw[List.mem_zipIdx_iff_getElem?];simpa using ho
  have:=hback _ hmem;rw[Array.all_eq_true']at this;have:=this e he;simpa[hb]using this
 refine wp_region_draw fun t=> ?_
 have hg0:Cp ops (Array.replicate ops.size false) (Region.schedule (P.follows .mixedOrders) ops t):=by
  simp only[Region.schedule,hmx,Bool.true_or,if_true,Region.linearise];exact Ic hb' ops.size t _ (by simp) (by rw[M7];simp)
 obtain⟨is1,is2,e1,g1,g2⟩:=UU (N:=ls.length) hcn' hb' (fun j hj hjn i hi=>by
  rw[List.all_eq_true]at hanc;have:=hanc j (List.mem_range.2 (by omega));rw[Aj]at this;rcases this with h|h
  ·have:j<c:=Ah h;omega
  ·rw[List.all_eq_true]at h;have:=h i (List.mem_range.2 hi);rw[F2 ops (show j<ls.length by omega)]at this
   exact GZ ops (by omega) this) hg0 (by simp) (fun j _ hjn=>by simp[Array.getD_eq_getD_getElem?,hjn]) (fun i o hi=>by
  exfalso;rw[Array.getD_eq_getD_getElem?,Array.getElem?_replicate]at hi
  split at hi<;>cases hi)
 rw[e1]
 have hx:(Array.replicate ops.size false).extract 0 c=Array.replicate (ops.extract 0 c).size false:=by
  apply Array.ext_getElem?;intro j;simp only[Array.getElem?_replicate,Array.size_extract];by_cases hj:j<c
  ·rw[FZ hj,Array.getElem?_replicate,if_pos (by omega),if_pos (by omega)]
  ·rw[Array.getElem?_eq_none (by simp;omega),if_neg (by omega)]
 rw[hx]at g1;have hlt1:=PW g1
 have hs1:BP E (some D) ls is1 st=some st1:=by
  rw[←PF (c:=c) is1 st (fun i hi=>by have:=hlt1 i hi;simp at this;omega)];exact Pw (by simp[hlen]) hd2 h1 g1
 have hgr:SR P E.G w0 M0 n st a {w with drawn:=w.drawn+1} z:=h.grow ⟨rfl,rfl,rfl,Nat.le_refl _,fun _ _=>rfl⟩;refine PG hE hls hgr hs1 fun a' w' z' hS=> ?_;obtain⟨st2,z2,st3,k1,k2,k3⟩:=K a' w' z' hS
 have hs2:=WO hlen (Nat.le_of_lt hcn') hd1 (fun l hl=>by
  have:=List.all_eq_true.1 hm l hl
  simpa using this) k2 g2
 exact HM hE hls k1 hs2 k3
end
def XV(P:Program)(o:Oper)(l:SL):Bool:=
 match l.op.cls with
 | .new=>true
 | .call=>match P.underlying o.type with
  |some (.slice _)|some (.map _ _)=>true
  |_=>false
 |_=>false
def Hc(P:Program)(ops:List Oper)(ls:List SL):List Nat:=(ops.zip ls).filterMap fun p=>if XV P p.1 p.2 then p.2.dst else none
def DX(ls:List SL):List Nat:=ls.filterMap fun l=>if l.op.makes then l.dst else none
def Sb(ls:List SL):List Nat:=
 let C2:=ls.filterMap fun l=>match l.op with| .append .. =>l.dst|_=>none
 if ls.any fun l=>match l.op with| .call _ xs=>xs.any fun x=>x.slot.any C2.contains|_=>false then
  ls.filterMap fun l=>match l.op,l.dst with
   | .mksl ..,some d| .call ..,some d=>if ls.any fun m=>match m.op with| .append _ _ _ (.t i) _=>i==d| .call _ xs=>xs.any fun x=>x.slot.contains d|_=>false then some d else none
   |_,_=>none
 else []
def DD(P:Program)(ops:Array Oper)(ls:List SL):List Nat:=if C0 P ops (F1 ls) (Sb ls++DX ls) ls then Sb ls++DX ls else DX ls
def HZ(P:Program)(ops:Array Oper)(ls:List SL):List Nat:=DD P (F7 (HY ops ls) ops) (permL (HY ops ls) ls)
def Pn(P:Program)(ops:Array Oper)(ls:List SL):Option Ci:=
 (TS ls).bind fun c=>if LO P ops (F1 ls) (DX ls) ls c=true∧(ls.drop c).all (fun l=>(l.own (F1 ls)).isNone)=true then some (.seq (.reg true (DX ls) (ls.take c)) (.reg true (DX ls) (ls.drop c)))else none
def AV(P:Program)(n:Nat):Code→Option Ci
 | .skip=>some .skip
 | .region _ ops draw=>match Ao (Dc P n ops) ops.toList with
   |some ls=>if draw then(match Pn P ops ls with|some sc=>some sc|none=>if Jo P ops (F1 ls) (DD P ops ls) ls then some (.regE (DD P ops ls) ls)else if C0 P ops (F1 ls) (DD P ops ls) ls then some (.reg true (DD P ops ls) ls)else if LW P ops (HY ops ls) (F1 (permL (HY ops ls) ls)) (HZ P ops ls) ls then some (.reg true (HZ P ops ls) (permL (HY ops ls) ls))else some .bad)else some (.reg false (Hc P ops.toList ls) ls)
   |none=>some .bad
 | .seq a b=>(AV P n a).bind fun x=>(AV P n b).map fun y=>.seq x y
 | .cond c a b=>(An c).bind fun c=>(AV P n a).bind fun x=>(AV P n b).map fun y=>.cond c x y
 | .block id b=>(AV P n b).map (.block id)
 | .loop b=>(AV P n b).map .loop
 | .exit id=>some (.exit id)
 | .label _=>some .skip
 | .scope b=>AV P n b
 | .ret=>some .ret
 |_=>some .bad
def U5:Ex→Exit
 | .normal=>.normal
 | .exit i=>.exit i
 | .ret=>.ret
section
variable {P:Program} {E:Env} {w0:WL} {M0:MM} {n:Nat}
def IK(P:Program)(E:Env)(w0:WL)(M0:MM)(n:Nat)(Q:Ex→St→Prop)(e:Exit)(a:Act)(w:World):Prop:=
 ∃e' st z,U5 e'=e∧Q e' st∧SR P E.G w0 M0 n st a w z
theorem Nv(hE:EOk P E){id:Nat}{ops:Array Oper}{draw:Bool}{sc:Ci}(hc:AV P n (.region id ops draw)=some sc){Q:Ex→St→Prop}{st:St}{a:Act}{w:World}{z:Cz}(h:SR P E.G w0 M0 n st a w z)
  (hp:pwp E sc Q st):(Code.region id ops draw).wp P (IK P E w0 M0 n Q) a w:=by
 simp only[AV]at hc;split at hc
 case h_2=>cases hc;exact hp.elim
 rename_i ls hls;have hlen:=CY hls
 have start:∀D:List Nat,∃z',SR P E.G w0 M0 n (if D.isEmpty then st else kill D st) a w z':=fun D=>by
  split
  ·exact⟨z,h⟩
  ·exact⟨z,h.killed D⟩
 cases draw with
 |false=>
  simp only[Ag,if_false,Ac]at hc;subst hc;obtain⟨st',hv,hq⟩:=hp;unfold BF at hv;simp only[Ag,if_false]at hv;obtain⟨z',hS⟩:=start (Hc P ops.toList ls);refine wp_region ?_;have hseq:=PC E none ls [] (if(Hc P ops.toList ls).isEmpty then st else kill (Hc P ops.toList ls) st);rw[hv]at hseq;simp only[List.nil_append,List.length_nil]at hseq;rw[List.range_eq_range',←Array.length_toList,←hlen];exact HM hE hls hS hseq fun a' w' z'' hS'=>⟨.normal,st',z'',rfl,hq,hS'⟩
 |true=>
  have plain:C0 P ops (F1 ls) (DD P ops ls) ls=true→∀st',BF E true (DD P ops ls) ls st=some st'→Q .normal st'→(Code.region id ops true).wp P (IK P E w0 M0 n Q) a w:=fun hd st' hv hq=>by
   unfold BF at hv;simp only[if_true]at hv;obtain⟨z',hS⟩:=start (DD P ops ls);refine wp_region_draw fun t=> ?_;have hseq:=Uc hls hd hv t;have hg:SR P E.G w0 M0 n (if(DD P ops ls).isEmpty then st else kill (DD P ops ls) st) a {w with drawn:=w.drawn+1} z':=hS.grow ⟨rfl,rfl,rfl,Nat.le_refl _,fun _ _=>rfl⟩;exact HM hE hls hg hseq fun a' w' z'' hS'=>⟨.normal,st',z'',rfl,hq,hS'⟩
  simp only[if_true]at hc;split at hc
  ·rename_i sc' hcut;cases hc;obtain⟨c,_,hcut⟩:=Ab.1 hcut;split at hcut<;>(try cases hcut;done);rename_i hd;cases hcut;obtain⟨st1,hv1,st3,hv3,hq⟩:=hp;unfold BF at hv1 hv3;simp only[if_true]at hv1 hv3;obtain⟨z',hS⟩:=start (DX ls);refine Po hE hls hd.1 hd.2 hS hv1 fun a' w' z'' hS'=> ?_
   have start2:∃z3,SR P E.G w0 M0 n (if(DX ls).isEmpty then st1 else kill (DX ls) st1) a' w' z3:=by
    split
    ·exact⟨z'',hS'⟩
    ·exact⟨z'',hS'.killed _⟩
   obtain⟨z3,hS3⟩:=start2;exact⟨_,z3,st3,hS3,hv3,fun a'' w'' z4 hS4=>⟨.normal,st3,z4,rfl,hq,hS4⟩⟩
  split at hc
  ·rename_i hd;cases hc
   have hdo:C0 P ops (F1 ls) (DD P ops ls) ls=true:=by
    have hd':=hd;simp only[Jo,Af]at hd';exact hd'.1.2
   obtain⟨st',hv|hv,hq⟩:=hp
   ·exact plain hdo st' hv hq
   ·refine wp_region_draw fun t=> ?_;have hseq:=Ud hls hd (T7 _) hv t;have hg:SR P E.G w0 M0 n (CM (kill (DD P ops ls) st)) a {w with drawn:=w.drawn+1} z:=(h.killed _).clean.grow ⟨rfl,rfl,rfl,Nat.le_refl _,fun _ _=>rfl⟩;exact RU hE hls hg hseq fun a' w' z'' hS'=>⟨.normal,st',z'',rfl,hq,hS'⟩
  ·split at hc
   ·rename_i hd;cases hc;obtain⟨st',hv,hq⟩:=hp;exact plain hd st' hv hq
   ·split at hc
    case isFalse=>cases hc;exact hp.elim
    rename_i hd;cases hc;obtain⟨st',hv,hq⟩:=hp;unfold BF at hv;simp only[if_true]at hv;obtain⟨z',hS⟩:=start (HZ P ops ls);refine wp_region_draw fun t=> ?_;have hseq:=Ue hls hd hv t;have hg:SR P E.G w0 M0 n (if(HZ P ops ls).isEmpty then st else kill (HZ P ops ls) st) a {w with drawn:=w.drawn+1} z':=hS.grow ⟨rfl,rfl,rfl,Nat.le_refl _,fun _ _=>rfl⟩;exact HM hE hls hg hseq fun a' w' z'' hS'=>⟨.normal,st',z'',rfl,hq,hS'⟩
theorem Fo(hE:EOk P E):∀(c:Code) {sc:Ci} {Q:Ex→St→Prop} {st:St} {a:Act} {w:World} {z:Cz},AV P n c=some sc→SR P E.G w0 M0 n st a w z→pwp E sc Q st→c.wp P (IK P E w0 M0 n Q) a w
 | .skip,sc,Q,st,a,w,z,hc,h,hp=>by
  simp only[AV,Ac]at hc;subst hc;exact wp_skip ⟨.normal,st,z,rfl,hp,h⟩
 | .region id ops draw,sc,Q,st,a,w,z,hc,h,hp=>Nv hE hc h hp
 | .seq x y,sc,Q,st,a,w,z,hc,h,hp=>by
  simp only[AV,Ab,Aa]at hc;obtain⟨sx,hx,sy,hy,rfl⟩:=hc;refine wp_seq (wp_mono (Fo hE x hx h hp) fun e a' w' hpost=> ?_);obtain⟨e',st',z',he,hq,hS⟩:=hpost;subst he
  cases e' with
  |normal=>exact Fo hE y hy hS hq
  |exit i=>exact⟨.exit i,st',z',rfl,hq,hS⟩
  |ret=>exact⟨.ret,st',z',rfl,hq,hS⟩
 | .cond c x y,sc,Q,st,a,w,z,hc,h,hp=>by
  simp only[AV,Ab,Aa]at hc;obtain⟨so',hso,sx,hx,sy,hy,rfl⟩:=hc;obtain⟨b,h1,h2,h3⟩:=hp;have hr:=h.ctx.c hso h1;have hb:=CQ hr;exact wp_cond_split hb (fun hh=>Fo hE x hx h (h2 hh)) (fun hh=>Fo hE y hy h (h3 hh))
 | .block id c,sc,Q,st,a,w,z,hc,h,hp=>by
  simp only[AV,Aa]at hc;obtain⟨sx,hx,rfl⟩:=hc;refine wp_block (wp_mono (Fo hE c hx h hp) fun e a' w' hpost=> ?_);obtain⟨e',st',z',he,hq,hS⟩:=hpost;subst he
  cases e' with
  |normal=>exact⟨.normal,st',z',rfl,hq,hS⟩
  |exit i=>
   simp only at hq;show(if i=id then _ else _);split at hq
   ·rename_i hi;rw[if_pos hi];exact⟨.normal,st',z',rfl,hq,hS⟩
   ·rename_i hi;rw[if_neg hi];exact⟨.exit i,st',z',rfl,hq,hS⟩
  |ret=>exact⟨.ret,st',z',rfl,hq,hS⟩
 | .loop c,sc,Q,st,a,w,z,hc,h,hp=>by
  simp only[AV,Aa]at hc;obtain⟨sx,hx,rfl⟩:=hc;obtain⟨R,⟨m,hm⟩,hr⟩:=hp;refine wp_loop_ghost (fun k a w=>∃s z,R k s∧SR P E.G w0 M0 n s a w z) m ⟨st,z,hm,h⟩ fun k a' w' hI=> ?_;obtain⟨s,z',hR,hS⟩:=hI;refine wp_mono (Fo hE c hx hS (hr k s hR)) fun e a'' w'' hpost=> ?_;obtain⟨e',st',z'',he,hq,hS'⟩:=hpost;subst he
  cases e' with
  |normal=>
   obtain⟨k',hk',hR'⟩:=hq;exact⟨k',hk',st',z'',hR',hS'⟩
  |exit i=>exact⟨.exit i,st',z'',rfl,hq,hS'⟩
  |ret=>exact⟨.ret,st',z'',rfl,hq,hS'⟩
 | .exit i,sc,Q,st,a,w,z,hc,h,hp=>by
  simp only[AV,Ac]at hc;subst hc;exact wp_exit ⟨.exit i,st,z,rfl,hp,h⟩
 | .label l,sc,Q,st,a,w,z,hc,h,hp=>by
  simp only[AV,Ac]at hc;subst hc;exact wp_label ⟨.normal,st,z,rfl,hp,h⟩
 | .scope c,sc,Q,st,a,w,z,hc,h,hp=>by
  simp only[AV]at hc;refine wp_scope_straight (wp_mono (Fo hE c hc h hp) fun e a' w' hpost=> ?_);obtain⟨e',st',z',he,hq,hS⟩:=hpost;subst he;cases e'<;>exact⟨_,st',z',rfl,hq,hS⟩
 | .ret,sc,Q,st,a,w,z,hc,h,hp=>by
  simp only[AV,Ac]at hc;subst hc;exact wp_ret ⟨.ret,st,z,rfl,hp,h⟩
 | .goto _,sc,Q,st,a,w,z,hc,h,hp=>by cases hc;exact hp.elim
 | .rangeFunc _ _ _ _,sc,Q,st,a,w,z,hc,h,hp=>by cases hc;exact hp.elim
 | .refuse _,sc,Q,st,a,w,z,hc,h,hp=>by cases hc;exact hp.elim
end
inductive A8 where
 |tmp (t:Nat)
 |cell (t:Nat) (sz:Option Nat)
def Do(P:Program):ResultVar→Option A8
 | .tmp t=>some (.tmp t)
 | .cell a t=>(CH P t).map (.cell a)
def DJ(st:St):A8→Option CV
 | .tmp t=>BC st.ob (st.fr t)
 | .cell a sz=>(AM st.ob sz (deref st.ob (st.fr a))).bind (BC st.ob)
def Eb:List CV→CV
 | [c]=>c
 |l=>.tup l
def CR(st:St)(rs:List A8):Option CV:=(Ao (DJ st) rs).map Eb
structure Fh where
 n:Nat
 code:Ci
 res:List A8
def BN(P:Program)(f:FuncId):Option Fh:=
 if hasBody P f then(P.funcs[f]?).bind fun fn=>fn.body.bind fun b=>if Nat.ble fn.ntmps tbase then(AV P fn.ntmps b).bind fun c=>(Ao (Do P) fn.results.toList).map fun rs=>⟨fn.ntmps,c,rs⟩else none else none
def CO(l:List CV):St:={fr:=fun i=>match l[i]? with|some c=>.c c|none=>.undef,ob:=fun _=>.none}
def fin(rs:List A8)(r:CV)(e:Ex)(st:St):Prop:=
 match e with
 | .exit _=>False
 |_=>CR st rs=some r
section
variable {P:Program} {E:Env} {w0:WL} {M0:MM} {n:Nat} {st:St} {a:Act} {w:World} {z:Cz}
theorem OO{G:Nat→List CV}(h:SR P G w0 M0 n st a w z){b:Nat}{t:TypeId}{sz:Option Nat}(hs:CH P t=some sz){sv:SV}(hl:AM st.ob sz (deref st.ob (st.fr b))=some sv):
  ∃v,((asAddr (a.tmps.getD b undef)>>=fun ad=>loadVar t ad):Sem Value).run P w=.ok v w∧Aq w (mutb M0 z st.ob) z st.ob sv v:=by
 obtain⟨v,h1,h2⟩:=S4 (x:=.tmp b) (sx:=.t b) h.ctx (fun _=>.inr rfl) hs rfl hl
 have hp:∃ad,a.tmps.getD b undef=.pointer (some ad):=by
  have hr:=h.ctx.deref (rd:=st.ob) (fun _=>.inr rfl) (h.fr b);generalize deref st.ob (st.fr b)=q at hr hl;generalize a.tmps.getD b undef=u at hr;cases q<;>(try simp only[AM,reduceCtorEq]at hl;done)
  ·rename_i cv;cases cv<;>(try simp only[AM,reduceCtorEq]at hl;done)
   ·unfold Aq RelC at hr;obtain⟨ad,_,e,_⟩:=hr;exact⟨ad,e⟩
   ·unfold Aq RelC at hr;obtain⟨g,_,_,e,_⟩:=hr;exact⟨_,e⟩
  ·obtain⟨_,g,_,e⟩:=hr;exact⟨_,e⟩
  ·obtain⟨_,g,_,_,_,e⟩:=hr;exact⟨_,e⟩
 obtain⟨ad,hp⟩:=hp;refine⟨v, ?_,h2⟩;have he:a.eval (.tmp b)=.pointer (some ad):=hp;rw[he]at h1;simp only[hp];exact h1
theorem VX{G:Nat→List CV}(h:SR P G w0 M0 n st a w z){rv:ResultVar}{sr:A8}(hc:Do P rv=some sr){c:CV}(ho:DJ st sr=some c):
  ∃v,(match rv with| .tmp t=>pure (a.tmps.getD t undef)| .cell b t=>(asAddr (a.tmps.getD b undef)>>=fun ad=>loadVar t ad):Sem Value).run P w=.ok v w∧RelC w (mm0 w0 M0 z) c v:=by
 cases rv with
 |tmp t=>
  simp only[Do,Ac]at hc;subst hc;exact⟨_,rfl,LK h (fun _=>.inr rfl) (h.fr t) ho⟩
 |cell b t=>
  simp only[Do,Aa]at hc;obtain⟨sz,hs,rfl⟩:=hc;simp only[DJ,Ab]at ho;obtain⟨sv,hl,hcl⟩:=ho;obtain⟨v,h1,h2⟩:=OO h hs hl;exact⟨v,h1,LK h (fun _=>.inr rfl) h2 hcl⟩
theorem O8{G:Nat→List CV}(h:SR P G w0 M0 n st a w z){f:ResultVar→Sem Value}(hf:∀rv,f rv=(match rv with| .tmp t=>pure (a.tmps.getD t undef)| .cell b t=>(asAddr (a.tmps.getD b undef)>>=fun ad=>loadVar t ad))):∀{rvs:List ResultVar} {srs:List A8} {cs:List CV},Ao (Do P) rvs=some srs→Ao (DJ st) srs=some cs→
  ∃vs,(rvs.mapM f).run P w=.ok vs w∧RelL w (mm0 w0 M0 z) cs vs
 | [],srs,cs,h1,h2=>by
  simp only[Ao,Ac]at h1;subst h1;simp only[Ao,Ac]at h2;subst h2;exact⟨[],by simp,RelL.nil⟩
 |rv::rvs,srs,cs,h1,h2=>by
  simp only[Ao,Ab,Aa]at h1;obtain⟨s,hs,ss,hss,rfl⟩:=h1;simp only[Ao,Ab,Aa]at h2;obtain⟨c,hc,cs',hcs,rfl⟩:=h2;obtain⟨v,g1,g2⟩:=VX h hs hc;obtain⟨vs,g3,g4⟩:=O8 h hf hss hcs;rw[←hf]at g1;exact⟨v::vs,by rw[List.mapM_cons];simp[g1,g3],RelL.cons g2 g4⟩
theorem Rr{G:Nat→List CV}(h:SR P G w0 M0 n st a w z){fn:Func}{rs:List A8}(hc:Ao (Do P) fn.results.toList=some rs){c:CV}(ho:CR st rs=some c):
  ∃v,(results fn a.tmps).run P w=.ok v w∧RelC w (mm0 w0 M0 z) c v:=by
 simp only[CR,Aa]at ho;obtain⟨cs,hcs,rfl⟩:=ho;obtain⟨vs,h1,h2⟩:=O8 h (f:=fun rv=>match rv with| .tmp t=>pure (a.tmps.getD t undef)| .cell b t=>do loadVar t (←asAddr (a.tmps.getD b undef))) (fun rv=>by cases rv<;>rfl) hc hcs
 have hr:(results fn a.tmps).run P w=.ok (if h:(⟨vs⟩:Array Value).size=1 then(⟨vs⟩:Array Value)[0]else .tuple ⟨vs⟩) w:=by
  have e:results fn a.tmps=(fn.results.mapM (fun rv=>match rv with| .tmp t=>pure (a.tmps.getD t undef)| .cell b t=>do loadVar t (←asAddr (a.tmps.getD b undef)))>>=fun(vs:Array Value)=>pure (if h:vs.size=1 then vs[0]else .tuple vs)):=rfl;rw[e,Array.mapM_eq_mapM_toList];generalize (fun(rv:ResultVar)=>(match rv with| .tmp t=>pure (a.tmps.getD t undef)| .cell b t=>do loadVar t (←asAddr (a.tmps.getD b undef)):Sem Value))=f at h1;simp[h1]
 refine⟨_,hr, ?_⟩;have hlen:=h2.length
 match cs,vs,h2,hlen with
 | [],[],h2,_=>
  simp only[Eb];unfold RelC;exact⟨[],rfl,h2⟩
 | [c],[v],h2,_=>
  simp only[Eb];unfold RelL at h2;obtain⟨v',vs',e,h3,_⟩:=h2;cases e;exact h3
 |c::c'::cs,v::v'::vs,h2,_=>
  simp only[Eb];unfold RelC;exact⟨v::v'::vs,by simp,h2⟩
theorem Mr{P:Program}{G:Nat→List CV}{w:World}{M:MM}{n:Nat}{l:List CV}{vs:List Value}(hM:∀g,M g→g<w.heap.size)(hG:GOk G w M)(hl:l.length≤n)(h:RelL w M l vs)(hn:n≤tbase):
  SR P G (GV w) M n (CO l) {tmps:=(⟨vs⟩:Array Value)++Array.replicate (n-(⟨vs⟩:Array Value).size) undef,defers:= []} w (z0 undef M.al):=by
 have hlen:=h.length;refine⟨?_,rfl,JH.2 (Below.refl _ _),hM,⟨fun _ g h'=>h'.elim,fun N cs _ h'=>(by cases h'),fun _ _=>rfl,hn⟩,hG,fun i=> ?_,fun id=>trivial,fun id g h'=>absurd rfl h',fun i j g _ h'=>absurd rfl h'⟩
 ·simp;omega
 ·simp only[CO]
  cases hi:l[i]? with
  |none=>trivial
  |some c=>
   obtain⟨v,h1,h2⟩:=h.get hi
   have hk:AN w M w (mutb M (z0 undef M.al) fun _=>Ob.none):=⟨Nat.le_refl _,fun _ _ _=>rfl,fun g _ hg=>by
    rcases hg with hg|⟨id,h',_⟩
    ·exact hg
    ·exact absurd rfl h',rfl⟩
   have hv:((⟨vs⟩:Array Value)++Array.replicate (n-(⟨vs⟩:Array Value).size) undef).getD i undef=v:=by
    have:i<vs.length:=(Ae.1 h1).1;rw[Array.getD_eq_getD_getElem?,Array.getElem?_append_left (by simpa using this)];simp[h1]
   show RelC w _ c _;simp only[hv];exact RelC.keep hk c v h2
theorem Qw{w1:World}{G:Nat→List CV}{M:MM}(h:SR P G (GV w1) M n st a w z){c:CV}{v:Value}(hr:RelC w (mm0 (GV w1) M z) c v):RelC w M c v:=
 have hk:AN w (mm0 (GV w1) M z) w M:=⟨Nat.le_refl _,fun _ _ _=>rfl,fun _ _ hg=>⟨hg,fun _ hh=>hh⟩,funext fun N=>(h.nam.names N trivial).symm⟩
 RelC.keep hk _ _ hr
theorem Mj(hE:EOk P E){f:FuncId}{m:Fh}(hc:BN P f=some m){l:List CV}{r:CV}(hl:l.length≤m.n)(h:pwp E m.code (fin m.res r) (CO l)):hasBody P f=true∧CallsTo P E.G f l (.val r):=by
 unfold BN at hc;split at hc<;>(try cases hc;done);rename_i hb;refine⟨hb, ?_⟩;simp only[Ab,Aa,Ad]at hc;obtain⟨fn,hf,b,hbody,hn,c,hcode,rs,hrs,rfl⟩:=hc;intro w M vs hM hG hL;refine calls_of_wp hf hbody (wp_mono (Fo hE b hcode (Mr hM hG hl hL (Ah hn)) h) fun e a' w' hpost=> ?_);obtain⟨e',st',z',he,hq,hS⟩:=hpost;subst he
 have fin_:CR st' rs=some r→a'.defers= []∧∃v,(results fn a'.tmps).run P w'=.ok v w'∧∃u,Ending.returned v=.returned u∧Below w.heap.size w w'∧D6 P w' M w.heap.size u (.val r):=fun hr=>by
  obtain⟨v,h1,h2⟩:=Rr hS hrs hr;exact⟨hS.defers,v,h1,v,rfl,JH.1 hS.below,Qw hS h2⟩
 cases e' with
 |normal=>exact fin_ hq
 |exit i=>exact hq.elim
 |ret=>exact fin_ hq
theorem EOk.add(hE:EOk P E){f:FuncId}{m:Fh}(hc:BN P f=some m){F:List CV→Option CV}(h:∀l r,F l=some r→l.length≤m.n∧pwp E m.code (fin m.res r) (CO l)):
  EOk P {E with fn:=fun g l=>if g=f then(F l).map .val else E.fn g l}:=by
 refine⟨?_,hE.2,hE.3⟩;intro g l r hr;simp only at hr;split at hr
 ·rename_i e;subst e;simp only[Aa]at hr;obtain⟨r,hr,rfl⟩:=hr;obtain⟨h1,h2⟩:=h l r hr;exact Mj hE hc h1 h2
 ·exact hE.1 g l r hr
end
end WB
