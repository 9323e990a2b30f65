/-
  OWN TEXTS, MERGED (wip/merge.py): CoreW, CoreWb, CoreWd, CoreWe, CoreWc, CoreWf, CoreWg, CoreWh, CoreWp, CoreWq, CoreX. No condition of their own.
-/
import Derived.Test.YtimkfmkhmfcjeaaGreatDoorK2
import Derived.Orders
import Derived.Deep.LoopGhost
set_option linter.unusedVariables false
set_option linter.unusedSimpArgs false
open Go.IntKind (i64 u64 u8 u32)
namespace WB
open Go Go.RowKit
def SO.slot:SO→List Nat
 | .t i=> [i]
 |_=> []
def Ib:Option SO→List Nat
 |some x=>x.slot
 |none=> []
def SOp.slots:SOp→List Nat
 | .mov x| .un _ x| .cvi _ x| .cvrune x| .cvbs x| .cvid x| .isnil _ _ x| .field _ _ x| .ext x _| .faddr _ x| .load _ x| .len _ x| .box x| .bytes _ x| .nbytes _ x| .nchk x| .siter x| .mrange x| .mentry x| .snext x| .asl _ x=>x.slot
 | .pick c a b=>c.slot++a.slot++b.slot
 | .bin _ x y| .eqs _ _ x y| .beq _ x y| .iaddr _ x y| .aaddr _ _ x y| .sidx x y| .aidx _ _ _ x y| .lookup _ _ _ _ x y| .make _ _ _ _ x y| .store _ x y| .append _ _ _ x y| .capp _ _ _ x y| .mapent _ x y=>x.slot++y.slot
 | .build _ ps=>ps.flatMap fun p=>p.2.2.slot
 | .minmax _ xs| .fnv _ xs| .mksl _ _ xs| .lsl _ _ xs| .call _ xs=>xs.flatMap SO.slot
 | .callv f xs=>f.slot++xs.flatMap SO.slot
 | .mcopy _ x y=>x.slot++y.slot
 | .sslice x l h| .slice _ x l h=>x.slot++Ib l++Ib h
 | .slice3 _ x l h m=>x.slot++Ib l++h.slot++m.slot
 | .alloc _| .allocT .. | .mkmap .. => []
 | .entst x y z| .mapupd _ x y z=>x.slot++y.slot++z.slot
def SL.looks(l:SL):List Nat:=l.op.slots++(match l.guard with|some (g,_)=> [g]|none=> [])
def SOp.hard:SOp→Bool
 | .store .. | .append .. | .mapent .. | .entst .. | .mapupd .. | .snext .. | .mcopy .. =>true
 |_=>false
def SOp.calm:SOp→Bool
 | .bin .. | .eqs .. | .beq .. | .un .. | .cvi .. | .mov .. | .ext .. | .minmax .. | .lookup _ _ _ false _ _=>true
 |_=>false
def SOp.entry:SOp→Bool
 | .mapent .. =>true
 |_=>false
def SOp.makes:SOp→Bool
 | .alloc .. | .allocT .. | .box .. | .mksl .. | .mkmap .. | .make .. | .siter .. | .nbytes .. | .mrange .. | .call .. | .callv .. =>true
 |_=>false
def SOp.still:SOp→Bool
 | .bin .. | .eqs .. | .beq .. | .un .. | .cvi .. | .mov .. | .ext .. | .minmax .. | .isnil .. | .pick .. =>true
 |_=>false
def SOp.stores:SOp→Bool
 | .store .. =>true
 |_=>false
def SOp.grows:SOp→Bool
 | .append .. =>true
 |_=>false
def SOp.loads:SOp→Bool
 | .load .. =>true
 |_=>false
def SOp.puts:SOp→Bool
 | .mapupd .. =>true
 |_=>false
def SOp.moves:SOp→Bool
 | .mov .. =>true
 |_=>false
def SOp.tame:SOp→Bool
 | .load .. | .alloc .. | .mksl .. =>true
 |_=>false
def Fw(D:List Nat)(x y:SL):Bool:=
 (x.dst.all fun d=> !y.looks.contains d&&y.dst !=some d)&&(y.dst.all fun d=> !x.looks.contains d)&&
 ((!x.op.hard&&((!y.op.hard&&(!x.op.makes||x.dst.all fun d=>(hid y.op D).contains d)&&(!y.op.makes||y.dst.all fun d=>(hid x.op D).contains d))||(y.op.entry&&x.op.calm)||(y.op.stores&&x.op.still)||(y.op.grows&&y.guard.isNone&&x.op.moves&&x.guard.isNone)||(y.op.puts&&y.guard.isNone&&x.op.loads&&x.guard.isNone)))||(x.op.grows&&x.guard.isNone&&y.op.tame&&y.guard.isNone))
def Fi(ops:Array Oper):Nat→Nat→Nat→Bool
 |0,_,_=>false
 |k+1,i,j=>match ops[j]? with
  |some o=>o.after.any fun e=>Region.binds .any e&&(e.on==i||(e.on<j&&Fi ops k i e.on))
  |none=>false
def HX(ops:Array Oper)(ms:List Nat)(j:Nat):Nat:=
 match ops[j]? with
 |some o=>o.after.foldl (fun m e=>if Region.binds .any e&&decide (e.on<j)then m|||(1<<<e.on)|||ms.getD e.on 0 else m) 0
 |none=>0
def Dn(ops:Array Oper):Nat→List Nat
 |0=> []
 |n+1=>Dn ops n++ [HX ops (Dn ops n) n]
theorem Jx(ops:Array Oper):∀n,(Dn ops n).length=n
 |0=>rfl
 |n+1=>by simp[Dn,Jx ops n]
theorem F1(ops:Array Oper):∀{n j:Nat},j<n→(Dn ops n).getD j 0=HX ops (Dn ops j) j
 |0,_,h=>by omega
 |n+1,j,h=>by
  show(Dn ops n++ [HX ops (Dn ops n) n]).getD j 0=_;by_cases hj:j<n
  ·have:=F1 ops hj;rw[List.getD_eq_getElem?_getD,List.getElem?_append_left (by rw[Jx];exact hj),←List.getD_eq_getElem?_getD];exact this
  ·have e:j=n:=by omega
   subst e;rw[List.getD_eq_getElem?_getD,List.getElem?_append_right (by rw[Jx];exact Nat.le_refl _)];simp[Jx]
theorem GQ(ops:Array Oper):∀{j k i:Nat},j<k→(HX ops (Dn ops j) j).testBit i=true→Fi ops k i j=true:=by
 intro j
 induction j using Nat.strongRecOn with
 |_ j ih=>
  intro k i hk h;obtain⟨k,rfl⟩:∃k',k=k'+1:=⟨k-1,by omega⟩;unfold HX at h;unfold Fi;split at h
  ·rename_i o ho;try simp only[ho]
   rw[←Array.foldl_toList]at h
   have key:∀(l:List Edge) (m:Nat),(l.foldl (fun m e=>if Region.binds .any e&&decide (e.on<j)then m|||(1<<<e.on)|||(Dn ops j).getD e.on 0 else m) m).testBit i=true→
     m.testBit i=true∨∃e∈l,Region.binds .any e=true∧e.on<j∧(e.on=i∨((Dn ops j).getD e.on 0).testBit i=true):=by
    intro l
    induction l with
    |nil=>intro m h;exact .inl h
    |cons e l ihl=>
     intro m h;simp only[List.foldl_cons]at h;rcases ihl _ h with h|⟨e',h1,h2⟩
     ·split at h
      ·rename_i hb;simp only[Af,decide_eq_true_eq]at hb;rw[Nat.testBit_or,Nat.testBit_or,Aj,Aj]at h;rcases h with(h|h)|h
       ·exact .inl h
       ·refine .inr ⟨e,by simp,hb.1,hb.2,.inl ?_⟩;rw[Nat.shiftLeft_eq,Nat.one_mul,Nat.testBit_two_pow]at h;simpa using h
       ·exact .inr ⟨e,by simp,hb.1,hb.2,.inr h⟩
      ·exact .inl h
     ·exact .inr ⟨e',by simp[h1],h2⟩
   rcases key _ _ h with h|⟨e,h1,h2,h3,h4⟩
   ·simp at h
   ·rw[Array.any_eq_true'];refine⟨e,by simpa using h1, ?_⟩;simp only[Af,Aj,beq_iff_eq,decide_eq_true_eq];refine⟨h2, ?_⟩;rcases h4 with h4|h4
    ·exact .inl h4
    ·right;rw[F1 ops h3]at h4;exact⟨h3,ih e.on h3 (by omega) h4⟩
  ·simp at h
def FB(E:Env)(rd:Nat→Ob)(ρ:SO→SV)(d:Option Nat)(f:FuncId)(args:List SO)(caps:List CV):Option (SV×Option Ob):=
 (Ar (fun x=>BS rd (ρ x)) args).bind fun l=>(E.fn f (l++caps)).bind fun r=>
  if(args.all fun x=>isC (ρ x))||r.memless then some (match r with| .val v=>(.c v,none)| .new o=>(JQ (d.getD 0) o,some o))else none
def A4(E:Env)(rd:Nat→Ob)(ρ:SO→SV)(d:Option Nat)(op:SOp):Option (SV×Option Ob):=
 match op.cls with
 | .val| .grow=>(Ao rd ρ op).map fun v=>(v,none)
 | .new=>(AV ρ (d.getD 0) op).map fun(v,o)=>(v,some o)
 | .eff| .copy=>none
 | .call=>match op with
  | .call f args=>FB E rd ρ d f args []
  | .callv f args=>match ρ f with
   | .c (.fn f caps)=>FB E rd ρ d f args caps
   |_=>none
  |_=>none
def Ct(E:Env)(l:SL)(fr:Nat→SV)(rd:Nat→Ob):Option (SV×Option Ob):=
 match l.guard with
 |none=>A4 E rd (so E.G fr) l.dst l.op
 |some (g,want)=>match fr g with
  | .c (.bool b)=>if b=want then A4 E rd (so E.G fr) l.dst l.op else some (AP,none)
  | .c (.tup [])=>some (AP,none)
  |_=>none
def put(st:St)(d:Option Nat):SV×Option Ob→Option St
 |(v,none)=>some (st.set d v)
 |(v,some o)=>AY st d v o
section
variable {E:Env}
theorem Q4{rd:Nat→Ob}{ρ:SO→SV}{st:St}{d:Option Nat}{f:FuncId}{args:List SO}{caps:List CV}:CJ E rd ρ st d f args caps=(FB E rd ρ d f args caps).bind (put st d):=by
 unfold CJ FB
 cases Ar (fun x=>BS rd (ρ x)) args with
 |none=>rfl
 |some l=>
  simp only[Option.bind_some]
  cases E.fn f (l++caps)with
  |none=>rfl
  |some r=>
   simp only[Option.bind_some];split
   ·cases r<;>rfl
   ·rfl
theorem Hi{rd:Nat→Ob}{st:St}{d:Option Nat}{op:SOp}(hs:op.hard=false):A2 E.still rd st d op=(A4 E rd (so E.G st.fr) d op).bind (put st d):=by
 cases op<;>simp only[SOp.hard,Bool.true_eq_false]at hs<;>simp only[A2,A4,SOp.cls,Vp]<;>first
  |rfl
  |(cases Ao rd (so E.G st.fr) _<;>rfl)
  |(generalize AV (so E.G st.fr) (d.getD 0) _=q;cases q<;>rfl)
  |exact Q4
  |skip
 show(match so E.G st.fr _ with| .c (.fn f caps)=>_|_=>none)=_;generalize so E.G st.fr _=q
 cases q<;>first
  |rfl
  |(rename_i v;cases v<;>first|rfl|exact Q4)
theorem Cu{D:List Nat}{st:St}{l:SL}(hs:l.op.hard=false):Ax E (some D) l st=(Ct E l st.fr (A9 (some (hid l.op D)) st.ob)).bind (put st l.dst):=by
 unfold Ax Ct;simp only[Option.map_some]
 cases l.guard with
 |none=>exact Hi hs
 |some p=>
  obtain⟨g,want⟩:=p;simp only;generalize st.fr g=q
  cases q with
  |c v=>
   cases v with
   |bool b=>
    simp only;split
    ·exact Hi hs
    ·rfl
   |tup l=>cases l<;>rfl
   |_=>rfl
  |_=>rfl
theorem EA{G:Nat→List CV}{fr fr':Nat→SV}(x:SO)(h:∀i∈x.slot,fr i=fr' i):so G fr x=so G fr' x:=by
 cases x with
 |t i=>exact h i (by simp[SO.slot])
 |_=>rfl
theorem Fh{α β:Type}{f g:α→Option β}:∀(l:List α),(∀x∈l,f x=g x)→Ar f l=Ar g l
 | [],_=>rfl
 |x::l,h=>by
  simp only[Ar,h x (by simp),Fh l (fun y hy=>h y (by simp[hy]))]
theorem Ky{α:Type}{f g:α→Bool}:∀(l:List α),(∀x∈l,f x=g x)→l.all f=l.all g
 | [],_=>rfl
 |x::l,h=>by
  simp only[List.all_cons,h x (by simp),Ky l (fun y hy=>h y (by simp[hy]))]
theorem Ic{ρ ρ':SO→SV}(o:Option SO)(h:∀x,(∀i∈x.slot,i∈Ib o)→ρ x=ρ' x):o.map ρ=o.map ρ':=by
 cases o with
 |none=>rfl
 |some x=>simp[h x (fun i hi=>by simpa[Ib]using hi)]
theorem Q5{rd:Nat→Ob}{fr fr':Nat→SV}{d:Option Nat}(op:SOp)(h:∀i∈op.slots,fr i=fr' i):A4 E rd (so E.G fr) d op=A4 E rd (so E.G fr') d op:=by
 have key:∀x:SO,(∀i∈x.slot,i∈op.slots)→so E.G fr x=so E.G fr' x:=fun x hx=>EA x fun i hi=>h i (hx i hi);generalize so E.G fr=ρ at key⊢;generalize so E.G fr'=ρ' at key⊢
 cases op with
 |mov x=>simp only[A4,SOp.cls,Ao,key x (fun i hi=>by simp[SOp.slots,hi])]
 |pick c x y=>simp only[A4,SOp.cls,Ao,key c (fun i hi=>by simp[SOp.slots,hi]),key x (fun i hi=>by simp[SOp.slots,hi]),key y (fun i hi=>by simp[SOp.slots,hi])]
 |bin op x y=>simp only[A4,SOp.cls,Ao,key x (fun i hi=>by simp[SOp.slots,hi]),key y (fun i hi=>by simp[SOp.slots,hi])]
 |eqs n ts x y=>simp only[A4,SOp.cls,Ao,key x (fun i hi=>by simp[SOp.slots,hi]),key y (fun i hi=>by simp[SOp.slots,hi])]
 |beq n x y=>simp only[A4,SOp.cls,Ao,key x (fun i hi=>by simp[SOp.slots,hi]),key y (fun i hi=>by simp[SOp.slots,hi])]
 |isnil k n x=>simp only[A4,SOp.cls,Ao,key x (fun i hi=>by simp[SOp.slots,hi])]
 |un op x=>simp only[A4,SOp.cls,Ao,key x (fun i hi=>by simp[SOp.slots,hi])]
 |cvi k x=>simp only[A4,SOp.cls,Ao,key x (fun i hi=>by simp[SOp.slots,hi])]
 |cvrune x=>simp only[A4,SOp.cls,Ao,key x (fun i hi=>by simp[SOp.slots,hi])]
 |cvbs x=>simp only[A4,SOp.cls,Ao,key x (fun i hi=>by simp[SOp.slots,hi])]
 |cvid x=>simp only[A4,SOp.cls,Ao,key x (fun i hi=>by simp[SOp.slots,hi])]
 |field o s x=>simp only[A4,SOp.cls,Ao,key x (fun i hi=>by simp[SOp.slots,hi])]
 |ext x j=>simp only[A4,SOp.cls,Ao,key x (fun i hi=>by simp[SOp.slots,hi])]
 |faddr o x=>simp only[A4,SOp.cls,Ao,key x (fun i hi=>by simp[SOp.slots,hi])]
 |iaddr s x y=>simp only[A4,SOp.cls,Ao,key x (fun i hi=>by simp[SOp.slots,hi]),key y (fun i hi=>by simp[SOp.slots,hi])]
 |aaddr l s x y=>simp only[A4,SOp.cls,Ao,key x (fun i hi=>by simp[SOp.slots,hi]),key y (fun i hi=>by simp[SOp.slots,hi])]
 |sidx x y=>simp only[A4,SOp.cls,Ao,key x (fun i hi=>by simp[SOp.slots,hi]),key y (fun i hi=>by simp[SOp.slots,hi])]
 |aidx l s z x y=>simp only[A4,SOp.cls,Ao,key x (fun i hi=>by simp[SOp.slots,hi]),key y (fun i hi=>by simp[SOp.slots,hi])]
 |load s x=>simp only[A4,SOp.cls,Ao,key x (fun i hi=>by simp[SOp.slots,hi])]
 |len k x=>simp only[A4,SOp.cls,Ao,key x (fun i hi=>by simp[SOp.slots,hi])]
 |lookup mt kt z ok x y=>simp only[A4,SOp.cls,Ao,key x (fun i hi=>by simp[SOp.slots,hi]),key y (fun i hi=>by simp[SOp.slots,hi])]
 |alloc z=>rfl
 |allocT T z=>rfl
 |box x=>simp only[A4,SOp.cls,AV,key x (fun i hi=>by simp[SOp.slots,hi])]
 |mkmap mt kt z=>rfl
 |make e s b z x y=>simp only[A4,SOp.cls,AV,key x (fun i hi=>by simp[SOp.slots,hi]),key y (fun i hi=>by simp[SOp.slots,hi])]
 |bytes e x=>simp only[A4,SOp.cls,Ao,key x (fun i hi=>by simp[SOp.slots,hi])]
 |nchk x=>simp only[A4,SOp.cls,Ao,key x (fun i hi=>by simp[SOp.slots,hi])]
 |siter x=>simp only[A4,SOp.cls,AV,key x (fun i hi=>by simp[SOp.slots,hi])]
 |mrange x=>simp only[A4,SOp.cls,AV,key x (fun i hi=>by simp[SOp.slots,hi])]
 |mentry x=>simp only[A4,SOp.cls,Ao,key x (fun i hi=>by simp[SOp.slots,hi])]
 |nbytes e x=>simp only[A4,SOp.cls,AV,key x (fun i hi=>by simp[SOp.slots,hi])]
 |store n x y=>rfl
 |append e s b x y=>rfl
 |mapent mt x y=>rfl
 |entst x y z=>rfl
 |mapupd mt x y z=>rfl
 |mcopy f x y=>rfl
 |snext x=>rfl
 |asl n x=>simp only[A4,SOp.cls,Ao,key x (fun i hi=>by simp[SOp.slots,hi])]
 |sslice x lo hi=>
  have e1:=Ic lo (fun y hy=>key y (fun i hi=>by simp[SOp.slots,hy i hi]));have e2:=Ic hi (fun y hy=>key y (fun i hi=>by simp[SOp.slots,hy i hi]));simp only[A4,SOp.cls,Ao,key x (fun i hi=>by simp[SOp.slots,hi]),e1,e2]
 |slice s x lo hi=>
  have e1:=Ic lo (fun y hy=>key y (fun i hi=>by simp[SOp.slots,hy i hi]));have e2:=Ic hi (fun y hy=>key y (fun i hi=>by simp[SOp.slots,hy i hi]));simp only[A4,SOp.cls,Ao,key x (fun i hi=>by simp[SOp.slots,hi]),e1,e2]
 |slice3 s x lo hi mx=>
  have e1:=Ic lo (fun y hy=>key y (fun i hi=>by simp[SOp.slots,hy i hi]));simp only[A4,SOp.cls,Ao,key x (fun i hi=>by simp[SOp.slots,hi]),e1,key hi (fun i h=>by simp[SOp.slots,h]),key mx (fun i h=>by simp[SOp.slots,h])]
 |capp e s b x y=>simp only[A4,SOp.cls,Ao,key x (fun i hi=>by simp[SOp.slots,hi]),key y (fun i hi=>by simp[SOp.slots,hi])]
 |build z ps=>
  simp only[A4,SOp.cls,Ao];rw[Fh ps (fun p hp=>by rw[key p.2.2 (fun i hi=>by simp only[SOp.slots,List.mem_flatMap];exact⟨p,hp,hi⟩)])]
 |minmax m xs=>
  simp only[A4,SOp.cls,Ao];rw[Fh xs (fun p hp=>by rw[key p (fun i hi=>by simp only[SOp.slots,List.mem_flatMap];exact⟨p,hp,hi⟩)])]
 |fnv f xs=>
  simp only[A4,SOp.cls,Ao];rw[Fh xs (fun p hp=>by rw[key p (fun i hi=>by simp only[SOp.slots,List.mem_flatMap];exact⟨p,hp,hi⟩)])]
 |lsl e s xs=>
  simp only[A4,SOp.cls,Ao];rw[Fh xs (fun p hp=>by rw[key p (fun i hi=>by simp only[SOp.slots,List.mem_flatMap];exact⟨p,hp,hi⟩)])]
 |mksl e s xs=>
  simp only[A4,SOp.cls,AV];rw[Fh xs (fun p hp=>by rw[key p (fun i hi=>by simp only[SOp.slots,List.mem_flatMap];exact⟨p,hp,hi⟩)])]
 |call f xs=>
  simp only[A4,SOp.cls,FB]
  rw[Fh xs (fun p hp=>by rw[key p (fun i hi=>by simp only[SOp.slots,List.mem_flatMap];exact⟨p,hp,hi⟩)]),
   Ky xs (fun p hp=>by rw[key p (fun i hi=>by simp only[SOp.slots,List.mem_flatMap];exact⟨p,hp,hi⟩)])]
 |callv f xs=>
  simp only[A4,SOp.cls,FB]
  rw[Fh xs (fun p hp=>by rw[key p (fun i hi=>by simp only[SOp.slots,List.mem_append,List.mem_flatMap];exact .inr ⟨p,hp,hi⟩)]),
   Ky xs (fun p hp=>by rw[key p (fun i hi=>by simp only[SOp.slots,List.mem_append,List.mem_flatMap];exact .inr ⟨p,hp,hi⟩)]),
   key f (fun i hi=>by simp[SOp.slots,hi])]
theorem Hh{rd:Nat→Ob}{fr fr':Nat→SV}{l:SL}(h:∀i∈l.looks,fr i=fr' i):Ct E l fr rd=Ct E l fr' rd:=by
 have h1:∀i∈l.op.slots,fr i=fr' i:=fun i hi=>h i (by simp[SL.looks,hi]);unfold Ct
 cases hg:l.guard with
 |none=>exact Q5 _ h1
 |some p=>
  obtain⟨g,want⟩:=p;simp only;rw[h g (by simp[SL.looks,hg]),Q5 _ h1]
theorem PF{D:List Nat}{st st':St}{d:Option Nat}{p:SV×Option Ob}(h:put st d p=some st')(hD:p.2.isSome=true→∀j,d=some j→D.contains j=true):A9 (some D) st'.ob=A9 (some D) st.ob:=by
 obtain⟨v,o⟩:=p
 cases o with
 |none=>
  simp only[put,Ac]at h;subst h;cases d<;>rfl
 |some o=>
  simp only[put,AY]at h
  cases d with
  |none=>cases h
  |some d=>
   simp only at h;split at h<;>(try cases h;done);cases h;have:=hD rfl d rfl;funext i;simp only[A9,B5];split
   ·rfl
   ·rename_i hi;split
    ·rename_i e;subst e;exact(hi this).elim
    ·rfl
theorem DT{st st':St}{d:Option Nat}{p:SV×Option Ob}(h:put st d p=some st'){i:Nat}(hi:d≠some i):st'.fr i=st.fr i:=by
 obtain⟨v,o⟩:=p
 cases o with
 |none=>
  simp only[put,Ac]at h;subst h
  cases d with
  |none=>rfl
  |some d=>exact Az _ _ (fun e=>hi (by rw[e]))
 |some o=>
  simp only[put,AY]at h
  cases d with
  |none=>cases h
  |some d=>
   simp only at h;split at h<;>(try cases h;done);cases h;exact Az _ _ (fun e=>hi (by rw[e]))
theorem EC{α:Type}(f:Nat→α){i j:Nat}(u v:α)(h:i≠j):upd (upd f i u) j v=upd (upd f j v) i u:=by
 funext k;simp only[B5];by_cases h1:k=i<;>by_cases h2:k=j<;>simp_all
theorem UF{st s1 s2:St}{d1 d2:Option Nat}{p1 p2:SV×Option Ob}(h1:put st d1 p1=some s1)(h2:put s1 d2 p2=some s2)(hd:∀i j,d1=some i→d2=some j→i≠j):∃s,put st d2 p2=some s∧put s d1 p1=some s2:=by
 obtain⟨v1,o1⟩:=p1;obtain⟨v2,o2⟩:=p2
 cases d1 with
 |none=>
  cases o1 with
  |none=>
   simp only[put,Ac]at h1;cases h1;exact⟨s2,h2,rfl⟩
  |some o=>cases h1
 |some i=>
  cases d2 with
  |none=>
   cases o2 with
   |none=>
    simp only[put,Ac]at h2;cases h2;exact⟨st,rfl,h1⟩
   |some o=>cases h2
  |some j=>
   have hij:=hd i j rfl rfl
   cases o1 with
   |none=>
    simp only[put,Ac]at h1;cases h1
    cases o2 with
    |none=>
     simp only[put,Ac]at h2;cases h2;exact⟨_,rfl,by simp[put,St.set,EC _ _ _ hij]⟩
    |some o2=>
     simp only[put,AY,St.set]at h2;split at h2<;>(try cases h2;done);rename_i hn;cases h2;exact⟨{fr:=upd st.fr j v2,ob:=upd st.ob j o2},by simp[put,AY,hn],by simp[put,St.set,EC _ _ _ hij]⟩
   |some o1=>
    simp only[put,AY]at h1;split at h1<;>(try cases h1;done);rename_i hn;cases h1
    cases o2 with
    |none=>
     simp only[put,Ac]at h2;cases h2;exact⟨_,rfl,by simp[put,AY,St.set,hn,EC _ _ _ hij]⟩
    |some o2=>
     simp only[put,AY,Az _ _ (Ne.symm hij)]at h2;split at h2<;>(try cases h2;done);rename_i hn2;cases h2;exact⟨{fr:=upd st.fr j v2,ob:=upd st.ob j o2},by simp[put,AY,hn2],by simp[put,AY,Az _ _ hij,hn,EC _ _ _ hij]⟩
theorem Q6{rd:Nat→Ob}{ρ:SO→SV}{d:Option Nat}{op:SOp}{p:SV×Option Ob}(h:A4 E rd ρ d op=some p)(hp:p.2.isSome=true):op.makes=true:=by
 cases op<;>simp only[A4,SOp.cls,Aa,reduceCtorEq]at h<;>first
  |rfl
  |(obtain⟨v,_,rfl⟩:=h;cases hp)
theorem Kg{l:SL}{fr:Nat→SV}{rd:Nat→Ob}{p:SV×Option Ob}(h:Ct E l fr rd=some p)(hp:p.2.isSome=true):l.op.makes=true:=by
 unfold Ct at h;split at h
 ·exact Q6 h hp
 ·split at h
  ·split at h
   ·exact Q6 h hp
   ·cases h;cases hp
  ·cases h;cases hp
  ·cases h
theorem V2{D:List Nat}{a b:SL}{st s1 s2:St}(ha:a.op.hard=false)(hb:b.op.hard=false)(hDa:a.op.makes=true→∀j,a.dst=some j→(hid b.op D).contains j=true)(hDb:b.op.makes=true→∀j,b.dst=some j→(hid a.op D).contains j=true)
  (hab:∀i,a.dst=some i→i∉b.looks∧b.dst≠some i) (hba:∀i,b.dst=some i→i∉a.looks) (h1:Ax E (some D) a st=some s1) (h2:Ax E (some D) b s1=some s2):
  ∃s,Ax E (some D) b st=some s∧Ax E (some D) a s=some s2:=by
 rw[Cu ha,Ab]at h1;rw[Cu hb,Ab]at h2;obtain⟨p1,e1,h1⟩:=h1;obtain⟨p2,e2,h2⟩:=h2;have m1:=PF (D:=hid b.op D) h1 (fun hs j hj=>hDa (Kg e1 hs) j hj);rw[m1,Hh (fr':=st.fr) (fun i hi=>DT h1 (fun e=>(hab i e).1 hi))]at e2;obtain⟨s,g1,g2⟩:=UF h1 h2 (fun i j hi hj e=>(hab i hi).2 (by rw[hj,e]));have m2:=PF (D:=hid a.op D) g1 (fun hs j hj=>hDb (Kg e2 hs) j hj);refine⟨s, ?_, ?_⟩
 ·rw[Cu hb,e2];exact g1
 ·rw[Cu ha,m2,Hh (fr':=st.fr) (fun i hi=>DT g1 (fun e=>hba i e hi)),e1];exact g2
end
def gd(l:SL)(fr:Nat→SV):Option Bool:=
 match l.guard with
 |none=>some true
 |some (g,want)=>match fr g with
  | .c (.bool b)=>some (decide (b=want))
  | .c (.tup [])=>some false
  |_=>none
section
variable {E:Env}
theorem FS{D:Option (List Nat)}{l:SL}{st:St}:Ax E D l st=(gd l st.fr).bind fun t=>if t=true then A2 (E.at D) (A9 (D.map (hid l.op)) st.ob) st l.dst l.op else some (st.set l.dst AP):=by
 unfold Ax gd
 cases l.guard with
 |none=>rfl
 |some p=>
  obtain⟨g,want⟩:=p;simp only;generalize st.fr g=q
  cases q with
  |c v=>
   cases v with
   |bool b=>by_cases hb:b=want<;>simp[hb]
   |tup l=>cases l<;>rfl
   |_=>rfl
  |_=>rfl
theorem Lv{l:SL}{fr fr':Nat→SV}(h:∀i∈l.looks,fr i=fr' i):gd l fr=gd l fr':=by
 unfold gd
 cases hg:l.guard with
 |none=>rfl
 |some p=>
  obtain⟨g,want⟩:=p;simp only;rw[h g (by simp[SL.looks,hg])]
theorem OG{kt:KT}{k c:CV}:∀(ks:List CV),A7 kt k (ks++ [c])=match A7 kt k ks with
  |some i=>some i
  |none=>if BV kt k c then some ks.length else none
 | []=>by simp[A7]
 |a::ks=>by
  simp only[List.cons_append,A7,OG ks];split
  ·rfl
  ·cases A7 kt k ks with
   |some i=>rfl
   |none=>
    simp only[Option.map_none];split<;>simp
theorem TI{kt:KT}{z:CV}{ks vs:List CV}(k k':CV)(hl:ks.length=vs.length):(AB kt z (AM kt ks k) (AN kt ks vs k (AB kt z ks vs k).1) k').1=(AB kt z ks vs k').1:=by
 unfold AM AN
 cases hk:A7 kt k ks with
 |some i=>
  have:(AB kt z ks vs k).1=vs.getD i z:=by simp[AB,hk]
  rw[this];have hi:=Jf hk
  have:vs.set i (vs.getD i z)=vs:=by
   rw[List.getD_eq_getElem?_getD,Ai (by omega:i<vs.length)];simp
  simp only[this]
 |none=>
  have:(AB kt z ks vs k).1=z:=by simp[AB,hk]
  rw[this];simp only[AB,OG]
  cases hk':A7 kt k' ks with
  |some j=>
   have hj:=Jf hk';simp[List.getD_eq_getElem?_getD,List.getElem?_append_left (by omega:j<vs.length)]
  |none=>
   simp only;by_cases he:BV kt k' k<;>simp[he,List.getD_eq_getElem?_getD,hl]
theorem RI{rd rd':Nat→Ob}{mt:TypeId}{kt:KT}{z:CV}{ks vs:List CV}{k:CV}(hl:ks.length=vs.length)
  (h:∀i,rd' i=rd i∨(rd i=.map mt kt z ks vs∧rd' i=.map mt kt z (AM kt ks k) (AN kt ks vs k (AB kt z ks vs k).1))) {ρ:SO→SV} {d:Option Nat} {op:SOp} (hc:op.calm=true):A4 E rd' ρ d op=A4 E rd ρ d op:=by
 cases op<;>simp only[SOp.calm,Ag]at hc<;>try rfl
 rename_i mt' kt' z' ok x y;cases ok<;>simp only[Ag]at hc;simp only[A4,SOp.cls,Ao]
 congr 2
 generalize ρ x=q1;generalize ρ y=q2
 cases q1 with
 |omap id=>
  cases q2 with
  |c kc=>
   rcases h id with e|⟨e1,e2⟩
   ·simp only[Dm,e]
   ·simp only[Dm,e1,e2,Ag,if_false,TI k kc hl]
  |_=>rfl
 |c v=>cases v<;>cases q2<;>rfl
 |_=>rfl
theorem Vx{D:List Nat}{a b:SL}{st s1 s2:St}(ha:a.op.calm=true)(hb:b.op.entry=true)
  (hab:∀i,a.dst=some i→i∉b.looks∧b.dst≠some i) (hba:∀i,b.dst=some i→i∉a.looks) (h1:Ax E (some D) a st=some s1) (h2:Ax E (some D) b s1=some s2):
  ∃s,Ax E (some D) b st=some s∧Ax E (some D) a s=some s2:=by
 have hah:a.op.hard=false:=by
  revert ha;cases a.op<;>simp[SOp.calm,SOp.hard]
 have ham:a.op.makes=false:=by
  revert ha;cases a.op<;>simp[SOp.calm,SOp.makes]
 rw[Cu hah,Ab]at h1;obtain⟨⟨v,o⟩,e1,h1⟩:=h1
 have ho:o=none:=by
  cases o with
  |none=>rfl
  |some o=>have:=Kg e1 rfl;rw[ham]at this;cases this
 subst ho;have hf1:∀i∈b.looks,s1.fr i=st.fr i:=fun i hi=>DT h1 (fun e=>(hab i e).1 hi);simp only[put,Ac]at h1;have hob1:s1.ob=st.ob:=by subst h1;cases a.dst<;>rfl
 rw[FS,Lv hf1,Ab]at h2;obtain⟨t,ht,h2⟩:=h2;have dcomm:∀i j,b.dst=some i→a.dst=some j→i≠j:=fun i j hi hj e=>(hab j hj).2 (by rw[hi,e])
 cases t with
 |false=>
  simp only[Ag,if_false,Ac]at h2;refine⟨st.set b.dst AP,by rw[FS,ht];rfl, ?_⟩;have g1:put st b.dst (AP,none)=some (st.set b.dst AP):=rfl;have hm:(st.set b.dst AP).ob=st.ob:=by cases b.dst<;>rfl
  rw[Cu hah,hm,Hh (fr':=st.fr) (fun i hi=>DT g1 (fun e=>hba i e hi)),e1]
  have hc:∀(x y:Option Nat) (u v:SV),(∀i j,x=some i→y=some j→i≠j)→(st.set x u).set y v=(st.set y v).set x u:=by
   intro x y u v hxy;cases x<;>cases y<;>try rfl
   simp only[St.set,EC _ _ _ (hxy _ _ rfl rfl)]
  simp only[Option.bind_some,put,←h2,←h1,hc _ _ _ _ dcomm]
 |true=>
  simp only[if_true]at h2;cases hop:b.op<;>simp only[hop,SOp.entry,Ag]at hb;rename_i mt x k
  have hslots:∀y:SO,(y=x∨y=k)→so E.G s1.fr y=so E.G st.fr y:=fun y hy=>EA y fun i hi=>hf1 i (by
   simp only[SL.looks,hop,SOp.slots,List.mem_append];rcases hy with rfl|rfl
   ·exact .inl (.inl hi)
   ·exact .inl (.inr hi))
  simp only[hop,A2,SOp.cls,AD,CY,hslots x (.inl rfl),hslots k (.inr rfl),hob1]at h2;cases hx:so E.G st.fr x<;>simp only[hx,reduceCtorEq]at h2;cases hkk:so E.G st.fr k<;>simp only[hkk,reduceCtorEq]at h2;rename_i id kc;cases hobi:st.ob id<;>simp only[hobi,reduceCtorEq]at h2;rename_i mt' kt z ks vs;simp only[Ad,Ac]at h2;obtain⟨⟨rfl,hcf,hlen⟩,h2⟩:=h2;refine⟨St.set {st with ob:=upd st.ob id (.map mt' kt z (AM kt ks kc) (AN kt ks vs kc (AB kt z ks vs kc).1))} b.dst (.ent id kc (AB kt z ks vs kc).1), ?_, ?_⟩
  ·rw[FS,ht];simp[hop,A2,SOp.cls,AD,hx,hkk,hobi,hcf,hlen]
  ·have hfr:∀i∈a.looks,(St.set {st with ob:=upd st.ob id (.map mt' kt z (AM kt ks kc) (AN kt ks vs kc (AB kt z ks vs kc).1))} b.dst (.ent id kc (AB kt z ks vs kc).1)).fr i=st.fr i:=by
    intro i hi
    cases hbd:b.dst with
    |none=>rfl
    |some j=>exact Az _ _ (fun e=>hba j hbd (e▸hi))
   have hob:(St.set {st with ob:=upd st.ob id (.map mt' kt z (AM kt ks kc) (AN kt ks vs kc (AB kt z ks vs kc).1))} b.dst (.ent id kc (AB kt z ks vs kc).1)).ob=upd st.ob id (.map mt' kt z (AM kt ks kc) (AN kt ks vs kc (AB kt z ks vs kc).1)):=by
    cases b.dst<;>rfl
   have hrd:∀i,A9 (some (hid a.op D)) (upd st.ob id (.map mt' kt z (AM kt ks kc) (AN kt ks vs kc (AB kt z ks vs kc).1))) i=A9 (some (hid a.op D)) st.ob i∨(A9 (some (hid a.op D)) st.ob i=.map mt' kt z ks vs∧A9 (some (hid a.op D)) (upd st.ob id (.map mt' kt z (AM kt ks kc) (AN kt ks vs kc (AB kt z ks vs kc).1))) i=.map mt' kt z (AM kt ks kc) (AN kt ks vs kc (AB kt z ks vs kc).1)):=by
    intro i;simp only[A9,B5];by_cases hi:(hid a.op D).contains i=true
    ·simp only[hi,if_true];exact .inl trivial
    ·by_cases e:i=id
     ·subst e;rw[if_neg hi,if_neg hi,if_pos rfl];exact .inr ⟨hobi,rfl⟩
     ·rw[if_neg hi,if_neg hi,if_neg e];exact .inl rfl
   have e1':Ct E a st.fr (A9 (some (hid a.op D)) (upd st.ob id (.map mt' kt z (AM kt ks kc) (AN kt ks vs kc (AB kt z ks vs kc).1))))=some (v,none):=by
    rw[←e1];unfold Ct;simp only[RI hlen hrd ha]
   rw[Cu hah,hob,Hh hfr,e1'];simp only[Option.bind_some,put,←h2,←h1]
   congr 1
   cases hbd:b.dst<;>cases had:a.dst<;>try rfl
   simp only[St.set,EC _ _ _ (dcomm _ _ hbd had)]
end
section
variable {E:Env}
theorem St.set_comm(st:St):∀(x y:Option Nat) (u v:SV),(∀i j,x=some i→y=some j→i≠j)→(st.set x u).set y v=(st.set y v).set x u:=by
 intro x y u v hxy;cases x<;>cases y<;>try rfl
 simp only[St.set,EC _ _ _ (hxy _ _ rfl rfl)]
theorem Vr{d d':Option Nat}{ρ ρ':SO→SV}{st st' s:St}{n:Nat}{x y:SO}(hx:ρ x=ρ' x)(hy:ρ y=ρ' y)(hob:st.ob=st'.ob)(h:AD d ρ st (.store n x y)=some s):
  s.fr=st.fr∧AD d' ρ' st' (.store n x y)=some {fr:=st'.fr,ob:=s.ob}:=by
 simp only[AD,hx,hy,hob]at h⊢;generalize deref st'.ob (ρ' x)=q at h⊢;cases q<;>(try(cases h;done))
 ·rename_i cv;cases cv<;>(try cases h;done);rename_i cs
  cases cs with
  |nil=>cases h
  |cons c0 cs=>
   cases cs with
   |cons _ _=>cases c0<;>cases h
   |nil=>
    cases c0<;>(try cases h;done);cases hv:ρ' y<;>simp only[hv]at h⊢ <;>(try cases h;done);rename_i c2;cases c2<;>(try cases h;done);simp only[Ad,Ac]at h⊢;obtain⟨hc,rfl⟩:=h;exact⟨rfl,hc,by rw[hob]⟩
 ·rename_i id o;cases hb:st'.ob id<;>simp only[hb,reduceCtorEq]at h⊢;cases hv:ρ' y<;>simp only[hv,reduceCtorEq]at h⊢;all_goals(repeat' (split at h))<;>(try cases h)<;>simp_all
 ·rename_i id i size o;cases hb:st'.ob id<;>simp only[hb,reduceCtorEq]at h⊢;cases hv:ρ' y<;>simp only[hv,reduceCtorEq]at h⊢;split at h
  ·rename_i hc;rw[Ab]at h;obtain⟨el,h1,h2⟩:=h;split at h2
   ·rename_i hc2;cases h2;simp[hc,h1,hc2]
   ·cases h2
  ·cases h
theorem Vq{a:SL}(ha:a.op.still=true){fr:Nat→SV}{rd rd':Nat→Ob}:Ct E a fr rd=Ct E a fr rd':=by
 have key:∀ρ d,A4 E rd ρ d a.op=A4 E rd' ρ d a.op:=by
  intro ρ d;revert ha;cases a.op<;>simp[SOp.still,A4,SOp.cls,Ao]
 unfold Ct;simp only[key]
theorem V3{D:List Nat}{a b:SL}{st s1 s2:St}(ha:a.op.still=true)(hb:b.op.stores=true)
  (hab:∀i,a.dst=some i→i∉b.looks∧b.dst≠some i) (hba:∀i,b.dst=some i→i∉a.looks) (h1:Ax E (some D) a st=some s1) (h2:Ax E (some D) b s1=some s2):
  ∃s,Ax E (some D) b st=some s∧Ax E (some D) a s=some s2:=by
 have hah:a.op.hard=false:=by
  revert ha;cases a.op<;>simp[SOp.still,SOp.hard]
 have ham:a.op.makes=false:=by
  revert ha;cases a.op<;>simp[SOp.still,SOp.makes]
 rw[Cu hah,Ab]at h1;obtain⟨⟨v,o⟩,e1,h1⟩:=h1
 have ho:o=none:=by
  cases o with
  |none=>rfl
  |some o=>have:=Kg e1 rfl;rw[ham]at this;cases this
 subst ho;have hf1:∀i∈b.looks,s1.fr i=st.fr i:=fun i hi=>DT h1 (fun e=>(hab i e).1 hi);simp only[put,Ac]at h1;have hob1:s1.ob=st.ob:=by subst h1;cases a.dst<;>rfl
 rw[FS,Lv hf1,Ab]at h2;obtain⟨t,ht,h2⟩:=h2;have dcomm:∀i j,b.dst=some i→a.dst=some j→i≠j:=fun i j hi hj e=>(hab j hj).2 (by rw[hi,e])
 cases t with
 |false=>
  simp only[Ag,if_false,Ac]at h2;refine⟨st.set b.dst AP,by rw[FS,ht];rfl, ?_⟩;have g1:put st b.dst (AP,none)=some (st.set b.dst AP):=rfl;have hm:(st.set b.dst AP).ob=st.ob:=by cases b.dst<;>rfl
  rw[Cu hah,hm,Hh (fr':=st.fr) (fun i hi=>DT g1 (fun e=>hba i e hi)),e1];simp only[Option.bind_some,put,←h2,←h1,St.set_comm st _ _ _ _ dcomm]
 |true=>
  simp only[if_true]at h2;cases hop:b.op<;>simp only[hop,SOp.stores,Ag]at hb;rename_i n x y
  have hslots:∀z:SO,(z=x∨z=y)→so E.G s1.fr z=so E.G st.fr z:=fun z hz=>EA z fun i hi=>hf1 i (by
   simp only[SL.looks,hop,SOp.slots,List.mem_append];rcases hz with rfl|rfl
   ·exact .inl (.inl hi)
   ·exact .inl (.inr hi))
  simp only[hop,A2,SOp.cls]at h2;obtain⟨k1,k2⟩:=Vr (d':=b.dst) (hslots x (.inl rfl)) (hslots y (.inr rfl)) hob1 h2;refine⟨{fr:=st.fr,ob:=s2.ob},by rw[FS,ht];simp only[Option.bind_some,if_true,hop,A2,SOp.cls];exact k2, ?_⟩;rw[Cu hah,Vq ha (rd':=A9 (some (hid a.op D)) st.ob),e1];simp only[Option.bind_some,put]
  congr 1
  have:s2={fr:=s1.fr,ob:=s2.ob}:=by rw[←k1]
  rw[this,←h1];cases a.dst<;>rfl
def EG(st:St)(d:Option Nat)(e size bytes:Nat)(vx vy:SV):Option (Nat×Ob):=
 match CR st vy with
 |none=>none
 |some news=>
  if(news.all (fun v=>AK v==size)&&news.all fun v=>v.cells.all Cd)=true then
   match vx with
   | .c (.sl (some true) _)=>
     if news.length*bytes≤140737488355328∧news.length≤4611686018427387904 then
      match d with
      |some d=>some (d,.arr e size news)
      |none=>none
     else none
   | .osl id=>match st.ob id with
     | .arr e' size' es=>
      if e'=e∧size'=size∧(es.length+news.length)*bytes≤140737488355328∧es.length+news.length≤4611686018427387904 then some (id,.arr e size (es++news))else none
     |_=>none
   |_=>none
  else none
def CC(st:St)(d:Option Nat)(p:Nat×Ob):St:=St.set {fr:=fun i=>Av [p.1] (st.fr i),ob:=upd (kill [p.1] st).ob p.1 p.2} d (.osl p.1)
theorem K0{d:Option Nat}{ρ:SO→SV}{st:St}{e size bytes:Nat}{x y:SO}:AD d ρ st (.append e size bytes x y)=(EG st d e size bytes (ρ x) (ρ y)).map (CC st d):=by
 simp only[AD,EG]
 cases CR st (ρ y)with
 |none=>rfl
 |some news=>
  simp only;split
  ·generalize ρ x=q;split
   ·split
    ·cases d<;>rfl
    ·rfl
   ·rename_i id
    cases hq:st.ob id with
    |arr e' size' es=>
     simp only[hq];by_cases hc:e'=e∧size'=size∧(es.length+news.length)*bytes≤140737488355328∧es.length+news.length≤4611686018427387904
     ·rw[if_pos hc,if_pos hc];rfl
     ·rw[if_neg hc,if_neg hc];rfl
    |_=>simp only[hq];rfl
   ·rename_i h1 h2;split
    ·exact(h1 _ rfl).elim
    ·exact(h2 _ rfl).elim
    ·rfl
  ·rfl
theorem Ue{st st':St}{v:SV}{news:List CV}(hk:∀i e s es,st.ob i=.arr e s es→st'.ob i=.arr e s es)(h:CR st v=some news):CR st' v=some news:=by
 unfold CR at h⊢;split at h
 ·exact h
 ·split at h
  ·rename_i hq;rw[hk _ _ _ _ hq];exact h
  ·cases h
 ·cases h
theorem Kz{st st':St}{d:Option Nat}{e size bytes:Nat}{vx vy:SV}{p:Nat×Ob}(hk:∀i e s es,st.ob i=.arr e s es→st'.ob i=.arr e s es)(h:EG st d e size bytes vx vy=some p):EG st' d e size bytes vx vy=some p:=by
 unfold EG at h⊢
 cases hn:CR st vy with
 |none=>rw[hn]at h;cases h
 |some news=>
  rw[hn]at h;rw[Ue hk hn];simp only at h⊢;split at h
  ·rename_i hc;rw[if_pos hc];split at h
   ·exact h
   ·rename_i id;cases hob:st.ob id<;>simp only[hob,reduceCtorEq]at h;rw[hk _ _ _ _ hob];exact h
   ·cases h
  ·cases h
theorem Rw{st:St}{d:Option Nat}{e size bytes:Nat}{vx vy:SV}{p:Nat×Ob}(h:EG st d e size bytes vx vy=some p):∃es,p.2=.arr e size es:=by
 unfold EG at h;split at h
 ·cases h
 ·split at h
  ·split at h
   ·split at h
    ·split at h
     ·cases h;exact⟨_,rfl⟩
     ·cases h
    ·cases h
   ·split at h
    ·split at h
     ·cases h;exact⟨_,rfl⟩
     ·cases h
    ·cases h
   ·cases h
  ·cases h
theorem N9{D:List Nat}{v:SV}{c:CV}(h:closed (Av D v)=some c):closed v=some c:=by
 cases v<;>simp only[Av]at h<;>first
  |exact h
  |(split at h<;>simp[closed]at h)
theorem Ns{α β:Type}{f g:α→Option β}:∀{l:List α} {r:List β},(∀x c,f x=some c→g x=some c)→Ar f l=some r→Ar g l=some r
 | [],_,_,h=>h
 |x::l,r,hfg,h=>by
  simp only[Ar,Ab,Aa]at h⊢;obtain⟨c,h1,bs,h2,h3⟩:=h;exact⟨c,hfg x c h1,bs,Ns hfg h2,h3⟩
theorem V6{D:List Nat}{b:SOp}(ht:b.tame=true){d:Option Nat}{st:St}{id:Nat}{e s:Nat}{es:List CV}{v':SV}{o':Option Ob}(hd:o'.isSome=true→∀j,d=some j→j≠id)(hd':o'.isSome=true→d≠none)
  (h:A4 E (A9 (some D) (upd (kill [id] st).ob id (.arr e s es))) (so E.G fun i=>Av [id] (st.fr i)) d b=some (v',o')):
  ∃v o,A4 E (A9 (some D) st.ob) (so E.G st.fr) d b=some (v,o)∧v'=Av [id] v∧o'=o.map (BO [id]):=by
 have hso:∀x,so E.G (fun i=>Av [id] (st.fr i)) x=Av [id] (so E.G st.fr x):=by
  intro x
  cases x with
  |t i=>rfl
  |k c=>rfl
  |g i=>simp only[so];cases E.G i<;>rfl
 cases b<;>simp only[SOp.tame,Ag]at ht
 case load sz x=>
  simp only[A4,SOp.cls,Ao,hso,Aa,Prod.mk.injEq]at h;obtain⟨r,h,rfl,rfl⟩:=h
  suffices hs:∃v,AT (A9 (some D) st.ob) sz (deref (A9 (some D) st.ob) (so E.G st.fr x))=some v∧r=Av [id] v by
   obtain⟨v,k1,k2⟩:=hs;exact⟨v,none,by simp[A4,SOp.cls,Ao,k1],k2,rfl⟩
  generalize so E.G st.fr x=q0 at h⊢
  have hdr:deref (A9 (some D) (upd (kill [id] st).ob id (.arr e s es))) (Av [id] q0)=.undef∨deref (A9 (some D) (upd (kill [id] st).ob id (.arr e s es))) (Av [id] q0)=Av [id] (deref (A9 (some D) st.ob) q0):=by
   cases q0 with
   |c v=>
    cases v<;>try exact .inr rfl
    rename_i N;simp only[Av,deref];by_cases hN:Au≤N
    ·simp only[if_pos hN];by_cases hD:D.contains N=true
     ·simp only[A9,hD,if_true];exact .inl trivial
     ·simp only[A9,hD,Ag,if_false];by_cases hNi:N=id
      ·subst hNi;simp only[AH];exact .inl trivial
      ·simp only[Az _ _ hNi,kill,show([id].contains N)=false by simpa using hNi,Ag,if_false];cases hob:st.ob N<;>simp only[BO,Av,show([id].contains N)=false by simpa using hNi,Ag,if_false]<;>first|exact .inr trivial|exact .inr rfl|exact .inl trivial
    ·simp only[if_neg hN];exact .inl trivial
   |ptr j o=>simp only[Av];split<;>simp_all[deref,Av]
   |eptr j i size o=>simp only[Av];split<;>simp_all[deref,Av]
   |osl j=>simp only[Av];split<;>simp_all[deref,Av]
   |omap j=>simp only[Av];split<;>simp_all[deref,Av]
   |iter j=>simp only[Av];split<;>simp_all[deref,Av]
   |stamp j k=>simp only[Av];split<;>simp_all[deref,Av]
   |ent j k v=>simp only[Av];split<;>simp_all[deref,Av]
   |undef=>exact .inl rfl
  rcases hdr with hdr|hdr
  ·rw[hdr]at h;cases h
  rw[hdr]at h;clear hdr;generalize deref (A9 (some D) st.ob) q0=q at h⊢
  cases q with
  |c v=>
   have h2:AT (A9 (some D) st.ob) sz (.c v)=some r:=by
    cases v<;>simp only[Av,AT,reduceCtorEq]at h⊢;all_goals exact h
   refine⟨r,h2, ?_⟩;cases v<;>simp only[AT,reduceCtorEq]at h2;all_goals(split at h2<;>(rw[Aa]at h2;obtain⟨c,_,rfl⟩:=h2;rfl))
  |ptr j o=>
   simp only[Av]at h;split at h
   ·cases h
   ·rename_i hj;have hj':j≠id:=fun e=>hj (by simp[e]);simp only[AT,A9,Az _ _ hj',kill,hj]at h⊢;cases hD:D.contains j<;>simp only[hD,if_true,Ag,if_false,reduceCtorEq]at h⊢;cases hb:st.ob j<;>simp only[hb,BO,reduceCtorEq]at h⊢;rename_i cs
    cases sz with
    |none=>
     simp only[List.getElem?_map,Aa]at h;obtain⟨v,h1,rfl⟩:=h;exact⟨v,h1,rfl⟩
    |some n=>
     simp only[List.length_map]at h⊢;split at h
     ·rename_i hl;rw[if_pos hl];rw[Aa]at h;obtain⟨l,h1,rfl⟩:=h;refine⟨.c (.agg l), ?_,rfl⟩
      have:∀(l2:List SV) r,Ar closed (l2.map (Av [id]))=some r→Ar closed l2=some r:=by
       intro l2
       induction l2 with
       |nil=>intro r h;exact h
       |cons a l2 ih=>
        intro r h;simp only[List.map_cons,Ar,Ab,Aa]at h⊢;obtain⟨c,k1,bs,k2,k3⟩:=h;exact⟨c,N9 k1,bs,ih bs k2,k3⟩
      rw[this _ l (by rw[List.map_take,List.map_drop];exact h1)];rfl
     ·cases h
  |eptr j i size o=>
   simp only[Av]at h;split at h
   ·cases h
   ·rename_i hj;have hj':j≠id:=fun e=>hj (by simp[e]);simp only[AT,A9,Az _ _ hj',kill,hj]at h⊢;cases hD:D.contains j<;>simp only[hD,if_true,Ag,if_false,reduceCtorEq]at h⊢;cases hb:st.ob j<;>simp only[hb,BO,reduceCtorEq]at h⊢;refine⟨r,h, ?_⟩;split at h
    ·rw[Ab]at h;obtain⟨el,_,h⟩:=h;rw[Aa]at h;obtain⟨c,_,rfl⟩:=h;rfl
    ·cases h
  |undef=>cases h
  |_=>simp only[Av]at h;split at h<;>cases h
 case alloc z=>
  simp only[A4,SOp.cls,AV,Option.map_some,Ac,Prod.mk.injEq]at h;obtain⟨rfl,rfl⟩:=h;refine⟨_,_,rfl, ?_, ?_⟩
  ·cases d with
   |none=>exact(hd' rfl rfl).elim
   |some j=>simp[Av,hd rfl j rfl]
  ·simp[BO,Av,Function.comp_def]
 case mksl e2 s2 parts=>
  simp only[A4,SOp.cls,AV,hso,Aa,Ab,Prod.mk.injEq]at h;obtain⟨⟨q1,q2⟩,⟨l,h1,h2⟩,rfl,rfl⟩:=h;split at h2
  ·rename_i hc;cases h2;have h1':=Ns (g:=fun x=>closed (so E.G st.fr x)) (fun x c=>N9) h1;refine⟨.osl (d.getD 0),some (.arr e2 s2 l), ?_, ?_,rfl⟩
   ·simp only[A4,SOp.cls,AV,h1',Option.bind_some,if_pos hc,Option.map_some]
   ·cases d with
    |none=>exact(hd' rfl rfl).elim
    |some j=>simp[Av,hd rfl j rfl]
  ·cases h2
theorem Vy{D:List Nat}{a b:SL}{st s1 s2:St}(ha:a.op.grows=true)(hga:a.guard=none)(hb:b.op.tame=true)(hgb:b.guard=none)
  (hab:∀i,a.dst=some i→i∉b.looks∧b.dst≠some i) (hba:∀i,b.dst=some i→i∉a.looks) (h1:Ax E (some D) a st=some s1) (h2:Ax E (some D) b s1=some s2):
  ∃s,Ax E (some D) b st=some s∧Ax E (some D) a s=some s2:=by
 have hbh:b.op.hard=false:=by
  revert hb;cases b.op<;>simp[SOp.tame,SOp.hard]
 cases hop:a.op<;>simp only[hop,SOp.grows,Ag]at ha;rename_i e size bytes x y
 have eva:∀s,Ax E (some D) a s=(EG s a.dst e size bytes (so E.G s.fr x) (so E.G s.fr y)).map (CC s a.dst):=by
  intro s;simp only[Ax,hga,hop,A2,SOp.cls];exact K0
 rw[eva,Aa]at h1;obtain⟨⟨id,oa⟩,p1,rfl⟩:=h1;obtain⟨es,he⟩:=Rw p1;simp only at he;subst he;rw[Cu hbh,Ab]at h2;obtain⟨⟨v',o'⟩,e2,h2⟩:=h2
 have hfr:∀i∈b.looks,(CC st a.dst (id,.arr e size es)).fr i=Av [id] (st.fr i):=by
  intro i hi;unfold CC
  cases hd:a.dst with
  |none=>rfl
  |some j=>exact Az _ _ (fun h=>(hab j hd).1 (h▸hi))
 have hob:(CC st a.dst (id,.arr e size es)).ob=upd (kill [id] st).ob id (.arr e size es):=by
  unfold CC;cases a.dst<;>rfl
 rw[Hh hfr,hob]at e2
 have e2':A4 E (A9 (some (hid b.op D)) (upd (kill [id] st).ob id (.arr e size es))) (so E.G fun i=>Av [id] (st.fr i)) b.dst b.op=some (v',o'):=by
  simpa only[Ct,hgb]using e2
 have hnew:∀o,o'=some o→∃j,b.dst=some j∧j≠id∧st.ob j=.none:=by
  intro o ho;subst ho;simp only[put,AY]at h2
  cases hbd:b.dst with
  |none=>rw[hbd]at h2;cases h2
  |some j=>
   rw[hbd]at h2;simp only[hob]at h2;split at h2<;>(try cases h2;done);rename_i hn
   have hj:j≠id:=by
    intro hh;rw[hh,AH]at hn;cases hn
   refine⟨j,rfl,hj, ?_⟩;rw[Az _ _ hj]at hn;simp only[kill]at hn;rw[if_neg (by simpa using hj)]at hn;cases hq:st.ob j<;>simp only[hq,BO,reduceCtorEq]at hn;rfl
 obtain⟨v,o,k1,k2,k3⟩:=V6 hb (fun hs j hj=>by
   obtain⟨o,ho⟩:=Option.isSome_iff_exists.1 hs;obtain⟨j',h3,h4,_⟩:=hnew o ho;rw[hj]at h3;cases h3
   exact h4) (fun hs hn=>by
   obtain⟨o,ho⟩:=Option.isSome_iff_exists.1 hs;obtain⟨j',h3,_⟩:=hnew o ho;rw[hn]at h3
   cases h3) e2'
 have evb:Ax E (some D) b st=put st b.dst (v,o):=by
  rw[Cu hbh];simp only[Ct,hgb,k1,Option.bind_some]
 have dcomm:∀i j,a.dst=some i→b.dst=some j→i≠j:=fun i j hi hj h=>(hab i hi).2 (by rw[hj,h])
 have hslots:∀(s:St),put st b.dst (v,o)=some s→∀z:SO,(z=x∨z=y)→so E.G s.fr z=so E.G st.fr z:=fun s hs z hz=>EA z fun i hi=>DT hs (fun h=>hba i h (by
  simp only[SL.looks,hop,SOp.slots,List.mem_append];rcases hz with rfl|rfl
  ·exact .inl (.inl hi)
  ·exact .inl (.inr hi)))
 subst k2;subst k3;rw[evb]
 cases o with
 |none=>
  have hs:put st b.dst (v,none)=some (st.set b.dst v):=rfl;refine⟨st.set b.dst v,hs, ?_⟩;have hobs:(st.set b.dst v).ob=st.ob:=by cases b.dst<;>rfl
  rw[eva,hslots _ hs x (.inl rfl),hslots _ hs y (.inr rfl),Kz (st:=st) (fun i e s es h=>by rw[hobs];exact h) p1];simp only[Option.map_some,Ac];simp only[put,Option.map_none,Ac]at h2;rw[←h2];unfold CC;rw[St.set_comm _ _ _ _ _ dcomm]
  congr 1
  cases hbd:b.dst with
  |none=>rfl
  |some j=>
   simp only[St.set,kill]
   congr 1
   funext i;simp only[B5];split<;>rfl
 |some ob=>
  obtain⟨j,hj1,hj2,hj3⟩:=hnew (BO [id] ob) rfl;have hs:put st b.dst (v,some ob)=some {fr:=upd st.fr j v,ob:=upd st.ob j ob}:=by simp[put,AY,hj1,hj3]
  refine⟨_,hs, ?_⟩
  rw[eva,hslots _ hs x (.inl rfl),hslots _ hs y (.inr rfl),Kz (st:=st) (fun i e s es h=>by
   simp only;rw[Az _ _ (fun hh=>by rw[hh,hj3]at h;cases h)]
   exact h) p1]
  simp only[Option.map_some,Ac]
  have hn1:(CC st a.dst (id,.arr e size es)).ob j=.none:=by
   rw[hob,Az _ _ hj2];simp only[kill];rw[if_neg (by simpa using hj2),hj3];rfl
  simp only[put,AY,Option.map_some,hj1,hn1,Ac]at h2;rw[←h2,hob]
  have hobs:upd (kill [id] {fr:=upd st.fr j v,ob:=upd st.ob j ob:St}).ob id (.arr e size es)=upd (upd (kill [id] st).ob id (.arr e size es)) j (BO [id] ob):=by
   funext i;simp only[B5,kill];by_cases c1:i=id
   ·subst c1;simp[Ne.symm hj2]
   ·by_cases c2:i=j
    ·subst c2;simp[c1]
    ·simp[c1,c2]
  have hfrs:(fun i=>Av [id] (upd st.fr j v i))=upd (fun i=>Av [id] (st.fr i)) j (Av [id] v):=by
   funext i;simp only[B5];split<;>rfl
  unfold CC;simp only[hobs,hfrs]
  cases had:a.dst with
  |none=>rfl
  |some i=>
   simp only[St.set];rw[EC _ _ _ (Ne.symm (dcomm i j had hj1))]
theorem Vz{D:List Nat}{a b:SL}{st s1 s2:St}(ha:a.op.moves=true)(hga:a.guard=none)(hb:b.op.grows=true)(hgb:b.guard=none)
  (hab:∀i,a.dst=some i→i∉b.looks∧b.dst≠some i) (hba:∀i,b.dst=some i→i∉a.looks) (h1:Ax E (some D) a st=some s1) (h2:Ax E (some D) b s1=some s2):
  ∃s,Ax E (some D) b st=some s∧Ax E (some D) a s=some s2:=by
 cases hoa:a.op<;>simp only[hoa,SOp.moves,Ag]at ha;rename_i q;cases hob:b.op<;>simp only[hob,SOp.grows,Ag]at hb;rename_i e size bytes x y
 have eva:∀s,Ax E (some D) a s=some (s.set a.dst (so E.G s.fr q)):=by
  intro s;simp only[Ax,hga,hoa,A2,SOp.cls,Ao,Option.map_some,CY]
 have evb:∀s,Ax E (some D) b s=(EG s b.dst e size bytes (so E.G s.fr x) (so E.G s.fr y)).map (CC s b.dst):=by
  intro s;simp only[Ax,hgb,hob,A2,SOp.cls];exact K0
 rw[eva,Ac]at h1;subst h1;rw[evb,Aa]at h2;obtain⟨⟨id,oa⟩,p1,rfl⟩:=h2;have hobs:(st.set a.dst (so E.G st.fr q)).ob=st.ob:=by cases a.dst<;>rfl
 have hslots:∀z:SO,(z=x∨z=y)→so E.G (st.set a.dst (so E.G st.fr q)).fr z=so E.G st.fr z:=fun z hz=>EA z fun i hi=>by
  cases hd:a.dst with
  |none=>rfl
  |some j=>exact Az _ _ fun h=>(hab j hd).1 (h▸(by
    simp only[SL.looks,hob,SOp.slots,List.mem_append];rcases hz with rfl|rfl
    ·exact .inl (.inl hi)
    ·exact .inl (.inr hi)))
 rw[hslots x (.inl rfl),hslots y (.inr rfl)]at p1;have p2:=Kz (st':=st) (fun i e s es h=>by rw[hobs]at h;exact h) p1;have dcomm:∀i j,a.dst=some i→b.dst=some j→i≠j:=fun i j hi hj h=>(hab i hi).2 (by rw[hj,h]);refine⟨_,by rw[evb,p2];rfl, ?_⟩;rw[eva]
 congr 1
 have hq:so E.G (CC st b.dst (id,oa)).fr q=Av [id] (so E.G st.fr q):=by
  cases q with
  |t i=>
   show(CC st b.dst (id,oa)).fr i=Av [id] (st.fr i);unfold CC
   cases hd:b.dst with
   |none=>rfl
   |some j=>exact Az _ _ fun h=>hba j hd (h▸by simp[SL.looks,hoa,SOp.slots,SO.slot])
  |k v=>rfl
  |g i=>
   show so E.G _ (.g i)=Av [id] (so E.G st.fr (.g i));simp only[so];split<;>rfl
 rw[hq];unfold CC;rw[St.set_comm _ _ _ _ _ fun i j hi hj=>Ne.symm (dcomm j i hj hi)]
 congr 1
 cases had:a.dst with
 |none=>rfl
 |some i=>
  simp only[St.set,kill]
  congr 1
  funext j;simp only[B5];split<;>rfl
theorem TG{rd rd':Nat→Ob}(h:∀i,rd i=rd' i∨((∀cs bt,rd i≠ .box cs bt)∧(∀e s es,rd i≠ .arr e s es)∧(∀cs bt,rd' i≠ .box cs bt)∧(∀e s es,rd' i≠ .arr e s es)))(sz:Option Nat)(v:SV):AT rd sz (deref rd v)=AT rd' sz (deref rd' v):=by
 have hd:deref rd v=deref rd' v:=by
  unfold deref;split
  ·rename_i N;split
   ·rcases h N with e|⟨h1,_,h3,_⟩
    ·rw[e]
    ·cases e1:rd N<;>cases e2:rd' N<;>first
      |rfl
      |exact absurd e1 (h1 _ _)
      |exact absurd e2 (h3 _ _)
   ·rfl
  ·rfl
 rw[hd];generalize deref rd' v=q;unfold AT
 cases q with
 |c cv=>cases cv<;>rfl
 |ptr id o=>
  simp only;rcases h id with e|⟨h1,_,h3,_⟩
  ·rw[e]
  ·cases e1:rd id<;>cases e2:rd' id<;>first
    |rfl
    |exact absurd e1 (h1 _ _)
    |exact absurd e2 (h3 _ _)
 |eptr id i size o=>
  simp only;rcases h id with e|⟨_,h1,_,h3⟩
  ·rw[e]
  ·cases e1:rd id<;>cases e2:rd' id<;>first
    |rfl
    |exact absurd e1 (h1 _ _ _)
    |exact absurd e2 (h3 _ _ _)
 |_=>rfl
theorem V1{D:List Nat}{a b:SL}{st s1 s2:St}(ha:a.op.loads=true)(hga:a.guard=none)(hb:b.op.puts=true)(hgb:b.guard=none)
  (hab:∀i,a.dst=some i→i∉b.looks∧b.dst≠some i) (hba:∀i,b.dst=some i→i∉a.looks) (h1:Ax E (some D) a st=some s1) (h2:Ax E (some D) b s1=some s2):
  ∃s,Ax E (some D) b st=some s∧Ax E (some D) a s=some s2:=by
 cases hoa:a.op<;>simp only[hoa,SOp.loads,Ag]at ha;rename_i sz q;cases hob:b.op<;>simp only[hob,SOp.puts,Ag]at hb;rename_i mt x k v
 have eva:∀s,Ax E (some D) a s=(AT (A9 (some (hid a.op D)) s.ob) sz (deref (A9 (some (hid a.op D)) s.ob) (so E.G s.fr q))).map fun v=>s.set a.dst v:=by
  intro s;simp only[Ax,hga,hoa,A2,SOp.cls,Ao,CY,Option.map_some]
 rw[eva,Aa]at h1;obtain⟨lv,hl,rfl⟩:=h1;have hobs:(st.set a.dst lv).ob=st.ob:=by cases a.dst<;>rfl
 have hslots:∀z:SO,(z=x∨z=k∨z=v)→so E.G (st.set a.dst lv).fr z=so E.G st.fr z:=fun z hz=>EA z fun i hi=>by
  cases hd:a.dst with
  |none=>rfl
  |some j=>exact Az _ _ fun h=>(hab j hd).1 (h▸(by
    simp only[SL.looks,hob,SOp.slots,List.mem_append];rcases hz with rfl|rfl|rfl
    ·exact .inl (.inl (.inl hi))
    ·exact .inl (.inl (.inr hi))
    ·exact .inl (.inr hi)))
 simp only[Ax,hgb,hob,A2,SOp.cls,AD,CY,hslots x (.inl rfl),hslots k (.inr (.inl rfl)),hslots v (.inr (.inr rfl)),hobs]at h2
 have evb:Ax E (some D) b st=match so E.G st.fr x,so E.G st.fr k,so E.G st.fr v with
  | .omap id,.c k,.c v=>match st.ob id with
   | .map mt' kt z ks vs=>if mt'=mt∧A6 kt k=true then some {st with ob:=upd st.ob id (.map mt' kt z (AM kt ks k) (AN kt ks vs k v))}else none
   |_=>none
  |_,_,_=>none:=by
  simp only[Ax,hgb,hob,A2,SOp.cls,AD,CY];rfl
 rw[evb];split at h2<;>(try cases h2;done);rename_i id kc vc e1 e2 e3;rw[e1,e2,e3];simp only;split at h2<;>(try cases h2;done);rename_i mt' kt z ks vs e4;rw[e4];simp only;split at h2<;>(try cases h2;done);rename_i hc;cases h2;rw[if_pos hc];refine⟨_,rfl, ?_⟩;rw[eva]
 have hm:∀i,A9 (some (hid a.op D)) st.ob i=A9 (some (hid a.op D)) (upd st.ob id (.map mt' kt z (AM kt ks kc) (AN kt ks vs kc vc))) i∨((∀cs bt,A9 (some (hid a.op D)) st.ob i≠ .box cs bt)∧(∀e s es,A9 (some (hid a.op D)) st.ob i≠ .arr e s es)∧(∀cs bt,A9 (some (hid a.op D)) (upd st.ob id (.map mt' kt z (AM kt ks kc) (AN kt ks vs kc vc))) i≠ .box cs bt)∧(∀e s es,A9 (some (hid a.op D)) (upd st.ob id (.map mt' kt z (AM kt ks kc) (AN kt ks vs kc vc))) i≠ .arr e s es)):=by
  intro i;by_cases hi:i=id
  ·subst hi;right;simp only[A9,AH,e4];refine⟨fun _ _ h=> ?_,fun _ _ _ h=> ?_,fun _ _ h=> ?_,fun _ _ _ h=> ?_⟩<;>(split at h<;>cases h)
  ·left;simp only[A9,Az _ _ hi]
 have hq:so E.G ({fr:=st.fr,ob:=upd st.ob id (.map mt' kt z (AM kt ks kc) (AN kt ks vs kc vc))}:St).fr q=so E.G st.fr q:=rfl;simp only[←TG hm,hl,Option.map_some,Ac];cases a.dst<;>rfl
end
def SL.own(A:List Nat)(l:SL):Option Nat:=
 match l.op,l.guard with
 | .store _ (.t a) _,none=>if A.contains a then some a else none
 |_,_=>none
def F0(ls:List SL):List Nat:=
 (ls.filterMap fun l=>match l.op,l.guard,l.dst with| .alloc _,none,some d=>some d|_,_,_=>none).filter fun d=>(ls.filter fun l=>l.dst==some d).length==1
def LZ(m:List Nat)(l:SL):List Nat:=
 match l.op,l.guard,l.dst with
 | .alloc _,none,some d=>d::m
 |_,_,some d=>m.filter fun i=>i !=d
 |_,_,none=>m
def GV(A:List Nat):List Nat→List SL→Bool
 |_,[]=>true
 |m,l::ls=>(match l.own A with|some a=>m.contains a|none=>true)&&GV A (LZ m l) ls
def C2(A D:List Nat)(x y:SL):Bool:=
 Fw D x y||((x.dst.all fun d=> !y.looks.contains d&&y.dst !=some d)&&(y.dst.all fun d=> !x.looks.contains d)&&
  match x.own A,y.own A with
  |some a,some b=>a !=b
  |some a,none=> !y.op.hard&&(hid y.op D).contains a
  |none,some b=> !x.op.hard&&(hid x.op D).contains b
  |none,none=>false)
def okS(A:List Nat)(l:SL)(st:St):Bool:=
 match l.own A with
 |some a=>match st.fr a with
  | .ptr j _=>j==a
  |_=>false
 |none=>true
section
variable {E:Env} {A D:List Nat}
def evT(E:Env)(A D:List Nat)(l:SL)(st:St):Option St:=if okS A l st=true then Ax E (some D) l st else none
theorem Fv{l:SL}{st s:St}(h:evT E A D l st=some s):okS A l st=true∧Ax E (some D) l st=some s:=by
 unfold evT at h;split at h
 ·rename_i h1;exact⟨h1,h⟩
 ·cases h
theorem Ez{l:SL}{st s:St}(h1:okS A l st=true)(h2:Ax E (some D) l st=some s):evT E A D l st=some s:=by
 unfold evT;rw[if_pos h1,h2]
theorem F5{l:SL}{a:Nat}(h:l.own A=some a):∃n x,l.op=.store n (.t a) x∧l.guard=none:=by
 unfold SL.own at h;split at h
 ·rename_i n a' x h1 h2;split at h
  ·cases h;exact⟨n,x,h1,h2⟩
  ·cases h
 ·cases h
theorem Mj{l:SL}{a:Nat}(h:l.own A=some a):a∈l.looks:=by
 obtain⟨n,x,h1,h2⟩:=F5 h;simp[SL.looks,h1,SOp.slots,SO.slot]
theorem JF{l:SL}(h:l.op.hard=false):l.own A=none:=by
 cases hl:l.own A with
 |none=>rfl
 |some a=>
  obtain⟨n,x,h1,h2⟩:=F5 hl;rw[h1]at h;cases h
theorem Un{l:SL}{st st':St}(h:∀a,l.own A=some a→st'.fr a=st.fr a)(ho:okS A l st=true):okS A l st'=true:=by
 unfold okS at ho⊢
 cases hl:l.own A with
 |none=>rfl
 |some a=>
  rw[hl]at ho;simp only[h a hl]at ho⊢;exact ho
theorem MD{l:SL}{st s:St}(hs:l.op.hard=false)(h:Ax E (some D) l st=some s){i:Nat}(hi:l.dst≠some i):s.fr i=st.fr i:=by
 rw[Cu hs,Ab]at h;obtain⟨p,_,h⟩:=h;exact DT h hi
def D4(n o:Nat)(ob:Ob)(v:SV):Option Ob:=
 match ob with
 | .box cs bt=>match v with
  | .c (.agg l)=>if l.length=n∧o+n≤cs.length∧l.all Cd=true then some (.box (EY cs o (l.map .c)) bt)else none
  |v=>if n=1∧o<cs.length∧Gf v=true then some (.box (cs.set o v) bt)else none
 |_=>none
theorem Vo{n o:Nat}{ob ob':Ob}{v:SV}(h:D4 n o ob v=some ob'):ob≠ .none∧ob'≠ .none:=by
 unfold D4 at h;split at h
 ·refine⟨by simp, ?_⟩
  split at h<;>split at h<;>first
   |cases h;done
   |(cases h;simp)
 ·cases h
theorem JC{l:SL}{a:Nat}(h:l.own A=some a):∃n x,(∀i∈x.slot,i∈l.looks)∧∀(st s:St),evT E A D l st=some s↔∃o b,st.fr a=.ptr a o∧D4 n o (st.ob a) (so E.G st.fr x)=some b∧s={st with ob:=upd st.ob a b}:=by
 obtain⟨n,x,h1,h2⟩:=F5 h;refine⟨n,x,fun i hi=>by simp[SL.looks,h1,SOp.slots,hi],fun st s=> ?_⟩
 have hev:∀o,st.fr a=.ptr a o→Ax E (some D) l st=(D4 n o (st.ob a) (so E.G st.fr x)).map fun b=>{st with ob:=upd st.ob a b}:=by
  intro o ho;simp only[Ax,h2,h1,A2,SOp.cls,AD,CY];rw[show so E.G st.fr (.t a)=.ptr a o from ho];simp only[D4,deref];cases hb:st.ob a<;>simp only[hb]<;>try rfl
  generalize so E.G st.fr x=v
  cases v with
  |c cv=>cases cv<;>(simp only;split<;>rfl)
  |_=>simp only;split<;>rfl
 constructor
 ·intro h3;obtain⟨h4,h5⟩:=Fv h3;unfold okS at h4;rw[h]at h4;simp only at h4;split at h4
  ·rename_i j o hj;have hja:j=a:=by simpa using h4
   subst hja;rw[hev o hj,Aa]at h5;obtain⟨b,h6,h7⟩:=h5;exact⟨o,b,hj,h6,h7.symm⟩
  ·cases h4
 ·rintro⟨o,b,h3,h4,rfl⟩
  refine Ez ?_ ?_
  ·unfold okS;rw[h];simp[h3]
  ·rw[hev o h3,h4];rfl
theorem Pb{L:List Nat}{ob:Nat→Ob}{a:Nat}{b:Ob}(h:L.contains a=true):A9 (some L) (upd ob a b)=A9 (some L) ob:=by
 funext i;simp only[A9,B5];split
 ·rfl
 ·rename_i hi;split
  ·rename_i e;subst e;exact(hi h).elim
  ·rfl
theorem PH{st s:St}{d:Option Nat}{p:SV×Option Ob}(h:put st d p=some s){a:Nat}(ha:d≠some a):s.ob a=st.ob a:=by
 obtain⟨v,o⟩:=p
 cases o with
 |none=>
  simp only[put,Ac]at h;subst h;cases d<;>rfl
 |some o=>
  simp only[put,AY]at h
  cases d with
  |none=>cases h
  |some d=>
   simp only at h;split at h<;>(try cases h;done);cases h;exact Az _ _ (fun e=>ha (by rw[e]))
theorem PI{st s:St}{d:Option Nat}{p:SV×Option Ob}{a:Nat}{b:Ob}(hd:d≠some a):put st d p=some s→put {st with ob:=upd st.ob a b} d p=some {s with ob:=upd s.ob a b}:=by
 intro h;obtain⟨v,o⟩:=p
 cases o with
 |none=>
  simp only[put,Ac]at h⊢;subst h;cases d<;>rfl
 |some o=>
  simp only[put,AY]at h⊢
  cases d with
  |none=>cases h
  |some j=>
   have hj:j≠a:=fun e=>hd (by rw[e]);simp only at h;split at h<;>(try cases h;done);rename_i hn;cases h;simp only[Az _ _ hj,hn,Ac,St.mk.injEq,true_and];exact EC _ _ _ (Ne.symm hj)
theorem UE{st s:St}{d:Option Nat}{p:SV×Option Ob}{a:Nat}{b:Ob}(ha:st.ob a≠ .none)(h:put {st with ob:=upd st.ob a b} d p=some s)(hd:d≠some a):∃s',put st d p=some s':=by
 obtain⟨v,o⟩:=p
 cases o with
 |none=>exact⟨_,rfl⟩
 |some o=>
  simp only[put,AY]at h⊢
  cases d with
  |none=>cases h
  |some j=>
   have hj:j≠a:=fun e=>hd (by rw[e]);simp only[Az _ _ hj]at h;simp only;split at h<;>(try cases h;done);rename_i hn;exact⟨{fr:=upd st.fr j v,ob:=upd st.ob j o},by simp[hn]⟩
theorem V0{a b:SL}{st s1 s2:St}
  (hab:∀i,a.dst=some i→i∉b.looks∧b.dst≠some i) (hba:∀i,b.dst=some i→i∉a.looks)
  (ho:(match a.own A,b.own A with
  |some a,some b=>a !=b
  |some k,none=> !b.op.hard&&(hid b.op D).contains k
  |none,some k=> !a.op.hard&&(hid a.op D).contains k
  |none,none=>false)=true) (h1:evT E A D a st=some s1) (h2:evT E A D b s1=some s2):∃s,evT E A D b st=some s∧evT E A D a s=some s2:=by
 cases hoa:a.own A with
 |some k=>
  cases hob:b.own A with
  |some k'=>
   rw[hoa,hob]at ho;have hk:k≠k':=by simpa using ho
   obtain⟨n,x,hx,ea⟩:=JC (E:=E) (D:=D) hoa;obtain⟨n',x',hx',eb⟩:=JC (E:=E) (D:=D) hob;rw[ea]at h1;obtain⟨o,c,q1,q2,rfl⟩:=h1;rw[eb]at h2;obtain⟨o',c',q3,q4,rfl⟩:=h2;simp only[Az _ _ (Ne.symm hk)]at q4;refine⟨_,(eb _ _).2 ⟨o',c',q3,q4,rfl⟩,(ea _ _).2 ⟨o,c,q1, ?_, ?_⟩⟩
   ·simp only[Az _ _ hk];exact q2
   ·simp only[St.mk.injEq,true_and];exact EC _ _ _ hk
  |none=>
   rw[hoa,hob]at ho;simp only[Af,Bool.not_eq_true']at ho;obtain⟨hbs,hk⟩:=ho;obtain⟨n,x,hx,ea⟩:=JC (E:=E) (D:=D) hoa;rw[ea]at h1;obtain⟨o,c,q1,q2,rfl⟩:=h1;obtain⟨_,h2⟩:=Fv h2;rw[Cu hbs,Ab]at h2;obtain⟨p,e2,h2⟩:=h2;simp only[Pb hk]at e2;have hd:b.dst≠some k:=fun e=>hba k e (Mj hoa);obtain⟨s',h3⟩:=UE (Vo q2).1 h2 hd;have h4:=PI (b:=c) hd h3;rw[h4]at h2;cases h2;refine⟨s',Ez (by unfold okS;rw[JF hbs]) (by rw[Cu hbs,e2];exact h3),(ea _ _).2 ⟨o,c, ?_, ?_,rfl⟩⟩
   ·rw[DT h3 hd];exact q1
   ·rw[PH h3 hd,EA x (fr':=st.fr) (fun i hi=>DT h3 (fun e=>hba i e (hx i hi)))];exact q2
 |none=>
  cases hob:b.own A with
  |none=>rw[hoa,hob]at ho;cases ho
  |some k=>
   rw[hoa,hob]at ho;simp only[Af,Bool.not_eq_true']at ho;obtain⟨has,hk⟩:=ho;obtain⟨n,x,hx,eb⟩:=JC (E:=E) (D:=D) hob;obtain⟨_,h1⟩:=Fv h1;rw[Cu has,Ab]at h1;obtain⟨p,e1,h1⟩:=h1;have hd:a.dst≠some k:=fun e=>(hab k e).1 (Mj hob);rw[eb]at h2;obtain⟨o,c,q1,q2,rfl⟩:=h2;rw[DT h1 hd]at q1;rw[PH h1 hd,EA x (fr':=st.fr) (fun i hi=>DT h1 (fun e=>(hab i e).1 (hx i hi)))]at q2;refine⟨_,(eb _ _).2 ⟨o,c,q1,q2,rfl⟩,Ez (by unfold okS;rw[JF has]) ?_⟩;rw[Cu has];simp only[Pb hk,e1,Option.bind_some];exact PI hd h1
theorem keep{l:SL}{st s:St}(h:Ax E (some D) l st=some s){i:Nat}(hi:l.dst≠some i):s.fr i=st.fr i∨s.fr i=.undef:=by
 cases hh:l.op.hard with
 |false=>exact .inl (MD hh h hi)
 |true=>
  have hset:∀(st:St) (d:Option Nat) (v:SV),d≠some i→(st.set d v).fr i=st.fr i:=by
   intro st d v hd
   cases d with
   |none=>rfl
   |some d=>exact Az _ _ (fun e=>hd (by rw[e]))
  have hkill:∀(L:List Nat) (v:SV),Av L v=v∨Av L v=.undef:=by
   intro L v
   cases v<;>simp only[Av]<;>first
    |exact .inl trivial
    |exact .inl rfl
    |(split<;>first|exact .inl rfl|exact .inr rfl)
  rw[FS,Ab]at h;obtain⟨t,_,h⟩:=h;split at h
  case isFalse=>cases h;exact .inl (hset _ _ _ hi)
  cases hop:l.op<;>simp only[hop,SOp.hard,Ag]at hh<;>simp only[hop,A2,SOp.cls]at h
  case append e size bytes x y=>
   rw[K0,Aa]at h;obtain⟨p,_,rfl⟩:=h;unfold CC;rw[hset _ _ _ hi];exact hkill _ _
  case mcopy f x y=>
   unfold Fp at h
   repeat' split at h
   all_goals first
    |(cases h;done)
    |(cases h;exact .inl (hset _ _ _ hi))
  all_goals
   simp only[AD]at h;try(cases h;done)
   repeat' split at h
   all_goals first
    |(cases h;done)
    |(cases h;exact .inl rfl)
    |(cases h;exact .inl (hset _ _ _ hi))
    |skip
  all_goals
   rw[Ab]at h;obtain⟨_,_,h⟩:=h;split at h
   ·cases h;exact .inl rfl
   ·cases h
def lsT(E:Env)(A D:List Nat):List SL→St→Option St
 | [],st=>some st
 |l::ls,st=>(evT E A D l st).bind (lsT E A D ls)
def D2(E:Env)(A D:List Nat)(ls:List SL):List Nat→St→Option St
 | [],st=>some st
 |i::is,st=>match ls[i]? with
  |some l=>(evT E A D l st).bind (D2 E A D ls is)
  |none=>none
theorem Mk:∀(ls:List SL) (m:List Nat) {st s:St},(∀a∈m,st.fr a=.ptr a 0∨st.fr a=.undef)→GV A m ls=true→B7 E (some D) ls st=some s→lsT E A D ls st=some s
 | [],_,_,_,_,_,h=>h
 |l::ls,m,st,s,hm,hk,h=>by
  simp only[B7,Ab]at h;obtain⟨s1,h1,h2⟩:=h;simp only[GV,Af]at hk;obtain⟨k1,k2⟩:=hk
  have hok:okS A l st=true:=by
   unfold okS
   cases hl:l.own A with
   |none=>rfl
   |some a=>
    rw[hl]at k1;simp only[List.contains_iff_mem]at k1;rcases hm a k1 with e|e
    ·simp[e]
    ·exfalso;obtain⟨n,x,g1,g2⟩:=F5 hl;simp only[Ax,g2,g1,A2,SOp.cls,AD,CY]at h1;rw[show so E.G st.fr (.t a)=.undef from e]at h1;cases h1
  simp only[lsT,Ez hok h1,Option.bind_some];refine Mk ls _ ?_ k2 h2
  have hkeep:∀a∈m,l.dst≠some a→s1.fr a=.ptr a 0∨s1.fr a=.undef:=by
   intro a ha hd;rcases keep h1 hd with e|e
   ·rw[e];exact hm a ha
   ·exact .inr e
  intro a ha;unfold LZ at ha;split at ha
  ·rename_i z d g1 g2 g3;by_cases had:a=d
   ·subst had;simp only[Ax,g2,g1,A2,SOp.cls,AV,Option.bind_some,g3,Option.getD_some,AY]at h1;split at h1
    ·cases h1;exact .inl (AH _ _ _)
    ·cases h1
   ·rcases List.mem_cons.1 ha with e|e
    ·exact(had e).elim
    ·exact hkeep a e (fun hh=>had (by rw[g3]at hh;cases hh;rfl))
  ·rename_i d g2 g1;rw[List.mem_filter]at ha;exact hkeep a ha.1 (fun hh=>by rw[g2]at hh;cases hh;simp at ha)
  ·rename_i g1;exact hkeep a ha (fun hh=>by rw[g1]at hh;cases hh)
theorem JX{ls:List SL}:∀(is:List Nat) {st s:St},D2 E A D ls is st=some s→Ca E (some D) ls is st=some s
 | [],_,_,h=>h
 |i::is,st,s,h=>by
  simp only[D2,Ca]at h⊢;split at h
  ·rename_i l hl;rw[Ab]at h;obtain⟨s1,h1,h2⟩:=h;simp only[hl,(Fv h1).2,Option.bind_some];exact JX is h2
  ·cases h
theorem Jv:∀(ls:List SL) (pre:List SL) (st:St),D2 E A D (pre++ls) (List.range' pre.length ls.length) st=lsT E A D ls st
 | [],_,_=>rfl
 |l::ls,pre,st=>by
  have h:=Jv ls (pre++ [l]);simp only[List.length_append,List.length_cons,List.length_nil,List.append_assoc,List.cons_append,List.nil_append]at h;simp only[List.length_cons,List.range'_succ,D2,lsT];rw[show(pre++l::ls)[pre.length]? =some l by simp];simp only
  congr 1
  funext s;exact h s
end
theorem Td{E:Env}{D:List Nat}{a b:SL}{st s1 s2:St}(hf:Fw D a b=true)(hDa:a.op.makes=true→∀j,a.dst=some j→D.contains j=true)(hDb:b.op.makes=true→∀j,b.dst=some j→D.contains j=true)
  (h1:Ax E (some D) a st=some s1) (h2:Ax E (some D) b s1=some s2):∃s,Ax E (some D) b st=some s∧Ax E (some D) a s=some s2:=by
 simp only[Fw,Af,Aj,Bool.not_eq_true']at hf;obtain⟨⟨g1,g2⟩,g4⟩:=hf
 have hab:∀i,a.dst=some i→i∉b.looks∧b.dst≠some i:=by
  intro i hi;simp only[hi,Option.all_some,Af,Bool.not_eq_true',bne_iff_ne]at g1;exact⟨fun hm=>by have:=g1.1;simp[hm]at this,g1.2⟩
 have hba:∀i,b.dst=some i→i∉a.looks:=by
  intro i hi hm;simp[hi,hm]at g2
 rcases g4 with⟨g3,(((⟨⟨g4,m1⟩,m2⟩|⟨g4,g5⟩)|⟨g4,g5⟩)|⟨⟨⟨g4,g5⟩,g6⟩,g7⟩)|⟨⟨⟨g4,g5⟩,g6⟩,g7⟩⟩|⟨⟨⟨g3,g5⟩,g4⟩,g6⟩
 ·exact V2 g3 g4 (fun hm j hj=>by simpa[hm,hj]using m1) (fun hm j hj=>by simpa[hm,hj]using m2) hab hba h1 h2
 ·exact Vx g5 g4 hab hba h1 h2
 ·exact V3 g5 g4 hab hba h1 h2
 ·exact Vz g6 (by simpa using g7) g4 (by simpa using g5) hab hba h1 h2
 ·exact V1 g6 (by simpa using g7) g4 (by simpa using g5) hab hba h1 h2
 ·exact Vy g3 (by simpa using g5) g4 (by simpa using g6) hab hba h1 h2
def C9(P:Program)(ops:Array Oper)(A D:List Nat)(ls:List SL):Bool:=
 P.follows .mixedOrders&&GV A [] ls&&
 (ops.toList.zipIdx.all fun p=>p.1.after.all fun e=> !(Region.binds .any e)||decide (e.on<p.2))&&
 (ls.all fun l=> !l.op.makes||l.dst.all fun d=>D.contains d)&&
 ((List.range ls.length).all fun j=>(List.range j).all fun i=>((Dn ops ls.length).getD j 0).testBit i||match ls[i]?,ls[j]? with
   |some x,some y=>C2 A D x y
   |_,_=>false)
theorem IZ{E:Env}{A D:List Nat}{a b:SL}{st s1 s2:St}(hf:C2 A D a b=true)(hDa:a.op.makes=true→∀j,a.dst=some j→D.contains j=true)(hDb:b.op.makes=true→∀j,b.dst=some j→D.contains j=true)
  (h1:evT E A D a st=some s1) (h2:evT E A D b s1=some s2):∃s,evT E A D b st=some s∧evT E A D a s=some s2:=by
 simp only[C2,Aj]at hf;rcases hf with hf|hf
 ·obtain⟨k1,e1⟩:=Fv h1;obtain⟨k2,e2⟩:=Fv h2;obtain⟨s,g1,g2⟩:=Td hf hDa hDb e1 e2;simp only[Fw,Af,Aj,Bool.not_eq_true']at hf;obtain⟨⟨q1,q2⟩,q4⟩:=hf
  have hoa:a.own A=none:=by
   rcases q4 with⟨q3,_⟩|⟨⟨⟨q3,_⟩,_⟩,_⟩
   ·exact JF q3
   ·cases ha:a.own A with
    |none=>rfl
    |some k=>
     obtain⟨n,x,h,_⟩:=F5 ha;rw[h]at q3;cases q3
  refine⟨s,Ez (Un (fun k hk=> ?_) k2) g1,Ez (by unfold okS;rw[hoa]) g2⟩;obtain⟨n,x,h,_⟩:=F5 hk
  have hah:a.op.hard=false:=by
   rcases q4 with⟨q3,_⟩|⟨⟨⟨_,_⟩,q3⟩,_⟩
   ·exact q3
   ·rw[h]at q3;cases q3
  refine(MD hah e1 fun hd=> ?_).symm;simp only[hd,Option.all_some,Af,Bool.not_eq_true',bne_iff_ne]at q1;have:=q1.1;simp[Mj hk]at this
 ·simp only[Af]at hf;obtain⟨⟨q1,q2⟩,q4⟩:=hf
  have hab:∀i,a.dst=some i→i∉b.looks∧b.dst≠some i:=by
   intro i hi;simp only[hi,Option.all_some,Af,Bool.not_eq_true',bne_iff_ne]at q1;exact⟨fun hm=>by have:=q1.1;simp[hm]at this,q1.2⟩
  have hba:∀i,b.dst=some i→i∉a.looks:=by
   intro i hi hm;simp[hi,hm]at q2
  exact V0 hab hba q4 h1 h2
def left(n:Nat)(L:Array Bool):List Nat:=(List.range n).filter fun i=> !L.getD i true
inductive C0 (ops:Array Oper):Array Bool→List Nat→Prop where
 |nil {L:Array Bool}:left ops.size L= []→C0 ops L []
 |cons {L:Array Bool} {i:Nat} {is:List Nat}:i<ops.size→L.getD i true=false→(∀o,ops[i]? =some o→∀e∈o.after,Region.binds .any e=true→L.getD e.on false=true)→C0 ops (L.setIfInBounds i true) is→C0 ops L (i::is)
theorem GE(L:Array Bool)(i j:Nat)(b:Bool)(hi:L.getD i true=false):(L.setIfInBounds i true).getD j b=if j=i then true else L.getD j b:=by
 have hlt:i<L.size:=by
  rw[Array.getD_eq_getD_getElem?]at hi;by_cases h:i<L.size
  ·exact h
  ·simp[Array.getElem?_eq_none (Nat.le_of_not_lt h)]at hi
 simp only[Array.getD_eq_getD_getElem?,Array.getElem?_setIfInBounds];by_cases h:j=i
 ·subst h;simp[hlt]
 ·have h':¬i=j:=fun e=>h e.symm;simp[h,h']
theorem Jo(n:Nat)(L:Array Bool)(i:Nat)(hin:i<n)(hi:L.getD i true=false):∃p q,left n L=p++i::q∧left n (L.setIfInBounds i true)=p++q∧∀j∈p,j<i∧L.getD j true=false:=by
 have hr:List.range n=List.range i++i::List.range' (i+1) (n-i-1):=by
  rw[List.range_eq_range',List.range_eq_range',show n=i+((n-i-1)+1) by omega,←List.range'_append_1,List.range'_succ];simp
 refine⟨(List.range i).filter fun j=> !L.getD j true,(List.range' (i+1) (n-i-1)).filter fun j=> !L.getD j true, ?_, ?_, ?_⟩
 ·simp only[left,hr,List.filter_append,List.filter_cons,hi,Bool.not_false,if_true]
 ·simp only[left,hr,List.filter_append,List.filter_cons,GE L i _ _ hi,if_true,Bool.not_true,Ag,if_false]
  congr 1
  ·apply List.filter_congr;intro j hj;rw[if_neg (by have:=List.mem_range.1 hj;omega)]
  ·apply List.filter_congr;intro j hj;rw[if_neg (by have:=(List.mem_range'_1.1 hj).1;omega)]
 ·intro j hj;rw[List.mem_filter,List.mem_range]at hj;exact⟨hj.1,by simpa using hj.2⟩
section
variable {P:Program} {E:Env} {n:Nat} {ops:Array Oper} {A D:List Nat} {ls:List SL}
theorem Pj{i:Nat}{b:SL}(hb:ls[i]? =some b)(hDb:b.op.makes=true→∀j,b.dst=some j→D.contains j=true)(q:List Nat):∀(p:List Nat) {st st':St},(∀k∈p,∀l,ls[k]? =some l→l.op.makes=true→∀j,l.dst=some j→D.contains j=true)→(∀j∈p,∃a,ls[j]? =some a∧C2 A D a b=true)→D2 E A D ls (p++i::q) st=some st'→D2 E A D ls (i::(p++q)) st=some st'
 | [],_,_,_,_,h=>h
 |j::p,st,st',hD,hf,h=>by
  obtain⟨a,ha,hfr⟩:=hf j (by simp);simp only[List.cons_append,D2,ha,Ab]at h;obtain⟨s1,h1,h2⟩:=h;have h3:=Pj hb hDb q p (fun k hk=>hD k (by simp[hk])) (fun j hj=>hf j (by simp[hj])) h2;simp only[D2,hb,Ab]at h3;obtain⟨s2,h3,h4⟩:=h3;obtain⟨s,g1,g2⟩:=IZ hfr (hD j (by simp) a ha) hDb h1 h3;simp only[List.cons_append,D2,hb,ha,g1,g2,Option.bind_some,h4]
theorem I5{L:Array Bool}(hdown:∀i o,L.getD i false=true→ops[i]? =some o→∀e∈o.after,Region.binds .any e=true→L.getD e.on false=true):∀(k i j:Nat),(∀o,ops[j]? =some o→∀e∈o.after,Region.binds .any e=true→L.getD e.on false=true)→Fi ops k i j=true→L.getD i false=true
 |0,_,_,_,h=>by cases h
 |k+1,i,j,hj,h=>by
  simp only[Fi]at h;split at h<;>(try cases h;done);rename_i o ho;rw[Array.any_eq_true']at h;obtain⟨e,he,h⟩:=h;simp only[Af,Aj,beq_iff_eq,decide_eq_true_eq]at h;obtain⟨hb,h⟩:=h;have hl:=hj o ho e he hb;rcases h with h|⟨_,h⟩
  ·rw[←h];exact hl
  ·exact I5 hdown k i e.on (fun o' ho'=>hdown e.on o' hl ho') h
theorem Ly(hlen:ls.length=ops.size)
  (hfree:∀j<ls.length,∀i<j,Fi ops ls.length i j=true∨∃x y,ls[i]? =some x∧ls[j]? =some y∧C2 A D x y=true) {L:Array Bool} {is:List Nat} (hg:C0 ops L is):
  (∀i o,L.getD i false=true→ops[i]? =some o→∀e∈o.after,Region.binds .any e=true→L.getD e.on false=true)→L.size=ops.size→(∀k∈left ops.size L,∀l,ls[k]? =some l→l.op.makes=true→∀j,l.dst=some j→D.contains j=true)→∀{st st':St},D2 E A D ls (left ops.size L) st=some st'→D2 E A D ls is st=some st':=by
 induction hg with
 |nil h=>
  intro _ _ _ st st' hv;rw[h]at hv;exact hv
 | @cons L i is hi hL he hg ih=>
  intro hdown hsz hD st st' hv;obtain⟨p,q,e1,e2,e3⟩:=Jo ops.size L i hi hL;have hb:ls[i]? =some (ls[i]'(by omega)):=Ai _;rw[e1]at hv hD
  have hv':=Pj hb (hD i (by simp) _ hb) q p (fun k hk=>hD k (by simp[hk])) (fun j hj=>by
   obtain⟨hji,hjL⟩:=e3 j hj;rcases hfree i (by omega) j hji with ha|⟨x,y,hx,hy,hf⟩
   ·have:=I5 hdown _ j i he ha;have hjs:j<L.size:=by omega
    simp[Array.getD_eq_getD_getElem?,Array.getElem?_eq_getElem hjs]at this hjL;rw[this]at hjL;cases hjL
   ·rw[hb]at hy;cases hy
    exact⟨x,hx,hf⟩) hv
  simp only[D2,hb,Ab]at hv'⊢;obtain⟨s,h1,h2⟩:=hv';refine⟨s,h1,ih ?_ (by simp[hsz]) (by rw[e2];intro k hk;exact hD k (by rcases List.mem_append.1 hk with hk|hk<;>simp[hk])) (by rw[e2];exact h2)⟩;intro k o hk ho e hem heb;rw[GE L i _ _ hL]at hk⊢;split
  ·rfl
  ·split at hk
   ·rename_i e';subst e';exact he o ho e hem heb
   ·exact hdown k o hk ho e hem heb
theorem UH{L:Array Bool}(hback:∀i o,ops[i]? =some o→∀e∈o.after,Region.binds .any e=true→e.on<i)(hsz:L.size=ops.size)(h:left ops.size L≠ []):Region.ready .any ops L≠ []:=by
 cases hl:left ops.size L with
 |nil=>exact(h hl).elim
 |cons i q=>
  have hmem:i∈left ops.size L:=by rw[hl];simp
  have hmem':=hmem;simp only[left,List.mem_filter,List.mem_range]at hmem';obtain⟨hi,hiL⟩:=hmem';have hiL:L.getD i true=false:=by simpa using hiL
  obtain⟨p,q',e1,_,e3⟩:=Jo ops.size L i hi hiL
  have hp:p= []:=by
   cases p with
   |nil=>rfl
   |cons j p=>
    rw[hl]at e1;simp only[List.cons_append,List.cons.injEq]at e1;have:=(e3 j (by simp)).1;omega
  subst hp
  have hmin:∀j,j<i→L.getD j false=true:=by
   intro j hj;have hjs:j<L.size:=by omega
   cases hv:L.getD j false with
   |true=>rfl
   |false=>
    exfalso
    have hjm:j∈left ops.size L:=by
     simp only[left,List.mem_filter,List.mem_range];refine⟨by omega, ?_⟩;simp[Array.getD_eq_getD_getElem?,Array.getElem?_eq_getElem hjs]at hv⊢;exact hv
    rw[e1]at hjm;have hsorted:(left ops.size L).Pairwise (· < ·):=List.Pairwise.filter _ List.pairwise_lt_range;rw[e1,List.nil_append,List.pairwise_cons]at hsorted;simp only[List.nil_append,List.mem_cons]at hjm;rcases hjm with hjm|hjm
    ·omega
    ·have:=hsorted.1 j hjm;omega
  intro hr
  have:i∈Region.ready .any ops L:=by
   simp only[Region.ready,List.mem_filter,List.mem_range];refine⟨hi, ?_⟩;have ho:ops[i]? =some (ops[i]'hi):=Array.getElem?_eq_getElem hi;simp only[hiL,Bool.not_false,ho,Option.map_some,Option.getD_some,Bool.true_and,Array.all_eq_true'];intro e he
   cases hb:Region.binds .any e with
   |false=>rfl
   |true=>simp[hmin e.on (hback i _ ho e he hb)]
  rw[hr]at this;cases this
theorem HQ(hback:∀i o,ops[i]? =some o→∀e∈o.after,Region.binds .any e=true→e.on<i):∀(fuel t:Nat) (L:Array Bool),L.size=ops.size→(left ops.size L).length≤fuel→C0 ops L (Region.linearise.go .any ops fuel t L [])
 |0,t,L,hsz,hf=>by
  have:left ops.size L= []:=List.eq_nil_of_length_eq_zero (by omega);simpa[Region.linearise.go]using C0.nil this
 |fuel+1,t,L,hsz,hf=>by
  simp only[Region.linearise.go]
  change C0 ops L (match (Region.ready .any ops L)[t %(Region.ready .any ops L).length]? with
   |some i=>Region.linearise.go .any ops fuel (t/(Region.ready .any ops L).length) (L.setIfInBounds i true) [i]
   |none=> [].reverse)
  by_cases hl:left ops.size L= []
  ·have hr:Region.ready .any ops L= []:=by
    cases hr:Region.ready .any ops L with
    |nil=>rfl
    |cons j js=>
     exfalso;have hj:j∈Region.ready .any ops L:=by rw[hr];simp
     simp only[Region.ready,List.mem_filter,List.mem_range,Af]at hj
     have:j∈left ops.size L:=by
      simp only[left,List.mem_filter,List.mem_range];exact⟨hj.1,hj.2.1⟩
     rw[hl]at this;cases this
   simpa[hr]using C0.nil hl
  ·have hr:=UH hback hsz hl;have hlt:t %(Region.ready .any ops L).length<(Region.ready .any ops L).length:=Nat.mod_lt _ (List.length_pos_iff.2 hr);rw[Ai hlt];generalize hi:(Region.ready .any ops L)[t %(Region.ready .any ops L).length]=i;have him:i∈Region.ready .any ops L:=by rw[←hi];exact List.getElem_mem _
   simp only[Region.ready,List.mem_filter,List.mem_range,Af,Bool.not_eq_true']at him;obtain⟨h1,h2,h3⟩:=him;simp only;rw[linearise_go_acc,List.reverse_singleton,List.singleton_append];obtain⟨p,q,e1,e2,_⟩:=Jo ops.size L i h1 h2;refine .cons h1 h2 ?_ (HQ hback fuel _ _ (by simp[hsz]) ?_)
   ·intro o ho e he hb;rw[ho]at h3;simp only[Option.map_some,Option.getD_some,Array.all_eq_true']at h3;have:=h3 e he;simpa[hb]using this
   ·rw[e1]at hf;rw[e2];simp only[List.length_append,List.length_cons]at hf⊢;omega
theorem Ok(E:Env)(D:Option (List Nat)):∀(ls:List SL) (pre:List SL) (st:St),Ca E D (pre++ls) (List.range' pre.length ls.length) st=B7 E D ls st
 | [],_,_=>rfl
 |l::ls,pre,st=>by
  have h:=Ok E D ls (pre++ [l]);simp only[List.length_append,List.length_cons,List.length_nil,List.append_assoc,List.cons_append,List.nil_append]at h;simp only[List.length_cons,List.range'_succ,Ca,B7];rw[show(pre++l::ls)[pre.length]? =some l by simp];simp only
  congr 1
  funext s;exact h s
theorem So(hc:Ar (CM P n ops) ops.toList=some ls)(hd:C9 P ops A D ls=true){st st':St}(hv:B7 E (some D) ls st=some st')(t:Nat):
  Ca E (some D) ls (Region.schedule (P.follows .mixedOrders) ops t) st=some st':=by
 have hlen:ls.length=ops.size:=by rw[Dv hc];simp
 simp only[C9,Af]at hd;obtain⟨⟨⟨⟨hm,hown⟩,hback⟩,hmk⟩,hfr⟩:=hd;have hv:=Mk ls [] (by simp) hown hv;refine JX (A:=A) _ ?_;simp only[Region.schedule,hm,Bool.true_or,if_true,Region.linearise]
 have hleft:left ops.size (Array.replicate ops.size false)=List.range ops.size:=by
  simp only[left];rw[List.filter_eq_self];intro i hi;have:=List.mem_range.1 hi;simp[Array.getD_eq_getD_getElem?,this]
 have hback':∀i o,ops[i]? =some o→∀e∈o.after,Region.binds .any e=true→e.on<i:=by
  intro i o ho e he hb;rw[List.all_eq_true]at hback
  have hmem:(o,i)∈ops.toList.zipIdx:=by
   rw[List.mem_zipIdx_iff_getElem?];simpa using ho
  have:=hback _ hmem;rw[Array.all_eq_true']at this;have:=this e he;simpa[hb]using this
 refine Ly hlen ?_ (HQ hback' ops.size t _ (by simp) (by rw[hleft];simp)) ?_ (by simp) ?_ ?_
 ·intro j hj i hij;rw[List.all_eq_true]at hfr;have:=hfr j (List.mem_range.2 hj);rw[List.all_eq_true]at this;have:=this i (List.mem_range.2 hij);rw[Aj]at this;rcases this with h|h
  ·rw[F1 ops hj]at h;exact .inl (GQ ops hj h)
  ·refine .inr ?_;split at h
   ·rename_i x y hx hy;exact⟨x,y,hx,hy,h⟩
   ·cases h
 ·intro i o hi;exfalso;rw[Array.getD_eq_getD_getElem?,Array.getElem?_replicate]at hi;split at hi<;>cases hi
 ·intro k _ l hl hmake j hj;rw[List.all_eq_true]at hmk;have:=hmk l (List.mem_of_getElem? hl);simpa[hmake,hj]using this
 ·rw[hleft,List.range_eq_range',←hlen];have:=Jv (E:=E) (A:=A) (D:=D) ls [] st;simp only[List.nil_append,List.length_nil]at this;rw[this];exact hv
end
def cl(s:SV):Prop:=∀id,s.ref=some id→id<Au
def DA(o:Ob):Prop:=∀cs bt,o=.box cs bt→∀s∈cs,cl s
structure Cl (st:St):Prop where
 fr:∀i,cl (st.fr i)
 ob:∀j,j<Au→DA (st.ob j)
theorem BM(c:CV):cl (.c c):=fun _ h=>by cases h
theorem IC:cl .undef:=fun _ h=>by cases h
theorem KR{bt:Option TypeId}(l:List CV):DA (.box (l.map .c) bt):=fun cs _ h s hs=>by
 cases h;obtain⟨c,_,rfl⟩:=List.mem_map.1 hs;exact BM c
theorem N7(s:SV):cl (CK s):=fun id h=>by
 unfold CK at h
 cases hr:s.ref with
 |none=>rw[hr]at h;simp only at h;rw[hr]at h;cases h
 |some j=>
  rw[hr]at h;simp only at h;split at h
  ·cases h
  ·rw[hr]at h;cases h;omega
theorem RV(st:St):Cl (C6 st):=by
 refine⟨fun i=>N7 _,fun j hj cs bt hcs s hs=> ?_⟩;have h:(if Au≤j then st.ob j else Fm (st.ob j))=.box cs bt:=hcs;rw[if_neg (by omega)]at h;cases hob:st.ob j<;>rw[hob]at h<;>cases h;obtain⟨s',_,rfl⟩:=List.mem_map.1 hs;exact N7 _
section
variable {P:Program} {w0:WL} {M0:MM} {n:Nat} {st:St} {a:Act} {w:World} {z:Cz}
theorem SR.clean{G:Nat→List CV}(h:SR P G w0 M0 n st a w z):SR P G w0 M0 n (C6 st) a w z:=by
 have hlive:∀id,(C6 st).ob id≠ .none↔st.ob id≠ .none:=fun id=>by
  show(if Au≤id then st.ob id else Fm (st.ob id))≠ .none↔_;split
  ·exact Iff.rfl
  ·cases st.ob id<;>simp[Fm]
 have hk:AR w (Aq M0 z st.ob) w (Aq M0 z (C6 st).ob):=⟨Nat.le_refl _,fun _ _ _=>rfl,fun g _ hg=>by
  rcases hg with hg|⟨id,h1,h2⟩
  ·exact .inl hg
  ·exact .inr ⟨id,(hlive id).1 h1,h2⟩,rfl⟩
 have hz:∀s:SV,Eo st.ob z (C6 st).ob z s:=fun s=>⟨fun id _ h1=>(hlive id).2 h1,fun _ _ _=>rfl,fun _ _ _ _ _ hb=>hb⟩
 have hs:∀{s:SV} {v:Value},At w (Aq M0 z st.ob) z st.ob s v→At w (Aq M0 z (C6 st).ob) z (C6 st).ob (CK s) v:=by
  intro s v hv
  have:CK s=s∨CK s=.undef:=by
   unfold CK;split
   ·split
    ·exact .inr rfl
    ·exact .inl rfl
   ·exact .inl rfl
  rcases this with e|e
  ·rw[e];exact At.keep hk (hz s) hv
  ·rw[e];trivial
 have hss:∀(cs:List SV) vs,Ay w (Aq M0 z st.ob) z st.ob cs vs→Ay w (Aq M0 z (C6 st).ob) z (C6 st).ob (cs.map CK) vs:=by
  intro cs
  induction cs with
  |nil=>intro vs hh;exact hh
  |cons c cs ih=>
   intro vs hh;obtain⟨v,vs',e,h1,h2⟩:=hh;exact⟨v,vs',e,hs h1,ih vs' h2⟩
 refine⟨h.size,h.defers,h.below,h.outer,⟨h.nam.lent,fun N cs hN hc=> ?_,h.nam.names,h.nam.low⟩,h.glob,fun i=>hs (h.fr i),fun id=> ?_,fun id g h1 h2=>h.lo id g ((hlive id).1 h1) h2,fun i j g hij h1 h2=>h.apart i j g hij ((hlive i).1 h1) ((hlive j).1 h2)⟩
 ·have hc':(if Au≤N then st.ob N else Fm (st.ob N))=.box cs _:=hc;rw[if_pos hN]at hc';exact h.nam.told N cs hN hc'
 ·show AI P w _ 0 z _ id (z.σ id) (if Au≤id then st.ob id else Fm (st.ob id));have hoi:=h.ob id;split
  ·exact AI.keep hk (fun _ _=>rfl) (fun cs _ s _=>hz s) (fun _ _ hh=>hh) hoi
  ·cases hob:st.ob id with
   |box cs=>
    rw[hob]at hoi;obtain⟨g,ty,vs,e1,e2,e3⟩:=hoi;exact⟨g,ty,vs,e1,e2,hss cs vs e3⟩
   |_=>
    rw[hob]at hoi;exact AI.keep hk (fun _ _=>rfl) (fun cs hc=>by cases hc) (fun _ _ hh=>hh) hoi
end
theorem G5{x:Option CV}{v:SV}(h:x.map .c=some v):cl v:=by
 obtain⟨c,_,rfl⟩:=Aa.1 h;exact BM c
theorem RN{rd:Nat→Ob}(hrd:∀j,DA (rd j)){sz:Option Nat}{s v:SV}(h:AT rd sz s=some v):cl v:=by
 unfold AT at h
 repeat' split at h
 all_goals first
  |(cases h;done)
  |exact G5 h
  |skip
 ·rename_i cs _ hob _;exact hrd _ cs _ hob _ (List.mem_of_getElem? h)
 ·obtain⟨l,_,rfl⟩:=Aa.1 h;exact BM _
 ·obtain⟨e,_,h⟩:=Ab.1 h;exact G5 h
theorem N6{rd:Nat→Ob}{ρ:SO→SV}{op:SOp}{v:SV}(hρ:∀x,cl (ρ x))(hrd:∀j,DA (rd j))(hN:∀N,Au≤N→rd N=.none)(h:Ao rd ρ op=some v):cl v:=by
 have hdr:∀x,cl (deref rd (ρ x)):=fun x=>by
  have:=hρ x;generalize ρ x=s at this⊢;unfold deref;split
  ·split
   ·rename_i hN';rw[hN _ hN'];exact IC
   ·exact IC
  ·exact this
 cases op
 case mov x=>cases h;exact hρ _
 case pick c a b=>
  simp only[Ao]at h;split at h<;>(try cases h;done);cases h;split<;>exact hρ _
 case load sz x=>exact RN hrd h
 case nchk x=>
  simp only[Ao]at h;have:=hρ x;split at h<;>(try cases h;done)
  all_goals
   rename_i he;cases h;rw[he]at this;exact this
 case lsl e size parts=>
  simp only[Ao]at h;obtain⟨_,_,h⟩:=Ab.1 h;split at h<;>cases h;exact BM _
 case faddr off x=>
  simp only[Ao]at h;have:=hdr x;split at h
  ·split at h<;>cases h;exact BM _
  ·split at h<;>cases h;exact BM _
  ·rename_i he;cases h;rw[he]at this;exact fun id hid=>this id hid
  ·rename_i he;cases h;rw[he]at this;exact fun id hid=>this id hid
  ·cases h
 case iaddr size x i=>
  have:=hρ x;simp only[Ao,Dj]at h;split at h<;>(try cases h;done)
  ·obtain⟨j,_,h⟩:=Ab.1 h;obtain⟨e,_,h⟩:=Ab.1 h;split at h<;>cases h;exact BM _
  ·rename_i he _;rw[he]at this;split at h<;>(try cases h;done);split at h<;>(try cases h;done);obtain⟨j,_,rfl⟩:=Aa.1 h;exact fun id hid=>this id hid
 case aaddr len size x i=>
  have:=hρ x;simp only[Ao,Du]at h;split at h<;>(try cases h;done)
  ·split at h<;>(try cases h;done);obtain⟨j,_,rfl⟩:=Aa.1 h;exact BM _
  ·rename_i he _;rw[he]at this;obtain⟨j,_,rfl⟩:=Aa.1 h;exact fun id hid=>this id hid
 case ext x i=>
  have:=hρ x;simp only[Ao]at h;split at h<;>(try cases h;done)
  ·exact G5 h
  ·rename_i he;rw[he]at this
   repeat' split at h
   all_goals first
    |(cases h;done)
    |(cases h;exact BM _)
    |(cases h;exact fun id hid=>this id hid)
 case build z parts=>
  simp only[Ao]at h;obtain⟨_,_,h⟩:=Ab.1 h;obtain⟨_,_,rfl⟩:=Aa.1 h;exact BM _
 case minmax mx xs=>
  simp only[Ao]at h;obtain⟨_,_,h⟩:=Ab.1 h;split at h
  ·cases h
  ·exact G5 h
 case sidx x i=>
  simp only[Ao]at h;split at h<;>(try cases h;done);obtain⟨_,_,h⟩:=Ab.1 h;obtain⟨_,_,rfl⟩:=Aa.1 h;exact BM _
 case aidx len size sz x i=>
  simp only[Ao]at h;split at h<;>(try cases h;done);obtain⟨_,_,h⟩:=Ab.1 h;exact G5 h
 case sslice x lo hi=>
  simp only[Ao]at h;split at h<;>(try cases h;done);obtain⟨_,_,h⟩:=Ab.1 h;obtain⟨_,_,h⟩:=Ab.1 h;split at h<;>cases h;exact BM _
 case slice3 size x lo hi mx=>
  simp only[Ao]at h;split at h<;>(try cases h;done);obtain⟨_,_,h⟩:=Ab.1 h;obtain⟨_,_,h⟩:=Ab.1 h;obtain⟨_,_,h⟩:=Ab.1 h;split at h<;>cases h;exact BM _
 case slice size x lo hi=>
  simp only[Ao]at h;split at h<;>(try cases h;done);obtain⟨_,_,h⟩:=Ab.1 h;obtain⟨_,_,h⟩:=Ab.1 h;split at h<;>cases h;exact BM _
 all_goals
  simp only[Ao,reduceCtorEq]at h;try(cases h;done)
  repeat' split at h
  all_goals first
   |(cases h;done)
   |exact G5 h
   |(cases h;exact BM _)
   |(obtain⟨_,_,rfl⟩:=Aa.1 h;exact BM _)
theorem RQ{ρ:SO→SV}{d:Nat}{op:SOp}{v:SV}{o:Ob}(hρ:∀x,cl (ρ x))(hd:d<Au)(h:AV ρ d op=some (v,o)):cl v∧DA o:=by
 have hv:∀s:SV,s.ref=some d→cl s:=fun s hs id hid=>by rw[hs]at hid;cases hid;exact hd
 cases op<;>simp only[AV,reduceCtorEq]at h
 case alloc z=>cases h;exact⟨hv _ rfl,KR _⟩
 case allocT T z=>cases h;exact⟨hv _ rfl,KR _⟩
 case nbytes e x=>
  split at h<;>(try cases h;done);simp only[Ad,Ac,Prod.mk.injEq]at h;obtain⟨_,rfl,rfl⟩:=h;exact⟨hv _ rfl,fun cs _ hcs=>by cases hcs⟩
 case box x=>
  split at h
  ·cases h;exact⟨hv _ rfl,KR _⟩
  ·cases h
  ·cases h;refine⟨hv _ rfl,fun cs _ hcs s hs=> ?_⟩;cases hcs;simp only[List.mem_singleton]at hs;subst hs;exact hρ x
 case mksl e size parts=>
  obtain⟨l,_,h⟩:=Ab.1 h;split at h<;>cases h;exact⟨hv _ rfl,fun cs _ hcs=>by cases hcs⟩
 case mkmap=>cases h;exact⟨hv _ rfl,fun cs _ hcs=>by cases hcs⟩
 case make=>
  repeat' split at h
  all_goals first
   |(cases h;done)
   |(cases h;exact⟨hv _ rfl,fun cs _ hcs=>by cases hcs⟩)
 case mrange=>
  repeat' split at h
  all_goals first
   |(cases h;done)
   |(cases h;exact⟨hv _ rfl,fun cs _ hcs=>by cases hcs⟩)
 case siter=>
  repeat' split at h
  all_goals first
   |(cases h;done)
   |(cases h;exact⟨hv _ rfl,fun cs _ hcs=>by cases hcs⟩)
section
variable {E:Env}
def clP(p:SV×Option Ob):Prop:=cl p.1∧∀o,p.2=some o→DA o
theorem N5{rd:Nat→Ob}{ρ:SO→SV}{d:Option Nat}{f:FuncId}{args:List SO}{caps:List CV}{p:SV×Option Ob}(hd:∀j,d=some j→j<Au)(h:FB E.named rd ρ d f args caps=some p):clP p:=by
 unfold FB at h;obtain⟨l,_,h⟩:=Ab.1 h;obtain⟨r,hr,h⟩:=Ab.1 h;split at h<;>cases h
 cases r with
 |val v=>exact⟨BM _,fun o ho=>by cases ho⟩
 |new o=>
  have hh:CN o=true:=by
   have hr':(match E.fn f (l++caps)with
    |some (.new o)=>if CN o=true then some (.new o)else none
    |r=>r)=some (.new o):=hr
   split at hr'
   ·split at hr'<;>(try cases hr';done);rename_i hh;cases hr';exact hh
   ·rename_i hne;exact absurd hr' (hne o)
  have hdd:d.getD 0<Au:=by
   cases d with
   |none=>decide
   |some j=>exact hd j rfl
  refine⟨fun id hid=> ?_,fun o' ho'=> ?_⟩
  ·cases o<;>simp[CN]at hh<;>(simp only[JQ,SV.ref,Ac]at hid;omega)
  ·cases ho';intro cs _ hcs;subst hcs;cases hh
theorem RT{rd:Nat→Ob}{l:SL}{fr:Nat→SV}{p:SV×Option Ob}(hfr:∀i,cl (fr i))(hrd:∀j,DA (rd j))(hN:∀N,Au≤N→rd N=.none)(hd:∀j,l.dst=some j→j<Au)(h:Ct E.named l fr rd=some p):clP p:=by
 have hso:∀x,cl (so E.named.G fr x):=fun x=>by
  cases x with
  |t i=>exact hfr i
  |k c=>exact BM c
  |g i=>
   simp only[so]
   cases E.named.G i with
   |nil=>exact IC
   |cons c cs=>exact BM _
 have hop:∀p,A4 E.named rd (so E.named.G fr) l.dst l.op=some p→clP p:=fun p h=>by
  have hdd:l.dst.getD 0<Au:=by
   cases hl:l.dst with
   |none=>decide
   |some j=>exact hd j hl
  unfold A4 at h;split at h
  ·obtain⟨v,hv,rfl⟩:=Aa.1 h;exact⟨N6 hso hrd hN hv,fun o ho=>by cases ho⟩
  ·obtain⟨v,hv,rfl⟩:=Aa.1 h;exact⟨N6 hso hrd hN hv,fun o ho=>by cases ho⟩
  ·obtain⟨⟨v,o⟩,hv,rfl⟩:=Aa.1 h;obtain⟨h1,h2⟩:=RQ hso hdd hv;exact⟨h1,fun o' ho=>by cases ho;exact h2⟩
  ·cases h
  ·cases h
  ·split at h
   ·exact N5 hd h
   ·split at h<;>(try cases h;done);exact N5 hd h
   ·cases h
 unfold Ct at h;split at h
 ·exact hop _ h
 ·split at h
  ·split at h
   ·exact hop _ h
   ·cases h;exact⟨BM _,fun o ho=>by cases ho⟩
  ·cases h;exact⟨BM _,fun o ho=>by cases ho⟩
  ·cases h
theorem RR{st s:St}{d:Option Nat}{p:SV×Option Ob}(hs:Cl st)(hp:clP p)(h:put st d p=some s):Cl s:=by
 have hfr:∀v i,cl v→cl (upd st.fr i v i):=fun v i hv=>by rw[AH];exact hv
 obtain⟨v,o⟩:=p
 cases o with
 |none=>
  cases h
  cases d with
  |none=>exact hs
  |some d=>
   refine⟨fun i=> ?_,hs.ob⟩;show cl (upd st.fr d v i);rw[B5];split
   ·exact hp.1
   ·exact hs.fr i
 |some o=>
  simp only[put,AY]at h
  cases d with
  |none=>cases h
  |some d=>
   simp only at h;split at h<;>(try cases h;done);cases h;refine⟨fun i=> ?_,fun j hj=> ?_⟩
   ·show cl (upd st.fr d v i);rw[B5];split
    ·exact hp.1
    ·exact hs.fr i
   ·show DA (upd st.ob d o j);rw[B5];split
    ·exact hp.2 o rfl
    ·exact hs.ob j hj
theorem RU{n o:Nat}{ob ob':Ob}{v:SV}(ho:DA ob)(hv:cl v)(h:D4 n o ob v=some ob'):DA ob':=by
 unfold D4 at h;split at h<;>(try cases h;done);rename_i cs bt;split at h
 ·split at h<;>cases h;intro cs' _ hcs s hs;cases hcs;unfold EY at hs;simp only[List.mem_append]at hs;rcases hs with(hs|hs)|hs
  ·exact ho cs _ rfl s (List.mem_of_mem_take hs)
  ·obtain⟨c,_,rfl⟩:=List.mem_map.1 hs;exact BM c
  ·exact ho cs _ rfl s (List.mem_of_mem_drop hs)
 ·split at h<;>cases h;intro cs' _ hcs s hs;cases hcs;rcases List.mem_or_eq_of_mem_set hs with hs|hs
  ·exact ho cs _ rfl s hs
  ·subst hs;exact hv
end
def low(st:St):St:={fr:=st.fr,ob:=BP st.ob}
def merge(s st:St):St:={fr:=s.fr,ob:=fun i=>if Au≤i then st.ob i else s.ob i}
def efL(E:Env)(l:SL)(fr:Nat→SV):Option (Eff×List SO×List CV):=
 match l.op with
 | .call f args=>match E.ef f with
  |some e=>some (e,args,[])
  |none=>none
 | .callv f args=>match so E.G fr f with
  | .c (.fn f caps)=>match E.ef f with
   |some e=>some (e,args,caps)
   |none=>none
  |_=>none
 |_=>none
def B4(E:Env)(l:SL)(fr:Nat→SV):Option (Eff×List SO×List CV):=if gd l fr=some true then efL E l fr else none
section
variable {E:Env} {A D:List Nat}
theorem Ll{rd:Nat→Ob}{l:SL}{st:St}:Bg E rd l st=(gd l st.fr).bind fun t=>if t=true then A2 E rd st l.dst l.op else some (st.set l.dst AP):=by
 unfold Bg gd
 cases l.guard with
 |none=>rfl
 |some p=>
  obtain⟨g,want⟩:=p;simp only;generalize st.fr g=q
  cases q with
  |c v=>
   cases v with
   |bool b=>by_cases hb:b=want<;>simp[hb]
   |tup l=>cases l<;>rfl
   |_=>rfl
  |_=>rfl
theorem Sw{l:SL}{fr:Nat→SV}{q:Eff×List SO×List CV}(h:efL E l fr=some q):l.op.calls=true:=by
 unfold efL at h;split at h
 ·rename_i ho;rw[ho];rfl
 ·rename_i ho;rw[ho];rfl
 ·cases h
theorem Kn{l:SL}{fr:Nat→SV}{q:Eff×List SO×List CV}(h:B4 E l fr=some q):l.op.calls=true:=by
 unfold B4 at h;split at h
 ·exact Sw h
 ·cases h
theorem Ko{l:SL}{fr fr':Nat→SV}(h:∀i∈l.looks,fr i=fr' i):B4 E l fr=B4 E l fr':=by
 unfold B4;rw[Lv h]
 have:efL E l fr=efL E l fr':=by
  unfold efL;cases ho:l.op<;>simp only;rename_i f args;rw[EA (fr':=fr') f fun i hi=>h i (by simp[SL.looks,ho,SOp.slots,hi])]
 rw[this]
theorem KL{op:SOp}(h:op.calls=true):op.hard=false:=by
 cases op<;>first|rfl|cases h
theorem KK{l:SL}(h:l.op.calls=true):l.own A=none:=JF (KL h)
theorem Mh{l:SL}{rd:Nat→Ob}{st:St}(h:efL E l st.fr=none):A2 E rd st l.dst l.op=A2 E.still rd st l.dst l.op:=by
 unfold efL at h;cases ho:l.op<;>rw[ho]at h<;>try rfl
 ·rename_i f args;simp only at h
  cases he:E.ef f with
  |some e=>rw[he]at h;cases h
  |none=>
   simp only[A2,SOp.cls,he];rfl
 ·rename_i f args;simp only at h
  show(match so E.G st.fr f with
   | .c (.fn f caps)=>match E.ef f with
    |some e=>CA (so E.G st.fr) st l.dst e args caps
    |none=>CJ E rd (so E.G st.fr) st l.dst f args caps
   |_=>none)=(match so E.G st.fr f with
   | .c (.fn f caps)=>CJ E rd (so E.G st.fr) st l.dst f args caps
   |_=>none)
  generalize so E.G st.fr f=q at h;cases q<;>try rfl
  rename_i c;cases c<;>try rfl
  rename_i g caps;simp only at h⊢
  cases he:E.ef g with
  |some e=>rw[he]at h;cases h
  |none=>rfl
theorem TQ{l:SL}{st:St}(ht:B4 E l st.fr=none):CB E D l st=(gd l st.fr).bind fun t=>if t=true then A2 E.still (A9 (some (hid l.op D)) (BP st.ob)) st l.dst l.op else some (st.set l.dst AP):=by
 unfold CB;rw[Ll];unfold B4 at ht
 cases hg:gd l st.fr with
 |none=>rfl
 |some t=>
  cases t with
  |false=>rfl
  |true=>
   rw[hg,if_pos rfl]at ht;simp only[Option.bind_some,if_true];exact Mh ht
theorem Vm{l:SL}{rd:Nat→Ob}{st:St}(hh:l.op.hard=false):(Ct E l st.fr rd).bind (put st l.dst)=(gd l st.fr).bind fun t=>if t=true then A2 E.still rd st l.dst l.op else some (st.set l.dst AP):=by
 unfold Ct gd
 cases l.guard with
 |none=>simp only[Option.bind_some,if_true];exact(Hi hh).symm
 |some p=>
  obtain⟨g,want⟩:=p;simp only;generalize st.fr g=q
  cases q with
  |c v=>
   cases v with
   |bool b=>
    by_cases hb:b=want
    ·simp only[hb,if_true,Option.bind_some,decide_true];exact(Hi hh).symm
    ·simp[hb,put]
   |tup l=>cases l<;>simp[put]
   |_=>rfl
  |_=>rfl
theorem LS{l:SL}{st:St}(hh:l.op.hard=false)(ht:B4 E l st.fr=none):CB E D l st=(Ct E l st.fr (A9 (some (hid l.op D)) (BP st.ob))).bind (put st l.dst):=by
 rw[TQ ht,Vm hh]
theorem UG{st s:St}{d:Option Nat}{p:SV×Option Ob}(hd:∀j,d=some j→j<Au)(h:put st d p=some s):put (low st) d p=some (low s)∧∀i,Au≤i→s.ob i=st.ob i:=by
 obtain⟨v,o⟩:=p
 cases o with
 |none=>
  cases h;cases d<;>exact⟨rfl,fun _ _=>rfl⟩
 |some o=>
  simp only[put,AY]at h⊢
  cases d with
  |none=>cases h
  |some d=>
   have hdd:=hd d rfl;simp only at h⊢;split at h<;>(try cases h;done);rename_i hn;cases h;have hl:(low st).ob d=.none:=by show(if Au≤d then Ob.none else st.ob d)=_;rw[if_neg (by omega),hn]
   refine⟨?_,fun i hi=>Az _ _ (by omega)⟩;rw[hl];simp only[low,Ac,St.mk.injEq,true_and];funext i;simp only[B5,BP];by_cases h1:i=d
   ·subst h1;rw[if_pos rfl,if_pos rfl,if_neg (by omega)]
   ·rw[if_neg h1,if_neg h1]
theorem Mu{st t:St}{d:Option Nat}{p:SV×Option Ob}(hd:∀j,d=some j→j<Au)(h:put (low st) d p=some t):put st d p=some (merge t st)∧low (merge t st)=t:=by
 obtain⟨v,o⟩:=p
 cases o with
 |none=>
  cases h
  have key:∀st':St,st'.ob=st.ob→merge (low st') st=st'∧low (merge (low st') st)=low st':=fun st' hob=>by
   have h1:merge (low st') st=st':=by
    cases st' with
    |mk fr ob=>
     cases hob;simp only[merge,low,St.mk.injEq,true_and];funext i;simp only[BP];split<;>rfl
   exact⟨h1,by rw[h1]⟩
  have e:(low st).set d v=low (st.set d v):=by cases d<;>rfl
  obtain⟨k1,k2⟩:=key (st.set d v) (by cases d<;>rfl);rw[e];exact⟨by rw[k1];rfl,k2⟩
 |some o=>
  simp only[put,AY]at h⊢
  cases d with
  |none=>cases h
  |some d=>
   have hdd:=hd d rfl;have hl:(low st).ob d=st.ob d:=by show(if Au≤d then Ob.none else st.ob d)=_;rw[if_neg (by omega)]
   simp only[hl]at h⊢;split at h<;>(try cases h;done);rename_i hn;cases h;constructor
   ·simp only[merge,low,Ac,St.mk.injEq,true_and];funext i;simp only[B5,BP];by_cases h1:i=d
    ·subst h1;rw[if_pos rfl,if_neg (by omega),if_pos rfl]
    ·rw[if_neg h1,if_neg h1];split<;>rfl
   ·simp only[merge,low,St.mk.injEq,true_and];funext i;simp only[B5,BP];by_cases h1:i=d
    ·subst h1;rw[if_neg (by omega),if_neg (by omega)]
    ·rw[if_neg h1];split<;>rfl
structure DW (A D:List Nat) (l:SL):Prop where
 hard:l.op.hard=true→∃k,l.own A=some k∧k<Au
 dst:∀j,l.dst=some j→j<Au
 makes:l.op.makes=true→∀j,l.dst=some j→D.contains j=true
open Classical in
noncomputable def evR(E:Env)(A D:List Nat)(l:SL)(st:St):Option St:=if Cl st∧okS A l st=true then CB E.named D l st else none
theorem H6{l:SL}{st s:St}(h:evR E A D l st=some s):Cl st∧okS A l st=true∧CB E.named D l st=some s:=by
 unfold evR at h;split at h
 ·rename_i hh;exact⟨hh.1,hh.2,h⟩
 ·cases h
theorem IT{l:SL}{st s:St}(h1:Cl st)(h2:okS A l st=true)(h3:CB E.named D l st=some s):evR E A D l st=some s:=by
 unfold evR;rw[if_pos ⟨h1,h2⟩,h3]
theorem JE{l:SL}{k:Nat}(hl:l.own A=some k):∃n x,(∀i∈x.slot,i∈l.looks)∧∀(st:St) (o:Nat),st.fr k=.ptr k o→CB E D l st=(D4 n o (st.ob k) (so E.G st.fr x)).map (fun b=>{st with ob:=upd st.ob k b})∧Ax E (some D) l st=(D4 n o (st.ob k) (so E.G st.fr x)).map fun b=>{st with ob:=upd st.ob k b}:=by
 obtain⟨n,x,h1,h2⟩:=F5 hl;refine⟨n,x,fun i hi=>by simp[SL.looks,h1,SOp.slots,hi],fun st o ho=> ?_⟩
 have key:∀(E':Env) rd,E'.G=E.G→A2 E' rd st l.dst l.op=(D4 n o (st.ob k) (so E.G st.fr x)).map fun b=>{st with ob:=upd st.ob k b}:=fun E' rd hG=>by
  simp only[h1,A2,SOp.cls,AD,hG];rw[show so E.G st.fr (.t k)=.ptr k o from ho];simp only[D4,deref];cases hb:st.ob k<;>simp only[hb]<;>try rfl
  generalize so E.G st.fr x=v
  cases v with
  |c cv=>cases cv<;>(simp only;split<;>rfl)
  |_=>simp only;split<;>rfl
 constructor
 ·unfold CB Bg;rw[h2];exact key E _ rfl
 ·unfold Ax;rw[h2];exact key _ _ CY
theorem J7{l:SL}{k:Nat}{st:St}(hl:l.own A=some k)(h:okS A l st=true):∃o,st.fr k=.ptr k o:=by
 unfold okS at h;rw[hl]at h;simp only at h;split at h
 ·rename_i j o hj;have:j=k:=by simpa using h
  subst this;exact⟨o,hj⟩
 ·cases h
theorem J5{l:SL}(hok:DW A D l){st s:St}(ht:B4 E.named l st.fr=none)(h:evR E A D l st=some s):evT E.named A D l (low st)=some (low s)∧∀i,Au≤i→s.ob i=st.ob i:=by
 obtain⟨hcl,hos,h⟩:=H6 h;have hos':okS A l (low st)=true:=hos
 cases hh:l.op.hard with
 |false=>
  rw[LS hh ht,Ab]at h;obtain⟨p,h1,h2⟩:=h;obtain⟨h3,h4⟩:=UG hok.dst h2;refine⟨Ez hos' ?_,h4⟩;rw[Cu hh,Ab];exact⟨p,h1,h3⟩
 |true=>
  obtain⟨k,hk,hkt⟩:=hok.hard hh;obtain⟨o,ho⟩:=J7 hk hos;obtain⟨n,x,hx,hf⟩:=JE (E:=E.named) (D:=D) hk;rw[(hf st o ho).1,Aa]at h;obtain⟨b,h1,rfl⟩:=h;have hl:(low st).ob k=st.ob k:=by show(if Au≤k then Ob.none else st.ob k)=_;rw[if_neg (by omega)]
  refine⟨Ez hos' ?_,fun i hi=>Az _ _ (by omega)⟩;rw[(hf (low st) o ho).2,hl];show(D4 n o (st.ob k) (so E.named.G st.fr x)).map _=_;rw[h1];simp only[low,Option.map_some,Ac,St.mk.injEq,true_and];funext i;simp only[B5,BP];by_cases h1:i=k
  ·subst h1;rw[if_pos rfl,if_pos rfl,if_neg (by omega)]
  ·rw[if_neg h1,if_neg h1]
theorem J6{l:SL}(hok:DW A D l){st t:St}(hcl:Cl st)(ht:B4 E.named l st.fr=none)(h:evT E.named A D l (low st)=some t):evR E A D l st=some (merge t st)∧low (merge t st)=t:=by
 obtain⟨hos,h⟩:=Fv h;have hos':okS A l st=true:=hos
 cases hh:l.op.hard with
 |false=>
  rw[Cu hh,Ab]at h;obtain⟨p,h1,h2⟩:=h;obtain⟨h3,h4⟩:=Mu hok.dst h2;refine⟨IT hcl hos' ?_,h4⟩;rw[LS hh ht,Ab];exact⟨p,h1,h3⟩
 |true=>
  obtain⟨k,hk,hkt⟩:=hok.hard hh;obtain⟨o,ho⟩:=J7 hk hos';obtain⟨n,x,hx,hf⟩:=JE (E:=E.named) (D:=D) hk;rw[(hf (low st) o ho).2,Aa]at h;obtain⟨b,h1,rfl⟩:=h;have hl:(low st).ob k=st.ob k:=by show(if Au≤k then Ob.none else st.ob k)=_;rw[if_neg (by omega)]
  rw[hl]at h1;have h1':D4 n o (st.ob k) (so E.named.G st.fr x)=some b:=h1
  have e:merge {low st with ob:=upd (low st).ob k b} st={st with ob:=upd st.ob k b}:=by
   simp only[merge,low,St.mk.injEq,true_and];funext i;simp only[B5,BP];by_cases h1:i=k
   ·subst h1;rw[if_pos rfl,if_neg (by omega),if_pos rfl]
   ·rw[if_neg h1,if_neg h1];split<;>rfl
  constructor
  ·refine IT hcl hos' ?_;rw[(hf st o ho).1,h1',e];rfl
  ·rw[e];simp only[low,St.mk.injEq,true_and];funext i;simp only[B5,BP];by_cases h1:i=k
   ·subst h1;rw[if_pos rfl,if_pos rfl,if_neg (by omega)]
   ·rw[if_neg h1,if_neg h1]
theorem Mc{l:SL}(hok:DW A D l){st s:St}(ht:B4 E.named l st.fr=none)(h:evR E A D l st=some s):Cl s:=by
 obtain⟨hcl,hos,h⟩:=H6 h
 cases hh:l.op.hard with
 |false=>
  rw[LS hh ht,Ab]at h;obtain⟨p,h1,h2⟩:=h;refine RR hcl (RT hcl.fr (fun j=> ?_) (fun N hN=> ?_) hok.dst h1) h2
  ·intro cs _ hcs;simp only[A9,BP]at hcs;split at hcs
   ·cases hcs
   ·split at hcs
    ·cases hcs
    ·exact hcl.ob j (by omega) cs _ hcs
  ·simp only[A9,BP];rw[if_pos hN];split<;>rfl
 |true=>
  obtain⟨k,hk,hkt⟩:=hok.hard hh;obtain⟨o,ho⟩:=J7 hk hos;obtain⟨n,x,hx,hf⟩:=JE (E:=E.named) (D:=D) hk;rw[(hf st o ho).1,Aa]at h;obtain⟨b,h1,rfl⟩:=h
  have hv:cl (so E.named.G st.fr x):=by
   cases x with
   |t i=>exact hcl.fr i
   |k c=>exact BM c
   |g i=>
    simp only[so]
    cases E.named.G i with
    |nil=>exact IC
    |cons c cs=>exact BM _
  refine⟨hcl.fr,fun j hj=> ?_⟩;show DA (upd st.ob k b j);rw[B5];split
  ·exact RU (hcl.ob k hkt) hv h1
  ·exact hcl.ob j hj
theorem J4{l:SL}(hok:DW A D l){L t:St}(h:evT E.named A D l L=some t){i:Nat}(hi:l.dst≠some i):t.fr i=L.fr i:=by
 obtain⟨hos,h⟩:=Fv h
 cases hh:l.op.hard with
 |false=>exact MD hh h hi
 |true=>
  obtain⟨k,hk,hkt⟩:=hok.hard hh;obtain⟨o,ho⟩:=J7 hk hos;obtain⟨n,x,hx,hf⟩:=JE (E:=E.named) (D:=D) hk;rw[(hf L o ho).2,Aa]at h;obtain⟨b,h1,rfl⟩:=h;rfl
theorem Pn{f:FuncId}{e:Eff}(h:E.named.ef f=some e):∀N,e.T.contains N=true→Au≤N:=by
 have h':(match E.ef f with
  |some e=>if(e.T.all fun N=>Nat.ble Au N)=true then some e else none
  |none=>none)=some e:=h
 split at h'<;>(try cases h';done);split at h'<;>(try cases h';done);rename_i hh;cases h';intro N hN;rw[List.all_eq_true]at hh;exact Ah (hh N (by simpa using hN))
theorem VA{l:SL}{fr:Nat→SV}{q:Eff×List SO×List CV}(h:B4 E.named l fr=some q):∀N,q.1.T.contains N=true→Au≤N:=by
 unfold B4 efL at h;split at h<;>(try cases h;done);split at h<;>(try cases h;done)
 ·split at h<;>(try cases h;done);rename_i e he;cases h;exact Pn he
 ·split at h<;>(try cases h;done);split at h<;>(try cases h;done);rename_i e he;cases h;exact Pn he
theorem OK{T:List Nat}(hT:∀N,T.contains N=true→Au≤N){s:SV}(h:cl s):Av T s=s:=by
 have key:∀id,s.ref=some id→¬T.contains id=true:=fun id hr hc=>by
  have:=h id hr;have:=hT id hc;omega
 cases s<;>simp only[Av]<;>first
  |rfl
  |(rw[if_neg (key _ rfl)])
def hiT(T:List Nat)(H:Nat→Ob)(ob:Nat→Ob):Nat→Ob:=fun i=>if T.contains i=true then H i else BO T (ob i)
theorem V9{T:List Nat}(hT:∀N,T.contains N=true→Au≤N){H:Nat→Ob}{st:St}(h:Cl st):BX T H st={fr:=st.fr,ob:=fun i=>if Au≤i then hiT T H st.ob i else st.ob i}:=by
 unfold BX;simp only[St.mk.injEq];refine⟨funext fun i=>OK hT (h.fr i),funext fun i=> ?_⟩;split
 ·rename_i hc;rw[if_pos (hT i hc)];show H i=(if _ then _ else _);rw[if_pos hc]
 ·rename_i hc;split
  ·show _=(if _ then _ else _);rw[if_neg hc]
  ·rename_i hi
   cases hob:st.ob i with
   |box cs=>
    simp only[BO,Ob.box.injEq,and_true];have h1:=h.ob i (by omega) cs _ hob;have h2:∀s∈cs,Av T s=s:=fun s hs=>OK hT (h1 s hs);exact(List.map_congr_left h2).trans (List.map_id _)
   |_=>rfl
theorem Uv{T:List Nat}(hT:∀N,T.contains N=true→Au≤N){ob ob':Nat→Ob}(h:∀i,Au≤i→ob' i=ob i):Cg T ob'=Cg T ob:=by
 funext i;unfold Cg;split
 ·rename_i hc;rw[h i (hT i hc)]
 ·rfl
theorem TK{l:SL}{fr:Nat→SV}{q:Eff×List SO×List CV}(h:B4 E l fr=some q):∀x∈q.2.1,∀i∈x.slot,i∈l.looks:=by
 unfold B4 efL at h;split at h<;>(try cases h;done);split at h<;>(try cases h;done)
 ·rename_i ho;split at h<;>(try cases h;done);cases h;intro x hx i hi;simp only[SL.looks,ho,SOp.slots,List.mem_append,List.mem_flatMap];exact .inl ⟨x,hx,hi⟩
 ·rename_i ho;split at h<;>(try cases h;done);split at h<;>(try cases h;done);cases h;intro x hx i hi;simp only[SL.looks,ho,SOp.slots,List.mem_append,List.mem_flatMap];exact .inl (.inr ⟨x,hx,hi⟩)
theorem OX{l:SL}{st:St}{q:Eff×List SO×List CV}(h:B4 E l st.fr=some q):CB E D l st=CA (so E.G st.fr) st l.dst q.1 q.2.1 q.2.2:=by
 unfold CB;rw[Ll];unfold B4 at h;split at h<;>(try cases h;done);rename_i hg;rw[hg];simp only[Option.bind_some,if_true];unfold efL at h;split at h<;>(try cases h;done)
 ·rename_i ho;split at h<;>(try cases h;done);rename_i e he;cases h;simp only[ho,A2,SOp.cls,he]
 ·rename_i ho;split at h<;>(try cases h;done);rename_i hf;split at h<;>(try cases h;done);rename_i e he;cases h;simp only[ho,A2,SOp.cls,hf,he]
theorem Nr{α β:Type}{f g:α→Option β}:∀{l:List α},(∀x∈l,f x=g x)→Ar f l=Ar g l
 | [],_=>rfl
 |x::l,h=>by
  simp only[Ar];rw[h x (by simp),Nr (l:=l) fun y hy=>h y (by simp[hy])]
theorem Lf{l:SL}{st s:St}{q:Eff×List SO×List CV}(ht:B4 E.named l st.fr=some q)(h:evR E A D l st=some s):
  ∃(c:CV) (hi:Nat→Ob),s={fr:=(st.set l.dst (.c c)).fr,ob:=fun i=>if Au≤i then hi i else st.ob i}∧∀st',(∀i∈l.looks,st'.fr i=st.fr i)→(∀i,Au≤i→st'.ob i=st.ob i)→Cl st'→
   evR E A D l st'=some {fr:=(st'.set l.dst (.c c)).fr,ob:=fun i=>if Au≤i then hi i else st'.ob i}:=by
 obtain⟨hcl,hos,h⟩:=H6 h;have hT:=VA ht;rw[OX ht]at h;unfold CA at h;obtain⟨ls,h1,h⟩:=Ab.1 h;obtain⟨⟨c,H⟩,h2,h3⟩:=Ab.1 h
 have form:∀st0:St,Cl st0→(BX q.1.T H st0).set l.dst (.c c)={fr:=(st0.set l.dst (.c c)).fr,ob:=fun i=>if Au≤i then hiT q.1.T H st0.ob i else st0.ob i}:=fun st0 h0=>by
  rw[V9 hT h0];cases l.dst<;>rfl
 refine⟨c,hiT q.1.T H st.ob, ?_,fun st' hf hh hcl'=> ?_⟩
 ·cases h3;exact form st hcl
 ·have ht':B4 E.named l st'.fr=some q:=by rw[Ko hf];exact ht
  refine IT hcl' (by unfold okS;rw[KK (Kn ht)]) ?_;rw[OX ht'];unfold CA
  have e1:Ar (fun x=>closed (so E.named.G st'.fr x)) q.2.1=Ar (fun x=>closed (so E.named.G st.fr x)) q.2.1:=Nr fun x hx=>by
   rw[EA (fr':=st.fr) x fun i hi=>hf i (TK ht x hx i hi)]
  rw[e1,h1,Option.bind_some,Uv hT hh,h2,Option.bind_some,form st' hcl'];simp only[Ac,St.mk.injEq,true_and];funext i;split
  ·rename_i hi;simp only[hiT,hh i hi]
  ·rfl
theorem NR{st:St}(h:Cl st)(d:Option Nat)(c:CV)(hi:Nat→Ob):Cl {fr:=(st.set d (.c c)).fr,ob:=fun i=>if Au≤i then hi i else st.ob i}:=by
 refine⟨fun i=> ?_,fun j hj=> ?_⟩
 ·cases d with
  |none=>exact h.fr i
  |some d=>
   show cl (upd st.fr d (.c c) i);rw[B5];split
   ·exact BM c
   ·exact h.fr i
 ·show DA (if Au≤j then hi j else st.ob j);rw[if_neg (by omega)];exact h.ob j hj
def Is(d:Option Nat)(c:CV):SL:=⟨d,.mov (.k c),none⟩
theorem JY{L:St}{d:Option Nat}{c:CV}:evT E A D (Is d c) L=some (L.set d (.c c)):=Ez rfl rfl
theorem Ju{st:St}(d:Option Nat)(c:CV)(hi:Nat→Ob):low {fr:=(st.set d (.c c)).fr,ob:=fun i=>if Au≤i then hi i else st.ob i}=(low st).set d (.c c):=by
 have e:(low st).set d (.c c)=low (st.set d (.c c)):=by cases d<;>rfl
 rw[e];simp only[low,St.mk.injEq,true_and];funext i;simp only[BP];split
 ·rfl
 ·cases d<;>rfl
theorem Lz{op:SOp}{D:List Nat}{i:Nat}(h:(hid op D).contains i=true):D.contains i=true:=by
 unfold hid at h;split at h
 ·simp only[List.contains_eq_mem,List.mem_filter,decide_eq_true_eq]at h⊢;exact h.1
 ·exact h
theorem Oz{a b:SL}(q1:(a.dst.all fun d=> !b.looks.contains d&&b.dst !=some d)=true)(q2:(b.dst.all fun d=> !a.looks.contains d)=true)
  (q3:(a.op.hard=false∧b.op.hard=false∧(a.op.makes=true→(a.dst.all fun d=>(hid b.op D).contains d)=true)∧(b.op.makes=true→(b.dst.all fun d=>(hid a.op D).contains d)=true))∨(∃k,a.own A=none∧b.own A=some k∧a.op.hard=false∧(hid a.op D).contains k=true)∨(∃k,a.own A=some k∧b.own A=none∧b.op.hard=false∧(hid b.op D).contains k=true)):C2 A D a b=true:=by
 unfold C2 Fw;rw[q1,q2];rcases q3 with⟨h1,h2,h3,h4⟩|⟨k,h1,h2,h3,h4⟩|⟨k,h1,h2,h3,h4⟩
 ·rw[h1,h2]
  have e3:(!a.op.makes||(a.dst.all fun d=>(hid b.op D).contains d))=true:=by
   cases hm:a.op.makes with
   |false=>rfl
   |true=>rw[h3 hm];rfl
  have e4:(!b.op.makes||(b.dst.all fun d=>(hid a.op D).contains d))=true:=by
   cases hm:b.op.makes with
   |false=>rfl
   |true=>rw[h4 hm];rfl
  rw[e3,e4];rfl
 ·rw[h1,h2,h3];simp only[h4];simp
 ·rw[h1,h2,h3];simp only[h4];simp
theorem SZ{a b:SL}(ha:a.op.calls=true)(h:C2 A D a b=true):(a.dst.all fun d=> !b.looks.contains d&&b.dst !=some d)=true∧(b.dst.all fun d=> !a.looks.contains d)=true∧
  ((b.op.hard=false∧(b.op.makes=true→(b.dst.all fun d=>(hid a.op D).contains d)=true))∨∃k,b.own A=some k∧(hid a.op D).contains k=true):=by
 have h1:a.op.grows=false:=by revert ha;cases a.op<;>simp[SOp.calls,SOp.grows]
 have h2:a.op.calm=false:=by revert ha;cases a.op<;>simp[SOp.calls,SOp.calm]
 have h3:a.op.still=false:=by revert ha;cases a.op<;>simp[SOp.calls,SOp.still]
 have h5:a.op.moves=false:=by revert ha;cases a.op<;>simp[SOp.calls,SOp.moves]
 have h6:a.op.loads=false:=by revert ha;cases a.op<;>simp[SOp.calls,SOp.loads]
 unfold C2 Fw at h;rw[KK ha,KL ha,h1,h2,h3,h5,h6]at h;simp only[Bool.not_false,Bool.true_and,Bool.false_and,Bool.and_false,Bool.or_false]at h;rw[Aj]at h;rcases h with h|h
 ·simp only[Af,Aj,Bool.not_eq_true']at h;refine⟨?_, ?_,.inl ⟨h.2.1.1,fun hm=> ?_⟩⟩
  ·simpa only[Af,Bool.not_eq_true']using h.1.1
  ·simpa only[Bool.not_eq_true']using h.1.2
  ·rcases h.2.2 with h4|h4
   ·rw[hm]at h4;cases h4
   ·exact h4
 ·rw[Af,Af]at h;refine⟨h.1.1,h.1.2,.inr ?_⟩;have h4:=h.2;split at h4
  ·rename_i hn _;cases hn
  ·rename_i hn _;cases hn
  ·rename_i k _ hb;exact⟨k,hb,h4⟩
  ·cases h4
theorem Ta{a b:SL}(hb:b.op.calls=true)(h:C2 A D a b=true):(a.dst.all fun d=> !b.looks.contains d&&b.dst !=some d)=true∧(b.dst.all fun d=> !a.looks.contains d)=true∧
  ((a.op.hard=false∧(a.op.makes=true→(a.dst.all fun d=>(hid b.op D).contains d)=true))∨∃k,a.own A=some k∧(hid b.op D).contains k=true):=by
 have h1:b.op.entry=false:=by revert hb;cases b.op<;>simp[SOp.calls,SOp.entry]
 have h2:b.op.stores=false:=by revert hb;cases b.op<;>simp[SOp.calls,SOp.stores]
 have h3:b.op.tame=false:=by revert hb;cases b.op<;>simp[SOp.calls,SOp.tame]
 have h5:b.op.grows=false:=by revert hb;cases b.op<;>simp[SOp.calls,SOp.grows]
 have h6:b.op.puts=false:=by revert hb;cases b.op<;>simp[SOp.calls,SOp.puts]
 unfold C2 Fw at h;rw[KK hb,KL hb,h1,h2,h3,h5,h6]at h;simp only[Bool.not_false,Bool.true_and,Bool.false_and,Bool.and_false,Bool.or_false]at h;rw[Aj]at h;rcases h with h|h
 ·simp only[Af,Aj,Bool.not_eq_true']at h;refine⟨?_, ?_,.inl ⟨h.2.1,fun hm=> ?_⟩⟩
  ·simpa only[Af,Bool.not_eq_true']using h.1.1
  ·simpa only[Bool.not_eq_true']using h.1.2
  ·rcases h.2.2.1 with h4|h4
   ·rw[hm]at h4;cases h4
   ·exact h4
 ·rw[Af,Af]at h;refine⟨h.1.1,h.1.2,.inr ?_⟩;have h4:=h.2;split at h4
  ·rename_i hn;cases hn
  ·rename_i k ha _;exact⟨k,ha,h4⟩
  ·rename_i hn;cases hn
  ·cases h4
theorem Nu{d:Option Nat}{op:SOp}(h:(d.all fun d=>(hid op D).contains d)=true):(d.all fun d=>D.contains d)=true:=by
 cases d with
 |none=>rfl
 |some d=>exact Lz h
theorem Tb{a b:SL}(ha:a.op.calls=true)(c:CV)(h:C2 A D a b=true):C2 A D (Is a.dst c) b=true:=by
 obtain⟨q1,q2,q3⟩:=SZ ha h;refine Oz q1 (by cases b.dst<;>rfl) ?_;rcases q3 with⟨q3,q4⟩|⟨k,q3,q4⟩
 ·exact .inl ⟨rfl,q3,fun hm=>(by cases hm),fun hm=>Nu (q4 hm)⟩
 ·exact .inr (.inl ⟨k,rfl,q3,rfl,Lz q4⟩)
theorem Tc{a b:SL}(hb:b.op.calls=true)(c:CV)(h:C2 A D a b=true):C2 A D a (Is b.dst c)=true:=by
 obtain⟨q1,q2,q3⟩:=Ta hb h;refine Oz ?_ q2 ?_
 ·cases ha:a.dst with
  |none=>rfl
  |some d=>
   rw[ha]at q1;simp only[Option.all_some,Af]at q1⊢;exact⟨rfl,q1.2⟩
 ·rcases q3 with⟨q3,q4⟩|⟨k,q3,q4⟩
  ·exact .inl ⟨q3,rfl,fun hm=>Nu (q4 hm),fun hm=>(by cases hm)⟩
  ·exact .inr (.inr ⟨k,q3,rfl,rfl,Lz q4⟩)
theorem Q0{st:St}{d:Option Nat}{v:SV}{i:Nat}(h:d≠some i):(st.set d v).fr i=st.fr i:=by
 cases d with
 |none=>rfl
 |some d=>exact Az _ _ (fun e=>h (by rw[e]))
theorem LR{s t:St}(h1:low s=low t)(h2:∀i,Au≤i→s.ob i=t.ob i):s=t:=by
 obtain⟨f1,o1⟩:=s;obtain⟨f2,o2⟩:=t;simp only[low,St.mk.injEq]at h1;simp only[St.mk.injEq];refine⟨h1.1,funext fun i=> ?_⟩;by_cases hi:Au≤i
 ·exact h2 i hi
 ·have:=congrFun h1.2 i;simp only[BP,if_neg hi]at this;exact this
theorem Vw{a b:SL}(hf:C2 A D a b=true)(hcc:(a.op.calls&&b.op.calls)=false)(la:DW A D a)(lb:DW A D b){st s1 s2:St}(h1:evR E A D a st=some s1)(h2:evR E A D b s1=some s2):∃s,evR E A D b st=some s∧evR E A D a s=some s2:=by
 have hcl:Cl st:=(H6 h1).1
 have g1:(a.dst.all fun d=> !b.looks.contains d&&b.dst !=some d)=true∧(b.dst.all fun d=> !a.looks.contains d)=true:=by
  unfold C2 Fw at hf;rw[Aj]at hf;rcases hf with hf|hf
  ·rw[Af,Af]at hf;exact hf.1
  ·rw[Af,Af]at hf;exact hf.1
 have hab:∀i∈b.looks,a.dst≠some i:=fun i hi e=>by
  have:=g1.1;rw[e]at this;simp[hi]at this
 have hba:∀i∈a.looks,b.dst≠some i:=fun i hi e=>by
  have:=g1.2;rw[e]at this;simp[hi]at this
 cases ha:B4 E.named a st.fr with
 |some q=>
  have hac:=Kn ha;have hbc:b.op.calls=false:=by rw[hac]at hcc;simpa using hcc
  have hbt:∀fr,B4 E.named b fr=none:=fun fr=>by
   cases ht:B4 E.named b fr with
   |none=>rfl
   |some q'=>have:=Kn ht;rw[hbc]at this;cases this
  obtain⟨c,hi,rfl,hform⟩:=Lf ha h1;obtain⟨k1,k2⟩:=J5 lb (hbt _) h2;rw[Ju]at k1;have hset:evT E.named A D (Is a.dst c) (low st)=some ((low st).set a.dst (.c c)):=JY;obtain⟨t,t1,t2⟩:=IZ (Tb hac c hf) (fun hm=>by cases hm) lb.makes hset k1;rw[JY,Ac]at t2;obtain⟨m1,m2⟩:=J6 lb hcl (hbt _) t1;have hcs:Cl (merge t st):=Mc lb (hbt _) m1;refine⟨merge t st,m1, ?_⟩;rw[hform (merge t st) (fun i hi'=>J4 lb t1 (hba i hi')) (fun i hi'=>by show(if Au≤i then st.ob i else t.ob i)=_;rw[if_pos hi']) hcs,Ac];refine LR ?_ fun i hi'=> ?_
  ·rw[Ju,m2,t2]
  ·rw[k2 i hi'];show(if Au≤i then hi i else(merge t st).ob i)=if Au≤i then hi i else st.ob i;rw[if_pos hi',if_pos hi']
 |none=>
  obtain⟨j1,j2⟩:=J5 la ha h1;have hfa:∀i∈b.looks,s1.fr i=st.fr i:=fun i hi=>J4 la j1 (hab i hi)
  cases hb:B4 E.named b s1.fr with
  |none=>
   obtain⟨k1,k2⟩:=J5 lb hb h2;obtain⟨t,t1,t2⟩:=IZ hf la.makes lb.makes j1 k1;have hb':B4 E.named b st.fr=none:=by rw[←Ko hfa];exact hb
   obtain⟨m1,m2⟩:=J6 lb hcl hb' t1;have hcs:Cl (merge t st):=Mc lb hb' m1
   have ha':B4 E.named a (merge t st).fr=none:=by
    rw[Ko (fr':=st.fr) (show ∀i∈a.looks,(merge t st).fr i=st.fr i from fun i hi=>J4 lb t1 (hba i hi))];exact ha
   rw[←m2]at t2;obtain⟨n1,n2⟩:=J6 la hcs ha' t2;refine⟨merge t st,m1, ?_⟩;rw[n1,Ac];refine LR n2 fun i hi=> ?_;rw[k2 i hi,j2 i hi];show(if Au≤i then(if Au≤i then st.ob i else t.ob i)else _)=_;rw[if_pos hi,if_pos hi]
  |some q=>
   have hbc:=Kn hb;obtain⟨c,hi,rfl,hform⟩:=Lf hb h2;have hset:evT E.named A D (Is b.dst c) (low s1)=some ((low s1).set b.dst (.c c)):=JY;obtain⟨t,t1,t2⟩:=IZ (Tc hbc c hf) la.makes (fun hm=>by cases hm) j1 hset;rw[JY,Ac]at t1;subst t1;have m1:=hform st (fun i hi=>(hfa i hi).symm) (fun i hi=>(j2 i hi).symm) hcl;refine⟨_,m1, ?_⟩;have hcs:=NR hcl b.dst c hi
   have ha':B4 E.named a (st.set b.dst (.c c)).fr=none:=by
    rw[Ko (fr':=st.fr) fun i hi=>Q0 (hba i hi)];exact ha
   rw[←Ju b.dst c hi]at t2;obtain⟨n1,n2⟩:=J6 la hcs ha' t2;rw[n1,Ac];refine LR ?_ fun i hi'=> ?_
   ·rw[n2,Ju]
   ·show(if Au≤i then(if Au≤i then hi i else st.ob i)else _)=if Au≤i then hi i else s1.ob i;rw[if_pos hi',if_pos hi',if_pos hi']
end
def Dc(step:SL→St→Option St)(ls:List SL):List Nat→St→Option St
 | [],st=>some st
 |i::is,st=>match ls[i]? with
  |some l=>(step l st).bind (Dc step ls is)
  |none=>none
section
variable {step:SL→St→Option St} {R:SL→SL→Prop} {ops:Array Oper} {ls:List SL}
theorem Pk(hsw:∀a b st s1 s2,R a b→step a st=some s1→step b s1=some s2→∃s,step b st=some s∧step a s=some s2){i:Nat}{b:SL}(hb:ls[i]? =some b)(q:List Nat):∀(p:List Nat) {st st':St},(∀j∈p,∃a,ls[j]? =some a∧R a b)→Dc step ls (p++i::q) st=some st'→Dc step ls (i::(p++q)) st=some st'
 | [],_,_,_,h=>h
 |j::p,st,st',hf,h=>by
  obtain⟨a,ha,hfr⟩:=hf j (by simp);simp only[List.cons_append,Dc,ha,Ab]at h;obtain⟨s1,h1,h2⟩:=h;have h3:=Pk hsw hb q p (fun j hj=>hf j (by simp[hj])) h2;simp only[Dc,hb,Ab]at h3;obtain⟨s2,h3,h4⟩:=h3;obtain⟨s,g1,g2⟩:=hsw a b st s1 s2 hfr h1 h3;simp only[List.cons_append,Dc,hb,ha,g1,g2,Option.bind_some,h4]
theorem Tm(hsw:∀a b st s1 s2,R a b→step a st=some s1→step b s1=some s2→∃s,step b st=some s∧step a s=some s2)(hlen:ls.length=ops.size)
  (hfree:∀j<ls.length,∀i<j,Fi ops ls.length i j=true∨∃x y,ls[i]? =some x∧ls[j]? =some y∧R x y) {L:Array Bool} {is:List Nat} (hg:C0 ops L is):
  (∀i o,L.getD i false=true→ops[i]? =some o→∀e∈o.after,Region.binds .any e=true→L.getD e.on false=true)→L.size=ops.size→∀{st st':St},Dc step ls (left ops.size L) st=some st'→Dc step ls is st=some st':=by
 induction hg with
 |nil h=>
  intro _ _ st st' hv;rw[h]at hv;exact hv
 | @cons L i is hi hL he hg ih=>
  intro hdown hsz st st' hv;obtain⟨p,q,e1,e2,e3⟩:=Jo ops.size L i hi hL;have hb:ls[i]? =some (ls[i]'(by omega)):=Ai _;rw[e1]at hv
  have hv':=Pk hsw hb q p (fun j hj=>by
   obtain⟨hji,hjL⟩:=e3 j hj;rcases hfree i (by omega) j hji with ha|⟨x,y,hx,hy,hf⟩
   ·have:=I5 hdown _ j i he ha;have hjs:j<L.size:=by omega
    simp[Array.getD_eq_getD_getElem?,Array.getElem?_eq_getElem hjs]at this hjL;rw[this]at hjL;cases hjL
   ·rw[hb]at hy;cases hy
    exact⟨x,hx,hf⟩) hv
  simp only[Dc,hb,Ab]at hv'⊢;obtain⟨s,h1,h2⟩:=hv';refine⟨s,h1,ih ?_ (by simp[hsz]) (by rw[e2];exact h2)⟩;intro k o hk ho e hem heb;rw[GE L i _ _ hL]at hk⊢;split
  ·rfl
  ·split at hk
   ·rename_i e';subst e';exact he o ho e hem heb
   ·exact hdown k o hk ho e hem heb
end
def LI(A:List Nat)(l:SL):Bool:=(!l.op.hard||(match l.own A with
 |some k=>Nat.blt k Au
 |none=>false))&&l.dst.all fun j=>Nat.blt j Au
def IL(P:Program)(ops:Array Oper)(A D:List Nat)(ls:List SL):Bool:=
 (ls.any fun l=>l.op.calls)&&(ls.all (LI A))&&C9 P ops A D ls&&
 ((List.range ls.length).all fun j=>match ls[j]? with
   |some y=> !y.op.calls||(List.range j).all fun i=>((Dn ops ls.length).getD j 0).testBit i||match ls[i]? with
    |some x=> !x.op.calls
    |none=>false
   |none=>false)
section
variable {P:Program} {E:Env} {n:Nat} {ops:Array Oper} {A D:List Nat} {ls:List SL}
theorem T8{l:SL}(h:LI A l=true)(hm:l.op.makes=true→∀j,l.dst=some j→D.contains j=true):DW A D l:=by
 simp only[LI,Af,Aj,Bool.not_eq_true']at h;refine⟨fun hh=> ?_,fun j hj=> ?_,hm⟩
 ·rcases h.1 with h1|h1
  ·rw[hh]at h1;cases h1
  ·split at h1
   ·rename_i k hk;exact⟨k,hk,Nat.lt_of_succ_le (Ah h1)⟩
   ·cases h1
 ·have:=h.2;rw[hj]at this;exact Nat.lt_of_succ_le (Ah this)
noncomputable def lsR(E:Env)(A D:List Nat):List SL→St→Option St
 | [],st=>some st
 |l::ls,st=>(evR E A D l st).bind (lsR E A D ls)
theorem VC{l:SL}{st s:St}{a:Nat}(hl:l.own A=some a)(h:CB E D l st=some s)(hf:st.fr a=.undef):False:=by
 obtain⟨n,x,h1,h2⟩:=F5 hl;unfold CB Bg at h;rw[h2]at h;simp only[h1,A2,SOp.cls,AD]at h;rw[show so E.G st.fr (.t a)=.undef from hf]at h;cases h
theorem P7:∀(ls:List SL) (m:List Nat) {st s:St},(∀l∈ls,DW A D l)→(∀a∈m,st.fr a=.ptr a 0∨st.fr a=.undef)→Cl st→GV A m ls=true→E1 E.named D ls st=some s→lsR E A D ls st=some s
 | [],_,_,_,_,_,_,_,h=>h
 |l::ls,m,st,s,hok,hm,hcl,hk,h=>by
  simp only[E1,Ab]at h;obtain⟨s1,h1,h2⟩:=h;simp only[GV,Af]at hk;obtain⟨k1,k2⟩:=hk;have hlo:=hok l (by simp)
  have hos:okS A l st=true:=by
   unfold okS
   cases hl:l.own A with
   |none=>rfl
   |some a=>
    rw[hl]at k1;simp only[List.contains_iff_mem]at k1;rcases hm a k1 with e|e
    ·simp[e]
    ·exact(VC hl h1 e).elim
  have hev:=IT hcl hos h1;simp only[lsR,hev,Option.bind_some]
  have hnext:Cl s1∧(∀i,l.dst≠some i→s1.fr i=st.fr i):=by
   cases ht:B4 E.named l st.fr with
   |none=>
    refine⟨Mc hlo ht hev,fun i hi=> ?_⟩;exact J4 hlo (J5 hlo ht hev).1 hi
   |some q=>
    obtain⟨c,hi,rfl,_⟩:=Lf ht hev;exact⟨NR hcl _ _ _,fun i hd=>Q0 hd⟩
  refine P7 ls _ (fun l hl=>hok l (by simp[hl])) ?_ hnext.1 k2 h2
  have hkeep:∀a∈m,l.dst≠some a→s1.fr a=.ptr a 0∨s1.fr a=.undef:=by
   intro a ha hd;rw[hnext.2 a hd];exact hm a ha
  intro a ha;unfold LZ at ha;split at ha
  ·rename_i z d g1 g2 g3;by_cases had:a=d
   ·subst had;unfold CB Bg at h1;simp only[g2,g1,A2,SOp.cls,AV,Option.bind_some,g3,Option.getD_some,AY]at h1;split at h1
    ·cases h1;exact .inl (AH _ _ _)
    ·cases h1
   ·rcases List.mem_cons.1 ha with e|e
    ·exact(had e).elim
    ·exact hkeep a e (fun hh=>had (by rw[g3]at hh;cases hh;rfl))
  ·rename_i d g2 g1;rw[List.mem_filter]at ha;exact hkeep a ha.1 (fun hh=>by rw[g2]at hh;cases hh;simp at ha)
  ·rename_i g1;exact hkeep a ha (fun hh=>by rw[g1]at hh;cases hh)
theorem OY:∀(ls:List SL) (pre:List SL) (st:St),Dc (evR E A D) (pre++ls) (List.range' pre.length ls.length) st=lsR E A D ls st
 | [],_,_=>rfl
 |l::ls,pre,st=>by
  have h:=OY ls (pre++ [l]);simp only[List.length_append,List.length_cons,List.length_nil,List.append_assoc,List.cons_append,List.nil_append]at h;simp only[List.length_cons,List.range'_succ,Dc,lsR];rw[show(pre++l::ls)[pre.length]? =some l by simp];simp only
  congr 1
  funext s;exact h s
theorem Sp(hc:Ar (CM P n ops) ops.toList=some ls)(hd:IL P ops A D ls=true){st st':St}(hcl:Cl st)(hv:E1 E.named D ls st=some st')(t:Nat):
  Dc (evR E A D) ls (Region.schedule (P.follows .mixedOrders) ops t) st=some st':=by
 have hlen:ls.length=ops.size:=by rw[Dv hc];simp
 simp only[IL,Af]at hd;obtain⟨⟨⟨_,hlb⟩,hdo⟩,hcb⟩:=hd;simp only[C9,Af]at hdo;obtain⟨⟨⟨⟨hm,hown⟩,hback⟩,hmk⟩,hfr⟩:=hdo
 have hmk':∀l∈ls,l.op.makes=true→∀j,l.dst=some j→D.contains j=true:=by
  intro l hl hmake j hj;rw[List.all_eq_true]at hmk;have:=hmk l hl;simpa[hmake,hj]using this
 have hok:∀l∈ls,DW A D l:=fun l hl=>by
  rw[List.all_eq_true]at hlb;exact T8 (hlb l hl) (hmk' l hl)
 have hv:=P7 ls [] hok (by simp) hcl hown hv;simp only[Region.schedule,hm,Bool.true_or,if_true,Region.linearise]
 have hleft:left ops.size (Array.replicate ops.size false)=List.range ops.size:=by
  simp only[left];rw[List.filter_eq_self];intro i hi;have:=List.mem_range.1 hi;simp[Array.getD_eq_getD_getElem?,this]
 have hback':∀i o,ops[i]? =some o→∀e∈o.after,Region.binds .any e=true→e.on<i:=by
  intro i o ho e he hb;rw[List.all_eq_true]at hback
  have hmem:(o,i)∈ops.toList.zipIdx:=by
   rw[List.mem_zipIdx_iff_getElem?];simpa using ho
  have:=hback _ hmem;rw[Array.all_eq_true']at this;have:=this e he;simpa[hb]using this
 refine Tm (R:=fun a b=>C2 A D a b=true∧(a.op.calls&&b.op.calls)=false∧DW A D a∧DW A D b) (fun a b st s1 s2 hR h1 h2=>Vw hR.1 hR.2.1 hR.2.2.1 hR.2.2.2 h1 h2) hlen ?_ (HQ hback' ops.size t _ (by simp) (by rw[hleft];simp)) ?_ (by simp) ?_
 ·intro j hj i hij;rw[List.all_eq_true]at hfr hcb;have h1:=hfr j (List.mem_range.2 hj);rw[List.all_eq_true]at h1;have h1:=h1 i (List.mem_range.2 hij);rw[Aj]at h1;rcases h1 with h|h
  ·rw[F1 ops hj]at h;exact .inl (GQ ops hj h)
  ·have hcj:=hcb j (List.mem_range.2 hj);split at h
   ·rename_i x y hx hy;rw[hy]at hcj;simp only[Aj,Bool.not_eq_true',List.all_eq_true]at hcj;have hx':=List.mem_of_getElem? hx;have hy':=List.mem_of_getElem? hy;rcases hcj with hcj|hcj
    ·exact .inr ⟨x,y,hx,hy,h,by rw[hcj,Bool.and_false],hok x hx',hok y hy'⟩
    ·rcases hcj i (List.mem_range.2 hij)with h2|h2
     ·rw[F1 ops hj]at h2;exact .inl (GQ ops hj h2)
     ·rw[hx]at h2;simp only[Bool.not_eq_true']at h2;exact .inr ⟨x,y,hx,hy,h,by rw[h2,Bool.false_and],hok x hx',hok y hy'⟩
   ·cases h
 ·intro i o hi;exfalso;rw[Array.getD_eq_getD_getElem?,Array.getElem?_replicate]at hi;split at hi<;>cases hi
 ·rw[hleft,List.range_eq_range',←hlen];have:=OY (E:=E) (A:=A) (D:=D) ls [] st;simp only[List.nil_append,List.length_nil]at this;rw[this];exact hv
variable {w0:WL} {M0:MM}
theorem Qv(hE:EOk P E)(hc:Ar (CM P n ops) ops.toList=some ls){Q:Exit→Act→World→Prop}:∀{is:List Nat} {st st':St} {a:Act} {w:World} {z:Cz},SR P E.G w0 M0 n st a w z→
  Dc (evR E A D) ls is st=some st'→(∀a' w' z',SR P E.G w0 M0 n st' a' w' z'→Q .normal a' w')→wpOps P ops Q is a w
 | [],st,st',a,w,z,h,hv,hK=>by
  simp only[Dc,Ac]at hv;subst hv;exact hK _ _ _ h
 |i::is,st,st',a,w,z,h,hv,hK=>by
  simp only[Dc]at hv;split at hv<;>(try cases hv;done);rename_i l hl;simp only[Ab]at hv;obtain⟨st1,h1,h2⟩:=hv;have hlen:=Dv hc;have hi:i<ops.toList.length:=by rw[←hlen];exact(Ae.1 hl).1
  have ho:ops.toList[i]? =some (ops.toList[i]):=Ai hi;obtain⟨l',g1,g2⟩:=Hq hc ho;rw[hl]at g1;simp only[Ac]at g1;subst g1;have ho':ops[i]? =some (ops.toList[i]):=by rw[←Array.getElem?_toList];exact ho
  obtain⟨hcl,_,h1⟩:=H6 h1;refine Oh (E:=E.named) hE.named h (rd:=A9 (some (hid l.op D)) (BP st.ob)) (fun id=> ?_) ho' g2 h1 fun a' w' z' hS=>Qv hE hc hS h2 hK;simp only[A9,BP];split
  ·exact .inl rfl
  ·split
   ·exact .inl rfl
   ·exact .inr rfl
end
def pos(π:List Nat)(i:Nat):Nat:=π.idxOf i
def GZ(π:List Nat)(o:Oper):Oper:={o with after:=o.after.map fun e=>{e with on:=pos π e.on}}
def F7(π:List Nat)(ops:Array Oper):Array Oper:=(π.filterMap fun i=>(ops[i]?).map (GZ π)).toArray
def permL(π:List Nat)(ls:List SL):List SL:=π.filterMap fun i=>ls[i]?
def F6(π:List Nat)(L:Array Bool):Array Bool:=(π.map fun j=>L.getD j true).toArray
def CD(n:Nat)(π:List Nat):Bool:=π.length==n&&((List.range n).all fun k=>π.contains k&&Nat.blt (π.getD k n) n&&pos π (π.getD k n)==k)
theorem Lm{α β:Type}{f:α→Option β}:∀{l:List α},(∀x∈l,(f x).isSome=true)→∀k:Nat,(l.filterMap f)[k]? =(l[k]?).bind f
 | [],_,k=>by simp
 |x::l,h,k=>by
  obtain⟨y,hy⟩:=Option.isSome_iff_exists.1 (h x (by simp));rw[List.filterMap_cons_some hy]
  cases k with
  |zero=>simp[hy]
  |succ k=>simpa using Lm (fun z hz=>h z (by simp[hz])) k
section
variable {n:Nat} {π:List Nat}
theorem Gl(hp:CD n π=true):π.length=n:=by
 simp only[CD,Af,beq_iff_eq]at hp;exact hp.1
theorem JI(hp:CD n π=true){k:Nat}(hk:k<n):∃j,π[k]? =some j∧j<n∧pos π j=k:=by
 have hlen:=Gl hp;simp only[CD,Af,List.all_eq_true,List.mem_range]at hp;have h:=hp.2 k hk;have e:π[k]? =some (π[k]'(by omega)):=Ai _;simp only[List.getD_eq_getElem?_getD,e,Option.getD_some,beq_iff_eq]at h;exact⟨_,e,by simpa using h.1.2,h.2⟩
theorem U7(hp:CD n π=true){i:Nat}(hi:i<n):i∈π:=by
 simp only[CD,Af,List.all_eq_true,List.mem_range]at hp;simpa using(hp.2 i hi).1.1
theorem Ih(hp:CD n π=true){i:Nat}(hi:i<n):pos π i<n∧π[pos π i]? =some i:=by
 have h:=U7 hp hi;have h1:π.idxOf i<π.length:=List.idxOf_lt_length_iff.2 h;refine⟨by rw[←Gl hp];exact h1, ?_⟩;unfold pos;rw[Ai h1,List.getElem_idxOf]
theorem JJ(hp:CD n π=true){j:Nat}(h:j∈π):j<n:=by
 obtain⟨k,hk⟩:=List.getElem?_of_mem h;have hkn:k<n:=by rw[←Gl hp];exact(Ae.1 hk).1
 obtain⟨j',h1,h2,_⟩:=JI hp hkn;rw[hk]at h1;cases h1;exact h2
theorem Mp(hp:CD n π=true){L:Array Bool}{i:Nat}(hi:i<n)(b:Bool)(hL:L.size=n):(F6 π L).getD (pos π i) b=L.getD i b:=by
 obtain⟨h1,h2⟩:=Ih hp hi;simp[F6,Array.getD_eq_getD_getElem?,h2,Array.getElem?_eq_getElem (show i<L.size by omega)]
theorem U3(hp:CD n π=true){L:Array Bool}{i:Nat}(hi:i<n)(hL:L.getD i true=false):F6 π (L.setIfInBounds i true)=(F6 π L).setIfInBounds (pos π i) true:=by
 obtain⟨h1,h2⟩:=Ih hp hi;have hlen:=Gl hp;apply Array.ext_getElem?;intro k;simp only[F6,List.getElem?_toArray,List.getElem?_map,Array.getElem?_setIfInBounds,List.size_toArray,List.length_map];by_cases hk:k<n
 ·obtain⟨j,g1,g2,g3⟩:=JI hp hk;simp only[g1,Option.map_some,GE L i j true hL];by_cases hj:j=i
  ·subst hj;simp[g3,hlen,hk]
  ·have:¬pos π i=k:=fun e=>hj (by rw[e,g1]at h2;exact Option.some.inj h2);simp[hj,this]
 ·have e:π[k]? =none:=List.getElem?_eq_none (by omega);have:¬pos π i=k:=by omega
  simp[e,this]
end
theorem U6{π:List Nat}{ops:Array Oper}(hp:CD ops.size π=true){i:Nat}(hi:i<ops.size):(F7 π ops)[pos π i]? =(ops[i]?).map (GZ π):=by
 obtain⟨h1,h2⟩:=Ih hp hi;simp only[F7,List.getElem?_toArray];rw[Lm (fun x hx=> ?_),h2]
 ·rfl
 ·have:=JJ hp hx;simp[Array.getElem?_eq_getElem this]
theorem JH{π:List Nat}{ops:Array Oper}(hp:CD ops.size π=true):(F7 π ops).size=ops.size:=by
 have h:(π.filterMap fun i=>(ops[i]?).map (GZ π)).length=π.length:=by
  have:∀(l:List Nat),(∀x∈l,x<ops.size)→(l.filterMap fun i=>(ops[i]?).map (GZ π)).length=l.length:=by
   intro l
   induction l with
   |nil=>intro _;rfl
   |cons x l ih=>
    intro h;rw[List.filterMap_cons_some (b:=GZ π (ops[x]'(h x (by simp)))) (by simp[Array.getElem?_eq_getElem (h x (by simp))])];simp[ih fun y hy=>h y (by simp[hy])]
  exact this π fun x hx=>JJ hp hx
 simp only[F7,List.size_toArray,h,Gl hp]
theorem Tl{π:List Nat}{ops:Array Oper}(hp:CD ops.size π=true){L:Array Bool}{is:List Nat}(hg:C0 ops L is):L.size=ops.size→C0 (F7 π ops) (F6 π L) (is.map (pos π)):=by
 induction hg with
 | @nil L h=>
  intro hs;refine .nil ?_;simp only[left]at h⊢;rw[List.filter_eq_nil_iff]at h⊢;intro k hk;rw[List.mem_range,JH hp]at hk;obtain⟨j,g1,g2,g3⟩:=JI hp hk;have:=h j (List.mem_range.2 g2);rw[←g3,Mp hp g2 _ hs];exact this
 | @cons L i is hi hL he hg ih=>
  intro hs;have hq:=Ih hp hi;refine .cons (by rw[JH hp];exact hq.1) (by rw[Mp hp hi _ hs];exact hL) ?_ ?_
  ·intro o' ho' e' he' hb;rw[U6 hp hi]at ho';obtain⟨o,ho,rfl⟩:=Aa.1 ho';simp only[GZ,Array.mem_map]at he';obtain⟨e,hem,rfl⟩:=he';have h1:=he o ho e hem hb
   have h2:e.on<ops.size:=by
    rw[←hs];rw[Array.getD_eq_getD_getElem?]at h1;by_cases hh:e.on<L.size
    ·exact hh
    ·simp[Array.getElem?_eq_none (Nat.le_of_not_lt hh)]at h1
   rw[Mp hp h2 _ hs];exact h1
  ·rw[←U3 hp hi hL];exact ih (by simp[hs])
section
variable {P:Program} {E:Env} {ops:Array Oper} {A D:List Nat} {ls:List SL}
theorem R0(h:(ops.toList.zipIdx.all fun p=>p.1.after.all fun e=> !(Region.binds .any e)||decide (e.on<p.2))=true):∀i o,ops[i]? =some o→∀e∈o.after,Region.binds .any e=true→e.on<i:=by
 intro i o ho e he hb;rw[List.all_eq_true]at h
 have hmem:(o,i)∈ops.toList.zipIdx:=by
  rw[List.mem_zipIdx_iff_getElem?];simpa using ho
 have:=h _ hmem;rw[Array.all_eq_true']at this;have:=this e he;simpa[hb]using this
theorem LG(n:Nat):left n (Array.replicate n false)=List.range n:=by
 simp only[left];rw[List.filter_eq_self];intro i hi;have:=List.mem_range.1 hi;simp[Array.getD_eq_getD_getElem?,this]
theorem NQ(hlen:ls.length=ops.size)(hd:C9 P ops A D ls=true){st st':St}(hv:B7 E (some D) ls st=some st'){is:List Nat}(hg:C0 ops (Array.replicate ops.size false) is):
  Ca E (some D) ls is st=some st':=by
 simp only[C9,Af]at hd;obtain⟨⟨⟨⟨hm,hown⟩,hback⟩,hmk⟩,hfr⟩:=hd;have hv:=Mk ls [] (by simp) hown hv;refine JX (A:=A) _ ?_;refine Ly hlen ?_ hg ?_ (by simp) ?_ ?_
 ·intro j hj i hij;rw[List.all_eq_true]at hfr;have:=hfr j (List.mem_range.2 hj);rw[List.all_eq_true]at this;have:=this i (List.mem_range.2 hij);rw[Aj]at this;rcases this with h|h
  ·rw[F1 ops hj]at h;exact .inl (GQ ops hj h)
  ·refine .inr ?_;split at h
   ·rename_i x y hx hy;exact⟨x,y,hx,hy,h⟩
   ·cases h
 ·intro i o hi;exfalso;rw[Array.getD_eq_getD_getElem?,Array.getElem?_replicate]at hi;split at hi<;>cases hi
 ·intro k _ l hl hmake j hj;rw[List.all_eq_true]at hmk;have:=hmk l (List.mem_of_getElem? hl);simpa[hmake,hj]using this
 ·rw[LG,List.range_eq_range',←hlen];have:=Jv (E:=E) (A:=A) (D:=D) ls [] st;simp only[List.nil_append,List.length_nil]at this;rw[this];exact hv
def LB(ops:Array Oper)(ls:List SL):Nat→List Nat→List Nat
 |0,π=>π.reverse
 |k+1,π=>
  let ready:=(List.range ls.length).filter fun i=> !π.contains i&&((ops[i]?).map fun o=>o.after.all fun e=> !(Region.binds .any e)||π.contains e.on).getD false
  match ready.find? fun i=>(ls[i]?).all fun l=>match l.op with| .load .. =>false|_=>true with
  |some i=>LB ops ls k (i::π)
  |none=>match ready with
   |i::_=>LB ops ls k (i::π)
   | []=>π.reverse
def HJ(ops:Array Oper)(ls:List SL):List Nat:=LB ops ls ls.length []
def Rz(ops:Array Oper):Bool:=ops.toList.zipIdx.all fun p=>p.1.after.all fun e=> !(Region.binds .any e)||decide (e.on<p.2)
def Ld(P:Program)(ops:Array Oper)(π A D:List Nat)(ls:List SL):Bool:=CD ops.size π&&Rz ops&&C9 P (F7 π ops) A D (permL π ls)
theorem O7{L:Array Bool}{is:List Nat}(hg:C0 ops L is):∀i∈is,i<ops.size:=by
 induction hg with
 |nil h=>intro i hi;cases hi
 |cons hi _ _ _ ih=>
  intro j hj;rcases List.mem_cons.1 hj with rfl|hj
  ·exact hi
  ·exact ih j hj
theorem U4{π:List Nat}(hlen:ls.length=ops.size)(hp:CD ops.size π=true){i:Nat}(hi:i<ops.size):(permL π ls)[pos π i]? =ls[i]? :=by
 obtain⟨h1,h2⟩:=Ih hp hi;unfold permL;rw[Lm (fun x hx=> ?_),h2]
 ·rfl
 ·have:=JJ hp hx;simp[Ai (show x<ls.length by omega)]
theorem U5{π:List Nat}(hlen:ls.length=ops.size)(hp:CD ops.size π=true):(permL π ls).length=ops.size:=by
 have:∀(l:List Nat),(∀x∈l,x<ls.length)→(l.filterMap fun i=>ls[i]?).length=l.length:=by
  intro l
  induction l with
  |nil=>intro _;rfl
  |cons x l ih=>
   intro h;rw[List.filterMap_cons_some (Ai (h x (by simp)))];simp[ih fun y hy=>h y (by simp[hy])]
 rw[←Gl hp];exact this π fun x hx=>by rw[hlen];exact JJ hp hx
theorem Qw{π:List Nat}(hlen:ls.length=ops.size)(hp:CD ops.size π=true):∀(is:List Nat) (st:St),(∀i∈is,i<ops.size)→Ca E (some D) (permL π ls) (is.map (pos π)) st=Ca E (some D) ls is st
 | [],_,_=>rfl
 |i::is,st,h=>by
  simp only[List.map_cons,Ca,U4 hlen hp (h i (by simp))];split
  ·congr 1
   funext s;exact Qw hlen hp is s fun j hj=>h j (by simp[hj])
  ·rfl
theorem Sq{n:Nat}(hc:Ar (CM P n ops) ops.toList=some ls){π:List Nat}(hd:Ld P ops π A D ls=true){st st':St}(hv:B7 E (some D) (permL π ls) st=some st')(t:Nat):
  Ca E (some D) ls (Region.schedule (P.follows .mixedOrders) ops t) st=some st':=by
 have hlen:ls.length=ops.size:=by rw[Dv hc];simp
 simp only[Ld,Af]at hd;obtain⟨⟨hp,hb⟩,hd⟩:=hd
 have hm:P.follows .mixedOrders=true:=by
  have h:=hd;simp only[C9,Af]at h;exact h.1.1.1.1
 simp only[Region.schedule,hm,Bool.true_or,if_true,Region.linearise];have hg:=HQ (R0 hb) ops.size t (Array.replicate ops.size false) (by simp) (by rw[LG];simp);have hg':=Tl hp hg (by simp)
 have hA:F6 π (Array.replicate ops.size false)=Array.replicate (F7 π ops).size false:=by
  rw[JH hp];apply Array.ext_getElem?;intro k;simp only[F6,List.getElem?_toArray,List.getElem?_map,Array.getElem?_replicate];by_cases hk:k<ops.size
  ·obtain⟨j,g1,g2,_⟩:=JI hp hk;simp[g1,hk,Array.getD_eq_getD_getElem?,g2]
  ·have e:π[k]? =none:=List.getElem?_eq_none (by rw[Gl hp];omega);simp[e,hk]
 rw[hA]at hg';have h:=NQ (E:=E) (by rw[U5 hlen hp,JH hp]) hd hv hg';rw[Qw hlen hp _ _ (O7 hg)]at h;exact h
end
def KY(P:Program)(ops:Array Oper)(A D:List Nat)(ls:List SL)(c:Nat):Bool:=
 C9 P ops A D ls&&C9 P (ops.extract 0 c) A D (ls.take c)&&Nat.blt c ops.size&&
 (List.range ls.length).all fun j=>Nat.blt j c||(List.range c).all fun i=>((Dn ops ls.length).getD j 0).testBit i
def Si(ls:List SL):Option Nat:=
 match ls.findIdx? fun l=>l.op.calls with
 |some c=>if(ls.take c).any fun l=>match l.op with| .mkmap .. =>true|_=>false then some c else none
 |none=>none
def DZ(c n:Nat):Array Bool:=Array.replicate c true++Array.replicate (n-c) false
theorem Lq{c n:Nat}(h:c≤n):(DZ c n).size=n:=by simp[DZ];omega
theorem HA{c n j:Nat}{b:Bool}(hj:j<n)(hc:c≤n):(DZ c n).getD j b=decide (j<c):=by
 unfold DZ;rw[Array.getD_eq_getD_getElem?];by_cases h:j<c
 ·rw[Array.getElem?_append_left (by simpa using h)];simp[h]
 ·rw[Array.getElem?_append_right (by simpa using Nat.le_of_not_lt h)];rw[Array.getElem?_replicate,if_pos (by rw[Array.size_replicate];omega),Ak h];rfl
section
variable {P:Program} {E:Env} {n:Nat} {ops:Array Oper} {A D:List Nat} {ls:List SL}
theorem FT{α:Type}{L:Array α}{c j:Nat}(hj:j<c):(L.extract 0 c)[j]? =L[j]? :=by
 rw[Array.getElem?_extract];split
 ·simp
 ·rename_i h;rw[Array.getElem?_eq_none (by omega)]
theorem Tk{c N:Nat}(hc:c<ops.size)(hback:∀i o,ops[i]? =some o→∀e∈o.after,Region.binds .any e=true→e.on<i)(hanc:∀j,c≤j→j<ops.size→∀i<c,Fi ops N i j=true){L:Array Bool}{is:List Nat}(hg:C0 ops L is):
  L.size=ops.size→(∀j,c≤j→j<ops.size→L.getD j true=false)→(∀i o,L.getD i false=true→ops[i]? =some o→∀e∈o.after,Region.binds .any e=true→L.getD e.on false=true)→
  ∃is1 is2,is=is1++is2∧C0 (ops.extract 0 c) (L.extract 0 c) is1∧C0 ops (DZ c ops.size) is2:=by
 induction hg with
 | @nil L' h=>
  intro hsz hlo _;exfalso
  have:c∈left ops.size L':=by
   unfold left;rw[List.mem_filter,List.mem_range];exact⟨hc,by rw[hlo c (Nat.le_refl _) hc];rfl⟩
  rw[h]at this;cases this
 | @cons L i is hi hL he hg ih=>
  intro hsz hlo hdown;have hsz1:(ops.extract 0 c).size=c:=by simp;omega
  by_cases hic:i<c
  ·obtain⟨is1,is2,e1,e2,e3⟩:=ih (by simp[hsz]) (fun j hj hjn=>by
    rw[GE L i j true hL,if_neg (by omega)]
    exact hlo j hj hjn) (fun k o hk ho e hee hb=>by
    rw[GE L i _ _ hL]at hk⊢;split
    ·rfl
    ·by_cases hki:k=i
     ·subst hki;exact he o ho e hee hb
     ·rw[if_neg hki]at hk
      exact hdown k o hk ho e hee hb)
   refine⟨i::is1,is2,by rw[e1];rfl,.cons (by rw[hsz1];exact hic) ?_ ?_ ?_,e3⟩
   ·rw[Array.getD_eq_getD_getElem?,FT hic,←Array.getD_eq_getD_getElem?];exact hL
   ·intro o ho e hee hb;rw[FT hic]at ho;have h1:=he o ho e hee hb;have h2:=hback i o ho e hee hb;rw[Array.getD_eq_getD_getElem?,FT (by omega),←Array.getD_eq_getD_getElem?];exact h1
   ·have hx:(L.extract 0 c).setIfInBounds i true=(L.setIfInBounds i true).extract 0 c:=by
     apply Array.ext_getElem?;intro j;by_cases hj:j<c
     ·rw[FT hj,Array.getElem?_setIfInBounds,Array.getElem?_setIfInBounds,FT hj];have:i<L.size:=by omega
      have h2:i<(L.extract 0 c).size:=by simp;omega
      by_cases hji:i=j
      ·rw[if_pos hji,if_pos hji,if_pos h2,if_pos this]
      ·rw[if_neg hji,if_neg hji]
     ·rw[Array.getElem?_eq_none (by simp;omega),Array.getElem?_eq_none (by simp;omega)]
    rw[hx];exact e2
  ·have hall:∀k,k<c→L.getD k false=true:=fun k hk=>I5 hdown N k i he (hanc i (Nat.le_of_not_lt hic) hi k hk)
   have hlt:∀k,k<c→L.getD k true=true:=fun k hk=>by
    have h1:=hall k hk;rw[Array.getD_eq_getD_getElem?]at h1⊢;rw[Array.getElem?_eq_getElem (by omega)]at h1⊢;simpa using h1
   have hLe:L=DZ c ops.size:=by
    apply Array.ext_getElem?;intro j;by_cases hj:j<ops.size
    ·have h1:(DZ c ops.size).getD j true=decide (j<c):=HA hj (Nat.le_of_lt hc)
     have h2:L.getD j true=decide (j<c):=by
      by_cases hjc:j<c
      ·rw[hlt j hjc,Al hjc]
      ·rw[hlo j (Nat.le_of_not_lt hjc) hj,Ak hjc]
     rw[Array.getD_eq_getD_getElem?]at h1 h2;have s1:=Lq (Nat.le_of_lt hc);rw[Array.getElem?_eq_getElem (by omega)]at h1 h2⊢;rw[Array.getElem?_eq_getElem (by omega)];simp at h1 h2;rw[h1,h2]
    ·have s1:=Lq (Nat.le_of_lt hc);rw[Array.getElem?_eq_none (by omega),Array.getElem?_eq_none (by omega)]
   refine⟨[],i::is,rfl,.nil ?_, ?_⟩
   ·rw[hsz1];unfold left;rw[List.filter_eq_nil_iff];intro k hk;have hk':=List.mem_range.1 hk;rw[Array.getD_eq_getD_getElem?,FT hk',←Array.getD_eq_getD_getElem?,hlt k hk'];decide
   ·rw[←hLe];exact .cons hi hL he hg
theorem Oo{D:Option (List Nat)}{c:Nat}:∀(is:List Nat) (st:St),(∀i∈is,i<c)→Ca E D (ls.take c) is st=Ca E D ls is st
 | [],_,_=>rfl
 |i::is,st,h=>by
  simp only[Ca];rw[List.getElem?_take,if_pos (h i (by simp))]
  cases ls[i]? with
  |none=>rfl
  |some l=>
   simp only
   congr 1
   funext s;exact Oo is s fun j hj=>h j (by simp[hj])
theorem Vc(hlen:ls.length=ops.size){c:Nat}(hcn:c≤ops.size)(hd:C9 P ops A D ls=true){st st':St}(hm:∀l∈ls.drop c,l.own A=none)(hv:B7 E (some D) (ls.drop c) st=some st'){is:List Nat}(hg:C0 ops (DZ c ops.size) is):
  Ca E (some D) ls is st=some st':=by
 simp only[C9,Af]at hd;obtain⟨⟨⟨⟨_,hown⟩,hback⟩,hmk⟩,hfr⟩:=hd
 have hb':∀i o,ops[i]? =some o→∀e∈o.after,Region.binds .any e=true→e.on<i:=by
  intro i o ho e he hb;rw[List.all_eq_true]at hback
  have hmem:(o,i)∈ops.toList.zipIdx:=by
   rw[List.mem_zipIdx_iff_getElem?];simpa using ho
  have:=hback _ hmem;rw[Array.all_eq_true']at this;have:=this e he;simpa[hb]using this
 have hlst:∀(ls':List SL) {s s':St},(∀l∈ls',l.own A=none)→B7 E (some D) ls' s=some s'→lsT E A D ls' s=some s':=by
  intro ls'
  induction ls' with
  |nil=>intro s s' _ h;exact h
  |cons l ls' ih=>
   intro s s' hn h;simp only[B7,Ab]at h;obtain⟨s1,h1,h2⟩:=h;have hok:okS A l s=true:=by unfold okS;rw[hn l (by simp)]
   simp only[lsT,Ez hok h1,Option.bind_some];exact ih (fun x hx=>hn x (by simp[hx])) h2
 have hv:=hlst _ hm hv;refine JX (A:=A) _ ?_;refine Ly hlen ?_ hg ?_ (Lq hcn) ?_ ?_
 ·intro j hj i hij;rw[List.all_eq_true]at hfr;have:=hfr j (List.mem_range.2 hj);rw[List.all_eq_true]at this;have:=this i (List.mem_range.2 hij);rw[Aj]at this;rcases this with h|h
  ·rw[F1 ops hj]at h;exact .inl (GQ ops hj h)
  ·refine .inr ?_;split at h
   ·rename_i x y hx hy;exact⟨x,y,hx,hy,h⟩
   ·cases h
 ·intro i o hi ho e he hb;have hin:i<ops.size:=(Array.getElem?_eq_some_iff.1 ho).1;rw[HA hin hcn]at hi;have h1:=hb' i o ho e he hb;have h2:i<c:=by simpa using hi
  rw[HA (by omega) hcn];simp;omega
 ·intro k _ l hl hmake j hj;rw[List.all_eq_true]at hmk;have:=hmk l (List.mem_of_getElem? hl);simpa[hmake,hj]using this
 ·have hleft:left ops.size (DZ c ops.size)=List.range' c (ops.size-c):=by
   unfold left;rw[List.range_eq_range',show ops.size=c+(ops.size-c) by omega,←List.range'_append_1,List.filter_append]
   have e1:((List.range' 0 c).filter fun i=> !(DZ c (c+(ops.size-c))).getD i true)= []:=by
    rw[List.filter_eq_nil_iff];intro i hi;have:=(List.mem_range'_1.1 hi).2;rw[HA (by omega) (by omega),Al (by omega)];decide
   have e2:((List.range' (0+c) (ops.size-c)).filter fun i=> !(DZ c (c+(ops.size-c))).getD i true)=List.range' (0+c) (ops.size-c):=by
    rw[List.filter_eq_self];intro i hi;have:=(List.mem_range'_1.1 hi);rw[HA (by omega) (by omega),Ak (by omega)];rfl
   rw[e1,e2];simp
  rw[hleft];have h1:=Jv (E:=E) (A:=A) (D:=D) (ls.drop c) (ls.take c) st;rw[List.take_append_drop,List.length_take,List.length_drop,Nat.min_eq_left (by omega),hlen]at h1;rw[h1];exact hv
variable {w0:WL} {M0:MM}
theorem Oq(hE:EOk P E){D:Option (List Nat)}(hc:Ar (CM P n ops) ops.toList=some ls){Q:Exit→Act→World→Prop}{js:List Nat}:∀{is:List Nat} {st st':St} {a:Act} {w:World} {z:Cz},SR P E.G w0 M0 n st a w z→
  Ca E D ls is st=some st'→(∀a' w' z',SR P E.G w0 M0 n st' a' w' z'→wpOps P ops Q js a' w')→wpOps P ops Q (is++js) a w
 | [],st,st',a,w,z,h,hv,hK=>by
  simp only[Ca,Ac]at hv;subst hv;exact hK _ _ _ h
 |i::is,st,st',a,w,z,h,hv,hK=>by
  simp only[Ca]at hv;split at hv<;>(try cases hv;done);rename_i l hl;simp only[Ab]at hv;obtain⟨st1,h1,h2⟩:=hv;have hlen:=Dv hc;have hi:i<ops.toList.length:=by rw[←hlen];exact(Ae.1 hl).1
  have ho:ops.toList[i]? =some (ops.toList[i]):=Ai hi;obtain⟨l',g1,g2⟩:=Hq hc ho;rw[hl]at g1;simp only[Ac]at g1;subst g1;have ho':ops[i]? =some (ops.toList[i]):=by rw[←Array.getElem?_toList];exact ho
  exact IU hE h ho' g2 h1 fun a' w' z' hS=>Oq hE hc hS h2 hK
theorem NK(hE:EOk P E){id c:Nat}(hls:Ar (CM P n ops) ops.toList=some ls)(hd:KY P ops A D ls c=true)(hm:(ls.drop c).all (fun l=>(l.own A).isNone)=true){Q:Exit→Act→World→Prop}{st st1:St}{a:Act}{w:World}{z:Cz}(h:SR P E.G w0 M0 n st a w z)(h1:B7 E (some D) (ls.take c) st=some st1)
  (K:∀a' w' z',SR P E.G w0 M0 n st1 a' w' z'→∃st2 z2 st3,SR P E.G w0 M0 n st2 a' w' z2∧B7 E (some D) (ls.drop c) st2=some st3∧∀a'' w'' z'',SR P E.G w0 M0 n st3 a'' w'' z''→Q .normal a'' w''):(Code.region id ops true).wp P Q a w:=by
 simp only[KY,Af]at hd;obtain⟨⟨⟨hd1,hd2⟩,hcn⟩,hanc⟩:=hd;have hcn':c<ops.size:=Ah hcn;have hlen:ls.length=ops.size:=by rw[Dv hls];simp
 have hd1':=hd1;simp only[C9,Af]at hd1';obtain⟨⟨⟨⟨hmx,_⟩,hback⟩,_⟩,_⟩:=hd1'
 have hb':∀i o,ops[i]? =some o→∀e∈o.after,Region.binds .any e=true→e.on<i:=by
  intro i o ho e he hb;rw[List.all_eq_true]at hback
  have hmem:(o,i)∈ops.toList.zipIdx:=by
   rw[List.mem_zipIdx_iff_getElem?];simpa using ho
  have:=hback _ hmem;rw[Array.all_eq_true']at this;have:=this e he;simpa[hb]using this
 refine wp_region_draw fun t=> ?_
 have hg0:C0 ops (Array.replicate ops.size false) (Region.schedule (P.follows .mixedOrders) ops t):=by
  simp only[Region.schedule,hmx,Bool.true_or,if_true,Region.linearise];exact HQ hb' ops.size t _ (by simp) (by rw[LG];simp)
 obtain⟨is1,is2,e1,g1,g2⟩:=Tk (N:=ls.length) hcn' hb' (fun j hj hjn i hi=>by
  rw[List.all_eq_true]at hanc;have:=hanc j (List.mem_range.2 (by omega));rw[Aj]at this;rcases this with h|h
  ·have:j<c:=Ah h;omega
  ·rw[List.all_eq_true]at h;have:=h i (List.mem_range.2 hi);rw[F1 ops (show j<ls.length by omega)]at this
   exact GQ ops (by omega) this) hg0 (by simp) (fun j _ hjn=>by simp[Array.getD_eq_getD_getElem?,hjn]) (fun i o hi=>by
  exfalso;rw[Array.getD_eq_getD_getElem?,Array.getElem?_replicate]at hi
  split at hi<;>cases hi)
 rw[e1]
 have hx:(Array.replicate ops.size false).extract 0 c=Array.replicate (ops.extract 0 c).size false:=by
  apply Array.ext_getElem?;intro j;simp only[Array.getElem?_replicate,Array.size_extract];by_cases hj:j<c
  ·rw[FT hj,Array.getElem?_replicate,if_pos (by omega),if_pos (by omega)]
  ·rw[Array.getElem?_eq_none (by simp;omega),if_neg (by omega)]
 rw[hx]at g1;have hlt1:=O7 g1
 have hs1:Ca E (some D) ls is1 st=some st1:=by
  rw[←Oo (c:=c) is1 st (fun i hi=>by have:=hlt1 i hi;simp at this;omega)];exact NQ (by simp[hlen]) hd2 h1 g1
 have hgr:SR P E.G w0 M0 n st a {w with drawn:=w.drawn+1} z:=h.grow ⟨rfl,rfl,rfl,Nat.le_refl _,fun _ _=>rfl⟩;refine Oq hE hls hgr hs1 fun a' w' z' hS=> ?_;obtain⟨st2,z2,st3,k1,k2,k3⟩:=K a' w' z' hS
 have hs2:=Vc hlen (Nat.le_of_lt hcn') hd1 (fun l hl=>by
  have:=List.all_eq_true.1 hm l hl
  simpa using this) k2 g2
 exact H7 hE hls k1 hs2 k3
end
def We(P:Program)(o:Oper)(l:SL):Bool:=
 match l.op.cls with
 | .new=>true
 | .call=>match P.underlying o.type with
  |some (.slice _)|some (.map _ _)=>true
  |_=>false
 |_=>false
def GS(P:Program)(ops:List Oper)(ls:List SL):List Nat:=(ops.zip ls).filterMap fun p=>if We P p.1 p.2 then p.2.dst else none
def Ee(ls:List SL):List Nat:=ls.filterMap fun l=>if l.op.makes then l.dst else none
def Q1(ls:List SL):List Nat:=
 let CC:=ls.filterMap fun l=>match l.op with| .append .. =>l.dst|_=>none
 if ls.any fun l=>match l.op with| .call _ xs=>xs.any fun x=>x.slot.any CC.contains|_=>false then
  ls.filterMap fun l=>match l.op,l.dst with
   | .mksl ..,some d| .call ..,some d=>if ls.any fun m=>match m.op with| .append _ _ _ (.t i) _=>i==d| .call _ xs=>xs.any fun x=>x.slot.contains d|_=>false then some d else none
   |_,_=>none
 else []
def DE(P:Program)(ops:Array Oper)(ls:List SL):List Nat:=if C9 P ops (F0 ls) (Q1 ls++Ee ls) ls then Q1 ls++Ee ls else Ee ls
def HK(P:Program)(ops:Array Oper)(ls:List SL):List Nat:=DE P (F7 (HJ ops ls) ops) (permL (HJ ops ls) ls)
def NJ(P:Program)(ops:Array Oper)(ls:List SL):Option BR:=
 (Si ls).bind fun c=>if KY P ops (F0 ls) (Ee ls) ls c=true∧(ls.drop c).all (fun l=>(l.own (F0 ls)).isNone)=true then some (.seq (.reg true (Ee ls) (ls.take c)) (.reg true (Ee ls) (ls.drop c)))else none
def Hw(P:Program)(n:Nat)(ops:Array Oper)(draw:Bool):Option BR:=match Ar (CM P n ops) ops.toList with
 |some ls=>if draw then(match NJ P ops ls with|some sc=>some sc|none=>if IL P ops (F0 ls) (DE P ops ls) ls then some (.regE (DE P ops ls) ls)else if C9 P ops (F0 ls) (DE P ops ls) ls then some (.reg true (DE P ops ls) ls)else if Ld P ops (HJ ops ls) (F0 (permL (HJ ops ls) ls)) (HK P ops ls) ls then some (.reg true (HK P ops ls) (permL (HJ ops ls) ls))else some .bad)else some (.reg false (GS P ops.toList ls) ls)
 |none=>some .bad
def J1(n:Nat)(ops:Array Oper):Option (Nat×Nat×Nat):=
 match ops.toList with
 | [x,y]=>match x.op,x.dst,x.guard,y.op,y.dst,y.guard with
  | .next (.tmp it) false,some d,none,.extract (.tmp d') 0,some ok,none=>if(Nat.beq d' d&&Nat.blt d n&&Nat.blt ok n&& !Nat.beq d ok)=true then some (it,d,ok)else none
  |_,_,_,_,_,_=>none
 |_=>none
theorem Uf{n:Nat}{ops:Array Oper}{it d ok:Nat}(h:J1 n ops=some (it,d,ok)):∃x y,ops= #[x,y]∧x.op=.next (.tmp it) false∧x.dst=some d∧x.guard=none∧y.op=.extract (.tmp d) 0∧y.dst=some ok∧y.guard=none∧d<n∧ok<n∧d≠ok:=by
 unfold J1 at h;split at h<;>(try cases h;done);rename_i x y hl;split at h<;>(try cases h;done);rename_i it' d' d'' ok' h1 h2 h3 h4 h5 h6;split at h<;>(try cases h;done);rename_i hh;simp only[Ac,Prod.mk.injEq]at h;obtain⟨rfl,rfl,rfl⟩:=h;simp only[Af,Bool.not_eq_true']at hh;obtain⟨⟨⟨g1,g2⟩,g3⟩,g4⟩:=hh;have g1':=Nat.eq_of_beq_eq_true g1;subst g1';have lt:∀{i m:Nat},Nat.blt i m=true→i<m:=fun h=>Ah h;exact⟨x,y,Array.toList_inj.1 hl,h1,h2,h3,h4,h5,h6,lt g2,lt g3,fun e=>by subst e;simp at g4⟩
def Bl(P:Program)(n:Nat):Code→Option BR
 | .skip=>some .skip
 | .region _ ops draw=>match cond draw none (J1 n ops)with
  |some p=>some (.mnext p.1 p.2.1 p.2.2)
  |none=>Hw P n ops draw
 | .seq a b=>(Bl P n a).bind fun x=>(Bl P n b).map fun y=>.seq x y
 | .cond c a b=>(Ap c).bind fun c=>(Bl P n a).bind fun x=>(Bl P n b).map fun y=>.cond c x y
 | .block id b=>(Bl P n b).map (.block id)
 | .loop b=>(Bl P n b).map .loop
 | .exit id=>some (.exit id)
 | .label _=>some .skip
 | .scope b=>Bl P n b
 | .ret=>some .ret
 |_=>some .bad
def SP:Ex→Exit
 | .normal=>.normal
 | .exit i=>.exit i
 | .ret=>.ret
section
variable {P:Program} {E:Env} {w0:WL} {M0:MM} {n:Nat}
def Ff(P:Program)(E:Env)(w0:WL)(M0:MM)(n:Nat)(Q:Ex→St→Prop)(e:Exit)(a:Act)(w:World):Prop:=
 ∃e' st z,SP e'=e∧Q e' st∧SR P E.G w0 M0 n st a w z
theorem My(hE:EOk P E){id:Nat}{ops:Array Oper}{draw:Bool}{sc:BR}(hc:Hw P n ops draw=some sc){Q:Ex→St→Prop}{st:St}{a:Act}{w:World}{z:Cz}(h:SR P E.G w0 M0 n st a w z)
  (hp:pwp E sc Q st):(Code.region id ops draw).wp P (Ff P E w0 M0 n Q) a w:=by
 simp only[Hw]at hc;split at hc
 case h_2=>cases hc;exact hp.elim
 rename_i ls hls;have hlen:=Dv hls
 have start:∀D:List Nat,∃z',SR P E.G w0 M0 n (if D.isEmpty then st else kill D st) a w z':=fun D=>by
  split
  ·exact⟨z,h⟩
  ·exact⟨z,h.killed D⟩
 cases draw with
 |false=>
  simp only[Ag,if_false,Ac]at hc;subst hc;obtain⟨st',hv,hq⟩:=hp;unfold BN at hv;simp only[Ag,if_false]at hv;obtain⟨z',hS⟩:=start (GS P ops.toList ls);refine wp_region ?_;have hseq:=Ok E none ls [] (if(GS P ops.toList ls).isEmpty then st else kill (GS P ops.toList ls) st);rw[hv]at hseq;simp only[List.nil_append,List.length_nil]at hseq;rw[List.range_eq_range',←Array.length_toList,←hlen];exact H7 hE hls hS hseq fun a' w' z'' hS'=>⟨.normal,st',z'',rfl,hq,hS'⟩
 |true=>
  have plain:C9 P ops (F0 ls) (DE P ops ls) ls=true→∀st',BN E true (DE P ops ls) ls st=some st'→Q .normal st'→(Code.region id ops true).wp P (Ff P E w0 M0 n Q) a w:=fun hd st' hv hq=>by
   unfold BN at hv;simp only[if_true]at hv;obtain⟨z',hS⟩:=start (DE P ops ls);refine wp_region_draw fun t=> ?_;have hseq:=So hls hd hv t;have hg:SR P E.G w0 M0 n (if(DE P ops ls).isEmpty then st else kill (DE P ops ls) st) a {w with drawn:=w.drawn+1} z':=hS.grow ⟨rfl,rfl,rfl,Nat.le_refl _,fun _ _=>rfl⟩;exact H7 hE hls hg hseq fun a' w' z'' hS'=>⟨.normal,st',z'',rfl,hq,hS'⟩
  simp only[if_true]at hc;split at hc
  ·rename_i sc' hcut;cases hc;obtain⟨c,_,hcut⟩:=Ab.1 hcut;split at hcut<;>(try cases hcut;done);rename_i hd;cases hcut;obtain⟨st1,hv1,st3,hv3,hq⟩:=hp;unfold BN at hv1 hv3;simp only[if_true]at hv1 hv3;obtain⟨z',hS⟩:=start (Ee ls);refine NK hE hls hd.1 hd.2 hS hv1 fun a' w' z'' hS'=> ?_
   have start2:∃z3,SR P E.G w0 M0 n (if(Ee ls).isEmpty then st1 else kill (Ee ls) st1) a' w' z3:=by
    split
    ·exact⟨z'',hS'⟩
    ·exact⟨z'',hS'.killed _⟩
   obtain⟨z3,hS3⟩:=start2;exact⟨_,z3,st3,hS3,hv3,fun a'' w'' z4 hS4=>⟨.normal,st3,z4,rfl,hq,hS4⟩⟩
  split at hc
  ·rename_i hd;cases hc
   have hdo:C9 P ops (F0 ls) (DE P ops ls) ls=true:=by
    have hd':=hd;simp only[IL,Af]at hd';exact hd'.1.2
   obtain⟨st',hv|hv,hq⟩:=hp
   ·exact plain hdo st' hv hq
   ·refine wp_region_draw fun t=> ?_;have hseq:=Sp hls hd (RV _) hv t;have hg:SR P E.G w0 M0 n (C6 (kill (DE P ops ls) st)) a {w with drawn:=w.drawn+1} z:=(h.killed _).clean.grow ⟨rfl,rfl,rfl,Nat.le_refl _,fun _ _=>rfl⟩;exact Qv hE hls hg hseq fun a' w' z'' hS'=>⟨.normal,st',z'',rfl,hq,hS'⟩
  ·split at hc
   ·rename_i hd;cases hc;obtain⟨st',hv,hq⟩:=hp;exact plain hd st' hv hq
   ·split at hc
    case isFalse=>cases hc;exact hp.elim
    rename_i hd;cases hc;obtain⟨st',hv,hq⟩:=hp;unfold BN at hv;simp only[if_true]at hv;obtain⟨z',hS⟩:=start (HK P ops ls);refine wp_region_draw fun t=> ?_;have hseq:=Sq hls hd hv t;have hg:SR P E.G w0 M0 n (if(HK P ops ls).isEmpty then st else kill (HK P ops ls) st) a {w with drawn:=w.drawn+1} z':=hS.grow ⟨rfl,rfl,rfl,Nat.le_refl _,fun _ _=>rfl⟩;exact H7 hE hls hg hseq fun a' w' z'' hS'=>⟨.normal,st',z'',rfl,hq,hS'⟩
theorem Ve{w w1:World}{r:Nat}{o:Obj}(hw:w1=w∨w1=w.drew):w.grownBy (Go.ChangeMaps.setBlock w1 r o) (some r):=by
 have h1:w1.os=w.os∧w1.tape=w.tape∧w1.output=w.output∧w1.heap=w.heap:=by rcases hw with rfl|rfl<;>exact⟨rfl,rfl,rfl,rfl⟩
 obtain⟨e1,e2,e3,e4⟩:=h1;refine⟨e1,e2,e3,by simp[Go.ChangeMaps.setBlock,e4],fun k _ hk=> ?_⟩;simp only[Go.ChangeMaps.setBlock,e4];rw[Array.getElem?_setIfInBounds];rw[if_neg (fun e=>hk (by rw[e]))]
theorem Vd{w w1:World}{r:Nat}{o o':Obj}(hw:w1=w∨w1=w.drew)(hr:w.heap[r]? =some o'):(Go.ChangeMaps.setBlock w1 r o).heap[r]? =some o:=by
 have e4:w1.heap=w.heap:=by rcases hw with rfl|rfl<;>rfl
 simp only[Go.ChangeMaps.setBlock,e4];rw[Array.getElem?_setIfInBounds];simp[Cc hr]
theorem SE{ens rem:List MapEntry}{clk:Nat}(hE:Ens ens clk){f:MapEntry→Bool}(hp:rem.Perm (ens.filter f)){i:Nat}{e:MapEntry}(hi:rem[i]? =some e):rem.eraseIdx i=rem.filter fun x=>x.born !=e.born:=by
 have hn:(rem.map (·.born)).Nodup:=((hp.map (·.born)).nodup_iff).2 (List.Nodup.sublist (List.Sublist.map _ List.filter_sublist) hE.2.2);clear hp
 induction rem generalizing i with
 |nil=>simp at hi
 |cons x rem ih=>
  simp only[List.map_cons,List.nodup_cons]at hn
  cases i with
  |zero=>
   simp only[List.getElem?_cons_zero,Ac]at hi;subst hi;simp only[List.eraseIdx_cons_zero,List.filter_cons,bne_self_eq_false,Ag,if_false];symm;rw[List.filter_eq_self];intro y hy;simp only[bne_iff_ne,ne_eq];intro hh;exact hn.1 (List.mem_map.2 ⟨y,hy,hh⟩)
  |succ i=>
   simp only[List.getElem?_cons_succ]at hi
   have hne:(x.born !=e.born)=true:=by
    simp only[bne_iff_ne,ne_eq];intro hh;exact hn.1 (List.mem_map.2 ⟨e,List.mem_of_getElem? hi,hh.symm⟩)
   simp only[List.eraseIdx_cons_succ,List.filter_cons,hne,if_true];rw[ih hi hn.2]
theorem Am.eraseIdx{w:World}{M:MM}:∀{cs:List CV} {vs:List Value} (i:Nat),Am w M cs vs→Am w M (cs.eraseIdx i) (vs.eraseIdx i)
 | [],_,_,h=>by unfold Am at h;subst h;exact Am.nil
 |_::_,_,0,h=>by
  unfold Am at h;obtain⟨v,vs',rfl,_,h2⟩:=h;exact h2
 |_::_,_,i+1,h=>by
  unfold Am at h;obtain⟨v,vs',rfl,h1,h2⟩:=h;exact Am.cons h1 (Am.eraseIdx i h2)
theorem Pi(hE:EOk P E){id:Nat}{ops:Array Oper}{it d ok:Nat}(hc:J1 n ops=some (it,d,ok)){Q:Ex→St→Prop}{st:St}{a:Act}{w:World}{z:Cz}(h:SR P E.G w0 M0 n st a w z)
  (hp:pwp E (.mnext it d ok) Q st):(Code.region id ops false).wp P (Ff P E w0 M0 n Q) a w:=by
 obtain⟨x,y,rfl,hx1,hx2,hx3,hy1,hy2,hy3,hd,hok,hne⟩:=Uf hc;obtain⟨oid,ks,vs,cur,hit,hob,hq0,hq1⟩:=hp;refine wp_region ?_;show wpOps P #[x,y] _ [0,1] a w
 have second:∀{st1:St} {a1:Act} {w1:World} {z1:Cz} {b:Bool} {l:List CV} {st2:St},SR P E.G w0 M0 n st1 a1 w1 z1→st1.fr d=.c (.tup (.bool b::l))→st1.set (some ok) (.c (.bool b))=st2→Q .normal st2→wpOps P #[x,y] (Ff P E w0 M0 n Q) [1] a1 w1:=by
  intro st1 a1 w1 z1 b l st2 h1 hf h2 hQ
  have hc2:CM P n #[x,y] y=some ⟨some ok,.ext (.t d) 0,none⟩:=by
   have e1:Bs P y=some (.ext (.t d) 0):=by
    unfold Bs;rw[hy1];rfl
   simp only[CM,e1,Option.map_some,Jw,hy2,hy3,Option.bind_some];simp[Gd,hok]
  refine IU hE (D:=none) h1 (i:=1) (o:=y) rfl hc2 (st':=st2) ?_ fun a' w' z' hS=>⟨.normal,st2,z',rfl,hQ,hS⟩;have hv:so (E.at none).G st1.fr (.t d)=.c (.tup (.bool b::l)):=hf;simp only[Ax,A2,SOp.cls,Ao,hv];subst h2;rfl
 have hfirst:∀{v:Value} {w1:World},(execOp a.eval x).run P w=.ok (.value v) w1→wpOps P #[x,y] (Ff P E w0 M0 n Q) [1] (a.put (some d) v) w1→wpOps P #[x,y] (Ff P E w0 M0 n Q) [0,1] a w:=by
  intro v w1 hrun hK;have h0:(#[x,y]:Array Oper)[0]? =some x:=rfl
  conv=>unfold wpOps
  simp only[h0];rw[if_pos (by simp[Region.wanted,hx3])];refine .inl ?_;unfold Oper.wp;rw[hrun];show wpOps P #[x,y] _ [1] (a.put x.dst v) w1;rw[hx2];exact hK
 have hr:=h.fr it;rw[hit]at hr;obtain⟨hlive,e1⟩:=hr;have ho:=h.ob oid;rw[hob]at ho;obtain⟨r,mo,since,seen,e2,hh,hm⟩:=ho
 have hev:a.eval (.tmp it)=.pointer (some ⟨r,0,none⟩):=by
  show a.tmps.getD it undef=_;rw[e1,e2]
 rcases hm with⟨rfl,rfl,rfl,_⟩|⟨m,ens,rem,rfl,e4,e5,e6,e7,e8,e9,_⟩
 ·refine hfirst (v:=.tuple #[.bool false]) (w1:=w) ?_ ?_
  ·simp only[execOp,hx1,hev];simp[Instr.next,getObj,Sem.run,hh,Result.andThen]
  ·refine second (b:=false) (l:= []) (h.put (fun i hi=>by cases hi;exact hd) (s:=.c (.tup [.bool false])) ?_) ?_ rfl (hq0 rfl)
   ·show An _ _ (.tup _) _;unfold An;exact⟨[.bool false],rfl,Am.cons Dz Am.nil⟩
   ·show upd st.fr d _ d=_;rw[AH]
 ·rcases run_next_at (P:=P) w x.type r m since since seen ⟨ens⟩ since hh e5 (fun y hy=>e6.2.1 y hy) (Nat.le_refl _)with⟨h0,hrun⟩|⟨e,he,w1,hw1,hrun⟩
  ·have hk0:ks= []:=by
    have:(ens.filter fun e=> !seen.contains e.born)= []:=by
     have h0':=h0;unfold leftOf at h0';simpa using h0'
    rw[this]at e7;have hr0:=e7.length_eq;have:rem= []:=List.eq_nil_of_length_eq_zero (by simpa using hr0);subst this;exact List.eq_nil_of_length_eq_zero (by have:=e8.length;simpa using this.symm)
   refine hfirst (v:=.tuple #[.bool false]) (w1:=w) (by simp only[execOp,hx1,hev];simp[hrun]) ?_;refine second (b:=false) (l:= []) (h.put (fun i hi=>by cases hi;exact hd) (s:=.c (.tup [.bool false])) ?_) ?_ rfl (hq0 hk0)
   ·show An _ _ (.tup _) _;unfold An;exact⟨[.bool false],rfl,Am.cons Dz Am.nil⟩
   ·show upd st.fr d _ d=_;rw[AH]
  ·have hmem:e∈rem:=by
    refine e7.mem_iff.2 ?_;unfold leftOf at he;simpa using he
   have hens:e∈ens:=by
    have:=e7.mem_iff.1 hmem;exact(List.mem_filter.1 this).1
   obtain⟨i,hi⟩:=List.getElem?_of_mem hmem;have hlk:=e8.length;have hlv:=e9.length;have hil:i<rem.length:=(Ae.1 hi).1;simp only[List.length_map]at hlk hlv;obtain⟨k,hk⟩:∃k,ks[i]? =some k:=⟨ks[i],Ai (by omega)⟩;obtain⟨v,hv⟩:∃v,vs[i]? =some v:=⟨vs[i],Ai (by omega)⟩;obtain⟨u1,g1,g2⟩:=e8.get hk;obtain⟨u2,g3,g4⟩:=e9.get hv;rw[List.getElem?_map,hi]at g1 g3;cases g1;cases g3
   have hg:w.grownBy (Go.ChangeMaps.setBlock w1 r (.mapIter (some m) since (seen.push e.born) since)) (blk (z.σ oid)):=by
    rw[e2];exact Ve hw1
   have hS:=SR.turn h (id:=oid) hlive (o':=.miter (ks.eraseIdx i) (vs.eraseIdx i) (some (k,v))) (by simp) hg (β':=z.β oid) (fun _ _ hh=>hh) (fun _ hh=>by cases hh) fun hk2 hz=>by
    refine⟨r,some m,since,seen.push e.born,e2,Vd hw1 hh,.inr ⟨m,ens,rem.eraseIdx i,rfl,fun hM=>e4 (hk2.less m (Cc e5) hM),(hk2.heap m (Cc e5) e4).trans e5,e6, ?_, ?_, ?_, ?_⟩⟩
    ·rw[SE e6 e7 hi];have p2:=e7.filter fun x=>x.born !=e.born;refine p2.trans ?_;rw[List.filter_filter];refine List.Perm.of_eq (List.filter_congr fun x _=> ?_);simp only[Array.contains_push,Bool.not_or,bne];rw[Bool.and_comm]
    ·rw[Go.ChangeMaps.map_eraseIdx];exact Am.keep hk2 _ _ (e8.eraseIdx i)
    ·rw[Go.ChangeMaps.map_eraseIdx];exact Am.keep hk2 _ _ (e9.eraseIdx i)
    ·intro p hp;cases hp;exact⟨seen,e,rfl,hens,An.keep hk2 _ _ g2,An.keep hk2 _ _ g4⟩
   refine hfirst (v:=.tuple #[.bool true,e.key,e.val]) (w1:=Go.ChangeMaps.setBlock w1 r (.mapIter (some m) since (seen.push e.born) since)) (by simp only[execOp,hx1,hev];simp[hrun]) ?_;refine second (b:=true) (l:= [k,v]) (hS.put (d:=some d) (fun i hi=>by cases hi;exact hd) (s:=.c (.tup [.bool true,k,v])) ?_) ?_ ?_ (hq1 i k v hk hv)
   ·have hk2:=SR.turnK (M0:=M0) (z:=z) (st:=st) hlive (o':=.miter (ks.eraseIdx i) (vs.eraseIdx i) (some (k,v))) (by simp) hg (β':=z.β oid);show An _ _ (.tup _) _;unfold An;exact⟨[.bool true,e.key,e.val],rfl,Am.cons Dz (Am.cons (An.keep hk2 _ _ g2) (Am.cons (An.keep hk2 _ _ g4) Am.nil))⟩
   ·show upd st.fr d _ d=_;rw[AH]
   ·rfl
theorem Gp:∀(c:BR) {Q Q':Ex→St→Prop} {st:St},(∀e s,Q e s→Q' e s)→pwp E c Q st→pwp E c Q' st
 | .skip,Q,Q',st,h,hp=>h _ _ hp
 | .regE _ _,Q,Q',st,h,⟨s,h1,h2⟩=>⟨s,h1,h _ _ h2⟩
 | .mnext _ _ _,Q,Q',st,h,⟨id,ks,vs,cur,h1,h2,h3,h4⟩=>⟨id,ks,vs,cur,h1,h2,fun hk=>h _ _ (h3 hk),fun i k v hk hv=>h _ _ (h4 i k v hk hv)⟩
 | .reg _ _ _,Q,Q',st,h,hp=>by
  obtain⟨s,h1,h2⟩:=hp;exact⟨s,h1,h _ _ h2⟩
 | .seq a b,Q,Q',st,h,hp=>by
  refine Gp a (fun e s hs=> ?_) hp
  cases e with
  |normal=>exact Gp b h hs
  |exit i=>exact h _ _ hs
  |ret=>exact h _ _ hs
 | .cond c x y,Q,Q',st,h,hp=>by
  obtain⟨b,h1,h2,h3⟩:=hp;exact⟨b,h1,fun hb=>Gp x h (h2 hb),fun hb=>Gp y h (h3 hb)⟩
 | .block id c,Q,Q',st,h,hp=>by
  refine Gp c (fun e s hs=> ?_) hp
  cases e with
  |normal=>exact h _ _ hs
  |exit i=>
   simp only at hs⊢;split<;>rename_i hi
   ·rw[if_pos hi]at hs;exact h _ _ hs
   ·rw[if_neg hi]at hs;exact h _ _ hs
  |ret=>exact h _ _ hs
 | .loop c,Q,Q',st,h,hp=>by
  obtain⟨R,h1,h2⟩:=hp;refine⟨R,h1,fun m s hs=>Gp c (fun e s' hs'=> ?_) (h2 m s hs)⟩
  cases e with
  |normal=>exact hs'
  |exit i=>exact h _ _ hs'
  |ret=>exact h _ _ hs'
 | .exit i,Q,Q',st,h,hp=>h _ _ hp
 | .ret,Q,Q',st,h,hp=>h _ _ hp
 | .bad,Q,Q',st,h,hp=>hp.elim
theorem Fn(hE:EOk P E):∀(c:Code) {sc:BR} {Q:Ex→St→Prop} {st:St} {a:Act} {w:World} {z:Cz},Bl P n c=some sc→SR P E.G w0 M0 n st a w z→pwp E sc Q st→c.wp P (Ff P E w0 M0 n Q) a w
 | .skip,sc,Q,st,a,w,z,hc,h,hp=>by
  simp only[Bl,Ac]at hc;subst hc;exact wp_skip ⟨.normal,st,z,rfl,hp,h⟩
 | .region id ops draw,sc,Q,st,a,w,z,hc,h,hp=>by
  simp only[Bl]at hc;split at hc
  ·rename_i p hn;cases hc
   cases draw with
   |true=>cases hn
   |false=>exact Pi hE hn h hp
  ·exact My hE hc h hp
 | .seq x y,sc,Q,st,a,w,z,hc,h,hp=>by
  simp only[Bl,Ab,Aa]at hc;obtain⟨sx,hx,sy,hy,rfl⟩:=hc;refine wp_seq (wp_mono (Fn hE x hx h hp) fun e a' w' hpost=> ?_);obtain⟨e',st',z',he,hq,hS⟩:=hpost;subst he
  cases e' with
  |normal=>exact Fn hE y hy hS hq
  |exit i=>exact⟨.exit i,st',z',rfl,hq,hS⟩
  |ret=>exact⟨.ret,st',z',rfl,hq,hS⟩
 | .cond c x y,sc,Q,st,a,w,z,hc,h,hp=>by
  simp only[Bl,Ab,Aa]at hc;obtain⟨so',hso,sx,hx,sy,hy,rfl⟩:=hc;obtain⟨b,h1,h2,h3⟩:=hp;have hr:=h.ctx.c hso h1;have hb:=CZ hr;exact wp_cond_split hb (fun hh=>Fn hE x hx h (h2 hh)) (fun hh=>Fn hE y hy h (h3 hh))
 | .block id c,sc,Q,st,a,w,z,hc,h,hp=>by
  simp only[Bl,Aa]at hc;obtain⟨sx,hx,rfl⟩:=hc;refine wp_block (wp_mono (Fn hE c hx h hp) fun e a' w' hpost=> ?_);obtain⟨e',st',z',he,hq,hS⟩:=hpost;subst he
  cases e' with
  |normal=>exact⟨.normal,st',z',rfl,hq,hS⟩
  |exit i=>
   simp only at hq;show(if i=id then _ else _);split at hq
   ·rename_i hi;rw[if_pos hi];exact⟨.normal,st',z',rfl,hq,hS⟩
   ·rename_i hi;rw[if_neg hi];exact⟨.exit i,st',z',rfl,hq,hS⟩
  |ret=>exact⟨.ret,st',z',rfl,hq,hS⟩
 | .loop c,sc,Q,st,a,w,z,hc,h,hp=>by
  simp only[Bl,Aa]at hc;obtain⟨sx,hx,rfl⟩:=hc;obtain⟨R,⟨m,hm⟩,hr⟩:=hp;refine wp_loop_ghost (fun k a w=>∃s z,R k s∧SR P E.G w0 M0 n s a w z) m ⟨st,z,hm,h⟩ fun k a' w' hI=> ?_;obtain⟨s,z',hR,hS⟩:=hI;refine wp_mono (Fn hE c hx hS (hr k s hR)) fun e a'' w'' hpost=> ?_;obtain⟨e',st',z'',he,hq,hS'⟩:=hpost;subst he
  cases e' with
  |normal=>
   obtain⟨k',hk',hR'⟩:=hq;exact⟨k',hk',st',z'',hR',hS'⟩
  |exit i=>exact⟨.exit i,st',z'',rfl,hq,hS'⟩
  |ret=>exact⟨.ret,st',z'',rfl,hq,hS'⟩
 | .exit i,sc,Q,st,a,w,z,hc,h,hp=>by
  simp only[Bl,Ac]at hc;subst hc;exact wp_exit ⟨.exit i,st,z,rfl,hp,h⟩
 | .label l,sc,Q,st,a,w,z,hc,h,hp=>by
  simp only[Bl,Ac]at hc;subst hc;exact wp_label ⟨.normal,st,z,rfl,hp,h⟩
 | .scope c,sc,Q,st,a,w,z,hc,h,hp=>by
  simp only[Bl]at hc;refine wp_scope_straight (wp_mono (Fn hE c hc h hp) fun e a' w' hpost=> ?_);obtain⟨e',st',z',he,hq,hS⟩:=hpost;subst he;cases e'<;>exact⟨_,st',z',rfl,hq,hS⟩
 | .ret,sc,Q,st,a,w,z,hc,h,hp=>by
  simp only[Bl,Ac]at hc;subst hc;exact wp_ret ⟨.ret,st,z,rfl,hp,h⟩
 | .goto _,sc,Q,st,a,w,z,hc,h,hp=>by cases hc;exact hp.elim
 | .rangeFunc _ _ _ _,sc,Q,st,a,w,z,hc,h,hp=>by cases hc;exact hp.elim
 | .refuse _,sc,Q,st,a,w,z,hc,h,hp=>by cases hc;exact hp.elim
end
end WB
