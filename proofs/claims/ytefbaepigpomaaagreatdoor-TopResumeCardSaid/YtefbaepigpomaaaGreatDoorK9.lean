/-
  Own texts. No condition of their own.
-/
import Derived.Test.YtefbaepigpomaaaGreatDoorK8
noncomputable section
set_option linter.unusedVariables false
set_option linter.unusedSimpArgs false
open Go.IntKind (i64 u64 u8 u32)
namespace WB
open Go Go.RowKit Go.Proofs Go.Sort
open Sum (inl inr)
theorem Aiz{k:Type} [Inhabited k]{cf:k->k->Int}(f:SWO (ltOf cf)){l l':List k}(t:l.Perm l')(m:l'.Pairwise fun x y=>ltOf cf x y=true):sortBy cf l=l':=by
 have c:=(Rx f l).trans t;have n:=(Yx f l).2;have d:(sortBy cf l).length=l.length:=(Rx f l).length_eq
 have w:(sortBy cf l).Pairwise fun x y=>ltOf cf y x=false:=by
  rw[List.pairwise_iff_getElem];intro i j hi e o;have h:=n i j (Nat.zero_le _) o (by rw[List.size_toArray,<-d];exact e);rw[getElem!_pos _ i (by rw[List.size_toArray];exact hi),getElem!_pos _ j (by rw[List.size_toArray];exact e),List.getElem_toArray,List.getElem_toArray]at h;exact h
 have g:∀x y,ltOf cf x y=true->ltOf cf y x=false:=by
  intro x y h
  cases s:ltOf cf y x with
  |false=>rfl
  |true=>have:=f.trans x y x h s;rw[f.irrefl]at this;cases this
 have s:l'.Pairwise fun x y=>ltOf cf y x=false:=m.imp fun h=>g _ _ h;refine List.Perm.eq_of_pairwise (le:=fun x y=>ltOf cf y x=false) ?_ w s c;intro a b v u q p;have r:=c.subset v;rcases List.mem_iff_getElem.1 r with⟨i,hi,rfl⟩;rcases List.mem_iff_getElem.1 u with⟨j,e,rfl⟩;rw[List.pairwise_iff_getElem]at m;rcases Nat.lt_trichotomy i j with h|h|h
 ·have:=m i j hi e h;rw[p]at this;cases this
 ·subst h;rfl
 ·have:=m j i e hi h;rw[q]at this;cases this
end WB
namespace WB
open Go Go.RowKit
open Sum (inl inr)
set_option linter.unusedVariables false
abbrev be:=Unit×Unit×Unit
abbrev aJ:=Int×Int×Unit
abbrev bZ:=Unit×Unit×be
abbrev bl:=Unit×Unit
abbrev Eo:=Int×Int×Int
abbrev Iq:=Int×Int×Int×Int×Int×aJ
abbrev LC:=Unit×Unit×Unit×Unit×bZ
abbrev Jy:=Int×Unit×Int×Unit
abbrev aA:=Unit⊕((Unit⊕((Unit⊕((Unit⊕Unit))))))
abbrev bn:=List (List UInt8×Eo)
abbrev dw:=List UInt8×Int×Int
abbrev Gi:=List ((Int×List UInt8)×Int)
abbrev Ba:=List UInt8×Int
abbrev ag:=List Ba
abbrev FA:=Int×Int×Int×Int×Int×List UInt8×Int×List UInt8
abbrev L6:=Int×Int×Int×Int×Int×Int×Int×Int×Int×Int×Int×Int×Int×Int×Int×Int
abbrev Gj:=List UInt8×(Int×Eo)
abbrev ax:=List Gj
abbrev eG:=Int×Int×Int×Int×ag×ax×Int×Int×ag×Int×Int×Int×ag×ax×Int×Int×ag×Int×Int×Int×ag×ax×Int×Int×ag×Unit×Unit×Unit×Unit×be
abbrev Fq:=Int×Int×Int×ag×ax×Int×Int×ag
abbrev GF:=List (List UInt8×Bool)
abbrev OO:=(Unit×Int×Int×Int×ag×ax×Int×Int×ag×List UInt8×bZ)
abbrev DV:=List UInt8×dw
abbrev ES:=Int×List UInt8×Int
abbrev bJ:=List ES
abbrev ER:=Int×Int×bJ
abbrev H1:=List UInt8×Int×Int×Int×Int×Int
abbrev aI:=List H1
abbrev OR:=Int×ag×Int×aI×Int×Int×ag×ag×be
abbrev T4:=(ax×Int×ag×ag×Unit×bn×Int×Int×ax×GF×be)⊕((ag×ag×ax×bl)⊕(ax×ag×ag×Int))
abbrev LA:=ax×Int×bn×ax×GF×Unit×Unit×Unit
abbrev CJ:=List ER
abbrev Dp:=List dw
abbrev OP:=(List UInt8×aJ)⊕((List UInt8×Unit)⊕Bool)
abbrev LB:=Int×ag×aI×ag×Unit×Unit
abbrev En:=List UInt8
abbrev eF:=Unit×(List En)×Int×Int×Int×Int×Int×ag×ax×Int×Int×ag×List UInt8×bZ
abbrev Ip:=Unit×(List En)×Int×Int×Int×Int×Int×ag×ax×Int×Int×ag×List UInt8×Unit×Unit×Unit×Unit×Unit
abbrev Fr:=Unit⊕(aA)
abbrev aB:=Unit⊕((Unit⊕((Unit⊕(Fr)))))
abbrev DW:=Int×Int
abbrev Cs:=List DW
abbrev cd:=Int×Int×ag×ax×Int×Int×ag×Int×Int×Int×ag×ag×ag×Dp×bn×Int×Int×Cs×aI×Int×Int×Int×Gi×Unit×Unit×Unit
abbrev eH:=Int×Int×Int×ag×ax×Int×Int×ag×Int×Int×Int×Int×Int×Int×Int×Int×Int×Int×ag×ax×Int×Int×ag×Int×Int×Int×ag×ag×ag×Dp×bn×Int×Int×Cs×aI×Int×Int×Int×Gi×Unit×Unit×Unit×Unit×Unit×Unit×Unit×Unit×Unit×Unit×Unit×be
abbrev TZ7:=Int×Int×Int×Int×Int×Int×Int×ag×ax×Int×Int×ag×Int×Int×Int×ag×ag×ag×Dp×bn×Int×Int×Cs×aI×Gi×Int×Int×Int×bJ×Unit×Unit×Unit×bZ
abbrev T7:=Int×Int×Int×ag×ax×Int×Int×ag×Int×Int×Int×ag×ag×ag×Dp×bn×Int×Int×Cs×aI×Int×Int×Int×Gi×bl
abbrev bO:=Int×Int×Int×ag×ag×ag×Dp×bn×Int×Int×Cs×aI
abbrev TZ6:=(List bO)×Int×Int×Int×Int×Int×ag×ax×Int×Int×ag×Int×Int×Int×Int×Int×Int×Int×Int×ag×ax×Int×Int×ag×CJ×Unit×Unit×Unit×Unit×Unit×Unit×bZ
abbrev OQ:=Int×Int×Int×(List L6)×Int×Int×(List bO)×bl
abbrev cr:=Int×Int×Int×ag×ax×Int×Int×ag×Int×Int×Int×ag×ag×ag×Dp×bn×Int×Int×Cs×aI×Int×Int×Int×Gi×Unit×Unit×Unit
abbrev L5:=Int×Int×Int×Int×Int×Int×Int×ag×ax×Int×Int×ag×Int×Int×Int×ag×ag×ag×Dp×bn×Int×Int×Cs×aI×Gi×Int×Int×Int×bJ×Unit×Unit×Unit×Unit×Unit×Unit×Unit×Unit
abbrev T1:=(Int×Int×Int×Int×ag×ax×Int×Int×ag×Int×Int×Int×Int×Int×Int×Int×Int×Int×bJ×Int×Int×Int×ag×ax×Int×Int×ag×Int×Int×Int×ag×ag×ag×Dp×bn×Int×Int×Cs×aI×Int×Int×Int×Unit×Unit×Unit×Unit×Unit×Unit×LC)
abbrev ON:=(ER×Int)×T7
abbrev T2:=(Int×eH)
abbrev T3:=Int×ag×Int×Int×Int×Int×Int×ag×ax×Int×Int×ag×Int×Int×Int×ag×ag×ag×Dp×bn×Int×Int×Cs×aI×Int×Int×Int×Gi×Unit×Unit×Unit×Unit
abbrev T5:=Int×ag×(List DV)×Int×ag×Int×Int×ag×ag×ag×Unit×Unit×Unit×Unit
abbrev T6:=(aI×Int×Unit×Int×aJ)⊕((aI×Int×Unit×aJ))
def Hs(a:Int):Option Int:=let c:=a;let x4:=i64.wrap c;let b:=i64.wrap (x4*10);some b
def Ot:(L6×Eo)->Option bO:=fun(x0,m0,m1,m2)=>let a:=x0.2.2.2.2.2.2;let b:=a.2.2.2.2.2.2;let D:=m0;let C:=m1;let B:=m2;let v:=i64.wrap x0.1;let u:=i64.wrap x0.2.1;let A:=([(([115,97,108,97,114,121]:List UInt8),v),(([98,111,110,117,115]:List UInt8),u)]:List Ba);let t:=BS .and .i32 x0.2.2.1 (1048575:Int);let s:=i64.wrap t;let z:=([(([112,101,110,115,105,111,110]:List UInt8),s)]:List Ba);let r:=BS .and .i32 x0.2.2.2.1 (65535:Int);let q:=i64.wrap r;let y:=([(([99,108,117,98]:List UInt8),q)]:List Ba);(Hs x0.2.2.2.2.1).bind fun p=>(Hs x0.2.2.2.2.2.1).bind fun o=>let n:=i64.wrap a.1;let x:=([(([104,101,97,108,116,104]:List UInt8),p,o,n)]:List (List UInt8×Eo));let m:=i64.wrap a.2.1;let l:=i64.wrap a.2.2.1;(Hs a.2.2.2.1).bind fun k=>let j:=i64.wrap a.2.2.2.2.2.1;let i:=i64.wrap (j+1);(Hs a.2.2.2.2.1).bind fun h=>let g:=([((0:Int),k),(i,h)]:List DW);(Hs b.2.2.2).bind fun f=>let e:=i64.wrap b.1;let d:=i64.wrap b.2.1;let c:=i64.wrap b.2.2.1;let w:=([(([99,111,117,114,116]:List UInt8),(1:Int),f,e,d,c)]:List H1);some (D,C,B,A,z,y,([]:List dw),x,m,l,g,w)
def Oy:OQ->Option (OQ⊕(((List bO)×bl))):=fun(x2,x8,x9,x17,x18,x19,a,_)=>let h:=(decide (x19<x18));if h then(Option.bind (show Option (OQ)from(Option.bind ((an x17 x19).map (fun y=>y)) fun(m0,m1,m2,m3,m4,m5,m6,m7,m8,m9,m10,m11,m12,m13,m14,m15)=>(Ot ((m0,m1,m2,m3,m4,m5,m6,m7,m8,m9,m10,m11,m12,m13,m14,m15),x8,x9,x2)).bind fun g=>let b:=([g]:List bO);(if((a.length:Int)+(b.length:Int))*208<=140737488355328/\(a.length:Int)+(b.length:Int)<=4611686018427387904 then some (a++b)else none).bind fun a=>let c:=i64.wrap (x9+1);let f:=(decide (c>x2));if f then(let e:=i64.wrap (x8+1);some (x2,e,(1:Int),x17,x18,x19,a,(),()))else(some (x2,x8,c,x17,x18,x19,a,(),())))) fun(x2,x8,x9,x17,x18,x19,a,_)=>let d:=i64.wrap (x19+1);some (inl (x2,x8,x9,x17,x18,d,a,(),())))else(some (inr (a,(),())))
def Ox:((List L6)×Int×Int)->Option (List bO):=fun(x0,x1,m0)=>let d:=i64.wrap x1;(if m0=0 then none else some (d.tmod m0)).bind fun c=>let b:=i64.wrap (c+1);let a:=(x0.length:Int);Option.bind (iter Oy (m0,(2024:Int),b,x0,a,(0:Int),([]:List bO),(),())) fun(lD,_)=>some lD
def PB(a:Int):Option Bool:=let b:=a;let x4:=(decide (b≥1));let e:=(if x4 then some b else none);Option.bind (if x4 then((e.bind (fun z=>some (z,(18:Int)))).map (fun u=>(decide (u.1<=u.2)))).map some else some none) fun d=>(if x4 then d else some false).bind fun c=>some c
def JZ:(List UInt8×aJ)->Option OP:=fun(x0,x6,x7,_)=>let x:=(decide (x7<x6));if x then((bX x0 x7).bind fun a=>let g:=(decide (a<97));let w:=(if g=false then some a else none);Option.bind (if g=false then((w.bind (fun z=>some (z,(122:Int)))).map (fun u=>(decide (u.1>u.2)))).map some else some none) fun v=>(if g then some true else v.map (fun z=>z)).bind fun b=>let t:=(if b then some a else none);Option.bind (if b then((t.bind (fun z=>some (z,(48:Int)))).map (fun u=>(decide (u.1<u.2)))).map some else some none) fun s=>Option.bind (if b then s.map some else some none) fun f=>let r:=(if f=some false then some a else none);Option.bind (if f=some false then((r.bind (fun z=>some (z,(57:Int)))).map (fun u=>(decide (u.1>u.2)))).map some else some none) fun q=>Option.bind (if b then(f.bind (fun z=>if z then some true else q.map (fun u=>u))).map some else some none) fun p=>(if b then p else some false).bind fun e=>let o:=(if e then some a else none);Option.bind (if e then((o.bind (fun z=>some (z,(46:Int)))).map (fun u=>(u.1 !=u.2))).map some else some none) fun n=>(if e then n else some false).bind fun d=>let m:=(if d then some a else none);Option.bind (if d then((m.bind (fun z=>some (z,(95:Int)))).map (fun u=>(u.1 !=u.2))).map some else some none) fun l=>(if d then l else some false).bind fun c=>let k:=(if c then some a else none);Option.bind (if c then((k.bind (fun z=>some (z,(45:Int)))).map (fun u=>(u.1 !=u.2))).map some else some none) fun j=>(if c then j else some false).bind fun i=>if i then(some (inr (inr false)))else(let h:=i64.wrap (x7+1);some (inl (x0,x6,h,()))))else(some (inr (inl (x0,()))))
def IC(a:List UInt8):Option Bool:=
 let d:=a;let k:=(d.length:Int)
 (iter JZ (d,k,0,())).bind fun o=>
 match o with
 |inl (d,_)=>(
  let c:=(!(d==([]:List UInt8)));let j:=(if c then some d else none)
  Option.bind (if c then((j.bind (fun z=>some (z,([45]:List UInt8)))).map (fun u=>(!(u.1==u.2)))).map some else some none) fun i=>
  (if c then i else some false).bind fun b=>
  let h:=(if b then some d else none)
  Option.bind (if b then(h.map (fun z=>(z.length:Int))).map some else some none) fun g=>
  Option.bind (if b then((g.bind (fun z=>some (z,(32:Int)))).map (fun u=>(decide (u.1<=u.2)))).map some else some none) fun f=>
  (if b then f else some false).bind fun e=>
  some e)
 |inr q359=>(
  some q359)
def Vg(a:List UInt8):Option Bool:=let b:=a;let x4:=((b==([]:List UInt8)));let e:=(if x4=false then some b else none);Option.bind (if x4=false then((e.map (fun z=>z)).bind (fun u=>IC u)).map some else some none) fun d=>(if x4 then some true else d.map (fun z=>z)).bind fun c=>some c
def PE(a:FA):Option Bool:=let c:=a;(IC c.2.2.2.2.2.2.2).bind fun b=>some b
def Abo:(List UInt8×aJ)->Option ((List UInt8×aJ)⊕(Unit⊕Bool)):=fun(x0,x5,x6,_)=>let i:=(decide (x6<x5));if i then((bX x0 x6).bind fun h=>let a:=(decide (h<32));let g:=(if a=false then some x0 else none);let f:=(if a=false then some x6 else none);Option.bind (if a=false then((g.bind (fun z=>f.map (fun u=>(z,u)))).bind (fun v=>bX v.1 v.2)).map some else some none) fun e=>Option.bind (if a=false then((e.bind (fun z=>some (z,(126:Int)))).map (fun u=>(decide (u.1>u.2)))).map some else some none) fun d=>(if a then some true else d.map (fun z=>z)).bind fun c=>if c then(some (inr (inr false)))else(let b:=i64.wrap (x6+1);some (inl (x0,x5,b,()))))else(some (inr (inl (()))))
def PC(a:List UInt8):Option Bool:=let b:=a;let c:=(b.length:Int);(iter Abo (b,c,0,())).bind fun o=>match o with|inl p120=>(some true)|inr q121=>(some q121)
def Vh(a:FA):Option Bool:=let c:=a;(PC c.2.2.2.2.2.2.2).bind fun b=>some b
def Vi(a:FA):Option Bool:=let d:=a;let b:=(!(d.2.2.2.2.2.2.2==([]:List UInt8)));let g:=(if b then some ()else none);Option.bind (if b then(g.map (fun z=>d.2.2.2.2.2.2.2)).map some else some none) fun f=>Option.bind (if b then((f.map (fun z=>z)).bind (fun u=>PC u)).map some else some none) fun e=>(if b then e else some false).bind fun c=>some c
def PA(a:List UInt8):Option Bool:=let b:=a;let x4:=((b==([]:List UInt8)));some x4
def Vl(a:FA):Option Bool:=let c:=a;let b:=((c.2.2.2.2.2.2.2==([]:List UInt8)));some b
def Vm(a:FA):Option Bool:=none
def Vj(a:FA):Option Bool:=none
def Vf(a:FA):Option Bool:=none
def Ve(a:List UInt8):Option Bool:=none
def Vk(a:FA):Option Bool:=none
def PD(a:Unit):Option (List UInt8×Bool×Bool×(aA)×Int×Int×(aB)×List UInt8×Bool×Bool×(aA)×Int×Int×(aB)×List UInt8×Bool×Bool×(aA)×Int×Int×(aB)×List UInt8×Bool×Bool×(aA)×Int×Int×(aB)×List UInt8×Bool×Bool×(aA)×Int×Int×(aB)×List UInt8×Bool×Bool×(aA)×Int×Int×(aB)×List UInt8×Bool×Bool×(aA)×Int×Int×(aB)×List UInt8×Bool×Bool×(aA)×Int×Int×(aB)×List UInt8×Bool×Bool×(aA)×Int×Int×(aB)×List UInt8×Bool×Bool×(aA)×Int×Int×(aB)×List UInt8×Bool×Bool×(aA)×Int×Int×(aB)×List UInt8×Bool×Bool×(aA)×Int×Int×(aB)×List UInt8×Bool×Bool×(aA)×Int×Int×(aB)×List UInt8×Bool×Bool×(aA)×Int×Int×(aB)×List UInt8×Bool×Bool×(aA)×Int×Int×(aB)×List UInt8×Bool×Bool×(aA)×Int×Int×(aB)×List UInt8×Bool×Bool×(aA)×Int×Int×(aB)×List UInt8×Bool×Bool×(aA)×Int×Int×(aB)×List UInt8×Bool×Bool×(aA)×Int×Int×(aB)):=let d:=();let b:=();let c:=();let x4:=();some (([]:List UInt8),false,false,(inr (inr (inr (inr ()))):aA),(0:Int),(0:Int),(inr (inr (inr (inr (inr (inr (inr (inr ()))))))):aB),([101,109,112,108,111,121]:List UInt8),false,true,(inl ():aA),(0:Int),(1:Int),(inl ():aB),([115,97,108,97,114,121]:List UInt8),false,true,(inl ():aA),(0:Int),(1125899906842624:Int),(inl ():aB),([112,97,114,116]:List UInt8),false,true,(inl ():aA),(0:Int),(1000000:Int),(inl ():aB),([104,111,117,114,115]:List UInt8),false,true,(inl ():aA),(0:Int),(0:Int),(inr (inl ()):aB),([99,111,115,116]:List UInt8),false,true,(inl ():aA),(0:Int),(0:Int),(inr (inr (inl ())):aB),([115,104,101,101,116]:List UInt8),false,false,(inr (inl d):aA),(0:Int),(1440:Int),(inr (inr (inr (inl ()))):aB),([97,98,115,101,110,116]:List UInt8),false,true,(inr (inr (inl ())):aA),(0:Int),(1000000:Int),(inl ():aB),([98,111,110,117,115]:List UInt8),false,false,(inr (inr (inr (inl ()))):aA),(-1125899906842624:Int),(1125899906842624:Int),(inl ():aB),([101,110,114,111,108]:List UInt8),false,true,(inr (inr (inr (inl ()))):aA),(0:Int),(1125899906842624:Int),(inl ():aB),([100,101,100,117,99,116]:List UInt8),false,true,(inr (inr (inr (inl ()))):aA),(0:Int),(1125899906842624:Int),(inl ():aB),([99,97,114,100]:List UInt8),false,true,(inl ():aA),(0:Int),(1125899906842624:Int),(inr (inr (inr (inr (inl b)))):aB),([97,116,116,97,99,104]:List UInt8),false,true,(inr (inr (inr (inl ()))):aA),(0:Int),(1125899906842624:Int),(inr (inr (inr (inr (inr (inl ()))))):aB),([98,97,110,107]:List UInt8),false,true,(inl ():aA),(0:Int),(0:Int),(inr (inr (inr (inr (inl b)))):aB),([114,117,108,101]:List UInt8),true,true,(inr (inr (inr (inl ()))):aA),(-1125899906842624:Int),(1125899906842624:Int),(inr (inr (inr (inr (inr (inr (inl c)))))):aB),([101,108,101,109,101,110,116]:List UInt8),true,true,(inr (inr (inr (inl ()))):aA),(0:Int),(0:Int),(inr (inr (inr (inr (inr (inr (inr (inl x4))))))):aB),([104,111,108,105,100,97,121]:List UInt8),true,false,(inl ():aA),(0:Int),(0:Int),(inl ():aB),([103,114,97,110,116]:List UInt8),false,false,(inl ():aA),(0:Int),(100000:Int),(inl ():aB),([99,97,110,99,101,108]:List UInt8),true,false,(inl ():aA),(1:Int),(4096:Int),(inl ():aB))
def P9:(FA×(List UInt8×Bool×Bool×(aA)×Int×Int×(aB)))->Option Int:=fun(x0,m0,m1,m2,m3,m4,m5,m6)=>Option.bind (show Option ((Bool×Int×Int×Int×Int×Int×List UInt8×Int×List UInt8×List UInt8×Bool×Bool×(aA)×Int×Int×(aB)×bZ))from(let e:=(x0.2.2.1==18);let y:=(if e then some ()else none);Option.bind (if e then(y.map (fun z=>x0.2.2.2.1)).map some else some none) fun x=>Option.bind (if e then((x.bind (fun z=>some (z,(0:Int)))).map (fun u=>(u.1 !=u.2))).map some else some none) fun w=>(if e then w else some false).bind fun d=>if d then(some (d,x0.1,x0.2.1,x0.2.2.1,x0.2.2.2.1,x0.2.2.2.2.1,x0.2.2.2.2.2.1,x0.2.2.2.2.2.2.1,x0.2.2.2.2.2.2.2,m0,m1,m2,m3,m4,m5,m6,(),(),(),(),()))else(let c:=(decide (x0.2.2.2.1<(-25567)));let t:=(if c=false then some ()else none);Option.bind (if c=false then(t.map (fun z=>x0.2.2.2.1)).map some else some none) fun s=>Option.bind (if c=false then((s.bind (fun z=>some (z,(84005:Int)))).map (fun u=>(decide (u.1>u.2)))).map some else some none) fun r=>(if c then some true else r.map (fun z=>z)).bind fun q=>some (q,x0.1,x0.2.1,x0.2.2.1,x0.2.2.2.1,x0.2.2.2.2.1,x0.2.2.2.2.2.1,x0.2.2.2.2.2.2.1,x0.2.2.2.2.2.2.2,m0,m1,m2,m3,m4,m5,m6,(),(),(),(),())))) fun(x5,_,_,_,c2_3,c2_4,_,_,_,_,_,c3_2,_)=>if x5 then(some (15:Int))else(let b:=(c2_4 !=0);let p:=(if b then some ()else none);Option.bind (if b then(p.map (fun z=>c3_2)).map some else some none) fun o=>Option.bind (if b then(o.map (fun z=>(!z))).map some else some none) fun n=>Option.bind (if b then n.map some else some none) fun a=>let m:=(if a=some false then some ()else none);Option.bind (if a=some false then(m.map (fun z=>c2_4)).map some else some none) fun l=>let k:=(if a=some false then some ()else none);Option.bind (if a=some false then(k.map (fun z=>c2_3)).map some else some none) fun j=>Option.bind (if a=some false then((l.bind (fun z=>j.map (fun u=>(z,u)))).map (fun v=>(decide (v.1<=v.2)))).map some else some none) fun i=>Option.bind (if b then(a.bind (fun z=>if z then some true else i.map (fun u=>u))).map some else some none) fun h=>(if b then h else some false).bind fun g=>if g then(some (24:Int))else(let f:=(decide (c2_4>84006));if f then(some (15:Int))else(some (0:Int))))
def JY(a:FA):Option Int:=let b:=a;(PB b.2.2.1).bind fun J=>let I:=(!J);if I then(some (11:Int))else((PD ()).bind fun(m7,m8,m9,m10,m11,m12,m13,m14,m15,m16,m17,m18,m19,m20,m21,m22,m23,m24,m25,m26,m27,m28,m29,m30,m31,m32,m33,m34,m35,m36,m37,m38,m39,m40,m41,m42,m43,m44,m45,m46,m47,m48,m49,m50,m51,m52,m53,m54,m55,m56,m57,m58,m59,m60,m61,m62,m63,m64,m65,m66,m67,m68,m69,m70,m71,m72,m73,m74,m75,m76,m77,m78,m79,m80,m81,m82,m83,m84,m85,m86,m87,m88,m89,m90,m91,m92,m93,m94,m95,m96,m97,m98,m99,m100,m101,m102,m103,m104,m105,m106,m107,m108,m109,m110,m111,m112,m113,m114,m115,m116,m117,m118,m119,m120,m121,m122,m123,m124,m125,m126,m127,m128,m129,m130,m131,m132,m133,m134,m135,m136,m137,m138,m139)=>Option.bind (an ([(m7,m8,m9,m10,m11,m12,m13),(m14,m15,m16,m17,m18,m19,m20),(m21,m22,m23,m24,m25,m26,m27),(m28,m29,m30,m31,m32,m33,m34),(m35,m36,m37,m38,m39,m40,m41),(m42,m43,m44,m45,m46,m47,m48),(m49,m50,m51,m52,m53,m54,m55),(m56,m57,m58,m59,m60,m61,m62),(m63,m64,m65,m66,m67,m68,m69),(m70,m71,m72,m73,m74,m75,m76),(m77,m78,m79,m80,m81,m82,m83),(m84,m85,m86,m87,m88,m89,m90),(m91,m92,m93,m94,m95,m96,m97),(m98,m99,m100,m101,m102,m103,m104),(m105,m106,m107,m108,m109,m110,m111),(m112,m113,m114,m115,m116,m117,m118),(m119,m120,m121,m122,m123,m124,m125),(m126,m127,m128,m129,m130,m131,m132),(m133,m134,m135,m136,m137,m138,m139)]:List (List UInt8×Bool×Bool×(aA)×Int×Int×(aB))) b.2.2.1) fun(m0,m1,m2,m3,m4,m5,m6)=>let H:=(b.2.1==0);let G:=(!(m1==H));if G then(some (2:Int))else((P9 ((b.1,b.2.1,b.2.2.1,b.2.2.2.1,b.2.2.2.2.1,b.2.2.2.2.2.1,b.2.2.2.2.2.2.1,b.2.2.2.2.2.2.2),(m0,m1,m2,m3,m4,m5,m6))).bind fun d=>let F:=(d !=0);if F then(some d)else(Option.bind (match m3 with|inl c110=>(PA b.2.2.2.2.2.1).map (fun p=>p)|inr c111=>(match c111 with|inl c113=>(Vg b.2.2.2.2.2.1).map (fun o=>o)|inr c114=>(match c114 with|inl c116=>(Ve b.2.2.2.2.2.1).map (fun n=>n)|inr c117=>(match c117 with|inl c119=>(IC b.2.2.2.2.2.1).map (fun m=>m)|inr c120=>(none))))) fun E=>let D:=(!E);if D then(some (12:Int))else(let c:=(decide (b.2.2.2.2.2.2.1<m4));let C:=(if c=false then some ()else none);Option.bind (if c=false then(C.map (fun z=>b.2.2.2.2.2.2.1)).map some else some none) fun B=>let A:=(if c=false then some ()else none);Option.bind (if c=false then(A.map (fun z=>m5)).map some else some none) fun y=>Option.bind (if c=false then((B.bind (fun z=>y.map (fun u=>(z,u)))).map (fun v=>(decide (v.1>v.2)))).map some else some none) fun x=>(if c then some true else x.map (fun z=>z)).bind fun w=>if w then(some (2:Int))else(let t:=(b.2.2.2.2.2.2.2.length:Int);let s:=(decide (t>4096));if s then(some (4:Int))else(Option.bind (match m6 with|inl c188=>(Vl (b.1,b.2.1,b.2.2.1,b.2.2.2.1,b.2.2.2.2.1,b.2.2.2.2.2.1,b.2.2.2.2.2.2.1,b.2.2.2.2.2.2.2)).map (fun l=>l)|inr c189=>(match c189 with|inl c191=>(Vm (b.1,b.2.1,b.2.2.1,b.2.2.2.1,b.2.2.2.2.1,b.2.2.2.2.2.1,b.2.2.2.2.2.2.1,b.2.2.2.2.2.2.2)).map (fun k=>k)|inr c192=>(match c192 with|inl c194=>(Vj (b.1,b.2.1,b.2.2.1,b.2.2.2.1,b.2.2.2.2.1,b.2.2.2.2.2.1,b.2.2.2.2.2.2.1,b.2.2.2.2.2.2.2)).map (fun j=>j)|inr c195=>(match c195 with|inl c197=>(Vf (b.1,b.2.1,b.2.2.1,b.2.2.2.1,b.2.2.2.2.1,b.2.2.2.2.2.1,b.2.2.2.2.2.2.1,b.2.2.2.2.2.2.2)).map (fun i=>i)|inr c198=>(match c198 with|inl c200=>(PE (b.1,b.2.1,b.2.2.1,b.2.2.2.1,b.2.2.2.2.1,b.2.2.2.2.2.1,b.2.2.2.2.2.2.1,b.2.2.2.2.2.2.2)).map (fun h=>h)|inr c201=>(match c201 with|inl c203=>(Vk (b.1,b.2.1,b.2.2.1,b.2.2.2.1,b.2.2.2.2.1,b.2.2.2.2.2.1,b.2.2.2.2.2.2.1,b.2.2.2.2.2.2.2)).map (fun g=>g)|inr c204=>(match c204 with|inl c206=>(Vh (b.1,b.2.1,b.2.2.1,b.2.2.2.1,b.2.2.2.2.1,b.2.2.2.2.2.1,b.2.2.2.2.2.2.1,b.2.2.2.2.2.2.2)).map (fun f=>f)|inr c207=>(match c207 with|inl c209=>(Vi (b.1,b.2.1,b.2.2.1,b.2.2.2.1,b.2.2.2.2.1,b.2.2.2.2.2.1,b.2.2.2.2.2.2.1,b.2.2.2.2.2.2.2)).map (fun e=>e)|inr c210=>(none))))))))) fun r=>let q:=(!r);if q then(some (3:Int))else(some (0:Int))))))))
def RF(a:List UInt8):Option Bool:=let d:=a;(JY (0,1,13,0,0,([]:List UInt8),0,d)).bind fun c=>let b:=(c==0);some b
def Df(a:Int):Option Bool:=let b:=a;let x4:=(decide (b≥(-1125899906842624)));let e:=(if x4 then some b else none);Option.bind (if x4 then((e.bind (fun z=>some (z,(1125899906842624:Int)))).map (fun u=>(decide (u.1<=u.2)))).map some else some none) fun d=>(if x4 then d else some false).bind fun c=>some c
def O6:(Int×ag×aJ)->Option ((Int×ag×aJ)⊕(Unit⊕Int)):=fun(x1,x10,x11,x12,_)=>let h:=(decide (x12<x11));if h then(((an x10 x12).map (fun y=>y)).bind fun a=>(RF a.1).bind fun g=>let f:=(!g);if f then(some (inr (inr (12:Int))))else(Option.bind (show Option ((Int×ag×Int×Int×Bool×Unit))from(let b:=(decide (a.2<x1));if b then(some (x1,x10,x11,x12,b,()))else((Df a.2).bind fun e=>let d:=(!e);some (x1,x10,x11,x12,d,())))) fun(x1,x10,x11,x12,x21,_)=>if x21 then(some (inr (inr (2:Int))))else(let c:=i64.wrap (x12+1);some (inl (x1,x10,x11,c,())))))else(some (inr (inl (()))))
def Lo:(ag×Int)->Option Int:=fun(x0,m0)=>let c:=(x0.length:Int);let b:=(decide (c>64));if b then(some (5:Int))else(let a:=(x0.length:Int);(iter O6 (m0,x0,a,0,())).bind fun o=>match o with|inl p1=>(some (0:Int))|inr q2=>(some q2))
def O5:(Fq×bO)->Option Int:=fun(x0,m0,m1,m2,m3,m4,m5,m6,m7,m8,m9,m10,m11)=>let e:=(x0.1==m0);let W:=(if e then some ()else none);Option.bind (if e then(W.map (fun z=>x0.2.2.1)).map some else some none) fun V=>let U:=(if e then some ()else none);Option.bind (if e then(U.map (fun z=>m2)).map some else some none) fun T=>Option.bind (if e then((V.bind (fun z=>T.map (fun u=>(z,u)))).map (fun v=>(v.1==v.2))).map some else some none) fun S=>(if e then S else some false).bind fun c=>let R:=(if c then some ()else none);Option.bind (if c then(R.map (fun z=>x0.2.1)).map some else some none) fun Q=>Option.bind (if c then((Q.bind (fun z=>some (z,(1:Int)))).map (fun u=>i64.wrap (u.1+u.2))).map some else some none) fun P=>let O:=(if c then some ()else none);Option.bind (if c then(O.map (fun z=>m1)).map some else some none) fun N=>Option.bind (if c then((P.bind (fun z=>N.map (fun u=>(z,u)))).map (fun v=>(v.1==v.2))).map some else some none) fun M=>(if c then M else some false).bind fun a=>let L:=(if a=false then some ()else none);Option.bind (if a=false then(L.map (fun z=>x0.2.1)).map some else some none) fun K=>let J:=(if a=false then some ()else none);Option.bind (if a=false then(J.map (fun z=>x0.2.2.1)).map some else some none) fun I=>Option.bind (if a=false then((K.bind (fun z=>I.map (fun u=>(z,u)))).map (fun v=>(v.1==v.2))).map some else some none) fun H=>Option.bind (if a=false then H.map some else some none) fun b=>let G:=(if b=some true then some ()else none);Option.bind (if b=some true then(G.map (fun z=>x0.1)).map some else some none) fun F=>Option.bind (if b=some true then((F.bind (fun z=>some (z,(1:Int)))).map (fun u=>i64.wrap (u.1+u.2))).map some else some none) fun E=>let D:=(if b=some true then some ()else none);Option.bind (if b=some true then(D.map (fun z=>m0)).map some else some none) fun C=>Option.bind (if b=some true then((E.bind (fun z=>C.map (fun u=>(z,u)))).map (fun v=>(v.1==v.2))).map some else some none) fun B=>Option.bind (if a=false then(b.bind (fun z=>if z then B else some false)).map some else some none) fun A=>Option.bind (if a=false then A.map some else some none) fun f=>let y:=(if f=some true then some ()else none);Option.bind (if f=some true then(y.map (fun z=>m1)).map some else some none) fun x=>Option.bind (if f=some true then((x.bind (fun z=>some (z,(1:Int)))).map (fun u=>(u.1==u.2))).map some else some none) fun w=>Option.bind (if a=false then(f.bind (fun z=>if z then w else some false)).map some else some none) fun t=>(if a then some true else t.map (fun z=>z)).bind fun d=>Option.bind (show Option ((Bool×Bool×Int×Int×Int×ag×ax×Int×Int×ag×Int×Int×Int×ag×ag×ag×Dp×bn×Int×Int×Cs×aI×bZ))from(let m:=(decide (m0<1900));if m then(some (d,m,x0.1,x0.2.1,x0.2.2.1,x0.2.2.2.1,x0.2.2.2.2.1,x0.2.2.2.2.2.1,x0.2.2.2.2.2.2.1,x0.2.2.2.2.2.2.2,m0,m1,m2,m3,m4,m5,m6,m7,m8,m9,m10,m11,(),(),(),(),()))else(let l:=(decide (m0>2199));if l then(some (d,l,x0.1,x0.2.1,x0.2.2.1,x0.2.2.2.1,x0.2.2.2.2.1,x0.2.2.2.2.2.1,x0.2.2.2.2.2.2.1,x0.2.2.2.2.2.2.2,m0,m1,m2,m3,m4,m5,m6,m7,m8,m9,m10,m11,(),(),(),(),()))else(let k:=(decide (m2<1));if k then(some (d,k,x0.1,x0.2.1,x0.2.2.1,x0.2.2.2.1,x0.2.2.2.2.1,x0.2.2.2.2.2.1,x0.2.2.2.2.2.2.1,x0.2.2.2.2.2.2.2,m0,m1,m2,m3,m4,m5,m6,m7,m8,m9,m10,m11,(),(),(),(),()))else(let j:=(decide (m2>400));if j then(some (d,j,x0.1,x0.2.1,x0.2.2.1,x0.2.2.2.1,x0.2.2.2.2.1,x0.2.2.2.2.2.1,x0.2.2.2.2.2.2.1,x0.2.2.2.2.2.2.2,m0,m1,m2,m3,m4,m5,m6,m7,m8,m9,m10,m11,(),(),(),(),()))else(let i:=(decide (m1<1));if i then(some (d,i,x0.1,x0.2.1,x0.2.2.1,x0.2.2.2.1,x0.2.2.2.2.1,x0.2.2.2.2.2.1,x0.2.2.2.2.2.2.1,x0.2.2.2.2.2.2.2,m0,m1,m2,m3,m4,m5,m6,m7,m8,m9,m10,m11,(),(),(),(),()))else(let s:=(decide (m1>m2));some (d,s,x0.1,x0.2.1,x0.2.2.1,x0.2.2.2.1,x0.2.2.2.2.1,x0.2.2.2.2.2.1,x0.2.2.2.2.2.2.1,x0.2.2.2.2.2.2.2,m0,m1,m2,m3,m4,m5,m6,m7,m8,m9,m10,m11,(),(),(),(),())))))))) fun(x5,x47,_,c2_1,_,_,_,_,_,_,_,_,_,c3_3,_,c3_5,_)=>if x47 then(some (2:Int))else(let g:=(decide (c2_1>0));let r:=(if g then some x5 else none);Option.bind (if g then(r.map (fun z=>(!z))).map some else some none) fun q=>(if g then q else some false).bind fun p=>if p then(some (8:Int))else((Lo (c3_3,(-1125899906842624))).bind fun h=>let o:=(h !=0);if o then(some h)else((Lo (c3_5,0)).bind fun n=>some n)))
def Mc:(Int×Int×Int)->Option DW:=fun(x0,x1,m0)=>Option.bind (show Option ((Int×Bool×Unit))from((Df x0).bind fun f=>let a:=(!f);if a then(some (m0,a,()))else((Df x1).bind fun e=>let d:=(!e);some (m0,d,())))) fun(m0,x8,_)=>if x8 then(some ((0:Int),(2:Int)))else((Df m0).bind fun c=>let b:=(!c);if b then(some ((0:Int),(9:Int)))else(some (m0,(0:Int))))
def Ma:(Int×Int)->Option DW:=fun(x0,m0)=>let b:=i64.wrap (x0+m0);(Mc (x0,m0,b)).bind fun a=>some (a.1,a.2)
def JF:(Int×List Int×aJ)->Option ((Int×List Int×aJ)⊕((Int×Unit)⊕DW)):=fun(x4,x9,x10,x11,_)=>let e:=(decide (x11<x10));if e then(((an x9 x11).map (fun y=>y)).bind fun d=>(Ma (x4,d)).bind fun a=>let c:=(a.2 !=0);if c then(some (inr (inr ((0:Int),a.2))))else(let b:=i64.wrap (x11+1);some (inl (a.1,x9,x10,b,()))))else(some (inr (inl (x4,()))))
def Mb(a:List Int):Option DW:=
 let c:=a;let b:=(c.length:Int)
 (iter JF (0,c,b,0,())).bind fun o=>
 match o with
 |inl (x4,_)=>(
  some (x4,(0:Int)))
 |inr q2=>(
  some q2)
def LU:(ag×Int×Int×List Int×bl)->Option ((ag×Int×Int×List Int×bl)⊕((List Int×bl))):=fun(x7,x8,x9,b,_)=>let e:=(decide (x9<x8));if e then(((an x7 x9).map (fun y=>y)).bind fun d=>let a:=([d.2]:List Int);(if((b.length:Int)+(a.length:Int))*8<=140737488355328/\(b.length:Int)+(a.length:Int)<=4611686018427387904 then some (b++a)else none).bind fun b=>let c:=i64.wrap (x9+1);some (inl (x7,x8,c,b,(),())))else(some (inr (b,(),())))
def J6(a:ag):Option DW:=let c:=a;let d:=(c.length:Int);Option.bind (iter LU (c,d,0,([]:List Int),(),())) fun(lA,_)=>(Mb lA).bind fun b=>some (b.1,b.2)
def O8:(Int×ag×Int×Int×Int×Int×Int×ag×ax×Int×Int×ag×Int×Int×Int×ag×ag×ag×Dp×bn×Int×Int×Cs×aI×Int×Int×Int×Gi×Unit×be)->Option (T3⊕(cr)):=fun(x1,x8,x9,x10,cG0,cG1,cG2,cG3,cG4,cG5,cG6,cG7,cG8,cG9,cG10,cG11,cG12,cG13,cG14,cG15,cG16,cG17,cG18,cG19,cG21,cG22,cG23,b,_)=>let k:=(decide (x10<x9));if k then(Option.bind (show Option (T3)from(((an x8 x10).map (fun y=>y)).bind fun a=>let j:=(AW (aj (.agg (.cons (.int .i64) (.one .str)))) (AT (.int .i64)) (x1,a.1) b).1;let i:=i64.wrap (j+a.2);let b:=Bw (aj (.agg (.cons (.int .i64) (.one .str)))) (x1,a.1) ((AW (aj (.agg (.cons (.int .i64) (.one .str)))) (AT (.int .i64)) (x1,a.1) b).1) b;(if(AW (aj (.agg (.cons (.int .i64) (.one .str)))) (AT (.int .i64)) (x1,a.1) b).2=true then some (Bw (aj (.agg (.cons (.int .i64) (.one .str)))) (x1,a.1) i b)else none).bind fun b=>let c:=(x1 !=0);let h:=(if c then some x1 else none);Option.bind (if c then((h.bind (fun z=>some (z,(6:Int)))).map (fun u=>(u.1 !=u.2))).map some else some none) fun g=>(if c then g else some false).bind fun f=>if f then(let e:=i64.wrap (cG23-a.2);some (x1,x8,x9,x10,cG0,cG1,cG2,cG3,cG4,cG5,cG6,cG7,cG8,cG9,cG10,cG11,cG12,cG13,cG14,cG15,cG16,cG17,cG18,cG19,cG21,cG22,e,b,(),(),(),()))else(some (x1,x8,x9,x10,cG0,cG1,cG2,cG3,cG4,cG5,cG6,cG7,cG8,cG9,cG10,cG11,cG12,cG13,cG14,cG15,cG16,cG17,cG18,cG19,cG21,cG22,cG23,b,(),(),(),())))) fun(x1,x8,x9,x10,cG0,cG1,cG2,cG3,cG4,cG5,cG6,cG7,cG8,cG9,cG10,cG11,cG12,cG13,cG14,cG15,cG16,cG17,cG18,cG19,cG21,cG22,cG23,b,_)=>let d:=i64.wrap (x10+1);some (inl (x1,x8,x9,d,cG0,cG1,cG2,cG3,cG4,cG5,cG6,cG7,cG8,cG9,cG10,cG11,cG12,cG13,cG14,cG15,cG16,cG17,cG18,cG19,cG21,cG22,cG23,b,(),(),(),())))else(some (inr (cG0,cG1,cG2,cG3,cG4,cG5,cG6,cG7,cG8,cG9,cG10,cG11,cG12,cG13,cG14,cG15,cG16,cG17,cG18,cG19,cG21,cG22,cG23,b,(),(),())))
def EQ:(Unit×Int×ag)->(Int×cd)->Option (Unit×cr):=fun(_,x1,m0)=>fun(cG0,cG1,cG2,cG3,cG4,cG5,cG6,cG7,cG8,cG9,cG10,cG11,cG12,cG13,cG14,cG15,cG16,cG17,cG18,cG19,cG21,cG22,cG23,lF,_)=>let a:=(m0.length:Int);Option.bind (iter O8 (x1,m0,a,0,cG0,cG1,cG2,cG3,cG4,cG5,cG6,cG7,cG8,cG9,cG10,cG11,cG12,cG13,cG14,cG15,cG16,cG17,cG18,cG19,cG21,cG22,cG23,lF,(),(),(),())) fun(cG0,cG1,cG2,cG3,cG4,cG5,cG6,cG7,cG8,cG9,cG10,cG11,cG12,cG13,cG14,cG15,cG16,cG17,cG18,cG19,cG21,cG22,cG23,lF,_)=>some ((),(cG0,cG1,cG2,cG3,cG4,cG5,cG6,cG7,cG8,cG9,cG10,cG11,cG12,cG13,cG14,cG15,cG16,cG17,cG18,cG19,cG21,cG22,cG23,lF,(),(),()))
def Lp:Unit->(Int×cd)->Option (Int×cr):=fun a=>fun(cG0,cG1,cG2,cG3,cG4,cG5,cG6,cG7,cG8,cG9,cG10,cG11,cG12,cG13,cG14,cG15,cG16,cG17,cG18,cG19,_,_,_,lF,_)=>(J6 cG11).bind fun b=>Option.bind (EQ ((),0,cG11) (cG0,cG1,cG2,cG3,cG4,cG5,cG6,cG7,cG8,cG9,cG10,cG11,cG12,cG13,cG14,cG15,cG16,cG17,cG18,cG19,b.1,b.1,b.1,lF,(),(),())) fun(_,m0,m1,m2,m3,m4,m5,m6,m7,m8,m9,m10,m11,m12,m13,m14,m15,m16,m17,m18,m19,m20,m21,m22,m23,_)=>some (b.2,(m0,m1,m2,m3,m4,m5,m6,m7,m8,m9,m10,m11,m12,m13,m14,m15,m16,m17,m18,m19,m20,m21,m22,m23,(),(),()))
def J9(a:List UInt8):Option Bool:=let d:=a;(JY (0,1,13,0,0,([]:List UInt8),0,d)).bind fun c=>let b:=(c==0);some b
def H6(a:Int):Option Bool:=let b:=a;let x4:=(decide (b≥0));let e:=(if x4 then some b else none);Option.bind (if x4 then((e.bind (fun z=>some (z,(1125899906842624:Int)))).map (fun u=>(decide (u.1<=u.2)))).map some else some none) fun d=>(if x4 then d else some false).bind fun c=>some c
def J8:(Dp×Int×Int×(List DV)×bl)->Option ((Dp×Int×Int×(List DV)×bl)⊕(((List DV)×bl)⊕((List DV)×Int))):=fun(x13,x14,x15,b,_)=>let k:=(decide (x15<x14));if k then(((an x13 x15).map (fun y=>y)).bind fun a=>let j:=AW (aj .str) (AT (.agg (.cons .str (.cons (.int .i64) (.one (.int .i64)))))) a.1 b;(J9 a.1).bind fun i=>let h:=(!i);if h then(some (inr (inr (([]:List DV),(12:Int)))))else(if j.2 then(some (inr (inr (([]:List DV),(7:Int)))))else(Option.bind (show Option ((Dp×Int×Int×Bool×List UInt8×Int×Int×(List DV)×Unit×be))from(let d:=(decide (a.2.1<0));if d then(some (x13,x14,x15,d,a.1,a.2.1,a.2.2,b,(),(),(),()))else(let c:=(decide (a.2.1>1000000));if c then(some (x13,x14,x15,c,a.1,a.2.1,a.2.2,b,(),(),(),()))else((H6 a.2.2).bind fun g=>let f:=(!g);some (x13,x14,x15,f,a.1,a.2.1,a.2.2,b,(),(),(),()))))) fun(x13,x14,x15,x33,c6_0,c6_1,c6_2,b,_)=>if x33 then(some (inr (inr (([]:List DV),(2:Int)))))else(let b:=Bw (aj .str) c6_0 (c6_0,c6_1,c6_2) b;let e:=i64.wrap (x15+1);some (inl (x13,x14,e,b,(),()))))))else(some (inr (inl (b,(),()))))
def LV(a:Dp):Option ((List DV)×Int):=
 let e:=a;let d:=(e.length:Int);let c:=(decide (d>64))
 if c then(
  some (([]:List DV),(5:Int)))
 else(
  let b:=(e.length:Int)
  (iter J8 (e,b,(0:Int),([]:List DV),(),())).bind fun o=>
  match o with
  |inl (l12,_)=>(
   some (l12,(0:Int)))
  |inr q2=>(
   some q2))
def HA:(Int×Int)->Option Int:=fun(x0,m0)=>let a:=(max x0 m0);some a
def FD:(Int×Int)->Option Int:=fun(x0,m0)=>let a:=(min x0 m0);some a
def KV(a:Int):Option Bool:=let b:=a;let x4:=(decide (b≥(-1125899906842624)));let e:=(if x4 then some b else none);Option.bind (if x4 then((e.bind (fun z=>some (z,(1125899906842624:Int)))).map (fun u=>(decide (u.1<=u.2)))).map some else some none) fun d=>(if x4 then d else some false).bind fun c=>some c
def N4(a:Int):Option Bool:=let b:=a;let x4:=(decide (b≥(-1000000000)));let e:=(if x4 then some b else none);Option.bind (if x4 then((e.bind (fun z=>some (z,(1000000000:Int)))).map (fun u=>(decide (u.1<=u.2)))).map some else some none) fun d=>(if x4 then d else some false).bind fun c=>some c
def KW(a:Int):Option Int:=let b:=a;let x4:=(decide (b<0));if x4 then(let e:=u64.wrap b;let d:=u64.wrap (0-e);some d)else(let c:=u64.wrap b;some c)
def Nh:(Int×Int)->Option DW:=fun(x0,m0)=>let e:=BS .and .u64 x0 (4294967295:Int);(if(32:Int)<0 then none else some (x0.fdiv (2^(min (32:Int).toNat 64)))).bind fun d=>let c:=BS .and .u64 m0 (4294967295:Int);(if(32:Int)<0 then none else some (m0.fdiv (2^(min (32:Int).toNat 64)))).bind fun b=>let q:=u64.wrap (e*c);let p:=u64.wrap (d*c);(if(32:Int)<0 then none else some (q.fdiv (2^(min (32:Int).toNat 64)))).bind fun o=>let a:=u64.wrap (p+o);let n:=BS .and .u64 a (4294967295:Int);(if(32:Int)<0 then none else some (a.fdiv (2^(min (32:Int).toNat 64)))).bind fun m=>let l:=u64.wrap (e*b);let k:=u64.wrap (n+l);let j:=u64.wrap (d*b);let i:=u64.wrap (j+m);(if(32:Int)<0 then none else some (k.fdiv (2^(min (32:Int).toNat 64)))).bind fun h=>let g:=u64.wrap (i+h);let f:=u64.wrap (x0*m0);some (g,f)
def Ng(a:Int):Option Int:=let b:=a;Option.bind (show Option ((Int×Int×Unit))from(let x4:=(decide (b≥4294967296));if x4 then((if(32:Int)<0 then none else some (b.fdiv (2^(min (32:Int).toNat 64)))).bind fun m=>some (m,(32:Int),()))else(some (b,(0:Int),())))) fun(b,x2,_)=>Option.bind (show Option ((Int×Int×Unit))from(let l:=(decide (b≥65536));if l then((if(16:Int)<0 then none else some (b.fdiv (2^(min (16:Int).toNat 64)))).bind fun k=>let j:=i64.wrap (x2+16);some (k,j,()))else(some (b,x2,())))) fun(b,x2,_)=>Option.bind (show Option ((Int×Int×Unit))from(let i:=(decide (b≥256));if i then((if(8:Int)<0 then none else some (b.fdiv (2^(min (8:Int).toNat 64)))).bind fun h=>let g:=i64.wrap (x2+8);some (h,g,()))else(some (b,x2,())))) fun(b,x2,_)=>let f:=u8.wrap b;(bX ([0,1,2,2,3,3,3,3,4,4,4,4,4,4,4,4,5,5,5,5,5,5,5,5,5,5,5,5,5,5,5,5,6,6,6,6,6,6,6,6,6,6,6,6,6,6,6,6,6,6,6,6,6,6,6,6,6,6,6,6,6,6,6,6,7,7,7,7,7,7,7,7,7,7,7,7,7,7,7,7,7,7,7,7,7,7,7,7,7,7,7,7,7,7,7,7,7,7,7,7,7,7,7,7,7,7,7,7,7,7,7,7,7,7,7,7,7,7,7,7,7,7,7,7,7,7,7,7,8,8,8,8,8,8,8,8,8,8,8,8,8,8,8,8,8,8,8,8,8,8,8,8,8,8,8,8,8,8,8,8,8,8,8,8,8,8,8,8,8,8,8,8,8,8,8,8,8,8,8,8,8,8,8,8,8,8,8,8,8,8,8,8,8,8,8,8,8,8,8,8,8,8,8,8,8,8,8,8,8,8,8,8,8,8,8,8,8,8,8,8,8,8,8,8,8,8,8,8,8,8,8,8,8,8,8,8,8,8,8,8,8,8,8,8,8,8,8,8,8,8,8,8,8,8,8,8]:List UInt8) f).bind fun e=>let d:=i64.wrap e;let c:=i64.wrap (x2+d);some c
def Nf(a:Int):Option Int:=let c:=a;(Ng c).bind fun x4=>let b:=i64.wrap ((64:Int)-x4);some b
def Nc:(Int×Int×Iq)->Option ((Int×Int×Iq)⊕((Int×Iq))):=fun(x2,x8,x9,x10,x11,x13,x14,x15,x16,_)=>let a:=(decide (x15≥4294967296));let m:=(if a=false then some x15 else none);let l:=(if a=false then some x10 else none);Option.bind (if a=false then((m.bind (fun z=>l.map (fun u=>(z,u)))).map (fun v=>u64.wrap (v.1*v.2))).map some else some none) fun k=>let j:=(if a=false then some x16 else none);Option.bind (if a=false then((j.map (fun z=>((4294967296:Int),z))).map (fun u=>u64.wrap (u.1*u.2))).map some else some none) fun i=>let h:=(if a=false then some x13 else none);Option.bind (if a=false then((i.bind (fun z=>h.map (fun u=>(z,u)))).map (fun v=>u64.wrap (v.1+v.2))).map some else some none) fun g=>Option.bind (if a=false then((k.bind (fun z=>g.map (fun u=>(z,u)))).map (fun v=>(decide (v.1>v.2)))).map some else some none) fun f=>(if a then some true else f.map (fun z=>z)).bind fun e=>if e then(let c:=u64.wrap (x15-1);let b:=u64.wrap (x16+x9);let d:=(decide (b≥4294967296));if d then(some (inr (x2,x8,x9,x10,x11,x13,x14,c,())))else(some (inl (x2,x8,x9,x10,x11,x13,x14,c,b,()))))else(some (inr (x2,x8,x9,x10,x11,x13,x14,x15,())))
def Nd:(Int×Int×Iq)->Option ((Int×Int×Iq)⊕((Int×Int×Int×Int×aJ))):=fun(x2,x8,x9,x10,x14,x15,x16,x17,x18,_)=>let a:=(decide (x18≥4294967296));let m:=(if a=false then some x18 else none);let l:=(if a=false then some x10 else none);Option.bind (if a=false then((m.bind (fun z=>l.map (fun u=>(z,u)))).map (fun v=>u64.wrap (v.1*v.2))).map some else some none) fun k=>let j:=(if a=false then some x16 else none);Option.bind (if a=false then((j.map (fun z=>((4294967296:Int),z))).map (fun u=>u64.wrap (u.1*u.2))).map some else some none) fun i=>let h:=(if a=false then some x14 else none);Option.bind (if a=false then((i.bind (fun z=>h.map (fun u=>(z,u)))).map (fun v=>u64.wrap (v.1+v.2))).map some else some none) fun g=>Option.bind (if a=false then((k.bind (fun z=>g.map (fun u=>(z,u)))).map (fun v=>(decide (v.1>v.2)))).map some else some none) fun f=>(if a then some true else f.map (fun z=>z)).bind fun e=>if e then(let c:=u64.wrap (x18-1);let b:=u64.wrap (x16+x9);let d:=(decide (b≥4294967296));if d then(some (inr (x2,x8,x14,x15,x17,c,())))else(some (inl (x2,x8,x9,x10,x14,x15,b,x17,c,()))))else(some (inr (x2,x8,x14,x15,x17,x18,())))
def Kx:(Int×Int×Int)->Option DW:=fun(x0,x1,m0)=>let H:=(m0==0);if H then(none)else(let G:=(decide (m0<=x0));if G then(none)else(let F:=(x0==0);if F then((if m0=0 then none else some (u64.wrap (x1.tdiv m0))).bind fun E=>(if m0=0 then none else some (x1.tmod m0)).bind fun D=>some (E,D))else((Nf m0).bind fun C=>let a:=u64.wrap C;(if a<0 then none else some (u64.wrap (m0*2^(min a.toNat 64)))).bind fun e=>(if(32:Int)<0 then none else some (e.fdiv (2^(min (32:Int).toNat 64)))).bind fun b=>let B:=BS .and .u64 e (4294967295:Int);(if a<0 then none else some (u64.wrap (x0*2^(min a.toNat 64)))).bind fun A=>let i:=u64.wrap ((64:Int)-a);(if i<0 then none else some (x1.fdiv (2^(min i.toNat 64)))).bind fun z=>let d:=BS .or .u64 A z;(if a<0 then none else some (u64.wrap (x1*2^(min a.toNat 64)))).bind fun h=>(if(32:Int)<0 then none else some (h.fdiv (2^(min (32:Int).toNat 64)))).bind fun y=>let x:=BS .and .u64 h (4294967295:Int);(if b=0 then none else some (u64.wrap (d.tdiv b))).bind fun g=>let w:=u64.wrap (g*b);let v:=u64.wrap (d-w);Option.bind (show Option ((Int×Iq))from(Option.bind (iter Nc (e,a,b,B,d,y,x,g,v,())) fun(m0,x8,x9,x10,x11,x13,x14,x15,_)=>some (m0,x8,x9,x10,x11,x13,x14,x15,()))) fun(m0,x8,x9,x10,x11,x13,x14,x15,_)=>let u:=u64.wrap (x11*4294967296);let t:=u64.wrap (u+x13);let s:=u64.wrap (x15*m0);let c:=u64.wrap (t-s);(if x9=0 then none else some (u64.wrap (c.tdiv x9))).bind fun f=>let r:=u64.wrap (f*x9);let q:=u64.wrap (c-r);Option.bind (show Option ((Int×Int×Int×Int×aJ))from(Option.bind (iter Nd (m0,x8,x9,x10,x14,x15,q,c,f,())) fun(m0,x8,x14,x15,x17,x18,_)=>some (m0,x8,x14,x15,x17,x18,()))) fun(m0,x8,x14,x15,x17,x18,_)=>let p:=u64.wrap (x15*4294967296);let o:=u64.wrap (p+x18);let n:=u64.wrap (x17*4294967296);let m:=u64.wrap (n+x14);let l:=u64.wrap (x18*m0);let k:=u64.wrap (m-l);(if x8<0 then none else some (k.fdiv (2^(min x8.toNat 64)))).bind fun j=>some (o,j))))
def N5:(Bool×Int×Eo)->Option Bool:=
 fun(x0,x1,x2,x3,m0)=>
 Option.bind (show Option ((Bool×Unit))from(
  Option.bind (show Option ((Int×Int×Unit)⊕(Bool×Unit))from(
   (show Option ((Int×Unit)⊕(Int×aJ)⊕(Int×Int×Unit)⊕(Bool×Unit))from(
    let l:=(m0==4)
    if l then(
     let h:=(!x0)
     if h then(
      some (inr (inr (inr (false,())))))
     else(
      some (inl (x2,()))))
    else(
     let k:=(m0==3)
     if k then(
      some (inl (x2,())))
     else(
      let j:=(m0==2)
      if j then(
         some (inr (inl (x1,x2,x3,()))))
      else(
         let i:=(m0==1)
         if i then(
          some (inr (inr (inl (x2,x3,())))))
         else(
          some (inr (inr (inr (false,())))))))))).bind fun o=>
   match o with
   |inl (x2,_)=>(
    let g:=(decide (x2>0))
    some (inr (g,())))
   |inr q2=>(
    match q2 with
    |inl (x1,x2,x3,_)=>(
     let f:=u64.wrap (x3-x2);let e:=(x2==f)
     if e then(
      (if(2:Int)=0 then none else some (x1.tmod (2:Int))).bind fun d=>
      let c:=(d==1)
      some (inr (c,())))
     else(
      some (inl (x2,x3,()))))
    |inr q4=>(
     match q4 with
     |inl (x2,x3,_)=>(
      some (inl (x2,x3,())))
     |inr (x11,_)=>(
      some (inr (x11,()))))))) fun o=>
  match o with
  |inl (x2,x3,_)=>(
   let b:=u64.wrap (x3-x2);let a:=(decide (x2≥b))
   some (a,()))
  |inr (x11,_)=>(
   some (x11,())))) fun(x11,_)=>
 some x11
def N3:(Int×Int×Eo)->Option (Int×Bool):=fun(x0,x1,x2,x3,m0)=>let o:=(decide (x0<0));let n:=(decide (x1<0));let c:=(!(o==n));(KW x0).bind fun m=>(KW x1).bind fun l=>(Nh (m,l)).bind fun b=>let k:=(decide (b.1≥x2));if k then(some ((0:Int),false))else((Kx (b.1,b.2,x2)).bind fun a=>let j:=(decide (a.1>x3));if j then(some ((0:Int),false))else(Option.bind (show Option ((Int×Bool×Int×Unit))from((N5 (c,a.1,a.2,x2,m0)).bind fun i=>if i then(let h:=u64.wrap (a.1+1);some (x3,c,h,()))else(some (x3,c,a.1,())))) fun(x3,x12,x15,_)=>let g:=(decide (x15>x3));if g then(some ((0:Int),false))else(if x12 then(let f:=i64.wrap x15;let e:=i64.wrap (0-f);some (e,true))else(let d:=i64.wrap x15;some (d,true)))))
def N2:(Int×Eo)->Option DW:=fun(x0,x1,x2,m0)=>(KV x0).bind fun k=>let j:=(!k);if j then(some ((0:Int),(2:Int)))else(let i:=(x2==0);if i then(some ((0:Int),(22:Int)))else(let h:=(decide (x2<0));if h then(some ((0:Int),(2:Int)))else(let a:=(decide (m0<0));let g:=(if a=false then some m0 else none);Option.bind (if a=false then((g.bind (fun z=>some (z,(4:Int)))).map (fun u=>(decide (u.1>u.2)))).map some else some none) fun f=>(if a then some true else f.map (fun z=>z)).bind fun e=>if e then(some ((0:Int),(11:Int)))else(let d:=u64.wrap x2;(N3 (x0,x1,d,1125899906842624,m0)).bind fun b=>let c:=(!b.2);if c then(some ((0:Int),(9:Int)))else(some (b.1,(0:Int)))))))
def Hj:(Int×Int×Int)->Option DW:=fun(x0,x1,m0)=>(KV x0).bind fun g=>let a:=(!g);let f:=(if a=false then some x1 else none);Option.bind (if a=false then((f.map (fun z=>z)).bind (fun u=>N4 u)).map some else some none) fun e=>Option.bind (if a=false then(e.map (fun z=>(!z))).map some else some none) fun d=>(if a then some true else d.map (fun z=>z)).bind fun c=>if c then(some ((0:Int),(2:Int)))else((N2 (x0,x1,1000000,m0)).bind fun b=>some (b.1,b.2))
def JA:(Int×dw×Int×Int)->Option Int:=fun(x0,x1,x2,m0)=>Option.bind (show Option ((Int×Int×List UInt8×Int×Int×be))from(let h:=(x1.2.1 !=1000000);if h then((Hj (x0,x1.2.1,1)).bind fun g=>let f:=i64.wrap (g.1-x2);(FD (x0,f)).bind fun e=>some (m0,e,x1.1,x1.2.1,x1.2.2,(),(),()))else(some (m0,x0,x1.1,x1.2.1,x1.2.2,(),(),())))) fun(m0,x9,_,_,c5_2,_)=>Option.bind (show Option ((Int×Unit))from(let d:=(c5_2 !=0);if d then(let c:=i64.wrap (c5_2-m0);(FD (x9,c)).bind fun b=>some (b,()))else(some (x9,())))) fun(x9,_)=>(HA (x9,0)).bind fun a=>some a
def H5:(Int×ag×(List DV)×Int×ag×Int×Int×ag×ag×ag×Unit×be)->Option (T5⊕((ag×ag×be)⊕(ag×ag×Int))):=
 fun(x0,x1,x11,x14,x45,x46,x47,b,a,d,_)=>
 let G:=(decide (x47<x46))
 if G then(
  (show Option (T5⊕(ag×ag×Int))from(
   ((an x45 x47).map (fun y=>y)).bind fun c=>
   (J9 c.1).bind fun F=>
   let E:=(!F)
   if E then(
    some (inr (([]:List Ba),([]:List Ba),(12:Int))))
   else(
    Option.bind (show Option ((Int×ag×(List DV)×Int×ag×Int×Int×Bool×List UInt8×Int×ag×ag×ag×Unit×bZ))from(
     (H6 c.2).bind fun D=>
     let i:=(!D)
     if i then(
        some (x0,x1,x11,x14,x45,x46,x47,i,c.1,c.2,b,a,d,(),(),(),(),(),()))
     else(
        let C:=(AW (aj .str) (AT (.int .i64)) c.1 x1).1
        (H6 C).bind fun B=>
        let A:=(!B)
        some (x0,x1,x11,x14,x45,x46,x47,A,c.1,c.2,b,a,d,(),(),(),(),(),())))) fun(x0,x1,x11,x14,x45,x46,x47,x56,c18_0,c18_1,b,a,d,_)=>
    if x56 then(
     some (inr (([]:List Ba),([]:List Ba),(2:Int))))
    else(
     (FD (c18_1,x14)).bind fun h=>
     Option.bind (show Option ((Int×ag×(List DV)×Int×Int×ag×Int×Int×List UInt8×Int×ag×ag×ag×Unit×bZ))from(
        let f:=AW (aj .str) (AT (.agg (.cons .str (.cons (.int .i64) (.one (.int .i64)))))) c18_0 x11
        if f.2 then(
         (HA (x0,0)).bind fun z=>
         let x:=(AW (aj .str) (AT (.int .i64)) c18_0 b).1;let w:=(AW (aj .str) (AT (.int .i64)) c18_0 a).1
         (JA (z,(f.1.1,f.1.2.1,f.1.2.2),x,w)).bind fun v=>
         (FD (h,v)).bind fun u=>
         some (x0,x1,x11,x14,u,x45,x46,x47,c18_0,c18_1,b,a,d,(),(),(),(),(),()))
        else(
         some (x0,x1,x11,x14,h,x45,x46,x47,c18_0,c18_1,b,a,d,(),(),(),(),(),())))) fun(x0,x1,x11,x14,x19,x45,x46,x47,c18_0,_,b,a,d,_)=>
     let t:=(AW (aj .str) (AT (.int .i64)) c18_0 a).1;let s:=i64.wrap (t+x19)
     (H6 s).bind fun r=>
     let q:=(!r)
     if q then(
        some (inr (([]:List Ba),([]:List Ba),(9:Int))))
     else(
        let g:=i64.wrap (x14-x19);let p:=(AW (aj .str) (AT (.int .i64)) c18_0 b).1;let n:=i64.wrap (p+x19);let b:=Bw (aj .str) c18_0 n b;let m:=(AW (aj .str) (AT (.int .i64)) c18_0 a).1;let l:=i64.wrap (m+x19);let a:=Bw (aj .str) c18_0 l a;let k:=(decide (x19>0))
        if k then(
         let e:=([(c18_0,x19)]:List Ba)
         (if((d.length:Int)+(e.length:Int))*24<=140737488355328/\(d.length:Int)+(e.length:Int)<=4611686018427387904 then some (d++e)else none).bind fun d=>
         some (inl (x0,x1,x11,g,x45,x46,x47,b,a,d,(),(),(),())))
        else(
         some (inl (x0,x1,x11,g,x45,x46,x47,b,a,d,(),(),(),())))))))).bind fun o=>
  match o with
  |inl (x0,x1,x11,x14,x45,x46,x47,b,a,d,_)=>(
   let j:=i64.wrap (x47+1)
   some (inl (x0,x1,x11,x14,x45,x46,j,b,a,d,(),(),(),())))
  |inr q2=>(
   some (inr (inr q2))))
 else(
  some (inr (inl (a,d,(),(),()))))
def J7:(Int×ag×ag×Dp)->Option (ag×ag×Int):=
 fun(x0,x1,x2,m0)=>
 (Df x0).bind fun i=>
 let h:=(!i)
 if h then(
  some (([]:List Ba),([]:List Ba),(2:Int)))
 else(
  (LV m0).bind fun a=>
  let g:=(a.2 !=0)
  if g then(
   some (([]:List Ba),([]:List Ba),a.2))
  else(
   let f:=(x2.length:Int);let e:=(decide (f>64))
   if e then(
      some (([]:List Ba),([]:List Ba),(5:Int)))
   else(
      (HA (x0,0)).bind fun d=>
      (IS ([]:List Ba) x1).bind fun b=>
      let c:=(x2.length:Int)
      (iter H5 (x0,x1,a.1,d,x2,c,(0:Int),([]:List Ba),b,([]:List Ba),(),(),(),())).bind fun o=>
      match o with
      |inl (b,lE,_)=>(
       some (lE,b,(0:Int)))
      |inr q4=>(
       some q4))))
def Lr:(Unit×Int×ag×Int×Int×Int×cd)->Option ((Unit×Int×ag×Int×Int×Int×cd)⊕((Int×Int×cd))):=fun(x0,x4,x39,x40,x41,cG0,cG1,cG2,cG3,cG4,cG5,cG6,cG7,cG8,cG9,cG10,cG11,cG12,cG13,cG14,cG15,cG16,cG17,cG18,cG19,cG21,cG22,cG23,lF,_)=>let d:=(decide (x41<x40));if d then(((an x39 x41).map (fun y=>y)).bind fun c=>let b:=i64.wrap (cG22-c.2);let a:=i64.wrap (x41+1);some (inl (x0,x4,x39,x40,a,cG0,cG1,cG2,cG3,cG4,cG5,cG6,cG7,cG8,cG9,cG10,cG11,cG12,cG13,cG14,cG15,cG16,cG17,cG18,cG19,cG21,b,cG23,lF,(),(),())))else(some (inr (x4,cG0,cG1,cG2,cG3,cG4,cG5,cG6,cG7,cG8,cG9,cG10,cG11,cG12,cG13,cG14,cG15,cG16,cG17,cG18,cG19,cG21,cG22,cG23,lF,(),(),())))
def Lq(a:Unit)(t:Int×cd):Option (Int×cr):=let C:=a;let z:=t.1;let y:=t.2.1;let x:=t.2.2.1;let w:=t.2.2.2.1;let v:=t.2.2.2.2.1;let u:=t.2.2.2.2.2.1;let s:=t.2.2.2.2.2.2.1;let r:=t.2.2.2.2.2.2.2.1;let q:=t.2.2.2.2.2.2.2.2.1;let p:=t.2.2.2.2.2.2.2.2.2.1;let o:=t.2.2.2.2.2.2.2.2.2.2.1;let n:=t.2.2.2.2.2.2.2.2.2.2.2.1;let d:=t.2.2.2.2.2.2.2.2.2.2.2.2.1;let m:=t.2.2.2.2.2.2.2.2.2.2.2.2.2.1;let c:=t.2.2.2.2.2.2.2.2.2.2.2.2.2.2.1;let l:=t.2.2.2.2.2.2.2.2.2.2.2.2.2.2.2.1;let k:=t.2.2.2.2.2.2.2.2.2.2.2.2.2.2.2.2.1;let j:=t.2.2.2.2.2.2.2.2.2.2.2.2.2.2.2.2.2.1;let i:=t.2.2.2.2.2.2.2.2.2.2.2.2.2.2.2.2.2.2.1;let h:=t.2.2.2.2.2.2.2.2.2.2.2.2.2.2.2.2.2.2.2.1;let b:=t.2.2.2.2.2.2.2.2.2.2.2.2.2.2.2.2.2.2.2.2.1;let g:=t.2.2.2.2.2.2.2.2.2.2.2.2.2.2.2.2.2.2.2.2.2.1;let f:=t.2.2.2.2.2.2.2.2.2.2.2.2.2.2.2.2.2.2.2.2.2.2.1;let B:=t.2.2.2.2.2.2.2.2.2.2.2.2.2.2.2.2.2.2.2.2.2.2.2.1;(J7 (b,w,d,c)).bind fun e=>Option.bind (EQ ((),1,e.1) (z,y,x,e.2.1,v,u,s,r,q,p,o,n,d,m,c,l,k,j,i,h,b,g,f,B,(),(),())) fun(_,m0,m1,m2,m3,m4,m5,m6,m7,m8,m9,m10,m11,m12,m13,m14,m15,m16,m17,m18,m19,m20,m21,m22,m23,_)=>let A:=(e.1.length:Int);Option.bind (iter Lr (C,e.2.2,e.1,A,0,m0,m1,m2,m3,m4,m5,m6,m7,m8,m9,m10,m11,m12,m13,m14,m15,m16,m17,m18,m19,m20,m21,m22,m23,(),(),())) fun(x4,z,y,x,w,v,u,s,r,q,p,o,n,d,m,c,l,k,j,i,h,b,g,f,B,_)=>some (x4,(z,y,x,w,v,u,s,r,q,p,o,n,d,m,c,l,k,j,i,h,b,g,f,B,(),(),()))
def Ij:(Unit×List UInt8×Int)->Option ag:=fun(_,x1,m0)=>let c:=(m0==0);if c then(some ([]:List Ba))else(let a:=([(x1,m0)]:List Ba);(if(a.length:Int)*24<=140737488355328/\(a.length:Int)<=4611686018427387904 then some a else none).bind fun b=>some b)
def NX:(List Int×aJ)->Option ((List Int×aJ)⊕(Unit⊕Bool)):=fun(x5,x6,x7,_)=>let h:=(decide (x7<x6));if h then(((an x5 x7).map (fun y=>y)).bind fun g=>let a:=(decide (g<0));let f:=(if a=false then some g else none);Option.bind (if a=false then((f.map (fun z=>z)).bind (fun u=>Df u)).map some else some none) fun e=>Option.bind (if a=false then(e.map (fun z=>(!z))).map some else some none) fun d=>(if a then some true else d.map (fun z=>z)).bind fun c=>if c then(some (inr (inr false)))else(let b:=i64.wrap (x7+1);some (inl (x5,x6,b,()))))else(some (inr (inl (()))))
def Lj(a:List Int):Option Bool:=let b:=a;let c:=(b.length:Int);(iter NX (b,c,0,())).bind fun o=>match o with|inl p69=>(some true)|inr q70=>(some q70)
def Li(a:(Int×Eo)):Option Bool:=let c:=a;(Df c.1).bind fun b=>let n:=(if b then some ()else none);Option.bind (if b then(n.map (fun z=>c.2.1)).map some else some none) fun m=>let l:=(if b then some ()else none);Option.bind (if b then(l.map (fun z=>c.2.2.1)).map some else some none) fun i=>let h:=(if b then some ()else none);Option.bind (if b then(h.map (fun z=>c.2.2.2)).map some else some none) fun g=>Option.bind (if b then((m.bind (fun z=>((i.bind (fun u=>((g.bind (fun v=>some (v,([]:List Int)))).map (fun w=>(w.1::w.2))).map (fun t=>(u,t)))).map (fun r=>(r.1::r.2))).map (fun k=>(z,k)))).map (fun j=>(j.1::j.2))).map some else some none) fun f=>Option.bind (if b then((f.map (fun z=>z)).bind (fun u=>Lj u)).map some else some none) fun e=>(if b then e else some false).bind fun d=>some d
def Aiv:(List UInt8×aJ)->Option OP:=fun(x0,x6,x7,_)=>let x:=(decide (x7<x6));if x then((bX x0 x7).bind fun a=>let g:=(decide (a<97));let w:=(if g=false then some a else none);Option.bind (if g=false then((w.bind (fun z=>some (z,(122:Int)))).map (fun u=>(decide (u.1>u.2)))).map some else some none) fun v=>(if g then some true else v.map (fun z=>z)).bind fun b=>let t:=(if b then some a else none);Option.bind (if b then((t.bind (fun z=>some (z,(48:Int)))).map (fun u=>(decide (u.1<u.2)))).map some else some none) fun s=>Option.bind (if b then s.map some else some none) fun f=>let r:=(if f=some false then some a else none);Option.bind (if f=some false then((r.bind (fun z=>some (z,(57:Int)))).map (fun u=>(decide (u.1>u.2)))).map some else some none) fun q=>Option.bind (if b then(f.bind (fun z=>if z then some true else q.map (fun u=>u))).map some else some none) fun p=>(if b then p else some false).bind fun e=>let o:=(if e then some a else none);Option.bind (if e then((o.bind (fun z=>some (z,(46:Int)))).map (fun u=>(u.1 !=u.2))).map some else some none) fun n=>(if e then n else some false).bind fun d=>let m:=(if d then some a else none);Option.bind (if d then((m.bind (fun z=>some (z,(95:Int)))).map (fun u=>(u.1 !=u.2))).map some else some none) fun l=>(if d then l else some false).bind fun c=>let k:=(if c then some a else none);Option.bind (if c then((k.bind (fun z=>some (z,(45:Int)))).map (fun u=>(u.1 !=u.2))).map some else some none) fun j=>(if c then j else some false).bind fun i=>if i then(some (inr (inr false)))else(let h:=i64.wrap (x7+1);some (inl (x0,x6,h,()))))else(some (inr (inl (x0,()))))
def NY(a:List UInt8):Option Bool:=
 let d:=a;let k:=(d.length:Int)
 (iter Aiv (d,k,0,())).bind fun o=>
 match o with
 |inl (d,_)=>(
  let c:=(!(d==([]:List UInt8)));let j:=(if c then some d else none)
  Option.bind (if c then((j.bind (fun z=>some (z,([45]:List UInt8)))).map (fun u=>(!(u.1==u.2)))).map some else some none) fun i=>
  (if c then i else some false).bind fun b=>
  let h:=(if b then some d else none)
  Option.bind (if b then(h.map (fun z=>(z.length:Int))).map some else some none) fun g=>
  Option.bind (if b then((g.bind (fun z=>some (z,(32:Int)))).map (fun u=>(decide (u.1<=u.2)))).map some else some none) fun f=>
  (if b then f else some false).bind fun e=>
  some e)
 |inr q359=>(
  some q359)
def NZ(a:(List UInt8×Eo)):Option Int:=let f:=a;(NY f.1).bind fun x=>let w:=(!x);if w then(some (12:Int))else(let e:=(decide (f.2.1<0));let v:=(if e=false then some ()else none);Option.bind (if e=false then(v.map (fun z=>f.2.1)).map some else some none) fun t=>Option.bind (if e=false then((t.bind (fun z=>some (z,(1000000:Int)))).map (fun u=>(decide (u.1>u.2)))).map some else some none) fun s=>(if e then some true else s.map (fun z=>z)).bind fun d=>let r:=(if d=false then some ()else none);Option.bind (if d=false then(r.map (fun z=>f.2.2.1)).map some else some none) fun q=>Option.bind (if d=false then((q.bind (fun z=>some (z,(0:Int)))).map (fun u=>(decide (u.1<u.2)))).map some else some none) fun p=>(if d then some true else p.map (fun z=>z)).bind fun c=>let o:=(if c=false then some ()else none);Option.bind (if c=false then(o.map (fun z=>f.2.2.1)).map some else some none) fun n=>Option.bind (if c=false then((n.bind (fun z=>some (z,(1000000:Int)))).map (fun u=>(decide (u.1>u.2)))).map some else some none) fun m=>(if c then some true else m.map (fun z=>z)).bind fun b=>let l:=(if b=false then some ()else none);Option.bind (if b=false then(l.map (fun z=>f.2.2.2)).map some else some none) fun k=>Option.bind (if b=false then((k.bind (fun z=>some (z,([]:List Int)))).map (fun u=>(u.1::u.2))).map some else some none) fun j=>Option.bind (if b=false then((j.map (fun z=>z)).bind (fun u=>Lj u)).map some else some none) fun i=>Option.bind (if b=false then(i.map (fun z=>(!z))).map some else some none) fun h=>(if b then some true else h.map (fun z=>z)).bind fun g=>if g then(some (2:Int))else(some (0:Int)))
def Jq:((Int×Eo)×(List UInt8×Eo)×Int)->Option ((Int×Eo)×Int):=fun(x0,x1,m0)=>(Li (x0.1,x0.2.1,x0.2.2.1,x0.2.2.2)).bind fun B=>let A:=(!B);if A then(some (((0:Int),(0:Int),(0:Int),(0:Int)),(2:Int)))else((NZ (x1.1,x1.2.1,x1.2.2.1,x1.2.2.2)).bind fun j=>let y:=(j !=0);if y then(some (((0:Int),(0:Int),(0:Int),(0:Int)),j))else((Df m0).bind fun x=>let w:=(!x);if w then(some (((0:Int),(0:Int),(0:Int),(0:Int)),(2:Int)))else(let b:=i64.wrap (x0.1+m0);Option.bind (show Option ((Int×Int×Int×Int×Int×List UInt8×Int×Int×Int×Int×Int×Int×Int×Int×Int×Int×Int×LC))from(let v:=(decide (x1.2.2.2>0));if v then(let t:=(min b x1.2.2.2);some (t,x0.1,x0.2.1,x0.2.2.1,x0.2.2.2,x1.1,x1.2.1,x1.2.2.1,x1.2.2.2,(0:Int),(0:Int),(0:Int),(0:Int),b,x0.2.1,x0.2.2.1,x0.2.2.2,(),(),(),(),(),(),(),(),()))else(some (b,x0.1,x0.2.1,x0.2.2.1,x0.2.2.2,x1.1,x1.2.1,x1.2.2.1,x1.2.2.2,(0:Int),(0:Int),(0:Int),(0:Int),b,x0.2.1,x0.2.2.1,x0.2.2.2,(),(),(),(),(),(),(),(),())))) fun(x10,_,c3_1,_,_,_,c4_1,c4_2,_,_,_,_,_,c9_0,c9_1,c9_2,c9_3,_)=>let s:=i64.wrap (x10-c3_1);let d:=(max s (0:Int));let i:=i64.wrap (c9_1+d);let r:=(min d (1125899906842624:Int));(Hj (r,c4_1,1)).bind fun h=>let q:=(min d (1125899906842624:Int));(Hj (q,c4_2,1)).bind fun g=>let f:=i64.wrap (c9_2+h.1);let e:=i64.wrap (c9_3+g.1);let c:=(h.2 !=0);let p:=(if c=false then some g.2 else none);Option.bind (if c=false then((p.bind (fun z=>some (z,(0:Int)))).map (fun u=>(u.1 !=u.2))).map some else some none) fun o=>(if c then some true else o.map (fun z=>z)).bind fun a=>let n:=(if a=false then some (c9_0,i,f,e)else none);Option.bind (if a=false then((n.map (fun z=>z)).bind (fun u=>Li u)).map some else some none) fun m=>Option.bind (if a=false then(m.map (fun z=>(!z))).map some else some none) fun l=>(if a then some true else l.map (fun z=>z)).bind fun k=>if k then(some (((0:Int),(0:Int),(0:Int),(0:Int)),(9:Int)))else(some ((c9_0,i,f,e),(0:Int))))))
def NW:(ax×Int×ag×ag×Unit×bn×Int×Int×ax×GF×be)->Option T4:=fun(x0,x1,x14,x15,_,x37,x38,x39,l25,l26,_)=>let e:=(decide (x39<x38));if e then(Option.bind ((an x37 x39).map (fun y=>y)) fun(m0,m1,m2,m3)=>let d:=(AW (aj .str) (AT .bool) m0 l26).1;if d then(some (inr (inr (([]:List Gj),([]:List Ba),([]:List Ba),(7:Int)))))else(let a:=(AW (aj .str) (AT (.agg (.cons (.int .i64) (.cons (.int .i64) (.cons (.int .i64) (.one (.int .i64))))))) m0 x0).1;(Jq ((a.1,a.2.1,a.2.2.1,a.2.2.2),(m0,m1,m2,m3),x1)).bind fun b=>let c:=(b.2 !=0);if c then(some (inr (inr (([]:List Gj),([]:List Ba),([]:List Ba),b.2))))else(none)))else(some (inr (inl (x14,x15,l25,(),()))))
def NV:(ax×Int×Unit×bn×Int×Int×ax×GF×bZ)->Option T4:=fun(x0,x1,x16,x37,x38,x39,d,c,_)=>let l:=(decide (x39<x38));if l then(Option.bind ((an x37 x39).map (fun y=>y)) fun(m0,m1,m2,m3)=>let k:=(AW (aj .str) (AT .bool) m0 c).1;if k then(some (inr (inr (([]:List Gj),([]:List Ba),([]:List Ba),(7:Int)))))else(let c:=Bw (aj .str) m0 true c;let b:=(AW (aj .str) (AT (.agg (.cons (.int .i64) (.cons (.int .i64) (.cons (.int .i64) (.one (.int .i64))))))) m0 x0).1;(Jq ((b.1,b.2.1,b.2.2.1,b.2.2.2),(m0,m1,m2,m3),x1)).bind fun a=>let j:=(a.2 !=0);if j then(some (inr (inr (([]:List Gj),([]:List Ba),([]:List Ba),a.2))))else(let d:=Bw (aj .str) m0 (a.1.1,a.1.2.1,a.1.2.2.1,a.1.2.2.2) d;let i:=i64.wrap (a.1.2.2.1-b.2.2.1);(Ij ((),m0,i)).bind fun h=>let g:=i64.wrap (a.1.2.2.2-b.2.2.2);(Ij ((),m0,g)).bind fun f=>let e:=i64.wrap (x39+1);some (inl (x0,x1,h,f,x16,x37,x38,e,d,c,(),(),())))))else(some (inr (inl (([]:List Ba),([]:List Ba),d,(),()))))
def Aiu:(List UInt8×(Int×Eo))->(ax×Int×bn×ax×GF×be)->Option (LA⊕(LA)):=fun(m0,m1,m2,m3,m4)=>fun(x0,x1,x2,a,l26,_)=>let a:=Bw (aj .str) m0 (m1,m2,m3,m4) a;some (inl (x0,x1,x2,a,l26,(),(),()))
def Ait:(ax×Int×bn×ax×GF×be)->Option (LA⊕(LA)):=fun(x0,x1,x2,l25,l26,_)=>some (inr (x0,x1,x2,l25,l26,(),(),()))
def NU(a:ax×Int×bn):Option (ax×ag×ag×Int):=let f:=a.1;let k:=a.2.1;let e:=a.2.2;let i:=(e.length:Int);let h:=(decide (i>64));if h then(some (([]:List Gj),([]:List Ba),([]:List Ba),(5:Int)))else(IZ f fun m=>(Fh Aiu Ait m (f,k,e,([]:List Gj),([]:List (List UInt8×Bool)),(),(),())).bind fun o=>let f:=o.1;let k:=o.2.1;let e:=o.2.2.1;let b:=o.2.2.2.1;let l:=o.2.2.2.2.1;let j:=();Option.bind (show Option ((ag×ag×ax×bl)⊕(ax×ag×ag×Int))from(let g:=(e.length:Int);Option.bind ((NV (f,k,j,e,g,0,b,l,(),(),(),(),())).bind fun w=>match w with|inl s=>iter NW s|inr o=>some o) fun o=>match o with|inl p1=>(let d:=p1.1;let c:=p1.2.1;let b:=p1.2.2.1;some (inl (d,c,b,(),())))|inr q2=>(some (inr q2)))) fun o=>match o with|inl p3=>(let d:=p3.1;let c:=p3.2.1;let b:=p3.2.2.1;some (b,d,c,(0:Int)))|inr q4=>(some q4))
def Ls:Unit->(Int×cd)->Option (Int×cr):=fun a=>fun(cG0,cG1,cG2,cG3,cG4,cG5,cG6,cG7,cG8,cG9,cG10,cG11,cG12,cG13,cG14,cG15,cG16,cG17,cG18,cG19,cG21,cG22,cG23,lF,_)=>(NU (cG4,cG21,cG15)).bind fun(m48,m49,m50,m51)=>Option.bind (EQ ((),2,m49) (cG0,cG1,cG2,cG3,m48,cG5,cG6,cG7,cG8,cG9,cG10,cG11,cG12,cG13,cG14,cG15,cG16,cG17,cG18,cG19,cG21,cG22,cG23,lF,(),(),())) fun(_,m24,m25,m26,m27,m28,m29,m30,m31,m32,m33,m34,m35,m36,m37,m38,m39,m40,m41,m42,m43,m44,m45,m46,m47,_)=>Option.bind (EQ ((),6,m50) (m24,m25,m26,m27,m28,m29,m30,m31,m32,m33,m34,m35,m36,m37,m38,m39,m40,m41,m42,m43,m44,m45,m46,m47,(),(),())) fun(_,m0,m1,m2,m3,m4,m5,m6,m7,m8,m9,m10,m11,m12,m13,m14,m15,m16,m17,m18,m19,m20,m21,m22,m23,_)=>some (m51,(m0,m1,m2,m3,m4,m5,m6,m7,m8,m9,m10,m11,m12,m13,m14,m15,m16,m17,m18,m19,m20,m21,m22,m23,(),(),()))
def G9(a:Int):Option Bool:=let b:=a;let x4:=(decide (b≥(-1125899906842624)));let e:=(if x4 then some b else none);Option.bind (if x4 then((e.bind (fun z=>some (z,(1125899906842624:Int)))).map (fun u=>(decide (u.1<=u.2)))).map some else some none) fun d=>(if x4 then d else some false).bind fun c=>some c
def Ll(a:Int):Option Bool:=let b:=a;let x4:=(decide (b≥0));let e:=(if x4 then some b else none);Option.bind (if x4 then((e.bind (fun z=>some (z,(1125899906842624:Int)))).map (fun u=>(decide (u.1<=u.2)))).map some else some none) fun d=>(if x4 then d else some false).bind fun c=>some c
def H4:(Cs×Cs×aJ)->Option ((Cs×Cs×aJ)⊕(Unit⊕Int)):=fun(x0,x8,x9,x10,_)=>let x:=(decide (x10<x9));if x then(((an x8 x10).map (fun y=>y)).bind fun b=>Option.bind (show Option ((Cs×Cs×Int×Int×Bool×Int×Int×be))from(let c:=(x10==0);let w:=(if c then some ()else none);Option.bind (if c then(w.map (fun z=>b.1)).map some else some none) fun t=>Option.bind (if c then((t.bind (fun z=>some (z,(0:Int)))).map (fun u=>(u.1 !=u.2))).map some else some none) fun s=>(if c then s else some false).bind fun f=>if f then(some (x0,x8,x9,x10,f,b.1,b.2,(),(),()))else(let a:=(decide (x10>0));let r:=(if a then some ()else none);Option.bind (if a then(r.map (fun z=>b.1)).map some else some none) fun q=>let p:=(if a then some x0 else none);let o:=(if a then some x10 else none);Option.bind (if a then((o.bind (fun z=>some (z,(1:Int)))).map (fun u=>i64.wrap (u.1-u.2))).map some else some none) fun n=>Option.bind (if a then((p.bind (fun z=>n.map (fun u=>(z,u)))).bind (fun v=>(an v.1 v.2).map (fun y=>y))).map some else some none) fun m=>Option.bind (if a then(m.map (fun z=>z)).map some else some none) fun l=>Option.bind (if a then(l.map (fun z=>z.1)).map some else some none) fun k=>Option.bind (if a then((q.bind (fun z=>k.map (fun u=>(z,u)))).map (fun v=>(decide (v.1<=v.2)))).map some else some none) fun j=>(if a then j else some false).bind fun i=>some (x0,x8,x9,x10,i,b.1,b.2,(),(),())))) fun(x0,x8,x9,x10,x15,c4_0,c4_1,_)=>if x15 then(some (inr (inr (8:Int))))else(Option.bind (show Option ((Cs×Cs×Int×Int×Bool×Unit))from(let e:=(decide (c4_0>1125899906842624));if e then(some (x0,x8,x9,x10,e,()))else(let d:=(decide (c4_1<0));if d then(some (x0,x8,x9,x10,d,()))else(let h:=(decide (c4_1>1000000));some (x0,x8,x9,x10,h,()))))) fun(x0,x8,x9,x10,x36,_)=>if x36 then(some (inr (inr (2:Int))))else(let g:=i64.wrap (x10+1);some (inl (x0,x8,x9,g,())))))else(some (inr (inl (()))))
def band_Check(a:Cs):Option Int:=let b:=a;let e:=(b.length:Int);let d:=(decide (e>64));if d then(some (5:Int))else(let c:=(b.length:Int);(iter H4 (b,b,c,0,())).bind fun o=>match o with|inl p293=>(some (0:Int))|inr q294=>(some q294))
def stepB(den:Int)(p:Int×Int)(n r:Int):Int×Int:=(p.1+n/den*r+(p.2+n % den*r)/den,(p.2+n % den*r)% den)
def scaledS(x i den f r0 r1:Int):Int:=
 (stepB den (stepB den (0,0) (min x (f*i)) r0) (max 0 (x-f*i)) r1).1+(if(stepB den (stepB den (0,0) (min x (f*i)) r0) (max 0 (x-f*i)) r1).2≥den-(stepB den (stepB den (0,0) (min x (f*i)) r0) (max 0 (x-f*i)) r1).2 then 1 else 0)
def band_Scaled(a:Int×Int×Int×Cs):Option DW:=
 match a.2.2.2 with
 | [(f0,r0),(f1,r1)]=>
  (band_Check [(f0,r0),(f1,r1)]).bind fun e=>
  if e=0/\f0=0/\(1<=a.2.1/\a.2.1<=a.2.2.1/\a.2.2.1<=400)/\(0<=a.1/\a.1<=562949953421312)/\(0<=f1/\f1<=1099511627776)/\(0<=r0/\r0<=1000000)/\(0<=r1/\r1<=1000000)then some (scaledS a.1 a.2.1 (a.2.2.1*1000000) f1 r0 r1,(0:Int))else none
 |_=>none
def Oh:(Int×Int×Int×(Int×Int×Cs))->Option DW:=fun(x0,x1,x2,m0,m1,m2)=>Option.bind (show Option ((Int×Int×Int×Bool×Int×Int×Cs×be))from(let b:=(decide (x1<1));let x:=(if b=false then some x1 else none);let w:=(if b=false then some x2 else none);Option.bind (if b=false then((x.bind (fun z=>w.map (fun u=>(z,u)))).map (fun v=>(decide (v.1>v.2)))).map some else some none) fun t=>(if b then some true else t.map (fun z=>z)).bind fun c=>let s:=(if c=false then some x2 else none);Option.bind (if c=false then((s.bind (fun z=>some (z,(400:Int)))).map (fun u=>(decide (u.1>u.2)))).map some else some none) fun r=>(if c then some true else r.map (fun z=>z)).bind fun f=>if f then(some (x0,x1,x2,f,m0,m1,m2,(),(),()))else((G9 x0).bind fun q=>let e:=(!q);if e then(some (x0,x1,x2,e,m0,m1,m2,(),(),()))else((Ll m0).bind fun p=>let a:=(!p);let o:=(if a=false then some ()else none);Option.bind (if a=false then(o.map (fun z=>m1)).map some else some none) fun n=>Option.bind (if a=false then((n.map (fun z=>z)).bind (fun u=>Ll u)).map some else some none) fun m=>Option.bind (if a=false then(m.map (fun z=>(!z))).map some else some none) fun l=>(if a then some true else l.map (fun z=>z)).bind fun k=>some (x0,x1,x2,k,m0,m1,m2,(),(),()))))) fun(x0,x1,x2,x11,c7_0,_,c7_2,_)=>if x11 then(some ((0:Int),(2:Int)))else(let j:=i64.wrap (x0*x2);let i:=i64.wrap (c7_0*x1);let h:=i64.wrap (j-i);let g:=(max (0:Int) h);(band_Scaled (g,x1,x2,c7_2)).bind fun d=>some (d.1,d.2))
def Og:(DW×Int×Int×Int×(Int×Int×Cs))->Option (DW×Int×Int):=fun(x0,x1,x2,x3,m0,m1,m2)=>(G9 x0.1).bind fun x=>let b:=(!x);let w:=(if b=false then some ()else none);Option.bind (if b=false then(w.map (fun z=>x0.2)).map some else some none) fun v=>Option.bind (if b=false then((v.map (fun z=>z)).bind (fun u=>G9 u)).map some else some none) fun t=>Option.bind (if b=false then(t.map (fun z=>(!z))).map some else some none) fun s=>(if b then some true else s.map (fun z=>z)).bind fun c=>let r:=(if c=false then some x1 else none);Option.bind (if c=false then((r.map (fun z=>z)).bind (fun u=>G9 u)).map some else some none) fun q=>Option.bind (if c=false then(q.map (fun z=>(!z))).map some else some none) fun p=>(if c then some true else p.map (fun z=>z)).bind fun o=>if o then(some ((x0.1,x0.2),(0:Int),(2:Int)))else(let n:=i64.wrap (x0.1+x1);(G9 n).bind fun m=>let l:=(!m);if l then(some ((x0.1,x0.2),(0:Int),(9:Int)))else(let k:=i64.wrap (x0.1+x1);(Oh (k,x2,x3,(m0,m1,m2))).bind fun a=>let j:=(a.2 !=0);if j then(some ((x0.1,x0.2),(0:Int),a.2))else(let e:=i64.wrap (x0.1+x1);let i:=((e==x0.1)&&(a.1==x0.2));if i then(some ((x0.1,x0.2),m1,(0:Int)))else(let h:=i64.wrap (a.1-x0.2);let d:=i64.wrap (h+m1);(G9 d).bind fun g=>let f:=(!g);if f then(some ((x0.1,x0.2),(0:Int),(9:Int)))else(some ((e,a.1),d,(0:Int)))))))
def Lt:Unit->(Int×cd)->Option (Int×cr):=fun a=>fun(cG0,cG1,cG2,cG3,cG4,cG5,cG6,cG7,cG8,cG9,cG10,cG11,cG12,cG13,cG14,cG15,cG16,cG17,cG18,cG19,cG21,cG22,cG23,lF,_)=>(Og ((cG5,cG6),cG22,cG9,cG10,(cG16,cG17,cG18))).bind fun b=>let c:=([(([116,97,120]:List UInt8),b.2.1)]:List Ba);Option.bind (EQ ((),3,c) (cG0,cG1,cG2,cG3,cG4,b.1.1,b.1.2,cG7,cG8,cG9,cG10,cG11,cG12,cG13,cG14,cG15,cG16,cG17,cG18,cG19,cG21,cG22,cG23,lF,(),(),())) fun(_,m0,m1,m2,m3,m4,m5,m6,m7,m8,m9,m10,m11,m12,m13,m14,m15,m16,m17,m18,m19,m20,m21,m22,m23,_)=>some (b.2.2,(m0,m1,m2,m3,m4,m5,m6,m7,m8,m9,m10,m11,m12,m13,m14,m15,m16,m17,m18,m19,m20,m21,m22,m23,(),(),()))
def J5:(Int×ag×Int×Int×ag×bl)->Option ((Int×ag×Int×Int×ag×bl)⊕((Int×ag×bl))):=fun(x0,x10,x11,x12,a,_)=>let h:=(decide (x12<x11));if h then(Option.bind (show Option ((Int×ag×Int×Int×ag×bl))from(((an x10 x12).map (fun y=>y)).bind fun d=>(FD (d.2,x0)).bind fun b=>let g:=(decide (b>0));if g then(let c:=([(d.1,b)]:List Ba);(if((a.length:Int)+(c.length:Int))*24<=140737488355328/\(a.length:Int)+(c.length:Int)<=4611686018427387904 then some (a++c)else none).bind fun a=>let f:=i64.wrap (x0-b);some (f,x10,x11,x12,a,(),()))else(some (x0,x10,x11,x12,a,(),())))) fun(x0,x10,x11,x12,a,_)=>let e:=i64.wrap (x12+1);some (inl (x0,x10,x11,e,a,(),())))else(some (inr (x0,a,(),())))
def J4:(Int×ag)->Option (ag×Int):=fun(x0,m0)=>let a:=(m0.length:Int);Option.bind (iter J5 (x0,m0,a,(0:Int),([]:List Ba),(),())) fun(x0,lC,_)=>some (lC,x0)
def Lu:Unit->(Int×cd)->Option (Int×cr):=fun a=>fun(cG0,cG1,cG2,cG3,cG4,cG5,cG6,cG7,cG8,cG9,cG10,cG11,cG12,cG13,cG14,cG15,cG16,cG17,cG18,cG19,cG21,cG22,cG23,lF,_)=>(J4 (cG23,cG13)).bind fun b=>Option.bind (EQ ((),4,b.1) (cG0,cG1,cG2,cG3,cG4,cG5,cG6,cG7,cG8,cG9,cG10,cG11,cG12,cG13,cG14,cG15,cG16,cG17,cG18,cG19,cG21,cG22,cG23,lF,(),(),())) fun(_,m0,m1,m2,m3,m4,m5,m6,m7,m8,m9,m10,m11,m12,m13,m14,m15,m16,m17,m18,m19,m20,m21,m22,m23,_)=>some ((0:Int),(m0,m1,m2,m3,m4,m5,m6,m7,m8,m9,m10,m11,m12,m13,m14,m15,m16,m17,m18,m19,m20,m21,m22,m23,(),(),()))
def Zo:(List UInt8×aJ)->Option OP:=fun(x0,x6,x7,_)=>let x:=(decide (x7<x6));if x then((bX x0 x7).bind fun a=>let g:=(decide (a<97));let w:=(if g=false then some a else none);Option.bind (if g=false then((w.bind (fun z=>some (z,(122:Int)))).map (fun u=>(decide (u.1>u.2)))).map some else some none) fun v=>(if g then some true else v.map (fun z=>z)).bind fun b=>let t:=(if b then some a else none);Option.bind (if b then((t.bind (fun z=>some (z,(48:Int)))).map (fun u=>(decide (u.1<u.2)))).map some else some none) fun s=>Option.bind (if b then s.map some else some none) fun f=>let r:=(if f=some false then some a else none);Option.bind (if f=some false then((r.bind (fun z=>some (z,(57:Int)))).map (fun u=>(decide (u.1>u.2)))).map some else some none) fun q=>Option.bind (if b then(f.bind (fun z=>if z then some true else q.map (fun u=>u))).map some else some none) fun p=>(if b then p else some false).bind fun e=>let o:=(if e then some a else none);Option.bind (if e then((o.bind (fun z=>some (z,(46:Int)))).map (fun u=>(u.1 !=u.2))).map some else some none) fun n=>(if e then n else some false).bind fun d=>let m:=(if d then some a else none);Option.bind (if d then((m.bind (fun z=>some (z,(95:Int)))).map (fun u=>(u.1 !=u.2))).map some else some none) fun l=>(if d then l else some false).bind fun c=>let k:=(if c then some a else none);Option.bind (if c then((k.bind (fun z=>some (z,(45:Int)))).map (fun u=>(u.1 !=u.2))).map some else some none) fun j=>(if c then j else some false).bind fun i=>if i then(some (inr (inr false)))else(let h:=i64.wrap (x7+1);some (inl (x0,x6,h,()))))else(some (inr (inl (x0,()))))
def LR(a:List UInt8):Option Bool:=
 let d:=a;let k:=(d.length:Int)
 (iter Zo (d,k,0,())).bind fun o=>
 match o with
 |inl (d,_)=>(
  let c:=(!(d==([]:List UInt8)));let j:=(if c then some d else none)
  Option.bind (if c then((j.bind (fun z=>some (z,([45]:List UInt8)))).map (fun u=>(!(u.1==u.2)))).map some else some none) fun i=>
  (if c then i else some false).bind fun b=>
  let h:=(if b then some d else none)
  Option.bind (if b then(h.map (fun z=>(z.length:Int))).map some else some none) fun g=>
  Option.bind (if b then((g.bind (fun z=>some (z,(32:Int)))).map (fun u=>(decide (u.1<=u.2)))).map some else some none) fun f=>
  (if b then f else some false).bind fun e=>
  some e)
 |inr q359=>(
  some q359)
def LQ(a:Int):Option Bool:=let b:=a;let x4:=(decide (b<0));let f:=(if x4=false then some b else none);Option.bind (if x4=false then((f.map (fun z=>z)).bind (fun u=>Df u)).map some else some none) fun e=>Option.bind (if x4=false then(e.map (fun z=>(!z))).map some else some none) fun d=>(if x4 then some true else d.map (fun z=>z)).bind fun c=>some c
def NM:(List Int×Unit×aJ)->Option ((List Int×Unit×aJ)⊕(Unit⊕Int)):=fun(x0,x1,x7,x8,_)=>let d:=(decide (x8<x7));if d then(((an x0 x8).map (fun y=>y)).bind fun c=>(LQ c).bind fun b=>if b then(some (inr (inr x8)))else(let a:=i64.wrap (x8+1);some (inl (x0,x1,x7,a,()))))else(some (inr (inl (()))))
def Rp:(List Int×Unit)->Option Int:=fun(x0,m0)=>let a:=(x0.length:Int);(iter NM (x0,m0,a,0,())).bind fun o=>match o with|inl p1=>(some (-1:Int))|inr q2=>(some q2)
def Ro:(List Int×Unit)->Option Bool:=fun(x0,m0)=>(Rp (x0,m0)).bind fun b=>let a:=(decide (b≥0));some a
def J2(a:List Int):Option Bool:=let c:=a;(Ro (c,())).bind fun x4=>let b:=(!x4);some b
def J1:(aI×Int×Int×GF×bl)->Option ((aI×Int×Int×GF×bl)⊕(Unit⊕Int)):=fun(x10,x11,x12,e,_)=>let L:=(decide (x12<x11));if L then(Option.bind ((an x10 x12).map (fun y=>y)) fun(m0,m1,m2,m3,m4,m5)=>(LR m0).bind fun K=>let J:=(!K);if J then(some (inr (inr (12:Int))))else(let d:=(decide (m1<0));let I:=(if d=false then some ()else none);Option.bind (if d=false then(I.map (fun z=>m1)).map some else some none) fun H=>Option.bind (if d=false then((H.bind (fun z=>some (z,(99:Int)))).map (fun u=>(decide (u.1>u.2)))).map some else some none) fun G=>(if d then some true else G.map (fun z=>z)).bind fun c=>let F:=(if c=false then some ()else none);Option.bind (if c=false then(F.map (fun z=>m2)).map some else some none) fun E=>Option.bind (if c=false then((E.bind (fun z=>some (z,(0:Int)))).map (fun u=>(decide (u.1<u.2)))).map some else some none) fun D=>(if c then some true else D.map (fun z=>z)).bind fun b=>let C:=(if b=false then some ()else none);Option.bind (if b=false then(C.map (fun z=>m2)).map some else some none) fun B=>Option.bind (if b=false then((B.bind (fun z=>some (z,(1000000:Int)))).map (fun u=>(decide (u.1>u.2)))).map some else some none) fun A=>(if b then some true else A.map (fun z=>z)).bind fun a=>let x:=(if a=false then some ()else none);Option.bind (if a=false then(x.map (fun z=>m3)).map some else some none) fun s=>let q:=(if a=false then some ()else none);Option.bind (if a=false then(q.map (fun z=>m4)).map some else some none) fun p=>let o:=(if a=false then some ()else none);Option.bind (if a=false then(o.map (fun z=>m5)).map some else some none) fun n=>Option.bind (if a=false then((s.bind (fun z=>((p.bind (fun u=>((n.bind (fun v=>some (v,([]:List Int)))).map (fun w=>(w.1::w.2))).map (fun t=>(u,t)))).map (fun r=>(r.1::r.2))).map (fun k=>(z,k)))).map (fun j=>(j.1::j.2))).map some else some none) fun m=>Option.bind (if a=false then((m.map (fun z=>z)).bind (fun u=>J2 u)).map some else some none) fun l=>Option.bind (if a=false then(l.map (fun z=>(!z))).map some else some none) fun i=>(if a then some true else i.map (fun z=>z)).bind fun h=>if h then(some (inr (inr (2:Int))))else(let g:=(AW (aj .str) (AT .bool) m0 e).1;if g then(some (inr (inr (7:Int))))else(let e:=Bw (aj .str) m0 true e;let f:=i64.wrap (x12+1);some (inl (x10,x11,f,e,(),()))))))else(some (inr (inl (()))))
def LM(a:aI):Option Int:=let c:=a;let e:=(c.length:Int);let d:=(decide (e>64));if d then(some (5:Int))else(let b:=(c.length:Int);(iter J1 (c,b,(0:Int),([]:List (List UInt8×Bool)),(),())).bind fun o=>match o with|inl p590=>(some (0:Int))|inr q591=>(some q591))
def NL(a:List H1):Option aI:=if a.length*56<=140737488355328/\a.length<=4611686018427387904 then some a else none
def Mi(a:Int):Option Bool:=let b:=a;let c:=(b !=b);some c
def JG:(Int×Int)->Option Int:=fun(x0,m0)=>(Mi x0).bind fun d=>(Mi m0).bind fun a=>if d then(if a then(some (0:Int))else(some (-1:Int)))else(if a then(some (1:Int))else(let c:=(decide (x0<m0));if c then(some (-1:Int))else(let b:=(decide (x0>m0));if b then(some (1:Int))else(some (0:Int)))))
def Mj(a:List UInt8):Option Bool:=let b:=a;let c:=(!(b==b));some c
def JH:(List UInt8×List UInt8)->Option Int:=fun(x0,m0)=>(Mj x0).bind fun d=>(Mj m0).bind fun a=>if d then(if a then(some (0:Int))else(some (-1:Int)))else(if a then(some (1:Int))else(let c:=(sLess x0 m0);if c then(some (-1:Int))else(let b:=(!(sLess x0 m0||x0==m0));if b then(some (1:Int))else(some (0:Int)))))
def JJ:(Int×List Int×aJ)->Option ((Int×List Int×aJ)⊕((Int×Unit)⊕Int)):=fun(x3,x6,x7,x8,_)=>let d:=(decide (x8<x7));if d then(((an x6 x8).map (fun y=>y)).bind fun a=>let c:=(a !=x3);if c then(some (inr (inr a)))else(let b:=i64.wrap (x8+1);some (inl (x3,x6,x7,b,()))))else(some (inr (inl (x3,()))))
def JI(a:List Int):Option Int:=
 let b:=a;let c:=(b.length:Int)
 (iter JJ (0,b,c,0,())).bind fun o=>
 match o with
 |inl (x3,_)=>(
  some x3)
 |inr q2=>(
  some q2)
def TY:(H1×H1)->Option Int:=fun(x0,m0,m1,_)=>(JG (x0.2.1,m1)).bind fun d=>(JH (x0.1,m0)).bind fun c=>let b:=([d,c]:List Int);(JI b).bind fun a=>some a
def Aiq:(aI×Int×Int×Unit×aJ)->Option ((aI×Int×Int×Unit×aJ)⊕((aI×Int×Jy))):=fun(x0,x1,x2,x3,x8,x9,_)=>let a:=(decide (x9>x1));let n:=(if a then some x3 else none);let m:=(if a then some x0 else none);let l:=(if a then some x9 else none);Option.bind (if a then((m.bind (fun z=>l.map (fun u=>(z,u)))).bind (fun v=>(an v.1 v.2).map (fun y=>y))).map some else some none) fun k=>Option.bind (if a then(k.map (fun z=>z)).map some else some none) fun j=>let i:=(if a then some x0 else none);let h:=(if a then some x9 else none);Option.bind (if a then((h.bind (fun z=>some (z,(1:Int)))).map (fun u=>i64.wrap (u.1-u.2))).map some else some none) fun g=>Option.bind (if a then((i.bind (fun z=>g.map (fun u=>(z,u)))).bind (fun v=>(an v.1 v.2).map (fun y=>y))).map some else some none) fun f=>Option.bind (if a then(f.map (fun z=>z)).map some else some none) fun e=>Option.bind (if a then((((j.bind (fun z=>e.map (fun u=>(z,u)))).bind (fun v=>n.map (fun w=>(v,w)))).map (fun t=>(t.1.1,t.1.2))).bind (fun r=>TY r)).map some else some none) fun d=>Option.bind (if a then((d.bind (fun z=>some (z,(0:Int)))).map (fun u=>(decide (u.1<u.2)))).map some else some none) fun c=>(if a then c else some false).bind fun b=>if b then(none)else(some (inr (x0,x1,x2,x3,x8,())))
def Rr:(aI×Int×Jy)->Option ((aI×Int×Jy)⊕(Unit)):=fun(x0,x1,x2,x3,x8,_)=>let b:=(decide (x8<x2));if b then(Option.bind (iter Aiq (x0,x1,x2,x3,x8,x8,())) fun(x0,x1,x2,x3,x8,_)=>let a:=i64.wrap (x8+1);some (inl (x0,x1,x2,x3,a,())))else(some (inr (())))
def Lh:(aI×aJ)->Option Unit:=fun(x0,x1,x2,m0)=>let a:=i64.wrap (x1+1);(iter Rr (x0,x1,x2,m0,a,())).bind fun o=>some ()
def Air:(aI×Int×Unit×Int×aJ)->Option T6:=fun(x0,x1,x2,x6,x7,x8,_)=>let a:=(decide (x8<=x1));if a then(none)else(some (inr (x0,x1,x2,x6,x7,())))
def Rs:(aI×Jy)->Option ((aI×Jy)⊕(Unit)):=fun(x0,x1,x2,x6,_)=>let e:=(decide (x6<x1));if e then(let d:=i64.wrap ((2:Int)*x6);Option.bind (iter Air (x0,x1,x2,x6,0,d,())) fun(x0,x1,x2,x6,x7,_)=>let c:=i64.wrap (x7+x6);let b:=(decide (c<x1));if b then(none)else(let a:=i64.wrap (x6*2);some (inl (x0,x1,x2,a,()))))else(some (inr (())))
def Ru:(aI×Int×Unit×Int×aJ)->Option T6:=fun(x0,x1,x2,x6,x7,x8,_)=>let b:=(decide (x8<=x1));if b then((Lh (x0,x7,x8,x2)).bind fun c=>let a:=i64.wrap (x8+x6);some (inl (x0,x1,x2,x6,x8,a,())))else(some (inr (x0,x1,x2,x6,x7,())))
def NP:(aI×Int×Unit)->Option Unit:=fun a=>let d:=a.1;let c:=a.2.1;let b:=a.2.2;(iter Ru (d,c,b,20,0,20,())).bind fun o=>let d:=o.1;let c:=o.2.1;let b:=o.2.2.1;let f:=o.2.2.2.1;let e:=o.2.2.2.2.1;(Lh (d,e,c,b)).bind fun g=>(iter Rs (d,c,b,f,())).bind fun o=>some ()
def NO:(aI×Unit)->Option Unit:=fun(x0,m0)=>let a:=(x0.length:Int);(NP (x0,a,m0)).bind fun b=>some ()
def LO(a:aI):Option aI:=let c:=a;(NL c).bind fun b=>(NO (b,())).bind fun d=>some b
def LS:(Int×H1)->Option Int:=fun(x0,_,_,m0,m1,_)=>let c:=(m1 !=0);if c then(some m1)else(let b:=(max x0 (0:Int));(Hj (b,m0,1)).bind fun a=>some a.1)
def Lg:(List Int×aJ)->Option ((List Int×aJ)⊕((Int×Unit))):=fun(x0,x3,x4,_)=>let e:=(x0.length:Int);let d:=(decide (x4<e));if d then(((an x0 x4).map (fun y=>y)).bind fun b=>let a:=(min x3 b);let c:=i64.wrap (x4+1);some (inl (x0,a,c,())))else(some (inr (x3,())))
def NN(a:List Int):Option Int:=let c:=a;let e:=(c.length:Int);let d:=(decide (e<1));if d then(none)else(((an c 0).map (fun y=>y)).bind fun b=>Option.bind (iter Lg (c,b,1,())) fun(x3,_)=>some x3)
def H3(a:List Int):Option Int:=let b:=a;(NN b).bind fun x4=>some x4
def LN:(ag×H1)->Option Int:=fun(x0,m0,_,_,_,_,m1)=>let g:=(m1==0);if g then(some (1125899906842624:Int))else(let f:=(AW (aj .str) (AT (.int .i64)) m0 x0).1;let a:=(max f (0:Int));let e:=(decide (m1<a));if e then(some (0:Int))else(let d:=i64.wrap (m1-a);let c:=([d,(1125899906842624:Int)]:List Int);(H3 c).bind fun b=>some b))
def Iv:OR->Option (OR⊕((ag×ag×be)⊕(ag×ag×Int))):=
 fun(x0,x1,x14,x39,x40,x41,a,c,_)=>
 let x:=(decide (x41<x40))
 if x then(
  (show Option (OR⊕(ag×ag×Int))from(
   Option.bind ((an x39 x41).map (fun y=>y)) fun(m0,m1,m2,m3,m4,m5)=>
   let w:=(AW (aj .str) (AT (.int .i64)) m0 x1).1;let v:=([w]:List Int)
   (J2 v).bind fun u=>
   let t:=(!u)
   if t then(
    some (inr (([]:List Ba),([]:List Ba),(2:Int))))
   else(
    (LS (x0,(m0,m1,m2,m3,m4,m5))).bind fun s=>
    (LN (x1,(m0,m1,m2,m3,m4,m5))).bind fun r=>
    let q:=i64.wrap (x14-m4);let p:=([s,r,q]:List Int)
    (H3 p).bind fun n=>
    let b:=(max n (0:Int));let m:=(AW (aj .str) (AT (.int .i64)) m0 x1).1;let l:=i64.wrap (m+b)
    (Df l).bind fun k=>
    let j:=(!k)
    if j then(
     some (inr (([]:List Ba),([]:List Ba),(9:Int))))
    else(
     let i:=(AW (aj .str) (AT (.int .i64)) m0 x1).1;let h:=i64.wrap (i+b);let a:=Bw (aj .str) m0 h a;let e:=i64.wrap (x14-b);let g:=(decide (b>0))
     if g then(
        let d:=([(m0,b)]:List Ba)
        (if((c.length:Int)+(d.length:Int))*24<=140737488355328/\(c.length:Int)+(d.length:Int)<=4611686018427387904 then some (c++d)else none).bind fun c=>
        some (inl (x0,x1,e,x39,x40,x41,a,c,(),(),())))
     else(
        some (inl (x0,x1,e,x39,x40,x41,a,c,(),(),()))))))).bind fun o=>
  match o with
  |inl (x0,x1,x14,x39,x40,x41,a,c,_)=>(
   let f:=i64.wrap (x41+1)
   some (inl (x0,x1,x14,x39,x40,f,a,c,(),(),())))
  |inr q2=>(
   some (inr (inr q2))))
 else(
  some (inr (inl (a,c,(),(),()))))
def Zm:(List UInt8×Int)->(Int×ag×aI×ag×bl)->Option (LB⊕(LB)):=fun x=>fun(x0,x1,x2,a,_)=>let a:=Bw (aj .str) x.1 x.2 a;some (inl (x0,x1,x2,a,(),()))
def Zl:(Int×ag×aI×ag×bl)->Option (LB⊕(LB)):=fun(x0,x1,x2,l26,_)=>some (inr (x0,x1,x2,l26,(),()))
def LP:(Int×ag×aI)->Option (ag×ag×Int):=
 fun a=>
 let e:=a.1;let g:=a.2.1;let f:=a.2.2
 (Df e).bind fun k=>
 let j:=(!k)
 if j then(
  some (([]:List Ba),([]:List Ba),(2:Int)))
 else(
  (LM f).bind fun d=>
  let i:=(d !=0)
  if i then(
   some (([]:List Ba),([]:List Ba),d))
  else(
   IZ g fun l=>(Fh Zm Zl l (e,g,f,([]:List Ba),(),())).bind fun o=>
   let e:=o.1;let g:=o.2.1;let f:=o.2.2.1;let b:=o.2.2.2.1
   (LO f).bind fun c=>
   let h:=(c.length:Int)
   (iter Iv (e,g,e,c,h,(0:Int),b,([]:List Ba),(),(),())).bind fun o=>
   match o with
   |inl (b,lE,_)=>(
      some (lE,b,(0:Int)))
   |inr q4=>(
      some q4)))
def Lv:Unit->(Int×cd)->Option (Int×cr):=fun a=>fun(cG0,cG1,cG2,cG3,cG4,cG5,cG6,cG7,cG8,cG9,cG10,cG11,cG12,cG13,cG14,cG15,cG16,cG17,cG18,cG19,cG21,cG22,cG23,lF,_)=>(LP (cG23,cG7,cG19)).bind fun b=>Option.bind (EQ ((),5,b.1) (cG0,cG1,cG2,cG3,cG4,cG5,cG6,b.2.1,cG8,cG9,cG10,cG11,cG12,cG13,cG14,cG15,cG16,cG17,cG18,cG19,cG21,cG22,cG23,lF,(),(),())) fun(_,m0,m1,m2,m3,m4,m5,m6,m7,m8,m9,m10,m11,m12,m13,m14,m15,m16,m17,m18,m19,m20,m21,m22,m23,_)=>some (b.2.2,(m0,m1,m2,m3,m4,m5,m6,m7,m8,m9,m10,m11,m12,m13,m14,m15,m16,m17,m18,m19,m20,m21,m22,m23,(),(),()))
def O7(a:Unit)(t:Int×cd):Option ((List (Fr))×cr):=let b:=a;let z:=t.1;let y:=t.2.1;let x:=t.2.2.1;let w:=t.2.2.2.1;let v:=t.2.2.2.2.1;let u:=t.2.2.2.2.2.1;let s:=t.2.2.2.2.2.2.1;let r:=t.2.2.2.2.2.2.2.1;let q:=t.2.2.2.2.2.2.2.2.1;let p:=t.2.2.2.2.2.2.2.2.2.1;let o:=t.2.2.2.2.2.2.2.2.2.2.1;let n:=t.2.2.2.2.2.2.2.2.2.2.2.1;let m:=t.2.2.2.2.2.2.2.2.2.2.2.2.1;let l:=t.2.2.2.2.2.2.2.2.2.2.2.2.2.1;let k:=t.2.2.2.2.2.2.2.2.2.2.2.2.2.2.1;let j:=t.2.2.2.2.2.2.2.2.2.2.2.2.2.2.2.1;let i:=t.2.2.2.2.2.2.2.2.2.2.2.2.2.2.2.2.1;let h:=t.2.2.2.2.2.2.2.2.2.2.2.2.2.2.2.2.2.1;let g:=t.2.2.2.2.2.2.2.2.2.2.2.2.2.2.2.2.2.2.1;let f:=t.2.2.2.2.2.2.2.2.2.2.2.2.2.2.2.2.2.2.2.1;let e:=t.2.2.2.2.2.2.2.2.2.2.2.2.2.2.2.2.2.2.2.2.1;let d:=t.2.2.2.2.2.2.2.2.2.2.2.2.2.2.2.2.2.2.2.2.2.1;let c:=t.2.2.2.2.2.2.2.2.2.2.2.2.2.2.2.2.2.2.2.2.2.2.1;let A:=t.2.2.2.2.2.2.2.2.2.2.2.2.2.2.2.2.2.2.2.2.2.2.2.1;let B:=([(inl b:Fr),(inr (inl b):Fr),(inr (inr (inl b)):Fr),(inr (inr (inr (inl b))):Fr),(inr (inr (inr (inr (inl b)))):Fr),(inr (inr (inr (inr (inr b)))):Fr)]:List (Fr));some (B,(z,y,x,w,v,u,s,r,q,p,o,n,m,l,k,j,i,h,g,f,e,d,c,A,(),(),()))
def year_stepping_slip_1:(ES×ES)->Option Int:=fun(x0,m0,m1,_)=>(JG (x0.1,m0)).bind fun d=>(JH (x0.2.1,m1)).bind fun c=>let b:=([d,c]:List Int);(JI b).bind fun a=>some a
def srt_144_145(l:List ES):Option bJ:=if l.length<4611686018427387904 then some (sortBy (fun x y:Int×List UInt8×Int=>(year_stepping_slip_1 (x,y)).getD 0) l)else none
def OA:((Int×List UInt8)×Int)->TZ7->Option (L5⊕(L5⊕ON)):=fun x=>fun(c2_0,c2_1,c4_0,c4_1,cG0,cG1,cG2,cG3,cG4,cG5,cG6,cG7,cG8,cG9,cG10,cG11,cG12,cG13,cG14,cG15,cG16,cG17,cG18,cG19,cG20,cG21,cG22,cG23,b,_)=>(Df x.2).bind fun e=>let d:=(!e);if d then(some (inr (inr ((((0:Int),(0:Int),([]:List ES)),(9:Int)),(cG0,cG1,cG2,cG3,cG4,cG5,cG6,cG7,cG8,cG9,cG10,cG11,cG12,cG13,cG14,cG15,cG16,cG17,cG18,cG19,cG21,cG22,cG23,cG20,(),())))))else(let c:=(x.2 !=0);if c then(let a:=([(x.1.1,x.1.2,x.2)]:List ES);(if((b.length:Int)+(a.length:Int))*32<=140737488355328/\(b.length:Int)+(a.length:Int)<=4611686018427387904 then some (b++a)else none).bind fun b=>some (inl (c2_0,c2_1,c4_0,c4_1,cG0,cG1,cG2,cG3,cG4,cG5,cG6,cG7,cG8,cG9,cG10,cG11,cG12,cG13,cG14,cG15,cG16,cG17,cG18,cG19,cG20,cG21,cG22,cG23,b,(),(),(),(),(),(),(),())))else(some (inl (c2_0,c2_1,c4_0,c4_1,cG0,cG1,cG2,cG3,cG4,cG5,cG6,cG7,cG8,cG9,cG10,cG11,cG12,cG13,cG14,cG15,cG16,cG17,cG18,cG19,cG20,cG21,cG22,cG23,b,(),(),(),(),(),(),(),()))))
def RG:TZ7->Option (L5⊕(L5⊕ON)):=fun(c2_0,c2_1,c4_0,c4_1,cG0,cG1,cG2,cG3,cG4,cG5,cG6,cG7,cG8,cG9,cG10,cG11,cG12,cG13,cG14,cG15,cG16,cG17,cG18,cG19,cG20,cG21,cG22,cG23,lB,_)=>some (inr (inl (c2_0,c2_1,c4_0,c4_1,cG0,cG1,cG2,cG3,cG4,cG5,cG6,cG7,cG8,cG9,cG10,cG11,cG12,cG13,cG14,cG15,cG16,cG17,cG18,cG19,cG20,cG21,cG22,cG23,lB,(),(),(),(),(),(),(),())))
def O9:Unit->T7->Option ON:=
 fun a=>
 fun(cG0,cG1,cG2,cG3,cG4,cG5,cG6,cG7,cG8,cG9,cG10,cG11,cG12,cG13,cG14,cG15,cG16,cG17,cG18,cG19,cG21,cG22,cG23,cG20,_)=>
 IZ cG20 fun c=>(Fh OA RG c ((0:Int),(0:Int),cG8,cG9,cG0,cG1,cG2,cG3,cG4,cG5,cG6,cG7,cG8,cG9,cG10,cG11,cG12,cG13,cG14,cG15,cG16,cG17,cG18,cG19,cG20,cG21,cG22,cG23,([]:List ES),(),(),(),(),(),(),(),())).bind fun o=>
 match o with
 |inl (_,_,c4_0,c4_1,cG0,cG1,cG2,cG3,cG4,cG5,cG6,cG7,cG8,cG9,cG10,cG11,cG12,cG13,cG14,cG15,cG16,cG17,cG18,cG19,cG20,cG21,cG22,cG23,b,_)=>(
  (srt_144_145 b).bind fun b=>
  some (((c4_0,c4_1,b),(0:Int)),(cG0,cG1,cG2,cG3,cG4,cG5,cG6,cG7,cG8,cG9,cG10,cG11,cG12,cG13,cG14,cG15,cG16,cG17,cG18,cG19,cG21,cG22,cG23,cG20,(),())))
 |inr q2=>(
  some q2)
def Yo:(List Int×aJ)->Option ((List Int×aJ)⊕(Unit⊕Bool)):=fun(x17,x18,x19,_)=>let n:=(decide (x19<x18));if n then(((an x17 x19).map (fun y=>y)).bind fun a=>Option.bind (show Option ((List Int×Int×Int×Bool×Unit))from(let c:=(decide (a≥97));let m:=(if c then some a else none);Option.bind (if c then((m.bind (fun z=>some (z,(122:Int)))).map (fun u=>(decide (u.1<=u.2)))).map some else some none) fun l=>(if c then l else some false).bind fun g=>if g then(some (x17,x18,x19,g,()))else(let b:=(decide (a≥48));let k:=(if b then some a else none);Option.bind (if b then((k.bind (fun z=>some (z,(57:Int)))).map (fun u=>(decide (u.1<=u.2)))).map some else some none) fun j=>(if b then j else some false).bind fun f=>if f then(some (x17,x18,x19,f,()))else(let e:=(a==46);if e then(some (x17,x18,x19,e,()))else(let d:=(a==95);if d then(some (x17,x18,x19,d,()))else(let i:=(a==45);some (x17,x18,x19,i,()))))))) fun(x17,x18,x19,x23,_)=>if x23 then(let h:=i64.wrap (x19+1);some (inl (x17,x18,h,())))else(some (inr (inr false))))else(some (inr (inl (()))))
def EN(a:List UInt8):Option Bool:=let e:=a;let f:=((e==([]:List UInt8)));let m:=(if f=false then some e else none);Option.bind (if f=false then((m.bind (fun z=>some (z,([45]:List UInt8)))).map (fun u=>((u.1==u.2)))).map some else some none) fun l=>(if f then some true else l.map (fun z=>z)).bind fun c=>let k:=(if c=false then some e else none);Option.bind (if c=false then(k.map (fun z=>(z.length:Int))).map some else some none) fun j=>Option.bind (if c=false then((j.bind (fun z=>some (z,(32:Int)))).map (fun u=>(decide (u.1>u.2)))).map some else some none) fun i=>(if c then some true else i.map (fun z=>z)).bind fun h=>if h then(some false)else((if e.length<=70368744177664 then some (e.map fun b=>(b.toNat:Int))else none).bind fun d=>let g:=(d.length:Int);(iter Yo (d,g,0,())).bind fun o=>match o with|inl p160=>(some true)|inr q161=>(some q161))
def NS(a:ES):Option Int:=let b:=a;let c:=(decide (b.1<0));let l:=(if c=false then some ()else none);Option.bind (if c=false then(l.map (fun z=>b.1)).map some else some none) fun k=>Option.bind (if c=false then((k.bind (fun z=>some (z,(7:Int)))).map (fun u=>(decide (u.1≥u.2)))).map some else some none) fun j=>(if c then some true else j.map (fun z=>z)).bind fun i=>if i then(some (11:Int))else((EN b.2.1).bind fun h=>let g:=(!h);if g then(some (12:Int))else(let f:=(b.2.2==0);if f then(some (22:Int))else((Df b.2.2).bind fun e=>let d:=(!e);if d then(some (9:Int))else(some (0:Int)))))
def NR:(ES×ES)->Option Bool:=fun(x0,m0,m1,_)=>let b:=(decide (x0.1<m0));let n:=(if b=false then some ()else none);Option.bind (if b=false then(n.map (fun z=>x0.1)).map some else some none) fun m=>let l:=(if b=false then some ()else none);Option.bind (if b=false then(l.map (fun z=>m0)).map some else some none) fun k=>Option.bind (if b=false then((m.bind (fun z=>k.map (fun u=>(z,u)))).map (fun v=>(v.1==v.2))).map some else some none) fun j=>Option.bind (if b=false then j.map some else some none) fun a=>let i:=(if a=some true then some ()else none);Option.bind (if a=some true then(i.map (fun z=>x0.2.1)).map some else some none) fun h=>let g:=(if a=some true then some ()else none);Option.bind (if a=some true then(g.map (fun z=>m1)).map some else some none) fun f=>Option.bind (if a=some true then((h.bind (fun z=>f.map (fun u=>(z,u)))).map (fun v=>(sLess v.1 v.2))).map some else some none) fun e=>Option.bind (if b=false then(a.bind (fun z=>if z then e else some false)).map some else some none) fun d=>(if b then some true else d.map (fun z=>z)).bind fun c=>some c
def NQ:(bJ×Int×Int×Int×Int×bJ×be)->Option ((bJ×Int×Int×Int×Int×bJ×be)⊕(Unit⊕Int)):=
 fun(x30,x31,x32,c1_0,c1_1,c1_2,_)=>
 let r:=(decide (x32<x31))
 if r then(
  Option.bind (show Option ((bJ×Int×Int×Int×Int×bJ×be)⊕Int)from(
   ((an x30 x32).map (fun y=>y)).bind fun a=>
   (NS (a.1,a.2.1,a.2.2)).bind fun d=>
   let q:=(d !=0)
   if q then(
    some (inr d))
   else(
    let p:=(x32==0)
    if p then(
     some (inl (x30,x31,x32,c1_0,c1_1,c1_2,(),(),())))
    else(
     let n:=i64.wrap (x32-1)
     ((an c1_2 n).map (fun y=>y)).bind fun c=>
     let b:=(c.1==a.1);let m:=(if b then some ()else none)
     Option.bind (if b then(m.map (fun z=>c.2.1)).map some else some none) fun l=>
     let k:=(if b then some ()else none)
     Option.bind (if b then(k.map (fun z=>a.2.1)).map some else some none) fun j=>
     Option.bind (if b then((l.bind (fun z=>j.map (fun u=>(z,u)))).map (fun v=>((v.1==v.2)))).map some else some none) fun i=>
     (if b then i else some false).bind fun h=>
     if h then(
        some (inr (7:Int)))
     else(
        (NR ((c.1,c.2.1,c.2.2),(a.1,a.2.1,a.2.2))).bind fun g=>
        let f:=(!g)
        if f then(
         some (inr (8:Int)))
        else(
         some (inl (x30,x31,x32,c1_0,c1_1,c1_2,(),(),())))))))) fun o=>
  match o with
  |inl (x30,x31,x32,c1_0,c1_1,c1_2,_)=>(
   let e:=i64.wrap (x32+1)
   some (inl (x30,x31,e,c1_0,c1_1,c1_2,(),(),())))
  |inr q152=>(
   some (inr (inr q152))))
 else(
  some (inr (inl (()))))
def Hp(a:ER):Option Int:=let c:=a;Option.bind (show Option ((Bool×Int×Int×bJ×be))from(let e:=(decide (c.1<1900));let s:=(if e=false then some ()else none);Option.bind (if e=false then(s.map (fun z=>c.1)).map some else some none) fun r=>Option.bind (if e=false then((r.bind (fun z=>some (z,(2199:Int)))).map (fun u=>(decide (u.1>u.2)))).map some else some none) fun q=>(if e then some true else q.map (fun z=>z)).bind fun f=>if f then(some (f,c.1,c.2.1,c.2.2,(),(),()))else(let d:=(decide (c.2.1<1));let p:=(if d=false then some ()else none);Option.bind (if d=false then(p.map (fun z=>c.2.1)).map some else some none) fun n=>Option.bind (if d=false then((n.bind (fun z=>some (z,(400:Int)))).map (fun u=>(decide (u.1>u.2)))).map some else some none) fun m=>(if d then some true else m.map (fun z=>z)).bind fun l=>some (l,c.1,c.2.1,c.2.2,(),(),())))) fun o=>let t:=o.1;let h:=o.2.1;let g:=o.2.2.1;let b:=o.2.2.2.1;if t then(some (2:Int))else(let k:=(b.length:Int);let j:=(decide (k>448));if j then(some (5:Int))else(let i:=(b.length:Int);(iter NQ (b,i,0,h,g,b,(),(),())).bind fun o=>match o with|inl p153=>(some (0:Int))|inr q154=>(some q154)))
def DU:(Int×(List (Fr))×Int×Int×eH)->Option ((Int×(List (Fr))×Int×Int×eH)⊕T2):=fun(x7,x57,x58,x59,c2_0,c2_1,c2_2,c2_3,c2_4,c2_5,c2_6,c2_7,c4_0,c4_1,c4_2,c4_5,c4_6,c5_0,c5_1,cG0,cG1,cG2,cG3,cG4,cG5,cG6,cG7,cG8,cG9,cG10,cG11,cG12,cG13,cG14,cG15,cG16,cG17,cG18,cG19,cG21,cG22,cG23,lF,_)=>let d:=(decide (x59<x58));if d then(((an x57 x59).map (fun y=>y)).bind fun c=>let b:=(x7 !=0);if b then(some (inr (x7,c2_0,c2_1,c2_2,c2_3,c2_4,c2_5,c2_6,c2_7,c4_0,c4_1,c4_2,c4_5,c4_6,c5_0,c5_1,cG0,cG1,cG2,cG3,cG4,cG5,cG6,cG7,cG8,cG9,cG10,cG11,cG12,cG13,cG14,cG15,cG16,cG17,cG18,cG19,cG21,cG22,cG23,lF,(),(),(),(),(),(),(),(),(),(),(),(),(),())))else(Option.bind (match c with|inl c171=>Lp c171 (cG0,cG1,cG2,cG3,cG4,cG5,cG6,cG7,cG8,cG9,cG10,cG11,cG12,cG13,cG14,cG15,cG16,cG17,cG18,cG19,cG21,cG22,cG23,lF,(),(),())|inr c172=>(match c172 with|inl c173=>Lq c173 (cG0,cG1,cG2,cG3,cG4,cG5,cG6,cG7,cG8,cG9,cG10,cG11,cG12,cG13,cG14,cG15,cG16,cG17,cG18,cG19,cG21,cG22,cG23,lF,(),(),())|inr c174=>(match c174 with|inl c175=>Ls c175 (cG0,cG1,cG2,cG3,cG4,cG5,cG6,cG7,cG8,cG9,cG10,cG11,cG12,cG13,cG14,cG15,cG16,cG17,cG18,cG19,cG21,cG22,cG23,lF,(),(),())|inr c176=>(match c176 with|inl c177=>Lt c177 (cG0,cG1,cG2,cG3,cG4,cG5,cG6,cG7,cG8,cG9,cG10,cG11,cG12,cG13,cG14,cG15,cG16,cG17,cG18,cG19,cG21,cG22,cG23,lF,(),(),())|inr c178=>(match c178 with|inl c179=>Lu c179 (cG0,cG1,cG2,cG3,cG4,cG5,cG6,cG7,cG8,cG9,cG10,cG11,cG12,cG13,cG14,cG15,cG16,cG17,cG18,cG19,cG21,cG22,cG23,lF,(),(),())|inr c180=>(Lv c180 (cG0,cG1,cG2,cG3,cG4,cG5,cG6,cG7,cG8,cG9,cG10,cG11,cG12,cG13,cG14,cG15,cG16,cG17,cG18,cG19,cG21,cG22,cG23,lF,(),(),()))))))) fun(m0,m1,m2,m3,m4,m5,m6,m7,m8,m9,m10,m11,m12,m13,m14,m15,m16,m17,m18,m19,m20,m21,m22,m23,m24,_)=>let a:=i64.wrap (x59+1);some (inl (m0,x57,x58,a,c2_0,c2_1,c2_2,c2_3,c2_4,c2_5,c2_6,c2_7,c4_0,c4_1,c4_2,c4_5,c4_6,c5_0,c5_1,m1,m2,m3,m4,m5,m6,m7,m8,m9,m10,m11,m12,m13,m14,m15,m16,m17,m18,m19,m20,m21,m22,m23,m24,(),(),(),(),(),(),(),(),(),(),(),(),(),()))))else(some (inr (x7,c2_0,c2_1,c2_2,c2_3,c2_4,c2_5,c2_6,c2_7,c4_0,c4_1,c4_2,c4_5,c4_6,c5_0,c5_1,cG0,cG1,cG2,cG3,cG4,cG5,cG6,cG7,cG8,cG9,cG10,cG11,cG12,cG13,cG14,cG15,cG16,cG17,cG18,cG19,cG21,cG22,cG23,lF,(),(),(),(),(),(),(),(),(),(),(),(),(),())))
def RD:(Fq×bO)->Unit->Option ((Fq×ER×Int)×Unit):=fun(x0,m49,m50,m51,m52,m53,m54,m55,m56,m57,m58,m59,m60)=>fun t=>(O5 ((x0.1,x0.2.1,x0.2.2.1,x0.2.2.2.1,x0.2.2.2.2.1,x0.2.2.2.2.2.1,x0.2.2.2.2.2.2.1,x0.2.2.2.2.2.2.2),(m49,m50,m51,m52,m53,m54,m55,m56,m57,m58,m59,m60))).bind fun a=>Option.bind (show Option ((Int×Int×Int×Int×ag×ax×Int×Int×ag×Int×Int×Int×ag×ag×ag×Dp×bn×Int×Int×Cs×aI×Int×Int×Int×Int×Int×Int×Int×Int×Int×Int×ag×ax×Int×Int×ag×Int×Int×Int×ag×ag×ag×Dp×bn×Int×Int×Cs×aI×Int×Int×Int×Gi×Unit×Unit×Unit×Unit×Unit×Unit×Unit×LC))from(let g:=(x0.1 !=m49);if g then(some (a,x0.1,x0.2.1,x0.2.2.1,x0.2.2.2.1,x0.2.2.2.2.1,x0.2.2.2.2.2.1,x0.2.2.2.2.2.2.1,x0.2.2.2.2.2.2.2,m49,m50,m51,m52,m53,m54,m55,m56,m57,m58,m59,m60,(0:Int),(0:Int),(0:Int),(0:Int),(0:Int),(0:Int),(0:Int),x0.1,x0.2.1,x0.2.2.1,([]:List Ba),([]:List Gj),(0:Int),(0:Int),x0.2.2.2.2.2.2.2,m49,m50,m51,m52,m53,m54,m55,m56,m57,m58,m59,m60,(0:Int),(0:Int),(0:Int),([]:List ((Int×List UInt8)×Int)),(),(),(),(),(),(),(),(),(),(),(),(),(),(),(),()))else(some (a,x0.1,x0.2.1,x0.2.2.1,x0.2.2.2.1,x0.2.2.2.2.1,x0.2.2.2.2.2.1,x0.2.2.2.2.2.2.1,x0.2.2.2.2.2.2.2,m49,m50,m51,m52,m53,m54,m55,m56,m57,m58,m59,m60,(0:Int),(0:Int),(0:Int),(0:Int),(0:Int),(0:Int),(0:Int),x0.1,x0.2.1,x0.2.2.1,x0.2.2.2.1,x0.2.2.2.2.1,x0.2.2.2.2.2.1,x0.2.2.2.2.2.2.1,x0.2.2.2.2.2.2.2,m49,m50,m51,m52,m53,m54,m55,m56,m57,m58,m59,m60,(0:Int),(0:Int),(0:Int),([]:List ((Int×List UInt8)×Int)),(),(),(),(),(),(),(),(),(),(),(),(),(),(),(),())))) fun(x7,c2_0,c2_1,c2_2,c2_3,c2_4,c2_5,c2_6,c2_7,c3_0,c3_1,c3_2,_,_,_,_,_,_,_,_,_,c4_0,c4_1,c4_2,c4_5,c4_6,c5_0,c5_1,cG0,cG1,cG2,cG3,cG4,cG5,cG6,cG7,cG8,cG9,cG10,cG11,cG12,cG13,cG14,cG15,cG16,cG17,cG18,cG19,cG21,cG22,cG23,lF,_)=>Option.bind (show Option T2 from(Option.bind (O7 () (c3_0,c3_1,c3_2,cG3,cG4,cG5,cG6,cG7,cG8,cG9,cG10,cG11,cG12,cG13,cG14,cG15,cG16,cG17,cG18,cG19,cG21,cG22,cG23,lF,(),(),())) fun(m24,m25,m26,m27,m28,m29,m30,m31,m32,m33,m34,m35,m36,m37,m38,m39,m40,m41,m42,m43,m44,m45,m46,m47,m48,_)=>let f:=(m24.length:Int);Option.bind (iter DU (x7,m24,f,0,c2_0,c2_1,c2_2,c2_3,c2_4,c2_5,c2_6,c2_7,c4_0,c4_1,c4_2,c4_5,c4_6,c5_0,c5_1,m25,m26,m27,m28,m29,m30,m31,m32,m33,m34,m35,m36,m37,m38,m39,m40,m41,m42,m43,m44,m45,m46,m47,m48,(),(),(),(),(),(),(),(),(),(),(),(),(),())) fun(x7,c2_0,c2_1,c2_2,c2_3,c2_4,c2_5,c2_6,c2_7,c4_0,c4_1,c4_2,c4_5,c4_6,c5_0,c5_1,cG0,cG1,cG2,cG3,cG4,cG5,cG6,cG7,cG8,cG9,cG10,cG11,cG12,cG13,cG14,cG15,cG16,cG17,cG18,cG19,cG21,cG22,cG23,lF,_)=>some (x7,c2_0,c2_1,c2_2,c2_3,c2_4,c2_5,c2_6,c2_7,c4_0,c4_1,c4_2,c4_5,c4_6,c5_0,c5_1,cG0,cG1,cG2,cG3,cG4,cG5,cG6,cG7,cG8,cG9,cG10,cG11,cG12,cG13,cG14,cG15,cG16,cG17,cG18,cG19,cG21,cG22,cG23,lF,(),(),(),(),(),(),(),(),(),(),(),(),(),()))) fun(x7,c2_0,c2_1,c2_2,c2_3,c2_4,c2_5,c2_6,c2_7,c4_0,c4_1,c4_2,c4_5,c4_6,c5_0,c5_1,cG0,cG1,cG2,cG3,cG4,cG5,cG6,cG7,cG8,cG9,cG10,cG11,cG12,cG13,cG14,cG15,cG16,cG17,cG18,cG19,cG21,cG22,cG23,lF,_)=>Option.bind (show Option T1 from(let e:=(x7==0);if e then(Option.bind (O9 () (cG0,cG1,cG2,cG3,cG4,cG5,cG6,cG7,cG8,cG9,cG10,cG11,cG12,cG13,cG14,cG15,cG16,cG17,cG18,cG19,cG21,cG22,cG23,lF,(),())) fun(m0,m1,m2,m3,m4,m5,m6,m7,m8,m9,m10,m11,m12,m13,m14,m15,m16,m17,m18,m19,m20,m21,m22,m23,_)=>some (m0.2,c2_0,c2_1,c2_2,c2_3,c2_4,c2_5,c2_6,c2_7,c4_0,c4_1,c4_2,c4_5,c4_6,c5_0,c5_1,m0.1.1,m0.1.2.1,m0.1.2.2,m1,m2,m3,m4,m5,m6,m7,m8,m9,m10,m11,m12,m13,m14,m15,m16,m17,m18,m19,m20,m21,m22,m23,(),(),(),(),(),(),(),(),(),(),(),(),(),(),()))else(some (x7,c2_0,c2_1,c2_2,c2_3,c2_4,c2_5,c2_6,c2_7,c4_0,c4_1,c4_2,c4_5,c4_6,c5_0,c5_1,(0:Int),(0:Int),([]:List ES),cG0,cG1,cG2,cG3,cG4,cG5,cG6,cG7,cG8,cG9,cG10,cG11,cG12,cG13,cG14,cG15,cG16,cG17,cG18,cG19,cG21,cG22,cG23,(),(),(),(),(),(),(),(),(),(),(),(),(),(),())))) fun(x7,c2_0,c2_1,c2_2,c2_3,c2_4,c2_5,c2_6,c2_7,c4_0,c4_1,c4_2,c4_5,c4_6,c5_0,c5_1,c11_0,c11_1,c11_2,cG0,cG1,cG2,cG3,cG4,cG5,cG6,cG7,cG8,cG9,cG10,cG11,cG12,cG13,cG14,cG15,cG16,cG17,cG18,cG19,cG21,cG22,cG23,_)=>Option.bind (show Option T1 from(let d:=(x7==0);if d then((Hp (c11_0,c11_1,c11_2)).bind fun c=>some (c,c2_0,c2_1,c2_2,c2_3,c2_4,c2_5,c2_6,c2_7,c4_0,c4_1,c4_2,c4_5,c4_6,c5_0,c5_1,c11_0,c11_1,c11_2,cG0,cG1,cG2,cG3,cG4,cG5,cG6,cG7,cG8,cG9,cG10,cG11,cG12,cG13,cG14,cG15,cG16,cG17,cG18,cG19,cG21,cG22,cG23,(),(),(),(),(),(),(),(),(),(),(),(),(),(),()))else(some (x7,c2_0,c2_1,c2_2,c2_3,c2_4,c2_5,c2_6,c2_7,c4_0,c4_1,c4_2,c4_5,c4_6,c5_0,c5_1,c11_0,c11_1,c11_2,cG0,cG1,cG2,cG3,cG4,cG5,cG6,cG7,cG8,cG9,cG10,cG11,cG12,cG13,cG14,cG15,cG16,cG17,cG18,cG19,cG21,cG22,cG23,(),(),(),(),(),(),(),(),(),(),(),(),(),(),())))) fun(x7,c2_0,c2_1,c2_2,c2_3,c2_4,c2_5,c2_6,c2_7,_,_,_,_,_,_,_,c11_0,c11_1,c11_2,cG0,cG1,cG2,cG3,cG4,cG5,cG6,cG7,_)=>let b:=(x7 !=0);if b then(some (((c2_0,c2_1,c2_2,c2_3,c2_4,c2_5,c2_6,c2_7),((0:Int),(0:Int),([]:List ES)),x7),(())))else(some (((cG0,cG1,cG2,cG3,cG4,cG5,cG6,cG7),(c11_0,c11_1,c11_2),(0:Int)),(())))
def O3(a:Fq×bO):Option (Fq×ER×Int):=(RD a ()).map fun p=>p.1
def O2:TZ6->Option (TZ6⊕((Int×Int×Int×Int×Int×Int×Int×Int×ag×ax×Int×Int×ag×CJ×LC)⊕(CJ×Fq×Int))):=fun(x19,x20,x21,c2_0,c2_1,c2_2,c2_3,c2_4,c2_5,c2_6,c2_7,c5_0,c5_1,c5_2,c5_5,c5_6,c8_0,c8_1,c8_2,c8_3,c8_4,c8_5,c8_6,c8_7,c,_)=>let f:=(decide (x21<x20));if f then(Option.bind ((an x19 x21).map (fun y=>y)) fun(m0,m1,m2,m3,m4,m5,m6,m7,m8,m9,m10,m11)=>(O3 ((c8_0,c8_1,c8_2,c8_3,c8_4,c8_5,c8_6,c8_7),(m0,m1,m2,m3,m4,m5,m6,m7,m8,m9,m10,m11))).bind fun a=>let e:=(a.2.2 !=0);if e then(some (inr (inr (([]:List ER),(c2_0,c2_1,c2_2,c2_3,c2_4,c2_5,c2_6,c2_7),a.2.2))))else(let b:=([(a.2.1.1,a.2.1.2.1,a.2.1.2.2)]:List ER);(if((c.length:Int)+(b.length:Int))*40<=140737488355328/\(c.length:Int)+(b.length:Int)<=4611686018427387904 then some (c++b)else none).bind fun c=>let d:=i64.wrap (x21+1);some (inl (x19,x20,d,c2_0,c2_1,c2_2,c2_3,c2_4,c2_5,c2_6,c2_7,c5_0,c5_1,c5_2,c5_5,c5_6,a.1.1,a.1.2.1,a.1.2.2.1,a.1.2.2.2.1,a.1.2.2.2.2.1,a.1.2.2.2.2.2.1,a.1.2.2.2.2.2.2.1,a.1.2.2.2.2.2.2.2,c,(),(),(),(),(),(),(),(),(),(),()))))else(some (inr (inl (c5_0,c5_1,c5_2,c5_5,c5_6,c8_0,c8_1,c8_2,c8_3,c8_4,c8_5,c8_6,c8_7,c,(),(),(),(),(),(),(),(),()))))
def Jv:(Fq×(List bO))->Option (CJ×Fq×Int):=
 fun(x0,m0)=>
 let c:=(m0.length:Int);let b:=(decide (c>4096))
 if b then(
  some (([]:List ER),(x0.1,x0.2.1,x0.2.2.1,x0.2.2.2.1,x0.2.2.2.2.1,x0.2.2.2.2.2.1,x0.2.2.2.2.2.2.1,x0.2.2.2.2.2.2.2),(5:Int)))
 else(
  let a:=(m0.length:Int)
  (iter O2 (m0,a,(0:Int),x0.1,x0.2.1,x0.2.2.1,x0.2.2.2.1,x0.2.2.2.2.1,x0.2.2.2.2.2.1,x0.2.2.2.2.2.2.1,x0.2.2.2.2.2.2.2,(0:Int),(0:Int),(0:Int),(0:Int),(0:Int),x0.1,x0.2.1,x0.2.2.1,x0.2.2.2.1,x0.2.2.2.2.1,x0.2.2.2.2.2.1,x0.2.2.2.2.2.2.1,x0.2.2.2.2.2.2.2,([]:List ER),(),(),(),(),(),(),(),(),(),(),())).bind fun o=>
  match o with
  |inl (_,_,_,_,_,c8_0,c8_1,c8_2,c8_3,c8_4,c8_5,c8_6,c8_7,lD,_)=>(
   some (lD,(c8_0,c8_1,c8_2,c8_3,c8_4,c8_5,c8_6,c8_7),(0:Int)))
  |inr q2=>(
   some q2))
def Ln(a:(List bO)):Option (CJ×Fq×Int):=let c:=a;(Jv (((0:Int),(0:Int),(0:Int),([]:List Ba),([]:List Gj),(0:Int),(0:Int),([]:List Ba)),c)).bind fun b=>some (b.1,(b.2.1.1,b.2.1.2.1,b.2.1.2.2.1,b.2.1.2.2.2.1,b.2.1.2.2.2.2.1,b.2.1.2.2.2.2.2.1,b.2.1.2.2.2.2.2.2.1,b.2.1.2.2.2.2.2.2.2),b.2.2)
def O0:(Int×Int×Int×Int×bJ×Int×Int×bJ×bZ)->Option ((Int×Int×Int×Int×bJ×Int×Int×bJ×bZ)⊕(Unit⊕Bool)):=fun(x29,x30,c2_0,c2_1,c2_2,c3_0,c3_1,c3_2,_)=>let e:=(decide (x30<x29));if e then(((an c2_2 x30).map (fun y=>y)).bind fun b=>((an c3_2 x30).map (fun y=>y)).bind fun a=>let d:=(!((b.1==a.1)&&((b.2.1==a.2.1)&&(b.2.2==a.2.2))));if d then(some (inr (inr false)))else(let c:=i64.wrap (x30+1);some (inl (x29,c,c2_0,c2_1,c2_2,c3_0,c3_1,c3_2,(),(),(),(),()))))else(some (inr (inl (()))))
def Oz:(ER×ER)->Option Bool:=fun(x0,m0,m1,m2)=>let b:=(x0.1 !=m0);let q:=(if b=false then some ()else none);Option.bind (if b=false then(q.map (fun z=>x0.2.1)).map some else some none) fun p=>let n:=(if b=false then some ()else none);Option.bind (if b=false then(n.map (fun z=>m1)).map some else some none) fun m=>Option.bind (if b=false then((p.bind (fun z=>m.map (fun u=>(z,u)))).map (fun v=>(v.1 !=v.2))).map some else some none) fun l=>(if b then some true else l.map (fun z=>z)).bind fun a=>let k:=(if a=false then some ()else none);Option.bind (if a=false then(k.map (fun z=>x0.2.2)).map some else some none) fun j=>Option.bind (if a=false then(j.map (fun z=>(z.length:Int))).map some else some none) fun i=>let h:=(if a=false then some ()else none);Option.bind (if a=false then(h.map (fun z=>m2)).map some else some none) fun g=>Option.bind (if a=false then(g.map (fun z=>(z.length:Int))).map some else some none) fun f=>Option.bind (if a=false then((i.bind (fun z=>f.map (fun u=>(z,u)))).map (fun v=>(v.1 !=v.2))).map some else some none) fun e=>(if a then some true else e.map (fun z=>z)).bind fun d=>if d then(some false)else(let c:=(x0.2.2.length:Int);(iter O0 (c,0,x0.1,x0.2.1,x0.2.2,m0,m1,m2,(),(),(),(),())).bind fun o=>match o with|inl p71=>(some true)|inr q72=>(some q72))
def Ow:(CJ×CJ×aJ)->Option ((CJ×CJ×aJ)⊕(Unit⊕Bool)):=fun(x0,x1,x12,x13,_)=>let f:=(decide (x13<x12));if f then(((an x0 x13).map (fun y=>y)).bind fun e=>((an x1 x13).map (fun y=>y)).bind fun d=>(Oz (e,d)).bind fun c=>let b:=(!c);if b then(some (inr (inr false)))else(let a:=i64.wrap (x13+1);some (inl (x0,x1,x12,a,()))))else(some (inr (inl (()))))
def Ov:(CJ×CJ)->Option Bool:=fun(x0,m0)=>let d:=(x0.length:Int);let c:=(m0.length:Int);let b:=(d !=c);if b then(some false)else(let a:=(x0.length:Int);(iter Ow (x0,m0,a,0,())).bind fun o=>match o with|inl p1=>(some true)|inr q2=>(some q2))
def Q0(a:ag):Option ((ag)):=let b:=a;some b
def Me:(Int×List UInt8×Unit)->Option ((Int×List UInt8×Unit)⊕((Int×List UInt8×Unit))):=fun(x0,x3,_)=>let g:=(decide (x0>9));if g then((if(10:Int)=0 then none else some (x0.tmod (10:Int))).bind fun f=>let e:=i64.wrap ((48:Int)+f);let d:=IntKind.i32.wrap e;let a:=(Utf8.encode d).data.toList;(if a.length+x3.length<=4611686018427387904 then some (a++x3)else none).bind fun c=>(if(10:Int)=0 then none else some (i64.wrap (x0.tdiv (10:Int)))).bind fun b=>some (inl (b,c,())))else(some (inr (x0,x3,())))
def Iy(a:Int):Option En:=let g:=a;let c:=([]:List UInt8);Option.bind (iter Me (g,c,())) fun(g,c,_)=>let f:=i64.wrap ((48:Int)+g);let e:=IntKind.i32.wrap f;let b:=(Utf8.encode e).data.toList;(if b.length+c.length<=4611686018427387904 then some (b++c)else none).bind fun d=>some d
def Ep(a:Int):Option En:=let b:=a;let p:=([]:List UInt8);(Df b).bind fun s=>let r:=(!s);if r then(let p:=([]:List UInt8);some p)else(let c:=([]:List UInt8);Option.bind (show Option ((Int×List UInt8×Unit))from(let q:=(decide (b<0));if q then(let o:=i64.wrap (0-b);let c:=([45]:List UInt8);some (o,c,()))else(some (b,c,())))) fun(b,c,_)=>(if(100:Int)=0 then none else some (b.tmod (100:Int))).bind fun j=>(if(100:Int)=0 then none else some (i64.wrap (b.tdiv (100:Int)))).bind fun n=>(Iy n).bind fun i=>(if c.length+i.length<=4611686018427387904 then some (c++i)else none).bind fun h=>(if h.length+([46]:List UInt8).length<=4611686018427387904 then some (h++([46]:List UInt8))else none).bind fun g=>(if(10:Int)=0 then none else some (i64.wrap (j.tdiv (10:Int)))).bind fun m=>(Iy m).bind fun f=>(if g.length+f.length<=4611686018427387904 then some (g++f)else none).bind fun e=>(if(10:Int)=0 then none else some (j.tmod (10:Int))).bind fun l=>(Iy l).bind fun d=>(if e.length+d.length<=4611686018427387904 then some (e++d)else none).bind fun k=>some k)
def Q1(a:ax):Option ((ax)):=let b:=a;some b
def Q2(a:ag):Option ((ag)):=let b:=a;some b
def O4:((List En)×Int×Int×List UInt8×be)->Option (((List En)×Int×Int×List UInt8×be)⊕((List UInt8×be))):=fun(x5,x6,x7,cH0,_)=>let f:=(decide (x7<x6));if f then(((an x5 x7).map (fun y=>y)).bind fun a=>Option.bind (show Option ((List UInt8×(List En)×Int×Int×List UInt8×be))from(let e:=(decide (x7>0));if e then((if cH0.length+([32]:List UInt8).length<=4611686018427387904 then some (cH0++([32]:List UInt8))else none).bind fun d=>some (a,x5,x6,x7,d,(),(),()))else(some (a,x5,x6,x7,cH0,(),(),())))) fun(x4,x5,x6,x7,cH0,_)=>(if cH0.length+x4.length<=4611686018427387904 then some (cH0++x4)else none).bind fun c=>let b:=i64.wrap (x7+1);some (inl (x5,x6,b,c,(),(),())))else(some (inr (cH0,(),(),())))
def GA:((List En)×Unit)->(List UInt8×bl)->Option (Unit×(List UInt8×bl)):=fun(x0,_)=>fun(cH0,_)=>let b:=(x0.length:Int);Option.bind (iter O4 (x0,b,0,cH0,(),(),())) fun(cH0,_)=>(if cH0.length+([10]:List UInt8).length<=4611686018427387904 then some (cH0++([10]:List UInt8))else none).bind fun a=>some ((),(a,(),()))
def Ht:eF->Option (Ip⊕((List UInt8×be))):=fun(x4,x103,x104,x105,c1_0,c1_1,c1_2,c1_3,c1_4,c1_5,c1_6,c1_7,cH0,_)=>let g:=(decide (x105<x104));if g then(Option.bind (show Option (Ip)from(((an x103 x105).map (fun y=>y)).bind fun b=>let a:=(AW (aj .str) (AT (.int .i64)) b c1_7).1;let f:=(a !=0);if f then((Ep a).bind fun e=>let d:=([([111,114,100,101,114]:List UInt8),b,e]:List En);(GA (d,x4) (cH0,(),())).bind fun h=>some (x4,x103,x104,x105,c1_0,c1_1,c1_2,c1_3,c1_4,c1_5,c1_6,c1_7,h.2.1,(),(),(),(),()))else(some (x4,x103,x104,x105,c1_0,c1_1,c1_2,c1_3,c1_4,c1_5,c1_6,c1_7,cH0,(),(),(),(),())))) fun(x4,x103,x104,x105,c1_0,c1_1,c1_2,c1_3,c1_4,c1_5,c1_6,c1_7,cH0,_)=>let c:=i64.wrap (x105+1);some (inl (x4,x103,x104,c,c1_0,c1_1,c1_2,c1_3,c1_4,c1_5,c1_6,c1_7,cH0,(),(),(),(),())))else(some (inr (cH0,(),(),())))
def Hu:eF->Option (Ip⊕OO):=fun(x4,x55,x56,x57,c1_0,c1_1,c1_2,c1_3,c1_4,c1_5,c1_6,c1_7,cH0,_)=>let j:=(decide (x57<x56));if j then(Option.bind (show Option (Ip)from(((an x55 x57).map (fun y=>y)).bind fun b=>let a:=(AW (aj .str) (AT (.agg (.cons (.int .i64) (.cons (.int .i64) (.cons (.int .i64) (.one (.int .i64))))))) b c1_4).1;let i:=(!((a.1==0)&&((a.2.1==0)&&((a.2.2.1==0)&&(a.2.2.2==0)))));if i then((Ep a.1).bind fun h=>(Ep a.2.1).bind fun g=>(Ep a.2.2.1).bind fun f=>(Ep a.2.2.2).bind fun e=>let d:=([([115,111,99,105,97,108]:List UInt8),b,h,g,f,e]:List En);(GA (d,x4) (cH0,(),())).bind fun k=>some (x4,x55,x56,x57,c1_0,c1_1,c1_2,c1_3,c1_4,c1_5,c1_6,c1_7,k.2.1,(),(),(),(),()))else(some (x4,x55,x56,x57,c1_0,c1_1,c1_2,c1_3,c1_4,c1_5,c1_6,c1_7,cH0,(),(),(),(),())))) fun(x4,x55,x56,x57,c1_0,c1_1,c1_2,c1_3,c1_4,c1_5,c1_6,c1_7,cH0,_)=>let c:=i64.wrap (x57+1);some (inl (x4,x55,x56,c,c1_0,c1_1,c1_2,c1_3,c1_4,c1_5,c1_6,c1_7,cH0,(),(),(),(),())))else(some (inr (x4,c1_0,c1_1,c1_2,c1_3,c1_4,c1_5,c1_6,c1_7,cH0,(),(),(),(),())))
def Hv:eF->Option (Ip⊕OO):=fun(x4,x33,x34,x35,c1_0,c1_1,c1_2,c1_3,c1_4,c1_5,c1_6,c1_7,cH0,_)=>let g:=(decide (x35<x34));if g then(Option.bind (show Option (Ip)from(((an x33 x35).map (fun y=>y)).bind fun b=>let a:=(AW (aj .str) (AT (.int .i64)) b c1_3).1;let f:=(a !=0);if f then((Ep a).bind fun e=>let d:=([([98,101,102,111,114,101]:List UInt8),b,e]:List En);(GA (d,x4) (cH0,(),())).bind fun h=>some (x4,x33,x34,x35,c1_0,c1_1,c1_2,c1_3,c1_4,c1_5,c1_6,c1_7,h.2.1,(),(),(),(),()))else(some (x4,x33,x34,x35,c1_0,c1_1,c1_2,c1_3,c1_4,c1_5,c1_6,c1_7,cH0,(),(),(),(),())))) fun(x4,x33,x34,x35,c1_0,c1_1,c1_2,c1_3,c1_4,c1_5,c1_6,c1_7,cH0,_)=>let c:=i64.wrap (x35+1);some (inl (x4,x33,x34,c,c1_0,c1_1,c1_2,c1_3,c1_4,c1_5,c1_6,c1_7,cH0,(),(),(),(),())))else(some (inr (x4,c1_0,c1_1,c1_2,c1_3,c1_4,c1_5,c1_6,c1_7,cH0,(),(),(),(),())))
def RE(a:Fq)(t:Unit):Option (List UInt8×Unit):=let b:=a;let y:=([]:List UInt8);let v:=(b.2.1==0);if v then(let y:=([]:List UInt8);some (y,(())))else(let x:=([]:List UInt8);let f:=();(strconv_Itoa b.1).bind fun u=>(strconv_Itoa b.2.1).bind fun s=>(strconv_Itoa b.2.2.1).bind fun r=>let q:=([([108,97,115,116]:List UInt8),u,s,r]:List En);(GA (q,f) (x,(),())).bind fun z=>(Q0 b.2.2.2.1).bind fun p=>(Jp (inl p:(((ag))⊕((((ax))⊕((ag))))))).bind fun e=>let o:=(e.length:Int);Option.bind (iter Hv (f,e,o,0,b.1,b.2.1,b.2.2.1,b.2.2.2.1,b.2.2.2.2.1,b.2.2.2.2.2.1,b.2.2.2.2.2.2.1,b.2.2.2.2.2.2.2,z.2.1,(),(),(),(),())) fun(x4,c1_0,c1_1,c1_2,c1_3,c1_4,c1_5,c1_6,c1_7,cH0,_)=>(Q1 c1_4).bind fun n=>(Jp (inr (inl n):(((ag))⊕((((ax))⊕((ag))))))).bind fun d=>let m:=(d.length:Int);Option.bind (iter Hu (x4,d,m,0,c1_0,c1_1,c1_2,c1_3,c1_4,c1_5,c1_6,c1_7,cH0,(),(),(),(),())) fun(x4,c1_0,c1_1,c1_2,c1_3,c1_4,c1_5,c1_6,c1_7,cH0,_)=>Option.bind (show Option OO from(let l:=(!((c1_5==0)&&(c1_6==0)));if l then((Ep c1_5).bind fun k=>(Ep c1_6).bind fun j=>let i:=([([116,97,120]:List UInt8),k,j]:List En);(GA (i,x4) (cH0,(),())).bind fun w=>some (x4,c1_0,c1_1,c1_2,c1_3,c1_4,c1_5,c1_6,c1_7,w.2.1,(),(),(),(),()))else(some (x4,c1_0,c1_1,c1_2,c1_3,c1_4,c1_5,c1_6,c1_7,cH0,(),(),(),(),())))) fun(x4,c1_0,c1_1,c1_2,c1_3,c1_4,c1_5,c1_6,c1_7,cH0,_)=>(Q2 c1_7).bind fun h=>(Jp (inr (inr h):(((ag))⊕((((ax))⊕((ag))))))).bind fun c=>let g:=(c.length:Int);Option.bind (iter Ht (x4,c,g,0,c1_0,c1_1,c1_2,c1_3,c1_4,c1_5,c1_6,c1_7,cH0,(),(),(),(),())) fun(cH0,_)=>some (cH0,(())))
def Gc(a:Fq):Option En:=(RE a ()).map fun p=>p.1
def Ou:((List bO)×Int×CJ×CJ×CJ×Int×CJ×Int×eG)->Option (((List bO)×Int×CJ×CJ×CJ×Int×CJ×Int×eG)⊕(((List bO)×Int×CJ×CJ×CJ×eG)⊕Bool)):=fun(x9,x10,x11,x14,x17,x19,x87,x88,x89,c12_0,c12_1,c12_2,c12_3,c12_4,c12_5,c12_6,c12_7,c15_0,c15_1,c15_2,c15_3,c15_4,c15_5,c15_6,c15_7,c18_0,c18_1,c18_2,c18_3,c18_4,c18_5,c18_6,c18_7,_)=>let e:=(decide (x89<x88));if e then(((an x87 x89).map (fun y=>y)).bind fun a=>(Hp (a.1,a.2.1,a.2.2)).bind fun d=>let c:=(d !=0);if c then(some (inr (inr false)))else(let b:=i64.wrap (x89+1);some (inl (x9,x10,x11,x14,x17,x19,x87,x88,b,c12_0,c12_1,c12_2,c12_3,c12_4,c12_5,c12_6,c12_7,c15_0,c15_1,c15_2,c15_3,c15_4,c15_5,c15_6,c15_7,c18_0,c18_1,c18_2,c18_3,c18_4,c18_5,c18_6,c18_7,(),(),(),(),(),(),()))))else(some (inr (inl (x9,x10,x11,x14,x17,x19,c12_0,c12_1,c12_2,c12_3,c12_4,c12_5,c12_6,c12_7,c15_0,c15_1,c15_2,c15_3,c15_4,c15_5,c15_6,c15_7,c18_0,c18_1,c18_2,c18_3,c18_4,c18_5,c18_6,c18_7,(),(),(),(),(),(),()))))
def wagebooktop_TopResume:((List L6)×Eo)->Option Bool:=
 fun(x0,x1,x2,m0)=>
 let Y:=(x0.length:Int);let X:=(decide (Y>30))
 if X then(
  some true)
 else(
  (if(26:Int)=0 then none else some (x2.tmod (26:Int))).bind fun W=>
  let V:=i64.wrap W;let U:=i64.wrap (V+1)
  (Ox (x0,x1,U)).bind fun f=>
  let T:=i64.wrap m0;let S:=(f.length:Int);let j:=i64.wrap (S+1)
  (if j=0 then none else some (T.tmod j)).bind fun h=>
  (Ln f).bind fun c=>
  (Fv f 0 h).bind fun R=>
  (Ln R).bind fun a=>
  let i:=(c.2.2 !=0);let Q:=(if i=false then some a.2.2 else none)
  Option.bind (if i=false then((Q.bind (fun z=>some (z,(0:Int)))).map (fun u=>(u.1 !=u.2))).map some else some none) fun P=>
  (if i then some true else P.map (fun z=>z)).bind fun O=>
  if O then(
   some false)
  else(
   (Fv f h (f.length:Int)).bind fun N=>
   (Jv ((a.2.1.1,a.2.1.2.1,a.2.1.2.2.1,a.2.1.2.2.2.1,a.2.1.2.2.2.2.1,a.2.1.2.2.2.2.2.1,a.2.1.2.2.2.2.2.2.1,a.2.1.2.2.2.2.2.2.2),N)).bind fun d=>
   let M:=(c.1.length:Int);let L:=(f.length:Int);let g:=(M !=L);let K:=(if g=false then some a.1 else none)
   Option.bind (if g=false then(K.map (fun z=>(z.length:Int))).map some else some none) fun J=>
   let I:=(if g=false then some h else none)
   Option.bind (if g=false then((J.bind (fun z=>I.map (fun u=>(z,u)))).map (fun v=>(v.1 !=v.2))).map some else some none) fun H=>
   (if g then some true else H.map (fun z=>z)).bind fun e=>
   let G:=(if e=false then some d.1 else none)
   Option.bind (if e=false then(G.map (fun z=>(z.length:Int))).map some else some none) fun F=>
   let E:=(if e=false then some f else none)
   Option.bind (if e=false then(E.map (fun z=>(z.length:Int))).map some else some none) fun D=>
   let C:=(if e=false then some h else none)
   Option.bind (if e=false then((D.bind (fun z=>C.map (fun u=>(z,u)))).map (fun v=>i64.wrap (v.1-v.2))).map some else some none) fun B=>
   Option.bind (if e=false then((F.bind (fun z=>B.map (fun u=>(z,u)))).map (fun v=>(v.1 !=v.2))).map some else some none) fun A=>
   (if e then some true else A.map (fun z=>z)).bind fun y=>
   if y then(
      some false)
   else(
      let x:=(c.1.length:Int)
      (iter Ou (f,h,c.1,a.1,d.1,d.2.2,c.1,x,0,c.2.1.1,c.2.1.2.1,c.2.1.2.2.1,c.2.1.2.2.2.1,c.2.1.2.2.2.2.1,c.2.1.2.2.2.2.2.1,c.2.1.2.2.2.2.2.2.1,c.2.1.2.2.2.2.2.2.2,a.2.1.1,a.2.1.2.1,a.2.1.2.2.1,a.2.1.2.2.2.1,a.2.1.2.2.2.2.1,a.2.1.2.2.2.2.2.1,a.2.1.2.2.2.2.2.2.1,a.2.1.2.2.2.2.2.2.2,d.2.1.1,d.2.1.2.1,d.2.1.2.2.1,d.2.1.2.2.2.1,d.2.1.2.2.2.2.1,d.2.1.2.2.2.2.2.1,d.2.1.2.2.2.2.2.2.1,d.2.1.2.2.2.2.2.2.2,(),(),(),(),(),(),())).bind fun o=>
      match o with
      |inl (x9,x10,x11,x14,x17,x19,c12_0,c12_1,c12_2,c12_3,c12_4,c12_5,c12_6,c12_7,c15_0,c15_1,c15_2,c15_3,c15_4,c15_5,c15_6,c15_7,c18_0,c18_1,c18_2,c18_3,c18_4,c18_5,c18_6,c18_7,_)=>(
       Option.bind (show Option ((Bool×Unit))from(
        let w:=(x19==0)
        if w then(
         let b:=([]:List ER)
         (if((b.length:Int)+(x14.length:Int))*40<=140737488355328/\(b.length:Int)+(x14.length:Int)<=4611686018427387904 then some (b++x14)else none).bind fun b=>
         (if((b.length:Int)+(x17.length:Int))*40<=140737488355328/\(b.length:Int)+(x17.length:Int)<=4611686018427387904 then some (b++x17)else none).bind fun b=>
         (Ov (x11,b)).bind fun t=>
         if t then(
          (Gc (c18_0,c18_1,c18_2,c18_3,c18_4,c18_5,c18_6,c18_7)).bind fun s=>
          (Gc (c12_0,c12_1,c12_2,c12_3,c12_4,c12_5,c12_6,c12_7)).bind fun r=>
          let q:=((s==r))
          if q then(
           let p:=(x9.length:Int);let n:=(decide (x10<p))
           if n then(
            some (true,()))
           else(
            (Gc (c15_0,c15_1,c15_2,c15_3,c15_4,c15_5,c15_6,c15_7)).bind fun m=>
            (Gc (c12_0,c12_1,c12_2,c12_3,c12_4,c12_5,c12_6,c12_7)).bind fun l=>
            let k:=((m==l))
            some (k,())))
          else(
           some (false,())))
         else(
          (
           some (false,()))))
        else(
         (
          (
             some (false,())))))) fun(x8,_)=>
       some x8)
      |inr q92=>(
       some q92))))
end WB
