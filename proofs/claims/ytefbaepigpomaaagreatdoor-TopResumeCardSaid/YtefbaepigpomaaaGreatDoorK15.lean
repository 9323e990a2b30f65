/-
  TOP: the slip's sort.
-/
import Derived.Shelf.SlicesG.Cmp
import Derived.Laws.Cover1
import Derived.Test.YtefbaepigpomaaaGreatDoorK10
import Derived.Test.YtefbaepigpomaaaGreatDoorK12
set_option linter.unusedVariables false
set_option linter.unusedSimpArgs false
namespace Go.Proofs
open Go.Shelf Go.RowKit Go.Lib Go.Sort
theorem Tryz.isNaN211(x:Int)(w:World):Calls Tryz.prog 211 #[.int .i64 x] w fun e w'=>e=.returned (.bool false)/\w'=w:=by
 go_enter Tryz.func211,Tryz.ntmps211
 go_wp2
 go_ret
 exact⟨by simp,rfl⟩
theorem Tryz.isNaN212(x:List UInt8)(w:World):Calls Tryz.prog 212 #[.string ⟨⟨x⟩⟩] w fun e w'=>e=.returned (.bool false)/\w'=w:=by
 go_enter Tryz.func212,Tryz.ntmps212
 go_wp2
 go_ret
 exact⟨by simp,rfl⟩
set_option maxHeartbeats 1000000 in
theorem Tryz.cmp147(x y:Int)(w:World):Calls Tryz.prog 147 #[.int .i64 x,.int .i64 y] w fun e w'=>e=.returned (.int .i64 (WB.cmpI x y))/\w'=w:=by
 go_enter Tryz.func147,Tryz.ntmps147
 go_wp2_with (go_at_call 211;refine(Tryz.isNaN211 _ _).mono ?_;rintro e w' ⟨rfl,hw⟩;rw[hw])
 all_goals(go_ret;refine⟨?_,rfl⟩;unfold WB.cmpI;(repeat' split)<;>first|rfl|(exfalso;omega))
set_option maxHeartbeats 1000000 in
theorem Tryz.cmp148(x y:List UInt8)(w:World):Calls Tryz.prog 148 #[.string ⟨⟨x⟩⟩,.string ⟨⟨y⟩⟩] w fun e w'=>e=.returned (.int .i64 (WB.cmpT x y))/\w'=w:=by
 go_enter Tryz.func148,Tryz.ntmps148
 go_wp2_with (go_at_call 212;refine(Tryz.isNaN212 _ _).mono ?_;rintro e w' ⟨rfl,hw⟩;rw[hw])
 all_goals(go_ret;refine⟨?_,rfl⟩;unfold WB.cmpT WB.sLess;simp_all)
end Go.Proofs
namespace Go.Proofs
open Go.Shelf Go.RowKit Go.Lib Go.Sort
set_option maxHeartbeats 1000000 in
theorem Tryz.or146(b:Nat)(p q r:Int)(w:World)(d:w.cell? ⟨b,0,none⟩=some (.int .i64 p))(c:w.cell? ⟨b,1,none⟩=some (.int .i64 q))(a:r=if p=0 then q else p):
  Calls Tryz.prog 146 #[.slice (some ⟨b,0,none⟩) 2 2] w fun e w'=>e=.returned (.int .i64 r)/\w'=w:=by
 go_enter Tryz.func146,Tryz.ntmps146
 go_wp2
 refine wp_loop_rounds 3 ?_;rw[rounds_succ]
 go_wp2
 ·go_ret
  refine⟨?_,rfl⟩;subst a;simp_all
 ·rw[rounds_succ]
  go_wp2
  ·go_ret
   refine⟨?_,rfl⟩;subst a;simp_all
  ·rw[rounds_succ]
   go_wp2
   go_ret
   refine⟨?_,rfl⟩;subst a;simp_all
end Go.Proofs
namespace Go.Proofs
open Go.Shelf Go.RowKit Go.Lib Go.Sort
theorem Tryz.fieldAt43(b:Nat)(k:Nat)(a:k<3)(w:World):(Instr.fieldAt 43 (.pointer (some ⟨b,0,none⟩)) k).run Tryz.prog w=.ok (.pointer (some ⟨b,k,none⟩)) w:=by
 have h:k=0\/k=1\/k=2:=by omega
 rcases h with rfl|rfl|rfl<;>go_simp
theorem Tryz.load3(b k:Nat)(v:Int)(w:World)(h:w.cell? ⟨b,k,none⟩=some (.int .i64 v)):(Instr.loadAt 3 (.pointer (some ⟨b,k,none⟩))).run Tryz.prog w=.ok (.int .i64 v) w:=by
 go_simp
theorem Tryz.load9(b k:Nat)(v:ByteArray)(w:World)(h:w.cell? ⟨b,k,none⟩=some (.string v)):(Instr.loadAt 9 (.pointer (some ⟨b,k,none⟩))).run Tryz.prog w=.ok (.string v) w:=by
 go_simp
end Go.Proofs
namespace Go.Proofs
open Go.Shelf Go.RowKit Go.Lib Go.Sort
theorem good3{a:Array Oper}{m:List Nat}(g:a.size=13)(s:(a[11]?.map fun o=>o.after.any fun e=>Region.binds .any e&&e.on==10)=some true)(n:(a[12]?.map fun o=>o.after.any fun e=>Region.binds .any e&&e.on==11)=some true)
  (b:WB.Good a (WB.firstC 10 13) m):m= [10,11,12]:=by
 have l:∀{j k:Nat} {L:Array Bool},(a[j]?.map fun o=>o.after.any fun e=>Region.binds .any e&&e.on==k)=some true->(∀o,a[j]? =some o->∀e∈o.after,Region.binds .any e=true->L.getD e.on false=true)->L.getD k false=true:=by
  intro j k L h d;obtain⟨o,u,t⟩:=Option.map_eq_some_iff.1 h;rw[Array.any_eq_true']at t;obtain⟨e,v,r⟩:=t;simp only[Bool.and_eq_true,beq_iff_eq]at r;have:=d o u e v r.1;rw[r.2]at this;exact this
 have q:WB.firstC 10 13= #[true,true,true,true,true,true,true,true,true,true,false,false,false]:=by decide
 rw[q]at b
 cases b with
 |nil h=>exfalso;rw[g]at h;revert h;decide
 | @cons _ i m hi hL d b=>
  rw[g]at hi
  have c:i=10\/i=11\/i=12:=by
   have f:∀i,i<13->(#[true,true,true,true,true,true,true,true,true,true,false,false,false]:Array Bool).getD i true=false->i=10\/i=11\/i=12:=by decide
   exact f i hi hL
  rcases c with rfl|rfl|rfl
  ·have p:(#[true,true,true,true,true,true,true,true,true,true,false,false,false]:Array Bool).setIfInBounds 10 true= #[true,true,true,true,true,true,true,true,true,true,true,false,false]:=by decide
   rw[p]at b
   cases b with
   |nil h=>exfalso;rw[g]at h;revert h;decide
   | @cons _ i m hi hL d b=>
    rw[g]at hi
    have c:i=11\/i=12:=by
     have f:∀i,i<13->(#[true,true,true,true,true,true,true,true,true,true,true,false,false]:Array Bool).getD i true=false->i=11\/i=12:=by decide
     exact f i hi hL
    rcases c with rfl|rfl
    ·have p:(#[true,true,true,true,true,true,true,true,true,true,true,false,false]:Array Bool).setIfInBounds 11 true= #[true,true,true,true,true,true,true,true,true,true,true,true,false]:=by decide
     rw[p]at b
     cases b with
     |nil h=>exfalso;rw[g]at h;revert h;decide
     | @cons _ i m hi hL d b=>
      rw[g]at hi
      have c:i=12:=by
       have f:∀i,i<13->(#[true,true,true,true,true,true,true,true,true,true,true,true,false]:Array Bool).getD i true=false->i=12:=by decide
       exact f i hi hL
      subst c;have p:(#[true,true,true,true,true,true,true,true,true,true,true,true,false]:Array Bool).setIfInBounds 12 true= #[true,true,true,true,true,true,true,true,true,true,true,true,true]:=by decide
      rw[p]at b
      cases b with
      |nil h=>rfl
      | @cons _ i m hi hL d b=>
       exfalso;rw[g]at hi;have f:∀i,i<13->(#[true,true,true,true,true,true,true,true,true,true,true,true,true]:Array Bool).getD i true=false->False:=by decide
       exact f i hi hL
    ·exfalso;have:=l n d;revert this;decide
  ·exfalso;have:=l s d;revert this;decide
  ·exfalso;have:=l n d;revert this;decide
end Go.Proofs
namespace Go.Proofs
open Go.Shelf Go.RowKit Go.Lib Go.Sort
theorem ops_value{P:Program}{b:Array Oper}{Q:Exit->Act->World->Prop}{i:Nat}{rest:List Nat}{a:Act}{w w':World}{o:Oper}{v:Value}(e:b[i]? =some o)(f:o.guard=none)(d:(execOp a.eval o).run P w=.ok (.value v) w')(h:wpOps P b Q rest (a.put o.dst v) w'):wpOps P b Q (i::rest) a w:=by
 unfold wpOps;rw[e];have c:Region.wanted o (yielded b a.tmps)=true:=by unfold Region.wanted;rw[f]
 simp only[c,if_true];left;unfold Oper.wp;rw[d];exact h
theorem ops_enter{P:Program}{b:Array Oper}{Q:Exit->Act->World->Prop}{i:Nat}{rest:List Nat}{a:Act}{w w':World}{o:Oper}{f:FuncId}{args:Array Value}(j:b[i]? =some o)(k:o.guard=none)(g:(execOp a.eval o).run P w=.ok (.enter f args) w')(h:Calls P f args w' fun e c=>∃v,e=.returned v/\wpOps P b Q rest (a.put o.dst v) c):wpOps P b Q (i::rest) a w:=by
 unfold wpOps;rw[j];have d:Region.wanted o (yielded b a.tmps)=true:=by unfold Region.wanted;rw[k]
 simp only[d,if_true];left;unfold Oper.wp;rw[g];refine h.mono ?_
 rintro e c ⟨v,rfl,h⟩
 exact h
theorem exec_v{P:Program}{s:Sem Value}{v:Value}{w w':World}(h:s.run P w=.ok v w'):(do pure (Next.value (<-s)):Sem Next).run P w=.ok (.value v) w':=by
 rw[Sem.run_bind,h];rfl
set_option maxHeartbeats 2000000 in
theorem Tryz.slip145(x y:Int×List UInt8×Int)(W:World):Calls Tryz.prog 145 #[.agg #[.int .i64 x.1,.string ⟨⟨x.2.1⟩⟩,.int .i64 x.2.2],.agg #[.int .i64 y.1,.string ⟨⟨y.2.1⟩⟩,.int .i64 y.2.2]] W fun e w'=>e=.returned (.int .i64 (if WB.cmpI x.1 y.1=0 then WB.cmpT x.2.1 y.2.1 else WB.cmpI x.1 y.1))/\∃q p,w'=grow (W.drewN q) p:=by
 obtain⟨r,H⟩:∃r,r=(if WB.cmpI x.1 y.1=0 then WB.cmpT x.2.1 y.2.1 else WB.cmpI x.1 y.1):=⟨_,rfl⟩;rw[<-H];have t:Tryz.prog.follows .mixedOrders=true:=by kernel_rfl
 go_enter Tryz.func145,Tryz.ntmps145
 go_wp2
 rename_i Q' K N;have F:∀m,(((W.alloc (Obj.cells #[Value.int IntKind.i64 x.fst,Value.string {data:={toList:=x.snd.fst}},Value.int IntKind.i64 x.snd.snd] 43)).alloc (Obj.cells #[Value.int IntKind.i64 y.fst,Value.string {data:={toList:=y.snd.fst}},Value.int IntKind.i64 y.snd.snd] 43)).drewN m).cell? ⟨W.heap.size,0,none⟩=some (.int .i64 x.1):=by intro m;go_simp
 have E:∀m,(((W.alloc (Obj.cells #[Value.int IntKind.i64 x.fst,Value.string {data:={toList:=x.snd.fst}},Value.int IntKind.i64 x.snd.snd] 43)).alloc (Obj.cells #[Value.int IntKind.i64 y.fst,Value.string {data:={toList:=y.snd.fst}},Value.int IntKind.i64 y.snd.snd] 43)).drewN m).cell? ⟨W.heap.size,1,none⟩=some (.string ⟨⟨x.2.1⟩⟩):=by intro m;go_simp
 have D:∀m,(((W.alloc (Obj.cells #[Value.int IntKind.i64 x.fst,Value.string {data:={toList:=x.snd.fst}},Value.int IntKind.i64 x.snd.snd] 43)).alloc (Obj.cells #[Value.int IntKind.i64 y.fst,Value.string {data:={toList:=y.snd.fst}},Value.int IntKind.i64 y.snd.snd] 43)).drewN m).cell? ⟨W.heap.size+1,0,none⟩=some (.int .i64 y.1):=by intro m;go_simp
 have C:∀m,(((W.alloc (Obj.cells #[Value.int IntKind.i64 x.fst,Value.string {data:={toList:=x.snd.fst}},Value.int IntKind.i64 x.snd.snd] 43)).alloc (Obj.cells #[Value.int IntKind.i64 y.fst,Value.string {data:={toList:=y.snd.fst}},Value.int IntKind.i64 y.snd.snd] 43)).drewN m).cell? ⟨W.heap.size+1,1,none⟩=some (.string ⟨⟨y.2.1⟩⟩):=by intro m;go_simp
 obtain⟨n,Q⟩:∃os,(W.alloc (Obj.cells #[Value.int IntKind.i64 x.fst,Value.string {data:={toList:=x.snd.fst}},Value.int IntKind.i64 x.snd.snd] 43)).alloc (Obj.cells #[Value.int IntKind.i64 y.fst,Value.string {data:={toList:=y.snd.fst}},Value.int IntKind.i64 y.snd.snd] 43)=grow (W.drewN 0) os:=⟨_,by rw[alloc_eq_grow,alloc_eq_grow,grow_grow];rfl⟩;generalize (W.alloc (Obj.cells #[Value.int IntKind.i64 x.fst,Value.string {data:={toList:=x.snd.fst}},Value.int IntKind.i64 x.snd.snd] 43)).alloc (Obj.cells #[Value.int IntKind.i64 y.fst,Value.string {data:={toList:=y.snd.fst}},Value.int IntKind.i64 y.snd.snd] 43)=W1 at*;generalize W.heap.size=b0 at*;generalize b0+1=b1 at*;generalize (Value.agg #[Value.int IntKind.i64 x.fst,Value.string {data:={toList:=x.snd.fst}},Value.int IntKind.i64 x.snd.snd])=A0;generalize (Value.agg #[Value.int IntKind.i64 y.fst,Value.string {data:={toList:=y.snd.fst}},Value.int IntKind.i64 y.snd.snd])=A1;refine WB.wp_cut_exact (c:=10) t (by decide) (by kernel_rfl) (by kernel_rfl) ?_;intro d M P J;have R:=good3 rfl (by kernel_rfl) (by kernel_rfl) J;subst R;clear J
 refine(?_:∀(L:Array Bool) (d:List Nat),WB.Good _ L d->L.size=10->∀(vs:Nat->Value) (m:Nat),(∀j,j<10->L.getD j false=true->vs j= [Value.pointer (some ⟨b0,0,none⟩),.int .i64 x.1,.pointer (some ⟨b1,0,none⟩),.int .i64 y.1,.int .i64 (WB.cmpI x.1 y.1),.pointer (some ⟨b0,1,none⟩),.string ⟨⟨x.2.1⟩⟩,.pointer (some ⟨b1,1,none⟩),.string ⟨⟨y.2.1⟩⟩,.int .i64 (WB.cmpT x.2.1 y.2.1)].getD j undef)->
  wpOps _ _ _ (d++ [10,11,12]) ⟨#[A0,A1,.pointer (some ⟨b0,0,none⟩),.pointer (some ⟨b1,0,none⟩),.int .i64 0,vs 0,vs 1,vs 2,vs 3,vs 4,vs 5,vs 6,vs 7,vs 8,vs 9,undef,undef],[]⟩ (W1.drewN m)) _ d P (by simp) (fun _=>undef) 1 (fun j l h=>by exfalso;revert h;revert j;decide)
 intro L d w
 induction w with
 | @nil L h=>
  intro G vs m b
  have g:∀j,j<10->L.getD j false=true:=by
   intro j l
   have z:j∉WB.left 10 L:=by
    have k:WB.left 10 L= []:=h;rw[k];simp
   unfold WB.left at z;rw[List.mem_filter]at z;have k:¬((!L.getD j true)=true):=fun O=>z ⟨List.mem_range.2 l,O⟩;rw[Array.getD_eq_getD_getElem?]at k⊢;rw[Array.getElem?_eq_getElem (by omega)]at k⊢;simpa using k
  have B:vs 4=.int .i64 (WB.cmpI x.1 y.1):=b 4 (by decide) (g 4 (by decide));have A:vs 9=.int .i64 (WB.cmpT x.2.1 y.2.1):=b 9 (by decide) (g 9 (by decide));clear b g h;refine ops_value (o:=_) (v:=.slice (some ⟨W1.heap.size,0,none⟩) 2 2) (w':=(W1.drewN m).alloc (.cells #[vs 4,vs 9] 3)) rfl rfl (by rw[B,A];go_simp) ?_;refine ops_enter (o:=_) (f:=146) (args:= #[.slice (some ⟨W1.heap.size,0,none⟩) 2 2]) (w':=(W1.drewN m).alloc (.cells #[vs 4,vs 9] 3)) rfl rfl (by go_simp) ?_;refine(Tryz.or146 _ (WB.cmpI x.1 y.1) (WB.cmpT x.2.1 y.2.1) r _ (by rw[B,A];go_simp) (by rw[B,A];go_simp) H).mono ?_
  rintro e w'' ⟨rfl,rfl⟩
  refine⟨_,rfl,ops_value (o:=_) (v:=.int .i64 r) (w':=(W1.drewN m).alloc (.cells #[vs 4,vs 9] 3)) rfl rfl (by go_simp) ?_⟩;refine N _ _ ?_;subst Q
  go_wp2
  go_ret
  refine⟨rfl,m,n++ #[.cells #[vs 4,vs 9] 3], ?_⟩;rw[<-grow_grow,alloc_eq_grow];rfl
 | @cons L i is hi hL hd w ih=>
  intro G vs m b
  have step:∀v,v= [Value.pointer (some ⟨b0,0,none⟩),.int .i64 x.1,.pointer (some ⟨b1,0,none⟩),.int .i64 y.1,.int .i64 (WB.cmpI x.1 y.1),.pointer (some ⟨b0,1,none⟩),.string ⟨⟨x.2.1⟩⟩,.pointer (some ⟨b1,1,none⟩),.string ⟨⟨y.2.1⟩⟩,.int .i64 (WB.cmpT x.2.1 y.2.1)].getD i undef->
    ∀j,j<10->(L.setIfInBounds i true).getD j false=true->(fun j=>if j=i then v else vs j) j= [Value.pointer (some ⟨b0,0,none⟩),.int .i64 x.1,.pointer (some ⟨b1,0,none⟩),.int .i64 y.1,.int .i64 (WB.cmpI x.1 y.1),.pointer (some ⟨b0,1,none⟩),.string ⟨⟨x.2.1⟩⟩,.pointer (some ⟨b1,1,none⟩),.string ⟨⟨y.2.1⟩⟩,.int .i64 (WB.cmpT x.2.1 y.2.1)].getD j undef:=by
   intro v s j l h;by_cases e:j=i
   ·subst e;simp only[if_true];exact s
   ·simp only[if_neg e];refine b j l ?_;rw[Array.getD_eq_getD_getElem?,Array.getElem?_setIfInBounds]at h;rw[if_neg (Ne.symm e)]at h;rw[Array.getD_eq_getD_getElem?];exact h
  have I:i<10:=by have:i<_:=hi;simpa using this
  have a:=fun v m s=>ih (by simp[G]) (fun j=>if j=i then v else vs j) m (step v s);clear ih step w;have u:i=0\/i=1\/i=2\/i=3\/i=4\/i=5\/i=6\/i=7\/i=8\/i=9:=by omega
  rcases u with rfl|rfl|rfl|rfl|rfl|rfl|rfl|rfl|rfl|rfl
  ·refine ops_value (o:=_) rfl rfl (exec_v (Tryz.fieldAt43 b0 0 (by decide) _)) (a _ m rfl)
  ·have d0:vs 0=Value.pointer (some ⟨b0,0,none⟩):=b 0 (by decide) (hd _ rfl ⟨0,.data⟩ (by simp) rfl);refine ops_value (o:=_) rfl rfl (exec_v (?_:(Instr.loadAt _ (vs 0)).run _ _=_)) (a _ m rfl);rw[d0];exact Tryz.load3 _ _ _ _ (F m)
  ·refine ops_value (o:=_) rfl rfl (exec_v (Tryz.fieldAt43 b1 0 (by decide) _)) (a _ m rfl)
  ·have Y:vs 2=.pointer (some ⟨b1,0,none⟩):=b 2 (by decide) (hd _ rfl ⟨2,.data⟩ (by simp) rfl);refine ops_value (o:=_) rfl rfl (exec_v (?_:(Instr.loadAt _ (vs 2)).run _ _=_)) (a _ m rfl);rw[Y];exact Tryz.load3 _ _ _ _ (D m)
  ·have Z:vs 1=.int .i64 x.1:=b 1 (by decide) (hd _ rfl ⟨1,.data⟩ (by simp) rfl);have X:vs 3=.int .i64 y.1:=b 3 (by decide) (hd _ rfl ⟨3,.data⟩ (by simp) rfl);refine ops_enter (o:=_) (f:=147) (args:= #[.int .i64 x.1,.int .i64 y.1]) (w':=W1.drewN m) rfl rfl (by rw[<-Z,<-X];go_simp) ?_;refine(Tryz.cmp147 x.1 y.1 _).mono ?_
   rintro e w'' ⟨rfl,rfl⟩
   exact⟨_,rfl,a _ m rfl⟩
  ·refine ops_value (o:=_) rfl rfl (exec_v (Tryz.fieldAt43 b0 1 (by decide) _)) (a _ m rfl)
  ·have V:vs 5=.pointer (some ⟨b0,1,none⟩):=b 5 (by decide) (hd _ rfl ⟨5,.data⟩ (by simp) rfl);refine ops_value (o:=_) rfl rfl (exec_v (?_:(Instr.loadAt _ (vs 5)).run _ _=_)) (a _ m rfl);rw[V];exact Tryz.load9 _ _ _ _ (E m)
  ·refine ops_value (o:=_) rfl rfl (exec_v (Tryz.fieldAt43 b1 1 (by decide) _)) (a _ m rfl)
  ·have T:vs 7=.pointer (some ⟨b1,1,none⟩):=b 7 (by decide) (hd _ rfl ⟨7,.data⟩ (by simp) rfl);refine ops_value (o:=_) rfl rfl (exec_v (?_:(Instr.loadAt _ (vs 7)).run _ _=_)) (a _ m rfl);rw[T];exact Tryz.load9 _ _ _ _ (C m)
  ·have U:vs 6=.string ⟨⟨x.2.1⟩⟩:=b 6 (by decide) (hd _ rfl ⟨6,.data⟩ (by simp) rfl);have S:vs 8=.string ⟨⟨y.2.1⟩⟩:=b 8 (by decide) (hd _ rfl ⟨8,.data⟩ (by simp) rfl);refine ops_enter (o:=_) (f:=148) (args:= #[.string ⟨⟨x.2.1⟩⟩,.string ⟨⟨y.2.1⟩⟩]) (w':=W1.drewN m) rfl rfl (by rw[<-U,<-S];go_simp) ?_;refine(Tryz.cmp148 x.2.1 y.2.1 _).mono ?_
   rintro e w'' ⟨rfl,rfl⟩
   exact⟨_,rfl,a _ m rfl⟩
end Go.Proofs
namespace WB
open Go Go.RowKit Go.Sort Go.Proofs Go.Shelf
abbrev tyLn:Ty:=.agg (.cons (.int .i64) (.cons .str (.one (.int .i64))))
def encLn(x:D tyLn):List Value:= [.int .i64 x.1,.string ⟨⟨x.2.1⟩⟩,.int .i64 x.2.2]
theorem encLn_to(x:D tyLn)(c:CV)(w:World)(M:MM)(v:Value)(h:Can tyLn x [c])(e:RelC w M c v):v.cells=(encLn x).toArray:=by
 obtain⟨a,b,d⟩:=x;unfold tyLn at h;simp only[Can]at h;obtain⟨l,n,y,s,rfl,m,u,r,rfl,k,t,rfl,j⟩:=h;cases n;cases m;cases k;cases j;simp only[RelC,RelL]at e;obtain⟨vs,rfl,q,i,rfl,rfl,p,g,rfl,rfl,o,f,rfl,rfl,rfl⟩:=e;rfl
theorem encLn_fr(x:D tyLn)(w:World)(M:MM):∃v,RelC w M (enc tyLn x) v/\v.cells=(encLn x).toArray:=by
 obtain⟨a,b,d⟩:=x;refine⟨.agg #[.int .i64 a,.string ⟨⟨b⟩⟩,.int .i64 d], ?_,rfl⟩;simp[enc,encL,RelC,RelL]
theorem sort_any(cf:D tyLn->D tyLn->Int)(a:∀x y:D tyLn,cf x y=if WB.cmpI x.1 y.1=0 then WB.cmpT x.2.1 y.2.1 else WB.cmpI x.1 y.1)(f:SWO (ltOf cf)):
  ((tyLn.val&&tyLn.ok)=true/\hasBody Tryz.prog 144=true/\(Tryz.prog.info? 43).isSome=true/\mvOf 145=none/\
  ∀xs es b,CanAll (fun x c=>Can tyLn x [c]) xs es->(if xs.length<4611686018427387904 then some (sortBy cf xs)else none)=some b->SortC Tryz.prog 144 145 43 3 es (b.map (enc tyLn))):=by
 refine⟨by rfl,by kernel_rfl,by kernel_rfl,by kernel_rfl, ?_⟩;refine sort_ok Tryz.sort144 (t:=tyLn) encLn (k:=3) (e:=43) (g:=145) (cf:=cf) ?_ ?_ (fun _=>rfl) ?_ f ?_ ?_ encLn_to encLn_fr
 ·exact Tryz.isAgg43
 ·exact Tryz.sizeOf43
 ·intro x v d;simp only[encLn,List.mem_cons,List.not_mem_nil,or_false]at d;rcases d with rfl|rfl|rfl<;>rfl
 ·exact enters_of Tryz.func145 (by kernel_rfl) rfl
 ·intro x y w;rw[a];exact Tryz.slip145 x y w
end WB
namespace WB
open Go Go.RowKit Go.Proofs Go.Sort
theorem _root_.Go.Proofs.Tryz.sort_144_145:((tyLn.val&&tyLn.ok)=true/\hasBody Tryz.prog 144=true/\(Tryz.prog.info? 43).isSome=true/\mvOf 145=none/\
  ∀xs es a,CanAll (fun x c=>Can tyLn x [c]) xs es->srt_144_145 xs=some a->SortC Tryz.prog 144 145 43 3 es (a.map (enc tyLn))):=by
 have e:∀x y:D tyLn,(year_stepping_slip_1 (x,y)).getD 0=cmpL x y:=fun x y=>by rw[slip1_eq];rfl
 refine sort_any (fun x y=>(year_stepping_slip_1 (x,y)).getD 0) (fun x y=>by rw[e];rfl) ?_;rw[show(fun x y:D tyLn=>(year_stepping_slip_1 (x,y)).getD 0)=cmpL from funext fun x=>funext fun y=>e x y];exact lnLt_swo
end WB
