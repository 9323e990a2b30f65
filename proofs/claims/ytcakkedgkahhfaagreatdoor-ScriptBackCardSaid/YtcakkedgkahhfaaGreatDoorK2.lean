/-
  OWN TEXTS, MERGED (wip/merge.py): CoreM, CoreN, CoreO, CoreP, CoreQ, CoreR, CoreS, CoreT, CoreU, CoreUe, CoreV, CoreW, CoreWb, CoreWd. No condition of their own.
-/
import Derived.Test.YtcakkedgkahhfaaGreatDoorK1
import Derived.Maps.AppendAt
import Derived.Orders
set_option linter.unusedVariables false
set_option linter.unusedSimpArgs false
open Go.IntKind (i64 u64 u8 u32)
namespace WB
open Go Go.RowKit
section
variable {P:Program} {G:Nat→List CV} {w0:WL} {M0:MM} {n:Nat} {st:St} {a:Act} {w w':World} {z:Cz}
theorem SR.low(h:SR P G w0 M0 n st a w z){id g:Nat}(hl:st.ob id≠ .none)(hb:blk (z.σ id)=some g)(hlt:g<w0.heap.size):w0.L id g:=by
 rcases(h.lo id g hl hb).1 with h1|h1
 ·omega
 ·exact h1
theorem SR.out(h:SR P G w0 M0 n st a w z){id g:Nat}(hl:st.ob id≠ .none)(hb:blk (z.σ id)=some g)(hT:¬w0.le.I id):¬M0 g:=fun hm=>hT (h.nam.lent _ _ (h.low hl hb (h.outer g hm))).2
theorem SR.globW(h:SR P G w0 M0 n st a w z):GOk G w (Am M0 z st.ob):=
 h.glob.keep h.below.size (fun g hg hm=>h.below.block g hg fun id hL=>hm (h.nam.lent id g hL).1) fun g hlt hm=>by
  rcases hm with hm|⟨id,hl,hb⟩
  ·exact hm
  ·exact(h.nam.lent id g (h.low hl hb hlt)).1
theorem SR.ctx(h:SR P G w0 M0 n st a w z):Ctx P G w (Am M0 z st.ob) 0 z st.ob st.fr a where
 fr:=h.fr
 ob:=h.ob
 glob:=fun i hi=>((h.globW) i hi).1
 told:=h.nam.told
theorem TK{M:MM}(hb:Below w.heap.size w w'):Bp w M w' M:=⟨hb.size,fun g hg _=>hb.block g hg,fun _ _ h=>h,rfl⟩
theorem SR.grow(h:SR P G w0 M0 n st a w z)(hb:Below w.heap.size w w'):SR P G w0 M0 n st a w' z:=by
 have hk:=TK (M:=Am M0 z st.ob) hb;have hz:∀s:SV,Eg st.ob z st.ob z s:=fun s=>⟨fun _ _ hh=>hh,fun _ _ _=>rfl,fun _ _ _ _ _ hh=>hh⟩;refine⟨h.size,h.defers,h.below.trans (hb.mono h.below.size),h.outer,h.nam,h.glob,fun i=>Ar.keep hk (hz _) (h.fr i),fun id=> ?_,fun id g h1 h2=> ?_,h.apart⟩
 ·by_cases hl:st.ob id=.none
  ·rw[hl];trivial
  ·exact Ba.keep hk (fun g hg=>hb.block g (h.lo id g hl hg).2) (fun _ _ _ _=>hz _) (fun _ _ hh=>hh) (h.ob id)
 ·have:=h.lo id g h1 h2;exact⟨this.1,Nat.lt_of_lt_of_le this.2 hb.size⟩
def Cz.new(z:Cz)(d:Nat)(v:Value):Cz:={σ:=upd z.σ d v,β:=fun id=>if id=d then fun _ _=>False else z.β id,al:=z.al}
theorem HO{v:Value}{d:Nat}{o:Ob}(hn:st.ob d=.none)(s:SV):Eg st.ob z (upd st.ob d o) (z.new d v) s where
 live:=fun id _ hl=>by
  have:id≠d:=fun e=>hl (e▸hn);rw[Ay _ _ this];exact hl
 at_:=fun id _ hl=>by
  have:id≠d:=fun e=>hl (e▸hn);simp[Cz.new,upd,this]
 born:=fun id _ hl k b hh=>by
  have:id≠d:=fun e=>hl (e▸hn);simp[Cz.new,this,hh]
theorem Jz{v:Value}{d:Nat}{o:Ob}(hn:st.ob d=.none)(hb:Below w.heap.size w w')(hv:∀g,blk v=some g→w.heap.size≤g):
  Bp w (Am M0 z st.ob) w' (Am M0 (z.new d v) (upd st.ob d o)):=⟨hb.size,fun g hg _=>hb.block g hg,fun g hlt hm=>by
 rcases hm with hm|⟨id,hl,hbk⟩
 ·exact .inl hm
 ·by_cases hid:id=d
  ·subst hid;simp[Cz.new,upd]at hbk;have:=hv g hbk;omega
  ·refine .inr ⟨id, ?_, ?_⟩
   ·rw[Ay _ _ hid]at hl;exact hl
   ·simpa[Cz.new,upd,hid]using hbk,rfl⟩
theorem SR.new(h:SR P G w0 M0 n st a w z){d:Nat}(hd:d<n)(hn:st.ob d=.none){v:Value}{o:Ob}{sv:SV}(hb:Below w.heap.size w w')(hv:∀g,blk v=some g→w.heap.size≤g∧g<w'.heap.size)
  (ho:Ba P w' (Am M0 (z.new d v) (upd st.ob d o)) 0 (z.new d v) (upd st.ob d o) d v o) (hs:Ar w' (Am M0 (z.new d v) (upd st.ob d o)) (z.new d v) (upd st.ob d o) sv v):
  SR P G w0 M0 n {fr:=upd st.fr d sv,ob:=upd st.ob d o} (a.put (some d) v) w' (z.new d v):=by
 have hk:=Jz (M0:=M0) (z:=z) (o:=o) hn hb (fun g hg=>(hv g hg).1);refine⟨by simpa[Act.put]using h.size,h.defers,h.below.trans (hb.mono h.below.size),h.outer,h.nam.of rfl (fun N cs hN hc=> ?_),h.glob,fun i=> ?_,fun id=> ?_,fun id g h1 h2=> ?_,fun i j g hij h1 h2 h3 h4=> ?_⟩
 ·have hNd:N≠d:=fun e=>by have:=h.nam.low;omega
  simp only[Ay _ _ hNd]at hc;exact⟨cs,hc,by simp[Cz.new,upd,hNd]⟩
 ·rw[PS];by_cases hi:i=d
  ·subst hi;rw[if_pos ⟨rfl,by rw[h.size];exact hd⟩];simpa[Bl]using hs
  ·rw[if_neg (fun hh=>hi hh.1)];simp only[Ay _ _ hi];exact Ar.keep hk (HO hn _) (h.fr i)
 ·by_cases hid:id=d
  ·subst hid;simp only[Bl];have:(z.new id v).σ id=v:=by simp[Cz.new,upd]
   rw[this];exact ho
  ·simp only[Ay _ _ hid];have e:(z.new d v).σ id=z.σ id:=by simp[Cz.new,upd,hid]
   rw[e];by_cases hl:st.ob id=.none
   ·rw[hl];trivial
   ·exact Ba.keep hk (fun g hg=>hb.block g (h.lo id g hl hg).2) (fun _ _ _ _=>HO hn _) (fun k b hh=>by simpa[Cz.new,hid]using hh) (h.ob id)
 ·by_cases hid:id=d
  ·subst hid;simp only[Cz.new,Bl]at h2;have:=hv g h2;exact⟨.inl (Nat.le_trans h.below.size this.1),this.2⟩
  ·simp only[Ay _ _ hid]at h1;simp only[Cz.new,Ay _ _ hid]at h2;have:=h.lo id g h1 h2;exact⟨this.1,Nat.lt_of_lt_of_le this.2 hb.size⟩
 ·by_cases hi:i=d
  ·subst hi;have hj:j≠i:=fun e=>hij e.symm;simp only[Cz.new,Bl]at h3;simp only[Cz.new,Ay _ _ hj]at h4;simp only[Ay _ _ hj]at h2;have e1:=(hv g h3).1;have e2:=(h.lo j g h2 h4).2;omega
  ·by_cases hj:j=d
   ·subst hj;simp only[Cz.new,Bl]at h4;simp only[Cz.new,Ay _ _ hi]at h3;simp only[Ay _ _ hi]at h1;have e1:=(hv g h4).1;have e2:=(h.lo i g h1 h3).2;omega
   ·simp only[Cz.new,Ay _ _ hi]at h3;simp only[Cz.new,Ay _ _ hj]at h4;simp only[Ay _ _ hi]at h1;simp only[Ay _ _ hj]at h2;exact h.apart i j g hij h1 h2 h3 h4
end
theorem Hq(w:World)(o:Obj):Below w.heap.size w (w.alloc o):=(Below.refl _ _).alloc (Nat.le_refl _) _
theorem Qq{P:Program}(t:TypeId)(v:Value)(w:World):(newVar t v).run P w=.ok ⟨w.heap.size,0,none⟩ (w.alloc (.cells v.cells t)):=by
 simp[newVar,newRow]
theorem MI{P:Program}(t:TypeId)(c:Array Value)(w:World):(newRow t c).run P w=.ok ⟨w.heap.size,0,none⟩ (w.alloc (.cells c t)):=by
 simp[newRow]
theorem F9(w:World)(o:Obj):(w.alloc o).heap[w.heap.size]? =some o:=heap_alloc_new w o
section
variable {P:Program} {G:Nat→List CV} {w0:WL} {M0:MM} {n:Nat} {st:St} {a:Act} {w:World} {z:Cz}
theorem KJ{M:MM}{size:Nat}:∀{cs:List CV} {vs:List Value},RelL w M cs vs→(cs.all fun v=>BB v==size)=true→AU w M size cs (vs.flatMap fun v=>v.cells.toList)
 | [],vs,h,_=>by unfold RelL at h;subst h;rfl
 |c::cs,vs,h,hs=>by
  unfold RelL at h;obtain⟨v,vs',rfl,h1,h2⟩:=h;simp only[List.all_cons,Af,beq_iff_eq]at hs;exact⟨v,_,by simp,by rw[h1.cells_size,hs.1],h1,KJ h2 hs.2⟩
theorem Ui(zc:Array Value)(n:Nat):(madeCells zc ((n+1)*zc.size)).toList=zc.toList++(madeCells zc (n*zc.size)).toList:=by
 have e:(n+1)*zc.size=zc.size+n*zc.size:=by rw[Nat.add_mul];omega
 rw[e];simp only[madeCells,Array.toList_map,Array.toList_range,List.range_add,List.map_append,List.map_map]
 congr 1
 ·apply List.ext_getElem
  ·simp
  ·intro i h1 h2;simp at h1;simp[Nat.mod_eq_of_lt h1,h1]
 ·apply List.map_congr_left;intro i _;simp
theorem Ny{M:MM}{c:CV}{v:Value}(h:RelC w M c v){size:Nat}(hs:v.cells.size=size):∀n,AU w M size (List.replicate n c) (madeCells v.cells (n*size)).toList
 |0=>by simp[AU,madeCells]
 |n+1=>by
  subst hs;rw[List.replicate_succ,Ui];exact⟨v,_,rfl,rfl,h,Ny h rfl n⟩
theorem VM(zc:Array Value){a b:Nat}(h:a≤b):(madeCells zc b).toList.take a=(madeCells zc a).toList:=by
 simp only[madeCells,Array.toList_map,Array.toList_range,←List.map_take,List.take_range,Nat.min_eq_left h]
theorem Qw(h:SR P G w0 M0 n st a w z):∀{parts:List (Nat×Operand)} {i:Nat} {xs:List SO} {l:List CV},Iz i parts=some xs→Aq (fun x=>closed (so G st.fr x)) xs=some l→
  ∃vs:List Value,(parts.map fun p=>(p.1,a.eval p.2))=(List.range' i vs.length).zip vs∧RelL w (Am M0 z st.ob) l vs
 | [],i,xs,l,h1,h2=>by
  simp only[Iz,Ac]at h1;subst h1;simp only[Aq,Ac]at h2;subst h2;exact⟨[],rfl,RelL.nil⟩
 |(j,x)::parts,i,xs,l,h1,h2=>by
  simp only[Iz,Ad,Ab,Aa]at h1;obtain⟨rfl,sx,hsx,ss,hss,rfl⟩:=h1;simp only[Aq,Ab,Aa]at h2;obtain⟨c,hc,cs,hcs,rfl⟩:=h2;obtain⟨vs,e1,e2⟩:=Qw h hss hcs
  have hcl:so G st.fr sx=.c c:=by
   cases hh:so G st.fr sx<;>rw[hh]at hc<;>simp[closed]at hc;rw[hc]
  exact⟨a.eval x::vs,by simp[e1,List.range'_succ],RelL.cons (h.ctx.c hsx hcl) e2⟩
theorem O6{size:Nat}:∀(vs:List Value) (k:Nat) (pre rest:List Value),pre.length=k*size→rest.length=vs.length*size→(∀v∈vs,v.cells.size=size)→
  Instr.fill (fun i=>some (i*size,size)) ⟨pre++rest⟩ ((List.range' k vs.length).zip vs)=some ⟨pre++vs.flatMap fun v=>v.cells.toList⟩
 | [],k,pre,rest,_,h2,_=>by
  have:rest= []:=List.eq_nil_of_length_eq_zero (by simpa using h2);subst this;rfl
 |v::vs,k,pre,rest,h1,h2,h3=>by
  have hv:=h3 v (by simp);simp only[List.length_cons,List.range'_succ,List.zip_cons_cons,Instr.fill];rw[if_neg (by simp[hv,h1,h2,Nat.add_mul])]
  have hfold:(v.cells.zipIdx.foldl (fun(cs:Array Value) (p:Value×Nat)=>cs.setIfInBounds (k*size+p.2) p.1) (⟨pre++rest⟩:Array Value))=⟨(pre++v.cells.toList)++rest.drop size⟩:=by
   apply Array.toList_inj.1;rw[←Array.foldl_toList,Array.toList_zipIdx];have:=L2 v.cells.toList ⟨pre++rest⟩ (k*size) 0 (by simp[hv,h1,h2,Nat.add_mul]);rw[this];simp[hv,←h1,List.drop_append]
  have ih:=O6 vs (k+1) (pre++v.cells.toList) (rest.drop size) (by simp[h1,hv,Nat.add_mul]) (by simp[h2,Nat.add_mul]) (fun u hu=>h3 u (by simp[hu]));have e:(v.cells.zipIdx.foldl (fun(cs:Array Value) (x:Value×Nat)=>match x with|(c,j)=>cs.setIfInBounds (k*size+j) c) (⟨pre++rest⟩:Array Value))=⟨(pre++v.cells.toList)++rest.drop size⟩:=hfold;rw[e,ih];simp
def KI(P:Program)(G:Nat→List CV)(w0:WL)(M0:MM)(n:Nat)(st:St)(a:Act)(w:World)(o:Oper)(d:Nat)(sv:SV)(ob:Ob):Prop:=
 ∃v w' z',(execOp a.eval o).run P w=.ok (.value v) w'∧SR P G w0 M0 n {fr:=upd st.fr d sv,ob:=upd st.ob d ob} (a.put (some d) v) w' z'
theorem Ib(h:SR P G w0 M0 n st a w z){o:Oper}{d:Nat}(hd:d<n)(hn:st.ob d=.none){sv:SV}{ob:Ob}{s:Sem Value}{v:Value}{w':World}(he:execOp a.eval o=(do pure (.value (←s)):Sem Next))(hr:s.run P w=.ok v w')
  (hb:Below w.heap.size w w') (hv:∀g,blk v=some g→w.heap.size≤g∧g<w'.heap.size)
  (hk:Bp w (Am M0 z st.ob) w' (Am M0 (z.new d v) (upd st.ob d ob))→(∀s,Eg st.ob z (upd st.ob d ob) (z.new d v) s)→Ba P w' (Am M0 (z.new d v) (upd st.ob d ob)) 0 (z.new d v) (upd st.ob d ob) d v ob∧Ar w' (Am M0 (z.new d v) (upd st.ob d ob)) (z.new d v) (upd st.ob d ob) sv v):
  KI P G w0 M0 n st a w o d sv ob:=by
 have k1:=Jz (M0:=M0) (z:=z) (o:=ob) hn hb (fun g hg=>(hv g hg).1);obtain⟨h1,h2⟩:=hk k1 (HO hn);exact⟨v,w',z.new d v,by rw[he];simp[hr],h.new hd hn hb hv h1 h2⟩
theorem Fn{d:Nat}{ob:Ob}(h:ob≠ .none):upd st.ob d ob d≠ .none:=by rw[Bl];exact h
theorem CM{d:Nat}{v:Value}:(z.new d v).σ d=v:=by simp[Cz.new,upd]
theorem Mj(h:SR P G w0 M0 n st a w z){o:Oper}{d:Nat}(hd:d<n)(hn:st.ob d=.none){cs:List SV}{t:TypeId}{vs:List Value}{s:Sem Value}(he:execOp a.eval o=(do pure (.value (←s)):Sem Next))
  (hr:s.run P w=.ok (.pointer (some ⟨w.heap.size,0,none⟩)) (w.alloc (.cells ⟨vs⟩ t))) (hs:Av w (Am M0 z st.ob) z st.ob cs vs):KI P G w0 M0 n st a w o d (.ptr d 0) (.box cs):=by
 refine Ib h hd hn he hr (Hq _ _) (fun g hg=> ?_) fun hk hz=>⟨⟨w.heap.size,t,vs,rfl,F9 _ _,Av.keep hk (fun s _=>hz s) hs⟩,Fn (by simp),w.heap.size,CM,rfl⟩;simp only[blk,Ac]at hg;subst hg;exact⟨Nat.le_refl _,by simp⟩
theorem NN(h:SR P G w0 M0 n st a w z){s:SV}{v:Value}(hs:Ar w (Am M0 z st.ob) z st.ob s v)(hc:∀cs,s≠ .c (.agg cs))(hu:s≠ .undef):v.cells= #[v]:=by
 have live:∀id,st.ob id≠ .none→(z.σ id).cells= #[z.σ id]:=by
  intro id hl;have ho:=h.ob id
  cases hob:st.ob id with
  |none=>exact absurd hob hl
  |box cs=>rw[hob]at ho;obtain⟨g,ty,vs,e,_⟩:=ho;rw[e];rfl
  |arr e size es=>
   rw[hob]at ho;obtain⟨xs,hown,_⟩:=ho;rcases hown.2 with⟨e,_⟩|⟨g,cap,cur,e,_⟩<;>rw[e]<;>rfl
  |map mt kt zc ks vs=>rw[hob]at ho;obtain⟨_,_,_,r,ens,clk,_,e,_⟩:=ho;rw[e];rfl
  |siter s pos=>rw[hob]at ho;obtain⟨r,e,_⟩:=ho;rw[e];rfl
  |buf e s=>
   rw[hob]at ho;rcases ho.2 with⟨e,_⟩|⟨g,cap,cur,fz,e,_⟩<;>rw[e]<;>rfl
 cases s with
 |c cv=>exact Mx hs (fun cs e=>hc cs (by rw[e]))
 |ptr id o=>obtain⟨_,g,_,e⟩:=hs;rw[e];rfl
 |eptr id i sz o=>obtain⟨_,g,n,c,_,e⟩:=hs;rw[e];rfl
 |osl id=>obtain⟨hl,e⟩:=hs;rw[e];exact live id hl
 |omap id=>obtain⟨hl,e⟩:=hs;rw[e];exact live id hl
 |iter id=>obtain⟨hl,e⟩:=hs;rw[e];exact live id hl
 |stamp id k=>obtain⟨_,b,_,e⟩:=hs;rw[e];rfl
 |ent id k cv=>obtain⟨_,b,u,_,e,_⟩:=hs;rw[e];rfl
 |undef=>exact absurd rfl hu
theorem H5{op:BinOp}{t:TypeId}{x y:Operand}{sop:SOp}(hc:IX P op t x y=some sop):sop.cls=.val:=by
 unfold IX at hc;split at hc
 all_goals
  split at hc<;>first
   |(cases hc;done)
   |(simp only[Ab,Aa]at hc;obtain⟨_,_,_,_,rfl⟩:=hc;rfl)
   |(split at hc<;>first
    |(cases hc;done)
    |(simp only[Ab,Aa]at hc;obtain⟨_,_,_,_,_,_,rfl⟩:=hc;rfl))
theorem IY{src dst:TypeId}{x:Operand}{sop:SOp}(hc:FK P src dst x=some sop):sop.cls=.val∨sop.cls=.grow:=by
 unfold FK at hc
 split at hc<;>first
  |(cases hc;done)
  |(simp only[Aa]at hc;obtain⟨_,_,rfl⟩:=hc;exact .inl rfl)
  |(split at hc<;>first
   |(cases hc;done)
   |(simp only[Aa]at hc;obtain⟨_,_,rfl⟩:=hc;first|exact .inl rfl|exact .inr rfl))
theorem Sc{c:Call}{sop:SOp}(hc:E2 P c=some sop):sop.cls≠ .new:=by
 unfold E2 at hc;split at hc<;>(try cases hc;done)
 ·split at hc<;>first
   |(cases hc;done)
   |(simp only[Aa]at hc;obtain⟨_,_,rfl⟩:=hc;intro hh;cases hh)
   |(simp only[Ac]at hc;subst hc;intro hh;cases hh)
 ·simp only[Aa]at hc;obtain⟨_,_,rfl⟩:=hc;intro hh;cases hh
 ·simp only[Aa]at hc;obtain⟨_,_,rfl⟩:=hc;intro hh;cases hh
 ·split at hc<;>(try cases hc;done);split at hc<;>(try cases hc;done);simp only[Ab,Ad,Ac]at hc;obtain⟨i,_,zv,_,sa,_,sb,_,_,rfl⟩:=hc;intro hh;cases hh
 ·split at hc<;>(try cases hc;done);rcases EV hc with⟨l,hl,rfl⟩|⟨_,_,_,_,_,_,_,rfl⟩<;>(intro hh;cases hh)
 ·simp only[Aa]at hc;obtain⟨_,_,rfl⟩:=hc;intro hh;cases hh
theorem Un(h:SR P G w0 M0 n st a w z){o:Oper}{sop:SOp}(hc:CB P o=some sop)(hcls:sop.cls=.new){d:Nat}{sv:SV}{ob:Ob}(hv:BE (so G st.fr) d sop=some (sv,ob))(hd:d<n)(hn:st.ob d=.none):
  KI P G w0 M0 n st a w o d sv ob:=by
 unfold CB at hc;split at hc<;>rename_i ho<;>(try cases hc;done)
 ·simp only[Aa]at hc;obtain⟨_,_,rfl⟩:=hc;cases hcls
 ·simp only[Aa]at hc;obtain⟨_,_,rfl⟩:=hc;cases hcls
 ·simp only[Ab,Aa]at hc;obtain⟨_,_,_,_,_,_,rfl⟩:=hc;cases hcls
 ·
  rename_i t;simp only[Ab,Aa]at hc;obtain⟨i,hi,vz,hz,zc,hzc,rfl⟩:=hc;simp only[BE,Ac,Prod.mk.injEq]at hv;obtain⟨rfl,rfl⟩:=hv;refine Mj h hd hn (t:=t) (vs:=vz.cells.toList) (s:=Instr.alloc t true (.tuple #[])) (by simp only[execOp,ho]) ?_ (Av.of_c (RelC.cells (El _ _ vz zc hzc)));simp[Instr.alloc,Is hi hz,Qq]
 ·
  rename_i t x;simp only[Aa]at hc;obtain⟨sx,hx,rfl⟩:=hc;have hr:=h.ctx.opd hx;simp only[BE]at hv
  have run:(Instr.box t (a.eval x)).run P w=.ok (.pointer (some ⟨w.heap.size,0,none⟩)) (w.alloc (.cells ⟨(a.eval x).cells.toList⟩ t)):=by
   simp[Instr.box,Qq]
  generalize so G st.fr sx=q at hr hv;split at hv
  ·rename_i cs;simp only[Ac,Prod.mk.injEq]at hv;obtain⟨rfl,rfl⟩:=hv;exact Mj h hd hn (by simp only[execOp,ho]) run (Av.of_c (RelC.cells hr))
  ·cases hv
  ·rename_i hne hnu;simp only[Ac,Prod.mk.injEq]at hv;obtain⟨rfl,rfl⟩:=hv;have hcell:=NN h hr hne hnu;rw[hcell]at run;exact Mj h hd hn (by simp only[execOp,ho]) run ⟨a.eval x,[],rfl,hr,rfl⟩
 ·simp only[Ab,Aa]at hc;obtain⟨_,_,_,_,_,_,_,_,rfl⟩:=hc;cases hcls
 ·
  rename_i t len parts;split at hc<;>(try cases hc;done);rename_i e hu;simp only[Ab,Ad,Ac]at hc;obtain⟨i,hi,vz,hz,zc,hzc,xs,hxs,⟨hlen,h0,hsz,hle⟩,rfl⟩:=hc;simp only[BE,Ab,Ad,Ac,Prod.mk.injEq]at hv;obtain⟨l,hl,hall,rfl,rfl⟩:=hv;obtain⟨vs,e1,hrl⟩:=Qw h hxs hl;have hvz:vz.cells.size=i.size:=by rw[(El w ⟨fun _=>False,fun _=>0⟩ vz zc hzc).cells_size,hsz]
  have hvl:vs.length=len:=by rw[hrl.length,DO hl,hlen]
  have hvs:∀v∈vs,v.cells.size=i.size:=by
   intro v hvm;obtain⟨j,hj,hjv⟩:=List.getElem_of_mem hvm;have hjc:l[j]? =some (l[j]'(by rw[←hrl.length];exact hj)):=Ai _;obtain⟨v',g1,g2⟩:=hrl.get hjc;have:v'=v:=by rw[Ai hj]at g1;simpa[hjv]using g1.symm
   subst this;rw[g2.cells_size];have:=List.all_eq_true.1 hall _ (List.mem_of_getElem? hjc);simpa using this
  have hfill:=O6 (size:=i.size) vs 0 [] (madeCells vz.cells (len*i.size)).toList (by simp) (by simp[size_madeCells,hvl]) hvs
  have run:(Instr.buildSlice t len (parts.map fun(i,x)=>(i,a.eval x))).run P w=.ok (.slice (some ⟨w.heap.size,0,none⟩) len len) (w.alloc (.cells ⟨vs.flatMap fun v=>v.cells.toList⟩ e)):=by
   have hp:(parts.map fun(p:Nat×Operand)=>(p.1,a.eval p.2)).toList=(List.range' 0 vs.length).zip vs:=by rw[Array.toList_map];exact e1
   have hz0:(madeCells vz.cells (len*i.size))=(Array.range (len*i.size)).map (vz.cells[· % vz.cells.size]!):=rfl;have hn24:¬(16777216<len*i.size):=by omega
   by_cases hnil:len*i.size=0
   ·have hl0:len=0:=by
     rcases Nat.eq_zero_or_pos len with h'|h'
     ·exact h'
     ·have:=Nat.mul_pos h' h0;omega
    have hvn:vs= []:=List.eq_nil_of_length_eq_zero (by omega);subst hvn;subst hl0
    have hpn:parts= #[]:=by
     have:parts.toList= []:=by simpa using e1
     exact Array.toList_inj.1 (by simpa using this)
    subst hpn;simp[Instr.buildSlice,run_underlying hu,CP hi,Instr.fill,MI]
    congr 2
    apply Array.toList_inj.1;simp
   ·have hf:Instr.fill (fun i_1=>some (i_1*i.size,i.size)) ((Array.range (len*i.size)).map (vz.cells[· % vz.cells.size]!)) (parts.map fun(p:Nat×Operand)=>(p.1,a.eval p.2)).toList=some ⟨vs.flatMap fun v=>v.cells.toList⟩:=by
     rw[hp,←hz0];simpa using hfill
    simp only[Instr.buildSlice,Sem.run_bind,run_underlying hu,Result.andThen_ok,CP hi];rw[show(2:Nat)^24=16777216 from rfl,if_neg (by omega)];simp only[Sem.run_bind,Sem.run_pure,Result.andThen_ok,if_neg hnil,Is hi hz,hf,MI]
  have hxl:(vs.flatMap fun v=>v.cells.toList).length=len*i.size:=by
   have:=II (KJ hrl hall);rw[this,←hvl,hrl.length]
  refine Ib h hd hn (by simp only[execOp,ho]) run (Hq _ _) (fun g hg=> ?_) fun hk hz'=>⟨⟨vs.flatMap fun v=>v.cells.toList,⟨?_,.inr ⟨w.heap.size,len,⟨vs.flatMap fun v=>v.cells.toList⟩, ?_,Nat.zero_le _,F9 _ _, ?_, ?_,by simp[hxl], ?_⟩⟩,AU.keep hk (KJ hrl hall)⟩,Fn (by simp),CM.symm⟩
  ·simp only[blk,Ac]at hg;subst hg;exact⟨Nat.le_refl _,by simp⟩
  ·rw[hxl,←hvl,hrl.length]
  ·rw[←hvl,hrl.length]
  ·rw[←hvl,hrl.length];exact Nat.le_refl _
  ·have hm:len≤len*i.size:=Nat.le_mul_of_pos_right _ h0;unfold maxLen;omega
  ·rw[←hrl.length,hvl];rw[List.take_of_length_le (by simp[hxl])]
 ·simp only[Ab,Aa]at hc;obtain⟨_,_,_,_,rfl⟩:=hc;cases hcls
 ·simp only[Ab,Aa]at hc;obtain⟨_,_,_,_,_,_,rfl⟩:=hc;cases hcls
 ·have:=H5 hc;rw[hcls]at this;cases this
 ·simp only[Aa]at hc;obtain⟨_,_,rfl⟩:=hc;cases hcls
 ·have:=IY hc;rw[hcls]at this;rcases this with h'|h'<;>cases h'
 ·split at hc
  ·simp only[Aa]at hc;obtain⟨_,_,rfl⟩:=hc;cases hcls
  ·cases hc
 ·
  rename_i t;simp only[Aa,Prod.exists]at hc;obtain⟨kt,zc,hmt,rfl⟩:=hc;simp only[BE,Ac,Prod.mk.injEq]at hv;obtain⟨rfl,rfl⟩:=hv
  refine Ib h hd hn (s:=Instr.makeMap t none) (v:=.map (some w.heap.size)) (w':=w.alloc (.map #[] 0)) (by simp only[execOp,ho,Option.map_none]) (by simp[Instr.makeMap]) (Hq _ _) (fun g hg=> ?_)
   fun hk hz=>⟨⟨hmt,[],[],w.heap.size,[],0,MP.refl rfl,rfl,F9 _ _,RelL.nil,RelL.nil,(fun _ hh=>by cases hh),List.nodup_nil,(fun _ hh=>by cases hh),List.nodup_nil,fun k b hh=>by simp[Cz.new]at hh⟩,Fn (by simp),CM.symm⟩
  simp only[blk,Ac]at hg;subst hg;exact⟨Nat.le_refl _,by simp⟩
 ·
  rename_i t x y;split at hc<;>(try cases hc;done);rename_i e hu;simp only[Ab,Ad,Ac]at hc;obtain⟨i,hi,vz,hz,zc,hzc,sx,hx,sy,hy,⟨h0,hsz⟩,rfl⟩:=hc;have hr:=h.ctx.opd hx;have hr2:=h.ctx.opd hy;simp only[BE]at hv;generalize so G st.fr sx=q at hr hv;generalize so G st.fr sy=q2 at hr2 hv;split at hv<;>(try cases hv;done);rename_i k1 l k2 m;simp only[Ad,Ac,Prod.mk.injEq]at hv;obtain⟨⟨g1,g2,g3,g4⟩,rfl,rfl⟩:=hv;have e1:=BI (w:=w) (M:=Am M0 z st.ob) hr;have e2:=BI (w:=w) (M:=Am M0 z st.ob) hr2;have hvz:vz.cells.size=i.size:=by rw[(El w ⟨fun _=>False,fun _=>0⟩ vz zc hzc).cells_size,hsz]
  have hbytes:(i.bytes:Int)*m≤281474976710656:=by rw[Int.mul_comm];omega
  have run:=run_make (P:=P) w t e i vz hu hi hz k1 k2 l m g1 g2 hbytes (by omega)
  refine Ib h hd hn (s:=Instr.makeSlice t (a.eval x) (a.eval y)) (by simp only[execOp,ho]) (by rw[e1,e2];exact run) (Hq _ _) (fun g hg=> ?_)
   fun hk hz'=>⟨⟨(madeCells vz.cells (l.toNat*i.size)).toList,⟨?_,.inr ⟨w.heap.size,m.toNat,madeCells vz.cells (m.toNat*i.size), ?_,Nat.zero_le _,F9 _ _, ?_, ?_,size_madeCells _ _, ?_⟩⟩,Ny (El _ _ vz zc hzc) hvz _⟩,Fn (by simp),CM.symm⟩
  ·simp only[blk,Ac]at hg;subst hg;exact⟨Nat.le_refl _,by simp⟩
  ·simp[size_madeCells]
  ·simp
  ·simp;omega
  ·unfold maxLen;omega
  ·rw[List.length_replicate];exact VM _ (Nat.mul_le_mul_right _ (by omega))
 ·split at hc<;>(try cases hc;done)
  ·simp only[Ab,Aa]at hc;obtain⟨_,_,_,_,_,_,rfl⟩:=hc;cases hcls
  ·simp only[Ab,Aa]at hc;obtain⟨_,_,_,_,_,_,_,_,rfl⟩:=hc;cases hcls
  ·split at hc<;>(try cases hc;done);simp only[Ab,Ad,Aa]at hc;obtain⟨_,_,_,_,_,rfl⟩:=hc;cases hcls
 ·split at hc<;>(try cases hc;done);simp only[Ab,Option.ite_none_left_eq_some,Aa]at hc;obtain⟨_,_,_,_,_,_,_,rfl⟩:=hc;cases hcls
 ·split at hc<;>(try cases hc;done);simp only[Ab,Aa]at hc;obtain⟨_,_,_,_,_,_,rfl⟩:=hc;cases hcls
 ·split at hc<;>(try cases hc;done)
  ·simp only[Ab,Option.ite_none_left_eq_some,Aa]at hc;obtain⟨_,_,_,_,_,_,_,rfl⟩:=hc;cases hcls
  ·simp only[Ab,Option.ite_none_left_eq_some,Aa]at hc;obtain⟨_,_,_,_,_,_,_,rfl⟩:=hc;cases hcls
 ·split at hc<;>(try cases hc;done)
  ·simp only[Ab,Aa]at hc;obtain⟨_,_,_,_,rfl⟩:=hc;cases hcls
  ·simp only[Ab,Aa]at hc;obtain⟨_,_,_,_,_,_,_,_,rfl⟩:=hc;cases hcls
 ·simp only[Ab,Aa]at hc;obtain⟨_,_,_,_,_,_,rfl⟩:=hc;cases hcls
 ·split at hc<;>(try cases hc;done);simp only[Ab,Aa]at hc;obtain⟨_,_,_,_,_,_,rfl⟩:=hc;cases hcls
 ·split at hc<;>(try cases hc;done);simp only[Ab,Aa]at hc;obtain⟨_,_,_,_,rfl⟩:=hc;cases hcls
 ·simp only[Ab,Aa]at hc;obtain⟨_,_,_,_,_,_,rfl⟩:=hc;cases hcls
 ·
  rename_i t x;split at hc<;>(try cases hc;done);rename_i hu;simp only[Aa]at hc;obtain⟨sx,hx,rfl⟩:=hc;have hr:=h.ctx.opd hx;simp only[BE]at hv;generalize so G st.fr sx=q at hr hv;split at hv<;>(try cases hv;done);rename_i s;simp only[Ac,Prod.mk.injEq]at hv;obtain⟨rfl,rfl⟩:=hv;have e1:=C5 (w:=w) (M:=Am M0 z st.ob) hr
  refine Ib h hd hn (s:=Instr.range t (a.eval x)) (v:=.pointer (some ⟨w.heap.size,0,none⟩)) (w':=w.alloc (.stringIter ⟨⟨s⟩⟩ 0)) (by simp only[execOp,ho]) (by rw[e1];simp[Instr.range,run_underlying hu]) (Hq _ _) (fun g hg=> ?_)
   fun hk hz=>⟨⟨w.heap.size,rfl,F9 _ _⟩,Fn (by simp),CM.symm⟩
  simp only[blk,Ac]at hg;subst hg;exact⟨Nat.le_refl _,by simp⟩
 ·simp only[Aa]at hc;obtain⟨_,_,rfl⟩:=hc;cases hcls
 ·simp only[Aa]at hc;obtain⟨_,_,rfl⟩:=hc;cases hcls
 ·have:=Sc hc;rw[hcls]at this;exact absurd rfl this
end
section
variable {P:Program} {G:Nat→List CV} {w0:WL} {M0:MM} {n:Nat} {st:St} {a:Act} {w w':World} {z:Cz}
theorem HX{id g:Nat}(hl:st.ob id≠ .none)(hb:blk (z.σ id)=some g):Am M0 z st.ob g:=.inr ⟨id,hl,hb⟩
theorem SR.to_grown(h:SR P G w0 M0 n st a w z){id:Nat}(hl:st.ob id≠ .none)(hg:w.grownBy w' (blk (z.σ id))):w0.To w':=
 ⟨hg.os.trans h.below.os,hg.tape.trans h.below.tape,hg.output.trans h.below.output,Nat.le_trans h.below.size hg.size,fun k hk hL=>
  (hg.block k (Nat.lt_of_lt_of_le hk h.below.size) fun e=>hL id (h.low hl e.symm hk)).trans (h.below.block k hk hL)⟩
theorem SR.turnK{id:Nat}(hl:st.ob id≠ .none){o':Ob}(hl':o'≠ .none)(hg:w.grownBy w' (blk (z.σ id))){β':CV→Nat→Prop}:
  Bp w (Am M0 z st.ob) w' (Am M0 {z with β:=upd z.β id β'} (upd st.ob id o')):=by
 have live:∀i,upd st.ob id o' i≠ .none↔st.ob i≠ .none:=by
  intro i;by_cases hi:i=id
  ·subst hi;rw[Bl];exact⟨fun _=>hl,fun _=>hl'⟩
  ·rw[Ay _ _ hi]
 exact⟨hg.size,fun g hlt hm=>hg.block g hlt (fun e=>hm (HX hl e.symm)),fun g _ hm=>by
  rcases hm with hm|⟨i,h1,h2⟩
  ·exact .inl hm
  ·exact .inr ⟨i,(live i).1 h1,h2⟩,rfl⟩
theorem SR.turn(h:SR P G w0 M0 n st a w z){id:Nat}(hl:st.ob id≠ .none){o':Ob}(hl':o'≠ .none)(hg:w.grownBy w' (blk (z.σ id))){β':CV→Nat→Prop}(hβ:∀k b,z.β id k b→β' k b)(hbox:∀cs',o'=.box cs'→∃cs,st.ob id=.box cs)
  (ho:Bp w (Am M0 z st.ob) w' (Am M0 {z with β:=upd z.β id β'} (upd st.ob id o'))→(∀s,Eg st.ob z (upd st.ob id o') {z with β:=upd z.β id β'} s)→
   Ba P w' (Am M0 {z with β:=upd z.β id β'} (upd st.ob id o')) 0 {z with β:=upd z.β id β'} (upd st.ob id o') id (z.σ id) o'):
  SR P G w0 M0 n {st with ob:=upd st.ob id o'} a w' {z with β:=upd z.β id β'}:=by
 have live:∀i,upd st.ob id o' i≠ .none↔st.ob i≠ .none:=by
  intro i;by_cases hi:i=id
  ·subst hi;rw[Bl];exact⟨fun _=>hl,fun _=>hl'⟩
  ·rw[Ay _ _ hi]
 have hk:Bp w (Am M0 z st.ob) w' (Am M0 {z with β:=upd z.β id β'} (upd st.ob id o')):=⟨hg.size,fun g hlt hm=>hg.block g hlt (fun e=>hm (HX hl e.symm)),fun g _ hm=>by
  rcases hm with hm|⟨i,h1,h2⟩
  ·exact .inl hm
  ·exact .inr ⟨i,(live i).1 h1,h2⟩,rfl⟩
 have hz:∀s,Eg st.ob z (upd st.ob id o') {z with β:=upd z.β id β'} s:=fun s=>⟨fun i _ h1=>(live i).2 h1,fun _ _ _=>rfl,fun i _ _ k b hb=>by
  by_cases hi:i=id
  ·subst hi;simp only[Bl];exact hβ k b hb
  ·simp only[Ay _ _ hi];exact hb⟩
 refine⟨h.size,h.defers,h.to_grown hl hg,h.outer,h.nam.of rfl (fun N cs' hN hc=> ?_),h.glob,fun i=>Ar.keep hk (hz _) (h.fr i),fun i=> ?_,fun i g h1 h2=> ?_,fun i j g hij h1 h2=>h.apart i j g hij ((live i).1 h1) ((live j).1 h2)⟩
 ·by_cases hi:N=id
  ·subst hi;simp only[Bl]at hc;obtain⟨cs,e⟩:=hbox cs' hc;exact⟨cs,e,rfl⟩
  ·simp only[Ay _ _ hi]at hc;exact⟨cs',hc,rfl⟩
 ·by_cases hi:i=id
  ·subst hi;simp only[Bl];exact ho hk hz
  ·simp only[Ay _ _ hi];by_cases hli:st.ob i=.none
   ·rw[hli];trivial
   ·exact Ba.keep hk (fun g hg'=>hg.block g (h.lo i g hli hg').2 (fun e=>h.apart i id g hi hli hl hg' e.symm)) (fun _ _ s _=>hz s) (fun k b hh=>by simpa[Ay _ _ hi]using hh) (h.ob i)
 ·have:=h.lo i g ((live i).1 h1) h2;exact⟨this.1,Nat.lt_of_lt_of_le this.2 hg.size⟩
theorem SR.renew(h:SR P G w0 M0 n st a w z){id:Nat}(hl:st.ob id≠ .none){o':Ob}{v':Value}(hg:w.grownBy w' (blk (z.σ id)))(hv:∀g,blk v'=some g→blk (z.σ id)=some g∨(w.heap.size≤g∧g<w'.heap.size))(hbox:∀cs',o'≠ .box cs')
  (ho:Bp w (Am M0 z st.ob) w' (Am M0 (z.new id v') (upd (kill [id] st).ob id o'))→Ba P w' (Am M0 (z.new id v') (upd (kill [id] st).ob id o')) 0 (z.new id v') (upd (kill [id] st).ob id o') id v' o'):
  SR P G w0 M0 n {fr:=(kill [id] st).fr,ob:=upd (kill [id] st).ob id o'} a w' (z.new id v'):=by
 have live:∀i,i≠id→(upd (kill [id] st).ob id o' i≠ .none↔st.ob i≠ .none):=by
  intro i hi;rw[Ay _ _ hi,E8];simp[hi]
 have σne:∀i,i≠id→(z.new id v').σ i=z.σ i:=fun i hi=>by simp[Cz.new,upd,hi]
 have hk:Bp w (Am M0 z st.ob) w' (Am M0 (z.new id v') (upd (kill [id] st).ob id o')):=⟨hg.size,fun g hlt hm=>hg.block g hlt (fun e=>hm (HX hl e.symm)),fun g hlt hm=>by
  rcases hm with hm|⟨i,h1,h2⟩
  ·exact .inl hm
  ·by_cases hi:i=id
   ·subst hi;rw[CM]at h2;rcases hv g h2 with h3|h3
    ·exact HX hl h3
    ·omega
   ·rw[σne i hi]at h2
    exact HX ((live i hi).1 h1) h2,rfl⟩
 have hz:∀s:SV,∀v,Ar w (Am M0 z st.ob) z st.ob s v→Ar w' (Am M0 (z.new id v') (upd (kill [id] st).ob id o')) (z.new id v') (upd (kill [id] st).ob id o') (Au [id] s) v:=by
  intro s v hs
  cases hr:s.ref with
  |none=>
   cases s<;>simp[SV.ref]at hr
   ·exact RelC.keep hk _ _ hs
   ·trivial
  |some i=>
   by_cases hi:i=id
   ·subst hi;have:Au [i] s=.undef:=by cases s<;>simp_all[SV.ref,Au]
    rw[this];trivial
   ·have e:Au [id] s=s:=by cases s<;>simp_all[SV.ref,Au]
    rw[e];refine Ar.keep hk ⟨fun j hj h1=> ?_,fun j hj h1=> ?_,fun j hj h1 k b hb=> ?_⟩ hs;all_goals(rw[hr]at hj;cases hj)
    ·exact(live i hi).2 h1
    ·exact σne i hi
    ·simpa[Cz.new,hi]using hb
 have hzs:∀(cs:List SV) vs,Av w (Am M0 z st.ob) z st.ob cs vs→Av w' (Am M0 (z.new id v') (upd (kill [id] st).ob id o')) (z.new id v') (upd (kill [id] st).ob id o') (cs.map (Au [id])) vs:=by
  intro cs
  induction cs with
  |nil=>intro vs hh;exact hh
  |cons c cs ih=>
   intro vs hh;obtain⟨v,vs',e,h1,h2⟩:=hh;exact⟨v,vs',e,hz c v h1,ih vs' h2⟩
 refine⟨h.size,h.defers,h.to_grown hl hg,h.outer,h.nam.of rfl (fun N cs' hN hc=> ?_),h.glob,fun i=>hz _ _ (h.fr i),fun i=> ?_,fun i g h1 h2=> ?_,fun i j g hij h1 h2 h3 h4=> ?_⟩
 ·by_cases hi:N=id
  ·subst hi;simp only[Bl]at hc;exact absurd hc (hbox cs')
  ·simp only[Ay _ _ hi]at hc;refine(?_:∃cs,st.ob N=.box cs).imp fun cs e=>⟨e,σne N hi⟩;unfold kill at hc;simp only at hc;split at hc
   ·cases hc
   ·cases hob:st.ob N<;>rw[hob]at hc<;>cases hc;exact⟨_,rfl⟩
 ·by_cases hi:i=id
  ·subst hi;simp only[Bl,CM];exact ho hk
  ·simp only[Ay _ _ hi,σne i hi];have e:(kill [id] st).ob i=BX [id] (st.ob i):=by simp[kill,hi]
   rw[e];have hoi:=h.ob i
   cases hob:st.ob i with
   |none=>trivial
   |box cs=>
    rw[hob]at hoi;obtain⟨g,ty,vs,e1,e2,e3⟩:=hoi;have hli:st.ob i≠ .none:=by rw[hob];simp
    exact⟨g,ty,vs,e1,(hg.block g (h.lo i g hli (by rw[e1];rfl)).2 (fun e'=>h.apart i id g hi hli hl (by rw[e1];rfl) e'.symm)).trans e2,hzs cs vs e3⟩
   |_=>
    rw[hob]at hoi;have hli:st.ob i≠ .none:=by rw[hob];simp
    exact Ba.keep hk (fun g hg'=>hg.block g (h.lo i g hli hg').2 (fun e=>h.apart i id g hi hli hl hg' e.symm)) (fun cs hc=>by cases hc) (fun k b hh=>by simpa[Cz.new,hi]using hh) hoi
 ·by_cases hi:i=id
  ·subst hi;simp only[CM]at h2;rcases hv g h2 with h3|h3
   ·have:=h.lo i g hl h3;exact⟨this.1,Nat.lt_of_lt_of_le this.2 hg.size⟩
   ·exact⟨.inl (Nat.le_trans h.below.size h3.1),h3.2⟩
  ·rw[σne i hi]at h2;have:=h.lo i g ((live i hi).1 h1) h2;exact⟨this.1,Nat.lt_of_lt_of_le this.2 hg.size⟩
 ·by_cases hi:i=id
  ·subst hi;have hj:j≠i:=fun e=>hij e.symm;rw[CM]at h3;rw[σne j hj]at h4;rcases hv g h3 with h5|h5
   ·exact h.apart i j g hij hl ((live j hj).1 h2) h5 h4
   ·have:=(h.lo j g ((live j hj).1 h2) h4).2;omega
  ·by_cases hj:j=id
   ·subst hj;rw[CM]at h4;rw[σne i hi]at h3;rcases hv g h4 with h5|h5
    ·exact h.apart i j g hij ((live i hi).1 h1) hl h3 h5
    ·have:=(h.lo i g ((live i hi).1 h1) h3).2;omega
   ·rw[σne i hi]at h3;rw[σne j hj]at h4;exact h.apart i j g hij ((live i hi).1 h1) ((live j hj).1 h2) h3 h4
theorem P3{M:MM}{c:CV}{v:Value}(h:RelC w M c v)(hc:Cv c=true):v.oneCell'=true:=by
 cases c<;>simp[Cv]at hc<;>unfold RelC at h<;>first
  |(rcases h with rfl|rfl<;>rfl)
  |(subst h;rfl)
  |(obtain⟨_,_,rfl⟩:=h;rfl)
  |(obtain⟨_,_,_,rfl,_⟩:=h;rfl)
  |(obtain⟨_,rfl,_⟩:=h;rfl)
  |(obtain⟨_,_,rfl,_⟩:=h;rfl)
theorem JN{M:MM}:∀{cs:List CV} {vs:List Value},RelL w M cs vs→cs.all Cv=true→∀v∈vs,v.oneCell'=true
 | [],vs,h,_,v,hv=>by unfold RelL at h;subst h;cases hv
 |c::cs,vs,h,hc,v,hv=>by
  unfold RelL at h;obtain⟨u,us,rfl,h1,h2⟩:=h;simp only[List.all_cons,Af]at hc;rcases List.mem_cons.1 hv with rfl|hv
  ·exact P3 h1 hc.1
  ·exact JN h2 hc.2 v hv
theorem OG(w:World)(g:Nat)(cs:Array Value):w.grownBy (w.setRow g cs) (some g):=by
 refine⟨rfl,rfl,rfl,by simp[World.setRow],fun k _ hk=> ?_⟩;simp only[World.setRow,Array.getElem?_modify];rw[if_neg (fun e=>hk (by rw[e]))]
end
section
variable {P:Program} {G:Nat→List CV} {w0:WL} {M0:MM} {n:Nat} {st:St} {a:Act} {w w':World} {z:Cz}
theorem Av.append{M:MM}{ob:Nat→Ob}:∀{cs ds:List SV} {vs us:List Value},Av w M z ob cs vs→Av w M z ob ds us→Av w M z ob (cs++ds) (vs++us)
 | [],_,_,_,h,k=>by unfold Av at h;subst h;exact k
 |_::_,_,_,_,h,k=>by
  obtain⟨v,vs',rfl,h1,h2⟩:=h;exact⟨v,vs'++_,rfl,h1,Av.append h2 k⟩
theorem U0(h:SR P G w0 M0 n st a w z){s:SV}{v:Value}(hs:Ar w (Am M0 z st.ob) z st.ob s v)(h1:FV s=true):v.oneCell'=true:=by
 have live:∀id,st.ob id≠ .none→(z.σ id).oneCell'=true:=by
  intro id hl;have ho:=h.ob id
  cases hob:st.ob id with
  |none=>exact absurd hob hl
  |box cs=>rw[hob]at ho;obtain⟨g,ty,vs,e,_⟩:=ho;rw[e];rfl
  |arr e size es=>
   rw[hob]at ho;obtain⟨xs,hown,_⟩:=ho;rcases hown.2 with⟨e,_⟩|⟨g,cap,cur,e,_⟩<;>rw[e]<;>rfl
  |map mt kt zc ks vs=>rw[hob]at ho;obtain⟨_,_,_,r,ens,clk,_,e,_⟩:=ho;rw[e];rfl
  |siter s pos=>rw[hob]at ho;obtain⟨r,e,_⟩:=ho;rw[e];rfl
  |buf e s=>
   rw[hob]at ho;rcases ho.2 with⟨e,_⟩|⟨g,cap,cur,fz,e,_⟩<;>rw[e]<;>rfl
 cases s with
 |c cv=>exact P3 hs h1
 |ptr id o=>obtain⟨_,g,_,e⟩:=hs;rw[e];rfl
 |eptr id i sz o=>obtain⟨_,g,n,c,_,e⟩:=hs;rw[e];rfl
 |osl id=>obtain⟨hl,e⟩:=hs;rw[e];exact live id hl
 |omap id=>obtain⟨hl,e⟩:=hs;rw[e];exact live id hl
 |iter id=>obtain⟨hl,e⟩:=hs;rw[e];exact live id hl
 |stamp id k=>obtain⟨_,b,_,e⟩:=hs;rw[e];rfl
 |ent id k cv=>simp[FV]at h1
 |undef=>simp[FV]at h1
def Di(P:Program)(G:Nat→List CV)(w0:WL)(M0:MM)(n:Nat)(st':St)(a:Act)(w:World)(o:Oper):Prop:=
 (∃v w' z',(execOp a.eval o).run P w=.ok (.value v) w'∧SR P G w0 M0 n st' (a.put o.dst v) w' z')∨
 (∃w' z',(execOp a.eval o).run P w=.ok .skip w'∧SR P G w0 M0 n st' (a.put o.dst undef) w' z')
theorem Vm{w:World}{g:Nat}{cs:Array Value}{t:TypeId}{fr:Nat×Nat}(h:w.heap[g]? =some (.cells cs t fr)):w.setRow g cs=w:=by
 have e:(w.setRow g cs).heap=w.heap:=by
  apply Array.ext_getElem?;intro k;by_cases hk:k=g
  ·subst hk;rw[setRow_heap w k _ _ _ _ h,h]
  ·exact setRow_other w g k cs hk
 cases w;simp only[World.setRow]at e⊢;rw[e]
theorem MJ{t:TypeId}{i:TypeInfo}(hi:P.info? t=some i){g o:Nat}{vs us:List Value}{v:Value}{ty:TypeId}(hv:v.cells=⟨us⟩)(hs:us.length=i.size)(hh:w.heap[g]? =some (.cells ⟨vs⟩ ty (0,0)))(hle:o+us.length≤vs.length)
  (h1:∀u∈us,u.oneCell'=true):(storeVar t ⟨g,o,none⟩ v).run P w=.ok () (w.setRow g ⟨vs.take o++us++vs.drop (o+us.length)⟩):=by
 have:=run_storeCells_at (P:=P) g o ty us 0 ⟨vs⟩ w hh (by simpa using hle) h1;simp only[Nat.add_zero]at this;simp[storeVar,CP hi,hv,hs,this]
theorem N0{M:MM}{size:Nat}:∀{es:List CV} {xs:List Value} {i:Nat} {el':CV} {u':Value},AU w M size es xs→i<es.length→RelC w M el' u'→u'.cells.size=size→
  AU w M size (es.set i el') (xs.take (i*size)++u'.cells.toList++xs.drop (i*size+size))
 | [],xs,i,el',u',_,hi,_,_=>by simp at hi
 |e::es,xs,0,el',u',h,_,hr,hs=>by
  obtain⟨v,xs',rfl,h1,h2,h3⟩:=h;refine⟨u',xs', ?_,hs,hr,h3⟩;have:v.cells.toList.length=size:=by simpa using h1
  simp[this]
 |e::es,xs,i+1,el',u',h,hi,hr,hs=>by
  obtain⟨v,xs',rfl,h1,h2,h3⟩:=h;have hl:v.cells.toList.length=size:=by simpa using h1
  have ih:=N0 h3 (by simpa using hi) hr hs;refine⟨v,xs'.take (i*size)++u'.cells.toList++xs'.drop (i*size+size), ?_,h1,h2,ih⟩;rw[Nat.add_mul,Nat.one_mul];rw[List.take_append,List.drop_append,hl];rw[List.take_of_length_le (by omega),List.drop_eq_nil_of_le (by omega)];rw[show i*size+size-size=i*size by omega,show i*size+size+size-size=i*size+size by omega];simp
theorem SJ(h:SR P G w0 M0 n st a w z){o:Oper}{t:TypeId}{ad x:Operand}(ho:o.op=.store t ad x)(hdst:o.dst=none){i:TypeInfo}(hi:P.info? t=some i){sa sx:SO}(hsa:An ad=some sa)(hsx:An x=some sx){st':St}
  (hv:AW none (so G st.fr) st (.store i.size sa sx)=some st'):Di P G w0 M0 n st' a w o:=by
 have hr:=h.ctx.deref (rd:=st.ob) (fun _=>.inr rfl) (h.ctx.opd hsa);have hr2:=h.ctx.opd hsx;simp only[AW]at hv;generalize WB.deref st.ob (so G st.fr sa)=q at hr hv;generalize so G st.fr sx=q2 at hr2 hv
 have fin:∀{w' z'},(Instr.storeAt t (a.eval ad) (a.eval x)).run P w=.ok () w'→SR P G w0 M0 n st' a w' z'→Di P G w0 M0 n st' a w o:=by
  intro w' z' hr hS;refine .inr ⟨w',z',by simp[execOp,ho,hr], ?_⟩;rw[hdst];exact hS
 cases q<;>(try simp only[reduceCtorEq]at hv;done)
 ·
  rename_i cv;cases cv<;>(try simp only[reduceCtorEq]at hv;done);rename_i cs
  cases cs with
  |nil=>cases hv
  |cons c0 cs=>
   cases cs with
   |cons _ _=>cases c0<;>cases hv
   |nil=>
    cases c0<;>(try cases hv;done);rename_i b;cases q2<;>(try cases hv;done);rename_i c2;cases c2<;>(try cases hv;done);rename_i b';simp only[Ad,Ac]at hv;obtain⟨⟨h1,rfl⟩,rfl⟩:=hv;unfold Ar RelC at hr hr2;obtain⟨g,ty,vs,e1,e2,e3,e4⟩:=hr;unfold RelL RelC at e4;obtain⟨v,vs',rfl,rfl,e4⟩:=e4;unfold RelL at e4;subst e4;refine fin (w':=w) (z':=z) ?_ h;have hrun:=MJ (P:=P) (t:=t) (w:=w) hi (g:=g) (o:=0) (vs:= [.bool b]) (us:= [.bool b]) (v:=.bool b) (ty:=ty) rfl (by simp[h1]) e2 (by simp) (by simp[Value.oneCell']);have hsame:w.setRow g ⟨[Value.bool b]⟩=w:=Vm e2;simp only[List.take_zero,List.nil_append,List.length_cons,List.length_nil,Nat.zero_add,List.drop_succ_cons,List.drop_zero,List.append_nil,List.cons_append,List.drop_nil]at hrun;rw[hsame]at hrun;simp[Instr.storeAt,Instr.sureAddr,e1,hr2,hrun]
 ·
  rename_i id off;obtain⟨hlive,g,e1,e2⟩:=hr;have ho':=h.ob id;cases hob:st.ob id<;>simp only[hob,reduceCtorEq]at hv;rename_i cs;rw[hob]at ho';obtain⟨g',ty,vs,e3,e4,e5⟩:=ho';rw[e1]at e3;simp only[Value.pointer.injEq,Ac,Addr.mk.injEq,and_true]at e3;subst e3;have hlen:=Av.length e5
  have go:∀(us:List Value) (ss:List SV),(a.eval x).cells=⟨us⟩→us.length=i.size→off+us.length≤vs.length→(∀u∈us,u.oneCell'=true)→Av w (Am M0 z st.ob) z st.ob ss us→
    st'={st with ob:=upd st.ob id (.box (cs.take off++ss++cs.drop (off+us.length)))}→Di P G w0 M0 n st' a w o:=by
   intro us ss hus hsz hle h1 hss hst;subst hst;refine fin (w':=w.setRow g ⟨vs.take off++us++vs.drop (off+us.length)⟩) ?_ (SR.turn h hlive (by simp) (by rw[e1];exact OG w g _) (fun _ _ hh=>hh) (fun _ _=>⟨_,hob⟩) fun hk hz=>⟨g,ty,_,e1,setRow_heap w g _ _ _ _ e4, ?_⟩)
   ·simp[Instr.storeAt,Instr.sureAddr,e2,MJ hi hus hsz e4 hle h1]
   ·exact Av.keep hk (fun s _=>hz s) (((e5.take off).append hss).append (e5.drop _))
  have one:∀(v:SV),Ar w (Am M0 z st.ob) z st.ob v (a.eval x)→(∀l,v≠ .c (.agg l))→(if i.size=1∧off<cs.length∧FV v=true then some {st with ob:=upd st.ob id (.box (cs.set off v))}else none)=some st'→Di P G w0 M0 n st' a w o:=by
   intro v hrv hna hv;simp only[Ad,Ac]at hv;obtain⟨⟨h1,h2,h3⟩,rfl⟩:=hv;have hcell:=NN h hrv hna (by rintro rfl;simp[FV]at h3);have hone:(a.eval x).oneCell'=true:=U0 h hrv h3;refine go [a.eval x] [v] hcell (by simp[h1]) (by simp[hlen];omega) (by simpa using hone) ⟨a.eval x,[],rfl,hrv,rfl⟩ ?_
   congr 3
   simp only[List.length_cons,List.length_nil,Nat.zero_add];rw[List.set_eq_take_append_cons_drop,if_pos h2];simp
  cases q2 with
  |c cv=>
   cases cv with
   |agg l=>
    simp only[Ad,Ac]at hv;obtain⟨⟨h1,h2,h3⟩,rfl⟩:=hv;unfold Ar RelC at hr2;obtain⟨us,e6,hl⟩:=hr2;have hul:=hl.length;refine go us (l.map .c) (by rw[e6];rfl) (by rw[hul,h1]) (by omega) (JN hl h3) (Av.of_c hl) ?_;simp[EN,hul]
   |_=>exact one _ hr2 (fun l hh=>by cases hh) hv
  |_=>exact one _ hr2 (fun l hh=>by cases hh) hv
 ·
  rename_i id j size off;obtain⟨hlive,g,n',c',e1,e2⟩:=hr;have ho':=h.ob id;cases hob:st.ob id<;>simp only[hob,reduceCtorEq]at hv;rename_i et sz es;rw[hob]at ho';obtain⟨xs,hown,hf⟩:=ho';cases q2<;>(try simp only[reduceCtorEq]at hv;done);rename_i cv;simp only[Ad,Ab,Ac]at hv;obtain⟨⟨rfl,hn0,hn,hone⟩,el,hel,hle,rfl⟩:=hv;have hjl:j<es.length:=(Ae.1 hel).1;have hxl:=II hf;obtain⟨u,hu1,hu2,hu3⟩:=Gk hf hel;have hus:=RelC.cells hr2
  have hul:(a.eval x).cells.toList.length=i.size:=by
   have:=hr2.cells_size;simpa[hn]using this
  have hel_size:BB el=size:=by rw[←hu1.cells_size,hu2]
  rcases hown.2 with⟨e3,e4⟩|⟨g',cap,cur,e3,e4,e5,e6,e7,e8,e9⟩
  ·omega
  ·rw[e1]at e3;simp only[Value.slice.injEq,Ac,Addr.mk.injEq,and_true]at e3;obtain⟨rfl,rfl,rfl⟩:=e3;have hcl:cur.toList.length=c'*size:=by simpa using e8
   have hbound:j*size+size≤es.length*size:=by
    have:=Nat.mul_le_mul_right size (show j+1≤es.length by omega);rw[Nat.add_mul,Nat.one_mul]at this;exact this
   have hcap:es.length*size≤c'*size:=Nat.mul_le_mul_right _ e6;have run:=MJ (P:=P) (w:=w) hi (g:=g) (o:=j*size+off) (vs:=cur.toList) (us:=(a.eval x).cells.toList) (v:=a.eval x) (ty:=et) rfl hul (by simpa using e5) (by omega) (JN hus hone)
   obtain⟨u',hu1',hu2'⟩:∃u',RelC w (Am M0 z st.ob) (EG el off i.size cv) u'∧u'.cells.toList=u.cells.toList.take off++(a.eval x).cells.toList++u.cells.toList.drop (off+i.size):=by
    have hother:(∀l,el≠ .agg l)→EG el off i.size cv=cv→∃u',RelC w (Am M0 z st.ob) (EG el off i.size cv) u'∧u'.cells.toList=u.cells.toList.take off++(a.eval x).cells.toList++u.cells.toList.drop (off+i.size):=by
     intro hna hp;have h1:BB el=1:=by cases el<;>first|rfl|exact absurd rfl (hna _)
     have h2:u.cells.toList.length=1:=by simpa[hu2,←hel_size]using h1
     have h3:off=0:=by omega
     have h4:i.size=1:=by omega
     refine⟨a.eval x,by rw[hp];exact hr2, ?_⟩;rw[h3,h4,List.drop_eq_nil_of_le (by omega)];simp
    cases el with
    |agg l=>
     have hu1c:=RelC.cells hu1;refine⟨.agg ⟨u.cells.toList.take off++(a.eval x).cells.toList++u.cells.toList.drop (off+i.size)⟩, ?_,rfl⟩;show RelC _ _ (.agg _) _;unfold RelC;exact⟨_,rfl,((hu1c.take off).append hus).append (hu1c.drop _)⟩
    |_=>exact hother (fun l hh=>by cases hh) rfl
   have hulen:u.cells.toList.length=size:=by simpa using hu2
   have hu's:u'.cells.size=size:=by
    have:u'.cells.toList.length=size:=by
     rw[hu2'];simp only[List.length_append,List.length_take,List.length_drop,hul,hulen];omega
    simpa using this
   have hchunk:u.cells.toList=(cur.toList.drop (j*size)).take size:=by
    apply List.ext_getElem?;intro k;by_cases hk:k<size
    ·have hku:u.cells.toList[k]? =some (u.cells.toList[k]'(by omega)):=Ai _;have h1:=hu3 k (u.cells.toList[k]'(by omega)) (by rw[←Array.getElem?_toList];exact hku);rw[←e9,List.getElem?_take]at h1;split at h1
     ·rw[hku,List.getElem?_take,if_pos hk,List.getElem?_drop];exact h1.symm
     ·cases h1
    ·rw[List.getElem?_eq_none (by omega),List.getElem?_eq_none (by simp;omega)]
   have hrow:cur.toList.take (j*size+off)++(a.eval x).cells.toList++cur.toList.drop (j*size+off+(a.eval x).cells.toList.length)=cur.toList.take (j*size)++u'.cells.toList++cur.toList.drop (j*size+size):=by
    rw[hu2',hchunk,hul];rw[List.take_take,Nat.min_eq_left (by omega),List.drop_take];have t1:cur.toList.take (j*size+off)=cur.toList.take (j*size)++(cur.toList.drop (j*size)).take off:=by rw[List.take_add]
    have t2:cur.toList.drop (j*size+off+i.size)=((cur.toList.drop (j*size)).drop (off+i.size)).take (size-(off+i.size))++cur.toList.drop (j*size+size):=by
     have:cur.toList.drop (j*size+size)=((cur.toList.drop (j*size)).drop (off+i.size)).drop (size-(off+i.size)):=by
      rw[List.drop_drop,List.drop_drop];congr 1;omega
     rw[this,List.take_append_drop,List.drop_drop];congr 1;omega
    rw[t1,t2];simp only[List.append_assoc]
   rw[hrow]at run
   have hcurl:(cur.toList.take (j*size)++u'.cells.toList++cur.toList.drop (j*size+size)).length=c'*size:=by
    have hu'l:u'.cells.toList.length=size:=by simpa using hu's
    simp only[List.length_append,List.length_take,List.length_drop,hu'l,hcl];omega
   have hx':(cur.toList.take (j*size)++u'.cells.toList++cur.toList.drop (j*size+size)).take (es.length*size)=xs.take (j*size)++u'.cells.toList++xs.drop (j*size+size):=by
    have hu'l:u'.cells.toList.length=size:=by simpa using hu's
    have hp:(cur.toList.take (j*size)++u'.cells.toList).length=j*size+size:=by
     simp only[List.length_append,List.length_take,hu'l,hcl];omega
    rw[List.take_append,List.take_of_length_le (by omega),hp];rw[←e9,List.take_take,Nat.min_eq_left (by omega),List.drop_take]
   refine fin (w':=w.setRow g ⟨cur.toList.take (j*size)++u'.cells.toList++cur.toList.drop (j*size+size)⟩) ?_ (SR.turn h hlive (by simp) (by rw[e1];exact OG w g _) (fun _ _ hh=>hh) (fun _ hh=>by cases hh) fun hk hz=>⟨xs.take (j*size)++u'.cells.toList++xs.drop (j*size+size),⟨?_,.inr ⟨g,c',⟨cur.toList.take (j*size)++u'.cells.toList++cur.toList.drop (j*size+size)⟩, ?_,e4,setRow_heap w g _ _ _ _ e5, ?_,e7,by simpa using hcurl, ?_⟩⟩,AU.keep hk (N0 hf hjl hu1' hu's)⟩)
   ·simp[Instr.storeAt,Instr.sureAddr,e2,run]
   ·rw[←hx',List.length_take,List.length_set,hcurl];omega
   ·rw[e1,List.length_set]
   ·rw[List.length_set];exact e6
   ·rw[List.length_set];exact hx'
end
section
variable {P:Program} {G:Nat→List CV} {w0:WL} {M0:MM} {n:Nat} {st:St} {a:Act} {w w':World} {z:Cz}
theorem Nw{M:MM}{ad:Addr}{size:Nat}:∀{i:Nat} {es:List CV},AZ w M ad size i es→∃xs,AU w M size es xs∧∀(j:Nat) u,xs[j]? =some u→w.cell? (ad.add (i*size+j))=some u
 |i,[],_=>⟨[],rfl,fun j u hu=>by simp at hu⟩
 |i,e::es,h=>by
  unfold AZ at h;obtain⟨⟨v,h1,h2,h3⟩,h4⟩:=h;obtain⟨xs,g1,g2⟩:=Nw h4;refine⟨v.cells.toList++xs,⟨v,xs,rfl,h2,h1,g1⟩,fun j u hu=> ?_⟩;have hl:v.cells.toList.length=size:=by simpa using h2
  by_cases hj:j<size
  ·rw[List.getElem?_append_left (by omega)]at hu;exact h3 j u (by simpa using hu)
  ·rw[List.getElem?_append_right (by omega),hl]at hu;have:=g2 _ u hu;rw[show(i+1)*size+(j-size)=i*size+j by rw[Nat.add_mul];omega]at this;exact this
theorem Nz{M:MM}{size:Nat}:∀{es:List CV} {xs:List Value},AU w M size es xs→(es.all fun v=>v.cells.all Cv)=true→∀u∈xs,u.oneCell'=true
 | [],xs,h,_,u,hu=>by unfold AU at h;subst h;cases hu
 |e::es,xs,h,h1,u,hu=>by
  obtain⟨v,xs',rfl,g1,g2,g3⟩:=h;simp only[List.all_cons,Af]at h1;rcases List.mem_append.1 hu with hu|hu
  ·exact JN (RelC.cells g2) h1.1 u hu
  ·exact Nz g3 h1.2 u hu
theorem Up(h:SR P G w0 M0 n st a w z){s:SV}{v:Value}(hs:Ar w (Am M0 z st.ob) z st.ob s v){news:List CV}(hn:CN st s=some news){size:Nat}(hsz:(news.all fun v=>BB v==size)=true):
  ∃A c xs,v=.slice A news.length c∧AU w (Am M0 z st.ob) size news xs∧(A=none→news= [])∧∀ad,A=some ad→∀(j:Nat) u,xs[j]? =some u→w.cell? (ad.add j)=some u:=by
 cases s<;>(try simp only[CN,reduceCtorEq]at hn;done)
 ·rename_i cv;cases cv<;>(try simp only[CN,reduceCtorEq]at hn;done);rename_i nl es;simp only[CN,Ac]at hn;subst hn;unfold Ar RelC at hs;obtain⟨A,len,c,e1,e2,_,_,_,e3,e4⟩:=hs;subst e2;by_cases hes:es= []
  ·subst hes;exact⟨A,c,[],e1,rfl,fun _=>rfl,fun ad _ j u hu=>by simp at hu⟩
  ·obtain⟨ad,size',e5,_,_,hE⟩:=e4 hes;subst e5;obtain⟨xs,g1,g2⟩:=Nw hE
   have hss:size'=size:=by
    cases es with
    |nil=>exact absurd rfl hes
    |cons e es=>
     obtain⟨v,xs',_,k1,k2,_⟩:=g1;simp only[List.all_cons,Af,beq_iff_eq]at hsz;rw[←k1,k2.cells_size,hsz.1]
   subst hss;refine⟨some ad,c,xs,e1,g1,(fun hh=>by cases hh),fun ad' hh j u hu=> ?_⟩;cases hh;have:=g2 j u hu;simpa using this
 ·rename_i id;obtain⟨hlive,e1⟩:=hs;have ho:=h.ob id;simp only[CN]at hn;cases hob:st.ob id<;>simp only[hob,reduceCtorEq,Ac]at hn;rename_i et sz es;subst hn;rw[hob]at ho;obtain⟨xs,hown,hf⟩:=ho
  have hss:es= []∨sz=size:=by
   cases es with
   |nil=>exact .inl rfl
   |cons e es=>
    obtain⟨v,xs',_,k1,k2,_⟩:=hf;simp only[List.all_cons,Af,beq_iff_eq]at hsz;exact .inr (by rw[←k1,k2.cells_size,hsz.1])
  rcases hss with rfl|rfl
  ·have:xs= []:=by unfold AU at hf;exact hf
   subst this;rcases hown.2 with⟨e2,_⟩|⟨g,cap,cur,e2,_⟩
   ·exact⟨none,0,[],by rw[e1,e2];rfl,rfl,fun _=>rfl,fun ad _ j u hu=>by simp at hu⟩
   ·exact⟨_,cap,[],by rw[e1,e2],rfl,fun _=>rfl,fun ad _ j u hu=>by simp at hu⟩
  ·rcases Nat.eq_zero_or_pos es.length with h0|h0
   ·have:es= []:=List.eq_nil_of_length_eq_zero h0;subst this;have:xs= []:=by unfold AU at hf;exact hf
    subst this;rcases hown.2 with⟨e2,_⟩|⟨g,cap,cur,e2,_⟩
    ·exact⟨none,0,[],by rw[e1,e2];rfl,rfl,fun _=>rfl,fun ad _ j u hu=>by simp at hu⟩
    ·exact⟨_,cap,[],by rw[e1,e2],rfl,fun _=>rfl,fun ad _ j u hu=>by simp at hu⟩
   ·obtain⟨g,cap,cur,e2,_,hc⟩:=M4 hown h0;refine⟨some ⟨g,0,none⟩,cap,xs,by rw[e1,e2],hf,(fun hh=>by cases hh),fun ad hh j u hu=> ?_⟩;cases hh;rw[Dz];simpa using hc j u hu
theorem Vc(base:Nat)(t ty e:TypeId)(i:TypeInfo)(size:Nat)(ht:P.underlying t=some (.slice e))(hi:P.info? e=some i)
  (v:Value) (n:Nat) (xs:List Value) (hown:w.ownsRow base e size v n xs) (c:Nat):(Builtin.append_ #[t,t] ty #[v,.slice none 0 c]).run P w=.ok v w:=by
 rcases hown.2 with⟨rfl,rfl⟩|⟨g,cap,cur,rfl,_,_,hnc,_⟩
 ·simp[Builtin.append_,run_underlying ht,Go.sizeOf,typeInfo,hi,Builtin.lenOf,Builtin.firstCells]
 ·simp[Builtin.append_,run_underlying ht,Go.sizeOf,typeInfo,hi,Builtin.lenOf,Builtin.firstCells,hnc,storeCells]
theorem PD{v:Value}{B e size n:Nat}{xs:List Value}(h:w.ownsRow B e size v n xs):v.ownBlock=blk v:=by
 rcases h.2 with⟨rfl,_⟩|⟨g,cap,cur,rfl,_⟩<;>rfl
theorem Qg(base:Nat)(t ty e:TypeId)(i:TypeInfo)(zv:Value)(ht:P.underlying t=some (.slice e))(hi:P.info? e=some i)(hz:i.zero=some zv)
  (hzs:zv.cells.size=i.size) (hsz:0<i.size) (v:Value) (n:Nat) (xs:List Value) (hown:w.ownsRow base e i.size v n xs)
  (A:Option Addr) (m c:Nat) (news:List Value) (hnl:news.length=m*i.size) (hA:A=none→m=0) (hc:∀ad,A=some ad→∀(j:Nat) u,news[j]? =some u→w.cell? (ad.add j)=some u) (h1:∀u∈news,u.oneCell'=true)
  (h63:n+m≤maxLen) (hbytes:(n+m)*i.bytes≤140737488355328) (hbase:base≤w.heap.size):
  ∃v' w',(Builtin.append_ #[t,t] ty #[v,.slice A m c]).run P w=.ok v' w'∧w'.ownsRow base e i.size v' (n+m) (xs++news)∧w.grownBy w' (blk v)∧
   (blk v'=blk v∨blk v'=some w.heap.size):=by
 cases A with
 |none=>
  have hm:=hA rfl;subst hm;have hn:news= []:=List.eq_nil_of_length_eq_zero (by simpa using hnl);subst hn;exact⟨v,w,Vc base t ty e i i.size ht hi v n xs hown c,by simpa using hown,World.grownBy.refl w _,.inl rfl⟩
 |some ad=>
  obtain⟨v',w',hrun,h2,h3,_,h5⟩:=run_append_own_at (P:=P) w base t ty e i zv i.size i.bytes ht hi hz rfl rfl hzs hsz v n xs hown ad m c news hnl (hc ad rfl) h1 h63 hbytes hbase;rw[PD hown]at h3 h5;rw[PD h2]at h5;exact⟨v',w',hrun,h2,h3,h5⟩
theorem SE(h:SR P G w0 M0 n st a w z){o:Oper}{t e:TypeId}{i:TypeInfo}{zv:Value}{x y:Operand}{args:Array Operand}{argTypes:Array TypeId}(ho:o.op=.call {callee:=.builtin .append,args:=args,argTypes:=argTypes})
  (hargs:args.toList= [x,y]) (hat:argTypes.toList= [t,t]) (ht:P.underlying t=some (.slice e)) (hi:P.info? e=some i) (hz:i.zero=some zv) (hzs:zv.cells.size=i.size) (hsz:0<i.size)
  (hd:∀j,o.dst=some j→j<n) {sx sy:SO} (hx:An x=some sx) (hy:An y=some sy) {st':St} (hv:AW o.dst (so G st.fr) st (.append e i.size i.bytes sx sy)=some st'):Di P G w0 M0 n st' a w o:=by
 have hr:=h.ctx.opd hx;have hr2:=h.ctx.opd hy;simp only[AW]at hv;generalize so G st.fr sx=q at hr hv;generalize so G st.fr sy=q2 at hr2 hv
 cases hnews:CN st q2 with
 |none=>rw[hnews]at hv;cases hv
 |some news=>
  rw[hnews]at hv;simp only[Ad,Af]at hv;obtain⟨⟨hall,hone⟩,hv⟩:=hv;obtain⟨A,c,xs2,e1,hf2,hA,hcells⟩:=Up h hr2 hnews hall;have hx2l:=II hf2;have hone':=Nz hf2 hone
  have fin:∀{v' w' z'},(Builtin.append_ #[t,t] o.type #[a.eval x,a.eval y]).run P w=.ok v' w'→SR P G w0 M0 n st' (a.put o.dst v') w' z'→Di P G w0 M0 n st' a w o:=by
   intro v' w' z' hrun hS;refine .inl ⟨v',w',z', ?_,hS⟩;obtain⟨al⟩:=args;obtain⟨tl⟩:=argTypes;simp only at hargs hat
   subst hargs;subst hat
   simp[execOp,ho,resolve,invoke,builtin,hrun]
  cases q<;>(try simp only[reduceCtorEq]at hv;done)
  ·
   rename_i cv;cases cv<;>(try simp only[reduceCtorEq]at hv;done);rename_i nl es;cases nl<;>(try simp only[reduceCtorEq]at hv;done);rename_i b;cases b<;>(try simp only[reduceCtorEq]at hv;done);simp only[Ad]at hv;obtain⟨⟨hb1,hb2⟩,hv⟩:=hv
   cases hod:o.dst with
   |none=>rw[hod]at hv;cases hv
   |some d=>
    rw[hod]at hv;simp only[Ac]at hv;subst hv;unfold Ar RelC at hr;obtain⟨A',len,c',e2,e3,_,e4,_,e5,e6⟩:=hr;have hA':=e4 rfl;subst hA'
    have hes:es= []:=by
     cases es with
     |nil=>rfl
     |cons e es=>obtain⟨ad,size,hh,_⟩:=e6 (by simp);cases hh
    subst hes;have hc0:=e5 rfl;subst hc0;subst e3;have hk:=h.killed [d];have hown0:w.ownsRow 0 e i.size (.slice none 0 0) 0 []:=⟨by simp,.inl ⟨rfl,rfl⟩⟩;obtain⟨v',w',hrun,h2,h3,h4⟩:=Qg (P:=P) 0 t o.type e i zv ht hi hz hzs hsz (.slice none 0 0) 0 [] hown0 A news.length c xs2 hx2l (fun hh=>by simp[hA hh]) hcells hone' (by unfold maxLen;omega) (by simpa using hb1) (Nat.zero_le _);rw[e2,e1]at fin;refine fin (z':=z.new d v') hrun ?_;rw[hod];have hgb:Below w.heap.size w w':=⟨h3.os,h3.tape,h3.output,h3.size,fun k hk=>h3.block k hk (by simp[blk])⟩;have hnone:(kill [d] st).ob d=.none:=by simp[kill]
    have hlt:∀g,blk v'=some g→w.heap.size≤g∧g<w'.heap.size:=by
     intro g hg;rcases h4 with h4|h4
     ·rw[h4]at hg;simp[blk]at hg
     ·rw[hg]at h4;simp only[Ac]at h4;subst h4;rcases h2.2 with⟨e7,_⟩|⟨g',cap,cur,e7,_,e8,_⟩
      ·rw[e7]at hg;simp[blk]at hg
      ·rw[e7]at hg;simp only[blk,Ac]at hg;exact⟨Nat.le_refl _,by rw[←hg];exact C3 e8⟩
    have kn:=Jz (M0:=M0) (z:=z) (o:=.arr e i.size news) hnone hgb (fun g hg=>(hlt g hg).1);have hkk:Bp w (Am M0 z st.ob) w (Am M0 z (kill [d] st).ob):=⟨Nat.le_refl _,fun _ _ _=>rfl,fun g _ hg=>Or.imp id Ii hg,rfl⟩;exact hk.new (hd d hod) hnone hgb hlt ⟨xs2,by simpa using h2,AU.keep kn (AU.keep hkk hf2)⟩ ⟨Fn (by simp),CM.symm⟩
  ·
   rename_i id;obtain⟨hlive,e2⟩:=hr;have ho':=h.ob id;cases hob:st.ob id<;>simp only[hob,reduceCtorEq]at hv;rename_i et sz es;simp only[Ad,Ac]at hv;obtain⟨⟨rfl,rfl,hb1,hb2⟩,rfl⟩:=hv;rw[hob]at ho';obtain⟨xs,hown,hf⟩:=ho';obtain⟨v',w',hrun,h2,h3,h4⟩:=Qg (P:=P) 0 t o.type et i zv ht hi hz hzs hsz (z.σ id) es.length xs hown A news.length c xs2 hx2l (fun hh=>by simp[hA hh]) hcells hone' (by unfold maxLen;omega) hb1 (Nat.zero_le _);rw[e2,e1]at fin;refine fin (z':=z.new id v') hrun ?_
   have hlt:∀g,blk v'=some g→blk (z.σ id)=some g∨(w.heap.size≤g∧g<w'.heap.size):=by
    intro g hg;rcases h4 with h4|h4
    ·exact .inl (h4▸hg)
    ·rw[hg]at h4;simp only[Ac]at h4;subst h4;rcases h2.2 with⟨e7,_⟩|⟨g',cap,cur,e7,_,e8,_⟩
     ·rw[e7]at hg;simp[blk]at hg
     ·rw[e7]at hg;simp only[blk,Ac]at hg;exact .inr ⟨Nat.le_refl _,by rw[←hg];exact C3 e8⟩
   have hS:=h.renew (o':=.arr et i.size (es++news)) hlive h3 hlt (fun _ hh=>by cases hh) fun hk=>⟨xs++xs2,by simpa using h2,AU.keep hk (Nx hf hf2)⟩;exact hS.put hd ⟨by simp[Bl],CM.symm⟩
end
section
variable {P:Program} {G:Nat→List CV} {w0:WL} {M0:MM} {n:Nat} {st:St} {a:Act} {w w':World} {z:Cz}
def EO(w:World)(r:Nat)(o:Obj):World:={w with heap:=w.heap.setIfInBounds r o}
theorem I2{r:Nat}{o o':Obj}(h:w.heap[r]? =some o)(hm:∀c t f,o≠ .cells c t f):(setObj r o').run P w=.ok () (EO w r o'):=by
 simp only[setObj,Sem.run,h];cases o<;>first|exact absurd rfl (hm _ _ _)|rfl
theorem Q0{r:Nat}{o o':Obj}(h:w.heap[r]? =some o):(EO w r o').heap[r]? =some o':=by
 have:=C3 h;simp[EO,this]
theorem MQ(w:World)(r:Nat)(o:Obj):w.grownBy (EO w r o) (some r):=by
 refine⟨rfl,rfl,rfl,by simp[EO],fun k _ hk=> ?_⟩;simp only[EO,Array.getElem?_setIfInBounds];rw[if_neg (fun e=>hk (by rw[e]))]
theorem GH(h:SR P G w0 M0 n st a w z){id:Nat}{mt:TypeId}{kt:KT}{zc:CV}{ks vs:List CV}(hob:st.ob id=.map mt kt zc ks vs):
  EC P mt=some (kt,zc)∧∃(ks' vs':List CV) (r:Nat) (ens:List MapEntry) (clk:Nat),MP ks vs ks' vs'∧z.σ id=.map (some r)∧w.heap[r]? =some (.map ⟨ens⟩ clk)∧IF w (Am M0 z st.ob) (z.β id) kt ks' vs' ens clk:=by
 have:=h.ob id;rw[hob]at this;exact this
theorem LZ{id:Nat}{mt:TypeId}{kt:KT}{zc:CV}{ks vs:List CV}(hob:st.ob id=.map mt kt zc ks vs):st.ob id≠ .none:=by rw[hob];simp
theorem map_set(h:SR P G w0 M0 n st a w z){id:Nat}{mt:TypeId}{kt:KT}{zc:CV}{ks vs:List CV}{r:Nat}{ens:List MapEntry}{clk:Nat}(hσ:z.σ id=.map (some r))(hh:w.heap[r]? =some (.map ⟨ens⟩ clk))
  {ks0 vs0 ks1 vs1:List CV} (hob:st.ob id=.map mt kt zc ks0 vs0) (hmt:EC P mt=some (kt,zc)) (hB:IF w (Am M0 z st.ob) (z.β id) kt ks vs ens clk)
  {i:Nat} {k v:CV} (hmp:MP ks1 vs1 ks (vs.set i v)) {vk vv:Value} (hk:ks[i]? =some k) (hvk:RelC w (Am M0 z st.ob) k vk) (hvv:RelC w (Am M0 z st.ob) v vv) (β':CV→Nat→Prop) (hβ:∀k b,z.β id k b→β' k b)
  (hβ':∀k b,β' k b→z.β id k b∨∃en,ens[i]? =some en∧ks[i]? =some k∧en.born=b):
  SR P G w0 M0 n {st with ob:=upd st.ob id (.map mt kt zc ks1 vs1)} a (EO w r (.map ((⟨ens⟩:Array MapEntry).modify i (fun e=>{e with key:=vk,val:=vv})) clk)) {z with β:=upd z.β id β'}:=by
 obtain⟨h1,h2,h3,h4,h5,h6,h7⟩:=hB;have hi:i<ks.length:=(Ae.1 hk).1;have hil:i<ens.length:=by have:=h1.length;rw[List.length_map]at this;omega
 have hE:ens[i]? =some (ens[i]'hil):=Ai _;obtain⟨v0,g1,g2⟩:=h1.get hk;rw[List.getElem?_map,hE]at g1;simp only[Option.map_some,Ac]at g1
 have hkey:ens[i].key=vk:=by
  rw[g1];exact(Lm (h3 k (List.mem_of_getElem? hk)) g2 hvk).1
 have hl:((⟨ens⟩:Array MapEntry).modify i (fun e=>{e with key:=vk,val:=vv})).toList=ens.set i {ens[i]with key:=vk,val:=vv}:=by
  apply List.ext_getElem?;intro j;rw[Array.getElem?_toList,Array.getElem?_modify,List.getElem?_set];by_cases hj:i=j
  ·subst hj;simp[hil]
  ·simp[hj]
 have hkeys:((ens.set i {ens[i]with key:=vk,val:=vv}).map (·.key))=ens.map (·.key):=by
  rw[List.map_set];apply List.ext_getElem?;intro j;rw[List.getElem?_set];by_cases hj:i=j
  ·subst hj;simp[hil,hkey]
  ·simp[hj]
 have hborns:((ens.set i {ens[i]with key:=vk,val:=vv}).map (·.born))=ens.map (·.born):=by
  rw[List.map_set];apply List.ext_getElem?;intro j;rw[List.getElem?_set];by_cases hj:i=j
  ·subst hj;simp[hil]
  ·simp[hj]
 have hob':((⟨ens⟩:Array MapEntry).modify i (fun e=>{e with key:=vk,val:=vv}))=⟨ens.set i {ens[i]with key:=vk,val:=vv}⟩:=Array.toList_inj.1 hl;rw[hob'];refine SR.turn h (LZ hob) (by simp) (by rw[hσ];exact MQ w r _) hβ (fun _ hh=>by cases hh) fun hkp hz=>⟨hmt,_,_,r,_,clk,hmp,hσ,Q0 hh, ?_, ?_,h3,h4, ?_, ?_, ?_⟩
 ·rw[hkeys];exact RelL.keep hkp _ _ h1
 ·rw[List.map_set];exact RelL.set i (RelL.keep hkp _ _ h2) (RelC.keep hkp _ _ hvv)
 ·intro en hen;rcases List.mem_or_eq_of_mem_set hen with hen|hen
  ·exact h5 en hen
  ·rw[hen];exact h5 ens[i] (List.mem_of_getElem? hE)
 ·rw[hborns];exact h6
 ·intro k' b hb;simp only[Bl]at hb
  have put:∀(j:Nat) (en:MapEntry),ens[j]? =some en→en.born=b→∃en',(ens.set i {ens[i]with key:=vk,val:=vv})[j]? =some en'∧en'.born=b:=by
   intro j en hj hb';rw[List.getElem?_set];by_cases hij:i=j
   ·subst hij;rw[hE]at hj;simp only[Ac]at hj;subst hj;exact⟨{ens[i]with key:=vk,val:=vv},by simp[hil],hb'⟩
   ·exact⟨en,by simp[hij,hj],hb'⟩
  rcases hβ' k' b hb with hb|⟨en,h8,h9,h10⟩
  ·obtain⟨j,en,g3,g4,g5⟩:=h7 k' b hb;obtain⟨en',g6,g7⟩:=put j en g4 g5;exact⟨j,en',g3,g6,g7⟩
  ·obtain⟨en',g6,g7⟩:=put i en h8 h10;exact⟨i,en',h9,g6,g7⟩
theorem Pj(h:SR P G w0 M0 n st a w z){id:Nat}{mt:TypeId}{kt:KT}{zc:CV}{ks vs:List CV}{r:Nat}{ens:List MapEntry}{clk:Nat}(hσ:z.σ id=.map (some r))(hh:w.heap[r]? =some (.map ⟨ens⟩ clk))
  {ks0 vs0 ks1 vs1:List CV} (hob:st.ob id=.map mt kt zc ks0 vs0) (hmt:EC P mt=some (kt,zc)) (hB:IF w (Am M0 z st.ob) (z.β id) kt ks vs ens clk)
  {k v:CV} (hmp:MP ks1 vs1 (ks++ [k]) (vs++ [v])) {vk vv:Value} (hc:Az kt k=true) (hk:k∉ks) (hvk:RelC w (Am M0 z st.ob) k vk) (hvv:RelC w (Am M0 z st.ob) v vv) (β':CV→Nat→Prop) (hβ:∀k b,z.β id k b→β' k b)
  (hβ':∀k' b,β' k' b→z.β id k' b∨(k'=k∧b=clk)):
  SR P G w0 M0 n {st with ob:=upd st.ob id (.map mt kt zc ks1 vs1)} a (EO w r (.map ((⟨ens⟩:Array MapEntry).push {key:=vk,val:=vv,born:=clk}) (clk+1))) {z with β:=upd z.β id β'}:=by
 obtain⟨h1,h2,h3,h4,h5,h6,h7⟩:=hB;have hp:(⟨ens⟩:Array MapEntry).push {key:=vk,val:=vv,born:=clk}=⟨ens++ [{key:=vk,val:=vv,born:=clk}]⟩:=Array.toList_inj.1 (by simp);rw[hp];have hkl:ks.length=ens.length:=by have:=h1.length;rw[List.length_map]at this;omega
 refine SR.turn h (LZ hob) (by simp) (by rw[hσ];exact MQ w r _) hβ (fun _ hh=>by cases hh) fun hkp hz=>⟨hmt,_,_,r,_,clk+1,hmp,hσ,Q0 hh, ?_, ?_, ?_, ?_, ?_, ?_, ?_⟩
 ·rw[List.map_append];exact(RelL.keep hkp _ _ h1).append (RelL.cons (RelC.keep hkp _ _ hvk) RelL.nil)
 ·rw[List.map_append];exact(RelL.keep hkp _ _ h2).append (RelL.cons (RelC.keep hkp _ _ hvv) RelL.nil)
 ·intro c hcm;rcases List.mem_append.1 hcm with hcm|hcm
  ·exact h3 c hcm
  ·rw[List.mem_singleton.1 hcm];exact hc
 ·rw[List.nodup_append];refine⟨h4,by simp,fun x hx y hy=> ?_⟩;rw[List.mem_singleton.1 hy];intro e;exact hk (e▸hx)
 ·intro en hen;rcases List.mem_append.1 hen with hen|hen
  ·have:=h5 en hen;omega
  ·rw[List.mem_singleton.1 hen];simp
 ·rw[List.map_append,List.nodup_append];refine⟨h6,by simp,fun x hx y hy=> ?_⟩;simp only[List.map_cons,List.map_nil,List.mem_singleton]at hy;subst hy;obtain⟨en,hen,rfl⟩:=List.mem_map.1 hx;have:=h5 en hen;omega
 ·intro k' b hb;simp only[Bl]at hb;rcases hβ' k' b hb with hb|⟨rfl,rfl⟩
  ·obtain⟨j,en,g3,g4,g5⟩:=h7 k' b hb;have hj1:=(Ae.1 g3).1;have hj2:=(Ae.1 g4).1;exact⟨j,en,by rw[List.getElem?_append_left hj1];exact g3,by rw[List.getElem?_append_left hj2];exact g4,g5⟩
  ·exact⟨ks.length,{key:=vk,val:=vv,born:=b},by simp,by rw[hkl];simp,rfl⟩
end
section
variable {P:Program} {G:Nat→List CV} {w0:WL} {M0:MM} {n:Nat} {st:St} {a:Act} {w w':World} {z:Cz}
theorem SH(h:SR P G w0 M0 n st a w z){o:Oper}{t:TypeId}{m k x:Operand}(ho:o.op=.mapUpdate t m k x)(hdst:o.dst=none){sm sk sx:SO}(hm:An m=some sm)(hk:An k=some sk)(hx:An x=some sx){st':St}
  (hv:AW none (so G st.fr) st (.mapupd t sm sk sx)=some st'):Di P G w0 M0 n st' a w o:=by
 have hr:=h.ctx.opd hm;have hr2:=h.ctx.opd hk;have hr3:=h.ctx.opd hx;simp only[AW]at hv;generalize so G st.fr sm=q at hr hv;generalize so G st.fr sk=q2 at hr2 hv;generalize so G st.fr sx=q3 at hr3 hv;split at hv<;>(try cases hv;done);rename_i id kc vc;obtain⟨hlive,e1⟩:=hr;cases hob:st.ob id<;>simp only[hob,reduceCtorEq]at hv;rename_i mt kt zc ks vs;simp only[Ad,Ac]at hv;obtain⟨⟨rfl,hc⟩,rfl⟩:=hv;obtain⟨hmt,ks',vs',r,ens,clk,hmp,e2,hh,hB⟩:=GH h hob;have hB0:=hB;obtain⟨h1,h2,h3,h4,h5,h6,h7⟩:=hB0;obtain⟨kty,ety,i,vz,hu,hkt,hi,hz,hzc⟩:=Mk hmt;have hIP:=LK hmp h4 hc vc;have rc:=MG (P:=P) hkt false hr2 hc;have rf:=MH (P:=P) hkt hr2 hc h1 h3
 have fin:∀{w' z' st'},(Instr.mapUpdate mt (a.eval m) (a.eval k) (a.eval x)).run P w=.ok () w'→SR P G w0 M0 n st' a w' z'→Di P G w0 M0 n st' a w o:=by
  intro w' z' st' hrun hS;refine .inr ⟨w',z',by simp[execOp,ho,hrun], ?_⟩;rw[hdst];exact hS
 have base:(Instr.mapUpdate mt (a.eval m) (a.eval k) (a.eval x)).run P w=(match BD ens (A1 kt kc ks')with
   |some (i,_)=>(do
    let key←Instr.keyThatStays ((((⟨ens⟩:Array MapEntry)[i]?).map MapEntry.key).getD (a.eval k)) (a.eval k)
    setObj r (.map ((⟨ens⟩:Array MapEntry).modify i fun e=>{e with key,val:=a.eval x}) clk):Sem Unit)
   |none=>setObj r (.map ((⟨ens⟩:Array MapEntry).push {key:=a.eval k,val:=a.eval x,born:=clk}) (clk+1))).run P w:=by
  rw[e1,e2];simp only[Instr.mapUpdate,Sem.run_bind,run_underlying hu,Result.andThen_ok,getObj,Sem.run,hh,rc,rf];cases BD ens (A1 kt kc ks')<;>rfl
 cases hf:A1 kt kc ks' with
 |none=>
  have hfa:BD ens (A1 kt kc ks')=none:=by rw[hf];rfl
  rw[hfa]at base;have e3:Bq kt ks' kc=ks'++ [kc]:=by simp[Bq,hf]
  have e4:Br kt ks' vs' kc vc=vs'++ [vc]:=by simp[Br,hf]
  rw[e3,e4]at hIP;have hS:=Pj h e2 hh hob hmt hB hIP hc (GC hc hf) hr2 hr3 (z.β id) (fun _ _ hh=>hh) (fun _ _ hh=>.inl hh);refine fin ?_ hS;rw[base];exact I2 hh (fun _ _ _ hh=>by cases hh)
 |some i=>
  have hki:=Fl hf;have hil:i<ens.length:=by have:=h1.length;rw[List.length_map]at this;have:=(Ae.1 hki).1;omega
  have hE:ens[i]? =some (ens[i]'hil):=Ai _;have hfa:BD ens (A1 kt kc ks')=some (i,ens[i].val):=by rw[hf];simp[BD,hE]
  rw[hfa]at base;obtain⟨v0,g1,g2⟩:=h1.get hki;rw[List.getElem?_map,hE]at g1;simp only[Option.map_some,Ac]at g1;have e3:Bq kt ks' kc=ks':=by simp[Bq,hf]
  have e4:Br kt ks' vs' kc vc=vs'.set i vc:=by simp[Br,hf]
  rw[e3,e4]at hIP;have hS:=map_set h e2 hh hob hmt hB hIP hki hr2 hr3 (z.β id) (fun _ _ hh=>hh) (fun _ _ hh=>.inl hh);refine fin ?_ hS;rw[base];have hEa:(⟨ens⟩:Array MapEntry)[i]? =some ens[i]:=by rw[←Array.getElem?_toList];exact hE
  have hst:=QE (P:=P) hc (M:=Am M0 z st.ob) (M':=Am M0 z st.ob) (u:=ens[i].key) (v:=a.eval k) (by rw[g1];exact g2) hr2 w;simp only[hEa,Option.map_some,Option.getD_some,Sem.run_bind,hst,Result.andThen_ok];exact I2 hh (fun _ _ _ hh=>by cases hh)
theorem SG(h:SR P G w0 M0 n st a w z){o:Oper}{t:TypeId}{m k:Operand}(ho:o.op=.mapEntry t m k)(hd:∀j,o.dst=some j→j<n){sm sk:SO}(hm:An m=some sm)(hk:An k=some sk){st':St}
  (hv:AW o.dst (so G st.fr) st (.mapent t sm sk)=some st'):Di P G w0 M0 n st' a w o:=by
 have hr:=h.ctx.opd hm;have hr2:=h.ctx.opd hk;simp only[AW]at hv;generalize so G st.fr sm=q at hr hv;generalize so G st.fr sk=q2 at hr2 hv;split at hv<;>(try cases hv;done);rename_i id kc;obtain⟨hlive,e1⟩:=hr;cases hob:st.ob id<;>simp only[hob,reduceCtorEq]at hv;rename_i mt kt zc ks vs;simp only[Ad,Ac]at hv;obtain⟨⟨rfl,hc,-⟩,rfl⟩:=hv;obtain⟨hmt,ks',vs',r,ens,clk,hmp,e2,hh,hB⟩:=GH h hob;have hB0:=hB;obtain⟨h1,h2,h3,h4,h5,h6,h7⟩:=hB0;obtain⟨kty,ety,i,vz,hu,hkt,hi,hz,hzc⟩:=Mk hmt;have hIP:=fun v=>LK hmp h4 hc v;rw[Me (zc:=zc) hmp h4 hc];have rc:=MG (P:=P) hkt false hr2 hc;have rf:=MH (P:=P) hkt hr2 hc h1 h3
 have fin:∀{w' z' v st1},(Instr.mapEntry mt (a.eval m) (a.eval k)).run P w=.ok v w'→SR P G w0 M0 n st1 a w' z'→Ar w' (Am M0 z' st1.ob) z' st1.ob (.ent id kc (A6 kt zc ks' vs' kc).1) v→
   Di P G w0 M0 n (St.set st1 o.dst (.ent id kc (A6 kt zc ks' vs' kc).1)) a w o:=by
  intro w' z' v st1 hrun hS hs;exact .inl ⟨v,w',z',by simp[execOp,ho,hrun],hS.put hd hs⟩
 have base:(Instr.mapEntry mt (a.eval m) (a.eval k)).run P w=(match BD ens (A1 kt kc ks')with
   |some (i,v)=>(do
    let key←Instr.keyThatStays ((((⟨ens⟩:Array MapEntry)[i]?).map MapEntry.key).getD (a.eval k)) (a.eval k)
    setObj r (.map ((⟨ens⟩:Array MapEntry).modify i fun e=>{e with key}) clk)
    pure (.tuple #[v,goInt ((((⟨ens⟩:Array MapEntry)[i]?).map (fun(x:MapEntry)=>(x.born:Int))).getD 0)]):Sem Value)
   |none=>(do
    let zero←zeroValue ety
    setObj r (.map ((⟨ens⟩:Array MapEntry).push {key:=a.eval k,val:=zero,born:=clk}) (clk+1))
    pure (.tuple #[zero,goInt clk]):Sem Value)).run P w:=by
  rw[e1,e2];simp only[Instr.mapEntry,Sem.run_bind,run_underlying hu,Result.andThen_ok,getObj,Sem.run,hh,rc,rf];cases BD ens (A1 kt kc ks')<;>rfl
 cases hf:A1 kt kc ks' with
 |none=>
  have hfa:BD ens (A1 kt kc ks')=none:=by rw[hf];rfl
  rw[hfa]at base;have hzr:RelC w (Am M0 z st.ob) zc vz:=El _ _ _ _ hzc;have hlook:A6 kt zc ks' vs' kc=(zc,false):=by simp[A6,hf]
  have e3:Bq kt ks' kc=ks'++ [kc]:=by simp[Bq,hf]
  have e4:Br kt ks' vs' kc zc=vs'++ [zc]:=by simp[Br,hf]
  have hIP:=hIP zc;rw[e3,e4]at hIP;have hS:=Pj h e2 hh hob hmt hB hIP hc (GC hc hf) hr2 hzr (fun k' b=>z.β id k' b∨(k'=kc∧b=clk)) (fun _ _ hh=>.inl hh) (fun _ _ hh=>hh);rw[hlook]at fin⊢;refine fin (v:=.tuple #[vz,goInt clk]) ?_ hS ⟨by simp[Bl],clk,vz,by simp[Bl],rfl,El _ _ _ _ hzc⟩;rw[base];simp only[Sem.run_bind,Is hi hz,Result.andThen_ok,I2 hh (fun _ _ _ hh=>by cases hh),Sem.run_pure]
 |some i=>
  have hki:=Fl hf;have hil:i<ens.length:=by have:=h1.length;rw[List.length_map]at this;have:=(Ae.1 hki).1;omega
  have hE:ens[i]? =some (ens[i]'hil):=Ai _;have hfa:BD ens (A1 kt kc ks')=some (i,ens[i].val):=by rw[hf];simp[BD,hE]
  rw[hfa]at base;obtain⟨v0,g1,g2⟩:=h1.get hki;rw[List.getElem?_map,hE]at g1;simp only[Option.map_some,Ac]at g1;have hvl:i<vs'.length:=by have:=h2.length;rw[List.length_map]at this;omega
  have hV:vs'[i]? =some (vs'[i]'hvl):=Ai _;obtain⟨v1,g3,g4⟩:=h2.get hV;rw[List.getElem?_map,hE]at g3;simp only[Option.map_some,Ac]at g3;have hlook:A6 kt zc ks' vs' kc=(vs'[i],true):=by simp[A6,hf,hV]
  have e3:Bq kt ks' kc=ks':=by simp[Bq,hf]
  have e4:Br kt ks' vs' kc vs'[i]=vs'.set i vs'[i]:=by simp[Br,hf]
  have hIP:=hIP vs'[i];rw[e3,e4]at hIP
  have hS:=map_set h e2 hh hob hmt hB hIP hki hr2 (v:=vs'[i]) (vv:=ens[i].val) (by rw[g3];exact g4) (fun k' b=>z.β id k' b∨(k'=kc∧b=ens[i].born)) (fun _ _ hh=>.inl hh) (fun k' b hb=>by
   rcases hb with hb|⟨rfl,rfl⟩
   ·exact .inl hb
   ·exact .inr ⟨_,hE,hki,rfl⟩)
  rw[hlook]at fin⊢;have hEa:(⟨ens⟩:Array MapEntry)[i]? =some ens[i]:=by rw[←Array.getElem?_toList];exact hE
  have hmod:((⟨ens⟩:Array MapEntry).modify i fun e=>{e with key:=a.eval k})=((⟨ens⟩:Array MapEntry).modify i fun e=>{e with key:=a.eval k,val:=ens[i].val}):=by
   apply Array.ext_getElem?;intro j;rw[Array.getElem?_modify,Array.getElem?_modify];by_cases hj:i=j
   ·subst hj;simp[hil]
   ·simp[hj]
  refine fin (v:=.tuple #[ens[i].val,goInt ens[i].born]) ?_ hS ⟨by simp[Bl],ens[i].born,ens[i].val,by simp[Bl],rfl, ?_⟩
  ·rw[base];have hst:=QE (P:=P) hc (M:=Am M0 z st.ob) (M':=Am M0 z st.ob) (u:=ens[i].key) (v:=a.eval k) (by rw[g1];exact g2) hr2 w;simp only[hEa,Option.map_some,Option.getD_some,Sem.run_bind,hst,Result.andThen_ok,hmod,I2 hh (fun _ _ _ hh=>by cases hh),Sem.run_pure]
  ·rw[g3];exact RelC.keep (SR.turnK (LZ hob) (by simp) (by rw[e2];exact MQ w r _)) _ _ g4
theorem VW{o:Oper}{st':St}{z':Cz}(hdst:o.dst=none)(hS:SR P G w0 M0 n st' a w' z')(run:(execOp a.eval o).run P w=.ok .skip w'):Di P G w0 M0 n st' a w o:=
 .inr ⟨w',z',run,by rw[hdst];exact hS⟩
theorem SF(h:SR P G w0 M0 n st a w z){o:Oper}{t:TypeId}{m s x:Operand}(ho:o.op=.entryStore t m s x)(hdst:o.dst=none){sm ss sx:SO}(hm:An m=some sm)(hs:An s=some ss)(hx:An x=some sx){st':St}
  (hv:AW none (so G st.fr) st (.entst sm ss sx)=some st'):Di P G w0 M0 n st' a w o:=by
 have hr:=h.ctx.opd hm;have hr2:=h.ctx.opd hs;have hr3:=h.ctx.opd hx;simp only[AW]at hv;generalize so G st.fr sm=q at hr hv;generalize so G st.fr ss=q2 at hr2 hv;generalize so G st.fr sx=q3 at hr3 hv;split at hv<;>(try cases hv;done);rename_i id id' kc vc;obtain⟨hlive,e1⟩:=hr;obtain⟨_,b,hb,e5⟩:=hr2;cases hob:st.ob id<;>simp only[hob,reduceCtorEq]at hv;rename_i mt kt zc ks vs;simp only[Ad,Ac]at hv;obtain⟨rfl,rfl⟩:=hv;obtain⟨hmt,ks',vs',r,ens,clk,hmp,e2,hh,hB⟩:=GH h hob;have hB0:=hB;obtain⟨h1,h2,h3,h4,h5,h6,h7⟩:=hB0;obtain⟨i,en,hki,hE,hen⟩:=h7 kc b hb;have hc:=h3 kc (List.mem_of_getElem? hki);have hf:=Jy hc h4 hki;have hIP:=LK hmp h4 hc vc;have hil:=(Ae.1 hE).1;have hE':ens[i]=en:=by rw[Ai hil]at hE;simpa using hE
 obtain⟨v0,g1,g2⟩:=h1.get hki;rw[List.getElem?_map,hE]at g1;simp only[Option.map_some,Ac]at g1
 have hfind:(⟨ens⟩:Array MapEntry).findIdx? (fun e=>(e.born:Int)==(b:Int))=some i:=by
  rw[Array.findIdx?_eq_some_iff_getElem];refine⟨by simpa using hil,by simp[hE',hen],fun j hj=> ?_⟩;have hjl:j<ens.length:=by omega
  simp only[beq_iff_eq,Int.natCast_inj];intro hbj;have e6:(ens.map (·.born))[j]? =some b:=by simp[Ai hjl];simpa using hbj
  have e7:(ens.map (·.born))[i]? =some b:=by simp[Ai hil,hE',hen]
  have:=(List.getElem?_inj (by simpa using hjl) h6).1 (e6.trans e7.symm);omega
 have e3:Bq kt ks' kc=ks':=by simp[Bq,hf]
 have e4:Br kt ks' vs' kc vc=vs'.set i vc:=by simp[Br,hf]
 rw[e3,e4]at hIP
 have e3':Bq kt ks kc=ks:=by
  obtain⟨j,v,k1,k2,k3⟩:=hmp.symm.at_ hki;have hnn:ks.Nodup:=(hmp.ks.nodup_iff).1 h4;simp[Bq,Jy hc hnn k2]
 rw[e3']at hIP;have hS:=map_set h e2 hh hob hmt hB hIP hki (vk:=ens[i].key) (by rw[hE',g1];exact g2) hr3 (z.β id) (fun _ _ hh=>hh) (fun _ _ hh=>.inl hh)
 have hmod:((⟨ens⟩:Array MapEntry).modify i fun e=>{e with val:=a.eval x})=((⟨ens⟩:Array MapEntry).modify i fun e=>{e with key:=ens[i].key,val:=a.eval x}):=by
  apply Array.ext_getElem?;intro j;rw[Array.getElem?_modify,Array.getElem?_modify];by_cases hj:i=j
  ·subst hj;simp[hil]
  ·simp[hj]
 have run:(Instr.entryStore t (a.eval m) (a.eval s) (a.eval x)).run P w=.ok () (EO w r (.map ((⟨ens⟩:Array MapEntry).modify i fun e=>{e with key:=ens[i].key,val:=a.eval x}) clk)):=by
  rw[e1,e2,e5];simp only[Instr.entryStore,Sem.run_bind,getObj,Sem.run,hh,asInt,asIntOf,Sem.run_pure,Result.andThen_ok,hfind,hmod,I2 hh (fun _ _ _ hh=>by cases hh)]
 refine VW hdst hS ?_;simp only[execOp,ho,Sem.run_bind,run,Result.andThen_ok,Sem.run_pure]
def Ig:SOp→Bool
 | .store .. | .entst .. | .mapupd .. =>true
 |_=>false
theorem SI(h:SR P G w0 M0 n st a w z){o:Oper}{sop:SOp}(hc:CB P o=some sop)(hcls:sop.cls=.eff)(hd:∀j,o.dst=some j→j<n)(hm:Ig sop=true→o.dst=none){st':St}
  (hv:AW o.dst (so G st.fr) st sop=some st'):Di P G w0 M0 n st' a w o:=by
 unfold CB at hc;split at hc<;>rename_i ho<;>(try cases hc;done)
 ·simp only[Aa]at hc;obtain⟨_,_,rfl⟩:=hc;cases hcls
 ·simp only[Aa]at hc;obtain⟨_,_,rfl⟩:=hc;cases hcls
 ·simp only[Ab,Aa]at hc;obtain⟨_,_,_,_,_,_,rfl⟩:=hc;cases hcls
 ·simp only[Ab,Aa]at hc;obtain⟨_,_,_,_,_,_,rfl⟩:=hc;cases hcls
 ·simp only[Aa]at hc;obtain⟨_,_,rfl⟩:=hc;cases hcls
 ·simp only[Ab,Aa]at hc;obtain⟨_,_,_,_,_,_,_,_,rfl⟩:=hc;cases hcls
 ·split at hc<;>(try cases hc;done);simp only[Ab,Ad,Ac]at hc;obtain⟨_,_,_,_,_,_,_,_,_,rfl⟩:=hc;cases hcls
 ·simp only[Ab,Aa]at hc;obtain⟨_,_,_,_,rfl⟩:=hc;cases hcls
 ·
  simp only[Ab,Aa]at hc;obtain⟨i,hi,sa,hsa,sx,hsx,rfl⟩:=hc;have hdn:=hm rfl;rw[hdn]at hv;exact SJ h ho hdn hi hsa hsx hv
 ·have:=H5 hc;rw[hcls]at this;cases this
 ·simp only[Aa]at hc;obtain⟨_,_,rfl⟩:=hc;cases hcls
 ·have:=IY hc;rw[hcls]at this;rcases this with h'|h'<;>cases h'
 ·split at hc
  ·simp only[Aa]at hc;obtain⟨_,_,rfl⟩:=hc;cases hcls
  ·cases hc
 ·simp only[Aa,Prod.exists]at hc;obtain⟨_,_,_,rfl⟩:=hc;cases hcls
 ·split at hc<;>(try cases hc;done);simp only[Ab,Ad,Ac]at hc;obtain⟨_,_,_,_,_,_,_,_,_,_,_,rfl⟩:=hc;cases hcls
 ·split at hc<;>(try cases hc;done)
  ·simp only[Ab,Aa]at hc;obtain⟨_,_,_,_,_,_,rfl⟩:=hc;cases hcls
  ·simp only[Ab,Aa]at hc;obtain⟨_,_,_,_,_,_,_,_,rfl⟩:=hc;cases hcls
  ·split at hc<;>(try cases hc;done);simp only[Ab,Ad,Aa]at hc;obtain⟨_,_,_,_,_,rfl⟩:=hc;cases hcls
 ·split at hc<;>(try cases hc;done);simp only[Ab,Option.ite_none_left_eq_some,Aa]at hc;obtain⟨_,_,_,_,_,_,_,rfl⟩:=hc;cases hcls
 ·split at hc<;>(try cases hc;done);simp only[Ab,Aa]at hc;obtain⟨_,_,_,_,_,_,rfl⟩:=hc;cases hcls
 ·split at hc<;>(try cases hc;done)
  ·simp only[Ab,Option.ite_none_left_eq_some,Aa]at hc;obtain⟨_,_,_,_,_,_,_,rfl⟩:=hc;cases hcls
  ·simp only[Ab,Option.ite_none_left_eq_some,Aa]at hc;obtain⟨_,_,_,_,_,_,_,rfl⟩:=hc;cases hcls
 ·split at hc<;>(try cases hc;done)
  ·simp only[Ab,Aa]at hc;obtain⟨_,_,_,_,rfl⟩:=hc;cases hcls
  ·simp only[Ab,Aa]at hc;obtain⟨_,_,_,_,_,_,_,_,rfl⟩:=hc;cases hcls
 ·simp only[Ab,Aa]at hc;obtain⟨_,_,_,_,_,_,rfl⟩:=hc;cases hcls
 ·split at hc<;>(try cases hc;done);simp only[Ab,Aa]at hc;obtain⟨sm,hsm,sk,hsk,sx,hsx,rfl⟩:=hc;have hdn:=hm rfl;rw[hdn]at hv;exact SH h ho hdn hsm hsk hsx hv
 ·split at hc<;>(try cases hc;done);simp only[Ab,Aa]at hc;obtain⟨sm,hsm,sk,hsk,rfl⟩:=hc;exact SG h ho hd hsm hsk hv
 ·simp only[Ab,Aa]at hc;obtain⟨sm,hsm,ss,hss,sx,hsx,rfl⟩:=hc;have hdn:=hm rfl;rw[hdn]at hv;exact SF h ho hdn hsm hss hsx hv
 ·split at hc<;>(try cases hc;done);simp only[Aa]at hc;obtain⟨_,_,rfl⟩:=hc;cases hcls
 ·simp only[Aa]at hc;obtain⟨_,_,rfl⟩:=hc;cases hv
 ·simp only[Aa]at hc;obtain⟨_,_,rfl⟩:=hc;cases hcls
 ·
  rename_i c;obtain⟨callee,args,argTypes⟩:=c;unfold E2 at hc;split at hc<;>(try cases hc;done)
  ·split at hc<;>first
    |(cases hc;done)
    |(simp only[Aa]at hc;obtain⟨_,_,rfl⟩:=hc;cases hcls)
    |(simp only[Ac]at hc;subst hc;cases hcls)
  ·simp only[Aa]at hc;obtain⟨_,_,rfl⟩:=hc;cases hcls
  ·simp only[Aa]at hc;obtain⟨_,_,rfl⟩:=hc;cases hcls
  ·rename_i hcal;simp only at hcal;subst hcal;split at hc<;>(try cases hc;done);rename_i x y t u hargs hat
   split at hc<;>(try cases hc;done);rename_i e _ hu _;simp only[Ab,Ad,Ac]at hc;obtain⟨i,hi,zv,hz,sx,hsx,sy,hsy,⟨rfl,h0,hzs⟩,rfl⟩:=hc;exact SE h ho hargs hat hu hi hz hzs h0 hd hsx hsy hv
  ·split at hc<;>(try cases hc;done);rcases EV hc with⟨l,hl,rfl⟩|⟨_,_,_,_,_,_,_,rfl⟩<;>cases hcls
  ·simp only[Aa]at hc;obtain⟨_,_,rfl⟩:=hc;cases hcls
end
def z0(v:Value)(al:Nat→Nat:=fun _=>0):Cz:={σ:=fun _=>v,β:=fun _ _ _=>False,al:=al}
def ob0:Nat→Ob:=fun _=>.none
def Dh(P:Program)(w:World)(M:MM)(B:Nat)(v:Value):Res→Prop
 | .val c=>RelC w M c v
 | .new o=>Dq o=true∧(∀g,blk v=some g→B≤g∧g<w.heap.size)∧Ba P w ⟨fun g=>M g∨blk v=some g,M.al⟩ B (z0 v) ob0 0 v o
def CallsTo(P:Program)(G:Nat→List CV)(f:FuncId)(args:List CV)(r:Res):Prop:=
 ∀(w:World) (M:MM) (vs:List Value),(∀g,M g→g<w.heap.size)→GOk G w M→RelL w M args vs→
  Calls P f ⟨vs⟩ w fun e w'=>∃v,e=.returned v∧Below w.heap.size w w'∧Dh P w' M w.heap.size v r
def Rk(P:Program)(f:FuncId):Prop:=∀(w:World) (bd clk:Nat) (ps:Option Nat) (ens:List MapEntry),w.heap[bd]? =some (.map ⟨[]⟩ clk)→
 ((ps=none∧ens= [])∨∃bs clk',ps=some bs∧bs≠bd∧w.heap[bs]? =some (.map ⟨ens⟩ clk')∧Ens ens clk')→
 (∀en:MapEntry,en∈ens→∃s:List UInt8,en.key=.string ⟨⟨s⟩⟩∧s.length≤9223372036854775807)→ens.length≤9223372036854775807→
 Calls P f ⟨[.map (some bd),.map ps]⟩ w fun e w'=>e=.returned (.tuple ⟨[]⟩)∧w.grownBy w' (some bd)∧∃(ens':List MapEntry) (clk':Nat),w'.heap[bd]? =some (.map ⟨ens'⟩ clk')∧Ens ens' clk'∧
  (ens'.map fun e=>(e.key,e.val)).Perm (ens.map fun e=>(e.key,e.val))
def Nk(P:Program)(cp:FuncId→Bool):Prop:=∀f,cp f=true→Bm P f=true∧Rk P f
def Rm(P:Program)(E:Env):Prop:=∀f args r,E.fn f args=some r→Bm P f=true∧CallsTo P E.G f args r
structure Hk (P:Program) (w:World) (M:MM) (z:Cz) (T:List Nat) (H:Nat→Ob):Prop where
 ob:∀id,Ba P w M 0 z H id (z.σ id) (H id)
 lo:∀id g,H id≠ .none→blk (z.σ id)=some g→g<w.heap.size∧M g
 apart:∀i j g,i≠j→H i≠ .none→H j≠ .none→blk (z.σ i)=some g→blk (z.σ j)≠some g
 told:∀N cs,As≤N→H N=.box cs→z.σ N=.pointer (some ⟨z.al N,0,none⟩)
 only:∀id,H id≠ .none→T.contains id=true
 al:z.al=M.al
def ID(P:Program)(G:Nat→List CV)(f:FuncId)(T:List Nat)(args:List CV)(H:Nat→Ob)(r:CV)(H':Nat→Ob):Prop:=
 ∀(w:World) (M:MM) (z:Cz) (vs:List Value),(∀g,M g→g<w.heap.size)→GOk G w M→RelL w M args vs→Hk P w M z T H→
  Calls P f ⟨vs⟩ w fun e w'=>∃v z',e=.returned v∧(w'.os=w.os∧w'.tape=w.tape∧w'.output=w.output∧w.heap.size≤w'.heap.size∧∀g,g<w.heap.size→¬own z H g→w'.heap[g]? =w.heap[g]?)∧
   Hk P w' (Am M z' H') z' T H'∧(∀id g,H' id≠ .none→blk (z'.σ id)=some g→(H id≠ .none∧blk (z.σ id)=some g)∨w.heap.size≤g)∧z'.al=M.al∧RelC w' (Am M z' H') r v
def Nl(P:Program)(E:Env):Prop:=∀f e,E.ef f=some e→Bm P f=true∧∀args H r H',e.fn args H=some (r,H')→ID P E.G f e.T args H r H'
structure EOk (P:Program) (E:Env):Prop where
 fn:Rm P E
 cp:Nk P E.cp
 ef:Nl P E
theorem EOk.at{P:Program}{E:Env}(h:EOk P E)(D:Option (List Nat)):EOk P (E.at D):=by
 cases D with
 |none=>exact h
 |some D=>exact⟨h.fn,h.cp,fun f e he=>by cases he⟩
theorem EOk.named{P:Program}{E:Env}(h:EOk P E):EOk P E.named:=⟨fun f l r hr=>by
 have hr':(match E.fn f l with
  |some (.new o)=>if Dq o=true then some (.new o)else none
  |r=>r)=some r:=hr
 split at hr'
 ·rename_i o h1;split at hr'<;>(try cases hr';done);cases hr';exact h.fn f l _ h1
 ·exact h.fn f l _ hr',h.cp,fun f e he=>by
 have he':(match E.ef f with
  |some e=>if(e.T.all fun N=>Nat.ble As N)=true then some e else none
  |none=>none)=some e:=he
 split at he'<;>(try cases he';done);split at he'<;>(try cases he';done);rename_i e' h1 h2;cases he'
 exact h.ef f e h1⟩
section
variable {P:Program} {w w':World} {M M':MM}
mutual
theorem Mn(hal:M'.al=M.al):∀(c:CV) (v:Value),memless c=true→RelC w M c v→RelC w' M' c v
 | .int _ _,_,_,h=>by unfold RelC at*;exact h
 | .bool _,_,_,h=>by unfold RelC at*;exact h
 | .str _,_,_,h=>by unfold RelC at*;exact h
 | .nilif,_,_,h=>by unfold RelC at*;exact h
 | .nilfn,_,_,h=>by unfold RelC at*;exact h
 | .adr _,_,_,h=>by unfold RelC at*;exact h
 | .nilp,_,_,h=>by unfold RelC at*;exact h
 | .nam _,_,_,h=>by unfold RelC at*;rw[hal];exact h
 | .bptr _,_,_,h=>by unfold RelC at*;rw[hal];exact h
 | .agg cs,v,hm,h=>by
  unfold RelC at*;obtain⟨vs,e,hl⟩:=h;exact⟨vs,e,Ie hal cs vs (by simpa[memless]using hm) hl⟩
 | .tup cs,v,hm,h=>by
  unfold RelC at*;obtain⟨vs,e,hl⟩:=h;exact⟨vs,e,Ie hal cs vs (by simpa[memless]using hm) hl⟩
 | .sl _ _,_,hm,_=>by simp[memless]at hm
 | .map _ _ _,_,hm,_=>by simp[memless]at hm
 | .rp _,_,hm,_=>by simp[memless]at hm
 | .wp _,_,hm,_=>by simp[memless]at hm
 | .fn _ _,_,hm,_=>by simp[memless]at hm
 | .ifc,_,hm,_=>by simp[memless]at hm
theorem Ie(hal:M'.al=M.al):∀(cs:List CV) (vs:List Value),BR cs=true→RelL w M cs vs→RelL w' M' cs vs
 | [],_,_,h=>by unfold RelL at*;exact h
 |c::cs,vs,hm,h=>by
  unfold RelL at*;obtain⟨v,vs',e,h1,h2⟩:=h;simp only[BR,Af]at hm;exact⟨v,vs',e,Mn hal c v hm.1 h1,Ie hal cs vs' hm.2 h2⟩
end
theorem Pm(hal:M'.al=M.al){size:Nat}:∀(cs:List CV) (xs:List Value),BR cs=true→AU w M size cs xs→AU w' M' size cs xs
 | [],_,_,h=>h
 |c::cs,xs,hm,h=>by
  obtain⟨v,xs',e,h1,h2,h3⟩:=h;simp only[BR,Af]at hm;exact⟨v,xs',e,h1,Mn hal c v hm.1 h2,Pm hal cs xs' hm.2 h3⟩
theorem PG{B B' e size n:Nat}{v:Value}{xs:List Value}(h:w.ownsRow B e size v n xs)(hB:B'≤B):w.ownsRow B' e size v n xs:=by
 refine⟨h.1, ?_⟩;rcases h.2 with h2|⟨g,cap,cur,e1,e2,r⟩
 ·exact .inl h2
 ·exact .inr ⟨g,cap,cur,e1,Nat.le_trans hB e2,r⟩
theorem Mm:∀(l:List CV),BR l=true↔∀c∈l,memless c=true
 | []=>by simp[BR]
 |c::l=>by simp[BR,Mm l]
theorem Pn{l l':List CV}(h:l'.Perm l)(hm:BR l=true):BR l'=true:=
 (Mm l').2 fun c hc=>(Mm l).1 hm c (h.mem_iff.1 hc)
theorem Rr(hal:M'.al=M.al){B B' id id':Nat}{v:Value}{z z':Cz}{ob ob':Nat→Ob}{o:Ob}(hB:B'≤B)(hh:Dq o=true)(hM:∀g,g<w.heap.size→M' g→M g)(hβ:∀k b,¬z'.β id k b)(h:Ba P w M B z ob id' v o):Ba P w M' B' z' ob' id v o:=by
 have hk:Bp w M w M':=⟨Nat.le_refl _,fun _ _ _=>rfl,hM,hal⟩;cases o<;>simp[Dq]at hh
 ·obtain⟨xs,h1,h2⟩:=h;exact⟨xs,PG h1 hB,AU.keep hk h2⟩
 ·obtain⟨hmt,ks',vs',r,ens,clk,hmp,e,g1,g2,g3,g4,g5,g6,g7,_⟩:=h;exact⟨hmt,ks',vs',r,ens,clk,hmp,e,g1,RelL.keep hk _ _ g2,RelL.keep hk _ _ g3,g4,g5,g6,g7,fun k b hb=>absurd hb (hβ k b)⟩
theorem Rs(hal:M'.al=M.al){B B' id id':Nat}{v:Value}{z z':Cz}{ob ob':Nat→Ob}{o:Ob}(hB:B'≤B)(hm:(Res.new o).memless=true)(hβ:∀k b,¬z'.β id k b)(h:Ba P w M B z ob id' v o):Ba P w M' B' z' ob' id v o:=by
 cases o<;>simp[Res.memless]at hm
 ·obtain⟨xs,h1,h2⟩:=h;exact⟨xs,PG h1 hB,Pm hal _ _ hm h2⟩
 ·obtain⟨hmt,ks',vs',r,ens,clk,hmp,e,g1,g2,g3,g4,g5,g6,g7,_⟩:=h;exact⟨hmt,ks',vs',r,ens,clk,hmp,e,g1,Ie hal _ _ (Pn hmp.ks hm.1) g2,Ie hal _ _ (Pn hmp.vs hm.2) g3,g4,g5,g6,g7,fun k b hb=>absurd hb (hβ k b)⟩
end
section
variable {P:Program} {E:Env} {w0:WL} {M0:MM} {n:Nat} {st:St} {a:Act} {w w':World} {z:Cz}
def mm0(w0:WL)(M0:MM)(z:Cz):MM:=⟨fun g=>M0 g∧∀id,¬w0.L id g,z.al⟩
theorem SR.outerW{G:Nat→List CV}(h:SR P G w0 M0 n st a w z):∀g,M0 g→g<w.heap.size:=fun g hg=>Nat.lt_of_lt_of_le (h.outer g hg) h.below.size
theorem SR.mutW{G:Nat→List CV}(h:SR P G w0 M0 n st a w z):∀g,Am M0 z st.ob g→g<w.heap.size:=fun g hg=>by
 rcases hg with hg|⟨id,hl,hb⟩
 ·exact h.outerW g hg
 ·exact(h.lo id g hl hb).2
theorem Lh{G:Nat→List CV}(h:SR P G w0 M0 n st a w z){rd:Nat→Ob}(hrd:∀id,rd id=.none∨rd id=st.ob id){s:SV}{v:Value}{c:CV}(hs:Ar w (Am M0 z st.ob) z st.ob s v)(hc:BU rd s=some c):RelC w (mm0 w0 M0 z) c v:=by
 have hk:Bp w (Am M0 z st.ob) w (mm0 w0 M0 z):=⟨Nat.le_refl _,fun _ _ _=>rfl,fun g _ hg=>.inl hg.1,rfl⟩;have hout:∀id g,st.ob id≠ .none→blk (z.σ id)=some g→¬mm0 w0 M0 z g:=fun id g hl hb hm=>hm.2 id (h.low hl hb (h.outer g hm.1));cases s<;>(try simp only[BU,reduceCtorEq]at hc;done)
 ·simp only[BU,Ac]at hc;subst hc;exact RelC.keep hk _ _ hs
 ·rename_i id;obtain⟨hlive,e⟩:=hs;simp only[BU]at hc;rcases hrd id with e'|e'
  ·rw[e']at hc;cases hc
  ·rw[e']at hc;cases hob:st.ob id<;>rw[hob]at hc<;>(try simp only[reduceCtorEq]at hc;done);rename_i et sz es;simp only[Ac]at hc;subst hc;have ho:=h.ob id;rw[hob]at ho;obtain⟨xs,hown,hf⟩:=ho;unfold RelC;rcases hown.2 with⟨e1,e2⟩|⟨g,cap,cur,e1,e2,e3,e4,e5,e6,e7⟩
   ·refine⟨none,0,0,by rw[e,e1],e2.symm,Nat.le_refl _,(fun hh=>by cases hh),(fun hh=>by cases hh),fun _=>rfl,fun hne=> ?_⟩;exact absurd (List.eq_nil_of_length_eq_zero e2) hne
   ·refine⟨some ⟨g,0,none⟩,es.length,cap,by rw[e,e1],rfl,e4,(fun hh=>by cases hh),(fun hh=>by cases hh),(fun hh=>by cases hh),fun _=>⟨⟨g,0,none⟩,sz,rfl,C3 e3,hout id g hlive (by rw[e1];rfl), ?_⟩⟩;refine F7 fun k el hel=> ?_;obtain⟨u,g1,g2,g3⟩:=Gk hf hel;refine⟨u,RelC.keep hk _ _ g1,g2,fun j u' hu=> ?_⟩;rw[Dz,cell_of_row w g _ cur et (0,0) e3];have h8:=g3 j u' hu;rw[←e7,List.getElem?_take]at h8;split at h8
    ·simpa using h8
    ·cases h8
 ·rename_i id;obtain⟨hlive,e⟩:=hs;simp only[BU]at hc;rcases hrd id with e'|e'
  ·rw[e']at hc;cases hc
  ·rw[e']at hc;cases hob:st.ob id<;>rw[hob]at hc<;>(try simp only[reduceCtorEq]at hc;done);simp only[Ac]at hc;subst hc;obtain⟨hmt,ks',vs',r,ens,clk,hmp,e1,hh,h1,h2,h3,h4,h5,h6,_⟩:=GH h hob;obtain⟨ens',hp,h1',h2'⟩:=Qb hmp h1 h2;unfold RelC;refine⟨some r,by rw[e,e1],(fun hh=>by cases hh),(fun hh=>by cases hh),(fun hh=>by cases hh),fun b hb=> ?_⟩;cases hb;exact⟨hout id r hlive (by rw[e1];rfl),ens,ens',clk,hh,⟨Ms h3 h1 h4,h5,h6⟩,hp,RelL.keep hk _ _ h1',RelL.keep hk _ _ h2'⟩
theorem Lj{G:Nat→List CV}(h:SR P G w0 M0 n st a w z){rd:Nat→Ob}(hrd:∀id,rd id=.none∨rd id=st.ob id):∀{xs:List Operand} {sxs:List SO} {l:List CV},Aq An xs=some sxs→Aq (fun x=>BU rd (so G st.fr x)) sxs=some l→
  RelL w (mm0 w0 M0 z) l (xs.map a.eval)∧((sxs.all fun x=>isC (so G st.fr x))=true→RelL w (Am M0 z st.ob) l (xs.map a.eval))
 | [],sxs,l,h1,h2=>by
  simp only[Aq,Ac]at h1;subst h1;simp only[Aq,Ac]at h2;subst h2;exact⟨RelL.nil,fun _=>RelL.nil⟩
 |x::xs,sxs,l,h1,h2=>by
  simp only[Aq,Ab,Aa]at h1;obtain⟨s,hs,ss,hss,rfl⟩:=h1;simp only[Aq,Ab,Aa]at h2;obtain⟨c,hc,cs,hcs,rfl⟩:=h2;obtain⟨g1,g2⟩:=Lj h hrd hss hcs;refine⟨RelL.cons (Lh h hrd (h.ctx.opd hs) hc) g1,fun hall=> ?_⟩;simp only[List.all_cons,Af]at hall;refine RelL.cons ?_ (g2 hall.2);have hr:=h.ctx.opd hs;generalize so G st.fr s=q at hr hc hall;cases q<;>simp[isC]at hall;simp only[BU,Ac]at hc;subst hc;exact hr
theorem OD{G:Nat→List CV}(h:SR P G w0 M0 n st a w z):GOk G w (Am M0 z st.ob):=h.globW
theorem T3{G:Nat→List CV}(h:SR P G w0 M0 n st a w z):GOk G w (mm0 w0 M0 z):=
 h.globW.keep (Nat.le_refl _) (fun _ _ _=>rfl) fun g _ hm=>.inl hm.1
theorem RE(hE:EOk P E)(h:SR P E.G w0 M0 n st a w z){d:Option Nat}(hd:∀j,d=some j→j<n){f:FuncId}{l:List CV}{vs:List Value}{r:Res}{open_:Bool}(hf:E.fn f l=some r)
  (h1:RelL w (mm0 w0 M0 z) l vs) (h2:open_=false→RelL w (Am M0 z st.ob) l vs) (hmem:open_=true→r.memless=true) {st':St} (hs:DL st d r=some st'):
  Calls P f ⟨vs⟩ w fun e w'=>∃v,e=.returned v∧∃z',SR P E.G w0 M0 n st' (a.put d v) w' z':=by
 obtain⟨_,hc⟩:=hE.fn f l r hf
 cases open_ with
 |true=>
  have hm:=hmem rfl;refine(hc w (mm0 w0 M0 z) vs (fun g hg=>h.outerW g hg.1) (T3 h) h1).mono fun e w' ⟨v,he,hb,hr⟩=>⟨v,he, ?_⟩;have hg:=h.grow hb
  cases r with
  |val c=>
   simp only[DL,Ac]at hs;subst hs;exact⟨z,hg.put hd (Mn (by rfl) c v hm hr)⟩
  |new o=>
   obtain⟨hh,hv,ho⟩:=hr;simp only[DL,BA]at hs
   cases d with
   |none=>cases hs
   |some d=>
    simp only at hs;split at hs<;>(try cases hs;done);rename_i hn;simp only[Ac,Option.getD_some]at hs;subst hs;refine⟨z.new d v,h.new (hd d rfl) hn hb hv (Rs (by rfl) (Nat.zero_le _) hm (fun k b hh=>by simp[Cz.new]at hh) ho) ?_⟩;cases o<;>simp[Dq]at hh<;>exact⟨Fn (by simp),CM.symm⟩
 |false=>
  refine(hc w (Am M0 z st.ob) vs h.mutW (OD h) (h2 rfl)).mono fun e w' ⟨v,he,hb,hr⟩=>⟨v,he, ?_⟩;have hg:=h.grow hb
  cases r with
  |val c=>
   simp only[DL,Ac]at hs;subst hs;exact⟨z,hg.put hd hr⟩
  |new o=>
   obtain⟨hh,hv,ho⟩:=hr;simp only[DL,BA]at hs
   cases d with
   |none=>cases hs
   |some d=>
    simp only at hs;split at hs<;>(try cases hs;done);rename_i hn;simp only[Ac,Option.getD_some]at hs;subst hs;refine⟨z.new d v,h.new (hd d rfl) hn hb hv (Rr (by rfl) (Nat.zero_le _) hh (fun g _ hg=> ?_) (fun k b hh=>by simp[Cz.new]at hh) ho) ?_⟩
    ·rcases hg with hg|⟨id,hl,hb'⟩
     ·exact .inl (.inl hg)
     ·by_cases hid:id=d
      ·subst hid;rw[CM]at hb';exact .inr hb'
      ·rw[Ay _ _ hid]at hl;exact .inl (.inr ⟨id,hl,by simpa[Cz.new,upd,hid]using hb'⟩)
    ·cases o<;>simp[Dq]at hh<;>exact⟨Fn (by simp),CM.symm⟩
end
section
variable {P:Program} {E:Env} {w0:WL} {M0:MM} {n:Nat} {st:St} {a:Act} {w w':World} {z:Cz}
theorem Tu{w w1:World}{g:Nat}(h:Below w.heap.size w w1)(hg:w.heap.size≤g)(o k:Nat):Below w.heap.size w (w1.freeze ⟨g,o,none⟩ k):=by
 unfold World.freeze;split
 ·exact h
 ·refine⟨h.os,h.tape,h.output,by simpa using h.size,fun j hj=> ?_⟩;simp only[Array.getElem?_modify];rw[if_neg (by omega)];exact h.block j hj
theorem T7{o:Oper}{sop:SOp}(hc:CB P o=some sop)(hcls:sop.cls=.grow):∃src dst x,o.op=.convert src dst x∧FK P src dst x=some sop:=by
 unfold CB at hc
 split at hc<;>rename_i ho<;>first
  |(cases hc;done)
  |exact⟨_,_,_,ho,hc⟩
  |(exfalso;have:=H5 hc;rw[hcls]at this;cases this;done)
  |(exfalso
    unfold E2 at hc
    (repeat' split at hc)<;>try(rcases EV hc with⟨_,_,rfl⟩|⟨_,_,_,_,_,_,_,rfl⟩<;>(cases hcls;done))
    all_goals simp only[Ab,Aa,Ad,Ac,reduceCtorEq]at hc
    all_goals(repeat (first|(subst hc;cases hcls;done)|(obtain⟨_,hc⟩:=hc)))
    done)
  |(exfalso
    (repeat' split at hc)<;>simp only[Ab,Aa,Option.ite_none_left_eq_some,Ad,Ac,Prod.exists,reduceCtorEq]at hc
    all_goals(repeat (first|(subst hc;cases hcls;done)|(obtain⟨_,hc⟩:=hc)))
    done)
theorem T8{G:Nat→List CV}(h:SR P G w0 M0 n st a w z){rd:Nat→Ob}{o:Oper}{sop:SOp}(hc:CB P o=some sop)(hcls:sop.cls=.grow){sv:SV}(hv:Ao rd (so G st.fr) sop=some sv):
  ∃v w',(execOp a.eval o).run P w=.ok (.value v) w'∧Below w.heap.size w w'∧Ar w' (Am M0 z st.ob) z st.ob sv v:=by
 obtain⟨src,dst,x,ho,hc⟩:=T7 hc hcls;unfold FK at hc;split at hc<;>(try cases hc;done)
 ·simp only[Aa]at hc;obtain⟨_,_,rfl⟩:=hc;cases hcls
 ·simp only[Aa]at hc;obtain⟨_,_,rfl⟩:=hc;cases hcls
 ·simp only[Aa]at hc;obtain⟨_,_,rfl⟩:=hc;cases hcls
 ·rename_i e hu1 hu2;split at hc<;>(try cases hc;done);rename_i hu3;simp only[Aa]at hc;obtain⟨sx,hx,rfl⟩:=hc;have hr:=h.ctx.opd hx;simp only[Ao]at hv;generalize so G st.fr sx=q at hr hv;split at hv<;>(try cases hv;done);rename_i s;simp only[Ad,Ac]at hv;obtain⟨hle,rfl⟩:=hv;have e1:=C5 (w:=w) (M:=Am M0 z st.ob) hr;let elems:Array Value:=(⟨s⟩:Array UInt8).map fun b=>.int .u8 b.toNat
  have hres:∃cap:Nat,s.length≤cap∧(convert src dst (a.eval x)).run P w=.ok (.slice (some ⟨w.heap.size,0,none⟩) s.length cap)
    (((w.drew).alloc (.cells (elems++Array.replicate (cap-s.length) (.int .u8 0)) e)).freeze ⟨w.heap.size,cap,none⟩ 1):=by
   refine⟨Question.cut (.appendCap s.length 0 e) (w.tape w.drawn (.appendCap s.length 0 e)),by simp[Question.cut], ?_⟩;have hsz:(⟨⟨s⟩⟩:ByteArray).size=s.length:=rfl;have hcap:s.length≤Question.cut (.appendCap s.length 0 e) (w.tape w.drawn (.appendCap s.length 0 e)):=by simp[Question.cut]
   generalize hq:Question.cut (.appendCap s.length 0 e) (w.tape w.drawn (.appendCap s.length 0 e))=cap at hcap⊢
   have hshape:(((w.drew).alloc (.cells (elems++Array.replicate (cap-s.length) (.int .u8 0)) e)).shape? w.heap.size)=some (e,cap):=by
    have:=F9 w.drew (.cells (elems++Array.replicate (cap-s.length) (.int .u8 0)) e);have hw:w.drew.heap.size=w.heap.size:=rfl;rw[hw]at this;simp only[World.shape?,this];simp[elems];omega
   rw[e1];simp only[convert,Sem.run_bind,run_underlying hu1,run_underlying hu2,Result.andThen_ok,run_underlying hu3,Conv.stringToBytes,run_choose,hsz,Question.forced,Ag,if_false,hq,MI,markStringish,run_shape];have hw:({w with drawn:=w.drawn+1}:World)=w.drew:=rfl;rw[hw];simp only[elems]at hshape;rw[hshape];simp only[run_freeze,Result.andThen_ok,Sem.run_pure];rfl
  obtain⟨cap,hcap,run⟩:=hres;have hb0:Below w.heap.size w ((w.drew).alloc (.cells (elems++Array.replicate (cap-s.length) (.int .u8 0)) e)):=((Below.refl _ w).drew).alloc (Nat.le_refl _) _;have hb:=Tu hb0 (Nat.le_refl w.heap.size) cap 1;refine⟨.slice (some ⟨w.heap.size,0,none⟩) s.length cap,_,by simp only[execOp,ho,Sem.run_bind,run,Result.andThen_ok,Sem.run_pure],hb, ?_⟩;show RelC _ _ _ _;unfold RelC;refine⟨some ⟨w.heap.size,0,none⟩,s.length,cap,rfl,by simp,hcap,(fun hh=>by cases hh),(fun _ hh=>by cases hh),(fun hh=>by cases hh),fun _=>⟨⟨w.heap.size,0,none⟩,1,rfl, ?_,fun hm=> ?_,F7 fun k el hel=> ?_⟩⟩
  ·have:w.drew.heap.size=w.heap.size:=rfl;simp[World.freeze,this]
  ·have:=h.mutW _ hm;simp at this
  ·rw[List.getElem?_map,Aa]at hel;obtain⟨b,hb',rfl⟩:=hel;refine⟨.int .u8 b.toNat,DJ,rfl,fun j u hu=> ?_⟩;have hk:=(Ae.1 hb').1
   have hj:j=0:=by
    have:=(Array.getElem?_eq_some_iff.1 hu).1;simp[Value.cells]at this;exact this
   subst hj;simp only[Value.cells]at hu;have hu':Value.int .u8 b.toNat=u:=by simpa using hu
   subst hu';rw[Dz]
   have hheap:∃fz,(((w.drew).alloc (.cells (elems++Array.replicate (cap-s.length) (.int .u8 0)) e)).freeze ⟨w.heap.size,cap,none⟩ 1).heap[w.heap.size]? =some (.cells (elems++Array.replicate (cap-s.length) (.int .u8 0)) e fz):=by
    have:=F9 w.drew (.cells (elems++Array.replicate (cap-s.length) (.int .u8 0)) e);have hw:w.drew.heap.size=w.heap.size:=rfl;rw[hw]at this;refine⟨(cap,cap+1), ?_⟩;unfold World.freeze;rw[if_neg (by omega)];simp only[Array.getElem?_modify,this,if_true,Option.map_some];rfl
   obtain⟨fz,hheap⟩:=hheap;rw[cell_of_row _ _ _ _ _ _ hheap];have:0+((0+k)*1+0)=k:=by omega
   rw[this,Array.getElem?_append_left (by simp[elems];exact hk)];simp[elems,hb']
 ·split at hc<;>(try cases hc;done);simp only[Aa]at hc;obtain⟨_,_,rfl⟩:=hc;cases hcls
end
section
variable {P:Program} {w:World} {M:MM} {z:Cz} {ob:Nat→Ob} {T:List Nat}
theorem DH{id:Nat}:Cc T ob id≠ .none↔T.contains id=true∧ob id≠ .none:=by
 unfold Cc
 cases h:T.contains id with
 |false=>simp
 |true=>simp only[if_true,true_and];cases ob id<;>simp[Ln]
theorem Ar.cut{s:SV}{v:Value}(h:Ar w M z ob s v):Ar w M z (Cc T ob) (FL T s) v:=by
 unfold FL
 cases s<;>simp only[SV.ref]<;>first
  |exact h
  |trivial
  |(split
    ·rename_i hT;exact⟨DH.2 ⟨hT,h.1⟩,h.2⟩
    ·trivial)
theorem Av.cut:∀{cs:List SV} {vs:List Value},Av w M z ob cs vs→Av w M z (Cc T ob) (cs.map (FL T)) vs
 | [],_,h=>h
 |c::cs,vs,h=>by
  obtain⟨v,vs',e,h1,h2⟩:=h;exact⟨v,vs',e,Ar.cut h1,Av.cut h2⟩
theorem Ba.cut{B id:Nat}{v:Value}:∀{o:Ob},Ba P w M B z ob id v o→Ba P w M B z (Cc T ob) id v (Ln T o)
 | .none,_=>trivial
 | .box cs,h=>by
  obtain⟨g,ty,vs,e,hh,hs⟩:=h;exact⟨g,ty,vs,e,hh,Av.cut hs⟩
 | .arr _ _ _,h=>h
 | .map _ _ _ _ _,h=>h
 | .siter _ _,h=>h
 | .buf _ _,h=>h
end
section
variable {P:Program} {E:Env} {w0:WL} {M0:MM} {n:Nat} {st:St} {a:Act} {w w':World} {z:Cz}
theorem PE{T:List Nat}{g:Nat}(h:own z (Cc T st.ob) g):own z st.ob g:=by
 obtain⟨id,h1,h2⟩:=h;exact⟨id,(DH.1 h1).2,h2⟩
theorem SR.lies{G:Nat→List CV}(h:SR P G w0 M0 n st a w z)(T:List Nat):Hk P w (Am M0 z st.ob) z T (Cc T st.ob) where
 ob:=fun id=>by
  have:=Ba.cut (T:=T) (h.ob id);show Ba P w _ 0 z _ id _ (Cc T st.ob id);unfold Cc;split
  ·exact this
  ·trivial
 lo:=fun id g h1 h2=>⟨(h.lo id g (DH.1 h1).2 h2).2,.inr ⟨id,(DH.1 h1).2,h2⟩⟩
 apart:=fun i j g hij h1 h2=>h.apart i j g hij (DH.1 h1).2 (DH.1 h2).2
 told:=fun N cs hN hc=>by
  unfold Cc at hc;split at hc
  ·cases hob:st.ob N<;>rw[hob]at hc<;>cases hc;exact h.nam.told N _ hN hob
  ·cases hc
 only:=fun id h1=>(DH.1 h1).1
 al:=rfl
theorem SR.turned{G:Nat→List CV}(h:SR P G w0 M0 n st a w z){T:List Nat}{H':Nat→Ob}{z':Cz}(ho:w'.os=w.os)(ht:w'.tape=w.tape)(hop:w'.output=w.output)(hsz:w.heap.size≤w'.heap.size)
  (hb:∀g,g<w.heap.size→¬own z (Cc T st.ob) g→w'.heap[g]? =w.heap[g]?) (hL:Hk P w' (Am (Am M0 z st.ob) z' H') z' T H')
  (hlo:∀id g,H' id≠ .none→blk (z'.σ id)=some g→(Cc T st.ob id≠ .none∧blk (z.σ id)=some g)∨w.heap.size≤g) (hal:z'.al=z.al):
  ∃z2,SR P G w0 M0 n (BY T H' st) a w' z2∧∀{c:CV} {v:Value},RelC w' (Am (Am M0 z st.ob) z' H') c v→RelC w' (Am M0 z2 (BY T H' st).ob) c v:=by
 let z2:Cz:={σ:=fun id=>if T.contains id=true then z'.σ id else z.σ id,β:=fun id=>if T.contains id=true then z'.β id else z.β id,al:=z.al};have σT:∀id,T.contains id=true→z2.σ id=z'.σ id:=fun id hT=>by show(if _ then _ else _)=_;rw[if_pos hT]
 have σN:∀id,¬T.contains id=true→z2.σ id=z.σ id:=fun id hT=>by show(if _ then _ else _)=_;rw[if_neg hT]
 have βN:∀id,¬T.contains id=true→z2.β id=z.β id:=fun id hT=>by show(if _ then _ else _)=_;rw[if_neg hT]
 have βT:∀id,T.contains id=true→z2.β id=z'.β id:=fun id hT=>by show(if _ then _ else _)=_;rw[if_pos hT]
 have obT:∀id,T.contains id=true→(BY T H' st).ob id=H' id:=fun id hT=>by show(if _ then _ else _)=_;rw[if_pos hT]
 have obN:∀id,¬T.contains id=true→(BY T H' st).ob id=BX T (st.ob id):=fun id hT=>by show(if _ then _ else _)=_;rw[if_neg hT]
 have liveN:∀id,¬T.contains id=true→((BY T H' st).ob id≠ .none↔st.ob id≠ .none):=fun id hT=>by rw[obN id hT];exact not_congr OR
 have hless:∀g,Am M0 z2 (BY T H' st).ob g→Am (Am M0 z st.ob) z' H' g:=fun g hg=>by
  rcases hg with hg|⟨id,h1,h2⟩
  ·exact .inl (.inl hg)
  ·by_cases hT:T.contains id=true
   ·rw[obT id hT]at h1;rw[σT id hT]at h2;exact .inr ⟨id,h1,h2⟩
   ·rw[σN id hT]at h2;exact .inl (.inr ⟨id,(liveN id hT).1 h1,h2⟩)
 have hless2:∀g,g<w.heap.size→Am M0 z2 (BY T H' st).ob g→Am M0 z st.ob g:=fun g hlt hg=>by
  rcases hless g hg with hg|⟨id,h1,h2⟩
  ·exact hg
  ·rcases hlo id g h1 h2 with⟨h3,h4⟩|h3
   ·exact .inr ⟨id,(DH.1 h3).2,h4⟩
   ·omega
 have hk:Bp w (Am M0 z st.ob) w' (Am M0 z2 (BY T H' st).ob):=⟨hsz,fun g hlt hm=>hb g hlt fun ho=>hm (.inr (PE ho)),hless2,rfl⟩;have hk':Bp w' (Am (Am M0 z st.ob) z' H') w' (Am M0 z2 (BY T H' st).ob):=⟨Nat.le_refl _,fun _ _ _=>rfl,fun g _ hg=>hless g hg,hal.symm⟩
 have hs:∀{s:SV} {v:Value},Ar w (Am M0 z st.ob) z st.ob s v→Ar w' (Am M0 z2 (BY T H' st).ob) z2 (BY T H' st).ob (Au T s) v:=by
  intro s v hv
  cases hr:s.ref with
  |none=>
   cases s<;>simp[SV.ref]at hr
   ·exact RelC.keep hk _ _ hv
   ·trivial
  |some i=>
   by_cases hi:T.contains i=true
   ·have:Au T s=.undef:=by cases s<;>simp_all[SV.ref,Au]
    rw[this];trivial
   ·have e:Au T s=s:=by cases s<;>simp_all[SV.ref,Au]
    rw[e];refine Ar.keep hk ⟨fun j hj h1=> ?_,fun j hj h1=> ?_,fun j hj h1 k b hb=> ?_⟩ hv;all_goals(rw[hr]at hj;cases hj)
    ·exact(liveN i hi).2 h1
    ·exact σN i hi
    ·rw[βN i hi];exact hb
 have hss:∀(cs:List SV) vs,Av w (Am M0 z st.ob) z st.ob cs vs→Av w' (Am M0 z2 (BY T H' st).ob) z2 (BY T H' st).ob (cs.map (Au T)) vs:=by
  intro cs
  induction cs with
  |nil=>intro vs hh;exact hh
  |cons c cs ih=>
   intro vs hh;obtain⟨v,vs',e,h1,h2⟩:=hh;exact⟨v,vs',e,hs h1,ih vs' h2⟩
 have hblk:∀id g,¬T.contains id=true→st.ob id≠ .none→blk (z.σ id)=some g→w'.heap[g]? =w.heap[g]? :=fun id g hT hl hg=>by
  refine hb g (h.lo id g hl hg).2 fun⟨i,h1,h2⟩=> ?_;have:=DH.1 h1;exact h.apart i id g (fun e=>hT (e▸this.1)) this.2 hl h2 hg
 refine⟨z2,⟨h.size,h.defers,⟨ho.trans h.below.os,ht.trans h.below.tape,hop.trans h.below.output,Nat.le_trans h.below.size hsz,fun k hk hL=> ?_⟩,h.outer, ?_,h.glob,fun i=>hs (h.fr i),fun id=> ?_,fun id g h1 h2=> ?_,fun i j g hij h1 h2 h3 h4=> ?_⟩,fun hc=>RelC.keep hk' _ _ hc⟩
 ·rw[hb k (Nat.lt_of_lt_of_le hk h.below.size) fun ho=> ?_]
  ·exact h.below.block k hk hL
  ·obtain⟨id,h1,h2⟩:=PE ho;exact hL id (h.low h1 h2 hk)
 ·refine⟨h.nam.lent,fun N cs hN hc=> ?_,h.nam.names,h.nam.low⟩;by_cases hT:T.contains N=true
  ·rw[obT N hT]at hc;rw[σT N hT,hL.told N cs hN hc,hal]
  ·rw[obN N hT]at hc;rw[σN N hT];cases hob:st.ob N<;>rw[hob]at hc<;>cases hc;exact h.nam.told N _ hN hob
 ·by_cases hT:T.contains id=true
  ·rw[obT id hT,σT id hT];refine Ba.keep hk' (fun _ _=>rfl) (fun cs _ s _=>⟨fun j hj h1=> ?_,fun j hj h1=> ?_,fun j hj h1 k b hb=> ?_⟩) (fun k b hh=>by rw[βT id hT]at hh;exact hh) (hL.ob id)
   ·rw[obT j (hL.only j h1)];exact h1
   ·exact σT j (hL.only j h1)
   ·rw[βT j (hL.only j h1)];exact hb
  ·rw[obN id hT,σN id hT];have hoi:=h.ob id
   cases hob:st.ob id with
   |none=>trivial
   |box cs=>
    rw[hob]at hoi;obtain⟨g,ty,vs,e1,e2,e3⟩:=hoi;exact⟨g,ty,vs,e1,(hblk id g hT (by rw[hob];simp) (by rw[e1];rfl)).trans e2,hss cs vs e3⟩
   |_=>
    rw[hob]at hoi;exact Ba.keep hk (fun g hg=>hblk id g hT (by rw[hob];simp) hg) (fun cs hc=>by cases hc) (fun k b hh=>by rw[βN id hT]at hh;exact hh) hoi
 ·by_cases hT:T.contains id=true
  ·rw[obT id hT]at h1;rw[σT id hT]at h2;refine⟨?_,(hL.lo id g h1 h2).1⟩;rcases hlo id g h1 h2 with⟨h3,h4⟩|h3
   ·exact(h.lo id g (DH.1 h3).2 h4).1
   ·exact .inl (Nat.le_trans h.below.size h3)
  ·rw[σN id hT]at h2;have:=h.lo id g ((liveN id hT).1 h1) h2;exact⟨this.1,Nat.lt_of_lt_of_le this.2 hsz⟩
 ·by_cases hi:T.contains i=true
  ·by_cases hj:T.contains j=true
   ·rw[obT i hi]at h1;rw[obT j hj]at h2;rw[σT i hi]at h3;rw[σT j hj]at h4;exact hL.apart i j g hij h1 h2 h3 h4
   ·rw[obT i hi]at h1;rw[σT i hi]at h3;rw[σN j hj]at h4;have hl2:=(liveN j hj).1 h2;rcases hlo i g h1 h3 with⟨h5,h6⟩|h5
    ·exact h.apart i j g hij (DH.1 h5).2 hl2 h6 h4
    ·have:=(h.lo j g hl2 h4).2;omega
  ·by_cases hj:T.contains j=true
   ·rw[σN i hi]at h3;rw[obT j hj]at h2;rw[σT j hj]at h4;have hl1:=(liveN i hi).1 h1;rcases hlo j g h2 h4 with⟨h5,h6⟩|h5
    ·exact h.apart i j g hij hl1 (DH.1 h5).2 h3 h6
    ·have:=(h.lo i g hl1 h3).2;omega
   ·rw[σN i hi]at h3;rw[σN j hj]at h4;exact h.apart i j g hij ((liveN i hi).1 h1) ((liveN j hj).1 h2) h3 h4
theorem SK(hE:EOk P E)(h:SR P E.G w0 M0 n st a w z){d:Option Nat}(hd:∀j,d=some j→j<n){f:FuncId}{e:Eff}(he:E.ef f=some e){l:List CV}{vs:List Value}(hl:RelL w (Am M0 z st.ob) l vs){r:CV}{H':Nat→Ob}(hr:e.fn l (Cc e.T st.ob)=some (r,H')):
  Calls P f ⟨vs⟩ w fun en w'=>∃v,en=.returned v∧∃z',SR P E.G w0 M0 n ((BY e.T H' st).set d (.c r)) (a.put d v) w' z':=by
 refine((hE.ef f e he).2 l _ r H' hr w (Am M0 z st.ob) z vs h.mutW (OD h) hl (h.lies e.T)).mono fun en w' ⟨v,z',hen,⟨h1,h2,h3,h4,h5⟩,h6,h7,h8,h9⟩=> ?_;obtain⟨z2,hS,hc⟩:=h.turned h1 h2 h3 h4 h5 h6 h7 h8;exact⟨v,hen,z2,hS.put hd (hc h9)⟩
theorem Li{G:Nat→List CV}(h:SR P G w0 M0 n st a w z):∀{xs:List Operand} {sxs:List SO} {l:List CV},Aq An xs=some sxs→Aq (fun x=>closed (so G st.fr x)) sxs=some l→RelL w (Am M0 z st.ob) l (xs.map a.eval)
 | [],sxs,l,h1,h2=>by
  simp only[Aq,Ac]at h1;subst h1;simp only[Aq,Ac]at h2;subst h2;exact RelL.nil
 |x::xs,sxs,l,h1,h2=>by
  simp only[Aq,Ab,Aa]at h1;obtain⟨s,hs,ss,hss,rfl⟩:=h1;simp only[Aq,Ab,Aa]at h2;obtain⟨c,hc,cs,hcs,rfl⟩:=h2;refine RelL.cons ?_ (Li h hss hcs);have hr:=h.ctx.opd hs;generalize so G st.fr s=q at hr hc;cases q<;>(try cases hc;done);cases hc;exact hr
end
section
variable {P:Program} {E:Env} {w0:WL} {M0:MM} {n:Nat} {st:St} {a:Act} {w w':World} {z:Cz}
theorem RD{o:Oper}{sop:SOp}(hc:CB P o=some sop)(hcls:sop.cls=.call):∃c,o.op=.call c∧
  ((∃f l,c.callee=.value (.func f)∧Bm P f=true∧Aq An c.args.toList=some l∧sop=.call f l)∨
   (∃t l,c.callee=.value (.tmp t)∧Aq An c.args.toList=some l∧sop=.callv (.t t) l)):=by
 unfold CB at hc
 split at hc<;>rename_i ho<;>first
  |(cases hc;done)
  |(exfalso;have:=H5 hc;rw[hcls]at this;cases this;done)
  |(exfalso;have:=IY hc;rw[hcls]at this;rcases this with h'|h'<;>cases h')
  |(unfold E2 at hc
    refine⟨_,ho, ?_⟩
    split at hc<;>first
     |(cases hc;done)
     |(rename_i f hcal
       split at hc
       ·rename_i hb;rcases EV hc with⟨l,hl,rfl⟩|⟨_,_,_,_,_,_,_,rfl⟩
        ·exact .inl ⟨f,l,hcal,hb,hl,rfl⟩
        ·cases hcls
       ·cases hc)
     |(rename_i t hcal
       simp only[Aa]at hc;obtain⟨l,hl,rfl⟩:=hc
       exact .inr ⟨t,l,hcal,hl,rfl⟩)
     |(exfalso
       (repeat' split at hc)<;>try(rcases EV hc with⟨_,_,rfl⟩|⟨_,_,_,_,_,_,_,rfl⟩<;>(cases hcls;done))
       all_goals simp only[Ab,Aa,Ad,Ac,reduceCtorEq]at hc
       all_goals(repeat (first|(subst hc;cases hcls;done)|(obtain⟨_,hc⟩:=hc)))
       done))
  |(exfalso
    (repeat' split at hc)<;>simp only[Ab,Aa,Option.ite_none_left_eq_some,Ad,Ac,Prod.exists,reduceCtorEq]at hc
    all_goals(repeat (first|(subst hc;cases hcls;done)|(obtain⟨_,hc⟩:=hc)))
    done)
theorem Sh{o:Oper}{sop:SOp}(hc:CB P o=some sop)(hcls:sop.cls=.copy):∃c f x y sx sy,o.op=.call c∧c.callee=.value (.func f)∧Bm P f=true∧c.args.toList= [x,y]∧An x=some sx∧An y=some sy∧sop=.mcopy f sx sy:=by
 unfold CB at hc
 split at hc<;>rename_i ho<;>first
  |(cases hc;done)
  |(exfalso;have:=H5 hc;rw[hcls]at this;cases this;done)
  |(exfalso;have:=IY hc;rw[hcls]at this;rcases this with h'|h'<;>cases h')
  |(unfold E2 at hc
    split at hc<;>first
     |(cases hc;done)
     |(rename_i f hcal
       split at hc
       ·rename_i hb;rcases EV hc with⟨l,hl,rfl⟩|⟨x,y,a,b,h1,h2,h3,rfl⟩
        ·cases hcls
        ·exact⟨_,f,x,y,a,b,ho,hcal,hb,h1,h2,h3,rfl⟩
       ·cases hc)
     |(exfalso
       (repeat' split at hc)<;>try(rcases EV hc with⟨_,_,rfl⟩|⟨_,_,_,_,_,_,_,rfl⟩<;>(cases hcls;done))
       all_goals simp only[Ab,Aa,Ad,Ac,reduceCtorEq]at hc
       all_goals(repeat (first|(subst hc;cases hcls;done)|(obtain⟨_,hc⟩:=hc)))
       done))
  |(exfalso
    (repeat' split at hc)<;>simp only[Ab,Aa,Option.ite_none_left_eq_some,Ad,Ac,Prod.exists,reduceCtorEq]at hc
    all_goals(repeat (first|(subst hc;cases hcls;done)|(obtain⟨_,hc⟩:=hc)))
    done)
theorem V3{M:MM}{c:CV}{v:Value}(h:Gf c=true)(hr:RelC w M c v):∃s:List UInt8,v=.string ⟨⟨s⟩⟩∧s.length≤9223372036854775807:=by
 cases c<;>simp[Gf]at h;unfold RelC at hr;exact⟨_,hr,h⟩
theorem V2{c:CV}(h:Gf c=true):Az .str c=true:=by
 cases c<;>simp[Gf]at h;rfl
theorem MF{f:FuncId}(hb:Bm P f=true)(args:Array Value):(callFunc f args).run P w=.ok (.enter f args) w:=by
 unfold Bm at hb
 cases hf:P.funcs[f]? with
 |none=>rw[hf]at hb;cases hb
 |some fn=>
  rw[hf]at hb;simp only[Af,Bool.not_eq_true',Option.isSome_iff_exists]at hb;obtain⟨⟨b,hb⟩,hn⟩:=hb;have hn':¬fn.name= "runtime.NumGoroutine" :=by simpa using hn
  simp[callFunc,hf,hn',hb]
theorem NJ{rd:Nat→Ob}{ρ:SO→SV}{d:Option Nat}{f:FuncId}{args:List SO}{caps:List CV}{st':St}(h:D1 E rd ρ st d f args caps=some st'):
  ∃l r,Aq (fun x=>BU rd (ρ x)) args=some l∧E.fn f (l++caps)=some r∧((args.all fun x=>isC (ρ x))=true∨r.memless=true)∧DL st d r=some st':=by
 simp only[D1,Ab,Ad,Aj]at h;obtain⟨l,hl,r,hr,hc,hs⟩:=h;exact⟨l,r,hl,hr,hc,hs⟩
theorem O4(hE:EOk P E)(h:SR P E.G w0 M0 n st a w z){rd:Nat→Ob}(hrd:∀id,rd id=.none∨rd id=st.ob id){o:Oper}{sop:SOp}(hc:CB P o=some sop)(hd:∀j,o.dst=some j→j<n)(hm:Ig sop=true→o.dst=none){st':St}
  (hv:AB E rd st o.dst sop=some st') {K:Act→World→Prop} {Q:Exit→Act→World→Prop} (hK:∀a' w' z',SR P E.G w0 M0 n st' a' w' z'→K a' w'):o.wp P a w K Q:=by
 unfold Oper.wp;unfold AB at hv
 cases hcls:sop.cls with
 |val=>
  simp only[hcls,Aa]at hv;obtain⟨sv,hv,rfl⟩:=hv;obtain⟨v,h1,h2⟩:=Wq h.ctx hrd hc hcls hv;rw[h1];exact hK _ _ _ (h.put hd h2)
 |grow=>
  simp only[hcls,Aa]at hv;obtain⟨sv,hv,rfl⟩:=hv;obtain⟨v,w',h1,h2,h3⟩:=T8 h hc hcls hv;rw[h1];exact hK _ _ _ ((h.grow h2).put hd h3)
 |new=>
  simp only[hcls,Ab,Prod.exists]at hv;obtain⟨sv,ob,hv,ha⟩:=hv;unfold BA at ha
  cases hod:o.dst with
  |none=>rw[hod]at ha;cases ha
  |some d=>
   rw[hod]at ha hv;simp only[Option.getD_some]at ha hv;split at ha<;>(try cases ha;done);rename_i hn;simp only[Ac]at ha;subst ha;obtain⟨v,w',z',h1,h2⟩:=Un h hc hcls hv (hd d hod) hn;rw[h1];refine hK _ _ z' ?_;rw[hod];exact h2
 |eff=>
  simp only[hcls]at hv;rcases SI h hc hcls hd hm hv with⟨v,w',z',h1,h2⟩|⟨w',z',h1,h2⟩
  ·rw[h1];exact hK _ _ _ h2
  ·rw[h1];exact hK _ _ _ h2
 |copy=>
  simp only[hcls]at hv;obtain⟨c,f,x,y,sx,sy,ho,hcal,hb,hargs,hx,hy,rfl⟩:=Sh hc hcls;replace hv:Gz E (so E.G st.fr) st o.dst f sx sy=some st':=hv;unfold Gz at hv;split at hv<;>(try cases hv;done);rename_i hcp;have hr:=h.ctx.opd hx;have hr2:=h.ctx.opd hy;generalize so E.G st.fr sx=q at hr hv;generalize so E.G st.fr sy=q2 at hr2 hv;cases q<;>(try cases hv;done);cases q2<;>(try cases hv;done);rename_i id cv;cases cv<;>(try cases hv;done);rename_i nl ks vs;dsimp only at hv;split at hv<;>(try cases hv;done);rename_i mt zc hob;split at hv<;>(try cases hv;done);rename_i hg;obtain⟨hsk,hlen⟩:=hg;cases hv;obtain⟨hlive,e1⟩:=hr;obtain⟨hmt,ks',vs',r,ens,clk,hmp,e2,hh,hB⟩:=GH h hob;have hks':ks'= []:=List.eq_nil_of_length_eq_zero hmp.ks.length_eq;subst hks'
  have hens:ens= []:=by
   have:=hB.1;unfold RelL at this;simpa using this
  subst hens;have hrm:Am M0 z st.ob r:=.inr ⟨id,hlive,by rw[e2];rfl⟩;have hskA:∀k∈ks,Gf k=true:=List.all_eq_true.1 hsk
  have src:∃(ps:Option Nat) (es es':List MapEntry),a.eval y=.map ps∧((ps=none∧es= [])∨∃bs clk',ps=some bs∧bs≠r∧w.heap[bs]? =some (.map ⟨es⟩ clk')∧Ens es clk')∧es'.Perm es∧
    RelL w (Am M0 z st.ob) ks (es'.map (·.key))∧RelL w (Am M0 z st.ob) vs (es'.map (·.val)):=by
   unfold Ar RelC at hr2;obtain⟨rr,g1,_,_,g4,g5⟩:=hr2
   cases rr with
   |none=>
    obtain⟨rfl,rfl⟩:=g4 rfl;exact⟨none,[],[],g1,.inl ⟨rfl,rfl⟩,.refl _,RelL.nil,RelL.nil⟩
   |some bs=>
    obtain⟨g6,es,es',clk',g7,g8,g9,g10,g11⟩:=g5 bs rfl;exact⟨some bs,es,es',g1,.inr ⟨bs,clk',rfl,fun e=>g6 (e▸hrm),g7,g8⟩,g9,g10,g11⟩
  obtain⟨ps,es,es',g1,g2,g3,g4,g5⟩:=src
  have hkey:∀en:MapEntry,en∈es→∃s:List UInt8,en.key=.string ⟨⟨s⟩⟩∧s.length≤9223372036854775807:=by
   intro en hen;obtain⟨i,hi⟩:=List.mem_iff_getElem?.1 (g3.mem_iff.2 hen);obtain⟨k,k1,k2⟩:=g4.getR (i:=i) (v:=en.key) (by rw[List.getElem?_map,hi];rfl);exact V3 (hskA k (List.mem_of_getElem? k1)) k2
  have hlen':es.length≤9223372036854775807:=by
   have:=g4.length;rw[List.length_map,g3.length_eq]at this;omega
  have hrun:(execOp a.eval o).run P w=(callFunc f ⟨[.map (some r),.map ps]⟩).run P w:=by
   have e:(⟨c.args.toList.map a.eval⟩:Array Value)=c.args.map a.eval:=Array.toList_inj.1 (by simp)
   have e':(⟨[.map (some r),.map ps]⟩:Array Value)=c.args.map a.eval:=by
    rw[←e,hargs];simp only[List.map_cons,List.map_nil,g1,e1,e2]
   rw[e'];simp[execOp,ho,resolve,hcal,Act.eval,Deferred.ofValue,invoke]
  rw[hrun,MF hb];refine((hE.cp f hcp).2 w r clk ps es hh g2 hkey hlen').mono fun e w' ⟨he,hgr,ens2,clk2,k1,k2,k3⟩=> ?_;subst he
  have k4:((ens2.map fun e=>({key:=e.key,val:=e.val,born:=0}:MapEntry))).Perm (es'.map fun e=>({key:=e.key,val:=e.val,born:=0}:MapEntry)):=by
   have q1:=k3.map (fun p:Value×Value=>({key:=p.1,val:=p.2,born:=0}:MapEntry));simp only[List.map_map]at q1;exact q1.trans (g3.symm.map _)
  refine hK _ _ _ (SR.put (SR.turn h hlive (o':=.map mt .str zc ks vs) (by simp) (by rw[e2];exact hgr) (β':=z.β id) (fun _ _ hh=>hh) (fun _ hh=>by cases hh) fun hkp hz=> ?_) hd ?_)
  ·have r1:=RelL.keep hkp _ _ g4;have r2:=RelL.keep hkp _ _ g5;obtain⟨ks2,vs2,m1,m2,m3⟩:=Qa (ens':=es'.map fun e=>({key:=e.key,val:=e.val,born:=0}:MapEntry)) k4.symm (by simpa[List.map_map,Function.comp_def]using r1) (by simpa[List.map_map,Function.comp_def]using r2);simp only[List.map_map,Function.comp_def]at m2 m3;have hcf:∀k∈ks2,Az .str k=true:=fun k hk=>V2 (hskA k (m1.ks.mem_iff.1 hk));refine⟨hmt,ks2,vs2,r,ens2,clk2,m1,e2,k1,m2,m3,hcf,Mr hcf m2 k2.1,k2.2.1,k2.2.2,fun k b hb=> ?_⟩;simp only[Bl]at hb;obtain⟨i,en,q1,_⟩:=hB.2.2.2.2.2.2 k b hb;simp at q1
  ·show RelC _ _ (.tup []) _;unfold RelC;exact⟨[],rfl,RelL.nil⟩
 |call=>
  obtain⟨c,ho,hcase⟩:=RD hc hcls
  have fin:∀{f:FuncId} {vs:List Value} {l:List CV} {r:Res} {b:Bool},Bm P f=true→(execOp a.eval o).run P w=(callFunc f ⟨vs⟩).run P w→E.fn f l=some r→RelL w (mm0 w0 M0 z) l vs→(b=false→RelL w (Am M0 z st.ob) l vs)→(b=true→r.memless=true)→DL st o.dst r=some st'→
    o.upon P a K Q ((execOp a.eval o).run P w):=by
   intro f vs l r b hb hrun hf h1 h2 h3 h4;rw[hrun,MF hb];refine(RE hE h hd hf h1 h2 h3 h4).mono fun e w' ⟨v,he,z',hS⟩=> ?_;subst he;exact hK _ _ _ hS
  have Lz:∀{f:FuncId} {e:Eff} {vs:List Value} {l:List CV} {r:CV} {H':Nat→Ob},(execOp a.eval o).run P w=(callFunc f ⟨vs⟩).run P w→E.ef f=some e→RelL w (Am M0 z st.ob) l vs→e.fn l (Cc e.T st.ob)=some (r,H')→(BY e.T H' st).set o.dst (.c r)=st'→
    o.upon P a K Q ((execOp a.eval o).run P w):=by
   intro f e vs l r H' hrun he hl hr hs;subst hs;rw[hrun,MF (hE.ef f e he).1];refine(SK hE h hd he hl hr).mono fun e w' ⟨v,he,z',hS⟩=> ?_;subst he;exact hK _ _ _ hS
  rcases hcase with⟨f,args,hcal,hb,hargs,rfl⟩|⟨t,args,hcal,hargs,rfl⟩
  ·simp only[hcls]at hv
   have hrun:(execOp a.eval o).run P w=(callFunc f ⟨c.args.toList.map a.eval⟩).run P w:=by
    have e:(⟨c.args.toList.map a.eval⟩:Array Value)=c.args.map a.eval:=Array.toList_inj.1 (by simp);rw[e];simp[execOp,ho,resolve,hcal,Act.eval,Deferred.ofValue,invoke]
   cases hef:E.ef f with
   |some e=>
    simp only[hef,Dl,Ab,Ac]at hv;obtain⟨l,hl,p,hp,hs⟩:=hv;rw[List.append_nil]at hp;exact Lz hrun hef (Li h hargs hl) hp hs
   |none=>
    simp only[hef]at hv;obtain⟨l,r,hl,hf,hor,hs⟩:=NJ hv;obtain⟨g1,g2⟩:=Lj h hrd hargs hl;rw[List.append_nil]at hf
    cases hall:args.all (fun x=>isC (so E.G st.fr x))with
    |true=>exact fin (b:=false) hb hrun hf g1 (fun _=>g2 hall) (fun hh=>by cases hh) hs
    |false=>
     rw[hall]at hor;exact fin (b:=true) hb hrun hf g1 (fun hh=>by cases hh) (fun _=>by simpa using hor) hs
  ·simp only[hcls]at hv;have hr:=h.fr t;have hso:so E.G st.fr (.t t)=st.fr t:=rfl;rw[hso]at hv;split at hv<;>(try cases hv;done);rename_i f caps hfr;rw[hfr]at hr;unfold Ar RelC at hr;obtain⟨cvs,e1,hcaps⟩:=hr
   have hrun:(execOp a.eval o).run P w=(callFunc f ⟨c.args.toList.map a.eval++cvs⟩).run P w:=by
    have e:(⟨c.args.toList.map a.eval++cvs⟩:Array Value)=c.args.map a.eval++⟨cvs⟩:=Array.toList_inj.1 (by simp);rw[e];simp[execOp,ho,resolve,hcal,Act.eval,e1,Deferred.ofValue,invoke]
   cases hef:E.ef f with
   |some e=>
    simp only[hef,Dl,Ab,Ac]at hv;obtain⟨l,hl,p,hp,hs⟩:=hv;exact Lz hrun hef ((Li h hargs hl).append hcaps) hp hs
   |none=>
    simp only[hef]at hv;obtain⟨l,r,hl,hf,hor,hs⟩:=NJ hv;obtain⟨g1,g2⟩:=Lj h hrd hargs hl;have hb:=(hE.fn f _ r hf).1;have hk:Bp w (Am M0 z st.ob) w (mm0 w0 M0 z):=⟨Nat.le_refl _,fun _ _ _=>rfl,fun g _ hg=>.inl hg.1,rfl⟩
    cases hall:args.all (fun x=>isC (so E.G st.fr x))with
    |true=>exact fin (b:=false) hb hrun hf (g1.append (RelL.keep hk _ _ hcaps)) (fun _=>(g2 hall).append hcaps) (fun hh=>by cases hh) hs
    |false=>
     rw[hall]at hor;exact fin (b:=true) hb hrun hf (g1.append (RelL.keep hk _ _ hcaps)) (fun hh=>by cases hh) (fun _=>by simpa using hor) hs
def DR(P:Program)(n:Nat)(ops:Array Oper)(o:Oper):Option SL:=
 (CB P o).bind fun sop=>
  if(o.dst.all fun d=>decide (d<n))&&(!(Ig sop)||o.dst.isNone)then
   match o.guard with
   |none=>some ⟨o.dst,sop,none⟩
   |some (j,want)=>((ops[j]?).bind (·.dst)).map fun t=>⟨o.dst,sop,some (t,want)⟩
  else none
theorem Sd{ops:Array Oper}{o:Oper}{l:SL}(h:DR P n ops o=some l):CB P o=some l.op∧l.dst=o.dst∧(∀j,o.dst=some j→j<n)∧(Ig l.op=true→o.dst=none)∧
  ((o.guard=none∧l.guard=none)∨∃j t want,o.guard=some (j,want)∧(ops[j]?).bind (·.dst)=some t∧l.guard=some (t,want)):=by
 simp only[DR,Ab,Ad,Af,Aj,Bool.not_eq_true']at h;obtain⟨sop,hs,⟨h1,h2⟩,h3⟩:=h;have hd:∀j,o.dst=some j→j<n:=fun j hj=>by rw[hj]at h1;simpa using h1
 have hm:Ig sop=true→o.dst=none:=fun hm=>by
  rcases h2 with h2|h2
  ·rw[hm]at h2;cases h2
  ·simpa using h2
 split at h3
 ·rename_i hg;simp only[Ac]at h3;subst h3;exact⟨hs,rfl,hd,hm,.inl ⟨hg,rfl⟩⟩
 ·rename_i j want hg;simp only[Aa]at h3;obtain⟨t,ht,rfl⟩:=h3;exact⟨hs,rfl,hd,hm,.inr ⟨j,t,want,hg,ht,rfl⟩⟩
theorem Q4{G:Nat→List CV}(h:SR P G w0 M0 n st a w z){d:Option Nat}(hd:∀j,d=some j→j<n):SR P G w0 M0 n (st.set d B8) (a.put d undef) w z:=by
 refine h.put hd ?_;show RelC _ _ (.tup []) undef;unfold RelC;exact⟨[],rfl,RelL.nil⟩
theorem O2(hE:EOk P E)(h:SR P E.G w0 M0 n st a w z){rd:Nat→Ob}(hrd:∀id,rd id=.none∨rd id=st.ob id){ops:Array Oper}{i:Nat}{o:Oper}(ho:ops[i]? =some o){l:SL}(hc:DR P n ops o=some l){st':St}(hv:B6 E rd l st=some st')
  {rest:List Nat} {Q:Exit→Act→World→Prop} (hK:∀a' w' z',SR P E.G w0 M0 n st' a' w' z'→wpOps P ops Q rest a' w'):wpOps P ops Q (i::rest) a w:=by
 obtain⟨h1,h2,h3,h4,h5⟩:=Sd hc;simp only[wpOps,ho];unfold B6 at hv;rcases h5 with⟨hg,hlg⟩|⟨j,t,want,hg,ht,hlg⟩
 ·rw[hlg]at hv;simp only at hv;rw[if_pos (by simp[Region.wanted,hg])];rw[h2]at hv;exact .inl (O4 hE h hrd h1 h3 h4 hv (fun a' w' z' hS=>hK a' w' z' hS))
 ·rw[hlg]at hv;simp only at hv;have hr:=h.fr t
  have hy:∀b,st.fr t=.c (.bool b)→yielded ops a.tmps j=some b:=by
   intro b hb;rw[hb]at hr;have e:=CO (w:=w) (M:=Am M0 z st.ob) hr
   have hlt:t<a.tmps.size:=by
    rcases Nat.lt_or_ge t a.tmps.size with hh|hh
    ·exact hh
    ·simp[Array.getD,Nat.not_lt.2 hh,undef]at e
   have e':a.tmps[t]? =some (.bool b):=by
    rw[Array.getElem?_eq_getElem hlt];simpa[Array.getD,hlt]using e
   simp only[yielded,ht,Option.bind_some,e']
  have hskip:st.fr t=.c (.tup [])→yielded ops a.tmps j=none:=by
   intro hb;rw[hb]at hr;unfold Ar RelC at hr;obtain⟨vs,e,_⟩:=hr;simp only[yielded,ht,Option.bind_some]
   cases ht':a.tmps[t]? with
   |none=>rfl
   |some v=>
    have:a.tmps.getD t undef=v:=by rw[Array.getD_eq_getD_getElem?,ht'];rfl
    rw[this]at e;rw[e]
  split at hv
  ·rename_i b hb;have hyb:=hy b hb;split at hv
   ·rename_i hbw;rw[if_pos (by simp[Region.wanted,hg,hyb,hbw])];rw[h2]at hv;exact .inl (O4 hE h hrd h1 h3 h4 hv (fun a' w' z' hS=>hK a' w' z' hS))
   ·rename_i hbw;rw[if_neg (by simp[Region.wanted,hg,hyb,hbw])];simp only[Ac]at hv;subst hv;rw[h2]at hK;exact hK _ _ _ (Q4 h h3)
  ·rename_i hb;rw[if_neg (by simp[Region.wanted,hg,hskip hb])];simp only[Ac]at hv;subst hv;rw[h2]at hK;exact hK _ _ _ (Q4 h h3)
  ·cases hv
theorem O1(hE:EOk P E)(h:SR P E.G w0 M0 n st a w z){D:Option (List Nat)}{ops:Array Oper}{i:Nat}{o:Oper}(ho:ops[i]? =some o){l:SL}(hc:DR P n ops o=some l){st':St}(hv:AS E D l st=some st')
  {rest:List Nat} {Q:Exit→Act→World→Prop} (hK:∀a' w' z',SR P E.G w0 M0 n st' a' w' z'→wpOps P ops Q rest a' w'):wpOps P ops Q (i::rest) a w:=by
 refine O2 (hE.at D) (EU▸h) (rd:=AQ (D.map (hid l.op)) st.ob) (fun id=> ?_) ho hc hv (fun a' w' z' hS=>hK a' w' z' (EU▸hS));generalize D.map (hid l.op)=D
 cases D with
 |none=>exact .inr rfl
 |some D=>unfold AQ;simp only;split<;>first|exact .inl rfl|exact .inr rfl
def CY(E:Env)(D:Option (List Nat))(ls:List SL):List Nat→St→Option St
 | [],st=>some st
 |i::is,st=>match ls[i]? with
  |some l=>(AS E D l st).bind (CY E D ls is)
  |none=>none
theorem Jn(hE:EOk P E){D:Option (List Nat)}{ops:Array Oper}{ls:List SL}(hc:Aq (DR P n ops) ops.toList=some ls){Q:Exit→Act→World→Prop}:∀{is:List Nat} {st st':St} {a:Act} {w:World} {z:Cz},SR P E.G w0 M0 n st a w z→
  CY E D ls is st=some st'→(∀a' w' z',SR P E.G w0 M0 n st' a' w' z'→Q .normal a' w')→wpOps P ops Q is a w
 | [],st,st',a,w,z,h,hv,hK=>by
  simp only[CY,Ac]at hv;subst hv;exact hK _ _ _ h
 |i::is,st,st',a,w,z,h,hv,hK=>by
  simp only[CY]at hv;split at hv<;>(try cases hv;done);rename_i l hl;simp only[Ab]at hv;obtain⟨st1,h1,h2⟩:=hv;have hlen:=DO hc;have hi:i<ops.toList.length:=by rw[←hlen];exact(Ae.1 hl).1
  have ho:ops.toList[i]? =some (ops.toList[i]):=Ai hi;obtain⟨l',g1,g2⟩:=IJ hc ho;rw[hl]at g1;simp only[Ac]at g1;subst g1;have ho':ops[i]? =some (ops.toList[i]):=by rw[←Array.getElem?_toList];exact ho
  exact O1 hE h ho' g2 h1 fun a' w' z' hS=>Jn hE hc hS h2 hK
end
def SO.slot:SO→List Nat
 | .t i=> [i]
 |_=> []
def JP:Option SO→List Nat
 |some x=>x.slot
 |none=> []
def SOp.slots:SOp→List Nat
 | .mov x| .un _ x| .cvi _ x| .cvrune x| .cvbs x| .cvid x| .isnil _ _ x| .field _ _ x| .ext x _| .faddr _ x| .load _ x| .len _ x| .box x| .bytes _ x| .siter x| .snext x| .asl _ x=>x.slot
 | .pick c a b=>c.slot++a.slot++b.slot
 | .bin _ x y| .eqs _ _ x y| .beq _ x y| .iaddr _ x y| .aaddr _ _ x y| .sidx x y| .aidx _ _ _ x y| .lookup _ _ _ _ x y| .make _ _ _ _ x y| .store _ x y| .append _ _ _ x y| .mapent _ x y=>x.slot++y.slot
 | .build _ ps=>ps.flatMap fun p=>p.2.2.slot
 | .minmax _ xs| .fnv _ xs| .mksl _ _ xs| .call _ xs=>xs.flatMap SO.slot
 | .callv f xs=>f.slot++xs.flatMap SO.slot
 | .mcopy _ x y=>x.slot++y.slot
 | .sslice x l h| .slice _ x l h=>x.slot++JP l++JP h
 | .alloc _| .mkmap .. => []
 | .entst x y z| .mapupd _ x y z=>x.slot++y.slot++z.slot
def SL.looks(l:SL):List Nat:=l.op.slots++(match l.guard with|some (g,_)=> [g]|none=> [])
def SOp.hard:SOp→Bool
 | .store .. | .append .. | .mapent .. | .entst .. | .mapupd .. | .snext .. | .mcopy .. =>true
 |_=>false
def SOp.calm:SOp→Bool
 | .bin .. | .eqs .. | .beq .. | .un .. | .cvi .. | .mov .. | .ext .. | .minmax .. | .lookup _ _ _ false _ _=>true
 |_=>false
def SOp.entry:SOp→Bool
 | .mapent .. =>true
 |_=>false
def SOp.makes:SOp→Bool
 | .alloc .. | .box .. | .mksl .. | .mkmap .. | .make .. | .siter .. | .call .. | .callv .. =>true
 |_=>false
def SOp.still:SOp→Bool
 | .bin .. | .eqs .. | .beq .. | .un .. | .cvi .. | .mov .. | .ext .. | .minmax .. | .isnil .. | .pick .. =>true
 |_=>false
def SOp.stores:SOp→Bool
 | .store .. =>true
 |_=>false
def SOp.grows:SOp→Bool
 | .append .. =>true
 |_=>false
def SOp.tame:SOp→Bool
 | .load .. | .alloc .. | .mksl .. =>true
 |_=>false
def Fj(D:List Nat)(x y:SL):Bool:=
 (x.dst.all fun d=> !y.looks.contains d&&y.dst !=some d)&&(y.dst.all fun d=> !x.looks.contains d)&&
 ((!x.op.hard&&((!y.op.hard&&(!x.op.makes||x.dst.all fun d=>(hid y.op D).contains d)&&(!y.op.makes||y.dst.all fun d=>(hid x.op D).contains d))||(y.op.entry&&x.op.calm)||(y.op.stores&&x.op.still)))||(x.op.grows&&x.guard.isNone&&y.op.tame&&y.guard.isNone))
def FA(ops:Array Oper):Nat→Nat→Nat→Bool
 |0,_,_=>false
 |k+1,i,j=>match ops[j]? with
  |some o=>o.after.any fun e=>Region.binds .any e&&(e.on==i||(e.on<j&&FA ops k i e.on))
  |none=>false
def Ic(ops:Array Oper)(ms:List Nat)(j:Nat):Nat:=
 match ops[j]? with
 |some o=>o.after.foldl (fun m e=>if Region.binds .any e&&decide (e.on<j)then m|||(1<<<e.on)|||ms.getD e.on 0 else m) 0
 |none=>0
def Dr(ops:Array Oper):Nat→List Nat
 |0=> []
 |n+1=>Dr ops n++ [Ic ops (Dr ops n) n]
theorem JE(ops:Array Oper):∀n,(Dr ops n).length=n
 |0=>rfl
 |n+1=>by simp[Dr,JE ops n]
theorem GI(ops:Array Oper):∀{n j:Nat},j<n→(Dr ops n).getD j 0=Ic ops (Dr ops j) j
 |0,_,h=>by omega
 |n+1,j,h=>by
  show(Dr ops n++ [Ic ops (Dr ops n) n]).getD j 0=_;by_cases hj:j<n
  ·have:=GI ops hj;rw[List.getD_eq_getElem?_getD,List.getElem?_append_left (by rw[JE];exact hj),←List.getD_eq_getElem?_getD];exact this
  ·have e:j=n:=by omega
   subst e;rw[List.getD_eq_getElem?_getD,List.getElem?_append_right (by rw[JE];exact Nat.le_refl _)];simp[JE]
theorem JD(ops:Array Oper):∀{j k i:Nat},j<k→(Ic ops (Dr ops j) j).testBit i=true→FA ops k i j=true:=by
 intro j
 induction j using Nat.strongRecOn with
 |_ j ih=>
  intro k i hk h;obtain⟨k,rfl⟩:∃k',k=k'+1:=⟨k-1,by omega⟩;unfold Ic at h;unfold FA;split at h
  ·rename_i o ho;try simp only[ho]
   rw[←Array.foldl_toList]at h
   have key:∀(l:List Edge) (m:Nat),(l.foldl (fun m e=>if Region.binds .any e&&decide (e.on<j)then m|||(1<<<e.on)|||(Dr ops j).getD e.on 0 else m) m).testBit i=true→
     m.testBit i=true∨∃e∈l,Region.binds .any e=true∧e.on<j∧(e.on=i∨((Dr ops j).getD e.on 0).testBit i=true):=by
    intro l
    induction l with
    |nil=>intro m h;exact .inl h
    |cons e l ihl=>
     intro m h;simp only[List.foldl_cons]at h;rcases ihl _ h with h|⟨e',h1,h2⟩
     ·split at h
      ·rename_i hb;simp only[Af,decide_eq_true_eq]at hb;rw[Nat.testBit_or,Nat.testBit_or,Aj,Aj]at h;rcases h with(h|h)|h
       ·exact .inl h
       ·refine .inr ⟨e,by simp,hb.1,hb.2,.inl ?_⟩;rw[Nat.shiftLeft_eq,Nat.one_mul,Nat.testBit_two_pow]at h;simpa using h
       ·exact .inr ⟨e,by simp,hb.1,hb.2,.inr h⟩
      ·exact .inl h
     ·exact .inr ⟨e',by simp[h1],h2⟩
   rcases key _ _ h with h|⟨e,h1,h2,h3,h4⟩
   ·simp at h
   ·rw[Array.any_eq_true'];refine⟨e,by simpa using h1, ?_⟩;simp only[Af,Aj,beq_iff_eq,decide_eq_true_eq];refine⟨h2, ?_⟩;rcases h4 with h4|h4
    ·exact .inl h4
    ·right;rw[GI ops h3]at h4;exact⟨h3,ih e.on h3 (by omega) h4⟩
  ·simp at h
def F0(E:Env)(rd:Nat→Ob)(ρ:SO→SV)(d:Option Nat)(f:FuncId)(args:List SO)(caps:List CV):Option (SV×Option Ob):=
 (Aq (fun x=>BU rd (ρ x)) args).bind fun l=>(E.fn f (l++caps)).bind fun r=>
  if(args.all fun x=>isC (ρ x))||r.memless then some (match r with| .val v=>(.c v,none)| .new o=>(Kf (d.getD 0) o,some o))else none
def A3(E:Env)(rd:Nat→Ob)(ρ:SO→SV)(d:Option Nat)(op:SOp):Option (SV×Option Ob):=
 match op.cls with
 | .val| .grow=>(Ao rd ρ op).map fun v=>(v,none)
 | .new=>(BE ρ (d.getD 0) op).map fun(v,o)=>(v,some o)
 | .eff| .copy=>none
 | .call=>match op with
  | .call f args=>F0 E rd ρ d f args []
  | .callv f args=>match ρ f with
   | .c (.fn f caps)=>F0 E rd ρ d f args caps
   |_=>none
  |_=>none
def Cp(E:Env)(l:SL)(fr:Nat→SV)(rd:Nat→Ob):Option (SV×Option Ob):=
 match l.guard with
 |none=>A3 E rd (so E.G fr) l.dst l.op
 |some (g,want)=>match fr g with
  | .c (.bool b)=>if b=want then A3 E rd (so E.G fr) l.dst l.op else some (B8,none)
  | .c (.tup [])=>some (B8,none)
  |_=>none
def put(st:St)(d:Option Nat):SV×Option Ob→Option St
 |(v,none)=>some (st.set d v)
 |(v,some o)=>BA st d v o
section
variable {E:Env}
theorem Q5{rd:Nat→Ob}{ρ:SO→SV}{st:St}{d:Option Nat}{f:FuncId}{args:List SO}{caps:List CV}:D1 E rd ρ st d f args caps=(F0 E rd ρ d f args caps).bind (put st d):=by
 unfold D1 F0
 cases Aq (fun x=>BU rd (ρ x)) args with
 |none=>rfl
 |some l=>
  simp only[Option.bind_some]
  cases E.fn f (l++caps)with
  |none=>rfl
  |some r=>
   simp only[Option.bind_some];split
   ·cases r<;>rfl
   ·rfl
theorem Hc{rd:Nat→Ob}{st:St}{d:Option Nat}{op:SOp}(hs:op.hard=false):AB E.still rd st d op=(A3 E rd (so E.G st.fr) d op).bind (put st d):=by
 cases op<;>simp only[SOp.hard,Bool.true_eq_false]at hs<;>simp only[AB,A3,SOp.cls,Vy]<;>first
  |rfl
  |(cases Ao rd (so E.G st.fr) _<;>rfl)
  |(generalize BE (so E.G st.fr) (d.getD 0) _=q;cases q<;>rfl)
  |exact Q5
  |skip
 show(match so E.G st.fr _ with| .c (.fn f caps)=>_|_=>none)=_;generalize so E.G st.fr _=q
 cases q<;>first
  |rfl
  |(rename_i v;cases v<;>first|rfl|exact Q5)
theorem Cq{D:List Nat}{st:St}{l:SL}(hs:l.op.hard=false):AS E (some D) l st=(Cp E l st.fr (AQ (some (hid l.op D)) st.ob)).bind (put st l.dst):=by
 unfold AS Cp;simp only[Option.map_some]
 cases l.guard with
 |none=>exact Hc hs
 |some p=>
  obtain⟨g,want⟩:=p;simp only;generalize st.fr g=q
  cases q with
  |c v=>
   cases v with
   |bool b=>
    simp only;split
    ·exact Hc hs
    ·rfl
   |tup l=>cases l<;>rfl
   |_=>rfl
  |_=>rfl
theorem Fz{G:Nat→List CV}{fr fr':Nat→SV}(x:SO)(h:∀i∈x.slot,fr i=fr' i):so G fr x=so G fr' x:=by
 cases x with
 |t i=>exact h i (by simp[SO.slot])
 |_=>rfl
theorem F8{α β:Type}{f g:α→Option β}:∀(l:List α),(∀x∈l,f x=g x)→Aq f l=Aq g l
 | [],_=>rfl
 |x::l,h=>by
  simp only[Aq,h x (by simp),F8 l (fun y hy=>h y (by simp[hy]))]
theorem KM{α:Type}{f g:α→Bool}:∀(l:List α),(∀x∈l,f x=g x)→l.all f=l.all g
 | [],_=>rfl
 |x::l,h=>by
  simp only[List.all_cons,h x (by simp),KM l (fun y hy=>h y (by simp[hy]))]
theorem JQ{ρ ρ':SO→SV}(o:Option SO)(h:∀x,(∀i∈x.slot,i∈JP o)→ρ x=ρ' x):o.map ρ=o.map ρ':=by
 cases o with
 |none=>rfl
 |some x=>simp[h x (fun i hi=>by simpa[JP]using hi)]
theorem Q6{rd:Nat→Ob}{fr fr':Nat→SV}{d:Option Nat}(op:SOp)(h:∀i∈op.slots,fr i=fr' i):A3 E rd (so E.G fr) d op=A3 E rd (so E.G fr') d op:=by
 have key:∀x:SO,(∀i∈x.slot,i∈op.slots)→so E.G fr x=so E.G fr' x:=fun x hx=>Fz x fun i hi=>h i (hx i hi);generalize so E.G fr=ρ at key⊢;generalize so E.G fr'=ρ' at key⊢
 cases op with
 |mov x=>simp only[A3,SOp.cls,Ao,key x (fun i hi=>by simp[SOp.slots,hi])]
 |pick c x y=>simp only[A3,SOp.cls,Ao,key c (fun i hi=>by simp[SOp.slots,hi]),key x (fun i hi=>by simp[SOp.slots,hi]),key y (fun i hi=>by simp[SOp.slots,hi])]
 |bin op x y=>simp only[A3,SOp.cls,Ao,key x (fun i hi=>by simp[SOp.slots,hi]),key y (fun i hi=>by simp[SOp.slots,hi])]
 |eqs n ts x y=>simp only[A3,SOp.cls,Ao,key x (fun i hi=>by simp[SOp.slots,hi]),key y (fun i hi=>by simp[SOp.slots,hi])]
 |beq n x y=>simp only[A3,SOp.cls,Ao,key x (fun i hi=>by simp[SOp.slots,hi]),key y (fun i hi=>by simp[SOp.slots,hi])]
 |isnil k n x=>simp only[A3,SOp.cls,Ao,key x (fun i hi=>by simp[SOp.slots,hi])]
 |un op x=>simp only[A3,SOp.cls,Ao,key x (fun i hi=>by simp[SOp.slots,hi])]
 |cvi k x=>simp only[A3,SOp.cls,Ao,key x (fun i hi=>by simp[SOp.slots,hi])]
 |cvrune x=>simp only[A3,SOp.cls,Ao,key x (fun i hi=>by simp[SOp.slots,hi])]
 |cvbs x=>simp only[A3,SOp.cls,Ao,key x (fun i hi=>by simp[SOp.slots,hi])]
 |cvid x=>simp only[A3,SOp.cls,Ao,key x (fun i hi=>by simp[SOp.slots,hi])]
 |field o s x=>simp only[A3,SOp.cls,Ao,key x (fun i hi=>by simp[SOp.slots,hi])]
 |ext x j=>simp only[A3,SOp.cls,Ao,key x (fun i hi=>by simp[SOp.slots,hi])]
 |faddr o x=>simp only[A3,SOp.cls,Ao,key x (fun i hi=>by simp[SOp.slots,hi])]
 |iaddr s x y=>simp only[A3,SOp.cls,Ao,key x (fun i hi=>by simp[SOp.slots,hi]),key y (fun i hi=>by simp[SOp.slots,hi])]
 |aaddr l s x y=>simp only[A3,SOp.cls,Ao,key x (fun i hi=>by simp[SOp.slots,hi]),key y (fun i hi=>by simp[SOp.slots,hi])]
 |sidx x y=>simp only[A3,SOp.cls,Ao,key x (fun i hi=>by simp[SOp.slots,hi]),key y (fun i hi=>by simp[SOp.slots,hi])]
 |aidx l s z x y=>simp only[A3,SOp.cls,Ao,key x (fun i hi=>by simp[SOp.slots,hi]),key y (fun i hi=>by simp[SOp.slots,hi])]
 |load s x=>simp only[A3,SOp.cls,Ao,key x (fun i hi=>by simp[SOp.slots,hi])]
 |len k x=>simp only[A3,SOp.cls,Ao,key x (fun i hi=>by simp[SOp.slots,hi])]
 |lookup mt kt z ok x y=>simp only[A3,SOp.cls,Ao,key x (fun i hi=>by simp[SOp.slots,hi]),key y (fun i hi=>by simp[SOp.slots,hi])]
 |alloc z=>rfl
 |box x=>simp only[A3,SOp.cls,BE,key x (fun i hi=>by simp[SOp.slots,hi])]
 |mkmap mt kt z=>rfl
 |make e s b z x y=>simp only[A3,SOp.cls,BE,key x (fun i hi=>by simp[SOp.slots,hi]),key y (fun i hi=>by simp[SOp.slots,hi])]
 |bytes e x=>simp only[A3,SOp.cls,Ao,key x (fun i hi=>by simp[SOp.slots,hi])]
 |siter x=>simp only[A3,SOp.cls,BE,key x (fun i hi=>by simp[SOp.slots,hi])]
 |store n x y=>rfl
 |append e s b x y=>rfl
 |mapent mt x y=>rfl
 |entst x y z=>rfl
 |mapupd mt x y z=>rfl
 |mcopy f x y=>rfl
 |snext x=>rfl
 |asl n x=>simp only[A3,SOp.cls,Ao,key x (fun i hi=>by simp[SOp.slots,hi])]
 |sslice x lo hi=>
  have e1:=JQ lo (fun y hy=>key y (fun i hi=>by simp[SOp.slots,hy i hi]));have e2:=JQ hi (fun y hy=>key y (fun i hi=>by simp[SOp.slots,hy i hi]));simp only[A3,SOp.cls,Ao,key x (fun i hi=>by simp[SOp.slots,hi]),e1,e2]
 |slice s x lo hi=>
  have e1:=JQ lo (fun y hy=>key y (fun i hi=>by simp[SOp.slots,hy i hi]));have e2:=JQ hi (fun y hy=>key y (fun i hi=>by simp[SOp.slots,hy i hi]));simp only[A3,SOp.cls,Ao,key x (fun i hi=>by simp[SOp.slots,hi]),e1,e2]
 |build z ps=>
  simp only[A3,SOp.cls,Ao];rw[F8 ps (fun p hp=>by rw[key p.2.2 (fun i hi=>by simp only[SOp.slots,List.mem_flatMap];exact⟨p,hp,hi⟩)])]
 |minmax m xs=>
  simp only[A3,SOp.cls,Ao];rw[F8 xs (fun p hp=>by rw[key p (fun i hi=>by simp only[SOp.slots,List.mem_flatMap];exact⟨p,hp,hi⟩)])]
 |fnv f xs=>
  simp only[A3,SOp.cls,Ao];rw[F8 xs (fun p hp=>by rw[key p (fun i hi=>by simp only[SOp.slots,List.mem_flatMap];exact⟨p,hp,hi⟩)])]
 |mksl e s xs=>
  simp only[A3,SOp.cls,BE];rw[F8 xs (fun p hp=>by rw[key p (fun i hi=>by simp only[SOp.slots,List.mem_flatMap];exact⟨p,hp,hi⟩)])]
 |call f xs=>
  simp only[A3,SOp.cls,F0]
  rw[F8 xs (fun p hp=>by rw[key p (fun i hi=>by simp only[SOp.slots,List.mem_flatMap];exact⟨p,hp,hi⟩)]),
   KM xs (fun p hp=>by rw[key p (fun i hi=>by simp only[SOp.slots,List.mem_flatMap];exact⟨p,hp,hi⟩)])]
 |callv f xs=>
  simp only[A3,SOp.cls,F0]
  rw[F8 xs (fun p hp=>by rw[key p (fun i hi=>by simp only[SOp.slots,List.mem_append,List.mem_flatMap];exact .inr ⟨p,hp,hi⟩)]),
   KM xs (fun p hp=>by rw[key p (fun i hi=>by simp only[SOp.slots,List.mem_append,List.mem_flatMap];exact .inr ⟨p,hp,hi⟩)]),
   key f (fun i hi=>by simp[SOp.slots,hi])]
theorem Hb{rd:Nat→Ob}{fr fr':Nat→SV}{l:SL}(h:∀i∈l.looks,fr i=fr' i):Cp E l fr rd=Cp E l fr' rd:=by
 have h1:∀i∈l.op.slots,fr i=fr' i:=fun i hi=>h i (by simp[SL.looks,hi]);unfold Cp
 cases hg:l.guard with
 |none=>exact Q6 _ h1
 |some p=>
  obtain⟨g,want⟩:=p;simp only;rw[h g (by simp[SL.looks,hg]),Q6 _ h1]
theorem PT{D:List Nat}{st st':St}{d:Option Nat}{p:SV×Option Ob}(h:put st d p=some st')(hD:p.2.isSome=true→∀j,d=some j→D.contains j=true):AQ (some D) st'.ob=AQ (some D) st.ob:=by
 obtain⟨v,o⟩:=p
 cases o with
 |none=>
  simp only[put,Ac]at h;subst h;cases d<;>rfl
 |some o=>
  simp only[put,BA]at h
  cases d with
  |none=>cases h
  |some d=>
   simp only at h;split at h<;>(try cases h;done);cases h;have:=hD rfl d rfl;funext i;simp only[AQ,BZ];split
   ·rfl
   ·rename_i hi;split
    ·rename_i e;subst e;exact(hi this).elim
    ·rfl
theorem DI{st st':St}{d:Option Nat}{p:SV×Option Ob}(h:put st d p=some st'){i:Nat}(hi:d≠some i):st'.fr i=st.fr i:=by
 obtain⟨v,o⟩:=p
 cases o with
 |none=>
  simp only[put,Ac]at h;subst h
  cases d with
  |none=>rfl
  |some d=>exact Ay _ _ (fun e=>hi (by rw[e]))
 |some o=>
  simp only[put,BA]at h
  cases d with
  |none=>cases h
  |some d=>
   simp only at h;split at h<;>(try cases h;done);cases h;exact Ay _ _ (fun e=>hi (by rw[e]))
theorem Ev{α:Type}(f:Nat→α){i j:Nat}(u v:α)(h:i≠j):upd (upd f i u) j v=upd (upd f j v) i u:=by
 funext k;simp only[BZ];by_cases h1:k=i<;>by_cases h2:k=j<;>simp_all
theorem UP{st s1 s2:St}{d1 d2:Option Nat}{p1 p2:SV×Option Ob}(h1:put st d1 p1=some s1)(h2:put s1 d2 p2=some s2)(hd:∀i j,d1=some i→d2=some j→i≠j):∃s,put st d2 p2=some s∧put s d1 p1=some s2:=by
 obtain⟨v1,o1⟩:=p1;obtain⟨v2,o2⟩:=p2
 cases d1 with
 |none=>
  cases o1 with
  |none=>
   simp only[put,Ac]at h1;cases h1;exact⟨s2,h2,rfl⟩
  |some o=>cases h1
 |some i=>
  cases d2 with
  |none=>
   cases o2 with
   |none=>
    simp only[put,Ac]at h2;cases h2;exact⟨st,rfl,h1⟩
   |some o=>cases h2
  |some j=>
   have hij:=hd i j rfl rfl
   cases o1 with
   |none=>
    simp only[put,Ac]at h1;cases h1
    cases o2 with
    |none=>
     simp only[put,Ac]at h2;cases h2;exact⟨_,rfl,by simp[put,St.set,Ev _ _ _ hij]⟩
    |some o2=>
     simp only[put,BA,St.set]at h2;split at h2<;>(try cases h2;done);rename_i hn;cases h2;exact⟨{fr:=upd st.fr j v2,ob:=upd st.ob j o2},by simp[put,BA,hn],by simp[put,St.set,Ev _ _ _ hij]⟩
   |some o1=>
    simp only[put,BA]at h1;split at h1<;>(try cases h1;done);rename_i hn;cases h1
    cases o2 with
    |none=>
     simp only[put,Ac]at h2;cases h2;exact⟨_,rfl,by simp[put,BA,St.set,hn,Ev _ _ _ hij]⟩
    |some o2=>
     simp only[put,BA,Ay _ _ (Ne.symm hij)]at h2;split at h2<;>(try cases h2;done);rename_i hn2;cases h2;exact⟨{fr:=upd st.fr j v2,ob:=upd st.ob j o2},by simp[put,BA,hn2],by simp[put,BA,Ay _ _ hij,hn,Ev _ _ _ hij]⟩
theorem Q7{rd:Nat→Ob}{ρ:SO→SV}{d:Option Nat}{op:SOp}{p:SV×Option Ob}(h:A3 E rd ρ d op=some p)(hp:p.2.isSome=true):op.makes=true:=by
 cases op<;>simp only[A3,SOp.cls,Aa,reduceCtorEq]at h<;>first
  |rfl
  |(obtain⟨v,_,rfl⟩:=h;cases hp)
theorem Kq{l:SL}{fr:Nat→SV}{rd:Nat→Ob}{p:SV×Option Ob}(h:Cp E l fr rd=some p)(hp:p.2.isSome=true):l.op.makes=true:=by
 unfold Cp at h;split at h
 ·exact Q7 h hp
 ·split at h
  ·split at h
   ·exact Q7 h hp
   ·cases h;cases hp
  ·cases h;cases hp
  ·cases h
theorem VI{D:List Nat}{a b:SL}{st s1 s2:St}(ha:a.op.hard=false)(hb:b.op.hard=false)(hDa:a.op.makes=true→∀j,a.dst=some j→(hid b.op D).contains j=true)(hDb:b.op.makes=true→∀j,b.dst=some j→(hid a.op D).contains j=true)
  (hab:∀i,a.dst=some i→i∉b.looks∧b.dst≠some i) (hba:∀i,b.dst=some i→i∉a.looks) (h1:AS E (some D) a st=some s1) (h2:AS E (some D) b s1=some s2):
  ∃s,AS E (some D) b st=some s∧AS E (some D) a s=some s2:=by
 rw[Cq ha,Ab]at h1;rw[Cq hb,Ab]at h2;obtain⟨p1,e1,h1⟩:=h1;obtain⟨p2,e2,h2⟩:=h2;have m1:=PT (D:=hid b.op D) h1 (fun hs j hj=>hDa (Kq e1 hs) j hj);rw[m1,Hb (fr':=st.fr) (fun i hi=>DI h1 (fun e=>(hab i e).1 hi))]at e2;obtain⟨s,g1,g2⟩:=UP h1 h2 (fun i j hi hj e=>(hab i hi).2 (by rw[hj,e]));have m2:=PT (D:=hid a.op D) g1 (fun hs j hj=>hDb (Kq e2 hs) j hj);refine⟨s, ?_, ?_⟩
 ·rw[Cq hb,e2];exact g1
 ·rw[Cq ha,m2,Hb (fr':=st.fr) (fun i hi=>DI g1 (fun e=>hba i e hi)),e1];exact g2
end
def gd(l:SL)(fr:Nat→SV):Option Bool:=
 match l.guard with
 |none=>some true
 |some (g,want)=>match fr g with
  | .c (.bool b)=>some (decide (b=want))
  | .c (.tup [])=>some false
  |_=>none
section
variable {E:Env}
theorem FO{D:Option (List Nat)}{l:SL}{st:St}:AS E D l st=(gd l st.fr).bind fun t=>if t=true then AB (E.at D) (AQ (D.map (hid l.op)) st.ob) st l.dst l.op else some (st.set l.dst B8):=by
 unfold AS gd
 cases l.guard with
 |none=>rfl
 |some p=>
  obtain⟨g,want⟩:=p;simp only;generalize st.fr g=q
  cases q with
  |c v=>
   cases v with
   |bool b=>by_cases hb:b=want<;>simp[hb]
   |tup l=>cases l<;>rfl
   |_=>rfl
  |_=>rfl
theorem LC{l:SL}{fr fr':Nat→SV}(h:∀i∈l.looks,fr i=fr' i):gd l fr=gd l fr':=by
 unfold gd
 cases hg:l.guard with
 |none=>rfl
 |some p=>
  obtain⟨g,want⟩:=p;simp only;rw[h g (by simp[SL.looks,hg])]
theorem OO{kt:KT}{k c:CV}:∀(ks:List CV),A1 kt k (ks++ [c])=match A1 kt k ks with
  |some i=>some i
  |none=>if BQ kt k c then some ks.length else none
 | []=>by simp[A1]
 |a::ks=>by
  simp only[List.cons_append,A1,OO ks];split
  ·rfl
  ·cases A1 kt k ks with
   |some i=>rfl
   |none=>
    simp only[Option.map_none];split<;>simp
theorem Ud{kt:KT}{z:CV}{ks vs:List CV}(k k':CV)(hl:ks.length=vs.length):(A6 kt z (Bq kt ks k) (Br kt ks vs k (A6 kt z ks vs k).1) k').1=(A6 kt z ks vs k').1:=by
 unfold Bq Br
 cases hk:A1 kt k ks with
 |some i=>
  have:(A6 kt z ks vs k).1=vs.getD i z:=by simp[A6,hk]
  rw[this];have hi:=Jx hk
  have:vs.set i (vs.getD i z)=vs:=by
   rw[List.getD_eq_getElem?_getD,Ai (by omega:i<vs.length)];simp
  simp only[this]
 |none=>
  have:(A6 kt z ks vs k).1=z:=by simp[A6,hk]
  rw[this];simp only[A6,OO]
  cases hk':A1 kt k' ks with
  |some j=>
   have hj:=Jx hk';simp[List.getD_eq_getElem?_getD,List.getElem?_append_left (by omega:j<vs.length)]
  |none=>
   simp only;by_cases he:BQ kt k' k<;>simp[he,List.getD_eq_getElem?_getD,hl]
theorem RF{rd rd':Nat→Ob}{mt:TypeId}{kt:KT}{z:CV}{ks vs:List CV}{k:CV}(hl:ks.length=vs.length)
  (h:∀i,rd' i=rd i∨(rd i=.map mt kt z ks vs∧rd' i=.map mt kt z (Bq kt ks k) (Br kt ks vs k (A6 kt z ks vs k).1))) {ρ:SO→SV} {d:Option Nat} {op:SOp} (hc:op.calm=true):A3 E rd' ρ d op=A3 E rd ρ d op:=by
 cases op<;>simp only[SOp.calm,Ag]at hc<;>try rfl
 rename_i mt' kt' z' ok x y;cases ok<;>simp only[Ag]at hc;simp only[A3,SOp.cls,Ao]
 congr 2
 generalize ρ x=q1;generalize ρ y=q2
 cases q1 with
 |omap id=>
  cases q2 with
  |c kc=>
   rcases h id with e|⟨e1,e2⟩
   ·simp only[Db,e]
   ·simp only[Db,e1,e2,Ag,if_false,Ud k kc hl]
  |_=>rfl
 |c v=>cases v<;>cases q2<;>rfl
 |_=>rfl
theorem VF{D:List Nat}{a b:SL}{st s1 s2:St}(ha:a.op.calm=true)(hb:b.op.entry=true)
  (hab:∀i,a.dst=some i→i∉b.looks∧b.dst≠some i) (hba:∀i,b.dst=some i→i∉a.looks) (h1:AS E (some D) a st=some s1) (h2:AS E (some D) b s1=some s2):
  ∃s,AS E (some D) b st=some s∧AS E (some D) a s=some s2:=by
 have hah:a.op.hard=false:=by
  revert ha;cases a.op<;>simp[SOp.calm,SOp.hard]
 have ham:a.op.makes=false:=by
  revert ha;cases a.op<;>simp[SOp.calm,SOp.makes]
 rw[Cq hah,Ab]at h1;obtain⟨⟨v,o⟩,e1,h1⟩:=h1
 have ho:o=none:=by
  cases o with
  |none=>rfl
  |some o=>have:=Kq e1 rfl;rw[ham]at this;cases this
 subst ho;have hf1:∀i∈b.looks,s1.fr i=st.fr i:=fun i hi=>DI h1 (fun e=>(hab i e).1 hi);simp only[put,Ac]at h1;have hob1:s1.ob=st.ob:=by subst h1;cases a.dst<;>rfl
 rw[FO,LC hf1,Ab]at h2;obtain⟨t,ht,h2⟩:=h2;have dcomm:∀i j,b.dst=some i→a.dst=some j→i≠j:=fun i j hi hj e=>(hab j hj).2 (by rw[hi,e])
 cases t with
 |false=>
  simp only[Ag,if_false,Ac]at h2;refine⟨st.set b.dst B8,by rw[FO,ht];rfl, ?_⟩;have g1:put st b.dst (B8,none)=some (st.set b.dst B8):=rfl;have hm:(st.set b.dst B8).ob=st.ob:=by cases b.dst<;>rfl
  rw[Cq hah,hm,Hb (fr':=st.fr) (fun i hi=>DI g1 (fun e=>hba i e hi)),e1]
  have hc:∀(x y:Option Nat) (u v:SV),(∀i j,x=some i→y=some j→i≠j)→(st.set x u).set y v=(st.set y v).set x u:=by
   intro x y u v hxy;cases x<;>cases y<;>try rfl
   simp only[St.set,Ev _ _ _ (hxy _ _ rfl rfl)]
  simp only[Option.bind_some,put,←h2,←h1,hc _ _ _ _ dcomm]
 |true=>
  simp only[if_true]at h2;cases hop:b.op<;>simp only[hop,SOp.entry,Ag]at hb;rename_i mt x k
  have hslots:∀y:SO,(y=x∨y=k)→so E.G s1.fr y=so E.G st.fr y:=fun y hy=>Fz y fun i hi=>hf1 i (by
   simp only[SL.looks,hop,SOp.slots,List.mem_append];rcases hy with rfl|rfl
   ·exact .inl (.inl hi)
   ·exact .inl (.inr hi))
  simp only[hop,AB,SOp.cls,AW,EU,hslots x (.inl rfl),hslots k (.inr rfl),hob1]at h2;cases hx:so E.G st.fr x<;>simp only[hx,reduceCtorEq]at h2;cases hkk:so E.G st.fr k<;>simp only[hkk,reduceCtorEq]at h2;rename_i id kc;cases hobi:st.ob id<;>simp only[hobi,reduceCtorEq]at h2;rename_i mt' kt z ks vs;simp only[Ad,Ac]at h2;obtain⟨⟨rfl,hcf,hlen⟩,h2⟩:=h2;refine⟨St.set {st with ob:=upd st.ob id (.map mt' kt z (Bq kt ks kc) (Br kt ks vs kc (A6 kt z ks vs kc).1))} b.dst (.ent id kc (A6 kt z ks vs kc).1), ?_, ?_⟩
  ·rw[FO,ht];simp[hop,AB,SOp.cls,AW,hx,hkk,hobi,hcf,hlen]
  ·have hfr:∀i∈a.looks,(St.set {st with ob:=upd st.ob id (.map mt' kt z (Bq kt ks kc) (Br kt ks vs kc (A6 kt z ks vs kc).1))} b.dst (.ent id kc (A6 kt z ks vs kc).1)).fr i=st.fr i:=by
    intro i hi
    cases hbd:b.dst with
    |none=>rfl
    |some j=>exact Ay _ _ (fun e=>hba j hbd (e▸hi))
   have hob:(St.set {st with ob:=upd st.ob id (.map mt' kt z (Bq kt ks kc) (Br kt ks vs kc (A6 kt z ks vs kc).1))} b.dst (.ent id kc (A6 kt z ks vs kc).1)).ob=upd st.ob id (.map mt' kt z (Bq kt ks kc) (Br kt ks vs kc (A6 kt z ks vs kc).1)):=by
    cases b.dst<;>rfl
   have hrd:∀i,AQ (some (hid a.op D)) (upd st.ob id (.map mt' kt z (Bq kt ks kc) (Br kt ks vs kc (A6 kt z ks vs kc).1))) i=AQ (some (hid a.op D)) st.ob i∨(AQ (some (hid a.op D)) st.ob i=.map mt' kt z ks vs∧AQ (some (hid a.op D)) (upd st.ob id (.map mt' kt z (Bq kt ks kc) (Br kt ks vs kc (A6 kt z ks vs kc).1))) i=.map mt' kt z (Bq kt ks kc) (Br kt ks vs kc (A6 kt z ks vs kc).1)):=by
    intro i;simp only[AQ,BZ];by_cases hi:(hid a.op D).contains i=true
    ·simp only[hi,if_true];exact .inl trivial
    ·by_cases e:i=id
     ·subst e;rw[if_neg hi,if_neg hi,if_pos rfl];exact .inr ⟨hobi,rfl⟩
     ·rw[if_neg hi,if_neg hi,if_neg e];exact .inl rfl
   have e1':Cp E a st.fr (AQ (some (hid a.op D)) (upd st.ob id (.map mt' kt z (Bq kt ks kc) (Br kt ks vs kc (A6 kt z ks vs kc).1))))=some (v,none):=by
    rw[←e1];unfold Cp;simp only[RF hlen hrd ha]
   rw[Cq hah,hob,Hb hfr,e1'];simp only[Option.bind_some,put,←h2,←h1]
   congr 1
   cases hbd:b.dst<;>cases had:a.dst<;>try rfl
   simp only[St.set,Ev _ _ _ (dcomm _ _ hbd had)]
end
section
variable {E:Env}
theorem St.set_comm(st:St):∀(x y:Option Nat) (u v:SV),(∀i j,x=some i→y=some j→i≠j)→(st.set x u).set y v=(st.set y v).set x u:=by
 intro x y u v hxy;cases x<;>cases y<;>try rfl
 simp only[St.set,Ev _ _ _ (hxy _ _ rfl rfl)]
theorem V0{d d':Option Nat}{ρ ρ':SO→SV}{st st' s:St}{n:Nat}{x y:SO}(hx:ρ x=ρ' x)(hy:ρ y=ρ' y)(hob:st.ob=st'.ob)(h:AW d ρ st (.store n x y)=some s):
  s.fr=st.fr∧AW d' ρ' st' (.store n x y)=some {fr:=st'.fr,ob:=s.ob}:=by
 simp only[AW,hx,hy,hob]at h⊢;generalize deref st'.ob (ρ' x)=q at h⊢;cases q<;>(try(cases h;done))
 ·rename_i cv;cases cv<;>(try cases h;done);rename_i cs
  cases cs with
  |nil=>cases h
  |cons c0 cs=>
   cases cs with
   |cons _ _=>cases c0<;>cases h
   |nil=>
    cases c0<;>(try cases h;done);cases hv:ρ' y<;>simp only[hv]at h⊢ <;>(try cases h;done);rename_i c2;cases c2<;>(try cases h;done);simp only[Ad,Ac]at h⊢;obtain⟨hc,rfl⟩:=h;exact⟨rfl,hc,by rw[hob]⟩
 ·rename_i id o;cases hb:st'.ob id<;>simp only[hb,reduceCtorEq]at h⊢;cases hv:ρ' y<;>simp only[hv,reduceCtorEq]at h⊢;all_goals(repeat' (split at h))<;>(try cases h)<;>simp_all
 ·rename_i id i size o;cases hb:st'.ob id<;>simp only[hb,reduceCtorEq]at h⊢;cases hv:ρ' y<;>simp only[hv,reduceCtorEq]at h⊢;split at h
  ·rename_i hc;rw[Ab]at h;obtain⟨el,h1,h2⟩:=h;split at h2
   ·rename_i hc2;cases h2;simp[hc,h1,hc2]
   ·cases h2
  ·cases h
theorem Vz{a:SL}(ha:a.op.still=true){fr:Nat→SV}{rd rd':Nat→Ob}:Cp E a fr rd=Cp E a fr rd':=by
 have key:∀ρ d,A3 E rd ρ d a.op=A3 E rd' ρ d a.op:=by
  intro ρ d;revert ha;cases a.op<;>simp[SOp.still,A3,SOp.cls,Ao]
 unfold Cp;simp only[key]
theorem VJ{D:List Nat}{a b:SL}{st s1 s2:St}(ha:a.op.still=true)(hb:b.op.stores=true)
  (hab:∀i,a.dst=some i→i∉b.looks∧b.dst≠some i) (hba:∀i,b.dst=some i→i∉a.looks) (h1:AS E (some D) a st=some s1) (h2:AS E (some D) b s1=some s2):
  ∃s,AS E (some D) b st=some s∧AS E (some D) a s=some s2:=by
 have hah:a.op.hard=false:=by
  revert ha;cases a.op<;>simp[SOp.still,SOp.hard]
 have ham:a.op.makes=false:=by
  revert ha;cases a.op<;>simp[SOp.still,SOp.makes]
 rw[Cq hah,Ab]at h1;obtain⟨⟨v,o⟩,e1,h1⟩:=h1
 have ho:o=none:=by
  cases o with
  |none=>rfl
  |some o=>have:=Kq e1 rfl;rw[ham]at this;cases this
 subst ho;have hf1:∀i∈b.looks,s1.fr i=st.fr i:=fun i hi=>DI h1 (fun e=>(hab i e).1 hi);simp only[put,Ac]at h1;have hob1:s1.ob=st.ob:=by subst h1;cases a.dst<;>rfl
 rw[FO,LC hf1,Ab]at h2;obtain⟨t,ht,h2⟩:=h2;have dcomm:∀i j,b.dst=some i→a.dst=some j→i≠j:=fun i j hi hj e=>(hab j hj).2 (by rw[hi,e])
 cases t with
 |false=>
  simp only[Ag,if_false,Ac]at h2;refine⟨st.set b.dst B8,by rw[FO,ht];rfl, ?_⟩;have g1:put st b.dst (B8,none)=some (st.set b.dst B8):=rfl;have hm:(st.set b.dst B8).ob=st.ob:=by cases b.dst<;>rfl
  rw[Cq hah,hm,Hb (fr':=st.fr) (fun i hi=>DI g1 (fun e=>hba i e hi)),e1];simp only[Option.bind_some,put,←h2,←h1,St.set_comm st _ _ _ _ dcomm]
 |true=>
  simp only[if_true]at h2;cases hop:b.op<;>simp only[hop,SOp.stores,Ag]at hb;rename_i n x y
  have hslots:∀z:SO,(z=x∨z=y)→so E.G s1.fr z=so E.G st.fr z:=fun z hz=>Fz z fun i hi=>hf1 i (by
   simp only[SL.looks,hop,SOp.slots,List.mem_append];rcases hz with rfl|rfl
   ·exact .inl (.inl hi)
   ·exact .inl (.inr hi))
  simp only[hop,AB,SOp.cls]at h2;obtain⟨k1,k2⟩:=V0 (d':=b.dst) (hslots x (.inl rfl)) (hslots y (.inr rfl)) hob1 h2;refine⟨{fr:=st.fr,ob:=s2.ob},by rw[FO,ht];simp only[Option.bind_some,if_true,hop,AB,SOp.cls];exact k2, ?_⟩;rw[Cq hah,Vz ha (rd':=AQ (some (hid a.op D)) st.ob),e1];simp only[Option.bind_some,put]
  congr 1
  have:s2={fr:=s1.fr,ob:=s2.ob}:=by rw[←k1]
  rw[this,←h1];cases a.dst<;>rfl
def ET(st:St)(d:Option Nat)(e size bytes:Nat)(vx vy:SV):Option (Nat×Ob):=
 match CN st vy with
 |none=>none
 |some news=>
  if(news.all (fun v=>BB v==size)&&news.all fun v=>v.cells.all Cv)=true then
   match vx with
   | .c (.sl (some true) _)=>
     if news.length*bytes≤140737488355328∧news.length≤4611686018427387904 then
      match d with
      |some d=>some (d,.arr e size news)
      |none=>none
     else none
   | .osl id=>match st.ob id with
     | .arr e' size' es=>
      if e'=e∧size'=size∧(es.length+news.length)*bytes≤140737488355328∧es.length+news.length≤4611686018427387904 then some (id,.arr e size (es++news))else none
     |_=>none
   |_=>none
  else none
def DA(st:St)(d:Option Nat)(p:Nat×Ob):St:=St.set {fr:=fun i=>Au [p.1] (st.fr i),ob:=upd (kill [p.1] st).ob p.1 p.2} d (.osl p.1)
theorem NA{d:Option Nat}{ρ:SO→SV}{st:St}{e size bytes:Nat}{x y:SO}:AW d ρ st (.append e size bytes x y)=(ET st d e size bytes (ρ x) (ρ y)).map (DA st d):=by
 simp only[AW,ET]
 cases CN st (ρ y)with
 |none=>rfl
 |some news=>
  simp only;split
  ·generalize ρ x=q;split
   ·split
    ·cases d<;>rfl
    ·rfl
   ·rename_i id
    cases hq:st.ob id with
    |arr e' size' es=>
     simp only[hq];by_cases hc:e'=e∧size'=size∧(es.length+news.length)*bytes≤140737488355328∧es.length+news.length≤4611686018427387904
     ·rw[if_pos hc,if_pos hc];rfl
     ·rw[if_neg hc,if_neg hc];rfl
    |_=>simp only[hq];rfl
   ·rename_i h1 h2;split
    ·exact(h1 _ rfl).elim
    ·exact(h2 _ rfl).elim
    ·rfl
  ·rfl
theorem Uo{st st':St}{v:SV}{news:List CV}(hk:∀i e s es,st.ob i=.arr e s es→st'.ob i=.arr e s es)(h:CN st v=some news):CN st' v=some news:=by
 unfold CN at h⊢;split at h
 ·exact h
 ·split at h
  ·rename_i hq;rw[hk _ _ _ _ hq];exact h
  ·cases h
 ·cases h
theorem N9{st st':St}{d:Option Nat}{e size bytes:Nat}{vx vy:SV}{p:Nat×Ob}(hk:∀i e s es,st.ob i=.arr e s es→st'.ob i=.arr e s es)(h:ET st d e size bytes vx vy=some p):ET st' d e size bytes vx vy=some p:=by
 unfold ET at h⊢
 cases hn:CN st vy with
 |none=>rw[hn]at h;cases h
 |some news=>
  rw[hn]at h;rw[Uo hk hn];simp only at h⊢;split at h
  ·rename_i hc;rw[if_pos hc];split at h
   ·exact h
   ·rename_i id;cases hob:st.ob id<;>simp only[hob,reduceCtorEq]at h;rw[hk _ _ _ _ hob];exact h
   ·cases h
  ·cases h
theorem Ru{st:St}{d:Option Nat}{e size bytes:Nat}{vx vy:SV}{p:Nat×Ob}(h:ET st d e size bytes vx vy=some p):∃es,p.2=.arr e size es:=by
 unfold ET at h;split at h
 ·cases h
 ·split at h
  ·split at h
   ·split at h
    ·split at h
     ·cases h;exact⟨_,rfl⟩
     ·cases h
    ·cases h
   ·split at h
    ·split at h
     ·cases h;exact⟨_,rfl⟩
     ·cases h
    ·cases h
   ·cases h
  ·cases h
theorem NU{D:List Nat}{v:SV}{c:CV}(h:closed (Au D v)=some c):closed v=some c:=by
 cases v<;>simp only[Au]at h<;>first
  |exact h
  |(split at h<;>simp[closed]at h)
theorem N6{α β:Type}{f g:α→Option β}:∀{l:List α} {r:List β},(∀x c,f x=some c→g x=some c)→Aq f l=some r→Aq g l=some r
 | [],_,_,h=>h
 |x::l,r,hfg,h=>by
  simp only[Aq,Ab,Aa]at h⊢;obtain⟨c,h1,bs,h2,h3⟩:=h;exact⟨c,hfg x c h1,bs,N6 hfg h2,h3⟩
theorem VN{D:List Nat}{b:SOp}(ht:b.tame=true){d:Option Nat}{st:St}{id:Nat}{e s:Nat}{es:List CV}{v':SV}{o':Option Ob}(hd:o'.isSome=true→∀j,d=some j→j≠id)(hd':o'.isSome=true→d≠none)
  (h:A3 E (AQ (some D) (upd (kill [id] st).ob id (.arr e s es))) (so E.G fun i=>Au [id] (st.fr i)) d b=some (v',o')):
  ∃v o,A3 E (AQ (some D) st.ob) (so E.G st.fr) d b=some (v,o)∧v'=Au [id] v∧o'=o.map (BX [id]):=by
 have hso:∀x,so E.G (fun i=>Au [id] (st.fr i)) x=Au [id] (so E.G st.fr x):=by
  intro x
  cases x with
  |t i=>rfl
  |k c=>rfl
  |g i=>simp only[so];cases E.G i<;>rfl
 cases b<;>simp only[SOp.tame,Ag]at ht
 case load sz x=>
  simp only[A3,SOp.cls,Ao,hso,Aa,Prod.mk.injEq]at h;obtain⟨r,h,rfl,rfl⟩:=h
  suffices hs:∃v,Bs (AQ (some D) st.ob) sz (deref (AQ (some D) st.ob) (so E.G st.fr x))=some v∧r=Au [id] v by
   obtain⟨v,k1,k2⟩:=hs;exact⟨v,none,by simp[A3,SOp.cls,Ao,k1],k2,rfl⟩
  generalize so E.G st.fr x=q0 at h⊢
  have hdr:deref (AQ (some D) (upd (kill [id] st).ob id (.arr e s es))) (Au [id] q0)=.undef∨deref (AQ (some D) (upd (kill [id] st).ob id (.arr e s es))) (Au [id] q0)=Au [id] (deref (AQ (some D) st.ob) q0):=by
   cases q0 with
   |c v=>
    cases v<;>try exact .inr rfl
    rename_i N;simp only[Au,deref];by_cases hN:As≤N
    ·simp only[if_pos hN];by_cases hD:D.contains N=true
     ·simp only[AQ,hD,if_true];exact .inl trivial
     ·simp only[AQ,hD,Ag,if_false];by_cases hNi:N=id
      ·subst hNi;simp only[Bl];exact .inl trivial
      ·simp only[Ay _ _ hNi,kill,show([id].contains N)=false by simpa using hNi,Ag,if_false];cases hob:st.ob N<;>simp only[BX,Au,show([id].contains N)=false by simpa using hNi,Ag,if_false]<;>first|exact .inr trivial|exact .inr rfl|exact .inl trivial
    ·simp only[if_neg hN];exact .inl trivial
   |ptr j o=>simp only[Au];split<;>simp_all[deref,Au]
   |eptr j i size o=>simp only[Au];split<;>simp_all[deref,Au]
   |osl j=>simp only[Au];split<;>simp_all[deref,Au]
   |omap j=>simp only[Au];split<;>simp_all[deref,Au]
   |iter j=>simp only[Au];split<;>simp_all[deref,Au]
   |stamp j k=>simp only[Au];split<;>simp_all[deref,Au]
   |ent j k v=>simp only[Au];split<;>simp_all[deref,Au]
   |undef=>exact .inl rfl
  rcases hdr with hdr|hdr
  ·rw[hdr]at h;cases h
  rw[hdr]at h;clear hdr;generalize deref (AQ (some D) st.ob) q0=q at h⊢
  cases q with
  |c v=>
   have h2:Bs (AQ (some D) st.ob) sz (.c v)=some r:=by
    cases v<;>simp only[Au,Bs,reduceCtorEq]at h⊢;all_goals exact h
   refine⟨r,h2, ?_⟩;cases v<;>simp only[Bs,reduceCtorEq]at h2;all_goals(split at h2<;>(rw[Aa]at h2;obtain⟨c,_,rfl⟩:=h2;rfl))
  |ptr j o=>
   simp only[Au]at h;split at h
   ·cases h
   ·rename_i hj;have hj':j≠id:=fun e=>hj (by simp[e]);simp only[Bs,AQ,Ay _ _ hj',kill,hj]at h⊢;cases hD:D.contains j<;>simp only[hD,if_true,Ag,if_false,reduceCtorEq]at h⊢;cases hb:st.ob j<;>simp only[hb,BX,reduceCtorEq]at h⊢;rename_i cs
    cases sz with
    |none=>
     simp only[List.getElem?_map,Aa]at h;obtain⟨v,h1,rfl⟩:=h;exact⟨v,h1,rfl⟩
    |some n=>
     simp only[List.length_map]at h⊢;split at h
     ·rename_i hl;rw[if_pos hl];rw[Aa]at h;obtain⟨l,h1,rfl⟩:=h;refine⟨.c (.agg l), ?_,rfl⟩
      have:∀(l2:List SV) r,Aq closed (l2.map (Au [id]))=some r→Aq closed l2=some r:=by
       intro l2
       induction l2 with
       |nil=>intro r h;exact h
       |cons a l2 ih=>
        intro r h;simp only[List.map_cons,Aq,Ab,Aa]at h⊢;obtain⟨c,k1,bs,k2,k3⟩:=h;exact⟨c,NU k1,bs,ih bs k2,k3⟩
      rw[this _ l (by rw[List.map_take,List.map_drop];exact h1)];rfl
     ·cases h
  |eptr j i size o=>
   simp only[Au]at h;split at h
   ·cases h
   ·rename_i hj;have hj':j≠id:=fun e=>hj (by simp[e]);simp only[Bs,AQ,Ay _ _ hj',kill,hj]at h⊢;cases hD:D.contains j<;>simp only[hD,if_true,Ag,if_false,reduceCtorEq]at h⊢;cases hb:st.ob j<;>simp only[hb,BX,reduceCtorEq]at h⊢;refine⟨r,h, ?_⟩;split at h
    ·rw[Ab]at h;obtain⟨el,_,h⟩:=h;rw[Aa]at h;obtain⟨c,_,rfl⟩:=h;rfl
    ·cases h
  |undef=>cases h
  |_=>simp only[Au]at h;split at h<;>cases h
 case alloc z=>
  simp only[A3,SOp.cls,BE,Option.map_some,Ac,Prod.mk.injEq]at h;obtain⟨rfl,rfl⟩:=h;refine⟨_,_,rfl, ?_, ?_⟩
  ·cases d with
   |none=>exact(hd' rfl rfl).elim
   |some j=>simp[Au,hd rfl j rfl]
  ·simp[BX,Au,Function.comp_def]
 case mksl e2 s2 parts=>
  simp only[A3,SOp.cls,BE,hso,Aa,Ab,Prod.mk.injEq]at h;obtain⟨⟨q1,q2⟩,⟨l,h1,h2⟩,rfl,rfl⟩:=h;split at h2
  ·rename_i hc;cases h2;have h1':=N6 (g:=fun x=>closed (so E.G st.fr x)) (fun x c=>NU) h1;refine⟨.osl (d.getD 0),some (.arr e2 s2 l), ?_, ?_,rfl⟩
   ·simp only[A3,SOp.cls,BE,h1',Option.bind_some,if_pos hc,Option.map_some]
   ·cases d with
    |none=>exact(hd' rfl rfl).elim
    |some j=>simp[Au,hd rfl j rfl]
  ·cases h2
theorem VG{D:List Nat}{a b:SL}{st s1 s2:St}(ha:a.op.grows=true)(hga:a.guard=none)(hb:b.op.tame=true)(hgb:b.guard=none)
  (hab:∀i,a.dst=some i→i∉b.looks∧b.dst≠some i) (hba:∀i,b.dst=some i→i∉a.looks) (h1:AS E (some D) a st=some s1) (h2:AS E (some D) b s1=some s2):
  ∃s,AS E (some D) b st=some s∧AS E (some D) a s=some s2:=by
 have hbh:b.op.hard=false:=by
  revert hb;cases b.op<;>simp[SOp.tame,SOp.hard]
 cases hop:a.op<;>simp only[hop,SOp.grows,Ag]at ha;rename_i e size bytes x y
 have eva:∀s,AS E (some D) a s=(ET s a.dst e size bytes (so E.G s.fr x) (so E.G s.fr y)).map (DA s a.dst):=by
  intro s;simp only[AS,hga,hop,AB,SOp.cls];exact NA
 rw[eva,Aa]at h1;obtain⟨⟨id,oa⟩,p1,rfl⟩:=h1;obtain⟨es,he⟩:=Ru p1;simp only at he;subst he;rw[Cq hbh,Ab]at h2;obtain⟨⟨v',o'⟩,e2,h2⟩:=h2
 have hfr:∀i∈b.looks,(DA st a.dst (id,.arr e size es)).fr i=Au [id] (st.fr i):=by
  intro i hi;unfold DA
  cases hd:a.dst with
  |none=>rfl
  |some j=>exact Ay _ _ (fun h=>(hab j hd).1 (h▸hi))
 have hob:(DA st a.dst (id,.arr e size es)).ob=upd (kill [id] st).ob id (.arr e size es):=by
  unfold DA;cases a.dst<;>rfl
 rw[Hb hfr,hob]at e2
 have e2':A3 E (AQ (some (hid b.op D)) (upd (kill [id] st).ob id (.arr e size es))) (so E.G fun i=>Au [id] (st.fr i)) b.dst b.op=some (v',o'):=by
  simpa only[Cp,hgb]using e2
 have hnew:∀o,o'=some o→∃j,b.dst=some j∧j≠id∧st.ob j=.none:=by
  intro o ho;subst ho;simp only[put,BA]at h2
  cases hbd:b.dst with
  |none=>rw[hbd]at h2;cases h2
  |some j=>
   rw[hbd]at h2;simp only[hob]at h2;split at h2<;>(try cases h2;done);rename_i hn
   have hj:j≠id:=by
    intro hh;rw[hh,Bl]at hn;cases hn
   refine⟨j,rfl,hj, ?_⟩;rw[Ay _ _ hj]at hn;simp only[kill]at hn;rw[if_neg (by simpa using hj)]at hn;cases hq:st.ob j<;>simp only[hq,BX,reduceCtorEq]at hn;rfl
 obtain⟨v,o,k1,k2,k3⟩:=VN hb (fun hs j hj=>by
   obtain⟨o,ho⟩:=Option.isSome_iff_exists.1 hs;obtain⟨j',h3,h4,_⟩:=hnew o ho;rw[hj]at h3;cases h3
   exact h4) (fun hs hn=>by
   obtain⟨o,ho⟩:=Option.isSome_iff_exists.1 hs;obtain⟨j',h3,_⟩:=hnew o ho;rw[hn]at h3
   cases h3) e2'
 have evb:AS E (some D) b st=put st b.dst (v,o):=by
  rw[Cq hbh];simp only[Cp,hgb,k1,Option.bind_some]
 have dcomm:∀i j,a.dst=some i→b.dst=some j→i≠j:=fun i j hi hj h=>(hab i hi).2 (by rw[hj,h])
 have hslots:∀(s:St),put st b.dst (v,o)=some s→∀z:SO,(z=x∨z=y)→so E.G s.fr z=so E.G st.fr z:=fun s hs z hz=>Fz z fun i hi=>DI hs (fun h=>hba i h (by
  simp only[SL.looks,hop,SOp.slots,List.mem_append];rcases hz with rfl|rfl
  ·exact .inl (.inl hi)
  ·exact .inl (.inr hi)))
 subst k2;subst k3;rw[evb]
 cases o with
 |none=>
  have hs:put st b.dst (v,none)=some (st.set b.dst v):=rfl;refine⟨st.set b.dst v,hs, ?_⟩;have hobs:(st.set b.dst v).ob=st.ob:=by cases b.dst<;>rfl
  rw[eva,hslots _ hs x (.inl rfl),hslots _ hs y (.inr rfl),N9 (st:=st) (fun i e s es h=>by rw[hobs];exact h) p1];simp only[Option.map_some,Ac];simp only[put,Option.map_none,Ac]at h2;rw[←h2];unfold DA;rw[St.set_comm _ _ _ _ _ dcomm]
  congr 1
  cases hbd:b.dst with
  |none=>rfl
  |some j=>
   simp only[St.set,kill]
   congr 1
   funext i;simp only[BZ];split<;>rfl
 |some ob=>
  obtain⟨j,hj1,hj2,hj3⟩:=hnew (BX [id] ob) rfl;have hs:put st b.dst (v,some ob)=some {fr:=upd st.fr j v,ob:=upd st.ob j ob}:=by simp[put,BA,hj1,hj3]
  refine⟨_,hs, ?_⟩
  rw[eva,hslots _ hs x (.inl rfl),hslots _ hs y (.inr rfl),N9 (st:=st) (fun i e s es h=>by
   simp only;rw[Ay _ _ (fun hh=>by rw[hh,hj3]at h;cases h)]
   exact h) p1]
  simp only[Option.map_some,Ac]
  have hn1:(DA st a.dst (id,.arr e size es)).ob j=.none:=by
   rw[hob,Ay _ _ hj2];simp only[kill];rw[if_neg (by simpa using hj2),hj3];rfl
  simp only[put,BA,Option.map_some,hj1,hn1,Ac]at h2;rw[←h2,hob]
  have hobs:upd (kill [id] {fr:=upd st.fr j v,ob:=upd st.ob j ob:St}).ob id (.arr e size es)=upd (upd (kill [id] st).ob id (.arr e size es)) j (BX [id] ob):=by
   funext i;simp only[BZ,kill];by_cases c1:i=id
   ·subst c1;simp[Ne.symm hj2]
   ·by_cases c2:i=j
    ·subst c2;simp[c1]
    ·simp[c1,c2]
  have hfrs:(fun i=>Au [id] (upd st.fr j v i))=upd (fun i=>Au [id] (st.fr i)) j (Au [id] v):=by
   funext i;simp only[BZ];split<;>rfl
  unfold DA;simp only[hobs,hfrs]
  cases had:a.dst with
  |none=>rfl
  |some i=>
   simp only[St.set];rw[Ev _ _ _ (Ne.symm (dcomm i j had hj1))]
end
end WB
