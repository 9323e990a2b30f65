/-
  OWN TEXTS, MERGED (wip/merge.py): CoreTjt, CoreTk, CoreTkt, CoreTl, CoreTm, CoreTn, CoreTne, CoreTo, CoreTq, CoreLb, CoreMc. No condition of their own.
-/
import Derived.Test.YtlglbkbfmhelcaaGreatDoorK4
import Derived.Lib.LaidTab
import Derived.Lib.ItoaNum
import Derived.Lib.TrimByte
import Derived.Lib.AppendIntMem
import Derived.Lib.Bytealg
import Derived.Lib.SlMapMerge
import Derived.Maps.Own
import Derived.StringKeys
set_option linter.unusedVariables false
set_option linter.unusedSimpArgs false
open Go.IntKind (i64 u64 u8 u32)
namespace WB
open Go Go.RowKit
def Ct(N:Nat):Nat→Bool:=fun N'=>N' !=N
def dropB(d N:Nat)(ob:Nat→Ob)(id:Nat):Bool:=id==d||id==N||(match ob id with
 | .arr _ _ es=> !noNamL (Ct N) es
 | .map _ _ _ ks vs=> !(noNamL (Ct N) ks&&noNamL (Ct N) vs)
 |_=>false)
def B4(p:Nat→Bool)(N:Nat):SV→SV
 | .c v=>if Bh (Ct N) v=true then .c v else .undef
 | .stamp id k=>if p id|| !Bh (Ct N) k then .undef else .stamp id k
 | .ent id k v=>if p id|| !Bh (Ct N) k|| !Bh (Ct N) v then .undef else .ent id k v
 |s=>match s.ref with
  |some id=>if p id then .undef else s
  |none=>s
def Hh(p:Nat→Bool)(N:Nat):Ob→Ob
 | .box cs=>.box (cs.map (B4 p N))
 |o=>o
def CC(i d N:Nat)(cs:List SV)(st:St):St:=
 {fr:=fun j=>if j=i then .c (.nam N)else B4 (dropB d N st.ob) N (st.fr j)
  ob:=fun id=>if id=N then .box (cs.map (B4 (dropB d N st.ob) N))else if dropB d N st.ob id then .none else Hh (dropB d N st.ob) N (st.ob id)}
section
variable {P:Program} {G:Nat→List CV} {w0:WL} {M0:MM} {n:Nat} {st:St} {a:Act} {w:World} {z:Cz}
theorem UC{d N:Nat}{ob:Nat→Ob}{id:Nat}(h:dropB d N ob id=false):id≠d∧id≠N:=by
 simp only[dropB,Bool.or_eq_false_iff,beq_eq_false_iff_ne]at h;exact h.1
theorem SR.tell(h:SR P G w0 M0 n st a w z){i d N:Nat}{cs:List SV}(hd:d<At)(hN:At≤N)(hT:¬w0.le.T N)(hI:¬w0.le.I d)(hi:st.fr i=.ptr d 0)(hob:st.ob d=.box cs):
  ∃z',SR P G w0 M0 n (CC i d N cs st) a w z':=by
 have ho:=h.ob d;rw[hob]at ho;obtain⟨g,ty,vs,e1,e2,e3⟩:=ho;have hlive:st.ob d≠ .none:=by rw[hob];simp
 have hblk:blk (z.σ d)=some g:=by rw[e1];rfl
 have hdN:d≠N:=by omega
 generalize hp:dropB d N st.ob=p;have pd:∀id,p id=false→id≠d∧id≠N:=fun id h1=>UC (hp▸h1);let z':Cz:={σ:=upd z.σ N (z.σ d),β:=fun id=>if id=N then fun _ _=>False else z.β id,al:=upd z.al N g};have σN:z'.σ N=z.σ d:=Bk _ _ _;have σne:∀id,id≠N→z'.σ id=z.σ id:=fun id hid=>AM _ _ hid;have βne:∀id,id≠N→z'.β id=z.β id:=fun id hid=>by show(if id=N then _ else _)=_;rw[if_neg hid]
 have obN:(CC i d N cs st).ob N=.box (cs.map (B4 p N)):=by simp[CC,hp]
 have obne:∀id,id≠N→(CC i d N cs st).ob id=if p id then .none else Hh p N (st.ob id):=fun id hid=>by simp[CC,hp,hid]
 have dropLive:∀o,Hh p N o≠ .none↔o≠ .none:=fun o=>by cases o<;>simp[Hh]
 have liveT:∀id,id≠N→(CC i d N cs st).ob id≠ .none→p id=false∧st.ob id≠ .none:=fun id hid hl=>by
  rw[obne id hid]at hl
  cases hpi:p id with
  |true=>rw[hpi]at hl;exact absurd rfl hl
  |false=>
   rw[hpi]at hl;exact⟨rfl,(dropLive _).1 (by simpa using hl)⟩
 have liveO:∀id,p id=false→st.ob id≠ .none→(CC i d N cs st).ob id≠ .none:=fun id hpi hl=>by
  rw[obne id (pd id hpi).2,hpi];simpa using(dropLive _).2 hl
 have hless:∀g',Am M0 z' (CC i d N cs st).ob g'→Am M0 z st.ob g':=fun g' hg=>by
  rcases hg with hg|⟨id,h1,h2⟩
  ·exact .inl hg
  ·by_cases hid:id=N
   ·subst hid;rw[σN]at h2;exact .inr ⟨d,hlive,h2⟩
   ·rw[σne id hid]at h2;exact .inr ⟨id,(liveT id hid h1).2,h2⟩
 have hk:EO (Ct N) w (Am M0 z st.ob) w (Am M0 z' (CC i d N cs st).ob):=⟨Nat.le_refl _,fun _ _ _=>rfl,fun g' _ hg=>hless g' hg,fun N' hN'=>by
  have:N'≠N:=by simpa[Ct]using hN'
  exact AM _ _ this⟩
 have hs:∀{s:SV} {v:Value},As w (Am M0 z st.ob) z st.ob s v→As w (Am M0 z' (CC i d N cs st).ob) z' (CC i d N cs st).ob (B4 p N s) v:=by
  intro s v hv;have hat:∀id,p id=false→st.ob id≠ .none→(CC i d N cs st).ob id≠ .none∧z'.σ id=z.σ id∧z'.β id=z.β id:=fun id hpi hl=>⟨liveO id hpi hl,σne id (pd id hpi).2,βne id (pd id hpi).2⟩
  cases s with
  |c cv=>
   simp only[B4];split
   ·rename_i hn;exact RelC.named hk cv v hn hv
   ·trivial
  |undef=>trivial
  |stamp id k=>
   simp only[B4];split
   ·trivial
   ·rename_i hc;simp only[Aj,not_or,Bool.not_eq_true,Bool.not_eq_true']at hc;obtain⟨hl,b,h1,h2⟩:=hv;obtain⟨q1,_,q3⟩:=hat id hc.1 hl;exact⟨q1,b,by rw[q3];exact h1,h2⟩
  |ent id k u=>
   simp only[B4];split
   ·trivial
   ·rename_i hc;simp only[Aj,not_or,Bool.not_eq_true,Bool.not_eq_true']at hc;obtain⟨hl,b,uv,h1,h2,h3⟩:=hv;obtain⟨q1,_,q3⟩:=hat id hc.1.1 hl;exact⟨q1,b,uv,by rw[q3];exact h1,h2,RelC.named hk u uv (by simpa using hc.2) h3⟩
  |ptr id o=>
   simp only[B4,SV.ref];split
   ·trivial
   ·rename_i hc;obtain⟨hl,gg,h1,h2⟩:=hv;obtain⟨q1,q2,_⟩:=hat id (by simpa using hc) hl;exact⟨q1,gg,q2.trans h1,h2⟩
  |eptr id k sz o=>
   simp only[B4,SV.ref];split
   ·trivial
   ·rename_i hc;obtain⟨hl,gg,nn,c,h1,h2⟩:=hv;obtain⟨q1,q2,_⟩:=hat id (by simpa using hc) hl;exact⟨q1,gg,nn,c,q2.trans h1,h2⟩
  |osl id=>
   simp only[B4,SV.ref];split
   ·trivial
   ·rename_i hc;obtain⟨q1,q2,_⟩:=hat id (by simpa using hc) hv.1;exact⟨q1,hv.2.trans q2.symm⟩
  |omap id=>
   simp only[B4,SV.ref];split
   ·trivial
   ·rename_i hc;obtain⟨q1,q2,_⟩:=hat id (by simpa using hc) hv.1;exact⟨q1,hv.2.trans q2.symm⟩
  |iter id=>
   simp only[B4,SV.ref];split
   ·trivial
   ·rename_i hc;obtain⟨q1,q2,_⟩:=hat id (by simpa using hc) hv.1;exact⟨q1,hv.2.trans q2.symm⟩
 have hss:∀(l:List SV) vs,AE w (Am M0 z st.ob) z st.ob l vs→AE w (Am M0 z' (CC i d N cs st).ob) z' (CC i d N cs st).ob (l.map (B4 p N)) vs:=by
  intro l
  induction l with
  |nil=>intro vs hh;exact hh
  |cons c l ih=>
   intro vs hh;obtain⟨v,vs',e,h1,h2⟩:=hh;exact⟨v,vs',e,hs h1,ih vs' h2⟩
 refine⟨z',h.size,h.defers,h.below,h.outer,⟨h.nam.lent,fun N' cs' hN' hc=> ?_,fun N' hN'=> ?_,h.nam.low⟩,h.glob,fun j=> ?_,fun id=> ?_,fun id g' h1 h2=> ?_,fun k j g' hij h1 h2 h3 h4=> ?_⟩
 ·by_cases hid:N'=N
  ·subst hid;rw[σN,e1];show _=Value.pointer (some ⟨upd z.al N' g N',0,none⟩);rw[Bk]
  ·rw[obne N' hid]at hc;rw[σne N' hid];show _=Value.pointer (some ⟨upd z.al N g N',0,none⟩);rw[AM _ _ hid];split at hc
   ·cases hc
   ·cases ho':st.ob N'<;>rw[ho']at hc<;>cases hc;exact h.nam.told N' _ hN' ho'
 ·show upd z.al N g N'=_;have hne:N'≠N:=fun e=>hT (by rw[←e];exact hN');rw[AM _ _ hne];exact h.nam.names N' hN'
 ·show As w _ z' _ (if j=i then .c (.nam N)else B4 (dropB d N st.ob) N (st.fr j)) _;rw[hp];by_cases hji:j=i
  ·subst hji;rw[if_pos rfl];have hr:=h.fr j;rw[hi]at hr;obtain⟨_,g2,q1,q2⟩:=hr;rw[e1]at q1;cases q1;show RelC w (Am M0 z' (CC j d N cs st).ob) (.nam N) _;unfold RelC;rw[q2];show _=Value.pointer (some ⟨upd z.al N g N,0,none⟩);rw[Bk]
  ·rw[if_neg hji];exact hs (h.fr j)
 ·by_cases hid:id=N
  ·subst hid;rw[obN,σN];exact⟨g,ty,vs,e1,e2,hss cs vs e3⟩
  ·rw[obne id hid,σne id hid]
   cases hpi:p id with
   |true=>simp only[if_true];trivial
   |false=>
    simp only[Ag,if_false];have hoi:=h.ob id;have hdp:dropB d N st.ob id=false:=by rw[hp];exact hpi
    simp only[dropB,Bool.or_eq_false_iff]at hdp;have hm:=hdp.2
    cases hob2:st.ob id with
    |none=>trivial
    |box l=>
     rw[hob2]at hoi;obtain⟨g3,ty3,vs3,q1,q2,q3⟩:=hoi;exact⟨g3,ty3,vs3,q1,q2,hss l vs3 q3⟩
    |arr e size es=>
     rw[hob2]at hoi hm;obtain⟨xs,q1,q2⟩:=hoi;exact⟨xs,q1,AZ.named hk (by simpa using hm) q2⟩
    |map mt kt zc ks vs=>
     rw[hob2]at hoi hm;simp only[Bool.not_eq_false',Af]at hm;obtain⟨hmt,ks',vs',r,ens,clk,hmp,e,g1,g2,g3,g4,g5,g6,g7,g8⟩:=hoi;refine⟨hmt,ks',vs',r,ens,clk,hmp,e,g1,RelL.named hk _ _ (H7.2 fun c hc=>H7.1 hm.1 c (hmp.ks.mem_iff.1 hc)) g2,RelL.named hk _ _ (H7.2 fun c hc=>H7.1 hm.2 c (hmp.vs.mem_iff.1 hc)) g3,g4,g5,g6,g7,fun k b hb=>g8 k b ?_⟩;rw[βne id hid]at hb;exact hb
    |siter s pos=>rw[hob2]at hoi;exact hoi
    |buf e s=>rw[hob2]at hoi;exact hoi
 ·by_cases hid:id=N
  ·subst hid;rw[σN]at h2;have:=h.lo d g' hlive h2;refine⟨this.1.elim .inl fun hL=>absurd (h.nam.lent _ _ hL).2 hI,this.2⟩
  ·rw[σne id hid]at h2;exact h.lo id g' (liveT id hid h1).2 h2
 ·by_cases hk1:k=N
  ·subst hk1;have hj:j≠k:=fun e=>hij e.symm;rw[σN]at h3;rw[σne j hj]at h4;have hl:=liveT j hj h2;exact h.apart d j g' (fun e=>(pd j hl.1).1 e.symm) hlive hl.2 h3 h4
  ·by_cases hj:j=N
   ·subst hj;rw[σN]at h4;rw[σne k hk1]at h3;have hl:=liveT k hk1 h1;exact h.apart k d g' (pd k hl.1).1 hl.2 hlive h3 h4
   ·rw[σne k hk1]at h3;rw[σne j hj]at h4;exact h.apart k j g' hij (liveT k hk1 h1).2 (liveT j hj h2).2 h3 h4
end
theorem AK.tell{le:D6}{st:St}{i d N:Nat}{cs:List SV}(hd:d<At)(hN:At≤N)(hT:¬le.T N)(hI:¬le.I d)(hi:st.fr i=.ptr d 0)(hob:st.ob d=.box cs):AK le st (CC i d N cs st):=fun{P G w0 M0 n a w z} he h=>by
 subst he;exact h.tell hd hN hT hI hi hob
variable {le:D6}
def Fm(le:D6)(E:Env):List SL→(St→Prop)→St→Prop
 | [],Q,st=>∃s,AK le st s∧Q s
 |l::ls,Q,st=>∃s,AK le st s∧∃s',Ba E none l s=some s'∧Fm le E ls Q s'
theorem Sb{E:Env}:∀{ls:List SL} {Q:St→Prop} {st st':St},Ee E none ls st=some st'→Q st'→Fm le E ls Q st
 | [],Q,st,st',h,hq=>by cases h;exact⟨_,AK.refl _,hq⟩
 |l::ls,Q,st,st',h,hq=>by
  simp only[Ee]at h;obtain⟨s,h1,h2⟩:=Ab.1 h;exact⟨st,AK.refl st,s,h1,Sb h2 hq⟩
theorem Sa{E:Env}:∀{ls:List SL} {Q Q':St→Prop} {st:St},(∀s,Q s→Q' s)→Fm le E ls Q st→Fm le E ls Q' st
 | [],_,_,_,h,⟨s,h1,h2⟩=>⟨s,h1,h s h2⟩
 |_::_,_,_,_,h,⟨s,h1,s',h2,h3⟩=>⟨s,h1,s',h2,Sa h h3⟩
theorem XA{E:Env}{ls:List SL}{Q:St→Prop}{st s:St}(h:AK le st s)(hr:Fm le E ls Q s):Fm le E ls Q st:=by
 cases ls with
 |nil=>obtain⟨s',h1,h2⟩:=hr;exact⟨s',h.trans h1,h2⟩
 |cons l ls=>obtain⟨s',h1,h2⟩:=hr;exact⟨s',h.trans h1,h2⟩
def C9(le:D6)(E:Env):Cy→(Ex→St→Prop)→St→Prop
 | .skip,Q,st=>∃s,AK le st s∧Q .normal s
 | .reg true D ls,Q,st=>∃s,AK le st s∧∃st',CL E true D ls s=some st'∧Q .normal st'
 | .reg false D ls,Q,st=>∃s,AK le st s∧Fm le E ls (Q .normal) (if D.isEmpty then s else kill D s)
 | .regE D ls,Q,st=>∃s,AK le st s∧∃st',(CL E true D ls s=some st'∨Iz E D ls s=some st')∧Q .normal st'
 | .seq a b,Q,st=>∃s,AK le st s∧C9 le E a (fun e s'=>match e with| .normal=>C9 le E b Q s'|e=>Q e s') s
 | .cond c x y,Q,st=>∃s,AK le st s∧∃b,so E.G s.fr c=.c (.bool b)∧(b=true→C9 le E x Q s)∧(b=false→C9 le E y Q s)
 | .block id c,Q,st=>∃s,AK le st s∧C9 le E c (fun e s'=>match e with| .exit i=>if i=id then Q .normal s' else Q (.exit i) s'|e=>Q e s') s
 | .loop c,Q,st=>∃s,AK le st s∧∃(R:Nat→St→Prop),(∃m,R m s)∧∀m s,R m s→C9 le E c (fun e s'=>match e with| .normal=>∃k,k<m∧R k s'|e=>Q e s') s
 | .exit id,Q,st=>∃s,AK le st s∧Q (.exit id) s
 | .ret,Q,st=>∃s,AK le st s∧Q .ret s
 | .bad,_,_=>False
theorem RK{E:Env}{c:Cy}{Q:Ex→St→Prop}{st s:St}(h:AK le st s)(hp:C9 le E c Q s):C9 le E c Q st:=by
 cases c
 case reg draw D ls=>
  cases draw<;>(obtain⟨s',h1,h2⟩:=hp;exact⟨s',h.trans h1,h2⟩)
 all_goals first|(exact hp.elim)|(obtain⟨s',h1,h2⟩:=hp;exact⟨s',h.trans h1,h2⟩)
theorem RI{E:Env}{draw:Bool}{D:List Nat}{ls:List SL}{Q:Ex→St→Prop}{st st':St}(h:CL E draw D ls st=some st')(hq:Q .normal st'):C9 le E (.reg draw D ls) Q st:=by
 cases draw with
 |true=>exact⟨st,AK.refl st,st',h,hq⟩
 |false=>exact⟨st,AK.refl st,Sb (by simpa[CL]using h) hq⟩
theorem DT{E:Env}:∀(c:Cy) {Q Q':Ex→St→Prop} {st:St},(∀e s,Q e s→Q' e s)→C9 le E c Q st→C9 le E c Q' st
 | .skip,Q,Q',st,h,⟨s,hs,hp⟩=>⟨s,hs,h _ _ hp⟩
 | .reg true _ _,Q,Q',st,h,⟨s,hs,s',h1,h2⟩=>⟨s,hs,s',h1,h _ _ h2⟩
 | .reg false _ _,Q,Q',st,h,⟨s,hs,h1⟩=>⟨s,hs,Sa (h .normal) h1⟩
 | .regE _ _,Q,Q',st,h,⟨s,hs,s',h1,h2⟩=>⟨s,hs,s',h1,h _ _ h2⟩
 | .seq a b,Q,Q',st,h,⟨s,hs,hp⟩=>by
  refine⟨s,hs,DT a (fun e s hs=> ?_) hp⟩
  cases e with
  |normal=>exact DT b h hs
  |exit i=>exact h _ _ hs
  |ret=>exact h _ _ hs
 | .cond c x y,Q,Q',st,h,⟨s,hs,b,h1,h2,h3⟩=>⟨s,hs,b,h1,fun hb=>DT x h (h2 hb),fun hb=>DT y h (h3 hb)⟩
 | .block id c,Q,Q',st,h,⟨s,hs,hp⟩=>by
  refine⟨s,hs,DT c (fun e s hs=> ?_) hp⟩
  cases e with
  |normal=>exact h _ _ hs
  |exit i=>
   simp only at hs⊢;split<;>rename_i hi
   ·rw[if_pos hi]at hs;exact h _ _ hs
   ·rw[if_neg hi]at hs;exact h _ _ hs
  |ret=>exact h _ _ hs
 | .loop c,Q,Q',st,h,⟨s,hs,R,h1,h2⟩=>by
  refine⟨s,hs,R,h1,fun m s hs=>DT c (fun e s' hs'=> ?_) (h2 m s hs)⟩
  cases e with
  |normal=>exact hs'
  |exit i=>exact h _ _ hs'
  |ret=>exact h _ _ hs'
 | .exit i,Q,Q',st,h,⟨s,hs,hp⟩=>⟨s,hs,h _ _ hp⟩
 | .ret,Q,Q',st,h,⟨s,hs,hp⟩=>⟨s,hs,h _ _ hp⟩
 | .bad,Q,Q',st,h,hp=>hp.elim
section
variable {P:Program} {E:Env} {w0:WL} {M0:MM} {n:Nat}
theorem Sc(hE:EOk P E)(hle:w0.le=le){ops:Array Oper}{all:List SL}(hc:Ap (E1 P n ops) ops.toList=some all){Q:St→Prop}{K:Exit→Act→World→Prop}(hK:∀s a w z,Q s→SR P E.G w0 M0 n s a w z→K .normal a w):∀{ls pre:List SL} {st:St} {a:Act} {w:World} {z:Cz},all=pre++ls→SR P E.G w0 M0 n st a w z→Fm le E ls Q st→wpOps P ops K (List.range' pre.length ls.length) a w
 | [],pre,st,a,w,z,he,h,hr=>by
  obtain⟨s,h1,h2⟩:=hr;obtain⟨z',h'⟩:=h1 hle h;exact hK _ _ _ _ h2 h'
 |l::ls,pre,st,a,w,z,he,h,hr=>by
  obtain⟨s,h1,s',h2,h3⟩:=hr;obtain⟨z',h'⟩:=h1 hle h;have hlen:=DY hc;have hl:all[pre.length]? =some l:=by rw[he];simp
  have hi:pre.length<ops.toList.length:=by rw[←hlen];exact(Ae.1 hl).1
  have ho:ops.toList[pre.length]? =some (ops.toList[pre.length]):=Ai hi;obtain⟨l',g1,g2⟩:=Jz hc ho;rw[hl]at g1;simp only[Ac]at g1;subst g1;have ho':ops[pre.length]? =some (ops.toList[pre.length]):=by rw[←Array.getElem?_toList];exact ho
  rw[List.length_cons,List.range'_succ];refine Qe hE h' ho' g2 h2 fun a' w' z'' hS=> ?_;have:=Sc hE hle hc hK (ls:=ls) (pre:=pre++ [l]) (by rw[he];simp) hS h3;simpa using this
theorem ES(hE:EOk P E)(hle:w0.le=le):∀(c:Code) {sc:Cy} {Q:Ex→St→Prop} {st:St} {a:Act} {w:World} {z:Cz},Bw P n c=some sc→SR P E.G w0 M0 n st a w z→C9 le E sc Q st→c.wp P (Jw P E w0 M0 n Q) a w
 | .skip,sc,Q,st,a,w,z,hc,h,hp=>by
  simp only[Bw,Ac]at hc;subst hc;obtain⟨s,hs,hp⟩:=hp;obtain⟨z',h'⟩:=hs hle h;exact wp_skip ⟨.normal,s,z',rfl,hp,h'⟩
 | .region id ops draw,sc,Q,st,a,w,z,hc,h,hp=>by
  have hc':=hc;simp only[Bw]at hc'
  have:sc=.bad∨(∃dr D l,sc=.reg dr D l)∨∃D l,sc=.regE D l:=by
   split at hc'
   ·split at hc'
    ·split at hc'
     ·cases hc';exact .inr (.inr ⟨_,_,rfl⟩)
     ·split at hc'
      ·cases hc';exact .inr (.inl ⟨_,_,_,rfl⟩)
      ·cases hc';exact .inl rfl
    ·cases hc';exact .inr (.inl ⟨_,_,_,rfl⟩)
   ·cases hc';exact .inl rfl
  rcases this with rfl|⟨dr,D,l,rfl⟩|⟨D,l,rfl⟩
  ·exact hp.elim
  case inr.inr=>
   obtain⟨s,hs,hp⟩:=hp;obtain⟨z',h'⟩:=hs hle h;exact N3 hE hc h' hp
  cases dr with
  |true=>
   obtain⟨s,hs,hp⟩:=hp;obtain⟨z',h'⟩:=hs hle h;exact N3 hE hc h' hp
  |false=>
   obtain⟨s,hs,hp⟩:=hp;obtain⟨z',h'⟩:=hs hle h;simp only[Bw]at hc;split at hc
   case h_2=>cases hc
   rename_i ls hls;split at hc
   ·split at hc
    ·cases hc
    ·split at hc<;>cases hc
   ·cases hc
    have start:∃z'',SR P E.G w0 M0 n (if(H6 P ops.toList l).isEmpty then s else kill (H6 P ops.toList l) s) a w z'':=by
     split
     ·exact⟨z',h'⟩
     ·exact⟨z',h'.killed _⟩
    obtain⟨z'',h''⟩:=start;have hdr:draw=false:=by simpa using ‹¬draw=true›
    subst hdr;refine wp_region ?_;have hlen:=DY hls;rw[List.range_eq_range',←Array.length_toList,←hlen];exact Sc hE hle hls (fun s' a' w' z3 hq hS=>⟨.normal,s',z3,rfl,hq,hS⟩) (pre:= []) rfl h'' hp
 | .seq x y,sc,Q,st,a,w,z,hc,h,hp=>by
  simp only[Bw,Ab,Aa]at hc;obtain⟨sx,hx,sy,hy,rfl⟩:=hc;obtain⟨s,hs,hp⟩:=hp;obtain⟨z',h'⟩:=hs hle h;refine wp_seq (wp_mono (ES hE hle x hx h' hp) fun e a' w' hpost=> ?_);obtain⟨e',st',z',he,hq,hS⟩:=hpost;subst he
  cases e' with
  |normal=>exact ES hE hle y hy hS hq
  |exit i=>exact⟨.exit i,st',z',rfl,hq,hS⟩
  |ret=>exact⟨.ret,st',z',rfl,hq,hS⟩
 | .cond c x y,sc,Q,st,a,w,z,hc,h,hp=>by
  simp only[Bw,Ab,Aa]at hc;obtain⟨so',hso,sx,hx,sy,hy,rfl⟩:=hc;obtain⟨s,hs,b,h1,h2,h3⟩:=hp;obtain⟨z',h'⟩:=hs hle h;have hr:=h'.ctx.c hso h1;have hb:=CU hr;exact wp_cond_split hb (fun hh=>ES hE hle x hx h' (h2 hh)) (fun hh=>ES hE hle y hy h' (h3 hh))
 | .block id c,sc,Q,st,a,w,z,hc,h,hp=>by
  simp only[Bw,Aa]at hc;obtain⟨sx,hx,rfl⟩:=hc;obtain⟨s,hs,hp⟩:=hp;obtain⟨z',h'⟩:=hs hle h;refine wp_block (wp_mono (ES hE hle c hx h' hp) fun e a' w' hpost=> ?_);obtain⟨e',st',z',he,hq,hS⟩:=hpost;subst he
  cases e' with
  |normal=>exact⟨.normal,st',z',rfl,hq,hS⟩
  |exit i=>
   simp only at hq;show(if i=id then _ else _);split at hq
   ·rename_i hi;rw[if_pos hi];exact⟨.normal,st',z',rfl,hq,hS⟩
   ·rename_i hi;rw[if_neg hi];exact⟨.exit i,st',z',rfl,hq,hS⟩
  |ret=>exact⟨.ret,st',z',rfl,hq,hS⟩
 | .loop c,sc,Q,st,a,w,z,hc,h,hp=>by
  simp only[Bw,Aa]at hc;obtain⟨sx,hx,rfl⟩:=hc;obtain⟨s0,hs0,R,⟨m,hm⟩,hr⟩:=hp;obtain⟨z0',h'⟩:=hs0 hle h;refine wp_loop_ghost (fun k a w=>∃s z,R k s∧SR P E.G w0 M0 n s a w z) m ⟨s0,z0',hm,h'⟩ fun k a' w' hI=> ?_;obtain⟨s,z',hR,hS⟩:=hI;refine wp_mono (ES hE hle c hx hS (hr k s hR)) fun e a'' w'' hpost=> ?_;obtain⟨e',st',z'',he,hq,hS'⟩:=hpost;subst he
  cases e' with
  |normal=>
   obtain⟨k',hk',hR'⟩:=hq;exact⟨k',hk',st',z'',hR',hS'⟩
  |exit i=>exact⟨.exit i,st',z'',rfl,hq,hS'⟩
  |ret=>exact⟨.ret,st',z'',rfl,hq,hS'⟩
 | .exit i,sc,Q,st,a,w,z,hc,h,hp=>by
  simp only[Bw,Ac]at hc;subst hc;obtain⟨s,hs,hp⟩:=hp;obtain⟨z',h'⟩:=hs hle h;exact wp_exit ⟨.exit i,s,z',rfl,hp,h'⟩
 | .label l,sc,Q,st,a,w,z,hc,h,hp=>by
  simp only[Bw,Ac]at hc;subst hc;obtain⟨s,hs,hp⟩:=hp;obtain⟨z',h'⟩:=hs hle h;exact wp_label ⟨.normal,s,z',rfl,hp,h'⟩
 | .scope c,sc,Q,st,a,w,z,hc,h,hp=>by
  simp only[Bw]at hc;refine wp_scope_straight (wp_mono (ES hE hle c hc h hp) fun e a' w' hpost=> ?_);obtain⟨e',st',z',he,hq,hS⟩:=hpost;subst he;cases e'<;>exact⟨_,st',z',rfl,hq,hS⟩
 | .ret,sc,Q,st,a,w,z,hc,h,hp=>by
  simp only[Bw,Ac]at hc;subst hc;obtain⟨s,hs,hp⟩:=hp;obtain⟨z',h'⟩:=hs hle h;exact wp_ret ⟨.ret,s,z',rfl,hp,h'⟩
 | .goto _,sc,Q,st,a,w,z,hc,h,hp=>by cases hc;exact hp.elim
 | .rangeFunc _ _ _ _,sc,Q,st,a,w,z,hc,h,hp=>by cases hc;exact hp.elim
 | .refuse _,sc,Q,st,a,w,z,hc,h,hp=>by cases hc;exact hp.elim
def Vg(rs:List Bd)(t:Ty)(y:D t)(e:Ex)(st:St):Prop:=
 match e with
 | .exit _=>False
 |_=>∃c,D2 st rs=some c∧Can t y [c]
theorem Vk(hE:EOk P E){f:FuncId}{m:GK}(hc:CD P f=some m){l:List CV}{t:Ty}{y:D t}(hl:l.length≤m.n)(h:C9 .no E m.code (Vg m.res t y) (Eh l)):Bm P f=true∧CallsTo P E.G f l (.val (enc t y)):=by
 unfold CD at hc;split at hc<;>(try cases hc;done);rename_i hb;refine⟨hb, ?_⟩;simp only[Ab,Aa,Ad]at hc;obtain⟨fn,hf,b,hbody,hn,c,hcode,rs,hrs,rfl⟩:=hc;intro w M vs hM hG hL;refine calls_of_wp hf hbody (wp_mono (ES hE rfl b hcode (Qx hM hG hl hL (Ah hn)) h) fun e a' w' hpost=> ?_);obtain⟨e',st',z',he,hq,hS⟩:=hpost;subst he
 have fin_:(∃c,D2 st' rs=some c∧Can t y [c])→a'.defers= []∧∃v,(results fn a'.tmps).run P w'=.ok v w'∧∃u,Ending.returned v=.returned u∧Below w.heap.size w w'∧Ez P w' M w.heap.size u (.val (enc t y)):=fun⟨c,hr,hcan⟩=>by
  obtain⟨v,h1,h2⟩:=RY hS hrs hr;exact⟨hS.defers,v,h1,v,rfl,MR.1 hS.below,RelC.enc hcan (QL hS h2)⟩
 cases e' with
 |normal=>exact fin_ hq
 |exit i=>exact hq.elim
 |ret=>exact fin_ hq
end
def Ty.noN(N:Nat):Ty→Bool
 | .nam M| .bptr M=>M !=N
 | .agg r| .tup r| .pt r| .clo _ r| .sl r| .one r=>r.noN N
 | .falt _ r l=>r.noN N&&l.noN N
 | .map k v=>k.noN N&&v.noN N
 | .cons t r=>t.noN N&&r.noN N
 | .nw _ _ t=>t.noN N
 |_=>true
theorem DQ{T:Nat→Bool}{c:CV}:noNamL T [c]=Bh T c:=by simp[noNamL]
theorem Ga{T:Nat→Bool}{α:Type}{R:α→CV→Prop}:∀{xs:List α} {es:List CV},(∀x c,R x c→Bh T c=true)→Aq R xs es→noNamL T es=true
 | [],es,_,h=>by unfold Aq at h;subst h;rfl
 |x::xs,es,f,h=>by
  obtain⟨c,es',rfl,h1,h2⟩:=h;simp[noNamL,f x c h1,Ga f h2]
theorem Can.noN{N:Nat}:∀{t:Ty} {x:D t} {cs:List CV},t.noN N=true→Can t x cs→noNamL (Ct N) cs=true:=by
 intro t
 induction t with
 |nam M=>intro x cs h hc;unfold Can at hc;subst hc;simpa[noNamL,Bh,Ct,Ty.noN]using h
 |bptr M=>
  intro x cs h hc;unfold Can at hc;rcases hc with rfl|rfl|rfl
  ·simpa[noNamL,Bh,Ct,Ty.noN]using h
  ·simpa[noNamL,Bh,Ct,Ty.noN]using h
  ·rfl
 |agg r ih=>intro x cs h hc;unfold Can at hc;obtain⟨l,rfl,hc⟩:=hc;rw[DQ];exact ih h hc
 |tup r ih=>intro x cs h hc;unfold Can at hc;obtain⟨l,rfl,hc⟩:=hc;rw[DQ];exact ih h hc
 |pt r ih=>intro x cs h hc;unfold Can at hc;obtain⟨l,rfl,hc⟩:=hc;rw[DQ];exact ih h hc
 |clo f r ih=>intro x cs h hc;unfold Can at hc;obtain⟨l,rfl,hc⟩:=hc;rw[DQ];exact ih h hc
 |falt f r l ih ihl=>
  intro x cs h hc;simp only[Ty.noN,Af]at h
  cases x with
  |inl y=>unfold Can at hc;obtain⟨cap,rfl,hc⟩:=hc;rw[DQ];exact ih h.1 hc
  |inr y=>unfold Can at hc;exact ihl h.2 hc.2
 |sl e ih=>
  intro x cs h hc;unfold Can at hc;obtain⟨nl,es,rfl,hc⟩:=hc;rw[DQ];exact Ga (fun y c hy=>by rw[←DQ];exact ih h hy) hc
 |map k v ihk ihv=>
  intro x cs h hc;simp only[Ty.noN,Af]at h;unfold Can at hc;obtain⟨nl,ks,vs,rfl,h1,h2⟩:=hc;rw[DQ];simp only[Bh,Af];exact⟨Ga (fun y c hy=>by rw[←DQ];exact ihk h.1 hy) h1,Ga (fun y c hy=>by rw[←DQ];exact ihv h.2 hy) h2⟩
 |one t ih=>intro x cs h hc;unfold Can at hc;obtain⟨c,rfl,hc⟩:=hc;exact ih h hc
 |cons t r iht ihr=>
  intro x cs h hc;simp only[Ty.noN,Af]at h;unfold Can at hc;obtain⟨c,l,rfl,h1,h2⟩:=hc;have h3:=iht h.1 h1;rw[DQ]at h3;simp[noNamL,h3,ihr h.2 h2]
 |nw e s t _=>intro x cs h hc;unfold Can at hc;exact hc.elim
 |err=>intro x cs _ hc;unfold Can at hc;subst hc;cases x<;>rfl
 |_=>intro x cs _ hc;unfold Can at hc;subst hc;rfl
theorem Can.noN1{N:Nat}{t:Ty}{x:D t}{c:CV}(h:t.noN N=true)(hc:Can t x [c]):Bh (Ct N) c=true:=by
 rw[←DQ];exact Can.noN h hc
def H5(N:Nat):EK→Bool
 | .v t=>t.noN N
 | .opt k=>H5 N k
 | .rp ex r=>ex&&r.noN N
 | .ent _ k v=>k.noN N&&v.noN N
 | .stamp _ k=>k.noN N
 |_=>true
def okO(N:Nat):EK→Bool
 | .arr _ _ t=>t.noN N
 | .mob _ k v=>k.noN N&&v.noN N
 | .box _| .sit| .buf _=>true
 |_=>false
def okK(d N:Nat)(Γ:TC):Key→EK→Bool
 | .o id,k=>id !=d&&id !=N&&(okO N k||k==.gone)
 | .s _,k| .c _ _,k=>H5 N k&&(match k.refs with
  |some id=>id !=d&&id !=N&&(match BI Γ (.o id)with
   |some ko=>okO N ko
   |none=>false)
  |none=>true)
def Eu(d N:Nat)(Γ:TC):List Key:=(Γ.map (·.1)).filter fun p=>match BI Γ p with
 |some k=> !okK d N Γ p k
 |none=>false
theorem RS.drop{p:Nat→Bool}{N:Nat}{k:EK}{x:DK k}{sv:SV}(h:RS k x sv)(hk:H5 N k=true)(hn:∀id,k.refs=some id→p id=false):RS k x (B4 p N sv):=by
 induction k
 case v t=>
  obtain⟨c,rfl,hc⟩:=h;refine⟨c, ?_,hc⟩;simp only[B4];rw[if_pos (Can.noN1 hk hc)]
 case opt k ih=>
  unfold RS at h⊢
  cases x with
  |none=>simp only at h;subst h;rfl
  |some y=>exact ih h hk hn
 case rp ex r=>
  obtain⟨cs,rest,rfl,hc,hr⟩:=h;simp only[H5,Af]at hk;have:=hr hk.1;subst this;refine⟨cs,[], ?_,hc,fun _=>rfl⟩;simp only[B4]
  have h2:Bh (Ct N) (.rp (cs++ []))=true:=by
   rw[List.append_nil];exact Can.noN hk.2 hc
  rw[if_pos h2]
 case undef=>trivial
 case ptr id o=>have:=hn id rfl;unfold RS at h;subst h;simp[RS,B4,SV.ref,this]
 case eptr id s o=>have:=hn id rfl;unfold RS at h;subst h;simp[RS,B4,SV.ref,this]
 case aptr id n o=>have:=hn id rfl;obtain⟨h,hi⟩:=h;subst h;exact⟨by simp[B4,SV.ref,this],hi⟩
 case own id=>have:=hn id rfl;unfold RS at h;subst h;simp[RS,B4,SV.ref,this]
 case mp id=>have:=hn id rfl;unfold RS at h;subst h;simp[RS,B4,SV.ref,this]
 case iter id=>have:=hn id rfl;unfold RS at h;subst h;simp[RS,B4,SV.ref,this]
 case ent id k v=>
  have:=hn id rfl;simp only[H5,Af]at hk;obtain⟨ck,cv,rfl,h1,h2⟩:=h;refine⟨ck,cv, ?_,h1,h2⟩;simp[B4,this,Can.noN1 hk.1 h1,Can.noN1 hk.2 h2]
 case stamp id k=>
  have:=hn id rfl;obtain⟨ck,rfl,h1⟩:=h;refine⟨ck, ?_,h1⟩;simp[B4,this,Can.noN1 hk h1]
 all_goals exact h.elim
section
variable {Γ:TC} {ρ:HS Γ} {st:St}
theorem Rh{d N:Nat}{p:Key}{k:EK}{f:HS Γ→DK k}(hg:get Γ p=some ⟨k,f⟩)(hp:p∉Eu d N Γ):okK d N Γ p k=true:=by
 have hk:=Bq hg
 cases hc:okK d N Γ p k with
 |true=>rfl
 |false=>
  exfalso;apply hp;unfold Eu;rw[List.mem_filter];refine⟨E7 hk, ?_⟩;simp only at hk;simp only[hk,hc,Bool.not_false]
theorem Rep.dropB(h:Rep Γ ρ st){d N id:Nat}{ko:EK}(h1:id≠d)(h2:id≠N)(hk:BI Γ (.o id)=some ko)(ho:okO N ko=true):WB.dropB d N st.ob id=false:=by
 obtain⟨f,hf⟩:=Hr hk;have hob:=h.o id _ hf;simp only[WB.dropB,Bool.or_eq_false_iff,beq_eq_false_iff_ne];refine⟨⟨h1,h2⟩, ?_⟩;cases ko<;>simp only[okO,Ag]at ho
 case box n=>obtain⟨cs,e,_⟩:=hob;rw[e]
 case arr e size t=>obtain⟨es,e,hc⟩:=hob;rw[e];simp[Ga (T:=Ct N) (fun y c hy=>Can.noN1 ho hy) hc]
 case mob mt k v=>
  obtain⟨z,ks,vs,e,_,h3,h4⟩:=hob;simp only[Af]at ho;rw[e];simp[Ga (T:=Ct N) (fun y c hy=>Can.noN1 ho.1 hy) h3,Ga (T:=Ct N) (fun y c hy=>Can.noN1 ho.2 hy) h4]
 case sit=>unfold RO at hob;rw[hob]
 case buf e=>unfold RO at hob;rw[hob]
def It(d N:Nat)(st:St):St:=
 {fr:=fun j=>B4 (WB.dropB d N st.ob) N (st.fr j),ob:=fun id=>if WB.dropB d N st.ob id then .none else Hh (WB.dropB d N st.ob) N (st.ob id)}
theorem Rep.drop(h:Rep Γ ρ st)(d N:Nat):Rep (goT [d,N] (shT (Eu d N Γ) Γ)) (goP [d,N] (shP (Eu d N Γ) ρ)) (It d N st):=by
 have AS:∀p q,(∀d',p≠ .o d')→get (goT [d,N] (shT (Eu d N Γ) Γ)) p=some q→q.1=.undef∨∃f,get Γ p=some ⟨q.1,f⟩∧q.2 (goP [d,N] (shP (Eu d N Γ) ρ))=f ρ∧H5 N q.1=true∧∀id,q.1.refs=some id→WB.dropB d N st.ob id=false:=by
  intro p q hp hq;rcases Hq (shP (Eu d N Γ) ρ) hq with⟨d',_,h1,_⟩|⟨_,f,hf,e⟩
  ·exact absurd h1 (hp d')
  ·rcases Hs ρ hf with⟨_,h2⟩|⟨h2,g,hg,e2⟩
   ·exact .inl h2
   ·have hok:=Rh hg h2;refine .inr ⟨g,hg,e.trans e2, ?_⟩
    cases p with
    |o id=>exact absurd rfl (hp id)
    |s i=>
     simp only[okK,Af]at hok;refine⟨hok.1,fun id hid=> ?_⟩;have h3:=hok.2;rw[hid]at h3;simp only[Af,bne_iff_ne]at h3
     cases hko:BI Γ (.o id)with
     |none=>rw[hko]at h3;cases h3.2
     |some ko=>rw[hko]at h3;exact Rep.dropB h h3.1.1 h3.1.2 hko h3.2
    |c i j=>
     simp only[okK,Af]at hok;refine⟨hok.1,fun id hid=> ?_⟩;have h3:=hok.2;rw[hid]at h3;simp only[Af,bne_iff_ne]at h3
     cases hko:BI Γ (.o id)with
     |none=>rw[hko]at h3;cases h3.2
     |some ko=>rw[hko]at h3;exact Rep.dropB h h3.1.1 h3.1.2 hko h3.2
 refine⟨fun i q hq=> ?_,fun id q hq=> ?_⟩
 ·rcases AS _ q (by simp) hq with h1|⟨f,hf,e,hn,hr⟩
  ·obtain⟨k,fq⟩:=q;subst h1
   trivial
  ·rw[e];exact RS.drop (h.s i _ hf) hn hr
 ·rcases Hq (shP (Eu d N Γ) ρ) hq with⟨d',hd',h1,h2⟩|⟨hne,f,hf,e⟩
  ·obtain⟨k,fq⟩:=q;simp only at h2;subst h2;have hid:id=d':=by simpa using h1
   subst hid;show(if WB.dropB d N st.ob id then Ob.none else _)=Ob.none
   have:WB.dropB d N st.ob id=true:=by
    simp only[List.mem_cons,List.not_mem_nil,or_false]at hd';rcases hd' with rfl|rfl<;>simp[WB.dropB]
   rw[if_pos this]
  ·rcases Hs ρ hf with⟨_,h2⟩|⟨h2,g,hg,e2⟩
   ·obtain⟨k,fq⟩:=q;simp only at h2;subst h2
    trivial
   ·have hok:=Rh hg h2;have hob:=h.o id _ hg;have e3:=e.trans e2;rw[e3];simp only[okK,Af,bne_iff_ne,Aj,beq_iff_eq]at hok;obtain⟨⟨h3,h4⟩,h5⟩:=hok;obtain⟨k,fq⟩:=q;simp only at h5 hob⊢;show RO _ _ id k _ (if WB.dropB d N st.ob id then Ob.none else Hh (WB.dropB d N st.ob) N (st.ob id));rcases h5 with h5|h5
    ·have hdb:=Rep.dropB h h3 h4 (Bq hg) h5;rw[hdb];simp only[Ag,if_false];cases k<;>simp only[okO,Ag]at h5
     case box n=>
      obtain⟨cs,e1,hl,hc⟩:=hob;rw[e1];refine⟨_,rfl,by simpa using hl,fun j q' hj hq'=> ?_⟩;rcases AS _ q' (by simp) hq' with h6|⟨f',hf',e',hn',hr'⟩
      ·obtain⟨k',fq'⟩:=q';subst h6;have hlt:j<cs.length:=by omega
       exact⟨B4 (WB.dropB d N st.ob) N cs[j],by simp[hlt],trivial⟩
      ·obtain⟨sv,h7,h8⟩:=hc j _ hj hf';refine⟨_,by rw[List.getElem?_map,h7];rfl, ?_⟩;rw[e'];exact RS.drop h8 hn' hr'
     case arr e' size t=>obtain⟨es,e1,hc⟩:=hob;rw[e1];exact⟨es,rfl,hc⟩
     case mob mt kk v=>obtain⟨z,ks,vs,e1,hc⟩:=hob;rw[e1];exact⟨z,ks,vs,rfl,hc⟩
     case sit=>unfold RO at hob⊢;rw[hob];rfl
     case buf e'=>unfold RO at hob⊢;rw[hob];rfl
    ·subst h5;have h6:st.ob id=.none:=hob;rw[h6];split<;>rfl
theorem Rep.newBox{Γc:TC}{ρc:HS Γc}{N:Nat}{ko:EK}{y:DK ko}{o:Ob}(h:Rep Γ ρ st)(hx:Dc N Γ ρ Γc ρc)(ho:RO Γc ρc N ko y o):Rep ((.o N,ko)::Γc) (y,ρc) {st with ob:=upd st.ob N o}:=by
 have down:∀p q,p≠ .o N→get ((.o N,ko)::Γc) p=some q→∃f,get Γc p=some ⟨q.1,f⟩∧q.2 (y,ρc)=f ρc:=by
  intro p q h2 hq;obtain⟨f,hf,e⟩:=BW (Ne.symm h2) hq;exact⟨f,hf,e _⟩
 refine⟨fun i q hq=> ?_,fun id q hq=> ?_⟩
 ·obtain⟨f,hf,e⟩:=down _ q (by simp) hq;rcases hx _ _ hf with⟨j,hj⟩|⟨g,hg,e2⟩
  ·cases hj
  ·have e3:=e.trans e2;rw[e3];exact h.s i _ hg
 ·by_cases hi:id=N
  ·subst hi;rw[C7]at hq;cases hq;simp only[upd,if_true];exact RO.congr ho fun j q' hq'=>down _ q' (by simp) hq'
  ·obtain⟨f,hf,e⟩:=down _ q (by simpa using hi) hq;rcases hx _ _ hf with⟨j,hj⟩|⟨g,hg,e2⟩
   ·cases hj
   ·have:=h.o id _ hg;simp only at e2;rw[e];simp only[upd,hi,if_false];rw[e2];refine RO.congr this fun j q' hq'=> ?_;obtain⟨f',hf',e'⟩:=down _ q' (by simp) hq';rcases hx _ _ hf' with⟨j',hj'⟩|⟨g',hg',e2'⟩
    ·cases hj';exact absurd rfl hi
    ·exact⟨g',hg',e'.trans e2'⟩
end
inductive Gh where
 |own (i id e size:Nat)
 |ownc (b j id e size:Nat)
 |frz (i:Nat)
 |frzc (b j:Nat)
 |frzb (i:Nat)
 |tell (i N:Nat)
structure GhD (Γ:TC) where
 Γ':TC
 up:HS Γ→HS Γ'
def Qr(o:Option TC)(Γ:TC):Gh→Bool
 | .frz i| .frzb i=>match BI Γ (.s i)with
  |some k=>match k.refs with
   |some id=>Ky o id
   |none=>false
  |none=>false
 | .frzc b j=>match BI Γ (.c b j)with
  |some k=>match k.refs with
   |some id=>Ky o id
   |none=>false
  |none=>false
 |_=>false
theorem Km{o:Option TC}{Γ:TC}{p:Key}{k:EK}{f:HS Γ→DK k}{id:Nat}(h:(match BI Γ p with
  |some k=>match k.refs with
   |some id=>Ky o id
   |none=>false
  |none=>false)=false) (hg:get Γ p=some ⟨k,f⟩) (hk:k.refs=some id):¬(Ej o).I id:=by
 have:=Bq hg;simp only at this;rw[this]at h;simp only[hk]at h;exact Wv h
def NT(o:Option TC)(Γ:TC)(i N:Nat):Option (GhD Γ):=
 match o with
 |none=>none
 |some Θ=>if(AJ Θ).contains N=true∨Nat.ble At N=false then none else
  match get Γ (.s i)with
  |some ⟨.ptr d 0,_⟩=>if(AJ Θ).contains d=true∨Nat.ble At d=true then none else
   match get Γ (.o d)with
   |some ⟨.box (n+1),_⟩=>match Gi Γ d n 0 with
    |some p=>if p.1.noN N=true∧Bb p.1=some (n+1)then match Fi N 0 p.1 (goT [d,N] (shT (Eu d N Γ) Γ))with
     |some q=>some ⟨(.s i,.v (.nam N))::(.o N,.box (n+1))::q.1,fun ρ=>((),(),q.2 (goP [d,N] (shP (Eu d N Γ) ρ)) (p.2 ρ))⟩
     |none=>none
     else none
    |none=>none
   |_=>none
  |_=>none
def Ht(X:TP)(Γ:TC):Gh→Option (GhD Γ)
 | .tell i N=>NT X.Θ Γ i N
 | .own i id e size=>match get (Bx [id] Γ) (.s i),X.TT e with
  |some ⟨.v .nsl,_⟩,some t=>some ⟨(.s i,.own id)::(.o id,.arr e size t)::Bx [id] Γ,fun ρ=>((),[],B8 [id] ρ)⟩
  |_,_=>none
 | .ownc b j id e size=>match X.TT e with
  |some t=>match get ((.o id,.arr e size t)::Bx [id] Γ) (.o b),get ((.o id,.arr e size t)::Bx [id] Γ) (.c b j)with
   |some ⟨.box n,_⟩,some ⟨.v .nsl,_⟩=>if j<n∧b≠id then some ⟨(.c b j,.own id)::(.o id,.arr e size t)::Bx [id] Γ,fun ρ=>((),[],B8 [id] ρ)⟩else none
   |_,_=>none
  |none=>none
 | .frz i=>match get Γ (.s i)with
  |some ⟨.own id,_⟩=>match get Γ (.o id)with
   |some ⟨.arr _ _ t,xs⟩=>some ⟨(.s i,.v (.sl t))::Bx [id] Γ,fun ρ=>(xs ρ,B8 [id] ρ)⟩
   |_=>none
  |some ⟨.mp id,_⟩=>match get Γ (.o id)with
   |some ⟨.mob _ k v,xs⟩=>some ⟨(.s i,.v (.map k v))::Bx [id] Γ,fun ρ=>(xs ρ,B8 [id] ρ)⟩
   |_=>none
  |_=>none
 | .frzc b j=>match get Γ (.o b),get Γ (.c b j)with
  |some ⟨.box n,_⟩,some ⟨.own id,_⟩=>match get Γ (.o id),get (Bx [id] Γ) (.o b)with
   |some ⟨.arr _ _ t,xs⟩,some ⟨.box n',_⟩=>if j<n∧j<n' then some ⟨(.c b j,.v (.sl t))::Bx [id] Γ,fun ρ=>(xs ρ,B8 [id] ρ)⟩else none
   |_,_=>none
  |_,_=>none
 | .frzb i=>match get Γ (.s i)with
  |some ⟨.ptr id 0,_⟩=>match get Γ (.o id)with
   |some ⟨.box (n+1),_⟩=>match Gi Γ id n 0 with
    |some p=>some ⟨(.s i,.v (.pt p.1))::Bx [id] Γ,fun ρ=>(p.2 ρ,B8 [id] ρ)⟩
    |none=>none
   |_=>none
  |_=>none
def ghT(X:TP)(Γ:TC)(g:Gh):Option (GhD Γ):=if Qr X.Θ Γ g=true then none else Ht X Γ g
theorem LK:∀{cs:List SV} {l:List CV},Ap closed cs=some l→cs=l.map .c
 | [],l,h=>by cases h;rfl
 |s::cs,l,h=>by
  simp only[Ap]at h;obtain⟨c,h1,h2⟩:=Ab.1 h;obtain⟨l',h3,h4⟩:=Aa.1 h2;subst h4
  have:s=.c c:=by
   cases s<;>first|(cases h1;rfl)|cases h1
  rw[this,LK h3];rfl
theorem Yu{o:Option TC}{Γ:TC}{ρ:HS Γ}{st:St}{i N:Nat}{q:GhD Γ}(h:NT o Γ i N=some q)(hr:Rep Γ ρ st):∃st',AK (Ej o) st st'∧Rep q.Γ' (q.up ρ) st':=by
 unfold NT at h;split at h<;>(try cases h;done);rename_i Θ;split at h<;>(try cases h;done);rename_i hN;split at h<;>(try cases h;done);rename_i d f hg;split at h<;>(try cases h;done);rename_i hd;split at h<;>(try cases h;done);rename_i n fo ho;split at h<;>(try cases h;done);rename_i p hp;split at h<;>(try cases h;done);rename_i hnn;split at h<;>(try cases h;done);rename_i q' hq;cases h;simp only[not_or,Bool.not_eq_true,Bool.not_eq_false]at hN hd;have h1:st.fr i=.ptr d 0:=hr.s i _ hg;obtain⟨cs,h2,h3,h4⟩:=hr.o d _ ho;obtain⟨cvs,h5,h6,_⟩:=Md h4 hp (by omega);rw[List.drop_zero,List.take_of_length_le (by omega)]at h5;have h7:cs=cvs.map .c:=LK h5;have hdl:d<At:=Nat.lt_of_not_le fun hh=>by have:=Nat.ble_eq_true_of_le hh;rw[hd.2]at this;cases this
 refine⟨_,AK.tell hdl (Ah hN.2) (fun hh=> ?_) (fun hh=> ?_) h1 h2, ?_⟩
 ·have hh':(AJ Θ).contains N=true:=hh;rw[hN.1]at hh';cases hh'
 ·have hh':(AJ Θ).contains d=true:=hh;rw[hd.1]at hh';cases hh'
 ·have r1:=Rep.drop hr d N;obtain⟨x1,x2⟩:=KZ (ρ:=goP [d,N] (shP (Eu d N Γ) ρ)) (x:=p.2 ρ) hq h6;have hlen:cvs.length=n+1:=DN hnn.2 h6
  have r2:=Rep.newBox r1 x1 (ko:=.box (n+1)) (y:=()) (o:=.box (cvs.map .c)) ⟨_,rfl,by simp[hlen],fun j q' hj hq'=>by
   rcases x2 j q' hq' with⟨_,c,k2,k3⟩|⟨k1,_⟩
   ·exact⟨.c c,by rw[List.getElem?_map];simp only[Nat.sub_zero]at k2;rw[k2];rfl,k3⟩
   ·omega⟩
  have r3:=Rep.set r2 (d:=i) (k:=.v (.nam N)) (x:=()) (sv:=.c (.nam N)) ⟨_,rfl,by unfold Can;rfl⟩;have hnc:∀c∈cvs,Bh (Ct N) c=true:=H7.1 (Can.noN hnn.1 h6)
  have hcs:cs.map (B4 (WB.dropB d N st.ob) N)=cvs.map .c:=by
   rw[h7,List.map_map];refine List.map_congr_left fun c hc=> ?_;simp only[Function.comp_apply,B4];rw[if_pos (hnc c hc)]
  have hst:CC i d N cs st=St.set {fr:=(It d N st).fr,ob:=upd (It d N st).ob N (.box (cvs.map .c))} (some i) (.c (.nam N)):=by
   unfold CC;rw[hcs];simp only[St.set,St.mk.injEq];exact⟨by funext j;simp only[Ci,It],by funext j;simp only[Ci,It]⟩
  rw[hst];exact r3
theorem M5{X:TP}{Γ:TC}{ρ:HS Γ}{st:St}{g:Gh}{q:GhD Γ}(h:ghT X Γ g=some q)(hr:Rep Γ ρ st):∃st',AK (Ej X.Θ) st st'∧Rep q.Γ' (q.up ρ) st':=by
 unfold ghT at h;split at h<;>(try cases h;done);rename_i hlent;have hlent':Qr X.Θ Γ g=false:=by simpa using hlent
 clear hlent
 cases g with
 |tell i N=>exact Yu h hr
 |own i id e size=>
  simp only[Ht]at h;split at h<;>(try cases h;done);rename_i f t hg ht;cases h;have hk:=hr.kill [id];obtain⟨c,e1,e2⟩:=hk.s i _ hg;unfold Can at e2;cases e2;refine⟨_,AK.trans (AK.kill st [id]) (AK.own (i:=i) (id:=id) (e:=e) (size:=size) e1 (by simp[WB.kill])),Rep.newObjS hk (k:=.own id) (ko:=.arr e size t) (x:=()) (y:= []) (v:=.osl id) ⟨[],rfl,rfl⟩ rfl⟩
 |ownc b j id e size=>
  simp only[Ht]at h;split at h<;>(try cases h;done);rename_i t ht;split at h<;>(try cases h;done);rename_i n fb f hb hg;split at h<;>(try cases h;done);rename_i hh;cases h;have hk:=hr.kill [id];have hk1:=Rep.turnObj hk (id:=id) (k:=.arr e size t) (y:= []) (o:=.arr e size []) ⟨[],rfl,rfl⟩;obtain⟨cs,e1,e2,e3⟩:=hk1.o b _ hb;obtain⟨sv,e4,c,e5,e6⟩:=e3 j _ hh.1 hg;unfold Can at e6;cases e6;subst e5;have e1':(WB.kill [id] st).ob b=.box cs:=by simpa[upd,hh.2]using e1
  refine⟨_,AK.trans (AK.kill st [id]) (AK.ownc (b:=b) (j:=j) (id:=id) (e:=e) (size:=size) e1' e4 (by simp[WB.kill])),Ic hk1 hb e2 e3 hh.1 (k:=.own id) (x:=()) (sv:=.osl id) rfl⟩
 |frz i=>
  simp only[Ht]at h;split at h<;>(try cases h;done)
  ·rename_i id f hg;split at h<;>(try cases h;done);rename_i e size t xs ho;cases h;have h1:st.fr i=.osl id:=hr.s i _ hg;obtain⟨es,h2,h3⟩:=hr.o id _ ho;exact⟨_,AK.frz (Km hlent' hg rfl) h1 h2,Rep.set (hr.kill [id]) (d:=i) (k:=.v (.sl t)) (x:=xs ρ) ⟨_,rfl,by unfold Can;exact⟨_,_,rfl,h3⟩⟩⟩
  ·rename_i id f hg;split at h<;>(try cases h;done);rename_i mt k v xs ho;cases h;have h1:st.fr i=.omap id:=hr.s i _ hg;obtain⟨z,ks,vs,h2,_,h3,h4⟩:=hr.o id _ ho;exact⟨_,AK.frzm (Km hlent' hg rfl) h1 h2,Rep.set (hr.kill [id]) (d:=i) (k:=.v (.map k v)) (x:=xs ρ) ⟨_,rfl,by unfold Can;exact⟨_,_,_,rfl,h3,h4⟩⟩⟩
 |frzc b j=>
  simp only[Ht]at h;split at h<;>(try cases h;done);rename_i n fb id f hb hg;split at h<;>(try cases h;done);rename_i e size t xs n' fb' ho hb';split at h<;>(try cases h;done);rename_i hh;cases h;obtain⟨cs,e1,e2,e3⟩:=hr.o b _ hb;obtain⟨sv,e4,e5⟩:=e3 j _ hh.1 hg;have e5':sv=.osl id:=e5;subst e5';obtain⟨es,h2,h3⟩:=hr.o id _ ho;have hk:=hr.kill [id];obtain⟨cs',k1,k2,k3⟩:=hk.o b _ hb';have hne:b≠id:=fun e=>by rw[e,h2]at e1;cases e1
  have hcs:cs'=cs.map (A4 [id]):=by
   have:(WB.kill [id] st).ob b=.box (cs.map (A4 [id])):=by simp[WB.kill,hne,e1,Cg]
   rw[this]at k1;cases k1;rfl
  subst hcs;exact⟨_,AK.frzc (Km hlent' hg rfl) e1 e4 h2,Ic hk hb' k2 k3 hh.2 (k:=.v (.sl t)) (x:=xs ρ) ⟨_,rfl,by unfold Can;exact⟨_,_,rfl,h3⟩⟩⟩
 |frzb i=>
  simp only[Ht]at h;split at h<;>(try cases h;done);rename_i id f hg;split at h<;>(try cases h;done);rename_i n fo ho;split at h<;>(try cases h;done);rename_i p hp;cases h;have h1:st.fr i=.ptr id 0:=hr.s i _ hg;obtain⟨cs,h2,h3,h4⟩:=hr.o id _ ho;obtain⟨cvs,h5,h6,_⟩:=Md h4 hp (by omega);rw[List.drop_zero,List.take_of_length_le (by omega)]at h5;have h7:st.ob id=.box (cvs.map .c):=by rw[h2,LK h5]
  exact⟨_,AK.frzb (Km hlent' hg rfl) h1 h7,Rep.set (hr.kill [id]) (d:=i) (k:=.v (.pt p.1)) (x:=p.2 ρ) ⟨_,rfl,by unfold Can;exact⟨_,rfl,h6⟩⟩⟩
def Dj{S T:Type}(b:S→Option (S⊕T)):Nat→S→Option T
 |0,_=>none
 |n+1,s=>(b s).bind fun o=>match o with
  | .inl s'=>Dj b n s'
  | .inr t=>some t
open Classical in
noncomputable def iter{S T:Type}(b:S→Option (S⊕T))(s:S):Option T:=
 if h:∃t n,Dj b n s=some t then some (choose h)else none
theorem MB{S T:Type}{b:S→Option (S⊕T)}:∀{n m:Nat} {s:S} {t:T},n≤m→Dj b n s=some t→Dj b m s=some t
 |0,_,_,_,_,h=>by cases h
 |n+1,0,_,_,hnm,_=>by omega
 |n+1,m+1,s,t,hnm,h=>by
  simp only[Dj]at h⊢;obtain⟨o,h1,h2⟩:=Ab.1 h;rw[h1,Option.bind_some]
  cases o with
  |inl s'=>exact MB (by omega) h2
  |inr t'=>exact h2
theorem Hy{S T:Type}{b:S→Option (S⊕T)}{s:S}{t:T}:iter b s=some t↔∃n,Dj b n s=some t:=by
 unfold iter;constructor
 ·intro h;split at h<;>(try cases h;done);rename_i hh;cases h;exact Classical.choose_spec hh
 ·rintro⟨n,h⟩
  have hh:∃t n,Dj b n s=some t:=⟨t,n,h⟩;rw[dif_pos hh];obtain⟨m,hm⟩:=Classical.choose_spec hh;have h1:=MB (Nat.le_max_left n m) h;have h2:=MB (Nat.le_max_right n m) hm;rw[h1]at h2;rw[Option.some.inj h2]
theorem Co{S T:Type}(b:S→Option (S⊕T))(s:S):iter b s=(b s).bind fun o=>match o with
  | .inl s'=>iter b s'
  | .inr t=>some t:=by
 cases hb:b s with
 |none=>
  rw[Option.bind_none]
  cases h:iter b s with
  |none=>rfl
  |some t=>
   obtain⟨n,hn⟩:=Hy.1 h
   cases n with
   |zero=>cases hn
   |succ n=>simp[Dj,hb]at hn
 |some o=>
  rw[Option.bind_some]
  cases o with
  |inr t=>exact Hy.2 ⟨1,by simp[Dj,hb]⟩
  |inl s'=>
   simp only;apply Option.ext;intro t;rw[Hy,Hy];constructor
   ·rintro⟨n,hn⟩
    cases n with
    |zero=>cases hn
    |succ n=>
     refine⟨n, ?_⟩;simpa[Dj,hb]using hn
   ·rintro⟨n,hn⟩
    exact⟨n+1,by simpa[Dj,hb]using hn⟩
abbrev XC:=List (Nat×TC)
@[reducible] def KE(A:Type):XC→Type
 | []=>Unit
 |e::xs=>(HS e.2→Option A)×KE A xs
structure DKn (A:Type) (xs:XC) (Γn:TC) (R:Type) where
 n:HS Γn→Option A
 e:KE A xs
 r:R→Option A
def Dw(A:Type):(xs:XC)→Nat→Option (Σ Γ:TC,KE A xs→HS Γ→Option A)
 | [],_=>none
 |e::xs,i=>if e.1=i then some ⟨e.2,fun k=>k.1⟩else match Dw A xs i with
  |some q=>some ⟨q.1,fun k=>q.2 k.2⟩
  |none=>none
def NH(xs:XC):List Nat→Option XC
 | []=>some []
 |i::is=>match xs.find? (fun e=>e.1==i),NH xs is with
  |some e,some ys=>some ((i,e.2)::ys)
  |_,_=>none
def Jg(A:Type)(xs:XC):(ys:XC)→Option (KE A xs→KE A ys)
 | []=>some fun _=>()
 |e::ys=>match Dw A xs e.1,Jg A xs ys with
  |some q,some g=>if h:q.1=e.2 then some fun k=>(h▸q.2 k,g k)else none
  |_,_=>none
@[reducible] def Ey(R:Type):XC→Bool→Type
 | [],true=>R
 | [],false=>Empty
 | [e],false=>HS e.2
 | [e],true=>HS e.2⊕R
 |e::xs,rt=>HS e.2⊕Ey R xs rt
def keX{R B:Type}:(xs:XC)→(rt:Bool)→(Ey R xs rt→B)→KE B xs
 | [],_,_=>()
 | [_],false,f=>(fun ρ=>some (f ρ),())
 | [_],true,f=>(fun ρ=>some (f (.inl ρ)),())
 |_::e::xs,rt,f=>(fun ρ=>some (f (.inl ρ)),keX (e::xs) rt (fun o=>f (.inr o)))
def rtX{R B:Type}:(xs:XC)→(rt:Bool)→(Ey R xs rt→B)→R→Option B
 | [],true,f=>fun r=>some (f r)
 | [],false,_=>fun _=>none
 | [_],false,_=>fun _=>none
 | [_],true,f=>fun r=>some (f (.inr r))
 |_::e::xs,rt,f=>rtX (e::xs) rt (fun o=>f (.inr o))
def elX{R A:Type}:(xs:XC)→(rt:Bool)→KE A xs→(R→Option A)→Ey R xs rt→Option A
 | [],true,_,kr=>fun o=>kr o
 | [],false,_,_=>fun o=>nomatch o
 | [_],false,k,_=>fun o=>k.1 o
 | [_],true,k,kr=>fun o=>match o with
  | .inl ρ=>k.1 ρ
  | .inr r=>kr r
 |_::e::xs,rt,k,kr=>fun o=>match o with
  | .inl ρ=>k.1 ρ
  | .inr o=>elX (e::xs) rt k.2 kr o
inductive GL where
 |g (g:Gh)
 |l (l:SL)
def Ek:List GL→List SL
 | []=> []
 | .g _::gs=>Ek gs
 | .l l::gs=>l::Ek gs
inductive AC where
 |skip
 |reg (draw:Bool) (D:List Nat) (ls:List SL)
 |rg (D:List Nat) (gs:List GL)
 |regE (e:Bool) (D:List Nat) (ls:List SL)
 |sq (a b:AC)
 |seq (Γ:TC) (a b:AC)
 |join (Γ:TC) (ex:List Nat) (rt:Bool) (a b:AC)
 |cond (c:SO) (x y:AC)
 |block (id:Nat) (b:AC)
 |loop (Γ:TC) (ex:List Nat) (rt:Bool) (b:AC)
 |exit (id:Nat)
 |ret
 |gh (g:Gh) (c:AC)
 |raw (c:Cy)
def B1:AC→Cy
 | .skip=>.skip
 | .reg draw D ls=>.reg draw D ls
 | .rg D gs=>.reg false D (Ek gs)
 | .regE _ D ls=>.regE D ls
 | .sq a b| .seq _ a b| .join _ _ _ a b=>.seq (B1 a) (B1 b)
 | .cond c x y=>.cond c (B1 x) (B1 y)
 | .block id b=>.block id (B1 b)
 | .loop _ _ _ b=>.loop (B1 b)
 | .exit id=>.exit id
 | .ret=>.ret
 | .gh _ c=>B1 c
 | .raw c=>c
structure LsD (A:Type) (Γ:TC) where
 Γ':TC
 run:HS Γ→(HS Γ'→Option A)→Option A
def Hc(A:Type)(X:TP)(msk:List Nat):(ls:List SL)→(Γ:TC)→Option (LsD A Γ)
 | [],Γ=>some ⟨Γ,fun ρ K=>K ρ⟩
 |l::ls,Γ=>match opL X Γ msk l with
  |some o=>match Hc A X msk ls o.Γ' with
   |some q=>some ⟨q.Γ',fun ρ K=>o.d.app ρ fun b=>q.run (o.up ρ b) K⟩
   |none=>none
  |none=>none
def F5(A:Type)(X:TP)(draw:Bool)(D:List Nat)(ls:List SL)(Γ:TC):Option (LsD A Γ):=
 match D with
 | []=>Hc A (cond draw X.noE X) [] ls Γ
 |d::ds=>match Hc A (cond draw X.noE X) (if draw then d::ds else []) ls (Bx (d::ds) Γ)with
  |some q=>some ⟨q.Γ',fun ρ K=>q.run (B8 (d::ds) ρ) K⟩
  |none=>none
def F4(A:Type)(X:TP):(gs:List GL)→(Γ:TC)→Option (LsD A Γ)
 | [],Γ=>some ⟨Γ,fun ρ K=>K ρ⟩
 | .l l::gs,Γ=>match opL X Γ [] l with
  |some o=>match F4 A X gs o.Γ' with
   |some q=>some ⟨q.Γ',fun ρ K=>o.d.app ρ fun b=>q.run (o.up ρ b) K⟩
   |none=>none
  |none=>none
 | .g g::gs,Γ=>match ghT X Γ g with
  |some p=>match F4 A X gs p.Γ' with
   |some q=>some ⟨q.Γ',fun ρ K=>q.run (p.up ρ) K⟩
   |none=>none
  |none=>none
def Ir(A:Type)(X:TP)(D:List Nat)(gs:List GL)(Γ:TC):Option (LsD A Γ):=
 match D with
 | []=>F4 A X gs Γ
 |d::ds=>match F4 A X gs (Bx (d::ds) Γ)with
  |some q=>some ⟨q.Γ',fun ρ K=>q.run (B8 (d::ds) ρ) K⟩
  |none=>none
def Cs:Key→Bool
 | .s _=>true
 | .o N| .c N _=> !Nat.ble At N
def Ff(e:Key×EK):Bool:=Cs e.1&&match e.2.refs with
 |some id=> !Nat.ble At id
 |none=>true
def DJ(e:Key×EK):Bool:= !Cs e.1
def Dm(f:Key×EK→Bool):TC→List Key→TC
 | [],_=> []
 |e::Γ,seen=>match seen.contains e.1 with
  |true=>Dm f Γ seen
  |false=>match f e with
   |true=>e::Dm f Γ (e.1::seen)
   |false=>Dm f Γ (e.1::seen)
structure OG (A:Type) (Γ Θ:TC) where
 Γ':TC
 Θ':TC
 run:HS Γ→HS Θ→(HS Γ'→HS Θ'→Option A)→Option A
def MO(l:SL):Bool:=(!l.op.hard||l.op.stores)&&l.dst.all fun j=>Nat.blt j At
def efT(X:TP)(Γ Θ:TC)(l:SL):Option (OpD (Θ++Γ)):=match l.op.calls with
 |true=>match Γ.all fun e=>Cs e.1 with
  |true=>G7 X (Θ++Γ) l
  |false=>none
 |false=>none
def Hd(A:Type)(X:TP)(D:List Nat):(ls:List SL)→(Γ Θ:TC)→Option (OG A Γ Θ)
 | [],Γ,Θ=>some ⟨Γ,Θ,fun ρ θ K=>K ρ θ⟩
 |l::ls,Γ,Θ=>match efT X Γ Θ l with
  |some o=>match Cn o.Γ' (Dm Ff o.Γ' []),Cn o.Γ' (Dm DJ o.Γ' [])with
   |some g,some f=>match Hd A X D ls (Dm Ff o.Γ' []) (Dm DJ o.Γ' [])with
    |some q=>some ⟨q.Γ',q.Θ',fun ρ θ K=>o.d.app (Cc Θ θ ρ) fun b=>q.run (g (o.up (Cc Θ θ ρ) b)) (f (o.up (Cc Θ θ ρ) b)) K⟩
    |none=>none
   |_,_=>none
  |none=>match MO l with
   |true=>match G9 X Γ D l with
    |some o=>match Hd A X D ls o.Γ' Θ with
     |some q=>some ⟨q.Γ',q.Θ',fun ρ θ K=>o.d.app ρ fun b=>q.run (o.up ρ b) θ K⟩
     |none=>none
    |none=>none
   |false=>none
def Mo(A:Type)(X:TP)(D:List Nat)(ls:List SL)(Γ:TC):Option (LsD A Γ):=
 match Cn (Bx D Γ) (Dm Ff (Bx D Γ) []),Cn (Bx D Γ) (Dm DJ (Bx D Γ) [])with
 |some g,some f=>match Hd A X D ls (Dm Ff (Bx D Γ) []) (Dm DJ (Bx D Γ) [])with
  |some q=>match q.Γ'.all fun e=>Cs e.1 with
   |true=>some ⟨q.Θ'++q.Γ',fun ρ K=>q.run (g (B8 D ρ)) (f (B8 D ρ)) fun ρ' θ'=>K (Cc q.Θ' θ' ρ')⟩
   |false=>none
  |none=>none
 |_,_=>none
def Mq(A:Type)(X:TP)(e:Bool)(D:List Nat)(ls:List SL)(Γ:TC):Option (LsD A Γ):=match e with
 |true=>Mo A X D ls Γ
 |false=>F5 A X true D ls Γ
def F6(A:Type)(X:TP):AC→(Γ:TC)→Option (LsD A Γ)
 | .skip,Γ=>some ⟨Γ,fun ρ K=>K ρ⟩
 | .reg draw D ls,Γ=>F5 A X draw D ls Γ
 | .rg D gs,Γ=>Ir A X D gs Γ
 | .regE e D ls,Γ=>Mq A X e D ls Γ
 | .sq a b,Γ=>match F6 A X a Γ with
  |some p=>match F6 A X b p.Γ' with
   |some q=>some ⟨q.Γ',fun ρ K=>p.run ρ fun ρ'=>q.run ρ' K⟩
   |none=>none
  |none=>none
 | .gh g c,Γ=>match ghT X Γ g with
  |some p=>match F6 A X c p.Γ' with
   |some q=>some ⟨q.Γ',fun ρ K=>q.run (p.up ρ) K⟩
   |none=>none
  |none=>none
 |_,_=>none
def HG(X:TP)(Γ:TC):Bd→Option (Σ t:Ty,Dyn (HS Γ) (D t))
 | .tmp t=>match rdC Γ [] (.t t)with
  |some q=>some q.2
  |none=>none
 | .cell a sz=>match rdK X.G Γ (.t a)with
  |some k=>match EC Γ [] sz (DE Γ [] k)with
   |some ⟨.v t,d⟩=>some ⟨t,d⟩
   |some ⟨.own id,.tot _⟩=>match get Γ (.o id)with
    |some ⟨.arr _ _ t,xs⟩=>some ⟨.sl t,.tot xs⟩
    |_=>none
   |_=>none
  |none=>none
def HF(X:TP)(Γ:TC):List Bd→Option (Σ r:Ty,Dyn (HS Γ) (D r))
 | []=>some ⟨.nil,.tot fun _=>()⟩
 | [x]=>match HG X Γ x with
  |some q=>some ⟨.one q.1,q.2⟩
  |none=>none
 |x::y::xs=>match HG X Γ x,HF X Γ (y::xs)with
  |some q,some p=>some ⟨.cons q.1 p.1,q.2.both p.2⟩
  |_,_=>none
def Lj(X:TP)(Γ:TC):List Bd→Option (Σ t:Ty,Dyn (HS Γ) (D t))
 | [x]=>HG X Γ x
 |xs=>match HF X Γ xs with
  |some q=>some ⟨.tup q.1,q.2⟩
  |none=>none
def N9(Γ:TC):(rs:List Bd)→(Rt:Ty)→Option (HS Γ→D Rt)
 | [.tmp i],.nw e size t=>match get Γ (.s i)with
  |some ⟨.own id,_⟩=>match get Γ (.o id)with
   |some ⟨.arr e' size' t',xs⟩=>if h:t'=t then(if e'=e∧size'=size then some fun ρ=>(h▸xs ρ:List (D t))else none)else none
   |_=>none
  |some ⟨.v .nsl,_⟩=>some fun _=>([]:List (D t))
  |_=>none
 |_,_=>none
structure RdD (Γ:TC) (R:Type):Type 1 where
 B:Type
 d:Dyn (HS Γ) B
 up:HS Γ→B→R
def rdT(X:TP)(rs:List Bd)(Rt:Ty)(Γ:TC):Option (RdD Γ (D Rt)):=
 match N9 Γ rs Rt with
 |some g=>some ⟨Unit,.tot fun _=>(),fun ρ _=>g ρ⟩
 |none=>match Lj X Γ rs with
  |some q=>match Be q.1 Rt with
   |some g=>some ⟨D q.1,q.2,fun _ v=>g v⟩
   |none=>none
  |none=>none
noncomputable def den(X:TP)(R:Type)(rd:(Γ:TC)→Option (RdD Γ R)):AC→(A:Type)→(xs:XC)→(Γn Γ:TC)→Option (HS Γ→DKn A xs Γn R→Option A)
 | .skip,A,xs,Γn,Γ=>match Cn Γ Γn with
  |some f=>some fun ρ k=>k.n (f ρ)
  |none=>none
 | .reg draw D ls,A,xs,Γn,Γ=>match F5 A X draw D ls Γ with
  |some q=>match Cn q.Γ' Γn with
   |some f=>some fun ρ k=>q.run ρ fun ρ'=>k.n (f ρ')
   |none=>none
  |none=>none
 | .rg D gs,A,xs,Γn,Γ=>match Ir A X D gs Γ with
  |some q=>match Cn q.Γ' Γn with
   |some f=>some fun ρ k=>q.run ρ fun ρ'=>k.n (f ρ')
   |none=>none
  |none=>none
 | .regE e D ls,A,xs,Γn,Γ=>match Mq A X e D ls Γ with
  |some q=>match Cn q.Γ' Γn with
   |some f=>some fun ρ k=>q.run ρ fun ρ'=>k.n (f ρ')
   |none=>none
  |none=>none
 | .sq a b,A,xs,Γn,Γ=>match F6 A X a Γ with
  |some q=>match den X R rd b A xs Γn q.Γ' with
   |some db=>some fun ρ k=>q.run ρ fun ρ'=>db ρ' k
   |none=>none
  |none=>none
 | .seq Γm a b,A,xs,Γn,Γ=>match den X R rd a A xs Γm Γ,den X R rd b A xs Γn Γm with
  |some da,some db=>some fun ρ k=>da ρ ⟨fun ρm=>db ρm k,k.e,k.r⟩
  |_,_=>none
 | .join Γm ex rt a b,A,xs,Γn,Γ=>match NH xs ex with
  |some ys=>match Jg A xs ys,den X R rd a (Ey R ((0,Γm)::ys) rt) ys Γm Γ,den X R rd b A xs Γn Γm with
   |some g,some da,some db=>some fun ρ k=>(da ρ ⟨(keX ((0,Γm)::ys) rt (fun o=>o)).1,(keX ((0,Γm)::ys) rt (fun o=>o)).2,rtX ((0,Γm)::ys) rt (fun o=>o)⟩).bind (elX ((0,Γm)::ys) rt (fun ρm=>db ρm k,g k.e) k.r)
   |_,_,_=>none
  |none=>none
 | .cond c x y,A,xs,Γn,Γ=>match rdV Γ c,den X R rd x A xs Γn Γ,den X R rd y A xs Γn Γ with
  |some ⟨.bool,d⟩,some dx,some dy=>some fun ρ k=>d.app ρ fun b=>if b=true then dx ρ k else dy ρ k
  |_,_,_=>none
 | .block id b,A,xs,Γn,Γ=>match den X R rd b A ((id,Γn)::xs) Γn Γ with
  |some db=>some fun ρ k=>db ρ ⟨k.n,(k.n,k.e),k.r⟩
  |none=>none
 | .loop Γh ex rt b,A,xs,_,Γ=>match NH xs ex with
  |some ys=>match Jg A xs ys,Cn Γ Γh,den X R rd b (HS Γh⊕Ey R ys rt) ys Γh Γh with
   |some g,some f,some db=>some fun ρ k=>(iter (fun ρ=>db ρ ⟨fun ρ'=>some (.inl ρ'),keX ys rt Sum.inr,rtX ys rt Sum.inr⟩) (f ρ)).bind (elX ys rt (g k.e) k.r)
   |_,_,_=>none
  |none=>none
 | .exit i,A,xs,_,Γ=>match Dw A xs i with
  |some q=>match Cn Γ q.1 with
   |some f=>some fun ρ k=>q.2 k.e (f ρ)
   |none=>none
  |none=>none
 | .ret,A,xs,Γn,Γ=>match rd Γ with
  |some q=>some fun ρ k=>q.d.app ρ fun v=>k.r (q.up ρ v)
  |none=>none
 | .raw _,_,_,_,_=>some fun _ _=>none
 | .gh g c,A,xs,Γn,Γ=>match ghT X Γ g with
  |some p=>match den X R rd c A xs Γn p.Γ' with
   |some dc=>some fun ρ k=>dc (p.up ρ) k
   |none=>none
  |none=>none
section
variable {X:TP} {E:Env}
theorem Of{t:Ty}(hm:mlT t=true):∀{ys:List (D t)} {es:List CV},Aq (fun x c=>Can t x [c]) ys es→BZ es=true
 | [],es,h=>by unfold Aq at h;subst h;rfl
 |y::ys,es,h=>by
  obtain⟨c,es',rfl,h1,h2⟩:=h;have:=QX hm h1;simp only[BZ,Bool.and_true]at this;simp[BZ,this,Of hm h2]
theorem WX(hT:TOk X E){Γ:TC}{msk:List Nat}{ρ:HS Γ}{st:St}(hr:Rep Γ ρ st){rd:Nat→Ob}(hrd:∀id,msk.contains id=false→rd id=st.ob id){d:Nat}{op:SOp}{o:OpD Γ}(h:Np X Γ msk d op=some o){b:o.B}(hb:o.d.val ρ=some b):
  ∃st',AU E rd st (some d) op=some st'∧Rep o.Γ' (o.up ρ b) st':=by
 cases op<;>(try cases h;done)
 case call f args=>
  simp only[Np]at h;split at h<;>(try cases h;done);rename_i a e size t fn hs;split at h<;>(try cases h;done);rename_i f0 hg;split at h<;>(try cases h;done);rename_i p hp;split at h<;>(try cases h;done);rename_i g hg';split at h<;>(try cases h;done);rename_i hc;cases h;try dsimp only at hb
  obtain⟨z,h1,h2⟩:=Dyn.comp_val hb;obtain⟨y,h3,h4⟩:=Dyn.map_val h1;subst h4;obtain⟨l,h5,h6,h7⟩:=HW hr hrd (G:=E.G) (fl:=p.1) (q:=p.2) hp h3;obtain⟨_,s3⟩:=hT.nw f a e size t fn hs;obtain⟨es,h8,h9⟩:=s3 _ l b (BU _ _ hg' h6) h2;have hn:st.ob d=.none:=hr.o d _ hg
  have hm:((args.all fun x=>isC (so E.G st.fr x))||(Res.new (.arr e size es)).memless)=true:=by
   cases hp1:p.1 with
   |true=>rw[h7 hp1];rfl
   |false=>
    rw[hp1]at hc;simp only[Bool.false_or]at hc;simp[Res.memless,Of hc h9]
  refine⟨_, ?_,Rep.newObjS hr (k:=.own d) (ko:=.arr e size t) (x:=()) (y:=b) (v:=.osl d) ⟨es,rfl,h9⟩ rfl⟩;simp only[AU,SOp.cls,hT.ef f (.inr (by rw[hs];rfl)),DA,h5,Option.bind_some,List.append_nil,h8,hm,if_true,DV,BB,hn,Option.getD_some,Lh]
theorem T5(hF:BN X E){a:Ty}{Θ:TC}{r:Ty}{n:Nat}(hn:Bb a=some n):∀{t:Ty} {F:D t→D a→HS Θ→Option (D r×HS Θ)} {x:D t} {y:D a} {θ θ':HS Θ} {z:D r} {c:CV} {l:List CV} {H:Nat→Ob},Ia X a Θ r t=some F→F x y θ=some (z,θ')→Can t x [c]→Can a y l→Rep Θ θ {fr:=fun _=>.undef,ob:=H}→
  r.val=true∧r.ok=true∧∃g caps e,c=.fn g caps∧E.ef g=some e∧e.T=AJ Θ∧e.fn (l++caps) H=some (enc r z,Bl Θ θ'):=by
 have one:∀{g:Nat} {cc:Ty} {s:Bv} {h:D (B2 a cc).1→D s.a} {hΘ:s.Θ=Θ} {hr:s.r=r} {x:D cc} {y:D a} {θ θ':HS Θ} {z:D r} {caps l:List CV} {H:Nat→Ob},X.TE g=some s→Be (B2 a cc).1 s.a=some h→Mb s.fn hΘ hr (h ((B2 a cc).2 y x)) θ=some (z,θ')→Can cc x caps→Can a y l→Rep Θ θ {fr:=fun _=>.undef,ob:=H}→
   r.val=true∧r.ok=true∧∃e,E.ef g=some e∧e.T=AJ Θ∧e.fn (l++caps) H=some (enc r z,Bl Θ θ'):=by
  intro g cc s h hΘ hr x y θ θ' z caps l H hs hh hz hx hy hH;obtain⟨⟨s1,_⟩,s2,e,s3,s4,s5⟩:=hF g s hs;obtain⟨Θs,as,rs,fn⟩:=s;simp only at hΘ hr;subst hΘ;subst hr;exact⟨s1,s2,e,s3,s4,s5 _ _ θ H z θ' (BU _ _ hh (GP hn hy hx)) hH hz⟩
 intro t
 induction t with
 |clo g cc _=>
  intro F x y θ θ' z c l H h hz hx hy hH;simp only[Ia]at h;split at h<;>(try cases h;done);rename_i s hs;split at h<;>(try cases h;done);rename_i hh h1;split at h<;>(try cases h;done);rename_i hΘ;split at h<;>(try cases h;done);rename_i hr;cases h;unfold Can at hx;obtain⟨caps,e,hx⟩:=hx;cases e;obtain⟨g1,g2,e,g3,g4,g5⟩:=one hs h1 hz hx hy hH;exact⟨g1,g2,g,caps,e,rfl,g3,g4,g5⟩
 |falt g cc l' _ ihl=>
  intro F x y θ θ' z c l H h hz hx hy hH;simp only[Ia]at h;split at h<;>(try cases h;done);rename_i s FF hs hFF;split at h<;>(try cases h;done);rename_i hh h1;split at h<;>(try cases h;done);rename_i hΘ;split at h<;>(try cases h;done);rename_i hr;cases h
  cases x with
  |inl w=>
   unfold Can at hx;obtain⟨caps,e,hx⟩:=hx;cases e;obtain⟨g1,g2,e,g3,g4,g5⟩:=one hs h1 hz hx hy hH;exact⟨g1,g2,g,caps,e,rfl,g3,g4,g5⟩
  |inr w=>
   unfold Can at hx;exact ihl hFF hz hx.2 hy hH
 |_=>intro F x y θ θ' z c l H h;cases h
theorem JQ(hT:TOk X E)(hF:BN X E){Γ:TC}{ρ:HS Γ}{st:St}(hr:Rep Γ ρ st){op:SOp}{q:EfD Γ}(h:efK X Γ op=some q)(ho:okΘ q.Θ=true){y:D q.r}{θ':HS q.Θ}(hy:q.d.val ρ=some (y,θ'))(rd:Nat→Ob)(d:Option Nat):
  q.r.val=true∧q.r.ok=true∧AU E rd st d op=some ((Ch (AJ q.Θ) (Bl q.Θ θ') st).set d (.c (enc q.r y))):=by
 have part:∀{Θ:TC} {f:HS Γ→HS Θ},okΘ Θ=true→Cn Γ Θ=some f→Rep Θ (f ρ) {fr:=fun _=>.undef,ob:=Cm (AJ Θ) st.ob}:=by
  intro Θ f ho hf;have h1:=Dr hf hr;simp only[okΘ,Af]at ho;refine⟨fun i q hq=> ?_,fun id q hq=> ?_⟩
  ·have:=BP ho.2 (Bq hq);obtain⟨k,f'⟩:=q;cases k<;>cases this
  ·have hok:=BP ho.2 (Bq hq);have hid:(AJ Θ).contains id=true:=by simpa using Fh.2 (E7 (Bq hq))
   have r:=h1.o id _ hq;show RO Θ _ id q.1 _ (Cm (AJ Θ) st.ob id);unfold Cm;rw[if_pos hid];obtain⟨k,f'⟩:=q;cases k<;>(try cases hok;done)
   case box n=>
    obtain⟨cs,e1,hl,hc⟩:=r;rw[e1];refine⟨_,rfl,by simpa using hl,fun j q' hj hq'=> ?_⟩;obtain⟨sv,g1,g2⟩:=hc j q' hj hq';refine⟨Gp (AJ Θ) sv,by rw[List.getElem?_map,g1];rfl, ?_⟩;simp only[okE,Af,List.all_eq_true,List.mem_range]at hok;have hcj:=hok.2 j hj;rw[Bq hq']at hcj;obtain⟨k',f''⟩:=q';cases k'<;>(try cases hcj;done)
    case v t=>obtain⟨c,rfl,hc'⟩:=g2;exact⟨c,rfl,hc'⟩
    case own K=>
     have e2:sv=.osl K:=g2;subst e2;simp only[okC,Af]at hcj;show Gp (AJ Θ) (.osl K)=.osl K;simp only[Gp,SV.ref];rw[if_pos hcj.1]
   case arr e size t=>obtain⟨es,e1,hc⟩:=r;rw[e1];exact⟨es,rfl,hc⟩
   case buf e=>
    have e1:st.ob id=.buf e (f' (f ρ)):=r;rw[e1];rfl
 cases op<;>(try cases h;done)
 case call f args=>
  simp only[efK]at h;split at h<;>(try cases h;done);rename_i s hs;split at h<;>(try cases h;done);rename_i p g hp hg;split at h<;>(try cases h;done);rename_i k hk;cases h;try dsimp only at hy ho y θ'⊢
  obtain⟨z,h1,h2⟩:=Dyn.comp_val hy;obtain⟨x,h3,h4⟩:=Dyn.map_val h1;subst h4;obtain⟨l,h5,h6⟩:=Ib (G:=E.G) hr hp h3;obtain⟨⟨s1,_⟩,s2,e,s3,s4,s5⟩:=hF f s hs;refine⟨s1,s2, ?_⟩;have h7:=s5 _ l (g ρ) _ y θ' (BU _ _ hk h6) (part ho hg) h2;simp only[AU,SOp.cls,s3,Dt,h5,Option.bind_some,List.append_nil,s4,h7]
 case callv f args=>
  simp only[efK]at h;split at h<;>(try cases h;done)
  ·rename_i g cc d' p hf hp;split at h<;>(try cases h;done);rename_i s hs;split at h<;>(try cases h;done);rename_i n k gθ hn hk hg;cases h;try dsimp only at hy ho y θ'⊢
   obtain⟨z,h1,h2⟩:=Dyn.comp_val hy;obtain⟨x,h3,h4⟩:=Dyn.map_val h1;obtain⟨h3,h3'⟩:=Dyn.both_val h3;subst h4;obtain⟨l,h5,h6⟩:=Ib (G:=E.G) hr hp h3;obtain⟨c,e1,e2⟩:=AP (G:=E.G) hf hr h3';unfold Can at e2;obtain⟨caps,e3,e2⟩:=e2;cases e3;obtain⟨⟨s1,_⟩,s2,e,s3,s4,s5⟩:=hF g s hs;refine⟨s1,s2, ?_⟩;have h7:=s5 _ (l++caps) (gθ ρ) _ y θ' (BU _ _ hk (GP hn h6 e2)) (part ho hg) h2;simp only[AU,SOp.cls,e1,s3,Dt,h5,Option.bind_some,s4,h7]
  ·rename_i g cc l' d' p hf hp;split at h<;>(try cases h;done);rename_i s hs;split at h<;>(try cases h;done);rename_i n gθ F hn hg hFF;cases h;try dsimp only at hy ho y θ'⊢
   obtain⟨z,h1,h2⟩:=Dyn.comp_val hy;obtain⟨x,h3,h4⟩:=Dyn.map_val h1;obtain⟨h3,h3'⟩:=Dyn.both_val h3;subst h4;obtain⟨l,h5,h6⟩:=Ib (G:=E.G) hr hp h3;obtain⟨c,e1,e2⟩:=AP (G:=E.G) hf hr h3';obtain⟨s1,s2,g',caps,e,rfl,s3,s4,s5⟩:=T5 hF hn hFF h2 e2 h6 (part ho hg);refine⟨s1,s2, ?_⟩;simp only[AU,SOp.cls,e1,s3,Dt,h5,Option.bind_some,s4,s5]
theorem L0{Γ Θ:TC}{ρ:HS Γ}{θ':HS Θ}{st:St}(ho:okΘ Θ=true)(hr:Rep Γ ρ st):Rep (Θ++Bx (AJ Θ) Γ) (Cc Θ θ' (B8 (AJ Θ) ρ)) (Ch (AJ Θ) (Bl Θ θ') st):=
 hr.turned ho (UT ho θ' fun _=>.undef)
theorem UF{Γ:TC}{op:SOp}{q:EfD Γ}(h:efK X Γ op=some q):Cn Γ q.Θ=some q.θ:=by
 cases op<;>(try cases h;done)
 case call f args=>
  simp only[efK]at h;split at h<;>(try cases h;done);split at h<;>(try cases h;done);rename_i p g hp hg;split at h<;>(try cases h;done);cases h;exact hg
 case callv f args=>
  simp only[efK]at h;split at h<;>(try cases h;done)
  all_goals
   split at h<;>(try cases h;done);split at h<;>(try cases h;done)
  ·rename_i hg;cases h;exact hg
  ·rename_i hg _;cases h;exact hg
theorem UE{Γ:TC}{op:SOp}{q:EfD Γ}(h:efK X Γ op=some q):∃f,X.TE f≠none:=by
 cases op<;>(try cases h;done)
 case call f args=>
  simp only[efK]at h;split at h<;>(try cases h;done);rename_i s hs;exact⟨f,by rw[hs];simp⟩
 case callv f args=>
  simp only[efK]at h;split at h<;>(try cases h;done)
  all_goals
   split at h<;>(try cases h;done);rename_i s hs;exact⟨_,by rw[hs];simp⟩
theorem Rq(hT:TOk X E)(hF:BN X E){Γ:TC}{ρ:HS Γ}{st:St}(hr:Rep Γ ρ st)(rd:Nat→Ob){l:SL}{o:OpD Γ}(h:G7 X Γ l=some o){b:o.B}(hb:o.d.val ρ=some b):
  ∃st',B7 E rd l st=some st'∧Rep o.Γ' (o.up ρ b) st':=by
 unfold G7 at h;split at h<;>(try cases h;done);rename_i e he;split at h<;>(try cases h;done);rename_i ho;obtain⟨dst,op,guard⟩:=l;simp only at he h;split at h
 ·rename_i d;cases h;obtain⟨y,θ'⟩:=b;obtain⟨v1,v2,v3⟩:=JQ hT hF hr he ho hb rd (some d);exact⟨_,by simp only[B7];exact v3,Rep.set (L0 ho hr) ⟨_,rfl,Can.enc y v1 v2⟩⟩
 ·cases h;obtain⟨y,θ'⟩:=b;obtain⟨v1,v2,v3⟩:=JQ hT hF hr he ho hb rd none;exact⟨_,by simp only[B7];exact v3,L0 ho hr⟩
 ·rename_i g want d;have hun:=hr.unturned ho (Dr (UF he) hr);split at h<;>(try cases h;done)
  ·rename_i f hg;cases h;obtain⟨c,e1,e2⟩:=hr.s g _ hg;unfold Can at e2;cases e2;by_cases hw:f ρ=want
   ·have:∃y,e.d.val ρ=some y∧b=some y:=by
     cases hd:e.d with
     |tot k=>rw[hd]at hb;simp only[gD,Dyn.val,hw,if_true,Ac]at hb;exact⟨_,rfl,hb.symm⟩
     |par k=>
      rw[hd]at hb;simp only[gD,Dyn.val,hw,if_true]at hb;obtain⟨y,h1,h2⟩:=Aa.1 hb;exact⟨y,h1,h2.symm⟩
    obtain⟨⟨y,θ'⟩,hy,rfl⟩:=this;obtain⟨v1,v2,v3⟩:=JQ hT hF hr he ho hy rd (some d);exact⟨_,by simp only[B7,e1,hw,if_true];exact v3,Rep.set (k:=.opt (.v e.r)) (x:=some y) (L0 ho hr) ⟨_,rfl,Can.enc y v1 v2⟩⟩
   ·have:b=none:=by
     cases hd:e.d with
     |tot k=>rw[hd]at hb;simp only[gD,Dyn.val,hw,if_false,Ac]at hb;exact hb.symm
     |par k=>rw[hd]at hb;simp only[gD,Dyn.val,hw,if_false,Ac]at hb;exact hb.symm
    subst this;exact⟨st.set (some d) B9,by simp only[B7,e1,hw,if_false],Rep.set hun (k:=.opt (.v e.r)) (x:=none) rfl⟩
  ·rename_i f hg;cases h;have hs:=hr.s g _ hg;unfold RS at hs;by_cases hw:f ρ=some want
   ·simp only[hw]at hs;obtain⟨c,e1,e2⟩:=hs;unfold Can at e2;cases e2
    have:∃y,e.d.val ρ=some y∧b=some y:=by
     cases hd:e.d with
     |tot k=>rw[hd]at hb;simp only[gO,Dyn.val,hw,if_true,Ac]at hb;exact⟨_,rfl,hb.symm⟩
     |par k=>
      rw[hd]at hb;simp only[gO,Dyn.val,hw,if_true]at hb;obtain⟨y,h1,h2⟩:=Aa.1 hb;exact⟨y,h1,h2.symm⟩
    obtain⟨⟨y,θ'⟩,hy,rfl⟩:=this;obtain⟨v1,v2,v3⟩:=JQ hT hF hr he ho hy rd (some d);exact⟨_,by simp only[B7,e1,if_true];exact v3,Rep.set (k:=.opt (.v e.r)) (x:=some y) (L0 ho hr) ⟨_,rfl,Can.enc y v1 v2⟩⟩
   ·have:b=none:=by
     cases hd:e.d with
     |tot k=>rw[hd]at hb;simp only[gO,Dyn.val,hw,if_false,Ac]at hb;exact hb.symm
     |par k=>rw[hd]at hb;simp only[gO,Dyn.val,hw,if_false,Ac]at hb;exact hb.symm
    subst this
    cases hf:f ρ with
    |none=>
     simp only[hf]at hs;exact⟨st.set (some d) B9,by simp only[B7,hs,B9],Rep.set hun (k:=.opt (.v e.r)) (x:=none) rfl⟩
    |some b'=>
     simp only[hf]at hs;obtain⟨c,e1,e2⟩:=hs;unfold Can at e2;cases e2;have hne:b'≠want:=fun e=>hw (by rw[hf,e]);exact⟨st.set (some d) B9,by simp only[B7,e1,hne,if_false],Rep.set hun (k:=.opt (.v e.r)) (x:=none) rfl⟩
 ·cases h
theorem Rr(hT:TOk X E){Γ:TC}{msk:List Nat}{ρ:HS Γ}{st:St}(hr:Rep Γ ρ st){rd:Nat→Ob}{l:SL}(hD:∀id,(hid l.op msk).contains id=false→rd id=st.ob id){o:OpD Γ}(h:G9 X Γ msk l=some o){b:o.B}(hb:o.d.val ρ=some b):
  ∃st',B7 E rd l st=some st'∧Rep o.Γ' (o.up ρ b) st':=by
 obtain⟨dst,op,guard⟩:=l
 cases guard with
 |none=>
  simp only[G9]at h;split at h
  ·rename_i hcls;split at h<;>(try cases h;done);rename_i d;split at h<;>(try cases h;done);rename_i f hg;obtain⟨v,ob,h1,h2⟩:=Xa hr h hb;have hn:st.ob d=.none:=hr.o d _ hg;rw[←hT.G]at h1;exact⟨_,by simp[B7,AU,hcls,h1,BB,hn],h2⟩
  ·rename_i hcls;obtain⟨st',h1,h2⟩:=WZ hr h hb;rw[←hT.G]at h1;exact⟨st',by simp only[B7,AU,hcls,Fx,h1],h2⟩
  ·obtain⟨st',h1,h2⟩:=WY hT hr h hb rd;exact⟨st',h1,h2⟩
  ·split at h
   ·rename_i q hq;split at h
    ·rename_i d;cases h;obtain⟨sv,h1,h2⟩:=Lr hT hr hD hq hb (some d);exact⟨_,by simp only[B7,h1],Rep.set hr h2⟩
    ·cases h;obtain⟨sv,h1,h2⟩:=Lr hT hr hD hq hb none;exact⟨st,by simp only[B7,h1,St.set],hr⟩
   ·split at h<;>(try cases h;done);rename_i d;obtain⟨st',h1,h2⟩:=WX hT hr hD h hb;exact⟨st',by simp only[B7,h1],h2⟩
 |some g=>
  obtain⟨g,want⟩:=g;simp only[G9]at h;split at h<;>(try cases h;done);rename_i q d hq;split at h<;>(try cases h;done)
  ·rename_i f hg;cases h;obtain⟨c,e1,e2⟩:=hr.s g _ hg;unfold Can at e2;cases e2;by_cases hw:f ρ=want
   ·have:∃y,q.2.val ρ=some y∧b=some y:=by
     cases hd:q.2 with
     |tot k=>rw[hd]at hb;simp only[gD,Dyn.val,hw,if_true,Ac]at hb;exact⟨_,rfl,hb.symm⟩
     |par k=>
      rw[hd]at hb;simp only[gD,Dyn.val,hw,if_true]at hb;obtain⟨y,h1,h2⟩:=Aa.1 hb;exact⟨y,h1,h2.symm⟩
    obtain⟨y,hy,rfl⟩:=this;obtain⟨sv,h1,h2⟩:=Lr hT hr hD hq hy (some d);refine⟨_,by simp only[B7,e1,hw,if_true];exact h1,Rep.set hr ?_⟩;exact h2
   ·have:b=none:=by
     cases hd:q.2 with
     |tot k=>rw[hd]at hb;simp only[gD,Dyn.val,hw,if_false,Ac]at hb;exact hb.symm
     |par k=>rw[hd]at hb;simp only[gD,Dyn.val,hw,if_false,Ac]at hb;exact hb.symm
    subst this;exact⟨st.set (some d) B9,by simp only[B7,e1,hw,if_false],Rep.set hr (k:=.opt q.1) (x:=none) rfl⟩
  ·rename_i f hg;cases h;have hs:=hr.s g _ hg;unfold RS at hs;by_cases hw:f ρ=some want
   ·simp only[hw]at hs;obtain⟨c,e1,e2⟩:=hs;unfold Can at e2;cases e2
    have:∃y,q.2.val ρ=some y∧b=some y:=by
     cases hd:q.2 with
     |tot k=>rw[hd]at hb;simp only[gO,Dyn.val,hw,if_true,Ac]at hb;exact⟨_,rfl,hb.symm⟩
     |par k=>
      rw[hd]at hb;simp only[gO,Dyn.val,hw,if_true]at hb;obtain⟨y,h1,h2⟩:=Aa.1 hb;exact⟨y,h1,h2.symm⟩
    obtain⟨y,hy,rfl⟩:=this;obtain⟨sv,h1,h2⟩:=Lr hT hr hD hq hy (some d);refine⟨_,by simp only[B7,e1,if_true];exact h1,Rep.set hr ?_⟩;exact h2
   ·have:b=none:=by
     cases hd:q.2 with
     |tot k=>rw[hd]at hb;simp only[gO,Dyn.val,hw,if_false,Ac]at hb;exact hb.symm
     |par k=>rw[hd]at hb;simp only[gO,Dyn.val,hw,if_false,Ac]at hb;exact hb.symm
    subst this
    cases hf:f ρ with
    |none=>
     simp only[hf]at hs;exact⟨st.set (some d) B9,by simp only[B7,hs,B9],Rep.set hr (k:=.opt q.1) (x:=none) rfl⟩
    |some b'=>
     simp only[hf]at hs;obtain⟨c,e1,e2⟩:=hs;unfold Can at e2;cases e2;have hne:b'≠want:=fun e=>hw (by rw[hf,e]);exact⟨st.set (some d) B9,by simp only[B7,e1,hne,if_false],Rep.set hr (k:=.opt q.1) (x:=none) rfl⟩
theorem Rs(hT:TOk X E)(hF:BN X E){Γ:TC}{msk:List Nat}{ρ:HS Γ}{st:St}(hr:Rep Γ ρ st){D:Option (List Nat)}(hDn:D=none∨∀f,X.TE f=none){l:SL}(hD:∀id,(hid l.op msk).contains id=false→AX (D.map (hid l.op)) st.ob id=st.ob id){o:OpD Γ}(h:opL X Γ msk l=some o){b:o.B}(hb:o.d.val ρ=some b):
  ∃st',Ba E D l st=some st'∧Rep o.Γ' (o.up ρ b) st':=by
 cases hef:G7 X Γ l with
 |some oe=>
  have h':(match G7 X Γ l with
   |some o=>some o
   |none=>G9 X Γ msk l)=some o:=h
  rw[hef]at h';cases h'
  have hD0:D=none:=by
   rcases hDn with h1|h1
   ·exact h1
   ·unfold G7 at hef;split at hef<;>(try cases hef;done);rename_i e he;obtain⟨f,hf⟩:=UE he;exact absurd (h1 f) hf
  subst hD0;exact Rq hT hF hr _ hef hb
 |none=>
  have h':G9 X Γ msk l=some o:=by
   unfold opL at h;rw[hef]at h;exact h
  exact Rr (hT.at D) hr hD h' hb
theorem Iq{X:TP}{E:Env}(hT:TOk X E)(hF:BN X E){A:Type}{msk:List Nat}{D:Option (List Nat)}(hDn:D=none∨∀f,X.TE f=none)(hD:∀(op:SOp) (ob:Nat→Ob) id,(hid op msk).contains id=false→AX (D.map (hid op)) ob id=ob id):∀{ls:List SL} {Γ:TC} {q:LsD A Γ} {ρ:HS Γ} {st:St} {K:HS q.Γ'→Option A} {r:A},
  Hc A X msk ls Γ=some q→Rep Γ ρ st→q.run ρ K=some r→∃st',Ee E D ls st=some st'∧∃ρ',Rep q.Γ' ρ' st'∧K ρ'=some r
 | [],Γ,q,ρ,st,K,r,h,hr,hk=>by
  simp only[Hc,Ac]at h;subst h;exact⟨st,rfl,ρ,hr,hk⟩
 |l::ls,Γ,q,ρ,st,K,r,h,hr,hk=>by
  simp only[Hc]at h;split at h<;>(try cases h;done);rename_i o ho;split at h<;>(try cases h;done);rename_i p hp;cases h;have hk':o.d.app ρ (fun b=>p.run (o.up ρ b) K)=some r:=hk;obtain⟨b,h1,h2⟩:=Dyn.app_some hk';obtain⟨st1,h3,h4⟩:=Rs hT hF hr hDn (hD l.op st.ob) ho h1;obtain⟨st2,h5,h6⟩:=Iq hT hF hDn hD hp h4 h2;exact⟨st2,by simp[Ee,h3,h5],h6⟩
theorem Mp(hT:TOk X E)(hF:BN X E){A:Type}{draw:Bool}{D:List Nat}{ls:List SL}{Γ:TC}{q:LsD A Γ}{ρ:HS Γ}{st:St}{K:HS q.Γ'→Option A}{r:A}(h:F5 A X draw D ls Γ=some q)(hr:Rep Γ ρ st)(hk:q.run ρ K=some r):
  ∃st',CL E draw D ls st=some st'∧∃ρ',Rep q.Γ' ρ' st'∧K ρ'=some r:=by
 cases draw with
 |true=>
  cases D with
  |nil=>
   simp only[F5,cond_true]at h;obtain⟨st',h1,h2⟩:=Iq hT.noE (BN.noE X E) (D:=some []) (.inr fun _=>rfl) (fun op ob id _=>by simp[AX,hid]) h hr hk;exact⟨st',by simpa[CL]using h1,h2⟩
  |cons d ds=>
   simp only[F5,cond_true,if_true]at h;split at h<;>(try cases h;done);rename_i p hp;cases h
   obtain⟨st',h1,h2⟩:=Iq hT.noE (BN.noE X E) (D:=some (d::ds)) (.inr fun _=>rfl) (fun op ob id hh=>by
    simp only[Option.map_some,AX,hh,Ag,if_false]) hp (hr.kill (d::ds)) hk
   exact⟨st',by simpa[CL]using h1,h2⟩
 |false=>
  cases D with
  |nil=>
   simp only[F5,cond_false]at h;obtain⟨st',h1,h2⟩:=Iq hT hF (D:=none) (.inl rfl) (fun op ob id _=>rfl) h hr hk;exact⟨st',by simpa[CL]using h1,h2⟩
  |cons d ds=>
   simp only[F5,cond_false,Ag,if_false]at h;split at h<;>(try cases h;done);rename_i p hp;cases h;obtain⟨st',h1,h2⟩:=Iq hT hF (D:=none) (.inl rfl) (fun op ob id hh=>rfl) hp (hr.kill (d::ds)) hk;exact⟨st',by simpa[CL]using h1,h2⟩
theorem JJ(hT:TOk X E)(hF:BN X E){A:Type}:∀{gs:List GL} {Γ:TC} {q:LsD A Γ} {ρ:HS Γ} {st:St} {K:HS q.Γ'→Option A} {r:A} {Q:St→Prop},
  F4 A X gs Γ=some q→Rep Γ ρ st→q.run ρ K=some r→(∀st' ρ',Rep q.Γ' ρ' st'→K ρ'=some r→Q st')→Fm (Ej X.Θ) E (Ek gs) Q st
 | [],Γ,q,ρ,st,K,r,Q,h,hr,hk,hQ=>by
  simp only[F4,Ac]at h;subst h;exact⟨st,AK.refl st,hQ _ _ hr hk⟩
 | .l l::gs,Γ,q,ρ,st,K,r,Q,h,hr,hk,hQ=>by
  simp only[F4]at h;split at h<;>(try cases h;done);rename_i o ho;split at h<;>(try cases h;done);rename_i p hp;cases h;have hk':o.d.app ρ (fun b=>p.run (o.up ρ b) K)=some r:=hk;obtain⟨b,h1,h2⟩:=Dyn.app_some hk';obtain⟨st1,h3,h4⟩:=Rs hT hF hr (D:=none) (.inl rfl) (fun _ _=>rfl) ho h1;exact⟨st,AK.refl st,st1,h3,JJ (gs:=gs) hT hF hp h4 h2 hQ⟩
 | .g g::gs,Γ,q,ρ,st,K,r,Q,h,hr,hk,hQ=>by
  simp only[F4]at h;split at h<;>(try cases h;done);rename_i p hp;split at h<;>(try cases h;done);rename_i p' hp';cases h;obtain⟨st',h1,h2⟩:=M5 hp hr;exact XA h1 (JJ (gs:=gs) hT hF hp' h2 hk hQ)
theorem PE(hT:TOk X E)(hF:BN X E){A:Type}{D:List Nat}{gs:List GL}{Γ:TC}{q:LsD A Γ}{ρ:HS Γ}{st:St}{K:HS q.Γ'→Option A}{r:A}{Q:Ex→St→Prop}(h:Ir A X D gs Γ=some q)(hr:Rep Γ ρ st)(hk:q.run ρ K=some r)
  (hQ:∀st' ρ',Rep q.Γ' ρ' st'→K ρ'=some r→Q .normal st'):C9 (Ej X.Θ) E (.reg false D (Ek gs)) Q st:=by
 cases D with
 |nil=>
  simp only[Ir]at h;exact⟨st,AK.refl st,JJ hT hF h hr hk hQ⟩
 |cons d ds=>
  simp only[Ir]at h;split at h<;>(try cases h;done);rename_i p hp;cases h;exact⟨st,AK.refl st,JJ hT hF hp (hr.kill (d::ds)) hk hQ⟩
theorem Nd{st:St}{k:Nat}{b:Ob}(hk:k<At):merge {low st with ob:=upd (low st).ob k b} st={st with ob:=upd st.ob k b}∧low {st with ob:=upd st.ob k b}={low st with ob:=upd (low st).ob k b}:=by
 constructor
 ·simp only[merge,low,St.mk.injEq,true_and];funext i;simp only[Ci,BS];by_cases h1:i=k
  ·subst h1;rw[if_pos rfl,if_neg (by omega),if_pos rfl]
  ·rw[if_neg h1,if_neg h1];split<;>rfl
 ·simp only[low,St.mk.injEq,true_and];funext i;simp only[Ci,BS];by_cases h1:i=k
  ·subst h1;rw[if_pos rfl,if_pos rfl,if_neg (by omega)]
  ·rw[if_neg h1,if_neg h1]
theorem QV(st:St):merge (low st) st=st:=by
 obtain⟨fr,ob⟩:=st;simp only[merge,low,St.mk.injEq,true_and];funext i;simp only[BS];split<;>rfl
theorem QN{st:St}{id:Nat}{o:Ob}(h:(low st).ob id=o)(hn:o≠ .none):id<At∧st.ob id=o:=by
 have h':(if At≤id then Ob.none else st.ob id)=o:=h;by_cases hi:At≤id
 ·rw[if_pos hi]at h';exact absurd h'.symm hn
 ·rw[if_neg hi]at h';exact⟨by omega,h'⟩
theorem XZ{d:Option Nat}{ρ:SO→SV}{st t:St}{n:Nat}{x y:SO}(h:Bf d ρ (low st) (.store n x y)=some t):Bf d ρ st (.store n x y)=some (merge t st)∧low (merge t st)=t:=by
 simp only[Bf]at h⊢
 have hdr:deref st.ob (ρ x)=deref (low st).ob (ρ x)∨deref (low st).ob (ρ x)=.undef:=by
  generalize ρ x=q;cases q<;>try exact .inl rfl
  rename_i c;cases c<;>try exact .inl rfl
  rename_i N;simp only[deref];by_cases hN:At≤N
  ·right;rw[if_pos hN];have:(low st).ob N=.none:=by show(if At≤N then Ob.none else st.ob N)=_;rw[if_pos hN]
   rw[this]
  ·left;rw[if_neg hN,if_neg hN]
 rcases hdr with hdr|hdr
 ·rw[hdr];generalize deref (low st).ob (ρ x)=q at h⊢;cases q<;>(try cases h;done)
  ·rename_i cv;cases cv<;>(try cases h;done);rename_i cs
   cases cs with
   |nil=>cases h
   |cons c0 cs=>
    cases cs with
    |cons _ _=>cases c0<;>cases h
    |nil=>
     cases c0<;>(try cases h;done);cases hv:ρ y<;>simp only[hv]at h⊢ <;>(try cases h;done);rename_i c2;cases c2<;>(try cases h;done);simp only[Ad,Ac]at h⊢;obtain⟨hc,rfl⟩:=h;exact⟨⟨hc,(QV st).symm⟩,by rw[QV]⟩
  ·rename_i id o;simp only at h⊢;cases hob:(low st).ob id<;>rw[hob]at h<;>(try cases h;done);rename_i cs;obtain⟨hi,hob'⟩:=QN hob (by simp);rw[hob'];simp only at h⊢;split at h
   ·split at h<;>(try cases h;done);rename_i hc;cases h;obtain⟨k1,k2⟩:=Nd (st:=st) (b:=.box (Fo cs o (List.map SV.c ‹_›))) hi;rw[k1];exact⟨by rw[if_pos hc],k2⟩
   ·split at h<;>(try cases h;done);rename_i hc;cases h;obtain⟨k1,k2⟩:=Nd (st:=st) (b:=.box (cs.set o (ρ y))) hi;rw[k1];exact⟨by rw[if_pos hc],k2⟩
  ·rename_i id i size o;simp only at h⊢;split at h<;>(try cases h;done);rename_i e sz es v hob hv;obtain⟨hi,hob'⟩:=QN hob (by simp);rw[hob',hv];simp only;split at h<;>(try cases h;done);rename_i hc;rw[if_pos hc];obtain⟨el,h1,h2⟩:=Ab.1 h;rw[h1,Option.bind_some];split at h2<;>(try cases h2;done);rename_i hc2;cases h2;obtain⟨k1,k2⟩:=Nd (st:=st) (b:=.arr e sz (es.set i (Fj el o n v))) hi;rw[k1,if_pos hc2];exact⟨rfl,k2⟩
 ·rw[hdr]at h;cases h
theorem Xo{E:Env}{D:List Nat}{l:SL}{st t:St}(hl:MO l=true)(h:B7 E.pois (AX (some (hid l.op D)) (BS st.ob)) l (low st)=some t):CF E D l st=some (merge t st)∧low (merge t st)=t:=by
 simp only[MO,Af,Aj,Bool.not_eq_true']at hl
 have hd:∀j,l.dst=some j→j<At:=fun j hj=>by
  have:=hl.2;rw[hj]at this;exact Nat.lt_of_succ_le (Ah this)
 unfold CF;rw[Mw]at h⊢;have hgd:gd l (low st).fr=gd l st.fr:=rfl;rw[hgd]at h
 cases hg:gd l st.fr with
 |none=>rw[hg]at h;cases h
 |some b=>
  rw[hg]at h
  cases b with
  |false=>
   simp only[Option.bind_some,Ag,if_false,Ac]at h⊢;have h':put (low st) l.dst (B9,none)=some t:=by rw[←h];rfl
   obtain⟨k1,k2⟩:=Ny hd h';exact⟨Option.some.inj k1,k2⟩
  |true=>
   simp only[Option.bind_some,if_true]at h⊢
   cases hh:l.op.hard with
   |true=>
    have hst:l.op.stores=true:=by
     rcases hl.1 with h1|h1
     ·rw[hh]at h1;cases h1
     ·exact h1
    cases hop:l.op<;>rw[hop]at hst<;>(try cases hst;done);rw[hop]at h;exact XZ (d:=l.dst) h
   |false=>
    have hnone:efL E l st.fr=none:=by
     cases hef:efL E l st.fr with
     |none=>rfl
     |some q=>
      exfalso;unfold efL at hef;split at hef<;>(try cases hef;done)
      ·rename_i f args ho;split at hef<;>(try cases hef;done);rename_i e he;have he':E.pois.ef f=some ⟨e.T,fun _ _=>none⟩:=by show(E.ef f).map _=_;rw[he];rfl
       rw[ho]at h;simp only[AU,SOp.cls,he',Dt]at h
       cases hal:Ap (fun x=>closed (so E.pois.G (low st).fr x)) args with
       |none=>rw[hal]at h;cases h
       |some v=>rw[hal]at h;cases h
      ·rename_i f args ho;split at hef<;>(try cases hef;done);rename_i g caps hfv;split at hef<;>(try cases hef;done);rename_i e he;have he':E.pois.ef g=some ⟨e.T,fun _ _=>none⟩:=by show(E.ef g).map _=_;rw[he];rfl
       have hfv':so E.pois.G (low st).fr f=.c (.fn g caps):=hfv;rw[ho]at h;simp only[AU,SOp.cls,hfv',he',Dt]at h
       cases hal:Ap (fun x=>closed (so E.pois.G (low st).fr x)) args with
       |none=>rw[hal]at h;cases h
       |some v=>rw[hal]at h;cases h
    have hnone':efL E.pois l (low st).fr=none:=by
     unfold efL at hnone⊢;cases ho:l.op<;>rw[ho]at hnone<;>try rfl
     ·rename_i f args;simp only at hnone⊢;split at hnone<;>(try cases hnone;done);rename_i he;have he':E.pois.ef f=none:=by show(E.ef f).map _=_;rw[he];rfl
      rw[he']
     ·rename_i f args;simp only at hnone⊢
      show(match so E.G st.fr f with
       | .c (.fn f caps)=>match E.pois.ef f with
        |some e=>some (e,args,caps)
        |none=>none
       |_=>none)=none
      split
      ·rename_i g caps hfv;rw[hfv]at hnone;simp only at hnone;split at hnone<;>(try cases hnone;done);rename_i he;have he':E.pois.ef g=none:=by show(E.ef g).map _=_;rw[he];rfl
       rw[he']
      ·rfl
    rw[Nr hnone',HJ hh,Ab]at h;obtain⟨p,h1,h2⟩:=h;obtain⟨k1,k2⟩:=Ny hd h2;refine⟨?_,k2⟩;rw[Nr hnone,HJ hh,Ab];exact⟨p,h1,k1⟩
theorem FR{f:Key×EK→Bool}:∀{Γ:TC} {seen:List Key},(Dm f Γ seen).all f=true
 | [],_=>rfl
 |e::Γ,seen=>by
  unfold Dm
  cases seen.contains e.1 with
  |true=>exact FR
  |false=>
   simp only
   cases hf:f e with
   |true=>simp only[List.all_cons,hf,Bool.true_and];exact FR
   |false=>exact FR
theorem IK{N:Nat}(h:Cs (.o N)=true):N<At:=by
 simp only[Cs,Bool.not_eq_true']at h;exact Nat.lt_of_not_le fun hh=>by rw[Nat.ble_eq_true_of_le hh]at h;cases h
theorem W5{N j:Nat}(h:Cs (.c N j)=true):N<At:=IK h
theorem M7{N:Nat}(h:Cs (.o N)=false):At≤N:=by
 simp only[Cs,Bool.not_eq_false']at h;exact Ah h
section
variable {Γ:TC} {ρ:HS Γ} {st:St}
theorem Rep.low(h:Rep Γ ρ st)(hk:(Γ.all fun e=>Cs e.1)=true):Rep Γ ρ (WB.low st):=by
 refine⟨h.s,fun id q hq=> ?_⟩;have hid:=IK (BP (pr:=fun e=>Cs e.1) hk (Bq hq));have e:(WB.low st).ob id=st.ob id:=by show(if At≤id then Ob.none else st.ob id)=_;rw[if_neg (by omega)]
 rw[e];exact h.o id q hq
theorem RS.clean{k:EK}{x:DK k}{sv:SV}(h:RS k x sv)(hn:∀id,k.refs=some id→id<At):RS k x (CJ sv):=by
 have key:∀(id:Nat) (s:SV),s.ref=some id→id<At→CJ s=s:=fun id s hs hid=>by
  unfold CJ;rw[hs];simp only;rw[if_neg (by omega)]
 have keyc:∀s:SV,s.ref=none→CJ s=s:=fun s hs=>by unfold CJ;rw[hs]
 induction k
 case v t=>obtain⟨c,rfl,hc⟩:=h;exact⟨c,rfl,hc⟩
 case opt k ih=>
  unfold RS at h⊢
  cases x with
  |none=>simp only at h;subst h;rfl
  |some y=>exact ih h hn
 case rp ex r=>obtain⟨cs,rest,rfl,hc⟩:=h;exact⟨cs,rest,rfl,hc⟩
 case undef=>trivial
 case ptr id o=>unfold RS at h;subst h;exact key id _ rfl (hn id rfl)
 case eptr id s o=>unfold RS at h;subst h;exact key id _ rfl (hn id rfl)
 case aptr id n o=>obtain⟨h,hi⟩:=h;subst h;exact⟨key id _ rfl (hn id rfl),hi⟩
 case own id=>unfold RS at h;subst h;exact key id _ rfl (hn id rfl)
 case mp id=>unfold RS at h;subst h;exact key id _ rfl (hn id rfl)
 case iter id=>unfold RS at h;subst h;exact key id _ rfl (hn id rfl)
 case ent id k v=>
  obtain⟨ck,cv,rfl,h1,h2⟩:=h;exact⟨ck,cv,key id _ rfl (hn id rfl),h1,h2⟩
 case stamp id k=>
  obtain⟨ck,rfl,h1⟩:=h;exact⟨ck,key id _ rfl (hn id rfl),h1⟩
 all_goals exact h
theorem KC{p:Key}{k:EK}(h:Ff (p,k)=true):Cs p=true∧∀id,k.refs=some id→id<At:=by
 simp only[Ff,Af]at h;refine⟨h.1,fun id hid=> ?_⟩;have h2:=h.2;rw[hid]at h2;exact IK h2
theorem Rep.lowC(h:Rep Γ ρ st)(hk:Γ.all Ff=true):Rep Γ ρ (WB.low (CR st)):=by
 refine⟨fun i q hq=>RS.clean (h.s i q hq) (KC (BP hk (Bq hq))).2,fun id q hq=> ?_⟩;have hid:=IK (KC (BP hk (Bq hq))).1
 have e:(WB.low (CR st)).ob id=F1 (st.ob id):=by
  show(if At≤id then Ob.none else(if At≤id then st.ob id else F1 (st.ob id)))=_;rw[if_neg (by omega),if_neg (by omega)]
 rw[e];have hob:=h.o id q hq;obtain⟨k,f'⟩:=q;simp only at hob⊢;cases k<;>try exact hob
 ·obtain⟨cs,h7,h8,h9⟩:=hob;rw[h7];refine⟨cs.map CJ,rfl,by simp[h8],fun j q' hj hq'=> ?_⟩;obtain⟨sv,g4,g5⟩:=h9 j _ hj hq';exact⟨CJ sv,by simp[g4],RS.clean g5 (KC (BP hk (Bq hq'))).2⟩
 all_goals first
  |(obtain⟨es,h7,h8⟩:=hob;rw[h7];exact⟨es,rfl,h8⟩)
  |(obtain⟨z,ks,vs,h7,h8⟩:=hob;rw[h7];exact⟨z,ks,vs,rfl,h8⟩)
  |(unfold RO at hob;rw[hob];rfl)
theorem Rep.highC(h:Rep Γ ρ st)(hk:Γ.all DJ=true){st':St}(hob:∀i,At≤i→st'.ob i=st.ob i):Rep Γ ρ st':=by
 refine⟨fun i q hq=> ?_,fun id q hq=> ?_⟩
 ·have:=BP hk (Bq hq);cases this
 ·have hid:Cs (.o id)=false:=by simpa[DJ]using BP hk (Bq hq)
  rw[hob id (M7 hid)];exact h.o id q hq
theorem Rep.comb{Θ:TC}{θ:HS Θ}(hΘ:Rep Θ θ st)(h:Rep Γ ρ (WB.low st))(hk:(Γ.all fun e=>Cs e.1)=true)(hk':Θ.all DJ=true):Rep (Θ++Γ) (Cc Θ θ ρ) st:=by
 refine⟨fun i q hq=> ?_,fun id q hq=> ?_⟩
 ·rcases CM hq with⟨_,f,hf,e⟩|⟨_,f,hf,e⟩
  ·have:=BP hk' (Bq hf);cases this
  ·rw[e];exact h.s i _ hf
 ·rcases CM hq with⟨h1,f,hf,e⟩|⟨h1,f,hf,e⟩
  ·rw[e];have hid:Cs (.o id)=false:=by simpa[DJ]using BP hk' (Bq hf)
   have r:=hΘ.o id _ hf;obtain⟨k,f'⟩:=q;cases k<;>try exact r
   obtain⟨cs,e1,hl,hc⟩:=r;refine⟨cs,e1,hl,fun j q' hj hq'=> ?_⟩;rcases CM hq' with⟨_,f2,hf2,e2⟩|⟨_,f2,hf2,e2⟩
   ·rw[e2];exact hc j _ hj hf2
   ·have:Cs (.c id j)=true:=BP (pr:=fun e=>Cs e.1) hk (Bq hf2);have:=W5 this;have:=M7 hid;omega
  ·rw[e];have hid:=IK (BP (pr:=fun e=>Cs e.1) hk (Bq hf));have e0:(WB.low st).ob id=st.ob id:=by show(if At≤id then Ob.none else st.ob id)=_;rw[if_neg (by omega)]
   have r:=h.o id _ hf;rw[e0]at r;obtain⟨k,f'⟩:=q;cases k<;>try exact r
   obtain⟨cs,e1,hl,hc⟩:=r;refine⟨cs,e1,hl,fun j q' hj hq'=> ?_⟩;rcases CM hq' with⟨_,f2,hf2,e2⟩|⟨_,f2,hf2,e2⟩
   ·have hc':Cs (.c id j)=false:=by simpa[DJ]using BP hk' (Bq hf2)
    have:=M7 (N:=id) hc';omega
   ·rw[e2];exact hc j _ hj hf2
end
theorem UH{X:TP}{E:Env}(hT:TOk X E)(hF:BN X E){Γ Θ:TC}{ρ:HS Γ}{θ:HS Θ}{st:St}(hr:Rep Γ ρ (low st))(hΘ:Rep Θ θ st)(hh:Θ.all DJ=true)(rd:Nat→Ob){l:SL}{o:OpD (Θ++Γ)}(h:efT X Γ Θ l=some o){b:o.B}(hb:o.d.val (Cc Θ θ ρ)=some b):
  ∃st',B7 E rd l st=some st'∧Rep o.Γ' (o.up (Cc Θ θ ρ) b) st':=by
 unfold efT at h;split at h<;>(try cases h;done);split at h<;>(try cases h;done);rename_i hk;exact Rq hT hF (Rep.comb hΘ hr hk hh) rd h hb
theorem Mn{X:TP}{E:Env}(hT:TOk X E)(hF:BN X E){A:Type}{D:List Nat}:∀{ls:List SL} {Γ Θ:TC} {q:OG A Γ Θ} {ρ:HS Γ} {θ:HS Θ} {st:St} {K:HS q.Γ'→HS q.Θ'→Option A} {r:A},
  Hd A X D ls Γ Θ=some q→Rep Γ ρ (low st)→Rep Θ θ st→Θ.all DJ=true→q.run ρ θ K=some r→∃st',FB E.named D ls st=some st'∧∃ρ' θ',Rep q.Γ' ρ' (low st')∧Rep q.Θ' θ' st'∧q.Θ'.all DJ=true∧K ρ' θ'=some r
 | [],Γ,Θ,q,ρ,θ,st,K,r,h,hr,hΘ,hh,hk=>by
  simp only[Hd,Ac]at h;subst h;exact⟨st,rfl,ρ,θ,hr,hΘ,hh,hk⟩
 |l::ls,Γ,Θ,q,ρ,θ,st,K,r,h,hr,hΘ,hh,hk=>by
  simp only[Hd]at h;split at h
  ·rename_i o ho;split at h<;>(try cases h;done);rename_i g f hg hf;split at h<;>(try cases h;done);rename_i p hp;cases h;have hk':o.d.app (Cc Θ θ ρ) (fun b=>p.run (g (o.up (Cc Θ θ ρ) b)) (f (o.up (Cc Θ θ ρ) b)) K)=some r:=hk;obtain⟨b,h1,h2⟩:=Dyn.app_some hk';obtain⟨st1,h3,h4⟩:=UH hT.named hF.named hr hΘ hh (AX (some (hid l.op D)) (BS st.ob)) ho h1
   have hlow:((Dm Ff o.Γ' []).all fun e=>Cs e.1)=true:=by
    have:=FR (f:=Ff) (Γ:=o.Γ') (seen:= []);rw[List.all_eq_true]at this⊢;intro e he;exact(KC (p:=e.1) (k:=e.2) (this e he)).1
   obtain⟨st2,h5,h6⟩:=Mn hT hF hp (Rep.low (Dr hg h4) hlow) (Dr hf h4) FR h2;exact⟨st2,by simp only[FB,CF,h3,Option.bind_some];exact h5,h6⟩
  ·split at h<;>(try cases h;done);rename_i hl;split at h<;>(try cases h;done);rename_i o ho;split at h<;>(try cases h;done);rename_i p hp;cases h;have hk':o.d.app ρ (fun b=>p.run (o.up ρ b) θ K)=some r:=hk;obtain⟨b,h1,h2⟩:=Dyn.app_some hk'
   obtain⟨t,h3,h4⟩:=Rr hT.named.pois hr (rd:=AX (some (hid l.op D)) (BS st.ob)) (fun id hid'=>by
    show(if(hid l.op D).contains id then Ob.none else BS st.ob id)=_
    rw[hid'];rfl) ho h1
   obtain⟨k1,k2⟩:=Xo hl h3;have hΘ':Rep Θ θ (merge t st):=hΘ.highC hh fun i hi=>by show(if At≤i then st.ob i else t.ob i)=_;rw[if_pos hi]
   rw[←k2]at h4;obtain⟨st2,h5,h6⟩:=Mn hT hF hp h4 hΘ' hh h2;exact⟨st2,by simp only[FB,k1,Option.bind_some];exact h5,h6⟩
theorem U3{X:TP}{E:Env}(hT:TOk X E)(hF:BN X E){A:Type}{D:List Nat}{ls:List SL}{Γ:TC}{q:LsD A Γ}{ρ:HS Γ}{st:St}{K:HS q.Γ'→Option A}{r:A}(h:Mo A X D ls Γ=some q)(hr:Rep Γ ρ st)(hk:q.run ρ K=some r):
  ∃st',Iz E D ls st=some st'∧∃ρ',Rep q.Γ' ρ' st'∧K ρ'=some r:=by
 unfold Mo at h;split at h<;>(try cases h;done);rename_i g f hg hf;split at h<;>(try cases h;done);rename_i p hp;split at h<;>(try cases h;done);rename_i hall;cases h;have hr0:=hr.kill D;have h1:Rep _ (g (B8 D ρ)) (low (CR (WB.kill D st))):=Rep.lowC (Dr hg hr0) FR;have h2:Rep _ (f (B8 D ρ)) (CR (WB.kill D st)):=Rep.highC (Dr hf hr0) FR fun i hi=>by show(if At≤i then _ else _)=_;rw[if_pos hi]
 obtain⟨st',h3,ρ',θ',h4,h5,h6,h7⟩:=Mn hT hF hp h1 h2 FR hk;exact⟨st',h3,_,Rep.comb h5 h4 hall h6,h7⟩
theorem RJ{le:D6}{E:Env}{D:List Nat}{ls:List SL}{Q:Ex→St→Prop}{st st':St}(h:CL E true D ls st=some st'∨Iz E D ls st=some st')(hq:Q .normal st'):C9 le E (.regE D ls) Q st:=⟨st,AK.refl st,st',h,hq⟩
theorem PF{X:TP}{E:Env}(hT:TOk X E)(hF:BN X E){A:Type}{e:Bool}{D:List Nat}{ls:List SL}{Γ:TC}{q:LsD A Γ}{ρ:HS Γ}{st:St}{K:HS q.Γ'→Option A}{r:A}(h:Mq A X e D ls Γ=some q)(hr:Rep Γ ρ st)(hk:q.run ρ K=some r):
  ∃st',(CL E true D ls st=some st'∨Iz E D ls st=some st')∧∃ρ',Rep q.Γ' ρ' st'∧K ρ'=some r:=by
 cases e with
 |true=>
  obtain⟨st',h1,h2⟩:=U3 hT hF h hr hk;exact⟨st',.inr h1,h2⟩
 |false=>
  obtain⟨st',h1,h2⟩:=Mp hT hF h hr hk;exact⟨st',.inl h1,h2⟩
theorem U4(hT:TOk X E)(hF:BN X E){A:Type}{Q:Ex→St→Prop}:∀{c:AC} {Γ:TC} {q:LsD A Γ} {ρ:HS Γ} {st:St} {K:HS q.Γ'→Option A} {r:A},F6 A X c Γ=some q→Rep Γ ρ st→q.run ρ K=some r→
  (∀st' ρ',Rep q.Γ' ρ' st'→K ρ'=some r→Q .normal st')→C9 (Ej X.Θ) E (B1 c) Q st:=by
 intro c
 induction c generalizing Q with
 |skip=>
  intro Γ q ρ st K r h hr hk hQ;simp only[F6,Ac]at h;subst h;exact⟨st,AK.refl st,hQ _ _ hr hk⟩
 |reg draw D ls=>
  intro Γ q ρ st K r h hr hk hQ;obtain⟨st',h1,ρ',h2,h3⟩:=Mp hT hF (K:=K) h hr hk;exact RI h1 (hQ _ _ h2 h3)
 |rg D gs=>
  intro Γ q ρ st K r h hr hk hQ;exact PE hT hF (K:=K) h hr hk hQ
 |regE e D ls=>
  intro Γ q ρ st K r h hr hk hQ;obtain⟨st',h1,ρ',h2,h3⟩:=PF hT hF (K:=K) h hr hk;exact RJ h1 (hQ _ _ h2 h3)
 |sq a b iha ihb=>
  intro Γ q ρ st K r h hr hk hQ;simp only[F6]at h;split at h<;>(try cases h;done);rename_i p hp;split at h<;>(try cases h;done);rename_i p' hp';cases h;exact⟨st,AK.refl st,iha hp hr hk fun st' ρ' h1 h2=>ihb hp' h1 h2 hQ⟩
 |gh g c ih=>
  intro Γ q ρ st K r h hr hk hQ;simp only[F6]at h;split at h<;>(try cases h;done);rename_i p hp;split at h<;>(try cases h;done);rename_i p' hp';cases h;obtain⟨st',h1,h2⟩:=M5 hp hr;exact RK h1 (ih hp' h2 hk hQ)
 |_=>intro Γ q ρ st K r h;cases h
theorem N8{Γ:TC}{ρ:HS Γ}{st:St}(hr:Rep Γ ρ st){x:Bd}{q:Σ t:Ty,Dyn (HS Γ) (D t)}{y:D q.1}(h:HG X Γ x=some q)(hy:q.2.val ρ=some y):∃c,Em st x=some c∧Can q.1 y [c]:=by
 cases x with
 |tmp t=>
  simp only[HG]at h;split at h<;>(try cases h;done);rename_i p hp;cases h;obtain⟨c,h1,h2,_⟩:=Lc (msk:= []) (rd:=st.ob) (G:=X.G) (fl:=p.1) (q:=p.2) hp hr (fun _ _=>rfl) hy;exact⟨c,h1,h2⟩
 |cell a sz=>
  simp only[HG]at h;split at h<;>(try cases h;done);rename_i k hk;split at h<;>(try cases h;done)
  ·rename_i t d hd;cases h;obtain⟨sv,h1,c,h2,h3⟩:=K0 (msk:= []) (rd:=st.ob) (sv:=deref st.ob (so X.G st.fr (.t a))) hr (fun _ _=>rfl) hd hy (fun x hx=>Is hr (fun _ _=>rfl) (fun x hx=>Bo hk hr hx) hx (Kz hd));subst h2;refine⟨c, ?_,h3⟩;have h1':Bt st.ob sz (deref st.ob (st.fr a))=some (.c c):=h1;simp[Em,h1',Cd]
  ·rename_i id f hd;split at h<;>(try cases h;done);rename_i e size t xs ho;cases h;cases hy;obtain⟨sv,h1,h2⟩:=K0 (msk:= []) (rd:=st.ob) (sv:=deref st.ob (so X.G st.fr (.t a))) (y:=f ρ) hr (fun _ _=>rfl) hd rfl (fun x hx=>Is hr (fun _ _=>rfl) (fun x hx=>Bo hk hr hx) hx (Kz hd));have h2':sv=.osl id:=h2;subst h2';obtain⟨es,h3,h4⟩:=hr.o id _ ho;refine⟨.sl none es, ?_,by unfold Can;exact⟨_,_,rfl,h4⟩⟩;have h1':Bt st.ob sz (deref st.ob (st.fr a))=some (.osl id):=h1;simp[Em,h1',Cd,h3]
theorem N7{Γ:TC}{ρ:HS Γ}{st:St}(hr:Rep Γ ρ st):∀{xs:List Bd} {q:Σ t:Ty,Dyn (HS Γ) (D t)} {y:D q.1},HF X Γ xs=some q→q.2.val ρ=some y→∃l,Ap (Em st) xs=some l∧Can q.1 y l
 | [],q,y,h,hy=>by
  simp only[HF,Ac]at h;subst h;exact⟨[],rfl,by unfold Can;rfl⟩
 | [x],q,y,h,hy=>by
  simp only[HF]at h;split at h<;>(try cases h;done);rename_i p hp;cases h;obtain⟨c,h1,h2⟩:=N8 hr hp hy;exact⟨[c],by simp[Ap,h1],by unfold Can;exact⟨c,rfl,h2⟩⟩
 |x::z::xs,q,y,h,hy=>by
  simp only[HF]at h;split at h<;>(try cases h;done);rename_i p p' hp hp';cases h;obtain⟨g1,g2⟩:=Dyn.both_val hy;obtain⟨c,h1,h2⟩:=N8 hr hp g1;obtain⟨l,h3,h4⟩:=N7 hr hp' g2;refine⟨c::l, ?_,by unfold Can;exact⟨c,l,rfl,h2,h4⟩⟩;have e:Ap (Em st) (x::z::xs)=(Em st x).bind fun b=>(Ap (Em st) (z::xs)).map fun bs=>b::bs:=rfl;rw[e,h1,h3];rfl
theorem X7{Γ:TC}{ρ:HS Γ}{st:St}(hr:Rep Γ ρ st){xs:List Bd}{q:Σ t:Ty,Dyn (HS Γ) (D t)}{y:D q.1}(h:Lj X Γ xs=some q)(hy:q.2.val ρ=some y):∃c,D2 st xs=some c∧Can q.1 y [c]:=by
 match xs,h with
 | [x],h=>
  obtain⟨c,h1,h2⟩:=N8 hr h hy;exact⟨c,by simp[D2,Ap,h1,EE],h2⟩
 | [],h=>
  simp only[Lj]at h;split at h<;>(try cases h;done);rename_i p hp;cases h;obtain⟨l,h1,h2⟩:=N7 hr hp hy;simp only[Ap,Ac]at h1;subst h1;exact⟨.tup [],rfl,by unfold Can;exact⟨[],rfl,h2⟩⟩
 |x::z::xs,h=>
  simp only[Lj]at h;split at h<;>(try cases h;done);rename_i p hp;cases h;obtain⟨l,h1,h2⟩:=N7 hr hp hy;have hlen:=DY h1;refine⟨.tup l, ?_,by unfold Can;exact⟨l,rfl,h2⟩⟩;simp only[D2,h1,Option.map_some]
  match l,hlen with
  |c::d::l,_=>rfl
theorem Q6{R A B:Type}{e:Nat×TC}{ys:XC}{rt:Bool}{f:Ey R (e::ys) rt→B}{ρ:HS e.2}{b:B}{ke:KE A (e::ys)}{kr:R→Option A}{r:A}(h:(keX (e::ys) rt f).1 ρ=some b)
  (hk:∀o,f o=b→elX (e::ys) rt ke kr o=some r):ke.1 ρ=some r:=by
 cases ys with
 |nil=>
  cases rt with
  |false=>exact hk ρ (Option.some.inj h)
  |true=>exact hk (.inl ρ) (Option.some.inj h)
 |cons e' ys=>exact hk (.inl ρ) (Option.some.inj h)
theorem MF{R A B:Type}:∀{ys:XC} {rt:Bool} {f:Ey R ys rt→B} {i:Nat} {Γi:TC} {s:KE B ys→HS Γi→Option B} {ρ:HS Γi} {b:B} {ke:KE A ys} {kr:R→Option A} {r:A},Dw B ys i=some ⟨Γi,s⟩→s (keX ys rt f) ρ=some b→
  (∀o,f o=b→elX ys rt ke kr o=some r)→∃s',Dw A ys i=some ⟨Γi,s'⟩∧s' ke ρ=some r
 | [],rt,f,i,Γi,s,ρ,b,ke,kr,r,h,_,_=>by cases h
 |e::ys,rt,f,i,Γi,s,ρ,b,ke,kr,r,h,hs,hk=>by
  simp only[Dw]at h⊢;split at h
  ·rename_i hi;cases h;rw[if_pos hi];exact⟨_,rfl,Q6 hs hk⟩
  ·rename_i hi;rw[if_neg hi];split at h<;>(try cases h;done);rename_i q hq;cases h
   cases ys with
   |nil=>cases hq
   |cons e' ys=>
    obtain⟨s',h1,h2⟩:=MF (A:=A) (f:=fun o=>f (.inr o)) (ke:=ke.2) (kr:=kr) (r:=r) hq hs (fun o ho=>hk (.inr o) ho);rw[h1];exact⟨_,rfl,h2⟩
theorem Wj{R A B:Type}{e:Nat×TC}{ys:XC}{rt:Bool}{f:Ey R (e::ys) rt→B}{i:Nat}{Γi:TC}{s:KE B ys→HS Γi→Option B}{ρ:HS Γi}{b:B}{ke:KE A (e::ys)}{kr:R→Option A}{r:A}(h:Dw B ys i=some ⟨Γi,s⟩)(hs:s (keX (e::ys) rt f).2 ρ=some b)
  (hk:∀o,f o=b→elX (e::ys) rt ke kr o=some r):∃s',Dw A ys i=some ⟨Γi,s'⟩∧s' ke.2 ρ=some r:=by
 cases ys with
 |nil=>cases h
 |cons e' ys=>exact MF (A:=A) (f:=fun o=>f (.inr o)) (ke:=ke.2) (kr:=kr) (r:=r) h hs (fun o ho=>hk (.inr o) ho)
theorem NA{R A B:Type}:∀{ys:XC} {rt:Bool} {f:Ey R ys rt→B} {v:R} {b:B} {ke:KE A ys} {kr:R→Option A} {r:A},rtX ys rt f v=some b→(∀o,f o=b→elX ys rt ke kr o=some r)→kr v=some r
 | [],true,f,v,b,ke,kr,r,h,hk=>hk v (Option.some.inj h)
 | [],false,f,v,b,ke,kr,r,h,hk=>by cases h
 | [e],false,f,v,b,ke,kr,r,h,hk=>by cases h
 | [e],true,f,v,b,ke,kr,r,h,hk=>hk (.inr v) (Option.some.inj h)
 |e::e'::ys,rt,f,v,b,ke,kr,r,h,hk=>NA (f:=fun o=>f (.inr o)) (ke:=ke.2) h (fun o ho=>hk (.inr o) ho)
theorem NG{A:Type}{xs:XC}:∀{ys:XC} {g:KE A xs→KE A ys} {i:Nat} {Γi:TC} {s:KE A ys→HS Γi→Option A} {ke:KE A xs} {ρ:HS Γi} {r:A},Jg A xs ys=some g→Dw A ys i=some ⟨Γi,s⟩→s (g ke) ρ=some r→∃s',Dw A xs i=some ⟨Γi,s'⟩∧s' ke ρ=some r
 | [],g,i,Γi,s,ke,ρ,r,_,h,_=>by cases h
 |e::ys,g,i,Γi,s,ke,ρ,r,hg,h,hs=>by
  simp only[Jg]at hg;split at hg<;>(try cases hg;done);rename_i q g' hq hg';split at hg<;>(try cases hg;done);rename_i he;cases hg;obtain⟨Γq,f⟩:=q;simp only at he;subst he;simp only[Dw]at h;split at h
  ·rename_i hi;subst hi;cases h;exact⟨f,hq,hs⟩
  ·split at h<;>(try cases h;done);rename_i q' hq';cases h;exact NG hg' hq' hs
def EP(st:St)(rs:List Bd):(Rt:Ty)→D Rt→Prop
 | .nw e size t,ys=>∃es,Vf rs (.arr e size es) .ret st∧Aq (fun x c=>Can t x [c]) ys es
 |Rt,v=>∃c,D2 st rs=some c∧Can Rt v [c]
theorem EP.val{st:St}{rs:List Bd}{Rt:Ty}{v:D Rt}{c:CV}(h:D2 st rs=some c)(hc:Can Rt v [c]):EP st rs Rt v:=by
 cases Rt<;>first|exact⟨c,h,hc⟩|(unfold Can at hc;exact hc.elim)
theorem EP.of{st:St}{rs:List Bd}{Rt:Ty}{v:D Rt}(hv:Rt.val=true)(h:EP st rs Rt v):∃c,D2 st rs=some c∧Can Rt v [c]:=by
 cases Rt<;>first|exact h|cases hv
theorem X9{Γ:TC}{rs:List Bd}{Rt:Ty}{g:HS Γ→D Rt}{ρ:HS Γ}{st:St}(h:N9 Γ rs Rt=some g)(hr:Rep Γ ρ st):EP st rs Rt (g ρ):=by
 unfold N9 at h;split at h<;>(try cases h;done);rename_i i e size t;split at h<;>(try cases h;done)
 ·rename_i id f hg;split at h<;>(try cases h;done);rename_i e' size' t' xs ho;split at h<;>(try cases h;done);rename_i ht;split at h<;>(try cases h;done);rename_i he;subst ht;obtain⟨rfl,rfl⟩:=he;cases h;have h1:st.fr i=.osl id:=hr.s i _ hg;obtain⟨es,h2,h3⟩:=hr.o id _ ho;exact⟨es,⟨i,rfl,.inl ⟨id,.inl h1,h2,rfl⟩⟩,h3⟩
 ·rename_i f hg;cases h;obtain⟨c,e1,e2⟩:=hr.s i _ hg;unfold Can at e2;cases e2;exact⟨[],⟨i,rfl,.inr ⟨e1,_,_,rfl⟩⟩,rfl⟩
theorem Xz{rs:List Bd}{Rt:Ty}{Γ:TC}{q:RdD Γ (D Rt)}{ρ:HS Γ}{st:St}(h:rdT X rs Rt Γ=some q)(hr:Rep Γ ρ st){v:q.B}(hv:q.d.val ρ=some v):EP st rs Rt (q.up ρ v):=by
 unfold rdT at h;split at h
 ·rename_i g hg;cases h;exact X9 hg hr
 ·split at h<;>(try cases h;done);rename_i q' hq;split at h<;>(try cases h;done);rename_i g hg;cases h;obtain⟨c,h3,h4⟩:=X7 hr hq hv;exact EP.val h3 (BU _ _ hg h4)
def Tl{A:Type}{xs:XC}{Γn:TC}{R:Type}(RP:St→R→Prop)(k:DKn A xs Γn R)(r:A):Ex→St→Prop
 | .normal,st=>∃ρ,Rep Γn ρ st∧k.n ρ=some r
 | .exit i,st=>∃Γi s ρ,Dw A xs i=some ⟨Γi,s⟩∧Rep Γi ρ st∧s k.e ρ=some r
 | .ret,st=>∃v,RP st v∧k.r v=some r
theorem PG(hT:TOk X E)(hF:BN X E){R:Type}{rd:(Γ:TC)→Option (RdD Γ R)}{RP:St→R→Prop}(hrd:∀{Γ:TC} {q:RdD Γ R} {ρ:HS Γ} {st:St},rd Γ=some q→Rep Γ ρ st→∀{v:q.B},q.d.val ρ=some v→RP st (q.up ρ v)):∀(c:AC) {A:Type} {xs:XC} {Γn Γ:TC} {d:HS Γ→DKn A xs Γn R→Option A} {ρ:HS Γ} {k:DKn A xs Γn R} {st:St} {r:A},
  den X R rd c A xs Γn Γ=some d→Rep Γ ρ st→d ρ k=some r→C9 (Ej X.Θ) E (B1 c) (Tl RP k r) st:=by
 intro c
 induction c with
 |skip=>
  intro A xs Γn Γ d ρ k st r h hr hd;simp only[den]at h;split at h<;>(try cases h;done);rename_i f hf;cases h;exact⟨st,AK.refl st,_,Dr hf hr,hd⟩
 |reg draw D ls=>
  intro A xs Γn Γ d ρ k st r h hr hd;simp only[den]at h;split at h<;>(try cases h;done);rename_i q hq;split at h<;>(try cases h;done);rename_i f hf;cases h;obtain⟨st',h1,ρ',h2,h3⟩:=Mp hT hF hq hr hd;exact RI h1 ⟨_,Dr hf h2,h3⟩
 |rg D gs=>
  intro A xs Γn Γ d ρ k st r h hr hd;simp only[den]at h;split at h<;>(try cases h;done);rename_i q hq;split at h<;>(try cases h;done);rename_i f hf;cases h;exact PE hT hF hq hr hd fun st' ρ' h2 h3=>⟨_,Dr hf h2,h3⟩
 |regE e D ls=>
  intro A xs Γn Γ d ρ k st r h hr hd;simp only[den]at h;split at h<;>(try cases h;done);rename_i q hq;split at h<;>(try cases h;done);rename_i f hf;cases h;obtain⟨st',h1,ρ',h2,h3⟩:=PF hT hF hq hr hd;exact RJ h1 ⟨_,Dr hf h2,h3⟩
 |sq a b iha ihb=>
  intro A xs Γn Γ d ρ k st r h hr hd;simp only[den]at h;split at h<;>(try cases h;done);rename_i q hq;split at h<;>(try cases h;done);rename_i db hdb;cases h;exact⟨st,AK.refl st,U4 hT hF hq hr hd fun st' ρ' h1 h2=>ihb hdb h1 h2⟩
 |seq Γm a b iha ihb=>
  intro A xs Γn Γ d ρ k st r h hr hd;simp only[den]at h;split at h<;>(try cases h;done);rename_i da db hda hdb;cases h;refine⟨st,AK.refl st,DT _ (fun e s hp=> ?_) (iha hda hr hd)⟩
  cases e with
  |normal=>
   obtain⟨ρ',h1,h2⟩:=hp;exact ihb hdb h1 h2
  |exit i=>exact hp
  |ret=>exact hp
 |join Γm ex rt a b iha ihb=>
  intro A xs Γn Γ d ρ k st r h hr hd;simp only[den]at h;split at h<;>(try cases h;done);rename_i ys hys;split at h<;>(try cases h;done);rename_i g da db hg hda hdb;cases h;obtain⟨o,h1,h2⟩:=Ab.1 hd;refine⟨st,AK.refl st,DT _ (fun e s hp=> ?_) (iha hda hr h1)⟩;have hk:∀o',o'=o→elX ((0,Γm)::ys) rt (fun ρm=>db ρm k,g k.e) k.r o'=some r:=fun o' ho=>ho▸h2
  cases e with
  |normal=>
   obtain⟨ρ',h3,h4⟩:=hp;exact ihb hdb h3 (Q6 (ke:=(fun ρm=>db ρm k,g k.e)) h4 hk)
  |exit i=>
   obtain⟨Γi,s',ρ',h3,h4,h5⟩:=hp;obtain⟨s2,h6,h7⟩:=Wj (A:=A) (ke:=(fun ρm=>db ρm k,g k.e)) h3 h5 hk;obtain⟨s3,h8,h9⟩:=NG hg h6 h7;exact⟨Γi,s3,ρ',h8,h4,h9⟩
  |ret=>
   obtain⟨v,h3,h5⟩:=hp;exact⟨v,h3,NA (ke:=(fun ρm=>db ρm k,g k.e)) h5 hk⟩
 |cond c x y ihx ihy=>
  intro A xs Γn Γ d ρ k st r h hr hd;simp only[den]at h;split at h<;>(try cases h;done);rename_i e dx dy he hdx hdy;cases h;obtain⟨b,h1,h2⟩:=Dyn.app_some hd;obtain⟨cv,e1,e2⟩:=AP (G:=X.G) he hr h1;unfold Can at e2;cases e2;refine⟨st,AK.refl st,b,by rw[hT.G];exact e1,fun hb=> ?_,fun hb=> ?_⟩
  ·rw[if_pos hb]at h2;exact ihx hdx hr h2
  ·rw[if_neg (by simp[hb])]at h2;exact ihy hdy hr h2
 |block id b ih=>
  intro A xs Γn Γ d ρ k st r h hr hd;simp only[den]at h;split at h<;>(try cases h;done);rename_i db hdb;cases h;refine⟨st,AK.refl st,DT _ (fun e s hp=> ?_) (ih hdb hr hd)⟩
  cases e with
  |normal=>exact hp
  |exit i=>
   obtain⟨Γi,s',ρ',h3,h4,h5⟩:=hp;simp only[Dw]at h3;by_cases hi:i=id
   ·subst hi;simp only[if_true,Ac,Sigma.mk.injEq]at h3;obtain⟨rfl,h3⟩:=h3;cases eq_of_heq h3;simp only[if_true];exact⟨ρ',h4,h5⟩
   ·simp only[if_neg hi];rw[if_neg (fun e=>hi e.symm)]at h3;split at h3<;>(try cases h3;done);rename_i q hq;cases h3;exact⟨_,_,ρ',hq,h4,h5⟩
  |ret=>exact hp
 |loop Γh ex rt b ih=>
  intro A xs Γn Γ d ρ k st r h hr hd;simp only[den]at h;split at h<;>(try cases h;done);rename_i ys hys;split at h<;>(try cases h;done);rename_i g f db hg hf hdb;cases h;obtain⟨o,h1,h2⟩:=Ab.1 hd;obtain⟨n,hn⟩:=Hy.1 h1;refine⟨st,AK.refl st,fun m s=>∃ρ,Rep Γh ρ s∧Dj (fun ρ=>db ρ ⟨fun ρ'=>some (.inl ρ'),keX ys rt Sum.inr,rtX ys rt Sum.inr⟩) m ρ=some o,⟨n,f ρ,Dr hf hr,hn⟩,fun m s hR=> ?_⟩;obtain⟨ρ1,hr1,hi⟩:=hR
  cases m with
  |zero=>cases hi
  |succ m=>
   simp only[Dj]at hi;obtain⟨w,h3,h4⟩:=Ab.1 hi;refine DT _ (fun e s' hp=> ?_) (ih hdb hr1 h3)
   have hk:∀o',Sum.inr o'=w→elX ys rt (g k.e) k.r o'=some r:=fun o' ho=>by
    subst ho;simp only[Ac]at h4;rw[h4];exact h2
   cases e with
   |normal=>
    obtain⟨ρ',h5,h6⟩:=hp;cases h6;exact⟨m,by omega,ρ',h5,h4⟩
   |exit i=>
    obtain⟨Γi,s2,ρ',h5,h6,h7⟩:=hp;obtain⟨s3,h8,h9⟩:=MF (A:=A) (ke:=g k.e) h5 h7 hk;obtain⟨s4,h10,h11⟩:=NG hg h8 h9;exact⟨Γi,s4,ρ',h10,h6,h11⟩
   |ret=>
    obtain⟨v,h5,h7⟩:=hp;exact⟨v,h5,NA (ke:=g k.e) h7 hk⟩
 |exit i=>
  intro A xs Γn Γ d ρ k st r h hr hd;simp only[den]at h;split at h<;>(try cases h;done);rename_i q hq;split at h<;>(try cases h;done);rename_i f hf;cases h;exact⟨st,AK.refl st,q.1,q.2,_,hq,Dr hf hr,hd⟩
 |ret=>
  intro A xs Γn Γ d ρ k st r h hr hd;simp only[den]at h;split at h<;>(try cases h;done);rename_i q hq;cases h;obtain⟨v,h1,h2⟩:=Dyn.app_some hd;exact⟨st,AK.refl st,_,hrd hq hr h1,h2⟩
 |raw c=>
  intro A xs Γn Γ d ρ k st r h hr hd;simp only[den,Ac]at h;subst h;cases hd
 |gh g c ih=>
  intro A xs Γn Γ d ρ k st r h hr hd;simp only[den]at h;split at h<;>(try cases h;done);rename_i p hp;split at h<;>(try cases h;done);rename_i dc hdc;cases h;obtain⟨st',h1,h2⟩:=M5 hp hr;exact RK h1 (ih hdc h2 hd)
end
structure AF where
 n:Nat
 code:AC
 res:List Bd
@[reducible] def CZ:Ty→Nat→TC
 | .one t,i=> [(.s i,.v t)]
 | .cons t r,i=>(.s i,.v t)::CZ r (i+1)
 |_,_=> []
def GF:(a:Ty)→(i:Nat)→D a→HS (CZ a i)
 | .one _,_,x=>(x,())
 | .cons _ r,i,x=>(x.1,GF r (i+1) x.2)
 | .int _,_,_| .bool,_,_| .str,_,_| .err,_,_| .clo _ _,_,_| .falt _ _ _,_,_| .nfn,_,_| .nam _,_,_| .bptr _,_,_| .nilp,_,_| .pt _,_,_| .nw _ _ _,_,_| .nsl,_,_| .nmap,_,_| .agg _,_,_| .tup _,_,_| .sl _,_,_| .map _ _,_,_| .nil,_,_=>()
theorem NK:∀{a:Ty} {i:Nat} {x:D a} {l:List CV} {p:Key} {q:Σ k:EK,HS (CZ a i)→DK k},Can a x l→get (CZ a i) p=some q→∃j c,p=.s (i+j)∧l[j]? =some c∧RS q.1 (q.2 (GF a i x)) (.c c)
 | .one t,i,x,l,p,q,hc,hg=>by
  unfold Can at hc;obtain⟨c,rfl,hc⟩:=hc;by_cases hp:Key.s i=p
  ·subst hp;have hg':get ((Key.s i,EK.v t):: []) (Key.s i)=some q:=hg;rw[C7]at hg';cases hg';exact⟨0,c,rfl,rfl,c,rfl,hc⟩
  ·obtain⟨f,hf,_⟩:=BW hp hg;cases hf
 | .cons t r,i,x,l,p,q,hc,hg=>by
  unfold Can at hc;obtain⟨c,l',rfl,h1,h2⟩:=hc;by_cases hp:Key.s i=p
  ·subst hp;have hg':get ((Key.s i,EK.v t)::CZ r (i+1)) (Key.s i)=some q:=hg;rw[C7]at hg';cases hg';exact⟨0,c,rfl,rfl,c,rfl,h1⟩
  ·obtain⟨f,hf,hx⟩:=BW hp hg;obtain⟨j,c',h3,h4,h5⟩:=NK (i:=i+1) h2 hf;refine⟨j+1,c',by rw[h3];congr 1;omega,by simpa using h4, ?_⟩;have e:=hx (GF (.cons t r) i x);rw[e];exact h5
 | .int _,_,_,_,_,_,_,hg=>by cases hg
 | .bool,_,_,_,_,_,_,hg=>by cases hg
 | .str,_,_,_,_,_,_,hg=>by cases hg
 | .err,_,_,_,_,_,_,hg=>by cases hg
 | .clo _ _,_,_,_,_,_,_,hg=>by cases hg
 | .falt _ _ _,_,_,_,_,_,_,hg=>by cases hg
 | .nfn,_,_,_,_,_,_,hg=>by cases hg
 | .nam _,_,_,_,_,_,_,hg=>by cases hg
 | .bptr _,_,_,_,_,_,_,hg=>by cases hg
 | .nilp,_,_,_,_,_,_,hg=>by cases hg
 | .pt _,_,_,_,_,_,_,hg=>by cases hg
 | .nw _ _ _,_,_,_,_,_,_,hg=>by cases hg
 | .nsl,_,_,_,_,_,_,hg=>by cases hg
 | .nmap,_,_,_,_,_,_,hg=>by cases hg
 | .agg _,_,_,_,_,_,_,hg=>by cases hg
 | .tup _,_,_,_,_,_,_,hg=>by cases hg
 | .sl _,_,_,_,_,_,_,hg=>by cases hg
 | .map _ _,_,_,_,_,_,_,hg=>by cases hg
 | .nil,_,_,_,_,_,_,hg=>by cases hg
theorem Qy{a:Ty}{x:D a}{l:List CV}(hc:Can a x l):Rep (CZ a 0) (GF a 0 x) (Eh l):=by
 refine⟨fun i q hq=> ?_,fun id q hq=> ?_⟩
 ·obtain⟨j,c,h1,h2,h3⟩:=NK hc hq;simp only[Nat.zero_add,Key.s.injEq]at h1;subst h1;simp only[Eh,h2];exact h3
 ·obtain⟨j,c,h1,_⟩:=NK hc hq;cases h1
def kN:(rs:List Bd)→(Rt:Ty)→Option (D Rt)
 | [],.tup .nil=>some ()
 |_,_=>none
theorem Wg{rs:List Bd}{Rt:Ty}{y:D Rt}(h:kN rs Rt=some y)(st:St):∃c,D2 st rs=some c∧Can Rt y [c]:=by
 unfold kN at h;split at h
 ·exact⟨.tup [],rfl,by unfold Can;exact⟨[],rfl,by unfold Can;rfl⟩⟩
 ·cases h
theorem AZ.plain{w:World}{M:MM}{size:Nat}{t:Ty}:∀{ys:List (D t)} {es:List CV} {xs:List Value},Aq (fun x c=>Can t x [c]) ys es→AZ w M size es xs→AZ w M size (ys.map (enc t)) xs
 | [],es,xs,h,hr=>by unfold Aq at h;subst h;exact hr
 |y::ys,es,xs,h,hr=>by
  obtain⟨c,es',rfl,h1,h2⟩:=h;obtain⟨v,xs',e,g1,g2,g3⟩:=hr;exact⟨v,xs',e,g1,RelC.enc h1 g2,AZ.plain h2 g3⟩
section
variable {P:Program} {E:Env} {w0:WL} {M0:MM} {n:Nat} {st:St} {a:Act} {w w':World} {z:Cz}
theorem VX{G:Nat→List CV}{M:MM}{l:List CV}{vs:List Value}{T:List Nat}{H:Nat→Ob}{le:D6}(hM:∀g,M g→g<w.heap.size)(hG:GOk G w M)(hl:l.length≤n)(h:RelL w M l vs)(hn:n≤At)(hle:∀id,T.contains id=true→le.I id)(hL:Fu P w M z T H):
  SR P G {w with le:=le,L:=fun id g=>H id≠ .none∧blk (z.σ id)=some g} M n {fr:=(Eh l).fr,ob:=H} {tmps:=(⟨vs⟩:Array Value)++Array.replicate (n-(⟨vs⟩:Array Value).size) undef,defers:= []} w z:=by
 have hlen:=h.length
 have hk:Bp w M w (Am M z H):=⟨Nat.le_refl _,fun _ _ _=>rfl,fun g _ hg=>by
  rcases hg with hg|⟨id,h1,h2⟩
  ·exact hg
  ·exact(hL.lo id g h1 h2).2,hL.al⟩
 refine⟨?_,rfl,⟨rfl,rfl,rfl,Nat.le_refl _,fun _ _ _=>rfl⟩,hM,⟨fun id g h'=>⟨(hL.lo id g h'.1 h'.2).2,hle id (hL.only id h'.1)⟩,hL.told,fun _ _=>by rw[hL.al],hn⟩,hG,fun i=> ?_,fun id=> ?_,fun id g h1 h2=>⟨.inr ⟨h1,h2⟩,(hL.lo id g h1 h2).1⟩,hL.apart⟩
 ·simp;omega
 ·simp only[Eh]
  cases hi:l[i]? with
  |none=>trivial
  |some c=>
   obtain⟨v,h1,h2⟩:=h.get hi
   have hv:((⟨vs⟩:Array Value)++Array.replicate (n-(⟨vs⟩:Array Value).size) undef).getD i undef=v:=by
    have:i<vs.length:=(Ae.1 h1).1;rw[Array.getD_eq_getD_getElem?,Array.getElem?_append_left (by simpa using this)];simp[h1]
   show RelC w _ c _;simp only[hv];exact RelC.keep hk c v h2
 ·exact Bc.keep hk (fun _ _=>rfl) (fun cs _ s _=>⟨fun j hj h1=>h1,fun j hj h1=>rfl,fun j hj h1 k b hb=>hb⟩) (fun k b hh=>hh) (hL.ob id)
def EG(st:St):Bd→Option CV
 | .tmp t=>closed (st.fr t)
 | .cell a sz=>(Bt st.ob sz (deref st.ob (st.fr a))).bind closed
def EH(st:St)(rs:List Bd):Option CV:=(Ap (EG st) rs).map EE
theorem Pw{s:SV}{c:CV}(h:closed s=some c):s=.c c:=by
 cases s<;>first|(cases h;rfl)|cases h
theorem OX{G:Nat→List CV}(h:SR P G w0 M0 n st a w z){f:ResultVar→Sem Value}(hf:∀rv,f rv=(match rv with| .tmp t=>pure (a.tmps.getD t undef)| .cell b t=>(asAddr (a.tmps.getD b undef)>>=fun ad=>loadVar t ad))):∀{rvs:List ResultVar} {srs:List Bd} {cs:List CV},Ap (E2 P) rvs=some srs→Ap (EG st) srs=some cs→
  ∃vs,(rvs.mapM f).run P w=.ok vs w∧RelL w (Am M0 z st.ob) cs vs
 | [],srs,cs,h1,h2=>by
  simp only[Ap,Ac]at h1;subst h1;simp only[Ap,Ac]at h2;subst h2;exact⟨[],by simp,RelL.nil⟩
 |rv::rvs,srs,cs,h1,h2=>by
  simp only[Ap,Ab,Aa]at h1;obtain⟨s,hs,ss,hss,rfl⟩:=h1;simp only[Ap,Ab,Aa]at h2;obtain⟨c,hc,cs',hcs,rfl⟩:=h2;obtain⟨vs,g3,g4⟩:=OX h hf hss hcs
  cases rv with
  |cell b t=>
   simp only[E2,Aa]at hs;obtain⟨sz,hsz,rfl⟩:=hs;simp only[EG,Ab]at hc;obtain⟨sv,hl,hcl⟩:=hc;obtain⟨v,h1,h2⟩:=Pm h hsz hl;rw[Pw hcl]at h2;refine⟨v::vs, ?_,RelL.cons h2 g4⟩;have g1:(f (.cell b t)).run P w=.ok v w:=by rw[hf];exact h1
   rw[List.mapM_cons];simp[g1,g3]
  |tmp t=>
   simp only[E2,Ac]at hs;subst hs;have hr:=h.fr t;rw[Pw hc]at hr;exact⟨a.tmps.getD t undef::vs,by rw[List.mapM_cons,hf];simp[g3],RelL.cons hr g4⟩
theorem X8{G:Nat→List CV}(h:SR P G w0 M0 n st a w z){fn:Func}{rs:List Bd}(hc:Ap (E2 P) fn.results.toList=some rs){c:CV}(ho:EH st rs=some c):
  ∃v,(results fn a.tmps).run P w=.ok v w∧RelC w (Am M0 z st.ob) c v:=by
 simp only[EH,Aa]at ho;obtain⟨cs,hcs,rfl⟩:=ho;obtain⟨vs,h1,h2⟩:=OX h (f:=fun rv=>match rv with| .tmp t=>pure (a.tmps.getD t undef)| .cell b t=>do loadVar t (←asAddr (a.tmps.getD b undef))) (fun rv=>by cases rv<;>rfl) hc hcs
 have hr:(results fn a.tmps).run P w=.ok (if h:(⟨vs⟩:Array Value).size=1 then(⟨vs⟩:Array Value)[0]else .tuple ⟨vs⟩) w:=by
  have e:results fn a.tmps=(fn.results.mapM (fun rv=>match rv with| .tmp t=>pure (a.tmps.getD t undef)| .cell b t=>do loadVar t (←asAddr (a.tmps.getD b undef)))>>=fun(vs:Array Value)=>pure (if h:vs.size=1 then vs[0]else .tuple vs)):=rfl;rw[e,Array.mapM_eq_mapM_toList];generalize (fun(rv:ResultVar)=>(match rv with| .tmp t=>pure (a.tmps.getD t undef)| .cell b t=>do loadVar t (←asAddr (a.tmps.getD b undef)):Sem Value))=f at h1;simp[h1]
 refine⟨_,hr, ?_⟩;have hlen:=h2.length
 match cs,vs,h2,hlen with
 | [],[],h2,_=>
  simp only[EE];unfold RelC;exact⟨[],rfl,h2⟩
 | [c],[v],h2,_=>
  simp only[EE];unfold RelL at h2;obtain⟨v',vs',e,h3,_⟩:=h2;cases e;exact h3
 |c::c'::cs,v::v'::vs,h2,_=>
  simp only[EE];unfold RelC;exact⟨v::v'::vs,by simp,h2⟩
theorem Rc{T:Nat→Bool}{t:Ty}(h:t.names T=true):∀(ys:List (D t)),noNamL T (ys.map (enc t))=true
 | []=>rfl
 |y::ys=>by simp only[List.map_cons,noNamL,Af];exact⟨Ng y h,Rc h ys⟩
theorem Hj{Θ:TC}{θ:HS Θ}(ho:okΘ Θ=true)(hr:Rep Θ θ st){id:Nat}(h:Bl Θ θ id≠ .none):st.ob id≠ .none:=by
 simp only[okΘ,Af]at ho;unfold Bl at h
 cases hg:get Θ (.o id)with
 |none=>rw[hg]at h;exact absurd rfl h
 |some q=>
  have r:=hr.o id _ hg;have hok:=BP ho.2 (Bq hg);obtain⟨k,f⟩:=q;cases k<;>(try cases hok;done)
  case box n=>obtain⟨cs,e1,_⟩:=r;rw[e1];simp
  case arr e size t=>obtain⟨es,e1,_⟩:=r;rw[e1];simp
  case buf e=>have e1:st.ob id=.buf e (f θ):=r;rw[e1];simp
theorem N4{M:MM}{ob:Nat→Ob}:∀{cs:List SV} {vs:List Value},AE w M z ob cs vs↔cs.length=vs.length∧∀(i:Nat) s v,cs[i]? =some s→vs[i]? =some v→As w M z ob s v
 | [],vs=>by
  constructor
  ·intro h;cases (show vs= []from h);exact⟨rfl,fun i s v h=>by simp at h⟩
  ·intro h;exact List.length_eq_zero_iff.1 h.1.symm
 |c::cs,vs=>by
  constructor
  ·rintro⟨v,vs',rfl,h1,h2⟩
   obtain⟨h3,h4⟩:=N4.1 h2;refine⟨by simp[h3],fun i s u hs hu=> ?_⟩
   cases i with
   |zero=>simp only[List.getElem?_cons_zero,Ac]at hs hu;rw[←hs,←hu];exact h1
   |succ i=>simp only[List.getElem?_cons_succ]at hs hu;exact h4 i s u hs hu
  ·rintro⟨h1,h2⟩
   cases vs with
   |nil=>cases h1
   |cons v vs=>exact⟨v,vs,rfl,h2 0 c v rfl rfl,N4.2 ⟨by simpa using h1,fun i s u hs hu=>h2 (i+1) s u (by simpa using hs) (by simpa using hu)⟩⟩
theorem US{G:Nat→List CV}(h:SR P G w0 M0 n st a w z){Θ:TC}{θ:HS Θ}(ho:okΘ Θ=true)(hr:Rep Θ θ st)(hnm:∀N,(AJ Θ).contains N=true→w0.le.T N):
  EO (AJ Θ).contains w (Am M0 z st.ob) w (Am M0 {z with al:=M0.al} (Bl Θ θ))∧Fu P w (Am M0 {z with al:=M0.al} (Bl Θ θ)) {z with al:=M0.al} (AJ Θ) (Bl Θ θ):=by
 have hk:EO (AJ Θ).contains w (Am M0 z st.ob) w (Am M0 {z with al:=M0.al} (Bl Θ θ)):=⟨Nat.le_refl _,fun _ _ _=>rfl,fun g _ hg=>by
  rcases hg with hg|⟨id,h1,h2⟩
  ·exact .inl hg
  ·exact .inr ⟨id,Hj ho hr h1,h2⟩,fun N hN=>(h.nam.names N (hnm N hN)).symm⟩
 refine⟨hk,fun id=> ?_,fun id g h1 h2=>⟨(h.lo id g (Hj ho hr h1) h2).2,.inr ⟨id,h1,h2⟩⟩,fun i j g hij h1 h2=>h.apart i j g hij (Hj ho hr h1) (Hj ho hr h2),fun N cs hN hc=> ?_,fun id h1=>PS h1,rfl⟩
 ·have ho':=ho;simp only[okΘ,Af]at ho';show Bc P w _ 0 _ _ id (z.σ id) (Bl Θ θ id);have hoi:=h.ob id
  cases hg:get Θ (.o id)with
  |none=>unfold Bl;rw[hg];trivial
  |some q=>
   have r:=hr.o id _ hg;have hok:=BP ho'.2 (Bq hg);obtain⟨k,f⟩:=q;cases k<;>(try cases hok;done)
   case box m=>
    have e0:Bl Θ θ id=.box ((List.range m).map (Hi Θ θ id)):=by unfold Bl;rw[hg]
    rw[e0];obtain⟨cs,e1,hl,hc⟩:=r;rw[e1]at hoi;obtain⟨g,ty,vs,k1,k2,k3⟩:=hoi;refine⟨g,ty,vs,k1,k2, ?_⟩;rw[N4]at k3⊢;refine⟨by simp[←k3.1,hl],fun i s v hs hv=> ?_⟩;simp only[okE,Af,List.all_eq_true,List.mem_range]at hok
    have hi:i<m:=by
     rw[List.getElem?_map,Aa]at hs;obtain⟨_,hs,_⟩:=hs;have:=(Ae.1 hs).1;simpa using this
    have hs':s=Hi Θ θ id i:=by
     simp[hi]at hs;exact hs.symm
    subst hs';have hcj:=hok.2 i hi
    cases hkc:BI Θ (.c id i)with
    |none=>rw[hkc]at hcj;cases hcj
    |some k'=>
     rw[hkc]at hcj;obtain⟨f',hf'⟩:=Hr hkc;obtain⟨sv,g1,g2⟩:=hc i _ hi hf';have hv':=k3.2 i sv v g1 hv;unfold Hi;rw[hf'];cases k'<;>(try cases hcj;done)
     case v t=>
      simp only[okC,Af]at hcj;obtain⟨c,rfl,hc'⟩:=g2;exact RelC.named hk _ _ (Ng _ hcj.2) (RelC.enc hc' hv')
     case own K=>
      have e2:sv=.osl K:=g2;subst e2;simp only[okC,Af]at hcj;refine⟨?_,hv'.2⟩;have h3:=hcj.2;split at h3<;>(try cases h3;done)
      ·rename_i e size t hkk;obtain⟨fk,hfk⟩:=Hr hkk;unfold Bl;rw[hfk];simp
      ·rename_i e hkk;obtain⟨fk,hfk⟩:=Hr hkk;unfold Bl;rw[hfk];simp
   case arr e size t=>
    have e0:Bl Θ θ id=.arr e size ((f θ).map (enc t)):=by unfold Bl;rw[hg]
    rw[e0];obtain⟨es,e1,hc⟩:=r;rw[e1]at hoi;obtain⟨xs,k1,k2⟩:=hoi;simp only[okE,Af]at hok;have hlen:((f θ).map (enc t)).length=es.length:=by rw[List.length_map];exact hc.length.symm
    exact⟨xs,by rw[hlen];exact k1,AZ.named hk (Rc hok.2 _) (AZ.plain hc k2)⟩
   case buf e=>
    have e0:Bl Θ θ id=.buf e (f θ):=by unfold Bl;rw[hg]
    have e1:st.ob id=.buf e (f θ):=r;rw[e0];rw[e1]at hoi;exact hoi
 ·have hlive:=Hj ho hr (id:=N) (by rw[hc];simp);have hin:=PS (Θ:=Θ) (θ:=θ) (id:=N) (by rw[hc];simp);show z.σ N=.pointer (some ⟨M0.al N,0,none⟩);rw[←h.nam.names N (hnm N hin)]
  cases hob:st.ob N with
  |box cs'=>exact h.nam.told N _ hN hob
  |_=>
   exfalso;have ho':=ho;simp only[okΘ,Af]at ho';unfold Bl at hc
   cases hg:get Θ (.o N)with
   |none=>rw[hg]at hc;cases hc
   |some q=>
    rw[hg]at hc;have r:=hr.o N _ hg;obtain⟨k,f⟩:=q;cases k<;>(try cases hc;done);obtain⟨cs2,e1,_⟩:=r;rw[hob]at e1;cases e1
def Ki(rs:List Bd)(t:Ty)(y:D t)(Θ:TC)(θ:HS Θ)(e:Ex)(st:St):Prop:=
 match e with
 | .exit _=>False
 |_=>∃c,EH st rs=some c∧Can t y [c]∧Rep Θ θ st
theorem Vj(hE:EOk P E){f:FuncId}{m:GK}(hc:CD P f=some m){l:List CV}{t:Ty}{y:D t}{Θ:TC}{θ:HS Θ}{H:Nat→Ob}(hl:l.length≤m.n)(ho:okΘ Θ=true)(hnm:t.names (AJ Θ).contains=true)(h:C9 (Ej (some Θ)) E m.code (Ki m.res t y Θ θ) {fr:=(Eh l).fr,ob:=H}):
  Bm P f=true∧GJ P E.G f (AJ Θ) l H (enc t y) (Bl Θ θ):=by
 unfold CD at hc;split at hc<;>(try cases hc;done);rename_i hb;refine⟨hb, ?_⟩;simp only[Ab,Aa,Ad]at hc;obtain⟨fn,hf,b,hbody,hn,c,hcode,rs,hrs,rfl⟩:=hc;intro w M z vs hM hG hL hLies;refine calls_of_wp hf hbody (wp_mono (ES hE rfl b hcode (VX (le:=Ej (some Θ)) hM hG hl hL (Ah hn) (fun id hid=>hid) hLies) h) fun e a' w' hpost=> ?_);obtain⟨e',st',z',he,hq,hS⟩:=hpost;subst he
 have fin_:(∃c,EH st' rs=some c∧Can t y [c]∧Rep Θ θ st')→a'.defers= []∧∃v,(results fn a'.tmps).run P w'=.ok v w'∧∃u z',Ending.returned v=.returned u∧(w'.os=w.os∧w'.tape=w.tape∧w'.output=w.output∧w.heap.size≤w'.heap.size∧∀g,g<w.heap.size→¬own z H g→w'.heap[g]? =w.heap[g]?)∧
   Fu P w' (Am M z' (Bl Θ θ)) z' (AJ Θ) (Bl Θ θ)∧(∀id g,Bl Θ θ id≠ .none→blk (z'.σ id)=some g→(H id≠ .none∧blk (z.σ id)=some g)∨w.heap.size≤g)∧z'.al=M.al∧RelC w' (Am M z' (Bl Θ θ)) (enc t y) u:=fun⟨c,hr,hcan,hrep⟩=>by
  obtain⟨v,h1,h2⟩:=X8 hS hrs hr;obtain⟨k1,k2⟩:=US hS ho hrep (fun N hN=>hN);refine⟨hS.defers,v,h1,v,{z' with al:=M.al},rfl,⟨hS.below.os,hS.below.tape,hS.below.output,hS.below.size,fun g hg hno=>hS.below.block g hg fun id hid=>hno ⟨id,hid.1,hid.2⟩⟩,k2,fun id g g1 g2=> ?_,rfl,RelC.named k1 _ _ (Ng y hnm) (RelC.enc hcan h2)⟩;rcases(hS.lo id g (Hj ho hrep g1) g2).1 with g3|g3
  ·exact .inr g3
  ·exact .inl g3
 cases e' with
 |normal=>exact fin_ hq
 |exit i=>exact hq.elim
 |ret=>exact fin_ hq
theorem GJ.to{G:Nat→List CV}{f:FuncId}{l:List CV}{r:CV}{H':Nat→Ob}(h:GJ P G f [] l (fun _=>.none) r H')(hH:∀id,H' id=.none):CallsTo P G f l (.val r):=by
 intro w M vs hM hG hL;have hLies:Fu P w M (z0 undef M.al) [] fun _=>.none:=⟨fun _=>trivial,fun _ _ h=>absurd rfl h,fun _ _ _ _ h=>absurd rfl h,fun _ _ _ h=>(by cases h),fun _ h=>absurd rfl h,rfl⟩;refine(h w M _ vs hM hG hL hLies).mono fun e w' ⟨v,z',he,⟨h1,h2,h3,h4,h5⟩,_,_,hal,hr⟩=> ?_;refine⟨v,he,⟨h1,h2,h3,h4,fun g hg=>h5 g hg fun⟨id,hh,_⟩=>hh rfl⟩, ?_⟩;have hk:Bp w' (Am M z' H') w' M:=⟨Nat.le_refl _,fun _ _ _=>rfl,fun _ _ hg=>.inl hg,hal.symm⟩;exact RelC.keep hk _ _ hr
end
def HE(X:TP)(Γ:TC):Bd→Option (Σ r:Ty,Dyn (HS Γ) (D r))
 | .tmp t=>rdV Γ (.t t)
 | .cell a sz=>match rdK X.G Γ (.t a)with
  |some k=>match EC Γ [] sz (DE Γ [] k)with
   |some ⟨.v t,d⟩=>some ⟨t,d⟩
   |_=>none
  |none=>none
def HD(X:TP)(Γ:TC):List Bd→Option (Σ r:Ty,Dyn (HS Γ) (D r))
 | []=>some ⟨.nil,.tot fun _=>()⟩
 | [x]=>match HE X Γ x with
  |some q=>some ⟨.one q.1,q.2⟩
  |none=>none
 |x::y::xs=>match HE X Γ x,HD X Γ (y::xs)with
  |some q,some p=>some ⟨.cons q.1 p.1,q.2.both p.2⟩
  |_,_=>none
def Lk(X:TP)(Γ:TC):List Bd→Option (Σ t:Ty,Dyn (HS Γ) (D t))
 | [x]=>HE X Γ x
 |xs=>match HD X Γ xs with
  |some q=>some ⟨.tup q.1,q.2⟩
  |none=>none
def rdE(X:TP)(rs:List Bd)(Rt:Ty)(Θ Γ:TC):Option (RdD Γ (D Rt×HS Θ)):=
 match Lk X Γ rs,Cn Γ Θ with
 |some q,some f=>match Be q.1 Rt with
  |some g=>some ⟨D q.1,q.2,fun ρ v=>(g v,f ρ)⟩
  |none=>none
 |_,_=>none
section
variable {X:TP}
theorem N5{Γ:TC}{ρ:HS Γ}{st:St}(hr:Rep Γ ρ st){x:Bd}{q:Σ t:Ty,Dyn (HS Γ) (D t)}{y:D q.1}(h:HE X Γ x=some q)(hy:q.2.val ρ=some y):∃c,EG st x=some c∧Can q.1 y [c]:=by
 cases x with
 |tmp t=>
  have h0:rdV Γ (.t t)=some q:=h;obtain⟨c,h1,h2⟩:=AP (G:=X.G) h0 hr hy;have h1':st.fr t=.c c:=h1;exact⟨c,by simp[EG,h1',closed],h2⟩
 |cell a sz=>
  simp only[HE]at h;split at h<;>(try cases h;done);rename_i k hk;split at h<;>(try cases h;done);rename_i t d hd;cases h;obtain⟨sv,h1,c,h2,h3⟩:=K0 (msk:= []) (rd:=st.ob) (sv:=deref st.ob (so X.G st.fr (.t a))) hr (fun _ _=>rfl) hd hy (fun x hx=>Is hr (fun _ _=>rfl) (fun x hx=>Bo hk hr hx) hx (Kz hd));subst h2;refine⟨c, ?_,h3⟩;have h1':Bt st.ob sz (deref st.ob (st.fr a))=some (.c c):=h1;simp[EG,h1',closed]
theorem N6{Γ:TC}{ρ:HS Γ}{st:St}(hr:Rep Γ ρ st):∀{xs:List Bd} {q:Σ t:Ty,Dyn (HS Γ) (D t)} {y:D q.1},HD X Γ xs=some q→q.2.val ρ=some y→∃l,Ap (EG st) xs=some l∧Can q.1 y l
 | [],q,y,h,hy=>by
  simp only[HD,Ac]at h;subst h;exact⟨[],rfl,by unfold Can;rfl⟩
 | [x],q,y,h,hy=>by
  simp only[HD]at h;split at h<;>(try cases h;done);rename_i p hp;cases h;obtain⟨c,h1,h2⟩:=N5 hr hp hy;exact⟨[c],by simp[Ap,h1],by unfold Can;exact⟨c,rfl,h2⟩⟩
 |x::z::xs,q,y,h,hy=>by
  simp only[HD]at h;split at h<;>(try cases h;done);rename_i p p' hp hp';cases h;obtain⟨g1,g2⟩:=Dyn.both_val hy;obtain⟨c,h1,h2⟩:=N5 hr hp g1;obtain⟨l,h3,h4⟩:=N6 hr hp' g2;refine⟨c::l, ?_,by unfold Can;exact⟨c,l,rfl,h2,h4⟩⟩;have e:Ap (EG st) (x::z::xs)=(EG st x).bind fun b=>(Ap (EG st) (z::xs)).map fun bs=>b::bs:=rfl;rw[e,h1,h3];rfl
theorem X6{Γ:TC}{ρ:HS Γ}{st:St}(hr:Rep Γ ρ st){xs:List Bd}{q:Σ t:Ty,Dyn (HS Γ) (D t)}{y:D q.1}(h:Lk X Γ xs=some q)(hy:q.2.val ρ=some y):∃c,EH st xs=some c∧Can q.1 y [c]:=by
 match xs,h with
 | [x],h=>
  have h0:HE X Γ x=some q:=by cases x<;>exact h
  obtain⟨c,h1,h2⟩:=N5 hr h0 hy;exact⟨c,by simp[EH,Ap,h1,EE],h2⟩
 | [],h=>
  simp only[Lk]at h;split at h<;>(try cases h;done);rename_i p hp;cases h;obtain⟨l,h1,h2⟩:=N6 hr hp hy;simp only[Ap,Ac]at h1;subst h1;exact⟨.tup [],rfl,by unfold Can;exact⟨[],rfl,h2⟩⟩
 |x::z::xs,h=>
  simp only[Lk]at h;split at h<;>(try cases h;done);rename_i p hp;cases h;obtain⟨l,h1,h2⟩:=N6 hr hp hy;have hlen:=DY h1;refine⟨.tup l, ?_,by unfold Can;exact⟨l,rfl,h2⟩⟩;simp only[EH,h1,Option.map_some]
  match l,hlen with
  |c::d::l,_=>rfl
end
theorem Xy{X:TP}{rs:List Bd}{Rt:Ty}{Θ Γ:TC}{q:RdD Γ (D Rt×HS Θ)}{ρ:HS Γ}{st:St}(h:rdE X rs Rt Θ Γ=some q)(hr:Rep Γ ρ st){v:q.B}(hv:q.d.val ρ=some v):∃c,EH st rs=some c∧Can Rt (q.up ρ v).1 [c]∧Rep Θ (q.up ρ v).2 st:=by
 unfold rdE at h;split at h<;>(try cases h;done);rename_i q' f hq hf;split at h<;>(try cases h;done);rename_i g hg;cases h;obtain⟨c,h1,h2⟩:=X6 hr hq hv;exact⟨c,h1,BU _ _ hg h2,Dr hf hr⟩
theorem Wh{rs:List Bd}{Rt:Ty}{y:D Rt}(h:kN rs Rt=some y)(st:St):∃c,EH st rs=some c∧Can Rt y [c]:=by
 unfold kN at h;split at h
 ·exact⟨.tup [],rfl,by unfold Can;exact⟨[],rfl,by unfold Can;rfl⟩⟩
 ·cases h
noncomputable def Hp(X:TP)(a Rt:Ty)(Θ:TC)(m:AF):Option (D a→HS Θ→Option (D Rt×HS Θ)):=
 match den {X with Θ:=some Θ} (D Rt×HS Θ) (rdE X m.res Rt Θ) m.code (D Rt×HS Θ) [] Θ (CZ a 0++Θ)with
 |some d=>some fun x θ=>d (Cc (CZ a 0) (GF a 0 x) θ) ⟨fun θ'=>(kN m.res Rt).map fun y=>(y,θ'),(),fun y=>some y⟩
 |none=>none
theorem S7{a:Ty}{i:Nat}{p:Key}(h:p∈(CZ a i).map (·.1)):∃j,p=.s j:=by
 induction a generalizing i with
 |one t _=>simp[CZ]at h;exact⟨_,h⟩
 |cons t r _ ih=>
  simp only[CZ,List.map_cons,List.mem_cons]at h;rcases h with h|h
  ·exact⟨_,h⟩
  ·exact ih h
 |_=>simp[CZ]at h
theorem VY{a:Ty}{x:D a}{l:List CV}{Θ:TC}{θ:HS Θ}{H:Nat→Ob}{fr:Nat→SV}(hc:Can a x l)(ho:okΘ Θ=true)(hr:Rep Θ θ {fr:=fr,ob:=H}):Rep (CZ a 0++Θ) (Cc (CZ a 0) (GF a 0 x) θ) {fr:=(Eh l).fr,ob:=H}:=by
 simp only[okΘ,Af]at ho;refine⟨fun i q hq=> ?_,fun id q hq=> ?_⟩
 ·rcases CM hq with⟨_,f,hf,e⟩|⟨_,f,hf,e⟩
  ·rw[e];exact(Qy hc).s i _ hf
  ·have:=BP ho.2 (Bq hf);obtain⟨k,f'⟩:=q;cases k<;>cases this
 ·rcases CM hq with⟨h1,_⟩|⟨_,f,hf,e⟩
  ·obtain⟨j,hj⟩:=S7 h1;cases hj
  ·rw[e];have r:=hr.o id _ hf;obtain⟨k,f'⟩:=q;cases k<;>try exact r
   obtain⟨cs,e1,hl,hh⟩:=r;refine⟨cs,e1,hl,fun j q' hj hq'=> ?_⟩;rcases CM hq' with⟨h1,_⟩|⟨_,f2,hf2,e2⟩
   ·obtain⟨j',hj'⟩:=S7 h1;cases hj'
   ·rw[e2];exact hh j _ hj hf2
theorem Qp{P:Program}{X:TP}{E:Env}(hE:EOk P E)(hT:TOk X E)(hF:BN X E){a Rt:Ty}{Θ:TC}{m:AF}{g:D a→HS Θ→Option (D Rt×HS Θ)}(h:Hp X a Rt Θ m=some g){f:FuncId}(hc:CD P f=some ⟨m.n,B1 m.code,m.res⟩){k:Nat}(hl:Bb a=some k)(hk:k≤m.n)(ho:okΘ Θ=true)(hnm:Rt.names (AJ Θ).contains=true)
  {x:D a} {l:List CV} {θ θ':HS Θ} {y:D Rt} {H:Nat→Ob} {fr:Nat→SV} (hx:Can a x l) (hr:Rep Θ θ {fr:=fr,ob:=H}) (hy:g x θ=some (y,θ')):Bm P f=true∧GJ P E.G f (AJ Θ) l H (enc Rt y) (Bl Θ θ'):=by
 unfold Hp at h;split at h<;>(try cases h;done);rename_i d hd;cases h;have hT':TOk {X with Θ:=some Θ} E:=⟨hT.G,hT.cp,hT.fn,hT.ef,hT.nw⟩;refine Vj hE hc (by rw[DN hl hx];exact hk) ho hnm (DT _ (fun e st hp=> ?_) (PG hT' hF (RP:=fun st p=>∃c,EH st m.res=some c∧Can Rt p.1 [c]∧Rep Θ p.2 st) (fun h1 h2 _ h3=>Xy h1 h2 h3) m.code hd (VY hx ho hr) hy))
 cases e with
 |normal=>
  obtain⟨ρ,h1,h2⟩:=hp;obtain⟨y',h3,h4⟩:=Aa.1 h2;cases h4;obtain⟨c,h5,h6⟩:=Wh h3 st;exact⟨c,h5,h6,h1⟩
 |exit i=>
  obtain⟨Γi,s,ρ,h1,_⟩:=hp;cases h1
 |ret=>
  obtain⟨v,h1,h3⟩:=hp;cases h3;exact h1
noncomputable def Kl(X:TP)(a Rt:Ty)(m:AF):Option (D a→Option (D Rt)):=
 match den X (D Rt) (rdT X m.res Rt) m.code (D Rt) [] [] (CZ a 0)with
 |some d=>some fun x=>d (GF a 0 x) ⟨fun _=>kN m.res Rt,(),fun y=>some y⟩
 |none=>none
theorem Vx{P:Program}{X:TP}{E:Env}(hE:EOk P E)(hT:TOk X E)(hF:BN X E)(hΘ:Ej X.Θ=.no){a Rt:Ty}{m:AF}{g:D a→Option (D Rt)}(h:Kl X a Rt m=some g){f:FuncId}(hc:CD P f=some ⟨m.n,B1 m.code,m.res⟩){k:Nat}(hl:Bb a=some k)(hk:k≤m.n)
  {x:D a} {l:List CV} {y:D Rt} (hx:Can a x l) (hy:g x=some y) (hv:(Rt.val&&Rt.ok)=true:=by rfl):Bm P f=true∧CallsTo P E.G f l (.val (enc Rt y)):=by
 simp only[Af]at hv;unfold Kl at h;split at h<;>(try cases h;done);rename_i d hd;cases h;refine Vk hE hc (by rw[DN hl hx];exact hk) (hΘ▸DT _ (fun e st hp=> ?_) (PG hT hF (RP:=fun st v=>EP st m.res _ v) (fun h1 h2 _ h3=>Xz h1 h2 h3) m.code hd (Qy hx) hy))
 cases e with
 |normal=>
  obtain⟨ρ,_,h2⟩:=hp;exact Wg h2 st
 |exit i=>
  obtain⟨Γi,s,ρ,h1,_⟩:=hp;cases h1
 |ret=>
  obtain⟨v,h1,h3⟩:=hp;cases h3;exact EP.of hv.1 h1
structure TB where
 G:Nat→List CV
 TT:Nat→Option Ty
 TM:Nat→Option (Ty×Ty)
 cp:FuncId→Bool:=fun _=>false
def Cr:List (FuncId×Sig)→FuncId→Option Sig
 | [],_=>none
 |e::L,f=>if e.1=f then some e.2 else Cr L f
def H2:List (FuncId×Bv)→FuncId→Option Bv
 | [],_=>none
 |e::L,f=>if e.1=f then some e.2 else H2 L f
def Ty.isNw:Ty→Bool
 | .nw _ _ _=>true
 |_=>false
def tp(B:TB)(L:List (FuncId×Sig))(LE:List (FuncId×Bv)):TP where
 G:=B.G
 T:=fun f=>match Cr L f with
  |some s=>match s.r.isNw with
   |true=>none
   |false=>some s
  |none=>none
 TT:=B.TT
 TM:=B.TM
 cp:=B.cp
 TN:=fun f=>match Cr L f with
  |some s=>match s.r.isNw with
   |true=>some s
   |false=>none
  |none=>none
 TE:=fun f=>match Cr L f with
  |some _=>none
  |none=>H2 LE f
theorem FW{B:TB}{L:List (FuncId×Sig)}{LE:List (FuncId×Bv)}{f:FuncId}{s:Sig}:(tp B L LE).T f=some s↔Cr L f=some s∧s.r.isNw=false:=by
 show(match Cr L f with
  |some s=>match s.r.isNw with
   |true=>none
   |false=>some s
  |none=>none)=some s↔_
 cases h:Cr L f with
 |none=>simp
 |some s'=>cases h2:s'.r.isNw with
  |true=>
   simp only[h2,Ac];exact⟨fun e=>(by cases e),fun e=>by rw[e.1]at h2;rw[h2]at e;cases e.2⟩
  |false=>
   simp only[h2,Ac];exact⟨fun e=>⟨e,e▸h2⟩,fun e=>e.1⟩
theorem HR{B:TB}{L:List (FuncId×Sig)}{LE:List (FuncId×Bv)}{f:FuncId}{s:Sig}:(tp B L LE).TN f=some s↔Cr L f=some s∧s.r.isNw=true:=by
 show(match Cr L f with
  |some s=>match s.r.isNw with
   |true=>some s
   |false=>none
  |none=>none)=some s↔_
 cases h:Cr L f with
 |none=>simp
 |some s'=>cases h2:s'.r.isNw with
  |false=>
   simp only[h2,Ac];exact⟨fun e=>(by cases e),fun e=>by rw[e.1]at h2;rw[h2]at e;cases e.2⟩
  |true=>
   simp only[h2,Ac];exact⟨fun e=>⟨e,e▸h2⟩,fun e=>e.1⟩
theorem Lz{B:TB}{L:List (FuncId×Sig)}{LE:List (FuncId×Bv)}{f:FuncId}{s:Bv}:(tp B L LE).TE f=some s↔Cr L f=none∧H2 LE f=some s:=by
 show(match Cr L f with
  |some _=>none
  |none=>H2 LE f)=some s↔_
 cases h:Cr L f with
 |none=>simp
 |some s'=>simp
open Classical in
noncomputable def EX(s:Bv):Eff:=⟨AJ s.Θ,fun l H=>if h:∃p:D s.a×HS s.Θ,Can s.a p.1 l∧Rep s.Θ p.2 {fr:=fun _=>.undef,ob:=H}then(s.fn (choose h).1 (choose h).2).map fun q=>(enc s.r q.1,Bl s.Θ q.2)else none⟩
theorem UI{s:Bv}(ho:okΘ s.Θ=true){x:D s.a}{l:List CV}{θ:HS s.Θ}{H:Nat→Ob}{y:D s.r}{θ':HS s.Θ}(hx:Can s.a x l)(hr:Rep s.Θ θ {fr:=fun _=>.undef,ob:=H})(hy:s.fn x θ=some (y,θ')):(EX s).fn l H=some (enc s.r y,Bl s.Θ θ'):=by
 have hh:∃p:D s.a×HS s.Θ,Can s.a p.1 l∧Rep s.Θ p.2 {fr:=fun _=>.undef,ob:=H}:=⟨(x,θ),hx,hr⟩;have hc:=Classical.choose_spec hh;simp only[EX,dif_pos hh];rw[Can.uniq s.a hc.1 hx,Rep.uniq ho rfl hc.2 hr,hy];rfl
theorem UJ{s:Bv}{l:List CV}{H:Nat→Ob}{r:CV}{H':Nat→Ob}(h:(EX s).fn l H=some (r,H')):∃x θ y θ',Can s.a x l∧Rep s.Θ θ {fr:=fun _=>.undef,ob:=H}∧s.fn x θ=some (y,θ')∧r=enc s.r y∧H'=Bl s.Θ θ':=by
 simp only[EX]at h;split at h<;>(try cases h;done);rename_i hh;obtain⟨⟨y,θ'⟩,h1,h2⟩:=Aa.1 h;cases h2;exact⟨_,_,y,θ',(Classical.choose_spec hh).1,(Classical.choose_spec hh).2,h1,rfl,rfl⟩
open Classical in
noncomputable def Du(X:TP):Env:={G:=X.G,cp:=X.cp,ef:=fun f=>(X.TE f).map EX,fn:=fun f l=>match X.T f with
 |some s=>if h:∃x,Can s.a x l then(s.fn (choose h)).map fun y=>.val (enc s.r y)else none
 |none=>match X.TN f with
  |some ⟨a,.nw e size t,fn⟩=>if h:∃x,Can a x l then(fn (choose h)).map fun y=>.new (.arr e size (y.map (enc t)))else none
  |_=>none}
theorem Mv{X:TP}{f:FuncId}{s:Sig}(hs:X.T f=some s){x:D s.a}{l:List CV}{y:D s.r}(hx:Can s.a x l)(hy:s.fn x=some y):(Du X).fn f l=some (.val (enc s.r y)):=by
 have hh:∃x,Can s.a x l:=⟨x,hx⟩;simp only[Du,hs,dif_pos hh];rw[Can.uniq s.a (Classical.choose_spec hh) hx,hy];rfl
theorem JR{X:TP}{f:FuncId}{a:Ty}{e size:Nat}{t:Ty}{fn:D a→Option (D (.nw e size t))}(h0:X.T f=none)(hs:X.TN f=some ⟨a,.nw e size t,fn⟩){x:D a}{l:List CV}{y:List (D t)}(hx:Can a x l)(hy:fn x=some y):(Du X).fn f l=some (.new (.arr e size (y.map (enc t)))):=by
 have hh:∃x,Can a x l:=⟨x,hx⟩;simp only[Du,h0,hs,dif_pos hh];rw[Can.uniq a (Classical.choose_spec hh) hx,hy];rfl
theorem PV{X:TP}{f:FuncId}{l:List CV}{r:Res}(h:(Du X).fn f l=some r):
  (∃s x y,X.T f=some s∧Can s.a x l∧s.fn x=some y∧r=.val (enc s.r y))∨
  (X.T f=none∧∃(a:Ty) (e size:Nat) (t:Ty) (fn:D a→Option (D (.nw e size t))) (x:D a) (y:List (D t)),X.TN f=some ⟨a,.nw e size t,fn⟩∧Can a x l∧fn x=some y∧r=.new (.arr e size (y.map (enc t)))):=by
 simp only[Du]at h;split at h
 ·rename_i s hs;split at h<;>(try cases h;done);rename_i hh;obtain⟨y,h1,h2⟩:=Aa.1 h;exact .inl ⟨s,_,y,hs,Classical.choose_spec hh,h1,h2.symm⟩
 ·rename_i h0;split at h<;>(try cases h;done);rename_i a e size t fn hs;split at h<;>(try cases h;done);rename_i hh;obtain⟨y,h1,h2⟩:=Aa.1 h;exact .inr ⟨h0,a,e,size,t,fn,_,y,hs,Classical.choose_spec hh,h1,h2.symm⟩
structure Oj (P:Program) (G:Nat→List CV) (f:FuncId) (s:Bv):Prop where
 rv:s.r.val=true
 rok:s.r.ok=true
 hi:((AJ s.Θ).all fun N=>Nat.ble At N)=true
 ok:okΘ s.Θ=true
 body:Bm P f=true
 calls:∀x l θ H y θ',Can s.a x l→Rep s.Θ θ {fr:=fun _=>.undef,ob:=H}→s.fn x θ=some (y,θ')→GJ P G f (AJ s.Θ) l H (enc s.r y) (Bl s.Θ θ')
def Ev(P:Program)(G:Nat→List CV)(X:TP):Prop:=∀f s,X.TE f=some s→Oj P G f s
theorem Ev.ef{P:Program}{X:TP}(h:Ev P X.G X):Oi P (Du X):=fun f e he=>by
 obtain⟨s,hs,rfl⟩:=Aa.1 he;have k:=h f s hs;refine⟨k.body,fun args H r H' hr=> ?_⟩;obtain⟨x,θ,y,θ',h1,h2,h3,rfl,rfl⟩:=UJ hr;exact k.calls x args θ H y θ' h1 h2 h3
theorem Ev.te{P:Program}{X:TP}(h:Ev P X.G X):BN X (Du X):=fun f s hs=>by
 have k:=h f s hs;have e:(Du X).ef f=some (EX s):=by show(X.TE f).map EX=_;rw[hs];rfl
 exact⟨⟨k.rv,k.hi⟩,k.rok,EX s,e,rfl,fun x l θ H y θ' hx hr hy=>UI k.ok hx hr hy⟩
structure GoodT (P:Program) (B:TB) (L:List (FuncId×Sig)) (LE:List (FuncId×Bv)):Prop where
 E:EOk P (Du (tp B L LE))
 T:TOk (tp B L LE) (Du (tp B L LE))
 F:Ev P B.G (tp B L LE)
theorem GoodT.TE{P:Program}{B:TB}{L:List (FuncId×Sig)}{LE:List (FuncId×Bv)}(h:GoodT P B L LE):BN (tp B L LE) (Du (tp B L LE)):=Ev.te (X:=tp B L LE) h.F
theorem NU{B:TB}{L:List (FuncId×Sig)}{LE:List (FuncId×Bv)}(f:FuncId)(h:((tp B L LE).T f).isSome=true∨((tp B L LE).TN f).isSome=true):(Du (tp B L LE)).ef f=none:=by
 have:∃s,Cr L f=some s:=by
  rcases h with h|h<;>obtain⟨s,hs⟩:=Option.isSome_iff_exists.1 h
  ·exact⟨s,(FW.1 hs).1⟩
  ·exact⟨s,(HR.1 hs).1⟩
 obtain⟨s,hs⟩:=this
 show((match Cr L f with
  |some _=>none
  |none=>H2 LE f):Option Bv).map EX=none
 rw[hs];rfl
theorem GoodT.nil(P:Program)(B:TB)(hcp:Oh P B.cp:=by intro f h;cases h):GoodT P B [] []:=by
 refine⟨⟨fun f l r h=> ?_,hcp,fun f e h=>by cases h⟩,⟨rfl,rfl,fun f s h=> ?_,fun f h=>NU f h,fun f a e size t fn h=> ?_⟩,fun f s h=>by cases h⟩
 ·rcases PV h with⟨s,x,y,h1,_⟩|⟨_,_,_,_,_,_,_,_,h1,_⟩<;>cases h1
 ·cases h
 ·cases h
def GN(P:Program)(G:Nat→List CV)(f:FuncId):Sig→Prop
 |⟨a,.nw e size t,fn⟩=>(t.val&&t.ok)=true∧∀x l (y:List (D t)),Can a x l→fn x=some y→Bm P f=true∧CallsTo P G f l (.new (.arr e size (y.map (enc t))))
 |s=>(s.r.val&&s.r.ok)=true∧∀x l y,Can s.a x l→s.fn x=some y→Bm P f=true∧CallsTo P G f l (.val (enc s.r y))
theorem GN.val{P:Program}{G:Nat→List CV}{f:FuncId}{s:Sig}(h:GN P G f s)(hn:s.r.isNw=false):(s.r.val&&s.r.ok)=true∧∀x l y,Can s.a x l→s.fn x=some y→Bm P f=true∧CallsTo P G f l (.val (enc s.r y)):=by
 obtain⟨a,r,fn⟩:=s;cases r<;>first|exact h|cases hn
theorem GN.mk{P:Program}{G:Nat→List CV}{f:FuncId}{s:Sig}(hv:(s.r.val&&s.r.ok)=true)(h:∀x l y,Can s.a x l→s.fn x=some y→Bm P f=true∧CallsTo P G f l (.val (enc s.r y))):GN P G f s:=by
 obtain⟨a,r,fn⟩:=s;cases r<;>first|exact⟨hv,h⟩|cases hv
theorem Aq.encs{t:Ty}(hv:t.val=true)(ho:t.ok=true):∀(ys:List (D t)),Aq (fun x c=>Can t x [c]) ys (ys.map (enc t))
 | []=>rfl
 |y::ys=>⟨_,_,rfl,Can.enc y hv ho,Aq.encs hv ho ys⟩
theorem Kr{B:TB}{L:List (FuncId×Sig)}{LE:List (FuncId×Bv)}{f:FuncId}{s:Sig}(h:(tp B L LE).TN f=some s):(tp B L LE).T f=none:=by
 obtain⟨h1,h2⟩:=HR.1 h
 cases hT:(tp B L LE).T f with
 |none=>rfl
 |some s'=>
  obtain⟨h3,h4⟩:=FW.1 hT;rw[h1]at h3;cases h3;rw[h2]at h4;cases h4
theorem GoodT.addS{P:Program}{B:TB}{L:List (FuncId×Sig)}{LE:List (FuncId×Bv)}(h:GoodT P B L LE)(f:FuncId)(s:Sig)(hs:GN P B.G f s):GoodT P B ((f,s)::L) LE:=by
 have key:∀g s',Cr ((f,s)::L) g=some s'→(g=f∧s'=s)∨Cr L g=some s':=fun g s' hg=>by
  unfold Cr at hg;by_cases e:f=g
  ·simp only[e,if_true,Ac]at hg;exact .inl ⟨e.symm,hg.symm⟩
  ·simp only[e,if_false]at hg;exact .inr hg
 have hF:Ev P B.G (tp B ((f,s)::L) LE):=fun g s' hs'=>by
  obtain⟨h1,h2⟩:=Lz.1 hs';refine h.F g s' (Lz.2 ⟨?_,h2⟩);unfold Cr at h1;split at h1
  ·cases h1
  ·exact h1
 refine⟨⟨fun g l r hr=> ?_,h.E.cp,Ev.ef (X:=tp B ((f,s)::L) LE) hF⟩,⟨rfl,rfl,fun g s' hs'=> ?_,fun f h=>NU f h,fun g a e size t fn hs'=> ?_⟩,hF⟩
 ·rcases PV hr with⟨s',x,y,h1,h2,h3,rfl⟩|⟨h0,a,e,size,t,fn,x,y,h1,h2,h3,rfl⟩
  ·obtain⟨g1,g2⟩:=FW.1 h1;rcases key g s' g1 with⟨rfl,rfl⟩|g3
   ·exact(hs.val g2).2 x l y h2 h3
   ·exact h.E.1 g l _ (Mv (X:=tp B L LE) (FW.2 ⟨g3,g2⟩) h2 h3)
  ·obtain⟨g1,g2⟩:=HR.1 h1;rcases key g _ g1 with⟨rfl,e1⟩|g3
   ·subst e1;exact hs.2 x l y h2 h3
   ·have h4:(tp B L LE).TN g=some ⟨a,.nw e size t,fn⟩:=HR.2 ⟨g3,g2⟩;exact h.E.1 g l _ (JR (X:=tp B L LE) (Kr h4) h4 h2 h3)
 ·obtain⟨g1,g2⟩:=FW.1 hs'
  refine⟨?_, ?_,fun x l y hx hy=>Mv hs' hx hy⟩<;>
  ·rcases key g s' g1 with⟨rfl,rfl⟩|g3
   ·have:=(hs.val g2).1;simp only[Af]at this;first|exact this.1|exact this.2
   ·first|exact(h.T.fn g s' (FW.2 ⟨g3,g2⟩)).1|exact(h.T.fn g s' (FW.2 ⟨g3,g2⟩)).2.1
 ·obtain⟨g1,g2⟩:=HR.1 hs';rcases key g _ g1 with⟨rfl,e1⟩|g3
  ·subst e1;have hto:=hs.1;simp only[Af]at hto;exact⟨hto.1,fun x l ys hx hy=>⟨_,JR (Kr hs') hs' hx hy,Aq.encs hto.1 hto.2 ys⟩⟩
  ·have h4:(tp B L LE).TN g=some ⟨a,.nw e size t,fn⟩:=HR.2 ⟨g3,g2⟩;obtain⟨k1,k2⟩:=h.T.nw g a e size t fn h4;refine⟨k1,fun x l ys hx hy=>⟨_,JR (Kr hs') hs' hx hy, ?_⟩⟩;obtain⟨es,k3,k4⟩:=k2 x l ys hx hy;have k5:=JR (X:=tp B L LE) (Kr h4) h4 hx hy;rw[k5]at k3;cases k3;exact k4
theorem GoodT.addM{P:Program}{B:TB}{L:List (FuncId×Sig)}{LE:List (FuncId×Bv)}(h:GoodT P B L LE)(f:FuncId)(s:Sig)(hv:(s.r.val&&s.r.ok)=true)(hf:∀x l y,Can s.a x l→s.fn x=some y→Bm P f=true∧CallsTo P B.G f l (.val (enc s.r y))):GoodT P B ((f,s)::L) LE:=
 h.addS f s (GN.mk hv hf)
theorem GoodT.add{P:Program}{B:TB}{L:List (FuncId×Sig)}{LE:List (FuncId×Bv)}(h:GoodT P B L LE)(f:FuncId)(s:Sig)(m:AF)(hc:CD P f=some ⟨m.n,B1 m.code,m.res⟩)(hg:Kl (tp B L LE) s.a s.r m=some s.fn){k:Nat}(hl:Bb s.a=some k)(hk:Nat.ble k m.n=true)(hv:(s.r.val&&s.r.ok)=true):GoodT P B ((f,s)::L) LE:=
 h.addM f s hv fun _ _ _ hx hy=>Vx h.E h.T h.TE rfl hg hc hl (Ah hk) hx hy hv
theorem GoodT.call{P:Program}{B:TB}{L:List (FuncId×Sig)}{LE:List (FuncId×Bv)}(h:GoodT P B L LE){f:FuncId}{s:Sig}(hs:Cr L f=some s){x:D s.a}{l:List CV}{y:D s.r}(hx:Can s.a x l)(hy:s.fn x=some y)(hn:s.r.isNw=false:=by rfl):CallsTo P B.G f l (.val (enc s.r y)):=
 (h.E.1 f l _ (Mv (X:=tp B L LE) (FW.2 ⟨hs,hn⟩) hx hy)).2
theorem GoodT.addEM{P:Program}{B:TB}{L:List (FuncId×Sig)}{LE:List (FuncId×Bv)}(h:GoodT P B L LE)(f:FuncId)(s:Bv)(hs:Oj P B.G f s):GoodT P B L ((f,s)::LE):=by
 have hF:Ev P B.G (tp B L ((f,s)::LE)):=fun g s' hs'=>by
  obtain⟨h1,h2⟩:=Lz.1 hs';unfold H2 at h2;split at h2
  ·rename_i e;have e':f=g:=e;cases h2;rw[←e'];exact hs
  ·exact h.F g s' (Lz.2 ⟨h1,h2⟩)
 exact⟨⟨fun g l r hr=>h.E.fn g l r hr,h.E.cp,Ev.ef (X:=tp B L ((f,s)::LE)) hF⟩,⟨rfl,rfl,fun g s' hs'=>h.T.fn g s' hs',fun f h=>NU f h,fun g a e size t fn hs'=>h.T.nw g a e size t fn hs'⟩,hF⟩
theorem Uo{P:Program}{f:FuncId}{m:GK}(h:CD P f=some m):Bm P f=true:=by
 unfold CD at h;split at h<;>(try cases h;done);rename_i hb;exact hb
theorem GoodT.addE{P:Program}{B:TB}{L:List (FuncId×Sig)}{LE:List (FuncId×Bv)}(h:GoodT P B L LE)(f:FuncId)(s:Bv)(m:AF){k:Nat}(hl:Bb s.a=some k)(hk:Nat.ble k m.n=true)(hv:(s.r.val&&s.r.ok&&okΘ s.Θ&&s.r.names (AJ s.Θ).contains&&(AJ s.Θ).all fun N=>Nat.ble At N)=true)(hc:CD P f=some ⟨m.n,B1 m.code,m.res⟩)(hg:Hp (tp B L LE) s.a s.r s.Θ m=some s.fn):GoodT P B L ((f,s)::LE):=by
 simp only[Af]at hv;exact h.addEM f s ⟨hv.1.1.1.1,hv.1.1.1.2,hv.2,hv.1.1.2,Uo hc,fun x l θ H y θ' hx hr hy=>(Qp h.E h.T h.TE hg hc hl (Ah hk) hv.1.1.2 hv.1.2 hx hr hy).2⟩
theorem GoodT.addT{P:Program}{B:TB}{L:List (FuncId×Sig)}{LE:List (FuncId×Bv)}(h:GoodT P B L LE)(f:FuncId)(s:Sig)(m:AF){k:Nat}(hl:Bb s.a=some k)(hk:Nat.ble k m.n=true)(hv:(s.r.val&&s.r.ok&&s.r.names fun _=>false)=true)(hc:CD P f=some ⟨m.n,B1 m.code,m.res⟩){fn:D s.a→HS ([]:TC)→Option (D s.r×HS ([]:TC))}(hg:Hp (tp B L LE) s.a s.r [] m=some fn)(hfn:s.fn=fun x=>(fn x ()).map fun p=>p.1):GoodT P B ((f,s)::L) LE:=by
 simp only[Af]at hv;refine h.addM f s (by simp[hv.1]) fun x l y hx hy=> ?_;rw[hfn]at hy;obtain⟨⟨y',θ'⟩,h1,h2⟩:=Aa.1 hy;cases h2;have hr:Rep ([]:TC) () {fr:=fun _=>.undef,ob:=fun _=>.none}:=⟨fun i q hq=>(by cases hq),fun id q hq=>(by cases hq)⟩;obtain⟨g1,g2⟩:=Qp h.E h.T h.TE hg hc hl (Ah hk) rfl hv.2 hx hr h1;exact⟨g1,g2.to fun id=>rfl⟩
def m(i j:Nat):SL:=⟨some i,.mov (.t j),none⟩
def l'(i:Nat)(o:SOp):SL:=⟨some i,o,none⟩
def fo(i:Nat)(off x:Nat):SL:=⟨some i,.faddr off (.t x),none⟩
def st'(a x:Nat):SL:=⟨none,.store 1 (.t a) (.t x),none⟩
def ex(i x j:Nat):SL:=⟨some i,.ext (.t x) j,none⟩
def rf(l:List SL):AC:=.reg false [] l
def rs(l:List SL):Cy:=.reg false [] l
def K(k:IntKind)(n:Int):SO:=.k (.int k n)
def sS(i:Nat):Key×EK:=(.s i,.v .str)
def sI(i:Nat):Key×EK:=(.s i,.v (.int .i64))
def sB(i:Nat):Key×EK:=(.s i,.v .bool)
def cI(i j:Nat):Key×EK:=(.c i j,.v (.int .i64))
inductive Hn where
 |s (Γ:TC)
 |j (Γ:TC) (ex:List Nat) (rt:Bool)
 |l (Γ:TC) (ex:List Nat) (rt:Bool)
 |g (g:Gh)
 |r
 |e
 |t (gs:List (Nat×Gh))
abbrev HL:=List (Nat×Hn)
def I7(i:Nat):List SL→List (Nat×Gh)→List GL
 | [],gs=>gs.map fun g=>.g g.2
 |l::ls,gs=>let p:=gs.span fun g=>Nat.beq g.1 i;p.1.map (fun g=>.g g.2)++ .l l::I7 (i+1) ls p.2
theorem QJ(gs:List (Nat×Gh))(r:List GL):Ek (gs.map (fun g=>.g g.2)++r)=Ek r:=by
 induction gs with
 |nil=>rfl
 |cons g gs ih=>simp[Ek,ih]
theorem Wz(ls:List SL):∀i gs,Ek (I7 i ls gs)=ls:=by
 induction ls with
 |nil=>intro i gs;unfold I7;simpa[Ek]using QJ gs []
 |cons l ls ih=>intro i gs;unfold I7;simp only;rw[QJ];simp[Ek,ih]
def hnG(k:Nat):HL→List Gh×HL
 |(n,.g g)::hs=>cond (Nat.beq n k) (let p:=hnG k hs;(g::p.1,p.2)) ([],(n,.g g)::hs)
 |hs=>([],hs)
def hnO(k:Nat):HL→Option Hn×HL
 |(n,h)::hs=>cond (Nat.beq n k) (some h,hs) (none,(n,h)::hs)
 | []=>(none,[])
def wrG:List Gh→AC→AC
 | [],c=>c
 |g::gs,c=>.gh g (wrG gs c)
theorem JU(gs:List Gh)(c:AC):B1 (wrG gs c)=B1 c:=by
 induction gs with
 |nil=>rfl
 |cons g gs ih=>simpa[wrG,B1]using ih
def sqH(o:Option Hn)(a b:AC):AC:=
 match o with
 |some (.s Γ)=>.seq Γ a b
 |some (.j Γ ex rt)=>.join Γ ex rt a b
 |_=>.sq a b
def rgH(o:Option Hn)(draw:Bool)(D:List Nat)(ls:List SL):AC:=
 match o,draw with
 |some (.t gs),false=>.rg D (I7 0 ls gs)
 |_,_=>.reg draw D ls
def reH(o:Option Hn)(D:List Nat)(ls:List SL):AC:=
 match o with
 |some .e=>.regE true D ls
 |_=>.regE false D ls
def loH(o:Option Hn)(b:AC):AC:=
 match o with
 |some (.l Γ ex rt)=>.loop Γ ex rt b
 |_=>.loop [] [] false b
def isR:Option Hn→Bool
 |some .r=>true
 |_=>false
def ann:Cy→Nat→HL→AC×Nat×HL
 | .skip,k,hs=>let p:=hnG k hs;let q:=hnO k p.2;(wrG p.1 (cond (isR q.1) (.raw .skip) .skip),k+1,q.2)
 | .ret,k,hs=>let p:=hnG k hs;let q:=hnO k p.2;(wrG p.1 (cond (isR q.1) (.raw .ret) .ret),k+1,q.2)
 | .exit i,k,hs=>let p:=hnG k hs;let q:=hnO k p.2;(wrG p.1 (cond (isR q.1) (.raw (.exit i)) (.exit i)),k+1,q.2)
 | .bad,k,hs=>let p:=hnG k hs;let q:=hnO k p.2;(wrG p.1 (.raw .bad),k+1,q.2)
 | .reg d D ls,k,hs=>let p:=hnG k hs;let q:=hnO k p.2;(wrG p.1 (cond (isR q.1) (.raw (.reg d D ls)) (rgH q.1 d D ls)),k+1,q.2)
 | .regE D ls,k,hs=>let p:=hnG k hs;let q:=hnO k p.2;(wrG p.1 (cond (isR q.1) (.raw (.regE D ls)) (reH q.1 D ls)),k+1,q.2)
 | .seq a b,k,hs=>let p:=hnG k hs;let q:=hnO k p.2
  match isR q.1 with
  |true=>(wrG p.1 (.raw (.seq a b)),k+1,q.2)
  |false=>let x:=ann a (k+1) q.2;let y:=ann b x.2.1 x.2.2;(wrG p.1 (sqH q.1 x.1 y.1),y.2)
 | .cond c a b,k,hs=>let p:=hnG k hs;let q:=hnO k p.2
  match isR q.1 with
  |true=>(wrG p.1 (.raw (.cond c a b)),k+1,q.2)
  |false=>let x:=ann a (k+1) q.2;let y:=ann b x.2.1 x.2.2;(wrG p.1 (.cond c x.1 y.1),y.2)
 | .block i a,k,hs=>let p:=hnG k hs;let q:=hnO k p.2
  match isR q.1 with
  |true=>(wrG p.1 (.raw (.block i a)),k+1,q.2)
  |false=>let x:=ann a (k+1) q.2;(wrG p.1 (.block i x.1),x.2)
 | .loop a,k,hs=>let p:=hnG k hs;let q:=hnO k p.2
  match isR q.1 with
  |true=>(wrG p.1 (.raw (.loop a)),k+1,q.2)
  |false=>let x:=ann a (k+1) q.2;(wrG p.1 (loH q.1 x.1),x.2)
theorem Vc(o:Option Hn)(a b:AC):B1 (sqH o a b)=.seq (B1 a) (B1 b):=by
 unfold sqH;split<;>rfl
theorem Vb(o:Option Hn)(d:Bool)(D:List Nat)(ls:List SL):B1 (rgH o d D ls)=.reg d D ls:=by
 unfold rgH;split<;>simp[B1,Wz]
theorem Va(o:Option Hn)(D:List Nat)(ls:List SL):B1 (reH o D ls)=.regE D ls:=by
 unfold reH;split<;>rfl
theorem UZ(o:Option Hn)(a:AC):B1 (loH o a)=.loop (B1 a):=by
 unfold loH;split<;>rfl
theorem UY(c:Cy):∀k hs,B1 (ann c k hs).1=c:=by
 induction c with
 |seq a b iha ihb|cond c a b iha ihb=>intro k hs;simp only[ann];split<;>simp[JU,Vc,B1,iha,ihb]
 |block i a iha|loop a iha=>intro k hs;simp only[ann];split<;>simp[JU,UZ,B1,iha]
 |bad=>intro k hs;simp[ann,JU,B1]
 |_=>intro k hs;simp only[ann,JU];cases isR (hnO k (hnG k hs).2).1<;>simp[B1,Vb,Va]
def mdl(P:Program)(f:FuncId)(hs:HL):AF:=
 match CD P f with
 |some m=>⟨m.n,(ann m.code 0 hs).1,m.res⟩
 |none=>⟨0,.ret,[]⟩
def tst(P:Program)(f:FuncId)(a:Ty):Bool:=
 match CD P f,Bb a with
 |some m,some k=>Nat.ble k m.n
 |_,_=>false
theorem NV{P:Program}{f:FuncId}{a:Ty}(hs:HL)(h:tst P f a=true):∃k,Bb a=some k∧Nat.ble k (mdl P f hs).n=true∧CD P f=some ⟨(mdl P f hs).n,B1 (mdl P f hs).code,(mdl P f hs).res⟩:=by
 unfold tst at h;split at h
 ·rename_i m k h1 h2;refine⟨k,h2, ?_, ?_⟩<;>simp[mdl,h1,h,UY]
 ·cases h
theorem GoodT.hT{P:Program}{B:TB}{L:List (FuncId×Sig)}{LE:List (FuncId×Bv)}(h:GoodT P B L LE){f:FuncId}{s:Sig}(hs:HL)(hv:(s.r.val&&s.r.ok)=true)(hc:tst P f s.a=true)(hg:Kl (tp B L LE) s.a s.r (mdl P f hs)=some s.fn):GoodT P B ((f,s)::L) LE:=by
 obtain⟨k,h1,h2,h3⟩:=NV hs hc;exact h.add f s _ h3 hg h1 h2 hv
theorem GoodT.hE{P:Program}{B:TB}{L:List (FuncId×Sig)}{LE:List (FuncId×Bv)}(h:GoodT P B L LE){f:FuncId}{s:Bv}(hs:HL)(hv:(s.r.val&&s.r.ok&&okΘ s.Θ&&s.r.names (AJ s.Θ).contains&&(AJ s.Θ).all fun N=>Nat.ble At N)=true)(hc:tst P f s.a=true)(hg:Hp (tp B L LE) s.a s.r s.Θ (mdl P f hs)=some s.fn):GoodT P B L ((f,s)::LE):=by
 obtain⟨k,h1,h2,h3⟩:=NV hs hc;exact h.addE f s _ h1 h2 hv h3 hg
theorem GoodT.hU{P:Program}{B:TB}{L:List (FuncId×Sig)}{LE:List (FuncId×Bv)}(h:GoodT P B L LE){f:FuncId}{s:Sig}(hs:HL)(hv:(s.r.val&&s.r.ok&&s.r.names fun _=>false)=true)(hc:tst P f s.a=true){fn:D s.a→HS ([]:TC)→Option (D s.r×HS ([]:TC))}(hg:Hp (tp B L LE) s.a s.r [] (mdl P f hs)=some fn)(hfn:s.fn=fun x=>(fn x ()).map fun p=>p.1):GoodT P B ((f,s)::L) LE:=by
 obtain⟨k,h1,h2,h3⟩:=NV hs hc;exact h.addT f s _ h1 h2 hv h3 hg hfn
theorem RelL.ints{w:World}{M:MM}{k:IntKind}:∀{zs:List Int} {vs:List Value},RelL w M (zs.map fun z=>.int k z) vs→vs=zs.map fun z=>Value.int k z
 | [],vs,h=>by unfold RelL at h;exact h
 |z::zs,vs,h=>by
  simp only[List.map_cons]at h;unfold RelL at h;obtain⟨v,vs',rfl,h1,h2⟩:=h;unfold RelC at h1;rw[h1,RelL.ints h2];rfl
theorem GOk.tab{P:Program}{G:Nat→List CV}{w:World}{M:MM}(h:GOk G w M){name:String}{k:IntKind}{zs:List Int}{g:Nat}(hg:P.globalNamed name=some g)(hG:G g=zs.map fun z=>.int k z)(hz:zs≠ []):Lib.TabIs P w name k zs:=by
 obtain⟨h1,cs,t,fr,h2,h3⟩:=h g (by rw[hG];simpa using hz);rw[hG]at h1 h3;unfold RelC at h1;obtain⟨ad,vs,e,_,_,hl,hc⟩:=h1;cases e;have hv:=RelL.ints hl;subst hv;unfold Lib.TabIs World.var?;rw[hg];simp only[Option.bind_some,h2,Ac];apply Array.ext_getElem?;intro i;by_cases hi:i<zs.length
 ·have:=hc i (.int k zs[i]) (by simp[hi])
  have e2:(({block:=g,off:=0,spot:=none}:Addr).add i)={block:=g,off:=i,spot:=none}:=by
   unfold Addr.add;by_cases h0:i=0<;>simp[h0]
  rw[e2]at this;simp only[World.cell?,h2]at this;rw[show(cs[i]? =some (Value.int k zs[i]))from by simpa using this];simp[hi]
 ·rw[Array.getElem?_eq_none (by simp at h3;omega),Array.getElem?_eq_none (by simp;omega)]
def FU:Int×Int→Option (List UInt8):=fun x=>if x.2=10∧ -9223372036854775808≤x.1∧x.1≤9223372036854775807 then some (Lib.itoa x.1)else none
theorem Yd{P:Program}{B:TB}{f g:Nat}(hb:Bm P f=true)(hg:P.globalNamed "internal/strconv.uint64pow10" =some g)(hG:B.G g=Lib.pow10Tab.map fun z=>.int .u64 z)
  (hc:∀(n:Int) (_: -9223372036854775808≤n) (_:n≤9223372036854775807) (w:World) (_:Lib.TabIs P w "internal/strconv.uint64pow10" .u64 Lib.pow10Tab),Calls P f #[.int .i64 n,.int .i64 10] w fun e w'=>e=.returned (.string ⟨(Lib.itoa n).toArray⟩)∧∃k os,w'=Sort.grow (w.drewN k) os)
  {x:D (.cons (.int .i64) (.one (.int .i64)))} {l:List CV} {y:D .str} (hx:Can (.cons (.int .i64) (.one (.int .i64))) x l) (hy:FU x=some y):Bm P f=true∧CallsTo P B.G f l (.val (enc .str y)):=by
 refine⟨hb,fun w M vs hM hGk hL=> ?_⟩;obtain⟨n,b⟩:=x;simp only[FU]at hy;split at hy
 ·rename_i h;obtain⟨rfl,h0,h1⟩:=h;cases hy;unfold Can at hx;obtain⟨c,l',rfl,h2,h3⟩:=hx;unfold Can at h2 h3;obtain⟨c',rfl,h3⟩:=h3;unfold Can at h3;cases h2;cases h3;unfold RelL RelC at hL;obtain⟨v,vs',rfl,rfl,hL⟩:=hL;unfold RelL RelC at hL;obtain⟨v,vs',rfl,rfl,hL⟩:=hL;unfold RelL at hL;subst hL;refine(hc n h0 h1 w (hGk.tab hg hG (by simp[Lib.pow10Tab]))).mono fun e w' he=> ?_;obtain⟨rfl,k,os,rfl⟩:=he;refine⟨_,rfl,Lib.below_grow _ _ (Nat.le_refl _) _ _, ?_⟩;simp[Ez,enc,AI,RelC]
 ·cases hy
def Es:Int×Int→Option (List UInt8):=fun x=>if x.2=10∧0≤x.1∧x.1<18446744073709551616 then some (Lib.itoa x.1)else none
theorem Ye{P:Program}{B:TB}{f g:Nat}(hb:Bm P f=true)(hg:P.globalNamed "internal/strconv.uint64pow10" =some g)(hG:B.G g=Lib.pow10Tab.map fun z=>.int .u64 z)
  (hc:∀(n:Nat) (_:n<18446744073709551616) (w:World) (_:Lib.TabIs P w "internal/strconv.uint64pow10" .u64 Lib.pow10Tab),Calls P f #[.int .u64 (n:Int),.int .i64 10] w fun e w'=>e=.returned (.string ⟨(Lib.itoa (n:Int)).toArray⟩)∧∃k os,w'=Sort.grow (w.drewN k) os)
  {x:D (.cons (.int .u64) (.one (.int .i64)))} {l:List CV} {y:D .str} (hx:Can (.cons (.int .u64) (.one (.int .i64))) x l) (hy:Es x=some y):Bm P f=true∧CallsTo P B.G f l (.val (enc .str y)):=by
 refine⟨hb,fun w M vs hM hGk hL=> ?_⟩;obtain⟨n,b⟩:=x;simp only[Es]at hy;split at hy
 ·rename_i h;obtain⟨rfl,h0,h1⟩:=h;obtain⟨m,rfl⟩:=Int.eq_ofNat_of_zero_le h0;cases hy;unfold Can at hx;obtain⟨c,l',rfl,h2,h3⟩:=hx;unfold Can at h2 h3;obtain⟨c',rfl,h3⟩:=h3;unfold Can at h3;cases h2;cases h3;unfold RelL RelC at hL;obtain⟨v,vs',rfl,rfl,hL⟩:=hL;unfold RelL RelC at hL;obtain⟨v,vs',rfl,rfl,hL⟩:=hL;unfold RelL at hL;subst hL;refine(hc m (by omega) w (hGk.tab hg hG (by simp[Lib.pow10Tab]))).mono fun e w' he=> ?_;obtain⟨rfl,k,os,rfl⟩:=he;refine⟨_,rfl,Lib.below_grow _ _ (Nat.le_refl _) _ _, ?_⟩;simp[Ez,enc,AI,RelC]
 ·cases hy
theorem RW{w:World}{M:MM}{x:D (.cons .str (.one .str))}{l:List CV}{vs:List Value}(hx:Can (.cons .str (.one .str)) x l)(hL:RelL w M l vs):vs= [.string ⟨⟨x.1⟩⟩,.string ⟨⟨x.2⟩⟩]:=by
 obtain⟨s,b⟩:=x;unfold Can at hx;obtain⟨c1,l',rfl,h2,h3⟩:=hx;unfold Can at h2 h3;obtain⟨c',rfl,h3⟩:=h3;unfold Can at h3;cases h2;cases h3;unfold RelL RelC at hL;obtain⟨v,vs',rfl,rfl,hL⟩:=hL;unfold RelL RelC at hL;obtain⟨v,vs',rfl,rfl,hL⟩:=hL;unfold RelL at hL;subst hL;rfl
def Fc:List UInt8×List UInt8→Option Int:=fun x=>match x.2 with
 | [c]=>some (Lib.indexByte x.1 c)
 |_=>none
theorem VZ{P:Program}{B:TB}{f:Nat}(hb:Bm P f=true)
  (hc:∀(s:ByteArray) (c:UInt8) (w:World),Calls P f #[.string s,.string ⟨#[c]⟩] w fun e w'=>e=.returned (.int .i64 (Lib.indexByte s.data.toList c))∧w'=w)
  {x:D (.cons .str (.one .str))} {l:List CV} {y:D (.int .i64)} (hx:Can (.cons .str (.one .str)) x l) (hy:Fc x=some y):Bm P f=true∧CallsTo P B.G f l (.val (enc (.int .i64) y)):=by
 refine⟨hb,fun w M vs hM hGk hL=> ?_⟩;rw[RW hx hL];obtain⟨s,b⟩:=x;simp only[Fc]at hy;split at hy<;>(try cases hy;done);rename_i c;cases hy;refine(hc ⟨⟨s⟩⟩ c w).mono fun e w' he=> ?_;obtain⟨rfl,rfl⟩:=he;refine⟨_,rfl,Below.refl _ _, ?_⟩;simp[Ez,enc,AI,RelC]
theorem QE{P:Program}{w:World}:∀{l:List (String×DataW Unit)} {ps:List MemPlace},DataW.LaidVars P w l ps→∀{name:String} {d:DataW Unit},(name,d)∈l→∃g t cs fuel p,P.globalNamed name=some g∧(P.globals[g]?).map (·.type)=some t∧w.var? P name=some cs∧DataW.trod (fun _=>()) P w 0 (fun _=>true) false fuel t cs.toList=some (d,p)
 | [],_,_,_,_,hm=>by cases hm
 |(n,d)::l,ps,h,name,d',hm=>by
  obtain⟨g,t,cs,fuel,p,q,h1,h2,h3,h4,h5,h6⟩:=h;rcases List.mem_cons.1 hm with e|hm
  ·cases e;exact⟨g,t,cs,fuel,p,h1,h2,h3,h4⟩
  ·exact QE h5 hm
theorem tabIs_of_mem{P:Program}{W:World}{l:List (String×DataW Unit)}{name:String}{k:IntKind}{zs:List Int}{g:Nat}{t e:TypeId}{n:Nat}(hm:(name,Lib.tabData k zs)∈l)
  (hg:P.globalNamed name=some g) (hty:(P.globals[g]?).map (·.type)=some t) (ht:P.underlying t=some (.array n e)) (he:P.underlying e=some (.int k)) (hce:P.cellsOf e=1) (hct:P.cellsOf t=n)
  (h:laidMet P l W):Lib.TabIs P W name k zs:=by
 obtain⟨ps,h1,_,_⟩:=h;obtain⟨g',t',cs,fuel,p,hg',ht',hvar,hd⟩:=QE h1 hm;obtain rfl:=Option.some.inj (hg.symm.trans hg');obtain rfl:=Option.some.inj (hty.symm.trans ht');unfold Lib.TabIs;rw[hvar,←Lib.cells_of_tab ht he hce hct hd]
def OR(w:World)(g:Nat)(vs:List Value):Prop:=∃t fr,w.heap[g]? =some (.cells ⟨vs⟩ t fr)
theorem Yr{P:Program}{w:World}{name:String}{g:Nat}{vs:List Value}(hg:P.globalNamed name=some g)(h:w.var? P name=some ⟨vs⟩):OR w g vs:=by
 unfold World.var? at h;rw[hg]at h;simp only[Option.bind_some]at h;split at h<;>(try cases h;done);rename_i cs t fr hh;cases h;exact⟨t,fr,hh⟩
theorem GOk.one{w:World}{g:Nat}{cvs:List CV}{vs:List Value}(h:OR w g vs)(hr:RelL w noM cvs vs)(hn:noNamL (fun _=>false) cvs=true):
  RelC w noM (.rp cvs) (.pointer (some ⟨g,0,none⟩))∧∃cs t fr,w.heap[g]? =some (.cells cs t fr)∧cs.size=cvs.length∧noNamL (fun _=>false) cvs=true:=by
 obtain⟨t,fr,hh⟩:=h;refine⟨?_,⟨vs⟩,t,fr,hh,by simp[hr.length],hn⟩;unfold RelC;refine⟨⟨g,0,none⟩,vs,rfl,heap_lt hh,fun hh=>hh,hr,fun j u hu=> ?_⟩
 have e2:(({block:=g,off:=0,spot:=none}:Addr).add j)={block:=g,off:=j,spot:=none}:=by
  unfold Addr.add;by_cases h0:j=0<;>simp[h0]
 rw[e2];simp only[World.cell?,hh];simpa using hu
theorem RU{w:World}{M:MM}{k:IntKind}:∀(zs:List Int),RelL w M (zs.map fun z=>.int k z) (zs.map fun z=>Value.int k z)
 | []=>RelL.nil
 |z::zs=>RelL.cons (by unfold RelC;rfl) (RU zs)
theorem Rg{k:IntKind}:∀(zs:List Int),noNamL (fun _=>false) (zs.map fun z=>CV.int k z)=true
 | []=>rfl
 |z::zs=>by simp only[List.map_cons,noNamL,Bh,Rg zs,Bool.and_self]
theorem GOk.ints{P:Program}{w:World}{name:String}{g:Nat}{k:IntKind}{zs:List Int}(hg:P.globalNamed name=some g)(h:Lib.TabIs P w name k zs):
  RelC w noM (.rp (zs.map fun z=>.int k z)) (.pointer (some ⟨g,0,none⟩))∧∃cs t fr,w.heap[g]? =some (.cells cs t fr)∧cs.size=(zs.map fun z=>CV.int k z).length∧noNamL (fun _=>false) (zs.map fun z=>CV.int k z)=true:=
 GOk.one (Yr hg h) (RU zs) (Rg zs)
end WB
namespace WB
open Go Go.RowKit Go.Maps
open Go.WideElems (Fit rd rg)
open Go.MapKept (Stamped)
open Go.WideMaps (keyOf_string_mk)
end WB
