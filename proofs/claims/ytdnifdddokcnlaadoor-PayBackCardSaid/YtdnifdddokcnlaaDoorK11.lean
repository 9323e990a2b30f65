/-
  OWN TEXTS, MERGED (wip/merge.py): CoreZt, LibEv. No condition of their own.
-/
import Derived.Test.YtdnifdddokcnlaaDoorK6
import Derived.SizedLaws
import Derived.LaidLaws
set_option linter.unusedVariables false
set_option linter.unusedSimpArgs false
open Go.IntKind (i64 u64 u8 u32)
namespace WB
open Go Go.RowKit Go.ChangeShapes Go.WideShapes Go.Deep
def sz1(P:Program)(t:TypeId):(te:Ty)→D te→Prop
 | .sl e,xs=>match P.underlying t with
  |some (.slice el)=>(xs:List (D e)).length*P.bytesOf el≤reachBytes
  |_=>True
 |_,_=>True
def szArgs(P:Program):(ts:List TypeId)→(a:Ty)→D a→Prop
 |t::ts,.cons te r,x=>sz1 P t te x.1∧szArgs P ts r x.2
 |t::_,.one te,x=>sz1 P t te x
 |_,_,_=>True
section
variable {H:Type} {enc:TypeId×Value→H} {P:Program} {w:World} {base:Nat} {spare:Nat→Bool} {held:Bool}
theorem Sr:∀{ts us:List TypeId} {ds gs:List (DataW H)},ds.length=ts.length→(DataW.weightsEach P (ts++us) (ds++gs)).all (· ≤reachBytes)=true→(DataW.weightsEach P ts ds).all (· ≤reachBytes)=true
 | [],_,[],_,_,_=>by simp[DataW.weightsEach]
 |t::ts,us,d::ds,gs,hl,h=>by
  simp only[List.cons_append,DataW.weightsEach,List.all_append,Af]at h⊢;exact⟨h.1,Sr (by simpa using hl) h.2⟩
theorem Se{t:TypeId}{te:Ty}{v:Value}{d:DataW H}{p:List MemPlace}{x:D te}{c:CV}(hd:DataW.Trod enc P w base spare held t v d p)(hc:Can te x [c])(hr:RelC w noM c v)(hw:(d.weights P t).all (· ≤reachBytes)=true):sz1 P t te x:=by
 cases te<;>try trivial
 rename_i e
 show match P.underlying t with
  |some (.slice el)=>(x:List (D e)).length*P.bytesOf el≤reachBytes
  |_=>True
 split
 ·rename_i el ht;unfold Can at hc;obtain⟨nl,es,e1,hall⟩:=hc;cases e1;have hlen:(x:List (D e)).length=es.length:=hall.length.symm;unfold RelC at hr;obtain⟨a,n,cap,rfl,hn,_⟩:=hr;obtain⟨fuel,hd⟩:=hd;rcases open_slice ht hd with⟨h0,_⟩|⟨a',len,cap',m,n',D',Pl,hcs,_,_,_,_,hx,_⟩
  ·have h1: [Value.slice a n cap]= [Value.slice none 0 0]:=h0;cases h1;rw[hlen,←hn];omega
  ·have h1: [Value.slice a n cap]= [Value.slice (some a') len cap']:=hcs;cases h1;have hx1:d=.slice ((List.range n).map D') ((List.range (m-n)).map fun j=>D' (n+j)):=congrArg Prod.fst hx;subst hx1;simp only[DataW.weights,ht,List.all_cons,Af,decide_eq_true_eq,List.length_map,List.length_range]at hw;rw[hlen,←hn];exact Nat.le_trans (Nat.mul_le_mul_right _ (Nat.le_add_right _ _)) hw.1
 ·trivial
theorem Sf{n:Nat}:∀{ts:List TypeId} {a:Ty} {vs:List Value} {ds:List (DataW H)} {ps:List MemPlace} {x:D a} {l:List CV},IN P n ts=some a→DataW.TrodAll enc P w base spare held ts vs ds ps→Can a x l→RelL w noM l vs→(DataW.weightsEach P ts ds).all (· ≤reachBytes)=true→szArgs P ts a x
 | [],a,vs,ds,ps,x,l,ha,h,_,_,_=>by
  cases ha
  trivial
 | [t],a,vs,ds,ps,x,l,ha,h,hc,hr,hw=>by
  obtain⟨te,h1,rfl⟩:=Aa.1 ha;obtain⟨v0,vs0,d0,ds0,p0,q0,rfl,rfl,rfl,h0,r0⟩:=trodAll_cons h;unfold Can at hc;obtain⟨c,rfl,hc⟩:=hc;unfold RelL at hr;obtain⟨v,vs',e,hr1,_⟩:=hr;cases e;simp only[DataW.weightsEach,List.all_append,Af]at hw;exact Se h0 hc hr1 hw.1
 |t::u::ts,a,vs,ds,ps,x,l,ha,h,hc,hr,hw=>by
  obtain⟨te,h1,ha⟩:=Ab.1 ha;obtain⟨q,h2,rfl⟩:=Aa.1 ha;obtain⟨v0,vs0,d0,ds0,p0,q0,rfl,rfl,rfl,h0,r0⟩:=trodAll_cons h;unfold Can at hc;obtain⟨c,l',rfl,hc1,hc2⟩:=hc;unfold RelL at hr;obtain⟨v,vs',e,hr1,hr2⟩:=hr;cases e;simp only[DataW.weightsEach,List.all_append,Af]at hw;exact⟨Se h0 hc1 hr1 hw.1,Sf h2 r0 hc2 hr2 hw.2⟩
end
theorem row_contract_sz{P:Program}{G:Nat→List CV}{f:FuncId}{fn:Func}{s:ChangeSpec}{tb:TypeId}{a:Ty}(n:Nat)(laidOut:laidOutB P=true)(hA:IN P n fn.params.toList=some a)(hr:(fn.params.toList.all fun t=>P.readableRec t&&decide (t<P.types.size))=true)
  (hres:fn.resultTypes= #[tb]) (htb:P.underlying tb=some .bool) (hsv:s.vars= []) (hs:∀(H:Type) (ds:List (DataW H)),ds.length=fn.params.size→(s.fn H ds).results= [.lit (.bool true)]∧(s.fn H ds).args=ds∧(s.fn H ds).vars= [])
  (hcall:∀(x:D a) (l:List CV),Can a x l→InR a x→szArgs P fn.params.toList a x→CallsTo P G f l (.val (.bool true)))
  (H:Type) (enc:TypeId×Value→H) (W:World) (base:Nat) (args:Array Value) (ds gs:List (DataW H)) (before:List MemPlace)
  (hval:∀(j:Nat) t v,fn.params[j]? =some t→args[j]? =some v→Value.okWide P W .any base t v)
  (hW:DataW.Whole enc P fn.params.toList s.vars false W args.toList ds gs before) {us:List TypeId} (hwt:(DataW.weightsEach P (fn.params.toList++us) (ds++gs)).all (· ≤reachBytes)=true) (hG:GOk G W noM):
  Calls P f args W fun e W'=>∃v,e=.returned v∧s.post enc P fn false true false false W args v W':=by
 have hW':=hW;obtain⟨p,q,hA0,hV,rfl,hfz,hnd⟩:=hW;have hA1:DataW.TrodAll enc P W 0 (fun _=>true) true fn.params.toList args.toList ds p:=hA0;rw[hsv]at hV;obtain⟨rfl,rfl⟩:=trodVars_none hV;obtain⟨x,l,g1,g2,g3⟩:=QJ (base:=0) hA (fun j t v h1 h2=>hval j t v (by simpa using h1) (by simpa using h2)) hA1;have hlen:ds.length=fn.params.size:=by rw[Si hA1];simp
 have g4:=Sf hA hA1 g1 g2 (Sr (by rw[hlen];simp) hwt);obtain⟨e1,e2,e3⟩:=hs H ds hlen;have hc:=hcall x l g1 g3 g4 W noM args.toList (fun _ h=>h.elim) hG g2;refine hc.mono fun e W' ⟨v,he,hb,hr'⟩=> ?_;subst he;unfold DS RelC at hr';subst hr';refine⟨_,rfl,VR (pa:=p) (pv:= []) hW' (fun _ _ _=> ?_) (fun sp hsp=> ?_) (fun sp hsp=> ?_) rfl hb ?_⟩
 ·rw[List.append_nil,e1,hres];exact trodAll_cons_mk (shut_bool htb _) trodAll_mk0
 ·rw[List.append_nil,e2];exact Sh laidOut hb hr (fun x hx=>hW'.lt x (by simpa using hx)) (fun x hx=>hsp x (by simpa using hx)) hA1
 ·rw[List.append_nil,e3,hsv];rfl
 ·exact ok_one hres rfl (okWide_bool_mk htb _)
end WB
namespace WB
open Go Go.RowKit
theorem laid_errv{P:Program}{n nm:String}{d:DataW Unit}{W:World}{g:Nat}{ti:TypeId}{ms:Array (String×TypeId)}
  (hg:P.globalNamed n=some g) (ht:(P.globals[g]?).map (·.type)=some ti) (hi:P.underlying ti=some (.interface ms)):∀{l:List (String×DataW Unit)},(n,.iface nm d)∈l→laidMet P l W→∃u v,W.var? P n=some #[.iface u v]:=by
 intro l hm h;obtain⟨ps,hl,hx⟩:=h;clear hx
 induction l generalizing ps with
 |nil=>cases hm
 |cons x r ih=>
  obtain⟨n',d'⟩:=x;obtain⟨g0,t0,cs0,f0,p0,q0,hg0,ht0,hv0,hd0,hr,e0⟩:=hl;rcases List.mem_cons.1 hm with e|hm
  ·cases e;obtain rfl:=Option.some.inj (hg.symm.trans hg0);obtain rfl:=Option.some.inj (ht.symm.trans ht0);obtain⟨f1,u,v,e1,_,_⟩:=iface_of_trod hi hd0;refine⟨u,v, ?_⟩;rw[hv0];obtain⟨l0⟩:=cs0;simp only at e1;subst e1;rfl
  ·exact ih hm q0 hr
theorem GOk.errv{P:Program}{w:World}{name:String}{g:Nat}{u:TypeId}{v:Value}(hg:P.globalNamed name=some g)(h:w.var? P name=some #[.iface u v]):
  RelC w noM (.rp [.ifc]) (.pointer (some ⟨g,0,none⟩))∧∃cs t fr,w.heap[g]? =some (.cells cs t fr)∧cs.size= [CV.ifc].length∧noNamL (fun _=>false) [CV.ifc]=true:=by
 have hh:∃t fr,w.heap[g]? =some (.cells #[.iface u v] t fr):=by
  unfold World.var? at h;rw[hg]at h;simp only[Option.bind_some]at h;split at h<;>simp only[Ac,reduceCtorEq]at h;rename_i cs t fr hc;subst h;exact⟨t,fr,hc⟩
 obtain⟨t,fr,hh⟩:=hh;refine⟨?_,_,t,fr,hh,rfl,rfl⟩;unfold RelC;refine⟨_,[.iface u v],rfl,heap_lt hh,(fun h=>h),RelL.cons ⟨u,v,rfl⟩ RelL.nil,fun j u' hj=> ?_⟩
 have hj0:j=0:=by
  have:=(Ae.1 hj).1;simpa using this
 subst hj0;simp only[List.getElem?_cons_zero,Ac]at hj;subst hj;rw[add_zero];simp[World.cell?,hh]
end WB
