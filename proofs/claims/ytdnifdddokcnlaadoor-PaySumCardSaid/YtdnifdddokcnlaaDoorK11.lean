/-
  OWN TEXTS, MERGED (wip/merge.py): CoreZt, LibEv. No condition of their own.
-/
import Derived.Test.YtdnifdddokcnlaaDoorK6
import Derived.SizedLaws
import Derived.LaidLaws
set_option linter.unusedVariables false
set_option linter.unusedSimpArgs false
open Go.IntKind (i64 u64 u8 u32)
namespace WB
open Go Go.RowKit Go.ChangeShapes Go.WideShapes Go.Deep
section
variable {H:Type} {enc:TypeId×Value→H} {P:Program} {w:World} {base:Nat} {spare:Nat→Bool} {held:Bool}
end
end WB
namespace WB
open Go Go.RowKit
theorem laid_errv{P:Program}{n nm:String}{d:DataW Unit}{W:World}{g:Nat}{ti:TypeId}{ms:Array (String×TypeId)}
  (hg:P.globalNamed n=some g) (ht:(P.globals[g]?).map (·.type)=some ti) (hi:P.underlying ti=some (.interface ms)):∀{l:List (String×DataW Unit)},(n,.iface nm d)∈l→laidMet P l W→∃u v,W.var? P n=some #[.iface u v]:=by
 intro l hm h;obtain⟨ps,hl,hx⟩:=h;clear hx
 induction l generalizing ps with
 |nil=>cases hm
 |cons x r ih=>
  obtain⟨n',d'⟩:=x;obtain⟨g0,t0,cs0,f0,p0,q0,hg0,ht0,hv0,hd0,hr,e0⟩:=hl;rcases List.mem_cons.1 hm with e|hm
  ·cases e;obtain rfl:=Option.some.inj (hg.symm.trans hg0);obtain rfl:=Option.some.inj (ht.symm.trans ht0);obtain⟨f1,u,v,e1,_,_⟩:=iface_of_trod hi hd0;refine⟨u,v, ?_⟩;rw[hv0];obtain⟨l0⟩:=cs0;simp only at e1;subst e1;rfl
  ·exact ih hm q0 hr
theorem GOk.errv{P:Program}{w:World}{name:String}{g:Nat}{u:TypeId}{v:Value}(hg:P.globalNamed name=some g)(h:w.var? P name=some #[.iface u v]):
  RelC w noM (.rp [.ifc]) (.pointer (some ⟨g,0,none⟩))∧∃cs t fr,w.heap[g]? =some (.cells cs t fr)∧cs.size= [CV.ifc].length∧noNamL (fun _=>false) [CV.ifc]=true:=by
 have hh:∃t fr,w.heap[g]? =some (.cells #[.iface u v] t fr):=by
  unfold World.var? at h;rw[hg]at h;simp only[Option.bind_some]at h;split at h<;>simp only[Ac,reduceCtorEq]at h;rename_i cs t fr hc;subst h;exact⟨t,fr,hc⟩
 obtain⟨t,fr,hh⟩:=hh;refine⟨?_,_,t,fr,hh,rfl,rfl⟩;unfold RelC;refine⟨_,[.iface u v],rfl,heap_lt hh,(fun h=>h),RelL.cons ⟨u,v,rfl⟩ RelL.nil,fun j u' hj=> ?_⟩
 have hj0:j=0:=by
  have:=(Ae.1 hj).1;simpa using this
 subst hj0;simp only[List.getElem?_cons_zero,Ac]at hj;subst hj;rw[add_zero];simp[World.cell?,hh]
end WB
