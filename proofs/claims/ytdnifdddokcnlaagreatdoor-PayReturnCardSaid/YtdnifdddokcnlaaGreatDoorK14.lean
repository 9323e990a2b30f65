/-
  OWN TEXTS, MERGED (wip/merge.py): PayW, PayX. No condition of their own.
-/
import Derived.Test.YtdnifdddokcnlaaGreatDoorK13
import Derived.Test.YtdnifdddokcnlaaGreatDoorK6
import Derived.Test.YtdnifdddokcnlaaGreatDoorRows
import Derived.Lay
import Derived.Deep.DeepHandedRow
import Derived.LaidSub
import Derived.Shelf.Vars
import Derived.MakeChecks
import Derived.Test.YtdnifdddokcnlaaGreatDoorK11
set_option linter.unusedVariables false
set_option linter.unusedSimpArgs false
namespace WB
open Go Go.RowKit Go.Proofs
def tabsR:List (String×DataW Unit):=Go.Proofs.YtdnifdddokcnlaaGreatDoor.Rows.payReturnRow.laid
noncomputable def laidW(os:Os):World:=World.laidAll Tryz.prog os tabsR
theorem laid_met(os:Os)(args:Array Value):laidMet Tryz.prog tabsR ((laidW os).forCall (fun _ _=>0) ⟨#[],args,[]⟩).memory:=
 laidMet_laidAll args (by kernel_rfl) (by kernel_rfl)
end WB
namespace WB
open Go Go.RowKit Go.Proofs
def plainLst:List (String×DataW Unit):=tabsR.filter fun x=>x.2.handleName?.isNone
set_option maxRecDepth 100000 in
theorem powMem:plainLst[2]? =some ("internal/strconv.uint64pow10",Lib.tabData .u64 Lib.pow10Tab):=by kernel_rfl
theorem gPow:Tryz.prog.globalNamed "internal/strconv.uint64pow10" =some 0 :=by kernel_rfl
theorem gPowT:(Tryz.prog.globals[0]?).map (·.type)=some 139 :=by kernel_rfl
set_option maxRecDepth 100000 in
theorem rngMem:plainLst[4]? =some ("strconv.ErrRange",Go.Proofs.YtdnifdddokcnlaaGreatDoor.Rows.laid_strconv_ErrRange):=by kernel_rfl
set_option maxRecDepth 100000 in
theorem synMem:plainLst[5]? =some ("strconv.ErrSyntax",Go.Proofs.YtdnifdddokcnlaaGreatDoor.Rows.laid_strconv_ErrSyntax):=by kernel_rfl
theorem gRng:Tryz.prog.globalNamed "strconv.ErrRange" =some 5 :=by kernel_rfl
theorem gRngT:(Tryz.prog.globals[5]?).map (·.type)=some 106 :=by kernel_rfl
theorem gSyn:Tryz.prog.globalNamed "strconv.ErrSyntax" =some 4 :=by kernel_rfl
theorem gSynT:(Tryz.prog.globals[4]?).map (·.type)=some 106 :=by kernel_rfl
theorem maxLen{W:World}(hS:W.ShapedOpen Tryz.prog):∃m:Int,RelC W noM (.rp [.int .i64 m]) (.pointer (some ⟨1,0,none⟩))∧∃cs t fr,W.heap[1]? =some (.cells cs t fr)∧cs.size= [CV.int .i64 m].length∧noNamL (fun _=>false) [CV.int .i64 m]=true:=by
 have hz:((begin Tryz.prog (fun _ _=>0) default).world.heap[1]?).bind Obj.row? =some (#[.int .i64 0],3):=by kernel_rfl
 have hg: 1 <Tryz.prog.globals.size:=of_decide_eq_true (by kernel_rfl);obtain⟨m,hm⟩:=Go.Proofs.cell_of_shapedOpen_int (k:=.i64) hS hg hz rfl (by kernel_rfl) (by kernel_rfl) Tryz.underlying3;obtain⟨cs,hh,hs,_⟩:=hS.1 _ _ _ hg hz
 have hc:cs= #[.int .i64 m]:=by
  have h1:cs.size=1:=hs;have h2:cs[0]? =some (.int .i64 m):=by simpa[World.cell?,hh]using hm
  apply Array.ext'
  match hcs:cs.toList,(show cs.toList.length=1 from h1)with
  | [v],_=>
   have:cs.toList[0]? =some (.int .i64 m):=by simpa using h2
   rw[hcs]at this;simp at this;simp[this]
 subst hc;exact⟨m,GOk.one (vs:= [.int .i64 m]) ⟨_,_,hh⟩ (RelL.cons (by unfold RelC;rfl) RelL.nil) rfl⟩
theorem gok{W:World}(h:laidMetH Tryz.prog tabsR W)(hS:W.ShapedOpen Tryz.prog):∃mx,GOk (B mx).G W noM:=by
 obtain⟨mx,hmx⟩:=maxLen hS;refine⟨mx, ?_⟩;have h':laidMetH Tryz.prog plainLst W:=laidMetH.filter _ h;have hp:laidMet Tryz.prog plainLst W:=by rw[←Go.MakeChecks.laidMetH_plain Tryz.prog plainLst W (by kernel_rfl)];exact h'
 have ht:Lib.TabIs Tryz.prog W "internal/strconv.uint64pow10" .u64 Lib.pow10Tab:=tabIs_of_mem (l:=plainLst) (List.mem_of_getElem? powMem) gPow gPowT Tryz.underlying139 Tryz.underlying70 (by kernel_rfl) (by kernel_rfl) hp;intro i hi;by_cases h0:i= 1
 ·subst h0;exact hmx
 ·by_cases h2:i= 0
  ·subst h2;exact GOk.ints gPow ht
  ·by_cases h3:i= 4
   ·subst h3;obtain⟨u,v,hv⟩:=laid_errv gSyn gSynT Tryz.underlying106 (List.mem_of_getElem? synMem) hp;exact GOk.errv gSyn hv
   ·by_cases h4:i= 5
    ·subst h4;obtain⟨u,v,hv⟩:=laid_errv gRng gRngT Tryz.underlying106 (List.mem_of_getElem? rngMem) hp;exact GOk.errv gRng hv
    ·exact absurd (show(B mx).G i= []from(if_neg h0).trans ((if_neg h2).trans ((if_neg h3).trans (if_neg h4)))) hi
end WB
