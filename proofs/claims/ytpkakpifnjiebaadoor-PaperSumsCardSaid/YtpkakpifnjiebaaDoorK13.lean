/-
 OWN TEXTS, MERGED (wip/merge.py): LibSv, PaperW, PaperV. No condition of their own.
-/
import Derived.Test.YtpkakpifnjiebaaDoorK4
import Derived.LaidLaws
import Derived.ChangeArms
import Derived.Test.YtpkakpifnjiebaaDoorK12
import Derived.Test.YtpkakpifnjiebaaDoorK5
import Derived.Test.YtpkakpifnjiebaaDoorRows
import Derived.Lay
import Derived.Deep.DeepHandedRow
import Derived.LaidSub
import Derived.MakeChecks
set_option linter.unusedVariables false
set_option linter.unusedSimpArgs false
namespace WB
open Go Go.RowKit
def strData {H : Type} (ss : List (List UInt8)) : DataW H := .agg (ss.map fun s => .lit (.string s))
def strVals (ss : List (List UInt8)) : List Value := ss.map fun s => Value.string ⟨⟨s⟩⟩
theorem cells_of_strs {H : Type} {enc : TypeId × Value → H} {P : Program} {w : World} {base : Nat} {sp : Nat → Bool} {held : Bool} {fuel : Nat} {t e : TypeId} {n : Nat} {cs : List Value} {ss : List (List UInt8)} {p : List MemPlace}
  (ht : P.underlying t = some (.array n e)) (he : P.underlying e = some .string) (hce : P.cellsOf e = 1) (hct : P.cellsOf t = n)
  (h : DataW.trod enc P w base sp held fuel t cs = some (strData ss, p)) : cs = strVals ss := by
 cases fuel with
 | zero => simp [DataW.trod] at h
 | succ fuel =>
  simp only [DataW.trod, ht, hce, hct, Nat.mul_one] at h
  split at h
  ·rename_i hl
   obtain ⟨xs, hm, hx⟩ := Option.map_eq_some_iff.1 h
   have hxs : xs.map (·.1) = ss.map fun s => (DataW.lit (.string s) : DataW H) := by
    have := congrArg Prod.fst hx
    simpa [strData] using this
   have hxl : xs.length = n := by simpa using Lib.mapM_length hm
   have hzl : ss.length = n := by
    have := congrArg List.length hxs
    simp at this
    omega
   apply List.ext_getElem?
   intro i
   by_cases hi : i < n
   ·obtain ⟨b, hb, hf⟩ := Lib.mapM_at hm i i (by simp [hi])
    obtain ⟨s, hc, rfl, _⟩ := DataW.trod_string he hf
    have h1 : cs[i]? = some (.string s) := by
     have := congrArg (·[0]?) hc
     simpa [List.getElem?_take, List.getElem?_drop] using this
    have h2 : (xs.map (·.1))[i]? = some (DataW.lit (.string s.data.toList) : DataW H) := by simp [hb]
    rw [hxs] at h2
    simp only [List.getElem?_map, Option.map_eq_some_iff, DataW.lit.injEq, Lit.string.injEq] at h2
    obtain ⟨z', hz', e'⟩ := h2
    rw [h1, strVals, List.getElem?_map, hz', Option.map_some, e']
   ·rw [List.getElem?_eq_none (by omega), List.getElem?_eq_none (by simp [strVals]; omega)]
  ·cases h
theorem relL_strs {w : World} {M : Nat → Prop} : ∀ (ss : List (List UInt8)), RelL w M (ss.map CV.str) (strVals ss)
 | [] => RelL.nil
 | s :: ss => RelL.cons (by unfold RelC; rfl) (relL_strs ss)
theorem GOk.strs {P : Program} {W : World} {l : List (String × DataW Unit)} {name : String} {ss : List (List UInt8)} {g : Nat} {t e : TypeId} {n : Nat} (hm : (name, strData ss) ∈ l)
  (hg : P.globalNamed name = some g) (hty : (P.globals[g]?).map (·.type) = some t) (ht : P.underlying t = some (.array n e)) (he : P.underlying e = some .string) (hce : P.cellsOf e = 1) (hct : P.cellsOf t = n)
  (h : laidMet P l W) :
  RelC W (fun _ => False) (.rp (ss.map CV.str)) (.pointer (some ⟨g, 0, none⟩)) ∧ ∃ cs t fr, W.heap[g]? = some (.cells cs t fr) ∧ cs.size = (ss.map CV.str).length := by
 obtain ⟨ps, h1, _, _⟩ := h
 obtain ⟨g', t', cs, fuel, p, hg', ht', hvar, hd⟩ := laid_mem h1 hm
 obtain rfl := Option.some.inj (hg.symm.trans hg')
 obtain rfl := Option.some.inj (hty.symm.trans ht')
 have e1 := cells_of_strs ht he hce hct hd
 refine GOk.one (tab_cells hg (vs := strVals ss) ?_) (relL_strs ss)
 rw [hvar, ← e1]
end WB
namespace WB
open Go Go.RowKit Go.Proofs
def tabsR : List (String × DataW Unit) := Go.Proofs.YtpkakpifnjiebaaDoor.Rows.paperOfRow.laid
noncomputable def laidW (os : Os) : World := World.laidAll Tryd.prog os tabsR
theorem laid_met (os : Os) (args : Array Value) : laidMet Tryd.prog tabsR ((laidW os).forCall (fun _ _ => 0) ⟨#[], args, []⟩).memory :=
 laidMet_laidAll args (by kernel_rfl) (by kernel_rfl)
end WB
namespace WB
open Go Go.RowKit Go.Proofs
def plainLst : List (String × DataW Unit) := tabsR.filter fun x => x.2.handleName?.isNone
set_option maxRecDepth 100000 in
theorem powMem : plainLst[2]? = some ("internal/strconv.uint64pow10", Lib.tabData .u64 Lib.pow10Tab) := by kernel_rfl
theorem gPow : Tryd.prog.globalNamed "internal/strconv.uint64pow10" = some 1 := by kernel_rfl
theorem gPowT : (Tryd.prog.globals[1]?).map (·.type) = some 113 := by kernel_rfl
set_option maxRecDepth 100000 in
theorem wrdMem : plainLst[3]? = some ("wagebook/paper.words", strData paper_words) := by kernel_rfl
theorem gWrd : Tryd.prog.globalNamed "wagebook/paper.words" = some 0 := by kernel_rfl
theorem gWrdT : (Tryd.prog.globals[0]?).map (·.type) = some 86 := by kernel_rfl
theorem gok {W : World} (h : laidMetH Tryd.prog tabsR W) : GOk B.G W (fun _ => False) := by
 have h' : laidMetH Tryd.prog plainLst W := laidMetH.filter _ h
 have hp : laidMet Tryd.prog plainLst W := by rw [← Go.MakeChecks.laidMetH_plain Tryd.prog plainLst W (by kernel_rfl)]; exact h'
 have ht : Lib.TabIs Tryd.prog W "internal/strconv.uint64pow10" .u64 Lib.pow10Tab := tabIs_of_mem (l := plainLst) (List.mem_of_getElem? powMem) gPow gPowT Tryd.underlying113 Tryd.underlying83 (by kernel_rfl) (by kernel_rfl) hp
 intro i hi
 by_cases h1 : i = 0
 ·subst h1
  exact GOk.strs (l := plainLst) (ss := paper_words) (List.mem_of_getElem? wrdMem) gWrd gWrdT Tryd.underlying86 Tryd.underlying9 (by kernel_rfl) (by kernel_rfl) hp
 ·by_cases h2 : i = 1
  ·subst h2
   exact GOk.ints gPow ht
  ·exact absurd (show B.G i = [] from (if_neg h1).trans (if_neg h2)) hi
end WB

