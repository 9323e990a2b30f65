/-
 OWN TEXTS, MERGED (wip/merge.py): LibSv, LibEv, PapzW, PapzV. No condition of their own.
-/
import Derived.Test.YtpkakpifnjiebaaGreatDoorK4
import Derived.LaidLaws
import Derived.ChangeArms
import Derived.Test.YtpkakpifnjiebaaGreatDoorK12
import Derived.Test.YtpkakpifnjiebaaGreatDoorK5
import Derived.Test.YtpkakpifnjiebaaGreatDoorRows
import Derived.Lay
import Derived.Deep.DeepHandedRow
import Derived.LaidSub
import Derived.MakeChecks
set_option linter.unusedVariables false
set_option linter.unusedSimpArgs false
namespace WB
open Go Go.RowKit
def strData {H : Type} (ss : List (List UInt8)) : DataW H := .agg (ss.map fun s => .lit (.string s))
def strVals (ss : List (List UInt8)) : List Value := ss.map fun s => Value.string ⟨⟨s⟩⟩
theorem cells_of_strs {H : Type} {enc : TypeId × Value → H} {P : Program} {w : World} {base : Nat} {sp : Nat → Bool} {held : Bool} {fuel : Nat} {t e : TypeId} {n : Nat} {cs : List Value} {ss : List (List UInt8)} {p : List MemPlace}
  (ht : P.underlying t = some (.array n e)) (he : P.underlying e = some .string) (hce : P.cellsOf e = 1) (hct : P.cellsOf t = n)
  (h : DataW.trod enc P w base sp held fuel t cs = some (strData ss, p)) : cs = strVals ss := by
 cases fuel with
 | zero => simp [DataW.trod] at h
 | succ fuel =>
  simp only [DataW.trod, ht, hce, hct, Nat.mul_one] at h
  split at h
  ·rename_i hl
   obtain ⟨xs, hm, hx⟩ := Option.map_eq_some_iff.1 h
   have hxs : xs.map (·.1) = ss.map fun s => (DataW.lit (.string s) : DataW H) := by
    have := congrArg Prod.fst hx
    simpa [strData] using this
   have hxl : xs.length = n := by simpa using Lib.mapM_length hm
   have hzl : ss.length = n := by
    have := congrArg List.length hxs
    simp at this
    omega
   apply List.ext_getElem?
   intro i
   by_cases hi : i < n
   ·obtain ⟨b, hb, hf⟩ := Lib.mapM_at hm i i (by simp [hi])
    obtain ⟨s, hc, rfl, _⟩ := DataW.trod_string he hf
    have h1 : cs[i]? = some (.string s) := by
     have := congrArg (·[0]?) hc
     simpa [List.getElem?_take, List.getElem?_drop] using this
    have h2 : (xs.map (·.1))[i]? = some (DataW.lit (.string s.data.toList) : DataW H) := by simp [hb]
    rw [hxs] at h2
    simp only [List.getElem?_map, Option.map_eq_some_iff, DataW.lit.injEq, Lit.string.injEq] at h2
    obtain ⟨z', hz', e'⟩ := h2
    rw [h1, strVals, List.getElem?_map, hz', Option.map_some, e']
   ·rw [List.getElem?_eq_none (by omega), List.getElem?_eq_none (by simp [strVals]; omega)]
  ·cases h
theorem relL_strs {w : World} {M : Nat → Prop} : ∀ (ss : List (List UInt8)), RelL w M (ss.map CV.str) (strVals ss)
 | [] => RelL.nil
 | s :: ss => RelL.cons (by unfold RelC; rfl) (relL_strs ss)
theorem GOk.strs {P : Program} {W : World} {l : List (String × DataW Unit)} {name : String} {ss : List (List UInt8)} {g : Nat} {t e : TypeId} {n : Nat} (hm : (name, strData ss) ∈ l)
  (hg : P.globalNamed name = some g) (hty : (P.globals[g]?).map (·.type) = some t) (ht : P.underlying t = some (.array n e)) (he : P.underlying e = some .string) (hce : P.cellsOf e = 1) (hct : P.cellsOf t = n)
  (h : laidMet P l W) :
  RelC W (fun _ => False) (.rp (ss.map CV.str)) (.pointer (some ⟨g, 0, none⟩)) ∧ ∃ cs t fr, W.heap[g]? = some (.cells cs t fr) ∧ cs.size = (ss.map CV.str).length := by
 obtain ⟨ps, h1, _, _⟩ := h
 obtain ⟨g', t', cs, fuel, p, hg', ht', hvar, hd⟩ := laid_mem h1 hm
 obtain rfl := Option.some.inj (hg.symm.trans hg')
 obtain rfl := Option.some.inj (hty.symm.trans ht')
 have e1 := cells_of_strs ht he hce hct hd
 refine GOk.one (tab_cells hg (vs := strVals ss) ?_) (relL_strs ss)
 rw [hvar, ← e1]
end WB
namespace WB
open Go Go.RowKit
theorem laid_errv {P : Program} {n nm : String} {d : DataW Unit} {W : World} {g : Nat} {ti : TypeId} {ms : Array (String × TypeId)}
  (hg : P.globalNamed n = some g) (ht : (P.globals[g]?).map (·.type) = some ti) (hi : P.underlying ti = some (.interface ms)) : ∀ {l : List (String × DataW Unit)}, (n, .iface nm d) ∈ l → laidMet P l W → ∃ u v, W.var? P n = some #[.iface u v] := by
 intro l hm h
 obtain ⟨ps, hl, hx⟩ := h
 clear hx
 induction l generalizing ps with
 | nil => cases hm
 | cons x r ih =>
  obtain ⟨n', d'⟩ := x
  obtain ⟨g0, t0, cs0, f0, p0, q0, hg0, ht0, hv0, hd0, hr, e0⟩ := hl
  rcases List.mem_cons.1 hm with e | hm
  ·cases e
   obtain rfl := Option.some.inj (hg.symm.trans hg0)
   obtain rfl := Option.some.inj (ht.symm.trans ht0)
   obtain ⟨f1, u, v, e1, _, _⟩ := iface_of_trod hi hd0
   refine ⟨u, v, ?_⟩
   rw [hv0]
   obtain ⟨l0⟩ := cs0
   simp only at e1
   subst e1
   rfl
  ·exact ih hm q0 hr
theorem GOk.errv {P : Program} {w : World} {name : String} {g : Nat} {u : TypeId} {v : Value} (hg : P.globalNamed name = some g) (h : w.var? P name = some #[.iface u v]) :
  RelC w (fun _ => False) (.rp [.ifc]) (.pointer (some ⟨g, 0, none⟩)) ∧ ∃ cs t fr, w.heap[g]? = some (.cells cs t fr) ∧ cs.size = [CV.ifc].length := by
 have hh : ∃ t fr, w.heap[g]? = some (.cells #[.iface u v] t fr) := by
  unfold World.var? at h
  rw [hg] at h
  simp only [Option.bind_some] at h
  split at h <;> simp only [Option.some.injEq, reduceCtorEq] at h
  rename_i cs t fr hc
  subst h
  exact ⟨t, fr, hc⟩
 obtain ⟨t, fr, hh⟩ := hh
 refine ⟨?_, _, t, fr, hh, rfl⟩
 unfold RelC
 refine ⟨_, [.iface u v], rfl, heap_lt hh, (fun h => h), RelL.cons ⟨u, v, rfl⟩ RelL.nil, fun j u' hj => ?_⟩
 have hj0 : j = 0 := by
  have := (List.getElem?_eq_some_iff.1 hj).1
  simpa using this
 subst hj0
 simp only [List.getElem?_cons_zero, Option.some.injEq] at hj
 subst hj
 rw [add_zero]
 simp [World.cell?, hh]
end WB
namespace WB
open Go Go.RowKit Go.Proofs
def tabsR : List (String × DataW Unit) := Go.Proofs.YtpkakpifnjiebaaGreatDoor.Rows.paperTextsRow.laid
noncomputable def laidW (os : Os) : World := World.laidAll Tryz.prog os tabsR
theorem laid_met (os : Os) (args : Array Value) : laidMet Tryz.prog tabsR ((laidW os).forCall (fun _ _ => 0) ⟨#[], args, []⟩).memory :=
 laidMet_laidAll args (by kernel_rfl) (by kernel_rfl)
end WB
namespace WB
open Go Go.RowKit Go.Proofs
def plainLst : List (String × DataW Unit) := tabsR.filter fun x => x.2.handleName?.isNone
set_option maxRecDepth 100000 in
theorem powMem : plainLst[2]? = some ("internal/strconv.uint64pow10", Lib.tabData .u64 Lib.pow10Tab) := by kernel_rfl
theorem gPow : Tryz.prog.globalNamed "internal/strconv.uint64pow10" = some 1 := by kernel_rfl
theorem gPowT : (Tryz.prog.globals[1]?).map (·.type) = some 111 := by kernel_rfl
set_option maxRecDepth 100000 in
theorem wrdMem : plainLst[6]? = some ("wagebook/paper.words", strData paper_words) := by kernel_rfl
theorem gWrd : Tryz.prog.globalNamed "wagebook/paper.words" = some 0 := by kernel_rfl
theorem gWrdT : (Tryz.prog.globals[0]?).map (·.type) = some 89 := by kernel_rfl
set_option maxRecDepth 100000 in
theorem rngMem : plainLst[4]? = some ("strconv.ErrRange", Go.Proofs.YtpkakpifnjiebaaGreatDoor.Rows.laid_strconv_ErrRange) := by kernel_rfl
set_option maxRecDepth 100000 in
theorem synMem : plainLst[5]? = some ("strconv.ErrSyntax", Go.Proofs.YtpkakpifnjiebaaGreatDoor.Rows.laid_strconv_ErrSyntax) := by kernel_rfl
theorem gRng : Tryz.prog.globalNamed "strconv.ErrRange" = some 4 := by kernel_rfl
theorem gRngT : (Tryz.prog.globals[4]?).map (·.type) = some 52 := by kernel_rfl
theorem gSyn : Tryz.prog.globalNamed "strconv.ErrSyntax" = some 3 := by kernel_rfl
theorem gSynT : (Tryz.prog.globals[3]?).map (·.type) = some 52 := by kernel_rfl
theorem gok {W : World} (h : laidMetH Tryz.prog tabsR W) : GOk B.G W (fun _ => False) := by
 have h' : laidMetH Tryz.prog plainLst W := laidMetH.filter _ h
 have hp : laidMet Tryz.prog plainLst W := by rw [← Go.MakeChecks.laidMetH_plain Tryz.prog plainLst W (by kernel_rfl)]; exact h'
 have ht : Lib.TabIs Tryz.prog W "internal/strconv.uint64pow10" .u64 Lib.pow10Tab := tabIs_of_mem (l := plainLst) (List.mem_of_getElem? powMem) gPow gPowT Tryz.underlying111 Tryz.underlying56 (by kernel_rfl) (by kernel_rfl) hp
 intro i hi
 by_cases h1 : i = 0
 ·subst h1
  exact GOk.strs (l := plainLst) (ss := paper_words) (List.mem_of_getElem? wrdMem) gWrd gWrdT Tryz.underlying89 Tryz.underlying9 (by kernel_rfl) (by kernel_rfl) hp
 ·by_cases h2 : i = 1
  ·subst h2
   exact GOk.ints gPow ht
  ·by_cases h3 : i = 3
   ·subst h3
    obtain ⟨u, v, hv⟩ := laid_errv gSyn gSynT Tryz.underlying52 (List.mem_of_getElem? synMem) hp
    exact GOk.errv gSyn hv
   ·by_cases h4 : i = 4
    ·subst h4
     obtain ⟨u, v, hv⟩ := laid_errv gRng gRngT Tryz.underlying52 (List.mem_of_getElem? rngMem) hp
     exact GOk.errv gRng hv
    ·exact absurd (show B.G i = [] from (if_neg h1).trans ((if_neg h2).trans ((if_neg h3).trans (if_neg h4)))) hi
end WB

