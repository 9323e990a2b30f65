/-
 OWN TEXTS, MERGED (wip/merge.py): Ptx, Psx. No condition of their own.
-/
import Derived.Test.YtpkakpifnjiebaaGreatDoorK6
import Derived.Test.YtpkakpifnjiebaaGreatDoorProg
import Derived.KernelRfl
import Derived.Test.YtpkakpifnjiebaaGreatDoorK8
import Derived.Test.YtpkakpifnjiebaaGreatDoorK7
set_option linter.unusedVariables false
set_option linter.unusedSimpArgs false
namespace WB
open Go Go.RowKit Go.Proofs
def cs1 : Code → Code
 | .seq a _ => a
 | c => c
def cs2 : Code → Code
 | .seq _ b => b
 | c => c
def cin : Code → Code
 | .block _ b => b
 | .loop b => b
 | c => c
def rops : Code → Array Oper
 | .region _ o _ => o
 | _ => #[]
def rid : Code → Nat
 | .region i _ _ => i
 | _ => 0
noncomputable def pB : Code := (Tryz.f6.body).getD .skip
noncomputable def pR0 : Code := cs1 pB
noncomputable def pC1 : Code := cs1 (cs2 pB)
noncomputable def pX2 : Code := cs2 (cs2 pB)
noncomputable def pR3 : Code := cs1 pX2
noncomputable def pX3 : Code := cs2 pX2
noncomputable def pR4 : Code := cs1 pX3
noncomputable def pX4 : Code := cs2 pX3
noncomputable def pR5 : Code := cs1 (cs1 pX4)
noncomputable def pLp : Code := cin (cs2 (cs1 pX4))
noncomputable def pLb : Code := cin pLp
noncomputable def pR6 : Code := cs1 pLb
noncomputable def pBi : Code := cin (cs1 (cs2 (cs2 pLb)))
noncomputable def pR9 : Code := cs2 (cs2 (cs2 pLb))
noncomputable def pR7 : Code := cs1 pBi
noncomputable def pR8 : Code := cs2 pBi
noncomputable def pR10 : Code := cs1 (cs2 pX4)
theorem pB_body : Tryz.f6.body = some pB := by kernel_rfl
theorem pB_eq : pB = .seq pR0 (.seq pC1 (.seq pR3 (.seq (.region (rid pR4) (rops pR4) true) (.seq (.seq pR5 (.block 0 (.loop (.seq pR6 (.seq (.cond (.tmp 30) .skip (.exit 0)) (.seq (.block 1 (.seq pR7 (.region (rid pR8) (rops pR8) true))) pR9)))))) (.seq (.region (rid pR10) (rops pR10) false) .ret))))) := by kernel_rfl
def scR0 : SCode := (.reg false [1] [⟨(some 1), (.box (.t 0)), none⟩, ⟨(some 2), (.mov (.k (.str []))), none⟩])
def scC1 : SCode := (.seq (.reg false [] [⟨(some 6), (.load (some 4) (.t 1)), none⟩, ⟨(some 7), (.call 14 [(.t 6)]), none⟩, ⟨(some 8), (.un .not (.t 7)), none⟩]) (.cond (.t 8) (.seq (.reg false [] [⟨(some 2), (.mov (.k (.str []))), none⟩]) .ret) .skip))
def scR5 : SCode := (.reg false [] [⟨(some 26), (.faddr 2 (.t 1)), none⟩, ⟨(some 27), (.load none (.t 26)), none⟩, ⟨(some 28), (.len 1 (.t 27)), none⟩, ⟨(some 29), (.mov (.k (.int .i64 0))), none⟩])
def scR6 : SCode := (.reg false [] [⟨(some 30), (.bin .lss (.t 29) (.t 28)), none⟩])
def scR7 : SCode := (.reg false [5] [⟨(some 31), (.iaddr 2 (.t 27) (.t 29)), none⟩, ⟨(some 32), (.load (some 2) (.t 31)), none⟩, ⟨(some 5), (.alloc [(.str []), (.int .i64 0)]), none⟩, ⟨none, (.store 2 (.t 5) (.t 32)), none⟩])
def scR9 : SCode := (.reg false [] [⟨(some 42), (.bin .add (.t 29) (.k (.int .i64 1))), none⟩, ⟨(some 29), (.mov (.t 42)), none⟩])
def lsR4 : List SL := [⟨(some 9), (.faddr 0 (.t 1)), none⟩, ⟨(some 10), (.load none (.t 9)), none⟩, ⟨(some 11), (.cvi .u64 (.t 10)), none⟩, ⟨(some 12), (.call 16 [(.t 11), (.k (.int .i64 10))]), none⟩, ⟨(some 13), (.bin .add (.k (.str [112, 97, 112, 101, 114, 32])) (.t 12)), none⟩, ⟨(some 14), (.bin .add (.t 13) (.k (.str [32]))), none⟩, ⟨(some 15), (.faddr 1 (.t 1)), none⟩, ⟨(some 16), (.load none (.t 15)), none⟩, ⟨(some 17), (.call 17 [(.t 16)]), none⟩, ⟨(some 18), (.bin .add (.t 14) (.t 17)), none⟩, ⟨(some 19), (.bin .add (.t 18) (.k (.str [32]))), none⟩, ⟨(some 20), (.faddr 3 (.t 1)), none⟩, ⟨(some 21), (.load none (.t 20)), none⟩, ⟨(some 22), (.call 17 [(.t 21)]), none⟩, ⟨(some 23), (.bin .add (.t 19) (.t 22)), none⟩, ⟨(some 24), (.bin .add (.t 23) (.k (.str [10]))), none⟩]
def lsR8 : List SL := [⟨(some 33), (.faddr 0 (.t 5)), none⟩, ⟨(some 34), (.load none (.t 33)), none⟩, ⟨(some 35), (.bin .add (.t 34) (.k (.str [32]))), none⟩, ⟨(some 36), (.faddr 1 (.t 5)), none⟩, ⟨(some 37), (.load none (.t 36)), none⟩, ⟨(some 38), (.call 18 [(.t 37)]), none⟩, ⟨(some 39), (.bin .add (.t 35) (.t 38)), none⟩, ⟨(some 40), (.bin .add (.t 39) (.k (.str [10]))), none⟩]
theorem cR0 : compC Tryz.prog 44 pR0 = some scR0 := by kernel_rfl
theorem cC1 : compC Tryz.prog 44 pC1 = some scC1 := by kernel_rfl
theorem cR5 : compC Tryz.prog 44 pR5 = some scR5 := by kernel_rfl
theorem cR6 : compC Tryz.prog 44 pR6 = some scR6 := by kernel_rfl
theorem cR7 : compC Tryz.prog 44 pR7 = some scR7 := by kernel_rfl
theorem cR9 : compC Tryz.prog 44 pR9 = some scR9 := by kernel_rfl
def lastR4 : SL := ⟨some 25, .call 15 [.t 3, .t 24], none⟩
def lastR8 : SL := ⟨some 41, .call 15 [.t 3, .t 40], none⟩
theorem lR4 : allM (compL Tryz.prog 44 (rops pR4)) (rops pR4).toList = some (lsR4 ++ [lastR4]) := by kernel_rfl
theorem lR8 : allM (compL Tryz.prog 44 (rops pR8)) (rops pR8).toList = some (lsR8 ++ [lastR8]) := by kernel_rfl
theorem lR10 : allM (compL Tryz.prog 44 (rops pR10)) (rops pR10).toList = some (⟨some 43, .call 19 [.t 3], none⟩ :: [⟨some 2, .mov (.t 43), none⟩]) := by kernel_rfl
theorem dR4 : drawOkO Tryz.prog (rops pR4) [] [12, 17, 22, 25] (lsR4 ++ [lastR4]) = true := by kernel_rfl
theorem dR8 : drawOkO Tryz.prog (rops pR8) [] [38, 41] (lsR8 ++ [lastR8]) = true := by kernel_rfl
theorem oR4 : lastOk (rops pR4) = true := by kernel_rfl
theorem oR8 : lastOk (rops pR8) = true := by kernel_rfl
theorem pR3_eq : ∃ o : Oper, pR3 = .region (rid pR3) #[o] false ∧ o.op = .alloc 50 ∧ o.dst = some 3 ∧ o.guard = none := ⟨(rops pR3)[0]!, by kernel_rfl, by kernel_rfl, by kernel_rfl, by kernel_rfl⟩
theorem info77 : ∃ i, Tryz.prog.info? 50 = some i ∧ i.zero = some (.agg #[.pointer none, .slice none 0 0]) := ⟨(Tryz.prog.info? 50).getD default, by kernel_rfl, by kernel_rfl⟩
def itC (x : List UInt8 × Int) : CV := .agg [.str x.1, .int .i64 x.2]
def headT (su sy sa : List UInt8) : List UInt8 := [112, 97, 112, 101, 114, 32] ++ su ++ [32] ++ sy ++ [32] ++ sa ++ [10]
def itemT (c t : List UInt8) : List UInt8 := c ++ [32] ++ t ++ [10]
def bodyT (tx : Int → List UInt8) : List (List UInt8 × Int) → List UInt8
 | [] => []
 | x :: l => itemT x.1 (tx x.2) ++ bodyT tx l
theorem bodyT_append (tx : Int → List UInt8) (a b : List (List UInt8 × Int)) : bodyT tx (a ++ b) = bodyT tx a ++ bodyT tx b := by
 induction a with
 | nil => rfl
 | cons x a ih => simp only [List.cons_append, bodyT, ih, List.append_assoc]
theorem bodyT_take {tx : Int → List UInt8} {its : List (List UInt8 × Int)} {i : Nat} {x : List UInt8 × Int} (h : its[i]? = some x) : bodyT tx (its.take (i + 1)) = bodyT tx (its.take i) ++ itemT x.1 (tx x.2) := by
 rw [List.take_add_one, h, bodyT_append]
 simp [bodyT]
theorem bodyT_le {tx : Int → List UInt8} (its : List (List UInt8 × Int)) (i : Nat) : (bodyT tx (its.take i)).length ≤ (bodyT tx its).length := by
 have h : its.take i ++ its.drop i = its := List.take_append_drop i its
 have h2 := congrArg (fun l => (bodyT tx l).length) h
 simp only [bodyT_append, List.length_append] at h2
 omega
def LI (b : Nat) (cv : CV) (len i : Int) (st : St) : Prop := st.fr 3 = .c (.adr b) ∧ st.fr 27 = .c cv ∧ st.fr 28 = .c (.int .i64 len) ∧ st.fr 29 = .c (.int .i64 i)
section
variable {E : Env} {p y a : Int} {nl : Option Bool} {its : List (List UInt8 × Int)} {su sy sa : List UInt8} {tx : Int → List UInt8}
theorem evR4 {st : St} {b : Nat} {u : CV} (h1 : st.fr 1 = .c (.wp [.int .u32 p, .int .i64 y, u, .int .i64 a])) (h3 : st.fr 3 = .c (.adr b)) (hU : E.fn 16 [.int .u64 (IntKind.u64.wrap p), .int .i64 10] = some (.val (.str su))) (hY : E.fn 17 [.int .i64 y] = some (.val (.str sy))) (hA : E.fn 17 [.int .i64 a] = some (.val (.str sa)))
  (hlen : (headT su sy sa).length ≤ 140737488355328) : pLs E (some [12, 17, 22, 25]) lsR4 (fun st' => st'.fr 24 = .c (.str (headT su sy sa)) ∧ st'.fr 3 = .c (.adr b) ∧ st'.fr 1 = .c (.wp [.int .u32 p, .int .i64 y, u, .int .i64 a])) (kill [12, 17, 22, 25] st) := by
 unfold lsR4
 simp only [headT, List.length_append, List.length_cons, List.length_nil] at hlen
 repeat' (first
  | with_reducible apply p_seq
  | with_reducible apply then_normal
  | with_reducible apply then_exit
  | with_reducible apply then_ret
  | with_reducible apply block_normal
  | with_reducible apply block_exit
  | with_reducible apply block_ret
  | with_reducible apply turn_exit
  | with_reducible apply turn_ret
  | with_reducible apply p_skip
  | with_reducible apply p_exit
  | with_reducible apply p_ret
  | with_reducible apply p_block
  | with_reducible apply p_reg0
  | with_reducible apply p_reg1
  | with_reducible apply c_nil
  | with_reducible apply g_tt
  | with_reducible apply g_ff
  | with_reducible apply g_tf
  | with_reducible apply g_ft
  | with_reducible apply g_sk
  | with_reducible apply k_t
  | with_reducible apply k_f
  | ((with_reducible apply block_past); (· decide))
  | ((with_reducible apply c_mov); (· simp [valOp, so_t, so_k, so, setS_fr, setS_ob, newS_fr, newS_ob, refOf, kill_fr, kill_ob, init_fr, init_ob, mask_none, mask_some, upd_apply, killSV, killOb, *] <;> first | with_reducible exact rfl | with_reducible exact ⟨rfl, rfl⟩ | with_reducible exact ⟨by omega, rfl⟩))
  | ((with_reducible apply c_bin); (· simp [valOp, binC, binI, cmpB, binS, so_t, so_k, so, setS_fr, setS_ob, newS_fr, newS_ob, refOf, kill_fr, kill_ob, init_fr, init_ob, mask_none, mask_some, upd_apply, killSV, killOb, *] <;> first | with_reducible exact rfl | with_reducible exact ⟨rfl, rfl⟩ | with_reducible exact ⟨by omega, rfl⟩))
  | ((with_reducible apply c_un); (· simp [valOp, unC, so_t, so_k, so, setS_fr, setS_ob, newS_fr, newS_ob, refOf, kill_fr, kill_ob, init_fr, init_ob, mask_none, mask_some, upd_apply, killSV, killOb, *] <;> first | with_reducible exact rfl | with_reducible exact ⟨rfl, rfl⟩ | with_reducible exact ⟨by omega, rfl⟩))
  | ((with_reducible apply c_cvi); (· simp [valOp, so_t, so_k, so, setS_fr, setS_ob, newS_fr, newS_ob, refOf, kill_fr, kill_ob, init_fr, init_ob, mask_none, mask_some, upd_apply, killSV, killOb, *] <;> first | with_reducible exact rfl | with_reducible exact ⟨rfl, rfl⟩ | with_reducible exact ⟨by omega, rfl⟩))
  | ((with_reducible apply c_faddr); (· simp [valOp, so_t, so_k, so, setS_fr, setS_ob, newS_fr, newS_ob, refOf, kill_fr, kill_ob, init_fr, init_ob, mask_none, mask_some, upd_apply, killSV, killOb, *] <;> first | with_reducible exact rfl | with_reducible exact ⟨rfl, rfl⟩ | with_reducible exact ⟨by omega, rfl⟩))
  | ((with_reducible apply c_iaddr); (· simp [valOp, iaddrV, idxOf, cellsN, CV.cells, so_t, so_k, so, setS_fr, setS_ob, newS_fr, newS_ob, refOf, kill_fr, kill_ob, init_fr, init_ob, mask_none, mask_some, upd_apply, killSV, killOb, *] <;> first | with_reducible exact rfl | with_reducible exact ⟨rfl, rfl⟩ | with_reducible exact ⟨by omega, rfl⟩))
  | ((with_reducible apply c_load); (· simp [valOp, loadV, partC, allM, closed, CV.cells, so_t, so_k, so, setS_fr, setS_ob, newS_fr, newS_ob, refOf, kill_fr, kill_ob, init_fr, init_ob, mask_none, mask_some, upd_apply, killSV, killOb, *] <;> first | with_reducible exact rfl | with_reducible exact ⟨rfl, rfl⟩ | with_reducible exact ⟨by omega, rfl⟩))
  | ((with_reducible apply c_len); (· simp [valOp, lenV, so_t, so_k, so, setS_fr, setS_ob, newS_fr, newS_ob, refOf, kill_fr, kill_ob, init_fr, init_ob, mask_none, mask_some, upd_apply, killSV, killOb, *] <;> first | with_reducible exact rfl | with_reducible exact ⟨rfl, rfl⟩ | with_reducible exact ⟨by omega, rfl⟩))
  | ((with_reducible apply c_slice); (· simp [valOp, bound, cellsN, so_t, so_k, so, setS_fr, setS_ob, newS_fr, newS_ob, refOf, kill_fr, kill_ob, init_fr, init_ob, mask_none, mask_some, upd_apply, killSV, killOb, *] <;> first | with_reducible exact rfl | with_reducible exact ⟨rfl, rfl⟩ | with_reducible exact ⟨by omega, rfl⟩))
  | ((with_reducible apply c_call); (· simp [allM, close, so_t, so_k, so, setS_fr, setS_ob, newS_fr, newS_ob, refOf, kill_fr, kill_ob, init_fr, init_ob, mask_none, mask_some, upd_apply, killSV, killOb, *] <;> first | with_reducible exact rfl | with_reducible exact ⟨rfl, rfl⟩ | with_reducible exact ⟨by omega, rfl⟩); (· simp [so_t, so_k, so, setS_fr, setS_ob, newS_fr, newS_ob, refOf, kill_fr, kill_ob, init_fr, init_ob, mask_none, mask_some, upd_apply, killSV, killOb, *] <;> first | with_reducible exact rfl | with_reducible exact ⟨rfl, rfl⟩ | with_reducible exact ⟨by omega, rfl⟩); (· simp [isC, memless, memlessL, so_t, so_k, so, setS_fr, setS_ob, newS_fr, newS_ob, refOf, kill_fr, kill_ob, init_fr, init_ob, mask_none, mask_some, upd_apply, killSV, killOb, *]; done))
  | ((with_reducible apply c_callN); (· simp [allM, close, so_t, so_k, so, setS_fr, setS_ob, newS_fr, newS_ob, refOf, kill_fr, kill_ob, init_fr, init_ob, mask_none, mask_some, upd_apply, killSV, killOb, *] <;> first | with_reducible exact rfl | with_reducible exact ⟨rfl, rfl⟩ | with_reducible exact ⟨by omega, rfl⟩); (· simp [so_t, so_k, so, setS_fr, setS_ob, newS_fr, newS_ob, refOf, kill_fr, kill_ob, init_fr, init_ob, mask_none, mask_some, upd_apply, killSV, killOb, *] <;> first | with_reducible exact rfl | with_reducible exact ⟨rfl, rfl⟩ | with_reducible exact ⟨by omega, rfl⟩); (· simp [isC, Res.memless, memless, memlessL, so_t, so_k, so, setS_fr, setS_ob, newS_fr, newS_ob, refOf, kill_fr, kill_ob, init_fr, init_ob, mask_none, mask_some, upd_apply, killSV, killOb, *]; done); (· simp [so_t, so_k, so, setS_fr, setS_ob, newS_fr, newS_ob, refOf, kill_fr, kill_ob, init_fr, init_ob, mask_none, mask_some, upd_apply, killSV, killOb, *]; done))
  | ((with_reducible apply c_new); (· rfl); (· simp [newOp, allM, closed, cellsN, so_t, so_k, so, setS_fr, setS_ob, newS_fr, newS_ob, refOf, kill_fr, kill_ob, init_fr, init_ob, mask_none, mask_some, upd_apply, killSV, killOb, *] <;> first | with_reducible exact rfl | with_reducible exact ⟨rfl, rfl⟩ | with_reducible exact ⟨by omega, rfl⟩); (· simp [so_t, so_k, so, setS_fr, setS_ob, newS_fr, newS_ob, refOf, kill_fr, kill_ob, init_fr, init_ob, mask_none, mask_some, upd_apply, killSV, killOb, *]; done))
  | ((with_reducible apply c_eff); (· rfl); (· simp [effOp, setCells, oneS, oneC, St.set, newsOf, putC, cellsN, CV.cells, so_t, so_k, so, setS_fr, setS_ob, newS_fr, newS_ob, refOf, kill_fr, kill_ob, init_fr, init_ob, mask_none, mask_some, upd_apply, killSV, killOb, *] <;> first | with_reducible exact rfl | with_reducible exact ⟨rfl, rfl⟩ | with_reducible exact ⟨by omega, rfl⟩))
  | ((with_reducible apply c_guard); (· simp [so_t, so_k, so, setS_fr, setS_ob, newS_fr, newS_ob, refOf, kill_fr, kill_ob, init_fr, init_ob, mask_none, mask_some, upd_apply, killSV, killOb, *] <;> first | with_reducible exact rfl | with_reducible exact ⟨rfl, rfl⟩ | with_reducible exact ⟨by omega, rfl⟩))
  | ((with_reducible apply p_if); (· simp [so_t, so_k, so, setS_fr, setS_ob, newS_fr, newS_ob, refOf, kill_fr, kill_ob, init_fr, init_ob, mask_none, mask_some, upd_apply, killSV, killOb, *] <;> first | with_reducible exact rfl | with_reducible exact ⟨rfl, rfl⟩ | with_reducible exact ⟨by omega, rfl⟩))
  | ((with_reducible apply g_split); all_goals (intro hb; try simp only [decide_eq_true_eq, decide_eq_false_iff_not, Bool.not_eq_true] at hb))
  | ((with_reducible apply k_split); all_goals (intro hb; try simp only [decide_eq_true_eq, decide_eq_false_iff_not, Bool.not_eq_true] at hb)))
 all_goals simp [setS_fr, kill_fr, killSV, h1, h3, headT]
theorem evR5 {st : St} {b : Nat} {es : List CV} (h1 : st.fr 1 = .c (.wp [.int .u32 p, .int .i64 y, .sl nl es, .int .i64 a])) (h3 : st.fr 3 = .c (.adr b)) : pwp E scR5 (fun x st' => x = .normal ∧ LI b (.sl nl es) es.length 0 st') st := by
 unfold scR5
 repeat' (first
  | with_reducible apply p_seq
  | with_reducible apply then_normal
  | with_reducible apply then_exit
  | with_reducible apply then_ret
  | with_reducible apply block_normal
  | with_reducible apply block_exit
  | with_reducible apply block_ret
  | with_reducible apply turn_exit
  | with_reducible apply turn_ret
  | with_reducible apply p_skip
  | with_reducible apply p_exit
  | with_reducible apply p_ret
  | with_reducible apply p_block
  | with_reducible apply p_reg0
  | with_reducible apply p_reg1
  | with_reducible apply c_nil
  | with_reducible apply g_tt
  | with_reducible apply g_ff
  | with_reducible apply g_tf
  | with_reducible apply g_ft
  | with_reducible apply g_sk
  | with_reducible apply k_t
  | with_reducible apply k_f
  | ((with_reducible apply block_past); (· decide))
  | ((with_reducible apply c_mov); (· simp [valOp, so_t, so_k, so, setS_fr, setS_ob, newS_fr, newS_ob, refOf, kill_fr, kill_ob, init_fr, init_ob, mask_none, mask_some, upd_apply, killSV, killOb, *] <;> first | with_reducible exact rfl | with_reducible exact ⟨rfl, rfl⟩ | with_reducible exact ⟨by omega, rfl⟩))
  | ((with_reducible apply c_bin); (· simp [valOp, binC, binI, cmpB, binS, so_t, so_k, so, setS_fr, setS_ob, newS_fr, newS_ob, refOf, kill_fr, kill_ob, init_fr, init_ob, mask_none, mask_some, upd_apply, killSV, killOb, *] <;> first | with_reducible exact rfl | with_reducible exact ⟨rfl, rfl⟩ | with_reducible exact ⟨by omega, rfl⟩))
  | ((with_reducible apply c_un); (· simp [valOp, unC, so_t, so_k, so, setS_fr, setS_ob, newS_fr, newS_ob, refOf, kill_fr, kill_ob, init_fr, init_ob, mask_none, mask_some, upd_apply, killSV, killOb, *] <;> first | with_reducible exact rfl | with_reducible exact ⟨rfl, rfl⟩ | with_reducible exact ⟨by omega, rfl⟩))
  | ((with_reducible apply c_cvi); (· simp [valOp, so_t, so_k, so, setS_fr, setS_ob, newS_fr, newS_ob, refOf, kill_fr, kill_ob, init_fr, init_ob, mask_none, mask_some, upd_apply, killSV, killOb, *] <;> first | with_reducible exact rfl | with_reducible exact ⟨rfl, rfl⟩ | with_reducible exact ⟨by omega, rfl⟩))
  | ((with_reducible apply c_faddr); (· simp [valOp, so_t, so_k, so, setS_fr, setS_ob, newS_fr, newS_ob, refOf, kill_fr, kill_ob, init_fr, init_ob, mask_none, mask_some, upd_apply, killSV, killOb, *] <;> first | with_reducible exact rfl | with_reducible exact ⟨rfl, rfl⟩ | with_reducible exact ⟨by omega, rfl⟩))
  | ((with_reducible apply c_iaddr); (· simp [valOp, iaddrV, idxOf, cellsN, CV.cells, so_t, so_k, so, setS_fr, setS_ob, newS_fr, newS_ob, refOf, kill_fr, kill_ob, init_fr, init_ob, mask_none, mask_some, upd_apply, killSV, killOb, *] <;> first | with_reducible exact rfl | with_reducible exact ⟨rfl, rfl⟩ | with_reducible exact ⟨by omega, rfl⟩))
  | ((with_reducible apply c_load); (· simp [valOp, loadV, partC, allM, closed, CV.cells, so_t, so_k, so, setS_fr, setS_ob, newS_fr, newS_ob, refOf, kill_fr, kill_ob, init_fr, init_ob, mask_none, mask_some, upd_apply, killSV, killOb, *] <;> first | with_reducible exact rfl | with_reducible exact ⟨rfl, rfl⟩ | with_reducible exact ⟨by omega, rfl⟩))
  | ((with_reducible apply c_len); (· simp [valOp, lenV, so_t, so_k, so, setS_fr, setS_ob, newS_fr, newS_ob, refOf, kill_fr, kill_ob, init_fr, init_ob, mask_none, mask_some, upd_apply, killSV, killOb, *] <;> first | with_reducible exact rfl | with_reducible exact ⟨rfl, rfl⟩ | with_reducible exact ⟨by omega, rfl⟩))
  | ((with_reducible apply c_slice); (· simp [valOp, bound, cellsN, so_t, so_k, so, setS_fr, setS_ob, newS_fr, newS_ob, refOf, kill_fr, kill_ob, init_fr, init_ob, mask_none, mask_some, upd_apply, killSV, killOb, *] <;> first | with_reducible exact rfl | with_reducible exact ⟨rfl, rfl⟩ | with_reducible exact ⟨by omega, rfl⟩))
  | ((with_reducible apply c_call); (· simp [allM, close, so_t, so_k, so, setS_fr, setS_ob, newS_fr, newS_ob, refOf, kill_fr, kill_ob, init_fr, init_ob, mask_none, mask_some, upd_apply, killSV, killOb, *] <;> first | with_reducible exact rfl | with_reducible exact ⟨rfl, rfl⟩ | with_reducible exact ⟨by omega, rfl⟩); (· simp [so_t, so_k, so, setS_fr, setS_ob, newS_fr, newS_ob, refOf, kill_fr, kill_ob, init_fr, init_ob, mask_none, mask_some, upd_apply, killSV, killOb, *] <;> first | with_reducible exact rfl | with_reducible exact ⟨rfl, rfl⟩ | with_reducible exact ⟨by omega, rfl⟩); (· simp [isC, memless, memlessL, so_t, so_k, so, setS_fr, setS_ob, newS_fr, newS_ob, refOf, kill_fr, kill_ob, init_fr, init_ob, mask_none, mask_some, upd_apply, killSV, killOb, *]; done))
  | ((with_reducible apply c_callN); (· simp [allM, close, so_t, so_k, so, setS_fr, setS_ob, newS_fr, newS_ob, refOf, kill_fr, kill_ob, init_fr, init_ob, mask_none, mask_some, upd_apply, killSV, killOb, *] <;> first | with_reducible exact rfl | with_reducible exact ⟨rfl, rfl⟩ | with_reducible exact ⟨by omega, rfl⟩); (· simp [so_t, so_k, so, setS_fr, setS_ob, newS_fr, newS_ob, refOf, kill_fr, kill_ob, init_fr, init_ob, mask_none, mask_some, upd_apply, killSV, killOb, *] <;> first | with_reducible exact rfl | with_reducible exact ⟨rfl, rfl⟩ | with_reducible exact ⟨by omega, rfl⟩); (· simp [isC, Res.memless, memless, memlessL, so_t, so_k, so, setS_fr, setS_ob, newS_fr, newS_ob, refOf, kill_fr, kill_ob, init_fr, init_ob, mask_none, mask_some, upd_apply, killSV, killOb, *]; done); (· simp [so_t, so_k, so, setS_fr, setS_ob, newS_fr, newS_ob, refOf, kill_fr, kill_ob, init_fr, init_ob, mask_none, mask_some, upd_apply, killSV, killOb, *]; done))
  | ((with_reducible apply c_new); (· rfl); (· simp [newOp, allM, closed, cellsN, so_t, so_k, so, setS_fr, setS_ob, newS_fr, newS_ob, refOf, kill_fr, kill_ob, init_fr, init_ob, mask_none, mask_some, upd_apply, killSV, killOb, *] <;> first | with_reducible exact rfl | with_reducible exact ⟨rfl, rfl⟩ | with_reducible exact ⟨by omega, rfl⟩); (· simp [so_t, so_k, so, setS_fr, setS_ob, newS_fr, newS_ob, refOf, kill_fr, kill_ob, init_fr, init_ob, mask_none, mask_some, upd_apply, killSV, killOb, *]; done))
  | ((with_reducible apply c_eff); (· rfl); (· simp [effOp, setCells, oneS, oneC, St.set, newsOf, putC, cellsN, CV.cells, so_t, so_k, so, setS_fr, setS_ob, newS_fr, newS_ob, refOf, kill_fr, kill_ob, init_fr, init_ob, mask_none, mask_some, upd_apply, killSV, killOb, *] <;> first | with_reducible exact rfl | with_reducible exact ⟨rfl, rfl⟩ | with_reducible exact ⟨by omega, rfl⟩))
  | ((with_reducible apply c_guard); (· simp [so_t, so_k, so, setS_fr, setS_ob, newS_fr, newS_ob, refOf, kill_fr, kill_ob, init_fr, init_ob, mask_none, mask_some, upd_apply, killSV, killOb, *] <;> first | with_reducible exact rfl | with_reducible exact ⟨rfl, rfl⟩ | with_reducible exact ⟨by omega, rfl⟩))
  | ((with_reducible apply p_if); (· simp [so_t, so_k, so, setS_fr, setS_ob, newS_fr, newS_ob, refOf, kill_fr, kill_ob, init_fr, init_ob, mask_none, mask_some, upd_apply, killSV, killOb, *] <;> first | with_reducible exact rfl | with_reducible exact ⟨rfl, rfl⟩ | with_reducible exact ⟨by omega, rfl⟩))
  | ((with_reducible apply g_split); all_goals (intro hb; try simp only [decide_eq_true_eq, decide_eq_false_iff_not, Bool.not_eq_true] at hb))
  | ((with_reducible apply k_split); all_goals (intro hb; try simp only [decide_eq_true_eq, decide_eq_false_iff_not, Bool.not_eq_true] at hb)))
 all_goals (refine ⟨rfl, ?_, ?_, ?_, ?_⟩ <;> simp [setS_fr, h1, h3])
theorem evR6 {st : St} {b : Nat} {cv : CV} {len i : Int} (h : LI b cv len i st) : pwp E scR6 (fun x st' => x = .normal ∧ LI b cv len i st' ∧ st'.fr 30 = .c (.bool (decide (i < len)))) st := by
 obtain ⟨h1, h2, h3, h4⟩ := h
 unfold scR6
 repeat' (first
  | with_reducible apply p_seq
  | with_reducible apply then_normal
  | with_reducible apply then_exit
  | with_reducible apply then_ret
  | with_reducible apply block_normal
  | with_reducible apply block_exit
  | with_reducible apply block_ret
  | with_reducible apply turn_exit
  | with_reducible apply turn_ret
  | with_reducible apply p_skip
  | with_reducible apply p_exit
  | with_reducible apply p_ret
  | with_reducible apply p_block
  | with_reducible apply p_reg0
  | with_reducible apply p_reg1
  | with_reducible apply c_nil
  | with_reducible apply g_tt
  | with_reducible apply g_ff
  | with_reducible apply g_tf
  | with_reducible apply g_ft
  | with_reducible apply g_sk
  | with_reducible apply k_t
  | with_reducible apply k_f
  | ((with_reducible apply block_past); (· decide))
  | ((with_reducible apply c_mov); (· simp [valOp, so_t, so_k, so, setS_fr, setS_ob, newS_fr, newS_ob, refOf, kill_fr, kill_ob, init_fr, init_ob, mask_none, mask_some, upd_apply, killSV, killOb, *] <;> first | with_reducible exact rfl | with_reducible exact ⟨rfl, rfl⟩ | with_reducible exact ⟨by omega, rfl⟩))
  | ((with_reducible apply c_bin); (· simp [valOp, binC, binI, cmpB, binS, so_t, so_k, so, setS_fr, setS_ob, newS_fr, newS_ob, refOf, kill_fr, kill_ob, init_fr, init_ob, mask_none, mask_some, upd_apply, killSV, killOb, *] <;> first | with_reducible exact rfl | with_reducible exact ⟨rfl, rfl⟩ | with_reducible exact ⟨by omega, rfl⟩))
  | ((with_reducible apply c_un); (· simp [valOp, unC, so_t, so_k, so, setS_fr, setS_ob, newS_fr, newS_ob, refOf, kill_fr, kill_ob, init_fr, init_ob, mask_none, mask_some, upd_apply, killSV, killOb, *] <;> first | with_reducible exact rfl | with_reducible exact ⟨rfl, rfl⟩ | with_reducible exact ⟨by omega, rfl⟩))
  | ((with_reducible apply c_cvi); (· simp [valOp, so_t, so_k, so, setS_fr, setS_ob, newS_fr, newS_ob, refOf, kill_fr, kill_ob, init_fr, init_ob, mask_none, mask_some, upd_apply, killSV, killOb, *] <;> first | with_reducible exact rfl | with_reducible exact ⟨rfl, rfl⟩ | with_reducible exact ⟨by omega, rfl⟩))
  | ((with_reducible apply c_faddr); (· simp [valOp, so_t, so_k, so, setS_fr, setS_ob, newS_fr, newS_ob, refOf, kill_fr, kill_ob, init_fr, init_ob, mask_none, mask_some, upd_apply, killSV, killOb, *] <;> first | with_reducible exact rfl | with_reducible exact ⟨rfl, rfl⟩ | with_reducible exact ⟨by omega, rfl⟩))
  | ((with_reducible apply c_iaddr); (· simp [valOp, iaddrV, idxOf, cellsN, CV.cells, so_t, so_k, so, setS_fr, setS_ob, newS_fr, newS_ob, refOf, kill_fr, kill_ob, init_fr, init_ob, mask_none, mask_some, upd_apply, killSV, killOb, *] <;> first | with_reducible exact rfl | with_reducible exact ⟨rfl, rfl⟩ | with_reducible exact ⟨by omega, rfl⟩))
  | ((with_reducible apply c_load); (· simp [valOp, loadV, partC, allM, closed, CV.cells, so_t, so_k, so, setS_fr, setS_ob, newS_fr, newS_ob, refOf, kill_fr, kill_ob, init_fr, init_ob, mask_none, mask_some, upd_apply, killSV, killOb, *] <;> first | with_reducible exact rfl | with_reducible exact ⟨rfl, rfl⟩ | with_reducible exact ⟨by omega, rfl⟩))
  | ((with_reducible apply c_len); (· simp [valOp, lenV, so_t, so_k, so, setS_fr, setS_ob, newS_fr, newS_ob, refOf, kill_fr, kill_ob, init_fr, init_ob, mask_none, mask_some, upd_apply, killSV, killOb, *] <;> first | with_reducible exact rfl | with_reducible exact ⟨rfl, rfl⟩ | with_reducible exact ⟨by omega, rfl⟩))
  | ((with_reducible apply c_slice); (· simp [valOp, bound, cellsN, so_t, so_k, so, setS_fr, setS_ob, newS_fr, newS_ob, refOf, kill_fr, kill_ob, init_fr, init_ob, mask_none, mask_some, upd_apply, killSV, killOb, *] <;> first | with_reducible exact rfl | with_reducible exact ⟨rfl, rfl⟩ | with_reducible exact ⟨by omega, rfl⟩))
  | ((with_reducible apply c_call); (· simp [allM, close, so_t, so_k, so, setS_fr, setS_ob, newS_fr, newS_ob, refOf, kill_fr, kill_ob, init_fr, init_ob, mask_none, mask_some, upd_apply, killSV, killOb, *] <;> first | with_reducible exact rfl | with_reducible exact ⟨rfl, rfl⟩ | with_reducible exact ⟨by omega, rfl⟩); (· simp [so_t, so_k, so, setS_fr, setS_ob, newS_fr, newS_ob, refOf, kill_fr, kill_ob, init_fr, init_ob, mask_none, mask_some, upd_apply, killSV, killOb, *] <;> first | with_reducible exact rfl | with_reducible exact ⟨rfl, rfl⟩ | with_reducible exact ⟨by omega, rfl⟩); (· simp [isC, memless, memlessL, so_t, so_k, so, setS_fr, setS_ob, newS_fr, newS_ob, refOf, kill_fr, kill_ob, init_fr, init_ob, mask_none, mask_some, upd_apply, killSV, killOb, *]; done))
  | ((with_reducible apply c_callN); (· simp [allM, close, so_t, so_k, so, setS_fr, setS_ob, newS_fr, newS_ob, refOf, kill_fr, kill_ob, init_fr, init_ob, mask_none, mask_some, upd_apply, killSV, killOb, *] <;> first | with_reducible exact rfl | with_reducible exact ⟨rfl, rfl⟩ | with_reducible exact ⟨by omega, rfl⟩); (· simp [so_t, so_k, so, setS_fr, setS_ob, newS_fr, newS_ob, refOf, kill_fr, kill_ob, init_fr, init_ob, mask_none, mask_some, upd_apply, killSV, killOb, *] <;> first | with_reducible exact rfl | with_reducible exact ⟨rfl, rfl⟩ | with_reducible exact ⟨by omega, rfl⟩); (· simp [isC, Res.memless, memless, memlessL, so_t, so_k, so, setS_fr, setS_ob, newS_fr, newS_ob, refOf, kill_fr, kill_ob, init_fr, init_ob, mask_none, mask_some, upd_apply, killSV, killOb, *]; done); (· simp [so_t, so_k, so, setS_fr, setS_ob, newS_fr, newS_ob, refOf, kill_fr, kill_ob, init_fr, init_ob, mask_none, mask_some, upd_apply, killSV, killOb, *]; done))
  | ((with_reducible apply c_new); (· rfl); (· simp [newOp, allM, closed, cellsN, so_t, so_k, so, setS_fr, setS_ob, newS_fr, newS_ob, refOf, kill_fr, kill_ob, init_fr, init_ob, mask_none, mask_some, upd_apply, killSV, killOb, *] <;> first | with_reducible exact rfl | with_reducible exact ⟨rfl, rfl⟩ | with_reducible exact ⟨by omega, rfl⟩); (· simp [so_t, so_k, so, setS_fr, setS_ob, newS_fr, newS_ob, refOf, kill_fr, kill_ob, init_fr, init_ob, mask_none, mask_some, upd_apply, killSV, killOb, *]; done))
  | ((with_reducible apply c_eff); (· rfl); (· simp [effOp, setCells, oneS, oneC, St.set, newsOf, putC, cellsN, CV.cells, so_t, so_k, so, setS_fr, setS_ob, newS_fr, newS_ob, refOf, kill_fr, kill_ob, init_fr, init_ob, mask_none, mask_some, upd_apply, killSV, killOb, *] <;> first | with_reducible exact rfl | with_reducible exact ⟨rfl, rfl⟩ | with_reducible exact ⟨by omega, rfl⟩))
  | ((with_reducible apply c_guard); (· simp [so_t, so_k, so, setS_fr, setS_ob, newS_fr, newS_ob, refOf, kill_fr, kill_ob, init_fr, init_ob, mask_none, mask_some, upd_apply, killSV, killOb, *] <;> first | with_reducible exact rfl | with_reducible exact ⟨rfl, rfl⟩ | with_reducible exact ⟨by omega, rfl⟩))
  | ((with_reducible apply p_if); (· simp [so_t, so_k, so, setS_fr, setS_ob, newS_fr, newS_ob, refOf, kill_fr, kill_ob, init_fr, init_ob, mask_none, mask_some, upd_apply, killSV, killOb, *] <;> first | with_reducible exact rfl | with_reducible exact ⟨rfl, rfl⟩ | with_reducible exact ⟨by omega, rfl⟩))
  | ((with_reducible apply g_split); all_goals (intro hb; try simp only [decide_eq_true_eq, decide_eq_false_iff_not, Bool.not_eq_true] at hb))
  | ((with_reducible apply k_split); all_goals (intro hb; try simp only [decide_eq_true_eq, decide_eq_false_iff_not, Bool.not_eq_true] at hb)))
 all_goals (refine ⟨rfl, ⟨?_, ?_, ?_, ?_⟩, ?_⟩ <;> simp [setS_fr, h1, h2, h3, h4])
theorem evR9 {st : St} {b : Nat} {cv : CV} {len i : Int} (h : LI b cv len i st) (hi : IntKind.i64.wrap (i + 1) = i + 1) : pwp E scR9 (fun x st' => x = .normal ∧ LI b cv len (i + 1) st') st := by
 obtain ⟨h1, h2, h3, h4⟩ := h
 unfold scR9
 repeat' (first
  | with_reducible apply p_seq
  | with_reducible apply then_normal
  | with_reducible apply then_exit
  | with_reducible apply then_ret
  | with_reducible apply block_normal
  | with_reducible apply block_exit
  | with_reducible apply block_ret
  | with_reducible apply turn_exit
  | with_reducible apply turn_ret
  | with_reducible apply p_skip
  | with_reducible apply p_exit
  | with_reducible apply p_ret
  | with_reducible apply p_block
  | with_reducible apply p_reg0
  | with_reducible apply p_reg1
  | with_reducible apply c_nil
  | with_reducible apply g_tt
  | with_reducible apply g_ff
  | with_reducible apply g_tf
  | with_reducible apply g_ft
  | with_reducible apply g_sk
  | with_reducible apply k_t
  | with_reducible apply k_f
  | ((with_reducible apply block_past); (· decide))
  | ((with_reducible apply c_mov); (· simp [valOp, so_t, so_k, so, setS_fr, setS_ob, newS_fr, newS_ob, refOf, kill_fr, kill_ob, init_fr, init_ob, mask_none, mask_some, upd_apply, killSV, killOb, *] <;> first | with_reducible exact rfl | with_reducible exact ⟨rfl, rfl⟩ | with_reducible exact ⟨by omega, rfl⟩))
  | ((with_reducible apply c_bin); (· simp [valOp, binC, binI, cmpB, binS, so_t, so_k, so, setS_fr, setS_ob, newS_fr, newS_ob, refOf, kill_fr, kill_ob, init_fr, init_ob, mask_none, mask_some, upd_apply, killSV, killOb, *] <;> first | with_reducible exact rfl | with_reducible exact ⟨rfl, rfl⟩ | with_reducible exact ⟨by omega, rfl⟩))
  | ((with_reducible apply c_un); (· simp [valOp, unC, so_t, so_k, so, setS_fr, setS_ob, newS_fr, newS_ob, refOf, kill_fr, kill_ob, init_fr, init_ob, mask_none, mask_some, upd_apply, killSV, killOb, *] <;> first | with_reducible exact rfl | with_reducible exact ⟨rfl, rfl⟩ | with_reducible exact ⟨by omega, rfl⟩))
  | ((with_reducible apply c_cvi); (· simp [valOp, so_t, so_k, so, setS_fr, setS_ob, newS_fr, newS_ob, refOf, kill_fr, kill_ob, init_fr, init_ob, mask_none, mask_some, upd_apply, killSV, killOb, *] <;> first | with_reducible exact rfl | with_reducible exact ⟨rfl, rfl⟩ | with_reducible exact ⟨by omega, rfl⟩))
  | ((with_reducible apply c_faddr); (· simp [valOp, so_t, so_k, so, setS_fr, setS_ob, newS_fr, newS_ob, refOf, kill_fr, kill_ob, init_fr, init_ob, mask_none, mask_some, upd_apply, killSV, killOb, *] <;> first | with_reducible exact rfl | with_reducible exact ⟨rfl, rfl⟩ | with_reducible exact ⟨by omega, rfl⟩))
  | ((with_reducible apply c_iaddr); (· simp [valOp, iaddrV, idxOf, cellsN, CV.cells, so_t, so_k, so, setS_fr, setS_ob, newS_fr, newS_ob, refOf, kill_fr, kill_ob, init_fr, init_ob, mask_none, mask_some, upd_apply, killSV, killOb, *] <;> first | with_reducible exact rfl | with_reducible exact ⟨rfl, rfl⟩ | with_reducible exact ⟨by omega, rfl⟩))
  | ((with_reducible apply c_load); (· simp [valOp, loadV, partC, allM, closed, CV.cells, so_t, so_k, so, setS_fr, setS_ob, newS_fr, newS_ob, refOf, kill_fr, kill_ob, init_fr, init_ob, mask_none, mask_some, upd_apply, killSV, killOb, *] <;> first | with_reducible exact rfl | with_reducible exact ⟨rfl, rfl⟩ | with_reducible exact ⟨by omega, rfl⟩))
  | ((with_reducible apply c_len); (· simp [valOp, lenV, so_t, so_k, so, setS_fr, setS_ob, newS_fr, newS_ob, refOf, kill_fr, kill_ob, init_fr, init_ob, mask_none, mask_some, upd_apply, killSV, killOb, *] <;> first | with_reducible exact rfl | with_reducible exact ⟨rfl, rfl⟩ | with_reducible exact ⟨by omega, rfl⟩))
  | ((with_reducible apply c_slice); (· simp [valOp, bound, cellsN, so_t, so_k, so, setS_fr, setS_ob, newS_fr, newS_ob, refOf, kill_fr, kill_ob, init_fr, init_ob, mask_none, mask_some, upd_apply, killSV, killOb, *] <;> first | with_reducible exact rfl | with_reducible exact ⟨rfl, rfl⟩ | with_reducible exact ⟨by omega, rfl⟩))
  | ((with_reducible apply c_call); (· simp [allM, close, so_t, so_k, so, setS_fr, setS_ob, newS_fr, newS_ob, refOf, kill_fr, kill_ob, init_fr, init_ob, mask_none, mask_some, upd_apply, killSV, killOb, *] <;> first | with_reducible exact rfl | with_reducible exact ⟨rfl, rfl⟩ | with_reducible exact ⟨by omega, rfl⟩); (· simp [so_t, so_k, so, setS_fr, setS_ob, newS_fr, newS_ob, refOf, kill_fr, kill_ob, init_fr, init_ob, mask_none, mask_some, upd_apply, killSV, killOb, *] <;> first | with_reducible exact rfl | with_reducible exact ⟨rfl, rfl⟩ | with_reducible exact ⟨by omega, rfl⟩); (· simp [isC, memless, memlessL, so_t, so_k, so, setS_fr, setS_ob, newS_fr, newS_ob, refOf, kill_fr, kill_ob, init_fr, init_ob, mask_none, mask_some, upd_apply, killSV, killOb, *]; done))
  | ((with_reducible apply c_callN); (· simp [allM, close, so_t, so_k, so, setS_fr, setS_ob, newS_fr, newS_ob, refOf, kill_fr, kill_ob, init_fr, init_ob, mask_none, mask_some, upd_apply, killSV, killOb, *] <;> first | with_reducible exact rfl | with_reducible exact ⟨rfl, rfl⟩ | with_reducible exact ⟨by omega, rfl⟩); (· simp [so_t, so_k, so, setS_fr, setS_ob, newS_fr, newS_ob, refOf, kill_fr, kill_ob, init_fr, init_ob, mask_none, mask_some, upd_apply, killSV, killOb, *] <;> first | with_reducible exact rfl | with_reducible exact ⟨rfl, rfl⟩ | with_reducible exact ⟨by omega, rfl⟩); (· simp [isC, Res.memless, memless, memlessL, so_t, so_k, so, setS_fr, setS_ob, newS_fr, newS_ob, refOf, kill_fr, kill_ob, init_fr, init_ob, mask_none, mask_some, upd_apply, killSV, killOb, *]; done); (· simp [so_t, so_k, so, setS_fr, setS_ob, newS_fr, newS_ob, refOf, kill_fr, kill_ob, init_fr, init_ob, mask_none, mask_some, upd_apply, killSV, killOb, *]; done))
  | ((with_reducible apply c_new); (· rfl); (· simp [newOp, allM, closed, cellsN, so_t, so_k, so, setS_fr, setS_ob, newS_fr, newS_ob, refOf, kill_fr, kill_ob, init_fr, init_ob, mask_none, mask_some, upd_apply, killSV, killOb, *] <;> first | with_reducible exact rfl | with_reducible exact ⟨rfl, rfl⟩ | with_reducible exact ⟨by omega, rfl⟩); (· simp [so_t, so_k, so, setS_fr, setS_ob, newS_fr, newS_ob, refOf, kill_fr, kill_ob, init_fr, init_ob, mask_none, mask_some, upd_apply, killSV, killOb, *]; done))
  | ((with_reducible apply c_eff); (· rfl); (· simp [effOp, setCells, oneS, oneC, St.set, newsOf, putC, cellsN, CV.cells, so_t, so_k, so, setS_fr, setS_ob, newS_fr, newS_ob, refOf, kill_fr, kill_ob, init_fr, init_ob, mask_none, mask_some, upd_apply, killSV, killOb, *] <;> first | with_reducible exact rfl | with_reducible exact ⟨rfl, rfl⟩ | with_reducible exact ⟨by omega, rfl⟩))
  | ((with_reducible apply c_guard); (· simp [so_t, so_k, so, setS_fr, setS_ob, newS_fr, newS_ob, refOf, kill_fr, kill_ob, init_fr, init_ob, mask_none, mask_some, upd_apply, killSV, killOb, *] <;> first | with_reducible exact rfl | with_reducible exact ⟨rfl, rfl⟩ | with_reducible exact ⟨by omega, rfl⟩))
  | ((with_reducible apply p_if); (· simp [so_t, so_k, so, setS_fr, setS_ob, newS_fr, newS_ob, refOf, kill_fr, kill_ob, init_fr, init_ob, mask_none, mask_some, upd_apply, killSV, killOb, *] <;> first | with_reducible exact rfl | with_reducible exact ⟨rfl, rfl⟩ | with_reducible exact ⟨by omega, rfl⟩))
  | ((with_reducible apply g_split); all_goals (intro hb; try simp only [decide_eq_true_eq, decide_eq_false_iff_not, Bool.not_eq_true] at hb))
  | ((with_reducible apply k_split); all_goals (intro hb; try simp only [decide_eq_true_eq, decide_eq_false_iff_not, Bool.not_eq_true] at hb)))
 all_goals (refine ⟨rfl, ?_, ?_, ?_, ?_⟩ <;> simp [setS_fr, h1, h2, h3, h4, hi])
theorem evR7 {st : St} {b : Nat} {es : List CV} {len : Int} {i : Nat} {c : List UInt8} {v : Int} (h : LI b (.sl nl es) len i st) (hi : es[i]? = some (.agg [.str c, .int .i64 v])) :
  pwp E scR7 (fun x st' => x = .normal ∧ LI b (.sl nl es) len i st' ∧ st'.fr 5 = .ptr 5 0 ∧ st'.ob 5 = .box [.c (.str c), .c (.int .i64 v)]) st := by
 obtain ⟨h1, h2, h3, h4⟩ := h
 have hlt : i < es.length := (List.getElem?_eq_some_iff.1 hi).1
 have hidx : idxOf (i : Int) es.length = some i := by
  unfold idxOf
  rw [if_pos ⟨by omega, by omega⟩]
  simp
 have hia : iaddrV (mask none (kill [5] st).ob) 2 (.c (.sl nl es)) (.c (.int .i64 i)) = some (.c (.rp [.str c, .int .i64 v])) := by
  simp [iaddrV, hidx, hi, cellsN, CV.cells]
 unfold scR7
 refine p_reg1 ?_
 refine c_iaddr (v := .c (.rp [.str c, .int .i64 v])) ?_ ?_
 ·show iaddrV _ 2 (killSV [5] (st.fr 27)) (killSV [5] (st.fr 29)) = _
  rw [h2, h4]
  exact hia
 repeat' (first
  | with_reducible apply p_seq
  | with_reducible apply then_normal
  | with_reducible apply then_exit
  | with_reducible apply then_ret
  | with_reducible apply block_normal
  | with_reducible apply block_exit
  | with_reducible apply block_ret
  | with_reducible apply turn_exit
  | with_reducible apply turn_ret
  | with_reducible apply p_skip
  | with_reducible apply p_exit
  | with_reducible apply p_ret
  | with_reducible apply p_block
  | with_reducible apply p_reg0
  | with_reducible apply p_reg1
  | with_reducible apply c_nil
  | with_reducible apply g_tt
  | with_reducible apply g_ff
  | with_reducible apply g_tf
  | with_reducible apply g_ft
  | with_reducible apply g_sk
  | with_reducible apply k_t
  | with_reducible apply k_f
  | ((with_reducible apply block_past); (· decide))
  | ((with_reducible apply c_mov); (· simp [valOp, so_t, so_k, so, setS_fr, setS_ob, newS_fr, newS_ob, refOf, kill_fr, kill_ob, init_fr, init_ob, mask_none, mask_some, upd_apply, killSV, killOb, *] <;> first | with_reducible exact rfl | with_reducible exact ⟨rfl, rfl⟩ | with_reducible exact ⟨by omega, rfl⟩))
  | ((with_reducible apply c_bin); (· simp [valOp, binC, binI, cmpB, binS, so_t, so_k, so, setS_fr, setS_ob, newS_fr, newS_ob, refOf, kill_fr, kill_ob, init_fr, init_ob, mask_none, mask_some, upd_apply, killSV, killOb, *] <;> first | with_reducible exact rfl | with_reducible exact ⟨rfl, rfl⟩ | with_reducible exact ⟨by omega, rfl⟩))
  | ((with_reducible apply c_un); (· simp [valOp, unC, so_t, so_k, so, setS_fr, setS_ob, newS_fr, newS_ob, refOf, kill_fr, kill_ob, init_fr, init_ob, mask_none, mask_some, upd_apply, killSV, killOb, *] <;> first | with_reducible exact rfl | with_reducible exact ⟨rfl, rfl⟩ | with_reducible exact ⟨by omega, rfl⟩))
  | ((with_reducible apply c_cvi); (· simp [valOp, so_t, so_k, so, setS_fr, setS_ob, newS_fr, newS_ob, refOf, kill_fr, kill_ob, init_fr, init_ob, mask_none, mask_some, upd_apply, killSV, killOb, *] <;> first | with_reducible exact rfl | with_reducible exact ⟨rfl, rfl⟩ | with_reducible exact ⟨by omega, rfl⟩))
  | ((with_reducible apply c_faddr); (· simp [valOp, so_t, so_k, so, setS_fr, setS_ob, newS_fr, newS_ob, refOf, kill_fr, kill_ob, init_fr, init_ob, mask_none, mask_some, upd_apply, killSV, killOb, *] <;> first | with_reducible exact rfl | with_reducible exact ⟨rfl, rfl⟩ | with_reducible exact ⟨by omega, rfl⟩))
  | ((with_reducible apply c_iaddr); (· simp [valOp, iaddrV, idxOf, cellsN, CV.cells, so_t, so_k, so, setS_fr, setS_ob, newS_fr, newS_ob, refOf, kill_fr, kill_ob, init_fr, init_ob, mask_none, mask_some, upd_apply, killSV, killOb, *] <;> first | with_reducible exact rfl | with_reducible exact ⟨rfl, rfl⟩ | with_reducible exact ⟨by omega, rfl⟩))
  | ((with_reducible apply c_load); (· simp [valOp, loadV, partC, allM, closed, CV.cells, so_t, so_k, so, setS_fr, setS_ob, newS_fr, newS_ob, refOf, kill_fr, kill_ob, init_fr, init_ob, mask_none, mask_some, upd_apply, killSV, killOb, *] <;> first | with_reducible exact rfl | with_reducible exact ⟨rfl, rfl⟩ | with_reducible exact ⟨by omega, rfl⟩))
  | ((with_reducible apply c_len); (· simp [valOp, lenV, so_t, so_k, so, setS_fr, setS_ob, newS_fr, newS_ob, refOf, kill_fr, kill_ob, init_fr, init_ob, mask_none, mask_some, upd_apply, killSV, killOb, *] <;> first | with_reducible exact rfl | with_reducible exact ⟨rfl, rfl⟩ | with_reducible exact ⟨by omega, rfl⟩))
  | ((with_reducible apply c_slice); (· simp [valOp, bound, cellsN, so_t, so_k, so, setS_fr, setS_ob, newS_fr, newS_ob, refOf, kill_fr, kill_ob, init_fr, init_ob, mask_none, mask_some, upd_apply, killSV, killOb, *] <;> first | with_reducible exact rfl | with_reducible exact ⟨rfl, rfl⟩ | with_reducible exact ⟨by omega, rfl⟩))
  | ((with_reducible apply c_call); (· simp [allM, close, so_t, so_k, so, setS_fr, setS_ob, newS_fr, newS_ob, refOf, kill_fr, kill_ob, init_fr, init_ob, mask_none, mask_some, upd_apply, killSV, killOb, *] <;> first | with_reducible exact rfl | with_reducible exact ⟨rfl, rfl⟩ | with_reducible exact ⟨by omega, rfl⟩); (· simp [so_t, so_k, so, setS_fr, setS_ob, newS_fr, newS_ob, refOf, kill_fr, kill_ob, init_fr, init_ob, mask_none, mask_some, upd_apply, killSV, killOb, *] <;> first | with_reducible exact rfl | with_reducible exact ⟨rfl, rfl⟩ | with_reducible exact ⟨by omega, rfl⟩); (· simp [isC, memless, memlessL, so_t, so_k, so, setS_fr, setS_ob, newS_fr, newS_ob, refOf, kill_fr, kill_ob, init_fr, init_ob, mask_none, mask_some, upd_apply, killSV, killOb, *]; done))
  | ((with_reducible apply c_callN); (· simp [allM, close, so_t, so_k, so, setS_fr, setS_ob, newS_fr, newS_ob, refOf, kill_fr, kill_ob, init_fr, init_ob, mask_none, mask_some, upd_apply, killSV, killOb, *] <;> first | with_reducible exact rfl | with_reducible exact ⟨rfl, rfl⟩ | with_reducible exact ⟨by omega, rfl⟩); (· simp [so_t, so_k, so, setS_fr, setS_ob, newS_fr, newS_ob, refOf, kill_fr, kill_ob, init_fr, init_ob, mask_none, mask_some, upd_apply, killSV, killOb, *] <;> first | with_reducible exact rfl | with_reducible exact ⟨rfl, rfl⟩ | with_reducible exact ⟨by omega, rfl⟩); (· simp [isC, Res.memless, memless, memlessL, so_t, so_k, so, setS_fr, setS_ob, newS_fr, newS_ob, refOf, kill_fr, kill_ob, init_fr, init_ob, mask_none, mask_some, upd_apply, killSV, killOb, *]; done); (· simp [so_t, so_k, so, setS_fr, setS_ob, newS_fr, newS_ob, refOf, kill_fr, kill_ob, init_fr, init_ob, mask_none, mask_some, upd_apply, killSV, killOb, *]; done))
  | ((with_reducible apply c_new); (· rfl); (· simp [newOp, allM, closed, cellsN, so_t, so_k, so, setS_fr, setS_ob, newS_fr, newS_ob, refOf, kill_fr, kill_ob, init_fr, init_ob, mask_none, mask_some, upd_apply, killSV, killOb, *] <;> first | with_reducible exact rfl | with_reducible exact ⟨rfl, rfl⟩ | with_reducible exact ⟨by omega, rfl⟩); (· simp [so_t, so_k, so, setS_fr, setS_ob, newS_fr, newS_ob, refOf, kill_fr, kill_ob, init_fr, init_ob, mask_none, mask_some, upd_apply, killSV, killOb, *]; done))
  | ((with_reducible apply c_eff); (· rfl); (· simp [effOp, setCells, oneS, oneC, St.set, newsOf, putC, cellsN, CV.cells, so_t, so_k, so, setS_fr, setS_ob, newS_fr, newS_ob, refOf, kill_fr, kill_ob, init_fr, init_ob, mask_none, mask_some, upd_apply, killSV, killOb, *] <;> first | with_reducible exact rfl | with_reducible exact ⟨rfl, rfl⟩ | with_reducible exact ⟨by omega, rfl⟩))
  | ((with_reducible apply c_guard); (· simp [so_t, so_k, so, setS_fr, setS_ob, newS_fr, newS_ob, refOf, kill_fr, kill_ob, init_fr, init_ob, mask_none, mask_some, upd_apply, killSV, killOb, *] <;> first | with_reducible exact rfl | with_reducible exact ⟨rfl, rfl⟩ | with_reducible exact ⟨by omega, rfl⟩))
  | ((with_reducible apply p_if); (· simp [so_t, so_k, so, setS_fr, setS_ob, newS_fr, newS_ob, refOf, kill_fr, kill_ob, init_fr, init_ob, mask_none, mask_some, upd_apply, killSV, killOb, *] <;> first | with_reducible exact rfl | with_reducible exact ⟨rfl, rfl⟩ | with_reducible exact ⟨by omega, rfl⟩))
  | ((with_reducible apply g_split); all_goals (intro hb; try simp only [decide_eq_true_eq, decide_eq_false_iff_not, Bool.not_eq_true] at hb))
  | ((with_reducible apply k_split); all_goals (intro hb; try simp only [decide_eq_true_eq, decide_eq_false_iff_not, Bool.not_eq_true] at hb)))
 all_goals (refine ⟨rfl, ⟨?_, ?_, ?_, ?_⟩, ?_, ?_⟩ <;> simp [setS_fr, newS_fr, newS_ob, kill_fr, killSV, upd_apply, setCells, h1, h2, h3, h4])
theorem evR8 {st : St} {b : Nat} {cv : CV} {len i : Int} {c t : List UInt8} {v : Int} (h : LI b cv len i st) (h5 : st.fr 5 = .ptr 5 0) (ho : st.ob 5 = .box [.c (.str c), .c (.int .i64 v)]) (hC : E.fn 18 [.int .i64 v] = some (.val (.str t))) (hlen : (itemT c t).length ≤ 140737488355328) :
  pLs E (some [38, 41]) lsR8 (fun st' => LI b cv len i st' ∧ st'.fr 40 = .c (.str (itemT c t))) (kill [38, 41] st) := by
 obtain ⟨h1, h2, h3, h4⟩ := h
 simp only [itemT, List.length_append, List.length_cons, List.length_nil] at hlen
 unfold lsR8
 repeat' (first
  | with_reducible apply p_seq
  | with_reducible apply then_normal
  | with_reducible apply then_exit
  | with_reducible apply then_ret
  | with_reducible apply block_normal
  | with_reducible apply block_exit
  | with_reducible apply block_ret
  | with_reducible apply turn_exit
  | with_reducible apply turn_ret
  | with_reducible apply p_skip
  | with_reducible apply p_exit
  | with_reducible apply p_ret
  | with_reducible apply p_block
  | with_reducible apply p_reg0
  | with_reducible apply p_reg1
  | with_reducible apply c_nil
  | with_reducible apply g_tt
  | with_reducible apply g_ff
  | with_reducible apply g_tf
  | with_reducible apply g_ft
  | with_reducible apply g_sk
  | with_reducible apply k_t
  | with_reducible apply k_f
  | ((with_reducible apply block_past); (· decide))
  | ((with_reducible apply c_mov); (· simp [valOp, so_t, so_k, so, setS_fr, setS_ob, newS_fr, newS_ob, refOf, kill_fr, kill_ob, init_fr, init_ob, mask_none, mask_some, upd_apply, killSV, killOb, *] <;> first | with_reducible exact rfl | with_reducible exact ⟨rfl, rfl⟩ | with_reducible exact ⟨by omega, rfl⟩))
  | ((with_reducible apply c_bin); (· simp [valOp, binC, binI, cmpB, binS, so_t, so_k, so, setS_fr, setS_ob, newS_fr, newS_ob, refOf, kill_fr, kill_ob, init_fr, init_ob, mask_none, mask_some, upd_apply, killSV, killOb, *] <;> first | with_reducible exact rfl | with_reducible exact ⟨rfl, rfl⟩ | with_reducible exact ⟨by omega, rfl⟩))
  | ((with_reducible apply c_un); (· simp [valOp, unC, so_t, so_k, so, setS_fr, setS_ob, newS_fr, newS_ob, refOf, kill_fr, kill_ob, init_fr, init_ob, mask_none, mask_some, upd_apply, killSV, killOb, *] <;> first | with_reducible exact rfl | with_reducible exact ⟨rfl, rfl⟩ | with_reducible exact ⟨by omega, rfl⟩))
  | ((with_reducible apply c_cvi); (· simp [valOp, so_t, so_k, so, setS_fr, setS_ob, newS_fr, newS_ob, refOf, kill_fr, kill_ob, init_fr, init_ob, mask_none, mask_some, upd_apply, killSV, killOb, *] <;> first | with_reducible exact rfl | with_reducible exact ⟨rfl, rfl⟩ | with_reducible exact ⟨by omega, rfl⟩))
  | ((with_reducible apply c_faddr); (· simp [valOp, so_t, so_k, so, setS_fr, setS_ob, newS_fr, newS_ob, refOf, kill_fr, kill_ob, init_fr, init_ob, mask_none, mask_some, upd_apply, killSV, killOb, *] <;> first | with_reducible exact rfl | with_reducible exact ⟨rfl, rfl⟩ | with_reducible exact ⟨by omega, rfl⟩))
  | ((with_reducible apply c_iaddr); (· simp [valOp, iaddrV, idxOf, cellsN, CV.cells, so_t, so_k, so, setS_fr, setS_ob, newS_fr, newS_ob, refOf, kill_fr, kill_ob, init_fr, init_ob, mask_none, mask_some, upd_apply, killSV, killOb, *] <;> first | with_reducible exact rfl | with_reducible exact ⟨rfl, rfl⟩ | with_reducible exact ⟨by omega, rfl⟩))
  | ((with_reducible apply c_load); (· simp [valOp, loadV, partC, allM, closed, CV.cells, so_t, so_k, so, setS_fr, setS_ob, newS_fr, newS_ob, refOf, kill_fr, kill_ob, init_fr, init_ob, mask_none, mask_some, upd_apply, killSV, killOb, *] <;> first | with_reducible exact rfl | with_reducible exact ⟨rfl, rfl⟩ | with_reducible exact ⟨by omega, rfl⟩))
  | ((with_reducible apply c_len); (· simp [valOp, lenV, so_t, so_k, so, setS_fr, setS_ob, newS_fr, newS_ob, refOf, kill_fr, kill_ob, init_fr, init_ob, mask_none, mask_some, upd_apply, killSV, killOb, *] <;> first | with_reducible exact rfl | with_reducible exact ⟨rfl, rfl⟩ | with_reducible exact ⟨by omega, rfl⟩))
  | ((with_reducible apply c_slice); (· simp [valOp, bound, cellsN, so_t, so_k, so, setS_fr, setS_ob, newS_fr, newS_ob, refOf, kill_fr, kill_ob, init_fr, init_ob, mask_none, mask_some, upd_apply, killSV, killOb, *] <;> first | with_reducible exact rfl | with_reducible exact ⟨rfl, rfl⟩ | with_reducible exact ⟨by omega, rfl⟩))
  | ((with_reducible apply c_call); (· simp [allM, close, so_t, so_k, so, setS_fr, setS_ob, newS_fr, newS_ob, refOf, kill_fr, kill_ob, init_fr, init_ob, mask_none, mask_some, upd_apply, killSV, killOb, *] <;> first | with_reducible exact rfl | with_reducible exact ⟨rfl, rfl⟩ | with_reducible exact ⟨by omega, rfl⟩); (· simp [so_t, so_k, so, setS_fr, setS_ob, newS_fr, newS_ob, refOf, kill_fr, kill_ob, init_fr, init_ob, mask_none, mask_some, upd_apply, killSV, killOb, *] <;> first | with_reducible exact rfl | with_reducible exact ⟨rfl, rfl⟩ | with_reducible exact ⟨by omega, rfl⟩); (· simp [isC, memless, memlessL, so_t, so_k, so, setS_fr, setS_ob, newS_fr, newS_ob, refOf, kill_fr, kill_ob, init_fr, init_ob, mask_none, mask_some, upd_apply, killSV, killOb, *]; done))
  | ((with_reducible apply c_callN); (· simp [allM, close, so_t, so_k, so, setS_fr, setS_ob, newS_fr, newS_ob, refOf, kill_fr, kill_ob, init_fr, init_ob, mask_none, mask_some, upd_apply, killSV, killOb, *] <;> first | with_reducible exact rfl | with_reducible exact ⟨rfl, rfl⟩ | with_reducible exact ⟨by omega, rfl⟩); (· simp [so_t, so_k, so, setS_fr, setS_ob, newS_fr, newS_ob, refOf, kill_fr, kill_ob, init_fr, init_ob, mask_none, mask_some, upd_apply, killSV, killOb, *] <;> first | with_reducible exact rfl | with_reducible exact ⟨rfl, rfl⟩ | with_reducible exact ⟨by omega, rfl⟩); (· simp [isC, Res.memless, memless, memlessL, so_t, so_k, so, setS_fr, setS_ob, newS_fr, newS_ob, refOf, kill_fr, kill_ob, init_fr, init_ob, mask_none, mask_some, upd_apply, killSV, killOb, *]; done); (· simp [so_t, so_k, so, setS_fr, setS_ob, newS_fr, newS_ob, refOf, kill_fr, kill_ob, init_fr, init_ob, mask_none, mask_some, upd_apply, killSV, killOb, *]; done))
  | ((with_reducible apply c_new); (· rfl); (· simp [newOp, allM, closed, cellsN, so_t, so_k, so, setS_fr, setS_ob, newS_fr, newS_ob, refOf, kill_fr, kill_ob, init_fr, init_ob, mask_none, mask_some, upd_apply, killSV, killOb, *] <;> first | with_reducible exact rfl | with_reducible exact ⟨rfl, rfl⟩ | with_reducible exact ⟨by omega, rfl⟩); (· simp [so_t, so_k, so, setS_fr, setS_ob, newS_fr, newS_ob, refOf, kill_fr, kill_ob, init_fr, init_ob, mask_none, mask_some, upd_apply, killSV, killOb, *]; done))
  | ((with_reducible apply c_eff); (· rfl); (· simp [effOp, setCells, oneS, oneC, St.set, newsOf, putC, cellsN, CV.cells, so_t, so_k, so, setS_fr, setS_ob, newS_fr, newS_ob, refOf, kill_fr, kill_ob, init_fr, init_ob, mask_none, mask_some, upd_apply, killSV, killOb, *] <;> first | with_reducible exact rfl | with_reducible exact ⟨rfl, rfl⟩ | with_reducible exact ⟨by omega, rfl⟩))
  | ((with_reducible apply c_guard); (· simp [so_t, so_k, so, setS_fr, setS_ob, newS_fr, newS_ob, refOf, kill_fr, kill_ob, init_fr, init_ob, mask_none, mask_some, upd_apply, killSV, killOb, *] <;> first | with_reducible exact rfl | with_reducible exact ⟨rfl, rfl⟩ | with_reducible exact ⟨by omega, rfl⟩))
  | ((with_reducible apply p_if); (· simp [so_t, so_k, so, setS_fr, setS_ob, newS_fr, newS_ob, refOf, kill_fr, kill_ob, init_fr, init_ob, mask_none, mask_some, upd_apply, killSV, killOb, *] <;> first | with_reducible exact rfl | with_reducible exact ⟨rfl, rfl⟩ | with_reducible exact ⟨by omega, rfl⟩))
  | ((with_reducible apply g_split); all_goals (intro hb; try simp only [decide_eq_true_eq, decide_eq_false_iff_not, Bool.not_eq_true] at hb))
  | ((with_reducible apply k_split); all_goals (intro hb; try simp only [decide_eq_true_eq, decide_eq_false_iff_not, Bool.not_eq_true] at hb)))
 all_goals (refine ⟨⟨?_, ?_, ?_, ?_⟩, ?_⟩ <;> simp [setS_fr, kill_fr, killSV, h1, h2, h3, h4, itemT])
theorem dead_fr {st : St} {i : Nat} {c : CV} (h : st.fr i = .c c) : (dead st).fr i = .c c := by
 simp [dead, h]
theorem LI.dead {st : St} {b : Nat} {cv : CV} {len i : Int} (h : LI b cv len i st) {u : CV} : LI b cv len i (dead (st.set (some 41) (.c u))) :=
 ⟨dead_fr (by simpa [St.set, upd] using h.1), dead_fr (by simpa [St.set, upd] using h.2.1), dead_fr (by simpa [St.set, upd] using h.2.2.1), dead_fr (by simpa [St.set, upd] using h.2.2.2)⟩
theorem SRB.bool {P : Program} {G : Nat → List CV} {T e : TypeId} {w0 : World} {M0 : Nat → Prop} {n b : Nat} {s : List UInt8} {st : St} {a : Act} {w : World} {z : Cz} (h : SRB P G T e w0 M0 n b s st a w z) {i : Nat} {t : Bool} (hi : st.fr i = .c (.bool t)) : a.eval (.tmp i) = .bool t := by
 obtain ⟨⟨w1, p, v, hS, _⟩, _⟩ := h
 have := hS.ctx.c (x := .tmp i) rfl (show so G st.fr (.t i) = .c (.bool t) from hi)
 unfold RelC at this
 exact this
theorem text_ok (hE : EOk Tryz.prog E) (hW : WriteC Tryz.prog 15 50 5) (hSt : StringC Tryz.prog 19 50 5)
  (hR : E.fn 14 [.agg [.int .u32 p, .int .i64 y, .sl nl (its.map itC), .int .i64 a]] = some (.val (.bool true))) (hU : E.fn 16 [.int .u64 (IntKind.u64.wrap p), .int .i64 10] = some (.val (.str su))) (hY : E.fn 17 [.int .i64 y] = some (.val (.str sy))) (hA : E.fn 17 [.int .i64 a] = some (.val (.str sa)))
  (hC : ∀ x ∈ its, E.fn 18 [.int .i64 x.2] = some (.val (.str (tx x.2)))) (hlen : (headT su sy sa ++ bodyT tx its).length ≤ 140737488355328) (hn : its.length ≤ 1000000) :
  hasBody Tryz.prog 6 = true ∧ CallsTo Tryz.prog E.G 6 [.agg [.int .u32 p, .int .i64 y, .sl nl (its.map itC), .int .i64 a]] (.val (.str (headT su sy sa ++ bodyT tx its))) := by
 refine fn_okW (fn := Tryz.f6) (bd := pB) (rs := [.tmp 2]) (by kernel_rfl) Tryz.func6 pB_body (by kernel_rfl) (show 1 ≤ Tryz.f6.ntmps by decide) fun w M a0 hS0 => ?_
 have e44 : Tryz.f6.ntmps = 44 := by kernel_rfl
 rw [e44] at hS0 ⊢
 rw [pB_eq]
 refine wp_seq (wp_mono (code_sound hE pR0 cR0 hS0 (Q := fun x st => x = .normal ∧ st.fr 1 = .ptr 1 0 ∧ st.ob 1 = .box ([CV.int .u32 p, .int .i64 y, .sl nl (its.map itC), .int .i64 a].map .c)) ?_) fun x a1 w1 hp => ?_)
 ·unfold scR0
  repeat' (first
   | with_reducible apply p_seq
   | with_reducible apply then_normal
   | with_reducible apply then_exit
   | with_reducible apply then_ret
   | with_reducible apply block_normal
   | with_reducible apply block_exit
   | with_reducible apply block_ret
   | with_reducible apply turn_exit
   | with_reducible apply turn_ret
   | with_reducible apply p_skip
   | with_reducible apply p_exit
   | with_reducible apply p_ret
   | with_reducible apply p_block
   | with_reducible apply p_reg0
   | with_reducible apply p_reg1
   | with_reducible apply c_nil
   | with_reducible apply g_tt
   | with_reducible apply g_ff
   | with_reducible apply g_tf
   | with_reducible apply g_ft
   | with_reducible apply g_sk
   | with_reducible apply k_t
   | with_reducible apply k_f
   | ((with_reducible apply block_past); (· decide))
   | ((with_reducible apply c_mov); (· simp [valOp, so_t, so_k, so, setS_fr, setS_ob, newS_fr, newS_ob, refOf, kill_fr, kill_ob, init_fr, init_ob, mask_none, mask_some, upd_apply, killSV, killOb, *] <;> first | with_reducible exact rfl | with_reducible exact ⟨rfl, rfl⟩ | with_reducible exact ⟨by omega, rfl⟩))
   | ((with_reducible apply c_bin); (· simp [valOp, binC, binI, cmpB, binS, so_t, so_k, so, setS_fr, setS_ob, newS_fr, newS_ob, refOf, kill_fr, kill_ob, init_fr, init_ob, mask_none, mask_some, upd_apply, killSV, killOb, *] <;> first | with_reducible exact rfl | with_reducible exact ⟨rfl, rfl⟩ | with_reducible exact ⟨by omega, rfl⟩))
   | ((with_reducible apply c_un); (· simp [valOp, unC, so_t, so_k, so, setS_fr, setS_ob, newS_fr, newS_ob, refOf, kill_fr, kill_ob, init_fr, init_ob, mask_none, mask_some, upd_apply, killSV, killOb, *] <;> first | with_reducible exact rfl | with_reducible exact ⟨rfl, rfl⟩ | with_reducible exact ⟨by omega, rfl⟩))
   | ((with_reducible apply c_cvi); (· simp [valOp, so_t, so_k, so, setS_fr, setS_ob, newS_fr, newS_ob, refOf, kill_fr, kill_ob, init_fr, init_ob, mask_none, mask_some, upd_apply, killSV, killOb, *] <;> first | with_reducible exact rfl | with_reducible exact ⟨rfl, rfl⟩ | with_reducible exact ⟨by omega, rfl⟩))
   | ((with_reducible apply c_faddr); (· simp [valOp, so_t, so_k, so, setS_fr, setS_ob, newS_fr, newS_ob, refOf, kill_fr, kill_ob, init_fr, init_ob, mask_none, mask_some, upd_apply, killSV, killOb, *] <;> first | with_reducible exact rfl | with_reducible exact ⟨rfl, rfl⟩ | with_reducible exact ⟨by omega, rfl⟩))
   | ((with_reducible apply c_iaddr); (· simp [valOp, iaddrV, idxOf, cellsN, CV.cells, so_t, so_k, so, setS_fr, setS_ob, newS_fr, newS_ob, refOf, kill_fr, kill_ob, init_fr, init_ob, mask_none, mask_some, upd_apply, killSV, killOb, *] <;> first | with_reducible exact rfl | with_reducible exact ⟨rfl, rfl⟩ | with_reducible exact ⟨by omega, rfl⟩))
   | ((with_reducible apply c_load); (· simp [valOp, loadV, partC, allM, closed, CV.cells, so_t, so_k, so, setS_fr, setS_ob, newS_fr, newS_ob, refOf, kill_fr, kill_ob, init_fr, init_ob, mask_none, mask_some, upd_apply, killSV, killOb, *] <;> first | with_reducible exact rfl | with_reducible exact ⟨rfl, rfl⟩ | with_reducible exact ⟨by omega, rfl⟩))
   | ((with_reducible apply c_len); (· simp [valOp, lenV, so_t, so_k, so, setS_fr, setS_ob, newS_fr, newS_ob, refOf, kill_fr, kill_ob, init_fr, init_ob, mask_none, mask_some, upd_apply, killSV, killOb, *] <;> first | with_reducible exact rfl | with_reducible exact ⟨rfl, rfl⟩ | with_reducible exact ⟨by omega, rfl⟩))
   | ((with_reducible apply c_slice); (· simp [valOp, bound, cellsN, so_t, so_k, so, setS_fr, setS_ob, newS_fr, newS_ob, refOf, kill_fr, kill_ob, init_fr, init_ob, mask_none, mask_some, upd_apply, killSV, killOb, *] <;> first | with_reducible exact rfl | with_reducible exact ⟨rfl, rfl⟩ | with_reducible exact ⟨by omega, rfl⟩))
   | ((with_reducible apply c_call); (· simp [allM, close, so_t, so_k, so, setS_fr, setS_ob, newS_fr, newS_ob, refOf, kill_fr, kill_ob, init_fr, init_ob, mask_none, mask_some, upd_apply, killSV, killOb, *] <;> first | with_reducible exact rfl | with_reducible exact ⟨rfl, rfl⟩ | with_reducible exact ⟨by omega, rfl⟩); (· simp [so_t, so_k, so, setS_fr, setS_ob, newS_fr, newS_ob, refOf, kill_fr, kill_ob, init_fr, init_ob, mask_none, mask_some, upd_apply, killSV, killOb, *] <;> first | with_reducible exact rfl | with_reducible exact ⟨rfl, rfl⟩ | with_reducible exact ⟨by omega, rfl⟩); (· simp [isC, memless, memlessL, so_t, so_k, so, setS_fr, setS_ob, newS_fr, newS_ob, refOf, kill_fr, kill_ob, init_fr, init_ob, mask_none, mask_some, upd_apply, killSV, killOb, *]; done))
   | ((with_reducible apply c_callN); (· simp [allM, close, so_t, so_k, so, setS_fr, setS_ob, newS_fr, newS_ob, refOf, kill_fr, kill_ob, init_fr, init_ob, mask_none, mask_some, upd_apply, killSV, killOb, *] <;> first | with_reducible exact rfl | with_reducible exact ⟨rfl, rfl⟩ | with_reducible exact ⟨by omega, rfl⟩); (· simp [so_t, so_k, so, setS_fr, setS_ob, newS_fr, newS_ob, refOf, kill_fr, kill_ob, init_fr, init_ob, mask_none, mask_some, upd_apply, killSV, killOb, *] <;> first | with_reducible exact rfl | with_reducible exact ⟨rfl, rfl⟩ | with_reducible exact ⟨by omega, rfl⟩); (· simp [isC, Res.memless, memless, memlessL, so_t, so_k, so, setS_fr, setS_ob, newS_fr, newS_ob, refOf, kill_fr, kill_ob, init_fr, init_ob, mask_none, mask_some, upd_apply, killSV, killOb, *]; done); (· simp [so_t, so_k, so, setS_fr, setS_ob, newS_fr, newS_ob, refOf, kill_fr, kill_ob, init_fr, init_ob, mask_none, mask_some, upd_apply, killSV, killOb, *]; done))
   | ((with_reducible apply c_new); (· rfl); (· simp [newOp, allM, closed, cellsN, so_t, so_k, so, setS_fr, setS_ob, newS_fr, newS_ob, refOf, kill_fr, kill_ob, init_fr, init_ob, mask_none, mask_some, upd_apply, killSV, killOb, *] <;> first | with_reducible exact rfl | with_reducible exact ⟨rfl, rfl⟩ | with_reducible exact ⟨by omega, rfl⟩); (· simp [so_t, so_k, so, setS_fr, setS_ob, newS_fr, newS_ob, refOf, kill_fr, kill_ob, init_fr, init_ob, mask_none, mask_some, upd_apply, killSV, killOb, *]; done))
   | ((with_reducible apply c_eff); (· rfl); (· simp [effOp, setCells, oneS, oneC, St.set, newsOf, putC, cellsN, CV.cells, so_t, so_k, so, setS_fr, setS_ob, newS_fr, newS_ob, refOf, kill_fr, kill_ob, init_fr, init_ob, mask_none, mask_some, upd_apply, killSV, killOb, *] <;> first | with_reducible exact rfl | with_reducible exact ⟨rfl, rfl⟩ | with_reducible exact ⟨by omega, rfl⟩))
   | ((with_reducible apply c_guard); (· simp [so_t, so_k, so, setS_fr, setS_ob, newS_fr, newS_ob, refOf, kill_fr, kill_ob, init_fr, init_ob, mask_none, mask_some, upd_apply, killSV, killOb, *] <;> first | with_reducible exact rfl | with_reducible exact ⟨rfl, rfl⟩ | with_reducible exact ⟨by omega, rfl⟩))
   | ((with_reducible apply p_if); (· simp [so_t, so_k, so, setS_fr, setS_ob, newS_fr, newS_ob, refOf, kill_fr, kill_ob, init_fr, init_ob, mask_none, mask_some, upd_apply, killSV, killOb, *] <;> first | with_reducible exact rfl | with_reducible exact ⟨rfl, rfl⟩ | with_reducible exact ⟨by omega, rfl⟩))
   | ((with_reducible apply g_split); all_goals (intro hb; try simp only [decide_eq_true_eq, decide_eq_false_iff_not, Bool.not_eq_true] at hb))
   | ((with_reducible apply k_split); all_goals (intro hb; try simp only [decide_eq_true_eq, decide_eq_false_iff_not, Bool.not_eq_true] at hb)))
  all_goals (refine ⟨rfl, ?_, ?_⟩ <;> simp [setS_fr, setS_ob, newS_fr, newS_ob])
 obtain ⟨x', st1, z1, hx, ⟨rfl, h1, h2⟩, hS1⟩ := hp
 subst hx
 refine wp_seq (wp_mono (code_sound hE pC1 cC1 hS1 (Q := fun x st => x = .normal ∧ st.fr 1 = .ptr 1 0 ∧ st.ob 1 = .box ([CV.int .u32 p, .int .i64 y, .sl nl (its.map itC), .int .i64 a].map .c)) ?_) fun x a2 w2 hp => ?_)
 ·unfold scC1
  simp only [List.map_cons, List.map_nil] at h2
  repeat' (first
   | with_reducible apply p_seq
   | with_reducible apply then_normal
   | with_reducible apply then_exit
   | with_reducible apply then_ret
   | with_reducible apply block_normal
   | with_reducible apply block_exit
   | with_reducible apply block_ret
   | with_reducible apply turn_exit
   | with_reducible apply turn_ret
   | with_reducible apply p_skip
   | with_reducible apply p_exit
   | with_reducible apply p_ret
   | with_reducible apply p_block
   | with_reducible apply p_reg0
   | with_reducible apply p_reg1
   | with_reducible apply c_nil
   | with_reducible apply g_tt
   | with_reducible apply g_ff
   | with_reducible apply g_tf
   | with_reducible apply g_ft
   | with_reducible apply g_sk
   | with_reducible apply k_t
   | with_reducible apply k_f
   | ((with_reducible apply block_past); (· decide))
   | ((with_reducible apply c_mov); (· simp [valOp, so_t, so_k, so, setS_fr, setS_ob, newS_fr, newS_ob, refOf, kill_fr, kill_ob, init_fr, init_ob, mask_none, mask_some, upd_apply, killSV, killOb, *] <;> first | with_reducible exact rfl | with_reducible exact ⟨rfl, rfl⟩ | with_reducible exact ⟨by omega, rfl⟩))
   | ((with_reducible apply c_bin); (· simp [valOp, binC, binI, cmpB, binS, so_t, so_k, so, setS_fr, setS_ob, newS_fr, newS_ob, refOf, kill_fr, kill_ob, init_fr, init_ob, mask_none, mask_some, upd_apply, killSV, killOb, *] <;> first | with_reducible exact rfl | with_reducible exact ⟨rfl, rfl⟩ | with_reducible exact ⟨by omega, rfl⟩))
   | ((with_reducible apply c_un); (· simp [valOp, unC, so_t, so_k, so, setS_fr, setS_ob, newS_fr, newS_ob, refOf, kill_fr, kill_ob, init_fr, init_ob, mask_none, mask_some, upd_apply, killSV, killOb, *] <;> first | with_reducible exact rfl | with_reducible exact ⟨rfl, rfl⟩ | with_reducible exact ⟨by omega, rfl⟩))
   | ((with_reducible apply c_cvi); (· simp [valOp, so_t, so_k, so, setS_fr, setS_ob, newS_fr, newS_ob, refOf, kill_fr, kill_ob, init_fr, init_ob, mask_none, mask_some, upd_apply, killSV, killOb, *] <;> first | with_reducible exact rfl | with_reducible exact ⟨rfl, rfl⟩ | with_reducible exact ⟨by omega, rfl⟩))
   | ((with_reducible apply c_faddr); (· simp [valOp, so_t, so_k, so, setS_fr, setS_ob, newS_fr, newS_ob, refOf, kill_fr, kill_ob, init_fr, init_ob, mask_none, mask_some, upd_apply, killSV, killOb, *] <;> first | with_reducible exact rfl | with_reducible exact ⟨rfl, rfl⟩ | with_reducible exact ⟨by omega, rfl⟩))
   | ((with_reducible apply c_iaddr); (· simp [valOp, iaddrV, idxOf, cellsN, CV.cells, so_t, so_k, so, setS_fr, setS_ob, newS_fr, newS_ob, refOf, kill_fr, kill_ob, init_fr, init_ob, mask_none, mask_some, upd_apply, killSV, killOb, *] <;> first | with_reducible exact rfl | with_reducible exact ⟨rfl, rfl⟩ | with_reducible exact ⟨by omega, rfl⟩))
   | ((with_reducible apply c_load); (· simp [valOp, loadV, partC, allM, closed, CV.cells, so_t, so_k, so, setS_fr, setS_ob, newS_fr, newS_ob, refOf, kill_fr, kill_ob, init_fr, init_ob, mask_none, mask_some, upd_apply, killSV, killOb, *] <;> first | with_reducible exact rfl | with_reducible exact ⟨rfl, rfl⟩ | with_reducible exact ⟨by omega, rfl⟩))
   | ((with_reducible apply c_len); (· simp [valOp, lenV, so_t, so_k, so, setS_fr, setS_ob, newS_fr, newS_ob, refOf, kill_fr, kill_ob, init_fr, init_ob, mask_none, mask_some, upd_apply, killSV, killOb, *] <;> first | with_reducible exact rfl | with_reducible exact ⟨rfl, rfl⟩ | with_reducible exact ⟨by omega, rfl⟩))
   | ((with_reducible apply c_slice); (· simp [valOp, bound, cellsN, so_t, so_k, so, setS_fr, setS_ob, newS_fr, newS_ob, refOf, kill_fr, kill_ob, init_fr, init_ob, mask_none, mask_some, upd_apply, killSV, killOb, *] <;> first | with_reducible exact rfl | with_reducible exact ⟨rfl, rfl⟩ | with_reducible exact ⟨by omega, rfl⟩))
   | ((with_reducible apply c_call); (· simp [allM, close, so_t, so_k, so, setS_fr, setS_ob, newS_fr, newS_ob, refOf, kill_fr, kill_ob, init_fr, init_ob, mask_none, mask_some, upd_apply, killSV, killOb, *] <;> first | with_reducible exact rfl | with_reducible exact ⟨rfl, rfl⟩ | with_reducible exact ⟨by omega, rfl⟩); (· simp [so_t, so_k, so, setS_fr, setS_ob, newS_fr, newS_ob, refOf, kill_fr, kill_ob, init_fr, init_ob, mask_none, mask_some, upd_apply, killSV, killOb, *] <;> first | with_reducible exact rfl | with_reducible exact ⟨rfl, rfl⟩ | with_reducible exact ⟨by omega, rfl⟩); (· simp [isC, memless, memlessL, so_t, so_k, so, setS_fr, setS_ob, newS_fr, newS_ob, refOf, kill_fr, kill_ob, init_fr, init_ob, mask_none, mask_some, upd_apply, killSV, killOb, *]; done))
   | ((with_reducible apply c_callN); (· simp [allM, close, so_t, so_k, so, setS_fr, setS_ob, newS_fr, newS_ob, refOf, kill_fr, kill_ob, init_fr, init_ob, mask_none, mask_some, upd_apply, killSV, killOb, *] <;> first | with_reducible exact rfl | with_reducible exact ⟨rfl, rfl⟩ | with_reducible exact ⟨by omega, rfl⟩); (· simp [so_t, so_k, so, setS_fr, setS_ob, newS_fr, newS_ob, refOf, kill_fr, kill_ob, init_fr, init_ob, mask_none, mask_some, upd_apply, killSV, killOb, *] <;> first | with_reducible exact rfl | with_reducible exact ⟨rfl, rfl⟩ | with_reducible exact ⟨by omega, rfl⟩); (· simp [isC, Res.memless, memless, memlessL, so_t, so_k, so, setS_fr, setS_ob, newS_fr, newS_ob, refOf, kill_fr, kill_ob, init_fr, init_ob, mask_none, mask_some, upd_apply, killSV, killOb, *]; done); (· simp [so_t, so_k, so, setS_fr, setS_ob, newS_fr, newS_ob, refOf, kill_fr, kill_ob, init_fr, init_ob, mask_none, mask_some, upd_apply, killSV, killOb, *]; done))
   | ((with_reducible apply c_new); (· rfl); (· simp [newOp, allM, closed, cellsN, so_t, so_k, so, setS_fr, setS_ob, newS_fr, newS_ob, refOf, kill_fr, kill_ob, init_fr, init_ob, mask_none, mask_some, upd_apply, killSV, killOb, *] <;> first | with_reducible exact rfl | with_reducible exact ⟨rfl, rfl⟩ | with_reducible exact ⟨by omega, rfl⟩); (· simp [so_t, so_k, so, setS_fr, setS_ob, newS_fr, newS_ob, refOf, kill_fr, kill_ob, init_fr, init_ob, mask_none, mask_some, upd_apply, killSV, killOb, *]; done))
   | ((with_reducible apply c_eff); (· rfl); (· simp [effOp, setCells, oneS, oneC, St.set, newsOf, putC, cellsN, CV.cells, so_t, so_k, so, setS_fr, setS_ob, newS_fr, newS_ob, refOf, kill_fr, kill_ob, init_fr, init_ob, mask_none, mask_some, upd_apply, killSV, killOb, *] <;> first | with_reducible exact rfl | with_reducible exact ⟨rfl, rfl⟩ | with_reducible exact ⟨by omega, rfl⟩))
   | ((with_reducible apply c_guard); (· simp [so_t, so_k, so, setS_fr, setS_ob, newS_fr, newS_ob, refOf, kill_fr, kill_ob, init_fr, init_ob, mask_none, mask_some, upd_apply, killSV, killOb, *] <;> first | with_reducible exact rfl | with_reducible exact ⟨rfl, rfl⟩ | with_reducible exact ⟨by omega, rfl⟩))
   | ((with_reducible apply p_if); (· simp [so_t, so_k, so, setS_fr, setS_ob, newS_fr, newS_ob, refOf, kill_fr, kill_ob, init_fr, init_ob, mask_none, mask_some, upd_apply, killSV, killOb, *] <;> first | with_reducible exact rfl | with_reducible exact ⟨rfl, rfl⟩ | with_reducible exact ⟨by omega, rfl⟩))
   | ((with_reducible apply g_split); all_goals (intro hb; try simp only [decide_eq_true_eq, decide_eq_false_iff_not, Bool.not_eq_true] at hb))
   | ((with_reducible apply k_split); all_goals (intro hb; try simp only [decide_eq_true_eq, decide_eq_false_iff_not, Bool.not_eq_true] at hb)))
  all_goals (refine ⟨rfl, ?_, ?_⟩ <;> simp [setS_fr, setS_ob, newS_fr, newS_ob, h1, h2])
 obtain ⟨x', st2, z2, hx, ⟨rfl, h1, h2⟩, hS2⟩ := hp
 subst hx
 obtain ⟨z3, hS3⟩ := Seen.frzb h1 h2 hS2
 obtain ⟨o, ho, ho1, ho2, ho3⟩ := pR3_eq
 obtain ⟨i77, hi1, hi2⟩ := info77
 rw [ho]
 refine wp_seq (wp_balloc ho1 ho2 ho3 hi1 hi2 ?_)
 have hB := SRB.start hS3 (T := 50) (e := 5) (d := 3) (by decide)
 generalize w2.heap.size = b at hB ⊢
 have g1 : ((dead { fr := upd (kill [1] st2).fr 1 (.c (.wp [CV.int .u32 p, .int .i64 y, .sl nl (its.map itC), .int .i64 a])), ob := (kill [1] st2).ob }).set (some 3) (.c (.adr b))).fr 1 = .c (.wp [.int .u32 p, .int .i64 y, .sl nl (its.map itC), .int .i64 a]) := by simp [dead, St.set, upd]
 have g3 : ((dead { fr := upd (kill [1] st2).fr 1 (.c (.wp [CV.int .u32 p, .int .i64 y, .sl nl (its.map itC), .int .i64 a])), ob := (kill [1] st2).ob }).set (some 3) (.c (.adr b))).fr 3 = .c (.adr b) := by simp [St.set, upd]
 have hlen' := hlen
 rw [List.length_append] at hlen'
 obtain ⟨st4, hv4, e1, e2, e3⟩ := evR4 (E := E) g1 g3 hU hY hA (by omega)
 refine wp_seq (wp_mono (SRB.write hE hW lR4 dR4 oR4 (pre := lsR4) rfl (by kernel_rfl) (by decide) hB hv4 e1 e2 (by simp only [List.length_nil, Nat.zero_add]; omega)) fun x a4 w4 hp => ?_)
 obtain ⟨rfl, z4, hB4⟩ := hp
 rw [List.nil_append] at hB4
 have k1 : (dead (st4.set (some 25) (.c (.tup [.int .i64 (headT su sy sa).length, .nilif])))).fr 1 = .c (.wp [.int .u32 p, .int .i64 y, .sl nl (its.map itC), .int .i64 a]) := dead_fr (by simpa [St.set, upd] using e3)
 have k3 : (dead (st4.set (some 25) (.c (.tup [.int .i64 (headT su sy sa).length, .nilif])))).fr 3 = .c (.adr b) := dead_fr (by simpa [St.set, upd] using e2)
 refine wp_seq (wp_seq (wp_mono (SRB.plain hE cR5 hB4 (evR5 k1 k3)) fun x a5 w5 hp => ?_))
 obtain ⟨x', st5, z5, hx, ⟨rfl, hL5⟩, hB5⟩ := hp
 subst hx
 rw [List.length_map] at hL5
 refine wp_block (wp_loop_ghost (fun k a' w' => ∃ i st' z', k = its.length - i ∧ i ≤ its.length ∧ SRB Tryz.prog E.G 50 5 w M 44 b (headT su sy sa ++ bodyT tx (its.take i)) st' a' w' z' ∧ LI b (.sl nl (its.map itC)) its.length (i : Nat) st') its.length ⟨0, st5, z5, rfl, Nat.zero_le _, by simpa [bodyT] using hB5, hL5⟩ fun k a6 w6 hI => ?_)
 obtain ⟨i, st6, z6, rfl, hi, hB6, hL6⟩ := hI
 refine wp_seq (wp_mono (SRB.plain hE cR6 hB6 (evR6 hL6)) fun x a7 w7 hp => ?_)
 obtain ⟨x', st7, z7, hx, ⟨rfl, hL7, hb7⟩, hB7⟩ := hp
 subst hx
 refine wp_seq (wp_cond_split (SRB.bool hB7 hb7) (fun ht => ?_) (fun hf => ?_))
 ·
  refine wp_skip ?_
  have hlt : i < its.length := by
   have := of_decide_eq_true ht
   omega
  obtain ⟨it, hit⟩ : ∃ it, its[i]? = some it := ⟨_, List.getElem?_eq_getElem hlt⟩
  have hmem := List.mem_of_getElem? hit
  have hitc : (its.map itC)[i]? = some (.agg [.str it.1, .int .i64 it.2]) := by rw [List.getElem?_map, hit]; rfl
  have hb1 := bodyT_take (tx := tx) hit
  have hle : (bodyT tx (its.take (i + 1))).length ≤ (bodyT tx its).length := bodyT_le _ _
  rw [hb1, List.length_append] at hle
  refine wp_seq (wp_block (wp_seq (wp_mono (SRB.plain hE cR7 hB7 (evR7 hL7 hitc)) fun x a8 w8 hp => ?_)))
  obtain ⟨x', st8, z8, hx, ⟨rfl, hL8, hp5, ho5⟩, hB8⟩ := hp
  subst hx
  obtain ⟨st9, hv9, hL9, e40⟩ := evR8 (E := E) hL8 hp5 ho5 (hC it hmem) (by omega)
  refine wp_mono (SRB.write hE hW lR8 dR8 oR8 (pre := lsR8) rfl (by kernel_rfl) (by decide) hB8 hv9 e40 hL9.1 (by rw [List.length_append]; omega)) fun x a9 w9 hp => ?_
  obtain ⟨rfl, z9, hB9⟩ := hp
  have hw : IntKind.i64.wrap ((i : Int) + 1) = (i : Int) + 1 := by rw [IntKind.wrap_i64]; omega
  refine wp_mono (SRB.plain hE cR9 hB9 (evR9 hL9.dead hw)) fun x a10 w10 hp => ?_
  obtain ⟨x', st10, z10, hx, ⟨rfl, hL10⟩, hB10⟩ := hp
  subst hx
  refine ⟨its.length - (i + 1), by omega, i + 1, st10, z10, rfl, by omega, ?_, by simpa using hL10⟩
  rw [hb1, ← List.append_assoc]
  exact hB10
 ·
  refine wp_exit ?_
  have hge : i = its.length := by
   have := of_decide_eq_false hf
   omega
  subst hge
  rw [List.take_length] at hB7
  show (Code.seq (.region (rid pR10) (rops pR10) false) .ret).wp _ _ _ _
  refine wp_seq (wp_mono (SRB.finish hE hSt lR10 hB7 hL7.1 (st' := { fr := upd (fun i => if i = 43 then .c (.str (headT su sy sa ++ bodyT tx its)) else .undef) 2 (.c (.str (headT su sy sa ++ bodyT tx its))), ob := fun _ => .none }) ?_) fun x a11 w11 hp => ?_)
  ·simp [evalLs, evalL, evalOp, SOp.cls, valOp, so, St.set]
  ·obtain ⟨rfl, z11, hS11⟩ := hp
   refine wp_ret ⟨rfl, _, z11, hS11, ?_⟩
   simp [resOf, allM, oneRes, packRes, close, upd]
theorem text_no (hE : EOk Tryz.prog E)
  (hR : E.fn 14 [.agg [.int .u32 p, .int .i64 y, .sl nl (its.map itC), .int .i64 a]] = some (.val (.bool false))) :
  hasBody Tryz.prog 6 = true ∧ CallsTo Tryz.prog E.G 6 [.agg [.int .u32 p, .int .i64 y, .sl nl (its.map itC), .int .i64 a]] (.val (.str [])) := by
 refine fn_okW (fn := Tryz.f6) (bd := pB) (rs := [.tmp 2]) (by kernel_rfl) Tryz.func6 pB_body (by kernel_rfl) (show 1 ≤ Tryz.f6.ntmps by decide) fun w M a0 hS0 => ?_
 have e44 : Tryz.f6.ntmps = 44 := by kernel_rfl
 rw [e44] at hS0 ⊢
 rw [pB_eq]
 refine wp_seq (wp_mono (code_sound hE pR0 cR0 hS0 (Q := fun x st => x = .normal ∧ st.fr 1 = .ptr 1 0 ∧ st.ob 1 = .box ([CV.int .u32 p, .int .i64 y, .sl nl (its.map itC), .int .i64 a].map .c)) ?_) fun x a1 w1 hp => ?_)
 ·unfold scR0
  repeat' (first
   | with_reducible apply p_seq
   | with_reducible apply then_normal
   | with_reducible apply then_exit
   | with_reducible apply then_ret
   | with_reducible apply block_normal
   | with_reducible apply block_exit
   | with_reducible apply block_ret
   | with_reducible apply turn_exit
   | with_reducible apply turn_ret
   | with_reducible apply p_skip
   | with_reducible apply p_exit
   | with_reducible apply p_ret
   | with_reducible apply p_block
   | with_reducible apply p_reg0
   | with_reducible apply p_reg1
   | with_reducible apply c_nil
   | with_reducible apply g_tt
   | with_reducible apply g_ff
   | with_reducible apply g_tf
   | with_reducible apply g_ft
   | with_reducible apply g_sk
   | with_reducible apply k_t
   | with_reducible apply k_f
   | ((with_reducible apply block_past); (· decide))
   | ((with_reducible apply c_mov); (· simp [valOp, so_t, so_k, so, setS_fr, setS_ob, newS_fr, newS_ob, refOf, kill_fr, kill_ob, init_fr, init_ob, mask_none, mask_some, upd_apply, killSV, killOb, *] <;> first | with_reducible exact rfl | with_reducible exact ⟨rfl, rfl⟩ | with_reducible exact ⟨by omega, rfl⟩))
   | ((with_reducible apply c_bin); (· simp [valOp, binC, binI, cmpB, binS, so_t, so_k, so, setS_fr, setS_ob, newS_fr, newS_ob, refOf, kill_fr, kill_ob, init_fr, init_ob, mask_none, mask_some, upd_apply, killSV, killOb, *] <;> first | with_reducible exact rfl | with_reducible exact ⟨rfl, rfl⟩ | with_reducible exact ⟨by omega, rfl⟩))
   | ((with_reducible apply c_un); (· simp [valOp, unC, so_t, so_k, so, setS_fr, setS_ob, newS_fr, newS_ob, refOf, kill_fr, kill_ob, init_fr, init_ob, mask_none, mask_some, upd_apply, killSV, killOb, *] <;> first | with_reducible exact rfl | with_reducible exact ⟨rfl, rfl⟩ | with_reducible exact ⟨by omega, rfl⟩))
   | ((with_reducible apply c_cvi); (· simp [valOp, so_t, so_k, so, setS_fr, setS_ob, newS_fr, newS_ob, refOf, kill_fr, kill_ob, init_fr, init_ob, mask_none, mask_some, upd_apply, killSV, killOb, *] <;> first | with_reducible exact rfl | with_reducible exact ⟨rfl, rfl⟩ | with_reducible exact ⟨by omega, rfl⟩))
   | ((with_reducible apply c_faddr); (· simp [valOp, so_t, so_k, so, setS_fr, setS_ob, newS_fr, newS_ob, refOf, kill_fr, kill_ob, init_fr, init_ob, mask_none, mask_some, upd_apply, killSV, killOb, *] <;> first | with_reducible exact rfl | with_reducible exact ⟨rfl, rfl⟩ | with_reducible exact ⟨by omega, rfl⟩))
   | ((with_reducible apply c_iaddr); (· simp [valOp, iaddrV, idxOf, cellsN, CV.cells, so_t, so_k, so, setS_fr, setS_ob, newS_fr, newS_ob, refOf, kill_fr, kill_ob, init_fr, init_ob, mask_none, mask_some, upd_apply, killSV, killOb, *] <;> first | with_reducible exact rfl | with_reducible exact ⟨rfl, rfl⟩ | with_reducible exact ⟨by omega, rfl⟩))
   | ((with_reducible apply c_load); (· simp [valOp, loadV, partC, allM, closed, CV.cells, so_t, so_k, so, setS_fr, setS_ob, newS_fr, newS_ob, refOf, kill_fr, kill_ob, init_fr, init_ob, mask_none, mask_some, upd_apply, killSV, killOb, *] <;> first | with_reducible exact rfl | with_reducible exact ⟨rfl, rfl⟩ | with_reducible exact ⟨by omega, rfl⟩))
   | ((with_reducible apply c_len); (· simp [valOp, lenV, so_t, so_k, so, setS_fr, setS_ob, newS_fr, newS_ob, refOf, kill_fr, kill_ob, init_fr, init_ob, mask_none, mask_some, upd_apply, killSV, killOb, *] <;> first | with_reducible exact rfl | with_reducible exact ⟨rfl, rfl⟩ | with_reducible exact ⟨by omega, rfl⟩))
   | ((with_reducible apply c_slice); (· simp [valOp, bound, cellsN, so_t, so_k, so, setS_fr, setS_ob, newS_fr, newS_ob, refOf, kill_fr, kill_ob, init_fr, init_ob, mask_none, mask_some, upd_apply, killSV, killOb, *] <;> first | with_reducible exact rfl | with_reducible exact ⟨rfl, rfl⟩ | with_reducible exact ⟨by omega, rfl⟩))
   | ((with_reducible apply c_call); (· simp [allM, close, so_t, so_k, so, setS_fr, setS_ob, newS_fr, newS_ob, refOf, kill_fr, kill_ob, init_fr, init_ob, mask_none, mask_some, upd_apply, killSV, killOb, *] <;> first | with_reducible exact rfl | with_reducible exact ⟨rfl, rfl⟩ | with_reducible exact ⟨by omega, rfl⟩); (· simp [so_t, so_k, so, setS_fr, setS_ob, newS_fr, newS_ob, refOf, kill_fr, kill_ob, init_fr, init_ob, mask_none, mask_some, upd_apply, killSV, killOb, *] <;> first | with_reducible exact rfl | with_reducible exact ⟨rfl, rfl⟩ | with_reducible exact ⟨by omega, rfl⟩); (· simp [isC, memless, memlessL, so_t, so_k, so, setS_fr, setS_ob, newS_fr, newS_ob, refOf, kill_fr, kill_ob, init_fr, init_ob, mask_none, mask_some, upd_apply, killSV, killOb, *]; done))
   | ((with_reducible apply c_callN); (· simp [allM, close, so_t, so_k, so, setS_fr, setS_ob, newS_fr, newS_ob, refOf, kill_fr, kill_ob, init_fr, init_ob, mask_none, mask_some, upd_apply, killSV, killOb, *] <;> first | with_reducible exact rfl | with_reducible exact ⟨rfl, rfl⟩ | with_reducible exact ⟨by omega, rfl⟩); (· simp [so_t, so_k, so, setS_fr, setS_ob, newS_fr, newS_ob, refOf, kill_fr, kill_ob, init_fr, init_ob, mask_none, mask_some, upd_apply, killSV, killOb, *] <;> first | with_reducible exact rfl | with_reducible exact ⟨rfl, rfl⟩ | with_reducible exact ⟨by omega, rfl⟩); (· simp [isC, Res.memless, memless, memlessL, so_t, so_k, so, setS_fr, setS_ob, newS_fr, newS_ob, refOf, kill_fr, kill_ob, init_fr, init_ob, mask_none, mask_some, upd_apply, killSV, killOb, *]; done); (· simp [so_t, so_k, so, setS_fr, setS_ob, newS_fr, newS_ob, refOf, kill_fr, kill_ob, init_fr, init_ob, mask_none, mask_some, upd_apply, killSV, killOb, *]; done))
   | ((with_reducible apply c_new); (· rfl); (· simp [newOp, allM, closed, cellsN, so_t, so_k, so, setS_fr, setS_ob, newS_fr, newS_ob, refOf, kill_fr, kill_ob, init_fr, init_ob, mask_none, mask_some, upd_apply, killSV, killOb, *] <;> first | with_reducible exact rfl | with_reducible exact ⟨rfl, rfl⟩ | with_reducible exact ⟨by omega, rfl⟩); (· simp [so_t, so_k, so, setS_fr, setS_ob, newS_fr, newS_ob, refOf, kill_fr, kill_ob, init_fr, init_ob, mask_none, mask_some, upd_apply, killSV, killOb, *]; done))
   | ((with_reducible apply c_eff); (· rfl); (· simp [effOp, setCells, oneS, oneC, St.set, newsOf, putC, cellsN, CV.cells, so_t, so_k, so, setS_fr, setS_ob, newS_fr, newS_ob, refOf, kill_fr, kill_ob, init_fr, init_ob, mask_none, mask_some, upd_apply, killSV, killOb, *] <;> first | with_reducible exact rfl | with_reducible exact ⟨rfl, rfl⟩ | with_reducible exact ⟨by omega, rfl⟩))
   | ((with_reducible apply c_guard); (· simp [so_t, so_k, so, setS_fr, setS_ob, newS_fr, newS_ob, refOf, kill_fr, kill_ob, init_fr, init_ob, mask_none, mask_some, upd_apply, killSV, killOb, *] <;> first | with_reducible exact rfl | with_reducible exact ⟨rfl, rfl⟩ | with_reducible exact ⟨by omega, rfl⟩))
   | ((with_reducible apply p_if); (· simp [so_t, so_k, so, setS_fr, setS_ob, newS_fr, newS_ob, refOf, kill_fr, kill_ob, init_fr, init_ob, mask_none, mask_some, upd_apply, killSV, killOb, *] <;> first | with_reducible exact rfl | with_reducible exact ⟨rfl, rfl⟩ | with_reducible exact ⟨by omega, rfl⟩))
   | ((with_reducible apply g_split); all_goals (intro hb; try simp only [decide_eq_true_eq, decide_eq_false_iff_not, Bool.not_eq_true] at hb))
   | ((with_reducible apply k_split); all_goals (intro hb; try simp only [decide_eq_true_eq, decide_eq_false_iff_not, Bool.not_eq_true] at hb)))
  all_goals (refine ⟨rfl, ?_, ?_⟩ <;> simp [setS_fr, setS_ob, newS_fr, newS_ob])
 obtain ⟨x', st1, z1, hx, ⟨rfl, h1, h2⟩, hS1⟩ := hp
 subst hx
 refine wp_seq (wp_mono (code_sound hE pC1 cC1 hS1 (Q := fun x st => x = .ret ∧ st.fr 2 = .c (.str [])) ?_) fun x a2 w2 hp => ?_)
 ·unfold scC1
  simp only [List.map_cons, List.map_nil] at h2
  repeat' (first
   | with_reducible apply p_seq
   | with_reducible apply then_normal
   | with_reducible apply then_exit
   | with_reducible apply then_ret
   | with_reducible apply block_normal
   | with_reducible apply block_exit
   | with_reducible apply block_ret
   | with_reducible apply turn_exit
   | with_reducible apply turn_ret
   | with_reducible apply p_skip
   | with_reducible apply p_exit
   | with_reducible apply p_ret
   | with_reducible apply p_block
   | with_reducible apply p_reg0
   | with_reducible apply p_reg1
   | with_reducible apply c_nil
   | with_reducible apply g_tt
   | with_reducible apply g_ff
   | with_reducible apply g_tf
   | with_reducible apply g_ft
   | with_reducible apply g_sk
   | with_reducible apply k_t
   | with_reducible apply k_f
   | ((with_reducible apply block_past); (· decide))
   | ((with_reducible apply c_mov); (· simp [valOp, so_t, so_k, so, setS_fr, setS_ob, newS_fr, newS_ob, refOf, kill_fr, kill_ob, init_fr, init_ob, mask_none, mask_some, upd_apply, killSV, killOb, *] <;> first | with_reducible exact rfl | with_reducible exact ⟨rfl, rfl⟩ | with_reducible exact ⟨by omega, rfl⟩))
   | ((with_reducible apply c_bin); (· simp [valOp, binC, binI, cmpB, binS, so_t, so_k, so, setS_fr, setS_ob, newS_fr, newS_ob, refOf, kill_fr, kill_ob, init_fr, init_ob, mask_none, mask_some, upd_apply, killSV, killOb, *] <;> first | with_reducible exact rfl | with_reducible exact ⟨rfl, rfl⟩ | with_reducible exact ⟨by omega, rfl⟩))
   | ((with_reducible apply c_un); (· simp [valOp, unC, so_t, so_k, so, setS_fr, setS_ob, newS_fr, newS_ob, refOf, kill_fr, kill_ob, init_fr, init_ob, mask_none, mask_some, upd_apply, killSV, killOb, *] <;> first | with_reducible exact rfl | with_reducible exact ⟨rfl, rfl⟩ | with_reducible exact ⟨by omega, rfl⟩))
   | ((with_reducible apply c_cvi); (· simp [valOp, so_t, so_k, so, setS_fr, setS_ob, newS_fr, newS_ob, refOf, kill_fr, kill_ob, init_fr, init_ob, mask_none, mask_some, upd_apply, killSV, killOb, *] <;> first | with_reducible exact rfl | with_reducible exact ⟨rfl, rfl⟩ | with_reducible exact ⟨by omega, rfl⟩))
   | ((with_reducible apply c_faddr); (· simp [valOp, so_t, so_k, so, setS_fr, setS_ob, newS_fr, newS_ob, refOf, kill_fr, kill_ob, init_fr, init_ob, mask_none, mask_some, upd_apply, killSV, killOb, *] <;> first | with_reducible exact rfl | with_reducible exact ⟨rfl, rfl⟩ | with_reducible exact ⟨by omega, rfl⟩))
   | ((with_reducible apply c_iaddr); (· simp [valOp, iaddrV, idxOf, cellsN, CV.cells, so_t, so_k, so, setS_fr, setS_ob, newS_fr, newS_ob, refOf, kill_fr, kill_ob, init_fr, init_ob, mask_none, mask_some, upd_apply, killSV, killOb, *] <;> first | with_reducible exact rfl | with_reducible exact ⟨rfl, rfl⟩ | with_reducible exact ⟨by omega, rfl⟩))
   | ((with_reducible apply c_load); (· simp [valOp, loadV, partC, allM, closed, CV.cells, so_t, so_k, so, setS_fr, setS_ob, newS_fr, newS_ob, refOf, kill_fr, kill_ob, init_fr, init_ob, mask_none, mask_some, upd_apply, killSV, killOb, *] <;> first | with_reducible exact rfl | with_reducible exact ⟨rfl, rfl⟩ | with_reducible exact ⟨by omega, rfl⟩))
   | ((with_reducible apply c_len); (· simp [valOp, lenV, so_t, so_k, so, setS_fr, setS_ob, newS_fr, newS_ob, refOf, kill_fr, kill_ob, init_fr, init_ob, mask_none, mask_some, upd_apply, killSV, killOb, *] <;> first | with_reducible exact rfl | with_reducible exact ⟨rfl, rfl⟩ | with_reducible exact ⟨by omega, rfl⟩))
   | ((with_reducible apply c_slice); (· simp [valOp, bound, cellsN, so_t, so_k, so, setS_fr, setS_ob, newS_fr, newS_ob, refOf, kill_fr, kill_ob, init_fr, init_ob, mask_none, mask_some, upd_apply, killSV, killOb, *] <;> first | with_reducible exact rfl | with_reducible exact ⟨rfl, rfl⟩ | with_reducible exact ⟨by omega, rfl⟩))
   | ((with_reducible apply c_call); (· simp [allM, close, so_t, so_k, so, setS_fr, setS_ob, newS_fr, newS_ob, refOf, kill_fr, kill_ob, init_fr, init_ob, mask_none, mask_some, upd_apply, killSV, killOb, *] <;> first | with_reducible exact rfl | with_reducible exact ⟨rfl, rfl⟩ | with_reducible exact ⟨by omega, rfl⟩); (· simp [so_t, so_k, so, setS_fr, setS_ob, newS_fr, newS_ob, refOf, kill_fr, kill_ob, init_fr, init_ob, mask_none, mask_some, upd_apply, killSV, killOb, *] <;> first | with_reducible exact rfl | with_reducible exact ⟨rfl, rfl⟩ | with_reducible exact ⟨by omega, rfl⟩); (· simp [isC, memless, memlessL, so_t, so_k, so, setS_fr, setS_ob, newS_fr, newS_ob, refOf, kill_fr, kill_ob, init_fr, init_ob, mask_none, mask_some, upd_apply, killSV, killOb, *]; done))
   | ((with_reducible apply c_callN); (· simp [allM, close, so_t, so_k, so, setS_fr, setS_ob, newS_fr, newS_ob, refOf, kill_fr, kill_ob, init_fr, init_ob, mask_none, mask_some, upd_apply, killSV, killOb, *] <;> first | with_reducible exact rfl | with_reducible exact ⟨rfl, rfl⟩ | with_reducible exact ⟨by omega, rfl⟩); (· simp [so_t, so_k, so, setS_fr, setS_ob, newS_fr, newS_ob, refOf, kill_fr, kill_ob, init_fr, init_ob, mask_none, mask_some, upd_apply, killSV, killOb, *] <;> first | with_reducible exact rfl | with_reducible exact ⟨rfl, rfl⟩ | with_reducible exact ⟨by omega, rfl⟩); (· simp [isC, Res.memless, memless, memlessL, so_t, so_k, so, setS_fr, setS_ob, newS_fr, newS_ob, refOf, kill_fr, kill_ob, init_fr, init_ob, mask_none, mask_some, upd_apply, killSV, killOb, *]; done); (· simp [so_t, so_k, so, setS_fr, setS_ob, newS_fr, newS_ob, refOf, kill_fr, kill_ob, init_fr, init_ob, mask_none, mask_some, upd_apply, killSV, killOb, *]; done))
   | ((with_reducible apply c_new); (· rfl); (· simp [newOp, allM, closed, cellsN, so_t, so_k, so, setS_fr, setS_ob, newS_fr, newS_ob, refOf, kill_fr, kill_ob, init_fr, init_ob, mask_none, mask_some, upd_apply, killSV, killOb, *] <;> first | with_reducible exact rfl | with_reducible exact ⟨rfl, rfl⟩ | with_reducible exact ⟨by omega, rfl⟩); (· simp [so_t, so_k, so, setS_fr, setS_ob, newS_fr, newS_ob, refOf, kill_fr, kill_ob, init_fr, init_ob, mask_none, mask_some, upd_apply, killSV, killOb, *]; done))
   | ((with_reducible apply c_eff); (· rfl); (· simp [effOp, setCells, oneS, oneC, St.set, newsOf, putC, cellsN, CV.cells, so_t, so_k, so, setS_fr, setS_ob, newS_fr, newS_ob, refOf, kill_fr, kill_ob, init_fr, init_ob, mask_none, mask_some, upd_apply, killSV, killOb, *] <;> first | with_reducible exact rfl | with_reducible exact ⟨rfl, rfl⟩ | with_reducible exact ⟨by omega, rfl⟩))
   | ((with_reducible apply c_guard); (· simp [so_t, so_k, so, setS_fr, setS_ob, newS_fr, newS_ob, refOf, kill_fr, kill_ob, init_fr, init_ob, mask_none, mask_some, upd_apply, killSV, killOb, *] <;> first | with_reducible exact rfl | with_reducible exact ⟨rfl, rfl⟩ | with_reducible exact ⟨by omega, rfl⟩))
   | ((with_reducible apply p_if); (· simp [so_t, so_k, so, setS_fr, setS_ob, newS_fr, newS_ob, refOf, kill_fr, kill_ob, init_fr, init_ob, mask_none, mask_some, upd_apply, killSV, killOb, *] <;> first | with_reducible exact rfl | with_reducible exact ⟨rfl, rfl⟩ | with_reducible exact ⟨by omega, rfl⟩))
   | ((with_reducible apply g_split); all_goals (intro hb; try simp only [decide_eq_true_eq, decide_eq_false_iff_not, Bool.not_eq_true] at hb))
   | ((with_reducible apply k_split); all_goals (intro hb; try simp only [decide_eq_true_eq, decide_eq_false_iff_not, Bool.not_eq_true] at hb)))
  all_goals (refine ⟨rfl, ?_⟩ <;> simp [setS_fr, setS_ob, newS_fr, newS_ob, h1, h2])
 obtain ⟨x', st2, z2, hx, ⟨rfl, h1⟩, hS2⟩ := hp
 subst hx
 exact ⟨rfl, st2, z2, hS2, by simp [resOf, allM, oneRes, packRes, h1, close]⟩
end
end WB
namespace WB
open Go Go.RowKit Go.Proofs
abbrev tIt : Ty := .agg (.cons .str (.one (.int .i64)))
abbrev tPp : Ty := .agg (.cons (.int .u32) (.cons (.int .i64) (.cons (.sl tIt) (.one (.int .i64)))))
theorem pp_form {x : D tPp} {c : CV} (h : Can tPp x [c]) : ∃ nl, c = .agg [.int .u32 x.1, .int .i64 x.2.1, .sl nl (x.2.2.1.map itC), .int .i64 x.2.2.2] := by
 unfold Can at h
 obtain ⟨l, e, h⟩ := h
 cases e
 unfold Can at h
 obtain ⟨c1, l1, rfl, h1, h⟩ := h
 unfold Can at h1
 cases h1
 unfold Can at h
 obtain ⟨c2, l2, rfl, h1, h⟩ := h
 unfold Can at h1
 cases h1
 unfold Can at h
 obtain ⟨c3, l3, rfl, h1, h⟩ := h
 unfold Can at h1
 obtain ⟨nl, es, e, h1⟩ := h1
 cases e
 unfold Can at h
 obtain ⟨c4, rfl, h⟩ := h
 unfold Can at h
 cases h
 exact ⟨nl, by rw [items_form h1]; rfl⟩
theorem text_loop : ∀ (its : List (List UInt8 × Int)) (acc t : List UInt8), paper_Text_loop its acc = some t → (∀ x ∈ its, cents_Text x.2 = some ((cents_Text x.2).getD [])) ∧ t = acc ++ bodyT (fun v => (cents_Text v).getD []) its
 | [], acc, t, h => by
  unfold paper_Text_loop at h
  cases h
  exact ⟨by simp, by simp [bodyT]⟩
 | x :: its, acc, t, h => by
  unfold paper_Text_loop at h
  obtain ⟨u, h1, h2⟩ := Option.bind_eq_some_iff.1 h
  obtain ⟨h3, h4⟩ := text_loop its _ t h2
  refine ⟨fun y hy => ?_, ?_⟩
  ·rcases List.mem_cons.1 hy with e | e
   ·subst e; rw [h1]; rfl
   ·exact h3 y e
  ·rw [h4]
   simp only [bodyT, itemT, h1, Option.getD_some, List.append_assoc]
theorem paper_Text_ok {B : TB} {L : List (FuncId × Sig)} (h : GoodT Tryz.prog B L) (q30 : lookS L 14 = some ⟨.one tPp, .bool, paper_Paper_right⟩) (q38 : lookS L 16 = some ⟨.cons (.int .u64) (.one (.int .i64)), .str, strconv_FormatUint⟩) (q39 : lookS L 17 = some ⟨.one (.int .i64), .str, strconv_Itoa⟩) (q40 : lookS L 18 = some ⟨.one (.int .i64), .str, cents_Text⟩)
  (hW : WriteC Tryz.prog 15 50 5) (hSt : StringC Tryz.prog 19 50 5) {x : D (.one tPp)} {l : List CV} {y : D .str} (hx : Can (.one tPp) x l) (hy : paper_Paper_Text x = some y) : hasBody Tryz.prog 6 = true ∧ CallsTo Tryz.prog B.G 6 l (.val (enc .str y)) := by
 have hx0 := hx
 unfold Can at hx
 obtain ⟨c, rfl, hx⟩ := hx
 obtain ⟨nl, rfl⟩ := pp_form hx
 obtain ⟨p, yr, its, am⟩ := x
 simp only at hx0 hx
 unfold paper_Paper_Text at hy
 obtain ⟨b, h1, hy⟩ := Option.bind_eq_some_iff.1 hy
 have hR := envT_fn (X := tp B L) (tp_T.2 ⟨q30, rfl⟩) hx0 h1
 have e1 : ∀ (v : Int), Can (.one (.int .i64)) v [.int .i64 v] := fun v => by unfold Can; exact ⟨_, rfl, by unfold Can; rfl⟩
 cases b with
 | false =>
  simp only [Bool.false_eq_true, if_false, Option.some.injEq] at hy
  subst hy
  exact text_no h.E hR
 | true =>
  simp only [if_true] at hy
  obtain ⟨su, h2, hy⟩ := Option.bind_eq_some_iff.1 hy
  obtain ⟨sy, h3, hy⟩ := Option.bind_eq_some_iff.1 hy
  obtain ⟨sa, h4, hy⟩ := Option.bind_eq_some_iff.1 hy
  obtain ⟨t, h5, hy⟩ := Option.bind_eq_some_iff.1 hy
  simp only [Option.ite_none_right_eq_some, Option.some.injEq] at hy
  obtain ⟨⟨k1, k2⟩, rfl⟩ := hy
  obtain ⟨k3, k4⟩ := text_loop its _ t h5
  subst k4
  have hU := envT_fn (X := tp B L) (tp_T.2 ⟨q38, rfl⟩) (x := (IntKind.u64.wrap p, (10 : Int))) (l := [.int .u64 (IntKind.u64.wrap p), .int .i64 10]) (by unfold Can; exact ⟨_, _, rfl, by unfold Can; rfl, e1 10⟩) h2
  have hY := envT_fn (X := tp B L) (tp_T.2 ⟨q39, rfl⟩) (e1 yr) h3
  have hA := envT_fn (X := tp B L) (tp_T.2 ⟨q39, rfl⟩) (e1 am) h4
  exact text_ok h.E hW hSt hR hU hY hA (fun z hz => envT_fn (X := tp B L) (tp_T.2 ⟨q40, rfl⟩) (e1 z.2) (k3 z hz)) k1 k2
abbrev tSlip : Ty := .agg (.cons (.int .i64) (.cons (.int .i64) (.one (.sl (.agg (.cons (.int .i64) (.cons .str (.one (.int .i64)))))))))
theorem paper_coded_ok {B : TB} {L : List (FuncId × Sig)} (h : GoodT Tryz.prog B L) (q56 : lookS L 24 = some ⟨.cons .str (.one .str), .tup (.cons .str (.cons .str (.one .bool))), strings_Cut⟩) (q57 : lookS L 52 = some ⟨.cons (.sl .str) (.one .str), .int .i64, slices_Index⟩) (q28 : lookS L 49 = some ⟨.one tSlip, .int .i64, slip_Check⟩)
  (hB : B.G 0 = paper_words.map CV.str) {x : D (.one .str)} {l : List CV} {y : D .bool} (hx : Can (.one .str) x l) (hy : paper_coded x = some y) : hasBody Tryz.prog 36 = true ∧ CallsTo Tryz.prog B.G 36 l (.val (enc .bool y)) := by
 unfold Can at hx
 obtain ⟨c, rfl, hx⟩ := hx
 unfold Can at hx
 cases hx
 unfold paper_coded at hy
 obtain ⟨cu, h1, hy⟩ := Option.bind_eq_some_iff.1 hy
 obtain ⟨i, h2, hy⟩ := Option.bind_eq_some_iff.1 hy
 obtain ⟨a, r, f⟩ := cu
 simp only at h2 hy
 have cs : ∀ (v : List UInt8), Can .str v [.str v] := fun v => by unfold Can; rfl
 have cs1 : ∀ (v : List UInt8), Can (.one .str) v [.str v] := fun v => by unfold Can; exact ⟨_, rfl, cs v⟩
 have ci : ∀ (v : Int), Can (.int .i64) v [.int .i64 v] := fun v => by unfold Can; rfl
 have ci1 : ∀ (v : Int), Can (.one (.int .i64)) v [.int .i64 v] := fun v => by unfold Can; exact ⟨_, rfl, ci v⟩
 have hG : so (envT (tp B L)).G (fun _ => SV.undef) (.g 0) = .c (.rp (paper_words.map CV.str)) := by
  have : (envT (tp B L)).G 0 = paper_words.map CV.str := hB
  simp only [so, this]
  rfl
 have hCut := envT_fn (X := tp B L) (tp_T.2 ⟨q56, rfl⟩) (x := (x, ([47] : List UInt8))) (l := [.str x, .str [47]]) (by unfold Can; exact ⟨_, _, rfl, cs x, cs1 [47]⟩) h1
 have hIx := envT_fn (X := tp B L) (tp_T.2 ⟨q57, rfl⟩) (x := (paper_words, a)) (l := [.sl (some false) (paper_words.map CV.str), .str a]) (by unfold Can; exact ⟨_, _, rfl, by unfold Can; exact ⟨_, _, rfl, strs_can _⟩, cs1 a⟩) h2
 have fin : ∀ (e : Int), (0 ≤ i → (envT (tp B L)).fn 49 [.agg [.int .i64 1900, .int .i64 1, .sl none [.agg [.int .i64 i, .str r, .int .i64 1]]]] = some (.val (.int .i64 e))) → hasBody Tryz.prog 36 = true ∧ CallsTo Tryz.prog B.G 36 [.str x] (.val (enc .bool (decide (0 ≤ i) && (e == 0)))) := fun e he =>
  fn_okT h.E cm36 (show 1 ≤ m36.n by decide) (w46 hG (by rfl) (strs_all _) hCut hIx he)
 by_cases hi : (0 : Int) ≤ i
 ·rw [if_pos hi] at hy
  obtain ⟨e, h3, hy⟩ := Option.bind_eq_some_iff.1 hy
  cases hy
  have := fin e (fun _ => envT_fn (X := tp B L) (tp_T.2 ⟨q28, rfl⟩) (x := ((1900 : Int), (1 : Int), [(i, r, (1 : Int))])) (by
   unfold Can
   refine ⟨_, rfl, ?_⟩
   unfold Can
   refine ⟨_, rfl, ?_⟩
   unfold Can
   refine ⟨_, _, rfl, ci _, ?_⟩
   unfold Can
   refine ⟨_, _, rfl, ci _, ?_⟩
   unfold Can
   refine ⟨_, rfl, ?_⟩
   unfold Can
   refine ⟨_, _, rfl, _, _, rfl, ?_, rfl⟩
   unfold Can
   refine ⟨_, rfl, ?_⟩
   unfold Can
   refine ⟨_, _, rfl, ci _, ?_⟩
   unfold Can
   exact ⟨_, _, rfl, cs _, ci1 _⟩) h3)
  rwa [decide_eq_true hi, Bool.true_and] at this
 ·rw [if_neg hi] at hy
  cases hy
  have := fin 0 (fun hh => absurd hh hi)
  rwa [decide_eq_false hi, Bool.false_and] at this
end WB

