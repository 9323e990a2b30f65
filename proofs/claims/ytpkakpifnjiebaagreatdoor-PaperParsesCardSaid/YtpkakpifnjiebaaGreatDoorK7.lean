/-
 paper.coded: what it reckons (walked by hand: it makes a slice under a guard); slices.Clone.
-/
import Derived.Test.YtpkakpifnjiebaaGreatDoorK4
import Derived.Test.YtpkakpifnjiebaaGreatDoorK3
import Derived.Test.YtpkakpifnjiebaaGreatDoorProg
import Derived.KernelRfl
set_option linter.unusedVariables false
set_option linter.unusedSimpArgs false
namespace WB
open Go Go.RowKit Go.Proofs
def m36 : Model := ⟨27, (.seq (.reg false [] [⟨(some 2), (.mov (.k (.bool false))), none⟩]) (.seq (.reg false [] [⟨(some 8), (.mov (.t 0)), none⟩, ⟨(some 9), (.call 24 [(.t 8), (.k (.str [47]))]), none⟩, ⟨(some 7), (.mov (.t 9)), none⟩, ⟨(some 10), (.ext (.t 7) 0), none⟩, ⟨(some 11), (.ext (.t 7) 1), none⟩, ⟨(some 12), (.ext (.t 7) 2), none⟩, ⟨(some 3), (.mov (.t 10)), none⟩, ⟨(some 4), (.mov (.t 11)), none⟩, ⟨(some 5), (.mov (.t 12)), none⟩]) (.seq (.reg false [] [⟨(some 13), (.asl 7 (.g 0)), none⟩, ⟨(some 14), (.mov (.t 3)), none⟩, ⟨(some 15), (.call 52 [(.t 13), (.t 14)]), none⟩, ⟨(some 6), (.mov (.t 15)), none⟩]) (.seq (.reg false [22] [⟨(some 16), (.mov (.t 6)), none⟩, ⟨(some 17), (.bin .geq (.t 16) (.k (.int .i64 0))), none⟩, ⟨(some 18), (.mov (.t 17)), none⟩, ⟨(some 19), (.mov (.t 6)), (some (18, true))⟩, ⟨(some 20), (.mov (.t 4)), (some (18, true))⟩, ⟨(some 21), (.build [(.int .i64 0), (.str []), (.int .i64 0)] [(0, (1, (.t 19))), (1, (1, (.t 20))), (2, (1, (.k (.int .i64 1))))]), (some (18, true))⟩, ⟨(some 22), (.mksl 43 3 [(.t 21)]), (some (18, true))⟩, ⟨(some 23), (.build [(.int .i64 0), (.int .i64 0), (.sl (some true) [])] [(0, (1, (.k (.int .i64 1900)))), (1, (1, (.k (.int .i64 1)))), (2, (1, (.t 22)))]), (some (18, true))⟩, ⟨(some 24), (.call 49 [(.t 23)]), (some (18, true))⟩, ⟨(some 25), (.bin .eql (.t 24) (.k (.int .i64 0))), (some (18, true))⟩, ⟨(some 26), (.pick (.t 18) (.t 25) (.k (.bool false))), none⟩, ⟨(some 2), (.mov (.t 26)), none⟩]) .ret)))), [(.tmp 2)]⟩
theorem cm36 : compF Tryz.prog 36 = some m36 := by kernel_rfl
theorem pwpS_of {E : Env} : ∀ (c : SCode) {Q : Ex → St → Prop} {st : St}, pwp E c Q st → pwpS E c Q st
 | .skip, Q, st, h => ⟨st, Seen.refl st, h⟩
 | .reg d D ls, Q, st, ⟨s, h1, h2⟩ => pwpS_reg h1 h2
 | .seq a b, Q, st, h => ⟨st, Seen.refl st, pwpS_mono a (fun e s hs => by
   cases e with
   | normal => exact pwpS_of b hs
   | exit i => exact hs
   | ret => exact hs) (pwpS_of a h)⟩
 | .cond c x y, Q, st, ⟨b, h1, h2, h3⟩ => ⟨st, Seen.refl st, b, h1, fun hb => pwpS_of x (h2 hb), fun hb => pwpS_of y (h3 hb)⟩
 | .block id c, Q, st, h => ⟨st, Seen.refl st, pwpS_of c h⟩
 | .loop c, Q, st, ⟨R, h1, h2⟩ => ⟨st, Seen.refl st, R, h1, fun m s hs => pwpS_of c (h2 m s hs)⟩
 | .exit i, Q, st, h => ⟨st, Seen.refl st, h⟩
 | .ret, Q, st, h => ⟨st, Seen.refl st, h⟩
 | .bad, Q, st, h => h.elim
theorem runS_cut {E : Env} {post : List SL} {Q : St → Prop} {st2 : St} : ∀ {pre : List SL} {st st1 : St}, evalLs E none pre st = some st1 → Seen st1 st2 → runS E post Q st2 → runS E (pre ++ post) Q st
 | [], st, st1, h, hs, hr => by
  cases h
  exact runS_seen hs hr
 | l :: pre, st, st1, h, hs, hr => by
  simp only [evalLs] at h
  obtain ⟨s, h1, h2⟩ := Option.bind_eq_some_iff.1 h
  exact ⟨st, Seen.refl st, s, h1, runS_cut h2 hs hr⟩
theorem runS_pLs {E : Env} {ls : List SL} {Q : St → Prop} {st : St} (h : pLs E none ls Q st) : runS E ls Q st := by
 obtain ⟨s, h1, h2⟩ := h
 exact runS_of h1 h2
section
variable {E : Env}
theorem s_seq {A B : SCode} {Q : Ex → St → Prop} {st : St} (I : St → Prop) (hA : pwp E A (fun e s => e = .normal ∧ I s) st) (hB : ∀ s, I s → pwpS E B Q s) : pwpS E (.seq A B) Q st :=
 ⟨st, Seen.refl st, pwpS_mono A (fun e s hs => by
  obtain ⟨rfl, h⟩ := hs
  exact hB s h) (pwpS_of A hA)⟩
theorem w46 {s a r : List UInt8} {f : Bool} {i e : Int} {ws : List CV} (hG : so E.G (fun _ => .undef) (.g 0) = .c (.rp ws)) (hw : ws.length = 7) (hws : ws.all isStr = true) (hCut : E.fn 24 [.str s, .str [47]] = some (.val (.tup [.str a, .str r, .bool f]))) (hIx : E.fn 52 [.sl (some false) ws, .str a] = some (.val (.int .i64 i)))
  (hCk : 0 ≤ i → E.fn 49 [.agg [.int .i64 1900, .int .i64 1, .sl none [.agg [.int .i64 i, .str r, .int .i64 1]]]] = some (.val (.int .i64 e))) :
  pwpS E m36.code (finT m36.res .bool (decide (0 ≤ i) && (e == 0))) (init [.str s]) := by
 unfold m36
 dsimp only
 refine s_seq (fun st => st.fr 0 = .c (.str s)) ?_ fun st1 h0 => ?_
 ·repeat' (first
   | with_reducible apply p_seq
   | with_reducible apply then_normal
   | with_reducible apply then_exit
   | with_reducible apply then_ret
   | with_reducible apply block_normal
   | with_reducible apply block_exit
   | with_reducible apply block_ret
   | with_reducible apply turn_exit
   | with_reducible apply turn_ret
   | with_reducible apply p_skip
   | with_reducible apply p_exit
   | with_reducible apply p_ret
   | with_reducible apply p_block
   | with_reducible apply p_reg0
   | with_reducible apply p_reg1
   | with_reducible apply c_nil
   | with_reducible apply g_tt
   | with_reducible apply g_ff
   | with_reducible apply g_tf
   | with_reducible apply g_ft
   | with_reducible apply g_sk
   | with_reducible apply k_t
   | with_reducible apply k_f
   | ((with_reducible apply block_past); (· decide))
   | ((with_reducible apply c_mov); (· simp [valOp, so_t, so_k, so, setS_fr, setS_ob, newS_fr, newS_ob, refOf, kill_fr, kill_ob, init_fr, init_ob, mask_none, mask_some, upd_apply, killSV, killOb, *] <;> first | with_reducible exact rfl | with_reducible exact ⟨rfl, rfl⟩ | with_reducible exact ⟨by omega, rfl⟩))
   | ((with_reducible apply c_pick); (· simp [valOp, so_t, so_k, so, setS_fr, setS_ob, newS_fr, newS_ob, refOf, kill_fr, kill_ob, init_fr, init_ob, mask_none, mask_some, upd_apply, killSV, killOb, *] <;> first | with_reducible exact rfl | with_reducible exact ⟨rfl, rfl⟩ | with_reducible exact ⟨by omega, rfl⟩))
   | ((with_reducible apply c_bin); (· simp [valOp, binC, binI, cmpB, binS, so_t, so_k, so, setS_fr, setS_ob, newS_fr, newS_ob, refOf, kill_fr, kill_ob, init_fr, init_ob, mask_none, mask_some, upd_apply, killSV, killOb, *] <;> first | with_reducible exact rfl | with_reducible exact ⟨rfl, rfl⟩ | with_reducible exact ⟨by omega, rfl⟩))
   | ((with_reducible apply c_build); (· simp [valOp, allM, closed, fillC, cellsN, CV.cells, so_t, so_k, so, setS_fr, setS_ob, newS_fr, newS_ob, refOf, kill_fr, kill_ob, init_fr, init_ob, mask_none, mask_some, upd_apply, killSV, killOb, *] <;> first | with_reducible exact rfl | with_reducible exact ⟨rfl, rfl⟩ | with_reducible exact ⟨by omega, rfl⟩))
   | ((with_reducible apply c_ext); (· simp [valOp, so_t, so_k, so, setS_fr, setS_ob, newS_fr, newS_ob, refOf, kill_fr, kill_ob, init_fr, init_ob, mask_none, mask_some, upd_apply, killSV, killOb, *] <;> first | with_reducible exact rfl | with_reducible exact ⟨rfl, rfl⟩ | with_reducible exact ⟨by omega, rfl⟩))
   | ((with_reducible apply c_call); (· simp [allM, close, so_t, so_k, so, setS_fr, setS_ob, newS_fr, newS_ob, refOf, kill_fr, kill_ob, init_fr, init_ob, mask_none, mask_some, upd_apply, killSV, killOb, *] <;> first | with_reducible exact rfl | with_reducible exact ⟨rfl, rfl⟩ | with_reducible exact ⟨by omega, rfl⟩); (· simp [so_t, so_k, so, setS_fr, setS_ob, newS_fr, newS_ob, refOf, kill_fr, kill_ob, init_fr, init_ob, mask_none, mask_some, upd_apply, killSV, killOb, *] <;> first | with_reducible exact rfl | with_reducible exact ⟨rfl, rfl⟩ | with_reducible exact ⟨by omega, rfl⟩); (· simp [isC, memless, memlessL, so_t, so_k, so, setS_fr, setS_ob, newS_fr, newS_ob, refOf, kill_fr, kill_ob, init_fr, init_ob, mask_none, mask_some, upd_apply, killSV, killOb, *]; done))
   | ((with_reducible apply c_callN); (· simp [allM, close, so_t, so_k, so, setS_fr, setS_ob, newS_fr, newS_ob, refOf, kill_fr, kill_ob, init_fr, init_ob, mask_none, mask_some, upd_apply, killSV, killOb, *] <;> first | with_reducible exact rfl | with_reducible exact ⟨rfl, rfl⟩ | with_reducible exact ⟨by omega, rfl⟩); (· simp [so_t, so_k, so, setS_fr, setS_ob, newS_fr, newS_ob, refOf, kill_fr, kill_ob, init_fr, init_ob, mask_none, mask_some, upd_apply, killSV, killOb, *] <;> first | with_reducible exact rfl | with_reducible exact ⟨rfl, rfl⟩ | with_reducible exact ⟨by omega, rfl⟩); (· simp [isC, Res.memless, memless, memlessL, so_t, so_k, so, setS_fr, setS_ob, newS_fr, newS_ob, refOf, kill_fr, kill_ob, init_fr, init_ob, mask_none, mask_some, upd_apply, killSV, killOb, *]; done); (· simp [so_t, so_k, so, setS_fr, setS_ob, newS_fr, newS_ob, refOf, kill_fr, kill_ob, init_fr, init_ob, mask_none, mask_some, upd_apply, killSV, killOb, *]; done))
   | ((with_reducible apply c_new); (· rfl); (· simp [newOp, allM, closed, cellsN, so_t, so_k, so, setS_fr, setS_ob, newS_fr, newS_ob, refOf, kill_fr, kill_ob, init_fr, init_ob, mask_none, mask_some, upd_apply, killSV, killOb, *] <;> first | with_reducible exact rfl | with_reducible exact ⟨rfl, rfl⟩ | with_reducible exact ⟨by omega, rfl⟩); (· simp [so_t, so_k, so, setS_fr, setS_ob, newS_fr, newS_ob, refOf, kill_fr, kill_ob, init_fr, init_ob, mask_none, mask_some, upd_apply, killSV, killOb, *]; done))
   | ((with_reducible apply c_eff); (· rfl); (· simp [effOp, setCells, oneS, oneC, St.set, newsOf, putC, cellsN, CV.cells, so_t, so_k, so, setS_fr, setS_ob, newS_fr, newS_ob, refOf, kill_fr, kill_ob, init_fr, init_ob, mask_none, mask_some, upd_apply, killSV, killOb, *] <;> first | with_reducible exact rfl | with_reducible exact ⟨rfl, rfl⟩ | with_reducible exact ⟨by omega, rfl⟩))
   | ((with_reducible apply c_guard); (· simp [so_t, so_k, so, setS_fr, setS_ob, newS_fr, newS_ob, refOf, kill_fr, kill_ob, init_fr, init_ob, mask_none, mask_some, upd_apply, killSV, killOb, *] <;> first | with_reducible exact rfl | with_reducible exact ⟨rfl, rfl⟩ | with_reducible exact ⟨by omega, rfl⟩))
   | ((with_reducible apply p_if); (· simp [so_t, so_k, so, setS_fr, setS_ob, newS_fr, newS_ob, refOf, kill_fr, kill_ob, init_fr, init_ob, mask_none, mask_some, upd_apply, killSV, killOb, *] <;> first | with_reducible exact rfl | with_reducible exact ⟨rfl, rfl⟩ | with_reducible exact ⟨by omega, rfl⟩))
   | ((with_reducible apply g_split); all_goals (intro hb; try simp only [decide_eq_true_eq, decide_eq_false_iff_not, Bool.not_eq_true] at hb))
   | ((with_reducible apply k_split); all_goals (intro hb; try simp only [decide_eq_true_eq, decide_eq_false_iff_not, Bool.not_eq_true] at hb)))
  all_goals (refine ⟨rfl, ?_⟩; simp [setS_fr, init_fr])
 refine s_seq (fun st => st.fr 3 = .c (.str a) ∧ st.fr 4 = .c (.str r)) ?_ fun st2 h2 => ?_
 ·repeat' (first
   | with_reducible apply p_seq
   | with_reducible apply then_normal
   | with_reducible apply then_exit
   | with_reducible apply then_ret
   | with_reducible apply block_normal
   | with_reducible apply block_exit
   | with_reducible apply block_ret
   | with_reducible apply turn_exit
   | with_reducible apply turn_ret
   | with_reducible apply p_skip
   | with_reducible apply p_exit
   | with_reducible apply p_ret
   | with_reducible apply p_block
   | with_reducible apply p_reg0
   | with_reducible apply p_reg1
   | with_reducible apply c_nil
   | with_reducible apply g_tt
   | with_reducible apply g_ff
   | with_reducible apply g_tf
   | with_reducible apply g_ft
   | with_reducible apply g_sk
   | with_reducible apply k_t
   | with_reducible apply k_f
   | ((with_reducible apply block_past); (· decide))
   | ((with_reducible apply c_mov); (· simp [valOp, so_t, so_k, so, setS_fr, setS_ob, newS_fr, newS_ob, refOf, kill_fr, kill_ob, init_fr, init_ob, mask_none, mask_some, upd_apply, killSV, killOb, *] <;> first | with_reducible exact rfl | with_reducible exact ⟨rfl, rfl⟩ | with_reducible exact ⟨by omega, rfl⟩))
   | ((with_reducible apply c_pick); (· simp [valOp, so_t, so_k, so, setS_fr, setS_ob, newS_fr, newS_ob, refOf, kill_fr, kill_ob, init_fr, init_ob, mask_none, mask_some, upd_apply, killSV, killOb, *] <;> first | with_reducible exact rfl | with_reducible exact ⟨rfl, rfl⟩ | with_reducible exact ⟨by omega, rfl⟩))
   | ((with_reducible apply c_bin); (· simp [valOp, binC, binI, cmpB, binS, so_t, so_k, so, setS_fr, setS_ob, newS_fr, newS_ob, refOf, kill_fr, kill_ob, init_fr, init_ob, mask_none, mask_some, upd_apply, killSV, killOb, *] <;> first | with_reducible exact rfl | with_reducible exact ⟨rfl, rfl⟩ | with_reducible exact ⟨by omega, rfl⟩))
   | ((with_reducible apply c_build); (· simp [valOp, allM, closed, fillC, cellsN, CV.cells, so_t, so_k, so, setS_fr, setS_ob, newS_fr, newS_ob, refOf, kill_fr, kill_ob, init_fr, init_ob, mask_none, mask_some, upd_apply, killSV, killOb, *] <;> first | with_reducible exact rfl | with_reducible exact ⟨rfl, rfl⟩ | with_reducible exact ⟨by omega, rfl⟩))
   | ((with_reducible apply c_ext); (· simp [valOp, so_t, so_k, so, setS_fr, setS_ob, newS_fr, newS_ob, refOf, kill_fr, kill_ob, init_fr, init_ob, mask_none, mask_some, upd_apply, killSV, killOb, *] <;> first | with_reducible exact rfl | with_reducible exact ⟨rfl, rfl⟩ | with_reducible exact ⟨by omega, rfl⟩))
   | ((with_reducible apply c_call); (· simp [allM, close, so_t, so_k, so, setS_fr, setS_ob, newS_fr, newS_ob, refOf, kill_fr, kill_ob, init_fr, init_ob, mask_none, mask_some, upd_apply, killSV, killOb, *] <;> first | with_reducible exact rfl | with_reducible exact ⟨rfl, rfl⟩ | with_reducible exact ⟨by omega, rfl⟩); (· simp [so_t, so_k, so, setS_fr, setS_ob, newS_fr, newS_ob, refOf, kill_fr, kill_ob, init_fr, init_ob, mask_none, mask_some, upd_apply, killSV, killOb, *] <;> first | with_reducible exact rfl | with_reducible exact ⟨rfl, rfl⟩ | with_reducible exact ⟨by omega, rfl⟩); (· simp [isC, memless, memlessL, so_t, so_k, so, setS_fr, setS_ob, newS_fr, newS_ob, refOf, kill_fr, kill_ob, init_fr, init_ob, mask_none, mask_some, upd_apply, killSV, killOb, *]; done))
   | ((with_reducible apply c_callN); (· simp [allM, close, so_t, so_k, so, setS_fr, setS_ob, newS_fr, newS_ob, refOf, kill_fr, kill_ob, init_fr, init_ob, mask_none, mask_some, upd_apply, killSV, killOb, *] <;> first | with_reducible exact rfl | with_reducible exact ⟨rfl, rfl⟩ | with_reducible exact ⟨by omega, rfl⟩); (· simp [so_t, so_k, so, setS_fr, setS_ob, newS_fr, newS_ob, refOf, kill_fr, kill_ob, init_fr, init_ob, mask_none, mask_some, upd_apply, killSV, killOb, *] <;> first | with_reducible exact rfl | with_reducible exact ⟨rfl, rfl⟩ | with_reducible exact ⟨by omega, rfl⟩); (· simp [isC, Res.memless, memless, memlessL, so_t, so_k, so, setS_fr, setS_ob, newS_fr, newS_ob, refOf, kill_fr, kill_ob, init_fr, init_ob, mask_none, mask_some, upd_apply, killSV, killOb, *]; done); (· simp [so_t, so_k, so, setS_fr, setS_ob, newS_fr, newS_ob, refOf, kill_fr, kill_ob, init_fr, init_ob, mask_none, mask_some, upd_apply, killSV, killOb, *]; done))
   | ((with_reducible apply c_new); (· rfl); (· simp [newOp, allM, closed, cellsN, so_t, so_k, so, setS_fr, setS_ob, newS_fr, newS_ob, refOf, kill_fr, kill_ob, init_fr, init_ob, mask_none, mask_some, upd_apply, killSV, killOb, *] <;> first | with_reducible exact rfl | with_reducible exact ⟨rfl, rfl⟩ | with_reducible exact ⟨by omega, rfl⟩); (· simp [so_t, so_k, so, setS_fr, setS_ob, newS_fr, newS_ob, refOf, kill_fr, kill_ob, init_fr, init_ob, mask_none, mask_some, upd_apply, killSV, killOb, *]; done))
   | ((with_reducible apply c_eff); (· rfl); (· simp [effOp, setCells, oneS, oneC, St.set, newsOf, putC, cellsN, CV.cells, so_t, so_k, so, setS_fr, setS_ob, newS_fr, newS_ob, refOf, kill_fr, kill_ob, init_fr, init_ob, mask_none, mask_some, upd_apply, killSV, killOb, *] <;> first | with_reducible exact rfl | with_reducible exact ⟨rfl, rfl⟩ | with_reducible exact ⟨by omega, rfl⟩))
   | ((with_reducible apply c_guard); (· simp [so_t, so_k, so, setS_fr, setS_ob, newS_fr, newS_ob, refOf, kill_fr, kill_ob, init_fr, init_ob, mask_none, mask_some, upd_apply, killSV, killOb, *] <;> first | with_reducible exact rfl | with_reducible exact ⟨rfl, rfl⟩ | with_reducible exact ⟨by omega, rfl⟩))
   | ((with_reducible apply p_if); (· simp [so_t, so_k, so, setS_fr, setS_ob, newS_fr, newS_ob, refOf, kill_fr, kill_ob, init_fr, init_ob, mask_none, mask_some, upd_apply, killSV, killOb, *] <;> first | with_reducible exact rfl | with_reducible exact ⟨rfl, rfl⟩ | with_reducible exact ⟨by omega, rfl⟩))
   | ((with_reducible apply g_split); all_goals (intro hb; try simp only [decide_eq_true_eq, decide_eq_false_iff_not, Bool.not_eq_true] at hb))
   | ((with_reducible apply k_split); all_goals (intro hb; try simp only [decide_eq_true_eq, decide_eq_false_iff_not, Bool.not_eq_true] at hb)))
  all_goals (refine ⟨rfl, ?_, ?_⟩ <;> simp [setS_fr])
 obtain ⟨h3, h4⟩ := h2
 refine s_seq (fun st => st.fr 6 = .c (.int .i64 i) ∧ st.fr 4 = .c (.str r)) ?_ fun st3 h => ?_
 ·refine p_reg0 ?_
  refine c_val (v := .c (.sl (some false) ws)) (.inl rfl) ?_ ?_
  ·have hG' : so E.G st2.fr (.g 0) = .c (.rp ws) := hG
   simp [valOp, hG', hw, hws]
  repeat' (first
   | with_reducible apply p_seq
   | with_reducible apply then_normal
   | with_reducible apply then_exit
   | with_reducible apply then_ret
   | with_reducible apply block_normal
   | with_reducible apply block_exit
   | with_reducible apply block_ret
   | with_reducible apply turn_exit
   | with_reducible apply turn_ret
   | with_reducible apply p_skip
   | with_reducible apply p_exit
   | with_reducible apply p_ret
   | with_reducible apply p_block
   | with_reducible apply p_reg0
   | with_reducible apply p_reg1
   | with_reducible apply c_nil
   | with_reducible apply g_tt
   | with_reducible apply g_ff
   | with_reducible apply g_tf
   | with_reducible apply g_ft
   | with_reducible apply g_sk
   | with_reducible apply k_t
   | with_reducible apply k_f
   | ((with_reducible apply block_past); (· decide))
   | ((with_reducible apply c_mov); (· simp [valOp, so_t, so_k, so, setS_fr, setS_ob, newS_fr, newS_ob, refOf, kill_fr, kill_ob, init_fr, init_ob, mask_none, mask_some, upd_apply, killSV, killOb, *] <;> first | with_reducible exact rfl | with_reducible exact ⟨rfl, rfl⟩ | with_reducible exact ⟨by omega, rfl⟩))
   | ((with_reducible apply c_pick); (· simp [valOp, so_t, so_k, so, setS_fr, setS_ob, newS_fr, newS_ob, refOf, kill_fr, kill_ob, init_fr, init_ob, mask_none, mask_some, upd_apply, killSV, killOb, *] <;> first | with_reducible exact rfl | with_reducible exact ⟨rfl, rfl⟩ | with_reducible exact ⟨by omega, rfl⟩))
   | ((with_reducible apply c_bin); (· simp [valOp, binC, binI, cmpB, binS, so_t, so_k, so, setS_fr, setS_ob, newS_fr, newS_ob, refOf, kill_fr, kill_ob, init_fr, init_ob, mask_none, mask_some, upd_apply, killSV, killOb, *] <;> first | with_reducible exact rfl | with_reducible exact ⟨rfl, rfl⟩ | with_reducible exact ⟨by omega, rfl⟩))
   | ((with_reducible apply c_build); (· simp [valOp, allM, closed, fillC, cellsN, CV.cells, so_t, so_k, so, setS_fr, setS_ob, newS_fr, newS_ob, refOf, kill_fr, kill_ob, init_fr, init_ob, mask_none, mask_some, upd_apply, killSV, killOb, *] <;> first | with_reducible exact rfl | with_reducible exact ⟨rfl, rfl⟩ | with_reducible exact ⟨by omega, rfl⟩))
   | ((with_reducible apply c_ext); (· simp [valOp, so_t, so_k, so, setS_fr, setS_ob, newS_fr, newS_ob, refOf, kill_fr, kill_ob, init_fr, init_ob, mask_none, mask_some, upd_apply, killSV, killOb, *] <;> first | with_reducible exact rfl | with_reducible exact ⟨rfl, rfl⟩ | with_reducible exact ⟨by omega, rfl⟩))
   | ((with_reducible apply c_call); (· simp [allM, close, so_t, so_k, so, setS_fr, setS_ob, newS_fr, newS_ob, refOf, kill_fr, kill_ob, init_fr, init_ob, mask_none, mask_some, upd_apply, killSV, killOb, *] <;> first | with_reducible exact rfl | with_reducible exact ⟨rfl, rfl⟩ | with_reducible exact ⟨by omega, rfl⟩); (· simp [so_t, so_k, so, setS_fr, setS_ob, newS_fr, newS_ob, refOf, kill_fr, kill_ob, init_fr, init_ob, mask_none, mask_some, upd_apply, killSV, killOb, *] <;> first | with_reducible exact rfl | with_reducible exact ⟨rfl, rfl⟩ | with_reducible exact ⟨by omega, rfl⟩); (· simp [isC, memless, memlessL, so_t, so_k, so, setS_fr, setS_ob, newS_fr, newS_ob, refOf, kill_fr, kill_ob, init_fr, init_ob, mask_none, mask_some, upd_apply, killSV, killOb, *]; done))
   | ((with_reducible apply c_callN); (· simp [allM, close, so_t, so_k, so, setS_fr, setS_ob, newS_fr, newS_ob, refOf, kill_fr, kill_ob, init_fr, init_ob, mask_none, mask_some, upd_apply, killSV, killOb, *] <;> first | with_reducible exact rfl | with_reducible exact ⟨rfl, rfl⟩ | with_reducible exact ⟨by omega, rfl⟩); (· simp [so_t, so_k, so, setS_fr, setS_ob, newS_fr, newS_ob, refOf, kill_fr, kill_ob, init_fr, init_ob, mask_none, mask_some, upd_apply, killSV, killOb, *] <;> first | with_reducible exact rfl | with_reducible exact ⟨rfl, rfl⟩ | with_reducible exact ⟨by omega, rfl⟩); (· simp [isC, Res.memless, memless, memlessL, so_t, so_k, so, setS_fr, setS_ob, newS_fr, newS_ob, refOf, kill_fr, kill_ob, init_fr, init_ob, mask_none, mask_some, upd_apply, killSV, killOb, *]; done); (· simp [so_t, so_k, so, setS_fr, setS_ob, newS_fr, newS_ob, refOf, kill_fr, kill_ob, init_fr, init_ob, mask_none, mask_some, upd_apply, killSV, killOb, *]; done))
   | ((with_reducible apply c_new); (· rfl); (· simp [newOp, allM, closed, cellsN, so_t, so_k, so, setS_fr, setS_ob, newS_fr, newS_ob, refOf, kill_fr, kill_ob, init_fr, init_ob, mask_none, mask_some, upd_apply, killSV, killOb, *] <;> first | with_reducible exact rfl | with_reducible exact ⟨rfl, rfl⟩ | with_reducible exact ⟨by omega, rfl⟩); (· simp [so_t, so_k, so, setS_fr, setS_ob, newS_fr, newS_ob, refOf, kill_fr, kill_ob, init_fr, init_ob, mask_none, mask_some, upd_apply, killSV, killOb, *]; done))
   | ((with_reducible apply c_eff); (· rfl); (· simp [effOp, setCells, oneS, oneC, St.set, newsOf, putC, cellsN, CV.cells, so_t, so_k, so, setS_fr, setS_ob, newS_fr, newS_ob, refOf, kill_fr, kill_ob, init_fr, init_ob, mask_none, mask_some, upd_apply, killSV, killOb, *] <;> first | with_reducible exact rfl | with_reducible exact ⟨rfl, rfl⟩ | with_reducible exact ⟨by omega, rfl⟩))
   | ((with_reducible apply c_guard); (· simp [so_t, so_k, so, setS_fr, setS_ob, newS_fr, newS_ob, refOf, kill_fr, kill_ob, init_fr, init_ob, mask_none, mask_some, upd_apply, killSV, killOb, *] <;> first | with_reducible exact rfl | with_reducible exact ⟨rfl, rfl⟩ | with_reducible exact ⟨by omega, rfl⟩))
   | ((with_reducible apply p_if); (· simp [so_t, so_k, so, setS_fr, setS_ob, newS_fr, newS_ob, refOf, kill_fr, kill_ob, init_fr, init_ob, mask_none, mask_some, upd_apply, killSV, killOb, *] <;> first | with_reducible exact rfl | with_reducible exact ⟨rfl, rfl⟩ | with_reducible exact ⟨by omega, rfl⟩))
   | ((with_reducible apply g_split); all_goals (intro hb; try simp only [decide_eq_true_eq, decide_eq_false_iff_not, Bool.not_eq_true] at hb))
   | ((with_reducible apply k_split); all_goals (intro hb; try simp only [decide_eq_true_eq, decide_eq_false_iff_not, Bool.not_eq_true] at hb)))
  all_goals (refine ⟨rfl, ?_, ?_⟩ <;> simp [setS_fr, h3, h4])
 obtain ⟨h6, h4⟩ := h
 by_cases hi : 0 ≤ i
 ·have hCk' := hCk hi
  refine ⟨st3, Seen.refl _, ?_⟩
  refine ⟨st3, Seen.refl _, ?_⟩
  have hcut : ∃ st5, evalLs E none [⟨some 16, .mov (.t 6), none⟩, ⟨some 17, .bin .geq (.t 16) (.k (.int .i64 0)), none⟩, ⟨some 18, .mov (.t 17), none⟩, ⟨some 19, .mov (.t 6), some (18, true)⟩, ⟨some 20, .mov (.t 4), some (18, true)⟩,
    ⟨some 21, .build [.int .i64 0, .str [], .int .i64 0] [(0, 1, .t 19), (1, 1, .t 20), (2, 1, .k (.int .i64 1))], some (18, true)⟩, ⟨some 22, .mksl 43 3 [.t 21], some (18, true)⟩] (kill [22] st3) = some st5 ∧
    (st5.fr 22 = .osl 22 ∧ st5.ob 22 = .arr 43 3 [.agg [.int .i64 i, .str r, .int .i64 1]] ∧ st5.fr 18 = .c (.bool true)) := by
   have hd : decide (0 ≤ i) = true := decide_eq_true hi
   show pLs E none _ (fun st5 => st5.fr 22 = .osl 22 ∧ st5.ob 22 = .arr 43 3 [.agg [.int .i64 i, .str r, .int .i64 1]] ∧ st5.fr 18 = .c (.bool true)) _
   repeat' (first
    | with_reducible apply p_seq
    | with_reducible apply then_normal
    | with_reducible apply then_exit
    | with_reducible apply then_ret
    | with_reducible apply block_normal
    | with_reducible apply block_exit
    | with_reducible apply block_ret
    | with_reducible apply turn_exit
    | with_reducible apply turn_ret
    | with_reducible apply p_skip
    | with_reducible apply p_exit
    | with_reducible apply p_ret
    | with_reducible apply p_block
    | with_reducible apply p_reg0
    | with_reducible apply p_reg1
    | with_reducible apply c_nil
    | with_reducible apply g_tt
    | with_reducible apply g_ff
    | with_reducible apply g_tf
    | with_reducible apply g_ft
    | with_reducible apply g_sk
    | with_reducible apply k_t
    | with_reducible apply k_f
    | ((with_reducible apply block_past); (· decide))
    | ((with_reducible apply c_mov); (· simp [valOp, ge_iff_le, so_t, so_k, so, setS_fr, setS_ob, newS_fr, newS_ob, refOf, kill_fr, kill_ob, init_fr, init_ob, mask_none, mask_some, upd_apply, killSV, killOb, *] <;> first | with_reducible exact rfl | with_reducible exact ⟨rfl, rfl⟩ | with_reducible exact ⟨by omega, rfl⟩))
    | ((with_reducible apply c_pick); (· simp [valOp, ge_iff_le, so_t, so_k, so, setS_fr, setS_ob, newS_fr, newS_ob, refOf, kill_fr, kill_ob, init_fr, init_ob, mask_none, mask_some, upd_apply, killSV, killOb, *] <;> first | with_reducible exact rfl | with_reducible exact ⟨rfl, rfl⟩ | with_reducible exact ⟨by omega, rfl⟩))
    | ((with_reducible apply c_bin); (· simp [valOp, binC, binI, cmpB, binS, ge_iff_le, so_t, so_k, so, setS_fr, setS_ob, newS_fr, newS_ob, refOf, kill_fr, kill_ob, init_fr, init_ob, mask_none, mask_some, upd_apply, killSV, killOb, *] <;> first | with_reducible exact rfl | with_reducible exact ⟨rfl, rfl⟩ | with_reducible exact ⟨by omega, rfl⟩))
    | ((with_reducible apply c_build); (· simp [valOp, allM, closed, fillC, cellsN, CV.cells, ge_iff_le, so_t, so_k, so, setS_fr, setS_ob, newS_fr, newS_ob, refOf, kill_fr, kill_ob, init_fr, init_ob, mask_none, mask_some, upd_apply, killSV, killOb, *] <;> first | with_reducible exact rfl | with_reducible exact ⟨rfl, rfl⟩ | with_reducible exact ⟨by omega, rfl⟩))
    | ((with_reducible apply c_ext); (· simp [valOp, ge_iff_le, so_t, so_k, so, setS_fr, setS_ob, newS_fr, newS_ob, refOf, kill_fr, kill_ob, init_fr, init_ob, mask_none, mask_some, upd_apply, killSV, killOb, *] <;> first | with_reducible exact rfl | with_reducible exact ⟨rfl, rfl⟩ | with_reducible exact ⟨by omega, rfl⟩))
    | ((with_reducible apply c_call); (· simp [allM, close, ge_iff_le, so_t, so_k, so, setS_fr, setS_ob, newS_fr, newS_ob, refOf, kill_fr, kill_ob, init_fr, init_ob, mask_none, mask_some, upd_apply, killSV, killOb, *] <;> first | with_reducible exact rfl | with_reducible exact ⟨rfl, rfl⟩ | with_reducible exact ⟨by omega, rfl⟩); (· simp [ge_iff_le, so_t, so_k, so, setS_fr, setS_ob, newS_fr, newS_ob, refOf, kill_fr, kill_ob, init_fr, init_ob, mask_none, mask_some, upd_apply, killSV, killOb, *] <;> first | with_reducible exact rfl | with_reducible exact ⟨rfl, rfl⟩ | with_reducible exact ⟨by omega, rfl⟩); (· simp [isC, memless, memlessL, ge_iff_le, so_t, so_k, so, setS_fr, setS_ob, newS_fr, newS_ob, refOf, kill_fr, kill_ob, init_fr, init_ob, mask_none, mask_some, upd_apply, killSV, killOb, *]; done))
    | ((with_reducible apply c_callN); (· simp [allM, close, ge_iff_le, so_t, so_k, so, setS_fr, setS_ob, newS_fr, newS_ob, refOf, kill_fr, kill_ob, init_fr, init_ob, mask_none, mask_some, upd_apply, killSV, killOb, *] <;> first | with_reducible exact rfl | with_reducible exact ⟨rfl, rfl⟩ | with_reducible exact ⟨by omega, rfl⟩); (· simp [ge_iff_le, so_t, so_k, so, setS_fr, setS_ob, newS_fr, newS_ob, refOf, kill_fr, kill_ob, init_fr, init_ob, mask_none, mask_some, upd_apply, killSV, killOb, *] <;> first | with_reducible exact rfl | with_reducible exact ⟨rfl, rfl⟩ | with_reducible exact ⟨by omega, rfl⟩); (· simp [isC, Res.memless, memless, memlessL, ge_iff_le, so_t, so_k, so, setS_fr, setS_ob, newS_fr, newS_ob, refOf, kill_fr, kill_ob, init_fr, init_ob, mask_none, mask_some, upd_apply, killSV, killOb, *]; done); (· simp [ge_iff_le, so_t, so_k, so, setS_fr, setS_ob, newS_fr, newS_ob, refOf, kill_fr, kill_ob, init_fr, init_ob, mask_none, mask_some, upd_apply, killSV, killOb, *]; done))
    | ((with_reducible apply c_new); (· rfl); (· simp [newOp, allM, closed, cellsN, ge_iff_le, so_t, so_k, so, setS_fr, setS_ob, newS_fr, newS_ob, refOf, kill_fr, kill_ob, init_fr, init_ob, mask_none, mask_some, upd_apply, killSV, killOb, *] <;> first | with_reducible exact rfl | with_reducible exact ⟨rfl, rfl⟩ | with_reducible exact ⟨by omega, rfl⟩); (· simp [ge_iff_le, so_t, so_k, so, setS_fr, setS_ob, newS_fr, newS_ob, refOf, kill_fr, kill_ob, init_fr, init_ob, mask_none, mask_some, upd_apply, killSV, killOb, *]; done))
    | ((with_reducible apply c_eff); (· rfl); (· simp [effOp, setCells, oneS, oneC, St.set, newsOf, putC, cellsN, CV.cells, ge_iff_le, so_t, so_k, so, setS_fr, setS_ob, newS_fr, newS_ob, refOf, kill_fr, kill_ob, init_fr, init_ob, mask_none, mask_some, upd_apply, killSV, killOb, *] <;> first | with_reducible exact rfl | with_reducible exact ⟨rfl, rfl⟩ | with_reducible exact ⟨by omega, rfl⟩))
    | ((with_reducible apply c_guard); (· simp [ge_iff_le, so_t, so_k, so, setS_fr, setS_ob, newS_fr, newS_ob, refOf, kill_fr, kill_ob, init_fr, init_ob, mask_none, mask_some, upd_apply, killSV, killOb, *] <;> first | with_reducible exact rfl | with_reducible exact ⟨rfl, rfl⟩ | with_reducible exact ⟨by omega, rfl⟩))
    | ((with_reducible apply p_if); (· simp [ge_iff_le, so_t, so_k, so, setS_fr, setS_ob, newS_fr, newS_ob, refOf, kill_fr, kill_ob, init_fr, init_ob, mask_none, mask_some, upd_apply, killSV, killOb, *] <;> first | with_reducible exact rfl | with_reducible exact ⟨rfl, rfl⟩ | with_reducible exact ⟨by omega, rfl⟩))
    | ((with_reducible apply g_split); all_goals (intro hb; try simp only [decide_eq_true_eq, decide_eq_false_iff_not, Bool.not_eq_true] at hb))
    | ((with_reducible apply k_split); all_goals (intro hb; try simp only [decide_eq_true_eq, decide_eq_false_iff_not, Bool.not_eq_true] at hb)))
   all_goals (refine ⟨?_, ?_, ?_⟩ <;> simp [newS_fr, newS_ob, setS_fr])
  obtain ⟨st5, hv5, k1, k2, k3⟩ := hcut
  refine runS_cut hv5 (Seen.frz k1 k2) (runS_pLs ?_)
  have hd : decide (0 ≤ i) = true := decide_eq_true hi
  repeat' (first
   | with_reducible apply p_seq
   | with_reducible apply then_normal
   | with_reducible apply then_exit
   | with_reducible apply then_ret
   | with_reducible apply block_normal
   | with_reducible apply block_exit
   | with_reducible apply block_ret
   | with_reducible apply turn_exit
   | with_reducible apply turn_ret
   | with_reducible apply p_skip
   | with_reducible apply p_exit
   | with_reducible apply p_ret
   | with_reducible apply p_block
   | with_reducible apply p_reg0
   | with_reducible apply p_reg1
   | with_reducible apply c_nil
   | with_reducible apply g_tt
   | with_reducible apply g_ff
   | with_reducible apply g_tf
   | with_reducible apply g_ft
   | with_reducible apply g_sk
   | with_reducible apply k_t
   | with_reducible apply k_f
   | ((with_reducible apply block_past); (· decide))
   | ((with_reducible apply c_mov); (· simp [valOp, so_t, so_k, so, setS_fr, setS_ob, newS_fr, newS_ob, refOf, kill_fr, kill_ob, init_fr, init_ob, mask_none, mask_some, upd_apply, killSV, killOb, *] <;> first | with_reducible exact rfl | with_reducible exact ⟨rfl, rfl⟩ | with_reducible exact ⟨by omega, rfl⟩))
   | ((with_reducible apply c_pick); (· simp [valOp, so_t, so_k, so, setS_fr, setS_ob, newS_fr, newS_ob, refOf, kill_fr, kill_ob, init_fr, init_ob, mask_none, mask_some, upd_apply, killSV, killOb, *] <;> first | with_reducible exact rfl | with_reducible exact ⟨rfl, rfl⟩ | with_reducible exact ⟨by omega, rfl⟩))
   | ((with_reducible apply c_bin); (· simp [valOp, binC, binI, cmpB, binS, so_t, so_k, so, setS_fr, setS_ob, newS_fr, newS_ob, refOf, kill_fr, kill_ob, init_fr, init_ob, mask_none, mask_some, upd_apply, killSV, killOb, *] <;> first | with_reducible exact rfl | with_reducible exact ⟨rfl, rfl⟩ | with_reducible exact ⟨by omega, rfl⟩))
   | ((with_reducible apply c_build); (· simp [valOp, allM, closed, fillC, cellsN, CV.cells, so_t, so_k, so, setS_fr, setS_ob, newS_fr, newS_ob, refOf, kill_fr, kill_ob, init_fr, init_ob, mask_none, mask_some, upd_apply, killSV, killOb, *] <;> first | with_reducible exact rfl | with_reducible exact ⟨rfl, rfl⟩ | with_reducible exact ⟨by omega, rfl⟩))
   | ((with_reducible apply c_ext); (· simp [valOp, so_t, so_k, so, setS_fr, setS_ob, newS_fr, newS_ob, refOf, kill_fr, kill_ob, init_fr, init_ob, mask_none, mask_some, upd_apply, killSV, killOb, *] <;> first | with_reducible exact rfl | with_reducible exact ⟨rfl, rfl⟩ | with_reducible exact ⟨by omega, rfl⟩))
   | ((with_reducible apply c_call); (· simp [allM, close, so_t, so_k, so, setS_fr, setS_ob, newS_fr, newS_ob, refOf, kill_fr, kill_ob, init_fr, init_ob, mask_none, mask_some, upd_apply, killSV, killOb, *] <;> first | with_reducible exact rfl | with_reducible exact ⟨rfl, rfl⟩ | with_reducible exact ⟨by omega, rfl⟩); (· simp [so_t, so_k, so, setS_fr, setS_ob, newS_fr, newS_ob, refOf, kill_fr, kill_ob, init_fr, init_ob, mask_none, mask_some, upd_apply, killSV, killOb, *] <;> first | with_reducible exact rfl | with_reducible exact ⟨rfl, rfl⟩ | with_reducible exact ⟨by omega, rfl⟩); (· simp [isC, memless, memlessL, so_t, so_k, so, setS_fr, setS_ob, newS_fr, newS_ob, refOf, kill_fr, kill_ob, init_fr, init_ob, mask_none, mask_some, upd_apply, killSV, killOb, *]; done))
   | ((with_reducible apply c_callN); (· simp [allM, close, so_t, so_k, so, setS_fr, setS_ob, newS_fr, newS_ob, refOf, kill_fr, kill_ob, init_fr, init_ob, mask_none, mask_some, upd_apply, killSV, killOb, *] <;> first | with_reducible exact rfl | with_reducible exact ⟨rfl, rfl⟩ | with_reducible exact ⟨by omega, rfl⟩); (· simp [so_t, so_k, so, setS_fr, setS_ob, newS_fr, newS_ob, refOf, kill_fr, kill_ob, init_fr, init_ob, mask_none, mask_some, upd_apply, killSV, killOb, *] <;> first | with_reducible exact rfl | with_reducible exact ⟨rfl, rfl⟩ | with_reducible exact ⟨by omega, rfl⟩); (· simp [isC, Res.memless, memless, memlessL, so_t, so_k, so, setS_fr, setS_ob, newS_fr, newS_ob, refOf, kill_fr, kill_ob, init_fr, init_ob, mask_none, mask_some, upd_apply, killSV, killOb, *]; done); (· simp [so_t, so_k, so, setS_fr, setS_ob, newS_fr, newS_ob, refOf, kill_fr, kill_ob, init_fr, init_ob, mask_none, mask_some, upd_apply, killSV, killOb, *]; done))
   | ((with_reducible apply c_new); (· rfl); (· simp [newOp, allM, closed, cellsN, so_t, so_k, so, setS_fr, setS_ob, newS_fr, newS_ob, refOf, kill_fr, kill_ob, init_fr, init_ob, mask_none, mask_some, upd_apply, killSV, killOb, *] <;> first | with_reducible exact rfl | with_reducible exact ⟨rfl, rfl⟩ | with_reducible exact ⟨by omega, rfl⟩); (· simp [so_t, so_k, so, setS_fr, setS_ob, newS_fr, newS_ob, refOf, kill_fr, kill_ob, init_fr, init_ob, mask_none, mask_some, upd_apply, killSV, killOb, *]; done))
   | ((with_reducible apply c_eff); (· rfl); (· simp [effOp, setCells, oneS, oneC, St.set, newsOf, putC, cellsN, CV.cells, so_t, so_k, so, setS_fr, setS_ob, newS_fr, newS_ob, refOf, kill_fr, kill_ob, init_fr, init_ob, mask_none, mask_some, upd_apply, killSV, killOb, *] <;> first | with_reducible exact rfl | with_reducible exact ⟨rfl, rfl⟩ | with_reducible exact ⟨by omega, rfl⟩))
   | ((with_reducible apply c_guard); (· simp [so_t, so_k, so, setS_fr, setS_ob, newS_fr, newS_ob, refOf, kill_fr, kill_ob, init_fr, init_ob, mask_none, mask_some, upd_apply, killSV, killOb, *] <;> first | with_reducible exact rfl | with_reducible exact ⟨rfl, rfl⟩ | with_reducible exact ⟨by omega, rfl⟩))
   | ((with_reducible apply p_if); (· simp [so_t, so_k, so, setS_fr, setS_ob, newS_fr, newS_ob, refOf, kill_fr, kill_ob, init_fr, init_ob, mask_none, mask_some, upd_apply, killSV, killOb, *] <;> first | with_reducible exact rfl | with_reducible exact ⟨rfl, rfl⟩ | with_reducible exact ⟨by omega, rfl⟩))
   | ((with_reducible apply g_split); all_goals (intro hb; try simp only [decide_eq_true_eq, decide_eq_false_iff_not, Bool.not_eq_true] at hb))
   | ((with_reducible apply k_split); all_goals (intro hb; try simp only [decide_eq_true_eq, decide_eq_false_iff_not, Bool.not_eq_true] at hb)))
  all_goals (refine ⟨_, Seen.refl _, ?_⟩; refine ⟨_, ?_, rfl⟩; simp [resOf, allM, oneRes, packRes, close, setS_fr, hd])
 ·have hd : decide (0 ≤ i) = false := decide_eq_false hi
  refine s_seq (fun st => st.fr 2 = .c (.bool false)) ?_ fun st4 h2 => ?_
  ·repeat' (first
    | with_reducible apply p_seq
    | with_reducible apply then_normal
    | with_reducible apply then_exit
    | with_reducible apply then_ret
    | with_reducible apply block_normal
    | with_reducible apply block_exit
    | with_reducible apply block_ret
    | with_reducible apply turn_exit
    | with_reducible apply turn_ret
    | with_reducible apply p_skip
    | with_reducible apply p_exit
    | with_reducible apply p_ret
    | with_reducible apply p_block
    | with_reducible apply p_reg0
    | with_reducible apply p_reg1
    | with_reducible apply c_nil
    | with_reducible apply g_tt
    | with_reducible apply g_ff
    | with_reducible apply g_tf
    | with_reducible apply g_ft
    | with_reducible apply g_sk
    | with_reducible apply k_t
    | with_reducible apply k_f
    | ((with_reducible apply block_past); (· decide))
    | ((with_reducible apply c_mov); (· simp [valOp, ge_iff_le, so_t, so_k, so, setS_fr, setS_ob, newS_fr, newS_ob, refOf, kill_fr, kill_ob, init_fr, init_ob, mask_none, mask_some, upd_apply, killSV, killOb, *] <;> first | with_reducible exact rfl | with_reducible exact ⟨rfl, rfl⟩ | with_reducible exact ⟨by omega, rfl⟩))
    | ((with_reducible apply c_pick); (· simp [valOp, ge_iff_le, so_t, so_k, so, setS_fr, setS_ob, newS_fr, newS_ob, refOf, kill_fr, kill_ob, init_fr, init_ob, mask_none, mask_some, upd_apply, killSV, killOb, *] <;> first | with_reducible exact rfl | with_reducible exact ⟨rfl, rfl⟩ | with_reducible exact ⟨by omega, rfl⟩))
    | ((with_reducible apply c_bin); (· simp [valOp, binC, binI, cmpB, binS, ge_iff_le, so_t, so_k, so, setS_fr, setS_ob, newS_fr, newS_ob, refOf, kill_fr, kill_ob, init_fr, init_ob, mask_none, mask_some, upd_apply, killSV, killOb, *] <;> first | with_reducible exact rfl | with_reducible exact ⟨rfl, rfl⟩ | with_reducible exact ⟨by omega, rfl⟩))
    | ((with_reducible apply c_build); (· simp [valOp, allM, closed, fillC, cellsN, CV.cells, ge_iff_le, so_t, so_k, so, setS_fr, setS_ob, newS_fr, newS_ob, refOf, kill_fr, kill_ob, init_fr, init_ob, mask_none, mask_some, upd_apply, killSV, killOb, *] <;> first | with_reducible exact rfl | with_reducible exact ⟨rfl, rfl⟩ | with_reducible exact ⟨by omega, rfl⟩))
    | ((with_reducible apply c_ext); (· simp [valOp, ge_iff_le, so_t, so_k, so, setS_fr, setS_ob, newS_fr, newS_ob, refOf, kill_fr, kill_ob, init_fr, init_ob, mask_none, mask_some, upd_apply, killSV, killOb, *] <;> first | with_reducible exact rfl | with_reducible exact ⟨rfl, rfl⟩ | with_reducible exact ⟨by omega, rfl⟩))
    | ((with_reducible apply c_call); (· simp [allM, close, ge_iff_le, so_t, so_k, so, setS_fr, setS_ob, newS_fr, newS_ob, refOf, kill_fr, kill_ob, init_fr, init_ob, mask_none, mask_some, upd_apply, killSV, killOb, *] <;> first | with_reducible exact rfl | with_reducible exact ⟨rfl, rfl⟩ | with_reducible exact ⟨by omega, rfl⟩); (· simp [ge_iff_le, so_t, so_k, so, setS_fr, setS_ob, newS_fr, newS_ob, refOf, kill_fr, kill_ob, init_fr, init_ob, mask_none, mask_some, upd_apply, killSV, killOb, *] <;> first | with_reducible exact rfl | with_reducible exact ⟨rfl, rfl⟩ | with_reducible exact ⟨by omega, rfl⟩); (· simp [isC, memless, memlessL, ge_iff_le, so_t, so_k, so, setS_fr, setS_ob, newS_fr, newS_ob, refOf, kill_fr, kill_ob, init_fr, init_ob, mask_none, mask_some, upd_apply, killSV, killOb, *]; done))
    | ((with_reducible apply c_callN); (· simp [allM, close, ge_iff_le, so_t, so_k, so, setS_fr, setS_ob, newS_fr, newS_ob, refOf, kill_fr, kill_ob, init_fr, init_ob, mask_none, mask_some, upd_apply, killSV, killOb, *] <;> first | with_reducible exact rfl | with_reducible exact ⟨rfl, rfl⟩ | with_reducible exact ⟨by omega, rfl⟩); (· simp [ge_iff_le, so_t, so_k, so, setS_fr, setS_ob, newS_fr, newS_ob, refOf, kill_fr, kill_ob, init_fr, init_ob, mask_none, mask_some, upd_apply, killSV, killOb, *] <;> first | with_reducible exact rfl | with_reducible exact ⟨rfl, rfl⟩ | with_reducible exact ⟨by omega, rfl⟩); (· simp [isC, Res.memless, memless, memlessL, ge_iff_le, so_t, so_k, so, setS_fr, setS_ob, newS_fr, newS_ob, refOf, kill_fr, kill_ob, init_fr, init_ob, mask_none, mask_some, upd_apply, killSV, killOb, *]; done); (· simp [ge_iff_le, so_t, so_k, so, setS_fr, setS_ob, newS_fr, newS_ob, refOf, kill_fr, kill_ob, init_fr, init_ob, mask_none, mask_some, upd_apply, killSV, killOb, *]; done))
    | ((with_reducible apply c_new); (· rfl); (· simp [newOp, allM, closed, cellsN, ge_iff_le, so_t, so_k, so, setS_fr, setS_ob, newS_fr, newS_ob, refOf, kill_fr, kill_ob, init_fr, init_ob, mask_none, mask_some, upd_apply, killSV, killOb, *] <;> first | with_reducible exact rfl | with_reducible exact ⟨rfl, rfl⟩ | with_reducible exact ⟨by omega, rfl⟩); (· simp [ge_iff_le, so_t, so_k, so, setS_fr, setS_ob, newS_fr, newS_ob, refOf, kill_fr, kill_ob, init_fr, init_ob, mask_none, mask_some, upd_apply, killSV, killOb, *]; done))
    | ((with_reducible apply c_eff); (· rfl); (· simp [effOp, setCells, oneS, oneC, St.set, newsOf, putC, cellsN, CV.cells, ge_iff_le, so_t, so_k, so, setS_fr, setS_ob, newS_fr, newS_ob, refOf, kill_fr, kill_ob, init_fr, init_ob, mask_none, mask_some, upd_apply, killSV, killOb, *] <;> first | with_reducible exact rfl | with_reducible exact ⟨rfl, rfl⟩ | with_reducible exact ⟨by omega, rfl⟩))
    | ((with_reducible apply c_guard); (· simp [ge_iff_le, so_t, so_k, so, setS_fr, setS_ob, newS_fr, newS_ob, refOf, kill_fr, kill_ob, init_fr, init_ob, mask_none, mask_some, upd_apply, killSV, killOb, *] <;> first | with_reducible exact rfl | with_reducible exact ⟨rfl, rfl⟩ | with_reducible exact ⟨by omega, rfl⟩))
    | ((with_reducible apply p_if); (· simp [ge_iff_le, so_t, so_k, so, setS_fr, setS_ob, newS_fr, newS_ob, refOf, kill_fr, kill_ob, init_fr, init_ob, mask_none, mask_some, upd_apply, killSV, killOb, *] <;> first | with_reducible exact rfl | with_reducible exact ⟨rfl, rfl⟩ | with_reducible exact ⟨by omega, rfl⟩))
    | ((with_reducible apply g_split); all_goals (intro hb; try simp only [decide_eq_true_eq, decide_eq_false_iff_not, Bool.not_eq_true] at hb))
    | ((with_reducible apply k_split); all_goals (intro hb; try simp only [decide_eq_true_eq, decide_eq_false_iff_not, Bool.not_eq_true] at hb)))
   all_goals (refine ⟨rfl, ?_⟩; simp [setS_fr])
  refine ⟨_, Seen.refl _, ?_⟩
  refine ⟨_, ?_, rfl⟩
  simp [resOf, allM, oneRes, packRes, close, h2, hd]
end
theorem items_form : ∀ {xs : List (List UInt8 × Int)} {es : List CV}, CanAll (fun (x : D (.agg (.cons .str (.one (.int .i64))))) c => Can (.agg (.cons .str (.one (.int .i64)))) x [c]) xs es → es = xs.map fun x => CV.agg [.str x.1, .int .i64 x.2]
 | [], es, h => by unfold CanAll at h; subst h; rfl
 | x :: xs, es, h => by
  unfold CanAll at h
  obtain ⟨c, es', rfl, h1, h2⟩ := h
  unfold Can at h1
  obtain ⟨l, e, h1⟩ := h1
  cases e
  unfold Can at h1
  obtain ⟨c1, l1, rfl, h3, h4⟩ := h1
  unfold Can at h3 h4
  cases h3
  obtain ⟨c2, rfl, h4⟩ := h4
  unfold Can at h4
  cases h4
  rw [items_form h2]
  rfl
end WB

