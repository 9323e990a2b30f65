/-
  THE OWN LAYER, X: code.
-/
import Derived.Test.YtpkoilfecgmogaaCoreWc
import Derived.Deep.LoopGhost
namespace WB
open Go Go.RowKit

/-- Does a line's place want to be new: it makes an object, or calls what may hand one over. -/
def wantsNew (P : Program) (o : Oper) (l : SL) : Bool :=
  match l.op.cls with
  | .new => true
  | .call => match P.underlying o.type with
    | some (.slice _) | some (.map _ _) => true
    | _ => false
  | _ => false

def newDsts (P : Program) (ops : List Oper) (ls : List SL) : List Nat := (ops.zip ls).filterMap fun p => if wantsNew P p.1 p.2 then p.2.dst else none

def madeDsts (ls : List SL) : List Nat := ls.filterMap fun l => if l.op.makes then l.dst else none

def compC (P : Program) (n : Nat) : Code → Option SCode
  | .skip => some .skip
  | .region _ ops draw => (allM (compL P n ops) ops.toList).bind fun ls =>
      if draw then (if drawOk P ops (madeDsts ls) ls then some (.reg true (madeDsts ls) ls) else none) else some (.reg false (newDsts P ops.toList ls) ls)
  | .seq a b => (compC P n a).bind fun x => (compC P n b).map fun y => .seq x y
  | .cond c a b => (compO c).bind fun c => (compC P n a).bind fun x => (compC P n b).map fun y => .cond c x y
  | .block id b => (compC P n b).map (.block id)
  | .loop b => (compC P n b).map .loop
  | .exit id => some (.exit id)
  | .label _ => some .skip
  | .scope b => compC P n b
  | .ret => some .ret
  | _ => none

def exOf : Ex → Exit
  | .normal => .normal
  | .exit i => .exit i
  | .ret => .ret

section
variable {P : Program} {E : Env} {w0 : World} {M0 : Nat → Prop} {n : Nat}

/-- What holds behind code, seen from the model. -/
def Post (P : Program) (E : Env) (w0 : World) (M0 : Nat → Prop) (n : Nat) (Q : Ex → St → Prop) (e : Exit) (a : Act) (w : World) : Prop :=
  ∃ e' st z, exOf e' = e ∧ Q e' st ∧ SR P E.G w0 M0 n st a w z

theorem reg_sound (hE : EOk P E) {id : Nat} {ops : Array Oper} {draw : Bool} {sc : SCode} (hc : compC P n (.region id ops draw) = some sc) {Q : Ex → St → Prop} {st : St} {a : Act} {w : World} {z : Cz} (h : SR P E.G w0 M0 n st a w z)
    (hp : pwp E sc Q st) : (Code.region id ops draw).wp P (Post P E w0 M0 n Q) a w := by
  simp only [compC, Option.bind_eq_some_iff] at hc
  obtain ⟨ls, hls, hc⟩ := hc
  have hlen := allM_length hls
  have start : ∀ D : List Nat, ∃ z', SR P E.G w0 M0 n (if D.isEmpty then st else kill D st) a w z' := fun D => by
    split
    · exact ⟨z, h⟩
    · exact ⟨z, h.killed D⟩
  cases draw with
  | false =>
    simp only [Bool.false_eq_true, if_false, Option.some.injEq] at hc
    subst hc
    obtain ⟨st', hv, hq⟩ := hp
    unfold evalReg at hv
    simp only [Bool.false_eq_true, if_false] at hv
    obtain ⟨z', hS⟩ := start (newDsts P ops.toList ls)
    refine wp_region ?_
    have hseq := evalLs_seq E none ls [] (if (newDsts P ops.toList ls).isEmpty then st else kill (newDsts P ops.toList ls) st)
    rw [hv] at hseq
    simp only [List.nil_append, List.length_nil] at hseq
    rw [List.range_eq_range', ← Array.length_toList, ← hlen]
    exact evalSeq_sound hE hls hS hseq fun a' w' z'' hS' => ⟨.normal, st', z'', rfl, hq, hS'⟩
  | true =>
    simp only [if_true, Option.ite_none_right_eq_some, Option.some.injEq] at hc
    obtain ⟨hd, rfl⟩ := hc
    obtain ⟨st', hv, hq⟩ := hp
    unfold evalReg at hv
    simp only [if_true] at hv
    obtain ⟨z', hS⟩ := start (madeDsts ls)
    refine wp_region_draw fun t => ?_
    have hseq := draw_order hls hd hv t
    have hg : SR P E.G w0 M0 n (if (madeDsts ls).isEmpty then st else kill (madeDsts ls) st) a { w with drawn := w.drawn + 1 } z' := hS.grow ⟨rfl, rfl, rfl, Nat.le_refl _, fun _ _ => rfl⟩
    exact evalSeq_sound hE hls hg hseq fun a' w' z'' hS' => ⟨.normal, st', z'', rfl, hq, hS'⟩

theorem pwp_mono : ∀ (c : SCode) {Q Q' : Ex → St → Prop} {st : St}, (∀ e s, Q e s → Q' e s) → pwp E c Q st → pwp E c Q' st
  | .skip, Q, Q', st, h, hp => h _ _ hp
  | .reg _ _ _, Q, Q', st, h, hp => by
    obtain ⟨s, h1, h2⟩ := hp
    exact ⟨s, h1, h _ _ h2⟩
  | .seq a b, Q, Q', st, h, hp => by
    refine pwp_mono a (fun e s hs => ?_) hp
    cases e with
    | normal => exact pwp_mono b h hs
    | exit i => exact h _ _ hs
    | ret => exact h _ _ hs
  | .cond c x y, Q, Q', st, h, hp => by
    obtain ⟨b, h1, h2, h3⟩ := hp
    exact ⟨b, h1, fun hb => pwp_mono x h (h2 hb), fun hb => pwp_mono y h (h3 hb)⟩
  | .block id c, Q, Q', st, h, hp => by
    refine pwp_mono c (fun e s hs => ?_) hp
    cases e with
    | normal => exact h _ _ hs
    | exit i =>
      simp only at hs ⊢
      split <;> rename_i hi
      · rw [if_pos hi] at hs; exact h _ _ hs
      · rw [if_neg hi] at hs; exact h _ _ hs
    | ret => exact h _ _ hs
  | .loop c, Q, Q', st, h, hp => by
    obtain ⟨R, h1, h2⟩ := hp
    refine ⟨R, h1, fun m s hs => pwp_mono c (fun e s' hs' => ?_) (h2 m s hs)⟩
    cases e with
    | normal => exact hs'
    | exit i => exact h _ _ hs'
    | ret => exact h _ _ hs'
  | .exit i, Q, Q', st, h, hp => h _ _ hp
  | .ret, Q, Q', st, h, hp => h _ _ hp

theorem code_sound (hE : EOk P E) : ∀ (c : Code) {sc : SCode} {Q : Ex → St → Prop} {st : St} {a : Act} {w : World} {z : Cz}, compC P n c = some sc → SR P E.G w0 M0 n st a w z → pwp E sc Q st → c.wp P (Post P E w0 M0 n Q) a w
  | .skip, sc, Q, st, a, w, z, hc, h, hp => by
    simp only [compC, Option.some.injEq] at hc; subst hc
    exact wp_skip ⟨.normal, st, z, rfl, hp, h⟩
  | .region id ops draw, sc, Q, st, a, w, z, hc, h, hp => reg_sound hE hc h hp
  | .seq x y, sc, Q, st, a, w, z, hc, h, hp => by
    simp only [compC, Option.bind_eq_some_iff, Option.map_eq_some_iff] at hc
    obtain ⟨sx, hx, sy, hy, rfl⟩ := hc
    refine wp_seq (wp_mono (code_sound hE x hx h hp) fun e a' w' hpost => ?_)
    obtain ⟨e', st', z', he, hq, hS⟩ := hpost
    subst he
    cases e' with
    | normal => exact code_sound hE y hy hS hq
    | exit i => exact ⟨.exit i, st', z', rfl, hq, hS⟩
    | ret => exact ⟨.ret, st', z', rfl, hq, hS⟩
  | .cond c x y, sc, Q, st, a, w, z, hc, h, hp => by
    simp only [compC, Option.bind_eq_some_iff, Option.map_eq_some_iff] at hc
    obtain ⟨so', hso, sx, hx, sy, hy, rfl⟩ := hc
    obtain ⟨b, h1, h2, h3⟩ := hp
    have hr := h.ctx.c hso h1
    have hb := of_bool hr
    exact wp_cond_split hb (fun hh => code_sound hE x hx h (h2 hh)) (fun hh => code_sound hE y hy h (h3 hh))
  | .block id c, sc, Q, st, a, w, z, hc, h, hp => by
    simp only [compC, Option.map_eq_some_iff] at hc
    obtain ⟨sx, hx, rfl⟩ := hc
    refine wp_block (wp_mono (code_sound hE c hx h hp) fun e a' w' hpost => ?_)
    obtain ⟨e', st', z', he, hq, hS⟩ := hpost
    subst he
    cases e' with
    | normal => exact ⟨.normal, st', z', rfl, hq, hS⟩
    | exit i =>
      simp only at hq
      show (if i = id then _ else _)
      split at hq
      · rename_i hi
        rw [if_pos hi]
        exact ⟨.normal, st', z', rfl, hq, hS⟩
      · rename_i hi
        rw [if_neg hi]
        exact ⟨.exit i, st', z', rfl, hq, hS⟩
    | ret => exact ⟨.ret, st', z', rfl, hq, hS⟩
  | .loop c, sc, Q, st, a, w, z, hc, h, hp => by
    simp only [compC, Option.map_eq_some_iff] at hc
    obtain ⟨sx, hx, rfl⟩ := hc
    obtain ⟨R, ⟨m, hm⟩, hr⟩ := hp
    refine wp_loop_ghost (fun k a w => ∃ s z, R k s ∧ SR P E.G w0 M0 n s a w z) m ⟨st, z, hm, h⟩ fun k a' w' hI => ?_
    obtain ⟨s, z', hR, hS⟩ := hI
    refine wp_mono (code_sound hE c hx hS (hr k s hR)) fun e a'' w'' hpost => ?_
    obtain ⟨e', st', z'', he, hq, hS'⟩ := hpost
    subst he
    cases e' with
    | normal =>
      obtain ⟨k', hk', hR'⟩ := hq
      exact ⟨k', hk', st', z'', hR', hS'⟩
    | exit i => exact ⟨.exit i, st', z'', rfl, hq, hS'⟩
    | ret => exact ⟨.ret, st', z'', rfl, hq, hS'⟩
  | .exit i, sc, Q, st, a, w, z, hc, h, hp => by
    simp only [compC, Option.some.injEq] at hc; subst hc
    exact wp_exit ⟨.exit i, st, z, rfl, hp, h⟩
  | .label l, sc, Q, st, a, w, z, hc, h, hp => by
    simp only [compC, Option.some.injEq] at hc; subst hc
    exact wp_label ⟨.normal, st, z, rfl, hp, h⟩
  | .scope c, sc, Q, st, a, w, z, hc, h, hp => by
    simp only [compC] at hc
    refine wp_scope_straight (wp_mono (code_sound hE c hc h hp) fun e a' w' hpost => ?_)
    obtain ⟨e', st', z', he, hq, hS⟩ := hpost
    subst he
    cases e' <;> exact ⟨_, st', z', rfl, hq, hS⟩
  | .ret, sc, Q, st, a, w, z, hc, h, hp => by
    simp only [compC, Option.some.injEq] at hc; subst hc
    exact wp_ret ⟨.ret, st, z, rfl, hp, h⟩
  | .goto _, sc, Q, st, a, w, z, hc, h, hp => by cases hc
  | .rangeFunc _ _ _ _, sc, Q, st, a, w, z, hc, h, hp => by cases hc
  | .refuse _, sc, Q, st, a, w, z, hc, h, hp => by cases hc
end
end WB
