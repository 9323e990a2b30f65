/-
  THE OWN LAYER, TK: code, with turns of the abstract state anywhere.
-/
import Derived.Test.YtpkoilfecgmogaaCoreTj
namespace WB
open Go Go.RowKit

def pwpS (E : Env) : SCode → (Ex → St → Prop) → St → Prop
  | .skip, Q, st => ∃ s, Seen st s ∧ Q .normal s
  | .reg draw D ls, Q, st => ∃ s, Seen st s ∧ ∃ st', evalReg E draw D ls s = some st' ∧ Q .normal st'
  | .seq a b, Q, st => ∃ s, Seen st s ∧ pwpS E a (fun e s' => match e with | .normal => pwpS E b Q s' | e => Q e s') s
  | .cond c x y, Q, st => ∃ s, Seen st s ∧ ∃ b, so E.G s.fr c = .c (.bool b) ∧ (b = true → pwpS E x Q s) ∧ (b = false → pwpS E y Q s)
  | .block id c, Q, st => ∃ s, Seen st s ∧ pwpS E c (fun e s' => match e with | .exit i => if i = id then Q .normal s' else Q (.exit i) s' | e => Q e s') s
  | .loop c, Q, st => ∃ s, Seen st s ∧ ∃ (R : Nat → St → Prop), (∃ m, R m s) ∧ ∀ m s, R m s → pwpS E c (fun e s' => match e with | .normal => ∃ k, k < m ∧ R k s' | e => Q e s') s
  | .exit id, Q, st => ∃ s, Seen st s ∧ Q (.exit id) s
  | .ret, Q, st => ∃ s, Seen st s ∧ Q .ret s

theorem pwpS_seen {E : Env} {c : SCode} {Q : Ex → St → Prop} {st s : St} (h : Seen st s) (hp : pwpS E c Q s) : pwpS E c Q st := by
  cases c <;> (obtain ⟨s', h1, h2⟩ := hp; exact ⟨s', h.trans h1, h2⟩)

theorem pwpS_mono {E : Env} : ∀ (c : SCode) {Q Q' : Ex → St → Prop} {st : St}, (∀ e s, Q e s → Q' e s) → pwpS E c Q st → pwpS E c Q' st
  | .skip, Q, Q', st, h, ⟨s, hs, hp⟩ => ⟨s, hs, h _ _ hp⟩
  | .reg _ _ _, Q, Q', st, h, ⟨s, hs, s', h1, h2⟩ => ⟨s, hs, s', h1, h _ _ h2⟩
  | .seq a b, Q, Q', st, h, ⟨s, hs, hp⟩ => by
    refine ⟨s, hs, pwpS_mono a (fun e s hs => ?_) hp⟩
    cases e with
    | normal => exact pwpS_mono b h hs
    | exit i => exact h _ _ hs
    | ret => exact h _ _ hs
  | .cond c x y, Q, Q', st, h, ⟨s, hs, b, h1, h2, h3⟩ => ⟨s, hs, b, h1, fun hb => pwpS_mono x h (h2 hb), fun hb => pwpS_mono y h (h3 hb)⟩
  | .block id c, Q, Q', st, h, ⟨s, hs, hp⟩ => by
    refine ⟨s, hs, pwpS_mono c (fun e s hs => ?_) hp⟩
    cases e with
    | normal => exact h _ _ hs
    | exit i =>
      simp only at hs ⊢
      split <;> rename_i hi
      · rw [if_pos hi] at hs; exact h _ _ hs
      · rw [if_neg hi] at hs; exact h _ _ hs
    | ret => exact h _ _ hs
  | .loop c, Q, Q', st, h, ⟨s, hs, R, h1, h2⟩ => by
    refine ⟨s, hs, R, h1, fun m s hs => pwpS_mono c (fun e s' hs' => ?_) (h2 m s hs)⟩
    cases e with
    | normal => exact hs'
    | exit i => exact h _ _ hs'
    | ret => exact h _ _ hs'
  | .exit i, Q, Q', st, h, ⟨s, hs, hp⟩ => ⟨s, hs, h _ _ hp⟩
  | .ret, Q, Q', st, h, ⟨s, hs, hp⟩ => ⟨s, hs, h _ _ hp⟩

section
variable {P : Program} {E : Env} {w0 : World} {M0 : Nat → Prop} {n : Nat}

theorem code_soundS (hE : EOk P E) : ∀ (c : Code) {sc : SCode} {Q : Ex → St → Prop} {st : St} {a : Act} {w : World} {z : Cz}, compC P n c = some sc → SR P E.G w0 M0 n st a w z → pwpS E sc Q st → c.wp P (Post P E w0 M0 n Q) a w
  | .skip, sc, Q, st, a, w, z, hc, h, hp => by
    simp only [compC, Option.some.injEq] at hc; subst hc
    obtain ⟨s, hs, hp⟩ := hp
    obtain ⟨z', h'⟩ := hs h
    exact wp_skip ⟨.normal, s, z', rfl, hp, h'⟩
  | .region id ops draw, sc, Q, st, a, w, z, hc, h, hp => by
    have hc' := hc
    simp only [compC, Option.bind_eq_some_iff] at hc'
    obtain ⟨ls, _, hc'⟩ := hc'
    have : ∃ dr D l, sc = .reg dr D l := by
      split at hc'
      · split at hc'
        · cases hc'; exact ⟨_, _, _, rfl⟩
        · cases hc'
      · cases hc'; exact ⟨_, _, _, rfl⟩
    obtain ⟨dr, D, l, rfl⟩ := this
    obtain ⟨s, hs, hp⟩ := hp
    obtain ⟨z', h'⟩ := hs h
    exact reg_sound hE hc h' hp
  | .seq x y, sc, Q, st, a, w, z, hc, h, hp => by
    simp only [compC, Option.bind_eq_some_iff, Option.map_eq_some_iff] at hc
    obtain ⟨sx, hx, sy, hy, rfl⟩ := hc
    obtain ⟨s, hs, hp⟩ := hp
    obtain ⟨z', h'⟩ := hs h
    refine wp_seq (wp_mono (code_soundS hE x hx h' hp) fun e a' w' hpost => ?_)
    obtain ⟨e', st', z', he, hq, hS⟩ := hpost
    subst he
    cases e' with
    | normal => exact code_soundS hE y hy hS hq
    | exit i => exact ⟨.exit i, st', z', rfl, hq, hS⟩
    | ret => exact ⟨.ret, st', z', rfl, hq, hS⟩
  | .cond c x y, sc, Q, st, a, w, z, hc, h, hp => by
    simp only [compC, Option.bind_eq_some_iff, Option.map_eq_some_iff] at hc
    obtain ⟨so', hso, sx, hx, sy, hy, rfl⟩ := hc
    obtain ⟨s, hs, b, h1, h2, h3⟩ := hp
    obtain ⟨z', h'⟩ := hs h
    have hr := h'.ctx.c hso h1
    have hb := of_bool hr
    exact wp_cond_split hb (fun hh => code_soundS hE x hx h' (h2 hh)) (fun hh => code_soundS hE y hy h' (h3 hh))
  | .block id c, sc, Q, st, a, w, z, hc, h, hp => by
    simp only [compC, Option.map_eq_some_iff] at hc
    obtain ⟨sx, hx, rfl⟩ := hc
    obtain ⟨s, hs, hp⟩ := hp
    obtain ⟨z', h'⟩ := hs h
    refine wp_block (wp_mono (code_soundS hE c hx h' hp) fun e a' w' hpost => ?_)
    obtain ⟨e', st', z', he, hq, hS⟩ := hpost
    subst he
    cases e' with
    | normal => exact ⟨.normal, st', z', rfl, hq, hS⟩
    | exit i =>
      simp only at hq
      show (if i = id then _ else _)
      split at hq
      · rename_i hi
        rw [if_pos hi]
        exact ⟨.normal, st', z', rfl, hq, hS⟩
      · rename_i hi
        rw [if_neg hi]
        exact ⟨.exit i, st', z', rfl, hq, hS⟩
    | ret => exact ⟨.ret, st', z', rfl, hq, hS⟩
  | .loop c, sc, Q, st, a, w, z, hc, h, hp => by
    simp only [compC, Option.map_eq_some_iff] at hc
    obtain ⟨sx, hx, rfl⟩ := hc
    obtain ⟨s0, hs0, R, ⟨m, hm⟩, hr⟩ := hp
    obtain ⟨z0', h'⟩ := hs0 h
    refine wp_loop_ghost (fun k a w => ∃ s z, R k s ∧ SR P E.G w0 M0 n s a w z) m ⟨s0, z0', hm, h'⟩ fun k a' w' hI => ?_
    obtain ⟨s, z', hR, hS⟩ := hI
    refine wp_mono (code_soundS hE c hx hS (hr k s hR)) fun e a'' w'' hpost => ?_
    obtain ⟨e', st', z'', he, hq, hS'⟩ := hpost
    subst he
    cases e' with
    | normal =>
      obtain ⟨k', hk', hR'⟩ := hq
      exact ⟨k', hk', st', z'', hR', hS'⟩
    | exit i => exact ⟨.exit i, st', z'', rfl, hq, hS'⟩
    | ret => exact ⟨.ret, st', z'', rfl, hq, hS'⟩
  | .exit i, sc, Q, st, a, w, z, hc, h, hp => by
    simp only [compC, Option.some.injEq] at hc; subst hc
    obtain ⟨s, hs, hp⟩ := hp
    obtain ⟨z', h'⟩ := hs h
    exact wp_exit ⟨.exit i, s, z', rfl, hp, h'⟩
  | .label l, sc, Q, st, a, w, z, hc, h, hp => by
    simp only [compC, Option.some.injEq] at hc; subst hc
    obtain ⟨s, hs, hp⟩ := hp
    obtain ⟨z', h'⟩ := hs h
    exact wp_label ⟨.normal, s, z', rfl, hp, h'⟩
  | .scope c, sc, Q, st, a, w, z, hc, h, hp => by
    simp only [compC] at hc
    refine wp_scope_straight (wp_mono (code_soundS hE c hc h hp) fun e a' w' hpost => ?_)
    obtain ⟨e', st', z', he, hq, hS⟩ := hpost
    subst he
    cases e' <;> exact ⟨_, st', z', rfl, hq, hS⟩
  | .ret, sc, Q, st, a, w, z, hc, h, hp => by
    simp only [compC, Option.some.injEq] at hc; subst hc
    obtain ⟨s, hs, hp⟩ := hp
    obtain ⟨z', h'⟩ := hs h
    exact wp_ret ⟨.ret, s, z', rfl, hp, h'⟩
  | .goto _, sc, Q, st, a, w, z, hc, h, hp => by cases hc
  | .rangeFunc _ _ _ _, sc, Q, st, a, w, z, hc, h, hp => by cases hc
  | .refuse _, sc, Q, st, a, w, z, hc, h, hp => by cases hc

/-- How a body ends well, over plain data. -/
def finT (rs : List SRes) (t : Ty) (y : D t) (e : Ex) (st : St) : Prop :=
  match e with
  | .exit _ => False
  | _ => ∃ c, resOf st rs = some c ∧ Can t y [c]

theorem fn_okT (hE : EOk P E) {f : FuncId} {m : Model} (hc : compF P f = some m) {l : List CV} {t : Ty} {y : D t} (hl : l.length ≤ m.n) (h : pwpS E m.code (finT m.res t y) (init l)) : hasBody P f = true ∧ CallsTo P E.G f l (.val (enc t y)) := by
  unfold compF at hc
  split at hc <;> try (cases hc; done)
  rename_i hb
  refine ⟨hb, ?_⟩
  simp only [Option.bind_eq_some_iff, Option.map_eq_some_iff] at hc
  obtain ⟨fn, hf, b, hbody, c, hcode, rs, hrs, rfl⟩ := hc
  intro w M vs hM hG hL
  refine calls_of_wp hf hbody (wp_mono (code_soundS hE b hcode (init_rel hM hG hl hL) h) fun e a' w' hpost => ?_)
  obtain ⟨e', st', z', he, hq, hS⟩ := hpost
  subst he
  have fin_ : (∃ c, resOf st' rs = some c ∧ Can t y [c]) → a'.defers = [] ∧ ∃ v, (results fn a'.tmps).run P w' = .ok v w' ∧ ∃ u, Ending.returned v = .returned u ∧ Below w.heap.size w w' ∧ RelR P w' M w.heap.size u (.val (enc t y)) := fun ⟨c, hr, hcan⟩ => by
    obtain ⟨v, h1, h2⟩ := res_run hS hrs hr
    exact ⟨hS.defers, v, h1, v, rfl, hS.below, RelC.enc hcan h2⟩
  cases e' with
  | normal => exact fin_ hq
  | exit i => exact hq.elim
  | ret => exact fin_ hq
end
end WB
