/-
  THE OWN LAYER, W: regions that draw their order.
-/
import Derived.Test.YtpkoilfecgmogaaCoreV
import Derived.Orders
namespace WB
open Go Go.RowKit

def SO.slot : SO → List Nat
  | .t i => [i]
  | _ => []
def optSlots : Option SO → List Nat
  | some x => x.slot
  | none => []
/-- The slots that an operation reads. -/
def SOp.slots : SOp → List Nat
  | .mov x | .un _ x | .cvi _ x | .cvrune x | .cvbs x | .cvid x | .isnil _ _ x | .field _ _ x | .ext x _ | .faddr _ x | .load _ x | .len _ x | .box x | .bytes _ x | .siter x | .snext x => x.slot
  | .pick c a b => c.slot ++ a.slot ++ b.slot
  | .bin _ x y | .eqs _ _ x y | .beq _ x y | .iaddr _ x y | .aaddr _ _ x y | .sidx x y | .aidx _ _ _ x y | .lookup _ _ _ _ x y | .make _ _ _ _ x y | .store _ x y | .append _ _ _ x y | .mapent _ x y => x.slot ++ y.slot
  | .build _ ps => ps.flatMap fun p => p.2.2.slot
  | .minmax _ xs | .fnv _ xs | .mksl _ _ xs | .call _ xs => xs.flatMap SO.slot
  | .callv f xs => f.slot ++ xs.flatMap SO.slot
  | .sslice x l h | .slice _ x l h => x.slot ++ optSlots l ++ optSlots h
  | .alloc _ | .mkmap .. => []
  | .entst x y z | .mapupd _ x y z => x.slot ++ y.slot ++ z.slot

def SL.looks (l : SL) : List Nat := l.op.slots ++ (match l.guard with | some (g, _) => [g] | none => [])

/-- Does an operation turn objects. -/
def SOp.hard : SOp → Bool
  | .store .. | .append .. | .mapent .. | .entst .. | .mapupd .. | .snext .. => true
  | _ => false

/-- Does an operation reckon without any object, or look up a value that is there or not. -/
def SOp.calm : SOp → Bool
  | .bin .. | .eqs .. | .beq .. | .un .. | .cvi .. | .mov .. | .ext .. | .minmax .. | .lookup _ _ _ false _ _ => true
  | _ => false
def SOp.entry : SOp → Bool
  | .mapent .. => true
  | _ => false
def SOp.makes : SOp → Bool
  | .alloc .. | .box .. | .mksl .. | .mkmap .. | .make .. | .siter .. | .call .. | .callv .. => true
  | _ => false

/-- May two operations change places, the first of them in the text ahead of the second. -/
def free (x y : SL) : Bool :=
  (x.dst.all fun d => !y.looks.contains d && y.dst != some d) && (y.dst.all fun d => !x.looks.contains d) && !x.op.hard && (!y.op.hard || (y.op.entry && x.op.calm))

/-- Does an operation come behind another one, by the edges. -/
def ancB (ops : Array Oper) : Nat → Nat → Nat → Bool
  | 0, _, _ => false
  | k + 1, i, j => match ops[j]? with
    | some o => o.after.any fun e => Region.binds .any e && (e.on == i || (e.on < j && ancB ops k i e.on))
    | none => false

def drawOk (P : Program) (ops : Array Oper) (D : List Nat) (ls : List SL) : Bool :=
  P.follows .mixedOrders &&
  (ops.toList.zipIdx.all fun p => p.1.after.all fun e => !(Region.binds .any e) || decide (e.on < p.2)) &&
  (ls.all fun l => !l.op.makes || l.dst.all fun d => D.contains d) &&
  ((List.range ls.length).all fun j => (List.range j).all fun i => ancB ops ls.length i j || match ls[i]?, ls[j]? with
    | some x, some y => free x y
    | _, _ => false)

/-! ### What an operation without effects yields -/

def softCall (E : Env) (rd : Nat → Ob) (ρ : SO → SV) (d : Option Nat) (f : FuncId) (args : List SO) (caps : List CV) : Option (SV × Option Ob) :=
  (allM (fun x => close rd (ρ x)) args).bind fun l => (E.fn f (l ++ caps)).bind fun r =>
    if (args.all fun x => isC (ρ x)) || r.memless then some (match r with | .val v => (.c v, none) | .new o => (refOf (d.getD 0) o, some o)) else none

def softOp (E : Env) (rd : Nat → Ob) (ρ : SO → SV) (d : Option Nat) (op : SOp) : Option (SV × Option Ob) :=
  match op.cls with
  | .val | .grow => (valOp rd ρ op).map fun v => (v, none)
  | .new => (newOp ρ (d.getD 0) op).map fun (v, o) => (v, some o)
  | .eff => none
  | .call => match op with
    | .call f args => softCall E rd ρ d f args []
    | .callv f args => match ρ f with
      | .c (.fn f caps) => softCall E rd ρ d f args caps
      | _ => none
    | _ => none

def softL (E : Env) (l : SL) (fr : Nat → SV) (rd : Nat → Ob) : Option (SV × Option Ob) :=
  match l.guard with
  | none => softOp E rd (so E.G fr) l.dst l.op
  | some (g, want) => match fr g with
    | .c (.bool b) => if b = want then softOp E rd (so E.G fr) l.dst l.op else some (skipped, none)
    | .c (.tup []) => some (skipped, none)
    | _ => none

def put (st : St) (d : Option Nat) : SV × Option Ob → Option St
  | (v, none) => some (st.set d v)
  | (v, some o) => addNew st d v o

section
variable {E : Env}

theorem softCall_put {rd : Nat → Ob} {ρ : SO → SV} {st : St} {d : Option Nat} {f : FuncId} {args : List SO} {caps : List CV} : callOp E rd ρ st d f args caps = (softCall E rd ρ d f args caps).bind (put st d) := by
  unfold callOp softCall
  cases allM (fun x => close rd (ρ x)) args with
  | none => rfl
  | some l =>
    simp only [Option.bind_some]
    cases E.fn f (l ++ caps) with
    | none => rfl
    | some r =>
      simp only [Option.bind_some]
      split
      · cases r <;> rfl
      · rfl

theorem softOp_put {rd : Nat → Ob} {st : St} {d : Option Nat} {op : SOp} (hs : op.hard = false) : evalOp E rd st d op = (softOp E rd (so E.G st.fr) d op).bind (put st d) := by
  cases op <;> simp only [SOp.hard, Bool.true_eq_false] at hs <;> simp only [evalOp, softOp, SOp.cls] <;> first
    | rfl
    | (cases valOp rd (so E.G st.fr) _ <;> rfl)
    | (generalize newOp (so E.G st.fr) (d.getD 0) _ = q; cases q <;> rfl)
    | exact softCall_put
    | skip
  generalize so E.G st.fr _ = q
  cases q <;> first
    | rfl
    | (rename_i v; cases v <;> first | rfl | exact softCall_put)

theorem softL_put {D : List Nat} {st : St} {l : SL} (hs : l.op.hard = false) : evalL E (some D) l st = (softL E l st.fr (mask (some D) st.ob)).bind (put st l.dst) := by
  unfold evalL softL
  cases l.guard with
  | none => exact softOp_put hs
  | some p =>
    obtain ⟨g, want⟩ := p
    simp only
    generalize st.fr g = q
    cases q with
    | c v =>
      cases v with
      | bool b =>
        simp only
        split
        · exact softOp_put hs
        · rfl
      | tup l => cases l <;> rfl
      | _ => rfl
    | _ => rfl

theorem so_congr {G : Nat → List CV} {fr fr' : Nat → SV} (x : SO) (h : ∀ i ∈ x.slot, fr i = fr' i) : so G fr x = so G fr' x := by
  cases x with
  | t i => exact h i (by simp [SO.slot])
  | _ => rfl

theorem allM_congr {α β : Type} {f g : α → Option β} : ∀ (l : List α), (∀ x ∈ l, f x = g x) → allM f l = allM g l
  | [], _ => rfl
  | x :: l, h => by
    simp only [allM, h x (by simp), allM_congr l (fun y hy => h y (by simp [hy]))]

theorem all_congr' {α : Type} {f g : α → Bool} : ∀ (l : List α), (∀ x ∈ l, f x = g x) → l.all f = l.all g
  | [], _ => rfl
  | x :: l, h => by
    simp only [List.all_cons, h x (by simp), all_congr' l (fun y hy => h y (by simp [hy]))]

theorem opt_congr {ρ ρ' : SO → SV} (o : Option SO) (h : ∀ x, (∀ i ∈ x.slot, i ∈ optSlots o) → ρ x = ρ' x) : o.map ρ = o.map ρ' := by
  cases o with
  | none => rfl
  | some x => simp [h x (fun i hi => by simpa [optSlots] using hi)]

theorem softOp_congr {rd : Nat → Ob} {fr fr' : Nat → SV} {d : Option Nat} (op : SOp) (h : ∀ i ∈ op.slots, fr i = fr' i) : softOp E rd (so E.G fr) d op = softOp E rd (so E.G fr') d op := by
  have key : ∀ x : SO, (∀ i ∈ x.slot, i ∈ op.slots) → so E.G fr x = so E.G fr' x := fun x hx => so_congr x fun i hi => h i (hx i hi)
  generalize so E.G fr = ρ at key ⊢
  generalize so E.G fr' = ρ' at key ⊢
  cases op with
  | mov x => simp only [softOp, SOp.cls, valOp, key x (fun i hi => by simp [SOp.slots, hi])]
  | pick c x y => simp only [softOp, SOp.cls, valOp, key c (fun i hi => by simp [SOp.slots, hi]), key x (fun i hi => by simp [SOp.slots, hi]), key y (fun i hi => by simp [SOp.slots, hi])]
  | bin op x y => simp only [softOp, SOp.cls, valOp, key x (fun i hi => by simp [SOp.slots, hi]), key y (fun i hi => by simp [SOp.slots, hi])]
  | eqs n ts x y => simp only [softOp, SOp.cls, valOp, key x (fun i hi => by simp [SOp.slots, hi]), key y (fun i hi => by simp [SOp.slots, hi])]
  | beq n x y => simp only [softOp, SOp.cls, valOp, key x (fun i hi => by simp [SOp.slots, hi]), key y (fun i hi => by simp [SOp.slots, hi])]
  | isnil k n x => simp only [softOp, SOp.cls, valOp, key x (fun i hi => by simp [SOp.slots, hi])]
  | un op x => simp only [softOp, SOp.cls, valOp, key x (fun i hi => by simp [SOp.slots, hi])]
  | cvi k x => simp only [softOp, SOp.cls, valOp, key x (fun i hi => by simp [SOp.slots, hi])]
  | cvrune x => simp only [softOp, SOp.cls, valOp, key x (fun i hi => by simp [SOp.slots, hi])]
  | cvbs x => rfl
  | cvid x => simp only [softOp, SOp.cls, valOp, key x (fun i hi => by simp [SOp.slots, hi])]
  | field o s x => simp only [softOp, SOp.cls, valOp, key x (fun i hi => by simp [SOp.slots, hi])]
  | ext x j => simp only [softOp, SOp.cls, valOp, key x (fun i hi => by simp [SOp.slots, hi])]
  | faddr o x => simp only [softOp, SOp.cls, valOp, key x (fun i hi => by simp [SOp.slots, hi])]
  | iaddr s x y => simp only [softOp, SOp.cls, valOp, key x (fun i hi => by simp [SOp.slots, hi]), key y (fun i hi => by simp [SOp.slots, hi])]
  | aaddr l s x y => simp only [softOp, SOp.cls, valOp, key x (fun i hi => by simp [SOp.slots, hi]), key y (fun i hi => by simp [SOp.slots, hi])]
  | sidx x y => simp only [softOp, SOp.cls, valOp, key x (fun i hi => by simp [SOp.slots, hi]), key y (fun i hi => by simp [SOp.slots, hi])]
  | aidx l s z x y => simp only [softOp, SOp.cls, valOp, key x (fun i hi => by simp [SOp.slots, hi]), key y (fun i hi => by simp [SOp.slots, hi])]
  | load s x => simp only [softOp, SOp.cls, valOp, key x (fun i hi => by simp [SOp.slots, hi])]
  | len k x => simp only [softOp, SOp.cls, valOp, key x (fun i hi => by simp [SOp.slots, hi])]
  | lookup mt kt z ok x y => simp only [softOp, SOp.cls, valOp, key x (fun i hi => by simp [SOp.slots, hi]), key y (fun i hi => by simp [SOp.slots, hi])]
  | alloc z => rfl
  | box x => simp only [softOp, SOp.cls, newOp, key x (fun i hi => by simp [SOp.slots, hi])]
  | mkmap mt kt z => rfl
  | make e s b z x y => simp only [softOp, SOp.cls, newOp, key x (fun i hi => by simp [SOp.slots, hi]), key y (fun i hi => by simp [SOp.slots, hi])]
  | bytes e x => simp only [softOp, SOp.cls, valOp, key x (fun i hi => by simp [SOp.slots, hi])]
  | siter x => simp only [softOp, SOp.cls, newOp, key x (fun i hi => by simp [SOp.slots, hi])]
  | store n x y => rfl
  | append e s b x y => rfl
  | mapent mt x y => rfl
  | entst x y z => rfl
  | mapupd mt x y z => rfl
  | snext x => rfl
  | sslice x lo hi =>
    have e1 := opt_congr lo (fun y hy => key y (fun i hi => by simp [SOp.slots, hy i hi]))
    have e2 := opt_congr hi (fun y hy => key y (fun i hi => by simp [SOp.slots, hy i hi]))
    simp only [softOp, SOp.cls, valOp, key x (fun i hi => by simp [SOp.slots, hi]), e1, e2]
  | slice s x lo hi =>
    have e1 := opt_congr lo (fun y hy => key y (fun i hi => by simp [SOp.slots, hy i hi]))
    have e2 := opt_congr hi (fun y hy => key y (fun i hi => by simp [SOp.slots, hy i hi]))
    simp only [softOp, SOp.cls, valOp, key x (fun i hi => by simp [SOp.slots, hi]), e1, e2]
  | build z ps =>
    simp only [softOp, SOp.cls, valOp]
    rw [allM_congr ps (fun p hp => by rw [key p.2.2 (fun i hi => by simp only [SOp.slots, List.mem_flatMap]; exact ⟨p, hp, hi⟩)])]
  | minmax m xs =>
    simp only [softOp, SOp.cls, valOp]
    rw [allM_congr xs (fun p hp => by rw [key p (fun i hi => by simp only [SOp.slots, List.mem_flatMap]; exact ⟨p, hp, hi⟩)])]
  | fnv f xs =>
    simp only [softOp, SOp.cls, valOp]
    rw [allM_congr xs (fun p hp => by rw [key p (fun i hi => by simp only [SOp.slots, List.mem_flatMap]; exact ⟨p, hp, hi⟩)])]
  | mksl e s xs =>
    simp only [softOp, SOp.cls, newOp]
    rw [allM_congr xs (fun p hp => by rw [key p (fun i hi => by simp only [SOp.slots, List.mem_flatMap]; exact ⟨p, hp, hi⟩)])]
  | call f xs =>
    simp only [softOp, SOp.cls, softCall]
    rw [allM_congr xs (fun p hp => by rw [key p (fun i hi => by simp only [SOp.slots, List.mem_flatMap]; exact ⟨p, hp, hi⟩)]),
      all_congr' xs (fun p hp => by rw [key p (fun i hi => by simp only [SOp.slots, List.mem_flatMap]; exact ⟨p, hp, hi⟩)])]
  | callv f xs =>
    simp only [softOp, SOp.cls, softCall]
    rw [allM_congr xs (fun p hp => by rw [key p (fun i hi => by simp only [SOp.slots, List.mem_append, List.mem_flatMap]; exact .inr ⟨p, hp, hi⟩)]),
      all_congr' xs (fun p hp => by rw [key p (fun i hi => by simp only [SOp.slots, List.mem_append, List.mem_flatMap]; exact .inr ⟨p, hp, hi⟩)]),
      key f (fun i hi => by simp [SOp.slots, hi])]

theorem softL_congr {rd : Nat → Ob} {fr fr' : Nat → SV} {l : SL} (h : ∀ i ∈ l.looks, fr i = fr' i) : softL E l fr rd = softL E l fr' rd := by
  have h1 : ∀ i ∈ l.op.slots, fr i = fr' i := fun i hi => h i (by simp [SL.looks, hi])
  unfold softL
  cases hg : l.guard with
  | none => exact softOp_congr _ h1
  | some p =>
    obtain ⟨g, want⟩ := p
    simp only
    rw [h g (by simp [SL.looks, hg]), softOp_congr _ h1]

theorem put_mask {D : List Nat} {st st' : St} {d : Option Nat} {p : SV × Option Ob} (h : put st d p = some st') (hD : p.2.isSome = true → ∀ j, d = some j → D.contains j = true) : mask (some D) st'.ob = mask (some D) st.ob := by
  obtain ⟨v, o⟩ := p
  cases o with
  | none =>
    simp only [put, Option.some.injEq] at h
    subst h
    cases d <;> rfl
  | some o =>
    simp only [put, addNew] at h
    cases d with
    | none => cases h
    | some d =>
      simp only at h
      split at h <;> try (cases h; done)
      cases h
      have := hD rfl d rfl
      funext i
      simp only [mask, upd_apply]
      split
      · rfl
      · rename_i hi
        split
        · rename_i e; subst e; exact (hi this).elim
        · rfl

theorem put_fr {st st' : St} {d : Option Nat} {p : SV × Option Ob} (h : put st d p = some st') {i : Nat} (hi : d ≠ some i) : st'.fr i = st.fr i := by
  obtain ⟨v, o⟩ := p
  cases o with
  | none =>
    simp only [put, Option.some.injEq] at h
    subst h
    cases d with
    | none => rfl
    | some d => exact upd_ne _ _ (fun e => hi (by rw [e]))
  | some o =>
    simp only [put, addNew] at h
    cases d with
    | none => cases h
    | some d =>
      simp only at h
      split at h <;> try (cases h; done)
      cases h
      exact upd_ne _ _ (fun e => hi (by rw [e]))

theorem upd_comm {α : Type} (f : Nat → α) {i j : Nat} (u v : α) (h : i ≠ j) : upd (upd f i u) j v = upd (upd f j v) i u := by
  funext k
  simp only [upd_apply]
  by_cases h1 : k = i <;> by_cases h2 : k = j <;> simp_all

theorem put_comm {st s1 s2 : St} {d1 d2 : Option Nat} {p1 p2 : SV × Option Ob} (h1 : put st d1 p1 = some s1) (h2 : put s1 d2 p2 = some s2) (hd : ∀ i j, d1 = some i → d2 = some j → i ≠ j) : ∃ s, put st d2 p2 = some s ∧ put s d1 p1 = some s2 := by
  obtain ⟨v1, o1⟩ := p1
  obtain ⟨v2, o2⟩ := p2
  cases d1 with
  | none =>
    cases o1 with
    | none =>
      simp only [put, Option.some.injEq] at h1
      cases h1
      exact ⟨s2, h2, rfl⟩
    | some o => cases h1
  | some i =>
    cases d2 with
    | none =>
      cases o2 with
      | none =>
        simp only [put, Option.some.injEq] at h2
        cases h2
        exact ⟨st, rfl, h1⟩
      | some o => cases h2
    | some j =>
      have hij := hd i j rfl rfl
      cases o1 with
      | none =>
        simp only [put, Option.some.injEq] at h1
        cases h1
        cases o2 with
        | none =>
          simp only [put, Option.some.injEq] at h2
          cases h2
          exact ⟨_, rfl, by simp [put, St.set, upd_comm _ _ _ hij]⟩
        | some o2 =>
          simp only [put, addNew, St.set] at h2
          split at h2 <;> try (cases h2; done)
          rename_i hn
          cases h2
          exact ⟨{ fr := upd st.fr j v2, ob := upd st.ob j o2 }, by simp [put, addNew, hn], by simp [put, St.set, upd_comm _ _ _ hij]⟩
      | some o1 =>
        simp only [put, addNew] at h1
        split at h1 <;> try (cases h1; done)
        rename_i hn
        cases h1
        cases o2 with
        | none =>
          simp only [put, Option.some.injEq] at h2
          cases h2
          exact ⟨_, rfl, by simp [put, addNew, St.set, hn, upd_comm _ _ _ hij]⟩
        | some o2 =>
          simp only [put, addNew, upd_ne _ _ (Ne.symm hij)] at h2
          split at h2 <;> try (cases h2; done)
          rename_i hn2
          cases h2
          exact ⟨{ fr := upd st.fr j v2, ob := upd st.ob j o2 }, by simp [put, addNew, hn2], by simp [put, addNew, upd_ne _ _ hij, hn, upd_comm _ _ _ hij]⟩

theorem softOp_makes {rd : Nat → Ob} {ρ : SO → SV} {d : Option Nat} {op : SOp} {p : SV × Option Ob} (h : softOp E rd ρ d op = some p) (hp : p.2.isSome = true) : op.makes = true := by
  cases op <;> simp only [softOp, SOp.cls, Option.map_eq_some_iff, reduceCtorEq] at h <;> first
    | rfl
    | (obtain ⟨v, _, rfl⟩ := h; cases hp)

theorem softL_makes {l : SL} {fr : Nat → SV} {rd : Nat → Ob} {p : SV × Option Ob} (h : softL E l fr rd = some p) (hp : p.2.isSome = true) : l.op.makes = true := by
  unfold softL at h
  split at h
  · exact softOp_makes h hp
  · split at h
    · split at h
      · exact softOp_makes h hp
      · cases h; cases hp
    · cases h; cases hp
    · cases h

theorem swap_soft {D : List Nat} {a b : SL} {st s1 s2 : St} (ha : a.op.hard = false) (hb : b.op.hard = false) (hDa : a.op.makes = true → ∀ j, a.dst = some j → D.contains j = true) (hDb : b.op.makes = true → ∀ j, b.dst = some j → D.contains j = true)
    (hab : ∀ i, a.dst = some i → i ∉ b.looks ∧ b.dst ≠ some i) (hba : ∀ i, b.dst = some i → i ∉ a.looks) (h1 : evalL E (some D) a st = some s1) (h2 : evalL E (some D) b s1 = some s2) :
    ∃ s, evalL E (some D) b st = some s ∧ evalL E (some D) a s = some s2 := by
  rw [softL_put ha, Option.bind_eq_some_iff] at h1
  rw [softL_put hb, Option.bind_eq_some_iff] at h2
  obtain ⟨p1, e1, h1⟩ := h1
  obtain ⟨p2, e2, h2⟩ := h2
  have m1 := put_mask (D := D) h1 (fun hs j hj => hDa (softL_makes e1 hs) j hj)
  rw [m1, softL_congr (fr' := st.fr) (fun i hi => put_fr h1 (fun e => (hab i e).1 hi))] at e2
  obtain ⟨s, g1, g2⟩ := put_comm h1 h2 (fun i j hi hj e => (hab i hi).2 (by rw [hj, e]))
  have m2 := put_mask (D := D) g1 (fun hs j hj => hDb (softL_makes e2 hs) j hj)
  refine ⟨s, ?_, ?_⟩
  · rw [softL_put hb, e2]; exact g1
  · rw [softL_put ha, m2, softL_congr (fr' := st.fr) (fun i hi => put_fr g1 (fun e => hba i e hi)), e1]; exact g2
end
end WB
