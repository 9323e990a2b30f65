/-
  THE OWN LAYER, Z: how a model is walked.
-/
import Derived.Test.YtpkoilfecgmogaaCoreY
namespace WB
open Go Go.RowKit

section
variable {E : Env} {Q : Ex → St → Prop} {st : St}

def thenK (E : Env) (b : SCode) (Q : Ex → St → Prop) (e : Ex) (st : St) : Prop :=
  match e with
  | .normal => pwp E b Q st
  | e => Q e st
def blockK (id : Nat) (Q : Ex → St → Prop) (e : Ex) (st : St) : Prop :=
  match e with
  | .exit i => if i = id then Q .normal st else Q (.exit i) st
  | e => Q e st
/-- What holds behind a loop's turn. -/
def turnK (R : Nat → St → Prop) (Q : Ex → St → Prop) (m : Nat) (e : Ex) (st : St) : Prop :=
  match e with
  | .normal => ∃ k, k < m ∧ R k st
  | e => Q e st

theorem p_skip (h : Q .normal st) : pwp E .skip Q st := h
theorem p_reg {d : Bool} {D : List Nat} {ls : List SL} {st' : St} (h1 : evalReg E d D ls st = some st') (h : Q .normal st') : pwp E (.reg d D ls) Q st := ⟨st', h1, h⟩
theorem p_seq {a b : SCode} (h : pwp E a (thenK E b Q) st) : pwp E (.seq a b) Q st := pwp_mono a (fun e s hs => by cases e <;> exact hs) h
theorem p_cond {c : SO} {x y : SCode} {b : Bool} (h1 : so E.G st.fr c = .c (.bool b)) (h2 : b = true → pwp E x Q st) (h3 : b = false → pwp E y Q st) : pwp E (.cond c x y) Q st := ⟨b, h1, h2, h3⟩
theorem p_true {c : SO} {x y : SCode} (h1 : so E.G st.fr c = .c (.bool true)) (h2 : pwp E x Q st) : pwp E (.cond c x y) Q st := ⟨true, h1, fun _ => h2, fun h => (by cases h)⟩
theorem p_false {c : SO} {x y : SCode} (h1 : so E.G st.fr c = .c (.bool false)) (h2 : pwp E y Q st) : pwp E (.cond c x y) Q st := ⟨false, h1, fun h => (by cases h), fun _ => h2⟩
theorem p_block {id : Nat} {b : SCode} (h : pwp E b (blockK id Q) st) : pwp E (.block id b) Q st := pwp_mono b (fun e s hs => by cases e <;> exact hs) h
theorem p_exit {id : Nat} (h : Q (.exit id) st) : pwp E (.exit id) Q st := h
theorem p_ret (h : Q .ret st) : pwp E .ret Q st := h
theorem p_loop {c : SCode} (R : Nat → St → Prop) (m : Nat) (h : R m st) (hr : ∀ m s, R m s → pwp E c (turnK R Q m) s) : pwp E (.loop c) Q st :=
  ⟨R, ⟨m, h⟩, fun m s hs => pwp_mono c (fun e s' hs' => by cases e <;> exact hs') (hr m s hs)⟩
theorem then_normal {b : SCode} (h : pwp E b Q st) : thenK E b Q .normal st := h
theorem then_exit {b : SCode} {i : Nat} (h : Q (.exit i) st) : thenK E b Q (.exit i) st := h
theorem then_ret {b : SCode} (h : Q .ret st) : thenK E b Q .ret st := h
theorem block_normal {id : Nat} (h : Q .normal st) : blockK id Q .normal st := h
theorem block_exit {id : Nat} (h : Q .normal st) : blockK id Q (.exit id) st := by simp only [blockK, if_true]; exact h
theorem block_past {id i : Nat} (hi : i ≠ id) (h : Q (.exit i) st) : blockK id Q (.exit i) st := by simp only [blockK, if_neg hi]; exact h
theorem block_ret {id : Nat} (h : Q .ret st) : blockK id Q .ret st := h
theorem turn_normal {R : Nat → St → Prop} {m k : Nat} (hk : k < m) (h : R k st) : turnK R Q m .normal st := ⟨k, hk, h⟩
theorem turn_exit {R : Nat → St → Prop} {m i : Nat} (h : Q (.exit i) st) : turnK R Q m (.exit i) st := h
theorem turn_ret {R : Nat → St → Prop} {m : Nat} (h : Q .ret st) : turnK R Q m .ret st := h
theorem fin_ret {rs : List SRes} {r : CV} (h : resOf st rs = some r) : fin rs r .ret st := h
theorem fin_normal {rs : List SRes} {r : CV} (h : resOf st rs = some r) : fin rs r .normal st := h

/-! ### Lines, one by one -/

def setS (st : St) (d : Nat) (v : SV) : St := { fr := upd st.fr d v, ob := st.ob }
def newS (st : St) (d : Nat) (v : SV) (o : Ob) : St := { fr := upd st.fr d v, ob := upd st.ob d o }
theorem setS_fr (st : St) (d i : Nat) (v : SV) : (setS st d v).fr i = if i = d then v else st.fr i := rfl
theorem setS_ob (st : St) (d : Nat) (v : SV) : (setS st d v).ob = st.ob := rfl
theorem newS_fr (st : St) (d i : Nat) (v : SV) (o : Ob) : (newS st d v o).fr i = if i = d then v else st.fr i := rfl
theorem newS_ob (st : St) (d i : Nat) (v : SV) (o : Ob) : (newS st d v o).ob i = if i = d then o else st.ob i := rfl
theorem kill_fr (D : List Nat) (st : St) (i : Nat) : (kill D st).fr i = killSV D (st.fr i) := rfl
theorem kill_ob (D : List Nat) (st : St) (i : Nat) : (kill D st).ob i = if D.contains i then .none else killOb D (st.ob i) := rfl
theorem so_t (G : Nat → List CV) (fr : Nat → SV) (i : Nat) : so G fr (.t i) = fr i := rfl
theorem so_k (G : Nat → List CV) (fr : Nat → SV) (v : CV) : so G fr (.k v) = .c v := rfl
theorem mask_none (ob : Nat → Ob) : mask none ob = ob := rfl
theorem mask_some (D : List Nat) (ob : Nat → Ob) (i : Nat) : mask (some D) ob i = if D.contains i then .none else ob i := rfl
theorem init_fr (l : List CV) (i : Nat) : (init l).fr i = match l[i]? with | some c => .c c | none => .undef := rfl
theorem init_ob (l : List CV) (i : Nat) : (init l).ob i = .none := rfl

def pLs (E : Env) (D : Option (List Nat)) (ls : List SL) (K : St → Prop) (st : St) : Prop := ∃ st', evalLs E D ls st = some st' ∧ K st'

variable {D : Option (List Nat)} {K : St → Prop} {ls : List SL}

theorem p_reg0 {d : Bool} (h : pLs E (if d then some [] else none) ls (Q .normal) st) : pwp E (.reg d [] ls) Q st := by
  obtain ⟨s, h1, h2⟩ := h
  exact ⟨s, by simpa [evalReg] using h1, h2⟩
theorem p_reg1 {d : Bool} {i : Nat} {is : List Nat} (h : pLs E (if d then some (i :: is) else none) ls (Q .normal) (kill (i :: is) st)) : pwp E (.reg d (i :: is) ls) Q st := by
  obtain ⟨s, h1, h2⟩ := h
  exact ⟨s, by simpa [evalReg] using h1, h2⟩
theorem c_nil (h : K st) : pLs E D [] K st := ⟨st, rfl, h⟩
theorem c_one {l : SL} {s : St} (h1 : evalL E D l st = some s) (h : pLs E D ls K s) : pLs E D (l :: ls) K st := by
  obtain ⟨s', h2, h3⟩ := h
  exact ⟨s', by simp [evalLs, h1, h2], h3⟩
theorem c_val {d : Nat} {op : SOp} {v : SV} (hc : op.cls = .val ∨ op.cls = .grow) (h1 : valOp (mask D st.ob) (so E.G st.fr) op = some v) (h : pLs E D ls K (setS st d v)) : pLs E D (⟨some d, op, none⟩ :: ls) K st := by
  refine c_one ?_ h
  rcases hc with hc | hc <;> simp [evalL, evalOp, hc, h1, St.set, setS]
theorem c_new {d : Nat} {op : SOp} {v : SV} {o : Ob} (hc : op.cls = .new) (h1 : newOp (so E.G st.fr) d op = some (v, o)) (h2 : st.ob d = .none) (h : pLs E D ls K (newS st d v o)) : pLs E D (⟨some d, op, none⟩ :: ls) K st := by
  refine c_one ?_ h
  simp [evalL, evalOp, hc, h1, addNew, h2, newS]
theorem c_eff {d : Option Nat} {op : SOp} {s : St} (hc : op.cls = .eff) (h1 : effOp d (so E.G st.fr) st op = some s) (h : pLs E D ls K s) : pLs E D (⟨d, op, none⟩ :: ls) K st := by
  refine c_one ?_ h
  simp [evalL, evalOp, hc, h1]
theorem c_call {d : Nat} {f : FuncId} {args : List SO} {l : List CV} {v : CV} (h1 : allM (fun x => close (mask D st.ob) (so E.G st.fr x)) args = some l) (h2 : E.fn f l = some (.val v)) (h3 : ((args.all fun x => isC (so E.G st.fr x)) || memless v) = true) (h : pLs E D ls K (setS st d (.c v))) : pLs E D (⟨some d, .call f args, none⟩ :: ls) K st := by
  refine c_one ?_ h
  have h3' : ((args.all fun x => isC (so E.G st.fr x)) || (Res.val v).memless) = true := h3
  simp only [evalL, evalOp, SOp.cls, callOp, h1, Option.bind_some, List.append_nil, h2, h3', if_true, setRes, St.set, setS]
/-- A guard that lets pass, and one that doesn't. -/
theorem c_go {d : Option Nat} {op : SOp} {g : Nat} {want : Bool} (hg : st.fr g = .c (.bool want)) (h : pLs E D (⟨d, op, none⟩ :: ls) K st) : pLs E D (⟨d, op, some (g, want)⟩ :: ls) K st := by
  obtain ⟨s, h1, h2⟩ := h
  refine ⟨s, ?_, h2⟩
  simp only [evalLs, evalL] at h1 ⊢
  simp only [hg, if_true]
  exact h1
theorem c_skip {d : Nat} {op : SOp} {g : Nat} {want b : Bool} (hg : st.fr g = .c (.bool b)) (hb : b = !want) (h : pLs E D ls K (setS st d skipped)) : pLs E D (⟨some d, op, some (g, want)⟩ :: ls) K st := by
  refine c_one ?_ h
  subst hb
  simp [evalL, hg, St.set, setS]
theorem c_skip' {d : Nat} {op : SOp} {g : Nat} {want : Bool} (hg : st.fr g = skipped) (h : pLs E D ls K (setS st d skipped)) : pLs E D (⟨some d, op, some (g, want)⟩ :: ls) K st := by
  refine c_one ?_ h
  simp [evalL, hg, St.set, setS, skipped]
/-- A guard that hangs on what is not known yet. -/
theorem c_split {d : Option Nat} {op : SOp} {g : Nat} {want b : Bool} (hg : st.fr g = .c (.bool b)) (h1 : b = true → pLs E D (⟨d, op, some (g, want)⟩ :: ls) K st) (h2 : b = false → pLs E D (⟨d, op, some (g, want)⟩ :: ls) K st) : pLs E D (⟨d, op, some (g, want)⟩ :: ls) K st := by
  cases b
  · exact h2 rfl
  · exact h1 rfl
theorem c_mov {d : Nat} {x : SO} {v : SV} (h1 : valOp (mask D st.ob) (so E.G st.fr) (.mov x) = some v) (h2 : pLs E D ls K (setS st d v)) : pLs E D (⟨some d, .mov x, none⟩ :: ls) K st := c_val (.inl rfl) h1 h2
theorem c_pick {d : Nat} {c a b : SO} {v : SV} (h1 : valOp (mask D st.ob) (so E.G st.fr) (.pick c a b) = some v) (h2 : pLs E D ls K (setS st d v)) : pLs E D (⟨some d, .pick c a b, none⟩ :: ls) K st := c_val (.inl rfl) h1 h2
theorem c_bin {d : Nat} {o : BinOp} {x y : SO} {v : SV} (h1 : valOp (mask D st.ob) (so E.G st.fr) (.bin o x y) = some v) (h2 : pLs E D ls K (setS st d v)) : pLs E D (⟨some d, .bin o x y, none⟩ :: ls) K st := c_val (.inl rfl) h1 h2
theorem c_eqs {d : Nat} {n : Bool} {ts : List KT} {x y : SO} {v : SV} (h1 : valOp (mask D st.ob) (so E.G st.fr) (.eqs n ts x y) = some v) (h2 : pLs E D ls K (setS st d v)) : pLs E D (⟨some d, .eqs n ts x y, none⟩ :: ls) K st := c_val (.inl rfl) h1 h2
theorem c_beq {d : Nat} {n : Bool} {x y : SO} {v : SV} (h1 : valOp (mask D st.ob) (so E.G st.fr) (.beq n x y) = some v) (h2 : pLs E D ls K (setS st d v)) : pLs E D (⟨some d, .beq n x y, none⟩ :: ls) K st := c_val (.inl rfl) h1 h2
theorem c_isnil {d : Nat} {k : Nat} {n : Bool} {x : SO} {v : SV} (h1 : valOp (mask D st.ob) (so E.G st.fr) (.isnil k n x) = some v) (h2 : pLs E D ls K (setS st d v)) : pLs E D (⟨some d, .isnil k n x, none⟩ :: ls) K st := c_val (.inl rfl) h1 h2
theorem c_un {d : Nat} {o : UnOp} {x : SO} {v : SV} (h1 : valOp (mask D st.ob) (so E.G st.fr) (.un o x) = some v) (h2 : pLs E D ls K (setS st d v)) : pLs E D (⟨some d, .un o x, none⟩ :: ls) K st := c_val (.inl rfl) h1 h2
theorem c_cvi {d : Nat} {k : IntKind} {x : SO} {v : SV} (h1 : valOp (mask D st.ob) (so E.G st.fr) (.cvi k x) = some v) (h2 : pLs E D ls K (setS st d v)) : pLs E D (⟨some d, .cvi k x, none⟩ :: ls) K st := c_val (.inl rfl) h1 h2
theorem c_cvrune {d : Nat} {x : SO} {v : SV} (h1 : valOp (mask D st.ob) (so E.G st.fr) (.cvrune x) = some v) (h2 : pLs E D ls K (setS st d v)) : pLs E D (⟨some d, .cvrune x, none⟩ :: ls) K st := c_val (.inl rfl) h1 h2
theorem c_cvid {d : Nat} {x : SO} {v : SV} (h1 : valOp (mask D st.ob) (so E.G st.fr) (.cvid x) = some v) (h2 : pLs E D ls K (setS st d v)) : pLs E D (⟨some d, .cvid x, none⟩ :: ls) K st := c_val (.inl rfl) h1 h2
theorem c_build {d : Nat} {z : List CV} {ps : List (Nat × Nat × SO)} {v : SV} (h1 : valOp (mask D st.ob) (so E.G st.fr) (.build z ps) = some v) (h2 : pLs E D ls K (setS st d v)) : pLs E D (⟨some d, .build z ps, none⟩ :: ls) K st := c_val (.inl rfl) h1 h2
theorem c_field {d : Nat} {o : Nat} {s : Option Nat} {x : SO} {v : SV} (h1 : valOp (mask D st.ob) (so E.G st.fr) (.field o s x) = some v) (h2 : pLs E D ls K (setS st d v)) : pLs E D (⟨some d, .field o s x, none⟩ :: ls) K st := c_val (.inl rfl) h1 h2
theorem c_ext {d : Nat} {x : SO} {i : Nat} {v : SV} (h1 : valOp (mask D st.ob) (so E.G st.fr) (.ext x i) = some v) (h2 : pLs E D ls K (setS st d v)) : pLs E D (⟨some d, .ext x i, none⟩ :: ls) K st := c_val (.inl rfl) h1 h2
theorem c_minmax {d : Nat} {m : Bool} {xs : List SO} {v : SV} (h1 : valOp (mask D st.ob) (so E.G st.fr) (.minmax m xs) = some v) (h2 : pLs E D ls K (setS st d v)) : pLs E D (⟨some d, .minmax m xs, none⟩ :: ls) K st := c_val (.inl rfl) h1 h2
theorem c_fnv {d : Nat} {f : FuncId} {xs : List SO} {v : SV} (h1 : valOp (mask D st.ob) (so E.G st.fr) (.fnv f xs) = some v) (h2 : pLs E D ls K (setS st d v)) : pLs E D (⟨some d, .fnv f xs, none⟩ :: ls) K st := c_val (.inl rfl) h1 h2
theorem c_faddr {d : Nat} {o : Nat} {x : SO} {v : SV} (h1 : valOp (mask D st.ob) (so E.G st.fr) (.faddr o x) = some v) (h2 : pLs E D ls K (setS st d v)) : pLs E D (⟨some d, .faddr o x, none⟩ :: ls) K st := c_val (.inl rfl) h1 h2
theorem c_iaddr {d : Nat} {s : Nat} {x i : SO} {v : SV} (h1 : valOp (mask D st.ob) (so E.G st.fr) (.iaddr s x i) = some v) (h2 : pLs E D ls K (setS st d v)) : pLs E D (⟨some d, .iaddr s x i, none⟩ :: ls) K st := c_val (.inl rfl) h1 h2
theorem c_aaddr {d : Nat} {l s : Nat} {x i : SO} {v : SV} (h1 : valOp (mask D st.ob) (so E.G st.fr) (.aaddr l s x i) = some v) (h2 : pLs E D ls K (setS st d v)) : pLs E D (⟨some d, .aaddr l s x i, none⟩ :: ls) K st := c_val (.inl rfl) h1 h2
theorem c_sidx {d : Nat} {x i : SO} {v : SV} (h1 : valOp (mask D st.ob) (so E.G st.fr) (.sidx x i) = some v) (h2 : pLs E D ls K (setS st d v)) : pLs E D (⟨some d, .sidx x i, none⟩ :: ls) K st := c_val (.inl rfl) h1 h2
theorem c_aidx {d : Nat} {l s : Nat} {z : Option Nat} {x i : SO} {v : SV} (h1 : valOp (mask D st.ob) (so E.G st.fr) (.aidx l s z x i) = some v) (h2 : pLs E D ls K (setS st d v)) : pLs E D (⟨some d, .aidx l s z x i, none⟩ :: ls) K st := c_val (.inl rfl) h1 h2
theorem c_load {d : Nat} {s : Option Nat} {x : SO} {v : SV} (h1 : valOp (mask D st.ob) (so E.G st.fr) (.load s x) = some v) (h2 : pLs E D ls K (setS st d v)) : pLs E D (⟨some d, .load s x, none⟩ :: ls) K st := c_val (.inl rfl) h1 h2
theorem c_len {d : Nat} {k : Nat} {x : SO} {v : SV} (h1 : valOp (mask D st.ob) (so E.G st.fr) (.len k x) = some v) (h2 : pLs E D ls K (setS st d v)) : pLs E D (⟨some d, .len k x, none⟩ :: ls) K st := c_val (.inl rfl) h1 h2
theorem c_sslice {d : Nat} {x : SO} {l h : Option SO} {v : SV} (h1 : valOp (mask D st.ob) (so E.G st.fr) (.sslice x l h) = some v) (h2 : pLs E D ls K (setS st d v)) : pLs E D (⟨some d, .sslice x l h, none⟩ :: ls) K st := c_val (.inl rfl) h1 h2
theorem c_slice {d : Nat} {s : Nat} {x : SO} {l h : Option SO} {v : SV} (h1 : valOp (mask D st.ob) (so E.G st.fr) (.slice s x l h) = some v) (h2 : pLs E D ls K (setS st d v)) : pLs E D (⟨some d, .slice s x l h, none⟩ :: ls) K st := c_val (.inl rfl) h1 h2
theorem c_lookup {d : Nat} {m : TypeId} {k : KT} {z : CV} {o : Bool} {x y : SO} {v : SV} (h1 : valOp (mask D st.ob) (so E.G st.fr) (.lookup m k z o x y) = some v) (h2 : pLs E D ls K (setS st d v)) : pLs E D (⟨some d, .lookup m k z o x y, none⟩ :: ls) K st := c_val (.inl rfl) h1 h2
theorem c_bytes {d e : Nat} {x : SO} {v : SV} (h1 : valOp (mask D st.ob) (so E.G st.fr) (.bytes e x) = some v) (h2 : pLs E D ls K (setS st d v)) : pLs E D (⟨some d, .bytes e x, none⟩ :: ls) K st := c_val (.inr rfl) h1 h2

/-! ### Guards and branches -/

def gK (E : Env) (D : Option (List Nat)) (d : Option Nat) (op : SOp) (want : Bool) (ls : List SL) (K : St → Prop) (st : St) : SV → Prop
  | .c (.bool b) => if b = want then pLs E D (⟨d, op, none⟩ :: ls) K st else pLs E D ls K (st.set d skipped)
  | .c (.tup []) => pLs E D ls K (st.set d skipped)
  | _ => False
theorem c_guard {d : Option Nat} {op : SOp} {g : Nat} {want : Bool} {q : SV} (hg : st.fr g = q) (h : gK E D d op want ls K st q) : pLs E D (⟨d, op, some (g, want)⟩ :: ls) K st := by
  cases q with
  | c v =>
    cases v with
    | bool b =>
      simp only [gK] at h
      split at h
      · rename_i hb
        subst hb
        exact c_go hg h
      · rename_i hb
        refine c_one ?_ h
        simp [evalL, hg, hb]
    | tup l =>
      cases l with
      | nil =>
        refine c_one ?_ h
        simp [evalL, hg]
      | cons a l => exact h.elim
    | _ => exact h.elim
  | _ => exact h.elim
theorem g_tt {d : Option Nat} {op : SOp} (h : pLs E D (⟨d, op, none⟩ :: ls) K st) : gK E D d op true ls K st (.c (.bool true)) := by simp only [gK, if_true]; exact h
theorem g_ff {d : Option Nat} {op : SOp} (h : pLs E D (⟨d, op, none⟩ :: ls) K st) : gK E D d op false ls K st (.c (.bool false)) := by simp only [gK, if_true]; exact h
theorem g_tf {d : Nat} {op : SOp} (h : pLs E D ls K (setS st d (.c (.tup [])))) : gK E D (some d) op true ls K st (.c (.bool false)) := by simp only [gK, Bool.false_eq_true, if_false]; exact h
theorem g_ft {d : Nat} {op : SOp} (h : pLs E D ls K (setS st d (.c (.tup [])))) : gK E D (some d) op false ls K st (.c (.bool true)) := by simp only [gK, Bool.true_eq_false, if_false]; exact h
theorem g_sk {d : Nat} {op : SOp} {want : Bool} (h : pLs E D ls K (setS st d (.c (.tup [])))) : gK E D (some d) op want ls K st (.c (.tup [])) := h
theorem g_split {d : Option Nat} {op : SOp} {want b : Bool} (h1 : b = true → gK E D d op want ls K st (.c (.bool true))) (h2 : b = false → gK E D d op want ls K st (.c (.bool false))) : gK E D d op want ls K st (.c (.bool b)) := by
  cases b
  · exact h2 rfl
  · exact h1 rfl
def cK (E : Env) (x y : SCode) (Q : Ex → St → Prop) (st : St) : SV → Prop
  | .c (.bool b) => if b = true then pwp E x Q st else pwp E y Q st
  | _ => False
theorem p_if {c : SO} {x y : SCode} {q : SV} (hg : so E.G st.fr c = q) (h : cK E x y Q st q) : pwp E (.cond c x y) Q st := by
  cases q with
  | c v =>
    cases v with
    | bool b => cases b
                · exact p_false hg h
                · exact p_true hg h
    | _ => exact h.elim
  | _ => exact h.elim
theorem k_t {x y : SCode} (h : pwp E x Q st) : cK E x y Q st (.c (.bool true)) := by simp only [cK, if_true]; exact h
theorem k_f {x y : SCode} (h : pwp E y Q st) : cK E x y Q st (.c (.bool false)) := by simp only [cK, Bool.false_eq_true, if_false]; exact h
theorem k_split {x y : SCode} {b : Bool} (h1 : b = true → pwp E x Q st) (h2 : b = false → pwp E y Q st) : cK E x y Q st (.c (.bool b)) := by
  cases b
  · exact k_f (h2 rfl)
  · exact k_t (h1 rfl)
end
end WB
