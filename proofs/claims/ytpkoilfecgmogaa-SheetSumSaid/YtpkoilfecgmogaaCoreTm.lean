/-
  THE OWN LAYER, TM: code over plain data does what the code does.
-/
import Derived.Test.YtpkoilfecgmogaaCoreTl
namespace WB
open Go Go.RowKit

/-- Code with what its typed reading wants to know. -/
inductive AC where
  | skip
  | reg (draw : Bool) (D : List Nat) (ls : List SL)
  | sq (a b : AC)
  | seq (Γ : TC) (a b : AC)
  | join (Γ : TC) (ex : List Nat) (rt : Bool) (a b : AC)
  | cond (c : SO) (x y : AC)
  | block (id : Nat) (b : AC)
  | loop (Γ : TC) (ex : List Nat) (rt : Bool) (b : AC)
  | exit (id : Nat)
  | ret
  | gh (g : Gh) (c : AC)

def erase : AC → SCode
  | .skip => .skip
  | .reg draw D ls => .reg draw D ls
  | .sq a b | .seq _ a b | .join _ _ _ a b => .seq (erase a) (erase b)
  | .cond c x y => .cond c (erase x) (erase y)
  | .block id b => .block id (erase b)
  | .loop _ _ _ b => .loop (erase b)
  | .exit id => .exit id
  | .ret => .ret
  | .gh _ c => erase c

structure LsD (A : Type) (Γ : TC) where
  Γ' : TC
  run : HS Γ → (HS Γ' → Option A) → Option A

def denLs (A : Type) (X : TP) (msk : List Nat) : (ls : List SL) → (Γ : TC) → Option (LsD A Γ)
  | [], Γ => some ⟨Γ, fun ρ K => K ρ⟩
  | l :: ls, Γ => match opL X Γ msk l with
    | some o => match denLs A X msk ls o.Γ' with
      | some q => some ⟨q.Γ', fun ρ K => o.d.app ρ fun b => q.run (o.up ρ b) K⟩
      | none => none
    | none => none
def denReg (A : Type) (X : TP) (draw : Bool) (D : List Nat) (ls : List SL) (Γ : TC) : Option (LsD A Γ) :=
  match D with
  | [] => denLs A X [] ls Γ
  | d :: ds => match denLs A X (if draw then d :: ds else []) ls (killT (d :: ds) Γ) with
    | some q => some ⟨q.Γ', fun ρ K => q.run (killP (d :: ds) ρ) K⟩
    | none => none

/-- Straight code. -/
def denS (A : Type) (X : TP) : AC → (Γ : TC) → Option (LsD A Γ)
  | .skip, Γ => some ⟨Γ, fun ρ K => K ρ⟩
  | .reg draw D ls, Γ => denReg A X draw D ls Γ
  | .sq a b, Γ => match denS A X a Γ with
    | some p => match denS A X b p.Γ' with
      | some q => some ⟨q.Γ', fun ρ K => p.run ρ fun ρ' => q.run ρ' K⟩
      | none => none
    | none => none
  | .gh g c, Γ => match ghT X Γ g with
    | some p => match denS A X c p.Γ' with
      | some q => some ⟨q.Γ', fun ρ K => q.run (p.up ρ) K⟩
      | none => none
    | none => none
  | _, _ => none

/-- What is handed over. -/
def resT1 (X : TP) (Γ : TC) : SRes → Option (Σ t : Ty, Dyn (HS Γ) (D t))
  | .tmp t => match rdC Γ [] (.t t) with
    | some q => some q.2
    | none => none
  | .cell a sz => match rdK X.G Γ (.t a) with
    | some k => match loadT Γ [] sz k with
      | some ⟨.v t, d⟩ => some ⟨t, d⟩
      | some ⟨.own id, .tot _⟩ => match get Γ (.o id) with
        | some ⟨.arr _ _ t, xs⟩ => some ⟨.sl t, .tot xs⟩
        | _ => none
      | _ => none
    | none => none
def resRow (X : TP) (Γ : TC) : List SRes → Option (Σ r : Ty, Dyn (HS Γ) (D r))
  | [] => some ⟨.nil, .tot fun _ => ()⟩
  | [x] => match resT1 X Γ x with
    | some q => some ⟨.one q.1, q.2⟩
    | none => none
  | x :: y :: xs => match resT1 X Γ x, resRow X Γ (y :: xs) with
    | some q, some p => some ⟨.cons q.1 p.1, q.2.both p.2⟩
    | _, _ => none
def resT (X : TP) (Γ : TC) : List SRes → Option (Σ t : Ty, Dyn (HS Γ) (D t))
  | [x] => resT1 X Γ x
  | xs => match resRow X Γ xs with
    | some q => some ⟨.tup q.1, q.2⟩
    | none => none

noncomputable def den (X : TP) (rs : List SRes) (Rt : Ty) : AC → (A : Type) → (xs : XC) → (Γn Γ : TC) → Option (HS Γ → DKn A xs Γn (D Rt) → Option A)
  | .skip, A, xs, Γn, Γ => match coeC Γ Γn with
    | some f => some fun ρ k => k.n (f ρ)
    | none => none
  | .reg draw D ls, A, xs, Γn, Γ => match denReg A X draw D ls Γ with
    | some q => match coeC q.Γ' Γn with
      | some f => some fun ρ k => q.run ρ fun ρ' => k.n (f ρ')
      | none => none
    | none => none
  | .sq a b, A, xs, Γn, Γ => match denS A X a Γ with
    | some q => match den X rs Rt b A xs Γn q.Γ' with
      | some db => some fun ρ k => q.run ρ fun ρ' => db ρ' k
      | none => none
    | none => none
  | .seq Γm a b, A, xs, Γn, Γ => match den X rs Rt a A xs Γm Γ, den X rs Rt b A xs Γn Γm with
    | some da, some db => some fun ρ k => da ρ ⟨fun ρm => db ρm k, k.e, k.r⟩
    | _, _ => none
  | .join Γm ex rt a b, A, xs, Γn, Γ => match selX xs ex with
    | some ys => match selE A xs ys, den X rs Rt a (OutX (D Rt) ((0, Γm) :: ys) rt) ys Γm Γ, den X rs Rt b A xs Γn Γm with
      | some g, some da, some db => some fun ρ k => (da ρ ⟨(keX ((0, Γm) :: ys) rt (fun o => o)).1, (keX ((0, Γm) :: ys) rt (fun o => o)).2, rtX ((0, Γm) :: ys) rt (fun o => o)⟩).bind (elX ((0, Γm) :: ys) rt (fun ρm => db ρm k, g k.e) k.r)
      | _, _, _ => none
    | none => none
  | .cond c x y, A, xs, Γn, Γ => match rdV Γ c, den X rs Rt x A xs Γn Γ, den X rs Rt y A xs Γn Γ with
    | some ⟨.bool, d⟩, some dx, some dy => some fun ρ k => d.app ρ fun b => if b = true then dx ρ k else dy ρ k
    | _, _, _ => none
  | .block id b, A, xs, Γn, Γ => match den X rs Rt b A ((id, Γn) :: xs) Γn Γ with
    | some db => some fun ρ k => db ρ ⟨k.n, (k.n, k.e), k.r⟩
    | none => none
  | .loop Γh ex rt b, A, xs, _, Γ => match selX xs ex with
    | some ys => match selE A xs ys, coeC Γ Γh, den X rs Rt b (HS Γh ⊕ OutX (D Rt) ys rt) ys Γh Γh with
      | some g, some f, some db => some fun ρ k => (iter (fun ρ => db ρ ⟨fun ρ' => some (.inl ρ'), keX ys rt Sum.inr, rtX ys rt Sum.inr⟩) (f ρ)).bind (elX ys rt (g k.e) k.r)
      | _, _, _ => none
    | none => none
  | .exit i, A, xs, _, Γ => match findE A xs i with
    | some q => match coeC Γ q.1 with
      | some f => some fun ρ k => q.2 k.e (f ρ)
      | none => none
    | none => none
  | .ret, A, xs, Γn, Γ => match resT X Γ rs with
    | some q => match coeT q.1 Rt with
      | some g => some fun ρ k => q.2.app ρ fun v => k.r (g v)
      | none => none
    | none => none
  | .gh g c, A, xs, Γn, Γ => match ghT X Γ g with
    | some p => match den X rs Rt c A xs Γn p.Γ' with
      | some dc => some fun ρ k => dc (p.up ρ) k
      | none => none
    | none => none
end WB
