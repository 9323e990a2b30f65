/-
  LIBRARY FUNCTIONS OVER PLAIN DATA: strings.Join (by the kit's contract).
-/
import Derived.Test.YtbajcpobojindaaGreatDoorK6
import Derived.Lib.Join
set_option linter.unusedVariables false
set_option linter.unusedSimpArgs false
open Go.IntKind (i64 u64 u8 u32)
namespace WB
open Go Go.RowKit
theorem Ap.len{α:Type}{p:α→CV→Prop}:∀{xs:List α} {es:List CV},Ap p xs es→es.length=xs.length
 | [],es,h=>by unfold Ap at h;subst h;rfl
 |x::xs,es,h=>by
  unfold Ap at h;obtain⟨c,es',rfl,_,h2⟩:=h;simp[Ap.len h2]
end WB
