/-
  LIBRARY FUNCTIONS OVER PLAIN DATA: strings.Join (by the kit's contract).
-/
import Derived.Test.YtlglbkbfmhelcaaGreatDoorK5
import Derived.Lib.Join
set_option linter.unusedVariables false
set_option linter.unusedSimpArgs false
open Go.IntKind (i64 u64 u8 u32)
namespace WB
open Go Go.RowKit
theorem Aq.len{α:Type}{p:α→CV→Prop}:∀{xs:List α} {es:List CV},Aq p xs es→es.length=xs.length
 | [],es,h=>by unfold Aq at h;subst h;rfl
 |x::xs,es,h=>by
  unfold Aq at h;obtain⟨c,es',rfl,_,h2⟩:=h;simp[Aq.len h2]
theorem SH{w:World}{M:MM}{ad:Addr}{size:Nat}:∀{xs:List (List UInt8)} {es:List CV} {i:Nat},Aq (fun x c=>Can .str x [c]) xs es→Bg w M ad size i es→∀(j:Nat) s,xs[j]? =some s→w.cell? (ad.add (i+j))=some (.string ⟨⟨s⟩⟩)
 | [],es,i,_,_,j,s,hj=>by simp at hj
 |x::xs,es,i,h,hr,j,s,hj=>by
  unfold Aq at h;obtain⟨c,es',rfl,h1,h2⟩:=h;unfold Can at h1;cases h1;unfold Bg at hr;obtain⟨⟨v,g1,g2,g3⟩,hr⟩:=hr;unfold RelC at g1;subst g1;have hs:size=1:=by rw[←g2];rfl
  subst hs
  cases j with
  |zero=>
   simp only[List.getElem?_cons_zero,Ac]at hj;subst hj;have:=g3 0 (.string ⟨⟨x⟩⟩) rfl;rw[Nat.mul_one]at this;exact this
  |succ j=>
   have:=SH h2 hr j s (by simpa using hj);rw[show i+(j+1)=i+1+j by omega];exact this
def strings_Join:List (List UInt8)×List UInt8→Option (List UInt8):=fun x=>if(Lib.join x.1 x.2).length≤140737488355328∧x.1.length≤140737488355328 then some (Lib.join x.1 x.2)else none
theorem Yi{P:Program}{B:TB}{f:Nat}(hb:Bm P f=true)
  (hn:∀(a:Option Addr) (c:Nat) (sep:ByteArray) (w:World),Calls P f #[.slice a 0 c,.string sep] w fun e w'=>e=.returned (.string ⟨#[]⟩)∧w'=w)
  (hc:∀(bk o c:Nat) (xs:List ByteArray) (sep:ByteArray) (w:World) (_:∀(j:Nat) x,xs[j]? =some x→w.cell? ⟨bk,o+j,none⟩=some (.string x)) (_:bk<w.heap.size) (_:xs.length≤140737488355328) (_:xs.length≤c) (_:(Lib.join (xs.map (·.data.toList)) sep.data.toList).length≤140737488355328),
   Calls P f #[.slice (some ⟨bk,o,none⟩) xs.length c,.string sep] w fun e w'=>e=.returned (.string ⟨(Lib.join (xs.map (·.data.toList)) sep.data.toList).toArray⟩)∧Below w.heap.size w w')
  {x:D (.cons (.sl .str) (.one .str))} {l:List CV} {y:D .str} (hx:Can (.cons (.sl .str) (.one .str)) x l) (hy:strings_Join x=some y):Bm P f=true∧CallsTo P B.G f l (.val (enc .str y)):=by
 refine⟨hb,fun w M vs hM hGk hL=> ?_⟩;obtain⟨xs,sep⟩:=x;simp only[strings_Join]at hy;split at hy
 ·rename_i h;obtain⟨h0,h1⟩:=h;cases hy;unfold Can at hx;obtain⟨c1,l',rfl,h2,h3⟩:=hx;unfold Can at h2 h3;obtain⟨nl,es,h4,h5⟩:=h2;obtain⟨c',rfl,h3⟩:=h3;unfold Can at h3;cases h3;cases h4;have hlen:=h5.len;unfold RelL RelC at hL;obtain⟨v,vs',rfl,⟨a,n,c,rfl,g1,g2,g3,g4,g5,g6⟩,hL⟩:=hL;unfold RelL RelC at hL;obtain⟨v,vs',rfl,rfl,hL⟩:=hL;unfold RelL at hL;subst hL
  cases xs with
  |nil=>
   have hes:es= []:=List.eq_nil_of_length_eq_zero (by simpa using hlen);subst hes;simp only[List.length_nil]at g1;subst g1;refine(hn a c ⟨⟨sep⟩⟩ w).mono fun e w' he=> ?_;obtain⟨rfl,rfl⟩:=he;refine⟨_,rfl,Below.refl _ _, ?_⟩;simp[Ez,enc,AI,RelC,Lib.join_nil]
  |cons x0 xr=>
   have hne:es≠ []:=by
    intro hh;rw[hh]at hlen;simp at hlen
   obtain⟨ad,size,rfl,k1,k2,k3⟩:=g6 hne;have hcell:=SH h5 k3;simp only[Nat.zero_add]at hcell
   have hspot:ad.spot=none:=by
    have:=hcell 0 x0 rfl;unfold World.cell? at this;rw[add_zero]at this;split at this
    ·split at this
     ·cases this
     ·rename_i hsp;simpa using hsp
    ·cases this
   obtain⟨bk,o,sp⟩:=ad;simp only at hspot k1;subst hspot;have hm:((x0::xr).map fun s=>(⟨⟨s⟩⟩:ByteArray)).map (·.data.toList)=x0::xr:=by simp[List.map_map,Function.comp_def]
   have:=hc bk o c ((x0::xr).map fun s=>⟨⟨s⟩⟩) ⟨⟨sep⟩⟩ w (fun j b hj=>by
    rw[List.getElem?_map,Aa]at hj;obtain⟨s,hs,rfl⟩:=hj;have:=hcell j s hs;unfold Addr.add at this;split at this
    ·rename_i hj0;rw[hj0];exact this
    ·exact this) k1 (by rw[List.length_map];exact h1) (by rw[List.length_map,←hlen,←g1];exact g2) (by rw[hm];exact h0)
   rw[hm,List.length_map,←hlen,←g1]at this;refine this.mono fun e w' he=> ?_;obtain⟨rfl,hbw⟩:=he;refine⟨_,rfl,hbw, ?_⟩;simp[Ez,enc,AI,RelC]
 ·cases hy
end WB
