/-
  OWN TEXTS, MERGED (wip/merge.py): CoreTm, CoreTn, CoreTne, CoreTo, CoreTq, CoreLb, CoreMc, CoreZs. No condition of their own.
-/
import Derived.Test.YtimkfmkhmfcjeaaGreatDoorK5
import Derived.Lib.LaidTab
import Derived.Lib.ItoaNum
import Derived.Lib.TrimByte
import Derived.Lib.AppendIntMem
import Derived.Lib.Bytealg
import Derived.Lib.SlMapMerge
import Derived.Maps.Own
import Derived.StringKeys
import Derived.Test.YtimkfmkhmfcjeaaGreatDoorK4
set_option linter.unusedVariables false
set_option linter.unusedSimpArgs false
open Go.IntKind (i64 u64 u8 u32)
namespace WB
open Go Go.RowKit
inductive GL where
 |g (g:Gh)
 |l (l:SL)
def Ed:List GL→List SL
 | []=> []
 | .g _::gs=>Ed gs
 | .l l::gs=>l::Ed gs
inductive HT where
 |nil
 |n (k:HT)
 |g (g:Gh) (k:HT)
 |sp (g:Nat) (t f:HT)
inductive AC where
 |skip
 |reg (draw:Bool) (D:List Nat) (ls:List SL)
 |rg (D:List Nat) (gs:List GL)
 |rgt (draw:Bool) (D:List Nat) (ls:List SL) (h:HT)
 |regE (e:Bool) (D:List Nat) (ls:List SL)
 |sq (a b:AC)
 |seq (Γ:TC) (a b:AC)
 |join (Γ:TC) (ex:List Nat) (rt:Bool) (a b:AC)
 |cond (c:SO) (x y:AC)
 |block (id:Nat) (b:AC)
 |loop (Γ:TC) (ex:List Nat) (rt:Bool) (b:AC)
 |mloop (Γ:TC) (ex:List Nat) (rt:Bool) (it d ok i:Nat) (b:AC)
 |exit (id:Nat)
 |ret
 |gh (g:Gh) (c:AC)
 |raw (c:BR)
def erase:AC→BR
 | .skip=>.skip
 | .reg draw D ls=>.reg draw D ls
 | .rg D gs=>.reg false D (Ed gs)
 | .rgt draw D ls _=>.reg draw D ls
 | .regE _ D ls=>.regE D ls
 | .sq a b| .seq _ a b| .join _ _ _ a b=>.seq (erase a) (erase b)
 | .cond c x y=>.cond c (erase x) (erase y)
 | .block id b=>.block id (erase b)
 | .loop _ _ _ b=>.loop (erase b)
 | .mloop _ _ _ it d ok i b=>.loop (.seq (.mnext it d ok) (.seq (.cond (.t ok) .skip (.exit i)) (erase b)))
 | .exit id=>.exit id
 | .ret=>.ret
 | .gh _ c=>erase c
 | .raw c=>c
structure LsD (A:Type) (Γ:TC) where
 Γ':TC
 run:HS Γ→(HS Γ'→Option A)→Option A
def G9(A:Type)(X:TP)(msk:List Nat):(ls:List SL)→(Γ:TC)→Option (LsD A Γ)
 | [],Γ=>some ⟨Γ,fun ρ K=>K ρ⟩
 |l::ls,Γ=>match opL X Γ msk l with
  |some o=>match G9 A X msk ls o.Γ' with
   |some q=>some ⟨q.Γ',fun ρ K=>o.d.app ρ fun b=>q.run (o.up ρ b) K⟩
   |none=>none
  |none=>none
def Fs(A:Type)(X:TP)(draw:Bool)(D:List Nat)(ls:List SL)(Γ:TC):Option (LsD A Γ):=
 match D with
 | []=>G9 A (cond draw X.noE X) [] ls Γ
 |d::ds=>match G9 A (cond draw X.noE X) (if draw then d::ds else []) ls (AU (d::ds) Γ)with
  |some q=>some ⟨q.Γ',fun ρ K=>q.run (Bh (d::ds) ρ) K⟩
  |none=>none
def Fq(A:Type)(X:TP):(gs:List GL)→(Γ:TC)→Option (LsD A Γ)
 | [],Γ=>some ⟨Γ,fun ρ K=>K ρ⟩
 | .l l::gs,Γ=>match opL X Γ [] l with
  |some o=>match Fq A X gs o.Γ' with
   |some q=>some ⟨q.Γ',fun ρ K=>o.d.app ρ fun b=>q.run (o.up ρ b) K⟩
   |none=>none
  |none=>none
 | .g g::gs,Γ=>match ghT X Γ g with
  |some p=>match Fq A X gs p.Γ' with
   |some q=>some ⟨q.Γ',fun ρ K=>q.run (p.up ρ) K⟩
   |none=>none
  |none=>none
def H0(A:Type)(X:TP)(D:List Nat)(gs:List GL)(Γ:TC):Option (LsD A Γ):=
 match D with
 | []=>Fq A X gs Γ
 |d::ds=>match Fq A X gs (AU (d::ds) Γ)with
  |some q=>some ⟨q.Γ',fun ρ K=>q.run (Bh (d::ds) ρ) K⟩
  |none=>none
def Fr(A:Type)(X:TP)(msk:List Nat):(ls:List RL)→(Γ:TC)→Option (LsD A Γ)
 | [],Γ=>some ⟨Γ,fun ρ K=>K ρ⟩
 | .l l::ls,Γ=>match opL X Γ msk l with
  |some o=>match Fr A X msk ls o.Γ' with
   |some q=>some ⟨q.Γ',fun ρ K=>o.d.app ρ fun b=>q.run (o.up ρ b) K⟩
   |none=>none
  |none=>none
 | .sk (some d)::ls,Γ=>match Fr A X msk ls ((.s d,.undef)::Γ)with
  |some q=>some ⟨q.Γ',fun ρ K=>q.run ((),ρ) K⟩
  |none=>none
 | .sk none::ls,Γ=>Fr A X msk ls Γ
def C1(A:Type)(X:TP)(draw:Bool)(msk:List Nat):(h:HT)→(ls:List RL)→(Γ Γn:TC)→Option (HS Γ→(HS Γn→Option A)→Option A)
 | .nil,ls,Γ,Γn=>match Fr A X msk ls Γ with
  |some q=>match BT q.Γ' Γn with
   |some f=>some fun ρ K=>q.run ρ fun ρ'=>K (f ρ')
   |none=>none
  |none=>none
 | .n k,.l l::ls,Γ,Γn=>match opL X Γ msk l with
  |some o=>match C1 A X draw msk k ls o.Γ' Γn with
   |some q=>some fun ρ K=>o.d.app ρ fun b=>q (o.up ρ b) K
   |none=>none
  |none=>none
 | .n k,.sk (some d)::ls,Γ,Γn=>match C1 A X draw msk k ls ((.s d,.undef)::Γ) Γn with
  |some q=>some fun ρ K=>q ((),ρ) K
  |none=>none
 | .n k,.sk none::ls,Γ,Γn=>C1 A X draw msk k ls Γ Γn
 | .n _,[],_,_=>none
 | .g g k,ls,Γ,Γn=>match draw with
  |true=>none
  |false=>match ghT X Γ g with
   |some p=>match C1 A X draw msk k ls p.Γ' Γn with
    |some q=>some fun ρ K=>q (p.up ρ) K
    |none=>none
   |none=>none
 | .sp g t f,ls,Γ,Γn=>match Ia g ls with
  |true=>match get Γ (.s g),C1 A X draw msk t (DU g true [] ls) Γ Γn,C1 A X draw msk f (DU g false [] ls) Γ Γn with
   |some ⟨.v .bool,e⟩,some dt,some df=>some fun ρ K=>if e ρ=true then dt ρ K else df ρ K
   |_,_,_=>none
  |false=>none
def GB(A:Type)(X:TP)(draw:Bool)(D:List Nat)(ls:List SL)(h:HT)(Γ Γn:TC):Option (HS Γ→(HS Γn→Option A)→Option A):=
 match D with
 | []=>C1 A (cond draw X.noE X) draw [] h (ls.map .l) Γ Γn
 |d::ds=>match C1 A (cond draw X.noE X) draw (if draw then d::ds else []) h (ls.map .l) (AU (d::ds) Γ) Γn with
  |some q=>some fun ρ K=>q (Bh (d::ds) ρ) K
  |none=>none
def Co:Key→Bool
 | .s _=>true
 | .o N| .c N _=> !Nat.ble Au N
def EQ(e:Key×EK):Bool:=Co e.1&&match e.2.refs with
 |some id=> !Nat.ble Au id
 |none=>true
def DG(e:Key×EK):Bool:= !Co e.1
def Ds(f:Key×EK→Bool):TC→List Key→TC
 | [],_=> []
 |e::Γ,seen=>match seen.contains e.1 with
  |true=>Ds f Γ seen
  |false=>match f e with
   |true=>e::Ds f Γ (e.1::seen)
   |false=>Ds f Γ (e.1::seen)
structure Nb (A:Type) (Γ Θ:TC) where
 Γ':TC
 Θ':TC
 run:HS Γ→HS Θ→(HS Γ'→HS Θ'→Option A)→Option A
def LK(l:SL):Bool:=(!l.op.hard||l.op.stores)&&l.dst.all fun j=>Nat.blt j Au
def efT(X:TP)(Γ Θ:TC)(l:SL):Option (OpD (Θ++Γ)):=match l.op.calls with
 |true=>match Γ.all fun e=>Co e.1 with
  |true=>Gg X (Θ++Γ) l
  |false=>none
 |false=>none
def GA(A:Type)(X:TP)(D:List Nat):(ls:List SL)→(Γ Θ:TC)→Option (Nb A Γ Θ)
 | [],Γ,Θ=>some ⟨Γ,Θ,fun ρ θ K=>K ρ θ⟩
 |l::ls,Γ,Θ=>match efT X Γ Θ l with
  |some o=>match BT o.Γ' (Ds EQ o.Γ' []),BT o.Γ' (Ds DG o.Γ' [])with
   |some g,some f=>match GA A X D ls (Ds EQ o.Γ' []) (Ds DG o.Γ' [])with
    |some q=>some ⟨q.Γ',q.Θ',fun ρ θ K=>o.d.app (Ci Θ θ ρ) fun b=>q.run (g (o.up (Ci Θ θ ρ) b)) (f (o.up (Ci Θ θ ρ) b)) K⟩
    |none=>none
   |_,_=>none
  |none=>match LK l with
   |true=>match Gj X Γ D l with
    |some o=>match GA A X D ls o.Γ' Θ with
     |some q=>some ⟨q.Γ',q.Θ',fun ρ θ K=>o.d.app ρ fun b=>q.run (o.up ρ b) θ K⟩
     |none=>none
    |none=>none
   |false=>none
def La(A:Type)(X:TP)(D:List Nat)(ls:List SL)(Γ:TC):Option (LsD A Γ):=
 match BT (AU D Γ) (Ds EQ (AU D Γ) []),BT (AU D Γ) (Ds DG (AU D Γ) [])with
 |some g,some f=>match GA A X D ls (Ds EQ (AU D Γ) []) (Ds DG (AU D Γ) [])with
  |some q=>match q.Γ'.all fun e=>Co e.1 with
   |true=>some ⟨q.Θ'++q.Γ',fun ρ K=>q.run (g (Bh D ρ)) (f (Bh D ρ)) fun ρ' θ'=>K (Ci q.Θ' θ' ρ')⟩
   |false=>none
  |none=>none
 |_,_=>none
def Lc(A:Type)(X:TP)(e:Bool)(D:List Nat)(ls:List SL)(Γ:TC):Option (LsD A Γ):=match e with
 |true=>La A X D ls Γ
 |false=>Fs A X true D ls Γ
def Ft(A:Type)(X:TP):AC→(Γ:TC)→Option (LsD A Γ)
 | .skip,Γ=>some ⟨Γ,fun ρ K=>K ρ⟩
 | .reg draw D ls,Γ=>Fs A X draw D ls Γ
 | .rg D gs,Γ=>H0 A X D gs Γ
 | .regE e D ls,Γ=>Lc A X e D ls Γ
 | .sq a b,Γ=>match Ft A X a Γ with
  |some p=>match Ft A X b p.Γ' with
   |some q=>some ⟨q.Γ',fun ρ K=>p.run ρ fun ρ'=>q.run ρ' K⟩
   |none=>none
  |none=>none
 | .gh g c,Γ=>match ghT X Γ g with
  |some p=>match Ft A X c p.Γ' with
   |some q=>some ⟨q.Γ',fun ρ K=>q.run (p.up ρ) K⟩
   |none=>none
  |none=>none
 |_,_=>none
def Hb(X:TP)(Γ:TC):Bd→Option (Σ t:Ty,Dyn (HS Γ) (D t))
 | .tmp t=>match rdC Γ [] (.t t)with
  |some q=>some q.2
  |none=>none
 | .cell a sz=>match rdK X.G Γ (.t a)with
  |some k=>match EP Γ [] sz (DY Γ [] k)with
   |some ⟨.v t,d⟩=>some ⟨t,d⟩
   |some ⟨.own id,.tot _⟩=>match get Γ (.o id)with
    |some ⟨.arr _ _ t,xs⟩=>some ⟨.sl t,.tot xs⟩
    |_=>none
   |_=>none
  |none=>none
def Ha(X:TP)(Γ:TC):List Bd→Option (Σ r:Ty,Dyn (HS Γ) (D r))
 | []=>some ⟨.nil,.tot fun _=>()⟩
 | [x]=>match Hb X Γ x with
  |some q=>some ⟨.one q.1,q.2⟩
  |none=>none
 |x::y::xs=>match Hb X Γ x,Ha X Γ (y::xs)with
  |some q,some p=>some ⟨.cons q.1 p.1,q.2.both p.2⟩
  |_,_=>none
def JS(X:TP)(Γ:TC):List Bd→Option (Σ t:Ty,Dyn (HS Γ) (D t))
 | [x]=>Hb X Γ x
 |xs=>match Ha X Γ xs with
  |some q=>some ⟨.tup q.1,q.2⟩
  |none=>none
def M2(Γ:TC):(rs:List Bd)→(Rt:Ty)→Option (HS Γ→D Rt)
 | [.tmp i],.nw e size t=>match get Γ (.s i)with
  |some ⟨.own id,_⟩=>match get Γ (.o id)with
   |some ⟨.arr e' size' t',xs⟩=>if h:t'=t then(if e'=e∧size'=size then some fun ρ=>(h▸xs ρ:List (D t))else none)else none
   |_=>none
  |some ⟨.v .nsl,_⟩=>some fun _=>([]:List (D t))
  |_=>none
 |_,_=>none
structure RdD (Γ:TC) (R:Type):Type 1 where
 B:Type
 d:Dyn (HS Γ) B
 up:HS Γ→B→R
def rdT(X:TP)(rs:List Bd)(Rt:Ty)(Γ:TC):Option (RdD Γ (D Rt)):=
 match M2 Γ rs Rt with
 |some g=>some ⟨Unit,.tot fun _=>(),fun ρ _=>g ρ⟩
 |none=>match JS X Γ rs with
  |some q=>match AL q.1 Rt with
   |some g=>some ⟨D q.1,q.2,fun _ v=>g v⟩
   |none=>none
  |none=>none
noncomputable def den(X:TP)(R:Type)(rd:(Γ:TC)→Option (RdD Γ R)):AC→(A:Type)→(xs:XC)→(Γn Γ:TC)→Option (HS Γ→DKn A xs Γn R→Option A)
 | .skip,A,xs,Γn,Γ=>match BT Γ Γn with
  |some f=>some fun ρ k=>k.n (f ρ)
  |none=>none
 | .reg draw D ls,A,xs,Γn,Γ=>match Fs A X draw D ls Γ with
  |some q=>match BT q.Γ' Γn with
   |some f=>some fun ρ k=>q.run ρ fun ρ'=>k.n (f ρ')
   |none=>none
  |none=>none
 | .rg D gs,A,xs,Γn,Γ=>match H0 A X D gs Γ with
  |some q=>match BT q.Γ' Γn with
   |some f=>some fun ρ k=>q.run ρ fun ρ'=>k.n (f ρ')
   |none=>none
  |none=>none
 | .rgt draw D ls h,A,xs,Γn,Γ=>match GB A X draw D ls h Γ Γn with
  |some q=>some fun ρ k=>q ρ k.n
  |none=>none
 | .regE e D ls,A,xs,Γn,Γ=>match Lc A X e D ls Γ with
  |some q=>match BT q.Γ' Γn with
   |some f=>some fun ρ k=>q.run ρ fun ρ'=>k.n (f ρ')
   |none=>none
  |none=>none
 | .sq a b,A,xs,Γn,Γ=>match Ft A X a Γ with
  |some q=>match den X R rd b A xs Γn q.Γ' with
   |some db=>some fun ρ k=>q.run ρ fun ρ'=>db ρ' k
   |none=>none
  |none=>none
 | .seq Γm a b,A,xs,Γn,Γ=>match den X R rd a A xs Γm Γ,den X R rd b A xs Γn Γm with
  |some da,some db=>some fun ρ k=>da ρ ⟨fun ρm=>db ρm k,k.e,k.r⟩
  |_,_=>none
 | .join Γm ex rt a b,A,xs,Γn,Γ=>match JW xs ex with
  |some ys=>match Hd A xs ys,den X R rd a (D8 R ((0,Γm)::ys) rt) ys Γm Γ,den X R rd b A xs Γn Γm with
   |some g,some da,some db=>some fun ρ k=>(da ρ ⟨(keX ((0,Γm)::ys) rt (fun o=>o)).1,(keX ((0,Γm)::ys) rt (fun o=>o)).2,rtX ((0,Γm)::ys) rt (fun o=>o)⟩).bind (elX ((0,Γm)::ys) rt (fun ρm=>db ρm k,g k.e) k.r)
   |_,_,_=>none
  |none=>none
 | .cond c x y,A,xs,Γn,Γ=>match rdV Γ c,den X R rd x A xs Γn Γ,den X R rd y A xs Γn Γ with
  |some ⟨.bool,d⟩,some dx,some dy=>some fun ρ k=>d.app ρ fun b=>if b=true then dx ρ k else dy ρ k
  |_,_,_=>none
 | .block id b,A,xs,Γn,Γ=>match den X R rd b A ((id,Γn)::xs) Γn Γ with
  |some db=>some fun ρ k=>db ρ ⟨k.n,(k.n,k.e),k.r⟩
  |none=>none
 | .loop Γh ex rt b,A,xs,_,Γ=>match JW xs ex with
  |some ys=>match Hd A xs ys,BT Γ Γh,den X R rd b (HS Γh⊕D8 R ys rt) ys Γh Γh with
   |some g,some f,some db=>some fun ρ k=>(iter (fun ρ=>db ρ ⟨fun ρ'=>some (.inl ρ'),keX ys rt Sum.inr,rtX ys rt Sum.inr⟩) (f ρ)).bind (elX ys rt (g k.e) k.r)
   |_,_,_=>none
  |none=>none
 | .mloop Γh ex rt it d ok i b,A,xs,_,Γ=>match get Γ (.s it),get Γ (.o it)with
  |some ⟨.iter id,_⟩,some ⟨.mit kt vt,m⟩=>match Nat.beq id it&&(Nat.blt it Au&&Ge it (erase b)),JW xs ex with
   |true,some ys=>match Hd A xs ys,BT Γ Γh,BT ((.s it,.iter it)::(.o it,.mcur kt vt)::Γh) Γh,Di (HS Γh⊕D8 R ys rt) ys i,den X R rd b (HS Γh⊕D8 R ys rt) ys ((.s it,.iter it)::(.o it,.mcur kt vt)::Γh) ((.s ok,.v .bool)::(.s d,.undef)::(.s it,.iter it)::(.o it,.mcur kt vt)::Γh)with
    |some g,some f,some fb,some q,some db=>match BT ((.s ok,.v .bool)::(.s d,.undef)::Γh) q.1 with
     |some c=>some fun ρ k=>JG (m ρ) fun π=>(ER (fun x ρ=>db (true,(),(),x,ρ) ⟨fun ρ'=>some (.inl (fb ρ')),keX ys rt Sum.inr,rtX ys rt Sum.inr⟩) (fun ρ=>q.2 (keX ys rt Sum.inr) (c (false,(),ρ))) π (f ρ)).bind (elX ys rt (g k.e) k.r)
     |none=>none
    |_,_,_,_,_=>none
   |_,_=>none
  |_,_=>none
 | .exit i,A,xs,_,Γ=>match Di A xs i with
  |some q=>match BT Γ q.1 with
   |some f=>some fun ρ k=>q.2 k.e (f ρ)
   |none=>none
  |none=>none
 | .ret,A,xs,Γn,Γ=>match rd Γ with
  |some q=>some fun ρ k=>q.d.app ρ fun v=>k.r (q.up ρ v)
  |none=>none
 | .raw _,_,_,_,_=>some fun _ _=>none
 | .gh g c,A,xs,Γn,Γ=>match ghT X Γ g with
  |some p=>match den X R rd c A xs Γn p.Γ' with
   |some dc=>some fun ρ k=>dc (p.up ρ) k
   |none=>none
  |none=>none
section
variable {X:TP} {E:Env}
theorem MT{t:Ty}(hm:mlT t=true):∀{ys:List (D t)} {es:List CV},As (fun x c=>Can t x [c]) ys es→BW es=true
 | [],es,h=>by unfold As at h;subst h;rfl
 |y::ys,es,h=>by
  obtain⟨c,es',rfl,h1,h2⟩:=h;have:=Ph hm h1;simp only[BW,Bool.and_true]at this;simp[BW,this,MT hm h2]
theorem Ur(hT:TOk X E){Γ:TC}{msk:List Nat}{ρ:HS Γ}{st:St}(hr:Rep Γ ρ st){rd:Nat→Ob}(hrd:∀id,msk.contains id=false→rd id=st.ob id){d:Nat}{op:SOp}{o:OpD Γ}(h:Mf X Γ msk d op=some o){b:o.B}(hb:o.d.val ρ=some b):
  ∃st',A2 E rd st (some d) op=some st'∧Rep o.Γ' (o.up ρ b) st':=by
 cases op<;>(try cases h;done)
 case call f args=>
  simp only[Mf]at h;split at h<;>(try cases h;done);rename_i a e size t fn hs;split at h<;>(try cases h;done);rename_i f0 hg;split at h<;>(try cases h;done);rename_i p hp;split at h<;>(try cases h;done);rename_i g hg';split at h<;>(try cases h;done);rename_i hc;cases h;try dsimp only at hb
  obtain⟨z,h1,h2⟩:=Dyn.comp_val hb;obtain⟨y,h3,h4⟩:=Dyn.map_val h1;subst h4;obtain⟨l,h5,h6,h7⟩:=Hr hr hrd (G:=E.G) (fl:=p.1) (q:=p.2) hp h3;obtain⟨_,s3⟩:=hT.nw f a e size t fn hs;obtain⟨es,h8,h9⟩:=s3 _ l b (BY _ _ hg' h6) h2;have hn:st.ob d=.none:=hr.o d _ hg
  have hm:((args.all fun x=>isC (so E.G st.fr x))||(Res.new (.arr e size es)).memless)=true:=by
   cases hp1:p.1 with
   |true=>rw[h7 hp1];rfl
   |false=>
    rw[hp1]at hc;simp only[Bool.false_or]at hc;simp[Res.memless,MT hc h9]
  refine⟨_, ?_,Rep.newObjS hr (k:=.own d) (ko:=.arr e size t) (x:=()) (y:=b) (v:=.osl d) ⟨es,rfl,h9⟩ rfl⟩;simp only[A2,SOp.cls,hT.ef f (.inr (by rw[hs];rfl)),CJ,h5,Option.bind_some,List.append_nil,h8,hm,if_true,D3,AY,hn,Option.getD_some,JQ]
theorem RD(hF:Bo X E){a:Ty}{Θ:TC}{r:Ty}{n:Nat}(hn:AE a=some n):∀{t:Ty} {F:D t→D a→HS Θ→Option (D r×HS Θ)} {x:D t} {y:D a} {θ θ':HS Θ} {z:D r} {c:CV} {l:List CV} {H:Nat→Ob},Ht X a Θ r t=some F→F x y θ=some (z,θ')→Can t x [c]→Can a y l→Rep Θ θ {fr:=fun _=>.undef,ob:=H}→
  r.val=true∧r.ok=true∧∃g caps e,c=.fn g caps∧E.ef g=some e∧e.T=A8 Θ∧e.fn (l++caps) H=some (enc r z,DF Θ θ'):=by
 have one:∀{g:Nat} {cc:Ty} {s:SigE} {h:D (Bk a cc).1→D s.a} {hΘ:s.Θ=Θ} {hr:s.r=r} {x:D cc} {y:D a} {θ θ':HS Θ} {z:D r} {caps l:List CV} {H:Nat→Ob},X.TE g=some s→AL (Bk a cc).1 s.a=some h→KM s.fn hΘ hr (h ((Bk a cc).2 y x)) θ=some (z,θ')→Can cc x caps→Can a y l→Rep Θ θ {fr:=fun _=>.undef,ob:=H}→
   r.val=true∧r.ok=true∧∃e,E.ef g=some e∧e.T=A8 Θ∧e.fn (l++caps) H=some (enc r z,DF Θ θ'):=by
  intro g cc s h hΘ hr x y θ θ' z caps l H hs hh hz hx hy hH;obtain⟨⟨s1,_⟩,s2,e,s3,s4,s5⟩:=hF g s hs;obtain⟨Θs,as,rs,fn⟩:=s;simp only at hΘ hr;subst hΘ;subst hr;exact⟨s1,s2,e,s3,s4,s5 _ _ θ H z θ' (BY _ _ hh (G0 hn hy hx)) hH hz⟩
 intro t
 induction t with
 |clo g cc _=>
  intro F x y θ θ' z c l H h hz hx hy hH;simp only[Ht]at h;split at h<;>(try cases h;done);rename_i s hs;split at h<;>(try cases h;done);rename_i hh h1;split at h<;>(try cases h;done);rename_i hΘ;split at h<;>(try cases h;done);rename_i hr;cases h;unfold Can at hx;obtain⟨caps,e,hx⟩:=hx;cases e;obtain⟨g1,g2,e,g3,g4,g5⟩:=one hs h1 hz hx hy hH;exact⟨g1,g2,g,caps,e,rfl,g3,g4,g5⟩
 |falt g cc l' _ ihl=>
  intro F x y θ θ' z c l H h hz hx hy hH;simp only[Ht]at h;split at h<;>(try cases h;done);rename_i s FF hs hFF;split at h<;>(try cases h;done);rename_i hh h1;split at h<;>(try cases h;done);rename_i hΘ;split at h<;>(try cases h;done);rename_i hr;cases h
  cases x with
  |inl w=>
   unfold Can at hx;obtain⟨caps,e,hx⟩:=hx;cases e;obtain⟨g1,g2,e,g3,g4,g5⟩:=one hs h1 hz hx hy hH;exact⟨g1,g2,g,caps,e,rfl,g3,g4,g5⟩
  |inr w=>
   unfold Can at hx;exact ihl hFF hz hx.2 hy hH
 |_=>intro F x y θ θ' z c l H h;cases h
theorem IN(hT:TOk X E)(hF:Bo X E){Γ:TC}{ρ:HS Γ}{st:St}(hr:Rep Γ ρ st){op:SOp}{q:EfD Γ}(h:efK X Γ op=some q)(ho:okΘ q.Θ=true){y:D q.r}{θ':HS q.Θ}(hy:q.d.val ρ=some (y,θ'))(rd:Nat→Ob)(d:Option Nat):
  q.r.val=true∧q.r.ok=true∧A2 E rd st d op=some ((BX (A8 q.Θ) (DF q.Θ θ') st).set d (.c (enc q.r y))):=by
 have part:∀{Θ:TC} {f:HS Γ→HS Θ},okΘ Θ=true→BT Γ Θ=some f→Rep Θ (f ρ) {fr:=fun _=>.undef,ob:=Cg (A8 Θ) st.ob}:=by
  intro Θ f ho hf;have h1:=CL hf hr;simp only[okΘ,Af]at ho;refine⟨fun i q hq=> ?_,fun id q hq=> ?_⟩
  ·have:=Cb ho.2 (Bi hq);obtain⟨k,f'⟩:=q;cases k<;>cases this
  ·have hok:=Cb ho.2 (Bi hq);have hid:(A8 Θ).contains id=true:=by simpa using F2.2 (EM (Bi hq))
   have r:=h1.o id _ hq;show RO Θ _ id q.1 _ (Cg (A8 Θ) st.ob id);unfold Cg;rw[if_pos hid];obtain⟨k,f'⟩:=q;cases k<;>(try cases hok;done)
   case box n=>
    obtain⟨cs,e1,hl,hc⟩:=r;rw[e1];refine⟨_,rfl,by simpa using hl,fun j q' hj hq'=> ?_⟩;obtain⟨sv,g1,g2⟩:=hc j q' hj hq';refine⟨FP (A8 Θ) sv,by rw[List.getElem?_map,g1];rfl, ?_⟩;simp only[okE,Af,List.all_eq_true,List.mem_range]at hok;have hcj:=hok.2 j hj;rw[Bi hq']at hcj;obtain⟨k',f''⟩:=q';cases k'<;>(try cases hcj;done)
    case v t=>obtain⟨c,rfl,hc'⟩:=g2;exact⟨c,rfl,hc'⟩
    case own K=>
     have e2:sv=.osl K:=g2;subst e2;simp only[okC,Af]at hcj;show FP (A8 Θ) (.osl K)=.osl K;simp only[FP,SV.ref];rw[if_pos hcj.1]
   case arr e size t=>obtain⟨es,e1,hc⟩:=r;rw[e1];exact⟨es,rfl,hc⟩
   case buf e=>
    have e1:st.ob id=.buf e (f' (f ρ)):=r;rw[e1];rfl
 cases op<;>(try cases h;done)
 case call f args=>
  simp only[efK]at h;split at h<;>(try cases h;done);rename_i s hs;split at h<;>(try cases h;done);rename_i p g hp hg;split at h<;>(try cases h;done);rename_i k hk;cases h;try dsimp only at hy ho y θ'⊢
  obtain⟨z,h1,h2⟩:=Dyn.comp_val hy;obtain⟨x,h3,h4⟩:=Dyn.map_val h1;subst h4;obtain⟨l,h5,h6⟩:=Hu (G:=E.G) hr hp h3;obtain⟨⟨s1,_⟩,s2,e,s3,s4,s5⟩:=hF f s hs;refine⟨s1,s2, ?_⟩;have h7:=s5 _ l (g ρ) _ y θ' (BY _ _ hk h6) (part ho hg) h2;simp only[A2,SOp.cls,s3,CA,h5,Option.bind_some,List.append_nil,s4,h7]
 case callv f args=>
  simp only[efK]at h;split at h<;>(try cases h;done)
  ·rename_i g cc d' p hf hp;split at h<;>(try cases h;done);rename_i s hs;split at h<;>(try cases h;done);rename_i n k gθ hn hk hg;cases h;try dsimp only at hy ho y θ'⊢
   obtain⟨z,h1,h2⟩:=Dyn.comp_val hy;obtain⟨x,h3,h4⟩:=Dyn.map_val h1;obtain⟨h3,h3'⟩:=Dyn.both_val h3;subst h4;obtain⟨l,h5,h6⟩:=Hu (G:=E.G) hr hp h3;obtain⟨c,e1,e2⟩:=A3 (G:=E.G) hf hr h3';unfold Can at e2;obtain⟨caps,e3,e2⟩:=e2;cases e3;obtain⟨⟨s1,_⟩,s2,e,s3,s4,s5⟩:=hF g s hs;refine⟨s1,s2, ?_⟩;have h7:=s5 _ (l++caps) (gθ ρ) _ y θ' (BY _ _ hk (G0 hn h6 e2)) (part ho hg) h2;simp only[A2,SOp.cls,e1,s3,CA,h5,Option.bind_some,s4,h7]
  ·rename_i g cc l' d' p hf hp;split at h<;>(try cases h;done);rename_i s hs;split at h<;>(try cases h;done);rename_i n gθ F hn hg hFF;cases h;try dsimp only at hy ho y θ'⊢
   obtain⟨z,h1,h2⟩:=Dyn.comp_val hy;obtain⟨x,h3,h4⟩:=Dyn.map_val h1;obtain⟨h3,h3'⟩:=Dyn.both_val h3;subst h4;obtain⟨l,h5,h6⟩:=Hu (G:=E.G) hr hp h3;obtain⟨c,e1,e2⟩:=A3 (G:=E.G) hf hr h3';obtain⟨s1,s2,g',caps,e,rfl,s3,s4,s5⟩:=RD hF hn hFF h2 e2 h6 (part ho hg);refine⟨s1,s2, ?_⟩;simp only[A2,SOp.cls,e1,s3,CA,h5,Option.bind_some,s4,s5]
theorem Km{Γ Θ:TC}{ρ:HS Γ}{θ':HS Θ}{st:St}(ho:okΘ Θ=true)(hr:Rep Γ ρ st):Rep (Θ++AU (A8 Θ) Γ) (Ci Θ θ' (Bh (A8 Θ) ρ)) (BX (A8 Θ) (DF Θ θ') st):=
 hr.turned ho (S8 ho θ' fun _=>.undef)
theorem Sv{Γ:TC}{op:SOp}{q:EfD Γ}(h:efK X Γ op=some q):BT Γ q.Θ=some q.θ:=by
 cases op<;>(try cases h;done)
 case call f args=>
  simp only[efK]at h;split at h<;>(try cases h;done);split at h<;>(try cases h;done);rename_i p g hp hg;split at h<;>(try cases h;done);cases h;exact hg
 case callv f args=>
  simp only[efK]at h;split at h<;>(try cases h;done)
  all_goals
   split at h<;>(try cases h;done);split at h<;>(try cases h;done)
  ·rename_i hg;cases h;exact hg
  ·rename_i hg _;cases h;exact hg
theorem Su{Γ:TC}{op:SOp}{q:EfD Γ}(h:efK X Γ op=some q):∃f,X.TE f≠none:=by
 cases op<;>(try cases h;done)
 case call f args=>
  simp only[efK]at h;split at h<;>(try cases h;done);rename_i s hs;exact⟨f,by rw[hs];simp⟩
 case callv f args=>
  simp only[efK]at h;split at h<;>(try cases h;done)
  all_goals
   split at h<;>(try cases h;done);rename_i s hs;exact⟨_,by rw[hs];simp⟩
theorem Py(hT:TOk X E)(hF:Bo X E){Γ:TC}{ρ:HS Γ}{st:St}(hr:Rep Γ ρ st)(rd:Nat→Ob){l:SL}{o:OpD Γ}(h:Gg X Γ l=some o){b:o.B}(hb:o.d.val ρ=some b):
  ∃st',Bg E rd l st=some st'∧Rep o.Γ' (o.up ρ b) st':=by
 unfold Gg at h;split at h<;>(try cases h;done);rename_i e he;split at h<;>(try cases h;done);rename_i ho;obtain⟨dst,op,guard⟩:=l;simp only at he h;split at h
 ·rename_i d;cases h;obtain⟨y,θ'⟩:=b;obtain⟨v1,v2,v3⟩:=IN hT hF hr he ho hb rd (some d);exact⟨_,by simp only[Bg];exact v3,Rep.set (Km ho hr) ⟨_,rfl,Can.enc y v1 v2⟩⟩
 ·cases h;obtain⟨y,θ'⟩:=b;obtain⟨v1,v2,v3⟩:=IN hT hF hr he ho hb rd none;exact⟨_,by simp only[Bg];exact v3,Km ho hr⟩
 ·rename_i g want d;have hun:=hr.unturned ho (CL (Sv he) hr);split at h<;>(try cases h;done)
  ·rename_i f hg;cases h;obtain⟨c,e1,e2⟩:=hr.s g _ hg;unfold Can at e2;cases e2;by_cases hw:f ρ=want
   ·have:∃y,e.d.val ρ=some y∧b=some y:=by
     cases hd:e.d with
     |tot k=>rw[hd]at hb;simp only[gD,Dyn.val,hw,if_true,Ac]at hb;exact⟨_,rfl,hb.symm⟩
     |par k=>
      rw[hd]at hb;simp only[gD,Dyn.val,hw,if_true]at hb;obtain⟨y,h1,h2⟩:=Aa.1 hb;exact⟨y,h1,h2.symm⟩
    obtain⟨⟨y,θ'⟩,hy,rfl⟩:=this;obtain⟨v1,v2,v3⟩:=IN hT hF hr he ho hy rd (some d);exact⟨_,by simp only[Bg,e1,hw,if_true];exact v3,Rep.set (k:=.opt (.v e.r)) (x:=some y) (Km ho hr) ⟨_,rfl,Can.enc y v1 v2⟩⟩
   ·have:b=none:=by
     cases hd:e.d with
     |tot k=>rw[hd]at hb;simp only[gD,Dyn.val,hw,if_false,Ac]at hb;exact hb.symm
     |par k=>rw[hd]at hb;simp only[gD,Dyn.val,hw,if_false,Ac]at hb;exact hb.symm
    subst this;exact⟨st.set (some d) AP,by simp only[Bg,e1,hw,if_false],Rep.set hun (k:=.opt (.v e.r)) (x:=none) rfl⟩
  ·rename_i f hg;cases h;have hs:=hr.s g _ hg;unfold RS at hs;by_cases hw:f ρ=some want
   ·simp only[hw]at hs;obtain⟨c,e1,e2⟩:=hs;unfold Can at e2;cases e2
    have:∃y,e.d.val ρ=some y∧b=some y:=by
     cases hd:e.d with
     |tot k=>rw[hd]at hb;simp only[gO,Dyn.val,hw,if_true,Ac]at hb;exact⟨_,rfl,hb.symm⟩
     |par k=>
      rw[hd]at hb;simp only[gO,Dyn.val,hw,if_true]at hb;obtain⟨y,h1,h2⟩:=Aa.1 hb;exact⟨y,h1,h2.symm⟩
    obtain⟨⟨y,θ'⟩,hy,rfl⟩:=this;obtain⟨v1,v2,v3⟩:=IN hT hF hr he ho hy rd (some d);exact⟨_,by simp only[Bg,e1,if_true];exact v3,Rep.set (k:=.opt (.v e.r)) (x:=some y) (Km ho hr) ⟨_,rfl,Can.enc y v1 v2⟩⟩
   ·have:b=none:=by
     cases hd:e.d with
     |tot k=>rw[hd]at hb;simp only[gO,Dyn.val,hw,if_false,Ac]at hb;exact hb.symm
     |par k=>rw[hd]at hb;simp only[gO,Dyn.val,hw,if_false,Ac]at hb;exact hb.symm
    subst this
    cases hf:f ρ with
    |none=>
     simp only[hf]at hs;exact⟨st.set (some d) AP,by simp only[Bg,hs,AP],Rep.set hun (k:=.opt (.v e.r)) (x:=none) rfl⟩
    |some b'=>
     simp only[hf]at hs;obtain⟨c,e1,e2⟩:=hs;unfold Can at e2;cases e2;have hne:b'≠want:=fun e=>hw (by rw[hf,e]);exact⟨st.set (some d) AP,by simp only[Bg,e1,hne,if_false],Rep.set hun (k:=.opt (.v e.r)) (x:=none) rfl⟩
 ·cases h
theorem Pz(hT:TOk X E){Γ:TC}{msk:List Nat}{ρ:HS Γ}{st:St}(hr:Rep Γ ρ st){rd:Nat→Ob}{l:SL}(hD:∀id,(hid l.op msk).contains id=false→rd id=st.ob id){o:OpD Γ}(h:Gj X Γ msk l=some o){b:o.B}(hb:o.d.val ρ=some b):
  ∃st',Bg E rd l st=some st'∧Rep o.Γ' (o.up ρ b) st':=by
 obtain⟨dst,op,guard⟩:=l
 cases guard with
 |none=>
  simp only[Gj]at h;split at h
  ·rename_i hcls;split at h<;>(try cases h;done);rename_i d;split at h<;>(try cases h;done);rename_i f hg;obtain⟨v,ob,h1,h2⟩:=Uu hr h hb;have hn:st.ob d=.none:=hr.o d _ hg;rw[←hT.G]at h1;exact⟨_,by simp[Bg,A2,hcls,h1,AY,hn],h2⟩
  ·rename_i hcls;obtain⟨st',h1,h2⟩:=Ut hr h hb;rw[←hT.G]at h1;exact⟨st',by simp only[Bg,A2,hcls,CY,h1],h2⟩
  ·obtain⟨st',h1,h2⟩:=Us hT hr h hb rd;exact⟨st',h1,h2⟩
  ·split at h
   ·rename_i q hq;split at h
    ·rename_i d;cases h;obtain⟨sv,h1,h2⟩:=Kf hT hr hD hq hb (some d);exact⟨_,by simp only[Bg,h1],Rep.set hr h2⟩
    ·cases h;obtain⟨sv,h1,h2⟩:=Kf hT hr hD hq hb none;exact⟨st,by simp only[Bg,h1,St.set],hr⟩
   ·split at h<;>(try cases h;done);rename_i d;obtain⟨st',h1,h2⟩:=Ur hT hr hD h hb;exact⟨st',by simp only[Bg,h1],h2⟩
 |some g=>
  obtain⟨g,want⟩:=g;simp only[Gj]at h;split at h<;>(try cases h;done);rename_i q d hq;split at h<;>(try cases h;done)
  ·rename_i f hg;cases h;obtain⟨c,e1,e2⟩:=hr.s g _ hg;unfold Can at e2;cases e2;by_cases hw:f ρ=want
   ·have:∃y,q.2.val ρ=some y∧b=some y:=by
     cases hd:q.2 with
     |tot k=>rw[hd]at hb;simp only[gD,Dyn.val,hw,if_true,Ac]at hb;exact⟨_,rfl,hb.symm⟩
     |par k=>
      rw[hd]at hb;simp only[gD,Dyn.val,hw,if_true]at hb;obtain⟨y,h1,h2⟩:=Aa.1 hb;exact⟨y,h1,h2.symm⟩
    obtain⟨y,hy,rfl⟩:=this;obtain⟨sv,h1,h2⟩:=Kf hT hr hD hq hy (some d);refine⟨_,by simp only[Bg,e1,hw,if_true];exact h1,Rep.set hr ?_⟩;exact h2
   ·have:b=none:=by
     cases hd:q.2 with
     |tot k=>rw[hd]at hb;simp only[gD,Dyn.val,hw,if_false,Ac]at hb;exact hb.symm
     |par k=>rw[hd]at hb;simp only[gD,Dyn.val,hw,if_false,Ac]at hb;exact hb.symm
    subst this;exact⟨st.set (some d) AP,by simp only[Bg,e1,hw,if_false],Rep.set hr (k:=.opt q.1) (x:=none) rfl⟩
  ·rename_i f hg;cases h;have hs:=hr.s g _ hg;unfold RS at hs;by_cases hw:f ρ=some want
   ·simp only[hw]at hs;obtain⟨c,e1,e2⟩:=hs;unfold Can at e2;cases e2
    have:∃y,q.2.val ρ=some y∧b=some y:=by
     cases hd:q.2 with
     |tot k=>rw[hd]at hb;simp only[gO,Dyn.val,hw,if_true,Ac]at hb;exact⟨_,rfl,hb.symm⟩
     |par k=>
      rw[hd]at hb;simp only[gO,Dyn.val,hw,if_true]at hb;obtain⟨y,h1,h2⟩:=Aa.1 hb;exact⟨y,h1,h2.symm⟩
    obtain⟨y,hy,rfl⟩:=this;obtain⟨sv,h1,h2⟩:=Kf hT hr hD hq hy (some d);refine⟨_,by simp only[Bg,e1,if_true];exact h1,Rep.set hr ?_⟩;exact h2
   ·have:b=none:=by
     cases hd:q.2 with
     |tot k=>rw[hd]at hb;simp only[gO,Dyn.val,hw,if_false,Ac]at hb;exact hb.symm
     |par k=>rw[hd]at hb;simp only[gO,Dyn.val,hw,if_false,Ac]at hb;exact hb.symm
    subst this
    cases hf:f ρ with
    |none=>
     simp only[hf]at hs;exact⟨st.set (some d) AP,by simp only[Bg,hs,AP],Rep.set hr (k:=.opt q.1) (x:=none) rfl⟩
    |some b'=>
     simp only[hf]at hs;obtain⟨c,e1,e2⟩:=hs;unfold Can at e2;cases e2;have hne:b'≠want:=fun e=>hw (by rw[hf,e]);exact⟨st.set (some d) AP,by simp only[Bg,e1,hne,if_false],Rep.set hr (k:=.opt q.1) (x:=none) rfl⟩
theorem J9(hT:TOk X E)(hF:Bo X E){Γ:TC}{msk:List Nat}{ρ:HS Γ}{st:St}(hr:Rep Γ ρ st){D:Option (List Nat)}(hDn:D=none∨∀f,X.TE f=none){l:SL}(hD:∀id,(hid l.op msk).contains id=false→A9 (D.map (hid l.op)) st.ob id=st.ob id){o:OpD Γ}(h:opL X Γ msk l=some o){b:o.B}(hb:o.d.val ρ=some b):
  ∃st',Ax E D l st=some st'∧Rep o.Γ' (o.up ρ b) st':=by
 cases hef:Gg X Γ l with
 |some oe=>
  have h':(match Gg X Γ l with
   |some o=>some o
   |none=>Gj X Γ msk l)=some o:=h
  rw[hef]at h';cases h'
  have hD0:D=none:=by
   rcases hDn with h1|h1
   ·exact h1
   ·unfold Gg at hef;split at hef<;>(try cases hef;done);rename_i e he;obtain⟨f,hf⟩:=Su he;exact absurd (h1 f) hf
  subst hD0;exact Py hT hF hr _ hef hb
 |none=>
  have h':Gj X Γ msk l=some o:=by
   unfold opL at h;rw[hef]at h;exact h
  exact Pz (hT.at D) hr hD h' hb
theorem Hz{X:TP}{E:Env}(hT:TOk X E)(hF:Bo X E){A:Type}{msk:List Nat}{D:Option (List Nat)}(hDn:D=none∨∀f,X.TE f=none)(hD:∀(op:SOp) (ob:Nat→Ob) id,(hid op msk).contains id=false→A9 (D.map (hid op)) ob id=ob id):∀{ls:List SL} {Γ:TC} {q:LsD A Γ} {ρ:HS Γ} {st:St} {K:HS q.Γ'→Option A} {r:A},
  G9 A X msk ls Γ=some q→Rep Γ ρ st→q.run ρ K=some r→∃st',B7 E D ls st=some st'∧∃ρ',Rep q.Γ' ρ' st'∧K ρ'=some r
 | [],Γ,q,ρ,st,K,r,h,hr,hk=>by
  simp only[G9,Ac]at h;subst h;exact⟨st,rfl,ρ,hr,hk⟩
 |l::ls,Γ,q,ρ,st,K,r,h,hr,hk=>by
  simp only[G9]at h;split at h<;>(try cases h;done);rename_i o ho;split at h<;>(try cases h;done);rename_i p hp;cases h;have hk':o.d.app ρ (fun b=>p.run (o.up ρ b) K)=some r:=hk;obtain⟨b,h1,h2⟩:=Dyn.app_some hk';obtain⟨st1,h3,h4⟩:=J9 hT hF hr hDn (hD l.op st.ob) ho h1;obtain⟨st2,h5,h6⟩:=Hz hT hF hDn hD hp h4 h2;exact⟨st2,by simp[B7,h3,h5],h6⟩
theorem Lb(hT:TOk X E)(hF:Bo X E){A:Type}{draw:Bool}{D:List Nat}{ls:List SL}{Γ:TC}{q:LsD A Γ}{ρ:HS Γ}{st:St}{K:HS q.Γ'→Option A}{r:A}(h:Fs A X draw D ls Γ=some q)(hr:Rep Γ ρ st)(hk:q.run ρ K=some r):
  ∃st',BN E draw D ls st=some st'∧∃ρ',Rep q.Γ' ρ' st'∧K ρ'=some r:=by
 cases draw with
 |true=>
  cases D with
  |nil=>
   simp only[Fs,cond_true]at h;obtain⟨st',h1,h2⟩:=Hz hT.noE (Bo.noE X E) (D:=some []) (.inr fun _=>rfl) (fun op ob id _=>by simp[A9,hid]) h hr hk;exact⟨st',by simpa[BN]using h1,h2⟩
  |cons d ds=>
   simp only[Fs,cond_true,if_true]at h;split at h<;>(try cases h;done);rename_i p hp;cases h
   obtain⟨st',h1,h2⟩:=Hz hT.noE (Bo.noE X E) (D:=some (d::ds)) (.inr fun _=>rfl) (fun op ob id hh=>by
    simp only[Option.map_some,A9,hh,Ag,if_false]) hp (hr.kill (d::ds)) hk
   exact⟨st',by simpa[BN]using h1,h2⟩
 |false=>
  cases D with
  |nil=>
   simp only[Fs,cond_false]at h;obtain⟨st',h1,h2⟩:=Hz hT hF (D:=none) (.inl rfl) (fun op ob id _=>rfl) h hr hk;exact⟨st',by simpa[BN]using h1,h2⟩
  |cons d ds=>
   simp only[Fs,cond_false,Ag,if_false]at h;split at h<;>(try cases h;done);rename_i p hp;cases h;obtain⟨st',h1,h2⟩:=Hz hT hF (D:=none) (.inl rfl) (fun op ob id hh=>rfl) hp (hr.kill (d::ds)) hk;exact⟨st',by simpa[BN]using h1,h2⟩
theorem II(hT:TOk X E)(hF:Bo X E){A:Type}:∀{gs:List GL} {Γ:TC} {q:LsD A Γ} {ρ:HS Γ} {st:St} {K:HS q.Γ'→Option A} {r:A} {Q:St→Prop},
  Fq A X gs Γ=some q→Rep Γ ρ st→q.run ρ K=some r→(∀st' ρ',Rep q.Γ' ρ' st'→K ρ'=some r→Q st')→D1 (Dk X.Θ) E (Ed gs) Q st
 | [],Γ,q,ρ,st,K,r,Q,h,hr,hk,hQ=>by
  simp only[Fq,Ac]at h;subst h;exact⟨st,Aw.refl st,hQ _ _ hr hk⟩
 | .l l::gs,Γ,q,ρ,st,K,r,Q,h,hr,hk,hQ=>by
  simp only[Fq]at h;split at h<;>(try cases h;done);rename_i o ho;split at h<;>(try cases h;done);rename_i p hp;cases h;have hk':o.d.app ρ (fun b=>p.run (o.up ρ b) K)=some r:=hk;obtain⟨b,h1,h2⟩:=Dyn.app_some hk';obtain⟨st1,h3,h4⟩:=J9 hT hF hr (D:=none) (.inl rfl) (fun _ _=>rfl) ho h1;exact⟨st,Aw.refl st,st1,h3,II (gs:=gs) hT hF hp h4 h2 hQ⟩
 | .g g::gs,Γ,q,ρ,st,K,r,Q,h,hr,hk,hQ=>by
  simp only[Fq]at h;split at h<;>(try cases h;done);rename_i p hp;split at h<;>(try cases h;done);rename_i p' hp';cases h;obtain⟨st',h1,h2⟩:=Jb hp hr;exact UP h1 (II (gs:=gs) hT hF hp' h2 hk hQ)
theorem NN(hT:TOk X E)(hF:Bo X E){A:Type}{D:List Nat}{gs:List GL}{Γ:TC}{q:LsD A Γ}{ρ:HS Γ}{st:St}{K:HS q.Γ'→Option A}{r:A}{Q:Ex→St→Prop}(h:H0 A X D gs Γ=some q)(hr:Rep Γ ρ st)(hk:q.run ρ K=some r)
  (hQ:∀st' ρ',Rep q.Γ' ρ' st'→K ρ'=some r→Q .normal st'):Ch (Dk X.Θ) E (.reg false D (Ed gs)) Q st:=by
 cases D with
 |nil=>
  simp only[H0]at h;exact⟨st,Aw.refl st,II hT hF h hr hk hQ⟩
 |cons d ds=>
  simp only[H0]at h;split at h<;>(try cases h;done);rename_i p hp;cases h;exact⟨st,Aw.refl st,II hT hF hp (hr.kill (d::ds)) hk hQ⟩
theorem UO{R:St→St→Prop}(hRt:∀{a b c:St},R a b→R b c→R a c){E:Env}{D:Option (List Nat)}{ls:List RL}{Q:St→Prop}{st s:St}(h:R st s)(hr:CS R E D ls Q s):CS R E D ls Q st:=by
 cases ls with
 |nil=>obtain⟨s',h1,h2⟩:=hr;exact⟨s',hRt h h1,h2⟩
 |cons l ls=>
  cases l with
  |l l=>obtain⟨s',h1,h2⟩:=hr;exact⟨s',hRt h h1,h2⟩
  |sk d=>obtain⟨s',h1,h2⟩:=hr;exact⟨s',hRt h h1,h2⟩
theorem IJ{X:TP}{E:Env}(hT:TOk X E)(hF:Bo X E){A:Type}{R:St→St→Prop}(hRr:∀s,R s s){msk:List Nat}{D:Option (List Nat)}(hDn:D=none∨∀f,X.TE f=none)(hD:∀(op:SOp) (ob:Nat→Ob) id,(hid op msk).contains id=false→A9 (D.map (hid op)) ob id=ob id):∀{ls:List RL} {Γ:TC} {q:LsD A Γ} {ρ:HS Γ} {st:St} {K:HS q.Γ'→Option A} {r:A},
  Fr A X msk ls Γ=some q→Rep Γ ρ st→q.run ρ K=some r→CS R E D ls (fun st'=>∃ρ',Rep q.Γ' ρ' st'∧K ρ'=some r) st
 | [],Γ,q,ρ,st,K,r,h,hr,hk=>by
  simp only[Fr,Ac]at h;subst h;exact⟨st,hRr st,ρ,hr,hk⟩
 | .l l::ls,Γ,q,ρ,st,K,r,h,hr,hk=>by
  simp only[Fr]at h;split at h<;>(try cases h;done);rename_i o ho;split at h<;>(try cases h;done);rename_i p hp;cases h;have hk':o.d.app ρ (fun b=>p.run (o.up ρ b) K)=some r:=hk;obtain⟨b,h1,h2⟩:=Dyn.app_some hk';obtain⟨st1,h3,h4⟩:=J9 hT hF hr hDn (hD l.op st.ob) ho h1;have ih:=IJ (R:=R) (ls:=ls) (q:=p) (K:=K) hT hF hRr hDn hD hp h4 h2;exact⟨st,hRr st,st1,h3,ih⟩
 | .sk (some d)::ls,Γ,q,ρ,st,K,r,h,hr,hk=>by
  simp only[Fr]at h;split at h<;>(try cases h;done);rename_i p hp;cases h;have ih:=IJ (R:=R) (ls:=ls) (q:=p) (K:=K) hT hF hRr hDn hD hp (Rep.set hr (d:=d) (k:=.undef) (x:=()) (sv:=AP) trivial) hk;exact⟨st,hRr st,ih⟩
 | .sk none::ls,Γ,q,ρ,st,K,r,h,hr,hk=>⟨st,hRr st,IJ hT hF hRr hDn hD (ls:=ls) h hr hk⟩
theorem NM{X:TP}{E:Env}(hT:TOk X E)(hF:Bo X E){A:Type}{R:St→St→Prop}(hRr:∀s,R s s)(hRt:∀{a b c:St},R a b→R b c→R a c)(hRk:∀{st s:St},R st s→∀(i:Nat) (c:CV),Lr c=true→st.fr i=.c c→s.fr i=.c c)
  {draw:Bool} (hG:draw=false→∀{st s:St},Aw (Dk X.Θ) st s→R st s) {msk:List Nat} {D:Option (List Nat)} (hDn:D=none∨∀f,X.TE f=none) (hD:∀(op:SOp) (ob:Nat→Ob) id,(hid op msk).contains id=false→A9 (D.map (hid op)) ob id=ob id):∀{h:HT} {ls:List RL} {Γ Γn:TC} {q:HS Γ→(HS Γn→Option A)→Option A} {ρ:HS Γ} {st:St} {K:HS Γn→Option A} {r:A},
  C1 A X draw msk h ls Γ Γn=some q→Rep Γ ρ st→q ρ K=some r→CS R E D ls (fun st'=>∃ρ',Rep Γn ρ' st'∧K ρ'=some r) st:=by
 intro h
 induction h with
 |nil=>
  intro ls Γ Γn q ρ st K r h hr hk;simp only[C1]at h;split at h<;>(try cases h;done);rename_i p hp;split at h<;>(try cases h;done);rename_i f hf;cases h;have:=IJ hT hF hRr hDn hD hp hr hk;refine M3 (fun s ⟨ρ',h1,h2⟩=>⟨_,CL hf h1,h2⟩) this
 |n k ih=>
  intro ls Γ Γn q ρ st K r h hr hk
  match ls,h with
  | .l l::ls,h=>
   simp only[C1]at h;split at h<;>(try cases h;done);rename_i o ho;split at h<;>(try cases h;done);rename_i p hp;cases h;have hk':o.d.app ρ (fun b=>p (o.up ρ b) K)=some r:=hk;obtain⟨b,h1,h2⟩:=Dyn.app_some hk';obtain⟨st1,h3,h4⟩:=J9 hT hF hr hDn (hD l.op st.ob) ho h1;exact⟨st,hRr st,st1,h3,ih hp h4 h2⟩
  | .sk (some d)::ls,h=>
   simp only[C1]at h;split at h<;>(try cases h;done);rename_i p hp;cases h;exact⟨st,hRr st,ih hp (Rep.set hr (d:=d) (k:=.undef) (x:=()) (sv:=AP) trivial) hk⟩
  | .sk none::ls,h=>
   simp only[C1]at h;exact⟨st,hRr st,ih h hr hk⟩
  | [],h=>simp only[C1]at h;cases h
 |g g k ih=>
  intro ls Γ Γn q ρ st K r h hr hk;simp only[C1]at h;split at h<;>(try cases h;done);rename_i hdr;split at h<;>(try cases h;done);rename_i p hp;split at h<;>(try cases h;done);rename_i p' hp';cases h;obtain⟨st',h1,h2⟩:=Jb hp hr;exact UO (R:=R) hRt (hG rfl h1) (ih hp' h2 hk)
 |sp g t f iht ihf=>
  intro ls Γ Γn q ρ st K r h hr hk;simp only[C1]at h;split at h<;>(try cases h;done);rename_i hno;split at h<;>(try cases h;done);rename_i e dt df he ht hf;cases h;obtain⟨c,e1,e2⟩:=hr.s g _ he;unfold Can at e2;cases e2;replace hk:(if e ρ=true then dt ρ K else df ρ K)=some r:=hk;by_cases hb:e ρ=true
  ·rw[if_pos hb]at hk;replace e1:st.fr g=.c (.bool true):=hb▸e1;exact Im hRk hno e1 (fun _ hh=>by cases hh) (iht ht hr hk)
  ·rw[if_neg hb]at hk;have hb':e ρ=false:=by simpa using hb
   replace e1:st.fr g=.c (.bool false):=hb'▸e1;exact Im hRk hno e1 (fun _ hh=>by cases hh) (ihf hf hr hk)
theorem Sk(hT:TOk X E)(hF:Bo X E){A:Type}{draw:Bool}{D:List Nat}{ls:List SL}{h:HT}{Γ Γn:TC}{q:HS Γ→(HS Γn→Option A)→Option A}{ρ:HS Γ}{st:St}{K:HS Γn→Option A}{r:A}{Q:Ex→St→Prop}(hd:GB A X draw D ls h Γ Γn=some q)(hr:Rep Γ ρ st)(hk:q ρ K=some r)
  (hQ:∀st' ρ',Rep Γn ρ' st'→K ρ'=some r→Q .normal st'):Ch (Dk X.Θ) E (.reg draw D ls) Q st:=by
 have fin:∀{st:St},(∃st',B7 E (some D) ls st=some st'∧∃ρ',Rep Γn ρ' st'∧K ρ'=some r)→∃st',B7 E (some D) ls st=some st'∧Q .normal st':=fun⟨st',h1,ρ',h2,h3⟩=>⟨st',h1,hQ st' ρ' h2 h3⟩
 cases draw with
 |true=>
  have key:∀{msk:List Nat} {Γ:TC} {ρ:HS Γ} {st:St} {q:HS Γ→(HS Γn→Option A)→Option A},msk=D→C1 A X.noE true msk h (ls.map .l) Γ Γn=some q→Rep Γ ρ st→q ρ K=some r→∃st',B7 E (some D) ls st=some st'∧Q .normal st':=by
   intro msk Γ ρ st q hm hq hr hk;subst hm;refine fin (PY (NM hT.noE (Bo.noE X E) (R:=Eq) (fun _=>rfl) (fun a b=>a.trans b) (fun e=>by subst e;exact fun _ _ _ h=>h) (draw:=true) (fun hh=>by cases hh) (D:=some msk) (.inr fun _=>rfl) (fun op ob id hh=> ?_) hq hr hk));simp only[Option.map_some,A9,hh,Ag,if_false]
  cases D with
  |nil=>
   simp only[GB,cond_true]at hd;obtain⟨st',h1,h2⟩:=key rfl hd hr hk;exact⟨st,Aw.refl st,st',by simpa[BN]using h1,h2⟩
  |cons d ds=>
   simp only[GB,cond_true,if_true]at hd;split at hd<;>(try cases hd;done);rename_i p hp;cases hd;obtain⟨st',h1,h2⟩:=key rfl hp (hr.kill (d::ds)) hk;exact⟨st,Aw.refl st,st',by simpa[BN]using h1,h2⟩
 |false=>
  have key:∀{Γ:TC} {ρ:HS Γ} {st:St} {q:HS Γ→(HS Γn→Option A)→Option A},C1 A X false [] h (ls.map .l) Γ Γn=some q→Rep Γ ρ st→q ρ K=some r→D1 (Dk X.Θ) E ls (Q .normal) st:=by
   intro Γ ρ st q hq hr hk;have:=NM hT hF (R:=Aw (Dk X.Θ)) Aw.refl (fun a b=>a.trans b) (fun e=>e.2.fix) (draw:=false) (fun _ _ _ h=>h) (D:=none) (.inl rfl) (fun op ob id _=>rfl) hq hr hk;exact Io (fun s ⟨ρ',h1,h2⟩=>hQ s ρ' h1 h2) (PZ this)
  cases D with
  |nil=>
   simp only[GB,cond_false]at hd;exact⟨st,Aw.refl st,key hd hr hk⟩
  |cons d ds=>
   simp only[GB,cond_false,Ag,if_false]at hd;split at hd<;>(try cases hd;done);rename_i p hp;cases hd;exact⟨st,Aw.refl st,key hp (hr.kill (d::ds)) hk⟩
theorem LY{st:St}{k:Nat}{b:Ob}(hk:k<Au):merge {low st with ob:=upd (low st).ob k b} st={st with ob:=upd st.ob k b}∧low {st with ob:=upd st.ob k b}={low st with ob:=upd (low st).ob k b}:=by
 constructor
 ·simp only[merge,low,St.mk.injEq,true_and];funext i;simp only[B5,BP];by_cases h1:i=k
  ·subst h1;rw[if_pos rfl,if_neg (by omega),if_pos rfl]
  ·rw[if_neg h1,if_neg h1];split<;>rfl
 ·simp only[low,St.mk.injEq,true_and];funext i;simp only[B5,BP];by_cases h1:i=k
  ·subst h1;rw[if_pos rfl,if_pos rfl,if_neg (by omega)]
  ·rw[if_neg h1,if_neg h1]
theorem Pe(st:St):merge (low st) st=st:=by
 obtain⟨fr,ob⟩:=st;simp only[merge,low,St.mk.injEq,true_and];funext i;simp only[BP];split<;>rfl
theorem OW{st:St}{id:Nat}{o:Ob}(h:(low st).ob id=o)(hn:o≠ .none):id<Au∧st.ob id=o:=by
 have h':(if Au≤id then Ob.none else st.ob id)=o:=h;by_cases hi:Au≤id
 ·rw[if_pos hi]at h';exact absurd h'.symm hn
 ·rw[if_neg hi]at h';exact⟨by omega,h'⟩
theorem Vs{d:Option Nat}{ρ:SO→SV}{st t:St}{n:Nat}{x y:SO}(h:AD d ρ (low st) (.store n x y)=some t):AD d ρ st (.store n x y)=some (merge t st)∧low (merge t st)=t:=by
 simp only[AD]at h⊢
 have hdr:deref st.ob (ρ x)=deref (low st).ob (ρ x)∨deref (low st).ob (ρ x)=.undef:=by
  generalize ρ x=q;cases q<;>try exact .inl rfl
  rename_i c;cases c<;>try exact .inl rfl
  rename_i N;simp only[deref];by_cases hN:Au≤N
  ·right;rw[if_pos hN];have:(low st).ob N=.none:=by show(if Au≤N then Ob.none else st.ob N)=_;rw[if_pos hN]
   rw[this]
  ·left;rw[if_neg hN,if_neg hN]
 rcases hdr with hdr|hdr
 ·rw[hdr];generalize deref (low st).ob (ρ x)=q at h⊢;cases q<;>(try cases h;done)
  ·rename_i cv;cases cv<;>(try cases h;done);rename_i cs
   cases cs with
   |nil=>cases h
   |cons c0 cs=>
    cases cs with
    |cons _ _=>cases c0<;>cases h
    |nil=>
     cases c0<;>(try cases h;done);cases hv:ρ y<;>simp only[hv]at h⊢ <;>(try cases h;done);rename_i c2;cases c2<;>(try cases h;done);simp only[Ad,Ac]at h⊢;obtain⟨hc,rfl⟩:=h;exact⟨⟨hc,(Pe st).symm⟩,by rw[Pe]⟩
  ·rename_i id o;simp only at h⊢;cases hob:(low st).ob id<;>rw[hob]at h<;>(try cases h;done);rename_i cs bt;obtain⟨hi,hob'⟩:=OW hob (by simp);rw[hob'];simp only at h⊢;split at h
   ·split at h<;>(try cases h;done);rename_i hc;cases h;obtain⟨k1,k2⟩:=LY (st:=st) (b:=.box (EY cs o (List.map SV.c ‹_›)) bt) hi;rw[k1];exact⟨by rw[if_pos hc],k2⟩
   ·split at h<;>(try cases h;done);rename_i hc;cases h;obtain⟨k1,k2⟩:=LY (st:=st) (b:=.box (cs.set o (ρ y)) bt) hi;rw[k1];exact⟨by rw[if_pos hc],k2⟩
  ·rename_i id i size o;simp only at h⊢;split at h<;>(try cases h;done);rename_i e sz es v hob hv;obtain⟨hi,hob'⟩:=OW hob (by simp);rw[hob',hv];simp only;split at h<;>(try cases h;done);rename_i hc;rw[if_pos hc];obtain⟨el,h1,h2⟩:=Ab.1 h;rw[h1,Option.bind_some];split at h2<;>(try cases h2;done);rename_i hc2;cases h2;obtain⟨k1,k2⟩:=LY (st:=st) (b:=.arr e sz (es.set i (EU el o n v))) hi;rw[k1,if_pos hc2];exact⟨rfl,k2⟩
 ·rw[hdr]at h;cases h
theorem UA{E:Env}{D:List Nat}{l:SL}{st t:St}(hl:LK l=true)(h:Bg E.pois (A9 (some (hid l.op D)) (BP st.ob)) l (low st)=some t):CB E D l st=some (merge t st)∧low (merge t st)=t:=by
 simp only[LK,Af,Aj,Bool.not_eq_true']at hl
 have hd:∀j,l.dst=some j→j<Au:=fun j hj=>by
  have:=hl.2;rw[hj]at this;exact Nat.lt_of_succ_le (Ah this)
 unfold CB;rw[Ll]at h⊢;have hgd:gd l (low st).fr=gd l st.fr:=rfl;rw[hgd]at h
 cases hg:gd l st.fr with
 |none=>rw[hg]at h;cases h
 |some b=>
  rw[hg]at h
  cases b with
  |false=>
   simp only[Option.bind_some,Ag,if_false,Ac]at h⊢;have h':put (low st) l.dst (AP,none)=some t:=by rw[←h];rfl
   obtain⟨k1,k2⟩:=Mu hd h';exact⟨Option.some.inj k1,k2⟩
  |true=>
   simp only[Option.bind_some,if_true]at h⊢
   cases hh:l.op.hard with
   |true=>
    have hst:l.op.stores=true:=by
     rcases hl.1 with h1|h1
     ·rw[hh]at h1;cases h1
     ·exact h1
    cases hop:l.op<;>rw[hop]at hst<;>(try cases hst;done);rw[hop]at h;exact Vs (d:=l.dst) h
   |false=>
    have hnone:efL E l st.fr=none:=by
     cases hef:efL E l st.fr with
     |none=>rfl
     |some q=>
      exfalso;unfold efL at hef;split at hef<;>(try cases hef;done)
      ·rename_i f args ho;split at hef<;>(try cases hef;done);rename_i e he;have he':E.pois.ef f=some ⟨e.T,fun _ _=>none⟩:=by show(E.ef f).map _=_;rw[he];rfl
       rw[ho]at h;simp only[A2,SOp.cls,he',CA]at h
       cases hal:Ar (fun x=>closed (so E.pois.G (low st).fr x)) args with
       |none=>rw[hal]at h;cases h
       |some v=>rw[hal]at h;cases h
      ·rename_i f args ho;split at hef<;>(try cases hef;done);rename_i g caps hfv;split at hef<;>(try cases hef;done);rename_i e he;have he':E.pois.ef g=some ⟨e.T,fun _ _=>none⟩:=by show(E.ef g).map _=_;rw[he];rfl
       have hfv':so E.pois.G (low st).fr f=.c (.fn g caps):=hfv;rw[ho]at h;simp only[A2,SOp.cls,hfv',he',CA]at h
       cases hal:Ar (fun x=>closed (so E.pois.G (low st).fr x)) args with
       |none=>rw[hal]at h;cases h
       |some v=>rw[hal]at h;cases h
    have hnone':efL E.pois l (low st).fr=none:=by
     unfold efL at hnone⊢;cases ho:l.op<;>rw[ho]at hnone<;>try rfl
     ·rename_i f args;simp only at hnone⊢;split at hnone<;>(try cases hnone;done);rename_i he;have he':E.pois.ef f=none:=by show(E.ef f).map _=_;rw[he];rfl
      rw[he']
     ·rename_i f args;simp only at hnone⊢
      show(match so E.G st.fr f with
       | .c (.fn f caps)=>match E.pois.ef f with
        |some e=>some (e,args,caps)
        |none=>none
       |_=>none)=none
      split
      ·rename_i g caps hfv;rw[hfv]at hnone;simp only at hnone;split at hnone<;>(try cases hnone;done);rename_i he;have he':E.pois.ef g=none:=by show(E.ef g).map _=_;rw[he];rfl
       rw[he']
      ·rfl
    rw[Mh hnone',Hi hh,Ab]at h;obtain⟨p,h1,h2⟩:=h;obtain⟨k1,k2⟩:=Mu hd h2;refine⟨?_,k2⟩;rw[Mh hnone,Hi hh,Ab];exact⟨p,h1,k1⟩
theorem F9{f:Key×EK→Bool}:∀{Γ:TC} {seen:List Key},(Ds f Γ seen).all f=true
 | [],_=>rfl
 |e::Γ,seen=>by
  unfold Ds
  cases seen.contains e.1 with
  |true=>exact F9
  |false=>
   simp only
   cases hf:f e with
   |true=>simp only[List.all_cons,hf,Bool.true_and];exact F9
   |false=>exact F9
theorem HV{N:Nat}(h:Co (.o N)=true):N<Au:=by
 simp only[Co,Bool.not_eq_true']at h;exact Nat.lt_of_not_le fun hh=>by rw[Nat.ble_eq_true_of_le hh]at h;cases h
theorem TL{N j:Nat}(h:Co (.c N j)=true):N<Au:=HV h
theorem L0{N:Nat}(h:Co (.o N)=false):Au≤N:=by
 simp only[Co,Bool.not_eq_false']at h;exact Ah h
section
variable {Γ:TC} {ρ:HS Γ} {st:St}
theorem Rep.low(h:Rep Γ ρ st)(hk:(Γ.all fun e=>Co e.1)=true):Rep Γ ρ (WB.low st):=by
 refine⟨h.s,fun id q hq=> ?_⟩;have hid:=HV (Cb (pr:=fun e=>Co e.1) hk (Bi hq));have e:(WB.low st).ob id=st.ob id:=by show(if Au≤id then Ob.none else st.ob id)=_;rw[if_neg (by omega)]
 rw[e];exact h.o id q hq
theorem RS.clean{k:EK}{x:DK k}{sv:SV}(h:RS k x sv)(hn:∀id,k.refs=some id→id<Au):RS k x (CK sv):=by
 have key:∀(id:Nat) (s:SV),s.ref=some id→id<Au→CK s=s:=fun id s hs hid=>by
  unfold CK;rw[hs];simp only;rw[if_neg (by omega)]
 have keyc:∀s:SV,s.ref=none→CK s=s:=fun s hs=>by unfold CK;rw[hs]
 induction k
 case v t=>obtain⟨c,rfl,hc⟩:=h;exact⟨c,rfl,hc⟩
 case opt k ih=>
  unfold RS at h⊢
  cases x with
  |none=>simp only at h;subst h;rfl
  |some y=>exact ih h hn
 case rp ex r=>obtain⟨cs,rest,rfl,hc⟩:=h;exact⟨cs,rest,rfl,hc⟩
 case undef=>trivial
 case ptr id o=>unfold RS at h;subst h;exact key id _ rfl (hn id rfl)
 case eptr id s o=>unfold RS at h;subst h;exact key id _ rfl (hn id rfl)
 case aptr id n o=>obtain⟨h,hi⟩:=h;subst h;exact⟨key id _ rfl (hn id rfl),hi⟩
 case own id=>unfold RS at h;subst h;exact key id _ rfl (hn id rfl)
 case mp id=>unfold RS at h;subst h;exact key id _ rfl (hn id rfl)
 case iter id=>unfold RS at h;subst h;exact key id _ rfl (hn id rfl)
 case ent id k v=>
  obtain⟨ck,cv,rfl,h1,h2⟩:=h;exact⟨ck,cv,key id _ rfl (hn id rfl),h1,h2⟩
 case stamp id k=>
  obtain⟨ck,rfl,h1⟩:=h;exact⟨ck,key id _ rfl (hn id rfl),h1⟩
 all_goals exact h
theorem Jt{p:Key}{k:EK}(h:EQ (p,k)=true):Co p=true∧∀id,k.refs=some id→id<Au:=by
 simp only[EQ,Af]at h;refine⟨h.1,fun id hid=> ?_⟩;have h2:=h.2;rw[hid]at h2;exact HV h2
theorem Rep.lowC(h:Rep Γ ρ st)(hk:Γ.all EQ=true):Rep Γ ρ (WB.low (C6 st)):=by
 refine⟨fun i q hq=>RS.clean (h.s i q hq) (Jt (Cb hk (Bi hq))).2,fun id q hq=> ?_⟩;have hid:=HV (Jt (Cb hk (Bi hq))).1
 have e:(WB.low (C6 st)).ob id=Fm (st.ob id):=by
  show(if Au≤id then Ob.none else(if Au≤id then st.ob id else Fm (st.ob id)))=_;rw[if_neg (by omega),if_neg (by omega)]
 rw[e];have hob:=h.o id q hq;obtain⟨k,f'⟩:=q;simp only at hob⊢;cases k<;>try exact hob
 ·obtain⟨cs,h7,h8,h9⟩:=hob;rw[h7];refine⟨cs.map CK,rfl,by simp[h8],fun j q' hj hq'=> ?_⟩;obtain⟨sv,g4,g5⟩:=h9 j _ hj hq';exact⟨CK sv,by simp[g4],RS.clean g5 (Jt (Cb hk (Bi hq'))).2⟩
 all_goals first
  |(obtain⟨es,h7,h8⟩:=hob;rw[h7];exact⟨es,rfl,h8⟩)
  |(obtain⟨z,ks,vs,h7,h8⟩:=hob;rw[h7];exact⟨z,ks,vs,rfl,h8⟩)
  |(obtain⟨ks,vs,ck,cv,h7,h8⟩:=hob;rw[h7];exact⟨ks,vs,ck,cv,rfl,h8⟩)
  |(obtain⟨ks,vs,cur,h7,h8⟩:=hob;rw[h7];exact⟨ks,vs,cur,rfl,h8⟩)
  |(unfold RO at hob;rw[hob];rfl)
theorem Rep.highC(h:Rep Γ ρ st)(hk:Γ.all DG=true){st':St}(hob:∀i,Au≤i→st'.ob i=st.ob i):Rep Γ ρ st':=by
 refine⟨fun i q hq=> ?_,fun id q hq=> ?_⟩
 ·have:=Cb hk (Bi hq);cases this
 ·have hid:Co (.o id)=false:=by simpa[DG]using Cb hk (Bi hq)
  rw[hob id (L0 hid)];exact h.o id q hq
theorem Rep.comb{Θ:TC}{θ:HS Θ}(hΘ:Rep Θ θ st)(h:Rep Γ ρ (WB.low st))(hk:(Γ.all fun e=>Co e.1)=true)(hk':Θ.all DG=true):Rep (Θ++Γ) (Ci Θ θ ρ) st:=by
 refine⟨fun i q hq=> ?_,fun id q hq=> ?_⟩
 ·rcases Dw hq with⟨_,f,hf,e⟩|⟨_,f,hf,e⟩
  ·have:=Cb hk' (Bi hf);cases this
  ·rw[e];exact h.s i _ hf
 ·rcases Dw hq with⟨h1,f,hf,e⟩|⟨h1,f,hf,e⟩
  ·rw[e];have hid:Co (.o id)=false:=by simpa[DG]using Cb hk' (Bi hf)
   have r:=hΘ.o id _ hf;obtain⟨k,f'⟩:=q;cases k<;>try exact r
   obtain⟨cs,e1,hl,hc⟩:=r;refine⟨cs,e1,hl,fun j q' hj hq'=> ?_⟩;rcases Dw hq' with⟨_,f2,hf2,e2⟩|⟨_,f2,hf2,e2⟩
   ·rw[e2];exact hc j _ hj hf2
   ·have:Co (.c id j)=true:=Cb (pr:=fun e=>Co e.1) hk (Bi hf2);have:=TL this;have:=L0 hid;omega
  ·rw[e];have hid:=HV (Cb (pr:=fun e=>Co e.1) hk (Bi hf));have e0:(WB.low st).ob id=st.ob id:=by show(if Au≤id then Ob.none else st.ob id)=_;rw[if_neg (by omega)]
   have r:=h.o id _ hf;rw[e0]at r;obtain⟨k,f'⟩:=q;cases k<;>try exact r
   obtain⟨cs,e1,hl,hc⟩:=r;refine⟨cs,e1,hl,fun j q' hj hq'=> ?_⟩;rcases Dw hq' with⟨_,f2,hf2,e2⟩|⟨_,f2,hf2,e2⟩
   ·have hc':Co (.c id j)=false:=by simpa[DG]using Cb hk' (Bi hf2)
    have:=L0 (N:=id) hc';omega
   ·rw[e2];exact hc j _ hj hf2
end
theorem Sx{X:TP}{E:Env}(hT:TOk X E)(hF:Bo X E){Γ Θ:TC}{ρ:HS Γ}{θ:HS Θ}{st:St}(hr:Rep Γ ρ (low st))(hΘ:Rep Θ θ st)(hh:Θ.all DG=true)(rd:Nat→Ob){l:SL}{o:OpD (Θ++Γ)}(h:efT X Γ Θ l=some o){b:o.B}(hb:o.d.val (Ci Θ θ ρ)=some b):
  ∃st',Bg E rd l st=some st'∧Rep o.Γ' (o.up (Ci Θ θ ρ) b) st':=by
 unfold efT at h;split at h<;>(try cases h;done);split at h<;>(try cases h;done);rename_i hk;exact Py hT hF (Rep.comb hΘ hr hk hh) rd h hb
theorem KZ{X:TP}{E:Env}(hT:TOk X E)(hF:Bo X E){A:Type}{D:List Nat}:∀{ls:List SL} {Γ Θ:TC} {q:Nb A Γ Θ} {ρ:HS Γ} {θ:HS Θ} {st:St} {K:HS q.Γ'→HS q.Θ'→Option A} {r:A},
  GA A X D ls Γ Θ=some q→Rep Γ ρ (low st)→Rep Θ θ st→Θ.all DG=true→q.run ρ θ K=some r→∃st',E1 E.named D ls st=some st'∧∃ρ' θ',Rep q.Γ' ρ' (low st')∧Rep q.Θ' θ' st'∧q.Θ'.all DG=true∧K ρ' θ'=some r
 | [],Γ,Θ,q,ρ,θ,st,K,r,h,hr,hΘ,hh,hk=>by
  simp only[GA,Ac]at h;subst h;exact⟨st,rfl,ρ,θ,hr,hΘ,hh,hk⟩
 |l::ls,Γ,Θ,q,ρ,θ,st,K,r,h,hr,hΘ,hh,hk=>by
  simp only[GA]at h;split at h
  ·rename_i o ho;split at h<;>(try cases h;done);rename_i g f hg hf;split at h<;>(try cases h;done);rename_i p hp;cases h;have hk':o.d.app (Ci Θ θ ρ) (fun b=>p.run (g (o.up (Ci Θ θ ρ) b)) (f (o.up (Ci Θ θ ρ) b)) K)=some r:=hk;obtain⟨b,h1,h2⟩:=Dyn.app_some hk';obtain⟨st1,h3,h4⟩:=Sx hT.named hF.named hr hΘ hh (A9 (some (hid l.op D)) (BP st.ob)) ho h1
   have hlow:((Ds EQ o.Γ' []).all fun e=>Co e.1)=true:=by
    have:=F9 (f:=EQ) (Γ:=o.Γ') (seen:= []);rw[List.all_eq_true]at this⊢;intro e he;exact(Jt (p:=e.1) (k:=e.2) (this e he)).1
   obtain⟨st2,h5,h6⟩:=KZ hT hF hp (Rep.low (CL hg h4) hlow) (CL hf h4) F9 h2;exact⟨st2,by simp only[E1,CB,h3,Option.bind_some];exact h5,h6⟩
  ·split at h<;>(try cases h;done);rename_i hl;split at h<;>(try cases h;done);rename_i o ho;split at h<;>(try cases h;done);rename_i p hp;cases h;have hk':o.d.app ρ (fun b=>p.run (o.up ρ b) θ K)=some r:=hk;obtain⟨b,h1,h2⟩:=Dyn.app_some hk'
   obtain⟨t,h3,h4⟩:=Pz hT.named.pois hr (rd:=A9 (some (hid l.op D)) (BP st.ob)) (fun id hid'=>by
    show(if(hid l.op D).contains id then Ob.none else BP st.ob id)=_
    rw[hid'];rfl) ho h1
   obtain⟨k1,k2⟩:=UA hl h3;have hΘ':Rep Θ θ (merge t st):=hΘ.highC hh fun i hi=>by show(if Au≤i then st.ob i else t.ob i)=_;rw[if_pos hi]
   rw[←k2]at h4;obtain⟨st2,h5,h6⟩:=KZ hT hF hp h4 hΘ' hh h2;exact⟨st2,by simp only[E1,k1,Option.bind_some];exact h5,h6⟩
theorem Sj{X:TP}{E:Env}(hT:TOk X E)(hF:Bo X E){A:Type}{D:List Nat}{ls:List SL}{Γ:TC}{q:LsD A Γ}{ρ:HS Γ}{st:St}{K:HS q.Γ'→Option A}{r:A}(h:La A X D ls Γ=some q)(hr:Rep Γ ρ st)(hk:q.run ρ K=some r):
  ∃st',GD E D ls st=some st'∧∃ρ',Rep q.Γ' ρ' st'∧K ρ'=some r:=by
 unfold La at h;split at h<;>(try cases h;done);rename_i g f hg hf;split at h<;>(try cases h;done);rename_i p hp;split at h<;>(try cases h;done);rename_i hall;cases h;have hr0:=hr.kill D;have h1:Rep _ (g (Bh D ρ)) (low (C6 (WB.kill D st))):=Rep.lowC (CL hg hr0) F9;have h2:Rep _ (f (Bh D ρ)) (C6 (WB.kill D st)):=Rep.highC (CL hf hr0) F9 fun i hi=>by show(if Au≤i then _ else _)=_;rw[if_pos hi]
 obtain⟨st',h3,ρ',θ',h4,h5,h6,h7⟩:=KZ hT hF hp h1 h2 F9 hk;exact⟨st',h3,_,Rep.comb h5 h4 hall h6,h7⟩
theorem PK{le:CX}{E:Env}{D:List Nat}{ls:List SL}{Q:Ex→St→Prop}{st st':St}(h:BN E true D ls st=some st'∨GD E D ls st=some st')(hq:Q .normal st'):Ch le E (.regE D ls) Q st:=⟨st,Aw.refl st,st',h,hq⟩
theorem NO{X:TP}{E:Env}(hT:TOk X E)(hF:Bo X E){A:Type}{e:Bool}{D:List Nat}{ls:List SL}{Γ:TC}{q:LsD A Γ}{ρ:HS Γ}{st:St}{K:HS q.Γ'→Option A}{r:A}(h:Lc A X e D ls Γ=some q)(hr:Rep Γ ρ st)(hk:q.run ρ K=some r):
  ∃st',(BN E true D ls st=some st'∨GD E D ls st=some st')∧∃ρ',Rep q.Γ' ρ' st'∧K ρ'=some r:=by
 cases e with
 |true=>
  obtain⟨st',h1,h2⟩:=Sj hT hF h hr hk;exact⟨st',.inr h1,h2⟩
 |false=>
  obtain⟨st',h1,h2⟩:=Lb hT hF h hr hk;exact⟨st',.inl h1,h2⟩
theorem Sl(hT:TOk X E)(hF:Bo X E){A:Type}{Q:Ex→St→Prop}:∀{c:AC} {Γ:TC} {q:LsD A Γ} {ρ:HS Γ} {st:St} {K:HS q.Γ'→Option A} {r:A},Ft A X c Γ=some q→Rep Γ ρ st→q.run ρ K=some r→
  (∀st' ρ',Rep q.Γ' ρ' st'→K ρ'=some r→Q .normal st')→Ch (Dk X.Θ) E (erase c) Q st:=by
 intro c
 induction c generalizing Q with
 |skip=>
  intro Γ q ρ st K r h hr hk hQ;simp only[Ft,Ac]at h;subst h;exact⟨st,Aw.refl st,hQ _ _ hr hk⟩
 |reg draw D ls=>
  intro Γ q ρ st K r h hr hk hQ;obtain⟨st',h1,ρ',h2,h3⟩:=Lb hT hF (K:=K) h hr hk;exact PJ h1 (hQ _ _ h2 h3)
 |rg D gs=>
  intro Γ q ρ st K r h hr hk hQ;exact NN hT hF (K:=K) h hr hk hQ
 |regE e D ls=>
  intro Γ q ρ st K r h hr hk hQ;obtain⟨st',h1,ρ',h2,h3⟩:=NO hT hF (K:=K) h hr hk;exact PK h1 (hQ _ _ h2 h3)
 |sq a b iha ihb=>
  intro Γ q ρ st K r h hr hk hQ;simp only[Ft]at h;split at h<;>(try cases h;done);rename_i p hp;split at h<;>(try cases h;done);rename_i p' hp';cases h;exact⟨st,Aw.refl st,iha hp hr hk fun st' ρ' h1 h2=>ihb hp' h1 h2 hQ⟩
 |gh g c ih=>
  intro Γ q ρ st K r h hr hk hQ;simp only[Ft]at h;split at h<;>(try cases h;done);rename_i p hp;split at h<;>(try cases h;done);rename_i p' hp';cases h;obtain⟨st',h1,h2⟩:=Jb hp hr;exact PL h1 (ih hp' h2 hk hQ)
 |_=>intro Γ q ρ st K r h;cases h
theorem M1{Γ:TC}{ρ:HS Γ}{st:St}(hr:Rep Γ ρ st){x:Bd}{q:Σ t:Ty,Dyn (HS Γ) (D t)}{y:D q.1}(h:Hb X Γ x=some q)(hy:q.2.val ρ=some y):∃c,DR st x=some c∧Can q.1 y [c]:=by
 cases x with
 |tmp t=>
  simp only[Hb]at h;split at h<;>(try cases h;done);rename_i p hp;cases h;obtain⟨c,h1,h2,_⟩:=JP (msk:= []) (rd:=st.ob) (G:=X.G) (fl:=p.1) (q:=p.2) hp hr (fun _ _=>rfl) hy;exact⟨c,h1,h2⟩
 |cell a sz=>
  simp only[Hb]at h;split at h<;>(try cases h;done);rename_i k hk;split at h<;>(try cases h;done)
  ·rename_i t d hd;cases h;obtain⟨sv,h1,c,h2,h3⟩:=LO (msk:= []) (rd:=st.ob) (sv:=deref st.ob (so X.G st.fr (.t a))) hr (fun _ _=>rfl) hd hy (fun x hx=>IK hr (fun _ _=>rfl) (fun x hx=>AJ hk hr hx) hx (LN hd));subst h2;refine⟨c, ?_,h3⟩;have h1':AT st.ob sz (deref st.ob (st.fr a))=some (.c c):=h1;simp[DR,h1',BS]
  ·rename_i id f hd;split at h<;>(try cases h;done);rename_i e size t xs ho;cases h;cases hy;obtain⟨sv,h1,h2⟩:=LO (msk:= []) (rd:=st.ob) (sv:=deref st.ob (so X.G st.fr (.t a))) (y:=f ρ) hr (fun _ _=>rfl) hd rfl (fun x hx=>IK hr (fun _ _=>rfl) (fun x hx=>AJ hk hr hx) hx (LN hd));have h2':sv=.osl id:=h2;subst h2';obtain⟨es,h3,h4⟩:=hr.o id _ ho;refine⟨.sl none es, ?_,by unfold Can;exact⟨_,_,rfl,h4⟩⟩;have h1':AT st.ob sz (deref st.ob (st.fr a))=some (.osl id):=h1;simp[DR,h1',BS,h3]
theorem Mz{Γ:TC}{ρ:HS Γ}{st:St}(hr:Rep Γ ρ st):∀{xs:List Bd} {q:Σ t:Ty,Dyn (HS Γ) (D t)} {y:D q.1},Ha X Γ xs=some q→q.2.val ρ=some y→∃l,Ar (DR st) xs=some l∧Can q.1 y l
 | [],q,y,h,hy=>by
  simp only[Ha,Ac]at h;subst h;exact⟨[],rfl,by unfold Can;rfl⟩
 | [x],q,y,h,hy=>by
  simp only[Ha]at h;split at h<;>(try cases h;done);rename_i p hp;cases h;obtain⟨c,h1,h2⟩:=M1 hr hp hy;exact⟨[c],by simp[Ar,h1],by unfold Can;exact⟨c,rfl,h2⟩⟩
 |x::z::xs,q,y,h,hy=>by
  simp only[Ha]at h;split at h<;>(try cases h;done);rename_i p p' hp hp';cases h;obtain⟨g1,g2⟩:=Dyn.both_val hy;obtain⟨c,h1,h2⟩:=M1 hr hp g1;obtain⟨l,h3,h4⟩:=Mz hr hp' g2;refine⟨c::l, ?_,by unfold Can;exact⟨c,l,rfl,h2,h4⟩⟩;have e:Ar (DR st) (x::z::xs)=(DR st x).bind fun b=>(Ar (DR st) (z::xs)).map fun bs=>b::bs:=rfl;rw[e,h1,h3];rfl
theorem UL{Γ:TC}{ρ:HS Γ}{st:St}(hr:Rep Γ ρ st){xs:List Bd}{q:Σ t:Ty,Dyn (HS Γ) (D t)}{y:D q.1}(h:JS X Γ xs=some q)(hy:q.2.val ρ=some y):∃c,Db st xs=some c∧Can q.1 y [c]:=by
 match xs,h with
 | [x],h=>
  obtain⟨c,h1,h2⟩:=M1 hr h hy;exact⟨c,by simp[Db,Ar,h1,Gk],h2⟩
 | [],h=>
  simp only[JS]at h;split at h<;>(try cases h;done);rename_i p hp;cases h;obtain⟨l,h1,h2⟩:=Mz hr hp hy;simp only[Ar,Ac]at h1;subst h1;exact⟨.tup [],rfl,by unfold Can;exact⟨[],rfl,h2⟩⟩
 |x::z::xs,h=>
  simp only[JS]at h;split at h<;>(try cases h;done);rename_i p hp;cases h;obtain⟨l,h1,h2⟩:=Mz hr hp hy;have hlen:=Dv h1;refine⟨.tup l, ?_,by unfold Can;exact⟨l,rfl,h2⟩⟩;simp only[Db,h1,Option.map_some]
  match l,hlen with
  |c::d::l,_=>rfl
theorem OH{R A B:Type}{e:Nat×TC}{ys:XC}{rt:Bool}{f:D8 R (e::ys) rt→B}{ρ:HS e.2}{b:B}{ke:KE A (e::ys)}{kr:R→Option A}{r:A}(h:(keX (e::ys) rt f).1 ρ=some b)
  (hk:∀o,f o=b→elX (e::ys) rt ke kr o=some r):ke.1 ρ=some r:=by
 cases ys with
 |nil=>
  cases rt with
  |false=>exact hk ρ (Option.some.inj h)
  |true=>exact hk (.inl ρ) (Option.some.inj h)
 |cons e' ys=>exact hk (.inl ρ) (Option.some.inj h)
theorem HF{R A B:Type}:∀{ys:XC} {rt:Bool} {f:D8 R ys rt→B} {i:Nat} {Γi:TC} {s:KE B ys→HS Γi→Option B} {ρ:HS Γi} {b:B} {ke:KE A ys} {kr:R→Option A} {r:A},Di B ys i=some ⟨Γi,s⟩→s (keX ys rt f) ρ=some b→
  (∀o,f o=b→elX ys rt ke kr o=some r)→∃s',Di A ys i=some ⟨Γi,s'⟩∧s' ke ρ=some r
 | [],rt,f,i,Γi,s,ρ,b,ke,kr,r,h,_,_=>by cases h
 |e::ys,rt,f,i,Γi,s,ρ,b,ke,kr,r,h,hs,hk=>by
  simp only[Di]at h⊢;split at h
  ·rename_i hi;cases h;rw[if_pos hi];exact⟨_,rfl,OH hs hk⟩
  ·rename_i hi;rw[if_neg hi];split at h<;>(try cases h;done);rename_i q hq;cases h
   cases ys with
   |nil=>cases hq
   |cons e' ys=>
    obtain⟨s',h1,h2⟩:=HF (A:=A) (f:=fun o=>f (.inr o)) (ke:=ke.2) (kr:=kr) (r:=r) hq hs (fun o ho=>hk (.inr o) ho);rw[h1];exact⟨_,rfl,h2⟩
theorem Tw{R A B:Type}{e:Nat×TC}{ys:XC}{rt:Bool}{f:D8 R (e::ys) rt→B}{i:Nat}{Γi:TC}{s:KE B ys→HS Γi→Option B}{ρ:HS Γi}{b:B}{ke:KE A (e::ys)}{kr:R→Option A}{r:A}(h:Di B ys i=some ⟨Γi,s⟩)(hs:s (keX (e::ys) rt f).2 ρ=some b)
  (hk:∀o,f o=b→elX (e::ys) rt ke kr o=some r):∃s',Di A ys i=some ⟨Γi,s'⟩∧s' ke.2 ρ=some r:=by
 cases ys with
 |nil=>cases h
 |cons e' ys=>exact HF (A:=A) (f:=fun o=>f (.inr o)) (ke:=ke.2) (kr:=kr) (r:=r) h hs (fun o ho=>hk (.inr o) ho)
theorem JT{R A B:Type}:∀{ys:XC} {rt:Bool} {f:D8 R ys rt→B} {v:R} {b:B} {ke:KE A ys} {kr:R→Option A} {r:A},rtX ys rt f v=some b→(∀o,f o=b→elX ys rt ke kr o=some r)→kr v=some r
 | [],true,f,v,b,ke,kr,r,h,hk=>hk v (Option.some.inj h)
 | [],false,f,v,b,ke,kr,r,h,hk=>by cases h
 | [e],false,f,v,b,ke,kr,r,h,hk=>by cases h
 | [e],true,f,v,b,ke,kr,r,h,hk=>hk (.inr v) (Option.some.inj h)
 |e::e'::ys,rt,f,v,b,ke,kr,r,h,hk=>JT (f:=fun o=>f (.inr o)) (ke:=ke.2) h (fun o ho=>hk (.inr o) ho)
theorem Iq{A:Type}{xs:XC}:∀{ys:XC} {g:KE A xs→KE A ys} {i:Nat} {Γi:TC} {s:KE A ys→HS Γi→Option A} {ke:KE A xs} {ρ:HS Γi} {r:A},Hd A xs ys=some g→Di A ys i=some ⟨Γi,s⟩→s (g ke) ρ=some r→∃s',Di A xs i=some ⟨Γi,s'⟩∧s' ke ρ=some r
 | [],g,i,Γi,s,ke,ρ,r,_,h,_=>by cases h
 |e::ys,g,i,Γi,s,ke,ρ,r,hg,h,hs=>by
  simp only[Hd]at hg;split at hg<;>(try cases hg;done);rename_i q g' hq hg';split at hg<;>(try cases hg;done);rename_i he;cases hg;obtain⟨Γq,f⟩:=q;simp only at he;subst he;simp only[Di]at h;split at h
  ·rename_i hi;subst hi;cases h;exact⟨f,hq,hs⟩
  ·split at h<;>(try cases h;done);rename_i q' hq';cases h;exact Iq hg' hq' hs
def Er(st:St)(rs:List Bd):(Rt:Ty)→D Rt→Prop
 | .nw e size t,ys=>∃es,Lo rs (.arr e size es) .ret st∧As (fun x c=>Can t x [c]) ys es
 |Rt,v=>∃c,Db st rs=some c∧Can Rt v [c]
theorem Er.val{st:St}{rs:List Bd}{Rt:Ty}{v:D Rt}{c:CV}(h:Db st rs=some c)(hc:Can Rt v [c]):Er st rs Rt v:=by
 cases Rt<;>first|exact⟨c,h,hc⟩|(unfold Can at hc;exact hc.elim)
theorem Er.of{st:St}{rs:List Bd}{Rt:Ty}{v:D Rt}(hv:Rt.val=true)(h:Er st rs Rt v):∃c,Db st rs=some c∧Can Rt v [c]:=by
 cases Rt<;>first|exact h|cases hv
theorem UM{Γ:TC}{rs:List Bd}{Rt:Ty}{g:HS Γ→D Rt}{ρ:HS Γ}{st:St}(h:M2 Γ rs Rt=some g)(hr:Rep Γ ρ st):Er st rs Rt (g ρ):=by
 unfold M2 at h;split at h<;>(try cases h;done);rename_i i e size t;split at h<;>(try cases h;done)
 ·rename_i id f hg;split at h<;>(try cases h;done);rename_i e' size' t' xs ho;split at h<;>(try cases h;done);rename_i ht;split at h<;>(try cases h;done);rename_i he;subst ht;obtain⟨rfl,rfl⟩:=he;cases h;have h1:st.fr i=.osl id:=hr.s i _ hg;obtain⟨es,h2,h3⟩:=hr.o id _ ho;exact⟨es,⟨i,rfl,.inl ⟨id,.inl h1,h2,rfl⟩⟩,h3⟩
 ·rename_i f hg;cases h;obtain⟨c,e1,e2⟩:=hr.s i _ hg;unfold Can at e2;cases e2;exact⟨[],⟨i,rfl,.inr ⟨e1,_,_,rfl⟩⟩,rfl⟩
theorem PN{rs:List Bd}{Rt:Ty}{Γ:TC}{q:RdD Γ (D Rt)}{ρ:HS Γ}{st:St}(h:rdT X rs Rt Γ=some q)(hr:Rep Γ ρ st){v:q.B}(hv:q.d.val ρ=some v):Er st rs Rt (q.up ρ v):=by
 unfold rdT at h;split at h
 ·rename_i g hg;cases h;exact UM hg hr
 ·split at h<;>(try cases h;done);rename_i q' hq;split at h<;>(try cases h;done);rename_i g hg;cases h;obtain⟨c,h3,h4⟩:=UL hr hq hv;exact Er.val h3 (BY _ _ hg h4)
def Ro{A:Type}{xs:XC}{Γn:TC}{R:Type}(RP:St→R→Prop)(k:DKn A xs Γn R)(r:A):Ex→St→Prop
 | .normal,st=>∃ρ,Rep Γn ρ st∧k.n ρ=some r
 | .exit i,st=>∃Γi s ρ,Di A xs i=some ⟨Γi,s⟩∧Rep Γi ρ st∧s k.e ρ=some r
 | .ret,st=>∃v,RP st v∧k.r v=some r
theorem PC{α:Type}:∀{l:List α} {j:Nat} {x:α},l[j]? =some x→(x::l.eraseIdx j).Perm l
 | [],j,x,h=>by simp at h
 |y::l,0,x,h=>by
  simp only[List.getElem?_cons_zero,Ac]at h;subst h;exact List.Perm.refl _
 |y::l,j+1,x,h=>by
  simp only[List.getElem?_cons_succ]at h;exact(List.Perm.swap y x _).trans (List.Perm.cons y (PC h))
theorem As.erase{α β:Type}{R:α→β→Prop}:∀(j:Nat) {as:List α} {bs:List β},As R as bs→As R (as.eraseIdx j) (bs.eraseIdx j)
 |_,[],bs,h=>by unfold As at h;subst h;exact As.nil
 |0,a::as,bs,h=>by obtain⟨b,bs,rfl,h1,h2⟩:=h;exact h2
 |j+1,a::as,bs,h=>by obtain⟨b,bs,rfl,h1,h2⟩:=h;exact As.cons h1 (As.erase j h2)
theorem NP(hT:TOk X E)(hF:Bo X E){R:Type}{rd:(Γ:TC)→Option (RdD Γ R)}{RP:St→R→Prop}(hrd:∀{Γ:TC} {q:RdD Γ R} {ρ:HS Γ} {st:St},rd Γ=some q→Rep Γ ρ st→∀{v:q.B},q.d.val ρ=some v→RP st (q.up ρ v)):∀(c:AC) {A:Type} {xs:XC} {Γn Γ:TC} {d:HS Γ→DKn A xs Γn R→Option A} {ρ:HS Γ} {k:DKn A xs Γn R} {st:St} {r:A},
  den X R rd c A xs Γn Γ=some d→Rep Γ ρ st→d ρ k=some r→Ch (Dk X.Θ) E (erase c) (Ro RP k r) st:=by
 intro c
 induction c with
 |skip=>
  intro A xs Γn Γ d ρ k st r h hr hd;simp only[den]at h;split at h<;>(try cases h;done);rename_i f hf;cases h;exact⟨st,Aw.refl st,_,CL hf hr,hd⟩
 |reg draw D ls=>
  intro A xs Γn Γ d ρ k st r h hr hd;simp only[den]at h;split at h<;>(try cases h;done);rename_i q hq;split at h<;>(try cases h;done);rename_i f hf;cases h;obtain⟨st',h1,ρ',h2,h3⟩:=Lb hT hF hq hr hd;exact PJ h1 ⟨_,CL hf h2,h3⟩
 |rg D gs=>
  intro A xs Γn Γ d ρ k st r h hr hd;simp only[den]at h;split at h<;>(try cases h;done);rename_i q hq;split at h<;>(try cases h;done);rename_i f hf;cases h;exact NN hT hF hq hr hd fun st' ρ' h2 h3=>⟨_,CL hf h2,h3⟩
 |rgt draw D ls hh=>
  intro A xs Γn Γ d ρ k st r h hr hd;simp only[den]at h;split at h<;>(try cases h;done);rename_i q hq;cases h;exact Sk hT hF hq hr hd fun st' ρ' h2 h3=>⟨_,h2,h3⟩
 |regE e D ls=>
  intro A xs Γn Γ d ρ k st r h hr hd;simp only[den]at h;split at h<;>(try cases h;done);rename_i q hq;split at h<;>(try cases h;done);rename_i f hf;cases h;obtain⟨st',h1,ρ',h2,h3⟩:=NO hT hF hq hr hd;exact PK h1 ⟨_,CL hf h2,h3⟩
 |sq a b iha ihb=>
  intro A xs Γn Γ d ρ k st r h hr hd;simp only[den]at h;split at h<;>(try cases h;done);rename_i q hq;split at h<;>(try cases h;done);rename_i db hdb;cases h;exact⟨st,Aw.refl st,Sl hT hF hq hr hd fun st' ρ' h1 h2=>ihb hdb h1 h2⟩
 |seq Γm a b iha ihb=>
  intro A xs Γn Γ d ρ k st r h hr hd;simp only[den]at h;split at h<;>(try cases h;done);rename_i da db hda hdb;cases h;refine⟨st,Aw.refl st,Cs _ (fun e s hp=> ?_) (iha hda hr hd)⟩
  cases e with
  |normal=>
   obtain⟨ρ',h1,h2⟩:=hp;exact ihb hdb h1 h2
  |exit i=>exact hp
  |ret=>exact hp
 |join Γm ex rt a b iha ihb=>
  intro A xs Γn Γ d ρ k st r h hr hd;simp only[den]at h;split at h<;>(try cases h;done);rename_i ys hys;split at h<;>(try cases h;done);rename_i g da db hg hda hdb;cases h;obtain⟨o,h1,h2⟩:=Ab.1 hd;refine⟨st,Aw.refl st,Cs _ (fun e s hp=> ?_) (iha hda hr h1)⟩;have hk:∀o',o'=o→elX ((0,Γm)::ys) rt (fun ρm=>db ρm k,g k.e) k.r o'=some r:=fun o' ho=>ho▸h2
  cases e with
  |normal=>
   obtain⟨ρ',h3,h4⟩:=hp;exact ihb hdb h3 (OH (ke:=(fun ρm=>db ρm k,g k.e)) h4 hk)
  |exit i=>
   obtain⟨Γi,s',ρ',h3,h4,h5⟩:=hp;obtain⟨s2,h6,h7⟩:=Tw (A:=A) (ke:=(fun ρm=>db ρm k,g k.e)) h3 h5 hk;obtain⟨s3,h8,h9⟩:=Iq hg h6 h7;exact⟨Γi,s3,ρ',h8,h4,h9⟩
  |ret=>
   obtain⟨v,h3,h5⟩:=hp;exact⟨v,h3,JT (ke:=(fun ρm=>db ρm k,g k.e)) h5 hk⟩
 |cond c x y ihx ihy=>
  intro A xs Γn Γ d ρ k st r h hr hd;simp only[den]at h;split at h<;>(try cases h;done);rename_i e dx dy he hdx hdy;cases h;obtain⟨b,h1,h2⟩:=Dyn.app_some hd;obtain⟨cv,e1,e2⟩:=A3 (G:=X.G) he hr h1;unfold Can at e2;cases e2;refine⟨st,Aw.refl st,b,by rw[hT.G];exact e1,fun hb=> ?_,fun hb=> ?_⟩
  ·rw[if_pos hb]at h2;exact ihx hdx hr h2
  ·rw[if_neg (by simp[hb])]at h2;exact ihy hdy hr h2
 |block id b ih=>
  intro A xs Γn Γ d ρ k st r h hr hd;simp only[den]at h;split at h<;>(try cases h;done);rename_i db hdb;cases h;refine⟨st,Aw.refl st,Cs _ (fun e s hp=> ?_) (ih hdb hr hd)⟩
  cases e with
  |normal=>exact hp
  |exit i=>
   obtain⟨Γi,s',ρ',h3,h4,h5⟩:=hp;simp only[Di]at h3;by_cases hi:i=id
   ·subst hi;simp only[if_true,Ac,Sigma.mk.injEq]at h3;obtain⟨rfl,h3⟩:=h3;cases eq_of_heq h3;simp only[if_true];exact⟨ρ',h4,h5⟩
   ·simp only[if_neg hi];rw[if_neg (fun e=>hi e.symm)]at h3;split at h3<;>(try cases h3;done);rename_i q hq;cases h3;exact⟨_,_,ρ',hq,h4,h5⟩
  |ret=>exact hp
 |loop Γh ex rt b ih=>
  intro A xs Γn Γ d ρ k st r h hr hd;simp only[den]at h;split at h<;>(try cases h;done);rename_i ys hys;split at h<;>(try cases h;done);rename_i g f db hg hf hdb;cases h;obtain⟨o,h1,h2⟩:=Ab.1 hd;obtain⟨n,hn⟩:=HE.1 h1;refine⟨st,Aw.refl st,fun m s=>∃ρ,Rep Γh ρ s∧Dx (fun ρ=>db ρ ⟨fun ρ'=>some (.inl ρ'),keX ys rt Sum.inr,rtX ys rt Sum.inr⟩) m ρ=some o,⟨n,f ρ,CL hf hr,hn⟩,fun m s hR=> ?_⟩;obtain⟨ρ1,hr1,hi⟩:=hR
  cases m with
  |zero=>cases hi
  |succ m=>
   simp only[Dx]at hi;obtain⟨w,h3,h4⟩:=Ab.1 hi;refine Cs _ (fun e s' hp=> ?_) (ih hdb hr1 h3)
   have hk:∀o',Sum.inr o'=w→elX ys rt (g k.e) k.r o'=some r:=fun o' ho=>by
    subst ho;simp only[Ac]at h4;rw[h4];exact h2
   cases e with
   |normal=>
    obtain⟨ρ',h5,h6⟩:=hp;cases h6;exact⟨m,by omega,ρ',h5,h4⟩
   |exit i=>
    obtain⟨Γi,s2,ρ',h5,h6,h7⟩:=hp;obtain⟨s3,h8,h9⟩:=HF (A:=A) (ke:=g k.e) h5 h7 hk;obtain⟨s4,h10,h11⟩:=Iq hg h8 h9;exact⟨Γi,s4,ρ',h10,h6,h11⟩
   |ret=>
    obtain⟨v,h5,h7⟩:=hp;exact⟨v,h5,JT (ke:=g k.e) h7 hk⟩
 |mloop Γh ex rt it d0 ok i b ih=>
  intro A xs Γn Γ d ρ k st r h hr hd;simp only[den]at h;split at h<;>(try cases h;done);rename_i id fi kt vt m hgi hgo;split at h<;>(try cases h;done);rename_i ys hcond hys;split at h<;>(try cases h;done);rename_i g f fb q db hg hf hfb hq hdb;split at h<;>(try cases h;done);rename_i c hc;cases h;simp only[Af]at hcond;obtain⟨hid,hlt,hno⟩:=hcond;have hid:=Nat.eq_of_beq_eq_true hid;subst hid;have hlt:id<Au:=Ah hlt;have hall:=PB.1 hd;have hit:st.fr id=.iter id:=hr.s id _ hgi;obtain⟨ks,vs,cur,hob,hks,hvs⟩:=hr.o id _ hgo;refine⟨st,Aw.refl st,fun n s=>∃ρ rem ks vs cur,rem.length=n∧Rep Γh ρ s∧s.fr id=.iter id∧s.ob id=.miter ks vs cur∧As (fun x c=>Can kt x.1 [c]) rem ks∧As (fun x c=>Can vt x.2 [c]) rem vs∧∀π:List (D kt×D vt),π.Perm rem→(ER (fun x ρ=>db (true,(),(),x,ρ) ⟨fun ρ'=>some (.inl (fb ρ')),keX ys rt Sum.inr,rtX ys rt Sum.inr⟩) (fun ρ=>q.2 (keX ys rt Sum.inr) (c (false,(),ρ))) π ρ).bind (elX ys rt (g k.e) k.r)=some r,⟨_,f ρ,m ρ,ks,vs,cur,rfl,CL hf hr,hit,hob,hks,hvs,hall⟩,fun n s hR=> ?_⟩;obtain⟨ρ1,rem,ks,vs,cur,hn,hr1,hit,hob,hks,hvs,hall⟩:=hR;refine⟨s,Aw.refl s,s,Aw.refl s,id,ks,vs,cur,hit,hob,fun hnil=> ?_,fun j ck cv hkj hvj=> ?_⟩
  ·subst hnil
   have hrem:rem= []:=by
    have:=hks.length;exact List.eq_nil_of_length_eq_zero this.symm
   subst hrem;have h1:=hall [] (List.Perm.refl _);simp only[ER]at h1;obtain⟨o,h2,h3⟩:=Ab.1 h1;obtain⟨w,h4,h5⟩:=Ab.1 h2
   have hk:∀o',Sum.inr o'=w→elX ys rt (g k.e) k.r o'=some r:=fun o' ho=>by
    subst ho;simp only[Ac]at h5;rw[h5];exact h3
   have hr2:Rep ((.s ok,.v .bool)::(.s d0,.undef)::Γh) (false,(),ρ1) {s with fr:=upd (upd s.fr d0 (.c (.tup [.bool false]))) ok (.c (.bool false))}:=by
    have:=Rep.set (d:=ok) (k:=.v .bool) (x:=false) (sv:=.c (.bool false)) (Rep.set (d:=d0) (k:=.undef) (x:=()) (sv:=.c (.tup [.bool false])) hr1 trivial) ⟨_,rfl,by unfold Can;rfl⟩;exact this
   refine⟨_,Aw.refl _,_,Aw.refl _,false,by simp[so,B5],(fun hb=>by cases hb),fun _=>⟨_,Aw.refl _, ?_⟩⟩;obtain⟨s3,h8,h9⟩:=HF (A:=A) (ke:=g k.e) hq h4 hk;obtain⟨s4,h10,h11⟩:=Iq hg h8 h9;exact⟨q.1,s4,_,h10,CL hc hr2,h11⟩
  ·obtain⟨x,hx,hcx⟩:=hks.getB hkj;obtain⟨x',hx',hcx'⟩:=hvs.getB hvj;rw[hx]at hx';cases hx';have hperm:(x::rem.eraseIdx j).Perm rem:=PC hx
   have hr2:Rep ((.s ok,.v .bool)::(.s d0,.undef)::(.s id,.iter id)::(.o id,.mcur kt vt)::Γh) (true,(),(),x,ρ1) {fr:=upd (upd s.fr d0 (.c (.tup [.bool true,ck,cv]))) ok (.c (.bool true)),ob:=upd s.ob id (.miter (ks.eraseIdx j) (vs.eraseIdx j) (some (ck,cv)))}:=by
    have h1:=Rep.newObj (k:=.iter id) (ko:=.mcur kt vt) (x:=()) (y:=x) (v:=.iter id) (o:=.miter (ks.eraseIdx j) (vs.eraseIdx j) (some (ck,cv))) hr1 (C5.refl id) ⟨_,_,_,_,rfl,hcx,hcx'⟩ rfl
    have e:upd s.fr id (.iter id)=s.fr:=by
     funext t;rw[B5];split
     ·rename_i ht;rw[ht,hit]
     ·rfl
    rw[e]at h1;have:=Rep.set (d:=ok) (k:=.v .bool) (x:=true) (sv:=.c (.bool true)) (Rep.set (d:=d0) (k:=.undef) (x:=()) (sv:=.c (.tup [.bool true,ck,cv])) h1 trivial) ⟨_,rfl,by unfold Can;rfl⟩;exact this
   have h1:=hall _ hperm;simp only[ER]at h1;obtain⟨o,h2,h3⟩:=Ab.1 h1;obtain⟨w,h4,h5⟩:=Ab.1 h2;refine⟨_,Aw.refl _,_,Aw.refl _,true,by simp[so,B5],(fun _=>⟨_,Aw.refl _, ?_⟩),fun hb=>by cases hb⟩;refine Cs _ (fun e s' hp=> ?_) (Gn hT.hi hlt _ hno (ih hdb hr2 h4));obtain⟨hp,hsame⟩:=hp
   have hk:∀o',Sum.inr o'=w→elX ys rt (g k.e) k.r o'=some r:=fun o' ho=>by
    subst ho;simp only[Ac]at h5;rw[h5];exact h3
   cases e with
   |normal=>
    obtain⟨ρb,h6,h7⟩:=hp;cases h7;obtain⟨ks2,vs2,ck2,cv2,hob2,_⟩:=h6.o id ⟨.mcur kt vt,fun ρ=>ρ.2.1⟩ (by simp[get]);have hob3:=hsame (by rw[hob2];rfl);refine⟨rem.length-1, ?_,fb ρb,rem.eraseIdx j,ks.eraseIdx j,vs.eraseIdx j,some (ck,cv), ?_,CL hfb h6,h6.s id _ (Cr ..), ?_, ?_, ?_,fun π hπ=> ?_⟩
    ·rw[←hn];have:j<rem.length:=(Ae.1 hx).1;omega
    ·rw[List.length_eraseIdx,if_pos (Ae.1 hx).1]
    ·rw[hob3];simp[B5]
    ·exact As.erase j hks
    ·exact As.erase j hvs
    ·have hp2:=hall (x::π) ((List.Perm.cons x hπ).trans hperm);simp only[ER,h4,Option.bind_some]at hp2;exact hp2
   |exit i=>
    obtain⟨Γi,s2,ρ',h6,h7,h8⟩:=hp;obtain⟨s3,h8,h9⟩:=HF (A:=A) (ke:=g k.e) h6 h8 hk;obtain⟨s4,h10,h11⟩:=Iq hg h8 h9;exact⟨Γi,s4,ρ',h10,h7,h11⟩
   |ret=>
    obtain⟨v,h6,h7⟩:=hp;exact⟨v,h6,JT (ke:=g k.e) h7 hk⟩
 |exit i=>
  intro A xs Γn Γ d ρ k st r h hr hd;simp only[den]at h;split at h<;>(try cases h;done);rename_i q hq;split at h<;>(try cases h;done);rename_i f hf;cases h;exact⟨st,Aw.refl st,q.1,q.2,_,hq,CL hf hr,hd⟩
 |ret=>
  intro A xs Γn Γ d ρ k st r h hr hd;simp only[den]at h;split at h<;>(try cases h;done);rename_i q hq;cases h;obtain⟨v,h1,h2⟩:=Dyn.app_some hd;exact⟨st,Aw.refl st,_,hrd hq hr h1,h2⟩
 |raw c=>
  intro A xs Γn Γ d ρ k st r h hr hd;simp only[den,Ac]at h;subst h;cases hd
 |gh g c ih=>
  intro A xs Γn Γ d ρ k st r h hr hd;simp only[den]at h;split at h<;>(try cases h;done);rename_i p hp;split at h<;>(try cases h;done);rename_i dc hdc;cases h;obtain⟨st',h1,h2⟩:=Jb hp hr;exact PL h1 (ih hdc h2 hd)
end
structure AF where
 n:Nat
 code:AC
 res:List Bd
@[reducible] def Gt:Ty→Nat→TC
 | .one t,i=> [(.s i,.v t)]
 | .cons t r,i=>(.s i,.v t)::Gt r (i+1)
 |_,_=> []
def Iu:(a:Ty)→(i:Nat)→D a→HS (Gt a i)
 | .one _,_,x=>(x,())
 | .cons _ r,i,x=>(x.1,Iu r (i+1) x.2)
 | .int _,_,_| .bool,_,_| .str,_,_| .err,_,_| .clo _ _,_,_| .falt _ _ _,_,_| .nfn,_,_| .nam _,_,_| .bptr _,_,_| .nilp,_,_| .pt _,_,_| .nw _ _ _,_,_| .nsl,_,_| .nmap,_,_| .agg _,_,_| .tup _,_,_| .sl _,_,_| .map _ _,_,_| .nil,_,_=>()
theorem MC:∀{a:Ty} {i:Nat} {x:D a} {l:List CV} {p:Key} {q:Σ k:EK,HS (Gt a i)→DK k},Can a x l→get (Gt a i) p=some q→∃j c,p=.s (i+j)∧l[j]? =some c∧RS q.1 (q.2 (Iu a i x)) (.c c)
 | .one t,i,x,l,p,q,hc,hg=>by
  unfold Can at hc;obtain⟨c,rfl,hc⟩:=hc;by_cases hp:Key.s i=p
  ·subst hp;have hg':get ((Key.s i,EK.v t):: []) (Key.s i)=some q:=hg;rw[Cr]at hg';cases hg';exact⟨0,c,rfl,rfl,c,rfl,hc⟩
  ·obtain⟨f,hf,_⟩:=BU hp hg;cases hf
 | .cons t r,i,x,l,p,q,hc,hg=>by
  unfold Can at hc;obtain⟨c,l',rfl,h1,h2⟩:=hc;by_cases hp:Key.s i=p
  ·subst hp;have hg':get ((Key.s i,EK.v t)::Gt r (i+1)) (Key.s i)=some q:=hg;rw[Cr]at hg';cases hg';exact⟨0,c,rfl,rfl,c,rfl,h1⟩
  ·obtain⟨f,hf,hx⟩:=BU hp hg;obtain⟨j,c',h3,h4,h5⟩:=MC (i:=i+1) h2 hf;refine⟨j+1,c',by rw[h3];congr 1;omega,by simpa using h4, ?_⟩;have e:=hx (Iu (.cons t r) i x);rw[e];exact h5
 | .int _,_,_,_,_,_,_,hg=>by cases hg
 | .bool,_,_,_,_,_,_,hg=>by cases hg
 | .str,_,_,_,_,_,_,hg=>by cases hg
 | .err,_,_,_,_,_,_,hg=>by cases hg
 | .clo _ _,_,_,_,_,_,_,hg=>by cases hg
 | .falt _ _ _,_,_,_,_,_,_,hg=>by cases hg
 | .nfn,_,_,_,_,_,_,hg=>by cases hg
 | .nam _,_,_,_,_,_,_,hg=>by cases hg
 | .bptr _,_,_,_,_,_,_,hg=>by cases hg
 | .nilp,_,_,_,_,_,_,hg=>by cases hg
 | .pt _,_,_,_,_,_,_,hg=>by cases hg
 | .nw _ _ _,_,_,_,_,_,_,hg=>by cases hg
 | .nsl,_,_,_,_,_,_,hg=>by cases hg
 | .nmap,_,_,_,_,_,_,hg=>by cases hg
 | .agg _,_,_,_,_,_,_,hg=>by cases hg
 | .tup _,_,_,_,_,_,_,hg=>by cases hg
 | .sl _,_,_,_,_,_,_,hg=>by cases hg
 | .map _ _,_,_,_,_,_,_,hg=>by cases hg
 | .nil,_,_,_,_,_,_,hg=>by cases hg
theorem OA{a:Ty}{x:D a}{l:List CV}(hc:Can a x l):Rep (Gt a 0) (Iu a 0 x) (Ea l):=by
 refine⟨fun i q hq=> ?_,fun id q hq=> ?_⟩
 ·obtain⟨j,c,h1,h2,h3⟩:=MC hc hq;simp only[Nat.zero_add,Key.s.injEq]at h1;subst h1;simp only[Ea,h2];exact h3
 ·obtain⟨j,c,h1,_⟩:=MC hc hq;cases h1
def kN:(rs:List Bd)→(Rt:Ty)→Option (D Rt)
 | [],.tup .nil=>some ()
 |_,_=>none
theorem Tv{rs:List Bd}{Rt:Ty}{y:D Rt}(h:kN rs Rt=some y)(st:St):∃c,Db st rs=some c∧Can Rt y [c]:=by
 unfold kN at h;split at h
 ·exact⟨.tup [],rfl,by unfold Can;exact⟨[],rfl,by unfold Can;rfl⟩⟩
 ·cases h
theorem AG.plain{w:World}{M:MM}{size:Nat}{t:Ty}:∀{ys:List (D t)} {es:List CV} {xs:List Value},As (fun x c=>Can t x [c]) ys es→AG w M size es xs→AG w M size (ys.map (enc t)) xs
 | [],es,xs,h,hr=>by unfold As at h;subst h;exact hr
 |y::ys,es,xs,h,hr=>by
  obtain⟨c,es',rfl,h1,h2⟩:=h;obtain⟨v,xs',e,g1,g2,g3⟩:=hr;exact⟨v,xs',e,g1,An.enc h1 g2,AG.plain h2 g3⟩
section
variable {P:Program} {E:Env} {w0:WL} {M0:MM} {n:Nat} {st:St} {a:Act} {w w':World} {z:Cz}
def UJ(st:St):Bd→Option CV
 | .tmp t=>closed (st.fr t)
 | .cell a sz=>(AT st.ob sz (deref st.ob (st.fr a))).bind closed
def UK(st:St)(rs:List Bd):Option CV:=(Ar (UJ st) rs).map Gk
def IW(rs:List Bd)(t:Ty)(y:D t)(Θ:TC)(θ:HS Θ)(e:Ex)(st:St):Prop:=
 match e with
 | .exit _=>False
 |_=>∃c,UK st rs=some c∧Can t y [c]∧Rep Θ θ st
theorem Fe.to{G:Nat→List CV}{f:FuncId}{l:List CV}{r:CV}{H':Nat→Ob}(h:Fe P G f [] l (fun _=>.none) r H')(hH:∀id,H' id=.none):CallsTo P G f l (.val r):=by
 intro w M vs hM hG hL;have hLies:Hl P w M (z0 undef M.al) [] fun _=>.none:=⟨fun _=>trivial,fun _ _ h=>absurd rfl h,fun _ _ _ _ h=>absurd rfl h,fun _ _ _ h=>(by cases h),fun _ h=>absurd rfl h,rfl⟩;refine(h w M _ vs hM hG hL hLies).mono fun e w' ⟨v,z',he,⟨h1,h2,h3,h4,h5⟩,_,_,hal,hr⟩=> ?_;refine⟨v,he,⟨h1,h2,h3,h4,fun g hg=>h5 g hg fun⟨id,hh,_⟩=>hh rfl⟩, ?_⟩;have hk:AR w' (Aq M z' H') w' M:=⟨Nat.le_refl _,fun _ _ _=>rfl,fun _ _ hg=>.inl hg,hal.symm⟩;exact An.keep hk _ _ hr
end
section
variable {X:TP}
end
noncomputable def Fx(X:TP)(a Rt:Ty)(m:AF):Option (D a→Option (D Rt)):=
 match den X (D Rt) (rdT X m.res Rt) m.code (D Rt) [] [] (Gt a 0)with
 |some d=>some fun x=>d (Iu a 0 x) ⟨fun _=>kN m.res Rt,(),fun y=>some y⟩
 |none=>none
theorem Th{P:Program}{X:TP}{E:Env}(hE:EOk P E)(hT:TOk X E)(hF:Bo X E)(hΘ:Dk X.Θ=.no){a Rt:Ty}{m:AF}{g:D a→Option (D Rt)}(h:Fx X a Rt m=some g){f:FuncId}(hc:C7 P f=some ⟨m.n,erase m.code,m.res⟩){k:Nat}(hl:AE a=some k)(hk:k≤m.n)
  {x:D a} {l:List CV} {y:D Rt} (hx:Can a x l) (hy:g x=some y) (hv:(Rt.val&&Rt.ok)=true:=by rfl):AW P f=true∧CallsTo P E.G f l (.val (enc Rt y)):=by
 simp only[Af]at hv;unfold Fx at h;split at h<;>(try cases h;done);rename_i d hd;cases h;refine SY hE hc (by rw[DL hl hx];exact hk) (hΘ▸Cs _ (fun e st hp=> ?_) (NP hT hF (RP:=fun st v=>Er st m.res _ v) (fun h1 h2 _ h3=>PN h1 h2 h3) m.code hd (OA hx) hy))
 cases e with
 |normal=>
  obtain⟨ρ,_,h2⟩:=hp;exact Tv h2 st
 |exit i=>
  obtain⟨Γi,s,ρ,h1,_⟩:=hp;cases h1
 |ret=>
  obtain⟨v,h1,h3⟩:=hp;cases h3;exact Er.of hv.1 h1
theorem SX{P:Program}{E:Env}(hE:EOk P E){f:FuncId}{m:FE}(hc:C7 P f=some m){l:List CV}{e size:Nat}{t:Ty}{y:List (D t)}(hl:l.length≤m.n)
  (h:Ch .no E m.code (fun x st=>x=.ret∧∃es,Lo m.res (.arr e size es) .ret st∧As (fun x c=>Can t x [c]) y es) (Ea l)):AW P f=true∧CallsTo P E.G f l (.new (.arr e size (y.map (enc t)))):=by
 unfold C7 at hc;split at hc<;>(try cases hc;done);rename_i hb;refine⟨hb, ?_⟩;simp only[Ab,Aa,Ad]at hc;obtain⟨fn,hf,b,hbody,hn,c,hcode,rs,hrs,rfl⟩:=hc;intro w M vs hM hG hL;refine calls_of_wp hf hbody (wp_mono (EI hE rfl b hcode (L1 hM hG hl hL (Ah hn)) h) fun e a' w' hpost=> ?_);obtain⟨e',st',z',he,⟨rfl,es,hq,hcan⟩,hS⟩:=hpost;subst he;obtain⟨t',hrv,hR⟩:=Uc hS hrs hq
 have hfr:fn.results= #[.tmp t']:=by
  apply Array.toList_inj.1;simpa using hrv
 have hrun:(results fn a'.tmps).run P w'=.ok (a'.tmps.getD t' undef) w':=by
  simp[results,hfr]
 obtain⟨r1,r2,xs,r3,r4⟩:=hR;have hlen:(y.map (enc t)).length=es.length:=by rw[List.length_map];exact hcan.length.symm
 exact⟨hS.defers,_,hrun,_,rfl,Jq.1 hS.below,rfl,r2,xs,by rw[hlen];exact r3,AG.plain hcan r4⟩
theorem Tg{P:Program}{X:TP}{E:Env}(hE:EOk P E)(hT:TOk X E)(hF:Bo X E)(hΘ:Dk X.Θ=.no){a:Ty}{e0 size:Nat}{t:Ty}{m:AF}{g:D a→Option (List (D t))}(h:Fx X a (.nw e0 size t) m=some g){f:FuncId}(hc:C7 P f=some ⟨m.n,erase m.code,m.res⟩){k:Nat}(hl:AE a=some k)(hk:k≤m.n)
  {x:D a} {l:List CV} {y:List (D t)} (hx:Can a x l) (hy:g x=some y):AW P f=true∧CallsTo P E.G f l (.new (.arr e0 size (y.map (enc t)))):=by
 unfold Fx at h;split at h<;>(try cases h;done);rename_i d hd;cases h;refine SX hE hc (by rw[DL hl hx];exact hk) (hΘ▸Cs _ (fun e st hp=> ?_) (NP hT hF (RP:=fun st v=>Er st m.res _ v) (fun h1 h2 _ h3=>PN h1 h2 h3) m.code hd (OA hx) hy))
 cases e with
 |normal=>
  obtain⟨ρ,_,h2⟩:=hp
  have hn:kN m.res (.nw e0 size t)=none:=by
   cases m.res<;>rfl
  have h2':kN m.res (.nw e0 size t)=some y:=h2;rw[hn]at h2';cases h2'
 |exit i=>
  obtain⟨Γi,s,ρ,h1,_⟩:=hp;cases h1
 |ret=>
  obtain⟨v,h1,h3⟩:=hp;cases h3;exact⟨rfl,h1⟩
structure TB where
 G:Nat→List CV
 TT:Nat→Option Ty
 TM:Nat→Option (Ty×Ty)
 cp:FuncId→Bool:=fun _=>false
def Cn:List (FuncId×Sig)→FuncId→Option Sig
 | [],_=>none
 |e::L,f=>if e.1=f then some e.2 else Cn L f
def HU:List (FuncId×SigE)→FuncId→Option SigE
 | [],_=>none
 |e::L,f=>if e.1=f then some e.2 else HU L f
def Ty.isNw:Ty→Bool
 | .nw _ _ _=>true
 |_=>false
def tp(B:TB)(L:List (FuncId×Sig))(LE:List (FuncId×SigE)):TP where
 G:=B.G
 T:=fun f=>match Cn L f with
  |some s=>match s.r.isNw with
   |true=>none
   |false=>some s
  |none=>none
 TT:=B.TT
 TM:=B.TM
 cp:=B.cp
 TN:=fun f=>match Cn L f with
  |some s=>match s.r.isNw with
   |true=>some s
   |false=>none
  |none=>none
 TE:=fun f=>match Cn L f with
  |some _=>none
  |none=>HU LE f
theorem FC{B:TB}{L:List (FuncId×Sig)}{LE:List (FuncId×SigE)}{f:FuncId}{s:Sig}:(tp B L LE).T f=some s↔Cn L f=some s∧s.r.isNw=false:=by
 show(match Cn L f with
  |some s=>match s.r.isNw with
   |true=>none
   |false=>some s
  |none=>none)=some s↔_
 cases h:Cn L f with
 |none=>simp
 |some s'=>cases h2:s'.r.isNw with
  |true=>
   simp only[h2,Ac];exact⟨fun e=>(by cases e),fun e=>by rw[e.1]at h2;rw[h2]at e;cases e.2⟩
  |false=>
   simp only[h2,Ac];exact⟨fun e=>⟨e,e▸h2⟩,fun e=>e.1⟩
theorem Hk{B:TB}{L:List (FuncId×Sig)}{LE:List (FuncId×SigE)}{f:FuncId}{s:Sig}:(tp B L LE).TN f=some s↔Cn L f=some s∧s.r.isNw=true:=by
 show(match Cn L f with
  |some s=>match s.r.isNw with
   |true=>some s
   |false=>none
  |none=>none)=some s↔_
 cases h:Cn L f with
 |none=>simp
 |some s'=>cases h2:s'.r.isNw with
  |false=>
   simp only[h2,Ac];exact⟨fun e=>(by cases e),fun e=>by rw[e.1]at h2;rw[h2]at e;cases e.2⟩
  |true=>
   simp only[h2,Ac];exact⟨fun e=>⟨e,e▸h2⟩,fun e=>e.1⟩
theorem QO{B:TB}{L:List (FuncId×Sig)}{LE:List (FuncId×SigE)}{f:FuncId}{s:SigE}:(tp B L LE).TE f=some s↔Cn L f=none∧HU LE f=some s:=by
 show(match Cn L f with
  |some _=>none
  |none=>HU LE f)=some s↔_
 cases h:Cn L f with
 |none=>simp
 |some s'=>simp
open Classical in
noncomputable def Ey(s:SigE):Eff:=⟨A8 s.Θ,fun l H=>if h:∃p:D s.a×HS s.Θ,Can s.a p.1 l∧Rep s.Θ p.2 {fr:=fun _=>.undef,ob:=H}then(s.fn (choose h).1 (choose h).2).map fun q=>(enc s.r q.1,DF s.Θ q.2)else none⟩
theorem Sy{s:SigE}(ho:okΘ s.Θ=true){x:D s.a}{l:List CV}{θ:HS s.Θ}{H:Nat→Ob}{y:D s.r}{θ':HS s.Θ}(hx:Can s.a x l)(hr:Rep s.Θ θ {fr:=fun _=>.undef,ob:=H})(hy:s.fn x θ=some (y,θ')):(Ey s).fn l H=some (enc s.r y,DF s.Θ θ'):=by
 have hh:∃p:D s.a×HS s.Θ,Can s.a p.1 l∧Rep s.Θ p.2 {fr:=fun _=>.undef,ob:=H}:=⟨(x,θ),hx,hr⟩;have hc:=Classical.choose_spec hh;simp only[Ey,dif_pos hh];rw[Can.uniq s.a hc.1 hx,Rep.uniq ho rfl hc.2 hr,hy];rfl
theorem Sz{s:SigE}{l:List CV}{H:Nat→Ob}{r:CV}{H':Nat→Ob}(h:(Ey s).fn l H=some (r,H')):∃x θ y θ',Can s.a x l∧Rep s.Θ θ {fr:=fun _=>.undef,ob:=H}∧s.fn x θ=some (y,θ')∧r=enc s.r y∧H'=DF s.Θ θ':=by
 simp only[Ey]at h;split at h<;>(try cases h;done);rename_i hh;obtain⟨⟨y,θ'⟩,h1,h2⟩:=Aa.1 h;cases h2;exact⟨_,_,y,θ',(Classical.choose_spec hh).1,(Classical.choose_spec hh).2,h1,rfl,rfl⟩
open Classical in
noncomputable def Dh(X:TP):Env:={G:=X.G,cp:=X.cp,ef:=fun f=>(X.TE f).map Ey,fn:=fun f l=>match X.T f with
 |some s=>if h:∃x,Can s.a x l then(s.fn (choose h)).map fun y=>.val (enc s.r y)else none
 |none=>match X.TN f with
  |some ⟨a,.nw e size t,fn⟩=>if h:∃x,Can a x l then(fn (choose h)).map fun y=>.new (.arr e size (y.map (enc t)))else none
  |_=>none}
theorem Lk{X:TP}{f:FuncId}{s:Sig}(hs:X.T f=some s){x:D s.a}{l:List CV}{y:D s.r}(hx:Can s.a x l)(hy:s.fn x=some y):(Dh X).fn f l=some (.val (enc s.r y)):=by
 have hh:∃x,Can s.a x l:=⟨x,hx⟩;simp only[Dh,hs,dif_pos hh];rw[Can.uniq s.a (Classical.choose_spec hh) hx,hy];rfl
theorem IP{X:TP}{f:FuncId}{a:Ty}{e size:Nat}{t:Ty}{fn:D a→Option (D (.nw e size t))}(h0:X.T f=none)(hs:X.TN f=some ⟨a,.nw e size t,fn⟩){x:D a}{l:List CV}{y:List (D t)}(hx:Can a x l)(hy:fn x=some y):(Dh X).fn f l=some (.new (.arr e size (y.map (enc t)))):=by
 have hh:∃x,Can a x l:=⟨x,hx⟩;simp only[Dh,h0,hs,dif_pos hh];rw[Can.uniq a (Classical.choose_spec hh) hx,hy];rfl
theorem NW{X:TP}{f:FuncId}{l:List CV}{r:Res}(h:(Dh X).fn f l=some r):
  (∃s x y,X.T f=some s∧Can s.a x l∧s.fn x=some y∧r=.val (enc s.r y))∨
  (X.T f=none∧∃(a:Ty) (e size:Nat) (t:Ty) (fn:D a→Option (D (.nw e size t))) (x:D a) (y:List (D t)),X.TN f=some ⟨a,.nw e size t,fn⟩∧Can a x l∧fn x=some y∧r=.new (.arr e size (y.map (enc t)))):=by
 simp only[Dh]at h;split at h
 ·rename_i s hs;split at h<;>(try cases h;done);rename_i hh;obtain⟨y,h1,h2⟩:=Aa.1 h;exact .inl ⟨s,_,y,hs,Classical.choose_spec hh,h1,h2.symm⟩
 ·rename_i h0;split at h<;>(try cases h;done);rename_i a e size t fn hs;split at h<;>(try cases h;done);rename_i hh;obtain⟨y,h1,h2⟩:=Aa.1 h;exact .inr ⟨h0,a,e,size,t,fn,_,y,hs,Classical.choose_spec hh,h1,h2.symm⟩
structure Rh (P:Program) (G:Nat→List CV) (f:FuncId) (s:SigE):Prop where
 rv:s.r.val=true
 rok:s.r.ok=true
 hi:((A8 s.Θ).all fun N=>Nat.ble Au N)=true
 ok:okΘ s.Θ=true
 body:AW P ((DN f).getD f)=true
 calls:∀x l θ H y θ',Can s.a x l→Rep s.Θ θ {fr:=fun _=>.undef,ob:=H}→s.fn x θ=some (y,θ')→Em P G f (A8 s.Θ) l H (enc s.r y) (DF s.Θ θ')
theorem Em.of{P:Program}{G:Nat→List CV}{f:FuncId}{T:List Nat}{l:List CV}{H H':Nat→Ob}{r:CV}(hb:AW P f=true)(h:Fe P G f T l H r H'):Em P G f T l H r H':=by
 unfold Em;rw[HB hb];exact h
theorem Em.to{P:Program}{G:Nat→List CV}{f:FuncId}{T:List Nat}{l:List CV}{H H':Nat→Ob}{r:CV}(hb:AW P f=true)(h:Em P G f T l H r H'):Fe P G f T l H r H':=by
 unfold Em at h;rw[HB hb]at h;exact h
def DV(P:Program)(G:Nat→List CV)(X:TP):Prop:=∀f s,X.TE f=some s→Rh P G f s
theorem DV.ef{P:Program}{X:TP}(h:DV P X.G X):MW P (Dh X):=fun f e he=>by
 obtain⟨s,hs,rfl⟩:=Aa.1 he;have k:=h f s hs;refine⟨k.body,fun args H r H' hr=> ?_⟩;obtain⟨x,θ,y,θ',h1,h2,h3,rfl,rfl⟩:=Sz hr;exact k.calls x args θ H y θ' h1 h2 h3
theorem DV.te{P:Program}{X:TP}(h:DV P X.G X):Bo X (Dh X):=fun f s hs=>by
 have k:=h f s hs;have e:(Dh X).ef f=some (Ey s):=by show(X.TE f).map Ey=_;rw[hs];rfl
 exact⟨⟨k.rv,k.hi⟩,k.rok,Ey s,e,rfl,fun x l θ H y θ' hx hr hy=>Sy k.ok hx hr hy⟩
structure GoodT (P:Program) (B:TB) (L:List (FuncId×Sig)) (LE:List (FuncId×SigE)):Prop where
 E:EOk P (Dh (tp B L LE))
 T:TOk (tp B L LE) (Dh (tp B L LE))
 F:DV P B.G (tp B L LE)
theorem GoodT.TE{P:Program}{B:TB}{L:List (FuncId×Sig)}{LE:List (FuncId×SigE)}(h:GoodT P B L LE):Bo (tp B L LE) (Dh (tp B L LE)):=DV.te (X:=tp B L LE) h.F
theorem QP{B:TB}{L:List (FuncId×Sig)}{LE:List (FuncId×SigE)}(f:FuncId)(h:((tp B L LE).T f).isSome=true∨((tp B L LE).TN f).isSome=true):(Dh (tp B L LE)).ef f=none:=by
 have:∃s,Cn L f=some s:=by
  rcases h with h|h<;>obtain⟨s,hs⟩:=Option.isSome_iff_exists.1 h
  ·exact⟨s,(FC.1 hs).1⟩
  ·exact⟨s,(Hk.1 hs).1⟩
 obtain⟨s,hs⟩:=this
 show((match Cn L f with
  |some _=>none
  |none=>HU LE f):Option SigE).map Ey=none
 rw[hs];rfl
theorem DV.hiE{P:Program}{G:Nat→List CV}{X:TP}(h:DV P G X):HiE (Dh X):=by
 intro f e he;have he:(X.TE f).map Ey=some e:=he;obtain⟨s,hs,rfl⟩:=Aa.1 he;exact(h f s hs).hi
theorem GoodT.nil(P:Program)(B:TB)(hcp:MV P B.cp:=by intro f h;cases h):GoodT P B [] []:=by
 refine⟨⟨fun f l r h=> ?_,hcp,fun f e h=>by cases h⟩,⟨rfl,rfl,fun f s h=> ?_,fun f h=>QP f h,fun f a e size t fn h=> ?_,DV.hiE (P:=P) (G:=B.G) (X:=tp B [] []) fun f s h=>by cases h⟩,fun f s h=>by cases h⟩
 ·rcases NW h with⟨s,x,y,h1,_⟩|⟨_,_,_,_,_,_,_,_,h1,_⟩<;>cases h1
 ·cases h
 ·cases h
def Gy(P:Program)(G:Nat→List CV)(f:FuncId):Sig→Prop
 |⟨a,.nw e size t,fn⟩=>(t.val&&t.ok)=true∧∀x l (y:List (D t)),Can a x l→fn x=some y→AW P f=true∧CallsTo P G f l (.new (.arr e size (y.map (enc t))))
 |s=>(s.r.val&&s.r.ok)=true∧∀x l y,Can s.a x l→s.fn x=some y→AW P f=true∧CallsTo P G f l (.val (enc s.r y))
theorem Gy.val{P:Program}{G:Nat→List CV}{f:FuncId}{s:Sig}(h:Gy P G f s)(hn:s.r.isNw=false):(s.r.val&&s.r.ok)=true∧∀x l y,Can s.a x l→s.fn x=some y→AW P f=true∧CallsTo P G f l (.val (enc s.r y)):=by
 obtain⟨a,r,fn⟩:=s;cases r<;>first|exact h|cases hn
theorem Gy.mk{P:Program}{G:Nat→List CV}{f:FuncId}{s:Sig}(hv:(s.r.val&&s.r.ok)=true)(h:∀x l y,Can s.a x l→s.fn x=some y→AW P f=true∧CallsTo P G f l (.val (enc s.r y))):Gy P G f s:=by
 obtain⟨a,r,fn⟩:=s;cases r<;>first|exact⟨hv,h⟩|cases hv
theorem As.encs{t:Ty}(hv:t.val=true)(ho:t.ok=true):∀(ys:List (D t)),As (fun x c=>Can t x [c]) ys (ys.map (enc t))
 | []=>rfl
 |y::ys=>⟨_,_,rfl,Can.enc y hv ho,As.encs hv ho ys⟩
theorem Je{B:TB}{L:List (FuncId×Sig)}{LE:List (FuncId×SigE)}{f:FuncId}{s:Sig}(h:(tp B L LE).TN f=some s):(tp B L LE).T f=none:=by
 obtain⟨h1,h2⟩:=Hk.1 h
 cases hT:(tp B L LE).T f with
 |none=>rfl
 |some s'=>
  obtain⟨h3,h4⟩:=FC.1 hT;rw[h1]at h3;cases h3;rw[h2]at h4;cases h4
theorem GoodT.addS{P:Program}{B:TB}{L:List (FuncId×Sig)}{LE:List (FuncId×SigE)}(h:GoodT P B L LE)(f:FuncId)(s:Sig)(hs:Gy P B.G f s):GoodT P B ((f,s)::L) LE:=by
 have key:∀g s',Cn ((f,s)::L) g=some s'→(g=f∧s'=s)∨Cn L g=some s':=fun g s' hg=>by
  unfold Cn at hg;by_cases e:f=g
  ·simp only[e,if_true,Ac]at hg;exact .inl ⟨e.symm,hg.symm⟩
  ·simp only[e,if_false]at hg;exact .inr hg
 have hF:DV P B.G (tp B ((f,s)::L) LE):=fun g s' hs'=>by
  obtain⟨h1,h2⟩:=QO.1 hs';refine h.F g s' (QO.2 ⟨?_,h2⟩);unfold Cn at h1;split at h1
  ·cases h1
  ·exact h1
 refine⟨⟨fun g l r hr=> ?_,h.E.cp,DV.ef (X:=tp B ((f,s)::L) LE) hF⟩,⟨rfl,rfl,fun g s' hs'=> ?_,fun f h=>QP f h,fun g a e size t fn hs'=> ?_,hF.hiE⟩,hF⟩
 ·rcases NW hr with⟨s',x,y,h1,h2,h3,rfl⟩|⟨h0,a,e,size,t,fn,x,y,h1,h2,h3,rfl⟩
  ·obtain⟨g1,g2⟩:=FC.1 h1;rcases key g s' g1 with⟨rfl,rfl⟩|g3
   ·exact(hs.val g2).2 x l y h2 h3
   ·exact h.E.1 g l _ (Lk (X:=tp B L LE) (FC.2 ⟨g3,g2⟩) h2 h3)
  ·obtain⟨g1,g2⟩:=Hk.1 h1;rcases key g _ g1 with⟨rfl,e1⟩|g3
   ·subst e1;exact hs.2 x l y h2 h3
   ·have h4:(tp B L LE).TN g=some ⟨a,.nw e size t,fn⟩:=Hk.2 ⟨g3,g2⟩;exact h.E.1 g l _ (IP (X:=tp B L LE) (Je h4) h4 h2 h3)
 ·obtain⟨g1,g2⟩:=FC.1 hs'
  refine⟨?_, ?_,fun x l y hx hy=>Lk hs' hx hy⟩<;>
  ·rcases key g s' g1 with⟨rfl,rfl⟩|g3
   ·have:=(hs.val g2).1;simp only[Af]at this;first|exact this.1|exact this.2
   ·first|exact(h.T.fn g s' (FC.2 ⟨g3,g2⟩)).1|exact(h.T.fn g s' (FC.2 ⟨g3,g2⟩)).2.1
 ·obtain⟨g1,g2⟩:=Hk.1 hs';rcases key g _ g1 with⟨rfl,e1⟩|g3
  ·subst e1;have hto:=hs.1;simp only[Af]at hto;exact⟨hto.1,fun x l ys hx hy=>⟨_,IP (Je hs') hs' hx hy,As.encs hto.1 hto.2 ys⟩⟩
  ·have h4:(tp B L LE).TN g=some ⟨a,.nw e size t,fn⟩:=Hk.2 ⟨g3,g2⟩;obtain⟨k1,k2⟩:=h.T.nw g a e size t fn h4;refine⟨k1,fun x l ys hx hy=>⟨_,IP (Je hs') hs' hx hy, ?_⟩⟩;obtain⟨es,k3,k4⟩:=k2 x l ys hx hy;have k5:=IP (X:=tp B L LE) (Je h4) h4 hx hy;rw[k5]at k3;cases k3;exact k4
theorem GoodT.addM{P:Program}{B:TB}{L:List (FuncId×Sig)}{LE:List (FuncId×SigE)}(h:GoodT P B L LE)(f:FuncId)(s:Sig)(hv:(s.r.val&&s.r.ok)=true)(hf:∀x l y,Can s.a x l→s.fn x=some y→AW P f=true∧CallsTo P B.G f l (.val (enc s.r y))):GoodT P B ((f,s)::L) LE:=
 h.addS f s (Gy.mk hv hf)
theorem GoodT.addN{P:Program}{B:TB}{L:List (FuncId×Sig)}{LE:List (FuncId×SigE)}(h:GoodT P B L LE)(f:FuncId){a:Ty}{e size:Nat}{t:Ty}{fn:D a→Option (List (D t))}{m:AF}(hv:(t.val&&t.ok)=true)(hg:Fx (tp B L LE) a (.nw e size t) m=some fn)(hc:C7 P f=some ⟨m.n,erase m.code,m.res⟩){k:Nat}(hl:AE a=some k)(hk:Nat.ble k m.n=true):GoodT P B ((f,⟨a,.nw e size t,fn⟩)::L) LE:=
 h.addS f ⟨a,.nw e size t,fn⟩ ⟨hv,fun _ _ _ hx hy=>Tg h.E h.T h.TE rfl hg hc hl (Ah hk) hx hy⟩
theorem GoodT.add{P:Program}{B:TB}{L:List (FuncId×Sig)}{LE:List (FuncId×SigE)}(h:GoodT P B L LE)(f:FuncId)(s:Sig)(m:AF)(hc:C7 P f=some ⟨m.n,erase m.code,m.res⟩)(hg:Fx (tp B L LE) s.a s.r m=some s.fn){k:Nat}(hl:AE s.a=some k)(hk:Nat.ble k m.n=true)(hv:(s.r.val&&s.r.ok)=true):GoodT P B ((f,s)::L) LE:=
 h.addM f s hv fun _ _ _ hx hy=>Th h.E h.T h.TE rfl hg hc hl (Ah hk) hx hy hv
theorem GoodT.call{P:Program}{B:TB}{L:List (FuncId×Sig)}{LE:List (FuncId×SigE)}(h:GoodT P B L LE){f:FuncId}{s:Sig}(hs:Cn L f=some s){x:D s.a}{l:List CV}{y:D s.r}(hx:Can s.a x l)(hy:s.fn x=some y)(hn:s.r.isNw=false:=by rfl):CallsTo P B.G f l (.val (enc s.r y)):=
 (h.E.1 f l _ (Lk (X:=tp B L LE) (FC.2 ⟨hs,hn⟩) hx hy)).2
theorem Sc{P:Program}{f:FuncId}{m:FE}(h:C7 P f=some m):AW P f=true:=by
 unfold C7 at h;split at h<;>(try cases h;done);rename_i hb;exact hb
def m(i j:Nat):SL:=⟨some i,.mov (.t j),none⟩
def l'(i:Nat)(o:SOp):SL:=⟨some i,o,none⟩
def fo(i:Nat)(off x:Nat):SL:=⟨some i,.faddr off (.t x),none⟩
def st'(a x:Nat):SL:=⟨none,.store 1 (.t a) (.t x),none⟩
def ex(i x j:Nat):SL:=⟨some i,.ext (.t x) j,none⟩
def rf(l:List SL):AC:=.reg false [] l
def rs(l:List SL):BR:=.reg false [] l
def K(k:IntKind)(n:Int):SO:=.k (.int k n)
def sS(i:Nat):Key×EK:=(.s i,.v .str)
def sI(i:Nat):Key×EK:=(.s i,.v (.int .i64))
def sB(i:Nat):Key×EK:=(.s i,.v .bool)
def cI(i j:Nat):Key×EK:=(.c i j,.v (.int .i64))
inductive Hn where
 |s (Γ:TC)
 |j (Γ:TC) (ex:List Nat) (rt:Bool)
 |l (Γ:TC) (ex:List Nat) (rt:Bool)
 |g (g:Gh)
 |r
 |e
 |t (gs:List (Nat×Gh))
 |x (h:HT)
 |m (Γ:TC) (ex:List Nat) (rt:Bool)
abbrev HL:=List (Nat×Hn)
def HC(i:Nat):List SL→List (Nat×Gh)→List GL
 | [],gs=>gs.map fun g=>.g g.2
 |l::ls,gs=>let p:=gs.span fun g=>Nat.beq g.1 i;p.1.map (fun g=>.g g.2)++ .l l::HC (i+1) ls p.2
theorem OT(gs:List (Nat×Gh))(r:List GL):Ed (gs.map (fun g=>.g g.2)++r)=Ed r:=by
 induction gs with
 |nil=>rfl
 |cons g gs ih=>simp[Ed,ih]
theorem TD(ls:List SL):∀i gs,Ed (HC i ls gs)=ls:=by
 induction ls with
 |nil=>intro i gs;unfold HC;simpa[Ed]using OT gs []
 |cons l ls ih=>intro i gs;unfold HC;simp only;rw[OT];simp[Ed,ih]
def hnG(k:Nat):HL→List Gh×HL
 |(n,.g g)::hs=>cond (Nat.beq n k) (let p:=hnG k hs;(g::p.1,p.2)) ([],(n,.g g)::hs)
 |hs=>([],hs)
def hnO(k:Nat):HL→Option Hn×HL
 |(n,h)::hs=>cond (Nat.beq n k) (some h,hs) (none,(n,h)::hs)
 | []=>(none,[])
def wrG:List Gh→AC→AC
 | [],c=>c
 |g::gs,c=>.gh g (wrG gs c)
theorem H5(gs:List Gh)(c:AC):erase (wrG gs c)=erase c:=by
 induction gs with
 |nil=>rfl
 |cons g gs ih=>simpa[wrG,erase]using ih
def sqH(o:Option Hn)(a b:AC):AC:=
 match o with
 |some (.s Γ)=>.seq Γ a b
 |some (.j Γ ex rt)=>.join Γ ex rt a b
 |_=>.sq a b
def rgH(o:Option Hn)(draw:Bool)(D:List Nat)(ls:List SL):AC:=
 match o,draw with
 |some (.t gs),false=>.rg D (HC 0 ls gs)
 |some (.x h),d=>.rgt d D ls h
 |_,_=>.reg draw D ls
def reH(o:Option Hn)(D:List Nat)(ls:List SL):AC:=
 match o with
 |some .e=>.regE true D ls
 |_=>.regE false D ls
def mlH(Γ:TC)(ex:List Nat)(rt:Bool)(b:AC):AC:=
 match b with
 | .sq (.raw (.mnext it d ok)) (.sq (.cond (.t ok') .skip (.exit i)) c)=>cond (Nat.beq ok' ok) (.mloop Γ ex rt it d ok i c) (.loop [] [] false b)
 |_=>.loop [] [] false b
def loH(o:Option Hn)(b:AC):AC:=
 match o with
 |some (.l Γ ex rt)=>.loop Γ ex rt b
 |some (.m Γ ex rt)=>mlH Γ ex rt b
 |_=>.loop [] [] false b
def isR:Option Hn→Bool
 |some .r=>true
 |_=>false
def ann:BR→Nat→HL→AC×Nat×HL
 | .skip,k,hs=>let p:=hnG k hs;let q:=hnO k p.2;(wrG p.1 (cond (isR q.1) (.raw .skip) .skip),k+1,q.2)
 | .ret,k,hs=>let p:=hnG k hs;let q:=hnO k p.2;(wrG p.1 (cond (isR q.1) (.raw .ret) .ret),k+1,q.2)
 | .exit i,k,hs=>let p:=hnG k hs;let q:=hnO k p.2;(wrG p.1 (cond (isR q.1) (.raw (.exit i)) (.exit i)),k+1,q.2)
 | .bad,k,hs=>let p:=hnG k hs;let q:=hnO k p.2;(wrG p.1 (.raw .bad),k+1,q.2)
 | .mnext it d ok,k,hs=>let p:=hnG k hs;let q:=hnO k p.2;(wrG p.1 (.raw (.mnext it d ok)),k+1,q.2)
 | .reg d D ls,k,hs=>let p:=hnG k hs;let q:=hnO k p.2;(wrG p.1 (cond (isR q.1) (.raw (.reg d D ls)) (rgH q.1 d D ls)),k+1,q.2)
 | .regE D ls,k,hs=>let p:=hnG k hs;let q:=hnO k p.2;(wrG p.1 (cond (isR q.1) (.raw (.regE D ls)) (reH q.1 D ls)),k+1,q.2)
 | .seq a b,k,hs=>let p:=hnG k hs;let q:=hnO k p.2
  match isR q.1 with
  |true=>(wrG p.1 (.raw (.seq a b)),k+1,q.2)
  |false=>let x:=ann a (k+1) q.2;let y:=ann b x.2.1 x.2.2;(wrG p.1 (sqH q.1 x.1 y.1),y.2)
 | .cond c a b,k,hs=>let p:=hnG k hs;let q:=hnO k p.2
  match isR q.1 with
  |true=>(wrG p.1 (.raw (.cond c a b)),k+1,q.2)
  |false=>let x:=ann a (k+1) q.2;let y:=ann b x.2.1 x.2.2;(wrG p.1 (.cond c x.1 y.1),y.2)
 | .block i a,k,hs=>let p:=hnG k hs;let q:=hnO k p.2
  match isR q.1 with
  |true=>(wrG p.1 (.raw (.block i a)),k+1,q.2)
  |false=>let x:=ann a (k+1) q.2;(wrG p.1 (.block i x.1),x.2)
 | .loop a,k,hs=>let p:=hnG k hs;let q:=hnO k p.2
  match isR q.1 with
  |true=>(wrG p.1 (.raw (.loop a)),k+1,q.2)
  |false=>let x:=ann a (k+1) q.2;(wrG p.1 (loH q.1 x.1),x.2)
theorem SJ(o:Option Hn)(a b:AC):erase (sqH o a b)=.seq (erase a) (erase b):=by
 unfold sqH;split<;>rfl
theorem SI(o:Option Hn)(d:Bool)(D:List Nat)(ls:List SL):erase (rgH o d D ls)=.reg d D ls:=by
 unfold rgH;split<;>simp[erase,TD]
theorem SH(o:Option Hn)(D:List Nat)(ls:List SL):erase (reH o D ls)=.regE D ls:=by
 unfold reH;split<;>rfl
theorem SG(Γ:TC)(ex:List Nat)(rt:Bool)(b:AC):erase (mlH Γ ex rt b)=.loop (erase b):=by
 unfold mlH;split
 ·rename_i it d ok ok' i c
  cases hc:Nat.beq ok' ok with
  |false=>rfl
  |true=>
   have:=Nat.eq_of_beq_eq_true hc;subst this;rfl
 ·rfl
theorem SF(o:Option Hn)(a:AC):erase (loH o a)=.loop (erase a):=by
 unfold loH;split
 ·rfl
 ·exact SG ..
 ·rfl
theorem SD(c:BR):∀k hs,erase (ann c k hs).1=c:=by
 induction c with
 |seq a b iha ihb|cond c a b iha ihb=>intro k hs;simp only[ann];split<;>simp[H5,SJ,erase,iha,ihb]
 |block i a iha|loop a iha=>intro k hs;simp only[ann];split<;>simp[H5,SF,erase,iha]
 |bad=>intro k hs;simp[ann,H5,erase]
 |mnext it d ok=>intro k hs;simp[ann,H5,erase]
 |_=>intro k hs;simp only[ann,H5];cases isR (hnO k (hnG k hs).2).1<;>simp[erase,SI,SH]
def mdl(P:Program)(f:FuncId)(hs:HL):AF:=
 match C7 P f with
 |some m=>⟨m.n,(ann m.code 0 hs).1,m.res⟩
 |none=>⟨0,.ret,[]⟩
def tst(P:Program)(f:FuncId)(a:Ty):Bool:=
 match C7 P f,AE a with
 |some m,some k=>Nat.ble k m.n
 |_,_=>false
theorem QT{P:Program}{f:FuncId}{a:Ty}(hs:HL)(h:tst P f a=true):∃k,AE a=some k∧Nat.ble k (mdl P f hs).n=true∧C7 P f=some ⟨(mdl P f hs).n,erase (mdl P f hs).code,(mdl P f hs).res⟩:=by
 unfold tst at h;split at h
 ·rename_i m k h1 h2;refine⟨k,h2, ?_, ?_⟩<;>simp[mdl,h1,h,SD]
 ·cases h
theorem GoodT.hT{P:Program}{B:TB}{L:List (FuncId×Sig)}{LE:List (FuncId×SigE)}(h:GoodT P B L LE){f:FuncId}{s:Sig}(hs:HL)(hv:(s.r.val&&s.r.ok)=true)(hc:tst P f s.a=true)(hg:Fx (tp B L LE) s.a s.r (mdl P f hs)=some s.fn):GoodT P B ((f,s)::L) LE:=by
 obtain⟨k,h1,h2,h3⟩:=QT hs hc;exact h.add f s _ h3 hg h1 h2 hv
theorem GoodT.hN{P:Program}{B:TB}{L:List (FuncId×Sig)}{LE:List (FuncId×SigE)}(h:GoodT P B L LE){f:FuncId}{a:Ty}{e size:Nat}{t:Ty}{fn:D a→Option (List (D t))}(hs:HL)(hv:(t.val&&t.ok)=true)(hc:tst P f a=true)(hg:Fx (tp B L LE) a (.nw e size t) (mdl P f hs)=some fn):GoodT P B ((f,⟨a,.nw e size t,fn⟩)::L) LE:=by
 obtain⟨k,h1,h2,h3⟩:=QT hs hc;exact h.addN f hv hg h3 h1 h2
theorem PP{w:World}{M:MM}{x:D (.cons .str (.one .str))}{l:List CV}{vs:List Value}(hx:Can (.cons .str (.one .str)) x l)(hL:Am w M l vs):vs= [.string ⟨⟨x.1⟩⟩,.string ⟨⟨x.2⟩⟩]:=by
 obtain⟨s,b⟩:=x;unfold Can at hx;obtain⟨c1,l',rfl,h2,h3⟩:=hx;unfold Can at h2 h3;obtain⟨c',rfl,h3⟩:=h3;unfold Can at h3;cases h2;cases h3;unfold Am An at hL;obtain⟨v,vs',rfl,rfl,hL⟩:=hL;unfold Am An at hL;obtain⟨v,vs',rfl,rfl,hL⟩:=hL;unfold Am at hL;subst hL;rfl
def internal_stringslite_Index:List UInt8×List UInt8→Option Int:=fun x=>match x.2 with
 | [c]=>some (Lib.indexByte x.1 c)
 |_=>none
theorem internal_stringslite_Index_ok{P:Program}{B:TB}{f:Nat}(hb:AW P f=true)
  (hc:∀(s:ByteArray) (c:UInt8) (w:World),Calls P f #[.string s,.string ⟨#[c]⟩] w fun e w'=>e=.returned (.int .i64 (Lib.indexByte s.data.toList c))∧w'=w)
  {x:D (.cons .str (.one .str))} {l:List CV} {y:D (.int .i64)} (hx:Can (.cons .str (.one .str)) x l) (hy:internal_stringslite_Index x=some y):AW P f=true∧CallsTo P B.G f l (.val (enc (.int .i64) y)):=by
 refine⟨hb,fun w M vs hM hGk hL=> ?_⟩;rw[PP hx hL];obtain⟨s,b⟩:=x;simp only[internal_stringslite_Index]at hy;split at hy<;>(try cases hy;done);rename_i c;cases hy;refine(hc ⟨⟨s⟩⟩ c w).mono fun e w' he=> ?_;obtain⟨rfl,rfl⟩:=he;refine⟨_,rfl,Below.refl _ _, ?_⟩;simp[FI,enc,AA,An]
def Ru(w:World)(g:Nat)(vs:List Value):Prop:=∃t fr,w.heap[g]? =some (.cells ⟨vs⟩ t fr)
theorem GOk.one{w:World}{g:Nat}{cvs:List CV}{vs:List Value}(h:Ru w g vs)(hr:Am w noM cvs vs)(hn:Bp (fun _=>false) cvs=true):
  An w noM (.rp cvs) (.pointer (some ⟨g,0,none⟩))∧∃cs t fr,w.heap[g]? =some (.cells cs t fr)∧cs.size=cvs.length∧Bp (fun _=>false) cvs=true:=by
 obtain⟨t,fr,hh⟩:=h;refine⟨?_,⟨vs⟩,t,fr,hh,by simp[hr.length],hn⟩;unfold An;refine⟨⟨g,0,none⟩,vs,rfl,Cc hh,fun hh=>hh,hr,fun j u hu=> ?_⟩
 have e2:(({block:=g,off:=0,spot:=none}:Addr).add j)={block:=g,off:=j,spot:=none}:=by
  unfold Addr.add;by_cases h0:j=0<;>simp[h0]
 rw[e2];simp only[World.cell?,hh];simpa using hu
end WB
namespace WB
open Go Go.RowKit Go.Maps
open Go.WideElems (Fit rd rg)
open Go.MapKept (Stamped)
open Go.WideMaps (keyOf_string_mk)
end WB
namespace WB
open Go Go.RowKit Go.ChangeShapes Go.WideShapes Go.Deep
def InR:(t:Ty)→D t→Prop
 | .int k,n=>k.min≤(n:Int)∧(n:Int)≤k.max
 | .str,s=>(s:List UInt8).length≤9223372036854775807
 | .sl e,xs=>(xs:List (D e)).length≤9223372036854775807∧∀x∈(xs:List (D e)),InR e x
 | .agg r,x=>InR r x
 | .one t,x=>InR t x
 | .cons t r,x=>InR t x.1∧InR r x.2
 |_,_=>True
def FY(P:Program)(t:TypeId):Bool:=
 match P.underlying t with
 |some (.struct _)|some (.array _ _)=>true
 |_=>false
def Iy(P:Program)(t:TypeId)(r:Ty):Option Ty:=
 if FY P t then some (.agg r)else match r with
  | .one t=>if Ef t=true then some t else none
  |_=>none
section
variable (P:Program)
def Gq(r:Ty):Nat→Ty
 |0=>.nil
 |n+1=>(Bk r (Gq r n)).1
def In(R:TypeId→Option Ty):List Field→Nat→Option Ty
 | [],_=>some .nil
 |f::fs,off=>(R f.type).bind fun r=>(In R fs (off+P.cellsOf f.type)).bind fun q=>if f.offset=off∧AE r=some (P.cellsOf f.type)then some (Bk r q).1 else none
def Hc:Nat→TypeId→Option Ty
 |0,_=>none
 |n+1,t=>match P.underlying t with
  |some (.int k)=>some (.one (.int k))
  |some .bool=>some (.one .bool)
  |some .string=>some (.one .str)
  |some (.slice e)=>(Hc n e).bind fun r=>(Iy P e r).bind fun te=>if te.val=true∧AE (Bq te)=some (P.cellsOf e)∧0<P.cellsOf e then some (.one (.sl te))else none
  |some (.struct fs)=>(In P (Hc n) fs.toList 0).bind fun r=>if AE r=some (P.cellsOf t)then some r else none
  |some (.array m e)=>(Hc n e).bind fun r=>if AE r=some (P.cellsOf e)∧AE (Gq r m)=some (P.cellsOf t)then some (Gq r m)else none
  |_=>none
end
theorem MZ:∀{r s:Ty} {n:Nat} {x:D r} {y:D s},AE r=some n→InR r x→InR s y→InR (Bk r s).1 ((Bk r s).2 x y):=by
 intro r
 induction r with
 |nil=>intro s n x y _ _ h;exact h
 |one t _=>
  intro s n x y _ h k;cases s
  case nil=>exact h
  all_goals exact⟨h,k⟩
 |cons t r _ ihr=>
  intro s n x y hn h k;simp only[AE,Aa]at hn;obtain⟨n',hn,_⟩:=hn;exact⟨h.1,ihr hn h.2 k⟩
 |_=>intro s n x y hn;cases hn
section
variable {H:Type} {enc:TypeId×Value→H} {P:Program} {w:World} {base:Nat} {spare:Nat→Bool} {held:Bool}
theorem Px{t:TypeId}{r te:Ty}{x:D r}{cvs:List CV}{cs:List Value}(hv:Iy P t r=some te)(hl:FY P t=false→cs.length=1)(hc:Can r x cvs)(hr:Am w noM cvs cs)(hi:InR r x):
  ∃(y:D te) (c:CV) (v:Value),Can te y [c]∧An w noM c v∧v.cells.toList=cs∧InR te y:=by
 unfold Iy at hv;split at hv
 ·cases hv;exact⟨x,.agg cvs,.agg ⟨cs⟩,by unfold Can;exact⟨_,rfl,hc⟩,by unfold An;exact⟨_,rfl,hr⟩,rfl,hi⟩
 ·rename_i ha;have hl:=hl (by simpa using ha);split at hv<;>(try cases hv;done);split at hv<;>(try cases hv;done);rename_i ho;cases hv;unfold Can at hc;obtain⟨c,rfl,hc⟩:=hc;unfold Am at hr;obtain⟨v,vs,rfl,h1,h2⟩:=hr;unfold Am at h2;subst h2;refine⟨x,c,v,hc,h1, ?_,hi⟩;rw[Md h1 (fun cs e=>by have:=F4 ho hc;rw[e]at this;cases this)]
theorem P2{r:Ty}{k:Nat}(hk:AE r=some k){cs:List Value}:∀{m j:Nat},(∀i,j≤i→i<j+m→∃(x:D r) (cvs:List CV),Can r x cvs∧Am w noM cvs ((cs.drop (i*k)).take k)∧InR r x)→
  ∃(x:D (Gq r m)) (cvs:List CV),Can (Gq r m) x cvs∧Am w noM cvs ((cs.drop (j*k)).take (m*k))∧InR (Gq r m) x
 |0,j,_=>⟨(),[],rfl,by simp only[Nat.zero_mul,List.take_zero];exact Am.nil,trivial⟩
 |m+1,j,h=>by
  obtain⟨x,cvs,h1,h2,h3⟩:=h j (Nat.le_refl _) (by omega);obtain⟨y,dvs,g1,g2,g3⟩:=P2 hk (m:=m) (j:=j+1) (cs:=cs) (fun i h4 h5=>h i (by omega) (by omega));refine⟨(Bk r (Gq r m)).2 x y,cvs++dvs,G0 hk h1 g1, ?_,MZ hk h3 g3⟩
  have e:(cs.drop (j*k)).take ((m+1)*k)=(cs.drop (j*k)).take k++(cs.drop ((j+1)*k)).take (m*k):=by
   rw[Nat.add_mul,Nat.one_mul,Nat.add_comm (m*k) k,List.take_add,List.drop_drop,Nat.add_mul,Nat.one_mul]
  rw[e];exact Am.append h2 g2
theorem Wg{k:IntKind}{n:Int}(h:(Lit.int k n).wf=true):k.min≤n∧n≤k.max:=by
 simpa[Lit.wf]using h
theorem SQ{α β:Type}{p:Nat→α→β→Prop}:∀(n:Nat),(∀i,i<n→∃x y,p i x y)→∃(l:List α) (m:List β),l.length=n∧m.length=n∧∀(i:Nat) x y,l[i]? =some x→m[i]? =some y→p i x y:=by
 intro n h;obtain⟨l,hl,hp⟩:=Ot (p:=fun i (z:α×β)=>p i z.1 z.2) n (fun i hi=>by obtain⟨x,y,h⟩:=h i hi;exact⟨(x,y),h⟩);refine⟨l.map (·.1),l.map (·.2),by simp[hl],by simp[hl],fun i x y h1 h2=> ?_⟩;rw[List.getElem?_map,Aa]at h1 h2;obtain⟨z,hz,rfl⟩:=h1;obtain⟨z',hz',rfl⟩:=h2;rw[hz]at hz';cases hz';exact hp i z hz
theorem MU{α β:Type}{R:α→β→Prop}:∀{as:List α} {bs:List β},as.length=bs.length→(∀(i:Nat) a b,as[i]? =some a→bs[i]? =some b→R a b)→As R as bs
 | [],[],_,_=>rfl
 | [],_::_,h,_=>by cases h
 |_::_,[],h,_=>by cases h
 |a::as,b::bs,h,hr=>⟨b,bs,rfl,hr 0 a b rfl rfl,MU (by simpa using h) fun i x y h1 h2=>hr (i+1) x y (by simpa using h1) (by simpa using h2)⟩
theorem P3{R:TypeId→Option Ty}(hR:∀{t:TypeId} {r:Ty} {fuel:Nat} {cs:List Value} {y:DataW H×List MemPlace},R t=some r→DataW.trod enc P w base spare held fuel t cs=some y→∃(x:D r) (cvs:List CV),Can r x cvs∧Am w noM cvs cs∧InR r x):∀{fs:List Field} {off:Nat} {r:Ty} {cs:List Value},In P R fs off=some r→(∀f∈fs,∃fuel y,DataW.trod enc P w base spare held fuel f.type ((cs.drop f.offset).take (P.cellsOf f.type))=some y)→
  ∃(x:D r) (cvs:List CV),Can r x cvs∧Am w noM cvs ((cs.drop off).take cvs.length)∧InR r x
 | [],off,r,cs,h,_=>by
  unfold In at h;cases h;exact⟨(),[],rfl,by simp only[List.length_nil,List.take_zero];exact Am.nil,trivial⟩
 |f::fs,off,r,cs,h,hd=>by
  unfold In at h;obtain⟨r',h1,h⟩:=Ab.1 h;obtain⟨q,h2,h⟩:=Ab.1 h;split at h<;>(try cases h;done);rename_i hh;obtain⟨hoff,hlen⟩:=hh;cases h;obtain⟨fuel,y,hy⟩:=hd f (by simp);obtain⟨x,cvs,g1,g2,g3⟩:=hR h1 hy;obtain⟨x',cvs',k1,k2,k3⟩:=P3 hR (cs:=cs) h2 (fun f' hf'=>hd f' (by simp[hf']));refine⟨(Bk r' q).2 x x',cvs++cvs',G0 hlen g1 k1, ?_,MZ hlen g3 k3⟩;have hl:=DL hlen g1;rw[hoff,←hl]at g2;rw[←hl]at k2;rw[List.length_append,List.take_add,List.drop_drop];exact Am.append g2 k2
theorem JB:∀{n:Nat} {t:TypeId} {r:Ty} {fuel:Nat} {cs:List Value} {y:DataW H×List MemPlace},Hc P n t=some r→DataW.trod enc P w base spare held fuel t cs=some y→(FY P t=false→cs.length=1)∧∃(x:D r) (cvs:List CV),Can r x cvs∧Am w noM cvs cs∧InR r x
 |0,_,_,_,_,_,h,_=>by cases h
 |n+1,t,r,fuel,cs,y,h,hd=>by
  unfold Hc at h;split at h
  ·rename_i k ht;cases h;obtain⟨m,rfl,_,hw⟩:=DataW.trod_int ht hd;exact⟨fun _=>rfl,m,[.int k m],⟨_,rfl,rfl⟩,Am.cons rfl Am.nil,Wg hw⟩
  ·rename_i ht;cases h;obtain⟨b,rfl,_⟩:=DataW.trod_bool ht hd;exact⟨fun _=>rfl,b,[.bool b],⟨_,rfl,rfl⟩,Am.cons rfl Am.nil,trivial⟩
  ·rename_i ht;cases h;obtain⟨s,rfl,_,hs⟩:=DataW.trod_string ht hd;refine⟨fun _=>rfl,s.data.toList,[.str s.data.toList],⟨_,rfl,rfl⟩,Am.cons rfl Am.nil, ?_⟩;have h9:s.size≤9223372036854775807:=hs;show s.data.toList.length≤9223372036854775807;rw[Array.length_toList];exact h9
  ·rename_i e ht;obtain⟨r',h1,h⟩:=Ab.1 h;obtain⟨te,h2,h⟩:=Ab.1 h;split at h<;>(try cases h;done);rename_i hh;obtain⟨hv,hlen,hpos⟩:=hh;cases h;rcases open_slice ht hd with⟨h0,_⟩|⟨a,len,cap,m,n',D',Pl,hcs,hb,hl,hm,hmm,hx,hi⟩
   ·subst h0;refine⟨fun _=>rfl,[],[.sl (some true) []],⟨_,rfl,_,_,rfl,rfl⟩,Am.cons ?_ Am.nil,by simp[InR]⟩;unfold An;exact⟨none,0,0,rfl,rfl,Nat.le_refl _,fun _=>rfl,(fun hh=>by cases hh),fun _=>rfl,fun hh=>absurd rfl hh⟩
   ·subst hcs
    have hel:∀i,i<len→∃(z:D te) (c:CV),(Can te z [c]∧InR te z)∧∃v,An w noM c v∧v.cells.size=P.cellsOf e∧∀(j:Nat) u,v.cells[j]? =some u→w.cell? (a.add (i*P.cellsOf e+j))=some u:=by
     intro i hil;obtain⟨cs',hc,ht'⟩:=hi i (by rw[hmm];split<;>omega);obtain⟨_,hcl,hat⟩:=World.cells?_some hc;obtain⟨g0,x,cvs,g1,g2,g3⟩:=JB h1 ht';obtain⟨z,c,v,k1,k2,k3,k4⟩:=Px h2 g0 g1 g2 g3;refine⟨z,c,⟨k1,k4⟩,v,k2,by rw[←hcl,←k3];simp,fun j u hu=> ?_⟩
     have hj:j<P.cellsOf e:=by
      have:=(Array.getElem?_eq_some_iff.1 hu).1;rw[←hcl,←k3];simpa using this
     rw[←WB.Gz,hat j hj,←k3];simpa using hu
    obtain⟨zs,es,e1,e2,hp⟩:=SQ len hel;refine⟨fun _=>rfl,zs,[.sl (some false) es],⟨_,rfl,_,_,rfl,MU (by omega) fun i z c h3 h4=>(hp i z c h3 h4).1.1⟩,Am.cons ?_ Am.nil,⟨?_,fun z hz=> ?_⟩⟩
    ·unfold An;refine⟨some a,len,cap,rfl,by omega,hl,(fun hh=>by cases hh),(fun _=>by simp),(fun hh=>by cases hh),fun hne=> ?_⟩;refine⟨a,P.cellsOf e,rfl, ?_,fun hh=>hh,EE fun k el hel'=> ?_⟩
     ·have hlen0:0<len:=by
       rcases Nat.eq_zero_or_pos len with h0|h0
       ·exact absurd (List.eq_nil_of_length_eq_zero (by omega)) hne
       ·exact h0
      obtain⟨cs',hc,_⟩:=hi 0 (by rw[hmm];split<;>omega);obtain⟨_,hcl,hat⟩:=World.cells?_some hc;have h5:=hat 0 hpos;rw[Ai (by omega)]at h5;have h6:=KN h5;rw[CI,CI]at h6;exact h6
     ·have hk:k<len:=by have:=(Ae.1 hel').1;omega
      have hz:zs[k]? =some (zs[k]'(by omega)):=Ai _;obtain⟨v,k1,k2,k3⟩:=(hp k _ el hz hel').2;exact⟨v,k1,k2,fun j u hu=>by simpa using k3 j u hu⟩
    ·have:cap≤9223372036854775807:=hm;omega
    ·obtain⟨i,hi'⟩:=List.getElem?_of_mem hz;have hlt:=(Ae.1 hi').1;exact(hp i z (es[i]'(by omega)) hi' (Ai _)).1.2
  ·rename_i fs ht;obtain⟨r',h1,h⟩:=Ab.1 h;split at h<;>(try cases h;done);rename_i hlen;cases h;obtain⟨ys,n',_,_,hcl,hyl,hg⟩:=DataW.trod_struct ht hd;refine⟨fun ha=>by simp[FY,ht]at ha, ?_⟩
   obtain⟨x,cvs,g1,g2,g3⟩:=P3 (fun h3 h4=>(JB h3 h4).2) (cs:=cs) h1 (fun f hf=>by
    obtain⟨i,hi⟩:=List.getElem?_of_mem hf;have h2:=hg i f (by simpa using hi);have hi':=(Ae.1 hi).1;rw[Ai (show i<ys.length by rw[hyl];simpa using hi')]at h2
    exact⟨_,_,h2⟩)
   have hl2:=DL hlen g1;have hl3:=g2.length;have hl4:(cs.take cvs.length)=cs:=List.take_of_length_le (by omega);rw[List.drop_zero,hl4]at g2;exact⟨x,cvs,g1,g2,g3⟩
  ·rename_i m e ht;obtain⟨r',h1,h⟩:=Ab.1 h;split at h<;>(try cases h;done);rename_i hlen;cases h;obtain⟨ys,n',_,_,hcl,hyl,hg⟩:=DataW.trod_array ht hd;refine⟨fun ha=>by simp[FY,ht]at ha, ?_⟩
   obtain⟨x,cvs,g1,g2,g3⟩:=P2 (w:=w) hlen.1 (cs:=cs) (m:=m) (j:=0) (fun i _ hi=>by
    have h2:=hg i (by omega);rw[Ai (show i<ys.length by omega)]at h2
    exact(JB h1 h2).2)
   have hl2:=DL hlen.2 g1;have hl3:=g2.length;simp only[Nat.zero_mul,List.drop_zero,List.length_take]at hl3 g2;have hl4:(cs.take (m*P.cellsOf e))=cs:=List.take_of_length_le (by omega);rw[hl4]at g2;exact⟨x,cvs,g1,g2,g3⟩
  ·cases h
def Kq(P:Program)(n:Nat)(t:TypeId):Option Ty:=(Hc P n t).bind fun r=>(Iy P t r).bind fun te=>if te.val=true then some te else none
theorem P4{n:Nat}{t:TypeId}{te:Ty}{r:Reach}{b0:Nat}{v:Value}{d:DataW H}{p:List MemPlace}(ht:Kq P n t=some te)(hv:Value.okWide P w r b0 t v)(hd:DataW.Trod enc P w base spare held t v d p):
  ∃(x:D te) (c:CV),Can te x [c]∧An w noM c v∧InR te x:=by
 unfold Kq at ht;obtain⟨r',h1,ht⟩:=Ab.1 ht;obtain⟨te',h2,ht⟩:=Ab.1 ht;split at ht<;>(try cases ht;done);cases ht;obtain⟨fuel,hd⟩:=hd;obtain⟨g0,x,cvs,g1,g2,g3⟩:=JB h1 hd;obtain⟨z,c,v',k1,k2,k3,k4⟩:=Px h2 g0 g1 g2 g3;refine⟨z,c,k1, ?_,k4⟩;unfold Iy at h2;split at h2
 ·rename_i ha
  have hagg:∃cs,v=.agg cs:=by
   unfold FY at ha;split at ha<;>(try cases ha;done)
   all_goals
    rename_i ht;simp only[Value.okWide,ht]at hv;obtain⟨cs,h,_⟩:=hv;exact⟨cs,h⟩
  obtain⟨cs,rfl⟩:=hagg;have ht':te=.agg r':=by cases h2;rfl
  subst ht';unfold Can at k1;obtain⟨l,e,_⟩:=k1;cases e;unfold An at k2⊢;obtain⟨vs,e,hl⟩:=k2;subst e;refine⟨vs, ?_,hl⟩;have:vs=cs.toList:=by simpa[Value.cells]using k3
  rw[this]
 ·rename_i ha;split at h2<;>(try cases h2;done);split at h2<;>(try cases h2;done);rename_i ho;cases h2;have e:=Md k2 (fun cs e=>by have:=F4 ho k1;rw[e]at this;cases this);rw[e]at k3
  have hl:v.cells= #[v']:=by
   apply Array.toList_inj.1;rw[←k3]
  have:v=v':=by
   cases v with
   |agg cs=>
    exfalso;unfold FY at ha;unfold Value.okWide at hv;split at hv
    all_goals first
     |(rename_i hh;rw[hh]at ha;exact ha rfl)
     |(rename_i hn1 hn2
       revert hv;simp only[Cell.okWide,Cell.ok]
       split<;>simp_all)
   |_=>simpa[Value.cells]using hl
  rw[this];exact k2
def KA(P:Program)(n:Nat):List TypeId→Option Ty
 | []=>some .nil
 | [t]=>(Kq P n t).map .one
 |t::u::ts=>(Kq P n t).bind fun te=>(KA P n (u::ts)).map fun r=>.cons te r
theorem P1{n:Nat}{r:Reach}{b0:Nat}:∀{ts:List TypeId} {a:Ty} {vs:List Value} {ds:List (DataW H)} {ps:List MemPlace},KA P n ts=some a→(∀(j:Nat) t v,ts[j]? =some t→vs[j]? =some v→Value.okWide P w r b0 t v)→DataW.TrodAll enc P w base spare held ts vs ds ps→
  ∃(x:D a) (l:List CV),Can a x l∧Am w noM l vs∧InR a x
 | [],a,vs,ds,ps,ha,_,h=>by
  cases ha;obtain⟨rfl,rfl,rfl⟩:=trodAll_nil h;exact⟨(),[],rfl,Am.nil,trivial⟩
 | [t],a,vs,ds,ps,ha,hv,h=>by
  obtain⟨te,h1,rfl⟩:=Aa.1 ha;obtain⟨v0,vs0,d0,ds0,p0,q0,rfl,rfl,rfl,h0,r0⟩:=trodAll_cons h;obtain⟨rfl,rfl,rfl⟩:=trodAll_nil r0;obtain⟨x,c,g1,g2,g3⟩:=P4 h1 (hv 0 t v0 rfl rfl) h0;exact⟨x,[c],⟨c,rfl,g1⟩,Am.cons g2 Am.nil,g3⟩
 |t::u::ts,a,vs,ds,ps,ha,hv,h=>by
  obtain⟨te,h1,ha⟩:=Ab.1 ha;obtain⟨q,h2,rfl⟩:=Aa.1 ha;obtain⟨v0,vs0,d0,ds0,p0,q0,rfl,rfl,rfl,h0,r0⟩:=trodAll_cons h;obtain⟨x,c,g1,g2,g3⟩:=P4 h1 (hv 0 t v0 rfl rfl) h0;obtain⟨x',l,k1,k2,k3⟩:=P1 h2 (fun j t' v' h3 h4=>hv (j+1) t' v' (by simpa using h3) (by simpa using h4)) r0;exact⟨(x,x'),c::l,⟨c,l,rfl,g1,k1⟩,Am.cons g2 k2,g3,k3⟩
end
theorem QS{H:Type}{enc:TypeId×Value→H}{P:Program}{w:World}{base:Nat}{spare:Nat→Bool}{held:Bool}:∀{ts:List TypeId} {vs:List Value} {ds:List (DataW H)} {ps:List MemPlace},DataW.TrodAll enc P w base spare held ts vs ds ps→ds.length=ts.length
 | [],vs,ds,ps,h=>by
  obtain⟨rfl,rfl,rfl⟩:=trodAll_nil h;rfl
 |t::ts,vs,ds,ps,h=>by
  obtain⟨v0,vs0,d0,ds0,p0,q0,rfl,rfl,rfl,h0,r0⟩:=trodAll_cons h;simp[QS r0]
theorem row_contract{P:Program}{G:Nat→List CV}{f:FuncId}{fn:Func}{s:ChangeSpec}{tb:TypeId}{a:Ty}(n:Nat)(laidOut:laidOutB P=true)(hA:KA P n fn.params.toList=some a)(hr:(fn.params.toList.all fun t=>P.readableRec t&&decide (t<P.types.size))=true)
  (hres:fn.resultTypes= #[tb]) (htb:P.underlying tb=some .bool) (hsv:s.vars= []) (hs:∀(H:Type) (ds:List (DataW H)),ds.length=fn.params.size→(s.fn H ds).results= [.lit (.bool true)]∧(s.fn H ds).args=ds∧(s.fn H ds).vars= [])
  (hcall:∀(x:D a) (l:List CV),Can a x l→InR a x→CallsTo P G f l (.val (.bool true)))
  (H:Type) (enc:TypeId×Value→H) (W:World) (base:Nat) (args:Array Value) (ds gs:List (DataW H)) (before:List MemPlace)
  (hval:∀(j:Nat) t v,fn.params[j]? =some t→args[j]? =some v→Value.okWide P W .any base t v)
  (hW:DataW.Whole enc P fn.params.toList s.vars false W args.toList ds gs before) (hG:GOk G W noM):
  Calls P f args W fun e W'=>∃v,e=.returned v∧s.post enc P fn false true false false W args v W':=by
 have hW':=hW;obtain⟨p,q,hA0,hV,rfl,hfz,hnd⟩:=hW;have hA1:DataW.TrodAll enc P W 0 (fun _=>true) true fn.params.toList args.toList ds p:=hA0;rw[hsv]at hV;obtain⟨rfl,rfl⟩:=trodVars_none hV;obtain⟨x,l,g1,g2,g3⟩:=P1 (base:=0) hA (fun j t v h1 h2=>hval j t v (by simpa using h1) (by simpa using h2)) hA1;have hlen:ds.length=fn.params.size:=by rw[QS hA1];simp
 obtain⟨e1,e2,e3⟩:=hs H ds hlen;have hc:=hcall x l g1 g3 W noM args.toList (fun _ h=>h.elim) hG g2;refine hc.mono fun e W' ⟨v,he,hb,hr'⟩=> ?_;subst he;unfold FI An at hr';subst hr';refine⟨_,rfl,UB (pa:=p) (pv:= []) hW' (fun _ _ _=> ?_) (fun sp hsp=> ?_) (fun sp hsp=> ?_) rfl hb ?_⟩
 ·rw[List.append_nil,e1,hres];exact trodAll_cons_mk (shut_bool htb _) trodAll_mk0
 ·rw[List.append_nil,e2];exact QR laidOut hb hr (fun x hx=>hW'.lt x (by simpa using hx)) (fun x hx=>hsp x (by simpa using hx)) hA1
 ·rw[List.append_nil,e3,hsv];rfl
 ·exact ok_one hres rfl (okWide_bool_mk htb _)
end WB
