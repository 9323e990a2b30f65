/-
  OWN TEXTS, MERGED (wip/merge.py): CoreTd, CoreTe, CoreTf, CoreTg, CoreTga, CoreTh, CoreTi. No condition of their own.
-/
import Derived.Test.YtefbaepigpomaaaGreatDoorK4
set_option linter.unusedVariables false
set_option linter.unusedSimpArgs false
open Go.IntKind (i64 u64 u8 u32)
namespace WB
open Go Go.RowKit
def Fi:Ty->Bool
 | .agg _| .tup _| .nil| .one _| .cons _ _| .nw _ _ _=>false
 | .falt _ _ l=>l.isFn
 |_=>true
def Fh:Ty->Bool
 | .nil=>true
 | .one t=>Fi t
 | .cons t r=>Fi t&&Fh r
 |_=>false
def Kk{A B:Type}:ab A Bool->ab A B->ab A B->ab A B
 | .tot c,.tot f,.tot g=>.tot fun ρ=>if c ρ then f ρ else g ρ
 |c,f,g=>.par fun ρ=>(c.val ρ).bind fun b=>if b then f.val ρ else g.val ρ
theorem Ae7{A B:Type}{c:ab A Bool}{f g:ab A B}{a:A}{x:B}(h:(Kk c f g).val a=some x):∃b,c.val a=some b/\(if b then f.val a else g.val a)=some x:=by
 cases c<;>cases f<;>cases g
 ·rename_i c f g;refine⟨c a,rfl, ?_⟩;simp only[Kk,ab.val]at h;rw[<-h];cases c a<;>rfl
 all_goals exact Ab.1 h
def KH:(r:Ty)->Option (D r->List (List UInt8))
 | .one .str=>some fun x=> [x]
 | .cons .str r=>match KH r with
  |some f=>some fun x=>x.1::f x.2
  |none=>none
 |_=>none
theorem Xw:∀{r:Ty} {f:D r->List (List UInt8)} {x:D r} {l:List CV},KH r=some f->Can r x l->l=(f x).map CV.str
 | .one .str,f,x,l,h,a=>by
  simp only[KH,Ac]at h;subst h;unfold Can at a;obtain⟨c,rfl,a⟩:=a;unfold Can at a;cases a;rfl
 | .cons .str r,f,x,l,h,a=>by
  simp only[KH]at h;split at h
  ·rename_i g d;cases h;unfold Can at a;obtain⟨c,l',rfl,b,e⟩:=a;unfold Can at b;cases b;rw[Xw d e];rfl
  ·cases h
theorem Xx:∀(l:List (List UInt8)),(l.map CV.str).all JF=true
 | []=>rfl
 |s::l=>by simp only[List.map_cons,List.all_cons,JF,Xx l,Bool.and_self]
theorem Xy:∀(l:List (List UInt8)),CanAll (fun(x:D .str) c=>Can .str x [c]) l (l.map CV.str)
 | []=>rfl
 |s::l=>⟨_,_,rfl,by unfold Can;rfl,Xy l⟩
def HV(q:Ty)(size:Nat):(n:Nat)->(r:Ty)->Option (D r->List (D q))
 |0,_=>some fun _=> []
 |n+1,r=>match EA r size,Fy r size with
  |some f,some g=>if h:f.1=q then match HV q size n g.1 with
    |some k=>some fun x=>(h▸f.2 x)::k (g.2 x)
    |none=>none
   else none
  |_,_=>none
theorem Ox{q:Ty}{size:Nat}:∀{n:Nat} {r:Ty} {f:D r->List (D q)} {x:D r} {l:List CV},HV q size n r=some f->Can r x l->(f x).length=n/\∀{j:Nat} {a:D q},(f x)[j]? =some a->Can q a ((l.drop (j*size)).take size)/\j*size+size≤l.length:=by
 intro n
 induction n with
 |zero=>intro r f x l h b;cases h;exact⟨rfl,fun h=>by simp at h⟩
 |succ n ih=>
  intro r f x l h b;simp only[HV]at h;split at h<;>(try cases h;done);rename_i p g d m;split at h<;>(try cases h;done);rename_i o;split at h<;>(try cases h;done);rename_i k i;cases h;subst o;obtain⟨w,v⟩:=NC d b;obtain⟨u,z⟩:=LQ m b;obtain⟨t,s⟩:=ih i u;refine⟨by simp[t],fun{j a} hj=> ?_⟩
  cases j with
  |zero=>
   simp only[List.getElem?_cons_zero,Ac]at hj;subst hj;exact⟨by simpa using w,by simpa using v⟩
  |succ j=>
   simp only[List.getElem?_cons_succ]at hj;obtain⟨c,y⟩:=s hj;simp only[List.drop_drop,List.length_drop]at c y;have e:size+j*size=(j+1)*size:=by rw[Nat.succ_mul];omega
   rw[e]at c;exact⟨c,by rw[<-e];omega⟩
def BX:(t:Ty)->List CV->Bool
 | .int k,[.int k' n]=>k'=k&&n==0
 | .bool,[.bool b]=> !b
 | .str,[.str s]=>s.isEmpty
 | .err,[.nilif]=>true
 | .nsl,[.sl (some true) []]=>true
 | .nmap,[.map (some true) [] []]=>true
 | .sl _,[.sl (some true) []]=>true
 | .map _ _,[.map (some true) [] []]=>true
 | .agg r,[.agg l]=>BX r l
 | .nil,[]=>true
 | .one t,[c]=>BX t [c]
 | .cons t r,c::l=>BX t [c]&&BX r l
 |_,_=>false
theorem QY:∀{t:Ty} {cs:List CV},BX t cs=true->Can t (AL t) cs:=by
 intro t
 induction t with
 |int k=>
  intro cs h;unfold BX at h;split at h<;>(try cases h;done);all_goals first|(rename_i e;cases e;done)|skip
  rename_i e;cases e;simp only[Ag,decide_eq_true_eq,beq_iff_eq]at h;obtain⟨rfl,rfl⟩:=h;unfold Can;rfl
 |nam N=>intro cs h;unfold BX at h;cases h
 |bptr N=>intro cs h;unfold BX at h;cases h
 |nilp=>intro cs h;unfold BX at h;cases h
 |bool=>
  intro cs h;unfold BX at h;split at h<;>(try cases h;done);all_goals first|(rename_i e;cases e;done)|skip
  simp only[Bool.not_eq_true']at h;subst h;unfold Can;rfl
 |str=>
  intro cs h;unfold BX at h;split at h<;>(try cases h;done);all_goals first|(rename_i e;cases e;done)|skip
  simp only[List.isEmpty_iff]at h;subst h;unfold Can;rfl
 |err=>
  intro cs h;unfold BX at h;split at h<;>(try cases h;done);all_goals first|(rename_i e;cases e;done)|skip
  unfold Can;rfl
 |nsl=>
  intro cs h;unfold BX at h;split at h<;>(try cases h;done);all_goals first|(rename_i e;cases e;done)|skip
  unfold Can;rfl
 |nmap=>
  intro cs h;unfold BX at h;split at h<;>(try cases h;done);all_goals first|(rename_i e;cases e;done)|skip
  unfold Can;rfl
 |sl e _=>
  intro cs h;unfold BX at h;split at h<;>(try cases h;done);all_goals first|(rename_i e;cases e;done)|skip
  unfold Can;exact⟨_,_,rfl,rfl⟩
 |map k v _ _=>
  intro cs h;unfold BX at h;split at h<;>(try cases h;done);all_goals first|(rename_i e;cases e;done)|skip
  unfold Can;exact⟨_,_,_,rfl,rfl,rfl⟩
 |agg r ih=>
  intro cs h;unfold BX at h;split at h<;>(try cases h;done);all_goals first|(rename_i e;cases e;done)|skip
  rename_i e;cases e;unfold Can;exact⟨_,rfl,ih h⟩
 |nil=>
  intro cs h;unfold BX at h;split at h<;>(try cases h;done);all_goals first|(rename_i e;cases e;done)|skip
  unfold Can;rfl
 |one t ih=>
  intro cs h;unfold BX at h;split at h<;>(try cases h;done);all_goals first|(rename_i e;cases e;done)|skip
  rename_i e;cases e;unfold Can;exact⟨_,rfl,ih h⟩
 |cons t r iht ihr=>
  intro cs h;unfold BX at h;split at h<;>(try cases h;done);all_goals first|(rename_i e;cases e;done)|skip
  rename_i e;cases e;simp only[Ag]at h;unfold Can;exact⟨_,_,rfl,iht h.1,ihr h.2⟩
 |tup r _=>intro cs h;unfold BX at h;cases h
 |clo f r _=>intro cs h;unfold BX at h;cases h
 |pt r _=>intro cs h;unfold BX at h;cases h
 |nw e size t _=>intro cs h;unfold BX at h;cases h
 |falt f r l _ _=>intro cs h;unfold BX at h;cases h
 |nfn=>intro cs h;unfold BX at h;cases h
def Iy:KT->Ty->Bool
 | .int k,.int k'=>k=k'
 | .str,.str=>true
 | .bool,.bool=>true
 |_,_=>false
def JH:List KT->Ty->Bool
 | [k],.one t=>Iy k t
 |k::ks,.cons t r=>Iy k t&&JH ks r
 |_,_=>false
def cQ:KT->Ty->Bool
 | .struct ks,.agg r=>JH ks r
 |k,t=>Iy k t
theorem Pw{k:KT}{t:Ty}(h:Iy k t=true):k=F5 t:=by
 cases k<;>cases t<;>simp_all[Iy,F5]
theorem Ac7:∀{ks:List KT} {r:Ty},JH ks r=true->ks=F4 r:=by
 intro ks
 induction ks with
 |nil=>intro r h;cases r<;>cases h
 |cons k ks ih=>
  intro r h;cases r<;>(try cases ks<;>cases h;done)
  ·cases ks with
   |nil=>simp only[F4];rw[Pw h]
   |cons _ _=>cases h
  ·cases ks with
   |nil=>simp only[JH,Ag]at h;simp only[F4];rw[Pw h.1,<-ih h.2]
   |cons k' ks'=>simp only[JH,Ag]at h;simp only[F4];rw[Pw h.1,<-ih h.2]
theorem Vh{k:KT}{t:Ty}(h:cQ k t=true):k=b4 t:=by
 cases k<;>cases t<;>first
  |(simp only[cQ]at h;simp only[b4];rw[Ac7 h];done)
  |(simp_all[cQ,Iy,b4,F5];done)
section
variable (G:Nat->List CV) (Γ:TC) (msk:List Nat)
def Em(id:Nat):Option (Σ k:EK,HS Γ->DK k):=if msk.contains id then none else get Γ (.o id)
def Hi(id:Nat):Nat->Nat->Option (Σ r:Ty,HS Γ->D r)
 |0,off=>match get Γ (.c id off)with
  |some ⟨.v t,f⟩=>some ⟨.one t,f⟩
  |_=>none
 |n+1,off=>match get Γ (.c id off),Hi id n (off+1)with
  |some ⟨.v t,f⟩,some q=>some ⟨.cons t q.1,fun ρ=>(f ρ,q.2 ρ)⟩
  |_,_=>none
def Jt(id:Nat)(t:Ty):Nat->Nat->Option (HS Γ->List (D t))
 |0,_=>some fun _=> []
 |n+1,off=>match get Γ (.c id off),Jt id t n (off+1)with
  |some ⟨.v u,f⟩,some g=>if h:u=t then some fun ρ=>(h▸f ρ:D t)::g ρ else none
  |_,_=>none
def Ki(r:Σ r:Ty,ab (HS Γ) (D r)):List (Nat×Nat×SO)->Option (Σ r:Ty,ab (HS Γ) (D r))
 | []=>some r
 |p::ps=>match ao Γ p.2.2 with
  |some q=>match Kn (BL q.1) r.1 p.1 with
   |some g=>if q.1.val=true/\AQ (BL q.1)=some p.2.1 then Ki ⟨g.1,(r.2.both q.2).map fun _ z=>g.2 z.1 (Gl q.1 z.2)⟩ ps else none
   |none=>none
  |none=>none
def cO(b:Bool)(k:IntKind)(a:ab (HS Γ) Int):List SO->Option (ab (HS Γ) Int)
 | []=>some a
 |x::xs=>match ao Γ x with
  |some ⟨.int k',d⟩=>if k'=k then cO b k (match b with
    |true=>(a.both d).map fun _ p=>max p.1 p.2
    |false=>(a.both d).map fun _ p=>min p.1 p.2) xs else none
  |_=>none
def Gw:List SO->Option (Σ r:Ty,ab (HS Γ) (D r))
 | []=>some ⟨.nil,.tot fun _=>()⟩
 | [x]=>match ao Γ x with
  |some q=>some ⟨.one q.1,q.2⟩
  |none=>none
 |x::y::xs=>match ao Γ x,Gw (y::xs)with
  |some q,some p=>some ⟨.cons q.1 p.1,q.2.both p.2⟩
  |_,_=>none
def Ly{A:Type}(len:A->Int)(b:ab (HS Γ) A)(lo hi:Option SO):Option (ab (HS Γ) (A×Int×Int)):=
 match lo,hi with
 |none,none=>some (b.map fun _ a=>(a,0,len a))
 |some l,none=>match ao Γ l with
  |some ⟨.int _,dl⟩=>some ((b.both dl).map fun _ p=>(p.1,p.2,len p.1))
  |_=>none
 |none,some h=>match ao Γ h with
  |some ⟨.int _,dh⟩=>some ((b.both dh).map fun _ p=>(p.1,0,p.2))
  |_=>none
 |some l,some h=>match ao Γ l,ao Γ h with
  |some ⟨.int _,dl⟩,some ⟨.int _,dh⟩=>some ((b.both (dl.both dh)).map fun _ p=>(p.1,p.2.1,p.2.2))
  |_,_=>none
def D6(q:Σ k:EK,ab (HS Γ) (DK k)):Σ k:EK,ab (HS Γ) (DK k):=
 match q with
 |⟨.v (.nam N),d⟩=>if(Nat.ble As N&&Nat.beq (N % 2) 0)=true then match Em Γ msk N with
  |some ⟨.box _ bt,_⟩=>⟨.ptr N 0,d.map fun _ _=>()⟩
  |_=>⟨.v (.nam N),d⟩
  else⟨.v (.nam N),d⟩
 |q=>q
def flatK:EK->Bool
 | .rp _ _| .v (.pt _)| .ptr _ _| .aptr _ _ _=>true
 |_=>false
def cr:EK->Bool
 | .rp _ _| .v (.pt _)| .ptr _ _| .eptr _ _ _| .aptr _ _ _=>true
 |_=>false
def E3(sz:Option Nat)(q:Σ k:EK,ab (HS Γ) (DK k)):Option (Σ k:EK,ab (HS Γ) (DK k)):=
 match q with
 |⟨.rp _ r,d⟩=>match sz with
  |none=>match E4 r 0 with
   |some p=>some ⟨.v p.1,d.map fun _ x=>p.2 x⟩
   |none=>none
  |some n=>match EA r n with
   |some p=>some ⟨.v (.agg p.1),d.map fun _ x=>p.2 x⟩
   |none=>none
 |⟨.v (.pt r),d⟩=>match sz with
  |none=>match E4 r 0 with
   |some p=>some ⟨.v p.1,d.map fun _ x=>p.2 x⟩
   |none=>none
  |some n=>match EA r n with
   |some p=>some ⟨.v (.agg p.1),d.map fun _ x=>p.2 x⟩
   |none=>none
 |⟨.ptr id o,d⟩=>match Em Γ msk id with
  |some ⟨.box nb bt,_⟩=>match sz with
   |none=>if o<nb then match get Γ (.c id o)with
    |some p=>some ⟨p.1,d.map fun ρ _=>p.2 ρ⟩
    |none=>none
    else none
   |some (n+1)=>if o+n<nb then match Hi Γ id n o with
    |some p=>some ⟨.v (.agg p.1),d.map fun ρ _=>p.2 ρ⟩
    |none=>none
    else none
   |some 0=>none
  |_=>none
 |⟨.eptr id size o,d⟩=>match Em Γ msk id with
  |some ⟨.arr _ size' t,xs⟩=>if size=size'/\t.val=true then match sz with
   |none=>match E4 (BL t) o with
    |some p=>some ⟨.v p.1,(d.map fun ρ i=>(xs ρ)[i]?).comp (.par fun x=>x.map fun y=>p.2 (Gl t y))⟩
    |none=>none
   |some n=>if n=0 then none else match N8 (BL t) o n with
    |some p=>some ⟨.v (.agg p.1),(d.map fun ρ i=>(xs ρ)[i]?).comp (.par fun x=>x.map fun y=>p.2 (Gl t y))⟩
    |none=>none
   else none
  |_=>none
 |⟨.aptr id n o,d⟩=>match Em Γ msk id with
  |some ⟨.box nb bt,_⟩=>match sz,get Γ (.c id o)with
   |none,some ⟨.v t,_⟩=>match Jt Γ id t n o with
    |some f=>if o+n≤nb then some ⟨.v t,(d.map fun ρ i=>(f ρ)[i]?).comp (.par fun x=>x)⟩else none
    |none=>none
   |_,_=>none
  |_=>none
 |_=>none
def P4(a:Nat)(x:SO):Option (ab (HS Γ) Int):=
 match a,b5 G Γ x with
 |0,some ⟨.v .str,d⟩=>some (d.map fun _ s=>((s:List UInt8).length:Int))
 |1,some ⟨.v (.sl _),d⟩=>some (d.map fun _ s=>(s.length:Int))
 |1,some ⟨.v .nsl,d⟩=>some (d.map fun _ _=>0)
 |1,some ⟨.own id,d⟩=>match Em Γ msk id with
  |some ⟨.arr _ _ _,xs⟩=>some (d.map fun ρ _=>((xs ρ).length:Int))
  |_=>none
 |2,some ⟨.v (.map _ _),d⟩=>some (d.map fun _ s=>(s.length:Int))
 |2,some ⟨.mp id,d⟩=>match Em Γ msk id with
  |some ⟨.mob _ _ _,xs⟩=>some (d.map fun ρ _=>((xs ρ).length:Int))
  |_=>none
 |_,_=>none
def Mt(a:Σ t:Ty,ab (HS Γ) (D t))(ok:Bool)(k v:Ty)(b:ab (HS Γ) (List (D k×D v))):Option (Σ k:EK,ab (HS Γ) (DK k)):=
 match Ba a.1 k with
 |some f=>if DT k=true then
   match ok with
   |true=>some ⟨.v (.tup (.cons v (.one .bool))),(b.both a.2).map fun _ p=>AP (aj k) (AL v) (f p.2) p.1⟩
   |false=>some ⟨.v v,(b.both a.2).map fun _ p=>(AP (aj k) (AL v) (f p.2) p.1).1⟩
  else none
 |none=>none
def PE(mt:TypeId)(kt:KT)(z:CV)(ok:Bool)(x key:SO):Option (Σ k:EK,ab (HS Γ) (DK k)):=
 match ao Γ key with
 |some kq=>match b5 G Γ x with
  |some ⟨.v (.map k v),d⟩=>if BX v [z]=true/\cQ kt k=true then Mt Γ kq ok k v d else none
  |some ⟨.mp id,d⟩=>match Em Γ msk id with
   |some ⟨.mob mt' k v,m⟩=>if mt'=mt then Mt Γ kq ok k v (d.map fun ρ _=>m ρ)else none
   |_=>none
  |_=>none
 |none=>none
def Iz(t:Ty):List SO->Option (ab (HS Γ) (List (D t)))
 | []=>some (.tot fun _=> [])
 |x::xs=>match ao Γ x,Iz t xs with
  |some q,some e=>match Ba q.1 t with
   |some g=>some ((q.2.both e).map fun _ p=>g p.1::p.2)
   |none=>none
  |_,_=>none
def QR:aa->Option (Σ k:EK,ab (HS Γ) (DK k))
 | .mov x=>b5 G Γ x
 | .pick c a b=>match ao Γ c,ao Γ a,ao Γ b with
  |some ⟨.bool,dc⟩,some qa,some qb=>match Ba qb.1 qa.1 with
   |some f=>some ⟨.v qa.1,Kk dc qa.2 (qb.2.map fun _ y=>f y)⟩
   |none=>match Ba qa.1 qb.1 with
    |some f=>some ⟨.v qb.1,Kk dc (qa.2.map fun _ y=>f y) qb.2⟩
    |none=>none
  |_,_,_=>none
 | .bin op x y=>match ao Γ x,ao Γ y with
  |some p,some q=>match Oy op p.1 q.1 with
   |some b=>some ⟨.v b.1,(p.2.both q.2).comp b.2⟩
   |none=>none
  |_,_=>none
 | .eqs neg ts x y=>match ao Γ x,ao Γ y with
  |some ⟨.agg r,d⟩,some ⟨.agg s,e⟩=>match J5 r s ts with
   |some f=>match neg with
    |true=>some ⟨.v .bool,(d.both e).map fun _ p=> !(f p.1 p.2)⟩
    |false=>some ⟨.v .bool,(d.both e).map fun _ p=>f p.1 p.2⟩
   |none=>none
  |_,_=>none
 | .beq neg x y=>match ao Γ x,ao Γ y with
  |some ⟨.bool,d⟩,some ⟨.bool,e⟩=>match neg with
   |true=>some ⟨.v .bool,(d.both e).map fun _ p=> !(p.1==p.2)⟩
   |false=>some ⟨.v .bool,(d.both e).map fun _ p=>p.1==p.2⟩
  |_,_=>none
 | .isnil kd neg x=>match kd,ao Γ x with
  |3,some ⟨.err,d⟩=>match neg with
   |true=>some ⟨.v .bool,d.map fun _ b=> !(b:Bool)⟩
   |false=>some ⟨.v .bool,d.map fun _ b=>b⟩
  |1,some ⟨.nsl,d⟩=>some ⟨.v .bool,d.map fun _ _=> !neg⟩
  |2,some ⟨.nmap,d⟩=>some ⟨.v .bool,d.map fun _ _=> !neg⟩
  |_,_=>none
 | .un op x=>match op,ao Γ x with
  | .neg,some ⟨.int k,d⟩=>some ⟨.v (.int k),d.map fun _ n=>k.wrap (0-n)⟩
  | .xor,some ⟨.int k,d⟩=>some ⟨.v (.int k),d.map fun _ n=>BI .xor k (if k.signed then-1 else k.max) n⟩
  | .not,some ⟨.bool,d⟩=>some ⟨.v .bool,d.map fun _ b=> !(b:Bool)⟩
  |_,_=>none
 | .cvi k x=>match ao Γ x with
  |some ⟨.int _,d⟩=>some ⟨.v (.int k),d.map fun _ n=>k.wrap n⟩
  |_=>none
 | .cvrune x=>match ao Γ x with
  |some ⟨.int _,d⟩=>some ⟨.v .str,d.map fun _ n=>(Utf8.encode n).data.toList⟩
  |_=>none
 | .bytes _ x=>match ao Γ x with
  |some ⟨.str,d⟩=>some ⟨.v (.sl (.int .u8)),d.comp (.par fun s=>if s.length≤70368744177664 then some (s.map fun b=>(b.toNat:Int))else none)⟩
  |_=>none
 | .cvbs x=>match b5 G Γ x with
  |some ⟨.v (.sl (.int .u8)),d⟩=>some ⟨.v .str,d.map fun _ h=>h.map fun n=>UInt8.ofNat n.toNat⟩
  |some ⟨.v .nsl,d⟩=>some ⟨.v .str,d.map fun _ _=> []⟩
  |some ⟨.own id,d⟩=>match Em Γ msk id with
   |some ⟨.arr _ _ (.int .u8),xs⟩=>some ⟨.v .str,d.map fun ρ _=>(xs ρ).map fun n=>UInt8.ofNat n.toNat⟩
   |_=>none
  |_=>none
 | .cvid x=>match ao Γ x with
  |some ⟨.str,d⟩=>some ⟨.v .str,d⟩
  |_=>none
 | .nchk x=>match b5 G Γ x with
  |some ⟨.v (.nam N),d⟩=>if Nat.beq (N % 2) 0=true then some ⟨.v (.nam N),d⟩else none
  |some ⟨.v (.pt r),d⟩=>some ⟨.v (.pt r),d⟩
  |some ⟨.rp ex r,d⟩=>some ⟨.rp ex r,d⟩
  |some ⟨.ptr id o,d⟩=>some ⟨.ptr id o,d⟩
  |some ⟨.eptr id s o,d⟩=>some ⟨.eptr id s o,d⟩
  |_=>none
 | .lsl _ size parts=>match parts with
  | []=>none
  |x::xs=>match ao Γ x with
   |some ⟨t,_⟩=>match Iz Γ t (x::xs)with
    |some l=>if t.val=true/\AQ (BL t)=some size then some ⟨.v (.sl t),l⟩else none
    |none=>none
   |none=>none
 | .build z parts=>match Fv z with
  |some q=>match Ki Γ ⟨q.1,.tot fun _=>q.2⟩ parts with
   |some r=>some ⟨.v (.agg r.1),r.2⟩
   |none=>none
  |none=>none
 | .field off sz x=>match ao Γ x with
  |some ⟨.agg r,d⟩=>match sz with
   |none=>match E4 r off with
    |some p=>some ⟨.v p.1,d.map fun _ x=>p.2 x⟩
    |none=>none
   |some n=>match N8 r off n with
    |some p=>if 0<n then some ⟨.v (.agg p.1),d.map fun _ x=>p.2 x⟩else none
    |none=>none
  |_=>none
 | .ext x i=>match b5 G Γ x with
  |some ⟨.v (.tup r),d⟩=>match E4 r i with
   |some p=>some ⟨.v p.1,d.map fun _ x=>p.2 x⟩
   |none=>none
  |some ⟨.ent id k v,d⟩=>match i with
   |0=>some ⟨.v v,d.map fun _ x=>x.2⟩
   |1=>some ⟨.stamp id k,d.map fun _ x=>x.1⟩
   |_=>none
  |_=>none
 | .minmax mx xs=>match xs with
  | []=>none
  |x::xs=>match ao Γ x with
   |some ⟨.int k,d⟩=>match cO Γ mx k d xs with
    |some e=>some ⟨.v (.int k),e⟩
    |none=>none
   |_=>none
 | .fnv f caps=>match Gw Γ caps with
  |some q=>some ⟨.v (.clo f q.1),q.2⟩
  |none=>none
 | .faddr off x=>match (b5 G Γ x).map (D6 Γ msk)with
  |some ⟨.rp ex r,d⟩=>match Fy r off with
   |some p=>some ⟨.rp ex p.1,d.map fun _ x=>p.2 x⟩
   |none=>none
  |some ⟨.v (.pt r),d⟩=>match Fy r off with
   |some p=>some ⟨.rp true p.1,d.map fun _ x=>p.2 x⟩
   |none=>none
  |some ⟨.ptr id o,d⟩=>some ⟨.ptr id (o+off),d⟩
  |some ⟨.eptr id s o,d⟩=>some ⟨.eptr id s (o+off),d⟩
  |some ⟨.aptr id n o,d⟩=>if off=0 then some ⟨.aptr id n o,d⟩else none
  |_=>none
 | .iaddr size x i=>match b5 G Γ x,ao Γ i with
  |some ⟨.v (.sl e),d⟩,some ⟨.int _,di⟩=>if e.val=true/\AQ (BL e)=some size then some ⟨.rp true (BL e),(d.both di).comp (.par fun p=>(ap p.1 p.2).map fun y=>Gl e y)⟩else none
  |some ⟨.own id,d⟩,some ⟨.int _,di⟩=>match Em Γ msk id with
   |some ⟨.arr _ sz _,xs⟩=>if size=sz then some ⟨.eptr id size 0,((d.both di).map fun ρ p=>if 0≤(p.2:Int)/\(p.2:Int)<((xs ρ).length:Int)then some (p.2:Int).toNat else none).comp (.par fun x=>x)⟩else none
   |_=>none
  |_,_=>none
 | .aaddr len size x i=>match b5 G Γ x,ao Γ i with
  |some ⟨.rp true r,d⟩,some ⟨.int _,di⟩=>match EA r size with
   |some q=>match HV q.1 size len r with
    |some f=>if AQ r=some (len*size)then some ⟨.rp false q.1,(d.both di).comp (.par fun p=>ap (f p.1) p.2)⟩else none
    |none=>none
   |none=>none
  |some ⟨.ptr id o,d⟩,some ⟨.int _,di⟩=>if size=1 then some ⟨.aptr id len o,(d.both di).comp (.par fun p=>if 0≤(p.2:Int)/\(p.2:Int)<(len:Int)then some (p.2:Int).toNat else none)⟩else none
  |_,_=>none
 | .sidx x i=>match ao Γ x,ao Γ i with
  |some ⟨.str,d⟩,some ⟨.int _,di⟩=>some ⟨.v (.int .u8),(d.both di).comp (.par fun p=>bQ p.1 p.2)⟩
  |_,_=>none
 | .aidx len size sz x i=>match ao Γ x,ao Γ i with
  |some ⟨.agg r,d⟩,some ⟨.int _,di⟩=>match sz with
   |none=>match EA r 1 with
    |some q=>match E4 q.1 0 with
     |some p=>match HV q.1 1 len r with
         |some f=>if size=1 then some ⟨.v p.1,(d.both di).comp (.par fun z=>(ap (f z.1) z.2).map fun y=>p.2 y)⟩else none
         |none=>none
     |none=>none
    |none=>none
   |some n=>match EA r size with
    |some q=>match HV q.1 size len r with
     |some f=>if n=size/\0<size then some ⟨.v (.agg q.1),(d.both di).comp (.par fun z=>ap (f z.1) z.2)⟩else none
     |none=>none
    |none=>none
  |_,_=>none
 | .load sz x=>match b5 G Γ x with
  |some q=>E3 Γ msk sz (D6 Γ msk q)
  |none=>none
 | .loadb sz x=>match b5 G Γ x with
  |some q=>match flatK (D6 Γ msk q).1 with
   |true=>E3 Γ msk sz (D6 Γ msk q)
   |false=>none
  |none=>none
 | .len kd x=>match P4 G Γ msk kd x with
  |some d=>some ⟨.v (.int .i64),d⟩
  |none=>none
 | .sslice x lo hi=>match ao Γ x with
  |some ⟨.str,d⟩=>match Ly Γ (fun s=>((s:List UInt8).length:Int)) d lo hi with
   |some e=>some ⟨.v .str,e.comp (.par fun p=>JI p.1 p.2.1 p.2.2)⟩
   |none=>none
  |_=>none
 | .slice size x lo hi=>match ao Γ x with
  |some ⟨.sl e,d⟩=>if e.val=true/\AQ (BL e)=some size then match Ly Γ (fun s=>(s.length:Int)) d lo hi with
   |some g=>some ⟨.v (.sl e),g.comp (.par fun p=>JI p.1 p.2.1 p.2.2)⟩
   |none=>none
   else none
  |_=>none
 | .slice3 size x lo hi mx=>match lo,ao Γ x,ao Γ hi,ao Γ mx with
  |none,some ⟨.nsl,d⟩,some ⟨.int _,dh⟩,some ⟨.int _,dm⟩=>some ⟨.v .nsl,(d.both (dh.both dm)).comp (.par fun p=>if p.2.1=(0:Int)/\p.2.2=(0:Int)then some p.1 else none)⟩
  |none,some ⟨.sl e,d⟩,some ⟨.int _,dh⟩,some ⟨.int _,dm⟩=>if e.val=true/\AQ (BL e)=some size then some ⟨.v (.sl e),(d.both (dh.both dm)).comp (.par fun p=>if(p.2.1:Int)=p.2.2 then JI p.1 0 p.2.1 else none)⟩else none
  |_,_,_,_=>none
 | .capp _ size bytes x y=>match ao Γ x,ao Γ y with
  |some ⟨.nsl,dx⟩,some ⟨.sl e,dy⟩=>if e.val=true/\AQ (BL e)=some size/\Fh (BL e)=true then some ⟨.v (.sl e),(dx.both dy).comp (.par fun p=>if((p.2:List (D e)).length:Int)*(bytes:Int)≤140737488355328/\((p.2:List (D e)).length:Int)≤4611686018427387904 then some p.2 else none)⟩else none
  |_,_=>none
 | .mentry x=>match b5 G Γ x with
  |some ⟨.iter id,d⟩=>match Em Γ msk id with
   |some ⟨.mcur k v,f⟩=>some ⟨.v (.tup (.cons k (.one v))),d.map fun ρ _=>f ρ⟩
   |_=>none
  |_=>none
 | .lookup mt kt z ok x k=>PE G Γ msk mt kt z ok x k
 | .asl n x=>match b5 G Γ x with
  |some ⟨.rp true r,d⟩=>match KH r with
   |some f=>if AQ r=some n then some ⟨.v (.sl .str),d.map fun _ z=>f z⟩else none
   |none=>none
  |_=>none
 |_=>none
end
section
variable {G:Nat->List CV} {Γ:TC} {msk:List Nat} {ρ:HS Γ} {st:St} {rd:Nat->Ob}
theorem ET{id:Nat}{q:Σ k:EK,HS Γ->DK k}(h:Em Γ msk id=some q)(b:af Γ ρ st)(a:∀id,msk.contains id=false->rd id=st.ob id):RO Γ ρ id q.1 (q.2 ρ) (rd id):=by
 unfold Em at h;split at h<;>(try cases h;done);rename_i c;rw[a id (by simpa using c)];exact b.o id q h
theorem O8{id i:Nat}{cs:List SV}(b:∀j q,j<i->get Γ (.c id j)=some q->∃sv,cs[j]? =some sv/\RS q.1 (q.2 ρ) sv):∀{n off:Nat} {q:Σ r:Ty,HS Γ->D r},Hi Γ id n off=some q->off+n<i->∃l,Aq closed ((cs.drop off).take (n+1))=some l/\Can q.1 (q.2 ρ) l/\off+(n+1)≤cs.length:=by
 intro n
 induction n with
 |zero=>
  intro off q h m;simp only[Hi]at h;split at h<;>(try cases h;done);rename_i t f e;cases h;obtain⟨sv,d,c,rfl,g⟩:=b off _ (by omega) e;have a:=(Af.1 d).1;refine⟨[c], ?_, ?_,by omega⟩
  ·rw[List.drop_eq_getElem_cons a,(Af.1 d).2];simp[Aq,closed]
  ·unfold Can;exact⟨c,rfl,g⟩
 |succ n ih=>
  intro off q h m;simp only[Hi]at h;split at h<;>(try cases h;done);rename_i t f p e k;cases h;obtain⟨sv,d,c,rfl,g⟩:=b off _ (by omega) e;have a:=(Af.1 d).1;obtain⟨l,s,o,g3⟩:=ih k (by omega);refine⟨c::l, ?_, ?_,by omega⟩
  ·rw[List.drop_eq_getElem_cons a,(Af.1 d).2];simp only[List.take_succ_cons,Aq,closed,Option.bind_some];rw[s];rfl
  ·unfold Can;exact⟨c,l,rfl,g,o⟩
theorem Gx{t:Ty}{x:D t}{c:CV}{n:Nat}(b:t.val=true)(d:AQ (BL t)=some n)(h:Can t x [c]):c.cells.length=n/\AX c=n:=by
 have a:=EP d (GO b h);refine⟨a, ?_⟩;rw[<-a];cases c<;>simp[AX,CV.cells]
theorem Ae0(L:af Γ ρ st):∀{f:List (Nat×Nat×SO)} {r q:Σ r:Ty,ab (HS Γ) (D r)} {cs:List CV} {x:D q.1},Ki Γ r f=some q->q.2.val ρ=some x->(∀y,r.2.val ρ=some y->Can r.1 y cs)->
  (∃y,r.2.val ρ=some y)/\∃l a,Aq (fun p=>(closed (so G st.fr p.2.2)).map fun v=>(p.1,p.2.1,v)) f=some l/\Hu cs l=some a/\Can q.1 x a:=by
 intro f
 induction f with
 |nil=>
  intro r q cs x h j k;simp only[Ki,Ac]at h;subst h;exact⟨⟨x,j⟩,[],cs,rfl,rfl,k x j⟩
 |cons p f ih=>
  intro r q cs x h j k;simp only[Ki]at h;split at h<;>(try cases h;done);rename_i t K;split at h<;>(try cases h;done);rename_i g M;split at h<;>(try cases h;done);rename_i e
  have key:∀y,((r.2.both t.2).map fun _ z=>g.2 z.1 (Gl t.1 z.2)).val ρ=some y->∃y0 z c,r.2.val ρ=some y0/\t.2.val ρ=some z/\so G st.fr p.2.2=.c c/\AX c=p.2.1/\p.1+p.2.1≤cs.length/\Can g.1 y (cs.take p.1++c.cells++cs.drop (p.1+p.2.1)):=by
   intro y d;obtain⟨b,P,O⟩:=ab.map_val d;obtain⟨o,n⟩:=ab.both_val P;obtain⟨c,N,m⟩:=AB (G:=G) K L n;obtain⟨R,Q⟩:=Gx e.1 e.2 m;obtain⟨u,s⟩:=Wk M (k _ o) (GO e.1 m);rw[R]at u s;exact⟨_,_,c,o,n,N,Q,s,O▸u⟩
  by_cases hex:∃y,((r.2.both t.2).map fun _ z=>g.2 z.1 (Gl t.1 z.2)).val ρ=some y
  ·obtain⟨y,d⟩:=hex;obtain⟨y0,z,c,F,k2,C,B,A,w⟩:=key y d
   obtain⟨_,l,a,J,I,H⟩:=ih (cs:=cs.take p.1++c.cells++cs.drop (p.1+p.2.1)) h j (fun S i=>by
    rw[d]at i;cases i
    exact w)
   refine⟨⟨y0,F⟩,(p.1,p.2.1,c)::l,a, ?_, ?_,H⟩
   ·simp only[Aq];rw[C,J];rfl
   ·simp only[Hu];rw[if_pos ⟨B,A⟩];exact I
  ·exfalso;obtain⟨⟨y,d⟩,_⟩:=ih (cs:= []) h j (fun y d=>absurd ⟨y,d⟩ hex);exact hex ⟨y,d⟩
theorem Ad1(n:af Γ ρ st){i:Bool}{k:IntKind}:∀{g:List SO} {f e:ab (HS Γ) Int} {z:Int},cO Γ i k f g=some e->e.val ρ=some z->∃a l,f.val ρ=some a/\Aq (fun x=>closed (so G st.fr x)) g=some l/\l.foldlM (H4 i) (.int k a)=some (.int k z):=by
 intro g
 induction g with
 |nil=>
  intro f e z h j;simp only[cO,Ac]at h;subst h;exact⟨z,[],j,rfl,rfl⟩
 |cons x g ih=>
  intro f e z h j;simp only[cO]at h;split at h<;>(try cases h;done);rename_i w d hd;split at h<;>(try cases h;done);rename_i o;subst o;obtain⟨a,l,r,q,p⟩:=ih h j
  cases i<;>
  ·obtain⟨b,v,u⟩:=ab.map_val r;obtain⟨g3,t⟩:=ab.both_val v;obtain⟨c,s,m⟩:=AB (G:=G) hd n t;unfold Can at m;cases m;refine⟨b.1,_::l,g3,by simp only[Aq];rw[s,q];rfl, ?_⟩;simp only[List.foldlM_cons,H4,if_true,Ah,if_false];subst u;exact p
theorem Jm(d:af Γ ρ st):∀{a:List SO} {q:Σ r:Ty,ab (HS Γ) (D r)} {x:D q.1},Gw Γ a=some q->q.2.val ρ=some x->∃l,Aq (fun x=>closed (so G st.fr x)) a=some l/\Can q.1 x l
 | [],q,x,h,hx=>by
  simp only[Gw,Ac]at h;subst h;exact⟨[],rfl,by unfold Can;rfl⟩
 | [y],q,x,h,hx=>by
  simp only[Gw]at h;split at h<;>(try cases h;done);rename_i p g;cases h;obtain⟨c,j,i⟩:=AB (G:=G) g d hx;exact⟨[c],by simp[Aq,j,closed],by unfold Can;exact⟨c,rfl,i⟩⟩
 |y::z::a,q,x,h,hx=>by
  simp only[Gw]at h;split at h<;>(try cases h;done);rename_i p s g f;cases h;obtain⟨o,n⟩:=ab.both_val hx;obtain⟨c,j,i⟩:=AB (G:=G) g d o;obtain⟨l,m,k⟩:=Jm d f n;refine⟨c::l, ?_,by unfold Can;exact⟨c,l,rfl,i,k⟩⟩;have e:Aq (fun x=>closed (so G st.fr x)) (y::z::a)=(closed (so G st.fr y)).bind fun b=>(Aq (fun x=>closed (so G st.fr x)) (z::a)).map fun bs=>b::bs:=rfl;rw[e,j,m];rfl
theorem Th(v:af Γ ρ st){A:Type}{len:A->Int}{t:ab (HS Γ) A}{lo hi:Option SO}{e:ab (HS Γ) (A×Int×Int)}{p:A×Int×Int}(h:Ly Γ len t lo hi=some e)(r:e.val ρ=some p):
  t.val ρ=some p.1/\(∀n:Nat,(n:Int)=len p.1->0≤p.2.2->Cs n (hi.map (so G st.fr))=some p.2.2.toNat)/\(0≤p.2.1->Cs 0 (lo.map (so G st.fr))=some p.2.1.toNat):=by
 have a:∀{x:SO} {k:IntKind} {d:ab (HS Γ) (D (.int k))} {n:Int} {m:Nat},ao Γ x=some ⟨.int k,d⟩->d.val ρ=some n->0≤n->Cs m (some (so G st.fr x))=some n.toNat:=by
  intro x k d n m u j i;obtain⟨c,g,f⟩:=AB (G:=G) u v j;unfold Can at f;cases f;simp[Cs,g,i]
 unfold Ly at h;split at h
 ·cases h;obtain⟨b,g,f⟩:=ab.map_val r;subst f;refine⟨g,fun n j _=> ?_,fun _=>rfl⟩;simp[Cs,<-j]
 ·split at h<;>(try cases h;done);rename_i l k d hd;cases h;obtain⟨b,g,f⟩:=ab.map_val r;obtain⟨q,o⟩:=ab.both_val g;subst f;refine⟨q,fun n j _=> ?_,fun i=>a hd o i⟩;simp[Cs,<-j]
 ·split at h<;>(try cases h;done);rename_i l k d hd;cases h;obtain⟨b,g,f⟩:=ab.map_val r;obtain⟨q,o⟩:=ab.both_val g;subst f;exact⟨q,fun n _ i=>a hd o i,fun _=>rfl⟩
 ·split at h<;>(try cases h;done);rename_i l B k d z d' hd s;cases h;obtain⟨b,g,f⟩:=ab.map_val r;obtain⟨q,o⟩:=ab.both_val g;obtain⟨y,w⟩:=ab.both_val o;subst f;exact⟨q,fun n _ i=>a s w i,fun i=>a hd y i⟩
theorem T5{id k:Nat}{t:Ty}{cs:List SV}(a:∀j q,j<k->get Γ (.c id j)=some q->∃sv,cs[j]? =some sv/\RS q.1 (q.2 ρ) sv):∀{n off:Nat} {f:HS Γ->List (D t)} {i:Nat} {y:D t},Jt Γ id t n off=some f->off+n≤k->(f ρ)[i]? =some y->i<n/\∃c,cs[off+i]? =some (.c c)/\Can t y [c]
 |0,off,f,i,y,h,_,hy=>by
  simp only[Jt,Ac]at h;subst h;simp at hy
 |n+1,off,f,i,y,h,hb,hy=>by
  simp only[Jt]at h;split at h<;>(try cases h;done);rename_i u g p o b;split at h<;>(try cases h;done);rename_i m;subst m;cases h
  cases i with
  |zero=>
   simp at hy;obtain⟨sv,l,c,e,d⟩:=a off _ (by omega) o;subst e;exact⟨by omega,c,l,hy▸d⟩
  |succ i=>
   simp only[List.getElem?_cons_succ]at hy;obtain⟨l,c,e,d⟩:=T5 a b (by omega) hy;exact⟨by omega,c,by rw[<-e];congr 1;omega,d⟩
theorem Zi{k:EK}{x:DK k}{sv:SV}(a:cr k=true)(h:RS k x sv):deref rd sv=sv:=by
 cases k<;>simp only[cr,Ah]at a
 case v t=>
  cases t<;>simp only[Ah]at a;obtain⟨c,rfl,b⟩:=h;unfold Can at b;obtain⟨l,e,_⟩:=b;cases e;rfl
 case rp=>obtain⟨cs,rest,rfl,_⟩:=h;rfl
 case ptr=>unfold RS at h;rw[h];rfl
 case eptr=>unfold RS at h;rw[h];rfl
 case aptr=>unfold RS at h;rw[h.1];rfl
theorem Zh(t:af Γ ρ st)(i:∀id,msk.contains id=false->rd id=st.ob id){q a:Σ k:EK,ab (HS Γ) (DK k)}{sv:SV}(p:∀x,q.2.val ρ=some x->RS q.1 x sv)(h:D6 Γ msk q=a){x:DK a.1}(o:a.2.val ρ=some x)
  (j:cr a.1=true):RS a.1 x (deref rd sv):=by
 have same:∀{a:Σ k:EK,ab (HS Γ) (DK k)} {x:DK a.1},(∀x,a.2.val ρ=some x->RS a.1 x sv)->a.2.val ρ=some x->cr a.1=true->RS a.1 x (deref rd sv):=by
  intro a x b s m;rw[Zi m (b x s)];exact b x s
 unfold D6 at h;split at h
 ·rename_i N d;split at h
  ·rename_i l;split at h
   ·rename_i n f u;subst h;obtain⟨y,b,_⟩:=ab.map_val (d:=d) (g:=fun _ _=>()) o;obtain⟨c,e,r⟩:=p y b;unfold Can at r;cases r;obtain⟨cs,m,_⟩:=ET u t i;subst e;show deref rd (.c (.nam N))=.ptr N 0;simp only[deref,m];rw[Ag]at l;rw[if_pos ⟨Ai l.1,Nat.eq_of_beq_eq_true l.2⟩]
   ·subst h;cases j
  ·subst h;cases j
 ·subst h;exact same p o j
theorem Ii(d:af Γ ρ st)(a:∀id,msk.contains id=false->rd id=st.ob id){q:Σ k:EK,ab (HS Γ) (DK k)}{sv:SV}(c:∀x,q.2.val ρ=some x->RS q.1 x sv){x:DK (D6 Γ msk q).1}(b:(D6 Γ msk q).2.val ρ=some x)
  (e:cr (D6 Γ msk q).1=true):RS (D6 Γ msk q).1 x (deref rd sv):=Zh d a c rfl b e
theorem JO(W:af Γ ρ st)(J:∀id,msk.contains id=false->rd id=st.ob id){sz:Option Nat}{q S:Σ k:EK,ab (HS Γ) (DK k)}{sv:SV}{y:DK S.1}(h:E3 Γ msk sz q=some S)(w:S.2.val ρ=some y)
  (F:∀x,q.2.val ρ=some x->RS q.1 x sv):∃D,AO rd sz sv=some D/\RS S.1 y D:=by
 obtain⟨k,d⟩:=q;cases k<;>(try cases h;done)
 ·rename_i t;cases t<;>(try cases h;done);rename_i r;simp only[E3]at h;split at h
  ·split at h<;>(try cases h;done);rename_i p z;cases h;obtain⟨x,s,m⟩:=ab.map_val w;obtain⟨c0,e,C⟩:=F x s;subst e;unfold Can at C;obtain⟨cs,e,K⟩:=C;cases e;obtain⟨c,v,A⟩:=I7 z K;refine⟨.c c, ?_,c,rfl,m▸A⟩;simp[AO,v]
  ·rename_i n;split at h<;>(try cases h;done);rename_i p z;cases h;obtain⟨x,s,m⟩:=ab.map_val w;obtain⟨c0,e,C⟩:=F x s;subst e;unfold Can at C;obtain⟨cs,e,K⟩:=C;cases e;obtain⟨v,A⟩:=NC z K;refine⟨.c (.agg (cs.take n)), ?_,.agg (cs.take n),rfl,by unfold Can;exact⟨_,rfl,m▸v⟩⟩;have:n≤cs.length:=by omega
   simp[AO,CG,this]
 ·rename_i ex r;simp only[E3]at h;split at h
  ·split at h<;>(try cases h;done);rename_i p z;cases h;obtain⟨x,s,m⟩:=ab.map_val w;obtain⟨cs,rest,e,K,_⟩:=F x s;subst e;obtain⟨c,v,A⟩:=I7 z K;refine⟨.c c, ?_,c,rfl,m▸A⟩;have Y:=(Af.1 v).1;simp[AO,List.getElem?_append_left Y,v]
  ·rename_i n;split at h<;>(try cases h;done);rename_i p z;cases h;obtain⟨x,s,m⟩:=ab.map_val w;obtain⟨cs,rest,e,K,_⟩:=F x s;subst e;obtain⟨v,A⟩:=NC z K;refine⟨.c (.agg (cs.take n)), ?_,.agg (cs.take n),rfl,by unfold Can;exact⟨_,rfl,m▸v⟩⟩;have:n≤cs.length+rest.length:=by omega
   simp[AO,CG,this,List.take_append_of_le_length A]
 ·rename_i id o;simp only[E3]at h;split at h<;>(try cases h;done);rename_i n g M;obtain⟨cs,e,hl,H⟩:=ET M W J;split at h
  ·split at h<;>(try cases h;done);rename_i O;split at h<;>(try cases h;done);rename_i p z;cases h;dsimp only at w;obtain⟨u,V,w⟩:=ab.map_val w;have j:sv=.ptr id o:=F u V;subst j;subst w;obtain⟨D,s,m⟩:=H o _ O z;exact⟨D,by simp[AO,e,s],m⟩
  ·rename_i n;split at h<;>(try cases h;done);rename_i O;split at h<;>(try cases h;done);rename_i p z;cases h;dsimp only at w;obtain⟨u,V,w⟩:=ab.map_val w;have j:sv=.ptr id o:=F u V;subst j;subst w;obtain⟨l,s,m,v⟩:=O8 H z O;exact⟨.c (.agg l),by simp only[AO,e];rw[if_pos v,s];rfl,.agg l,rfl,by unfold Can;exact⟨l,rfl,m⟩⟩
  ·cases h
 ·rename_i id size o;simp only[E3]at h;split at h<;>(try cases h;done);rename_i e' U t xs M;split at h<;>(try cases h;done);rename_i I;obtain⟨I,hv⟩:=I;subst I;obtain⟨es,e,N⟩:=ET M W J;split at h
  ·split at h<;>(try cases h;done);rename_i p z;cases h;obtain⟨b,s,m⟩:=ab.comp_val w;obtain⟨i,v,A⟩:=ab.map_val s;subst A;have j:sv=.eptr id i size o:=F i v;subst j;obtain⟨a,T,Q⟩:=Aa.1 m;obtain⟨c,P,h8⟩:=N.get T;obtain⟨c',Z,R⟩:=I7 z (GO hv h8);exact⟨.c c',by simp[AO,e,P,CG,Z],c',rfl,Q▸R⟩
  ·rename_i n;split at h<;>(try cases h;done);rename_i L;split at h<;>(try cases h;done);rename_i p z;cases h;obtain⟨b,s,m⟩:=ab.comp_val w;obtain⟨i,v,A⟩:=ab.map_val s;subst A;have j:sv=.eptr id i size o:=F i v;subst j;obtain⟨a,T,Q⟩:=Aa.1 m;obtain⟨c,P,h8⟩:=N.get T;obtain⟨Z,R⟩:=Xz z (GO hv h8);refine⟨.c (.agg ((c.cells.drop o).take n)), ?_,_,rfl,by unfold Can;exact⟨_,rfl,Q▸Z⟩⟩;have B:o+n≤c.cells.length\/n=0:=by omega
   rcases B with B|B
   ·simp only[AO,e,if_true,P,Option.bind_some,CG];rw[if_pos B];rfl
   ·exact(L B).elim
 ·rename_i id n o;simp only[E3]at h;split at h<;>(try cases h;done);rename_i nb g M;obtain⟨cs,e,hl,H⟩:=ET M W J;split at h<;>(try cases h;done);rename_i t g2 hg2;split at h<;>(try cases h;done);rename_i f hf;split at h<;>(try cases h;done);rename_i O;cases h;obtain⟨b,s,m⟩:=ab.comp_val w;obtain⟨i,v,A⟩:=ab.map_val s;subst A;obtain⟨j,_⟩:=F i v;subst j;obtain⟨T,c,Q,P⟩:=T5 H hf O m;exact⟨.c c,by simp only[AO,e];exact Q,c,rfl,P⟩
theorem Adb(g:af Γ ρ st)(o:∀id,msk.contains id=false->rd id=st.ob id){y:Nat}{x:SO}{d:ab (HS Γ) Int}{n:Int}(h:P4 G Γ msk y x=some d)(b:d.val ρ=some n):CO rd y (so G st.fr x)=some n:=by
 unfold P4 at h;split at h
 ·rename_i d' hd;cases h;obtain⟨s,m,l⟩:=ab.map_val b;obtain⟨c,e,a⟩:=AT hd g m;unfold Can at a;cases a;rw[e,l];rfl
 ·rename_i t d' hd;cases h;obtain⟨s,m,l⟩:=ab.map_val b;obtain⟨c,e,a⟩:=AT hd g m;unfold Can at a;obtain⟨B,es,p,j⟩:=a;cases p;rw[e,l];simp[CO,j.length]
 ·rename_i d' hd;cases h;obtain⟨s,m,l⟩:=ab.map_val b;obtain⟨c,e,a⟩:=AT hd g m;unfold Can at a;cases a;rw[e,l];rfl
 ·rename_i id f hd;split at h<;>(try cases h;done);rename_i p sz t A w;cases h;obtain⟨u,q,b⟩:=ab.map_val b;subst b;obtain⟨es,e,j⟩:=ET w g o;have r:so G st.fr x=.osl id:=AT hd g q;rw[r];simp[CO,e,j.length]
 ·rename_i k v d' hd;cases h;obtain⟨s,m,l⟩:=ab.map_val b;obtain⟨c,e,a⟩:=AT hd g m;unfold Can at a;obtain⟨B,ks,vs,p,i,_⟩:=a;cases p;rw[e,l];simp[CO,i.length]
 ·rename_i id f hd;split at h<;>(try cases h;done);rename_i mt k v A w;cases h;obtain⟨u,q,b⟩:=ab.map_val b;subst b;obtain⟨z,ks,vs,e,_,i,_⟩:=ET w g o;have r:so G st.fr x=.omap id:=AT hd g q;rw[r];simp[CO,e,i.length]
 ·cases h
theorem Vq(J:af Γ ρ st){key:SO}{i:Σ t:Ty,ab (HS Γ) (D t)}(l:ao Γ key=some i){ok:Bool}{k v:Ty}{n:ab (HS Γ) (List (D k×D v))}{q:Σ k:EK,ab (HS Γ) (DK k)}{y:DK q.1}(h:Mt Γ i ok k v n=some q)(I:q.2.val ρ=some y):
  ∃m e,n.val ρ=some m/\so G st.fr key=.c e/\DT k=true/\AE (b4 k) e=true/\
    ∀{ks vs:List CV},CanAll (fun x c=>Can k x.1 [c]) m ks->CanAll (fun x c=>Can v x.2 [c]) m vs->∀{z:CV},Can v (AL v) [z]->∃c,(let(a,b):=AK (b4 k) z ks vs e;some (if ok then CV.tup [a,.bool b]else a))=some c/\RS q.1 y (.c c):=by
 unfold Mt at h;split at h<;>(try cases h;done);rename_i f K;split at h<;>(try cases h;done);rename_i j;split at h
 ·cases h;obtain⟨p,H,F⟩:∃p,(n.both i.2).val ρ=some p/\y=AP (aj k) (AL v) (f p.2) p.1:=ab.map_val (C:=D (.tup (.cons v (.one .bool)))) (B:=List (D k×D v)×D i.1) (g:=fun _ p=>AP (aj k) (AL v) (f p.2) p.1) I;obtain⟨A,w⟩:=ab.both_val H;obtain⟨e,u,s⟩:=AB (G:=G) l J w;have d:=C0 _ _ K s;refine⟨p.1,e,A,u,j,(Hr j d d).2,fun{ks vs} g1 g2 {z} g3=> ?_⟩;obtain⟨c,r,o⟩:=Mu j d g3 g1 g2;rw[r];subst F;refine⟨_,rfl,_,rfl, ?_⟩;unfold Can;refine⟨_,rfl, ?_⟩;unfold Can;refine⟨_,_,rfl,o, ?_⟩;unfold Can;exact⟨_,rfl,by unfold Can;rfl⟩
 ·cases h;obtain⟨p,H,F⟩:∃p,(n.both i.2).val ρ=some p/\y=(AP (aj k) (AL v) (f p.2) p.1).1:=ab.map_val (C:=D v) (B:=List (D k×D v)×D i.1) (g:=fun _ p=>(AP (aj k) (AL v) (f p.2) p.1).1) I;obtain⟨A,w⟩:=ab.both_val H;obtain⟨e,u,s⟩:=AB (G:=G) l J w;have d:=C0 _ _ K s;refine⟨p.1,e,A,u,j,(Hr j d d).2,fun{ks vs} g1 g2 {z} g3=> ?_⟩;obtain⟨c,r,o⟩:=Mu j d g3 g1 g2;rw[r];subst F;exact⟨_,rfl,_,rfl,o⟩
theorem Adq(a:af Γ ρ st)(n:∀id,msk.contains id=false->rd id=st.ob id){mt:TypeId}{kt:KT}{z:CV}{ok:Bool}{x key:SO}{q:Σ k:EK,ab (HS Γ) (DK k)}{y:DK q.1}(h:PE G Γ msk mt kt z ok x key=some q)(B:q.2.val ρ=some y):
  ∃c,Ej rd mt kt z ok (so G st.fr x) (so G st.fr key)=some c/\RS q.1 y (.c c):=by
 unfold PE at h;split at h<;>(try cases h;done);rename_i O b;split at h
 ·rename_i k v d hd;split at h<;>(try cases h;done);rename_i i;obtain⟨m,L,g,t,C,s,r⟩:=Vq (G:=G) a b h B;obtain⟨c,e,D⟩:=AT hd a g;unfold Can at D;obtain⟨M,ks,vs,K,j,l⟩:=D;cases K;rw[e,t];have p:=Vh i.2;subst p;obtain⟨c,A,w⟩:=r j l (QY i.1);refine⟨c, ?_,w⟩;simp only[Ej,s,Vb C j,Bool.and_self,if_true];exact A
 ·rename_i id f hd;split at h<;>(try cases h;done);rename_i F k v N J;split at h<;>(try cases h;done);rename_i o;subst o;obtain⟨m,L,g,t,C,s,r⟩:=Vq (G:=G) a b h B;obtain⟨u,H,g⟩:=ab.map_val g;subst g;obtain⟨z',ks,vs,e,i,j,l⟩:=ET J a n;have I:so G st.fr x=.omap id:=AT hd a H;rw[I,t];obtain⟨c,A,w⟩:=r j l i;refine⟨c, ?_,w⟩;simp only[Ej,e,s,and_self,if_true];exact A
 ·cases h
end
theorem GD{t:Ty}{x:D t}{c:CV}(b:Fi t=true)(h:Can t x [c]):Cv c=true:=by
 cases t<;>simp only[Fi,Ah]at b<;>unfold Can at h
 case clo=>obtain⟨l,e,_⟩:=h;cases e;rfl
 case falt f r l=>
  obtain⟨d,e,_,a⟩:=Mh (t:=.falt f r l) b (by unfold Can;exact h);cases e;cases c<;>first|rfl|(exact absurd rfl (a _).1)|(exact absurd rfl (a _).2)
 case sl=>obtain⟨_,_,e,_⟩:=h;cases e;rfl
 case map=>obtain⟨_,_,_,e,_⟩:=h;cases e;rfl
 case err=>cases x<;>(cases h;rfl)
 case pt=>obtain⟨l,e,_⟩:=h;cases e;rfl
 case bptr=>rcases h with e|e|e<;>(cases e;rfl)
 all_goals(cases h;rfl)
theorem Qa:∀{r:Ty} {x:D r} {l:List CV},Fh r=true->Can r x l->l.all Cv=true:=by
 intro r
 induction r with
 |nil=>intro x l _ h;unfold Can at h;subst h;rfl
 |one t _=>intro x l a h;unfold Can at h;obtain⟨c,rfl,h⟩:=h;simp[GD a h]
 |cons t r _ ihr=>
  intro x l a h;simp only[Fh,Ag]at a;unfold Can at h;obtain⟨c,l',rfl,d,b⟩:=h;simp only[List.all_cons,Ag];exact⟨GD a.1 d,ihr a.2 b⟩
 |_=>intro x l a;cases a
theorem Jn{t:Ty}{n:Nat}{f:List (D t)}{es:List CV}(e:t.val=true)(j:AQ (BL t)=some n)(g:Fh (BL t)=true)(h:CanAll (fun x c=>Can t x [c]) f es):(es.all (fun v=>AX v==n)&&es.all fun v=>v.cells.all Cv)=true:=by
 rw[Ag,List.all_eq_true,List.all_eq_true];refine⟨fun c b=> ?_,fun c b=> ?_⟩
 ·obtain⟨i,hi⟩:=List.getElem?_of_mem b;obtain⟨a,_,d⟩:=h.getB hi;simp[(Gx e j d).2]
 ·obtain⟨i,hi⟩:=List.getElem?_of_mem b;obtain⟨a,_,d⟩:=h.getB hi;exact Qa g (GO e d)
theorem P2{n:Nat}{i:Int}(e:(n:Int)=i)(h:i≤140737488355328):n≤140737488355328:=by omega
theorem P3{n:Nat}{i:Int}(e:(n:Int)=i)(h:i≤4611686018427387904):n≤4611686018427387904:=by omega
section
variable {G:Nat->List CV} {Γ:TC} {msk:List Nat} {ρ:HS Γ} {st:St} {rd:Nat->Ob}
theorem Acv{d β:Type}{R:d->β->Prop}{e:List d}{es:List β}(h:CanAll R e es){n:Int}{a:d}(c:ap e n=some a):∃b,idxOf n es.length=some n.toNat/\es[n.toNat]? =some b/\R a b/\e[n.toNat]? =some a:=by
 unfold ap at c;split at c<;>(try cases c;done);rename_i f;obtain⟨b,i,g⟩:=h.get c;refine⟨b, ?_,i,g,c⟩;unfold idxOf;rw[h.length,if_pos f]
theorem Py{d:Type}{c:List d}{n:Int}{a:d}(b:ap c n=some a):0≤n/\n<c.length/\c[n.toNat]? =some a:=by
 unfold ap at b;split at b<;>(try cases b;done);rename_i e;exact⟨e.1,e.2,b⟩
theorem Pz{d:Type}{a c:List d}{lo hi:Int}(h:JI a lo hi=some c):0≤lo/\lo≤hi/\hi≤a.length/\c=(a.take hi.toNat).drop lo.toNat:=by
 unfold JI at h;split at h<;>(try cases h;done);rename_i b;cases h;exact⟨b.1,b.2.1,b.2.2,rfl⟩
theorem O2:∀{a:List Int} {es:List CV},CanAll (fun x c=>Can (.int .u8) x [c]) a es->Fc es=some a
 | [],es,h=>by unfold CanAll at h;subst h;rfl
 |n::a,es,h=>by
  obtain⟨c,e,rfl,b,d⟩:=h;unfold Can at b;cases b;simp[Fc,O2 d]
theorem Gk{x:SO}{q:Σ k:EK,ab (HS Γ) (DK k)}(h:(b5 G Γ x).map (D6 Γ msk)=some q)(c:af Γ ρ st)(b:∀id,msk.contains id=false->rd id=st.ob id){a:DK q.1}(g:q.2.val ρ=some a)(f:cr q.1=true):RS q.1 a (deref rd (so G st.fr x)):=by
 obtain⟨p,e,rfl⟩:=Aa.1 h;exact Ii c b (fun x d=>AT e c d) g f
theorem ZO{k:EK}{z:DK k}{s:SV}(b:flatK k=true)(h:RS k z s):∀id i sz o,s≠ .eptr id i sz o:=by
 intro id i sz o a;subst a;cases k<;>(try cases b;done)
 case v t=>obtain⟨c,e,_⟩:=h;cases e
 case rp ex r=>obtain⟨_,_,e,_⟩:=h;cases e
 case ptr=>cases h
 case aptr=>obtain⟨e,_⟩:=h;cases e
theorem Adn{sz:Option Nat}{q c:Σ k:EK,ab (HS Γ) (DK k)}(h:E3 Γ msk sz q=some c){y:DK c.1}(b:c.2.val ρ=some y):∃z,q.2.val ρ=some z:=by
 unfold E3 at h
 repeat' split at h
 all_goals try(cases h;done)
 all_goals
  cases h;try dsimp only at b
  first
   |exact(ab.map_val b).imp fun _ a=>a.1
   |exact(ab.comp_val b).imp fun _ a=>a.1
   |exact(ab.comp_val b).elim fun _ a=>(ab.map_val a.1).imp fun _ d=>d.1
theorem JN{sz:Option Nat}{q a:Σ k:EK,ab (HS Γ) (DK k)}(h:E3 Γ msk sz q=some a):cr q.1=true:=by
 obtain⟨k,d⟩:=q
 cases k<;>first
  |rfl
  |(cases h;done)
  |(rename_i t;cases t<;>first|rfl|(cases h;done))
theorem P9(i:af Γ ρ st){G:Nat->List CV}{t:Ty}:∀{a:List SO} {e:ab (HS Γ) (List (D t))} {d:List (D t)},Iz Γ t a=some e->e.val ρ=some d->∃l,Aq (fun x=>closed (so G st.fr x)) a=some l/\CanAll (fun x c=>Can t x [c]) d l
 | [],e,d,h,hy=>by
  simp only[Iz,Ac]at h;subst h;cases hy;exact⟨[],rfl,rfl⟩
 |x::a,e,d,h,hy=>by
  simp only[Iz]at h;split at h<;>(try cases h;done);rename_i q y j f;split at h<;>(try cases h;done);rename_i g k;cases h;obtain⟨p,w,v⟩:=ab.map_val hy;obtain⟨u,s⟩:=ab.both_val w;obtain⟨c,r,o⟩:=AB (G:=G) j i u;obtain⟨l,n,m⟩:=P9 i (G:=G) f s;subst v;refine⟨c::l, ?_,c,l,rfl,C0 _ _ k o,m⟩;have e:Aq (fun x=>closed (so G st.fr x)) (x::a)=(closed (so G st.fr x)).bind fun b=>(Aq (fun x=>closed (so G st.fr x)) a).map fun bs=>b::bs:=rfl;rw[e,r,n];rfl
theorem XB(B:af Γ ρ st)(M:∀id,msk.contains id=false->rd id=st.ob id){op:aa}{q:Σ k:EK,ab (HS Γ) (DK k)}{y:DK q.1}(h:QR G Γ msk op=some q)(m:q.2.val ρ=some y):
  ∃sv,An rd (so G st.fr) op=some sv/\RS q.1 y sv:=by
 cases op<;>simp only[QR]at h<;>(try cases h;done)
 case mov x=>exact⟨_,rfl,AT h B m⟩
 case pick c a b=>
  split at h<;>(try cases h;done);rename_i dc qa qb hc ha hb
  have ay:∀{t:Ty} {f:D qa.1->D t} {g:D qb.1->D t},(∀{x:D qa.1} {cs:List CV},Can qa.1 x cs->Can t (f x) cs)->(∀{x:D qb.1} {cs:List CV},Can qb.1 x cs->Can t (g x) cs)->∀{z:D t},(Kk dc (qa.2.map fun _ y=>f y) (qb.2.map fun _ y=>g y)).val ρ=some z->
    ∃sv,An rd (so G st.fr) (.pick c a b)=some sv/\RS (.v t) z sv:=by
   intro t f g hf hg z hz;obtain⟨b',C,A⟩:=Ae7 hz;obtain⟨P,J,K⟩:=AB (G:=G) hc B C;unfold Can at K;cases K;cases b'
   ·simp only[Ah,if_false]at A;obtain⟨w,Q,W⟩:=ab.map_val A;obtain⟨Z,h7,h8⟩:=AB (G:=G) hb B Q;exact⟨so G st.fr b,by simp[An,J],Z,h7,W▸hg h8⟩
   ·simp only[if_true]at A;obtain⟨w,Q,W⟩:=ab.map_val A;obtain⟨Z,h7,h8⟩:=AB (G:=G) ha B Q;exact⟨so G st.fr a,by simp[An,J],Z,h7,W▸hf h8⟩
  have idm:∀{t:Ty} (d:ab (HS Γ) (D t)),d.map (fun _ y=>y)=d:=by
   intro t d
   cases d with
   |tot f=>rfl
   |par f=>
    simp only[ab.map,ab.par.injEq];funext a;cases f a<;>rfl
  split at h
  ·rename_i g hg;cases h;try dsimp only at m
   refine ay (f:=fun y=>y) (fun hx=>hx) (fun hx=>C0 _ _ hg hx) ?_;rw[idm];exact m
  ·split at h<;>(try cases h;done);rename_i g hg;cases h;try dsimp only at m
   refine ay (g:=fun y=>y) (fun hx=>C0 _ _ hg hx) (fun hx=>hx) ?_;rw[idm];exact m
 case bin op x y'=>
  split at h<;>(try cases h;done);rename_i p q' R hq;split at h<;>(try cases h;done);rename_i b hb;cases h;try dsimp only at m
  obtain⟨z,C,A⟩:=ab.comp_val m;obtain⟨J,K⟩:=ab.both_val C;obtain⟨P,F,j⟩:=AB (G:=G) R B J;obtain⟨Z,L,H⟩:=AB (G:=G) hq B K;obtain⟨c,Q,W⟩:=Yt hb j H A;exact⟨.c c,by simp[An,F,L,Q],c,rfl,W⟩
 case eqs neg ts x y'=>
  split at h<;>(try cases h;done);rename_i r d s e hd he;split at h<;>(try cases h;done);rename_i f hf
  split at h<;>
  ·cases h;try dsimp only at m
   obtain⟨z,C,A⟩:=ab.map_val m;obtain⟨J,K⟩:=ab.both_val C;obtain⟨P,F,j⟩:=AB (G:=G) hd B J;obtain⟨Z,L,H⟩:=AB (G:=G) he B K;unfold Can at j H;obtain⟨l1,q1,j⟩:=j;obtain⟨l2,q2,H⟩:=H;cases q1;cases q2;have Q:=Z6 hf j H;exact⟨.c (.bool y),by rw[A];simp[An,F,L,cS,Q],_,rfl,by unfold Can;rfl⟩
 case beq neg x y'=>
  split at h<;>(try cases h;done);rename_i d e hd he
  split at h<;>
  ·cases h;try dsimp only at m
   obtain⟨z,C,A⟩:=ab.map_val m;obtain⟨J,K⟩:=ab.both_val C;obtain⟨P,F,j⟩:=AB (G:=G) hd B J;obtain⟨Z,L,H⟩:=AB (G:=G) he B K;unfold Can at j H;cases j;cases H;exact⟨.c (.bool y),by rw[A];simp[An,F,L],_,rfl,by unfold Can;rfl⟩
 case isnil kd neg x=>
  split at h<;>(try cases h;done)
  ·rename_i d hd
   split at h<;>
   ·cases h;try dsimp only at m
    obtain⟨z,C,A⟩:=ab.map_val m;obtain⟨P,F,j⟩:=AB (G:=G) hd B C;unfold Can at j;cases j;refine⟨.c (.bool y), ?_,_,rfl,by unfold Can;rfl⟩;rw[A];cases z<;>simp[An,F]
  ·rename_i d hd;cases h;try dsimp only at m
   obtain⟨z,C,A⟩:=ab.map_val m;obtain⟨P,F,j⟩:=AB (G:=G) hd B C;unfold Can at j;cases j;refine⟨.c (.bool y), ?_,_,rfl,by unfold Can;rfl⟩;rw[A];cases neg<;>simp[An,F]
  ·rename_i d hd;cases h;try dsimp only at m
   obtain⟨z,C,A⟩:=ab.map_val m;obtain⟨P,F,j⟩:=AB (G:=G) hd B C;unfold Can at j;cases j;refine⟨.c (.bool y), ?_,_,rfl,by unfold Can;rfl⟩;rw[A];cases neg<;>simp[An,F]
 case mentry x=>
  split at h<;>(try cases h;done);rename_i id d hd;split at h<;>(try cases h;done);rename_i k v f hg;cases h;try dsimp only at m
  obtain⟨u,hu,rfl⟩:=ab.map_val m;obtain⟨ks,vs,ck,cv,e,hk,U⟩:=ET hg B M;have T:so G st.fr x=.iter id:=AT hd B hu;refine⟨.c (.tup [ck,cv]),by simp only[An,T,e],_,rfl, ?_⟩;unfold Can;refine⟨[ck,cv],rfl, ?_⟩;unfold Can;exact⟨ck,[cv],rfl,hk,by unfold Can;exact⟨cv,rfl,U⟩⟩
 case un op x=>
  split at h<;>(try cases h;done)
  all_goals
   rename_i d hd;cases h;try dsimp only at m
   obtain⟨z,C,A⟩:=ab.map_val m;obtain⟨P,F,j⟩:=AB (G:=G) hd B C;unfold Can at j;cases j;subst A;exact⟨_,by simp only[An,F];rfl,_,rfl,by unfold Can;rfl⟩
 case cvi k x=>
  split at h<;>(try cases h;done);rename_i k' d hd;cases h;try dsimp only at m
  obtain⟨z,C,A⟩:=ab.map_val m;obtain⟨P,F,j⟩:=AB (G:=G) hd B C;unfold Can at j;cases j;subst A;exact⟨_,by simp only[An,F];rfl,_,rfl,by unfold Can;rfl⟩
 case cvrune x=>
  split at h<;>(try cases h;done);rename_i k' d hd;cases h;try dsimp only at m
  obtain⟨z,C,A⟩:=ab.map_val m;obtain⟨P,F,j⟩:=AB (G:=G) hd B C;unfold Can at j;cases j;subst A;exact⟨_,by simp only[An,F];rfl,_,rfl,by unfold Can;rfl⟩
 case bytes e x=>
  split at h<;>(try cases h;done);rename_i d hd;cases h;try dsimp only at m
  obtain⟨s,C,A⟩:=ab.comp_val m;obtain⟨P,F,j⟩:=AB (G:=G) hd B C;unfold Can at j;cases j;simp only[ab.val]at A;split at A<;>(try cases A;done);rename_i hl;cases A;refine⟨_,by simp only[An,F];rw[if_pos hl],_,rfl, ?_⟩;unfold Can;refine⟨_,_,rfl, ?_⟩;clear C F hl m
  induction s with
  |nil=>rfl
  |cons b s ih=>exact⟨_,_,rfl,by unfold Can;rfl,ih⟩
 case cvbs x=>
  split at h<;>(try cases h;done)
  ·rename_i d hd;cases h;try dsimp only at m
   obtain⟨ns,C,A⟩:=ab.map_val m;obtain⟨c,F,j⟩:=AT hd B C;unfold Can at j;obtain⟨nl,es,L,j⟩:=j;cases L;exact⟨.c (.str y),by simp only[An,F,O2 j,Option.map_some,A],_,rfl,by unfold Can;rfl⟩
  ·rename_i d hd;cases h;try dsimp only at m
   obtain⟨ns,C,A⟩:=ab.map_val m;obtain⟨c,F,j⟩:=AT hd B C;unfold Can at j;cases j;exact⟨.c (.str y),by rw[A];simp[An,F,Fc],_,rfl,by unfold Can;rfl⟩
  ·rename_i id d hd;split at h<;>(try cases h;done);rename_i e' sz xs hg;cases h;try dsimp only at m
   obtain⟨u,C,A⟩:=ab.map_val m;obtain⟨es,e,hes⟩:=ET hg B M;have T:so G st.fr x=.osl id:=AT hd B C;exact⟨.c (.str y),by simp only[An,T,e,O2 hes,Option.map_some,A],_,rfl,by unfold Can;rfl⟩
 case cvid x=>
  split at h<;>(try cases h;done);rename_i d hd;cases h;try dsimp only at m
  obtain⟨P,F,j⟩:=AB (G:=G) hd B m;have Y:=j;unfold Can at Y;cases Y;exact⟨_,by simp only[An,F],_,rfl,j⟩
 case nchk x=>
  split at h<;>(try cases h;done)
  ·rename_i N d hd;split at h<;>(try cases h;done);rename_i hN;cases h;try dsimp only at m
   obtain⟨c,F,j⟩:=AT (G:=G) hd B m;have Y:=j;unfold Can at Y;cases Y;exact⟨_,by simp only[An,F,if_pos (Nat.eq_of_beq_eq_true hN)],_,rfl,j⟩
  ·rename_i r d hd;cases h;try dsimp only at m
   obtain⟨c,F,j⟩:=AT (G:=G) hd B m;have Y:=j;unfold Can at Y;obtain⟨cs,L,_⟩:=Y;cases L;exact⟨_,by simp only[An,F],_,rfl,j⟩
  ·rename_i ex r d hd;cases h;try dsimp only at m
   obtain⟨cs,rest,F,j,H⟩:=AT (G:=G) hd B m;exact⟨_,by simp only[An,F],cs,rest,rfl,j,H⟩
  ·rename_i id o d hd;cases h;try dsimp only at m
   have T:so G st.fr x=.ptr id o:=AT hd B m;exact⟨_,by simp only[An,T],rfl⟩
  ·rename_i id s o d hd;cases h;try dsimp only at m
   have T:so G st.fr x=.eptr id y s o:=AT hd B m;exact⟨_,by simp only[An,T],rfl⟩
 case lsl e size parts=>
  split at h<;>(try cases h;done);rename_i x xs;split at h<;>(try cases h;done);rename_i t d hd;split at h<;>(try cases h;done);rename_i l hl;split at h<;>(try cases h;done);rename_i U;cases h;try dsimp only at m
  obtain⟨cs,C,A⟩:=P9 B (G:=G) hl m
  have V:(cs.all fun v=>AX v==size)=true:=by
   rw[List.all_eq_true];intro c hc;obtain⟨i,hi⟩:=List.getElem?_of_mem hc;obtain⟨a,_,h7⟩:=A.getB hi;simp[(Gx U.1 U.2 h7).2]
  refine⟨.c (.sl none cs), ?_,_,rfl,by unfold Can;exact⟨none,cs,rfl,A⟩⟩;simp only[An,C,Option.bind_some];rw[if_pos V]
 case build z parts=>
  split at h<;>(try cases h;done);rename_i p R;split at h<;>(try cases h;done);rename_i r hr';cases h;try dsimp only at m
  obtain⟨_,l,cs',C,A,J⟩:=Ae0 (G:=G) B hr' m (cs:=z) (fun y hy'=>by cases hy';exact Ic R);refine⟨.c (.agg cs'), ?_,_,rfl,by unfold Can;exact⟨_,rfl,J⟩⟩;simp only[An];rw[C];simp[A]
 case field off sz x=>
  split at h<;>(try cases h;done);rename_i r d hd;split at h
  ·split at h<;>(try cases h;done);rename_i p R;cases h;try dsimp only at m
   obtain⟨z,C,A⟩:=ab.map_val m;obtain⟨P,F,j⟩:=AB (G:=G) hd B C;unfold Can at j;obtain⟨l,L,j⟩:=j;cases L;obtain⟨c,J,K⟩:=I7 R j;exact⟨.c c,by simp[An,F,CG,J],c,rfl,A▸K⟩
  ·rename_i n;split at h<;>(try cases h;done);rename_i p R;split at h<;>(try cases h;done);rename_i hn;cases h;try dsimp only at m
   obtain⟨z,C,A⟩:=ab.map_val m;obtain⟨P,F,j⟩:=AB (G:=G) hd B C;unfold Can at j;obtain⟨l,L,j⟩:=j;cases L;obtain⟨J,K⟩:=Xz R j;have hle:off+n≤l.length:=by omega
   exact⟨.c (.agg ((l.drop off).take n)),by simp[An,F,CG,hle],_,rfl,by unfold Can;exact⟨_,rfl,A▸J⟩⟩
 case ext x i=>
  split at h<;>(try cases h;done)
  ·rename_i r d hd;split at h<;>(try cases h;done);rename_i p R;cases h;try dsimp only at m
   obtain⟨z,C,A⟩:=ab.map_val m;obtain⟨P,F,j⟩:=AT hd B C;unfold Can at j;obtain⟨l,L,j⟩:=j;cases L;obtain⟨c,J,K⟩:=I7 R j;exact⟨.c c,by simp[An,F,J],c,rfl,A▸K⟩
  ·rename_i id k v d hd;split at h<;>(try cases h;done)
   ·cases h;try dsimp only at m
    obtain⟨z,C,A⟩:=ab.map_val m;obtain⟨ck,cv,F,j,H⟩:=AT hd B C;exact⟨.c cv,by simp[An,F],cv,rfl,A▸H⟩
   ·cases h;try dsimp only at m
    obtain⟨z,C,A⟩:=ab.map_val m;obtain⟨ck,cv,F,j,H⟩:=AT hd B C;exact⟨.stamp id ck,by simp[An,F],ck,rfl,A▸j⟩
 case minmax mx xs=>
  split at h<;>(try cases h;done);rename_i x xs;split at h<;>(try cases h;done);rename_i k d hd;split at h<;>(try cases h;done);rename_i e he;cases h;try dsimp only at m
  obtain⟨a,l,C,A,J⟩:=Ad1 (G:=G) B he m;obtain⟨P,F,j⟩:=AB (G:=G) hd B C;unfold Can at j;cases j;refine⟨_, ?_,_,rfl,by unfold Can;rfl⟩;have e:Aq (fun x=>closed (so G st.fr x)) (x::xs)=(closed (so G st.fr x)).bind fun b=>(Aq (fun x=>closed (so G st.fr x)) xs).map fun bs=>b::bs:=rfl;simp only[An];rw[e,F,A];simp only[closed,Option.bind_some,Option.map_some,J]
 case fnv f caps=>
  split at h<;>(try cases h;done);rename_i p R;cases h;try dsimp only at m
  obtain⟨l,C,A⟩:=Jm (G:=G) B R m;refine⟨.c (.fn f l), ?_,_,rfl,by unfold Can;exact⟨l,rfl,A⟩⟩;simp only[An];rw[C];rfl
 case faddr off x=>
  split at h<;>(try cases h;done)
  ·rename_i ex r d hd;split at h<;>(try cases h;done);rename_i p R;cases h;try dsimp only at m
   obtain⟨z,C,A⟩:=ab.map_val m;obtain⟨cs,rest,F,j,H⟩:=Gk hd B M C rfl;obtain⟨g3,g4⟩:=LQ R j;have hle:off≤cs.length:=by omega
   refine⟨_,by simp only[An,F];rw[if_pos (by simp;omega)],cs.drop off,rest, ?_,A▸g3,H⟩;rw[List.drop_append_of_le_length hle]
  ·rename_i r d hd;split at h<;>(try cases h;done);rename_i p R;cases h;try dsimp only at m
   obtain⟨z,C,A⟩:=ab.map_val m;obtain⟨c0,F,hc0⟩:=Gk hd B M C rfl;unfold Can at hc0;obtain⟨cs,e,j⟩:=hc0;cases e;obtain⟨g3,g4⟩:=LQ R j;have hle:off≤cs.length:=by omega
   refine⟨_,by simp only[An,F];rw[if_pos hle],cs.drop off,[],by rw[List.append_nil],A▸g3,fun _=>rfl⟩
  ·rename_i id o d hd;cases h;try dsimp only at m
   have T:deref rd (so G st.fr x)=.ptr id o:=Gk hd B M m rfl;exact⟨.ptr id (o+off),by simp[An,T],rfl⟩
  ·rename_i id s o d hd;cases h;try dsimp only at m
   have T:deref rd (so G st.fr x)=.eptr id y s o:=Gk hd B M m rfl;exact⟨.eptr id y s (o+off),by simp[An,T],rfl⟩
  ·rename_i id n o d hd;split at h<;>(try cases h;done);rename_i h0;cases h;try dsimp only at m
   have T:=Gk hd B M m rfl;obtain⟨hs1,hs2⟩:=T;exact⟨.ptr id (o+y),by simp[An,hs1,h0],rfl,hs2⟩
 case iaddr size x i=>
  split at h<;>(try cases h;done)
  ·rename_i e d k di hd O;split at h<;>(try cases h;done);rename_i U;cases h;try dsimp only at m
   obtain⟨z,C,A⟩:=ab.comp_val m;obtain⟨J,K⟩:=ab.both_val C;obtain⟨a,Q,W⟩:=Aa.1 A;obtain⟨P,F,j⟩:=AT hd B J;obtain⟨Z,L,H⟩:=AB (G:=G) O B K;unfold Can at j H;cases H;obtain⟨nl,es,e3,j⟩:=j;cases e3;obtain⟨c,i1,i2,i3,_⟩:=Acv j Q;obtain⟨n1,n2⟩:=Gx U.1 U.2 i3;refine⟨.c (.rp c.cells), ?_,c.cells,[],by simp,W▸GO U.1 i3,fun _=>rfl⟩;simp[An,Eg,F,L,i1,i2,n2]
  ·rename_i id f k di hd O;split at h<;>(try cases h;done);rename_i e' sz t xs hg;split at h<;>(try cases h;done);rename_i hsz;cases h;try dsimp only at m
   obtain⟨z,C,A⟩:=ab.comp_val m;obtain⟨n,J,K⟩:=ab.map_val C;obtain⟨u,n⟩:=n;obtain⟨Q,W⟩:=ab.both_val J;have S:z=some y:=A;subst S;obtain⟨Z,L,H⟩:=AB (G:=G) O B W;unfold Can at H;cases H;obtain⟨es,e,hes⟩:=ET hg B M;have T:so G st.fr x=.osl id:=AT hd B Q;split at K<;>(try cases K;done);rename_i hn;cases K;refine⟨.eptr id n.toNat size 0, ?_,rfl⟩
   have hi:idxOf n es.length=some n.toNat:=by
    unfold idxOf;rw[hes.length,if_pos hn]
   simp[An,Eg,T,L,e,hsz,hi]
 case aaddr len size x i=>
  split at h<;>(try cases h;done)
  case h_2=>
   rename_i id o d k di hd O;split at h<;>(try cases h;done);rename_i hsz;subst hsz;cases h;try dsimp only at m
   obtain⟨z,C,A⟩:=ab.comp_val m;obtain⟨J,K⟩:=ab.both_val C;obtain⟨Z,L,H⟩:=AB (G:=G) O B K;unfold Can at H;cases H;have T:so G st.fr x=.ptr id o:=AT hd B J;have S:(if 0≤(z.2:Int)/\(z.2:Int)<(len:Int)then some (z.2:Int).toNat else none)=some y:=A;split at S<;>(try cases S;done);rename_i hn;cases S;refine⟨.ptr id (o+(z.2:Int).toNat), ?_,rfl,(Int.toNat_lt hn.1).2 hn.2⟩
   have hi:idxOf z.2 len=some z.2.toNat:=by
    unfold idxOf;rw[if_pos hn]
   simp[An,Ev,T,L,hi]
  rename_i r d k di hd O;split at h<;>(try cases h;done);rename_i p R;split at h<;>(try cases h;done);rename_i f hf;split at h<;>(try cases h;done);rename_i I;cases h;try dsimp only at m
  obtain⟨z,C,A⟩:=ab.comp_val m;obtain⟨J,K⟩:=ab.both_val C;obtain⟨cs,rest,F,j,g3⟩:=AT hd B J;have hrest:=g3 rfl;subst hrest;obtain⟨Z,L,H⟩:=AB (G:=G) O B K;unfold Can at H;cases H;obtain⟨j1,j2,j3⟩:=Py A;obtain⟨a1,a2⟩:=Ox hf j;obtain⟨a3,a4⟩:=a2 j3;have hl:=EP I j;refine⟨.c (.rp ((cs++ []).drop (z.2.toNat*size))), ?_,(cs.drop (z.2.toNat*size)).take size,(cs.drop (z.2.toNat*size)).drop size, ?_,a3,fun hh=>by cases hh⟩
  ·have hi:idxOf z.2 len=some z.2.toNat:=by
    unfold idxOf;rw[if_pos ⟨j1,by rw[a1]at j2;exact j2⟩]
   simp[An,Ev,F,L,hl,hi]
  ·rw[List.append_nil,List.take_append_drop]
 case sidx x i=>
  split at h<;>(try cases h;done);rename_i d k di hd O;cases h;try dsimp only at m
  obtain⟨z,C,A⟩:=ab.comp_val m;obtain⟨J,K⟩:=ab.both_val C;obtain⟨P,F,j⟩:=AB (G:=G) hd B J;obtain⟨Z,L,H⟩:=AB (G:=G) O B K;unfold Can at j H;cases j;cases H;have S:bQ z.1 z.2=some y:=A;unfold bQ at S;split at S<;>(try cases S;done);rename_i hn;obtain⟨b,Q,W⟩:=Aa.1 S;refine⟨.c (.int .u8 y), ?_,_,rfl,by unfold Can;rfl⟩
  have hi:idxOf z.2 z.1.length=some z.2.toNat:=by
   unfold idxOf;rw[if_pos hn]
  simp[An,F,L,hi,Q,W]
 case aidx len size sz x i=>
  split at h<;>(try cases h;done);rename_i r d k di hd O;split at h
  ·split at h<;>(try cases h;done);rename_i p R;split at h<;>(try cases h;done);rename_i p1 hp1;split at h<;>(try cases h;done);rename_i f hf;split at h<;>(try cases h;done);rename_i I;subst I;cases h;try dsimp only at m
   obtain⟨z,C,A⟩:=ab.comp_val m;obtain⟨J,K⟩:=ab.both_val C;obtain⟨a,Q,W⟩:=Aa.1 A;obtain⟨P,F,j⟩:=AB (G:=G) hd B J;obtain⟨Z,L,H⟩:=AB (G:=G) O B K;unfold Can at j H;cases H;obtain⟨l,e3,j⟩:=j;cases e3;obtain⟨j1,j2,j3⟩:=Py Q;obtain⟨a1,a2⟩:=Ox hf j;obtain⟨a3,a4⟩:=a2 j3;obtain⟨c,b1,b2⟩:=I7 hp1 a3;refine⟨.c c, ?_,c,rfl,W▸b2⟩
   have hi:idxOf z.2 len=some z.2.toNat:=by
    unfold idxOf;rw[if_pos ⟨j1,by rw[a1]at j2;exact j2⟩]
   simp only[Nat.mul_one]at b1 a4
   have hc:l[z.2.toNat]? =some c:=by
    rw[List.getElem?_take_of_lt (by omega),List.getElem?_drop]at b1;simpa using b1
   simp[An,F,L,hi,CG,hc]
  ·rename_i n;split at h<;>(try cases h;done);rename_i p R;split at h<;>(try cases h;done);rename_i f hf;split at h<;>(try cases h;done);rename_i I;obtain⟨I,hpos⟩:=I;subst I;cases h;try dsimp only at m
   obtain⟨z,C,A⟩:=ab.comp_val m;obtain⟨J,K⟩:=ab.both_val C;obtain⟨P,F,j⟩:=AB (G:=G) hd B J;obtain⟨Z,L,H⟩:=AB (G:=G) O B K;unfold Can at j H;cases H;obtain⟨l,e3,j⟩:=j;cases e3;obtain⟨j1,j2,j3⟩:=Py A;obtain⟨a1,a2⟩:=Ox hf j;obtain⟨a3,a4⟩:=a2 j3;refine⟨.c (.agg ((l.drop (z.2.toNat*n)).take n)), ?_,_,rfl,by unfold Can;exact⟨_,rfl,a3⟩⟩
   have hi:idxOf z.2 len=some z.2.toNat:=by
    unfold idxOf;rw[if_pos ⟨j1,by rw[a1]at j2;exact j2⟩]
   simp[An,F,L,hi,CG,a4]
 case load sz x=>
  split at h<;>(try cases h;done);rename_i p R;exact JO B M h m fun x hx=>Ii B M (fun x hx=>AT R B hx) hx (JN h)
 case loadb sz x=>
  split at h<;>(try cases h;done);rename_i p R;split at h<;>(try cases h;done);rename_i hfl;have key:∀z,(D6 Γ msk p).2.val ρ=some z->RS (D6 Γ msk p).1 z (deref rd (so G st.fr x)):=fun z hz=>Ii B M (fun x hx=>AT R B hx) hz (JN h);obtain⟨sv,C,A⟩:=JO B M h m key;obtain⟨z,hz⟩:=Adn h m;have hne:∀id i s o,deref rd (so G st.fr x)≠ .eptr id i s o:=ZO hfl (key z hz);refine⟨sv, ?_,A⟩;simp only[An];clear key hz;generalize deref rd (so G st.fr x)=w at C hne⊢;cases w<;>first|exact C|exact absurd rfl (hne _ _ _ _)
 case len kd x=>
  split at h<;>(try cases h;done);rename_i d hd;cases h;try dsimp only at m
  exact⟨_,by simp only[An];rw[Adb B M hd m];rfl,_,rfl,by unfold Can;rfl⟩
 case sslice x lo hi=>
  split at h<;>(try cases h;done);rename_i d hd;split at h<;>(try cases h;done);rename_i e he;cases h;try dsimp only at m
  obtain⟨p,C,A⟩:=ab.comp_val m;obtain⟨J,K,Q⟩:=Th (G:=G) B he C;obtain⟨P,F,j⟩:=AB (G:=G) hd B J;unfold Can at j;cases j;obtain⟨l1,l2,l3,l4⟩:=Pz A;refine⟨.c (.str y), ?_,_,rfl,by unfold Can;rfl⟩;simp only[An,F];rw[K _ rfl (by omega),Option.bind_some,Q l1,Option.bind_some,if_pos (by omega),l4]
 case slice size x lo hi=>
  split at h<;>(try cases h;done);rename_i e d hd;split at h<;>(try cases h;done);rename_i U;split at h<;>(try cases h;done);rename_i g hg;cases h;try dsimp only at m
  obtain⟨p,C,A⟩:=ab.comp_val m;obtain⟨J,K,Q⟩:=Th (G:=G) B hg C;obtain⟨P,F,j⟩:=AB (G:=G) hd B J;unfold Can at j;obtain⟨nl,es,e3,j⟩:=j;cases e3;obtain⟨l1,l2,l3,l4⟩:=Pz A;have I:=j.length;refine⟨.c (.sl nl ((es.take p.2.2.toNat).drop p.2.1.toNat)), ?_,_,rfl,by unfold Can;exact⟨_,_,rfl,by rw[l4];exact(j.take _).drop _⟩⟩;simp only[An,F]
  have V:(es.all fun e=>AX e==size)=true:=by
   rw[List.all_eq_true];intro c hc;obtain⟨i,hi⟩:=List.getElem?_of_mem hc;obtain⟨a,_,h7⟩:=j.getB hi;simp[(Gx U.1 U.2 h7).2]
  rw[K _ (by rw[I]) (by omega),Option.bind_some,Q l1,Option.bind_some,if_pos ⟨by omega,V⟩]
 case slice3 size x lo hi mx=>
  split at h<;>(try cases h;done)
  ·rename_i d kh dh km dm hd hdh hdm;cases h;try dsimp only at m
   obtain⟨p,C,A⟩:=ab.comp_val m;obtain⟨J,K⟩:=ab.both_val C;obtain⟨Q,W⟩:=ab.both_val K;simp only[ab.val]at A;split at A<;>(try cases A;done);rename_i hz;cases A;obtain⟨P,F,j⟩:=AB (G:=G) hd B J;obtain⟨Z,L,H⟩:=AB (G:=G) hdh B Q;obtain⟨c3,e3,g3⟩:=AB (G:=G) hdm B W;unfold Can at j H g3;cases j;cases H;cases g3;refine⟨.c (.sl (some true) []), ?_,_,rfl,by unfold Can;rfl⟩;simp[An,F,L,e3,Cs,hz.1,hz.2]
  ·rename_i e d kh dh km dm hd hdh hdm;split at h<;>(try cases h;done);rename_i U;cases h;try dsimp only at m
   obtain⟨p,C,A⟩:=ab.comp_val m;obtain⟨J,K⟩:=ab.both_val C;obtain⟨Q,W⟩:=ab.both_val K;simp only[ab.val]at A;split at A<;>(try cases A;done);rename_i hz;obtain⟨P,F,j⟩:=AB (G:=G) hd B J;obtain⟨Z,L,H⟩:=AB (G:=G) hdh B Q;obtain⟨c3,e3,g3⟩:=AB (G:=G) hdm B W;unfold Can at j H g3;obtain⟨nl,es,q1,j⟩:=j;cases q1;cases H;cases g3;obtain⟨l1,l2,l3,l4⟩:=Pz A;have I:=j.length;refine⟨.c (.sl nl ((es.take p.2.1.toNat).drop (0:Int).toNat)), ?_,_,rfl,by unfold Can;exact⟨_,_,rfl,by rw[l4];exact(j.take _).drop _⟩⟩
   have V:(es.all fun e=>AX e==size)=true:=by
    rw[List.all_eq_true];intro c hc;obtain⟨i,hi⟩:=List.getElem?_of_mem hc;obtain⟨a,_,h7⟩:=j.getB hi;simp[(Gx U.1 U.2 h7).2]
   simp only[An,F,L,e3,Cs,<-hz,if_pos l2,Option.map_none,Option.bind_some];rw[if_pos ⟨⟨by omega,by omega,by simp⟩,V⟩];rfl
 case capp e0 size bytes x y'=>
  split at h<;>(try cases h;done);rename_i dx e dy hd he;split at h<;>(try cases h;done);rename_i U;cases h;try dsimp only at m
  obtain⟨p,C,A⟩:=ab.comp_val m;obtain⟨J,K⟩:=ab.both_val C;simp only[ab.val]at A;split at A<;>(try cases A;done);rename_i hb;cases A;obtain⟨P,F,j⟩:=AB (G:=G) hd B J;obtain⟨Z,L,H⟩:=AB (G:=G) he B K;unfold Can at j H;cases j;obtain⟨nl,es,q1,H⟩:=H;cases q1;have I:=H.length;refine⟨.c (.sl none es), ?_,_,rfl,by unfold Can;exact⟨_,_,rfl,H⟩⟩;simp only[An,F,L];rw[if_pos ⟨Jn U.1 U.2.1 U.2.2 H,by rw[I];exact P2 (by rw[Int.natCast_mul]) hb.1,by rw[I];exact P3 rfl hb.2⟩]
 case lookup mt kt z ok x k=>
  obtain⟨c,C,A⟩:=Adq B M h m;exact⟨.c c,by simp only[An,C,Option.map_some],A⟩
 case asl n x=>
  split at h<;>(try cases h;done);rename_i r d hd;split at h<;>(try cases h;done);rename_i f hf;split at h<;>(try cases h;done);rename_i I;cases h;try dsimp only at m
  obtain⟨z,J,rfl⟩:=ab.map_val m;obtain⟨cs,rest,F,j,g3⟩:=AT hd B J;have hrest:=g3 rfl;subst hrest;rw[List.append_nil]at F;have hl:=EP I j;have T:=Xw hf j;subst T;refine⟨.c (.sl (some false) ((f z).map CV.str)), ?_,_,rfl,by unfold Can;exact⟨_,_,rfl,Xy _⟩⟩;simp only[An,F,Xx,hl,and_self,if_true]
end
def EK.refs:EK->Option Nat
 | .ptr id _| .eptr id _ _| .aptr id _ _| .own id| .mp id| .iter id| .ent id _ _| .stamp id _=>some id
 | .opt k=>k.refs
 |_=>none
def Ci:TC->ax->Option EK
 | [],_=>none
 |e::Γ,p=>if e.1=p then some e.2 else Ci Γ p
theorem By:∀{Γ:TC} {p:ax} {q:Σ k:EK,HS Γ->DK k},get Γ p=some q->Ci Γ p=some q.1
 | [],p,q,h=>by cases h
 |e::Γ,p,q,h=>by
  unfold get at h;unfold Ci;split at h
  ·rename_i a;cases h;rw[if_pos a]
  ·rename_i a;rw[if_neg a];split at h<;>(try cases h;done);rename_i t b;cases h;exact By b
theorem Iq:∀{Γ:TC} {p:ax} {k:EK},Ci Γ p=some k->∃f,get Γ p=some ⟨k,f⟩
 | [],p,k,h=>by cases h
 |e::Γ,p,k,h=>by
  unfold Ci at h;unfold get;split at h
  ·rename_i a;cases h;rw[if_pos a];exact⟨_,rfl⟩
  ·rename_i a;rw[if_neg a];obtain⟨f,b⟩:=Iq h;rw[b];exact⟨_,rfl⟩
def Hq(Γ:TC)(ids:List Nat):List ax:=(Γ.map (·.1)).filter fun p=>match Ci Γ p with
 |some k=>match k.refs with
  |some id=>ids.contains id
  |none=>false
 |none=>false
def bZ:List ax->TC->TC
 | [],Γ=>Γ
 |k::ks,Γ=>(k,.undef)::bZ ks Γ
def bM{Γ:TC}:(ks:List ax)->HS Γ->HS (bZ ks Γ)
 | [],ρ=>ρ
 |_::ks,ρ=>((),bM ks ρ)
def c6:List Nat->TC->TC
 | [],Γ=>Γ
 |d::ds,Γ=>(.o d,.gone)::c6 ds Γ
def ci{Γ:TC}:(a:List Nat)->HS Γ->HS (c6 a Γ)
 | [],ρ=>ρ
 |_::a,ρ=>((),ci a ρ)
def Bh(ids:List Nat)(Γ:TC):TC:=c6 ids (bZ (Hq Γ ids) Γ)
def BF(ids:List Nat){Γ:TC}(ρ:HS Γ):HS (Bh ids Γ):=ci ids (bM (Hq Γ ids) ρ)
section
variable {Γ:TC} {ρ:HS Γ} {st:St}
theorem Ir(ρ:HS Γ):∀{ks:List ax} {p:ax} {q:Σ k:EK,HS (bZ ks Γ)->DK k},get (bZ ks Γ) p=some q->(p∈ks/\q.1=.undef)\/(p∉ks/\∃f,get Γ p=some ⟨q.1,f⟩/\q.2 (bM ks ρ)=f ρ)
 | [],p,q,h=>.inr ⟨by simp,q.2,h,rfl⟩
 |k::ks,p,q,h=>by
  by_cases a:k=p
  ·subst a;change get ((k,.undef)::bZ ks Γ) k=some q at h;rw[CT]at h;cases h;exact .inl ⟨by simp,rfl⟩
  ·obtain⟨f,e,d⟩:=C1 a h;rcases Ir ρ e with⟨c,b⟩|⟨c,g,b,i⟩
   ·exact .inl ⟨by simp[c],b⟩
   ·refine .inr ⟨by simp[c,Ne.symm a],g,b, ?_⟩;exact(d _).trans i
theorem Ip(ρ:HS Γ):∀{b:List Nat} {p:ax} {q:Σ k:EK,HS (c6 b Γ)->DK k},get (c6 b Γ) p=some q->(∃d∈b,p=.o d/\q.1=.gone)\/((∀d∈b,p≠ .o d)/\∃f,get Γ p=some ⟨q.1,f⟩/\q.2 (ci b ρ)=f ρ)
 | [],p,q,h=>.inr ⟨by simp,q.2,h,rfl⟩
 |d::b,p,q,h=>by
  by_cases c:ax.o d=p
  ·subst c;change get ((.o d,.gone)::c6 b Γ) (.o d)=some q at h;rw[CT]at h;cases h;exact .inl ⟨d,by simp,rfl,rfl⟩
  ·obtain⟨f,l,j⟩:=C1 c h;rcases Ip ρ l with⟨d',n,i,e⟩|⟨i,g,e,m⟩
   ·exact .inl ⟨d',by simp[n],i,e⟩
   ·refine .inr ⟨fun d' a=> ?_,g,e, ?_⟩
    ·simp only[List.mem_cons]at a;rcases a with rfl|a
     ·exact Ne.symm c
     ·exact i d' a
    ·exact(j _).trans m
theorem F3:∀{Γ:TC} {p:ax} {k:EK},Ci Γ p=some k->p∈Γ.map (·.1)
 | [],p,k,h=>by cases h
 |e::Γ,p,k,h=>by
  unfold Ci at h;split at h
  ·rename_i a;simp[<-a]
  ·simp only[List.map_cons,List.mem_cons];exact .inr (F3 h)
theorem RS.kill{ids:List Nat}{k:EK}{x:DK k}{sv:SV}(h:RS k x sv)(a:∀id,k.refs=some id->ids.contains id=false):RS k x (Ay ids sv):=by
 induction k
 case v t=>obtain⟨c,rfl,b⟩:=h;exact⟨c,rfl,b⟩
 case opt k ih=>
  unfold RS at h⊢
  cases x with
  |none=>simp only at h;subst h;rfl
  |some y=>exact ih h a
 case rp ex r=>obtain⟨cs,rest,rfl,b⟩:=h;exact⟨cs,rest,rfl,b⟩
 case undef=>trivial
 case ptr id o=>have:=a id rfl;unfold RS at h;subst h;simp[RS,Ay];simpa using this
 case eptr id s o=>have:=a id rfl;unfold RS at h;subst h;simp[RS,Ay];simpa using this
 case aptr id n o=>have:=a id rfl;obtain⟨h,hi⟩:=h;subst h;refine⟨?_,hi⟩;simp[Ay];simpa using this
 case own id=>have:=a id rfl;unfold RS at h;subst h;simp[RS,Ay];simpa using this
 case mp id=>have:=a id rfl;unfold RS at h;subst h;simp[RS,Ay];simpa using this
 case iter id=>have:=a id rfl;unfold RS at h;subst h;simp[RS,Ay];simpa using this
 case ent id k v=>
  have:=a id rfl;obtain⟨e,g,rfl,d,f⟩:=h;refine⟨e,g, ?_,d,f⟩;simp only[Ay,this,Ah,if_false]
 case stamp id k=>
  have:=a id rfl;obtain⟨e,rfl,d⟩:=h;refine⟨e, ?_,d⟩;simp only[Ay,this,Ah,if_false]
 all_goals exact h
theorem Adl(ids:List Nat){p:ax}{k:EK}{f:HS Γ->DK k}(c:get Γ p=some ⟨k,f⟩)(b:p∉Hq Γ ids):∀id,k.refs=some id->ids.contains id=false:=by
 intro id ag;have a:=By c
 cases d:ids.contains id with
 |false=>rfl
 |true=>
  exfalso;apply b;unfold Hq;rw[List.mem_filter];refine⟨F3 a, ?_⟩;simp only at a;simp only[a,ag,d]
theorem af.kill(h:af Γ ρ st)(ids:List Nat):af (Bh ids Γ) (BF ids ρ) (WB.kill ids st):=by
 have AK:∀p q,(∀d,p≠ .o d)->get (Bh ids Γ) p=some q->q.1=.undef\/∃f,get Γ p=some ⟨q.1,f⟩/\q.2 (BF ids ρ)=f ρ/\∀id,q.1.refs=some id->ids.contains id=false:=by
  intro p q C l;rcases Ip (bM (Hq Γ ids) ρ) l with⟨d,_,r,_⟩|⟨_,f,m,t⟩
  ·exact absurd r (C d)
  ·rcases Ir ρ m with⟨_,n⟩|⟨n,g,u,y⟩
   ·exact .inl n
   ·refine .inr ⟨g,u, ?_,Adl ids u n⟩;rw[<-y];exact t
 have key:∀q:Σ k:EK,HS (Bh ids Γ)->DK k,q.1=.undef->∀sv,RS q.1 (q.2 (BF ids ρ)) sv:=by
  intro q l sv;obtain⟨k,f⟩:=q;simp only at l;subst l
  trivial
 refine⟨fun i q l=> ?_,fun id q l=> ?_⟩
 ·rcases AK _ q (by simp) l with r|⟨f,r,m,t⟩
  ·exact key q r _
  ·rw[m];exact RS.kill (h.s i _ r) t
 ·rcases Ip (bM (Hq Γ ids) ρ) l with⟨d,hd,r,m⟩|⟨w,f,m,t⟩
  ·cases r;obtain⟨k,f⟩:=q;simp only at m;subst m;have:ids.contains id=true:=by simpa using hd
   show(WB.kill ids st).ob id=.none;simp only[WB.kill,this,if_true]
  ·have x:ids.contains id=false:=by
    cases F:ids.contains id with
    |false=>rfl
    |true=>exact absurd rfl (w id (by simpa using F))
   rcases Ir ρ m with⟨_,n⟩|⟨n,g,u,y⟩
   ·obtain⟨k,K⟩:=q;simp only at n;subst n
    trivial
   ·have a:=h.o id _ u;have e:q.2 (BF ids ρ)=g ρ:=by rw[<-y];exact t
    rw[e];have L:(WB.kill ids st).ob id=Ch ids (st.ob id):=by simp only[WB.kill,x,Ah,if_false]
    rw[L];obtain⟨k,K⟩:=q;simp only at a⊢;cases k<;>try exact a
    ·obtain⟨cs,c,b,H⟩:=a;rw[c];refine⟨cs.map (Ay ids),rfl,by simp[b],fun j B D v=> ?_⟩;rcases AK _ B (by simp) v with g1|⟨f2,g1,g2,g3⟩
     ·exact⟨Ay ids (cs[j]'(by omega)),by simp[Aj (show j<cs.length by omega)],key B g1 _⟩
     ·obtain⟨sv,J,I⟩:=H j _ D g1;exact⟨Ay ids sv,by simp[J],g2▸RS.kill I g3⟩
    all_goals first
     |(obtain⟨es,c,b⟩:=a;rw[c];exact⟨es,rfl,b⟩)
     |(obtain⟨z,ks,vs,c,b⟩:=a;rw[c];exact⟨z,ks,vs,rfl,b⟩)
     |(obtain⟨ks,vs,N,M,c,b⟩:=a;rw[c];exact⟨ks,vs,N,M,rfl,b⟩)
     |(obtain⟨ks,vs,A,c,b⟩:=a;rw[c];exact⟨ks,vs,A,rfl,b⟩)
     |(unfold RO at a;rw[a];rfl)
def Do(id:Nat)(Γ:TC)(ρ:HS Γ)(Γc:TC)(ρc:HS Γc):Prop:=∀p q,get Γc p=some q->(∃j,p=.c id j)\/∃f,get Γ p=some ⟨q.1,f⟩/\q.2 ρc=f ρ
theorem Do.refl(id:Nat):Do id Γ ρ Γ ρ:=fun p q h=>.inr ⟨q.2,h,rfl⟩
theorem af.newObj{Γc:TC}{ρc:HS Γc}{d:Nat}{k ko:EK}{x:DK k}{y:DK ko}{v:SV}{o:Ob}(h:af Γ ρ st)(t:Do d Γ ρ Γc ρc)(D:RO Γc ρc d ko y o)(C:RS k x v):
  af ((.s d,k)::(.o d,ko)::Γc) (x,y,ρc) {fr:=ac st.fr d v,ob:=ac st.ob d o}:=by
 have down:∀p q,p≠ .s d->p≠ .o d->get ((.s d,k)::(.o d,ko)::Γc) p=some q->∃f,get Γc p=some ⟨q.1,f⟩/\q.2 (x,y,ρc)=f ρc:=by
  intro p q H F b;obtain⟨f,a,e⟩:=C1 (Ne.symm H) b;obtain⟨g,m,l⟩:=C1 (Ne.symm F) a;exact⟨g,m,(e _).trans (l _)⟩
 refine⟨fun i q b=> ?_,fun id q b=> ?_⟩
 ·by_cases hi:i=d
  ·subst hi;rw[CT]at b;cases b;simpa[ac]using C
  ·obtain⟨f,a,e⟩:=down _ q (by simpa using hi) (by simp) b;rcases t _ _ a with⟨j,w⟩|⟨g,m,l⟩
   ·cases w
   ·have:=h.s i _ m;simp only at l;rw[e];simp only[ac,hi,if_false];rw[l];exact this
 ·by_cases hi:id=d
  ·subst hi;obtain⟨f,a,e⟩:=C1 (by simp) b;rw[CT]at a;obtain⟨J,L⟩:=q;simp only[Ac,Sigma.mk.injEq]at a;obtain⟨rfl,a⟩:=a;cases eq_of_heq a;have n:=e (x,y,ρc);simp only at n;simp only[ac,if_true];rw[n];exact RO.congr D fun j r c=>down _ r (by simp) (by simp) c
  ·obtain⟨f,a,e⟩:=down _ q (by simp) (by simpa using hi) b;rcases t _ _ a with⟨j,w⟩|⟨g,m,l⟩
   ·cases w
   ·have:=h.o id _ m;simp only at l;rw[e];simp only[ac,hi,if_false];rw[l];refine RO.congr this fun j r c=> ?_;obtain⟨M,A,n⟩:=down _ r (by simp) (by simp) c;rcases t _ _ A with⟨K,u⟩|⟨I,z,B⟩
    ·cases u;exact absurd rfl hi
    ·exact⟨I,z,n.trans B⟩
theorem af.turnObj{id:Nat}{k:EK}{y:DK k}{o:Ob}(h:af Γ ρ st)(l:RO Γ ρ id k y o):af ((.o id,k)::Γ) (y,ρ) {st with ob:=ac st.ob id o}:=by
 have down:∀p q,p≠ .o id->get ((.o id,k)::Γ) p=some q->∃f,get Γ p=some ⟨q.1,f⟩/\q.2 (y,ρ)=f ρ:=by
  intro p q m b;obtain⟨f,d,e⟩:=C1 (Ne.symm m) b;exact⟨f,d,e _⟩
 refine⟨fun i q b=> ?_,fun c q b=> ?_⟩
 ·obtain⟨f,d,e⟩:=down _ q (by simp) b;rw[e];exact h.s i _ d
 ·by_cases hi:c=id
  ·subst hi;rw[CT]at b;cases b;simp only[ac,if_true];exact RO.congr l fun j g a=>down _ g (by simp) a
  ·obtain⟨f,d,e⟩:=down _ q (by simpa using hi) b;have:=h.o c _ d;rw[e];simp only[ac,hi,if_false];exact RO.congr this fun j g a=>down _ g (by simp) a
theorem af.turnCells{bt:Option TypeId}{Γc:TC}{ρc:HS Γc}{id n:Nat}{f:HS Γ->DK (.box n bt)}{cs:List SV}(h:af Γ ρ st)(d:Do id Γ ρ Γc ρc)(v:get Γ (.o id)=some ⟨.box n bt,f⟩)(u:cs.length=n)
  (w:∀j q,j<n->get Γc (.c id j)=some q->∃sv,cs[j]? =some sv/\RS q.1 (q.2 ρc) sv):af Γc ρc {st with ob:=ac st.ob id (.box cs bt)}:=by
 refine⟨fun i q l=> ?_,fun b q l=> ?_⟩
 ·rcases d _ _ l with⟨j,p⟩|⟨g,a,t⟩
  ·cases p
  ·rw[t];exact h.s i _ a
 ·rcases d _ _ l with⟨j,p⟩|⟨g,a,t⟩
  ·cases p
  ·by_cases hi:b=id
   ·subst hi;rw[v]at a;simp only[ac,if_true];obtain⟨k,B⟩:=q;simp only[Ac,Sigma.mk.injEq]at a;obtain⟨rfl,_⟩:=a;exact⟨cs,rfl,u,w⟩
   ·have:=h.o b _ a;rw[t];simp only[ac,hi,if_false];refine RO.congr this fun j z e=> ?_;rcases d _ _ e with⟨A,m⟩|⟨x,r,y⟩
    ·cases m;exact absurd rfl hi
    ·exact⟨x,r,y⟩
end
def F9(id:Nat):(off:Nat)->(r:Ty)->(Γ:TC)->Option (Σ Γ':TC,HS Γ->D r->HS Γ')
 |_,.nil,Γ=>some ⟨Γ,fun ρ _=>ρ⟩
 |off,.one t,Γ=>some ⟨(.c id off,.v t)::Γ,fun ρ x=>(x,ρ)⟩
 |off,.cons t r,Γ=>match F9 id (off+1) r Γ with
  |some p=>some ⟨(.c id off,.v t)::p.1,fun ρ x=>(x.1,p.2 ρ x.2)⟩
  |none=>none
 |_,_,_=>none
theorem Km{id:Nat}:∀{r:Ty} {off:Nat} {Γ:TC} {p:Σ Γ':TC,HS Γ->D r->HS Γ'} {ρ:HS Γ} {x:D r} {l:List CV},F9 id off r Γ=some p->Can r x l->
  Do id Γ ρ p.1 (p.2 ρ x)/\∀j q,get p.1 (.c id j)=some q->(off≤j/\∃c,l[j-off]? =some c/\RS q.1 (q.2 (p.2 ρ x)) (.c c))\/((j<off\/off+l.length≤j)/\∃f,get Γ (.c id j)=some ⟨q.1,f⟩/\q.2 (p.2 ρ x)=f ρ):=by
 intro r
 induction r with
 |nil=>
  intro off Γ p ρ x l h b;simp only[F9,Ac]at h;subst h;unfold Can at b;subst b;refine⟨Do.refl id,fun j q a=>.inr ⟨by simp;omega,q.2,a,rfl⟩⟩
 |one t _=>
  intro off Γ p ρ x l h b;simp only[F9,Ac]at h;subst h;unfold Can at b;obtain⟨c,rfl,b⟩:=b;refine⟨fun p q a=> ?_,fun j q a=> ?_⟩
  ·by_cases g:ax.c id off=p
   ·exact .inl ⟨off,g.symm⟩
   ·obtain⟨f,d,e⟩:=C1 g a;exact .inr ⟨f,d,e _⟩
  ·by_cases i:j=off
   ·subst i;rw[CT]at a;cases a;exact .inl ⟨Nat.le_refl _,c,by simp,c,rfl,b⟩
   ·obtain⟨f,d,e⟩:=C1 (by simpa using Ne.symm i) a;exact .inr ⟨by simp;omega,f,d,e _⟩
 |cons t r _ ihr=>
  intro off Γ p ρ x l h b;simp only[F9]at h;split at h<;>(try cases h;done);rename_i z m;cases h;unfold Can at b;obtain⟨c,l',rfl,u,s⟩:=b;obtain⟨w,v⟩:=ihr (ρ:=ρ) m s;refine⟨fun p q a=> ?_,fun j q a=> ?_⟩
  ·by_cases g:ax.c id off=p
   ·exact .inl ⟨off,g.symm⟩
   ·obtain⟨f,d,e⟩:=C1 g a;rcases w _ _ d with hh|⟨n,hf',e'⟩
    ·exact .inl hh
    ·exact .inr ⟨n,hf',(e _).trans e'⟩
  ·by_cases i:j=off
   ·subst i;rw[CT]at a;cases a;exact .inl ⟨Nat.le_refl _,c,by simp,c,rfl,u⟩
   ·obtain⟨f,d,e⟩:=C1 (by simpa using Ne.symm i) a;rcases v j _ d with⟨o,y,k2,k⟩|⟨o,n,k2,k⟩
    ·refine .inl ⟨by omega,y, ?_,(e _)▸k⟩;have:j-off=(j-(off+1))+1:=by omega
     rw[this];simpa using k2
    ·exact .inr ⟨by simp;omega,n,k2,(e _).trans k⟩
 |_=>intro off Γ p ρ x l h;cases h
def Hm:(k a:EK)->Option (DK k->DK a)
 | .v t,.v t'=>Ba t t'
 |k,a=>if h:k=a then some fun x=>h▸x else none
theorem T3{k a:EK}{f:DK k->DK a}(h:(if h:k=a then some (fun x=>h▸x:DK k->DK a)else none)=some f):∃e:k=a,∀x,f x=e▸x:=by
 split at h<;>(try cases h;done);rename_i e;subst e;cases h;exact⟨rfl,fun _=>rfl⟩
theorem T4{k a:EK}{f:DK k->DK a}(h:Hm k a=some f){x:DK k}{sv:SV}(b:RS k x sv):RS a (f x) sv:=by
 unfold Hm at h;split at h
 ·obtain⟨c,e,g⟩:=b;exact⟨c,e,C0 _ _ h g⟩
 ·obtain⟨e,d⟩:=T3 h;subst e;rw[d];exact b
theorem YU{k b:EK}{f:DK k->DK b}(h:Hm k b=some f){Γ Γ':TC}{ρ:HS Γ}{a:HS Γ'}{id:Nat}{x:DK k}{ob:Ob}(d:RO Γ ρ id k x ob)
  (r:∀j q,get Γ' (.c id j)=some q->∃p g,get Γ (.c id j)=some p/\Hm p.1 q.1=some g/\q.2 a=g (p.2 ρ)):RO Γ' a id b (f x) ob:=by
 unfold Hm at h;split at h
 ·exact d.elim
 ·obtain⟨e,o⟩:=T3 h;subst e;rw[o];cases k<;>try exact d
  obtain⟨cs,e,l,n⟩:=d;refine⟨cs,e,l,fun j q m i=> ?_⟩;obtain⟨p,g,w,v,u⟩:=r j q i;obtain⟨sv,t,s⟩:=n j p m w;exact⟨sv,t,u▸T4 v s⟩
def Cc(Γ:TC):(Γ':TC)->Option (HS Γ->HS Γ')
 | []=>some fun _=>()
 |e::Γ'=>match get Γ e.1,Cc Γ Γ' with
  |some q,some f=>match Hm q.1 e.2 with
   |some g=>some fun ρ=>(g (q.2 ρ),f ρ)
   |none=>none
  |_,_=>none
theorem LC{Γ:TC}{ρ:HS Γ}:∀{Γ':TC} {f:HS Γ->HS Γ'},Cc Γ Γ'=some f->∀p q,get Γ' p=some q->∃r g,get Γ p=some r/\Hm r.1 q.1=some g/\q.2 (f ρ)=g (r.2 ρ)
 | [],f,h,p,q,hq=>by cases hq
 |e::Γ',f,h,p,q,hq=>by
  simp only[Cc]at h;split at h<;>(try cases h;done);rename_i r u d a;split at h<;>(try cases h;done);rename_i g i;cases h;obtain⟨key,k⟩:=e;by_cases b:key=p
  ·subst b;rw[CT]at hq;cases hq;exact⟨r,g,d,i,rfl⟩
  ·obtain⟨t,o,n⟩:=C1 b hq;obtain⟨c,s,m,l,j⟩:=LC (ρ:=ρ) a p _ o;exact⟨c,s,m,l,(n _).trans j⟩
theorem CN{Γ Γ':TC}{ρ:HS Γ}{st:St}{f:HS Γ->HS Γ'}(h:Cc Γ Γ'=some f)(k:af Γ ρ st):af Γ' (f ρ) st:=by
 refine⟨fun i q b=> ?_,fun id q b=> ?_⟩
 ·obtain⟨r,g,e,d,c⟩:=LC (ρ:=ρ) h _ q b;rw[c];exact T4 d (k.s i r e)
 ·obtain⟨r,g,e,d,c⟩:=LC (ρ:=ρ) h _ q b;rw[c];exact YU d (k.o id r e) fun j l a=>LC (ρ:=ρ) h _ l a
def CB:(Θ:TC)->{Γ:TC}->HS Θ->HS Γ->HS (Θ++Γ)
 | [],_,_,ρ=>ρ
 |_::Θ,_,θ,ρ=>(θ.1,CB Θ θ.2 ρ)
theorem D7{Γ:TC}:∀{Θ:TC} {p:ax} {q:Σ k:EK,HS (Θ++Γ)->DK k},get (Θ++Γ) p=some q->
  (p∈Θ.map (·.1)/\∃f,get Θ p=some ⟨q.1,f⟩/\∀θ ρ,q.2 (CB Θ θ ρ)=f θ)\/(p∉Θ.map (·.1)/\∃f,get Γ p=some ⟨q.1,f⟩/\∀θ ρ,q.2 (CB Θ θ ρ)=f ρ)
 | [],p,q,h=>.inr ⟨by simp,q.2,h,fun _ _=>rfl⟩
 |(k0,e0)::Θ,p,q,h=>by
  by_cases a:k0=p
  ·subst a;change get ((k0,e0)::(Θ++Γ)) k0=some q at h;rw[CT]at h;cases h;exact .inl ⟨by simp,_,CT Θ k0 e0,fun _ _=>rfl⟩
  ·obtain⟨f,i,d⟩:=C1 (Γ:=Θ++Γ) a h;rcases D7 i with⟨c,g,b,e⟩|⟨c,g,b,e⟩
   ·refine .inl ⟨by simp[c],fun θ=>g θ.2, ?_,fun θ ρ=>(d _).trans (e θ.2 ρ)⟩;unfold get;rw[if_neg a,b]
   ·exact .inr ⟨by simp[c,Ne.symm a],g,b,fun θ ρ=>(d _).trans (e θ.2 ρ)⟩
def A6:TC->List Nat
 | []=> []
 |(.o id,_)::Θ=>id::A6 Θ
 |_::Θ=>A6 Θ
theorem Gi:∀{Θ:TC} {id:Nat},id∈A6 Θ<->ax.o id∈Θ.map (·.1)
 | [],id=>by simp[A6]
 |(.o i,k)::Θ,id=>by simp[A6,Gi (Θ:=Θ)]
 |(.s i,k)::Θ,id=>by simp[A6,Gi (Θ:=Θ)]
 |(.c i j,k)::Θ,id=>by simp[A6,Gi (Θ:=Θ)]
def Ty.names(T:Nat->Bool):Ty->Bool
 | .nam M| .bptr M=>T M
 | .agg r| .tup r| .pt r| .clo _ r| .sl r| .one r=>r.names T
 | .falt _ r l=>r.names T&&l.names T
 | .map k v=>k.names T&&v.names T
 | .cons t r=>t.names T&&r.names T
 | .nw _ _ t=>t.names T
 |_=>true
theorem GC{T:Nat->Bool}{c:CV}:AN T [c]=Bj T c:=by simp[AN]
theorem Ad8{T:Nat->Bool}:∀{t:Ty} (x:D t),t.names T=true->AN T (encL t x)=true:=by
 have hd:∀{l:List CV},AN T l=true->Bj T (l.headD .nilif)=true:=fun{l} h=>by
  cases l with
  |nil=>rfl
  |cons c l=>simp only[AN,Ag]at h;exact h.1
 have b:∀{a:Type} {f:a->List CV} {l:List a},(∀x∈l,AN T (f x)=true)->AN T (l.map fun x=>(f x).headD .nilif)=true:=fun{a f l} h=>by
  induction l with
  |nil=>rfl
  |cons x l ih=>
   simp only[List.map_cons,AN,Ag];exact⟨hd (h x (by simp)),ih fun y d=>h y (by simp[d])⟩
 intro t
 induction t with
 |nam M=>intro x h;simpa[encL,AN,Bj,Ty.names]using h
 |bptr M=>intro x h;simpa[encL,AN,Bj,Ty.names]using h
 |agg r ih=>intro x h;simp only[encL,GC,Bj];exact ih x h
 |tup r ih=>intro x h;simp only[encL,GC,Bj];exact ih x h
 |pt r ih=>intro x h;simp only[encL,GC,Bj];exact ih x h
 |clo f r ih=>intro x h;simp only[encL,GC,Bj];exact ih x h
 |falt f r l ih ihl=>
  intro x h;simp only[Ty.names,Ag]at h
  cases x with
  |inl y=>simp only[encL,GC,Bj];exact ih y h.1
  |inr y=>simp only[encL];exact ihl y h.2
 |sl e ih=>intro x h;simp only[encL,GC,Bj];exact b fun y _=>ih y h
 |map k v ihk ihv=>
  intro x h;simp only[Ty.names,Ag]at h;simp only[encL,GC,Bj,Ag];exact⟨b (f:=fun(y:D k×D v)=>encL k y.1) fun y _=>ihk y.1 h.1,b (f:=fun(y:D k×D v)=>encL v y.2) fun y _=>ihv y.2 h.2⟩
 |one t ih=>intro x h;simp only[encL,GC];exact hd (ih x h)
 |cons t r iht ihr=>
  intro x h;simp only[Ty.names,Ag]at h;simp only[encL,AN,Ag];exact⟨hd (iht x.1 h.1),ihr x.2 h.2⟩
 |nw e s t _=>intro x h;rfl
 |err=>intro x _;cases x<;>rfl
 |_=>intro x _;rfl
theorem JX{T:Nat->Bool}{t:Ty}(x:D t)(h:t.names T=true):Bj T (enc t x)=true:=by
 have:=Ad8 x h;unfold enc
 cases a:encL t x with
 |nil=>rfl
 |cons c l=>rw[a]at this;simp only[AN,Ag]at this;exact this.1
theorem Kl:∀{t:Ty} (_:HD t=true) {x:D t} {c:CV},Can t x [c]->encL t x= [c]:=by
 intro t a x c h
 cases t with
 |int k=>unfold Can at h;rw[h];rfl
 |str=>unfold Can at h;rw[h];rfl
 |bool=>unfold Can at h;rw[h];rfl
 |_=>cases a
theorem Ae8:∀{r:Ty} (_:IA r=true) {x:D r} {l:List CV},Can r x l->encL r x=l:=by
 intro r
 induction r with
 |one t=>
  intro a x l h;unfold Can at h;obtain⟨c,rfl,h⟩:=h;have:=Kl a h;simp only[encL,this,List.headD_cons]
 |cons t r iht ihr=>
  intro a x l h;simp only[IA,Ag]at a;unfold Can at h;obtain⟨c,l',rfl,d,b⟩:=h;have f:=Kl a.1 d;have e:=ihr a.2 b;simp only[encL,f,e,List.headD_cons]
 |_=>intro a;cases a
theorem We{t:Ty}(a:DT t=true){x:D t}{c:CV}(h:Can t x [c]):c=enc t x:=by
 have key:encL t x= [c]:=by
  cases t with
  |int k=>exact Kl (t:=.int k) a h
  |str=>exact Kl (t:=.str) a h
  |bool=>exact Kl (t:=.bool) a h
  |agg r=>
   unfold Can at h;obtain⟨l,e,h⟩:=h;cases e;have:=Ae8 a h;simp only[encL,this]
  |_=>cases a
 unfold enc;rw[key];rfl
theorem Qk{a:Type}{t:Ty}(b:DT t=true){g:a->D t}:∀{m:List a} {l:List CV},CanAll (fun y c=>Can t (g y) [c]) m l->l=m.map fun y=>enc t (g y)
 | [],l,h=>h
 |y::m,l,h=>by
  obtain⟨c,l',rfl,e,d⟩:=h;rw[We b e,Qk b d];rfl
theorem OP{b:Type}{t:Ty}(d:t.val=true)(e:t.ok=true)(g:b->D t):∀(a:List b),CanAll (fun y c=>Can t (g y) [c]) a (a.map fun y=>enc t (g y))
 | []=>rfl
 |y::a=>⟨_,_,rfl,Can.enc (g y) d e,OP d e g a⟩
theorem VZ{k v:Ty}:∀{m a:List (D k×D v)} {ks vs:List CV},CanAll (fun y c=>Can k y.1 [c]) m ks->CanAll (fun y c=>Can v y.2 [c]) m vs->CanAll (fun y c=>Can k y.1 [c]) a ks->CanAll (fun y c=>Can v y.2 [c]) a vs->m=a
 | [],[],_,_,_,_,_,_=>rfl
 | [],y::a,ks,vs,h1,_,h3,_=>by
  cases (show ks= []from h1);obtain⟨c,l,e,_⟩:=h3;cases e
 |y::m,[],ks,vs,h1,_,h3,_=>by
  cases (show ks= []from h3);obtain⟨c,l,e,_⟩:=h1;cases e
 |y::m,y'::a,ks,vs,h1,h2,h3,h4=>by
  obtain⟨w,r,rfl,p,i⟩:=h1;obtain⟨u,q,rfl,o,h⟩:=h2;obtain⟨t,l3,d,n,g⟩:=h3;obtain⟨s,l4,b,j,f⟩:=h4;cases d;cases b;rw[VZ i h g f];have:=Prod.ext (Can.uniq k p n) (Can.uniq v o j);rw[this]
def cN(T:Nat->Bool)(Θ:TC):EK->Bool
 | .v t=>t.val&&t.ok&&t.names T
 | .own K=>T K&&(match Ci Θ (.o K)with
  |some (.arr _ _ _)|some (.buf _)=>true
  |_=>false)
 |_=>false
def bW(T:Nat->Bool)(Θ:TC):ax×EK->Bool
 |(.o id,.box n bt)=>T id&&(List.range n).all fun j=>match Ci Θ (.c id j)with
  |some k=>cN T Θ k
  |none=>false
 |(.o id,.arr _ _ t)=>T id&&t.val&&t.ok&&t.names T
 |(.o id,.buf _)=>T id
 |(.o id,.mob _ k v)=>T id&&(DT k&&k.val&&k.ok&&k.names T)&&(DT v&&v.val&&v.ok&&v.names T)
 |(.c id j,_)=>match Ci Θ (.o id)with
  |some (.box n bt)=>Nat.blt j n
  |_=>false
 |_=>false
def Mm:TC->Bool
 | []=>true
 |e::Θ=> !(Θ.map (·.1)).contains e.1&&Mm Θ
def aw(Θ:TC):Bool:=Mm Θ&&Θ.all (bW (A6 Θ).contains Θ)
theorem Rf:∀{Θ:TC} {θ a:HS Θ},Mm Θ=true->(∀p k (f:HS Θ->DK k),get Θ p=some ⟨k,f⟩->f θ=f a)->θ=a
 | [],_,_,_,_=>rfl
 |(p,k)::Θ,θ,a,hk,h=>by
  simp only[Mm,Ag,Bool.not_eq_true']at hk;have l:θ.1=a.1:=h p k (fun ρ=>ρ.1) (CT Θ p k)
  have j:θ.2=a.2:=Rf (Θ:=Θ) hk.2 fun c i f d=>by
   have b:p≠c:=fun e=>by
    have:=F3 (By d);rw[<-e]at this;have g:=hk.1;simp only[List.contains_eq_mem,decide_eq_false_iff_not]at g;exact g this
   exact h c i (fun ρ=>f ρ.2) (by unfold get;rw[if_neg b,d])
  exact Prod.ext l j
theorem Cp{Θ:TC}{pr:ax×EK->Bool}(h:Θ.all pr=true){p:ax}{k:EK}(a:Ci Θ p=some k):pr (p,k)=true:=by
 induction Θ with
 |nil=>cases a
 |cons e Θ ih=>
  simp only[List.all_cons,Ag]at h;unfold Ci at a;split at a
  ·rename_i b;cases a;rw[<-b];exact h.1
  ·exact ih h.2 a
theorem af.uniq{Θ:TC}{θ m:HS Θ}{st st':St}(F:aw Θ=true)(w:st.ob=st'.ob)(h:af Θ θ st)(M:af Θ m st'):θ=m:=by
 simp only[aw,Ag]at F;refine Rf F.1 fun p k f u=> ?_;have q:=Cp F.2 (By u)
 cases p with
 |s i=>cases k<;>cases q
 |o id=>
  have r:=h.o id _ u;have D:=M.o id _ u;rw[<-w]at D;cases k<;>(try cases q;done)
  case box n=>rfl
  case arr e size t=>
   obtain⟨es,A,C⟩:=r;obtain⟨V,l,B⟩:=D;rw[A]at l;cases l;exact CanAll.uniq (R:=fun x c=>Can t x [c]) (fun a a' b h k=>Can.uniq t h k) C B
  case mob mt k v=>
   obtain⟨z,ks,vs,A,_,C,B⟩:=r;obtain⟨z',Q,O,l,_,c3,c4⟩:=D;rw[A]at l;cases l;exact VZ C B c3 c4
  case buf e=>
   have r1:st.ob id=.buf e (f θ):=r;have I:st.ob id=.buf e (f m):=D;rw[r1]at I;exact(Ob.buf.inj I).2
 |c id j=>
  have d:(match Ci Θ (.o id)with
   |some (.box n bt)=>Nat.blt j n
   |_=>false)=true:=q
  split at d<;>(try cases d;done);rename_i n _ J;have H:j<n:=Nat.lt_of_succ_le (Ai d);obtain⟨fo,y⟩:=Iq J;obtain⟨cs,A,_,C⟩:=h.o id _ y;obtain⟨cs',l,_,B⟩:=M.o id _ y;rw[<-w,A]at l;cases l;obtain⟨sv,U,T⟩:=C j _ H u;obtain⟨P,g3,S⟩:=B j _ H u;rw[U]at g3;cases g3;have g:=Cp F.2 J;simp only[bW,Ag,List.all_eq_true,List.mem_range]at g;have L:=g.2 j H;rw[By u]at L;cases k<;>(try cases L;done)
  case v t=>
   obtain⟨c,Z,Y⟩:=T;obtain⟨c',N,W⟩:=S;rw[Z]at N;cases N;exact Can.uniq t Y W
  case own K=>rfl
def Ik(Θ:TC)(θ:HS Θ)(id j:Nat):SV:=
 match get Θ (.c id j)with
 |some ⟨.v t,f⟩=>.c (enc t (f θ))
 |some ⟨.own K,_⟩=>.osl K
 |_=>.undef
def Bb(Θ:TC)(θ:HS Θ)(id:Nat):Ob:=
 match get Θ (.o id)with
 |some ⟨.box n bt,_⟩=>.box ((List.range n).map (Ik Θ θ id)) bt
 |some ⟨.arr e size t,f⟩=>.arr e size ((f θ).map (enc t))
 |some ⟨.buf e,f⟩=>.buf e (f θ)
 |some ⟨.mob mt k v,f⟩=>.map mt (b4 k) (enc v (AL v)) ((f θ).map fun y=>enc k y.1) ((f θ).map fun y=>enc v y.2)
 |_=>.none
theorem TV{t:Ty}(b:t.val=true)(d:t.ok=true):∀(a:List (D t)),CanAll (fun x c=>Can t x [c]) a (a.map (enc t))
 | []=>rfl
 |y::a=>⟨_,_,rfl,Can.enc y b d,TV b d a⟩
theorem Z4{Θ:TC}(g:aw Θ=true)(θ:HS Θ)(fr:Nat->SV):af Θ θ {fr:=fr,ob:=Bb Θ θ}:=by
 simp only[aw,Ag]at g;refine⟨fun i q d=> ?_,fun id q d=> ?_⟩
 ·have:=Cp g.2 (By d);obtain⟨k,f⟩:=q;cases k<;>cases this
 ·have a:=Cp g.2 (By d);obtain⟨k,f⟩:=q;show RO Θ θ id k (f θ) (Bb Θ θ id);unfold Bb;rw[d];cases k<;>(try cases a;done)
  case box n=>
   refine⟨_,rfl,by simp,fun j l h b=> ?_⟩;simp only[bW,Ag,List.all_eq_true,List.mem_range]at a;have c:=a.2 j h;rw[By b]at c;refine⟨Ik Θ θ id j,by simp[h], ?_⟩;unfold Ik;rw[b];obtain⟨m,o⟩:=l;cases m<;>(try cases c;done)
   case v t=>
    simp only[cN,Ag]at c;exact⟨_,rfl,Can.enc _ c.1.1 c.1.2⟩
   case own K=>rfl
  case arr e size t=>
   simp only[bW,Ag]at a;exact⟨_,rfl,TV a.1.1.2 a.1.2 _⟩
  case mob mt k v=>
   simp only[bW,Ag]at a;exact⟨_,_,_,rfl,Can.enc _ a.2.1.1.2 a.2.1.2,OP a.1.2.1.1.2 a.1.2.1.2 _ _,OP a.2.1.1.2 a.2.1.2 _ _⟩
  case buf e=>rfl
theorem TU{Θ:TC}{θ:HS Θ}{id:Nat}(h:Bb Θ θ id≠ .none):(A6 Θ).contains id=true:=by
 unfold Bb at h
 cases a:get Θ (.o id)with
 |none=>rw[a]at h;exact absurd rfl h
 |some q=>
  have:=Gi.2 (F3 (By a));simpa using this
theorem af.turned{Γ Θ:TC}{ρ:HS Γ}{θ:HS Θ}{st:St}{w:Nat->Ob}{fr:Nat->SV}(u:aw Θ=true)(h:af Γ ρ st)(x:af Θ θ {fr:=fr,ob:=w}):af (Θ++Bh (A6 Θ) Γ) (CB Θ θ (BF (A6 Θ) ρ)) (C9 (A6 Θ) w st):=by
 simp only[aw,Ag]at u;have C:=h.kill (A6 Θ);refine⟨fun i q y=> ?_,fun id q y=> ?_⟩
 ·rcases D7 y with⟨v,f,g,_⟩|⟨_,f,g,e⟩
  ·have:=Cp u.2 (By g);obtain⟨k,L⟩:=q;cases k<;>cases this
  ·rw[e];exact C.s i _ g
 ·rcases D7 y with⟨v,f,g,e⟩|⟨v,f,g,e⟩
  ·have ag:(A6 Θ).contains id=true:=by simpa using Gi.2 v
   have r:=x.o id _ g;have a:=Cp u.2 (By g);rw[e];show RO _ _ id q.1 (f θ) (if(A6 Θ).contains id=true then w id else _);rw[if_pos ag];obtain⟨k,L⟩:=q;cases k<;>(try cases a;done)
   case box n=>
    obtain⟨cs,M,I,K⟩:=r;refine⟨cs,M,I,fun j F D l=> ?_⟩;simp only[bW,Ag,List.all_eq_true,List.mem_range]at a;have p:=a.2 j D
    cases m:Ci Θ (.c id j)with
    |none=>rw[m]at p;cases p
    |some kc=>
     rcases D7 l with⟨_,A,b,B⟩|⟨t,_⟩
     ·rw[B];exact K j _ D b
     ·exact absurd (F3 m) t
   all_goals exact r
  ·have ag:¬(A6 Θ).contains id=true:=fun J=>v (Gi.1 (by simpa using J));have r:=C.o id _ g;have z:(WB.kill (A6 Θ) st).ob id=Ch (A6 Θ) (st.ob id):=by show(if _ then _ else _)=_;rw[if_neg ag]
   rw[z]at r;rw[e];show RO _ _ id q.1 (f _) (if(A6 Θ).contains id=true then w id else Ch (A6 Θ) (st.ob id));rw[if_neg ag];refine RO.congr r fun j F l=> ?_;rcases D7 l with⟨t,A,b,_⟩|⟨_,A,b,B⟩
   ·exfalso;have a:=Cp u.2 (By b)
    have d:(match Ci Θ (.o id)with
     |some (.box n bt)=>Nat.blt j n
     |_=>false)=true:=a
    split at d<;>(try cases d;done);rename_i n _ H;exact ag (by simpa using Gi.2 (F3 H))
   ·exact⟨A,b,B _ _⟩
theorem af.unturned{Γ Θ:TC}{ρ:HS Γ}{θ:HS Θ}{st:St}(F:aw Θ=true)(h:af Γ ρ st)(x:af Θ θ st):af (Θ++Bh (A6 Θ) Γ) (CB Θ θ (BF (A6 Θ) ρ)) st:=by
 simp only[aw,Ag]at F
 have down:∀p q,p∉Θ.map (·.1)->get (Bh (A6 Θ) Γ) p=some q->q.1=.undef\/∃f,get Γ p=some ⟨q.1,f⟩/\q.2 (BF (A6 Θ) ρ)=f ρ:=by
  intro p q N y;rcases Ip (bM (Hq Γ (A6 Θ)) ρ) y with⟨d,hd,v,_⟩|⟨_,f,l,e⟩
  ·exact absurd (v▸Gi.1 hd) N
  ·rcases Ir ρ l with⟨_,m⟩|⟨_,g,A,C⟩
   ·exact .inl m
   ·exact .inr ⟨g,A,e.trans C⟩
 refine⟨fun i q y=> ?_,fun id q y=> ?_⟩
 ·rcases D7 y with⟨v,f,l,e⟩|⟨v,f,l,e⟩
  ·rw[e];exact x.s i _ l
  ·rcases down _ _ v l with m|⟨g,A,C⟩
   ·obtain⟨k,H⟩:=q;simp only at m;subst m
    trivial
   ·have J:=(e θ (BF (A6 Θ) ρ)).trans C;rw[J];exact h.s i _ A
 ·rcases D7 y with⟨v,f,l,e⟩|⟨v,f,l,e⟩
  ·have r:=x.o id _ l;have a:=Cp F.2 (By l);rw[e];obtain⟨k,H⟩:=q;cases k<;>(try cases a;done)
   case box n=>
    obtain⟨cs,S,P,Q⟩:=r;refine⟨cs,S,P,fun j L D w=> ?_⟩;simp only[bW,Ag,List.all_eq_true,List.mem_range]at a;have B:=a.2 j D
    cases z:Ci Θ (.c id j)with
    |none=>rw[z]at B;cases B
    |some kc=>
     rcases D7 w with⟨_,M,b,K⟩|⟨t,_⟩
     ·rw[K];exact Q j _ D b
     ·exact absurd (F3 z) t
   all_goals exact r
  ·rcases down _ _ v l with m|⟨g,A,C⟩
   ·obtain⟨k,H⟩:=q;simp only at m;subst m
    trivial
   ·have r:=h.o id _ A;have J:=(e θ (BF (A6 Θ) ρ)).trans C;rw[J];obtain⟨k,H⟩:=q;cases k<;>try exact r
    obtain⟨cs,q1,q2,q3⟩:=r;refine⟨cs,q1,q2,fun j L D w=> ?_⟩;rcases D7 w with⟨t,M,b,_⟩|⟨t,M,b,K⟩
    ·exfalso;have a:=Cp F.2 (By b)
     have u:(match Ci Θ (.o id)with
      |some (.box n bt)=>Nat.blt j n
      |_=>false)=true:=a
     split at u<;>(try cases u;done);rename_i T _ O;exact v (F3 O)
    ·rcases down _ _ t b with m|⟨g',hg',e2'⟩
     ·obtain⟨U,R⟩:=L;simp only at m;subst m;have:j<cs.length:=by omega
      exact⟨cs[j],by simp[this],trivial⟩
     ·obtain⟨sv,q4,q5⟩:=q3 j _ D hg';have I:=(K θ (BF (A6 Θ) ρ)).trans e2';rw[I];exact⟨sv,q4,q5⟩
structure Sig where
 a:Ty
 r:Ty
 fn:D a->Option (D r)
structure SigE where
 Θ:TC
 a:Ty
 r:Ty
 fn:D a->HS Θ->Option (D r×HS Θ)
structure Le where
 e:TypeId
 size:Nat
 t:Ty
 fn:List (D t)->Option (List (D t))
def YA{t u:Ty}(h:t=u)(fn:List (D u)->Option (List (D u))):List (D t)->Option (List (D t)):=h▸fn
def Dx:Option TC->Db
 |none=>.no
 |some Θ=>⟨fun N=>(A6 Θ).contains N=true,fun N=>(A6 Θ).contains N=true⟩
def Mq:Option TC->Nat->Bool
 |none,_=>false
 |some Θ,id=>(A6 Θ).contains id
theorem Adc{o:Option TC}{id:Nat}(h:Mq o id=false):¬(Dx o).I id:=by
 cases o with
 |none=>exact fun h=>h
 |some Θ=>intro b;have c:(A6 Θ).contains id=false:=h;have a:(A6 Θ).contains id=true:=b;rw[c]at a;cases a
structure TP where
 G:Nat->List CV
 T:FuncId->Option Sig
 TT:Nat->Option Ty
 TM:Nat->Option (Ty×Ty)
 cp:FuncId->Bool:=fun _=>false
 TN:FuncId->Option Sig:=fun _=>none
 TE:FuncId->Option SigE:=fun _=>none
 Θ:Option TC:=none
 srt:FuncId->FuncId->Option Le:=fun _ _=>none
def bz(E:ah):Prop:=∀f e,E.ef f=some e->(e.T.all fun N=>Nat.ble As N)=true
theorem bz.at{E:ah}(h:bz E)(D:Option (List Nat)):bz (E.at D):=by
 cases D with
 |none=>exact h
 |some D=>intro f e a;cases a
theorem bz.named{E:ah}:bz E.named:=by
 intro f e a;simp only[ah.named]at a;split at a
 ·split at a
  ·cases a;assumption
  ·cases a
 ·cases a
structure aG (X:TP) (E:ah):Prop where
 G:E.G=X.G
 cp:E.cp=X.cp
 fn:∀f s,X.T f=some s->s.r.val=true/\s.r.ok=true/\∀x l y,Can s.a x l->s.fn x=some y->E.fn f l=some (.val (enc s.r y))
 ef:∀f,(X.T f).isSome=true\/(X.TN f).isSome=true->E.ef f=none
 nw:∀f a e size t fn,X.TN f=some ⟨a,.nw e size t,fn⟩->t.val=true/\∀x l ys,Can a x l->fn x=some ys->∃es,E.fn f l=some (.new (.arr e size es))/\CanAll (fun x c=>Can t x [c]) ys es
 hi:bz E
 srt:∀f g s,X.srt f g=some s->∀xs es ys,CanAll (fun x c=>Can s.t x [c]) xs es->s.fn xs=some ys->∃es',E.srt f g s.e s.size es=some es'/\CanAll (fun x c=>Can s.t x [c]) ys es'
def BH(X:TP)(E:ah):Prop:=∀f s,X.TE f=some s->(s.r.val=true/\((A6 s.Θ).all fun N=>Nat.ble As N)=true)/\s.r.ok=true/\∃e,E.ef f=some e/\e.T=A6 s.Θ/\
 ∀x l θ H y b,Can s.a x l->af s.Θ θ {fr:=fun _=>.undef,ob:=H}->s.fn x θ=some (y,b)->e.fn l H=some (enc s.r y,Bb s.Θ b)
def TP.noE(X:TP):TP:={X with TE:=fun _=>none}
theorem aG.noE{X:TP}{E:ah}(h:aG X E):aG X.noE E:=⟨h.G,h.cp,h.fn,h.ef,h.nw,h.hi,h.srt⟩
theorem BH.noE(X:TP)(E:ah):BH X.noE E:=fun _ _ h=>by cases h
theorem aG.named{X:TP}{E:ah}(h:aG X E):aG X E.named:=⟨h.G,h.cp,fun f s d=>by
 obtain⟨j,i,g⟩:=h.fn f s d;refine⟨j,i,fun x l y c b=> ?_⟩
 show(match E.fn f l with
  |some (be.new o)=>if Ey o=true then some (be.new o)else none
  |r=>r)=_
 rw[g x l y c b],fun f m=>by
 show(match E.ef f with
  |some e=>if(e.T.all fun N=>Nat.ble As N)=true then some e else none
  |none=>none)=none
 rw[h.ef f m],fun f a e size t fn d=>by
 obtain⟨j,i⟩:=h.nw f a e size t fn d;refine⟨j,fun x l k c b=> ?_⟩;obtain⟨es,g,n⟩:=i x l k c b;refine⟨es, ?_,n⟩
 show(match E.fn f l with
  |some (be.new o)=>if Ey o=true then some (be.new o)else none
  |r=>r)=_
 rw[g]
 rfl,bz.named,h.srt⟩
theorem BH.named{X:TP}{E:ah}(h:BH X E):BH X E.named:=fun f s c=>by
 obtain⟨b,i,e,g,a,d⟩:=h f s c;refine⟨b,i,e, ?_,a,d⟩
 show(match E.ef f with
  |some e=>if(e.T.all fun N=>Nat.ble As N)=true then some e else none
  |none=>none)=_
 rw[g];simp only;rw[a,if_pos b.2]
def ah.pois(E:ah):ah:={E with ef:=fun f=>(E.ef f).map fun e=>⟨e.T,fun _ _=>none⟩}
theorem aG.pois{X:TP}{E:ah}(h:aG X E):aG X E.pois:=⟨h.G,h.cp,h.fn,fun f a=>by
 show(E.ef f).map _=none
 rw[h.ef f a];rfl,h.nw,(fun f e b=>by
 obtain⟨d,c,rfl⟩:=Aa.1 b
 exact h.hi f d c),h.srt⟩
theorem aG.at{X:TP}{E:ah}(h:aG X E)(D:Option (List Nat)):aG X (E.at D):=⟨by rw[Dp];exact h.G,by rw[Yf];exact h.cp,by rw[Tb];exact h.fn,fun f a=>Yg (h.ef f a),by rw[Tb];exact h.nw,h.hi.at D,by rw[Yh];exact h.srt⟩
def bK:Ty->Bool
 | .int _| .bool| .str=>true
 | .agg r| .tup r=>bK r
 | .nil=>true
 | .one t=>bK t
 | .cons t r=>bK t&&bK r
 |_=>false
theorem V7:∀{t:Ty} {x:D t} {cs:List CV},bK t=true->Can t x cs->C4 cs=true:=by
 intro t
 induction t with
 |int k=>intro x cs _ h;unfold Can at h;subst h;rfl
 |bool=>intro x cs _ h;unfold Can at h;subst h;rfl
 |str=>intro x cs _ h;unfold Can at h;subst h;rfl
 |nil=>intro x cs _ h;unfold Can at h;subst h;rfl
 |agg r ih=>intro x cs a h;unfold Can at h;obtain⟨l,rfl,h⟩:=h;simp[C4,memless,ih a h]
 |tup r ih=>intro x cs a h;unfold Can at h;obtain⟨l,rfl,h⟩:=h;simp[C4,memless,ih a h]
 |one t ih=>intro x cs a h;unfold Can at h;obtain⟨c,rfl,h⟩:=h;exact ih a h
 |cons t r iht ihr=>
  intro x cs a h;simp only[bK,Ag]at a;unfold Can at h;obtain⟨c,l,rfl,d,b⟩:=h;have:=iht a.1 d;simp only[C4,Bool.and_true]at this;simp[C4,this,ihr a.2 b]
 |_=>intro x cs a;cases a
def BO:(r s:Ty)->Σ q:Ty,D r->D s->D q
 | .one t,.nil=>⟨.one t,fun x _=>x⟩
 | .one t,s=>⟨.cons t s,fun x y=>(x,y)⟩
 | .cons t r,s=>⟨.cons t (BO r s).1,fun x y=>(x.1,(BO r s).2 x.2 y)⟩
 |_,s=>⟨s,fun _ y=>y⟩
theorem HU:∀{r s:Ty} {n:Nat} {x:D r} {y:D s} {l m:List CV},AQ r=some n->Can r x l->Can s y m->Can (BO r s).1 ((BO r s).2 x y) (l++m):=by
 intro r
 induction r with
 |nil=>intro s n x y l m _ h k;unfold Can at h;subst h;exact k
 |one t _=>
  intro s n x y l m _ h k;unfold Can at h;obtain⟨c,rfl,h⟩:=h;cases s
  case nil=>
   unfold Can at k;subst k;change Can (.one t) x [c];unfold Can;exact⟨c,rfl,h⟩
  all_goals
   change Can (.cons t _) (x,y) (c::m);unfold Can;exact⟨c,m,rfl,h,k⟩
 |cons t r _ ihr=>
  intro s n x y l m a h k;simp only[AQ,Aa]at a;obtain⟨e,a,_⟩:=a;unfold Can at h;obtain⟨c,l',rfl,d,b⟩:=h;change Can (.cons t (BO r s).1) (x.1,(BO r s).2 x.2 y) (c::(l'++m));unfold Can;exact⟨c,l'++m,rfl,d,ihr a b k⟩
 |_=>intro s n x y l m a;cases a
def I3{V:Type}(m y:List (List UInt8×V)):Option (List (List UInt8×V)):=
 if m.isEmpty=true/\(y.all fun p=>decide (p.1.length≤9223372036854775807))=true/\y.length≤9223372036854775807 then some y else none
structure bE (Γ:TC):Type 1 where
 Γ':TC
 B:Type
 d:ab (HS Γ) B
 up:HS Γ->B->HS Γ'
section
variable (X:TP) (Γ:TC) (msk:List Nat)
def cm:SO->Option (Bool×Σ t:Ty,ab (HS Γ) (D t))
 | .t i=>match get Γ (.s i)with
  |some ⟨.v t,f⟩=>some (true,⟨t,.tot f⟩)
  |some ⟨.opt (.v t),f⟩=>some (true,⟨t,.par f⟩)
  |some ⟨.own id,_⟩=>match Em Γ msk id with
   |some ⟨.arr _ _ t,xs⟩=>some (false,⟨.sl t,.tot xs⟩)
   |_=>none
  |some ⟨.mp id,_⟩=>match Em Γ msk id with
   |some ⟨.mob _ k v,xs⟩=>some (false,⟨.map k v,.tot xs⟩)
   |_=>none
  |_=>none
 | .k c=>match BK c with
  |some q=>some (true,⟨q.1,.tot fun _=>q.2⟩)
  |none=>none
 | .g _=>none
def FS:List SO->Option (Bool×Σ r:Ty,ab (HS Γ) (D r))
 | []=>some (true,⟨.nil,.tot fun _=>()⟩)
 | [x]=>match cm Γ msk x with
  |some q=>some (q.1,⟨.one q.2.1,q.2.2⟩)
  |none=>none
 |x::y::xs=>match cm Γ msk x,FS (y::xs)with
  |some q,some p=>some (q.1&&p.1,⟨.cons q.2.1 p.2.1,q.2.2.both p.2.2⟩)
  |_,_=>none
def HY(a b:Ty)(fl:Bool):(t:Ty)->Option (D t->D a->Option (D b))
 | .nfn=>some fun _ _=>none
 | .clo g r=>match X.T g with
  |some s=>match Ba (BO a r).1 s.a,Ba s.r b with
   |some h,some k=>if(fl||bK s.r)=true then some fun x y=>(s.fn (h ((BO a r).2 y x))).map k else none
   |_,_=>none
  |none=>none
 | .falt g r l=>match X.T g with
  |some s=>match Ba (BO a r).1 s.a,Ba s.r b,HY a b fl l with
   |some h,some k,some F=>if(fl||bK s.r)=true then some fun x y=>match x with
     | .inl c=>(s.fn (h ((BO a r).2 y c))).map k
     | .inr z=>F z y
    else none
   |_,_,_=>none
  |none=>none
 |_=>none
def L0:aa->Option (Σ k:EK,ab (HS Γ) (DK k))
 | .call f args=>match X.T f with
  |some s=>match FS Γ msk args with
   |some q=>match Ba q.2.1 s.a with
    |some g=>if(q.1||bK s.r)=true then some ⟨.v s.r,(q.2.2.map fun _ x=>g x).comp (.par s.fn)⟩else none
    |none=>none
   |none=>none
  |none=>none
 | .callv f args=>match ao Γ f with
  |some ⟨.clo g r,d⟩=>match X.T g with
   |some s=>match FS Γ msk args with
    |some q=>match AQ q.2.1,Ba (BO q.2.1 r).1 s.a with
     |some _,some h=>if(q.1||bK s.r)=true then some ⟨.v s.r,((q.2.2.both d).map fun _ x=>h ((BO q.2.1 r).2 x.1 x.2)).comp (.par s.fn)⟩else none
     |_,_=>none
    |none=>none
   |none=>none
  |some ⟨.falt g r l,d⟩=>match X.T g with
   |some s=>match FS Γ msk args with
    |some q=>match AQ q.2.1,HY X q.2.1 s.r q.1 (.falt g r l)with
     |some _,some F=>some ⟨.v s.r,(q.2.2.both d).comp (.par fun x=>F x.2 x.1)⟩
     |_,_=>none
    |none=>none
   |none=>none
  |_=>none
 |_=>none
def Fj(d:Nat):aa->Option (bE Γ)
 | .alloc z=>match Fv z with
  |some q=>match F9 d 0 q.1 Γ with
   |some p=>some ⟨(.s d,.ptr d 0)::(.o d,.box z.length none)::p.1,Unit,.tot fun _=>(),fun ρ _=>((),(),p.2 ρ q.2)⟩
   |none=>none
  |none=>none
 | .allocT T z=>match Fv z with
  |some q=>match F9 d 0 q.1 Γ with
   |some p=>some ⟨(.s d,.ptr d 0)::(.o d,.box z.length (some T))::p.1,Unit,.tot fun _=>(),fun ρ _=>((),(),p.2 ρ q.2)⟩
   |none=>none
  |none=>none
 | .box x=>match ao Γ x with
  |some ⟨.agg r,e⟩=>match AQ r,F9 d 0 r Γ with
   |some n,some p=>some ⟨(.s d,.ptr d 0)::(.o d,.box n none)::p.1,D r,e,fun ρ y=>((),(),p.2 ρ y)⟩
   |_,_=>none
  |some ⟨t,e⟩=>if Fi t=true then some ⟨(.s d,.ptr d 0)::(.o d,.box 1 none)::(.c d 0,.v t)::Γ,D t,e,fun ρ y=>((),(),y,ρ)⟩else none
  |none=>none
 | .mksl e size parts=>match X.TT e with
  |some t=>match Iz Γ t parts with
   |some l=>if t.val=true/\AQ (BL t)=some size then some ⟨(.s d,.own d)::(.o d,.arr e size t)::Γ,List (D t),l,fun ρ y=>((),y,ρ)⟩else none
   |none=>none
  |none=>none
 | .mkmap mt kt z=>match X.TM mt with
  |some (k,v)=>if BX v [z]=true/\cQ kt k=true/\DT k=true then some ⟨(.s d,.mp d)::(.o d,.mob mt k v)::Γ,Unit,.tot fun _=>(),fun ρ _=>((),[],ρ)⟩else none
  |none=>none
 | .make e size bytes z x y=>match X.TT e,ao Γ x,ao Γ y with
  |some t,some ⟨.int _,dx⟩,some ⟨.int _,dy⟩=>if BX t [z]=true then some ⟨(.s d,.own d)::(.o d,.arr e size t)::Γ,List (D t),(dx.both dy).comp (.par fun p=>if 0≤p.1/\p.1≤p.2/\p.2*(bytes:Int)≤140737488355328/\p.2≤4611686018427387904 then some (List.replicate p.1.toNat (AL t))else none),fun ρ y=>((),y,ρ)⟩else none
  |_,_,_=>none
 | .nbytes e x=>match ao Γ x with
  |some ⟨.str,dx⟩=>some ⟨(.s d,.own d)::(.o d,.arr e 1 (.int .u8))::Γ,List Int,dx.comp (.par fun s=>if s.length≤70368744177664 then some (s.map fun b=>(b.toNat:Int))else none),fun ρ y=>((),y,ρ)⟩
  |_=>none
 | .mrange x=>match ao Γ x with
  |some ⟨.map k v,dx⟩=>some ⟨(.s d,.iter d)::(.o d,.mit k v)::Γ,List (D k×D v),dx,fun ρ y=>((),y,ρ)⟩
  |some ⟨.nmap,dx⟩=>none
  |_=>none
 | .siter x=>match ao Γ x with
  |some ⟨.str,e⟩=>some ⟨(.s d,.iter d)::(.o d,.sit)::Γ,List UInt8,e,fun ρ y=>((),(y,0),ρ)⟩
  |_=>none
 |_=>none
def JY(t:Ty)(x:SO):Option (ab (HS Γ) (List (D t))):=
 match cm Γ [] x with
 |some (_,⟨u,e⟩)=>match Ba u (.sl t)with
  |some g=>some (e.map fun _ y=>g y)
  |none=>none
 |none=>none
def ID(t:Ty)(o n:Nat)(u:Ty):Option (D t->D u->D t):=
 match t with
 | .agg r=>match AQ (BL u),Kn (BL u) r o with
  |some m,some q=>if h:q.1=r then if m=n/\u.val=true then some fun x y=>h▸q.2 x (Gl u y)else none else none
  |_,_=>none
 |t=>if n=1/\o=0/\Fi u=true then match Ba u t with
   |some g=>some fun _ y=>g y
   |none=>none
  else none
def Ky(id:Nat)(t:Ty)(o:Nat):(n j:Nat)->Option (Σ Γ':TC,HS Γ->Nat->D t->HS Γ')
 |0,_=>some ⟨Γ,fun ρ _ _=>ρ⟩
 |n+1,j=>match get Γ (.c id (o+j)),Ky id t o n (j+1)with
  |some ⟨.v u,f⟩,some p=>if h:u=t then some ⟨(.c id (o+j),.v t)::p.1,fun ρ i y=>(if i=j then y else(h▸f ρ:D t),p.2 ρ i y)⟩else none
  |_,_=>none
def GE(d:Option Nat):aa->Option (bE Γ)
 | .store n a x=>match (b5 X.G Γ a).map (D6 Γ [])with
  |some ⟨.ptr id o,.tot _⟩=>match get Γ (.o id)with
   |some ⟨.box nb bt,_⟩=>match b5 X.G Γ x with
    |some ⟨.v (.agg r),e⟩=>match AQ r,F9 id o r Γ with
     |some m,some p=>if m=n/\o+n≤nb/\Fh r=true then some ⟨p.1,D r,e,fun ρ y=>p.2 ρ y⟩else none
     |_,_=>none
    |some ⟨.v t,e⟩=>if n=1/\o<nb/\Fi t=true then some ⟨(.c id o,.v t)::Γ,D t,e,fun ρ y=>(y,ρ)⟩else none
    |some ⟨.own i,.tot _⟩=>if n=1/\o<nb then some ⟨(.c id o,.own i)::Γ,Unit,.tot fun _=>(),fun ρ _=>((),ρ)⟩else none
    |some ⟨.mp i,.tot _⟩=>if n=1/\o<nb then some ⟨(.c id o,.mp i)::Γ,Unit,.tot fun _=>(),fun ρ _=>((),ρ)⟩else none
    |_=>none
   |_=>none
  |some ⟨.aptr id len o,di⟩=>match get Γ (.o id)with
   |some ⟨.box nb bt,_⟩=>match ao Γ x with
    |some ⟨t,e⟩=>match Ky Γ id t o len 0 with
     |some p=>if n=1/\o+len≤nb/\Fi t=true then some ⟨p.1,Nat×D t,di.both e,fun ρ z=>p.2 ρ z.1 z.2⟩else none
     |none=>none
    |none=>none
   |_=>none
  |some ⟨.eptr id size o,di⟩=>match get Γ (.o id)with
   |some ⟨.arr e sz t,xs⟩=>match ao Γ x with
    |some ⟨u,dx⟩=>match ID t o n u with
     |some g=>if size=sz/\0<n/\t.val=true/\AQ (BL t)=some sz/\Fh (BL u)=true then some ⟨(.o id,.arr e sz t)::Γ,List (D t),((di.both dx).map fun ρ p=>((xs ρ)[p.1]?).map fun j=>(xs ρ).set p.1 (g j p.2)).comp (.par fun y=>y),fun ρ y=>(y,ρ)⟩else none
     |none=>none
    |none=>none
   |_=>none
  |some ⟨.v (.pt (.one .bool)),da⟩=>match ao Γ x with
   |some ⟨.bool,dx⟩=>if n=1 then some ⟨Γ,Unit,(da.both dx).comp (.par fun p=>if(show Bool from p.1)=(show Bool from p.2)then some ()else none),fun ρ _=>ρ⟩else none
   |_=>none
  |_=>none
 | .append e size bytes x y=>match b5 X.G Γ x with
  |some ⟨.own id,.tot _⟩=>match get Γ (.o id)with
   |some ⟨.arr e' size' t,xs⟩=>match JY Γ t y,d with
    |some l,some d=>if e'=e/\size'=size/\t.val=true/\AQ (BL t)=some size/\Fh (BL t)=true then some ⟨(.s d,.own id)::(.o id,.arr e size t)::Bh [id] Γ,List (D t),(l.map fun ρ b=>if(((xs ρ).length:Int)+(b.length:Int))*(bytes:Int)≤140737488355328/\((xs ρ).length:Int)+(b.length:Int)≤4611686018427387904 then some (xs ρ++b)else none).comp (.par fun y=>y),fun ρ y=>((),y,BF [id] ρ)⟩else none
    |_,_=>none
   |_=>none
  |some ⟨.v .nsl,.tot _⟩=>match X.TT e with
   |some t=>match JY Γ t y,d with
    |some l,some d=>if t.val=true/\AQ (BL t)=some size/\Fh (BL t)=true then some ⟨(.s d,.own d)::(.o d,.arr e size t)::Bh [d] Γ,List (D t),l.comp (.par fun b=>if(b.length:Int)*(bytes:Int)≤140737488355328/\(b.length:Int)≤4611686018427387904 then some b else none),fun ρ y=>((),y,BF [d] ρ)⟩else none
    |_,_=>none
   |none=>none
  |_=>none
 | .cpy e size x y=>match b5 X.G Γ x with
  |some ⟨.own id,.tot _⟩=>match get Γ (.o id)with
   |some ⟨.arr e' size' t,xs⟩=>match JY Γ t y,d with
    |some l,some d=>if e'=e/\size'=size/\t.val=true/\AQ (BL t)=some size/\Fh (BL t)=true then some ⟨(.s d,.v (.int .i64))::(.o id,.arr e size t)::Γ,List (D t),l,fun ρ b=>(((min b.length (xs ρ).length:Nat):Int),b.take (min b.length (xs ρ).length)++(xs ρ).drop (min b.length (xs ρ).length),ρ)⟩else none
    |_,_=>none
   |_=>none
  |_=>none
 | .mapent mt x k=>match b5 X.G Γ x,ao Γ k,d with
  |some ⟨.mp id,.tot _⟩,some q,some d=>match get Γ (.o id)with
   |some ⟨.mob mt' kt vt,m⟩=>match Ba q.1 kt with
    |some g=>if mt'=mt/\DT kt=true then some ⟨(.s d,.ent id kt vt)::(.o id,.mob mt kt vt)::Γ,D kt×D vt,q.2.map fun ρ k=>(g k,(AP (aj kt) (AL vt) (g k) (m ρ)).1),fun ρ p=>(p,Bk (aj kt) p.1 p.2 (m ρ),ρ)⟩else none
    |none=>none
   |_=>none
  |_,_,_=>none
 | .entst x s v=>match b5 X.G Γ x,b5 X.G Γ s,ao Γ v with
  |some ⟨.mp id,.tot _⟩,some ⟨.stamp id' kt,.tot fs⟩,some q=>match get Γ (.o id)with
   |some ⟨.mob mt kt' vt,m⟩=>match Ba q.1 vt with
    |some g=>if h:kt=kt' then if id=id'/\DT kt'=true then some ⟨(.o id,.mob mt kt' vt)::Γ,List (D kt'×D vt),(q.2.map fun ρ v=>if(AP (aj kt') (AL vt) (h▸fs ρ) (m ρ)).2=true then some (Bk (aj kt') (h▸fs ρ) (g v) (m ρ))else none).comp (.par fun y=>y),fun ρ y=>(y,ρ)⟩else none else none
    |none=>none
   |_=>none
  |_,_,_=>none
 | .mapupd mt x k v=>match b5 X.G Γ x,ao Γ k,ao Γ v with
  |some ⟨.mp id,.tot _⟩,some q,some p=>match get Γ (.o id)with
   |some ⟨.mob mt' kt vt,m⟩=>match Ba q.1 kt,Ba p.1 vt with
    |some g,some f=>if mt'=mt/\DT kt=true then some ⟨(.o id,.mob mt kt vt)::Γ,List (D kt×D vt),(q.2.both p.2).map fun ρ z=>Bk (aj kt) (g z.1) (f z.2) (m ρ),fun ρ y=>(y,ρ)⟩else none
    |_,_=>none
   |_=>none
  |_,_,_=>none
 |_=>none
def Qc(d:Option Nat):aa->Option (bE Γ)
 | .mcopy f x y=>if X.cp f=true then match b5 X.G Γ x,ao Γ y,d with
  |some ⟨.mp id,.tot _⟩,some ⟨.map .str ut,q⟩,some d=>match get Γ (.o id)with
   |some ⟨.mob mt .str vt,m⟩=>match Ba (.map .str ut) (.map .str vt)with
    |some g=>some ⟨(.s d,.v (.tup .nil))::(.o id,.mob mt .str vt)::Γ,List (List UInt8×D vt),(q.map fun ρ y=>I3 (m ρ) (g y)).comp (.par fun y=>y),fun ρ y=>((),y,ρ)⟩
    |none=>none
   |_=>none
  |_,_,_=>none
 else match b5 X.G Γ x,y,d with
  |some ⟨.own id,.tot _⟩,.k (.fn g []),some d=>match get Γ (.o id),X.srt f g with
   |some ⟨.arr e size t,xs⟩,some s=>if h:t=s.t then if e=s.e/\size=s.size then some ⟨(.s d,.v (.tup .nil))::(.o id,.arr e size t)::Γ,List (D t),.par fun ρ=>YA h s.fn (xs ρ),fun ρ y=>((),y,ρ)⟩else none else none
   |_,_=>none
  |_,_,_=>none
 |_=>none
def gD{A B:Type}(f:A->Bool)(a:Bool):ab A B->ab A (Option B)
 | .tot g=>.tot fun ρ=>if f ρ=a then some (g ρ)else none
 | .par g=>.par fun ρ=>if f ρ=a then(g ρ).map some else some none
def gO{A B:Type}(f:A->Option Bool)(a:Bool):ab A B->ab A (Option B)
 | .tot g=>.tot fun ρ=>if f ρ=some a then some (g ρ)else none
 | .par g=>.par fun ρ=>if f ρ=some a then(g ρ).map some else some none
def N5(op:aa):Option (Σ k:EK,ab (HS Γ) (DK k)):=
 match op.cls with
 | .val| .grow=>QR X.G Γ msk op
 | .call=>L0 X Γ msk op
 |_=>none
def Qb(d:Nat):aa->Option (bE Γ)
 | .call f args=>match X.TN f with
  |some ⟨a,.nw e size t,fn⟩=>match get Γ (.o d)with
   |some ⟨.gone,_⟩=>match FS Γ msk args with
    |some q=>match Ba q.2.1 a with
     |some g=>if(q.1||bK t)=true then some ⟨(.s d,.own d)::(.o d,.arr e size t)::Γ,List (D t),(q.2.2.map fun _ x=>g x).comp (.par fn),fun ρ y=>((),y,ρ)⟩else none
     |none=>none
    |none=>none
   |_=>none
  |_=>none
 |_=>none
structure d4 (Γ:TC) where
 Θ:TC
 r:Ty
 θ:HS Γ->HS Θ
 d:ab (HS Γ) (D r×HS Θ)
def O6{Θ Θ':TC}{a r b:Ty}(fn:D a->HS Θ->Option (D r×HS Θ))(h:Θ=Θ')(c:r=b):D a->HS Θ'->Option (D b×HS Θ'):=h▸c▸fn
def Jl(a:Ty)(Θ:TC)(r:Ty):(t:Ty)->Option (D t->D a->HS Θ->Option (D r×HS Θ))
 | .clo g c=>match X.TE g with
  |some s=>match Ba (BO a c).1 s.a with
   |some h=>if hΘ:s.Θ=Θ then(if b:s.r=r then some fun x y θ=>O6 s.fn hΘ b (h ((BO a c).2 y x)) θ else none)else none
   |none=>none
  |none=>none
 | .falt g c l=>match X.TE g,Jl a Θ r l with
  |some s,some F=>match Ba (BO a c).1 s.a with
   |some h=>if hΘ:s.Θ=Θ then(if b:s.r=r then some fun x y θ=>match x with
     | .inl z=>O6 s.fn hΘ b (h ((BO a c).2 y z)) θ
     | .inr z=>F z y θ
    else none)else none
   |none=>none
  |_,_=>none
 |_=>none
def c7:aa->Option (d4 Γ)
 | .call f args=>match X.TE f with
  |some s=>match Gw Γ args,Cc Γ s.Θ with
   |some q,some g=>match Ba q.1 s.a with
    |some h=>some ⟨s.Θ,s.r,g,(q.2.map fun ρ x=>(h x,g ρ)).comp (.par fun p=>s.fn p.1 p.2)⟩
    |none=>none
   |_,_=>none
  |none=>none
 | .callv f args=>match ao Γ f,Gw Γ args with
  |some ⟨.clo g c,d⟩,some q=>match X.TE g with
   |some s=>match AQ q.1,Ba (BO q.1 c).1 s.a,Cc Γ s.Θ with
    |some _,some h,some gθ=>some ⟨s.Θ,s.r,gθ,((q.2.both d).map fun ρ x=>(h ((BO q.1 c).2 x.1 x.2),gθ ρ)).comp (.par fun p=>s.fn p.1 p.2)⟩
    |_,_,_=>none
   |none=>none
  |some ⟨.falt g c l,d⟩,some q=>match X.TE g with
   |some s=>match AQ q.1,Cc Γ s.Θ,Jl X q.1 s.Θ s.r (.falt g c l)with
    |some _,some gθ,some F=>some ⟨s.Θ,s.r,gθ,((q.2.both d).map fun ρ x=>(x,gθ ρ)).comp (.par fun p=>F p.1.2 p.1.1 p.2)⟩
    |_,_,_=>none
   |none=>none
  |_,_=>none
 |_=>none
def H9(l:SL):Option (bE Γ):=
 match c7 X Γ l.op with
 |some e=>if aw e.Θ=true then match l.guard,l.dst with
  |none,some d=>some ⟨(.s d,.v e.r)::(e.Θ++Bh (A6 e.Θ) Γ),D e.r×HS e.Θ,e.d,fun ρ p=>(p.1,CB e.Θ p.2 (BF (A6 e.Θ) ρ))⟩
  |none,none=>some ⟨e.Θ++Bh (A6 e.Θ) Γ,D e.r×HS e.Θ,e.d,fun ρ p=>CB e.Θ p.2 (BF (A6 e.Θ) ρ)⟩
  |some (g,want),some d=>match get Γ (.s g)with
   |some ⟨.v .bool,f⟩=>some ⟨(.s d,.opt (.v e.r))::(e.Θ++Bh (A6 e.Θ) Γ),Option (D e.r×HS e.Θ),gD f want e.d,fun ρ b=>(b.map fun p=>p.1,CB e.Θ (match b with
         |some p=>p.2
         |none=>e.θ ρ) (BF (A6 e.Θ) ρ))⟩
   |some ⟨.opt (.v .bool),f⟩=>some ⟨(.s d,.opt (.v e.r))::(e.Θ++Bh (A6 e.Θ) Γ),Option (D e.r×HS e.Θ),gO f want e.d,fun ρ b=>(b.map fun p=>p.1,CB e.Θ (match b with
         |some p=>p.2
         |none=>e.θ ρ) (BF (A6 e.Θ) ρ))⟩
   |_=>none
  |_,_=>none
  else none
 |none=>none
def HA(l:SL):Option (bE Γ):=
 match l.guard with
 |none=>match l.op.cls with
  | .new=>match l.dst with
   |some d=>match get Γ (.o d)with
    |some ⟨.gone,_⟩=>Fj X Γ d l.op
    |_=>none
   |none=>none
  | .eff=>GE X Γ l.dst l.op
  | .copy=>Qc X Γ l.dst l.op
  |_=>match N5 X Γ (ag l.op msk) l.op with
   |some q=>match l.dst with
    |some d=>some ⟨(.s d,q.1)::Γ,DK q.1,q.2,fun ρ x=>(x,ρ)⟩
    |none=>some ⟨Γ,DK q.1,q.2,fun ρ _=>ρ⟩
   |none=>match l.dst with
    |some d=>Qb X Γ (ag l.op msk) d l.op
    |none=>none
 |some (g,want)=>match N5 X Γ (ag l.op msk) l.op,l.dst with
  |some q,some d=>match get Γ (.s g)with
   |some ⟨.v .bool,f⟩=>some ⟨(.s d,.opt q.1)::Γ,Option (DK q.1),gD f want q.2,fun ρ x=>(x,ρ)⟩
   |some ⟨.opt (.v .bool),f⟩=>some ⟨(.s d,.opt q.1)::Γ,Option (DK q.1),gO f want q.2,fun ρ x=>(x,ρ)⟩
   |_=>none
  |_,_=>none
def cn(l:SL):Option (bE Γ):=
 match H9 X Γ l with
 |some o=>some o
 |none=>HA X Γ msk l
end
section
variable {X:TP} {E:ah} {Γ:TC} {msk:List Nat} {ρ:HS Γ} {st:St} {rd:Nat->Ob}
theorem MZ{x:SO}{fl:Bool}{q:Σ t:Ty,ab (HS Γ) (D t)}(h:cm Γ msk x=some (fl,q))(j:af Γ ρ st)(l:∀id,msk.contains id=false->rd id=st.ob id){a:D q.1}(m:q.2.val ρ=some a){G:Nat->List CV}:
  ∃c,Cy rd (so G st.fr x)=some c/\Can q.1 a [c]/\(fl=true->bN (so G st.fr x)=true)/\
   (so G st.fr x=.c c\/(∃id e size es,so G st.fr x=.osl id/\rd id=.arr e size es/\c=.sl none es)\/∃B ks vs,c=.map B ks vs):=by
 cases x with
 |t i=>
  simp only[cm]at h;split at h
  ·rename_i t f d;cases h;cases m;obtain⟨c,e,w⟩:=j.s i _ d;have b:so G st.fr (.t i)=.c c:=e;exact⟨c,by rw[b];rfl,w,fun _=>by rw[b];rfl,.inl b⟩
  ·rename_i t f d;cases h;have:=j.s i _ d;have y:f ρ=some a:=m;unfold RS at this;simp only[y]at this;unfold RS at this;obtain⟨c,e,w⟩:=this;have b:so G st.fr (.t i)=.c c:=e;exact⟨c,by rw[b];rfl,w,fun _=>by rw[b];rfl,.inl b⟩
  ·rename_i id f d;split at h<;>(try cases h;done);rename_i b size t A o;cases h;cases m;obtain⟨es,e,u⟩:=ET o j l;have n:so G st.fr (.t i)=.osl id:=j.s i _ d;exact⟨.sl none es,by rw[n];simp only[Cy,e],by unfold Can;exact⟨_,_,rfl,u⟩,(fun r=>by cases r),.inr (.inl ⟨id,_,_,es,n,e,rfl⟩)⟩
  ·rename_i id f d;split at h<;>(try cases h;done);rename_i mt k v A o;cases h;cases m;obtain⟨z,ks,vs,e,_,H,C⟩:=ET o j l;have n:so G st.fr (.t i)=.omap id:=j.s i _ d;exact⟨.map none ks vs,by rw[n];simp only[Cy,e],by unfold Can;exact⟨_,_,_,rfl,H,C⟩,(fun r=>by cases r),.inr (.inr ⟨_,_,_,rfl⟩)⟩
  ·cases h
 |k c=>
  simp only[cm]at h;split at h<;>(try cases h;done);rename_i p F;cases h;cases m;exact⟨c,rfl,Jv F,fun _=>rfl,.inl rfl⟩
 |g i=>cases h
theorem IZ(i:af Γ ρ st)(d:∀id,msk.contains id=false->rd id=st.ob id){G:Nat->List CV}:∀{f:List SO} {fl:Bool} {q:Σ r:Ty,ab (HS Γ) (D r)} {a:D q.1},FS Γ msk f=some (fl,q)->q.2.val ρ=some a->
  ∃l,Aq (fun x=>Cy rd (so G st.fr x)) f=some l/\Can q.1 a l/\(fl=true->(f.all fun x=>bN (so G st.fr x))=true)
 | [],fl,q,a,h,ha=>by
  simp only[FS,Ac]at h;cases h;exact⟨[],rfl,by unfold Can;rfl,fun _=>rfl⟩
 | [x],fl,q,a,h,ha=>by
  simp only[FS]at h;split at h<;>(try cases h;done);rename_i p k;cases h;obtain⟨c,o,n,m,_⟩:=MZ (G:=G) (fl:=p.1) (q:=p.2) k i d ha;exact⟨[c],by simp[Aq,o],by unfold Can;exact⟨c,rfl,n⟩,fun g=>by simp[m g]⟩
 |x::y::f,fl,q,a,h,ha=>by
  simp only[FS]at h;split at h<;>(try cases h;done);rename_i p s k j;cases h;obtain⟨z,w⟩:=ab.both_val ha;obtain⟨c,o,n,m,_⟩:=MZ (G:=G) (fl:=p.1) (q:=p.2) k i d z;obtain⟨l,v,u,t⟩:=IZ i d (G:=G) (fl:=s.1) (q:=s.2) j w;refine⟨c::l, ?_,by unfold Can;exact⟨c,l,rfl,n,u⟩,fun g=> ?_⟩
  ·have e:Aq (fun x=>Cy rd (so G st.fr x)) (x::y::f)=(Cy rd (so G st.fr x)).bind fun b=>(Aq (fun x=>Cy rd (so G st.fr x)) (y::f)).map fun bs=>b::bs:=rfl;rw[e,o,v];rfl
  ·simp only[Ag]at g;have:=t g.2;rw[List.all_cons,m g.1,this];rfl
theorem OO{t:Ty}{x:D t}(a:t.val=true)(b:t.ok=true)(c:bK t=true):memless (enc t x)=true:=by
 have:=V7 c (Can.enc x a b);simpa[C4]using this
theorem Y3(hT:aG X E){a i:Ty}{fl:Bool}{n:Nat}(J:AQ a=some n):∀{t:Ty} {F:D t->D a->Option (D i)} {x:D t} {y:D a} {z:D i} {c:CV} {l:List CV},HY X a i fl t=some F->F x y=some z->Can t x [c]->Can a y l->
  ∃g b s v,c=.fn g b/\E.fn g (l++b)=some (.val (enc (Sig.r s) v))/\Can i z [enc s.r v]/\(fl||memless (enc s.r v))=true/\E.ef g=none:=by
 have one:∀{g:Nat} {r:Ty} {s:Sig} {h:D (BO a r).1->D s.a} {k:D s.r->D i} {c:D r} {y:D a} {z:D i} {b l:List CV},X.T g=some s->Ba (BO a r).1 s.a=some h->Ba s.r i=some k->(fl||bK s.r)=true->(s.fn (h ((BO a r).2 y c))).map k=some z->Can r c b->Can a y l->
   ∃v,E.fn g (l++b)=some (.val (enc s.r v))/\Can i z [enc s.r v]/\(fl||memless (enc s.r v))=true:=by
  intro g r s h k c y z b l j u K o f L m;obtain⟨v,q,p⟩:=Aa.1 f;obtain⟨H,C,s3⟩:=hT.fn g s j;refine⟨v,s3 _ _ v (C0 _ _ u (HU J m L)) q,p▸C0 _ _ K (Can.enc v H C), ?_⟩
  cases fl with
  |true=>rfl
  |false=>
   simp only[Bool.false_or]at o⊢;exact OO H C o
 intro t
 induction t with
 |clo g r _=>
  intro F x y z c l h f d m;simp only[HY]at h;split at h<;>(try cases h;done);rename_i s j;split at h<;>(try cases h;done);rename_i u I q p;split at h<;>(try cases h;done);rename_i o;cases h;unfold Can at d;obtain⟨b,e,d⟩:=d;cases e;obtain⟨v,B,A,g3⟩:=one j q p o f d m;exact⟨g,b,s,v,rfl,B,A,g3,hT.ef g (.inl (by rw[j];rfl))⟩
 |falt g r l' _ ihl=>
  intro F x y z c l h f d m;simp only[HY]at h;split at h<;>(try cases h;done);rename_i s j;split at h<;>(try cases h;done);rename_i u I N q p M;split at h<;>(try cases h;done);rename_i o;cases h
  cases x with
  |inl w=>
   unfold Can at d;obtain⟨b,e,d⟩:=d;cases e;obtain⟨v,B,A,g3⟩:=one j q p o f d m;exact⟨g,b,s,v,rfl,B,A,g3,hT.ef g (.inl (by rw[j];rfl))⟩
  |inr w=>
   unfold Can at d;exact ihl M f d.2 m
 |nfn=>
  intro F x y z c l h f;simp only[HY,Ac]at h;subst h;cases f
 |_=>intro F x y z c l h;cases h
theorem Y4(hT:aG X E)(H:af Γ ρ st)(j:∀id,msk.contains id=false->rd id=st.ob id){op:aa}{q:Σ k:EK,ab (HS Γ) (DK k)}{y:DK q.1}(W:op.cls=.call)(h:L0 X Γ msk op=some q)(w:q.2.val ρ=some y)(d:Option Nat):
  ∃v,A9 E rd st d op=some (st.set d (.c v))/\RS q.1 y (.c v):=by
 cases op<;>(try cases h;done)
 case call f args=>
  simp only[L0]at h;split at h<;>(try cases h;done);rename_i s A;split at h<;>(try cases h;done);rename_i p I;split at h<;>(try cases h;done);rename_i g Z;split at h<;>(try cases h;done);rename_i m;cases h;try dsimp only at w
  obtain⟨z,P,O⟩:=ab.comp_val w;obtain⟨a,t,S⟩:=ab.map_val P;subst S;obtain⟨l,N,M,L⟩:=IZ H j (G:=E.G) (fl:=p.1) (q:=p.2) I t;obtain⟨D,C,s3⟩:=hT.fn f s A;have K:=s3 _ l y (C0 _ _ Z M) O;refine⟨enc s.r y, ?_,_,rfl,Can.enc y D C⟩
  have J:((args.all fun x=>bN (so E.G st.fr x))||(be.val (enc s.r y)).memless)=true:=by
   cases b:p.1 with
   |true=>rw[L b];rfl
   |false=>
    rw[b]at m;simp only[Bool.false_or]at m;simp[be.memless,OO D C m]
  simp only[A9,aa.cls,hT.ef f (.inl (by rw[A];rfl)),D4,N,Option.bind_some,List.append_nil,K,J,if_true,E8]
 case callv f args=>
  simp only[L0]at h;split at h<;>(try cases h;done)
  case h_2=>
   rename_i g r lt e R;split at h<;>(try cases h;done);rename_i s A;split at h<;>(try cases h;done);rename_i p I;split at h<;>(try cases h;done);rename_i n F Q hF;cases h;try dsimp only at w
   obtain⟨z,P,O⟩:=ab.comp_val w;obtain⟨t,o⟩:=ab.both_val P;obtain⟨l,N,M,L⟩:=IZ H j (G:=E.G) (fl:=p.1) (q:=p.2) I t;obtain⟨c,V,B⟩:=AB (G:=E.G) R H o;obtain⟨g',i,s',v,U,K,h9,u,T⟩:=Y3 hT Q hF O B M;subst U;refine⟨enc s'.r v, ?_,_,rfl,h9⟩
   have J:((args.all fun x=>bN (so E.G st.fr x))||(be.val (enc s'.r v)).memless)=true:=by
    cases b:p.1 with
    |true=>rw[L b];rfl
    |false=>
     rw[b]at u;simp only[Bool.false_or]at u;simp[be.memless,u]
   simp only[A9,aa.cls,V,T,D4,N,Option.bind_some,K,J,if_true,E8]
  rename_i g r e R;split at h<;>(try cases h;done);rename_i s A;split at h<;>(try cases h;done);rename_i p I;split at h<;>(try cases h;done);rename_i n k Q Y;split at h<;>(try cases h;done);rename_i m;cases h;try dsimp only at w
  obtain⟨z,P,O⟩:=ab.comp_val w;obtain⟨a,t,S⟩:=ab.map_val P;obtain⟨t,o⟩:=ab.both_val t;subst S;obtain⟨l,N,M,L⟩:=IZ H j (G:=E.G) (fl:=p.1) (q:=p.2) I t;obtain⟨c,V,B⟩:=AB (G:=E.G) R H o;unfold Can at B;obtain⟨i,U,B⟩:=B;cases U;obtain⟨D,C,s3⟩:=hT.fn g s A;have K:=s3 _ (l++i) y (C0 _ _ Y (HU Q M B)) O;refine⟨enc s.r y, ?_,_,rfl,Can.enc y D C⟩
  have J:((args.all fun x=>bN (so E.G st.fr x))||(be.val (enc s.r y)).memless)=true:=by
   cases b:p.1 with
   |true=>rw[L b];rfl
   |false=>
    rw[b]at m;simp only[Bool.false_or]at m;simp[be.memless,OO D C m]
  simp only[A9,aa.cls,V,hT.ef g (.inl (by rw[A];rfl)),D4,N,Option.bind_some,K,J,if_true,E8]
theorem N6(hT:aG X E)(i:af Γ ρ st)(b:∀id,msk.contains id=false->rd id=st.ob id){op:aa}{q:Σ k:EK,ab (HS Γ) (DK k)}{y:DK q.1}(h:N5 X Γ msk op=some q)(g:q.2.val ρ=some y)(d:Option Nat):
  ∃sv,A9 E rd st d op=some (st.set d sv)/\RS q.1 y sv:=by
 unfold N5 at h;split at h
 ·rename_i a;obtain⟨sv,e,f⟩:=XB i b h g;rw[<-hT.G]at e;exact⟨sv,by simp only[A9,a,e,Option.map_some],f⟩
 ·rename_i a;obtain⟨sv,e,f⟩:=XB i b h g;rw[<-hT.G]at e;exact⟨sv,by simp only[A9,a,e,Option.map_some],f⟩
 ·rename_i a;obtain⟨v,e,f⟩:=Y4 hT i b a h g d;exact⟨.c v,e,f⟩
 ·cases h
theorem Aer(m:af Γ ρ st){d:Nat}{op:aa}{o:bE Γ}{b:o.B}(h:Fj X Γ d op=some o)(D:o.d.val ρ=some b):∃v ob,Bl (so X.G st.fr) d op=some (v,ob)/\af o.Γ' (o.up ρ b) {fr:=ac st.fr d v,ob:=ac st.ob d ob}:=by
 cases op<;>(try cases h;done)
 case alloc z=>
  simp only[Fj]at h;split at h<;>(try cases h;done);rename_i q M;split at h<;>(try cases h;done);rename_i p I;cases h;have J:=Ic M;obtain⟨A,u⟩:=Km (ρ:=ρ) I J;refine⟨.ptr d 0,.box (z.map .c) none,rfl,af.newObj m A ⟨z.map .c,rfl,by simp,fun j L Y w=> ?_⟩ rfl⟩;rcases u j L w with⟨_,c,F,K⟩|⟨F,_⟩
  ·exact⟨.c c,by simpa using F,K⟩
  ·omega
 case allocT T z=>
  simp only[Fj]at h;split at h<;>(try cases h;done);rename_i q M;split at h<;>(try cases h;done);rename_i p I;cases h;have J:=Ic M;obtain⟨A,u⟩:=Km (ρ:=ρ) I J;refine⟨.ptr d 0,.box (z.map .c) (some T),rfl,af.newObj m A ⟨z.map .c,rfl,by simp,fun j L Y w=> ?_⟩ rfl⟩;rcases u j L w with⟨_,c,F,K⟩|⟨F,_⟩
  ·exact⟨.c c,by simpa using F,K⟩
  ·omega
 case box x=>
  simp only[Fj]at h;split at h<;>(try cases h;done)
  ·rename_i r e H;split at h<;>(try cases h;done);rename_i n p S I;cases h;try dsimp only at D
   obtain⟨c,C,g⟩:=AB (G:=X.G) H m D;unfold Can at g;obtain⟨l,e3,g⟩:=g;cases e3;have U:=EP S g;obtain⟨A,u⟩:=Km (ρ:=ρ) I g;refine⟨.ptr d 0,.box (l.map .c) none,by simp only[Bl,C],af.newObj m A ⟨l.map .c,rfl,by simp[U],fun j L Y w=> ?_⟩ rfl⟩;rcases u j L w with⟨_,c,F,K⟩|⟨F,_⟩
   ·exact⟨.c c,by have Z:l[j]? =some c:=by simpa using F
                  simp[Z],K⟩
   ·omega
  ·rename_i t e hne H;split at h<;>(try cases h;done);rename_i A;cases h;try dsimp only at D
   obtain⟨c,C,g⟩:=AB (G:=X.G) H m D
   have S:Bl (so X.G st.fr) d (.box x)=some (.ptr d 0,.box [.c c] none):=by
    simp only[Bl,C];have:=GD A g;cases c<;>first|rfl|(simp[Cv]at this)
   refine⟨_,_,S, ?_⟩
   have Q:Do d Γ ρ ((.c d 0,.v t)::Γ) (b,ρ):=fun p q M=>by
    by_cases I:ax.c d 0=p
    ·exact .inl ⟨0,I.symm⟩
    ·obtain⟨f,hf,e⟩:=C1 I M;exact .inr ⟨f,hf,e _⟩
   refine af.newObj m Q ⟨[.c c],rfl,rfl,fun j L Y w=> ?_⟩ rfl;have W:j=0:=by omega
   subst W;rw[CT]at w;cases w;exact⟨.c c,rfl,c,rfl,g⟩
 case mksl e size parts=>
  simp only[Fj]at h;split at h<;>(try cases h;done);rename_i t ht;split at h<;>(try cases h;done);rename_i l U;split at h<;>(try cases h;done);rename_i P;cases h;obtain⟨cs,A,u⟩:=P9 m (G:=X.G) U D
  have O:(cs.all fun v=>AX v==size)=true:=by
   rw[List.all_eq_true];intro c J;obtain⟨i,hi⟩:=List.getElem?_of_mem J;obtain⟨a,_,h7⟩:=u.getB hi;simp[(Gx P.1 P.2 h7).2]
  refine⟨.osl d,.arr e size cs, ?_,af.newObj m (Do.refl d) ⟨cs,rfl,u⟩ rfl⟩;simp only[Bl];rw[A,Option.bind_some,if_pos O]
 case mkmap mt kt z=>
  simp only[Fj]at h;split at h<;>(try cases h;done);rename_i k v hm;split at h<;>(try cases h;done);rename_i hh;cases h;have V:=Vh hh.2.1;subst V;exact⟨.omap d,.map mt (b4 k) z [] [],rfl,af.newObj m (Do.refl d) ⟨z,[],[],rfl,QY hh.1,rfl,rfl⟩ rfl⟩
 case make e size bytes z x y=>
  simp only[Fj]at h;split at h<;>(try cases h;done);rename_i t k dx k' dy ht Q hy;split at h<;>(try cases h;done);rename_i hz;cases h;obtain⟨p,A,u⟩:=ab.comp_val D;obtain⟨F,K⟩:=ab.both_val A;obtain⟨c1,C,g1⟩:=AB (G:=X.G) Q m F;obtain⟨c2,g,g2⟩:=AB (G:=X.G) hy m K;unfold Can at g1 g2;cases g1;cases g2;simp only[ab.val]at u;split at u<;>(try cases u;done);rename_i J;cases u;refine⟨.osl d,.arr e size (List.replicate p.1.toNat z), ?_,af.newObj m (Do.refl d) ⟨_,rfl,CanAll.replicate (R:=fun x c=>Can t x [c]) (QY hz) _⟩ rfl⟩;simp only[Bl,C,g];rw[if_pos J]
 case nbytes e x=>
  simp only[Fj]at h;split at h<;>(try cases h;done);rename_i dx H;cases h;obtain⟨s,A,u⟩:=ab.comp_val D;obtain⟨c,C,g⟩:=AB (G:=X.G) H m A;unfold Can at g;cases g;simp only[ab.val]at u;split at u<;>(try cases u;done);rename_i N;cases u;refine⟨.osl d,.arr e 1 (s.map fun b=>.int .u8 b.toNat), ?_,af.newObj m (Do.refl d) ⟨_,rfl, ?_⟩ rfl⟩
  ·simp only[Bl,C];rw[if_pos N]
  ·clear A C D N
   induction s with
   |nil=>rfl
   |cons b s ih=>exact⟨_,_,rfl,by unfold Can;rfl,ih⟩
 case siter x=>
  simp only[Fj]at h;split at h<;>(try cases h;done);rename_i e H;cases h;obtain⟨c,C,g⟩:=AB (G:=X.G) H m D;unfold Can at g;cases g;exact⟨.iter d,.siter b 0,by simp only[Bl,C],af.newObj m (Do.refl d) rfl rfl⟩
 case mrange x=>
  simp only[Fj]at h;split at h<;>(try cases h;done);rename_i k v dx H;cases h;obtain⟨c,C,g⟩:=AB (G:=X.G) H m D;unfold Can at g;obtain⟨nl,ks,vs,e',V,P⟩:=g;cases e';exact⟨.iter d,.miter ks vs none,by simp only[Bl,C],af.newObj m (Do.refl d) ⟨_,_,_,rfl,V,P⟩ rfl⟩
theorem PQ(i:af Γ ρ st){G:Nat->List CV}{t:Ty}{x:SO}{l:ab (HS Γ) (List (D t))}{d:List (D t)}(h:JY Γ t x=some l)(f:l.val ρ=some d):∃es,C6 st (so G st.fr x)=some es/\CanAll (fun x c=>Can t x [c]) d es:=by
 unfold JY at h;split at h<;>(try cases h;done);rename_i fl u e k;split at h<;>(try cases h;done);rename_i g j;cases h;obtain⟨y,o,n⟩:=ab.map_val f;obtain⟨c,r,m,_,a⟩:=MZ (msk:= []) (rd:=st.ob) (G:=G) k i (fun _ _=>rfl) o;have b:=C0 _ _ j m;unfold Can at b;obtain⟨q,es,p,b⟩:=b;cases p;refine⟨es, ?_,n▸b⟩;rcases a with a|⟨id,e',size,es',a,h7,h8⟩|⟨nl',ks,vs,a⟩
 ·rw[a];rfl
 ·cases h8;rw[a];simp only[C6,h7]
 ·cases a
theorem Afc{t u:Ty}{o n:Nat}{g:D t->D u->D t}(h:ID t o n u=some g){x:D t}{y:D u}{c b:CV}(z:t.val=true)(a:Can t x [c])(i:Can u y [b]):
  AX b=n/\o+n≤AX c/\Can t (g x y) [Gj c o n b]:=by
 have single:∀{f:D u->D t},n=1/\o=0/\Fi u=true->Ba u t=some f->(∀l,c≠ .agg l)->AX b=n/\o+n≤AX c/\Can t (f y) [Gj c o n b]:=by
  intro f ⟨h1,h2,h3⟩ d hna;have C:=GD h3 i;have L:AX b=1:=by cases b<;>first|rfl|(simp[Cv]at C)
  have K:AX c=1:=by cases c<;>first|rfl|(exact absurd rfl (hna _))
  have H:Gj c o n b=b:=by cases c<;>first|rfl|(exact absurd rfl (hna _))
  rw[H];exact⟨by omega,by omega,C0 _ _ d i⟩
 cases t
 case agg r=>
  simp only[ID]at h;split at h<;>(try cases h;done);rename_i m q F B;split at h<;>(try cases h;done);rename_i A;split at h<;>(try cases h;done);rename_i j;cases h;obtain⟨J,f⟩:=q;simp only at A;subst A;unfold Can at a;obtain⟨l,e,a⟩:=a;cases e;obtain⟨w,v⟩:=Wk B a (GO j.2 i);obtain⟨n1,n2⟩:=Gx j.2 F i;rw[n1]at w v;rw[j.1]at n2 w v;refine⟨n2,v, ?_⟩;unfold Can;exact⟨_,rfl,w⟩
 case falt f0 r0 l0=>
  simp only[ID]at h;split at h<;>(try cases h;done);rename_i p;split at h<;>(try cases h;done);rename_i f d;have s:=Option.some.inj h;rw[<-s];refine single p d fun l k=> ?_;subst k;obtain⟨M,e,_,I⟩:=Mh (t:=.falt f0 r0 l0) z a;cases e;exact(I _).1 rfl
 all_goals(try(cases z;done))
 all_goals
  simp only[ID]at h;split at h<;>(try cases h;done);rename_i p;split at h<;>(try cases h;done);rename_i f d;have s:=Option.some.inj h;rw[<-s];refine single p d fun l k=> ?_;subst k;unfold Can at a
  first
   |(rcases a with e|e|e<;>(cases e;done))
   |(cases a;done)
   |(obtain⟨_,e,_⟩:=a;cases e;done)
   |(obtain⟨_,_,e,_⟩:=a;cases e;done)
   |(obtain⟨_,_,_,e,_⟩:=a;cases e;done)
   |(cases x<;>cases a;done)
theorem SQ{a β:Type}{eq:a->a->Bool}{z:β}{x:a}{y:β}:∀{m:List (a×β)},(AP eq z x m).2=true->(Bk eq x y m).map (·.1)=m.map (·.1)
 | [],h=>by cases h
 |p::m,h=>by
  unfold AP at h;unfold Bk;split
  ·rfl
  ·rename_i b;rw[if_neg b]at h;simp[SQ h]
theorem CanAll.fst{f β d:Type}{R:f->d->Prop}:∀{m a:List (f×β)} {ks:List d},m.map (·.1)=a.map (·.1)->CanAll (fun x c=>R x.1 c) m ks->CanAll (fun x c=>R x.1 c) a ks
 | [],[],_,_,h=>h
 | [],_::_,_,e,_=>by cases e
 |_::_,[],_,e,_=>by cases e
 |p::m,p'::a,ks,e,h=>by
  simp only[List.map_cons,List.cons.injEq]at e;obtain⟨c,b,rfl,i,g⟩:=h;exact⟨c,b,rfl,(by show R p'.1 c;rw[<-e.1];exact i),CanAll.fst e.2 g⟩
theorem FT{bt:Option TypeId}{id b off:Nat}{fo:HS Γ->DK (.box b bt)}{cs:List SV}{k:EK}{x:DK k}{sv:SV}(r:af Γ ρ st)(s:get Γ (.o id)=some ⟨.box b bt,fo⟩)(t:cs.length=b)(i:∀j q,j<b->get Γ (.c id j)=some q->∃sv,cs[j]? =some sv/\RS q.1 (q.2 ρ) sv)
  (m:off<b) (n:RS k x sv):af ((.c id off,k)::Γ) (x,ρ) {st with ob:=ac st.ob id (.box (cs.set off sv) bt)}:=by
 refine af.turnCells r (Γc:=(.c id off,k)::Γ) (ρc:=(x,ρ)) (fun p q d=> ?_) s (cs:=cs.set off sv) (by simp[t]) fun j q u d=> ?_
 ·by_cases l:ax.c id off=p
  ·exact .inl ⟨off,l.symm⟩
  ·obtain⟨f,h,e⟩:=C1 l d;exact .inr ⟨f,h,e _⟩
 ·by_cases a:off=j
  ·subst a;rw[CT]at d;cases d;exact⟨sv,by simp[List.getElem?_set];omega,n⟩
  ·obtain⟨f,h,y⟩:=C1 (by simpa using a) d;obtain⟨g,w,v⟩:=i j _ u h;exact⟨g,by simp[a,w],(y _)▸v⟩
theorem af.newObjS{d id:Nat}{k ko:EK}{x:DK k}{y:DK ko}{v:SV}{o:Ob}(h:af Γ ρ st)(b:RO Γ ρ id ko y o)(a:RS k x v):
  af ((.s d,k)::(.o id,ko)::Γ) (x,y,ρ) {fr:=ac st.fr d v,ob:=ac st.ob id o}:=by
 have e:=af.turnObj h b;have c:=af.set e (d:=d) a;exact c
theorem Xg{id:Nat}{t:Ty}{o s:Nat}{cs:List SV}(g:∀j q,j<s->get Γ (.c id j)=some q->∃sv,cs[j]? =some sv/\RS q.1 (q.2 ρ) sv){i:Nat}{y:D t}{c:CV}(x:Can t y [c]):∀{n j:Nat} {p:Σ Γ':TC,HS Γ->Nat->D t->HS Γ'},Ky Γ id t o n j=some p->o+j+n≤s->
  Do id Γ ρ p.1 (p.2 ρ i y)/\∀a q,get p.1 (.c id a)=some q->(o+j≤a/\a<o+j+n/\∃sv,(if a=o+i then some (.c c)else cs[a]?)=some sv/\RS q.1 (q.2 (p.2 ρ i y)) sv)\/((a<o+j\/o+j+n≤a)/\∃f,get Γ (.c id a)=some ⟨q.1,f⟩/\q.2 (p.2 ρ i y)=f ρ)
 |0,j,p,h,_=>by
  simp only[Ky,Ac]at h;subst h;exact⟨Do.refl id,fun a q b=>.inr ⟨by omega,q.2,b,rfl⟩⟩
 |n+1,j,p,h,hb=>by
  simp only[Ky]at h;split at h<;>(try cases h;done);rename_i u f L C m;split at h<;>(try cases h;done);rename_i B;subst B;cases h;obtain⟨J,I⟩:=Xg g x m (by omega);refine⟨fun k q b=> ?_,fun a q b=> ?_⟩
  ·by_cases v:ax.c id (o+j)=k
   ·exact .inl ⟨_,v.symm⟩
   ·obtain⟨K,d,e⟩:=C1 v b;rcases J _ _ d with hh|⟨r,hf2,e2⟩
    ·exact .inl hh
    ·exact .inr ⟨r,hf2,(e _).trans e2⟩
  ·by_cases w:a=o+j
   ·subst w;rw[CT]at b;cases b;refine .inl ⟨by omega,by omega, ?_⟩;by_cases hi:i=j
    ·subst hi;refine⟨.c c,by simp,c,rfl, ?_⟩;simpa using x
    ·obtain⟨sv,H,F⟩:=g (o+j) _ (by omega) C;refine⟨sv,by rw[if_neg (by omega)];exact H, ?_⟩;simp only[hi,if_false];exact F
   ·obtain⟨K,d,e⟩:=C1 (by simpa using Ne.symm w) b;rcases I a _ d with⟨A,k2,sv,l,z⟩|⟨A,r,k2,l⟩
    ·exact .inl ⟨by omega,by omega,sv,l,(e _)▸z⟩
    ·exact .inr ⟨by omega,r,k2,(e _).trans l⟩
theorem Aeq(A:af Γ ρ st){d:Option Nat}{op:aa}{o:bE Γ}{b:o.B}(h:GE X Γ d op=some o)(hb:o.d.val ρ=some b):∃st',AJ d (so X.G st.fr) st op=some st'/\af o.Γ' (o.up ρ b) st':=by
 cases op<;>(try cases h;done)
 case store n a x=>
  simp only[GE]at h;split at h<;>(try cases h;done)
  ·rename_i id off fa ha;have T:deref st.ob (so X.G st.fr a)=.ptr id off:=Gk ha A (fun _ _=>rfl) (a:=fa ρ) rfl rfl;split at h<;>(try cases h;done);rename_i nb fo M;obtain⟨cs,e,hl,Z⟩:=A.o id _ M;split at h<;>(try cases h;done)
   ·rename_i r ex H;split at h<;>(try cases h;done);rename_i m p hm hp;split at h<;>(try cases h;done);rename_i C;cases h;obtain⟨c,L,D⟩:=AT H A hb;unfold Can at D;obtain⟨l,e3,D⟩:=D;cases e3;have hlen:=EP hm D;obtain⟨V,K⟩:=Km (ρ:=ρ) hp D;refine⟨_, ?_,af.turnCells A V M (cs:=FD cs off (l.map .c)) ?_ fun j q hj hq=> ?_⟩
    ·simp only[AJ,T,e,L];rw[if_pos ⟨by omega,by omega,Qa C.2.2 D⟩]
    ·simp[FD];omega
    ·rcases K j q hq with⟨U,c,J,h5⟩|⟨U,f,J,h5⟩
     ·have hjl:=(Af.1 J).1;refine⟨.c c, ?_,h5⟩;simp only[FD];rw[List.append_assoc,List.getElem?_append_right (by simp;omega),List.getElem?_append_left (by simp;omega)];have:j-(cs.take off).length=j-off:=by simp;omega
      rw[this,List.getElem?_map,J];rfl
     ·obtain⟨sv,N,h7⟩:=Z j _ hj J;refine⟨sv, ?_,h5▸h7⟩;simp only[FD];rcases U with U|U
      ·rw[List.append_assoc,List.getElem?_append_left (by simp;omega),List.getElem?_take_of_lt U,N]
      ·rw[List.getElem?_append_right (by simp;omega),List.getElem?_drop];have:off+(l.map SV.c).length+(j-(cs.take off++l.map SV.c).length)=j:=by simp;omega
       rw[this,N]
   ·rename_i t ex hna H;split at h<;>(try cases h;done);rename_i C;cases h;obtain⟨c,L,D⟩:=AT H A hb;have ho1:=GD C.2.2 D;refine⟨_, ?_,FT A M hl Z C.2.1 (k:=.v t) (x:=b) (sv:=.c c) ⟨c,rfl,D⟩⟩;simp only[AJ,T,e,L]
    cases c<;>first
     |(simp[Cv]at ho1;done)
     |(exact if_pos ⟨C.1,by omega,ho1⟩)
   ·rename_i i fx H;split at h<;>(try cases h;done);rename_i C;cases h;have L:so X.G st.fr x=.osl i:=AT H A (a:=fx ρ) rfl;refine⟨_, ?_,FT A M hl Z C.2 (k:=.own i) (x:=()) (sv:=.osl i) rfl⟩;simp only[AJ,T,e,L];exact if_pos ⟨C.1,by omega,rfl⟩
   ·rename_i i fx H;split at h<;>(try cases h;done);rename_i C;cases h;have L:so X.G st.fr x=.omap i:=AT H A (a:=fx ρ) rfl;refine⟨_, ?_,FT A M hl Z C.2 (k:=.mp i) (x:=()) (sv:=.omap i) rfl⟩;simp only[AJ,T,e,L];exact if_pos ⟨C.1,by omega,rfl⟩
  ·rename_i id len off di ha;split at h<;>(try cases h;done);rename_i nb fo M;obtain⟨cs,e,hl,Z⟩:=A.o id _ M;split at h<;>(try cases h;done);rename_i t ex H;split at h<;>(try cases h;done);rename_i p hp;split at h<;>(try cases h;done);rename_i C;obtain⟨hn,hbd,F⟩:=C;cases h;obtain⟨U,J⟩:=ab.both_val hb;obtain⟨T,hi⟩:=Gk (rd:=st.ob) ha A (fun _ _=>rfl) U rfl
   have hlt:off+b.1<cs.length:=by
    have:b.1<len:=hi;rw[hl];exact Nat.lt_of_lt_of_le (Nat.add_lt_add_left this off) hbd
   obtain⟨c,L,D⟩:=AB (G:=X.G) H A J;have ho1:=GD F D;obtain⟨V,K⟩:=Xg (i:=b.1) Z D hp (by omega);refine⟨_, ?_,af.turnCells A V M (cs:=cs.set (off+b.1) (.c c)) (by simpa using hl) fun j q hj hq=> ?_⟩
   ·simp only[AJ,T,e,L]
    cases c<;>first
     |(simp[Cv]at ho1;done)
     |(exact if_pos ⟨hn,hlt,ho1⟩)
   ·rcases K j q hq with⟨_,_,sv,N,h7⟩|⟨h5,f,N,h7⟩
    ·refine⟨sv, ?_,h7⟩;rw[<-N,List.getElem?_set];by_cases hji:j=off+b.1
     ·subst hji;rw[if_pos rfl,if_pos hlt,if_pos rfl]
     ·rw[if_neg (Ne.symm hji),if_neg hji]
    ·obtain⟨sv,h8,h9⟩:=Z j _ hj N;refine⟨sv, ?_,h7▸h9⟩;rw[List.getElem?_set_ne (by have:b.1<len:=hi;omega)];exact h8
  ·rename_i id size off di ha;split at h<;>(try cases h;done);rename_i e' sz t xs M;split at h<;>(try cases h;done);rename_i u dx H;split at h<;>(try cases h;done);rename_i g P;split at h<;>(try cases h;done);rename_i C;obtain⟨hsz,hn,hv,hlt,F⟩:=C;cases h;obtain⟨w,V,K⟩:=ab.comp_val hb;obtain⟨p,U,J⟩:=ab.map_val V;obtain⟨h5,N⟩:=ab.both_val U;have h2':w=some b:=K;rw[h2']at J;obtain⟨el,h7,h8⟩:=Aa.1 J.symm;have T:deref st.ob (so X.G st.fr a)=.eptr id p.1 size off:=Gk ha A (fun _ _=>rfl) h5 rfl;obtain⟨c,L,D⟩:=AB (G:=X.G) H A N;obtain⟨es,e,Q⟩:=A.o id _ M;obtain⟨c0,h9,h10⟩:=Q.get h7;obtain⟨g1,g2,g3⟩:=Afc P hv h10 D
   have hob:c.cells.all Cv=true:=by
    unfold ID at P
    cases hu:u.val with
    |true=>exact Qa F (GO hu D)
    |false=>
     exfalso;split at P
     ·split at P<;>(try cases P;done);split at P<;>(try cases P;done);split at P<;>(try cases P;done);rename_i C;rw[hu]at C;cases C.2
     ·split at P<;>(try cases P;done);rename_i C;have:=C.2.2;cases u<;>first|(cases hu;done)|(cases this;done)|(simp only[Ty.val]at hu;simp only[Fi]at this;rw[hu]at this;cases this;done)
   refine⟨_, ?_,af.turnObj A (k:=.arr e' sz t) (y:=b) ⟨es.set p.1 (Gj c0 off n c),rfl,h8▸Q.set p.1 g3⟩⟩;simp only[AJ,T,e,L];rw[if_pos ⟨hsz,hn,g1,hob⟩,h9,Option.bind_some,if_pos g2]
  ·rename_i da ha;split at h<;>(try cases h;done);rename_i dx H;split at h<;>(try cases h;done);rename_i hn;cases h;obtain⟨p,V,K⟩:=ab.comp_val hb;obtain⟨U,J⟩:=ab.both_val V;obtain⟨c,L,D⟩:=Gk (rd:=st.ob) ha A (fun _ _=>rfl) U rfl;unfold Can at D;obtain⟨l,e3,D⟩:=D;cases e3;unfold Can at D;obtain⟨c',rfl,D⟩:=D;unfold Can at D;cases D;obtain⟨c2,g1,g2⟩:=AB (G:=X.G) H A J;unfold Can at g2;cases g2;simp only[ab.val,Ae]at K;obtain⟨h5,_⟩:=K;refine⟨st, ?_,A⟩;simp only[AJ,L,g1];exact if_pos ⟨hn,h5⟩
 case append e size bytes x y=>
  simp only[GE]at h;split at h<;>(try cases h;done)
  ·rename_i id fx H;split at h<;>(try cases h;done);rename_i e' size' t xs M;split at h<;>(try cases h;done);rename_i l d' hl;split at h<;>(try cases h;done);rename_i C;obtain⟨he,hs,hv,hlr,F⟩:=C;cases h;have I:so X.G st.fr x=.osl id:=AT H A (a:=fx ρ) rfl;obtain⟨w,V,K⟩:=ab.comp_val hb;obtain⟨ys,U,J⟩:=ab.map_val V;have h2':w=some b:=K;rw[h2']at J;split at J<;>(try cases J;done);rename_i hc;cases J;obtain⟨news,h5,N⟩:=PQ A (G:=X.G) hl U;obtain⟨es,e0,Q⟩:=A.o id _ M;have S:=Jn hv hlr F N;have hl1:=Q.length;have Y:=N.length;refine⟨_, ?_,af.newObjS (A.kill [id]) (k:=.own id) (ko:=.arr e size t) (x:=()) (y:=xs ρ++ys) (v:=.osl id) (o:=.arr e size (es++news)) ⟨_,rfl,Q.append N⟩ rfl⟩;simp only[AJ,h5,S,if_true,I,e0];rw[if_pos ⟨he,hs,by rw[hl1,Y];exact P2 (by rw[Int.natCast_mul,Int.natCast_add]) hc.1,by rw[hl1,Y];exact P3 (by rw[Int.natCast_add]) hc.2⟩];rfl
  ·rename_i fx H;split at h<;>(try cases h;done);rename_i t ht;split at h<;>(try cases h;done);rename_i l d' hl;split at h<;>(try cases h;done);rename_i C;obtain⟨hv,hlr,F⟩:=C;cases h;obtain⟨c,I,hcx⟩:=AT H A (a:=fx ρ) rfl;unfold Can at hcx;cases hcx;obtain⟨ys,V,K⟩:=ab.comp_val hb;simp only[ab.val]at K;split at K<;>(try cases K;done);rename_i hc;cases K;obtain⟨news,h5,N⟩:=PQ A (G:=X.G) hl V;have S:=Jn hv hlr F N;have Y:=N.length;refine⟨_, ?_,af.newObjS (A.kill [d']) (k:=.own d') (ko:=.arr e size t) (x:=()) (y:=b) (v:=.osl d') (o:=.arr e size news) ⟨_,rfl,N⟩ rfl⟩;simp only[AJ,h5,S,if_true,I];rw[if_pos ⟨by rw[Y];exact P2 (by rw[Int.natCast_mul]) hc.1,by rw[Y];exact P3 rfl hc.2⟩]
 case cpy e size x y=>
  simp only[GE]at h;split at h<;>(try cases h;done);rename_i id fx H;split at h<;>(try cases h;done);rename_i e' size' t xs M;split at h<;>(try cases h;done);rename_i l d' hl;split at h<;>(try cases h;done);rename_i C;obtain⟨he,hs,hv,hlr,F⟩:=C;cases h;have I:so X.G st.fr x=.osl id:=AT H A (a:=fx ρ) rfl;obtain⟨news,h5,N⟩:=PQ A (G:=X.G) hl hb;obtain⟨es,e0,Q⟩:=A.o id _ M;have S:=Jn hv hlr F N;have hl1:=Q.length;have Y:=N.length;have L:min news.length es.length=min b.length (xs ρ).length:=by rw[hl1,Y]
  refine⟨_, ?_,af.newObjS A (d:=d') (k:=.v (.int .i64)) (ko:=.arr e size t) (x:=((min b.length (xs ρ).length:Nat):Int)) (y:=b.take (min b.length (xs ρ).length)++(xs ρ).drop (min b.length (xs ρ).length)) (v:=.c (.int .i64 ((min news.length es.length:Nat):Int))) (o:=.arr e size (news.take (min news.length es.length)++es.drop (min news.length es.length))) ⟨_,rfl,by rw[L];exact(N.take _).append (Q.drop _)⟩ ⟨_,rfl,by rw[L];unfold Can;rfl⟩⟩;simp only[AJ,h5,I,e0];rw[if_pos ⟨⟨he,hs⟩,S⟩];rfl
 case mapent mt x k=>
  simp only[GE]at h;split at h<;>(try cases h;done);rename_i id fx q d' H hk;split at h<;>(try cases h;done);rename_i mt' kt vt m M;split at h<;>(try cases h;done);rename_i g P;split at h<;>(try cases h;done);rename_i C;obtain⟨hm,hp⟩:=C;cases h;have I:so X.G st.fr x=.omap id:=AT H A (a:=fx ρ) rfl;dsimp only at hb;obtain⟨y,V,K⟩:=ab.map_val hb;obtain⟨ck,L,D⟩:=AB (G:=X.G) hk A V;have e3:=C0 _ _ P D;obtain⟨z,ks,vs,e0,hz,O,W⟩:=A.o id _ M;obtain⟨cv,l1,l2⟩:=Mu hp e3 hz O W;obtain⟨i1,i2⟩:=Mg hp e3 l2 O W;subst K;refine⟨_, ?_,af.newObjS A (k:=.ent id kt vt) (ko:=.mob mt kt vt) (x:=_) (y:=_) (v:=.ent id ck cv) (o:=.map mt (b4 kt) z (Bc (b4 kt) ks ck) (Be (b4 kt) ks vs ck cv)) ⟨z,_,_,rfl,hz,i1,i2⟩ ⟨ck,cv,rfl,e3,l2⟩⟩;simp only[AJ,I,L,e0];rw[if_pos ⟨hm,(Hr hp e3 e3).2,by rw[O.length,W.length]⟩];simp only[l1,St.set,hm]
 case entst x s v=>
  simp only[GE]at h;split at h<;>(try cases h;done);rename_i id fx id' kt fs q H hs hv;split at h<;>(try cases h;done);rename_i mt kt' vt m M;split at h<;>(try cases h;done);rename_i g P;split at h<;>(try cases h;done);rename_i hk;subst hk;split at h<;>(try cases h;done);rename_i C;obtain⟨ag,hp⟩:=C;subst ag;cases h;have I:so X.G st.fr x=.omap id:=AT H A (a:=fx ρ) rfl;obtain⟨ck,hs',hck⟩:=AT hs A (a:=fs ρ) rfl;obtain⟨w,V,K⟩:=ab.comp_val hb;obtain⟨y,U,J⟩:=ab.map_val V;have h2':w=some b:=K;rw[h2']at J;split at J<;>(try cases J;done);rename_i hkey;cases J;obtain⟨cv,L,D⟩:=AB (G:=X.G) hv A U;have e3:=C0 _ _ P D;obtain⟨z,ks,vs,e0,hz,O,W⟩:=A.o id _ M;obtain⟨i1,i2⟩:=Mg hp hck e3 O W;refine⟨_, ?_,af.turnObj A (k:=.mob mt kt vt) (y:=Bk (aj kt) (fs ρ) (g y) (m ρ)) ⟨z,ks,Be (b4 kt) ks vs ck cv,rfl,hz,CanAll.fst (R:=fun k c=>Can kt k [c]) (SQ hkey).symm O,i2⟩⟩;simp only[AJ,I,hs',L,e0,if_true]
 case mapupd mt x k v=>
  simp only[GE]at h;split at h<;>(try cases h;done);rename_i id fx q p H hk hv;split at h<;>(try cases h;done);rename_i mt' kt vt m M;split at h<;>(try cases h;done);rename_i g f P hf;split at h<;>(try cases h;done);rename_i C;obtain⟨hm,hp⟩:=C;cases h;have I:so X.G st.fr x=.omap id:=AT H A (a:=fx ρ) rfl;dsimp only at hb;obtain⟨y,V,K⟩:=ab.map_val hb;obtain⟨U,J⟩:=ab.both_val V;obtain⟨ck,L,D⟩:=AB (G:=X.G) hk A U;obtain⟨cv,e1',e2'⟩:=AB (G:=X.G) hv A J;have e3:=C0 _ _ P D;have e3':=C0 _ _ hf e2';obtain⟨z,ks,vs,e0,hz,O,W⟩:=A.o id _ M;obtain⟨i1,i2⟩:=Mg hp e3 e3' O W;refine⟨_, ?_,af.turnObj A (k:=.mob mt kt vt) (y:=b) ⟨z,Bc (b4 kt) ks ck,Be (b4 kt) ks vs ck cv,rfl,hz,K▸i1,K▸i2⟩⟩;simp only[AJ,I,L,e1',e0];rw[if_pos ⟨hm,(Hr hp e3 e3).2⟩,hm]
theorem Aep(hT:aG X E)(u:af Γ ρ st){d:Option Nat}{op:aa}{o:bE Γ}{b:o.B}(h:Qc X Γ d op=some o)(hb:o.d.val ρ=some b)(rd:Nat->Ob):∃st',A9 E rd st d op=some st'/\af o.Γ' (o.up ρ b) st':=by
 unfold Qc at h;split at h<;>(try cases h;done);rename_i f x y;split at h
 case isFalse A=>
  split at h<;>(try cases h;done);rename_i id fx g d M;split at h<;>(try cases h;done);rename_i e size t W s N hs;split at h<;>(try cases h;done);rename_i Y;split at h<;>(try cases h;done);rename_i Z;cases h;obtain⟨se,ss,st',sf⟩:=s;simp only at Y Z;obtain⟨rfl,rfl⟩:=Z;subst Y;have r:so X.G st.fr x=.osl id:=AT M u (a:=fx ρ) rfl;have Q:sf (W ρ)=some b:=hb;obtain⟨es,U,P⟩:=u.o id _ N;obtain⟨F,T,S⟩:=hT.srt f g _ hs (W ρ) es b P Q;refine⟨_, ?_,af.set (af.turnObj u (k:=.arr e size t) (y:=b) ⟨F,rfl,S⟩) (k:=.v (.tup .nil)) (x:=()) ⟨.tup [],rfl,by unfold Can;exact⟨[],rfl,by unfold Can;rfl⟩⟩⟩;have n:¬E.cp f=true:=by rw[hT.cp];exact A
  have H:st.ob id=.arr e size es:=U;show Fw E (so E.G st.fr) st (some d) f x (.k (.fn g []))=_;unfold Fw;rw[if_neg n,hT.G,r]
  show(match st.ob id with
   | .arr e size es=>match E.srt f g e size es with
    |some F=>some (St.set {st with ob:=ac st.ob id (.arr e size F)} (some d) (.c (.tup [])))
    |none=>none
   |_=>none)=_
  rw[H];simp only[T]
 rename_i A;split at h<;>(try cases h;done);rename_i id fx ut q d M hy;split at h<;>(try cases h;done);rename_i mt I m N;split at h<;>(try cases h;done);rename_i g hg;cases h;have r:so X.G st.fr x=.omap id:=AT M u (a:=fx ρ) rfl;obtain⟨w,T,S⟩:=ab.comp_val hb;obtain⟨V,h3,h4⟩:=ab.map_val T;have R:w=some b:=S;rw[R]at h4;have J:I3 (m ρ) (g V)=some b:=h4.symm;unfold I3 at J;split at J<;>(try cases J;done);rename_i C;obtain⟨c1,c2,c3⟩:=C;simp only[Ac]at J;obtain⟨cv,e1,e2⟩:=AB (G:=X.G) hy u h3;have e3:=C0 _ _ hg e2;obtain⟨z,ks,vs,U,hz,j,i⟩:=u.o id _ N;have hm:m ρ= []:=List.isEmpty_iff.1 c1;replace j:CanAll (fun(x:List UInt8×D I) c=>Can .str x.1 [c]) (m ρ) ks:=j;replace i:CanAll (fun(x:List UInt8×D I) c=>Can I x.2 [c]) (m ρ) vs:=i;rw[hm]at j i;unfold CanAll at j i;subst j;subst i;unfold Can at e3;obtain⟨nl,ks,us,e4,L,k2⟩:=e3;cases e4
 have key:∀(l:List (List UInt8×D I)) (ks:List CV),CanAll (fun x c=>Can .str x.1 [c]) l ks->(l.all fun p=>decide (p.1.length≤9223372036854775807))=true->ks.all HM=true:=by
  intro l
  induction l with
  |nil=>intro ks h _;unfold CanAll at h;subst h;rfl
  |cons p l ih=>
   intro ks h O;obtain⟨c,K,rfl,q1,q2⟩:=h;simp only[List.all_cons,Ag]at O⊢;unfold Can at q1;cases q1;exact⟨O.1,ih K q2 O.2⟩
 have kl:ks.length≤9223372036854775807:=by rw[L.length];exact c3
 subst J;refine⟨_, ?_,af.set (af.turnObj u (k:=.mob mt .str I) (y:=g V) ⟨z,ks,us,rfl,hz,L,k2⟩) (k:=.v (.tup .nil)) (x:=()) ⟨.tup [],rfl,by unfold Can;exact⟨[],rfl,by unfold Can;rfl⟩⟩⟩;have n:E.cp f=true:=by rw[hT.cp];exact A
 have H:st.ob id=.map mt .str z [] []:=U;show Fw E (so E.G st.fr) st (some d) f x y=_;unfold Fw;rw[if_pos n,hT.G,r,e1];dsimp only;rw[H];dsimp only;rw[if_pos ⟨key _ _ L c2,kl⟩];rfl
end
end WB
