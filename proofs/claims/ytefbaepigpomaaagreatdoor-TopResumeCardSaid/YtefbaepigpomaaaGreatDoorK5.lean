/-
  Own texts. No condition of their own.
-/
import Derived.Test.YtefbaepigpomaaaGreatDoorK4
set_option linter.unusedVariables false
set_option linter.unusedSimpArgs false
open Go.IntKind (i64 u64 u8 u32)
namespace WB
open Go Go.RowKit
def Fz:Ty->Bool
 | .agg _| .tup _| .nil| .one _| .cons _ _| .nw _ _ _=>false
 | .falt _ _ l=>l.isFn
 |_=>true
def Fy:Ty->Bool
 | .nil=>true
 | .one t=>Fz t
 | .cons t r=>Fz t&&Fy r
 |_=>false
def KO{A B:Type}:ab A Bool->ab A B->ab A B->ab A B
 | .tot c,.tot f,.tot g=>.tot fun ρ=>if c ρ then f ρ else g ρ
 |c,f,g=>.par fun ρ=>(c.val ρ).bind fun b=>if b then f.val ρ else g.val ρ
theorem Ag1{A B:Type}{c:ab A Bool}{f g:ab A B}{a:A}{x:B}(h:(KO c f g).val a=some x):∃b,c.val a=some b/\(if b then f.val a else g.val a)=some x:=by
 cases c<;>cases f<;>cases g
 ·rename_i c f g;refine⟨c a,rfl, ?_⟩;simp only[KO,ab.val]at h;rw[<-h];cases c a<;>rfl
 all_goals exact Ab.1 h
def Lk:(r:Ty)->Option (D r->List (List UInt8))
 | .one .str=>some fun x=> [x]
 | .cons .str r=>match Lk r with
  |some f=>some fun x=>x.1::f x.2
  |none=>none
 |_=>none
theorem Y0:∀{r:Ty} {f:D r->List (List UInt8)} {x:D r} {l:List CV},Lk r=some f->Can r x l->l=(f x).map CV.str
 | .one .str,f,x,l,h,a=>by
  simp only[Lk,Ac]at h;subst h;unfold Can at a;obtain⟨c,rfl,a⟩:=a;unfold Can at a;cases a;rfl
 | .cons .str r,f,x,l,h,a=>by
  simp only[Lk]at h;split at h
  ·rename_i g d;cases h;unfold Can at a;obtain⟨c,l',rfl,b,e⟩:=a;unfold Can at b;cases b;rw[Y0 d e];rfl
  ·cases h
theorem Y1:∀(l:List (List UInt8)),(l.map CV.str).all Kf=true
 | []=>rfl
 |s::l=>by simp only[List.map_cons,List.all_cons,Kf,Y1 l,Bool.and_self]
theorem Y2:∀(l:List (List UInt8)),CanAll (fun(x:D .str) c=>Can .str x [c]) l (l.map CV.str)
 | []=>rfl
 |s::l=>⟨_,_,rfl,by unfold Can;rfl,Y2 l⟩
def Iu(q:Ty)(size:Nat):(n:Nat)->(r:Ty)->Option (D r->List (D q))
 |0,_=>some fun _=> []
 |n+1,r=>match EO r size,FJ r size with
  |some f,some g=>if h:f.1=q then match Iu q size n g.1 with
    |some k=>some fun x=>(h▸f.2 x)::k (g.2 x)
    |none=>none
   else none
  |_,_=>none
theorem OY{q:Ty}{size:Nat}:∀{n:Nat} {r:Ty} {f:D r->List (D q)} {x:D r} {l:List CV},Iu q size n r=some f->Can r x l->(f x).length=n/\∀{j:Nat} {a:D q},(f x)[j]? =some a->Can q a ((l.drop (j*size)).take size)/\j*size+size<=l.length:=by
 intro n
 induction n with
 |zero=>intro r f x l h b;cases h;exact⟨rfl,fun h=>by simp at h⟩
 |succ n ih=>
  intro r f x l h b;simp only[Iu]at h;split at h<;>(try cases h;done);rename_i p g d m;split at h<;>(try cases h;done);rename_i o;split at h<;>(try cases h;done);rename_i k i;cases h;subst o;obtain⟨w,v⟩:=Of d b;obtain⟨u,z⟩:=Mx m b;obtain⟨t,s⟩:=ih i u;refine⟨by simp[t],fun{j a} hj=> ?_⟩
  cases j with
  |zero=>
   simp only[List.getElem?_cons_zero,Ac]at hj;subst hj;exact⟨by simpa using w,by simpa using v⟩
  |succ j=>
   simp only[List.getElem?_cons_succ]at hj;obtain⟨c,y⟩:=s hj;simp only[List.drop_drop,List.length_drop]at c y;have e:size+j*size=(j+1)*size:=by rw[Nat.succ_mul];omega
   rw[e]at c;exact⟨c,by rw[<-e];omega⟩
def Cg:(t:Ty)->List CV->Bool
 | .int k,[.int k' n]=>k'=k&&n==0
 | .bool,[.bool b]=> !b
 | .str,[.str s]=>s.isEmpty
 | .err,[.nilif]=>true
 | .nsl,[.sl (some true) []]=>true
 | .nmap,[.map (some true) [] []]=>true
 | .sl _,[.sl (some true) []]=>true
 | .map _ _,[.map (some true) [] []]=>true
 | .agg r,[.agg l]=>Cg r l
 | .nil,[]=>true
 | .one t,[c]=>Cg t [c]
 | .cons t r,c::l=>Cg t [c]&&Cg r l
 |_,_=>false
theorem RH:∀{t:Ty} {cs:List CV},Cg t cs=true->Can t (AT t) cs:=by
 intro t
 induction t with
 |int k=>
  intro cs h;unfold Cg at h;split at h<;>(try cases h;done);all_goals first|(rename_i e;cases e;done)|skip
  rename_i e;cases e;simp only[Ag,decide_eq_true_eq,beq_iff_eq]at h;obtain⟨rfl,rfl⟩:=h;unfold Can;rfl
 |nam N=>intro cs h;unfold Cg at h;cases h
 |bptr N=>intro cs h;unfold Cg at h;cases h
 |nilp=>intro cs h;unfold Cg at h;cases h
 |bool=>
  intro cs h;unfold Cg at h;split at h<;>(try cases h;done);all_goals first|(rename_i e;cases e;done)|skip
  simp only[Bool.not_eq_true']at h;subst h;unfold Can;rfl
 |str=>
  intro cs h;unfold Cg at h;split at h<;>(try cases h;done);all_goals first|(rename_i e;cases e;done)|skip
  simp only[List.isEmpty_iff]at h;subst h;unfold Can;rfl
 |err=>
  intro cs h;unfold Cg at h;split at h<;>(try cases h;done);all_goals first|(rename_i e;cases e;done)|skip
  unfold Can;rfl
 |nsl=>
  intro cs h;unfold Cg at h;split at h<;>(try cases h;done);all_goals first|(rename_i e;cases e;done)|skip
  unfold Can;rfl
 |nmap=>
  intro cs h;unfold Cg at h;split at h<;>(try cases h;done);all_goals first|(rename_i e;cases e;done)|skip
  unfold Can;rfl
 |sl e _=>
  intro cs h;unfold Cg at h;split at h<;>(try cases h;done);all_goals first|(rename_i e;cases e;done)|skip
  unfold Can;exact⟨_,_,rfl,rfl⟩
 |map k v _ _=>
  intro cs h;unfold Cg at h;split at h<;>(try cases h;done);all_goals first|(rename_i e;cases e;done)|skip
  unfold Can;exact⟨_,_,_,rfl,rfl,rfl⟩
 |agg r ih=>
  intro cs h;unfold Cg at h;split at h<;>(try cases h;done);all_goals first|(rename_i e;cases e;done)|skip
  rename_i e;cases e;unfold Can;exact⟨_,rfl,ih h⟩
 |nil=>
  intro cs h;unfold Cg at h;split at h<;>(try cases h;done);all_goals first|(rename_i e;cases e;done)|skip
  unfold Can;rfl
 |one t ih=>
  intro cs h;unfold Cg at h;split at h<;>(try cases h;done);all_goals first|(rename_i e;cases e;done)|skip
  rename_i e;cases e;unfold Can;exact⟨_,rfl,ih h⟩
 |cons t r iht ihr=>
  intro cs h;unfold Cg at h;split at h<;>(try cases h;done);all_goals first|(rename_i e;cases e;done)|skip
  rename_i e;cases e;simp only[Ag]at h;unfold Can;exact⟨_,_,rfl,iht h.1,ihr h.2⟩
 |tup r _=>intro cs h;unfold Cg at h;cases h
 |clo f r _=>intro cs h;unfold Cg at h;cases h
 |pt r _=>intro cs h;unfold Cg at h;cases h
 |nw e size t _=>intro cs h;unfold Cg at h;cases h
 |falt f r l _ _=>intro cs h;unfold Cg at h;cases h
 |nfn=>intro cs h;unfold Cg at h;cases h
def IN:KT->Ty->Bool
 | .int k,.int k'=>k=k'
 | .str,.str=>true
 | .bool,.bool=>true
 |_,_=>false
def Ki:List KT->Ty->Bool
 | [k],.one t=>IN k t
 |k::ks,.cons t r=>IN k t&&Ki ks r
 |_,_=>false
def dd:KT->Ty->Bool
 | .struct ks,.agg r=>Ki ks r
 |k,t=>IN k t
theorem Qa{k:KT}{t:Ty}(h:IN k t=true):k=FQ t:=by
 cases k<;>cases t<;>simp_all[IN,FQ]
theorem Ae1:∀{ks:List KT} {r:Ty},Ki ks r=true->ks=FP r:=by
 intro ks
 induction ks with
 |nil=>intro r h;cases r<;>cases h
 |cons k ks ih=>
  intro r h;cases r<;>(try cases ks<;>cases h;done)
  ·cases ks with
   |nil=>simp only[FP];rw[Qa h]
   |cons _ _=>cases h
  ·cases ks with
   |nil=>simp only[Ki,Ag]at h;simp only[FP];rw[Qa h.1,<-ih h.2]
   |cons k' ks'=>simp only[Ki,Ag]at h;simp only[FP];rw[Qa h.1,<-ih h.2]
theorem VU{k:KT}{t:Ty}(h:dd k t=true):k=b3 t:=by
 cases k<;>cases t<;>first
  |(simp only[dd]at h;simp only[b3];rw[Ae1 h];done)
  |(simp_all[dd,IN,b3,FQ];done)
section
variable (G:Nat->List CV) (Γ:TC) (msk:List Nat)
def E1(id:Nat):Option (Σ k:EK,HS Γ->DK k):=if msk.contains id then none else get Γ (.o id)
def H9(id:Nat):Nat->Nat->Option (Σ r:Ty,HS Γ->D r)
 |0,off=>match get Γ (.c id off)with
  |some ⟨.v t,f⟩=>some ⟨.one t,f⟩
  |_=>none
 |n+1,off=>match get Γ (.c id off),H9 id n (off+1)with
  |some ⟨.v t,f⟩,some q=>some ⟨.cons t q.1,fun ρ=>(f ρ,q.2 ρ)⟩
  |_,_=>none
def JK(id:Nat)(t:Ty):Nat->Nat->Option (HS Γ->List (D t))
 |0,_=>some fun _=> []
 |n+1,off=>match get Γ (.c id off),JK id t n (off+1)with
  |some ⟨.v u,f⟩,some g=>if h:u=t then some fun ρ=>(h▸f ρ:D t)::g ρ else none
  |_,_=>none
def KM(r:Σ r:Ty,ab (HS Γ) (D r)):List (Nat×Nat×SO)->Option (Σ r:Ty,ab (HS Γ) (D r))
 | []=>some r
 |p::ps=>match ap Γ p.2.2 with
  |some q=>match KR (BV q.1) r.1 p.1 with
   |some g=>if q.1.val=true/\Bc (BV q.1)=some p.2.1 then KM ⟨g.1,(r.2.both q.2).map fun _ z=>g.2 z.1 (G7 q.1 z.2)⟩ ps else none
   |none=>none
  |none=>none
def d6(a:Bool)(k:IntKind)(acc:ab (HS Γ) Int):List SO->Option (ab (HS Γ) Int)
 | []=>some acc
 |x::xs=>match ap Γ x with
  |some ⟨.int k',d⟩=>if k'=k then d6 a k (match a with
    |true=>(acc.both d).map fun _ p=>max p.1 p.2
    |false=>(acc.both d).map fun _ p=>min p.1 p.2) xs else none
  |_=>none
def GI:List SO->Option (Σ r:Ty,ab (HS Γ) (D r))
 | []=>some ⟨.nil,.tot fun _=>()⟩
 | [x]=>match ap Γ x with
  |some q=>some ⟨.one q.1,q.2⟩
  |none=>none
 |x::y::xs=>match ap Γ x,GI (y::xs)with
  |some q,some p=>some ⟨.cons q.1 p.1,q.2.both p.2⟩
  |_,_=>none
def LX{A:Type}(len:A->Int)(b:ab (HS Γ) A)(lo hi:Option SO):Option (ab (HS Γ) (A×Int×Int)):=
 match lo,hi with
 |none,none=>some (b.map fun _ a=>(a,0,len a))
 |some l,none=>match ap Γ l with
  |some ⟨.int _,dl⟩=>some ((b.both dl).map fun _ p=>(p.1,p.2,len p.1))
  |_=>none
 |none,some h=>match ap Γ h with
  |some ⟨.int _,dh⟩=>some ((b.both dh).map fun _ p=>(p.1,0,p.2))
  |_=>none
 |some l,some h=>match ap Γ l,ap Γ h with
  |some ⟨.int _,dl⟩,some ⟨.int _,dh⟩=>some ((b.both (dl.both dh)).map fun _ p=>(p.1,p.2.1,p.2.2))
  |_,_=>none
def DI(q:Σ k:EK,ab (HS Γ) (DK k)):Σ k:EK,ab (HS Γ) (DK k):=
 match q with
 |⟨.v (.nam N),d⟩=>if(Nat.ble A9 N&&Nat.beq (N % 2) 0)=true then match E1 Γ msk N with
  |some ⟨.box _ bt,_⟩=>⟨.ptr N 0,d.map fun _ _=>()⟩
  |_=>⟨.v (.nam N),d⟩
  else⟨.v (.nam N),d⟩
 |q=>q
def flatK:EK->Bool
 | .rp _ _| .v (.pt _)| .ptr _ _| .aptr _ _ _=>true
 |_=>false
def cG:EK->Bool
 | .rp _ _| .v (.pt _)| .ptr _ _| .eptr _ _ _| .aptr _ _ _=>true
 |_=>false
def EG(sz:Option Nat)(q:Σ k:EK,ab (HS Γ) (DK k)):Option (Σ k:EK,ab (HS Γ) (DK k)):=
 match q with
 |⟨.rp _ r,d⟩=>match sz with
  |none=>match EH r 0 with
   |some p=>some ⟨.v p.1,d.map fun _ x=>p.2 x⟩
   |none=>none
  |some n=>match EO r n with
   |some p=>some ⟨.v (.agg p.1),d.map fun _ x=>p.2 x⟩
   |none=>none
 |⟨.v (.pt r),d⟩=>match sz with
  |none=>match EH r 0 with
   |some p=>some ⟨.v p.1,d.map fun _ x=>p.2 x⟩
   |none=>none
  |some n=>match EO r n with
   |some p=>some ⟨.v (.agg p.1),d.map fun _ x=>p.2 x⟩
   |none=>none
 |⟨.ptr id o,d⟩=>match E1 Γ msk id with
  |some ⟨.box nb bt,_⟩=>match sz with
   |none=>if o<nb then match get Γ (.c id o)with
    |some p=>some ⟨p.1,d.map fun ρ _=>p.2 ρ⟩
    |none=>none
    else none
   |some (n+1)=>if o+n<nb then match H9 Γ id n o with
    |some p=>some ⟨.v (.agg p.1),d.map fun ρ _=>p.2 ρ⟩
    |none=>none
    else none
   |some 0=>none
  |_=>none
 |⟨.eptr id size o,d⟩=>match E1 Γ msk id with
  |some ⟨.arr _ size' t,xs⟩=>if size=size'/\t.val=true then match sz with
   |none=>match EH (BV t) o with
    |some p=>some ⟨.v p.1,(d.map fun ρ i=>(xs ρ)[i]?).comp (.par fun x=>x.map fun y=>p.2 (G7 t y))⟩
    |none=>none
   |some n=>if n=0 then none else match Oe (BV t) o n with
    |some p=>some ⟨.v (.agg p.1),(d.map fun ρ i=>(xs ρ)[i]?).comp (.par fun x=>x.map fun y=>p.2 (G7 t y))⟩
    |none=>none
   else none
  |_=>none
 |⟨.aptr id n o,d⟩=>match E1 Γ msk id with
  |some ⟨.box nb bt,_⟩=>match sz,get Γ (.c id o)with
   |none,some ⟨.v t,_⟩=>match JK Γ id t n o with
    |some f=>if o+n<=nb then some ⟨.v t,(d.map fun ρ i=>(f ρ)[i]?).comp (.par fun x=>x)⟩else none
    |none=>none
   |_,_=>none
  |_=>none
 |_=>none
def Qk(a:Nat)(x:SO):Option (ab (HS Γ) Int):=
 match a,b5 G Γ x with
 |0,some ⟨.v .str,d⟩=>some (d.map fun _ s=>((s:List UInt8).length:Int))
 |1,some ⟨.v (.sl _),d⟩=>some (d.map fun _ s=>(s.length:Int))
 |1,some ⟨.v .nsl,d⟩=>some (d.map fun _ _=>0)
 |1,some ⟨.own id,d⟩=>match E1 Γ msk id with
  |some ⟨.arr _ _ _,xs⟩=>some (d.map fun ρ _=>((xs ρ).length:Int))
  |_=>none
 |2,some ⟨.v (.map _ _),d⟩=>some (d.map fun _ s=>(s.length:Int))
 |2,some ⟨.mp id,d⟩=>match E1 Γ msk id with
  |some ⟨.mob _ _ _,xs⟩=>some (d.map fun ρ _=>((xs ρ).length:Int))
  |_=>none
 |_,_=>none
def MV(a:Σ t:Ty,ab (HS Γ) (D t))(ok:Bool)(k v:Ty)(b:ab (HS Γ) (List (D k×D v))):Option (Σ k:EK,ab (HS Γ) (DK k)):=
 match Bn a.1 k with
 |some f=>if Eg k=true then
   match ok with
   |true=>some ⟨.v (.tup (.cons v (.one .bool))),(b.both a.2).map fun _ p=>AW (aj k) (AT v) (f p.2) p.1⟩
   |false=>some ⟨.v v,(b.both a.2).map fun _ p=>(AW (aj k) (AT v) (f p.2) p.1).1⟩
  else none
 |none=>none
def Qu(mt:TypeId)(kt:KT)(z:CV)(ok:Bool)(x key:SO):Option (Σ k:EK,ab (HS Γ) (DK k)):=
 match ap Γ key with
 |some kq=>match b5 G Γ x with
  |some ⟨.v (.map k v),d⟩=>if Cg v [z]=true/\dd kt k=true then MV Γ kq ok k v d else none
  |some ⟨.mp id,d⟩=>match E1 Γ msk id with
   |some ⟨.mob mt' k v,m⟩=>if mt'=mt then MV Γ kq ok k v (d.map fun ρ _=>m ρ)else none
   |_=>none
  |_=>none
 |none=>none
def IO(t:Ty):List SO->Option (ab (HS Γ) (List (D t)))
 | []=>some (.tot fun _=> [])
 |x::xs=>match ap Γ x,IO t xs with
  |some q,some e=>match Bn q.1 t with
   |some g=>some ((q.2.both e).map fun _ p=>g p.1::p.2)
   |none=>none
  |_,_=>none
def R9:aa->Option (Σ k:EK,ab (HS Γ) (DK k))
 | .mov x=>b5 G Γ x
 | .pick c a b=>match ap Γ c,ap Γ a,ap Γ b with
  |some ⟨.bool,dc⟩,some qa,some qb=>match Bn qb.1 qa.1 with
   |some f=>some ⟨.v qa.1,KO dc qa.2 (qb.2.map fun _ y=>f y)⟩
   |none=>match Bn qa.1 qb.1 with
    |some f=>some ⟨.v qb.1,KO dc (qa.2.map fun _ y=>f y) qb.2⟩
    |none=>none
  |_,_,_=>none
 | .bin op x y=>match ap Γ x,ap Γ y with
  |some p,some q=>match OZ op p.1 q.1 with
   |some b=>some ⟨.v b.1,(p.2.both q.2).comp b.2⟩
   |none=>none
  |_,_=>none
 | .eqs neg ts x y=>match ap Γ x,ap Γ y with
  |some ⟨.agg r,d⟩,some ⟨.agg s,e⟩=>match JV r s ts with
   |some f=>match neg with
    |true=>some ⟨.v .bool,(d.both e).map fun _ p=> !(f p.1 p.2)⟩
    |false=>some ⟨.v .bool,(d.both e).map fun _ p=>f p.1 p.2⟩
   |none=>none
  |_,_=>none
 | .beq neg x y=>match ap Γ x,ap Γ y with
  |some ⟨.bool,d⟩,some ⟨.bool,e⟩=>match neg with
   |true=>some ⟨.v .bool,(d.both e).map fun _ p=> !(p.1==p.2)⟩
   |false=>some ⟨.v .bool,(d.both e).map fun _ p=>p.1==p.2⟩
  |_,_=>none
 | .isnil kd neg x=>match kd,ap Γ x with
  |3,some ⟨.err,d⟩=>match neg with
   |true=>some ⟨.v .bool,d.map fun _ b=> !(b:Bool)⟩
   |false=>some ⟨.v .bool,d.map fun _ b=>b⟩
  |1,some ⟨.nsl,d⟩=>some ⟨.v .bool,d.map fun _ _=> !neg⟩
  |2,some ⟨.nmap,d⟩=>some ⟨.v .bool,d.map fun _ _=> !neg⟩
  |_,_=>none
 | .un op x=>match op,ap Γ x with
  | .neg,some ⟨.int k,d⟩=>some ⟨.v (.int k),d.map fun _ n=>k.wrap (0-n)⟩
  | .xor,some ⟨.int k,d⟩=>some ⟨.v (.int k),d.map fun _ n=>BS .xor k (if k.signed then-1 else k.max) n⟩
  | .not,some ⟨.bool,d⟩=>some ⟨.v .bool,d.map fun _ b=> !(b:Bool)⟩
  |_,_=>none
 | .cvi k x=>match ap Γ x with
  |some ⟨.int _,d⟩=>some ⟨.v (.int k),d.map fun _ n=>k.wrap n⟩
  |_=>none
 | .cvrune x=>match ap Γ x with
  |some ⟨.int _,d⟩=>some ⟨.v .str,d.map fun _ n=>(Utf8.encode n).data.toList⟩
  |_=>none
 | .bytes _ x=>match ap Γ x with
  |some ⟨.str,d⟩=>some ⟨.v (.sl (.int .u8)),d.comp (.par fun s=>if s.length<=70368744177664 then some (s.map fun b=>(b.toNat:Int))else none)⟩
  |_=>none
 | .cvbs x=>match b5 G Γ x with
  |some ⟨.v (.sl (.int .u8)),d⟩=>some ⟨.v .str,d.map fun _ ns=>ns.map fun n=>UInt8.ofNat n.toNat⟩
  |some ⟨.v .nsl,d⟩=>some ⟨.v .str,d.map fun _ _=> []⟩
  |some ⟨.own id,d⟩=>match E1 Γ msk id with
   |some ⟨.arr _ _ (.int .u8),xs⟩=>some ⟨.v .str,d.map fun ρ _=>(xs ρ).map fun n=>UInt8.ofNat n.toNat⟩
   |_=>none
  |_=>none
 | .cvid x=>match ap Γ x with
  |some ⟨.str,d⟩=>some ⟨.v .str,d⟩
  |_=>none
 | .nchk x=>match b5 G Γ x with
  |some ⟨.v (.nam N),d⟩=>if Nat.beq (N % 2) 0=true then some ⟨.v (.nam N),d⟩else none
  |some ⟨.v (.pt r),d⟩=>some ⟨.v (.pt r),d⟩
  |some ⟨.rp ex r,d⟩=>some ⟨.rp ex r,d⟩
  |some ⟨.ptr id o,d⟩=>some ⟨.ptr id o,d⟩
  |some ⟨.eptr id s o,d⟩=>some ⟨.eptr id s o,d⟩
  |_=>none
 | .lsl _ size parts=>match parts with
  | []=>none
  |x::xs=>match ap Γ x with
   |some ⟨t,_⟩=>match IO Γ t (x::xs)with
    |some l=>if t.val=true/\Bc (BV t)=some size then some ⟨.v (.sl t),l⟩else none
    |none=>none
   |none=>none
 | .build z parts=>match FG z with
  |some q=>match KM Γ ⟨q.1,.tot fun _=>q.2⟩ parts with
   |some r=>some ⟨.v (.agg r.1),r.2⟩
   |none=>none
  |none=>none
 | .field off sz x=>match ap Γ x with
  |some ⟨.agg r,d⟩=>match sz with
   |none=>match EH r off with
    |some p=>some ⟨.v p.1,d.map fun _ x=>p.2 x⟩
    |none=>none
   |some n=>match Oe r off n with
    |some p=>if 0<n then some ⟨.v (.agg p.1),d.map fun _ x=>p.2 x⟩else none
    |none=>none
  |_=>none
 | .ext x i=>match b5 G Γ x with
  |some ⟨.v (.tup r),d⟩=>match EH r i with
   |some p=>some ⟨.v p.1,d.map fun _ x=>p.2 x⟩
   |none=>none
  |some ⟨.ent id k v,d⟩=>match i with
   |0=>some ⟨.v v,d.map fun _ x=>x.2⟩
   |1=>some ⟨.stamp id k,d.map fun _ x=>x.1⟩
   |_=>none
  |_=>none
 | .minmax mx xs=>match xs with
  | []=>none
  |x::xs=>match ap Γ x with
   |some ⟨.int k,d⟩=>match d6 Γ mx k d xs with
    |some e=>some ⟨.v (.int k),e⟩
    |none=>none
   |_=>none
 | .fnv f caps=>match GI Γ caps with
  |some q=>some ⟨.v (.clo f q.1),q.2⟩
  |none=>none
 | .faddr off x=>match (b5 G Γ x).map (DI Γ msk)with
  |some ⟨.rp ex r,d⟩=>match FJ r off with
   |some p=>some ⟨.rp ex p.1,d.map fun _ x=>p.2 x⟩
   |none=>none
  |some ⟨.v (.pt r),d⟩=>match FJ r off with
   |some p=>some ⟨.rp true p.1,d.map fun _ x=>p.2 x⟩
   |none=>none
  |some ⟨.ptr id o,d⟩=>some ⟨.ptr id (o+off),d⟩
  |some ⟨.eptr id s o,d⟩=>some ⟨.eptr id s (o+off),d⟩
  |some ⟨.aptr id n o,d⟩=>if off=0 then some ⟨.aptr id n o,d⟩else none
  |_=>none
 | .iaddr size x i=>match b5 G Γ x,ap Γ i with
  |some ⟨.v (.sl e),d⟩,some ⟨.int _,di⟩=>if e.val=true/\Bc (BV e)=some size then some ⟨.rp true (BV e),(d.both di).comp (.par fun p=>(an p.1 p.2).map fun y=>G7 e y)⟩else none
  |some ⟨.own id,d⟩,some ⟨.int _,di⟩=>match E1 Γ msk id with
   |some ⟨.arr _ sz _,xs⟩=>if size=sz then some ⟨.eptr id size 0,((d.both di).map fun ρ p=>if 0<=(p.2:Int)/\(p.2:Int)<((xs ρ).length:Int)then some (p.2:Int).toNat else none).comp (.par fun x=>x)⟩else none
   |_=>none
  |_,_=>none
 | .aaddr len size x i=>match b5 G Γ x,ap Γ i with
  |some ⟨.rp true r,d⟩,some ⟨.int _,di⟩=>match EO r size with
   |some q=>match Iu q.1 size len r with
    |some f=>if Bc r=some (len*size)then some ⟨.rp false q.1,(d.both di).comp (.par fun p=>an (f p.1) p.2)⟩else none
    |none=>none
   |none=>none
  |some ⟨.ptr id o,d⟩,some ⟨.int _,di⟩=>if size=1 then some ⟨.aptr id len o,(d.both di).comp (.par fun p=>if 0<=(p.2:Int)/\(p.2:Int)<(len:Int)then some (p.2:Int).toNat else none)⟩else none
  |_,_=>none
 | .sidx x i=>match ap Γ x,ap Γ i with
  |some ⟨.str,d⟩,some ⟨.int _,di⟩=>some ⟨.v (.int .u8),(d.both di).comp (.par fun p=>bX p.1 p.2)⟩
  |_,_=>none
 | .aidx len size sz x i=>match ap Γ x,ap Γ i with
  |some ⟨.agg r,d⟩,some ⟨.int _,di⟩=>match sz with
   |none=>match EO r 1 with
    |some q=>match EH q.1 0 with
     |some p=>match Iu q.1 1 len r with
         |some f=>if size=1 then some ⟨.v p.1,(d.both di).comp (.par fun z=>(an (f z.1) z.2).map fun y=>p.2 y)⟩else none
         |none=>none
     |none=>none
    |none=>none
   |some n=>match EO r size with
    |some q=>match Iu q.1 size len r with
     |some f=>if n=size/\0<size then some ⟨.v (.agg q.1),(d.both di).comp (.par fun z=>an (f z.1) z.2)⟩else none
     |none=>none
    |none=>none
  |_,_=>none
 | .load sz x=>match b5 G Γ x with
  |some q=>EG Γ msk sz (DI Γ msk q)
  |none=>none
 | .loadb sz x=>match b5 G Γ x with
  |some q=>match flatK (DI Γ msk q).1 with
   |true=>EG Γ msk sz (DI Γ msk q)
   |false=>none
  |none=>none
 | .len kd x=>match Qk G Γ msk kd x with
  |some d=>some ⟨.v (.int .i64),d⟩
  |none=>none
 | .sslice x lo hi=>match ap Γ x with
  |some ⟨.str,d⟩=>match LX Γ (fun s=>((s:List UInt8).length:Int)) d lo hi with
   |some e=>some ⟨.v .str,e.comp (.par fun p=>Fv p.1 p.2.1 p.2.2)⟩
   |none=>none
  |_=>none
 | .slice size x lo hi=>match ap Γ x with
  |some ⟨.sl e,d⟩=>if e.val=true/\Bc (BV e)=some size then match LX Γ (fun s=>(s.length:Int)) d lo hi with
   |some g=>some ⟨.v (.sl e),g.comp (.par fun p=>Fv p.1 p.2.1 p.2.2)⟩
   |none=>none
   else none
  |_=>none
 | .slice3 size x lo hi mx=>match lo,ap Γ x,ap Γ hi,ap Γ mx with
  |none,some ⟨.nsl,d⟩,some ⟨.int _,dh⟩,some ⟨.int _,dm⟩=>some ⟨.v .nsl,(d.both (dh.both dm)).comp (.par fun p=>if p.2.1=(0:Int)/\p.2.2=(0:Int)then some p.1 else none)⟩
  |none,some ⟨.sl e,d⟩,some ⟨.int _,dh⟩,some ⟨.int _,dm⟩=>if e.val=true/\Bc (BV e)=some size then some ⟨.v (.sl e),(d.both (dh.both dm)).comp (.par fun p=>if(p.2.1:Int)=p.2.2 then Fv p.1 0 p.2.1 else none)⟩else none
  |_,_,_,_=>none
 | .capp _ size bytes x y=>match ap Γ x,ap Γ y with
  |some ⟨.nsl,dx⟩,some ⟨.sl e,dy⟩=>if e.val=true/\Bc (BV e)=some size/\Fy (BV e)=true then some ⟨.v (.sl e),(dx.both dy).comp (.par fun p=>if((p.2:List (D e)).length:Int)*(bytes:Int)<=140737488355328/\((p.2:List (D e)).length:Int)<=4611686018427387904 then some p.2 else none)⟩else none
  |_,_=>none
 | .mentry x=>match b5 G Γ x with
  |some ⟨.iter id,d⟩=>match E1 Γ msk id with
   |some ⟨.mcur k v,f⟩=>some ⟨.v (.tup (.cons k (.one v))),d.map fun ρ _=>f ρ⟩
   |_=>none
  |_=>none
 | .lookup mt kt z ok x k=>Qu G Γ msk mt kt z ok x k
 | .asl n x=>match b5 G Γ x with
  |some ⟨.rp true r,d⟩=>match Lk r with
   |some f=>if Bc r=some n then some ⟨.v (.sl .str),d.map fun _ z=>f z⟩else none
   |none=>none
  |_=>none
 |_=>none
end
section
variable {G:Nat->List CV} {Γ:TC} {msk:List Nat} {ρ:HS Γ} {st:St} {rd:Nat->Ob}
theorem Fj{id:Nat}{q:Σ k:EK,HS Γ->DK k}(h:E1 Γ msk id=some q)(b:ae Γ ρ st)(a:∀id,msk.contains id=false->rd id=st.ob id):RO Γ ρ id q.1 (q.2 ρ) (rd id):=by
 unfold E1 at h;split at h<;>(try cases h;done);rename_i c;rw[a id (by simpa using c)];exact b.o id q h
theorem Pj{id i:Nat}{cs:List SV}(b:∀j q,j<i->get Γ (.c id j)=some q->∃sv,cs[j]? =some sv/\RS q.1 (q.2 ρ) sv):∀{n off:Nat} {q:Σ r:Ty,HS Γ->D r},H9 Γ id n off=some q->off+n<i->∃l,A5 closed ((cs.drop off).take (n+1))=some l/\Can q.1 (q.2 ρ) l/\off+(n+1)<=cs.length:=by
 intro n
 induction n with
 |zero=>
  intro off q h m;simp only[H9]at h;split at h<;>(try cases h;done);rename_i t f e;cases h;obtain⟨sv,d,c,rfl,g⟩:=b off _ (by omega) e;have a:=(Af.1 d).1;refine⟨[c], ?_, ?_,by omega⟩
  ·rw[List.drop_eq_getElem_cons a,(Af.1 d).2];simp[A5,closed]
  ·unfold Can;exact⟨c,rfl,g⟩
 |succ n ih=>
  intro off q h m;simp only[H9]at h;split at h<;>(try cases h;done);rename_i t f p e k;cases h;obtain⟨sv,d,c,rfl,g⟩:=b off _ (by omega) e;have a:=(Af.1 d).1;obtain⟨l,s,o,u⟩:=ih k (by omega);refine⟨c::l, ?_, ?_,by omega⟩
  ·rw[List.drop_eq_getElem_cons a,(Af.1 d).2];simp only[List.take_succ_cons,A5,closed,Ap];rw[s];rfl
  ·unfold Can;exact⟨c,l,rfl,g,o⟩
theorem GJ{t:Ty}{x:D t}{c:CV}{n:Nat}(b:t.val=true)(d:Bc (BV t)=some n)(h:Can t x [c]):c.cells.length=n/\Bk c=n:=by
 have a:=Fe d (Hl b h);refine⟨a, ?_⟩;rw[<-a];cases c<;>simp[Bk,CV.cells]
theorem Agu(L:ae Γ ρ st):∀{f:List (Nat×Nat×SO)} {r q:Σ r:Ty,ab (HS Γ) (D r)} {cs:List CV} {x:D q.1},KM Γ r f=some q->q.2.val ρ=some x->(∀y,r.2.val ρ=some y->Can r.1 y cs)->
  (∃y,r.2.val ρ=some y)/\∃l a,A5 (fun p=>(closed (so G st.fr p.2.2)).map fun v=>(p.1,p.2.1,v)) f=some l/\HK cs l=some a/\Can q.1 x a:=by
 intro f
 induction f with
 |nil=>
  intro r q cs x h j k;simp only[KM,Ac]at h;subst h;exact⟨⟨x,j⟩,[],cs,rfl,rfl,k x j⟩
 |cons p f ih=>
  intro r q cs x h j k;simp only[KM]at h;split at h<;>(try cases h;done);rename_i t K;split at h<;>(try cases h;done);rename_i g M;split at h<;>(try cases h;done);rename_i e
  have key:∀y,((r.2.both t.2).map fun _ z=>g.2 z.1 (G7 t.1 z.2)).val ρ=some y->∃y0 z c,r.2.val ρ=some y0/\t.2.val ρ=some z/\so G st.fr p.2.2=.c c/\Bk c=p.2.1/\p.1+p.2.1<=cs.length/\Can g.1 y (cs.take p.1++c.cells++cs.drop (p.1+p.2.1)):=by
   intro y d;obtain⟨b,P,O⟩:=ab.map_val d;obtain⟨o,n⟩:=ab.both_val P;obtain⟨c,N,m⟩:=AP (G:=G) K L n;obtain⟨R,Q⟩:=GJ e.1 e.2 m;obtain⟨u,s⟩:=Xl M (k _ o) (Hl e.1 m);rw[R]at u s;exact⟨_,_,c,o,n,N,Q,s,O▸u⟩
  by_cases hex:∃y,((r.2.both t.2).map fun _ z=>g.2 z.1 (G7 t.1 z.2)).val ρ=some y
  ·obtain⟨y,d⟩:=hex;obtain⟨y0,z,c,F,T,C,B,A,w⟩:=key y d
   obtain⟨_,l,a,J,I,H⟩:=ih (cs:=cs.take p.1++c.cells++cs.drop (p.1+p.2.1)) h j (fun S i=>by
    rw[d]at i;cases i
    exact w)
   refine⟨⟨y0,F⟩,(p.1,p.2.1,c)::l,a, ?_, ?_,H⟩
   ·simp only[A5];rw[C,J];rfl
   ·simp only[HK];rw[Ao ⟨B,A⟩];exact I
  ·exfalso;obtain⟨⟨y,d⟩,_⟩:=ih (cs:= []) h j (fun y d=>absurd ⟨y,d⟩ hex);exact hex ⟨y,d⟩
theorem Afv(j:ae Γ ρ st){f:Bool}{k:IntKind}:∀{xs:List SO} {acc e:ab (HS Γ) Int} {z:Int},d6 Γ f k acc xs=some e->e.val ρ=some z->∃a l,acc.val ρ=some a/\A5 (fun x=>closed (so G st.fr x)) xs=some l/\l.foldlM (HV f) (.int k a)=some (.int k z):=by
 intro xs
 induction xs with
 |nil=>
  intro acc e z h g;simp only[d6,Ac]at h;subst h;exact⟨z,[],g,rfl,rfl⟩
 |cons x xs ih=>
  intro acc e z h g;simp only[d6]at h;split at h<;>(try cases h;done);rename_i w d n;split at h<;>(try cases h;done);rename_i m;subst m;obtain⟨a,l,q,p,o⟩:=ih h g
  cases f<;>
  ·obtain⟨b,v,u⟩:=ab.map_val q;obtain⟨t,s⟩:=ab.both_val v;obtain⟨c,r,i⟩:=AP (G:=G) n j s;unfold Can at i;cases i;refine⟨b.1,_::l,t,by simp only[A5];rw[r,p];rfl, ?_⟩;simp only[List.foldlM_cons,HV,if_true,Ah,if_false];subst u;exact o
theorem JD(a:ae Γ ρ st):∀{xs:List SO} {q:Σ r:Ty,ab (HS Γ) (D r)} {x:D q.1},GI Γ xs=some q->q.2.val ρ=some x->∃l,A5 (fun x=>closed (so G st.fr x)) xs=some l/\Can q.1 x l
 | [],q,x,h,hx=>by
  simp only[GI,Ac]at h;subst h;exact⟨[],rfl,by unfold Can;rfl⟩
 | [y],q,x,h,hx=>by
  simp only[GI]at h;split at h<;>(try cases h;done);rename_i p f;cases h;obtain⟨c,i,g⟩:=AP (G:=G) f a hx;exact⟨[c],by simp[A5,i,closed],by unfold Can;exact⟨c,rfl,g⟩⟩
 |y::z::xs,q,x,h,hx=>by
  simp only[GI]at h;split at h<;>(try cases h;done);rename_i p o f d;cases h;obtain⟨n,m⟩:=ab.both_val hx;obtain⟨c,i,g⟩:=AP (G:=G) f a n;obtain⟨l,k,j⟩:=JD a d m;refine⟨c::l, ?_,by unfold Can;exact⟨c,l,rfl,g,j⟩⟩;have e:A5 (fun x=>closed (so G st.fr x)) (y::z::xs)=(closed (so G st.fr y)).bind fun b=>(A5 (fun x=>closed (so G st.fr x)) (z::xs)).map fun bs=>b::bs:=rfl;rw[e,i,k];rfl
theorem Ud(w:ae Γ ρ st){A:Type}{len:A->Int}{u:ab (HS Γ) A}{lo hi:Option SO}{e:ab (HS Γ) (A×Int×Int)}{p:A×Int×Int}(h:LX Γ len u lo hi=some e)(s:e.val ρ=some p):
  u.val ρ=some p.1/\(∀n:Nat,(n:Int)=len p.1->0<=p.2.2->C4 n (hi.map (so G st.fr))=some p.2.2.toNat)/\(0<=p.2.1->C4 0 (lo.map (so G st.fr))=some p.2.1.toNat):=by
 have a:∀{x:SO} {k:IntKind} {d:ab (HS Γ) (D (.int k))} {n:Int} {m:Nat},ap Γ x=some ⟨.int k,d⟩->d.val ρ=some n->0<=n->C4 m (some (so G st.fr x))=some n.toNat:=by
  intro x k d n m v j i;obtain⟨c,g,f⟩:=AP (G:=G) v w j;unfold Can at f;cases f;simp[C4,g,i]
 unfold LX at h;split at h
 ·cases h;obtain⟨b,g,f⟩:=ab.map_val s;subst f;refine⟨g,fun n j _=> ?_,fun _=>rfl⟩;simp[C4,<-j]
 ·split at h<;>(try cases h;done);rename_i l k d o;cases h;obtain⟨b,g,f⟩:=ab.map_val s;obtain⟨r,q⟩:=ab.both_val g;subst f;refine⟨r,fun n j _=> ?_,fun i=>a o q i⟩;simp[C4,<-j]
 ·split at h<;>(try cases h;done);rename_i l k d o;cases h;obtain⟨b,g,f⟩:=ab.map_val s;obtain⟨r,q⟩:=ab.both_val g;subst f;exact⟨r,fun n _ i=>a o q i,fun _=>rfl⟩
 ·split at h<;>(try cases h;done);rename_i l C k d B d' o t;cases h;obtain⟨b,g,f⟩:=ab.map_val s;obtain⟨r,q⟩:=ab.both_val g;obtain⟨z,y⟩:=ab.both_val q;subst f;exact⟨r,fun n _ i=>a t y i,fun i=>a o z i⟩
theorem Uz{id k:Nat}{t:Ty}{cs:List SV}(a:∀j q,j<k->get Γ (.c id j)=some q->∃sv,cs[j]? =some sv/\RS q.1 (q.2 ρ) sv):∀{n off:Nat} {f:HS Γ->List (D t)} {i:Nat} {y:D t},JK Γ id t n off=some f->off+n<=k->(f ρ)[i]? =some y->i<n/\∃c,cs[off+i]? =some (.c c)/\Can t y [c]
 |0,off,f,i,y,h,_,hy=>by
  simp only[JK,Ac]at h;subst h;simp at hy
 |n+1,off,f,i,y,h,hb,hy=>by
  simp only[JK]at h;split at h<;>(try cases h;done);rename_i u g p o b;split at h<;>(try cases h;done);rename_i m;subst m;cases h
  cases i with
  |zero=>
   simp at hy;obtain⟨sv,l,c,e,d⟩:=a off _ (by omega) o;subst e;exact⟨by omega,c,l,hy▸d⟩
  |succ i=>
   simp only[List.getElem?_cons_succ]at hy;obtain⟨l,c,e,d⟩:=Uz a b (by omega) hy;exact⟨by omega,c,by rw[<-e];congr 1;omega,d⟩
theorem Aam{k:EK}{x:DK k}{sv:SV}(a:cG k=true)(h:RS k x sv):deref rd sv=sv:=by
 cases k<;>simp only[cG,Ah]at a
 case v t=>
  cases t<;>simp only[Ah]at a;obtain⟨c,rfl,b⟩:=h;unfold Can at b;obtain⟨l,e,_⟩:=b;cases e;rfl
 case rp=>obtain⟨cs,rest,rfl,_⟩:=h;rfl
 case ptr=>unfold RS at h;rw[h];rfl
 case eptr=>unfold RS at h;rw[h];rfl
 case aptr=>unfold RS at h;rw[h.1];rfl
theorem Aal(t:ae Γ ρ st)(i:∀id,msk.contains id=false->rd id=st.ob id){q a:Σ k:EK,ab (HS Γ) (DK k)}{sv:SV}(p:∀x,q.2.val ρ=some x->RS q.1 x sv)(h:DI Γ msk q=a){x:DK a.1}(o:a.2.val ρ=some x)
  (j:cG a.1=true):RS a.1 x (deref rd sv):=by
 have same:∀{a:Σ k:EK,ab (HS Γ) (DK k)} {x:DK a.1},(∀x,a.2.val ρ=some x->RS a.1 x sv)->a.2.val ρ=some x->cG a.1=true->RS a.1 x (deref rd sv):=by
  intro a x b s m;rw[Aam m (b x s)];exact b x s
 unfold DI at h;split at h
 ·rename_i N d;split at h
  ·rename_i l;split at h
   ·rename_i n f u;subst h;obtain⟨y,b,_⟩:=ab.map_val (d:=d) (g:=fun _ _=>()) o;obtain⟨c,e,r⟩:=p y b;unfold Can at r;cases r;obtain⟨cs,m,_⟩:=Fj u t i;subst e;show deref rd (.c (.nam N))=.ptr N 0;simp only[deref,m];rw[Ag]at l;rw[Ao ⟨Ai l.1,Nat.eq_of_beq_eq_true l.2⟩]
   ·subst h;cases j
  ·subst h;cases j
 ·subst h;exact same p o j
theorem I8(d:ae Γ ρ st)(a:∀id,msk.contains id=false->rd id=st.ob id){q:Σ k:EK,ab (HS Γ) (DK k)}{sv:SV}(c:∀x,q.2.val ρ=some x->RS q.1 x sv){x:DK (DI Γ msk q).1}(b:(DI Γ msk q).2.val ρ=some x)
  (e:cG (DI Γ msk q).1=true):RS (DI Γ msk q).1 x (deref rd sv):=Aal d a c rfl b e
theorem Kr(W:ae Γ ρ st)(J:∀id,msk.contains id=false->rd id=st.ob id){sz:Option Nat}{q S:Σ k:EK,ab (HS Γ) (DK k)}{sv:SV}{y:DK S.1}(h:EG Γ msk sz q=some S)(w:S.2.val ρ=some y)
  (F:∀x,q.2.val ρ=some x->RS q.1 x sv):∃D,Bb rd sz sv=some D/\RS S.1 y D:=by
 obtain⟨k,d⟩:=q;cases k<;>(try cases h;done)
 ·rename_i t;cases t<;>(try cases h;done);rename_i r;simp only[EG]at h;split at h
  ·split at h<;>(try cases h;done);rename_i p z;cases h;obtain⟨x,s,m⟩:=ab.map_val w;obtain⟨c0,e,C⟩:=F x s;subst e;unfold Can at C;obtain⟨cs,e,K⟩:=C;cases e;obtain⟨c,v,A⟩:=IX z K;refine⟨.c c, ?_,c,rfl,m▸A⟩;simp[Bb,v]
  ·rename_i n;split at h<;>(try cases h;done);rename_i p z;cases h;obtain⟨x,s,m⟩:=ab.map_val w;obtain⟨c0,e,C⟩:=F x s;subst e;unfold Can at C;obtain⟨cs,e,K⟩:=C;cases e;obtain⟨v,A⟩:=Of z K;refine⟨.c (.agg (cs.take n)), ?_,.agg (cs.take n),rfl,by unfold Can;exact⟨_,rfl,m▸v⟩⟩;have:n<=cs.length:=by omega
   simp[Bb,CR,this]
 ·rename_i ex r;simp only[EG]at h;split at h
  ·split at h<;>(try cases h;done);rename_i p z;cases h;obtain⟨x,s,m⟩:=ab.map_val w;obtain⟨cs,rest,e,K,_⟩:=F x s;subst e;obtain⟨c,v,A⟩:=IX z K;refine⟨.c c, ?_,c,rfl,m▸A⟩;have Y:=(Af.1 v).1;simp[Bb,List.getElem?_append_left Y,v]
  ·rename_i n;split at h<;>(try cases h;done);rename_i p z;cases h;obtain⟨x,s,m⟩:=ab.map_val w;obtain⟨cs,rest,e,K,_⟩:=F x s;subst e;obtain⟨v,A⟩:=Of z K;refine⟨.c (.agg (cs.take n)), ?_,.agg (cs.take n),rfl,by unfold Can;exact⟨_,rfl,m▸v⟩⟩;have:n<=cs.length+rest.length:=by omega
   simp[Bb,CR,this,List.take_append_of_le_length A]
 ·rename_i id o;simp only[EG]at h;split at h<;>(try cases h;done);rename_i n g M;obtain⟨cs,e,hl,H⟩:=Fj M W J;split at h
  ·split at h<;>(try cases h;done);rename_i O;split at h<;>(try cases h;done);rename_i p z;cases h;dsimp only at w;obtain⟨u,V,w⟩:=ab.map_val w;have j:sv=.ptr id o:=F u V;subst j;subst w;obtain⟨D,s,m⟩:=H o _ O z;exact⟨D,by simp[Bb,e,s],m⟩
  ·rename_i n;split at h<;>(try cases h;done);rename_i O;split at h<;>(try cases h;done);rename_i p z;cases h;dsimp only at w;obtain⟨u,V,w⟩:=ab.map_val w;have j:sv=.ptr id o:=F u V;subst j;subst w;obtain⟨l,s,m,v⟩:=Pj H z O;exact⟨.c (.agg l),by simp only[Bb,e];rw[Ao v,s];rfl,.agg l,rfl,by unfold Can;exact⟨l,rfl,m⟩⟩
  ·cases h
 ·rename_i id size o;simp only[EG]at h;split at h<;>(try cases h;done);rename_i e' U t xs M;split at h<;>(try cases h;done);rename_i I;obtain⟨I,hv⟩:=I;subst I;obtain⟨es,e,N⟩:=Fj M W J;split at h
  ·split at h<;>(try cases h;done);rename_i p z;cases h;obtain⟨b,s,m⟩:=ab.comp_val w;obtain⟨i,v,A⟩:=ab.map_val s;subst A;have j:sv=.eptr id i size o:=F i v;subst j;obtain⟨a,T,Q⟩:=Aa.1 m;obtain⟨c,P,h8⟩:=N.get T;obtain⟨c',Z,R⟩:=IX z (Hl hv h8);exact⟨.c c',by simp[Bb,e,P,CR,Z],c',rfl,Q▸R⟩
  ·rename_i n;split at h<;>(try cases h;done);rename_i L;split at h<;>(try cases h;done);rename_i p z;cases h;obtain⟨b,s,m⟩:=ab.comp_val w;obtain⟨i,v,A⟩:=ab.map_val s;subst A;have j:sv=.eptr id i size o:=F i v;subst j;obtain⟨a,T,Q⟩:=Aa.1 m;obtain⟨c,P,h8⟩:=N.get T;obtain⟨Z,R⟩:=Y3 z (Hl hv h8);refine⟨.c (.agg ((c.cells.drop o).take n)), ?_,_,rfl,by unfold Can;exact⟨_,rfl,Q▸Z⟩⟩;have B:o+n<=c.cells.length\/n=0:=by omega
   rcases B with B|B
   ·simp only[Bb,e,if_true,P,Ap,CR];rw[Ao B];rfl
   ·exact(L B).elim
 ·rename_i id n o;simp only[EG]at h;split at h<;>(try cases h;done);rename_i nb g M;obtain⟨cs,e,hl,H⟩:=Fj M W J;split at h<;>(try cases h;done);rename_i t g2 hg2;split at h<;>(try cases h;done);rename_i f hf;split at h<;>(try cases h;done);rename_i O;cases h;obtain⟨b,s,m⟩:=ab.comp_val w;obtain⟨i,v,A⟩:=ab.map_val s;subst A;obtain⟨j,_⟩:=F i v;subst j;obtain⟨T,c,Q,P⟩:=Uz H hf O m;exact⟨.c c,by simp only[Bb,e];exact Q,c,rfl,P⟩
theorem Ae6(i:ae Γ ρ st)(p:∀id,msk.contains id=false->rd id=st.ob id){A:Nat}{x:SO}{d:ab (HS Γ) Int}{n:Int}(h:Qk G Γ msk A x=some d)(g:d.val ρ=some n):Da rd A (so G st.fr x)=some n:=by
 unfold Qk at h;split at h
 ·rename_i d' a;cases h;obtain⟨s,o,m⟩:=ab.map_val g;obtain⟨c,e,b⟩:=Bf a i o;unfold Can at b;cases b;rw[e,m];rfl
 ·rename_i t d' a;cases h;obtain⟨s,o,m⟩:=ab.map_val g;obtain⟨c,e,b⟩:=Bf a i o;unfold Can at b;obtain⟨B,es,q,l⟩:=b;cases q;rw[e,m];simp[Da,l.length]
 ·rename_i d' a;cases h;obtain⟨s,o,m⟩:=ab.map_val g;obtain⟨c,e,b⟩:=Bf a i o;unfold Can at b;cases b;rw[e,m];rfl
 ·rename_i id f a;split at h<;>(try cases h;done);rename_i q sz t xs y;cases h;obtain⟨u,r,g⟩:=ab.map_val g;subst g;obtain⟨es,e,l⟩:=Fj y i p;have w:so G st.fr x=.osl id:=Bf a i r;rw[w];simp[Da,e,l.length]
 ·rename_i k v d' a;cases h;obtain⟨s,o,m⟩:=ab.map_val g;obtain⟨c,e,b⟩:=Bf a i o;unfold Can at b;obtain⟨B,ks,vs,q,j,_⟩:=b;cases q;rw[e,m];simp[Da,j.length]
 ·rename_i id f a;split at h<;>(try cases h;done);rename_i mt k v xs y;cases h;obtain⟨u,r,g⟩:=ab.map_val g;subst g;obtain⟨z,ks,vs,e,_,j,_⟩:=Fj y i p;have w:so G st.fr x=.omap id:=Bf a i r;rw[w];simp[Da,e,j.length]
 ·cases h
theorem Wh(J:ae Γ ρ st){key:SO}{i:Σ t:Ty,ab (HS Γ) (D t)}(l:ap Γ key=some i){ok:Bool}{k v:Ty}{n:ab (HS Γ) (List (D k×D v))}{q:Σ k:EK,ab (HS Γ) (DK k)}{y:DK q.1}(h:MV Γ i ok k v n=some q)(I:q.2.val ρ=some y):
  ∃m e,n.val ρ=some m/\so G st.fr key=.c e/\Eg k=true/\AR (b3 k) e=true/\
    ∀{ks vs:List CV},CanAll (fun x c=>Can k x.1 [c]) m ks->CanAll (fun x c=>Can v x.2 [c]) m vs->∀{z:CV},Can v (AT v) [z]->∃c,(let(a,b):=AZ (b3 k) z ks vs e;some (if ok then CV.tup [a,.bool b]else a))=some c/\RS q.1 y (.c c):=by
 unfold MV at h;split at h<;>(try cases h;done);rename_i f K;split at h<;>(try cases h;done);rename_i j;split at h
 ·cases h;obtain⟨p,H,F⟩:∃p,(n.both i.2).val ρ=some p/\y=AW (aj k) (AT v) (f p.2) p.1:=ab.map_val (C:=D (.tup (.cons v (.one .bool)))) (B:=List (D k×D v)×D i.1) (g:=fun _ p=>AW (aj k) (AT v) (f p.2) p.1) I;obtain⟨A,w⟩:=ab.both_val H;obtain⟨e,u,s⟩:=AP (G:=G) l J w;have d:=CA _ _ K s;refine⟨p.1,e,A,u,j,(HH j d d).2,fun{ks vs} g1 g2 {z} g3=> ?_⟩;obtain⟨c,r,o⟩:=MW j d g3 g1 g2;rw[r];subst F;refine⟨_,rfl,_,rfl, ?_⟩;unfold Can;refine⟨_,rfl, ?_⟩;unfold Can;refine⟨_,_,rfl,o, ?_⟩;unfold Can;exact⟨_,rfl,by unfold Can;rfl⟩
 ·cases h;obtain⟨p,H,F⟩:∃p,(n.both i.2).val ρ=some p/\y=(AW (aj k) (AT v) (f p.2) p.1).1:=ab.map_val (C:=D v) (B:=List (D k×D v)×D i.1) (g:=fun _ p=>(AW (aj k) (AT v) (f p.2) p.1).1) I;obtain⟨A,w⟩:=ab.both_val H;obtain⟨e,u,s⟩:=AP (G:=G) l J w;have d:=CA _ _ K s;refine⟨p.1,e,A,u,j,(HH j d d).2,fun{ks vs} g1 g2 {z} g3=> ?_⟩;obtain⟨c,r,o⟩:=MW j d g3 g1 g2;rw[r];subst F;exact⟨_,rfl,_,rfl,o⟩
theorem Afk(a:ae Γ ρ st)(n:∀id,msk.contains id=false->rd id=st.ob id){mt:TypeId}{kt:KT}{z:CV}{ok:Bool}{x key:SO}{q:Σ k:EK,ab (HS Γ) (DK k)}{y:DK q.1}(h:Qu G Γ msk mt kt z ok x key=some q)(C:q.2.val ρ=some y):
  ∃c,Ey rd mt kt z ok (so G st.fr x) (so G st.fr key)=some c/\RS q.1 y (.c c):=by
 unfold Qu at h;split at h<;>(try cases h;done);rename_i P b;split at h
 ·rename_i k v d r;split at h<;>(try cases h;done);rename_i i;obtain⟨m,M,g,w,D,t,s⟩:=Wh (G:=G) a b h C;obtain⟨c,e,F⟩:=Bf r a g;unfold Can at F;obtain⟨N,ks,vs,L,j,l⟩:=F;cases L;rw[e,w];have p:=VU i.2;subst p;obtain⟨c,B,A⟩:=s j l (RH i.1);refine⟨c, ?_,A⟩;simp only[Ey,t,VN D j,Bool.and_self,if_true];exact B
 ·rename_i id f r;split at h<;>(try cases h;done);rename_i H k v O K;split at h<;>(try cases h;done);rename_i o;subst o;obtain⟨m,M,g,w,D,t,s⟩:=Wh (G:=G) a b h C;obtain⟨u,I,g⟩:=ab.map_val g;subst g;obtain⟨z',ks,vs,e,i,j,l⟩:=Fj K a n;have J:so G st.fr x=.omap id:=Bf r a I;rw[J,w];obtain⟨c,B,A⟩:=s j l i;refine⟨c, ?_,A⟩;simp only[Ey,e,t,and_self,if_true];exact B
 ·cases h
end
theorem Hb{t:Ty}{x:D t}{c:CV}(b:Fz t=true)(h:Can t x [c]):C7 c=true:=by
 cases t<;>simp only[Fz,Ah]at b<;>unfold Can at h
 case clo=>obtain⟨l,e,_⟩:=h;cases e;rfl
 case falt f r l=>
  obtain⟨d,e,_,a⟩:=MF (t:=.falt f r l) b (by unfold Can;exact h);cases e;cases c<;>first|rfl|(exact absurd rfl (a _).1)|(exact absurd rfl (a _).2)
 case sl=>obtain⟨_,_,e,_⟩:=h;cases e;rfl
 case map=>obtain⟨_,_,_,e,_⟩:=h;cases e;rfl
 case err=>cases x<;>(cases h;rfl)
 case pt=>obtain⟨l,e,_⟩:=h;cases e;rfl
 case bptr=>rcases h with e|e|e<;>(cases e;rfl)
 all_goals(cases h;rfl)
theorem QF:∀{r:Ty} {x:D r} {l:List CV},Fy r=true->Can r x l->l.all C7=true:=by
 intro r
 induction r with
 |nil=>intro x l _ h;unfold Can at h;subst h;rfl
 |one t _=>intro x l a h;unfold Can at h;obtain⟨c,rfl,h⟩:=h;simp[Hb a h]
 |cons t r _ ihr=>
  intro x l a h;simp only[Fy,Ag]at a;unfold Can at h;obtain⟨c,l',rfl,d,b⟩:=h;simp only[List.all_cons,Ag];exact⟨Hb a.1 d,ihr a.2 b⟩
 |_=>intro x l a;cases a
theorem JE{t:Ty}{n:Nat}{xs:List (D t)}{es:List CV}(e:t.val=true)(g:Bc (BV t)=some n)(f:Fy (BV t)=true)(h:CanAll (fun x c=>Can t x [c]) xs es):(es.all (fun v=>Bk v==n)&&es.all fun v=>v.cells.all C7)=true:=by
 rw[Ag,As,As];refine⟨fun c b=> ?_,fun c b=> ?_⟩
 ·obtain⟨i,hi⟩:=List.getElem?_of_mem b;obtain⟨a,_,d⟩:=h.getB hi;simp[(GJ e g d).2]
 ·obtain⟨i,hi⟩:=List.getElem?_of_mem b;obtain⟨a,_,d⟩:=h.getB hi;exact QF f (Hl e d)
theorem Qi{n:Nat}{i:Int}(e:(n:Int)=i)(h:i<=140737488355328):n<=140737488355328:=by omega
theorem Qj{n:Nat}{i:Int}(e:(n:Int)=i)(h:i<=4611686018427387904):n<=4611686018427387904:=by omega
section
variable {G:Nat->List CV} {Γ:TC} {msk:List Nat} {ρ:HS Γ} {st:St} {rd:Nat->Ob}
theorem Aep{d β:Type}{R:d->β->Prop}{xs:List d}{es:List β}(h:CanAll R xs es){n:Int}{a:d}(c:an xs n=some a):∃b,idxOf n es.length=some n.toNat/\es[n.toNat]? =some b/\R a b/\xs[n.toNat]? =some a:=by
 unfold an at c;split at c<;>(try cases c;done);rename_i e;obtain⟨b,g,f⟩:=h.get c;refine⟨b, ?_,g,f,c⟩;unfold idxOf;rw[h.length,Ao e]
theorem Qc{c:Type}{xs:List c}{n:Int}{a:c}(b:an xs n=some a):0<=n/\n<xs.length/\xs[n.toNat]? =some a:=by
 unfold an at b;split at b<;>(try cases b;done);rename_i d;exact⟨d.1,d.2,b⟩
theorem Qd{c:Type}{xs b:List c}{lo hi:Int}(h:Fv xs lo hi=some b):0<=lo/\lo<=hi/\hi<=xs.length/\b=(xs.take hi.toNat).drop lo.toNat:=by
 unfold Fv at h;split at h<;>(try cases h;done);rename_i a;cases h;exact⟨a.1,a.2.1,a.2.2,rfl⟩
theorem Pd:∀{ns:List Int} {es:List CV},CanAll (fun x c=>Can (.int .u8) x [c]) ns es->Fs es=some ns
 | [],es,h=>by unfold CanAll at h;subst h;rfl
 |n::ns,es,h=>by
  obtain⟨c,d,rfl,a,b⟩:=h;unfold Can at a;cases a;simp[Fs,Pd b]
theorem G6{x:SO}{q:Σ k:EK,ab (HS Γ) (DK k)}(h:(b5 G Γ x).map (DI Γ msk)=some q)(c:ae Γ ρ st)(b:∀id,msk.contains id=false->rd id=st.ob id){a:DK q.1}(g:q.2.val ρ=some a)(f:cG q.1=true):RS q.1 a (deref rd (so G st.fr x)):=by
 obtain⟨p,e,rfl⟩:=Aa.1 h;exact I8 c b (fun x d=>Bf e c d) g f
theorem Abt{k:EK}{z:DK k}{s:SV}(b:flatK k=true)(h:RS k z s):∀id i sz o,s≠ .eptr id i sz o:=by
 intro id i sz o a;subst a;cases k<;>(try cases b;done)
 case v t=>obtain⟨c,e,_⟩:=h;cases e
 case rp ex r=>obtain⟨_,_,e,_⟩:=h;cases e
 case ptr=>cases h
 case aptr=>obtain⟨e,_⟩:=h;cases e
theorem Afh{sz:Option Nat}{q c:Σ k:EK,ab (HS Γ) (DK k)}(h:EG Γ msk sz q=some c){y:DK c.1}(b:c.2.val ρ=some y):∃z,q.2.val ρ=some z:=by
 unfold EG at h
 repeat' split at h
 all_goals try(cases h;done)
 all_goals
  cases h;try dsimp only at b
  first
   |exact(ab.map_val b).imp fun _ a=>a.1
   |exact(ab.comp_val b).imp fun _ a=>a.1
   |exact(ab.comp_val b).elim fun _ a=>(ab.map_val a.1).imp fun _ d=>d.1
theorem Kq{sz:Option Nat}{q a:Σ k:EK,ab (HS Γ) (DK k)}(h:EG Γ msk sz q=some a):cG q.1=true:=by
 obtain⟨k,d⟩:=q
 cases k<;>first
  |rfl
  |(cases h;done)
  |(rename_i t;cases t<;>first|rfl|(cases h;done))
theorem Qp(f:ae Γ ρ st){G:Nat->List CV}{t:Ty}:∀{xs:List SO} {e:ab (HS Γ) (List (D t))} {a:List (D t)},IO Γ t xs=some e->e.val ρ=some a->∃l,A5 (fun x=>closed (so G st.fr x)) xs=some l/\CanAll (fun x c=>Can t x [c]) a l
 | [],e,a,h,hy=>by
  simp only[IO,Ac]at h;subst h;cases hy;exact⟨[],rfl,rfl⟩
 |x::xs,e,a,h,hy=>by
  simp only[IO]at h;split at h<;>(try cases h;done);rename_i q w i d;split at h<;>(try cases h;done);rename_i g j;cases h;obtain⟨p,v,u⟩:=ab.map_val hy;obtain⟨s,r⟩:=ab.both_val v;obtain⟨c,o,n⟩:=AP (G:=G) i f s;obtain⟨l,m,k⟩:=Qp f (G:=G) d r;subst u;refine⟨c::l, ?_,c,l,rfl,CA _ _ j n,k⟩;have e:A5 (fun x=>closed (so G st.fr x)) (x::xs)=(closed (so G st.fr x)).bind fun b=>(A5 (fun x=>closed (so G st.fr x)) xs).map fun bs=>b::bs:=rfl;rw[e,o,m];rfl
theorem YE(C:ae Γ ρ st)(O:∀id,msk.contains id=false->rd id=st.ob id){op:aa}{q:Σ k:EK,ab (HS Γ) (DK k)}{y:DK q.1}(h:R9 G Γ msk op=some q)(m:q.2.val ρ=some y):
  ∃sv,A2 rd (so G st.fr) op=some sv/\RS q.1 y sv:=by
 cases op<;>simp only[R9]at h<;>(try cases h;done)
 case mov x=>exact⟨_,rfl,Bf h C m⟩
 case pick c a b=>
  split at h<;>(try cases h;done);rename_i dc qa qb hc ha hb
  have av:∀{t:Ty} {f:D qa.1->D t} {g:D qb.1->D t},(∀{x:D qa.1} {cs:List CV},Can qa.1 x cs->Can t (f x) cs)->(∀{x:D qb.1} {cs:List CV},Can qb.1 x cs->Can t (g x) cs)->∀{z:D t},(KO dc (qa.2.map fun _ y=>f y) (qb.2.map fun _ y=>g y)).val ρ=some z->
    ∃sv,A2 rd (so G st.fr) (.pick c a b)=some sv/\RS (.v t) z sv:=by
   intro t f g hf hg z hz;obtain⟨b',F,A⟩:=Ag1 hz;obtain⟨Q,K,L⟩:=AP (G:=G) hc C F;unfold Can at L;cases L;cases b'
   ·simp only[Ah,if_false]at A;obtain⟨w,R,Y⟩:=ab.map_val A;obtain⟨c2,h7,h8⟩:=AP (G:=G) hb C R;exact⟨so G st.fr b,by simp[A2,K],c2,h7,Y▸hg h8⟩
   ·simp only[if_true]at A;obtain⟨w,R,Y⟩:=ab.map_val A;obtain⟨c2,h7,h8⟩:=AP (G:=G) ha C R;exact⟨so G st.fr a,by simp[A2,K],c2,h7,Y▸hf h8⟩
  have idm:∀{t:Ty} (d:ab (HS Γ) (D t)),d.map (fun _ y=>y)=d:=by
   intro t d
   cases d with
   |tot f=>rfl
   |par f=>
    simp only[ab.map,ab.par.injEq];funext a;cases f a<;>rfl
  split at h
  ·rename_i g hg;cases h;try dsimp only at m
   refine av (f:=fun y=>y) (fun hx=>hx) (fun hx=>CA _ _ hg hx) ?_;rw[idm];exact m
  ·split at h<;>(try cases h;done);rename_i g hg;cases h;try dsimp only at m
   refine av (g:=fun y=>y) (fun hx=>CA _ _ hg hx) (fun hx=>hx) ?_;rw[idm];exact m
 case bin op x y'=>
  split at h<;>(try cases h;done);rename_i p q' S hq;split at h<;>(try cases h;done);rename_i b hb;cases h;try dsimp only at m
  obtain⟨z,F,A⟩:=ab.comp_val m;obtain⟨K,L⟩:=ab.both_val F;obtain⟨Q,H,j⟩:=AP (G:=G) S C K;obtain⟨c2,M,I⟩:=AP (G:=G) hq C L;obtain⟨c,R,Y⟩:=Zw hb j I A;exact⟨.c c,by simp[A2,H,M,R],c,rfl,Y⟩
 case eqs neg ts x y'=>
  split at h<;>(try cases h;done);rename_i r d s e B he;split at h<;>(try cases h;done);rename_i f hf
  split at h<;>
  ·cases h;try dsimp only at m
   obtain⟨z,F,A⟩:=ab.map_val m;obtain⟨K,L⟩:=ab.both_val F;obtain⟨Q,H,j⟩:=AP (G:=G) B C K;obtain⟨c2,M,I⟩:=AP (G:=G) he C L;unfold Can at j I;obtain⟨l1,q1,j⟩:=j;obtain⟨l2,q2,I⟩:=I;cases q1;cases q2;have R:=Aba hf j I;exact⟨.c (.bool y),by rw[A];simp[A2,H,M,dg,R],_,rfl,by unfold Can;rfl⟩
 case beq neg x y'=>
  split at h<;>(try cases h;done);rename_i d e B he
  split at h<;>
  ·cases h;try dsimp only at m
   obtain⟨z,F,A⟩:=ab.map_val m;obtain⟨K,L⟩:=ab.both_val F;obtain⟨Q,H,j⟩:=AP (G:=G) B C K;obtain⟨c2,M,I⟩:=AP (G:=G) he C L;unfold Can at j I;cases j;cases I;exact⟨.c (.bool y),by rw[A];simp[A2,H,M],_,rfl,by unfold Can;rfl⟩
 case isnil kd neg x=>
  split at h<;>(try cases h;done)
  ·rename_i d B
   split at h<;>
   ·cases h;try dsimp only at m
    obtain⟨z,F,A⟩:=ab.map_val m;obtain⟨Q,H,j⟩:=AP (G:=G) B C F;unfold Can at j;cases j;refine⟨.c (.bool y), ?_,_,rfl,by unfold Can;rfl⟩;rw[A];cases z<;>simp[A2,H]
  ·rename_i d B;cases h;try dsimp only at m
   obtain⟨z,F,A⟩:=ab.map_val m;obtain⟨Q,H,j⟩:=AP (G:=G) B C F;unfold Can at j;cases j;refine⟨.c (.bool y), ?_,_,rfl,by unfold Can;rfl⟩;rw[A];cases neg<;>simp[A2,H]
  ·rename_i d B;cases h;try dsimp only at m
   obtain⟨z,F,A⟩:=ab.map_val m;obtain⟨Q,H,j⟩:=AP (G:=G) B C F;unfold Can at j;cases j;refine⟨.c (.bool y), ?_,_,rfl,by unfold Can;rfl⟩;rw[A];cases neg<;>simp[A2,H]
 case mentry x=>
  split at h<;>(try cases h;done);rename_i id d B;split at h<;>(try cases h;done);rename_i k v f hg;cases h;try dsimp only at m
  obtain⟨u,hu,rfl⟩:=ab.map_val m;obtain⟨ks,vs,ck,cv,e,hk,V⟩:=Fj hg C O;have U:so G st.fr x=.iter id:=Bf B C hu;refine⟨.c (.tup [ck,cv]),by simp only[A2,U,e],_,rfl, ?_⟩;unfold Can;refine⟨[ck,cv],rfl, ?_⟩;unfold Can;exact⟨ck,[cv],rfl,hk,by unfold Can;exact⟨cv,rfl,V⟩⟩
 case un op x=>
  split at h<;>(try cases h;done)
  all_goals
   rename_i d B;cases h;try dsimp only at m
   obtain⟨z,F,A⟩:=ab.map_val m;obtain⟨Q,H,j⟩:=AP (G:=G) B C F;unfold Can at j;cases j;subst A;exact⟨_,by simp only[A2,H];rfl,_,rfl,by unfold Can;rfl⟩
 case cvi k x=>
  split at h<;>(try cases h;done);rename_i k' d B;cases h;try dsimp only at m
  obtain⟨z,F,A⟩:=ab.map_val m;obtain⟨Q,H,j⟩:=AP (G:=G) B C F;unfold Can at j;cases j;subst A;exact⟨_,by simp only[A2,H];rfl,_,rfl,by unfold Can;rfl⟩
 case cvrune x=>
  split at h<;>(try cases h;done);rename_i k' d B;cases h;try dsimp only at m
  obtain⟨z,F,A⟩:=ab.map_val m;obtain⟨Q,H,j⟩:=AP (G:=G) B C F;unfold Can at j;cases j;subst A;exact⟨_,by simp only[A2,H];rfl,_,rfl,by unfold Can;rfl⟩
 case bytes e x=>
  split at h<;>(try cases h;done);rename_i d B;cases h;try dsimp only at m
  obtain⟨s,F,A⟩:=ab.comp_val m;obtain⟨Q,H,j⟩:=AP (G:=G) B C F;unfold Can at j;cases j;simp only[ab.val]at A;split at A<;>(try cases A;done);rename_i hl;cases A;refine⟨_,by simp only[A2,H];rw[Ao hl],_,rfl, ?_⟩;unfold Can;refine⟨_,_,rfl, ?_⟩;clear F H hl m
  induction s with
  |nil=>rfl
  |cons b s ih=>exact⟨_,_,rfl,by unfold Can;rfl,ih⟩
 case cvbs x=>
  split at h<;>(try cases h;done)
  ·rename_i d B;cases h;try dsimp only at m
   obtain⟨ns,F,A⟩:=ab.map_val m;obtain⟨c,H,j⟩:=Bf B C F;unfold Can at j;obtain⟨nl,es,M,j⟩:=j;cases M;exact⟨.c (.str y),by simp only[A2,H,Pd j,Aq,A],_,rfl,by unfold Can;rfl⟩
  ·rename_i d B;cases h;try dsimp only at m
   obtain⟨ns,F,A⟩:=ab.map_val m;obtain⟨c,H,j⟩:=Bf B C F;unfold Can at j;cases j;exact⟨.c (.str y),by rw[A];simp[A2,H,Fs],_,rfl,by unfold Can;rfl⟩
  ·rename_i id d B;split at h<;>(try cases h;done);rename_i e' sz xs hg;cases h;try dsimp only at m
   obtain⟨u,F,A⟩:=ab.map_val m;obtain⟨es,e,hes⟩:=Fj hg C O;have U:so G st.fr x=.osl id:=Bf B C F;exact⟨.c (.str y),by simp only[A2,U,e,Pd hes,Aq,A],_,rfl,by unfold Can;rfl⟩
 case cvid x=>
  split at h<;>(try cases h;done);rename_i d B;cases h;try dsimp only at m
  obtain⟨Q,H,j⟩:=AP (G:=G) B C m;have Z:=j;unfold Can at Z;cases Z;exact⟨_,by simp only[A2,H],_,rfl,j⟩
 case nchk x=>
  split at h<;>(try cases h;done)
  ·rename_i N d B;split at h<;>(try cases h;done);rename_i hN;cases h;try dsimp only at m
   obtain⟨c,H,j⟩:=Bf (G:=G) B C m;have Z:=j;unfold Can at Z;cases Z;exact⟨_,by simp only[A2,H,Ao (Nat.eq_of_beq_eq_true hN)],_,rfl,j⟩
  ·rename_i r d B;cases h;try dsimp only at m
   obtain⟨c,H,j⟩:=Bf (G:=G) B C m;have Z:=j;unfold Can at Z;obtain⟨cs,M,_⟩:=Z;cases M;exact⟨_,by simp only[A2,H],_,rfl,j⟩
  ·rename_i ex r d B;cases h;try dsimp only at m
   obtain⟨cs,rest,H,j,I⟩:=Bf (G:=G) B C m;exact⟨_,by simp only[A2,H],cs,rest,rfl,j,I⟩
  ·rename_i id o d B;cases h;try dsimp only at m
   have U:so G st.fr x=.ptr id o:=Bf B C m;exact⟨_,by simp only[A2,U],rfl⟩
  ·rename_i id s o d B;cases h;try dsimp only at m
   have U:so G st.fr x=.eptr id y s o:=Bf B C m;exact⟨_,by simp only[A2,U],rfl⟩
 case lsl e size parts=>
  split at h<;>(try cases h;done);rename_i x xs;split at h<;>(try cases h;done);rename_i t d B;split at h<;>(try cases h;done);rename_i l hl;split at h<;>(try cases h;done);rename_i V;cases h;try dsimp only at m
  obtain⟨cs,F,A⟩:=Qp C (G:=G) hl m
  have W:(cs.all fun v=>Bk v==size)=true:=by
   rw[As];intro c hc;obtain⟨i,hi⟩:=List.getElem?_of_mem hc;obtain⟨a,_,h7⟩:=A.getB hi;simp[(GJ V.1 V.2 h7).2]
  refine⟨.c (.sl none cs), ?_,_,rfl,by unfold Can;exact⟨none,cs,rfl,A⟩⟩;simp only[A2,F,Ap];rw[Ao W]
 case build z parts=>
  split at h<;>(try cases h;done);rename_i p S;split at h<;>(try cases h;done);rename_i r hr';cases h;try dsimp only at m
  obtain⟨_,l,cs',F,A,K⟩:=Agu (G:=G) C hr' m (cs:=z) (fun y hy'=>by cases hy';exact I2 S);refine⟨.c (.agg cs'), ?_,_,rfl,by unfold Can;exact⟨_,rfl,K⟩⟩;simp only[A2];rw[F];simp[A]
 case field off sz x=>
  split at h<;>(try cases h;done);rename_i r d B;split at h
  ·split at h<;>(try cases h;done);rename_i p S;cases h;try dsimp only at m
   obtain⟨z,F,A⟩:=ab.map_val m;obtain⟨Q,H,j⟩:=AP (G:=G) B C F;unfold Can at j;obtain⟨l,M,j⟩:=j;cases M;obtain⟨c,K,L⟩:=IX S j;exact⟨.c c,by simp[A2,H,CR,K],c,rfl,A▸L⟩
  ·rename_i n;split at h<;>(try cases h;done);rename_i p S;split at h<;>(try cases h;done);rename_i hn;cases h;try dsimp only at m
   obtain⟨z,F,A⟩:=ab.map_val m;obtain⟨Q,H,j⟩:=AP (G:=G) B C F;unfold Can at j;obtain⟨l,M,j⟩:=j;cases M;obtain⟨K,L⟩:=Y3 S j;have hle:off+n<=l.length:=by omega
   exact⟨.c (.agg ((l.drop off).take n)),by simp[A2,H,CR,hle],_,rfl,by unfold Can;exact⟨_,rfl,A▸K⟩⟩
 case ext x i=>
  split at h<;>(try cases h;done)
  ·rename_i r d B;split at h<;>(try cases h;done);rename_i p S;cases h;try dsimp only at m
   obtain⟨z,F,A⟩:=ab.map_val m;obtain⟨Q,H,j⟩:=Bf B C F;unfold Can at j;obtain⟨l,M,j⟩:=j;cases M;obtain⟨c,K,L⟩:=IX S j;exact⟨.c c,by simp[A2,H,K],c,rfl,A▸L⟩
  ·rename_i id k v d B;split at h<;>(try cases h;done)
   ·cases h;try dsimp only at m
    obtain⟨z,F,A⟩:=ab.map_val m;obtain⟨ck,cv,H,j,I⟩:=Bf B C F;exact⟨.c cv,by simp[A2,H],cv,rfl,A▸I⟩
   ·cases h;try dsimp only at m
    obtain⟨z,F,A⟩:=ab.map_val m;obtain⟨ck,cv,H,j,I⟩:=Bf B C F;exact⟨.stamp id ck,by simp[A2,H],ck,rfl,A▸j⟩
 case minmax mx xs=>
  split at h<;>(try cases h;done);rename_i x xs;split at h<;>(try cases h;done);rename_i k d B;split at h<;>(try cases h;done);rename_i e he;cases h;try dsimp only at m
  obtain⟨a,l,F,A,K⟩:=Afv (G:=G) C he m;obtain⟨Q,H,j⟩:=AP (G:=G) B C F;unfold Can at j;cases j;refine⟨_, ?_,_,rfl,by unfold Can;rfl⟩;have e:A5 (fun x=>closed (so G st.fr x)) (x::xs)=(closed (so G st.fr x)).bind fun b=>(A5 (fun x=>closed (so G st.fr x)) xs).map fun bs=>b::bs:=rfl;simp only[A2];rw[e,H,A];simp only[closed,Ap,Aq,K]
 case fnv f caps=>
  split at h<;>(try cases h;done);rename_i p S;cases h;try dsimp only at m
  obtain⟨l,F,A⟩:=JD (G:=G) C S m;refine⟨.c (.fn f l), ?_,_,rfl,by unfold Can;exact⟨l,rfl,A⟩⟩;simp only[A2];rw[F];rfl
 case faddr off x=>
  split at h<;>(try cases h;done)
  ·rename_i ex r d B;split at h<;>(try cases h;done);rename_i p S;cases h;try dsimp only at m
   obtain⟨z,F,A⟩:=ab.map_val m;obtain⟨cs,rest,H,j,I⟩:=G6 B C O F rfl;obtain⟨g3,g4⟩:=Mx S j;have hle:off<=cs.length:=by omega
   refine⟨_,by simp only[A2,H];rw[Ao (by simp;omega)],cs.drop off,rest, ?_,A▸g3,I⟩;rw[List.drop_append_of_le_length hle]
  ·rename_i r d B;split at h<;>(try cases h;done);rename_i p S;cases h;try dsimp only at m
   obtain⟨z,F,A⟩:=ab.map_val m;obtain⟨c0,H,hc0⟩:=G6 B C O F rfl;unfold Can at hc0;obtain⟨cs,e,j⟩:=hc0;cases e;obtain⟨g3,g4⟩:=Mx S j;have hle:off<=cs.length:=by omega
   refine⟨_,by simp only[A2,H];rw[Ao hle],cs.drop off,[],by rw[List.append_nil],A▸g3,fun _=>rfl⟩
  ·rename_i id o d B;cases h;try dsimp only at m
   have U:deref rd (so G st.fr x)=.ptr id o:=G6 B C O m rfl;exact⟨.ptr id (o+off),by simp[A2,U],rfl⟩
  ·rename_i id s o d B;cases h;try dsimp only at m
   have U:deref rd (so G st.fr x)=.eptr id y s o:=G6 B C O m rfl;exact⟨.eptr id y s (o+off),by simp[A2,U],rfl⟩
  ·rename_i id n o d B;split at h<;>(try cases h;done);rename_i h0;cases h;try dsimp only at m
   have U:=G6 B C O m rfl;obtain⟨hs1,hs2⟩:=U;exact⟨.ptr id (o+y),by simp[A2,hs1,h0],rfl,hs2⟩
 case iaddr size x i=>
  split at h<;>(try cases h;done)
  ·rename_i e d k di B P;split at h<;>(try cases h;done);rename_i V;cases h;try dsimp only at m
   obtain⟨z,F,A⟩:=ab.comp_val m;obtain⟨K,L⟩:=ab.both_val F;obtain⟨a,R,Y⟩:=Aa.1 A;obtain⟨Q,H,j⟩:=Bf B C K;obtain⟨c2,M,I⟩:=AP (G:=G) P C L;unfold Can at j I;cases I;obtain⟨nl,es,e3,j⟩:=j;cases e3;obtain⟨c,i1,i2,i3,_⟩:=Aep j R;obtain⟨n1,n2⟩:=GJ V.1 V.2 i3;refine⟨.c (.rp c.cells), ?_,c.cells,[],by simp,Y▸Hl V.1 i3,fun _=>rfl⟩;simp[A2,Eu,H,M,i1,i2,n2]
  ·rename_i id f k di B P;split at h<;>(try cases h;done);rename_i e' sz t xs hg;split at h<;>(try cases h;done);rename_i hsz;cases h;try dsimp only at m
   obtain⟨z,F,A⟩:=ab.comp_val m;obtain⟨n,K,L⟩:=ab.map_val F;obtain⟨u,n⟩:=n;obtain⟨R,Y⟩:=ab.both_val K;have T:z=some y:=A;subst T;obtain⟨c2,M,I⟩:=AP (G:=G) P C Y;unfold Can at I;cases I;obtain⟨es,e,hes⟩:=Fj hg C O;have U:so G st.fr x=.osl id:=Bf B C R;split at L<;>(try cases L;done);rename_i hn;cases L;refine⟨.eptr id n.toNat size 0, ?_,rfl⟩
   have hi:idxOf n es.length=some n.toNat:=by
    unfold idxOf;rw[hes.length,Ao hn]
   simp[A2,Eu,U,M,e,hsz,hi]
 case aaddr len size x i=>
  split at h<;>(try cases h;done)
  case h_2=>
   rename_i id o d k di B P;split at h<;>(try cases h;done);rename_i hsz;subst hsz;cases h;try dsimp only at m
   obtain⟨z,F,A⟩:=ab.comp_val m;obtain⟨K,L⟩:=ab.both_val F;obtain⟨c2,M,I⟩:=AP (G:=G) P C L;unfold Can at I;cases I;have U:so G st.fr x=.ptr id o:=Bf B C K;have T:(if 0<=(z.2:Int)/\(z.2:Int)<(len:Int)then some (z.2:Int).toNat else none)=some y:=A;split at T<;>(try cases T;done);rename_i hn;cases T;refine⟨.ptr id (o+(z.2:Int).toNat), ?_,rfl,(Int.toNat_lt hn.1).2 hn.2⟩
   have hi:idxOf z.2 len=some z.2.toNat:=by
    unfold idxOf;rw[Ao hn]
   simp[A2,EA,U,M,hi]
  rename_i r d k di B P;split at h<;>(try cases h;done);rename_i p S;split at h<;>(try cases h;done);rename_i f hf;split at h<;>(try cases h;done);rename_i J;cases h;try dsimp only at m
  obtain⟨z,F,A⟩:=ab.comp_val m;obtain⟨K,L⟩:=ab.both_val F;obtain⟨cs,rest,H,j,g3⟩:=Bf B C K;have hrest:=g3 rfl;subst hrest;obtain⟨c2,M,I⟩:=AP (G:=G) P C L;unfold Can at I;cases I;obtain⟨j1,j2,j3⟩:=Qc A;obtain⟨a1,a2⟩:=OY hf j;obtain⟨a3,a4⟩:=a2 j3;have hl:=Fe J j;refine⟨.c (.rp ((cs++ []).drop (z.2.toNat*size))), ?_,(cs.drop (z.2.toNat*size)).take size,(cs.drop (z.2.toNat*size)).drop size, ?_,a3,fun hh=>by cases hh⟩
  ·have hi:idxOf z.2 len=some z.2.toNat:=by
    unfold idxOf;rw[Ao ⟨j1,by rw[a1]at j2;exact j2⟩]
   simp[A2,EA,H,M,hl,hi]
  ·rw[List.append_nil,List.take_append_drop]
 case sidx x i=>
  split at h<;>(try cases h;done);rename_i d k di B P;cases h;try dsimp only at m
  obtain⟨z,F,A⟩:=ab.comp_val m;obtain⟨K,L⟩:=ab.both_val F;obtain⟨Q,H,j⟩:=AP (G:=G) B C K;obtain⟨c2,M,I⟩:=AP (G:=G) P C L;unfold Can at j I;cases j;cases I;have T:bX z.1 z.2=some y:=A;unfold bX at T;split at T<;>(try cases T;done);rename_i hn;obtain⟨b,R,Y⟩:=Aa.1 T;refine⟨.c (.int .u8 y), ?_,_,rfl,by unfold Can;rfl⟩
  have hi:idxOf z.2 z.1.length=some z.2.toNat:=by
   unfold idxOf;rw[Ao hn]
  simp[A2,H,M,hi,R,Y]
 case aidx len size sz x i=>
  split at h<;>(try cases h;done);rename_i r d k di B P;split at h
  ·split at h<;>(try cases h;done);rename_i p S;split at h<;>(try cases h;done);rename_i p1 hp1;split at h<;>(try cases h;done);rename_i f hf;split at h<;>(try cases h;done);rename_i J;subst J;cases h;try dsimp only at m
   obtain⟨z,F,A⟩:=ab.comp_val m;obtain⟨K,L⟩:=ab.both_val F;obtain⟨a,R,Y⟩:=Aa.1 A;obtain⟨Q,H,j⟩:=AP (G:=G) B C K;obtain⟨c2,M,I⟩:=AP (G:=G) P C L;unfold Can at j I;cases I;obtain⟨l,e3,j⟩:=j;cases e3;obtain⟨j1,j2,j3⟩:=Qc R;obtain⟨a1,a2⟩:=OY hf j;obtain⟨a3,a4⟩:=a2 j3;obtain⟨c,b1,b2⟩:=IX hp1 a3;refine⟨.c c, ?_,c,rfl,Y▸b2⟩
   have hi:idxOf z.2 len=some z.2.toNat:=by
    unfold idxOf;rw[Ao ⟨j1,by rw[a1]at j2;exact j2⟩]
   simp only[Nat.mul_one]at b1 a4
   have hc:l[z.2.toNat]? =some c:=by
    rw[List.getElem?_take_of_lt (by omega),List.getElem?_drop]at b1;simpa using b1
   simp[A2,H,M,hi,CR,hc]
  ·rename_i n;split at h<;>(try cases h;done);rename_i p S;split at h<;>(try cases h;done);rename_i f hf;split at h<;>(try cases h;done);rename_i J;obtain⟨J,hpos⟩:=J;subst J;cases h;try dsimp only at m
   obtain⟨z,F,A⟩:=ab.comp_val m;obtain⟨K,L⟩:=ab.both_val F;obtain⟨Q,H,j⟩:=AP (G:=G) B C K;obtain⟨c2,M,I⟩:=AP (G:=G) P C L;unfold Can at j I;cases I;obtain⟨l,e3,j⟩:=j;cases e3;obtain⟨j1,j2,j3⟩:=Qc A;obtain⟨a1,a2⟩:=OY hf j;obtain⟨a3,a4⟩:=a2 j3;refine⟨.c (.agg ((l.drop (z.2.toNat*n)).take n)), ?_,_,rfl,by unfold Can;exact⟨_,rfl,a3⟩⟩
   have hi:idxOf z.2 len=some z.2.toNat:=by
    unfold idxOf;rw[Ao ⟨j1,by rw[a1]at j2;exact j2⟩]
   simp[A2,H,M,hi,CR,a4]
 case load sz x=>
  split at h<;>(try cases h;done);rename_i p S;exact Kr C O h m fun x hx=>I8 C O (fun x hx=>Bf S C hx) hx (Kq h)
 case loadb sz x=>
  split at h<;>(try cases h;done);rename_i p S;split at h<;>(try cases h;done);rename_i hfl;have key:∀z,(DI Γ msk p).2.val ρ=some z->RS (DI Γ msk p).1 z (deref rd (so G st.fr x)):=fun z hz=>I8 C O (fun x hx=>Bf S C hx) hz (Kq h);obtain⟨sv,F,A⟩:=Kr C O h m key;obtain⟨z,hz⟩:=Afh h m;have hne:∀id i s o,deref rd (so G st.fr x)≠ .eptr id i s o:=Abt hfl (key z hz);refine⟨sv, ?_,A⟩;simp only[A2];clear key hz;generalize deref rd (so G st.fr x)=w at F hne⊢;cases w<;>first|exact F|exact absurd rfl (hne _ _ _ _)
 case len kd x=>
  split at h<;>(try cases h;done);rename_i d B;cases h;try dsimp only at m
  exact⟨_,by simp only[A2];rw[Ae6 C O B m];rfl,_,rfl,by unfold Can;rfl⟩
 case sslice x lo hi=>
  split at h<;>(try cases h;done);rename_i d B;split at h<;>(try cases h;done);rename_i e he;cases h;try dsimp only at m
  obtain⟨p,F,A⟩:=ab.comp_val m;obtain⟨K,L,R⟩:=Ud (G:=G) C he F;obtain⟨Q,H,j⟩:=AP (G:=G) B C K;unfold Can at j;cases j;obtain⟨l1,l2,l3,l4⟩:=Qd A;refine⟨.c (.str y), ?_,_,rfl,by unfold Can;rfl⟩;simp only[A2,H];rw[L _ rfl (by omega),Ap,R l1,Ap,Ao (by omega),l4]
 case slice size x lo hi=>
  split at h<;>(try cases h;done);rename_i e d B;split at h<;>(try cases h;done);rename_i V;split at h<;>(try cases h;done);rename_i g hg;cases h;try dsimp only at m
  obtain⟨p,F,A⟩:=ab.comp_val m;obtain⟨K,L,R⟩:=Ud (G:=G) C hg F;obtain⟨Q,H,j⟩:=AP (G:=G) B C K;unfold Can at j;obtain⟨nl,es,e3,j⟩:=j;cases e3;obtain⟨l1,l2,l3,l4⟩:=Qd A;have J:=j.length;refine⟨.c (.sl nl ((es.take p.2.2.toNat).drop p.2.1.toNat)), ?_,_,rfl,by unfold Can;exact⟨_,_,rfl,by rw[l4];exact(j.take _).drop _⟩⟩;simp only[A2,H]
  have W:(es.all fun e=>Bk e==size)=true:=by
   rw[As];intro c hc;obtain⟨i,hi⟩:=List.getElem?_of_mem hc;obtain⟨a,_,h7⟩:=j.getB hi;simp[(GJ V.1 V.2 h7).2]
  rw[L _ (by rw[J]) (by omega),Ap,R l1,Ap,Ao ⟨by omega,W⟩]
 case slice3 size x lo hi mx=>
  split at h<;>(try cases h;done)
  ·rename_i d kh dh km dm B hdh hdm;cases h;try dsimp only at m
   obtain⟨p,F,A⟩:=ab.comp_val m;obtain⟨K,L⟩:=ab.both_val F;obtain⟨R,Y⟩:=ab.both_val L;simp only[ab.val]at A;split at A<;>(try cases A;done);rename_i hz;cases A;obtain⟨Q,H,j⟩:=AP (G:=G) B C K;obtain⟨c2,M,I⟩:=AP (G:=G) hdh C R;obtain⟨c3,e3,g3⟩:=AP (G:=G) hdm C Y;unfold Can at j I g3;cases j;cases I;cases g3;refine⟨.c (.sl (some true) []), ?_,_,rfl,by unfold Can;rfl⟩;simp[A2,H,M,e3,C4,hz.1,hz.2]
  ·rename_i e d kh dh km dm B hdh hdm;split at h<;>(try cases h;done);rename_i V;cases h;try dsimp only at m
   obtain⟨p,F,A⟩:=ab.comp_val m;obtain⟨K,L⟩:=ab.both_val F;obtain⟨R,Y⟩:=ab.both_val L;simp only[ab.val]at A;split at A<;>(try cases A;done);rename_i hz;obtain⟨Q,H,j⟩:=AP (G:=G) B C K;obtain⟨c2,M,I⟩:=AP (G:=G) hdh C R;obtain⟨c3,e3,g3⟩:=AP (G:=G) hdm C Y;unfold Can at j I g3;obtain⟨nl,es,q1,j⟩:=j;cases q1;cases I;cases g3;obtain⟨l1,l2,l3,l4⟩:=Qd A;have J:=j.length;refine⟨.c (.sl nl ((es.take p.2.1.toNat).drop (0:Int).toNat)), ?_,_,rfl,by unfold Can;exact⟨_,_,rfl,by rw[l4];exact(j.take _).drop _⟩⟩
   have W:(es.all fun e=>Bk e==size)=true:=by
    rw[As];intro c hc;obtain⟨i,hi⟩:=List.getElem?_of_mem hc;obtain⟨a,_,h7⟩:=j.getB hi;simp[(GJ V.1 V.2 h7).2]
   simp only[A2,H,M,e3,C4,<-hz,Ao l2,Option.map_none,Ap];rw[Ao ⟨⟨by omega,by omega,by simp⟩,W⟩];rfl
 case capp e0 size bytes x y'=>
  split at h<;>(try cases h;done);rename_i dx e dy B he;split at h<;>(try cases h;done);rename_i V;cases h;try dsimp only at m
  obtain⟨p,F,A⟩:=ab.comp_val m;obtain⟨K,L⟩:=ab.both_val F;simp only[ab.val]at A;split at A<;>(try cases A;done);rename_i hb;cases A;obtain⟨Q,H,j⟩:=AP (G:=G) B C K;obtain⟨c2,M,I⟩:=AP (G:=G) he C L;unfold Can at j I;cases j;obtain⟨nl,es,q1,I⟩:=I;cases q1;have J:=I.length;refine⟨.c (.sl none es), ?_,_,rfl,by unfold Can;exact⟨_,_,rfl,I⟩⟩;simp only[A2,H,M];rw[Ao ⟨JE V.1 V.2.1 V.2.2 I,by rw[J];exact Qi (by rw[Int.natCast_mul]) hb.1,by rw[J];exact Qj rfl hb.2⟩]
 case lookup mt kt z ok x k=>
  obtain⟨c,F,A⟩:=Afk C O h m;exact⟨.c c,by simp only[A2,F,Aq],A⟩
 case asl n x=>
  split at h<;>(try cases h;done);rename_i r d B;split at h<;>(try cases h;done);rename_i f hf;split at h<;>(try cases h;done);rename_i J;cases h;try dsimp only at m
  obtain⟨z,K,rfl⟩:=ab.map_val m;obtain⟨cs,rest,H,j,g3⟩:=Bf B C K;have hrest:=g3 rfl;subst hrest;rw[List.append_nil]at H;have hl:=Fe J j;have U:=Y0 hf j;subst U;refine⟨.c (.sl (some false) ((f z).map CV.str)), ?_,_,rfl,by unfold Can;exact⟨_,_,rfl,Y2 _⟩⟩;simp only[A2,H,Y1,hl,and_self,if_true]
end
def EK.refs:EK->Option Nat
 | .ptr id _| .eptr id _ _| .aptr id _ _| .own id| .mp id| .iter id| .ent id _ _| .stamp id _=>some id
 | .opt k=>k.refs
 |_=>none
def Cq:TC->aw->Option EK
 | [],_=>none
 |e::Γ,p=>if e.1=p then some e.2 else Cq Γ p
theorem B0:∀{Γ:TC} {p:aw} {q:Σ k:EK,HS Γ->DK k},get Γ p=some q->Cq Γ p=some q.1
 | [],p,q,h=>by cases h
 |e::Γ,p,q,h=>by
  unfold get at h;unfold Cq;split at h
  ·rename_i a;cases h;rw[Ao a]
  ·rename_i a;rw[An a];split at h<;>(try cases h;done);rename_i t b;cases h;exact B0 b
theorem IG:∀{Γ:TC} {p:aw} {k:EK},Cq Γ p=some k->∃f,get Γ p=some ⟨k,f⟩
 | [],p,k,h=>by cases h
 |e::Γ,p,k,h=>by
  unfold Cq at h;unfold get;split at h
  ·rename_i a;cases h;rw[Ao a];exact⟨_,rfl⟩
  ·rename_i a;rw[An a];obtain⟨f,b⟩:=IG h;rw[b];exact⟨_,rfl⟩
def HG(Γ:TC)(ids:List Nat):List aw:=(Γ.map (·.1)).filter fun p=>match Cq Γ p with
 |some k=>match k.refs with
  |some id=>ids.contains id
  |none=>false
 |none=>false
def ch:List aw->TC->TC
 | [],Γ=>Γ
 |k::ks,Γ=>(k,.undef)::ch ks Γ
def bS{Γ:TC}:(ks:List aw)->HS Γ->HS (ch ks Γ)
 | [],ρ=>ρ
 |_::ks,ρ=>((),bS ks ρ)
def cj:List Nat->TC->TC
 | [],Γ=>Γ
 |d::ds,Γ=>(.o d,.gone)::cj ds Γ
def cw{Γ:TC}:(a:List Nat)->HS Γ->HS (cj a Γ)
 | [],ρ=>ρ
 |_::a,ρ=>((),cw a ρ)
def Bv(ids:List Nat)(Γ:TC):TC:=cj ids (ch (HG Γ ids) Γ)
def BP(ids:List Nat){Γ:TC}(ρ:HS Γ):HS (Bv ids Γ):=cw ids (bS (HG Γ ids) ρ)
section
variable {Γ:TC} {ρ:HS Γ} {st:St}
theorem IH(ρ:HS Γ):∀{ks:List aw} {p:aw} {q:Σ k:EK,HS (ch ks Γ)->DK k},get (ch ks Γ) p=some q->(p∈ks/\q.1=.undef)\/(p∉ks/\∃f,get Γ p=some ⟨q.1,f⟩/\q.2 (bS ks ρ)=f ρ)
 | [],p,q,h=>.inr ⟨by simp,q.2,h,rfl⟩
 |k::ks,p,q,h=>by
  by_cases a:k=p
  ·subst a;change get ((k,.undef)::ch ks Γ) k=some q at h;rw[Dh]at h;cases h;exact .inl ⟨by simp,rfl⟩
  ·obtain⟨f,e,d⟩:=CB a h;rcases IH ρ e with⟨c,b⟩|⟨c,g,b,i⟩
   ·exact .inl ⟨by simp[c],b⟩
   ·refine .inr ⟨by simp[c,Ne.symm a],g,b, ?_⟩;exact(d _).trans i
theorem IF(ρ:HS Γ):∀{b:List Nat} {p:aw} {q:Σ k:EK,HS (cj b Γ)->DK k},get (cj b Γ) p=some q->(∃d∈b,p=.o d/\q.1=.gone)\/((∀d∈b,p≠ .o d)/\∃f,get Γ p=some ⟨q.1,f⟩/\q.2 (cw b ρ)=f ρ)
 | [],p,q,h=>.inr ⟨by simp,q.2,h,rfl⟩
 |d::b,p,q,h=>by
  by_cases c:aw.o d=p
  ·subst c;change get ((.o d,.gone)::cj b Γ) (.o d)=some q at h;rw[Dh]at h;cases h;exact .inl ⟨d,by simp,rfl,rfl⟩
  ·obtain⟨f,l,j⟩:=CB c h;rcases IF ρ l with⟨d',n,i,e⟩|⟨i,g,e,m⟩
   ·exact .inl ⟨d',by simp[n],i,e⟩
   ·refine .inr ⟨fun d' a=> ?_,g,e, ?_⟩
    ·simp only[List.mem_cons]at a;rcases a with rfl|a
     ·exact Ne.symm c
     ·exact i d' a
    ·exact(j _).trans m
theorem FO:∀{Γ:TC} {p:aw} {k:EK},Cq Γ p=some k->p∈Γ.map (·.1)
 | [],p,k,h=>by cases h
 |e::Γ,p,k,h=>by
  unfold Cq at h;split at h
  ·rename_i a;simp[<-a]
  ·simp only[List.map_cons,List.mem_cons];exact .inr (FO h)
theorem RS.kill{ids:List Nat}{k:EK}{x:DK k}{sv:SV}(h:RS k x sv)(a:∀id,k.refs=some id->ids.contains id=false):RS k x (AD ids sv):=by
 induction k
 case v t=>obtain⟨c,rfl,b⟩:=h;exact⟨c,rfl,b⟩
 case opt k ih=>
  unfold RS at h⊢
  cases x with
  |none=>simp only at h;subst h;rfl
  |some y=>exact ih h a
 case rp ex r=>obtain⟨cs,rest,rfl,b⟩:=h;exact⟨cs,rest,rfl,b⟩
 case undef=>trivial
 case ptr id o=>have:=a id rfl;unfold RS at h;subst h;simp[RS,AD];simpa using this
 case eptr id s o=>have:=a id rfl;unfold RS at h;subst h;simp[RS,AD];simpa using this
 case aptr id n o=>have:=a id rfl;obtain⟨h,hi⟩:=h;subst h;refine⟨?_,hi⟩;simp[AD];simpa using this
 case own id=>have:=a id rfl;unfold RS at h;subst h;simp[RS,AD];simpa using this
 case mp id=>have:=a id rfl;unfold RS at h;subst h;simp[RS,AD];simpa using this
 case iter id=>have:=a id rfl;unfold RS at h;subst h;simp[RS,AD];simpa using this
 case ent id k v=>
  have:=a id rfl;obtain⟨e,g,rfl,d,f⟩:=h;refine⟨e,g, ?_,d,f⟩;simp only[AD,this,Ah,if_false]
 case stamp id k=>
  have:=a id rfl;obtain⟨e,rfl,d⟩:=h;refine⟨e, ?_,d⟩;simp only[AD,this,Ah,if_false]
 all_goals exact h
theorem Afg(ids:List Nat){p:aw}{k:EK}{f:HS Γ->DK k}(c:get Γ p=some ⟨k,f⟩)(b:p∉HG Γ ids):∀id,k.refs=some id->ids.contains id=false:=by
 intro id af;have a:=B0 c
 cases d:ids.contains id with
 |false=>rfl
 |true=>
  exfalso;apply b;unfold HG;rw[List.mem_filter];refine⟨FO a, ?_⟩;simp only at a;simp only[a,af,d]
theorem ae.kill(h:ae Γ ρ st)(ids:List Nat):ae (Bv ids Γ) (BP ids ρ) (WB.kill ids st):=by
 have AZ:∀p q,(∀d,p≠ .o d)->get (Bv ids Γ) p=some q->q.1=.undef\/∃f,get Γ p=some ⟨q.1,f⟩/\q.2 (BP ids ρ)=f ρ/\∀id,q.1.refs=some id->ids.contains id=false:=by
  intro p q C l;rcases IF (bS (HG Γ ids) ρ) l with⟨d,_,r,_⟩|⟨_,f,m,t⟩
  ·exact absurd r (C d)
  ·rcases IH ρ m with⟨_,n⟩|⟨n,g,u,y⟩
   ·exact .inl n
   ·refine .inr ⟨g,u, ?_,Afg ids u n⟩;rw[<-y];exact t
 have key:∀q:Σ k:EK,HS (Bv ids Γ)->DK k,q.1=.undef->∀sv,RS q.1 (q.2 (BP ids ρ)) sv:=by
  intro q l sv;obtain⟨k,f⟩:=q;simp only at l;subst l
  trivial
 refine⟨fun i q l=> ?_,fun id q l=> ?_⟩
 ·rcases AZ _ q (by simp) l with r|⟨f,r,m,t⟩
  ·exact key q r _
  ·rw[m];exact RS.kill (h.s i _ r) t
 ·rcases IF (bS (HG Γ ids) ρ) l with⟨d,F,r,m⟩|⟨w,f,m,t⟩
  ·cases r;obtain⟨k,f⟩:=q;simp only at m;subst m;have:ids.contains id=true:=by simpa using F
   show(WB.kill ids st).ob id=.none;simp only[WB.kill,this,if_true]
  ·have x:ids.contains id=false:=by
    cases H:ids.contains id with
    |false=>rfl
    |true=>exact absurd rfl (w id (by simpa using H))
   rcases IH ρ m with⟨_,n⟩|⟨n,g,u,y⟩
   ·obtain⟨k,L⟩:=q;simp only at n;subst n
    trivial
   ·have a:=h.o id _ u;have e:q.2 (BP ids ρ)=g ρ:=by rw[<-y];exact t
    rw[e];have M:(WB.kill ids st).ob id=Cp ids (st.ob id):=by simp only[WB.kill,x,Ah,if_false]
    rw[M];obtain⟨k,L⟩:=q;simp only at a⊢;cases k<;>try exact a
    ·obtain⟨cs,c,b,I⟩:=a;rw[c];refine⟨cs.map (AD ids),rfl,by simp[b],fun j B D v=> ?_⟩;rcases AZ _ B (by simp) v with g1|⟨f2,g1,g2,g3⟩
     ·exact⟨AD ids (cs[j]'(by omega)),by simp[Aj (show j<cs.length by omega)],key B g1 _⟩
     ·obtain⟨sv,K,J⟩:=I j _ D g1;exact⟨AD ids sv,by simp[K],g2▸RS.kill J g3⟩
    all_goals first
     |(obtain⟨es,c,b⟩:=a;rw[c];exact⟨es,rfl,b⟩)
     |(obtain⟨z,ks,vs,c,b⟩:=a;rw[c];exact⟨z,ks,vs,rfl,b⟩)
     |(obtain⟨ks,vs,O,N,c,b⟩:=a;rw[c];exact⟨ks,vs,O,N,rfl,b⟩)
     |(obtain⟨ks,vs,A,c,b⟩:=a;rw[c];exact⟨ks,vs,A,rfl,b⟩)
     |(unfold RO at a;rw[a];rfl)
def D3(id:Nat)(Γ:TC)(ρ:HS Γ)(Γc:TC)(ρc:HS Γc):Prop:=∀p q,get Γc p=some q->(∃j,p=.c id j)\/∃f,get Γ p=some ⟨q.1,f⟩/\q.2 ρc=f ρ
theorem D3.refl(id:Nat):D3 id Γ ρ Γ ρ:=fun p q h=>.inr ⟨q.2,h,rfl⟩
theorem ae.newObj{Γc:TC}{ρc:HS Γc}{d:Nat}{k ko:EK}{x:DK k}{y:DK ko}{v:SV}{o:Ob}(h:ae Γ ρ st)(t:D3 d Γ ρ Γc ρc)(D:RO Γc ρc d ko y o)(C:RS k x v):
  ae ((.s d,k)::(.o d,ko)::Γc) (x,y,ρc) {fr:=ac st.fr d v,ob:=ac st.ob d o}:=by
 have down:∀p q,p≠ .s d->p≠ .o d->get ((.s d,k)::(.o d,ko)::Γc) p=some q->∃f,get Γc p=some ⟨q.1,f⟩/\q.2 (x,y,ρc)=f ρc:=by
  intro p q H F b;obtain⟨f,a,e⟩:=CB (Ne.symm H) b;obtain⟨g,m,l⟩:=CB (Ne.symm F) a;exact⟨g,m,(e _).trans (l _)⟩
 refine⟨fun i q b=> ?_,fun id q b=> ?_⟩
 ·by_cases hi:i=d
  ·subst hi;rw[Dh]at b;cases b;simpa[ac]using C
  ·obtain⟨f,a,e⟩:=down _ q (by simpa using hi) (by simp) b;rcases t _ _ a with⟨j,w⟩|⟨g,m,l⟩
   ·cases w
   ·have:=h.s i _ m;simp only at l;rw[e];simp only[ac,hi,if_false];rw[l];exact this
 ·by_cases hi:id=d
  ·subst hi;obtain⟨f,a,e⟩:=CB (by simp) b;rw[Dh]at a;obtain⟨J,L⟩:=q;simp only[Ac,Sigma.mk.injEq]at a;obtain⟨rfl,a⟩:=a;cases eq_of_heq a;have n:=e (x,y,ρc);simp only at n;simp only[ac,if_true];rw[n];exact RO.congr D fun j r c=>down _ r (by simp) (by simp) c
  ·obtain⟨f,a,e⟩:=down _ q (by simp) (by simpa using hi) b;rcases t _ _ a with⟨j,w⟩|⟨g,m,l⟩
   ·cases w
   ·have:=h.o id _ m;simp only at l;rw[e];simp only[ac,hi,if_false];rw[l];refine RO.congr this fun j r c=> ?_;obtain⟨M,A,n⟩:=down _ r (by simp) (by simp) c;rcases t _ _ A with⟨K,u⟩|⟨I,z,B⟩
    ·cases u;exact absurd rfl hi
    ·exact⟨I,z,n.trans B⟩
theorem ae.turnObj{id:Nat}{k:EK}{y:DK k}{o:Ob}(h:ae Γ ρ st)(l:RO Γ ρ id k y o):ae ((.o id,k)::Γ) (y,ρ) {st with ob:=ac st.ob id o}:=by
 have down:∀p q,p≠ .o id->get ((.o id,k)::Γ) p=some q->∃f,get Γ p=some ⟨q.1,f⟩/\q.2 (y,ρ)=f ρ:=by
  intro p q m b;obtain⟨f,d,e⟩:=CB (Ne.symm m) b;exact⟨f,d,e _⟩
 refine⟨fun i q b=> ?_,fun c q b=> ?_⟩
 ·obtain⟨f,d,e⟩:=down _ q (by simp) b;rw[e];exact h.s i _ d
 ·by_cases hi:c=id
  ·subst hi;rw[Dh]at b;cases b;simp only[ac,if_true];exact RO.congr l fun j g a=>down _ g (by simp) a
  ·obtain⟨f,d,e⟩:=down _ q (by simpa using hi) b;have:=h.o c _ d;rw[e];simp only[ac,hi,if_false];exact RO.congr this fun j g a=>down _ g (by simp) a
theorem ae.turnCells{bt:Option TypeId}{Γc:TC}{ρc:HS Γc}{id n:Nat}{f:HS Γ->DK (.box n bt)}{cs:List SV}(h:ae Γ ρ st)(d:D3 id Γ ρ Γc ρc)(v:get Γ (.o id)=some ⟨.box n bt,f⟩)(u:cs.length=n)
  (w:∀j q,j<n->get Γc (.c id j)=some q->∃sv,cs[j]? =some sv/\RS q.1 (q.2 ρc) sv):ae Γc ρc {st with ob:=ac st.ob id (.box cs bt)}:=by
 refine⟨fun i q l=> ?_,fun b q l=> ?_⟩
 ·rcases d _ _ l with⟨j,p⟩|⟨g,a,t⟩
  ·cases p
  ·rw[t];exact h.s i _ a
 ·rcases d _ _ l with⟨j,p⟩|⟨g,a,t⟩
  ·cases p
  ·by_cases hi:b=id
   ·subst hi;rw[v]at a;simp only[ac,if_true];obtain⟨k,B⟩:=q;simp only[Ac,Sigma.mk.injEq]at a;obtain⟨rfl,_⟩:=a;exact⟨cs,rfl,u,w⟩
   ·have:=h.o b _ a;rw[t];simp only[ac,hi,if_false];refine RO.congr this fun j z e=> ?_;rcases d _ _ e with⟨A,m⟩|⟨x,r,y⟩
    ·cases m;exact absurd rfl hi
    ·exact⟨x,r,y⟩
end
def FU(id:Nat):(off:Nat)->(r:Ty)->(Γ:TC)->Option (Σ Γ':TC,HS Γ->D r->HS Γ')
 |_,.nil,Γ=>some ⟨Γ,fun ρ _=>ρ⟩
 |off,.one t,Γ=>some ⟨(.c id off,.v t)::Γ,fun ρ x=>(x,ρ)⟩
 |off,.cons t r,Γ=>match FU id (off+1) r Γ with
  |some p=>some ⟨(.c id off,.v t)::p.1,fun ρ x=>(x.1,p.2 ρ x.2)⟩
  |none=>none
 |_,_,_=>none
theorem KQ{id:Nat}:∀{r:Ty} {off:Nat} {Γ:TC} {p:Σ Γ':TC,HS Γ->D r->HS Γ'} {ρ:HS Γ} {x:D r} {l:List CV},FU id off r Γ=some p->Can r x l->
  D3 id Γ ρ p.1 (p.2 ρ x)/\∀j q,get p.1 (.c id j)=some q->(off<=j/\∃c,l[j-off]? =some c/\RS q.1 (q.2 (p.2 ρ x)) (.c c))\/((j<off\/off+l.length<=j)/\∃f,get Γ (.c id j)=some ⟨q.1,f⟩/\q.2 (p.2 ρ x)=f ρ):=by
 intro r
 induction r with
 |nil=>
  intro off Γ p ρ x l h b;simp only[FU,Ac]at h;subst h;unfold Can at b;subst b;refine⟨D3.refl id,fun j q a=>.inr ⟨by simp;omega,q.2,a,rfl⟩⟩
 |one t _=>
  intro off Γ p ρ x l h b;simp only[FU,Ac]at h;subst h;unfold Can at b;obtain⟨c,rfl,b⟩:=b;refine⟨fun p q a=> ?_,fun j q a=> ?_⟩
  ·by_cases g:aw.c id off=p
   ·exact .inl ⟨off,g.symm⟩
   ·obtain⟨f,d,e⟩:=CB g a;exact .inr ⟨f,d,e _⟩
  ·by_cases i:j=off
   ·subst i;rw[Dh]at a;cases a;exact .inl ⟨Nat.le_refl _,c,by simp,c,rfl,b⟩
   ·obtain⟨f,d,e⟩:=CB (by simpa using Ne.symm i) a;exact .inr ⟨by simp;omega,f,d,e _⟩
 |cons t r _ ihr=>
  intro off Γ p ρ x l h b;simp only[FU]at h;split at h<;>(try cases h;done);rename_i A n;cases h;unfold Can at b;obtain⟨c,l',rfl,v,u⟩:=b;obtain⟨y,w⟩:=ihr (ρ:=ρ) n u;refine⟨fun p q a=> ?_,fun j q a=> ?_⟩
  ·by_cases g:aw.c id off=p
   ·exact .inl ⟨off,g.symm⟩
   ·obtain⟨f,d,e⟩:=CB g a;rcases y _ _ d with hh|⟨o,hf',e'⟩
    ·exact .inl hh
    ·exact .inr ⟨o,hf',(e _).trans e'⟩
  ·by_cases i:j=off
   ·subst i;rw[Dh]at a;cases a;exact .inl ⟨Nat.le_refl _,c,by simp,c,rfl,v⟩
   ·obtain⟨f,d,e⟩:=CB (by simpa using Ne.symm i) a;rcases w j _ d with⟨s,z,m,k⟩|⟨s,o,m,k⟩
    ·refine .inl ⟨by omega,z, ?_,(e _)▸k⟩;have:j-off=(j-(off+1))+1:=by omega
     rw[this];simpa using m
    ·exact .inr ⟨by simp;omega,o,m,(e _).trans k⟩
 |_=>intro off Γ p ρ x l h;cases h
def HD:(k a:EK)->Option (DK k->DK a)
 | .v t,.v t'=>Bn t t'
 |k,a=>if h:k=a then some fun x=>h▸x else none
theorem Ux{k a:EK}{f:DK k->DK a}(h:(if h:k=a then some (fun x=>h▸x:DK k->DK a)else none)=some f):∃e:k=a,∀x,f x=e▸x:=by
 split at h<;>(try cases h;done);rename_i e;subst e;cases h;exact⟨rfl,fun _=>rfl⟩
theorem Uy{k a:EK}{f:DK k->DK a}(h:HD k a=some f){x:DK k}{sv:SV}(b:RS k x sv):RS a (f x) sv:=by
 unfold HD at h;split at h
 ·obtain⟨c,e,g⟩:=b;exact⟨c,e,CA _ _ h g⟩
 ·obtain⟨e,d⟩:=Ux h;subst e;rw[d];exact b
theorem ZY{k b:EK}{f:DK k->DK b}(h:HD k b=some f){Γ Γ':TC}{ρ:HS Γ}{a:HS Γ'}{id:Nat}{x:DK k}{ob:Ob}(d:RO Γ ρ id k x ob)
  (r:∀j q,get Γ' (.c id j)=some q->∃p g,get Γ (.c id j)=some p/\HD p.1 q.1=some g/\q.2 a=g (p.2 ρ)):RO Γ' a id b (f x) ob:=by
 unfold HD at h;split at h
 ·exact d.elim
 ·obtain⟨e,o⟩:=Ux h;subst e;rw[o];cases k<;>try exact d
  obtain⟨cs,e,l,n⟩:=d;refine⟨cs,e,l,fun j q m i=> ?_⟩;obtain⟨p,g,w,v,u⟩:=r j q i;obtain⟨sv,t,s⟩:=n j p m w;exact⟨sv,t,u▸Uy v s⟩
def Cm(Γ:TC):(Γ':TC)->Option (HS Γ->HS Γ')
 | []=>some fun _=>()
 |e::Γ'=>match get Γ e.1,Cm Γ Γ' with
  |some q,some f=>match HD q.1 e.2 with
   |some g=>some fun ρ=>(g (q.2 ρ),f ρ)
   |none=>none
  |_,_=>none
theorem Mk{Γ:TC}{ρ:HS Γ}:∀{Γ':TC} {f:HS Γ->HS Γ'},Cm Γ Γ'=some f->∀p q,get Γ' p=some q->∃r g,get Γ p=some r/\HD r.1 q.1=some g/\q.2 (f ρ)=g (r.2 ρ)
 | [],f,h,p,q,hq=>by cases hq
 |e::Γ',f,h,p,q,hq=>by
  simp only[Cm]at h;split at h<;>(try cases h;done);rename_i r u d a;split at h<;>(try cases h;done);rename_i g i;cases h;obtain⟨key,k⟩:=e;by_cases b:key=p
  ·subst b;rw[Dh]at hq;cases hq;exact⟨r,g,d,i,rfl⟩
  ·obtain⟨t,o,n⟩:=CB b hq;obtain⟨c,s,m,l,j⟩:=Mk (ρ:=ρ) a p _ o;exact⟨c,s,m,l,(n _).trans j⟩
theorem CY{Γ Γ':TC}{ρ:HS Γ}{st:St}{f:HS Γ->HS Γ'}(h:Cm Γ Γ'=some f)(k:ae Γ ρ st):ae Γ' (f ρ) st:=by
 refine⟨fun i q b=> ?_,fun id q b=> ?_⟩
 ·obtain⟨r,g,e,d,c⟩:=Mk (ρ:=ρ) h _ q b;rw[c];exact Uy d (k.s i r e)
 ·obtain⟨r,g,e,d,c⟩:=Mk (ρ:=ρ) h _ q b;rw[c];exact ZY d (k.o id r e) fun j l a=>Mk (ρ:=ρ) h _ l a
def CK:(Θ:TC)->{Γ:TC}->HS Θ->HS Γ->HS (Θ++Γ)
 | [],_,_,ρ=>ρ
 |_::Θ,_,θ,ρ=>(θ.1,CK Θ θ.2 ρ)
theorem DJ{Γ:TC}:∀{Θ:TC} {p:aw} {q:Σ k:EK,HS (Θ++Γ)->DK k},get (Θ++Γ) p=some q->
  (p∈Θ.map (·.1)/\∃f,get Θ p=some ⟨q.1,f⟩/\∀θ ρ,q.2 (CK Θ θ ρ)=f θ)\/(p∉Θ.map (·.1)/\∃f,get Γ p=some ⟨q.1,f⟩/\∀θ ρ,q.2 (CK Θ θ ρ)=f ρ)
 | [],p,q,h=>.inr ⟨by simp,q.2,h,fun _ _=>rfl⟩
 |(k0,e0)::Θ,p,q,h=>by
  by_cases a:k0=p
  ·subst a;change get ((k0,e0)::(Θ++Γ)) k0=some q at h;rw[Dh]at h;cases h;exact .inl ⟨by simp,_,Dh Θ k0 e0,fun _ _=>rfl⟩
  ·obtain⟨f,i,d⟩:=CB (Γ:=Θ++Γ) a h;rcases DJ i with⟨c,g,b,e⟩|⟨c,g,b,e⟩
   ·refine .inl ⟨by simp[c],fun θ=>g θ.2, ?_,fun θ ρ=>(d _).trans (e θ.2 ρ)⟩;unfold get;rw[An a,b]
   ·exact .inr ⟨by simp[c,Ne.symm a],g,b,fun θ ρ=>(d _).trans (e θ.2 ρ)⟩
def AK:TC->List Nat
 | []=> []
 |(.o id,_)::Θ=>id::AK Θ
 |_::Θ=>AK Θ
theorem G4:∀{Θ:TC} {id:Nat},id∈AK Θ<->aw.o id∈Θ.map (·.1)
 | [],id=>by simp[AK]
 |(.o i,k)::Θ,id=>by simp[AK,G4 (Θ:=Θ)]
 |(.s i,k)::Θ,id=>by simp[AK,G4 (Θ:=Θ)]
 |(.c i j,k)::Θ,id=>by simp[AK,G4 (Θ:=Θ)]
def Ty.names(T:Nat->Bool):Ty->Bool
 | .nam M| .bptr M=>T M
 | .agg r| .tup r| .pt r| .clo _ r| .sl r| .one r=>r.names T
 | .falt _ r l=>r.names T&&l.names T
 | .map k v=>k.names T&&v.names T
 | .cons t r=>t.names T&&r.names T
 | .nw _ _ t=>t.names T
 |_=>true
theorem Ha{T:Nat->Bool}{c:CV}:AX T [c]=Br T c:=by simp[AX]
theorem Af2{T:Nat->Bool}:∀{t:Ty} (x:D t),t.names T=true->AX T (encL t x)=true:=by
 have d:∀{l:List CV},AX T l=true->Br T (l.headD .nilif)=true:=fun{l} h=>by
  cases l with
  |nil=>rfl
  |cons c l=>simp only[AX,Ag]at h;exact h.1
 have b:∀{a:Type} {f:a->List CV} {l:List a},(∀x∈l,AX T (f x)=true)->AX T (l.map fun x=>(f x).headD .nilif)=true:=fun{a f l} h=>by
  induction l with
  |nil=>rfl
  |cons x l ih=>
   simp only[List.map_cons,AX,Ag];exact⟨d (h x (by simp)),ih fun y g=>h y (by simp[g])⟩
 intro t
 induction t with
 |nam M=>intro x h;simpa[encL,AX,Br,Ty.names]using h
 |bptr M=>intro x h;simpa[encL,AX,Br,Ty.names]using h
 |agg r ih=>intro x h;simp only[encL,Ha,Br];exact ih x h
 |tup r ih=>intro x h;simp only[encL,Ha,Br];exact ih x h
 |pt r ih=>intro x h;simp only[encL,Ha,Br];exact ih x h
 |clo f r ih=>intro x h;simp only[encL,Ha,Br];exact ih x h
 |falt f r l ih ihl=>
  intro x h;simp only[Ty.names,Ag]at h
  cases x with
  |inl y=>simp only[encL,Ha,Br];exact ih y h.1
  |inr y=>simp only[encL];exact ihl y h.2
 |sl e ih=>intro x h;simp only[encL,Ha,Br];exact b fun y _=>ih y h
 |map k v ihk ihv=>
  intro x h;simp only[Ty.names,Ag]at h;simp only[encL,Ha,Br,Ag];exact⟨b (f:=fun(y:D k×D v)=>encL k y.1) fun y _=>ihk y.1 h.1,b (f:=fun(y:D k×D v)=>encL v y.2) fun y _=>ihv y.2 h.2⟩
 |one t ih=>intro x h;simp only[encL,Ha];exact d (ih x h)
 |cons t r iht ihr=>
  intro x h;simp only[Ty.names,Ag]at h;simp only[encL,AX,Ag];exact⟨d (iht x.1 h.1),ihr x.2 h.2⟩
 |nw e s t _=>intro x h;rfl
 |err=>intro x _;cases x<;>rfl
 |_=>intro x _;rfl
theorem KA{T:Nat->Bool}{t:Ty}(x:D t)(h:t.names T=true):Br T (enc t x)=true:=by
 have:=Af2 x h;unfold enc
 cases a:encL t x with
 |nil=>rfl
 |cons c l=>rw[a]at this;simp only[AX,Ag]at this;exact this.1
theorem KP:∀{t:Ty} (_:Id t=true) {x:D t} {c:CV},Can t x [c]->encL t x= [c]:=by
 intro t a x c h
 cases t with
 |int k=>unfold Can at h;rw[h];rfl
 |str=>unfold Can at h;rw[h];rfl
 |bool=>unfold Can at h;rw[h];rfl
 |_=>cases a
theorem Ag2:∀{r:Ty} (_:Ja r=true) {x:D r} {l:List CV},Can r x l->encL r x=l:=by
 intro r
 induction r with
 |one t=>
  intro a x l h;unfold Can at h;obtain⟨c,rfl,h⟩:=h;have:=KP a h;simp only[encL,this,List.headD_cons]
 |cons t r iht ihr=>
  intro a x l h;simp only[Ja,Ag]at a;unfold Can at h;obtain⟨c,l',rfl,d,b⟩:=h;have f:=KP a.1 d;have e:=ihr a.2 b;simp only[encL,f,e,List.headD_cons]
 |_=>intro a;cases a
theorem Xf{t:Ty}(a:Eg t=true){x:D t}{c:CV}(h:Can t x [c]):c=enc t x:=by
 have key:encL t x= [c]:=by
  cases t with
  |int k=>exact KP (t:=.int k) a h
  |str=>exact KP (t:=.str) a h
  |bool=>exact KP (t:=.bool) a h
  |agg r=>
   unfold Can at h;obtain⟨l,e,h⟩:=h;cases e;have:=Ag2 a h;simp only[encL,this]
  |_=>cases a
 unfold enc;rw[key];rfl
theorem QP{a:Type}{t:Ty}(b:Eg t=true){g:a->D t}:∀{m:List a} {l:List CV},CanAll (fun y c=>Can t (g y) [c]) m l->l=m.map fun y=>enc t (g y)
 | [],l,h=>h
 |y::m,l,h=>by
  obtain⟨c,l',rfl,e,d⟩:=h;rw[Xf b e,QP b d];rfl
theorem P1{b:Type}{t:Ty}(d:t.val=true)(e:t.ok=true)(g:b->D t):∀(a:List b),CanAll (fun y c=>Can t (g y) [c]) a (a.map fun y=>enc t (g y))
 | []=>rfl
 |y::a=>⟨_,_,rfl,Can.enc (g y) d e,P1 d e g a⟩
theorem Xa{k v:Ty}:∀{m a:List (D k×D v)} {ks vs:List CV},CanAll (fun y c=>Can k y.1 [c]) m ks->CanAll (fun y c=>Can v y.2 [c]) m vs->CanAll (fun y c=>Can k y.1 [c]) a ks->CanAll (fun y c=>Can v y.2 [c]) a vs->m=a
 | [],[],_,_,_,_,_,_=>rfl
 | [],y::a,ks,vs,h1,_,h3,_=>by
  cases (show ks= []from h1);obtain⟨c,l,e,_⟩:=h3;cases e
 |y::m,[],ks,vs,h1,_,h3,_=>by
  cases (show ks= []from h3);obtain⟨c,l,e,_⟩:=h1;cases e
 |y::m,y'::a,ks,vs,h1,h2,h3,h4=>by
  obtain⟨w,r,rfl,p,i⟩:=h1;obtain⟨u,q,rfl,o,h⟩:=h2;obtain⟨t,l3,d,n,g⟩:=h3;obtain⟨s,l4,b,j,f⟩:=h4;cases d;cases b;rw[Xa i h g f];have:=Prod.ext (Can.uniq k p n) (Can.uniq v o j);rw[this]
def d5(T:Nat->Bool)(Θ:TC):EK->Bool
 | .v t=>t.val&&t.ok&&t.names T
 | .own K=>T K&&(match Cq Θ (.o K)with
  |some (.arr _ _ _)|some (.buf _)=>true
  |_=>false)
 |_=>false
def c7(T:Nat->Bool)(Θ:TC):aw×EK->Bool
 |(.o id,.box n bt)=>T id&&(List.range n).all fun j=>match Cq Θ (.c id j)with
  |some k=>d5 T Θ k
  |none=>false
 |(.o id,.arr _ _ t)=>T id&&t.val&&t.ok&&t.names T
 |(.o id,.buf _)=>T id
 |(.o id,.mob _ k v)=>T id&&(Eg k&&k.val&&k.ok&&k.names T)&&(Eg v&&v.val&&v.ok&&v.names T)
 |(.c id j,_)=>match Cq Θ (.o id)with
  |some (.box n bt)=>Nat.blt j n
  |_=>false
 |_=>false
def MN:TC->Bool
 | []=>true
 |e::Θ=> !(Θ.map (·.1)).contains e.1&&MN Θ
def au(Θ:TC):Bool:=MN Θ&&Θ.all (c7 (AK Θ).contains Θ)
theorem RT:∀{Θ:TC} {θ a:HS Θ},MN Θ=true->(∀p k (f:HS Θ->DK k),get Θ p=some ⟨k,f⟩->f θ=f a)->θ=a
 | [],_,_,_,_=>rfl
 |(p,k)::Θ,θ,a,hk,h=>by
  simp only[MN,Ag,Bool.not_eq_true']at hk;have l:θ.1=a.1:=h p k (fun ρ=>ρ.1) (Dh Θ p k)
  have j:θ.2=a.2:=RT (Θ:=Θ) hk.2 fun c i f d=>by
   have b:p≠c:=fun e=>by
    have:=FO (B0 d);rw[<-e]at this;have g:=hk.1;simp only[List.contains_eq_mem,decide_eq_false_iff_not]at g;exact g this
   exact h c i (fun ρ=>f ρ.2) (by unfold get;rw[An b,d])
  exact Prod.ext l j
theorem C0{Θ:TC}{pr:aw×EK->Bool}(h:Θ.all pr=true){p:aw}{k:EK}(a:Cq Θ p=some k):pr (p,k)=true:=by
 induction Θ with
 |nil=>cases a
 |cons e Θ ih=>
  simp only[List.all_cons,Ag]at h;unfold Cq at a;split at a
  ·rename_i b;cases a;rw[<-b];exact h.1
  ·exact ih h.2 a
theorem ae.uniq{Θ:TC}{θ m:HS Θ}{st st':St}(F:au Θ=true)(w:st.ob=st'.ob)(h:ae Θ θ st)(M:ae Θ m st'):θ=m:=by
 simp only[au,Ag]at F;refine RT F.1 fun p k f u=> ?_;have q:=C0 F.2 (B0 u)
 cases p with
 |s i=>cases k<;>cases q
 |o id=>
  have r:=h.o id _ u;have D:=M.o id _ u;rw[<-w]at D;cases k<;>(try cases q;done)
  case box n=>rfl
  case arr e size t=>
   obtain⟨es,A,C⟩:=r;obtain⟨W,l,B⟩:=D;rw[A]at l;cases l;exact CanAll.uniq (R:=fun x c=>Can t x [c]) (fun a a' b h k=>Can.uniq t h k) C B
  case mob mt k v=>
   obtain⟨z,ks,vs,A,_,C,B⟩:=r;obtain⟨z',S,P,l,_,c3,c4⟩:=D;rw[A]at l;cases l;exact Xa C B c3 c4
  case buf e=>
   have r1:st.ob id=.buf e (f θ):=r;have I:st.ob id=.buf e (f m):=D;rw[r1]at I;exact(Ob.buf.inj I).2
 |c id j=>
  have d:(match Cq Θ (.o id)with
   |some (.box n bt)=>Nat.blt j n
   |_=>false)=true:=q
  split at d<;>(try cases d;done);rename_i n _ J;have H:j<n:=Nat.lt_of_succ_le (Ai d);obtain⟨fo,y⟩:=IG J;obtain⟨cs,A,_,C⟩:=h.o id _ y;obtain⟨cs',l,_,B⟩:=M.o id _ y;rw[<-w,A]at l;cases l;obtain⟨sv,V,U⟩:=C j _ H u;obtain⟨Q,N,T⟩:=B j _ H u;rw[V]at N;cases N;have g:=C0 F.2 J;simp only[c7,Ag,As,Az]at g;have L:=g.2 j H;rw[B0 u]at L;cases k<;>(try cases L;done)
  case v t=>
   obtain⟨c,d1,Z⟩:=U;obtain⟨c',O,Y⟩:=T;rw[d1]at O;cases O;exact Can.uniq t Z Y
  case own K=>rfl
def IA(Θ:TC)(θ:HS Θ)(id j:Nat):SV:=
 match get Θ (.c id j)with
 |some ⟨.v t,f⟩=>.c (enc t (f θ))
 |some ⟨.own K,_⟩=>.osl K
 |_=>.undef
def Bo(Θ:TC)(θ:HS Θ)(id:Nat):Ob:=
 match get Θ (.o id)with
 |some ⟨.box n bt,_⟩=>.box ((List.range n).map (IA Θ θ id)) bt
 |some ⟨.arr e size t,f⟩=>.arr e size ((f θ).map (enc t))
 |some ⟨.buf e,f⟩=>.buf e (f θ)
 |some ⟨.mob mt k v,f⟩=>.map mt (b3 k) (enc v (AT v)) ((f θ).map fun y=>enc k y.1) ((f θ).map fun y=>enc v y.2)
 |_=>.none
theorem UJ{t:Ty}(b:t.val=true)(d:t.ok=true):∀(a:List (D t)),CanAll (fun x c=>Can t x [c]) a (a.map (enc t))
 | []=>rfl
 |y::a=>⟨_,_,rfl,Can.enc y b d,UJ b d a⟩
theorem Aa8{Θ:TC}(g:au Θ=true)(θ:HS Θ)(fr:Nat->SV):ae Θ θ {fr:=fr,ob:=Bo Θ θ}:=by
 simp only[au,Ag]at g;refine⟨fun i q d=> ?_,fun id q d=> ?_⟩
 ·have:=C0 g.2 (B0 d);obtain⟨k,f⟩:=q;cases k<;>cases this
 ·have a:=C0 g.2 (B0 d);obtain⟨k,f⟩:=q;show RO Θ θ id k (f θ) (Bo Θ θ id);unfold Bo;rw[d];cases k<;>(try cases a;done)
  case box n=>
   refine⟨_,rfl,by simp,fun j l h b=> ?_⟩;simp only[c7,Ag,As,Az]at a;have c:=a.2 j h;rw[B0 b]at c;refine⟨IA Θ θ id j,by simp[h], ?_⟩;unfold IA;rw[b];obtain⟨m,o⟩:=l;cases m<;>(try cases c;done)
   case v t=>
    simp only[d5,Ag]at c;exact⟨_,rfl,Can.enc _ c.1.1 c.1.2⟩
   case own K=>rfl
  case arr e size t=>
   simp only[c7,Ag]at a;exact⟨_,rfl,UJ a.1.1.2 a.1.2 _⟩
  case mob mt k v=>
   simp only[c7,Ag]at a;exact⟨_,_,_,rfl,Can.enc _ a.2.1.1.2 a.2.1.2,P1 a.1.2.1.1.2 a.1.2.1.2 _ _,P1 a.2.1.1.2 a.2.1.2 _ _⟩
  case buf e=>rfl
theorem UI{Θ:TC}{θ:HS Θ}{id:Nat}(h:Bo Θ θ id≠ .none):(AK Θ).contains id=true:=by
 unfold Bo at h
 cases a:get Θ (.o id)with
 |none=>rw[a]at h;exact absurd rfl h
 |some q=>
  have:=G4.2 (FO (B0 a));simpa using this
theorem ae.turned{Γ Θ:TC}{ρ:HS Γ}{θ:HS Θ}{st:St}{w:Nat->Ob}{fr:Nat->SV}(u:au Θ=true)(h:ae Γ ρ st)(x:ae Θ θ {fr:=fr,ob:=w}):ae (Θ++Bv (AK Θ) Γ) (CK Θ θ (BP (AK Θ) ρ)) (CI (AK Θ) w st):=by
 simp only[au,Ag]at u;have C:=h.kill (AK Θ);refine⟨fun i q y=> ?_,fun id q y=> ?_⟩
 ·rcases DJ y with⟨v,f,g,_⟩|⟨_,f,g,e⟩
  ·have:=C0 u.2 (B0 g);obtain⟨k,L⟩:=q;cases k<;>cases this
  ·rw[e];exact C.s i _ g
 ·rcases DJ y with⟨v,f,g,e⟩|⟨v,f,g,e⟩
  ·have af:(AK Θ).contains id=true:=by simpa using G4.2 v
   have r:=x.o id _ g;have a:=C0 u.2 (B0 g);rw[e];show RO _ _ id q.1 (f θ) (if(AK Θ).contains id=true then w id else _);rw[Ao af];obtain⟨k,L⟩:=q;cases k<;>(try cases a;done)
   case box n=>
    obtain⟨cs,M,I,K⟩:=r;refine⟨cs,M,I,fun j F D l=> ?_⟩;simp only[c7,Ag,As,Az]at a;have p:=a.2 j D
    cases m:Cq Θ (.c id j)with
    |none=>rw[m]at p;cases p
    |some kc=>
     rcases DJ l with⟨_,A,b,B⟩|⟨t,_⟩
     ·rw[B];exact K j _ D b
     ·exact absurd (FO m) t
   all_goals exact r
  ·have af:¬(AK Θ).contains id=true:=fun J=>v (G4.1 (by simpa using J));have r:=C.o id _ g;have z:(WB.kill (AK Θ) st).ob id=Cp (AK Θ) (st.ob id):=by show(if _ then _ else _)=_;rw[An af]
   rw[z]at r;rw[e];show RO _ _ id q.1 (f _) (if(AK Θ).contains id=true then w id else Cp (AK Θ) (st.ob id));rw[An af];refine RO.congr r fun j F l=> ?_;rcases DJ l with⟨t,A,b,_⟩|⟨_,A,b,B⟩
   ·exfalso;have a:=C0 u.2 (B0 b)
    have d:(match Cq Θ (.o id)with
     |some (.box n bt)=>Nat.blt j n
     |_=>false)=true:=a
    split at d<;>(try cases d;done);rename_i n _ H;exact af (by simpa using G4.2 (FO H))
   ·exact⟨A,b,B _ _⟩
theorem ae.unturned{Γ Θ:TC}{ρ:HS Γ}{θ:HS Θ}{st:St}(F:au Θ=true)(h:ae Γ ρ st)(x:ae Θ θ st):ae (Θ++Bv (AK Θ) Γ) (CK Θ θ (BP (AK Θ) ρ)) st:=by
 simp only[au,Ag]at F
 have down:∀p q,p∉Θ.map (·.1)->get (Bv (AK Θ) Γ) p=some q->q.1=.undef\/∃f,get Γ p=some ⟨q.1,f⟩/\q.2 (BP (AK Θ) ρ)=f ρ:=by
  intro p q N y;rcases IF (bS (HG Γ (AK Θ)) ρ) y with⟨d,Q,v,_⟩|⟨_,f,l,e⟩
  ·exact absurd (v▸G4.1 Q) N
  ·rcases IH ρ l with⟨_,m⟩|⟨_,g,A,C⟩
   ·exact .inl m
   ·exact .inr ⟨g,A,e.trans C⟩
 refine⟨fun i q y=> ?_,fun id q y=> ?_⟩
 ·rcases DJ y with⟨v,f,l,e⟩|⟨v,f,l,e⟩
  ·rw[e];exact x.s i _ l
  ·rcases down _ _ v l with m|⟨g,A,C⟩
   ·obtain⟨k,H⟩:=q;simp only at m;subst m
    trivial
   ·have J:=(e θ (BP (AK Θ) ρ)).trans C;rw[J];exact h.s i _ A
 ·rcases DJ y with⟨v,f,l,e⟩|⟨v,f,l,e⟩
  ·have r:=x.o id _ l;have a:=C0 F.2 (B0 l);rw[e];obtain⟨k,H⟩:=q;cases k<;>(try cases a;done)
   case box n=>
    obtain⟨cs,T,P,R⟩:=r;refine⟨cs,T,P,fun j L D w=> ?_⟩;simp only[c7,Ag,As,Az]at a;have B:=a.2 j D
    cases z:Cq Θ (.c id j)with
    |none=>rw[z]at B;cases B
    |some kc=>
     rcases DJ w with⟨_,M,b,K⟩|⟨t,_⟩
     ·rw[K];exact R j _ D b
     ·exact absurd (FO z) t
   all_goals exact r
  ·rcases down _ _ v l with m|⟨g,A,C⟩
   ·obtain⟨k,H⟩:=q;simp only at m;subst m
    trivial
   ·have r:=h.o id _ A;have J:=(e θ (BP (AK Θ) ρ)).trans C;rw[J];obtain⟨k,H⟩:=q;cases k<;>try exact r
    obtain⟨cs,q1,q2,q3⟩:=r;refine⟨cs,q1,q2,fun j L D w=> ?_⟩;rcases DJ w with⟨t,M,b,_⟩|⟨t,M,b,K⟩
    ·exfalso;have a:=C0 F.2 (B0 b)
     have u:(match Cq Θ (.o id)with
      |some (.box n bt)=>Nat.blt j n
      |_=>false)=true:=a
     split at u<;>(try cases u;done);rename_i U _ O;exact v (FO O)
    ·rcases down _ _ t b with m|⟨g',hg',e2'⟩
     ·obtain⟨V,S⟩:=L;simp only at m;subst m;have:j<cs.length:=by omega
      exact⟨cs[j],by simp[this],trivial⟩
     ·obtain⟨sv,q4,q5⟩:=q3 j _ D hg';have I:=(K θ (BP (AK Θ) ρ)).trans e2';rw[I];exact⟨sv,q4,q5⟩
structure Sig where
 a:Ty
 r:Ty
 fn:D a->Option (D r)
structure SigE where
 Θ:TC
 a:Ty
 r:Ty
 fn:D a->HS Θ->Option (D r×HS Θ)
structure L3 where
 e:TypeId
 size:Nat
 t:Ty
 fn:List (D t)->Option (List (D t))
def ZD{t u:Ty}(h:t=u)(fn:List (D u)->Option (List (D u))):List (D t)->Option (List (D t)):=h▸fn
def DA:Option TC->Do
 |none=>.no
 |some Θ=>⟨fun N=>(AK Θ).contains N=true,fun N=>(AK Θ).contains N=true⟩
def MR:Option TC->Nat->Bool
 |none,_=>false
 |some Θ,id=>(AK Θ).contains id
theorem Ae7{o:Option TC}{id:Nat}(h:MR o id=false):¬(DA o).I id:=by
 cases o with
 |none=>exact fun h=>h
 |some Θ=>intro b;have c:(AK Θ).contains id=false:=h;have a:(AK Θ).contains id=true:=b;rw[c]at a;cases a
structure TP where
 G:Nat->List CV
 T:FuncId->Option Sig
 TT:Nat->Option Ty
 TM:Nat->Option (Ty×Ty)
 cp:FuncId->Bool:=fun _=>false
 TN:FuncId->Option Sig:=fun _=>none
 TE:FuncId->Option SigE:=fun _=>none
 Θ:Option TC:=none
 srt:FuncId->FuncId->Option L3:=fun _ _=>none
def bC(E:ah):Prop:=∀f e,E.ef f=some e->(e.T.all fun N=>Nat.ble A9 N)=true
theorem bC.at{E:ah}(h:bC E)(D:Option (List Nat)):bC (E.at D):=by
 cases D with
 |none=>exact h
 |some D=>intro f e a;cases a
theorem bC.named{E:ah}:bC E.named:=by
 intro f e a;simp only[ah.named]at a;split at a
 ·split at a
  ·cases a;assumption
  ·cases a
 ·cases a
structure aG (X:TP) (E:ah):Prop where
 G:E.G=X.G
 cp:E.cp=X.cp
 fn:∀f s,X.T f=some s->s.r.val=true/\s.r.ok=true/\∀x l y,Can s.a x l->s.fn x=some y->E.fn f l=some (.val (enc s.r y))
 ef:∀f,(X.T f).isSome=true\/(X.TN f).isSome=true->E.ef f=none
 nw:∀f a e size t fn,X.TN f=some ⟨a,.nw e size t,fn⟩->t.val=true/\∀x l ys,Can a x l->fn x=some ys->∃es,E.fn f l=some (.new (.arr e size es))/\CanAll (fun x c=>Can t x [c]) ys es
 hi:bC E
 srt:∀f g s,X.srt f g=some s->∀xs es ys,CanAll (fun x c=>Can s.t x [c]) xs es->s.fn xs=some ys->∃es',E.srt f g s.e s.size es=some es'/\CanAll (fun x c=>Can s.t x [c]) ys es'
def BR(X:TP)(E:ah):Prop:=∀f s,X.TE f=some s->(s.r.val=true/\((AK s.Θ).all fun N=>Nat.ble A9 N)=true)/\s.r.ok=true/\∃e,E.ef f=some e/\e.T=AK s.Θ/\
 ∀x l θ H y b,Can s.a x l->ae s.Θ θ {fr:=fun _=>.undef,ob:=H}->s.fn x θ=some (y,b)->e.fn l H=some (enc s.r y,Bo s.Θ b)
def TP.noE(X:TP):TP:={X with TE:=fun _=>none}
theorem aG.noE{X:TP}{E:ah}(h:aG X E):aG X.noE E:=⟨h.G,h.cp,h.fn,h.ef,h.nw,h.hi,h.srt⟩
theorem BR.noE(X:TP)(E:ah):BR X.noE E:=fun _ _ h=>by cases h
theorem aG.named{X:TP}{E:ah}(h:aG X E):aG X E.named:=⟨h.G,h.cp,fun f s d=>by
 obtain⟨j,i,g⟩:=h.fn f s d;refine⟨j,i,fun x l y c b=> ?_⟩
 show(match E.fn f l with
  |some (bh.new o)=>if ED o=true then some (bh.new o)else none
  |r=>r)=_
 rw[g x l y c b],fun f m=>by
 show(match E.ef f with
  |some e=>if(e.T.all fun N=>Nat.ble A9 N)=true then some e else none
  |none=>none)=none
 rw[h.ef f m],fun f a e size t fn d=>by
 obtain⟨j,i⟩:=h.nw f a e size t fn d;refine⟨j,fun x l k c b=> ?_⟩;obtain⟨es,g,n⟩:=i x l k c b;refine⟨es, ?_,n⟩
 show(match E.fn f l with
  |some (bh.new o)=>if ED o=true then some (bh.new o)else none
  |r=>r)=_
 rw[g]
 rfl,bC.named,h.srt⟩
theorem BR.named{X:TP}{E:ah}(h:BR X E):BR X E.named:=fun f s c=>by
 obtain⟨b,i,e,g,a,d⟩:=h f s c;refine⟨b,i,e, ?_,a,d⟩
 show(match E.ef f with
  |some e=>if(e.T.all fun N=>Nat.ble A9 N)=true then some e else none
  |none=>none)=_
 rw[g];simp only;rw[a,Ao b.2]
def ah.pois(E:ah):ah:={E with ef:=fun f=>(E.ef f).map fun e=>⟨e.T,fun _ _=>none⟩}
theorem aG.pois{X:TP}{E:ah}(h:aG X E):aG X E.pois:=⟨h.G,h.cp,h.fn,fun f a=>by
 show(E.ef f).map _=none
 rw[h.ef f a];rfl,h.nw,(fun f e b=>by
 obtain⟨d,c,rfl⟩:=Aa.1 b
 exact h.hi f d c),h.srt⟩
theorem aG.at{X:TP}{E:ah}(h:aG X E)(D:Option (List Nat)):aG X (E.at D):=⟨by rw[D4];exact h.G,by rw[Zi];exact h.cp,by rw[TX];exact h.fn,fun f a=>Zj (h.ef f a),by rw[TX];exact h.nw,h.hi.at D,by rw[Zk];exact h.srt⟩
def bQ:Ty->Bool
 | .int _| .bool| .str=>true
 | .agg r| .tup r=>bQ r
 | .nil=>true
 | .one t=>bQ t
 | .cons t r=>bQ t&&bQ r
 |_=>false
theorem Wz:∀{t:Ty} {x:D t} {cs:List CV},bQ t=true->Can t x cs->CD cs=true:=by
 intro t
 induction t with
 |int k=>intro x cs _ h;unfold Can at h;subst h;rfl
 |bool=>intro x cs _ h;unfold Can at h;subst h;rfl
 |str=>intro x cs _ h;unfold Can at h;subst h;rfl
 |nil=>intro x cs _ h;unfold Can at h;subst h;rfl
 |agg r ih=>intro x cs a h;unfold Can at h;obtain⟨l,rfl,h⟩:=h;simp[CD,memless,ih a h]
 |tup r ih=>intro x cs a h;unfold Can at h;obtain⟨l,rfl,h⟩:=h;simp[CD,memless,ih a h]
 |one t ih=>intro x cs a h;unfold Can at h;obtain⟨c,rfl,h⟩:=h;exact ih a h
 |cons t r iht ihr=>
  intro x cs a h;simp only[bQ,Ag]at a;unfold Can at h;obtain⟨c,l,rfl,d,b⟩:=h;have:=iht a.1 d;simp only[CD,Bool.and_true]at this;simp[CD,this,ihr a.2 b]
 |_=>intro x cs a;cases a
def BY:(r s:Ty)->Σ q:Ty,D r->D s->D q
 | .one t,.nil=>⟨.one t,fun x _=>x⟩
 | .one t,s=>⟨.cons t s,fun x y=>(x,y)⟩
 | .cons t r,s=>⟨.cons t (BY r s).1,fun x y=>(x.1,(BY r s).2 x.2 y)⟩
 |_,s=>⟨s,fun _ y=>y⟩
theorem Is:∀{r s:Ty} {n:Nat} {x:D r} {y:D s} {l m:List CV},Bc r=some n->Can r x l->Can s y m->Can (BY r s).1 ((BY r s).2 x y) (l++m):=by
 intro r
 induction r with
 |nil=>intro s n x y l m _ h k;unfold Can at h;subst h;exact k
 |one t _=>
  intro s n x y l m _ h k;unfold Can at h;obtain⟨c,rfl,h⟩:=h;cases s
  case nil=>
   unfold Can at k;subst k;change Can (.one t) x [c];unfold Can;exact⟨c,rfl,h⟩
  all_goals
   change Can (.cons t _) (x,y) (c::m);unfold Can;exact⟨c,m,rfl,h,k⟩
 |cons t r _ ihr=>
  intro s n x y l m a h k;simp only[Bc,Aa]at a;obtain⟨e,a,_⟩:=a;unfold Can at h;obtain⟨c,l',rfl,d,b⟩:=h;change Can (.cons t (BY r s).1) (x.1,(BY r s).2 x.2 y) (c::(l'++m));unfold Can;exact⟨c,l'++m,rfl,d,ihr a b k⟩
 |_=>intro s n x y l m a;cases a
def IS{V:Type}(m y:List (List UInt8×V)):Option (List (List UInt8×V)):=
 if m.isEmpty=true/\(y.all fun p=>decide (p.1.length<=9223372036854775807))=true/\y.length<=9223372036854775807 then some y else none
structure bK (Γ:TC):Type 1 where
 Γ':TC
 B:Type
 d:ab (HS Γ) B
 up:HS Γ->B->HS Γ'
section
variable (X:TP) (Γ:TC) (msk:List Nat)
def cB:SO->Option (Bool×Σ t:Ty,ab (HS Γ) (D t))
 | .t i=>match get Γ (.s i)with
  |some ⟨.v t,f⟩=>some (true,⟨t,.tot f⟩)
  |some ⟨.opt (.v t),f⟩=>some (true,⟨t,.par f⟩)
  |some ⟨.own id,_⟩=>match E1 Γ msk id with
   |some ⟨.arr _ _ t,xs⟩=>some (false,⟨.sl t,.tot xs⟩)
   |_=>none
  |some ⟨.mp id,_⟩=>match E1 Γ msk id with
   |some ⟨.mob _ k v,xs⟩=>some (false,⟨.map k v,.tot xs⟩)
   |_=>none
  |_=>none
 | .k c=>match BU c with
  |some q=>some (true,⟨q.1,.tot fun _=>q.2⟩)
  |none=>none
 | .g _=>none
def Gn:List SO->Option (Bool×Σ r:Ty,ab (HS Γ) (D r))
 | []=>some (true,⟨.nil,.tot fun _=>()⟩)
 | [x]=>match cB Γ msk x with
  |some q=>some (q.1,⟨.one q.2.1,q.2.2⟩)
  |none=>none
 |x::y::xs=>match cB Γ msk x,Gn (y::xs)with
  |some q,some p=>some (q.1&&p.1,⟨.cons q.2.1 p.2.1,q.2.2.both p.2.2⟩)
  |_,_=>none
def Ix(a b:Ty)(fl:Bool):(t:Ty)->Option (D t->D a->Option (D b))
 | .nfn=>some fun _ _=>none
 | .clo g r=>match X.T g with
  |some s=>match Bn (BY a r).1 s.a,Bn s.r b with
   |some h,some k=>if(fl||bQ s.r)=true then some fun x y=>(s.fn (h ((BY a r).2 y x))).map k else none
   |_,_=>none
  |none=>none
 | .falt g r l=>match X.T g with
  |some s=>match Bn (BY a r).1 s.a,Bn s.r b,Ix a b fl l with
   |some h,some k,some F=>if(fl||bQ s.r)=true then some fun x y=>match x with
     | .inl c=>(s.fn (h ((BY a r).2 y c))).map k
     | .inr z=>F z y
    else none
   |_,_,_=>none
  |none=>none
 |_=>none
def LZ:aa->Option (Σ k:EK,ab (HS Γ) (DK k))
 | .call f args=>match X.T f with
  |some s=>match Gn Γ msk args with
   |some q=>match Bn q.2.1 s.a with
    |some g=>if(q.1||bQ s.r)=true then some ⟨.v s.r,(q.2.2.map fun _ x=>g x).comp (.par s.fn)⟩else none
    |none=>none
   |none=>none
  |none=>none
 | .callv f args=>match ap Γ f with
  |some ⟨.clo g r,d⟩=>match X.T g with
   |some s=>match Gn Γ msk args with
    |some q=>match Bc q.2.1,Bn (BY q.2.1 r).1 s.a with
     |some _,some h=>if(q.1||bQ s.r)=true then some ⟨.v s.r,((q.2.2.both d).map fun _ x=>h ((BY q.2.1 r).2 x.1 x.2)).comp (.par s.fn)⟩else none
     |_,_=>none
    |none=>none
   |none=>none
  |some ⟨.falt g r l,d⟩=>match X.T g with
   |some s=>match Gn Γ msk args with
    |some q=>match Bc q.2.1,Ix X q.2.1 s.r q.1 (.falt g r l)with
     |some _,some F=>some ⟨.v s.r,(q.2.2.both d).comp (.par fun x=>F x.2 x.1)⟩
     |_,_=>none
    |none=>none
   |none=>none
  |_=>none
 |_=>none
def F0(d:Nat):aa->Option (bK Γ)
 | .alloc z=>match FG z with
  |some q=>match FU d 0 q.1 Γ with
   |some p=>some ⟨(.s d,.ptr d 0)::(.o d,.box z.length none)::p.1,Unit,.tot fun _=>(),fun ρ _=>((),(),p.2 ρ q.2)⟩
   |none=>none
  |none=>none
 | .allocT T z=>match FG z with
  |some q=>match FU d 0 q.1 Γ with
   |some p=>some ⟨(.s d,.ptr d 0)::(.o d,.box z.length (some T))::p.1,Unit,.tot fun _=>(),fun ρ _=>((),(),p.2 ρ q.2)⟩
   |none=>none
  |none=>none
 | .box x=>match ap Γ x with
  |some ⟨.agg r,e⟩=>match Bc r,FU d 0 r Γ with
   |some n,some p=>some ⟨(.s d,.ptr d 0)::(.o d,.box n none)::p.1,D r,e,fun ρ y=>((),(),p.2 ρ y)⟩
   |_,_=>none
  |some ⟨t,e⟩=>if Fz t=true then some ⟨(.s d,.ptr d 0)::(.o d,.box 1 none)::(.c d 0,.v t)::Γ,D t,e,fun ρ y=>((),(),y,ρ)⟩else none
  |none=>none
 | .mksl e size parts=>match X.TT e with
  |some t=>match IO Γ t parts with
   |some l=>if t.val=true/\Bc (BV t)=some size then some ⟨(.s d,.own d)::(.o d,.arr e size t)::Γ,List (D t),l,fun ρ y=>((),y,ρ)⟩else none
   |none=>none
  |none=>none
 | .mkmap mt kt z=>match X.TM mt with
  |some (k,v)=>if Cg v [z]=true/\dd kt k=true/\Eg k=true then some ⟨(.s d,.mp d)::(.o d,.mob mt k v)::Γ,Unit,.tot fun _=>(),fun ρ _=>((),[],ρ)⟩else none
  |none=>none
 | .make e size bytes z x y=>match X.TT e,ap Γ x,ap Γ y with
  |some t,some ⟨.int _,dx⟩,some ⟨.int _,dy⟩=>if Cg t [z]=true then some ⟨(.s d,.own d)::(.o d,.arr e size t)::Γ,List (D t),(dx.both dy).comp (.par fun p=>if 0<=p.1/\p.1<=p.2/\p.2*(bytes:Int)<=140737488355328/\p.2<=4611686018427387904 then some (List.replicate p.1.toNat (AT t))else none),fun ρ y=>((),y,ρ)⟩else none
  |_,_,_=>none
 | .nbytes e x=>match ap Γ x with
  |some ⟨.str,dx⟩=>some ⟨(.s d,.own d)::(.o d,.arr e 1 (.int .u8))::Γ,List Int,dx.comp (.par fun s=>if s.length<=70368744177664 then some (s.map fun b=>(b.toNat:Int))else none),fun ρ y=>((),y,ρ)⟩
  |_=>none
 | .mrange x=>match ap Γ x with
  |some ⟨.map k v,dx⟩=>some ⟨(.s d,.iter d)::(.o d,.mit k v)::Γ,List (D k×D v),dx,fun ρ y=>((),y,ρ)⟩
  |some ⟨.nmap,dx⟩=>none
  |_=>none
 | .siter x=>match ap Γ x with
  |some ⟨.str,e⟩=>some ⟨(.s d,.iter d)::(.o d,.sit)::Γ,List UInt8,e,fun ρ y=>((),(y,0),ρ)⟩
  |_=>none
 |_=>none
def KB(t:Ty)(x:SO):Option (ab (HS Γ) (List (D t))):=
 match cB Γ [] x with
 |some (_,⟨u,e⟩)=>match Bn u (.sl t)with
  |some g=>some (e.map fun _ y=>g y)
  |none=>none
 |none=>none
def Jd(t:Ty)(o n:Nat)(u:Ty):Option (D t->D u->D t):=
 match t with
 | .agg r=>match Bc (BV u),KR (BV u) r o with
  |some m,some q=>if h:q.1=r then if m=n/\u.val=true then some fun x y=>h▸q.2 x (G7 u y)else none else none
  |_,_=>none
 |t=>if n=1/\o=0/\Fz u=true then match Bn u t with
   |some g=>some fun _ y=>g y
   |none=>none
  else none
def Ld(id:Nat)(t:Ty)(o:Nat):(n j:Nat)->Option (Σ Γ':TC,HS Γ->Nat->D t->HS Γ')
 |0,_=>some ⟨Γ,fun ρ _ _=>ρ⟩
 |n+1,j=>match get Γ (.c id (o+j)),Ld id t o n (j+1)with
  |some ⟨.v u,f⟩,some p=>if h:u=t then some ⟨(.c id (o+j),.v t)::p.1,fun ρ i y=>(if i=j then y else(h▸f ρ:D t),p.2 ρ i y)⟩else none
  |_,_=>none
def Hc(d:Option Nat):aa->Option (bK Γ)
 | .store n a x=>match (b5 X.G Γ a).map (DI Γ [])with
  |some ⟨.ptr id o,.tot _⟩=>match get Γ (.o id)with
   |some ⟨.box nb bt,_⟩=>match b5 X.G Γ x with
    |some ⟨.v (.agg r),e⟩=>match Bc r,FU id o r Γ with
     |some m,some p=>if m=n/\o+n<=nb/\Fy r=true then some ⟨p.1,D r,e,fun ρ y=>p.2 ρ y⟩else none
     |_,_=>none
    |some ⟨.v t,e⟩=>if n=1/\o<nb/\Fz t=true then some ⟨(.c id o,.v t)::Γ,D t,e,fun ρ y=>(y,ρ)⟩else none
    |some ⟨.own i,.tot _⟩=>if n=1/\o<nb then some ⟨(.c id o,.own i)::Γ,Unit,.tot fun _=>(),fun ρ _=>((),ρ)⟩else none
    |some ⟨.mp i,.tot _⟩=>if n=1/\o<nb then some ⟨(.c id o,.mp i)::Γ,Unit,.tot fun _=>(),fun ρ _=>((),ρ)⟩else none
    |_=>none
   |_=>none
  |some ⟨.aptr id len o,di⟩=>match get Γ (.o id)with
   |some ⟨.box nb bt,_⟩=>match ap Γ x with
    |some ⟨t,e⟩=>match Ld Γ id t o len 0 with
     |some p=>if n=1/\o+len<=nb/\Fz t=true then some ⟨p.1,Nat×D t,di.both e,fun ρ z=>p.2 ρ z.1 z.2⟩else none
     |none=>none
    |none=>none
   |_=>none
  |some ⟨.eptr id size o,di⟩=>match get Γ (.o id)with
   |some ⟨.arr e sz t,xs⟩=>match ap Γ x with
    |some ⟨u,dx⟩=>match Jd t o n u with
     |some g=>if size=sz/\0<n/\t.val=true/\Bc (BV t)=some sz/\Fy (BV u)=true then some ⟨(.o id,.arr e sz t)::Γ,List (D t),((di.both dx).map fun ρ p=>((xs ρ)[p.1]?).map fun j=>(xs ρ).set p.1 (g j p.2)).comp (.par fun y=>y),fun ρ y=>(y,ρ)⟩else none
     |none=>none
    |none=>none
   |_=>none
  |some ⟨.v (.pt (.one .bool)),da⟩=>match ap Γ x with
   |some ⟨.bool,dx⟩=>if n=1 then some ⟨Γ,Unit,(da.both dx).comp (.par fun p=>if(show Bool from p.1)=(show Bool from p.2)then some ()else none),fun ρ _=>ρ⟩else none
   |_=>none
  |_=>none
 | .append e size bytes x y=>match b5 X.G Γ x with
  |some ⟨.own id,.tot _⟩=>match get Γ (.o id)with
   |some ⟨.arr e' size' t,xs⟩=>match KB Γ t y,d with
    |some l,some d=>if e'=e/\size'=size/\t.val=true/\Bc (BV t)=some size/\Fy (BV t)=true then some ⟨(.s d,.own id)::(.o id,.arr e size t)::Bv [id] Γ,List (D t),(l.map fun ρ b=>if(((xs ρ).length:Int)+(b.length:Int))*(bytes:Int)<=140737488355328/\((xs ρ).length:Int)+(b.length:Int)<=4611686018427387904 then some (xs ρ++b)else none).comp (.par fun y=>y),fun ρ y=>((),y,BP [id] ρ)⟩else none
    |_,_=>none
   |_=>none
  |some ⟨.v .nsl,.tot _⟩=>match X.TT e with
   |some t=>match KB Γ t y,d with
    |some l,some d=>if t.val=true/\Bc (BV t)=some size/\Fy (BV t)=true then some ⟨(.s d,.own d)::(.o d,.arr e size t)::Bv [d] Γ,List (D t),l.comp (.par fun b=>if(b.length:Int)*(bytes:Int)<=140737488355328/\(b.length:Int)<=4611686018427387904 then some b else none),fun ρ y=>((),y,BP [d] ρ)⟩else none
    |_,_=>none
   |none=>none
  |_=>none
 | .cpy e size x y=>match b5 X.G Γ x with
  |some ⟨.own id,.tot _⟩=>match get Γ (.o id)with
   |some ⟨.arr e' size' t,xs⟩=>match KB Γ t y,d with
    |some l,some d=>if e'=e/\size'=size/\t.val=true/\Bc (BV t)=some size/\Fy (BV t)=true then some ⟨(.s d,.v (.int .i64))::(.o id,.arr e size t)::Γ,List (D t),l,fun ρ b=>(((min b.length (xs ρ).length:Nat):Int),b.take (min b.length (xs ρ).length)++(xs ρ).drop (min b.length (xs ρ).length),ρ)⟩else none
    |_,_=>none
   |_=>none
  |_=>none
 | .mapent mt x k=>match b5 X.G Γ x,ap Γ k,d with
  |some ⟨.mp id,.tot _⟩,some q,some d=>match get Γ (.o id)with
   |some ⟨.mob mt' kt vt,m⟩=>match Bn q.1 kt with
    |some g=>if mt'=mt/\Eg kt=true then some ⟨(.s d,.ent id kt vt)::(.o id,.mob mt kt vt)::Γ,D kt×D vt,q.2.map fun ρ k=>(g k,(AW (aj kt) (AT vt) (g k) (m ρ)).1),fun ρ p=>(p,Bw (aj kt) p.1 p.2 (m ρ),ρ)⟩else none
    |none=>none
   |_=>none
  |_,_,_=>none
 | .entst x s v=>match b5 X.G Γ x,b5 X.G Γ s,ap Γ v with
  |some ⟨.mp id,.tot _⟩,some ⟨.stamp id' kt,.tot fs⟩,some q=>match get Γ (.o id)with
   |some ⟨.mob mt kt' vt,m⟩=>match Bn q.1 vt with
    |some g=>if h:kt=kt' then if id=id'/\Eg kt'=true then some ⟨(.o id,.mob mt kt' vt)::Γ,List (D kt'×D vt),(q.2.map fun ρ v=>if(AW (aj kt') (AT vt) (h▸fs ρ) (m ρ)).2=true then some (Bw (aj kt') (h▸fs ρ) (g v) (m ρ))else none).comp (.par fun y=>y),fun ρ y=>(y,ρ)⟩else none else none
    |none=>none
   |_=>none
  |_,_,_=>none
 | .mapupd mt x k v=>match b5 X.G Γ x,ap Γ k,ap Γ v with
  |some ⟨.mp id,.tot _⟩,some q,some p=>match get Γ (.o id)with
   |some ⟨.mob mt' kt vt,m⟩=>match Bn q.1 kt,Bn p.1 vt with
    |some g,some f=>if mt'=mt/\Eg kt=true then some ⟨(.o id,.mob mt kt vt)::Γ,List (D kt×D vt),(q.2.both p.2).map fun ρ z=>Bw (aj kt) (g z.1) (f z.2) (m ρ),fun ρ y=>(y,ρ)⟩else none
    |_,_=>none
   |_=>none
  |_,_,_=>none
 |_=>none
def QH(d:Option Nat):aa->Option (bK Γ)
 | .mcopy f x y=>if X.cp f=true then match b5 X.G Γ x,ap Γ y,d with
  |some ⟨.mp id,.tot _⟩,some ⟨.map .str ut,q⟩,some d=>match get Γ (.o id)with
   |some ⟨.mob mt .str vt,m⟩=>match Bn (.map .str ut) (.map .str vt)with
    |some g=>some ⟨(.s d,.v (.tup .nil))::(.o id,.mob mt .str vt)::Γ,List (List UInt8×D vt),(q.map fun ρ y=>IS (m ρ) (g y)).comp (.par fun y=>y),fun ρ y=>((),y,ρ)⟩
    |none=>none
   |_=>none
  |_,_,_=>none
 else match b5 X.G Γ x,y,d with
  |some ⟨.own id,.tot _⟩,.k (.fn g []),some d=>match get Γ (.o id),X.srt f g with
   |some ⟨.arr e size t,xs⟩,some s=>if h:t=s.t then if e=s.e/\size=s.size then some ⟨(.s d,.v (.tup .nil))::(.o id,.arr e size t)::Γ,List (D t),.par fun ρ=>ZD h s.fn (xs ρ),fun ρ y=>((),y,ρ)⟩else none else none
   |_,_=>none
  |_,_,_=>none
 |_=>none
def gD{A B:Type}(f:A->Bool)(a:Bool):ab A B->ab A (Option B)
 | .tot g=>.tot fun ρ=>if f ρ=a then some (g ρ)else none
 | .par g=>.par fun ρ=>if f ρ=a then(g ρ).map some else some none
def gO{A B:Type}(f:A->Option Bool)(a:Bool):ab A B->ab A (Option B)
 | .tot g=>.tot fun ρ=>if f ρ=some a then some (g ρ)else none
 | .par g=>.par fun ρ=>if f ρ=some a then(g ρ).map some else some none
def Oa(op:aa):Option (Σ k:EK,ab (HS Γ) (DK k)):=
 match op.cls with
 | .val| .grow=>R9 X.G Γ msk op
 | .call=>LZ X Γ msk op
 |_=>none
def QG(d:Nat):aa->Option (bK Γ)
 | .call f args=>match X.TN f with
  |some ⟨a,.nw e size t,fn⟩=>match get Γ (.o d)with
   |some ⟨.gone,_⟩=>match Gn Γ msk args with
    |some q=>match Bn q.2.1 a with
     |some g=>if(q.1||bQ t)=true then some ⟨(.s d,.own d)::(.o d,.arr e size t)::Γ,List (D t),(q.2.2.map fun _ x=>g x).comp (.par fn),fun ρ y=>((),y,ρ)⟩else none
     |none=>none
    |none=>none
   |_=>none
  |_=>none
 |_=>none
structure dz (Γ:TC) where
 Θ:TC
 r:Ty
 θ:HS Γ->HS Θ
 d:ab (HS Γ) (D r×HS Θ)
def Ph{Θ Θ':TC}{a r b:Ty}(fn:D a->HS Θ->Option (D r×HS Θ))(h:Θ=Θ')(c:r=b):D a->HS Θ'->Option (D b×HS Θ'):=h▸c▸fn
def JC(a:Ty)(Θ:TC)(r:Ty):(t:Ty)->Option (D t->D a->HS Θ->Option (D r×HS Θ))
 | .clo g c=>match X.TE g with
  |some s=>match Bn (BY a c).1 s.a with
   |some h=>if hΘ:s.Θ=Θ then(if b:s.r=r then some fun x y θ=>Ph s.fn hΘ b (h ((BY a c).2 y x)) θ else none)else none
   |none=>none
  |none=>none
 | .falt g c l=>match X.TE g,JC a Θ r l with
  |some s,some F=>match Bn (BY a c).1 s.a with
   |some h=>if hΘ:s.Θ=Θ then(if b:s.r=r then some fun x y θ=>match x with
     | .inl z=>Ph s.fn hΘ b (h ((BY a c).2 y z)) θ
     | .inr z=>F z y θ
    else none)else none
   |none=>none
  |_,_=>none
 |_=>none
def cm:aa->Option (dz Γ)
 | .call f args=>match X.TE f with
  |some s=>match GI Γ args,Cm Γ s.Θ with
   |some q,some g=>match Bn q.1 s.a with
    |some h=>some ⟨s.Θ,s.r,g,(q.2.map fun ρ x=>(h x,g ρ)).comp (.par fun p=>s.fn p.1 p.2)⟩
    |none=>none
   |_,_=>none
  |none=>none
 | .callv f args=>match ap Γ f,GI Γ args with
  |some ⟨.clo g c,d⟩,some q=>match X.TE g with
   |some s=>match Bc q.1,Bn (BY q.1 c).1 s.a,Cm Γ s.Θ with
    |some _,some h,some gθ=>some ⟨s.Θ,s.r,gθ,((q.2.both d).map fun ρ x=>(h ((BY q.1 c).2 x.1 x.2),gθ ρ)).comp (.par fun p=>s.fn p.1 p.2)⟩
    |_,_,_=>none
   |none=>none
  |some ⟨.falt g c l,d⟩,some q=>match X.TE g with
   |some s=>match Bc q.1,Cm Γ s.Θ,JC X q.1 s.Θ s.r (.falt g c l)with
    |some _,some gθ,some F=>some ⟨s.Θ,s.r,gθ,((q.2.both d).map fun ρ x=>(x,gθ ρ)).comp (.par fun p=>F p.1.2 p.1.1 p.2)⟩
    |_,_,_=>none
   |none=>none
  |_,_=>none
 |_=>none
def HZ(l:SL):Option (bK Γ):=
 match cm X Γ l.op with
 |some e=>if au e.Θ=true then match l.guard,l.dst with
  |none,some d=>some ⟨(.s d,.v e.r)::(e.Θ++Bv (AK e.Θ) Γ),D e.r×HS e.Θ,e.d,fun ρ p=>(p.1,CK e.Θ p.2 (BP (AK e.Θ) ρ))⟩
  |none,none=>some ⟨e.Θ++Bv (AK e.Θ) Γ,D e.r×HS e.Θ,e.d,fun ρ p=>CK e.Θ p.2 (BP (AK e.Θ) ρ)⟩
  |some (g,want),some d=>match get Γ (.s g)with
   |some ⟨.v .bool,f⟩=>some ⟨(.s d,.opt (.v e.r))::(e.Θ++Bv (AK e.Θ) Γ),Option (D e.r×HS e.Θ),gD f want e.d,fun ρ b=>(b.map fun p=>p.1,CK e.Θ (match b with
         |some p=>p.2
         |none=>e.θ ρ) (BP (AK e.Θ) ρ))⟩
   |some ⟨.opt (.v .bool),f⟩=>some ⟨(.s d,.opt (.v e.r))::(e.Θ++Bv (AK e.Θ) Γ),Option (D e.r×HS e.Θ),gO f want e.d,fun ρ b=>(b.map fun p=>p.1,CK e.Θ (match b with
         |some p=>p.2
         |none=>e.θ ρ) (BP (AK e.Θ) ρ))⟩
   |_=>none
  |_,_=>none
  else none
 |none=>none
def Ia(l:SL):Option (bK Γ):=
 match l.guard with
 |none=>match l.op.cls with
  | .new=>match l.dst with
   |some d=>match get Γ (.o d)with
    |some ⟨.gone,_⟩=>F0 X Γ d l.op
    |_=>none
   |none=>none
  | .eff=>Hc X Γ l.dst l.op
  | .copy=>QH X Γ l.dst l.op
  |_=>match Oa X Γ (af l.op msk) l.op with
   |some q=>match l.dst with
    |some d=>some ⟨(.s d,q.1)::Γ,DK q.1,q.2,fun ρ x=>(x,ρ)⟩
    |none=>some ⟨Γ,DK q.1,q.2,fun ρ _=>ρ⟩
   |none=>match l.dst with
    |some d=>QG X Γ (af l.op msk) d l.op
    |none=>none
 |some (g,want)=>match Oa X Γ (af l.op msk) l.op,l.dst with
  |some q,some d=>match get Γ (.s g)with
   |some ⟨.v .bool,f⟩=>some ⟨(.s d,.opt q.1)::Γ,Option (DK q.1),gD f want q.2,fun ρ x=>(x,ρ)⟩
   |some ⟨.opt (.v .bool),f⟩=>some ⟨(.s d,.opt q.1)::Γ,Option (DK q.1),gO f want q.2,fun ρ x=>(x,ρ)⟩
   |_=>none
  |_,_=>none
def cC(l:SL):Option (bK Γ):=
 match HZ X Γ l with
 |some o=>some o
 |none=>Ia X Γ msk l
end
section
variable {X:TP} {E:ah} {Γ:TC} {msk:List Nat} {ρ:HS Γ} {st:St} {rd:Nat->Ob}
theorem N6{x:SO}{fl:Bool}{q:Σ t:Ty,ab (HS Γ) (D t)}(h:cB Γ msk x=some (fl,q))(j:ae Γ ρ st)(l:∀id,msk.contains id=false->rd id=st.ob id){a:D q.1}(m:q.2.val ρ=some a){G:Nat->List CV}:
  ∃c,C9 rd (so G st.fr x)=some c/\Can q.1 a [c]/\(fl=true->bT (so G st.fr x)=true)/\
   (so G st.fr x=.c c\/(∃id e size es,so G st.fr x=.osl id/\rd id=.arr e size es/\c=.sl none es)\/∃A ks vs,c=.map A ks vs):=by
 cases x with
 |t i=>
  simp only[cB]at h;split at h
  ·rename_i t f d;cases h;cases m;obtain⟨c,e,w⟩:=j.s i _ d;have b:so G st.fr (.t i)=.c c:=e;exact⟨c,by rw[b];rfl,w,fun _=>by rw[b];rfl,.inl b⟩
  ·rename_i t f d;cases h;have:=j.s i _ d;have y:f ρ=some a:=m;unfold RS at this;simp only[y]at this;unfold RS at this;obtain⟨c,e,w⟩:=this;have b:so G st.fr (.t i)=.c c:=e;exact⟨c,by rw[b];rfl,w,fun _=>by rw[b];rfl,.inl b⟩
  ·rename_i id f d;split at h<;>(try cases h;done);rename_i b size t xs o;cases h;cases m;obtain⟨es,e,u⟩:=Fj o j l;have n:so G st.fr (.t i)=.osl id:=j.s i _ d;exact⟨.sl none es,by rw[n];simp only[C9,e],by unfold Can;exact⟨_,_,rfl,u⟩,(fun r=>by cases r),.inr (.inl ⟨id,_,_,es,n,e,rfl⟩)⟩
  ·rename_i id f d;split at h<;>(try cases h;done);rename_i mt k v xs o;cases h;cases m;obtain⟨z,ks,vs,e,_,F,B⟩:=Fj o j l;have n:so G st.fr (.t i)=.omap id:=j.s i _ d;exact⟨.map none ks vs,by rw[n];simp only[C9,e],by unfold Can;exact⟨_,_,_,rfl,F,B⟩,(fun r=>by cases r),.inr (.inr ⟨_,_,_,rfl⟩)⟩
  ·cases h
 |k c=>
  simp only[cB]at h;split at h<;>(try cases h;done);rename_i p C;cases h;cases m;exact⟨c,rfl,JM C,fun _=>rfl,.inl rfl⟩
 |g i=>cases h
theorem J0(g:ae Γ ρ st)(d:∀id,msk.contains id=false->rd id=st.ob id){G:Nat->List CV}:∀{xs:List SO} {fl:Bool} {q:Σ r:Ty,ab (HS Γ) (D r)} {a:D q.1},Gn Γ msk xs=some (fl,q)->q.2.val ρ=some a->
  ∃l,A5 (fun x=>C9 rd (so G st.fr x)) xs=some l/\Can q.1 a l/\(fl=true->(xs.all fun x=>bT (so G st.fr x))=true)
 | [],fl,q,a,h,ha=>by
  simp only[Gn,Ac]at h;cases h;exact⟨[],rfl,by unfold Can;rfl,fun _=>rfl⟩
 | [x],fl,q,a,h,ha=>by
  simp only[Gn]at h;split at h<;>(try cases h;done);rename_i p j;cases h;obtain⟨c,n,m,k,_⟩:=N6 (G:=G) (fl:=p.1) (q:=p.2) j g d ha;exact⟨[c],by simp[A5,n],by unfold Can;exact⟨c,rfl,m⟩,fun f=>by simp[k f]⟩
 |x::y::xs,fl,q,a,h,ha=>by
  simp only[Gn]at h;split at h<;>(try cases h;done);rename_i p o j i;cases h;obtain⟨w,v⟩:=ab.both_val ha;obtain⟨c,n,m,k,_⟩:=N6 (G:=G) (fl:=p.1) (q:=p.2) j g d w;obtain⟨l,u,t,s⟩:=J0 g d (G:=G) (fl:=o.1) (q:=o.2) i v;refine⟨c::l, ?_,by unfold Can;exact⟨c,l,rfl,m,t⟩,fun f=> ?_⟩
  ·have e:A5 (fun x=>C9 rd (so G st.fr x)) (x::y::xs)=(C9 rd (so G st.fr x)).bind fun b=>(A5 (fun x=>C9 rd (so G st.fr x)) (y::xs)).map fun bs=>b::bs:=rfl;rw[e,n,u];rfl
  ·simp only[Ag]at f;have:=s f.2;rw[List.all_cons,k f.1,this];rfl
theorem P0{t:Ty}{x:D t}(a:t.val=true)(b:t.ok=true)(c:bQ t=true):memless (enc t x)=true:=by
 have:=Wz c (Can.enc x a b);simpa[CD]using this
theorem Z6(hT:aG X E){a i:Ty}{fl:Bool}{n:Nat}(L:Bc a=some n):∀{t:Ty} {F:D t->D a->Option (D i)} {x:D t} {y:D a} {z:D i} {c:CV} {l:List CV},Ix X a i fl t=some F->F x y=some z->Can t x [c]->Can a y l->
  ∃g b s v,c=.fn g b/\E.fn g (l++b)=some (.val (enc (Sig.r s) v))/\Can i z [enc s.r v]/\(fl||memless (enc s.r v))=true/\E.ef g=none:=by
 have one:∀{g:Nat} {r:Ty} {s:Sig} {h:D (BY a r).1->D s.a} {k:D s.r->D i} {c:D r} {y:D a} {z:D i} {b l:List CV},X.T g=some s->Bn (BY a r).1 s.a=some h->Bn s.r i=some k->(fl||bQ s.r)=true->(s.fn (h ((BY a r).2 y c))).map k=some z->Can r c b->Can a y l->
   ∃v,E.fn g (l++b)=some (.val (enc s.r v))/\Can i z [enc s.r v]/\(fl||memless (enc s.r v))=true:=by
  intro g r s h k c y z b l j u M o f N m;obtain⟨v,q,p⟩:=Aa.1 f;obtain⟨I,H,J⟩:=hT.fn g s j;refine⟨v,J _ _ v (CA _ _ u (Is L m N)) q,p▸CA _ _ M (Can.enc v I H), ?_⟩
  cases fl with
  |true=>rfl
  |false=>
   simp only[Bool.false_or]at o⊢;exact P0 I H o
 intro t
 induction t with
 |clo g r _=>
  intro F x y z c l h f d m;simp only[Ix]at h;split at h<;>(try cases h;done);rename_i s j;split at h<;>(try cases h;done);rename_i u K q p;split at h<;>(try cases h;done);rename_i o;cases h;unfold Can at d;obtain⟨b,e,d⟩:=d;cases e;obtain⟨v,C,B,A⟩:=one j q p o f d m;exact⟨g,b,s,v,rfl,C,B,A,hT.ef g (.inl (by rw[j];rfl))⟩
 |falt g r l' _ ihl=>
  intro F x y z c l h f d m;simp only[Ix]at h;split at h<;>(try cases h;done);rename_i s j;split at h<;>(try cases h;done);rename_i u K P q p O;split at h<;>(try cases h;done);rename_i o;cases h
  cases x with
  |inl w=>
   unfold Can at d;obtain⟨b,e,d⟩:=d;cases e;obtain⟨v,C,B,A⟩:=one j q p o f d m;exact⟨g,b,s,v,rfl,C,B,A,hT.ef g (.inl (by rw[j];rfl))⟩
  |inr w=>
   unfold Can at d;exact ihl O f d.2 m
 |nfn=>
  intro F x y z c l h f;simp only[Ix,Ac]at h;subst h;cases f
 |_=>intro F x y z c l h;cases h
theorem Z7(hT:aG X E)(H:ae Γ ρ st)(j:∀id,msk.contains id=false->rd id=st.ob id){op:aa}{q:Σ k:EK,ab (HS Γ) (DK k)}{y:DK q.1}(Y:op.cls=.call)(h:LZ X Γ msk op=some q)(w:q.2.val ρ=some y)(d:Option Nat):
  ∃v,AM E rd st d op=some (st.set d (.c v))/\RS q.1 y (.c v):=by
 cases op<;>(try cases h;done)
 case call f args=>
  simp only[LZ]at h;split at h<;>(try cases h;done);rename_i s A;split at h<;>(try cases h;done);rename_i p I;split at h<;>(try cases h;done);rename_i g hg;split at h<;>(try cases h;done);rename_i m;cases h;try dsimp only at w
  obtain⟨z,P,O⟩:=ab.comp_val w;obtain⟨a,t,T⟩:=ab.map_val P;subst T;obtain⟨l,N,M,L⟩:=J0 H j (G:=E.G) (fl:=p.1) (q:=p.2) I t;obtain⟨D,C,Q⟩:=hT.fn f s A;have K:=Q _ l y (CA _ _ hg M) O;refine⟨enc s.r y, ?_,_,rfl,Can.enc y D C⟩
  have J:((args.all fun x=>bT (so E.G st.fr x))||(bh.val (enc s.r y)).memless)=true:=by
   cases b:p.1 with
   |true=>rw[L b];rfl
   |false=>
    rw[b]at m;simp only[Bool.false_or]at m;simp[bh.memless,P0 D C m]
  simp only[AM,aa.cls,hT.ef f (.inl (by rw[A];rfl)),DG,N,Ap,List.append_nil,K,J,if_true,EM]
 case callv f args=>
  simp only[LZ]at h;split at h<;>(try cases h;done)
  case h_2=>
   rename_i g r lt e S;split at h<;>(try cases h;done);rename_i s A;split at h<;>(try cases h;done);rename_i p I;split at h<;>(try cases h;done);rename_i n F R hF;cases h;try dsimp only at w
   obtain⟨z,P,O⟩:=ab.comp_val w;obtain⟨t,o⟩:=ab.both_val P;obtain⟨l,N,M,L⟩:=J0 H j (G:=E.G) (fl:=p.1) (q:=p.2) I t;obtain⟨c,W,B⟩:=AP (G:=E.G) S H o;obtain⟨g',i,s',v,V,K,h9,u,U⟩:=Z6 hT R hF O B M;subst V;refine⟨enc s'.r v, ?_,_,rfl,h9⟩
   have J:((args.all fun x=>bT (so E.G st.fr x))||(bh.val (enc s'.r v)).memless)=true:=by
    cases b:p.1 with
    |true=>rw[L b];rfl
    |false=>
     rw[b]at u;simp only[Bool.false_or]at u;simp[bh.memless,u]
   simp only[AM,aa.cls,W,U,DG,N,Ap,K,J,if_true,EM]
  rename_i g r e S;split at h<;>(try cases h;done);rename_i s A;split at h<;>(try cases h;done);rename_i p I;split at h<;>(try cases h;done);rename_i n k R Z;split at h<;>(try cases h;done);rename_i m;cases h;try dsimp only at w
  obtain⟨z,P,O⟩:=ab.comp_val w;obtain⟨a,t,T⟩:=ab.map_val P;obtain⟨t,o⟩:=ab.both_val t;subst T;obtain⟨l,N,M,L⟩:=J0 H j (G:=E.G) (fl:=p.1) (q:=p.2) I t;obtain⟨c,W,B⟩:=AP (G:=E.G) S H o;unfold Can at B;obtain⟨i,V,B⟩:=B;cases V;obtain⟨D,C,Q⟩:=hT.fn g s A;have K:=Q _ (l++i) y (CA _ _ Z (Is R M B)) O;refine⟨enc s.r y, ?_,_,rfl,Can.enc y D C⟩
  have J:((args.all fun x=>bT (so E.G st.fr x))||(bh.val (enc s.r y)).memless)=true:=by
   cases b:p.1 with
   |true=>rw[L b];rfl
   |false=>
    rw[b]at m;simp only[Bool.false_or]at m;simp[bh.memless,P0 D C m]
  simp only[AM,aa.cls,W,hT.ef g (.inl (by rw[A];rfl)),DG,N,Ap,K,J,if_true,EM]
theorem Oc(hT:aG X E)(i:ae Γ ρ st)(b:∀id,msk.contains id=false->rd id=st.ob id){op:aa}{q:Σ k:EK,ab (HS Γ) (DK k)}{y:DK q.1}(h:Oa X Γ msk op=some q)(g:q.2.val ρ=some y)(d:Option Nat):
  ∃sv,AM E rd st d op=some (st.set d sv)/\RS q.1 y sv:=by
 unfold Oa at h;split at h
 ·rename_i a;obtain⟨sv,e,f⟩:=YE i b h g;rw[<-hT.G]at e;exact⟨sv,by simp only[AM,a,e,Aq],f⟩
 ·rename_i a;obtain⟨sv,e,f⟩:=YE i b h g;rw[<-hT.G]at e;exact⟨sv,by simp only[AM,a,e,Aq],f⟩
 ·rename_i a;obtain⟨v,e,f⟩:=Z7 hT i b a h g d;exact⟨.c v,e,f⟩
 ·cases h
theorem Agl(m:ae Γ ρ st){d:Nat}{op:aa}{o:bK Γ}{b:o.B}(h:F0 X Γ d op=some o)(D:o.d.val ρ=some b):∃v ob,By (so X.G st.fr) d op=some (v,ob)/\ae o.Γ' (o.up ρ b) {fr:=ac st.fr d v,ob:=ac st.ob d ob}:=by
 cases op<;>(try cases h;done)
 case alloc z=>
  simp only[F0]at h;split at h<;>(try cases h;done);rename_i q M;split at h<;>(try cases h;done);rename_i p I;cases h;have J:=I2 M;obtain⟨A,u⟩:=KQ (ρ:=ρ) I J;refine⟨.ptr d 0,.box (z.map .c) none,rfl,ae.newObj m A ⟨z.map .c,rfl,by simp,fun j L Y w=> ?_⟩ rfl⟩;rcases u j L w with⟨_,c,F,K⟩|⟨F,_⟩
  ·exact⟨.c c,by simpa using F,K⟩
  ·omega
 case allocT T z=>
  simp only[F0]at h;split at h<;>(try cases h;done);rename_i q M;split at h<;>(try cases h;done);rename_i p I;cases h;have J:=I2 M;obtain⟨A,u⟩:=KQ (ρ:=ρ) I J;refine⟨.ptr d 0,.box (z.map .c) (some T),rfl,ae.newObj m A ⟨z.map .c,rfl,by simp,fun j L Y w=> ?_⟩ rfl⟩;rcases u j L w with⟨_,c,F,K⟩|⟨F,_⟩
  ·exact⟨.c c,by simpa using F,K⟩
  ·omega
 case box x=>
  simp only[F0]at h;split at h<;>(try cases h;done)
  ·rename_i r e H;split at h<;>(try cases h;done);rename_i n p S I;cases h;try dsimp only at D
   obtain⟨c,C,g⟩:=AP (G:=X.G) H m D;unfold Can at g;obtain⟨l,e3,g⟩:=g;cases e3;have U:=Fe S g;obtain⟨A,u⟩:=KQ (ρ:=ρ) I g;refine⟨.ptr d 0,.box (l.map .c) none,by simp only[By,C],ae.newObj m A ⟨l.map .c,rfl,by simp[U],fun j L Y w=> ?_⟩ rfl⟩;rcases u j L w with⟨_,c,F,K⟩|⟨F,_⟩
   ·exact⟨.c c,by have Z:l[j]? =some c:=by simpa using F
                  simp[Z],K⟩
   ·omega
  ·rename_i t e hne H;split at h<;>(try cases h;done);rename_i A;cases h;try dsimp only at D
   obtain⟨c,C,g⟩:=AP (G:=X.G) H m D
   have S:By (so X.G st.fr) d (.box x)=some (.ptr d 0,.box [.c c] none):=by
    simp only[By,C];have:=Hb A g;cases c<;>first|rfl|(simp[C7]at this)
   refine⟨_,_,S, ?_⟩
   have Q:D3 d Γ ρ ((.c d 0,.v t)::Γ) (b,ρ):=fun p q M=>by
    by_cases I:aw.c d 0=p
    ·exact .inl ⟨0,I.symm⟩
    ·obtain⟨f,hf,e⟩:=CB I M;exact .inr ⟨f,hf,e _⟩
   refine ae.newObj m Q ⟨[.c c],rfl,rfl,fun j L Y w=> ?_⟩ rfl;have W:j=0:=by omega
   subst W;rw[Dh]at w;cases w;exact⟨.c c,rfl,c,rfl,g⟩
 case mksl e size parts=>
  simp only[F0]at h;split at h<;>(try cases h;done);rename_i t ht;split at h<;>(try cases h;done);rename_i l U;split at h<;>(try cases h;done);rename_i P;cases h;obtain⟨cs,A,u⟩:=Qp m (G:=X.G) U D
  have O:(cs.all fun v=>Bk v==size)=true:=by
   rw[As];intro c J;obtain⟨i,hi⟩:=List.getElem?_of_mem J;obtain⟨a,_,h7⟩:=u.getB hi;simp[(GJ P.1 P.2 h7).2]
  refine⟨.osl d,.arr e size cs, ?_,ae.newObj m (D3.refl d) ⟨cs,rfl,u⟩ rfl⟩;simp only[By];rw[A,Ap,Ao O]
 case mkmap mt kt z=>
  simp only[F0]at h;split at h<;>(try cases h;done);rename_i k v hm;split at h<;>(try cases h;done);rename_i hh;cases h;have V:=VU hh.2.1;subst V;exact⟨.omap d,.map mt (b3 k) z [] [],rfl,ae.newObj m (D3.refl d) ⟨z,[],[],rfl,RH hh.1,rfl,rfl⟩ rfl⟩
 case make e size bytes z x y=>
  simp only[F0]at h;split at h<;>(try cases h;done);rename_i t k dx k' dy ht Q hy;split at h<;>(try cases h;done);rename_i hz;cases h;obtain⟨p,A,u⟩:=ab.comp_val D;obtain⟨F,K⟩:=ab.both_val A;obtain⟨c1,C,g1⟩:=AP (G:=X.G) Q m F;obtain⟨c2,g,g2⟩:=AP (G:=X.G) hy m K;unfold Can at g1 g2;cases g1;cases g2;simp only[ab.val]at u;split at u<;>(try cases u;done);rename_i J;cases u;refine⟨.osl d,.arr e size (List.replicate p.1.toNat z), ?_,ae.newObj m (D3.refl d) ⟨_,rfl,CanAll.replicate (R:=fun x c=>Can t x [c]) (RH hz) _⟩ rfl⟩;simp only[By,C,g];rw[Ao J]
 case nbytes e x=>
  simp only[F0]at h;split at h<;>(try cases h;done);rename_i dx H;cases h;obtain⟨s,A,u⟩:=ab.comp_val D;obtain⟨c,C,g⟩:=AP (G:=X.G) H m A;unfold Can at g;cases g;simp only[ab.val]at u;split at u<;>(try cases u;done);rename_i N;cases u;refine⟨.osl d,.arr e 1 (s.map fun b=>.int .u8 b.toNat), ?_,ae.newObj m (D3.refl d) ⟨_,rfl, ?_⟩ rfl⟩
  ·simp only[By,C];rw[Ao N]
  ·clear A C D N
   induction s with
   |nil=>rfl
   |cons b s ih=>exact⟨_,_,rfl,by unfold Can;rfl,ih⟩
 case siter x=>
  simp only[F0]at h;split at h<;>(try cases h;done);rename_i e H;cases h;obtain⟨c,C,g⟩:=AP (G:=X.G) H m D;unfold Can at g;cases g;exact⟨.iter d,.siter b 0,by simp only[By,C],ae.newObj m (D3.refl d) rfl rfl⟩
 case mrange x=>
  simp only[F0]at h;split at h<;>(try cases h;done);rename_i k v dx H;cases h;obtain⟨c,C,g⟩:=AP (G:=X.G) H m D;unfold Can at g;obtain⟨nl,ks,vs,e',V,P⟩:=g;cases e';exact⟨.iter d,.miter ks vs none,by simp only[By,C],ae.newObj m (D3.refl d) ⟨_,_,_,rfl,V,P⟩ rfl⟩
theorem Q7(i:ae Γ ρ st){G:Nat->List CV}{t:Ty}{x:SO}{l:ab (HS Γ) (List (D t))}{d:List (D t)}(h:KB Γ t x=some l)(f:l.val ρ=some d):∃es,CF st (so G st.fr x)=some es/\CanAll (fun x c=>Can t x [c]) d es:=by
 unfold KB at h;split at h<;>(try cases h;done);rename_i fl u e k;split at h<;>(try cases h;done);rename_i g j;cases h;obtain⟨y,o,n⟩:=ab.map_val f;obtain⟨c,r,m,_,a⟩:=N6 (msk:= []) (rd:=st.ob) (G:=G) k i (fun _ _=>rfl) o;have b:=CA _ _ j m;unfold Can at b;obtain⟨q,es,p,b⟩:=b;cases p;refine⟨es, ?_,n▸b⟩;rcases a with a|⟨id,e',size,es',a,h7,h8⟩|⟨nl',ks,vs,a⟩
 ·rw[a];rfl
 ·cases h8;rw[a];simp only[CF,h7]
 ·cases a
theorem Ag6{t u:Ty}{o n:Nat}{g:D t->D u->D t}(h:Jd t o n u=some g){x:D t}{y:D u}{c b:CV}(z:t.val=true)(a:Can t x [c])(i:Can u y [b]):
  Bk b=n/\o+n<=Bk c/\Can t (g x y) [G5 c o n b]:=by
 have single:∀{f:D u->D t},n=1/\o=0/\Fz u=true->Bn u t=some f->(∀l,c≠ .agg l)->Bk b=n/\o+n<=Bk c/\Can t (f y) [G5 c o n b]:=by
  intro f ⟨h1,h2,h3⟩ d hna;have C:=Hb h3 i;have L:Bk b=1:=by cases b<;>first|rfl|(simp[C7]at C)
  have K:Bk c=1:=by cases c<;>first|rfl|(exact absurd rfl (hna _))
  have H:G5 c o n b=b:=by cases c<;>first|rfl|(exact absurd rfl (hna _))
  rw[H];exact⟨by omega,by omega,CA _ _ d i⟩
 cases t
 case agg r=>
  simp only[Jd]at h;split at h<;>(try cases h;done);rename_i m q F B;split at h<;>(try cases h;done);rename_i A;split at h<;>(try cases h;done);rename_i j;cases h;obtain⟨J,f⟩:=q;simp only at A;subst A;unfold Can at a;obtain⟨l,e,a⟩:=a;cases e;obtain⟨w,v⟩:=Xl B a (Hl j.2 i);obtain⟨n1,n2⟩:=GJ j.2 F i;rw[n1]at w v;rw[j.1]at n2 w v;refine⟨n2,v, ?_⟩;unfold Can;exact⟨_,rfl,w⟩
 case falt f0 r0 l0=>
  simp only[Jd]at h;split at h<;>(try cases h;done);rename_i p;split at h<;>(try cases h;done);rename_i f d;have s:=Option.some.inj h;rw[<-s];refine single p d fun l k=> ?_;subst k;obtain⟨M,e,_,I⟩:=MF (t:=.falt f0 r0 l0) z a;cases e;exact(I _).1 rfl
 all_goals(try(cases z;done))
 all_goals
  simp only[Jd]at h;split at h<;>(try cases h;done);rename_i p;split at h<;>(try cases h;done);rename_i f d;have s:=Option.some.inj h;rw[<-s];refine single p d fun l k=> ?_;subst k;unfold Can at a
  first
   |(rcases a with e|e|e<;>(cases e;done))
   |(cases a;done)
   |(obtain⟨_,e,_⟩:=a;cases e;done)
   |(obtain⟨_,_,e,_⟩:=a;cases e;done)
   |(obtain⟨_,_,_,e,_⟩:=a;cases e;done)
   |(cases x<;>cases a;done)
theorem TJ{a β:Type}{eq:a->a->Bool}{z:β}{x:a}{y:β}:∀{m:List (a×β)},(AW eq z x m).2=true->(Bw eq x y m).map (·.1)=m.map (·.1)
 | [],h=>by cases h
 |p::m,h=>by
  unfold AW at h;unfold Bw;split
  ·rfl
  ·rename_i b;rw[An b]at h;simp[TJ h]
theorem CanAll.fst{d β γ:Type}{R:d->γ->Prop}:∀{m a:List (d×β)} {ks:List γ},m.map (·.1)=a.map (·.1)->CanAll (fun x c=>R x.1 c) m ks->CanAll (fun x c=>R x.1 c) a ks
 | [],[],_,_,h=>h
 | [],_::_,_,e,_=>by cases e
 |_::_,[],_,e,_=>by cases e
 |p::m,p'::a,ks,e,h=>by
  simp only[List.map_cons,List.cons.injEq]at e;obtain⟨c,b,rfl,g,f⟩:=h;exact⟨c,b,rfl,(by show R p'.1 c;rw[<-e.1];exact g),CanAll.fst e.2 f⟩
theorem Gp{bt:Option TypeId}{id b off:Nat}{fo:HS Γ->DK (.box b bt)}{cs:List SV}{k:EK}{x:DK k}{sv:SV}(r:ae Γ ρ st)(s:get Γ (.o id)=some ⟨.box b bt,fo⟩)(t:cs.length=b)(i:∀j q,j<b->get Γ (.c id j)=some q->∃sv,cs[j]? =some sv/\RS q.1 (q.2 ρ) sv)
  (m:off<b) (n:RS k x sv):ae ((.c id off,k)::Γ) (x,ρ) {st with ob:=ac st.ob id (.box (cs.set off sv) bt)}:=by
 refine ae.turnCells r (Γc:=(.c id off,k)::Γ) (ρc:=(x,ρ)) (fun p q d=> ?_) s (cs:=cs.set off sv) (by simp[t]) fun j q u d=> ?_
 ·by_cases l:aw.c id off=p
  ·exact .inl ⟨off,l.symm⟩
  ·obtain⟨f,h,e⟩:=CB l d;exact .inr ⟨f,h,e _⟩
 ·by_cases a:off=j
  ·subst a;rw[Dh]at d;cases d;exact⟨sv,by simp[List.getElem?_set];omega,n⟩
  ·obtain⟨f,h,y⟩:=CB (by simpa using a) d;obtain⟨g,w,v⟩:=i j _ u h;exact⟨g,by simp[a,w],(y _)▸v⟩
theorem ae.newObjS{d id:Nat}{k ko:EK}{x:DK k}{y:DK ko}{v:SV}{o:Ob}(h:ae Γ ρ st)(b:RO Γ ρ id ko y o)(a:RS k x v):
  ae ((.s d,k)::(.o id,ko)::Γ) (x,y,ρ) {fr:=ac st.fr d v,ob:=ac st.ob id o}:=by
 have e:=ae.turnObj h b;have c:=ae.set e (d:=d) a;exact c
theorem Yg{id:Nat}{t:Ty}{o s:Nat}{cs:List SV}(g:∀j q,j<s->get Γ (.c id j)=some q->∃sv,cs[j]? =some sv/\RS q.1 (q.2 ρ) sv){i:Nat}{y:D t}{c:CV}(z:Can t y [c]):∀{n j:Nat} {p:Σ Γ':TC,HS Γ->Nat->D t->HS Γ'},Ld Γ id t o n j=some p->o+j+n<=s->
  D3 id Γ ρ p.1 (p.2 ρ i y)/\∀a q,get p.1 (.c id a)=some q->(o+j<=a/\a<o+j+n/\∃sv,(if a=o+i then some (.c c)else cs[a]?)=some sv/\RS q.1 (q.2 (p.2 ρ i y)) sv)\/((a<o+j\/o+j+n<=a)/\∃f,get Γ (.c id a)=some ⟨q.1,f⟩/\q.2 (p.2 ρ i y)=f ρ)
 |0,j,p,h,_=>by
  simp only[Ld,Ac]at h;subst h;exact⟨D3.refl id,fun a q b=>.inr ⟨by omega,q.2,b,rfl⟩⟩
 |n+1,j,p,h,hb=>by
  simp only[Ld]at h;split at h<;>(try cases h;done);rename_i u f M F m;split at h<;>(try cases h;done);rename_i C;subst C;cases h;obtain⟨K,J⟩:=Yg g z m (by omega);refine⟨fun k q b=> ?_,fun a q b=> ?_⟩
  ·by_cases w:aw.c id (o+j)=k
   ·exact .inl ⟨_,w.symm⟩
   ·obtain⟨L,d,e⟩:=CB w b;rcases K _ _ d with hh|⟨r,hf2,e2⟩
    ·exact .inl hh
    ·exact .inr ⟨r,hf2,(e _).trans e2⟩
  ·by_cases x:a=o+j
   ·subst x;rw[Dh]at b;cases b;refine .inl ⟨by omega,by omega, ?_⟩;by_cases hi:i=j
    ·subst hi;refine⟨.c c,by simp,c,rfl, ?_⟩;simpa using z
    ·obtain⟨sv,I,H⟩:=g (o+j) _ (by omega) F;refine⟨sv,by rw[An (by omega)];exact I, ?_⟩;simp only[hi,if_false];exact H
   ·obtain⟨L,d,e⟩:=CB (by simpa using Ne.symm x) b;rcases J a _ d with⟨B,v,sv,l,A⟩|⟨B,r,v,l⟩
    ·exact .inl ⟨by omega,by omega,sv,l,(e _)▸A⟩
    ·exact .inr ⟨by omega,r,v,(e _).trans l⟩
theorem Agk(A:ae Γ ρ st){d:Option Nat}{op:aa}{o:bK Γ}{b:o.B}(h:Hc X Γ d op=some o)(hb:o.d.val ρ=some b):∃st',AY d (so X.G st.fr) st op=some st'/\ae o.Γ' (o.up ρ b) st':=by
 cases op<;>(try cases h;done)
 case store n a x=>
  simp only[Hc]at h;split at h<;>(try cases h;done)
  ·rename_i id off fa ha;have T:deref st.ob (so X.G st.fr a)=.ptr id off:=G6 ha A (fun _ _=>rfl) (a:=fa ρ) rfl rfl;split at h<;>(try cases h;done);rename_i nb fo M;obtain⟨cs,e,hl,Z⟩:=A.o id _ M;split at h<;>(try cases h;done)
   ·rename_i r ex H;split at h<;>(try cases h;done);rename_i m p hm hp;split at h<;>(try cases h;done);rename_i C;cases h;obtain⟨c,L,D⟩:=Bf H A hb;unfold Can at D;obtain⟨l,e3,D⟩:=D;cases e3;have hlen:=Fe hm D;obtain⟨V,K⟩:=KQ (ρ:=ρ) hp D;refine⟨_, ?_,ae.turnCells A V M (cs:=FY cs off (l.map .c)) ?_ fun j q hj hq=> ?_⟩
    ·simp only[AY,T,e,L];rw[Ao ⟨by omega,by omega,QF C.2.2 D⟩]
    ·simp[FY];omega
    ·rcases K j q hq with⟨U,c,J,h5⟩|⟨U,f,J,h5⟩
     ·have hjl:=(Af.1 J).1;refine⟨.c c, ?_,h5⟩;simp only[FY];rw[Ax,List.getElem?_append_right (by simp;omega),List.getElem?_append_left (by simp;omega)];have:j-(cs.take off).length=j-off:=by simp;omega
      rw[this,List.getElem?_map,J];rfl
     ·obtain⟨sv,N,h7⟩:=Z j _ hj J;refine⟨sv, ?_,h5▸h7⟩;simp only[FY];rcases U with U|U
      ·rw[Ax,List.getElem?_append_left (by simp;omega),List.getElem?_take_of_lt U,N]
      ·rw[List.getElem?_append_right (by simp;omega),List.getElem?_drop];have:off+(l.map SV.c).length+(j-(cs.take off++l.map SV.c).length)=j:=by simp;omega
       rw[this,N]
   ·rename_i t ex hna H;split at h<;>(try cases h;done);rename_i C;cases h;obtain⟨c,L,D⟩:=Bf H A hb;have ho1:=Hb C.2.2 D;refine⟨_, ?_,Gp A M hl Z C.2.1 (k:=.v t) (x:=b) (sv:=.c c) ⟨c,rfl,D⟩⟩;simp only[AY,T,e,L]
    cases c<;>first
     |(simp[C7]at ho1;done)
     |(exact Ao ⟨C.1,by omega,ho1⟩)
   ·rename_i i fx H;split at h<;>(try cases h;done);rename_i C;cases h;have L:so X.G st.fr x=.osl i:=Bf H A (a:=fx ρ) rfl;refine⟨_, ?_,Gp A M hl Z C.2 (k:=.own i) (x:=()) (sv:=.osl i) rfl⟩;simp only[AY,T,e,L];exact Ao ⟨C.1,by omega,rfl⟩
   ·rename_i i fx H;split at h<;>(try cases h;done);rename_i C;cases h;have L:so X.G st.fr x=.omap i:=Bf H A (a:=fx ρ) rfl;refine⟨_, ?_,Gp A M hl Z C.2 (k:=.mp i) (x:=()) (sv:=.omap i) rfl⟩;simp only[AY,T,e,L];exact Ao ⟨C.1,by omega,rfl⟩
  ·rename_i id len off di ha;split at h<;>(try cases h;done);rename_i nb fo M;obtain⟨cs,e,hl,Z⟩:=A.o id _ M;split at h<;>(try cases h;done);rename_i t ex H;split at h<;>(try cases h;done);rename_i p hp;split at h<;>(try cases h;done);rename_i C;obtain⟨hn,hbd,F⟩:=C;cases h;obtain⟨U,J⟩:=ab.both_val hb;obtain⟨T,hi⟩:=G6 (rd:=st.ob) ha A (fun _ _=>rfl) U rfl
   have hlt:off+b.1<cs.length:=by
    have:b.1<len:=hi;rw[hl];exact Nat.lt_of_lt_of_le (Nat.add_lt_add_left this off) hbd
   obtain⟨c,L,D⟩:=AP (G:=X.G) H A J;have ho1:=Hb F D;obtain⟨V,K⟩:=Yg (i:=b.1) Z D hp (by omega);refine⟨_, ?_,ae.turnCells A V M (cs:=cs.set (off+b.1) (.c c)) (by simpa using hl) fun j q hj hq=> ?_⟩
   ·simp only[AY,T,e,L]
    cases c<;>first
     |(simp[C7]at ho1;done)
     |(exact Ao ⟨hn,hlt,ho1⟩)
   ·rcases K j q hq with⟨_,_,sv,N,h7⟩|⟨h5,f,N,h7⟩
    ·refine⟨sv, ?_,h7⟩;rw[<-N,List.getElem?_set];by_cases hji:j=off+b.1
     ·subst hji;rw[Ao rfl,Ao hlt,Ao rfl]
     ·rw[An (Ne.symm hji),An hji]
    ·obtain⟨sv,h8,h9⟩:=Z j _ hj N;refine⟨sv, ?_,h7▸h9⟩;rw[List.getElem?_set_ne (by have:b.1<len:=hi;omega)];exact h8
  ·rename_i id size off di ha;split at h<;>(try cases h;done);rename_i e' sz t xs M;split at h<;>(try cases h;done);rename_i u dx H;split at h<;>(try cases h;done);rename_i g P;split at h<;>(try cases h;done);rename_i C;obtain⟨hsz,hn,hv,hlt,F⟩:=C;cases h;obtain⟨w,V,K⟩:=ab.comp_val hb;obtain⟨p,U,J⟩:=ab.map_val V;obtain⟨h5,N⟩:=ab.both_val U;have h2':w=some b:=K;rw[h2']at J;obtain⟨el,h7,h8⟩:=Aa.1 J.symm;have T:deref st.ob (so X.G st.fr a)=.eptr id p.1 size off:=G6 ha A (fun _ _=>rfl) h5 rfl;obtain⟨c,L,D⟩:=AP (G:=X.G) H A N;obtain⟨es,e,Q⟩:=A.o id _ M;obtain⟨c0,h9,h10⟩:=Q.get h7;obtain⟨g1,g2,g3⟩:=Ag6 P hv h10 D
   have hob:c.cells.all C7=true:=by
    unfold Jd at P
    cases hu:u.val with
    |true=>exact QF F (Hl hu D)
    |false=>
     exfalso;split at P
     ·split at P<;>(try cases P;done);split at P<;>(try cases P;done);split at P<;>(try cases P;done);rename_i C;rw[hu]at C;cases C.2
     ·split at P<;>(try cases P;done);rename_i C;have:=C.2.2;cases u<;>first|(cases hu;done)|(cases this;done)|(simp only[Ty.val]at hu;simp only[Fz]at this;rw[hu]at this;cases this;done)
   refine⟨_, ?_,ae.turnObj A (k:=.arr e' sz t) (y:=b) ⟨es.set p.1 (G5 c0 off n c),rfl,h8▸Q.set p.1 g3⟩⟩;simp only[AY,T,e,L];rw[Ao ⟨hsz,hn,g1,hob⟩,h9,Ap,Ao g2]
  ·rename_i da ha;split at h<;>(try cases h;done);rename_i dx H;split at h<;>(try cases h;done);rename_i hn;cases h;obtain⟨p,V,K⟩:=ab.comp_val hb;obtain⟨U,J⟩:=ab.both_val V;obtain⟨c,L,D⟩:=G6 (rd:=st.ob) ha A (fun _ _=>rfl) U rfl;unfold Can at D;obtain⟨l,e3,D⟩:=D;cases e3;unfold Can at D;obtain⟨c',rfl,D⟩:=D;unfold Can at D;cases D;obtain⟨c2,g1,g2⟩:=AP (G:=X.G) H A J;unfold Can at g2;cases g2;simp only[ab.val,Ae]at K;obtain⟨h5,_⟩:=K;refine⟨st, ?_,A⟩;simp only[AY,L,g1];exact Ao ⟨hn,h5⟩
 case append e size bytes x y=>
  simp only[Hc]at h;split at h<;>(try cases h;done)
  ·rename_i id fx H;split at h<;>(try cases h;done);rename_i e' size' t xs M;split at h<;>(try cases h;done);rename_i l d' hl;split at h<;>(try cases h;done);rename_i C;obtain⟨he,hs,hv,hlr,F⟩:=C;cases h;have I:so X.G st.fr x=.osl id:=Bf H A (a:=fx ρ) rfl;obtain⟨w,V,K⟩:=ab.comp_val hb;obtain⟨ys,U,J⟩:=ab.map_val V;have h2':w=some b:=K;rw[h2']at J;split at J<;>(try cases J;done);rename_i hc;cases J;obtain⟨news,h5,N⟩:=Q7 A (G:=X.G) hl U;obtain⟨es,e0,Q⟩:=A.o id _ M;have S:=JE hv hlr F N;have hl1:=Q.length;have Y:=N.length;refine⟨_, ?_,ae.newObjS (A.kill [id]) (k:=.own id) (ko:=.arr e size t) (x:=()) (y:=xs ρ++ys) (v:=.osl id) (o:=.arr e size (es++news)) ⟨_,rfl,Q.append N⟩ rfl⟩;simp only[AY,h5,S,if_true,I,e0];rw[Ao ⟨he,hs,by rw[hl1,Y];exact Qi (by rw[Int.natCast_mul,Int.natCast_add]) hc.1,by rw[hl1,Y];exact Qj (by rw[Int.natCast_add]) hc.2⟩];rfl
  ·rename_i fx H;split at h<;>(try cases h;done);rename_i t ht;split at h<;>(try cases h;done);rename_i l d' hl;split at h<;>(try cases h;done);rename_i C;obtain⟨hv,hlr,F⟩:=C;cases h;obtain⟨c,I,hcx⟩:=Bf H A (a:=fx ρ) rfl;unfold Can at hcx;cases hcx;obtain⟨ys,V,K⟩:=ab.comp_val hb;simp only[ab.val]at K;split at K<;>(try cases K;done);rename_i hc;cases K;obtain⟨news,h5,N⟩:=Q7 A (G:=X.G) hl V;have S:=JE hv hlr F N;have Y:=N.length;refine⟨_, ?_,ae.newObjS (A.kill [d']) (k:=.own d') (ko:=.arr e size t) (x:=()) (y:=b) (v:=.osl d') (o:=.arr e size news) ⟨_,rfl,N⟩ rfl⟩;simp only[AY,h5,S,if_true,I];rw[Ao ⟨by rw[Y];exact Qi (by rw[Int.natCast_mul]) hc.1,by rw[Y];exact Qj rfl hc.2⟩]
 case cpy e size x y=>
  simp only[Hc]at h;split at h<;>(try cases h;done);rename_i id fx H;split at h<;>(try cases h;done);rename_i e' size' t xs M;split at h<;>(try cases h;done);rename_i l d' hl;split at h<;>(try cases h;done);rename_i C;obtain⟨he,hs,hv,hlr,F⟩:=C;cases h;have I:so X.G st.fr x=.osl id:=Bf H A (a:=fx ρ) rfl;obtain⟨news,h5,N⟩:=Q7 A (G:=X.G) hl hb;obtain⟨es,e0,Q⟩:=A.o id _ M;have S:=JE hv hlr F N;have hl1:=Q.length;have Y:=N.length;have L:min news.length es.length=min b.length (xs ρ).length:=by rw[hl1,Y]
  refine⟨_, ?_,ae.newObjS A (d:=d') (k:=.v (.int .i64)) (ko:=.arr e size t) (x:=((min b.length (xs ρ).length:Nat):Int)) (y:=b.take (min b.length (xs ρ).length)++(xs ρ).drop (min b.length (xs ρ).length)) (v:=.c (.int .i64 ((min news.length es.length:Nat):Int))) (o:=.arr e size (news.take (min news.length es.length)++es.drop (min news.length es.length))) ⟨_,rfl,by rw[L];exact(N.take _).append (Q.drop _)⟩ ⟨_,rfl,by rw[L];unfold Can;rfl⟩⟩;simp only[AY,h5,I,e0];rw[Ao ⟨⟨he,hs⟩,S⟩];rfl
 case mapent mt x k=>
  simp only[Hc]at h;split at h<;>(try cases h;done);rename_i id fx q d' H hk;split at h<;>(try cases h;done);rename_i mt' kt vt m M;split at h<;>(try cases h;done);rename_i g P;split at h<;>(try cases h;done);rename_i C;obtain⟨hm,hp⟩:=C;cases h;have I:so X.G st.fr x=.omap id:=Bf H A (a:=fx ρ) rfl;dsimp only at hb;obtain⟨y,V,K⟩:=ab.map_val hb;obtain⟨ck,L,D⟩:=AP (G:=X.G) hk A V;have e3:=CA _ _ P D;obtain⟨z,ks,vs,e0,hz,O,W⟩:=A.o id _ M;obtain⟨cv,l1,l2⟩:=MW hp e3 hz O W;obtain⟨i1,i2⟩:=ME hp e3 l2 O W;subst K;refine⟨_, ?_,ae.newObjS A (k:=.ent id kt vt) (ko:=.mob mt kt vt) (x:=_) (y:=_) (v:=.ent id ck cv) (o:=.map mt (b3 kt) z (Bp (b3 kt) ks ck) (Bq (b3 kt) ks vs ck cv)) ⟨z,_,_,rfl,hz,i1,i2⟩ ⟨ck,cv,rfl,e3,l2⟩⟩;simp only[AY,I,L,e0];rw[Ao ⟨hm,(HH hp e3 e3).2,by rw[O.length,W.length]⟩];simp only[l1,St.set,hm]
 case entst x s v=>
  simp only[Hc]at h;split at h<;>(try cases h;done);rename_i id fx id' kt fs q H hs hv;split at h<;>(try cases h;done);rename_i mt kt' vt m M;split at h<;>(try cases h;done);rename_i g P;split at h<;>(try cases h;done);rename_i hk;subst hk;split at h<;>(try cases h;done);rename_i C;obtain⟨af,hp⟩:=C;subst af;cases h;have I:so X.G st.fr x=.omap id:=Bf H A (a:=fx ρ) rfl;obtain⟨ck,hs',hck⟩:=Bf hs A (a:=fs ρ) rfl;obtain⟨w,V,K⟩:=ab.comp_val hb;obtain⟨y,U,J⟩:=ab.map_val V;have h2':w=some b:=K;rw[h2']at J;split at J<;>(try cases J;done);rename_i hkey;cases J;obtain⟨cv,L,D⟩:=AP (G:=X.G) hv A U;have e3:=CA _ _ P D;obtain⟨z,ks,vs,e0,hz,O,W⟩:=A.o id _ M;obtain⟨i1,i2⟩:=ME hp hck e3 O W;refine⟨_, ?_,ae.turnObj A (k:=.mob mt kt vt) (y:=Bw (aj kt) (fs ρ) (g y) (m ρ)) ⟨z,ks,Bq (b3 kt) ks vs ck cv,rfl,hz,CanAll.fst (R:=fun k c=>Can kt k [c]) (TJ hkey).symm O,i2⟩⟩;simp only[AY,I,hs',L,e0,if_true]
 case mapupd mt x k v=>
  simp only[Hc]at h;split at h<;>(try cases h;done);rename_i id fx q p H hk hv;split at h<;>(try cases h;done);rename_i mt' kt vt m M;split at h<;>(try cases h;done);rename_i g f P hf;split at h<;>(try cases h;done);rename_i C;obtain⟨hm,hp⟩:=C;cases h;have I:so X.G st.fr x=.omap id:=Bf H A (a:=fx ρ) rfl;dsimp only at hb;obtain⟨y,V,K⟩:=ab.map_val hb;obtain⟨U,J⟩:=ab.both_val V;obtain⟨ck,L,D⟩:=AP (G:=X.G) hk A U;obtain⟨cv,e1',e2'⟩:=AP (G:=X.G) hv A J;have e3:=CA _ _ P D;have e3':=CA _ _ hf e2';obtain⟨z,ks,vs,e0,hz,O,W⟩:=A.o id _ M;obtain⟨i1,i2⟩:=ME hp e3 e3' O W;refine⟨_, ?_,ae.turnObj A (k:=.mob mt kt vt) (y:=b) ⟨z,Bp (b3 kt) ks ck,Bq (b3 kt) ks vs ck cv,rfl,hz,K▸i1,K▸i2⟩⟩;simp only[AY,I,L,e1',e0];rw[Ao ⟨hm,(HH hp e3 e3).2⟩,hm]
theorem Agj(hT:aG X E)(u:ae Γ ρ st){d:Option Nat}{op:aa}{o:bK Γ}{b:o.B}(h:QH X Γ d op=some o)(Z:o.d.val ρ=some b)(rd:Nat->Ob):∃st',AM E rd st d op=some st'/\ae o.Γ' (o.up ρ b) st':=by
 unfold QH at h;split at h<;>(try cases h;done);rename_i f x y;split at h
 case isFalse A=>
  split at h<;>(try cases h;done);rename_i id fx g d M;split at h<;>(try cases h;done);rename_i e size t xs s N hs;split at h<;>(try cases h;done);rename_i W;split at h<;>(try cases h;done);rename_i Y;cases h;obtain⟨se,ss,st',sf⟩:=s;simp only at W Y;obtain⟨rfl,rfl⟩:=Y;subst W;have r:so X.G st.fr x=.osl id:=Bf M u (a:=fx ρ) rfl;have Q:sf (xs ρ)=some b:=Z;obtain⟨es,U,P⟩:=u.o id _ N;obtain⟨F,T,S⟩:=hT.srt f g _ hs (xs ρ) es b P Q;refine⟨_, ?_,ae.set (ae.turnObj u (k:=.arr e size t) (y:=b) ⟨F,rfl,S⟩) (k:=.v (.tup .nil)) (x:=()) ⟨.tup [],rfl,by unfold Can;exact⟨[],rfl,by unfold Can;rfl⟩⟩⟩;have n:¬E.cp f=true:=by rw[hT.cp];exact A
  have H:st.ob id=.arr e size es:=U;show FH E (so E.G st.fr) st (some d) f x (.k (.fn g []))=_;unfold FH;rw[An n,hT.G,r]
  show(match st.ob id with
   | .arr e size es=>match E.srt f g e size es with
    |some F=>some (St.set {st with ob:=ac st.ob id (.arr e size F)} (some d) (.c (.tup [])))
    |none=>none
   |_=>none)=_
  rw[H];simp only[T]
 rename_i A;split at h<;>(try cases h;done);rename_i id fx ut q d M hy;split at h<;>(try cases h;done);rename_i mt I m N;split at h<;>(try cases h;done);rename_i g hg;cases h;have r:so X.G st.fr x=.omap id:=Bf M u (a:=fx ρ) rfl;obtain⟨w,T,S⟩:=ab.comp_val Z;obtain⟨V,h3,h4⟩:=ab.map_val T;have R:w=some b:=S;rw[R]at h4;have J:IS (m ρ) (g V)=some b:=h4.symm;unfold IS at J;split at J<;>(try cases J;done);rename_i C;obtain⟨c1,c2,c3⟩:=C;simp only[Ac]at J;obtain⟨cv,e1,e2⟩:=AP (G:=X.G) hy u h3;have e3:=CA _ _ hg e2;obtain⟨z,ks,vs,U,hz,j,i⟩:=u.o id _ N;have hm:m ρ= []:=List.isEmpty_iff.1 c1;replace j:CanAll (fun(x:List UInt8×D I) c=>Can .str x.1 [c]) (m ρ) ks:=j;replace i:CanAll (fun(x:List UInt8×D I) c=>Can I x.2 [c]) (m ρ) vs:=i;rw[hm]at j i;unfold CanAll at j i;subst j;subst i;unfold Can at e3;obtain⟨nl,ks,us,e4,L,k2⟩:=e3;cases e4
 have key:∀(l:List (List UInt8×D I)) (ks:List CV),CanAll (fun x c=>Can .str x.1 [c]) l ks->(l.all fun p=>decide (p.1.length<=9223372036854775807))=true->ks.all Il=true:=by
  intro l
  induction l with
  |nil=>intro ks h _;unfold CanAll at h;subst h;rfl
  |cons p l ih=>
   intro ks h O;obtain⟨c,K,rfl,q1,q2⟩:=h;simp only[List.all_cons,Ag]at O⊢;unfold Can at q1;cases q1;exact⟨O.1,ih K q2 O.2⟩
 have kl:ks.length<=9223372036854775807:=by rw[L.length];exact c3
 subst J;refine⟨_, ?_,ae.set (ae.turnObj u (k:=.mob mt .str I) (y:=g V) ⟨z,ks,us,rfl,hz,L,k2⟩) (k:=.v (.tup .nil)) (x:=()) ⟨.tup [],rfl,by unfold Can;exact⟨[],rfl,by unfold Can;rfl⟩⟩⟩;have n:E.cp f=true:=by rw[hT.cp];exact A
 have H:st.ob id=.map mt .str z [] []:=U;show FH E (so E.G st.fr) st (some d) f x y=_;unfold FH;rw[Ao n,hT.G,r,e1];dsimp only;rw[H];dsimp only;rw[Ao ⟨key _ _ L c2,kl⟩];rfl
end
end WB
