/-
  OWN TEXTS, MERGED (wip/merge.py): CoreTo, CoreTq, CoreLb, CoreMc, CoreZs. No condition of their own.
-/
import Derived.Test.YtcakkedgkahhfaaGreatDoorK5
import Derived.Lib.LaidTab
import Derived.Lib.ItoaNum
import Derived.Lib.TrimByte
import Derived.Lib.AppendIntMem
import Derived.Lib.Bytealg
import Derived.Lib.SlMapMerge
import Derived.Maps.Own
import Derived.StringKeys
import Derived.Test.YtcakkedgkahhfaaGreatDoorK3
set_option linter.unusedVariables false
set_option linter.unusedSimpArgs false
open Go.IntKind (i64 u64 u8 u32)
namespace WB
open Go Go.RowKit
noncomputable def Jp(X:TP)(a Rt:Ty)(m:AF):Option (D a→Option (D Rt)):=
 match den X (D Rt) (rdT X m.res Rt) m.code (D Rt) [] [] (Ge a 0)with
 |some d=>some fun x=>d (I3 a 0 x) ⟨fun _=>kN m.res Rt,(),fun y=>some y⟩
 |none=>none
theorem Tx{P:Program}{X:TP}{E:Env}(hE:EOk P E)(hT:TOk X E)(hF:BK X E)(hΘ:E9 X.Θ=.no){a Rt:Ty}{m:AF}{g:D a→Option (D Rt)}(h:Jp X a Rt m=some g){f:FuncId}(hc:Ek P f=some ⟨m.n,BC m.code,m.res⟩){k:Nat}(hl:AY a=some k)(hk:k≤m.n)
  {x:D a} {l:List CV} {y:D Rt} (hx:Can a x l) (hy:g x=some y) (hv:(Rt.val&&Rt.ok)=true:=by rfl):Bm P f=true∧CallsTo P E.G f l (.val (enc Rt y)):=by
 simp only[Af]at hv;unfold Jp at h;split at h<;>(try cases h;done);rename_i d hd;cases h;refine Tg hE hc (by rw[DX hl hx];exact hk) (hΘ▸Ee _ (fun e st hp=> ?_) (Sr hT hF (RP:=fun st v=>Ew st m.res _ v) (fun h1 h2 _ h3=>UR h1 h2 h3) m.code hd (TF hx) hy))
 cases e with
 |normal=>
  obtain⟨ρ,_,h2⟩:=hp;exact TI h2 st
 |exit i=>
  obtain⟨Γi,s,ρ,h1,_⟩:=hp;cases h1
 |ret=>
  obtain⟨v,h1,h3⟩:=hp;cases h3;exact Ew.of hv.1 h1
structure TB where
 G:Nat→List CV
 TT:Nat→Option Ty
 TM:Nat→Option (Ty×Ty)
 cp:FuncId→Bool:=fun _=>false
def Cg:List (FuncId×Sig)→FuncId→Option Sig
 | [],_=>none
 |e::L,f=>if e.1=f then some e.2 else Cg L f
def HZ:List (FuncId×BJ)→FuncId→Option BJ
 | [],_=>none
 |e::L,f=>if e.1=f then some e.2 else HZ L f
def Ty.isNw:Ty→Bool
 | .nw _ _ _=>true
 |_=>false
def tp(B:TB)(L:List (FuncId×Sig))(LE:List (FuncId×BJ)):TP where
 G:=B.G
 T:=fun f=>match Cg L f with
  |some s=>match s.r.isNw with
   |true=>none
   |false=>some s
  |none=>none
 TT:=B.TT
 TM:=B.TM
 cp:=B.cp
 TN:=fun f=>match Cg L f with
  |some s=>match s.r.isNw with
   |true=>some s
   |false=>none
  |none=>none
 TE:=fun f=>match Cg L f with
  |some _=>none
  |none=>HZ LE f
theorem F3{B:TB}{L:List (FuncId×Sig)}{LE:List (FuncId×BJ)}{f:FuncId}{s:Sig}:(tp B L LE).T f=some s↔Cg L f=some s∧s.r.isNw=false:=by
 show(match Cg L f with
  |some s=>match s.r.isNw with
   |true=>none
   |false=>some s
  |none=>none)=some s↔_
 cases h:Cg L f with
 |none=>simp
 |some s'=>cases h2:s'.r.isNw with
  |true=>
   simp only[h2,Ac];exact⟨fun e=>(by cases e),fun e=>by rw[e.1]at h2;rw[h2]at e;cases e.2⟩
  |false=>
   simp only[h2,Ac];exact⟨fun e=>⟨e,e▸h2⟩,fun e=>e.1⟩
theorem Hi{B:TB}{L:List (FuncId×Sig)}{LE:List (FuncId×BJ)}{f:FuncId}{s:Sig}:(tp B L LE).TN f=some s↔Cg L f=some s∧s.r.isNw=true:=by
 show(match Cg L f with
  |some s=>match s.r.isNw with
   |true=>some s
   |false=>none
  |none=>none)=some s↔_
 cases h:Cg L f with
 |none=>simp
 |some s'=>cases h2:s'.r.isNw with
  |false=>
   simp only[h2,Ac];exact⟨fun e=>(by cases e),fun e=>by rw[e.1]at h2;rw[h2]at e;cases e.2⟩
  |true=>
   simp only[h2,Ac];exact⟨fun e=>⟨e,e▸h2⟩,fun e=>e.1⟩
theorem QR{B:TB}{L:List (FuncId×Sig)}{LE:List (FuncId×BJ)}{f:FuncId}{s:BJ}:(tp B L LE).TE f=some s↔Cg L f=none∧HZ LE f=some s:=by
 show(match Cg L f with
  |some _=>none
  |none=>HZ LE f)=some s↔_
 cases h:Cg L f with
 |none=>simp
 |some s'=>simp
open Classical in
noncomputable def E5(s:BJ):Eff:=⟨A2 s.Θ,fun l H=>if h:∃p:D s.a×HS s.Θ,Can s.a p.1 l∧Rep s.Θ p.2 {fr:=fun _=>.undef,ob:=H}then(s.fn (choose h).1 (choose h).2).map fun q=>(enc s.r q.1,D9 s.Θ q.2)else none⟩
theorem SC{s:BJ}(ho:okΘ s.Θ=true){x:D s.a}{l:List CV}{θ:HS s.Θ}{H:Nat→Ob}{y:D s.r}{θ':HS s.Θ}(hx:Can s.a x l)(hr:Rep s.Θ θ {fr:=fun _=>.undef,ob:=H})(hy:s.fn x θ=some (y,θ')):(E5 s).fn l H=some (enc s.r y,D9 s.Θ θ'):=by
 have hh:∃p:D s.a×HS s.Θ,Can s.a p.1 l∧Rep s.Θ p.2 {fr:=fun _=>.undef,ob:=H}:=⟨(x,θ),hx,hr⟩;have hc:=Classical.choose_spec hh;simp only[E5,dif_pos hh];rw[Can.uniq s.a hc.1 hx,Rep.uniq ho rfl hc.2 hr,hy];rfl
theorem SD{s:BJ}{l:List CV}{H:Nat→Ob}{r:CV}{H':Nat→Ob}(h:(E5 s).fn l H=some (r,H')):∃x θ y θ',Can s.a x l∧Rep s.Θ θ {fr:=fun _=>.undef,ob:=H}∧s.fn x θ=some (y,θ')∧r=enc s.r y∧H'=D9 s.Θ θ':=by
 simp only[E5]at h;split at h<;>(try cases h;done);rename_i hh;obtain⟨⟨y,θ'⟩,h1,h2⟩:=Aa.1 h;cases h2;exact⟨_,_,y,θ',(Classical.choose_spec hh).1,(Classical.choose_spec hh).2,h1,rfl,rfl⟩
open Classical in
noncomputable def Dm(X:TP):Env:={G:=X.G,cp:=X.cp,ef:=fun f=>(X.TE f).map E5,fn:=fun f l=>match X.T f with
 |some s=>if h:∃x,Can s.a x l then(s.fn (choose h)).map fun y=>.val (enc s.r y)else none
 |none=>match X.TN f with
  |some ⟨a,.nw e size t,fn⟩=>if h:∃x,Can a x l then(fn (choose h)).map fun y=>.new (.arr e size (y.map (enc t)))else none
  |_=>none}
theorem Lw{X:TP}{f:FuncId}{s:Sig}(hs:X.T f=some s){x:D s.a}{l:List CV}{y:D s.r}(hx:Can s.a x l)(hy:s.fn x=some y):(Dm X).fn f l=some (.val (enc s.r y)):=by
 have hh:∃x,Can s.a x l:=⟨x,hx⟩;simp only[Dm,hs,dif_pos hh];rw[Can.uniq s.a (Classical.choose_spec hh) hx,hy];rfl
theorem Ji{X:TP}{f:FuncId}{a:Ty}{e size:Nat}{t:Ty}{fn:D a→Option (D (.nw e size t))}(h0:X.T f=none)(hs:X.TN f=some ⟨a,.nw e size t,fn⟩){x:D a}{l:List CV}{y:List (D t)}(hx:Can a x l)(hy:fn x=some y):(Dm X).fn f l=some (.new (.arr e size (y.map (enc t)))):=by
 have hh:∃x,Can a x l:=⟨x,hx⟩;simp only[Dm,h0,hs,dif_pos hh];rw[Can.uniq a (Classical.choose_spec hh) hx,hy];rfl
theorem Ot{X:TP}{f:FuncId}{l:List CV}{r:Res}(h:(Dm X).fn f l=some r):
  (∃s x y,X.T f=some s∧Can s.a x l∧s.fn x=some y∧r=.val (enc s.r y))∨
  (X.T f=none∧∃(a:Ty) (e size:Nat) (t:Ty) (fn:D a→Option (D (.nw e size t))) (x:D a) (y:List (D t)),X.TN f=some ⟨a,.nw e size t,fn⟩∧Can a x l∧fn x=some y∧r=.new (.arr e size (y.map (enc t)))):=by
 simp only[Dm]at h;split at h
 ·rename_i s hs;split at h<;>(try cases h;done);rename_i hh;obtain⟨y,h1,h2⟩:=Aa.1 h;exact .inl ⟨s,_,y,hs,Classical.choose_spec hh,h1,h2.symm⟩
 ·rename_i h0;split at h<;>(try cases h;done);rename_i a e size t fn hs;split at h<;>(try cases h;done);rename_i hh;obtain⟨y,h1,h2⟩:=Aa.1 h;exact .inr ⟨h0,a,e,size,t,fn,_,y,hs,Classical.choose_spec hh,h1,h2.symm⟩
structure Rl (P:Program) (G:Nat→List CV) (f:FuncId) (s:BJ):Prop where
 rv:s.r.val=true
 rok:s.r.ok=true
 hi:((A2 s.Θ).all fun N=>Nat.ble As N)=true
 ok:okΘ s.Θ=true
 body:Bm P f=true
 calls:∀x l θ H y θ',Can s.a x l→Rep s.Θ θ {fr:=fun _=>.undef,ob:=H}→s.fn x θ=some (y,θ')→ID P G f (A2 s.Θ) l H (enc s.r y) (D9 s.Θ θ')
def ER(P:Program)(G:Nat→List CV)(X:TP):Prop:=∀f s,X.TE f=some s→Rl P G f s
theorem ER.ef{P:Program}{X:TP}(h:ER P X.G X):Nl P (Dm X):=fun f e he=>by
 obtain⟨s,hs,rfl⟩:=Aa.1 he;have k:=h f s hs;refine⟨k.body,fun args H r H' hr=> ?_⟩;obtain⟨x,θ,y,θ',h1,h2,h3,rfl,rfl⟩:=SD hr;exact k.calls x args θ H y θ' h1 h2 h3
theorem ER.te{P:Program}{X:TP}(h:ER P X.G X):BK X (Dm X):=fun f s hs=>by
 have k:=h f s hs;have e:(Dm X).ef f=some (E5 s):=by show(X.TE f).map E5=_;rw[hs];rfl
 exact⟨⟨k.rv,k.hi⟩,k.rok,E5 s,e,rfl,fun x l θ H y θ' hx hr hy=>SC k.ok hx hr hy⟩
structure GoodT (P:Program) (B:TB) (L:List (FuncId×Sig)) (LE:List (FuncId×BJ)):Prop where
 E:EOk P (Dm (tp B L LE))
 T:TOk (tp B L LE) (Dm (tp B L LE))
 F:ER P B.G (tp B L LE)
theorem GoodT.TE{P:Program}{B:TB}{L:List (FuncId×Sig)}{LE:List (FuncId×BJ)}(h:GoodT P B L LE):BK (tp B L LE) (Dm (tp B L LE)):=ER.te (X:=tp B L LE) h.F
theorem QS{B:TB}{L:List (FuncId×Sig)}{LE:List (FuncId×BJ)}(f:FuncId)(h:((tp B L LE).T f).isSome=true∨((tp B L LE).TN f).isSome=true):(Dm (tp B L LE)).ef f=none:=by
 have:∃s,Cg L f=some s:=by
  rcases h with h|h<;>obtain⟨s,hs⟩:=Option.isSome_iff_exists.1 h
  ·exact⟨s,(F3.1 hs).1⟩
  ·exact⟨s,(Hi.1 hs).1⟩
 obtain⟨s,hs⟩:=this
 show((match Cg L f with
  |some _=>none
  |none=>HZ LE f):Option BJ).map E5=none
 rw[hs];rfl
theorem GoodT.nil(P:Program)(B:TB)(hcp:Nk P B.cp:=by intro f h;cases h):GoodT P B [] []:=by
 refine⟨⟨fun f l r h=> ?_,hcp,fun f e h=>by cases h⟩,⟨rfl,rfl,fun f s h=> ?_,fun f h=>QS f h,fun f a e size t fn h=> ?_⟩,fun f s h=>by cases h⟩
 ·rcases Ot h with⟨s,x,y,h1,_⟩|⟨_,_,_,_,_,_,_,_,h1,_⟩<;>cases h1
 ·cases h
 ·cases h
def Gl(P:Program)(G:Nat→List CV)(f:FuncId):Sig→Prop
 |⟨a,.nw e size t,fn⟩=>(t.val&&t.ok)=true∧∀x l (y:List (D t)),Can a x l→fn x=some y→Bm P f=true∧CallsTo P G f l (.new (.arr e size (y.map (enc t))))
 |s=>(s.r.val&&s.r.ok)=true∧∀x l y,Can s.a x l→s.fn x=some y→Bm P f=true∧CallsTo P G f l (.val (enc s.r y))
theorem Gl.val{P:Program}{G:Nat→List CV}{f:FuncId}{s:Sig}(h:Gl P G f s)(hn:s.r.isNw=false):(s.r.val&&s.r.ok)=true∧∀x l y,Can s.a x l→s.fn x=some y→Bm P f=true∧CallsTo P G f l (.val (enc s.r y)):=by
 obtain⟨a,r,fn⟩:=s;cases r<;>first|exact h|cases hn
theorem Gl.mk{P:Program}{G:Nat→List CV}{f:FuncId}{s:Sig}(hv:(s.r.val&&s.r.ok)=true)(h:∀x l y,Can s.a x l→s.fn x=some y→Bm P f=true∧CallsTo P G f l (.val (enc s.r y))):Gl P G f s:=by
 obtain⟨a,r,fn⟩:=s;cases r<;>first|exact⟨hv,h⟩|cases hv
theorem Ap.encs{t:Ty}(hv:t.val=true)(ho:t.ok=true):∀(ys:List (D t)),Ap (fun x c=>Can t x [c]) ys (ys.map (enc t))
 | []=>rfl
 |y::ys=>⟨_,_,rfl,Can.enc y hv ho,Ap.encs hv ho ys⟩
theorem Jv{B:TB}{L:List (FuncId×Sig)}{LE:List (FuncId×BJ)}{f:FuncId}{s:Sig}(h:(tp B L LE).TN f=some s):(tp B L LE).T f=none:=by
 obtain⟨h1,h2⟩:=Hi.1 h
 cases hT:(tp B L LE).T f with
 |none=>rfl
 |some s'=>
  obtain⟨h3,h4⟩:=F3.1 hT;rw[h1]at h3;cases h3;rw[h2]at h4;cases h4
theorem GoodT.addS{P:Program}{B:TB}{L:List (FuncId×Sig)}{LE:List (FuncId×BJ)}(h:GoodT P B L LE)(f:FuncId)(s:Sig)(hs:Gl P B.G f s):GoodT P B ((f,s)::L) LE:=by
 have key:∀g s',Cg ((f,s)::L) g=some s'→(g=f∧s'=s)∨Cg L g=some s':=fun g s' hg=>by
  unfold Cg at hg;by_cases e:f=g
  ·simp only[e,if_true,Ac]at hg;exact .inl ⟨e.symm,hg.symm⟩
  ·simp only[e,if_false]at hg;exact .inr hg
 have hF:ER P B.G (tp B ((f,s)::L) LE):=fun g s' hs'=>by
  obtain⟨h1,h2⟩:=QR.1 hs';refine h.F g s' (QR.2 ⟨?_,h2⟩);unfold Cg at h1;split at h1
  ·cases h1
  ·exact h1
 refine⟨⟨fun g l r hr=> ?_,h.E.cp,ER.ef (X:=tp B ((f,s)::L) LE) hF⟩,⟨rfl,rfl,fun g s' hs'=> ?_,fun f h=>QS f h,fun g a e size t fn hs'=> ?_⟩,hF⟩
 ·rcases Ot hr with⟨s',x,y,h1,h2,h3,rfl⟩|⟨h0,a,e,size,t,fn,x,y,h1,h2,h3,rfl⟩
  ·obtain⟨g1,g2⟩:=F3.1 h1;rcases key g s' g1 with⟨rfl,rfl⟩|g3
   ·exact(hs.val g2).2 x l y h2 h3
   ·exact h.E.1 g l _ (Lw (X:=tp B L LE) (F3.2 ⟨g3,g2⟩) h2 h3)
  ·obtain⟨g1,g2⟩:=Hi.1 h1;rcases key g _ g1 with⟨rfl,e1⟩|g3
   ·subst e1;exact hs.2 x l y h2 h3
   ·have h4:(tp B L LE).TN g=some ⟨a,.nw e size t,fn⟩:=Hi.2 ⟨g3,g2⟩;exact h.E.1 g l _ (Ji (X:=tp B L LE) (Jv h4) h4 h2 h3)
 ·obtain⟨g1,g2⟩:=F3.1 hs'
  refine⟨?_, ?_,fun x l y hx hy=>Lw hs' hx hy⟩<;>
  ·rcases key g s' g1 with⟨rfl,rfl⟩|g3
   ·have:=(hs.val g2).1;simp only[Af]at this;first|exact this.1|exact this.2
   ·first|exact(h.T.fn g s' (F3.2 ⟨g3,g2⟩)).1|exact(h.T.fn g s' (F3.2 ⟨g3,g2⟩)).2.1
 ·obtain⟨g1,g2⟩:=Hi.1 hs';rcases key g _ g1 with⟨rfl,e1⟩|g3
  ·subst e1;have hto:=hs.1;simp only[Af]at hto;exact⟨hto.1,fun x l ys hx hy=>⟨_,Ji (Jv hs') hs' hx hy,Ap.encs hto.1 hto.2 ys⟩⟩
  ·have h4:(tp B L LE).TN g=some ⟨a,.nw e size t,fn⟩:=Hi.2 ⟨g3,g2⟩;obtain⟨k1,k2⟩:=h.T.nw g a e size t fn h4;refine⟨k1,fun x l ys hx hy=>⟨_,Ji (Jv hs') hs' hx hy, ?_⟩⟩;obtain⟨es,k3,k4⟩:=k2 x l ys hx hy;have k5:=Ji (X:=tp B L LE) (Jv h4) h4 hx hy;rw[k5]at k3;cases k3;exact k4
theorem GoodT.addM{P:Program}{B:TB}{L:List (FuncId×Sig)}{LE:List (FuncId×BJ)}(h:GoodT P B L LE)(f:FuncId)(s:Sig)(hv:(s.r.val&&s.r.ok)=true)(hf:∀x l y,Can s.a x l→s.fn x=some y→Bm P f=true∧CallsTo P B.G f l (.val (enc s.r y))):GoodT P B ((f,s)::L) LE:=
 h.addS f s (Gl.mk hv hf)
theorem GoodT.add{P:Program}{B:TB}{L:List (FuncId×Sig)}{LE:List (FuncId×BJ)}(h:GoodT P B L LE)(f:FuncId)(s:Sig)(m:AF)(hc:Ek P f=some ⟨m.n,BC m.code,m.res⟩)(hg:Jp (tp B L LE) s.a s.r m=some s.fn){k:Nat}(hl:AY s.a=some k)(hk:Nat.ble k m.n=true)(hv:(s.r.val&&s.r.ok)=true):GoodT P B ((f,s)::L) LE:=
 h.addM f s hv fun _ _ _ hx hy=>Tx h.E h.T h.TE rfl hg hc hl (Ah hk) hx hy hv
theorem GoodT.call{P:Program}{B:TB}{L:List (FuncId×Sig)}{LE:List (FuncId×BJ)}(h:GoodT P B L LE){f:FuncId}{s:Sig}(hs:Cg L f=some s){x:D s.a}{l:List CV}{y:D s.r}(hx:Can s.a x l)(hy:s.fn x=some y)(hn:s.r.isNw=false:=by rfl):CallsTo P B.G f l (.val (enc s.r y)):=
 (h.E.1 f l _ (Lw (X:=tp B L LE) (F3.2 ⟨hs,hn⟩) hx hy)).2
def m(i j:Nat):SL:=⟨some i,.mov (.t j),none⟩
def l'(i:Nat)(o:SOp):SL:=⟨some i,o,none⟩
def fo(i:Nat)(off x:Nat):SL:=⟨some i,.faddr off (.t x),none⟩
def st'(a x:Nat):SL:=⟨none,.store 1 (.t a) (.t x),none⟩
def ex(i x j:Nat):SL:=⟨some i,.ext (.t x) j,none⟩
def rf(l:List SL):AC:=.reg false [] l
def rs(l:List SL):Cr:=.reg false [] l
def K(k:IntKind)(n:Int):SO:=.k (.int k n)
def sS(i:Nat):Key×EK:=(.s i,.v .str)
def sI(i:Nat):Key×EK:=(.s i,.v (.int .i64))
def sB(i:Nat):Key×EK:=(.s i,.v .bool)
def cI(i j:Nat):Key×EK:=(.c i j,.v (.int .i64))
inductive Hn where
 |s (Γ:TC)
 |j (Γ:TC) (ex:List Nat) (rt:Bool)
 |l (Γ:TC) (ex:List Nat) (rt:Bool)
 |g (g:Gh)
 |r
 |e
 |t (gs:List (Nat×Gh))
abbrev HL:=List (Nat×Hn)
def HK(i:Nat):List SL→List (Nat×Gh)→List GL
 | [],gs=>gs.map fun g=>.g g.2
 |l::ls,gs=>let p:=gs.span fun g=>Nat.beq g.1 i;p.1.map (fun g=>.g g.2)++ .l l::HK (i+1) ls p.2
theorem Pb(gs:List (Nat×Gh))(r:List GL):DY (gs.map (fun g=>.g g.2)++r)=DY r:=by
 induction gs with
 |nil=>rfl
 |cons g gs ih=>simp[DY,ih]
theorem Ua(ls:List SL):∀i gs,DY (HK i ls gs)=ls:=by
 induction ls with
 |nil=>intro i gs;unfold HK;simpa[DY]using Pb gs []
 |cons l ls ih=>intro i gs;unfold HK;simp only;rw[Pb];simp[DY,ih]
def hnG(k:Nat):HL→List Gh×HL
 |(n,.g g)::hs=>cond (Nat.beq n k) (let p:=hnG k hs;(g::p.1,p.2)) ([],(n,.g g)::hs)
 |hs=>([],hs)
def hnO(k:Nat):HL→Option Hn×HL
 |(n,h)::hs=>cond (Nat.beq n k) (some h,hs) (none,(n,h)::hs)
 | []=>(none,[])
def wrG:List Gh→AC→AC
 | [],c=>c
 |g::gs,c=>.gh g (wrG gs c)
theorem Jl(gs:List Gh)(c:AC):BC (wrG gs c)=BC c:=by
 induction gs with
 |nil=>rfl
 |cons g gs ih=>simpa[wrG,BC]using ih
def sqH(o:Option Hn)(a b:AC):AC:=
 match o with
 |some (.s Γ)=>.seq Γ a b
 |some (.j Γ ex rt)=>.join Γ ex rt a b
 |_=>.sq a b
def rgH(o:Option Hn)(draw:Bool)(D:List Nat)(ls:List SL):AC:=
 match o,draw with
 |some (.t gs),false=>.rg D (HK 0 ls gs)
 |_,_=>.reg draw D ls
def reH(o:Option Hn)(D:List Nat)(ls:List SL):AC:=
 match o with
 |some .e=>.regE true D ls
 |_=>.regE false D ls
def loH(o:Option Hn)(b:AC):AC:=
 match o with
 |some (.l Γ ex rt)=>.loop Γ ex rt b
 |_=>.loop [] [] false b
def isR:Option Hn→Bool
 |some .r=>true
 |_=>false
def ann:Cr→Nat→HL→AC×Nat×HL
 | .skip,k,hs=>let p:=hnG k hs;let q:=hnO k p.2;(wrG p.1 (cond (isR q.1) (.raw .skip) .skip),k+1,q.2)
 | .ret,k,hs=>let p:=hnG k hs;let q:=hnO k p.2;(wrG p.1 (cond (isR q.1) (.raw .ret) .ret),k+1,q.2)
 | .exit i,k,hs=>let p:=hnG k hs;let q:=hnO k p.2;(wrG p.1 (cond (isR q.1) (.raw (.exit i)) (.exit i)),k+1,q.2)
 | .bad,k,hs=>let p:=hnG k hs;let q:=hnO k p.2;(wrG p.1 (.raw .bad),k+1,q.2)
 | .reg d D ls,k,hs=>let p:=hnG k hs;let q:=hnO k p.2;(wrG p.1 (cond (isR q.1) (.raw (.reg d D ls)) (rgH q.1 d D ls)),k+1,q.2)
 | .regE D ls,k,hs=>let p:=hnG k hs;let q:=hnO k p.2;(wrG p.1 (cond (isR q.1) (.raw (.regE D ls)) (reH q.1 D ls)),k+1,q.2)
 | .seq a b,k,hs=>let p:=hnG k hs;let q:=hnO k p.2
  match isR q.1 with
  |true=>(wrG p.1 (.raw (.seq a b)),k+1,q.2)
  |false=>let x:=ann a (k+1) q.2;let y:=ann b x.2.1 x.2.2;(wrG p.1 (sqH q.1 x.1 y.1),y.2)
 | .cond c a b,k,hs=>let p:=hnG k hs;let q:=hnO k p.2
  match isR q.1 with
  |true=>(wrG p.1 (.raw (.cond c a b)),k+1,q.2)
  |false=>let x:=ann a (k+1) q.2;let y:=ann b x.2.1 x.2.2;(wrG p.1 (.cond c x.1 y.1),y.2)
 | .block i a,k,hs=>let p:=hnG k hs;let q:=hnO k p.2
  match isR q.1 with
  |true=>(wrG p.1 (.raw (.block i a)),k+1,q.2)
  |false=>let x:=ann a (k+1) q.2;(wrG p.1 (.block i x.1),x.2)
 | .loop a,k,hs=>let p:=hnG k hs;let q:=hnO k p.2
  match isR q.1 with
  |true=>(wrG p.1 (.raw (.loop a)),k+1,q.2)
  |false=>let x:=ann a (k+1) q.2;(wrG p.1 (loH q.1 x.1),x.2)
theorem SX(o:Option Hn)(a b:AC):BC (sqH o a b)=.seq (BC a) (BC b):=by
 unfold sqH;split<;>rfl
theorem SW(o:Option Hn)(d:Bool)(D:List Nat)(ls:List SL):BC (rgH o d D ls)=.reg d D ls:=by
 unfold rgH;split<;>simp[BC,Ua]
theorem SU(o:Option Hn)(D:List Nat)(ls:List SL):BC (reH o D ls)=.regE D ls:=by
 unfold reH;split<;>rfl
theorem ST(o:Option Hn)(a:AC):BC (loH o a)=.loop (BC a):=by
 unfold loH;split<;>rfl
theorem SS(c:Cr):∀k hs,BC (ann c k hs).1=c:=by
 induction c with
 |seq a b iha ihb|cond c a b iha ihb=>intro k hs;simp only[ann];split<;>simp[Jl,SX,BC,iha,ihb]
 |block i a iha|loop a iha=>intro k hs;simp only[ann];split<;>simp[Jl,ST,BC,iha]
 |bad=>intro k hs;simp[ann,Jl,BC]
 |_=>intro k hs;simp only[ann,Jl];cases isR (hnO k (hnG k hs).2).1<;>simp[BC,SW,SU]
def mdl(P:Program)(f:FuncId)(hs:HL):AF:=
 match Ek P f with
 |some m=>⟨m.n,(ann m.code 0 hs).1,m.res⟩
 |none=>⟨0,.ret,[]⟩
def tst(P:Program)(f:FuncId)(a:Ty):Bool:=
 match Ek P f,AY a with
 |some m,some k=>Nat.ble k m.n
 |_,_=>false
theorem VT{P:Program}{f:FuncId}{a:Ty}(hs:HL)(h:tst P f a=true):∃k,AY a=some k∧Nat.ble k (mdl P f hs).n=true∧Ek P f=some ⟨(mdl P f hs).n,BC (mdl P f hs).code,(mdl P f hs).res⟩:=by
 unfold tst at h;split at h
 ·rename_i m k h1 h2;refine⟨k,h2, ?_, ?_⟩<;>simp[mdl,h1,h,SS]
 ·cases h
theorem GoodT.hT{P:Program}{B:TB}{L:List (FuncId×Sig)}{LE:List (FuncId×BJ)}(h:GoodT P B L LE){f:FuncId}{s:Sig}(hs:HL)(hv:(s.r.val&&s.r.ok)=true)(hc:tst P f s.a=true)(hg:Jp (tp B L LE) s.a s.r (mdl P f hs)=some s.fn):GoodT P B ((f,s)::L) LE:=by
 obtain⟨k,h1,h2,h3⟩:=VT hs hc;exact h.add f s _ h3 hg h1 h2 hv
theorem RelL.ints{w:World}{M:MM}{k:IntKind}:∀{zs:List Int} {vs:List Value},RelL w M (zs.map fun z=>.int k z) vs→vs=zs.map fun z=>Value.int k z
 | [],vs,h=>by unfold RelL at h;exact h
 |z::zs,vs,h=>by
  simp only[List.map_cons]at h;unfold RelL at h;obtain⟨v,vs',rfl,h1,h2⟩:=h;unfold RelC at h1;rw[h1,RelL.ints h2];rfl
theorem GOk.tab{P:Program}{G:Nat→List CV}{w:World}{M:MM}(h:GOk G w M){name:String}{k:IntKind}{zs:List Int}{g:Nat}(hg:P.globalNamed name=some g)(hG:G g=zs.map fun z=>.int k z)(hz:zs≠ []):Lib.TabIs P w name k zs:=by
 obtain⟨h1,cs,t,fr,h2,h3⟩:=h g (by rw[hG];simpa using hz);rw[hG]at h1 h3;unfold RelC at h1;obtain⟨ad,vs,e,_,_,hl,hc⟩:=h1;cases e;have hv:=RelL.ints hl;subst hv;unfold Lib.TabIs World.var?;rw[hg];simp only[Option.bind_some,h2,Ac];apply Array.ext_getElem?;intro i;by_cases hi:i<zs.length
 ·have:=hc i (.int k zs[i]) (by simp[hi])
  have e2:(({block:=g,off:=0,spot:=none}:Addr).add i)={block:=g,off:=i,spot:=none}:=by
   unfold Addr.add;by_cases h0:i=0<;>simp[h0]
  rw[e2]at this;simp only[World.cell?,h2]at this;rw[show(cs[i]? =some (Value.int k zs[i]))from by simpa using this];simp[hi]
 ·rw[Array.getElem?_eq_none (by simp at h3;omega),Array.getElem?_eq_none (by simp;omega)]
theorem Kh{w:World}{M:MM}{x:D (.cons .str (.one .str))}{l:List CV}{vs:List Value}(hx:Can (.cons .str (.one .str)) x l)(hL:RelL w M l vs):vs= [.string ⟨⟨x.1⟩⟩,.string ⟨⟨x.2⟩⟩]:=by
 obtain⟨s,b⟩:=x;unfold Can at hx;obtain⟨c1,l',rfl,h2,h3⟩:=hx;unfold Can at h2 h3;obtain⟨c',rfl,h3⟩:=h3;unfold Can at h3;cases h2;cases h3;unfold RelL RelC at hL;obtain⟨v,vs',rfl,rfl,hL⟩:=hL;unfold RelL RelC at hL;obtain⟨v,vs',rfl,rfl,hL⟩:=hL;unfold RelL at hL;subst hL;rfl
theorem OV{P:Program}{w:World}:∀{l:List (String×DataW Unit)} {ps:List MemPlace},DataW.LaidVars P w l ps→∀{name:String} {d:DataW Unit},(name,d)∈l→∃g t cs fuel p,P.globalNamed name=some g∧(P.globals[g]?).map (·.type)=some t∧w.var? P name=some cs∧DataW.trod (fun _=>()) P w 0 (fun _=>true) false fuel t cs.toList=some (d,p)
 | [],_,_,_,_,hm=>by cases hm
 |(n,d)::l,ps,h,name,d',hm=>by
  obtain⟨g,t,cs,fuel,p,q,h1,h2,h3,h4,h5,h6⟩:=h;rcases List.mem_cons.1 hm with e|hm
  ·cases e;exact⟨g,t,cs,fuel,p,h1,h2,h3,h4⟩
  ·exact OV h5 hm
theorem tabIs_of_mem{P:Program}{W:World}{l:List (String×DataW Unit)}{name:String}{k:IntKind}{zs:List Int}{g:Nat}{t e:TypeId}{n:Nat}(hm:(name,Lib.tabData k zs)∈l)
  (hg:P.globalNamed name=some g) (hty:(P.globals[g]?).map (·.type)=some t) (ht:P.underlying t=some (.array n e)) (he:P.underlying e=some (.int k)) (hce:P.cellsOf e=1) (hct:P.cellsOf t=n)
  (h:laidMet P l W):Lib.TabIs P W name k zs:=by
 obtain⟨ps,h1,_,_⟩:=h;obtain⟨g',t',cs,fuel,p,hg',ht',hvar,hd⟩:=OV h1 hm;obtain rfl:=Option.some.inj (hg.symm.trans hg');obtain rfl:=Option.some.inj (hty.symm.trans ht');unfold Lib.TabIs;rw[hvar,←Lib.cells_of_tab ht he hce hct hd]
def N3(w:World)(g:Nat)(vs:List Value):Prop:=∃t fr,w.heap[g]? =some (.cells ⟨vs⟩ t fr)
theorem VL{P:Program}{w:World}{name:String}{g:Nat}{vs:List Value}(hg:P.globalNamed name=some g)(h:w.var? P name=some ⟨vs⟩):N3 w g vs:=by
 unfold World.var? at h;rw[hg]at h;simp only[Option.bind_some]at h;split at h<;>(try cases h;done);rename_i cs t fr hh;cases h;exact⟨t,fr,hh⟩
theorem GOk.one{w:World}{g:Nat}{cvs:List CV}{vs:List Value}(h:N3 w g vs)(hr:RelL w noM cvs vs)(hn:noNamL (fun _=>false) cvs=true):
  RelC w noM (.rp cvs) (.pointer (some ⟨g,0,none⟩))∧∃cs t fr,w.heap[g]? =some (.cells cs t fr)∧cs.size=cvs.length∧noNamL (fun _=>false) cvs=true:=by
 obtain⟨t,fr,hh⟩:=h;refine⟨?_,⟨vs⟩,t,fr,hh,by simp[hr.length],hn⟩;unfold RelC;refine⟨⟨g,0,none⟩,vs,rfl,C3 hh,fun hh=>hh,hr,fun j u hu=> ?_⟩
 have e2:(({block:=g,off:=0,spot:=none}:Addr).add j)={block:=g,off:=j,spot:=none}:=by
  unfold Addr.add;by_cases h0:j=0<;>simp[h0]
 rw[e2];simp only[World.cell?,hh];simpa using hu
theorem PZ{w:World}{M:MM}{k:IntKind}:∀(zs:List Int),RelL w M (zs.map fun z=>.int k z) (zs.map fun z=>Value.int k z)
 | []=>RelL.nil
 |z::zs=>RelL.cons (by unfold RelC;rfl) (PZ zs)
theorem Py{k:IntKind}:∀(zs:List Int),noNamL (fun _=>false) (zs.map fun z=>CV.int k z)=true
 | []=>rfl
 |z::zs=>by simp only[List.map_cons,noNamL,BF,Py zs,Bool.and_self]
theorem GOk.ints{P:Program}{w:World}{name:String}{g:Nat}{k:IntKind}{zs:List Int}(hg:P.globalNamed name=some g)(h:Lib.TabIs P w name k zs):
  RelC w noM (.rp (zs.map fun z=>.int k z)) (.pointer (some ⟨g,0,none⟩))∧∃cs t fr,w.heap[g]? =some (.cells cs t fr)∧cs.size=(zs.map fun z=>CV.int k z).length∧noNamL (fun _=>false) (zs.map fun z=>CV.int k z)=true:=
 GOk.one (VL hg h) (PZ zs) (Py zs)
end WB
namespace WB
open Go Go.RowKit Go.Maps
open Go.WideElems (Fit rd rg)
open Go.MapKept (Stamped)
open Go.WideMaps (keyOf_string_mk)
end WB
namespace WB
open Go Go.RowKit Go.ChangeShapes Go.WideShapes Go.Deep
def InR:(t:Ty)→D t→Prop
 | .int k,n=>k.min≤(n:Int)∧(n:Int)≤k.max
 | .str,s=>(s:List UInt8).length≤9223372036854775807
 | .sl e,xs=>(xs:List (D e)).length≤9223372036854775807∧∀x∈(xs:List (D e)),InR e x
 | .agg r,x=>InR r x
 | .one t,x=>InR t x
 | .cons t r,x=>InR t x.1∧InR r x.2
 |_,_=>True
def FR(P:Program)(t:TypeId):Bool:=
 match P.underlying t with
 |some (.struct _)|some (.array _ _)=>true
 |_=>false
def IC(P:Program)(t:TypeId)(r:Ty):Option Ty:=
 if FR P t then some (.agg r)else match r with
  | .one t=>if Eb t=true then some t else none
  |_=>none
section
variable (P:Program)
def Gb(r:Ty):Nat→Ty
 |0=>.nil
 |n+1=>(Bz r (Gb r n)).1
def Ir(R:TypeId→Option Ty):List Field→Nat→Option Ty
 | [],_=>some .nil
 |f::fs,off=>(R f.type).bind fun r=>(Ir R fs (off+P.cellsOf f.type)).bind fun q=>if f.offset=off∧AY r=some (P.cellsOf f.type)then some (Bz r q).1 else none
def GW:Nat→TypeId→Option Ty
 |0,_=>none
 |n+1,t=>match P.underlying t with
  |some (.int k)=>some (.one (.int k))
  |some .bool=>some (.one .bool)
  |some .string=>some (.one .str)
  |some (.slice e)=>(GW n e).bind fun r=>(IC P e r).bind fun te=>if te.val=true∧AY (BS te)=some (P.cellsOf e)∧0<P.cellsOf e then some (.one (.sl te))else none
  |some (.struct fs)=>(Ir P (GW n) fs.toList 0).bind fun r=>if AY r=some (P.cellsOf t)then some r else none
  |some (.array m e)=>(GW n e).bind fun r=>if AY r=some (P.cellsOf e)∧AY (Gb r m)=some (P.cellsOf t)then some (Gb r m)else none
  |_=>none
end
theorem Np:∀{r s:Ty} {n:Nat} {x:D r} {y:D s},AY r=some n→InR r x→InR s y→InR (Bz r s).1 ((Bz r s).2 x y):=by
 intro r
 induction r with
 |nil=>intro s n x y _ _ h;exact h
 |one t _=>
  intro s n x y _ h k;cases s
  case nil=>exact h
  all_goals exact⟨h,k⟩
 |cons t r _ ihr=>
  intro s n x y hn h k;simp only[AY,Aa]at hn;obtain⟨n',hn,_⟩:=hn;exact⟨h.1,ihr hn h.2 k⟩
 |_=>intro s n x y hn;cases hn
section
variable {H:Type} {enc:TypeId×Value→H} {P:Program} {w:World} {base:Nat} {spare:Nat→Bool} {held:Bool}
theorem P4{t:TypeId}{r te:Ty}{x:D r}{cvs:List CV}{cs:List Value}(hv:IC P t r=some te)(hl:FR P t=false→cs.length=1)(hc:Can r x cvs)(hr:RelL w noM cvs cs)(hi:InR r x):
  ∃(y:D te) (c:CV) (v:Value),Can te y [c]∧RelC w noM c v∧v.cells.toList=cs∧InR te y:=by
 unfold IC at hv;split at hv
 ·cases hv;exact⟨x,.agg cvs,.agg ⟨cs⟩,by unfold Can;exact⟨_,rfl,hc⟩,by unfold RelC;exact⟨_,rfl,hr⟩,rfl,hi⟩
 ·rename_i ha;have hl:=hl (by simpa using ha);split at hv<;>(try cases hv;done);split at hv<;>(try cases hv;done);rename_i ho;cases hv;unfold Can at hc;obtain⟨c,rfl,hc⟩:=hc;unfold RelL at hr;obtain⟨v,vs,rfl,h1,h2⟩:=hr;unfold RelL at h2;subst h2;refine⟨x,c,v,hc,h1, ?_,hi⟩;rw[Mx h1 (fun cs e=>by have:=Fq ho hc;rw[e]at this;cases this)]
theorem PA{r:Ty}{k:Nat}(hk:AY r=some k){cs:List Value}:∀{m j:Nat},(∀i,j≤i→i<j+m→∃(x:D r) (cvs:List CV),Can r x cvs∧RelL w noM cvs ((cs.drop (i*k)).take k)∧InR r x)→
  ∃(x:D (Gb r m)) (cvs:List CV),Can (Gb r m) x cvs∧RelL w noM cvs ((cs.drop (j*k)).take (m*k))∧InR (Gb r m) x
 |0,j,_=>⟨(),[],rfl,by simp only[Nat.zero_mul,List.take_zero];exact RelL.nil,trivial⟩
 |m+1,j,h=>by
  obtain⟨x,cvs,h1,h2,h3⟩:=h j (Nat.le_refl _) (by omega);obtain⟨y,dvs,g1,g2,g3⟩:=PA hk (m:=m) (j:=j+1) (cs:=cs) (fun i h4 h5=>h i (by omega) (by omega));refine⟨(Bz r (Gb r m)).2 x y,cvs++dvs,Gn hk h1 g1, ?_,Np hk h3 g3⟩
  have e:(cs.drop (j*k)).take ((m+1)*k)=(cs.drop (j*k)).take k++(cs.drop ((j+1)*k)).take (m*k):=by
   rw[Nat.add_mul,Nat.one_mul,Nat.add_comm (m*k) k,List.take_add,List.drop_drop,Nat.add_mul,Nat.one_mul]
  rw[e];exact RelL.append h2 g2
theorem Wu{k:IntKind}{n:Int}(h:(Lit.int k n).wf=true):k.min≤n∧n≤k.max:=by
 simpa[Lit.wf]using h
theorem SZ{α β:Type}{p:Nat→α→β→Prop}:∀(n:Nat),(∀i,i<n→∃x y,p i x y)→∃(l:List α) (m:List β),l.length=n∧m.length=n∧∀(i:Nat) x y,l[i]? =some x→m[i]? =some y→p i x y:=by
 intro n h;obtain⟨l,hl,hp⟩:=O5 (p:=fun i (z:α×β)=>p i z.1 z.2) n (fun i hi=>by obtain⟨x,y,h⟩:=h i hi;exact⟨(x,y),h⟩);refine⟨l.map (·.1),l.map (·.2),by simp[hl],by simp[hl],fun i x y h1 h2=> ?_⟩;rw[List.getElem?_map,Aa]at h1 h2;obtain⟨z,hz,rfl⟩:=h1;obtain⟨z',hz',rfl⟩:=h2;rw[hz]at hz';cases hz';exact hp i z hz
theorem Nj{α β:Type}{R:α→β→Prop}:∀{as:List α} {bs:List β},as.length=bs.length→(∀(i:Nat) a b,as[i]? =some a→bs[i]? =some b→R a b)→Ap R as bs
 | [],[],_,_=>rfl
 | [],_::_,h,_=>by cases h
 |_::_,[],h,_=>by cases h
 |a::as,b::bs,h,hr=>⟨b,bs,rfl,hr 0 a b rfl rfl,Nj (by simpa using h) fun i x y h1 h2=>hr (i+1) x y (by simpa using h1) (by simpa using h2)⟩
theorem PB{R:TypeId→Option Ty}(hR:∀{t:TypeId} {r:Ty} {fuel:Nat} {cs:List Value} {y:DataW H×List MemPlace},R t=some r→DataW.trod enc P w base spare held fuel t cs=some y→∃(x:D r) (cvs:List CV),Can r x cvs∧RelL w noM cvs cs∧InR r x):∀{fs:List Field} {off:Nat} {r:Ty} {cs:List Value},Ir P R fs off=some r→(∀f∈fs,∃fuel y,DataW.trod enc P w base spare held fuel f.type ((cs.drop f.offset).take (P.cellsOf f.type))=some y)→
  ∃(x:D r) (cvs:List CV),Can r x cvs∧RelL w noM cvs ((cs.drop off).take cvs.length)∧InR r x
 | [],off,r,cs,h,_=>by
  unfold Ir at h;cases h;exact⟨(),[],rfl,by simp only[List.length_nil,List.take_zero];exact RelL.nil,trivial⟩
 |f::fs,off,r,cs,h,hd=>by
  unfold Ir at h;obtain⟨r',h1,h⟩:=Ab.1 h;obtain⟨q,h2,h⟩:=Ab.1 h;split at h<;>(try cases h;done);rename_i hh;obtain⟨hoff,hlen⟩:=hh;cases h;obtain⟨fuel,y,hy⟩:=hd f (by simp);obtain⟨x,cvs,g1,g2,g3⟩:=hR h1 hy;obtain⟨x',cvs',k1,k2,k3⟩:=PB hR (cs:=cs) h2 (fun f' hf'=>hd f' (by simp[hf']));refine⟨(Bz r' q).2 x x',cvs++cvs',Gn hlen g1 k1, ?_,Np hlen g3 k3⟩;have hl:=DX hlen g1;rw[hoff,←hl]at g2;rw[←hl]at k2;rw[List.length_append,List.take_add,List.drop_drop];exact RelL.append g2 k2
theorem JO:∀{n:Nat} {t:TypeId} {r:Ty} {fuel:Nat} {cs:List Value} {y:DataW H×List MemPlace},GW P n t=some r→DataW.trod enc P w base spare held fuel t cs=some y→(FR P t=false→cs.length=1)∧∃(x:D r) (cvs:List CV),Can r x cvs∧RelL w noM cvs cs∧InR r x
 |0,_,_,_,_,_,h,_=>by cases h
 |n+1,t,r,fuel,cs,y,h,hd=>by
  unfold GW at h;split at h
  ·rename_i k ht;cases h;obtain⟨m,rfl,_,hw⟩:=DataW.trod_int ht hd;exact⟨fun _=>rfl,m,[.int k m],⟨_,rfl,rfl⟩,RelL.cons rfl RelL.nil,Wu hw⟩
  ·rename_i ht;cases h;obtain⟨b,rfl,_⟩:=DataW.trod_bool ht hd;exact⟨fun _=>rfl,b,[.bool b],⟨_,rfl,rfl⟩,RelL.cons rfl RelL.nil,trivial⟩
  ·rename_i ht;cases h;obtain⟨s,rfl,_,hs⟩:=DataW.trod_string ht hd;refine⟨fun _=>rfl,s.data.toList,[.str s.data.toList],⟨_,rfl,rfl⟩,RelL.cons rfl RelL.nil, ?_⟩;have h9:s.size≤9223372036854775807:=hs;show s.data.toList.length≤9223372036854775807;rw[Array.length_toList];exact h9
  ·rename_i e ht;obtain⟨r',h1,h⟩:=Ab.1 h;obtain⟨te,h2,h⟩:=Ab.1 h;split at h<;>(try cases h;done);rename_i hh;obtain⟨hv,hlen,hpos⟩:=hh;cases h;rcases open_slice ht hd with⟨h0,_⟩|⟨a,len,cap,m,n',D',Pl,hcs,hb,hl,hm,hmm,hx,hi⟩
   ·subst h0;refine⟨fun _=>rfl,[],[.sl (some true) []],⟨_,rfl,_,_,rfl,rfl⟩,RelL.cons ?_ RelL.nil,by simp[InR]⟩;unfold RelC;exact⟨none,0,0,rfl,rfl,Nat.le_refl _,fun _=>rfl,(fun hh=>by cases hh),fun _=>rfl,fun hh=>absurd rfl hh⟩
   ·subst hcs
    have hel:∀i,i<len→∃(z:D te) (c:CV),(Can te z [c]∧InR te z)∧∃v,RelC w noM c v∧v.cells.size=P.cellsOf e∧∀(j:Nat) u,v.cells[j]? =some u→w.cell? (a.add (i*P.cellsOf e+j))=some u:=by
     intro i hil;obtain⟨cs',hc,ht'⟩:=hi i (by rw[hmm];split<;>omega);obtain⟨_,hcl,hat⟩:=World.cells?_some hc;obtain⟨g0,x,cvs,g1,g2,g3⟩:=JO h1 ht';obtain⟨z,c,v,k1,k2,k3,k4⟩:=P4 h2 g0 g1 g2 g3;refine⟨z,c,⟨k1,k4⟩,v,k2,by rw[←hcl,←k3];simp,fun j u hu=> ?_⟩
     have hj:j<P.cellsOf e:=by
      have:=(Array.getElem?_eq_some_iff.1 hu).1;rw[←hcl,←k3];simpa using this
     rw[←WB.Gm,hat j hj,←k3];simpa using hu
    obtain⟨zs,es,e1,e2,hp⟩:=SZ len hel;refine⟨fun _=>rfl,zs,[.sl (some false) es],⟨_,rfl,_,_,rfl,Nj (by omega) fun i z c h3 h4=>(hp i z c h3 h4).1.1⟩,RelL.cons ?_ RelL.nil,⟨?_,fun z hz=> ?_⟩⟩
    ·unfold RelC;refine⟨some a,len,cap,rfl,by omega,hl,(fun hh=>by cases hh),(fun _=>by simp),(fun hh=>by cases hh),fun hne=> ?_⟩;refine⟨a,P.cellsOf e,rfl, ?_,fun hh=>hh,F7 fun k el hel'=> ?_⟩
     ·have hlen0:0<len:=by
       rcases Nat.eq_zero_or_pos len with h0|h0
       ·exact absurd (List.eq_nil_of_length_eq_zero (by omega)) hne
       ·exact h0
      obtain⟨cs',hc,_⟩:=hi 0 (by rw[hmm];split<;>omega);obtain⟨_,hcl,hat⟩:=World.cells?_some hc;have h5:=hat 0 hpos;rw[Ai (by omega)]at h5;have h6:=Lc h5;rw[CU,CU]at h6;exact h6
     ·have hk:k<len:=by have:=(Ae.1 hel').1;omega
      have hz:zs[k]? =some (zs[k]'(by omega)):=Ai _;obtain⟨v,k1,k2,k3⟩:=(hp k _ el hz hel').2;exact⟨v,k1,k2,fun j u hu=>by simpa using k3 j u hu⟩
    ·have:cap≤9223372036854775807:=hm;omega
    ·obtain⟨i,hi'⟩:=List.getElem?_of_mem hz;have hlt:=(Ae.1 hi').1;exact(hp i z (es[i]'(by omega)) hi' (Ai _)).1.2
  ·rename_i fs ht;obtain⟨r',h1,h⟩:=Ab.1 h;split at h<;>(try cases h;done);rename_i hlen;cases h;obtain⟨ys,n',_,_,hcl,hyl,hg⟩:=DataW.trod_struct ht hd;refine⟨fun ha=>by simp[FR,ht]at ha, ?_⟩
   obtain⟨x,cvs,g1,g2,g3⟩:=PB (fun h3 h4=>(JO h3 h4).2) (cs:=cs) h1 (fun f hf=>by
    obtain⟨i,hi⟩:=List.getElem?_of_mem hf;have h2:=hg i f (by simpa using hi);have hi':=(Ae.1 hi).1;rw[Ai (show i<ys.length by rw[hyl];simpa using hi')]at h2
    exact⟨_,_,h2⟩)
   have hl2:=DX hlen g1;have hl3:=g2.length;have hl4:(cs.take cvs.length)=cs:=List.take_of_length_le (by omega);rw[List.drop_zero,hl4]at g2;exact⟨x,cvs,g1,g2,g3⟩
  ·rename_i m e ht;obtain⟨r',h1,h⟩:=Ab.1 h;split at h<;>(try cases h;done);rename_i hlen;cases h;obtain⟨ys,n',_,_,hcl,hyl,hg⟩:=DataW.trod_array ht hd;refine⟨fun ha=>by simp[FR,ht]at ha, ?_⟩
   obtain⟨x,cvs,g1,g2,g3⟩:=PA (w:=w) hlen.1 (cs:=cs) (m:=m) (j:=0) (fun i _ hi=>by
    have h2:=hg i (by omega);rw[Ai (show i<ys.length by omega)]at h2
    exact(JO h1 h2).2)
   have hl2:=DX hlen.2 g1;have hl3:=g2.length;simp only[Nat.zero_mul,List.drop_zero,List.length_take]at hl3 g2;have hl4:(cs.take (m*P.cellsOf e))=cs:=List.take_of_length_le (by omega);rw[hl4]at g2;exact⟨x,cvs,g1,g2,g3⟩
  ·cases h
def KC(P:Program)(n:Nat)(t:TypeId):Option Ty:=(GW P n t).bind fun r=>(IC P t r).bind fun te=>if te.val=true then some te else none
theorem PC{n:Nat}{t:TypeId}{te:Ty}{r:Reach}{b0:Nat}{v:Value}{d:DataW H}{p:List MemPlace}(ht:KC P n t=some te)(hv:Value.okWide P w r b0 t v)(hd:DataW.Trod enc P w base spare held t v d p):
  ∃(x:D te) (c:CV),Can te x [c]∧RelC w noM c v∧InR te x:=by
 unfold KC at ht;obtain⟨r',h1,ht⟩:=Ab.1 ht;obtain⟨te',h2,ht⟩:=Ab.1 ht;split at ht<;>(try cases ht;done);cases ht;obtain⟨fuel,hd⟩:=hd;obtain⟨g0,x,cvs,g1,g2,g3⟩:=JO h1 hd;obtain⟨z,c,v',k1,k2,k3,k4⟩:=P4 h2 g0 g1 g2 g3;refine⟨z,c,k1, ?_,k4⟩;unfold IC at h2;split at h2
 ·rename_i ha
  have hagg:∃cs,v=.agg cs:=by
   unfold FR at ha;split at ha<;>(try cases ha;done)
   all_goals
    rename_i ht;simp only[Value.okWide,ht]at hv;obtain⟨cs,h,_⟩:=hv;exact⟨cs,h⟩
  obtain⟨cs,rfl⟩:=hagg;have ht':te=.agg r':=by cases h2;rfl
  subst ht';unfold Can at k1;obtain⟨l,e,_⟩:=k1;cases e;unfold RelC at k2⊢;obtain⟨vs,e,hl⟩:=k2;subst e;refine⟨vs, ?_,hl⟩;have:vs=cs.toList:=by simpa[Value.cells]using k3
  rw[this]
 ·rename_i ha;split at h2<;>(try cases h2;done);split at h2<;>(try cases h2;done);rename_i ho;cases h2;have e:=Mx k2 (fun cs e=>by have:=Fq ho k1;rw[e]at this;cases this);rw[e]at k3
  have hl:v.cells= #[v']:=by
   apply Array.toList_inj.1;rw[←k3]
  have:v=v':=by
   cases v with
   |agg cs=>
    exfalso;unfold FR at ha;unfold Value.okWide at hv;split at hv
    all_goals first
     |(rename_i hh;rw[hh]at ha;exact ha rfl)
     |(rename_i hn1 hn2
       revert hv;simp only[Cell.okWide,Cell.ok]
       split<;>simp_all)
   |_=>simpa[Value.cells]using hl
  rw[this];exact k2
def KP(P:Program)(n:Nat):List TypeId→Option Ty
 | []=>some .nil
 | [t]=>(KC P n t).map .one
 |t::u::ts=>(KC P n t).bind fun te=>(KP P n (u::ts)).map fun r=>.cons te r
theorem P9{n:Nat}{r:Reach}{b0:Nat}:∀{ts:List TypeId} {a:Ty} {vs:List Value} {ds:List (DataW H)} {ps:List MemPlace},KP P n ts=some a→(∀(j:Nat) t v,ts[j]? =some t→vs[j]? =some v→Value.okWide P w r b0 t v)→DataW.TrodAll enc P w base spare held ts vs ds ps→
  ∃(x:D a) (l:List CV),Can a x l∧RelL w noM l vs∧InR a x
 | [],a,vs,ds,ps,ha,_,h=>by
  cases ha;obtain⟨rfl,rfl,rfl⟩:=trodAll_nil h;exact⟨(),[],rfl,RelL.nil,trivial⟩
 | [t],a,vs,ds,ps,ha,hv,h=>by
  obtain⟨te,h1,rfl⟩:=Aa.1 ha;obtain⟨v0,vs0,d0,ds0,p0,q0,rfl,rfl,rfl,h0,r0⟩:=trodAll_cons h;obtain⟨rfl,rfl,rfl⟩:=trodAll_nil r0;obtain⟨x,c,g1,g2,g3⟩:=PC h1 (hv 0 t v0 rfl rfl) h0;exact⟨x,[c],⟨c,rfl,g1⟩,RelL.cons g2 RelL.nil,g3⟩
 |t::u::ts,a,vs,ds,ps,ha,hv,h=>by
  obtain⟨te,h1,ha⟩:=Ab.1 ha;obtain⟨q,h2,rfl⟩:=Aa.1 ha;obtain⟨v0,vs0,d0,ds0,p0,q0,rfl,rfl,rfl,h0,r0⟩:=trodAll_cons h;obtain⟨x,c,g1,g2,g3⟩:=PC h1 (hv 0 t v0 rfl rfl) h0;obtain⟨x',l,k1,k2,k3⟩:=P9 h2 (fun j t' v' h3 h4=>hv (j+1) t' v' (by simpa using h3) (by simpa using h4)) r0;exact⟨(x,x'),c::l,⟨c,l,rfl,g1,k1⟩,RelL.cons g2 k2,g3,k3⟩
end
theorem QZ{H:Type}{enc:TypeId×Value→H}{P:Program}{w:World}{base:Nat}{spare:Nat→Bool}{held:Bool}:∀{ts:List TypeId} {vs:List Value} {ds:List (DataW H)} {ps:List MemPlace},DataW.TrodAll enc P w base spare held ts vs ds ps→ds.length=ts.length
 | [],vs,ds,ps,h=>by
  obtain⟨rfl,rfl,rfl⟩:=trodAll_nil h;rfl
 |t::ts,vs,ds,ps,h=>by
  obtain⟨v0,vs0,d0,ds0,p0,q0,rfl,rfl,rfl,h0,r0⟩:=trodAll_cons h;simp[QZ r0]
theorem row_contract{P:Program}{G:Nat→List CV}{f:FuncId}{fn:Func}{s:ChangeSpec}{tb:TypeId}{a:Ty}(n:Nat)(laidOut:laidOutB P=true)(hA:KP P n fn.params.toList=some a)(hr:(fn.params.toList.all fun t=>P.readableRec t&&decide (t<P.types.size))=true)
  (hres:fn.resultTypes= #[tb]) (htb:P.underlying tb=some .bool) (hsv:s.vars= []) (hs:∀(H:Type) (ds:List (DataW H)),ds.length=fn.params.size→(s.fn H ds).results= [.lit (.bool true)]∧(s.fn H ds).args=ds∧(s.fn H ds).vars= [])
  (hcall:∀(x:D a) (l:List CV),Can a x l→InR a x→CallsTo P G f l (.val (.bool true)))
  (H:Type) (enc:TypeId×Value→H) (W:World) (base:Nat) (args:Array Value) (ds gs:List (DataW H)) (before:List MemPlace)
  (hval:∀(j:Nat) t v,fn.params[j]? =some t→args[j]? =some v→Value.okWide P W .any base t v)
  (hW:DataW.Whole enc P fn.params.toList s.vars false W args.toList ds gs before) (hG:GOk G W noM):
  Calls P f args W fun e W'=>∃v,e=.returned v∧s.post enc P fn false true false false W args v W':=by
 have hW':=hW;obtain⟨p,q,hA0,hV,rfl,hfz,hnd⟩:=hW;have hA1:DataW.TrodAll enc P W 0 (fun _=>true) true fn.params.toList args.toList ds p:=hA0;rw[hsv]at hV;obtain⟨rfl,rfl⟩:=trodVars_none hV;obtain⟨x,l,g1,g2,g3⟩:=P9 (base:=0) hA (fun j t v h1 h2=>hval j t v (by simpa using h1) (by simpa using h2)) hA1;have hlen:ds.length=fn.params.size:=by rw[QZ hA1];simp
 obtain⟨e1,e2,e3⟩:=hs H ds hlen;have hc:=hcall x l g1 g3 W noM args.toList (fun _ h=>h.elim) hG g2;refine hc.mono fun e W' ⟨v,he,hb,hr'⟩=> ?_;subst he;unfold Dh RelC at hr';subst hr';refine⟨_,rfl,UL (pa:=p) (pv:= []) hW' (fun _ _ _=> ?_) (fun sp hsp=> ?_) (fun sp hsp=> ?_) rfl hb ?_⟩
 ·rw[List.append_nil,e1,hres];exact trodAll_cons_mk (shut_bool htb _) trodAll_mk0
 ·rw[List.append_nil,e2];exact QY laidOut hb hr (fun x hx=>hW'.lt x (by simpa using hx)) (fun x hx=>hsp x (by simpa using hx)) hA1
 ·rw[List.append_nil,e3,hsv];rfl
 ·exact ok_one hres rfl (okWide_bool_mk htb _)
end WB
