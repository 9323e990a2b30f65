/-
  Own texts. No condition of their own.
-/
import Derived.Test.YtefbaepigpomaaaGreatDoorK10
set_option linter.unusedVariables false
set_option linter.unusedSimpArgs false
open Go.IntKind (i64 u64 u8 u32)
namespace WB
open Go Go.RowKit Go.Sort Go.Proofs
def Rz(s:ak)(y i o:Int):ak:=(y,i,o,bN s y,ar s y,CH s y,Fn s y,c5 s)
theorem Aif{n:Int}{s:ak}{x:Mo}{y i o:Int}(h:bo n s)(v:0<=n/\n<=31)(f:Ce x)(hi:1<=i/\i<=o)(u:o<=26):
  iter DU (CU 0 s (aq (Rz s y i o) (x.mon y i o) 0 0 0 []))=some (Wa s (aq (IW s x y i o) (x.mon y i o) (x.S+x.B) (Ct x) (G0 s x y i o-EB s x y i o) (H2 s x y i o))):=by
 have j:=h.at v.1 y;have a:=LH (y:=y) h v f hi u;have t:=Ago (s:=Rz s y i o) (y:=y) (i:=i) (o:=o) (g:=0) (b:=0) (c:=0) f;have r:=Agp (yy:=y) (ii:=i) (oo:=o) (tb:=CH s y) (tt:=Fn s y) (bf:=bN s y) (so:=ar s y) (od:=c5 s) (y:=y) (i:=i) (o:=o) f j.bf (by have:=j.bv;omega);have I:=a.base;have F:=a.work;have G:=a.held;have E:=a.l3;have D:=a.l4;have z:=j.tb;have w:=j.tt;have A:=h.ov;have q1:∀e∈CQ x++b7 1 AS (Bh x),e.1.1=0\/e.1.1=1:=fun e d=>(List.mem_append.1 d).elim (fun h=>.inl (V9 e h)) (fun h=>.inr (Qr e h))
 have q2:∀e∈CQ x++b7 1 AS (Bh x)++ba 2 AE (Cd x (A8 (ar s y)))++ba 6 AE (Cy x (A8 (ar s y))),e.1.1=0\/e.1.1=1\/e.1.1=2\/e.1.1=6:=by
  intro e d;simp only[List.mem_append]at d;rcases d with(((d|d)|d)|d)
  ·exact .inl (V9 e d)
  ·exact .inr (.inl (Qr e d))
  ·exact .inr (.inr (.inl (We e d)))
  ·exact .inr (.inr (.inr (We e d)))
 have q:=Agq (yy:=y) (ii:=i) (oo:=o) (tb:=CH s y) (tt:=Fn s y) (bf:= [(AS,A7 AS (bN s y)+Bh x)]) (so:=ar s y) (od:=c5 s) (y:=y) (i:=i) (o:=o) (b:=Ct x) (c:=Ct x) (ln:=CQ x++b7 1 AS (Bh x)) f j.so a.H (by omega)
  (KL fun e d k=>by rcases q1 e d with h|h<;>omega) (KL fun e d k=>by rcases q1 e d with h|h<;>omega)
 have p:=Agr (yy:=y) (ii:=i) (oo:=o) (tb:=CH s y) (tt:=Fn s y) (bf:= [(AS,A7 AS (bN s y)+Bh x)]) (so:= [(AE,C6 x (A8 (ar s y)))]) (od:=c5 s) (y:=y) (i:=i) (o:=o) (g:=x.S+x.B) (b:=Ct x) (c:=Ct x-Cd x (A8 (ar s y)))
  (ln:=CQ x++b7 1 AS (Bh x)++ba 2 AE (Cd x (A8 (ar s y)))++ba 6 AE (Cy x (A8 (ar s y)))) f (by omega) (by omega) (by omega) hi u (by omega)
  (KL fun e d k=>by rcases q2 e d with h|h|h|h<;>omega)
 have q3:∀e∈CQ x++b7 1 AS (Bh x)++ba 2 AE (Cd x (A8 (ar s y)))++ba 6 AE (Cy x (A8 (ar s y)))++ [((3,El),DL s x y i o)],e.1.1=0\/e.1.1=1\/e.1.1=2\/e.1.1=6\/e.1.1=3:=by
  intro e d;rcases List.mem_append.1 d with d|d
  ·rcases q2 e d with h|h|h|h
   ·exact .inl h
   ·exact .inr (.inl h)
   ·exact .inr (.inr (.inl h))
   ·exact .inr (.inr (.inr (.inl h)))
  ·rw[List.mem_singleton]at d;subst d;exact .inr (.inr (.inr (.inr rfl)))
 have m:=Ags (s:=(y,i,o,[(AS,A7 AS (bN s y)+Bh x)],[(AE,C6 x (A8 (ar s y)))],CH s y+Ct x,D1 x (CH s y+Ct x) i o,c5 s)) (y:=y) (i:=i) (o:=o) (g:=x.S+x.B) (b:=Ct x) (c:=Fd s x y i o)
  (ln:=CQ x++b7 1 AS (Bh x)++ba 2 AE (Cd x (A8 (ar s y)))++ba 6 AE (Cy x (A8 (ar s y)))++ [((3,El),DL s x y i o)]) f (by omega)
  (KL fun e d k=>by rcases q3 e d with h|h|h|h|h<;>omega)
 have l:=Agt (yy:=y) (ii:=i) (oo:=o) (tb:=CH s y+Ct x) (tt:=D1 x (CH s y+Ct x) i o) (bf:= [(AS,A7 AS (bN s y)+Bh x)]) (so:= [(AE,C6 x (A8 (ar s y)))]) (od:=c5 s) (y:=y) (i:=i) (o:=o) (g:=x.S+x.B) (b:=Ct x) (c:=G0 s x y i o)
  (ln:=CQ x++b7 1 AS (Bh x)++ba 2 AE (Cd x (A8 (ar s y)))++ba 6 AE (Cy x (A8 (ar s y)))++ [((3,El),DL s x y i o)]++b7 4 Ea (min x.C (Fd s x y i o))) f h.od (by
   have:A7 AG (c5 s)=A7 AG s.2.2.2.2.2.2.2:=rfl
   omega) (by omega)
  (KL fun e d k=>by
   rcases List.mem_append.1 d with d|d
   ·rcases q3 e d with h|h|h|h|h<;>omega
   ·have:=Qr e d;omega)
 exact(aH (Aii t)).trans ((aH (Aij (s:=s) r)).trans ((aH (Aik (s:=s) q)).trans ((aH (Ail (s:=s) p)).trans ((aH (Aim (s:=s) m)).trans ((aH (Ain (s:=s) l)).trans (ay Aio))))))
theorem Ai4{n:Int}{s:ak}{x:Mo}{y i o:Int}(h:bo n s)(k:0<=n/\n<=31)(d:Ce x)(p:2024<=y/\y<=2100)(hi:1<=i/\i<=o)(f:o<=26)(q:cR s.1 s.2.1 s.2.2.1 y i o):
  O3 (s,x.mon y i o)=some (IW s x y i o,(y,i,Ec s x y i o),0):=by
 have a:=LH (y:=y) h k d hi f;have v:=Aif (y:=y) h k d hi f;have u:=Ah6 (yy:=s.1) (ii:=s.2.1) (oo:=s.2.2.1) (bf:=s.2.2.2.1) (so:=s.2.2.2.2.1) (tb:=s.2.2.2.2.2.1) (tt:=s.2.2.2.2.2.2.1) (od:=s.2.2.2.2.2.2.2) d p hi f q (by have:=h.yy;omega) (by have:=h.ii;omega);have r:=Agv (s:=Rz s y i o) (m:=x.mon y i o) (g:=0) (b:=0) (c:=0) (ln:= []);have es:=Ais (s:=IW s x y i o) (m:=x.mon y i o) (g:=x.S+x.B) (b:=Ct x) (c:=G0 s x y i o-EB s x y i o) (Zf d a) Zg (Afc a) Qo;have t:=Ul (y:=y) (i:=i) (l:=Ec s x y i o) (by omega) (by omega) (Wd d a) Qo (by have:=Qn (s:=s) (x:=x) (y:=y) (i:=i) (o:=o);omega)
 have e:RD (s,x.mon y i o) ()=some ((IW s x y i o,(y,i,Ec s x y i o),0),()):=by
  unfold RD;refine CP u ?_;refine CP (a:=((0:Int),s.1,s.2.1,s.2.2.1,s.2.2.2.1,s.2.2.2.2.1,s.2.2.2.2.2.1,s.2.2.2.2.2.2.1,s.2.2.2.2.2.2.2,(x.mon y i o).1,(x.mon y i o).2.1,(x.mon y i o).2.2.1,(x.mon y i o).2.2.2.1,(x.mon y i o).2.2.2.2.1,(x.mon y i o).2.2.2.2.2.1,(x.mon y i o).2.2.2.2.2.2.1,(x.mon y i o).2.2.2.2.2.2.2.1,(x.mon y i o).2.2.2.2.2.2.2.2.1,(x.mon y i o).2.2.2.2.2.2.2.2.2.1,(x.mon y i o).2.2.2.2.2.2.2.2.2.2.1,(x.mon y i o).2.2.2.2.2.2.2.2.2.2.2,(0:Int),(0:Int),(0:Int),(0:Int),(0:Int),(0:Int),(0:Int),s.1,s.2.1,s.2.2.1,bN s y,ar s y,CH s y,Fn s y,c5 s,(x.mon y i o).1,(x.mon y i o).2.1,(x.mon y i o).2.2.1,(x.mon y i o).2.2.2.1,(x.mon y i o).2.2.2.2.1,(x.mon y i o).2.2.2.2.2.1,(x.mon y i o).2.2.2.2.2.2.1,(x.mon y i o).2.2.2.2.2.2.2.1,(x.mon y i o).2.2.2.2.2.2.2.2.1,(x.mon y i o).2.2.2.2.2.2.2.2.2.1,(x.mon y i o).2.2.2.2.2.2.2.2.2.2.1,(x.mon y i o).2.2.2.2.2.2.2.2.2.2.2,(0:Int),(0:Int),(0:Int),([]:ML),(),(),(),(),(),(),(),(),(),(),(),(),(),(),(),())) ?_ ?_
  ·by_cases e:s.1=y
   ·have j:(s.1 !=y)=false:=by simp[e]
    simp only[bN,ar,CH,Fn,Ao e];show(if(s.1 !=y)=true then _ else _)=_;rw[j];rfl
   ·have j:(s.1 !=y)=true:=by simp[e]
    simp only[bN,ar,CH,Fn,An e];show(if(s.1 !=y)=true then _ else _)=_;rw[j];rfl
  ·refine CP (CP r (CP v rfl)) ?_;refine CP (Eq.trans (Ao rfl) (CP es rfl)) ?_;refine CP (Eq.trans (Ao rfl) (CP t rfl)) ?_;exact(An (show ¬((0:Int) !=0)=true by decide)).trans rfl
 unfold O3;rw[e];rfl
theorem V5{k:List UInt8}{v:Int}:A7 k [(k,v)]=v:=by
 unfold A7;show(if aj Ty.str k k=true then(v,true)else _).1=v;rw[(cP k k).2 rfl,Ao rfl]
theorem bo.next{n:Int}{s:ak}{x:Mo}{y i o:Int}(h:bo n s)(d:0<=n/\n<=31)(b:Ce x)(p:2024<=y/\y<=2100)(hi:1<=i/\i<=o)(l:o<=26):bo (n+1) (IW s x y i o):=by
 have j:=h.at d.1 y;have a:=LH (y:=y) h d b hi l;have t:=b.S;have v:=b.B;have q:=a.pre;have r:=a.base;have I:=j.bv;have G:=j.sb;have F:=j.sI;have E:=j.sW;have D:=j.sF;have C:=j.tb;have A:=h.ov;have z:=a.court;have c:=Xc b a.H;have k:=Je (g:=Cj x.ce ((A8 (ar s y)).1+(x.S+x.B)) (A8 (ar s y)).2.1) (m:=x.w) c.1 ⟨b.w.1,by have:=b.w;omega⟩;have e:=Je (g:=Cj x.ce ((A8 (ar s y)).1+(x.S+x.B)) (A8 (ar s y)).2.1) (m:=x.f) c.1 ⟨b.f.1,by have:=b.f;omega⟩
 have u:(A8 (ar s y)).2.1+Cj x.ce ((A8 (ar s y)).1+(x.S+x.B)) (A8 (ar s y)).2.1<=n*8589934592+8589934592:=by
  unfold Cj F4;split<;>omega
 refine⟨by show 0<=y/\y<=2100;omega,by show 0<=i/\i<=26;omega,.inr ⟨_,rfl⟩, ?_,.inr ⟨_,rfl⟩, ?_, ?_, ?_, ?_, ?_,a.tax,.inr ⟨_,rfl⟩, ?_⟩
 ·show 0<=A7 AS [(AS,_)]/\A7 AS [(AS,_)]<=_;rw[V5];omega
 ·show _<=(A8 [(AE,_)]).1/\(A8 [(AE,_)]).1<=_;rw[MD];unfold C6;dsimp only;omega
 ·show 0<=(A8 [(AE,_)]).2.1/\(A8 [(AE,_)]).2.1<=_;rw[MD];unfold C6;dsimp only;omega
 ·show 0<=(A8 [(AE,_)]).2.2.1/\(A8 [(AE,_)]).2.2.1<=(A8 [(AE,_)]).2.1;rw[MD];unfold C6;dsimp only;omega
 ·show 0<=(A8 [(AE,_)]).2.2.2/\(A8 [(AE,_)]).2.2.2<=(A8 [(AE,_)]).2.1;rw[MD];unfold C6;dsimp only;omega
 ·show _<=CH s y+Ct x/\CH s y+Ct x<=_;omega
 ·show 0<=A7 AG [(AG,_)]/\A7 AG [(AG,_)]<=_;rw[V5];have:A7 AG (c5 s)=A7 AG s.2.2.2.2.2.2.2:=rfl;omega
structure Md where
 x:Mo
 y:Int
 i:Int
 o:Int
def Md.mon(d:Md):CO:=d.x.mon d.y d.i d.o
structure F8 (d:Md):Prop where
 x:Ce d.x
 y:2024<=d.y/\d.y<=2100
 i:1<=d.i/\d.i<=d.o
 o:d.o<=26
def IV(s:ak)(d:Md):ak:=IW s d.x d.y d.i d.o
def Yn(s:ak)(d:Md):Int×Int×List bb:=(d.y,d.i,Ec s d.x d.y d.i d.o)
def Gd:ak->List Md->Prop
 |_,[]=>True
 |s,d::l=>cR s.1 s.2.1 s.2.2.1 d.y d.i d.o/\Gd (IV s d) l
def Dc:ak->List Md->List (Int×Int×List bb)
 |_,[]=> []
 |s,d::l=>Yn s d::Dc (IV s d) l
def BE:ak->List Md->ak
 |s,[]=>s
 |s,d::l=>BE (IV s d) l
theorem NT:∀(l:List Md) (s:ak),(Dc s l).length=l.length
 | [],_=>rfl
 |d::l,s=>by rw[Dc,Au,NT l,Au]
theorem X6{s0:ak}:∀(l pre:List Md) (s:ak) (n:Int) (acc:List (Int×Int×List bb)),(∀d∈l,F8 d)->Gd s l->bo n s->0<=n->n+l.length<=31->pre.length+l.length<=1000->acc.length<=pre.length->
  iter O2 ((pre++l).map Md.mon,(((pre++l).map Md.mon).length:Int),(pre.length:Int),s0.1,s0.2.1,s0.2.2.1,s0.2.2.2.1,s0.2.2.2.2.1,s0.2.2.2.2.2.1,s0.2.2.2.2.2.2.1,s0.2.2.2.2.2.2.2,0,0,0,0,0,s.1,s.2.1,s.2.2.1,s.2.2.2.1,s.2.2.2.2.1,s.2.2.2.2.2.1,s.2.2.2.2.2.2.1,s.2.2.2.2.2.2.2,acc,(),(),(),(),(),(),(),(),(),(),())=
   some (.inl (0,0,0,0,0,(BE s l).1,(BE s l).2.1,(BE s l).2.2.1,(BE s l).2.2.2.1,(BE s l).2.2.2.2.1,(BE s l).2.2.2.2.2.1,(BE s l).2.2.2.2.2.2.1,(BE s l).2.2.2.2.2.2.2,acc++Dc s l,(),(),(),(),(),(),(),(),()))
 | [],pre,s,n,acc,_,_,_,_,_,_,_=>by
  refine ay ?_;unfold O2;dsimp only;have h:decide ((pre.length:Int)<(((pre++ []).map Md.mon).length:Int))=false:=Al (by simp);rw[h,An (by decide)];simp only[Dc,List.append_nil];rfl
 |d::l,pre,s,n,acc,hk,hf,hs,h0,hn,hc,ha=>by
  simp only[Au]at hn hc;have w1:i64.wrap ((pre.length:Int)+1)=((pre++ [d]).length:Int):=by rw[AI (by omega) (by omega)];simp
  have h:decide ((pre.length:Int)<(((pre++d::l).map Md.mon).length:Int))=true:=Am (by simp;omega);have a:=hk d (by simp);have c:an ((pre++d::l).map Md.mon) (pre.length:Int)=some d.mon:=Kj (by simp);have es:=Ai4 hs (by omega) a.x a.y a.i a.o hf.1;have e:=X6 (s0:=s0) l (pre++ [d]) (IV s d) (n+1) (acc++ [Yn s d]) (fun z b=>hk z (by simp[b])) hf.2 (hs.next (by omega) a.x a.y a.i a.o) (by omega) (by omega) (by simp;omega) (by simp;omega);rw[Ax,List.singleton_append]at e;refine(aH ?_).trans (e.trans ?_)
  ·unfold O2;dsimp only;rw[h,Ao rfl,c];simp only[Aq,Ap];refine CP es ?_;dsimp only;rw[An (show ¬((0:Int) !=0)=true by decide),OW (by simp;omega) (by decide),bs,w1];rfl
  ·rw[Ax];rfl
theorem X5{s:ak}{l:List Md}{n:Int}(c:∀d∈l,F8 d)(f:Gd s l)(a:bo n s)(g:0<=n)(b:n+l.length<=31):Jv (s,l.map Md.mon)=some (Dc s l,BE s l,0):=by
 have e:=X6 (s0:=s) l [] s n [] c f a g b (by simp;omega) (by simp);simp only[Ay,Av]at e;rw[show((0:Nat):Int)=0 from rfl]at e;unfold Jv;dsimp only;rw[Al (show ¬((l.map Md.mon).length:Int)>4096 by simp;omega),An (by decide),e];rfl
theorem YK{l:List Md}(a:∀d∈l,F8 d)(b:Gd (0,0,0,[],[],0,0,[]) l)(c:l.length<=31):Ln (l.map Md.mon)=some (Dc (0,0,0,[],[],0,0,[]) l,BE (0,0,0,[],[],0,0,[]) l,0):=by
 have e:=X5 a b bo.zero (by decide) (by omega);unfold Ln;dsimp only;rw[e,bs]
abbrev Raw:=Int×Int×Int×Int×Int×Int×Int×Int×Int×Int×Int×Int×Int×Int×Int×Int
structure RawOk (a:Raw):Prop where
 S: -2147483648<=a.1/\a.1<=2147483647
 B: -2147483648<=a.2.1/\a.2.1<=2147483647
 P: -2147483648<=a.2.2.1/\a.2.2.1<=2147483647
 C: -2147483648<=a.2.2.2.1/\a.2.2.2.1<=2147483647
 w:0<=a.2.2.2.2.1/\a.2.2.2.2.1<=65535
 f:0<=a.2.2.2.2.2.1/\a.2.2.2.2.2.1<=65535
 ce:0<=a.2.2.2.2.2.2.1/\a.2.2.2.2.2.2.1<=4294967295
 al:0<=a.2.2.2.2.2.2.2.1/\a.2.2.2.2.2.2.2.1<=4294967295
 ex:0<=a.2.2.2.2.2.2.2.2.1/\a.2.2.2.2.2.2.2.2.1<=255
 lo:0<=a.2.2.2.2.2.2.2.2.2.1/\a.2.2.2.2.2.2.2.2.2.1<=65535
 hi:0<=a.2.2.2.2.2.2.2.2.2.2.1/\a.2.2.2.2.2.2.2.2.2.2.1<=65535
 ed:0<=a.2.2.2.2.2.2.2.2.2.2.2.1/\a.2.2.2.2.2.2.2.2.2.2.2.1<=4294967295
 fx:0<=a.2.2.2.2.2.2.2.2.2.2.2.2.1/\a.2.2.2.2.2.2.2.2.2.2.2.2.1<=4294967295
 pr:0<=a.2.2.2.2.2.2.2.2.2.2.2.2.2.1/\a.2.2.2.2.2.2.2.2.2.2.2.2.2.1<=4294967295
 tt:0<=a.2.2.2.2.2.2.2.2.2.2.2.2.2.2.1/\a.2.2.2.2.2.2.2.2.2.2.2.2.2.2.1<=4294967295
 rt:0<=a.2.2.2.2.2.2.2.2.2.2.2.2.2.2.2/\a.2.2.2.2.2.2.2.2.2.2.2.2.2.2.2<=65535
def IT(a:Raw):Mo:=⟨a.1,a.2.1,BS .and .i32 a.2.2.1 1048575,BS .and .i32 a.2.2.2.1 65535,a.2.2.2.2.1*10,a.2.2.2.2.2.1*10,a.2.2.2.2.2.2.1,a.2.2.2.2.2.2.2.1,a.2.2.2.2.2.2.2.2.1,a.2.2.2.2.2.2.2.2.2.1*10,a.2.2.2.2.2.2.2.2.2.2.2.1+1,a.2.2.2.2.2.2.2.2.2.2.1*10,a.2.2.2.2.2.2.2.2.2.2.2.2.2.2.2*10,a.2.2.2.2.2.2.2.2.2.2.2.2.1,a.2.2.2.2.2.2.2.2.2.2.2.2.2.1,a.2.2.2.2.2.2.2.2.2.2.2.2.2.2.1⟩
theorem LJ{m:Nat}(p:Int)(d:m<2147483648):0<=BS .and .i32 p (m:Int)/\BS .and .i32 p (m:Int)<=(m:Int):=by
 have c:(BitVec.ofInt 32 p&&&BitVec.ofInt 32 (m:Int)).toNat<=m:=by
  rw[BitVec.toNat_and];refine Nat.le_trans Nat.and_le_right ?_;rw[BitVec.toNat_ofInt];omega
 obtain⟨q,a⟩:∃q,(BitVec.ofInt 32 p&&&BitVec.ofInt 32 (m:Int)).toNat=q:=⟨_,rfl⟩;rw[a]at c
 have b:BS .and .i32 p (m:Int)=(q:Int):=by
  show IntKind.i32.wrap (((BitVec.ofInt 32 p&&&BitVec.ofInt 32 (m:Int)).toNat:Nat):Int)=_;rw[a];simp[IntKind.wrap,IntKind.bits,IntKind.signed];omega
 rw[b];omega
theorem Afw{a:Raw}(h:RawOk a):Ce (IT a):=by
 have p:=h.S;have s:=h.B;have n:=h.w;have o:=h.f;have k:=h.ce;have l:=h.al;have hex:=h.ex;have e:=h.lo;have g:=h.hi;have j:=h.ed;have i:=h.fx;have d:=h.pr;have b:=h.tt;have c:=h.rt;have q:0<=BS .and .i32 a.2.2.1 1048575/\BS .and .i32 a.2.2.1 1048575<=1048575:=LJ (m:=1048575) a.2.2.1 (by decide);have r:0<=BS .and .i32 a.2.2.2.1 65535/\BS .and .i32 a.2.2.2.1 65535<=65535:=LJ (m:=65535) a.2.2.2.1 (by decide);constructor<;>simp only[IT]<;>omega
theorem Ku{n:Int}(h:0<=n/\n<=65535):Hs n=some (n*10):=by
 unfold Hs;dsimp only;rw[AI (n:=n) (by omega) (by omega),AI (n:=n*10) (by omega) (by omega)]
theorem Aft{a:Raw}{y i o:Int}(h:RawOk a):Ot (a,y,i,o)=some ((IT a).mon y i o):=by
 have s:=h.S;have v:=h.B;have e:=h.w;have l:=h.f;have q:=h.ce;have r:=h.al;have hex:=h.ex;have c:=h.lo;have d:=h.hi;have p:=h.ed;have k:=h.fx;have j:=h.pr;have g:=h.tt;have b:=h.rt;have t:0<=BS .and .i32 a.2.2.1 1048575/\BS .and .i32 a.2.2.1 1048575<=1048575:=LJ (m:=1048575) a.2.2.1 (by decide);have u:0<=BS .and .i32 a.2.2.2.1 65535/\BS .and .i32 a.2.2.2.1 65535<=65535:=LJ (m:=65535) a.2.2.2.1 (by decide);unfold Ot;dsimp only;rw[Ku e,bs,Ku l,bs,Ku c,bs,Ku d,bs,Ku b,bs];rw[AI (n:=a.1) (by omega) (by omega),AI (n:=a.2.1) (by omega) (by omega),AI (n:=BS .and .i32 a.2.2.1 1048575) (by omega) (by omega),AI (n:=BS .and .i32 a.2.2.2.1 65535) (by omega) (by omega),AI (n:=a.2.2.2.2.2.2.1) (by omega) (by omega),AI (n:=a.2.2.2.2.2.2.2.1) (by omega) (by omega),AI (n:=a.2.2.2.2.2.2.2.2.1) (by omega) (by omega),AI (n:=a.2.2.2.2.2.2.2.2.2.2.2.1) (by omega) (by omega),AI (n:=a.2.2.2.2.2.2.2.2.2.2.2.1+1) (by omega) (by omega),AI (n:=a.2.2.2.2.2.2.2.2.2.2.2.2.1) (by omega) (by omega),AI (n:=a.2.2.2.2.2.2.2.2.2.2.2.2.2.1) (by omega) (by omega),AI (n:=a.2.2.2.2.2.2.2.2.2.2.2.2.2.2.1) (by omega) (by omega)];rfl
def cq(o:Int):Int->Int->List Raw->List Md
 |_,_,[]=> []
 |y,i,a::l=>⟨IT a,y,i,o⟩::cq o (if i+1>o then y+1 else y) (if i+1>o then 1 else i+1) l
theorem Wr{o:Int}:∀(l:List Raw) (y i:Int),(cq o y i l).length=l.length
 | [],_,_=>rfl
 |a::l,y,i=>by rw[cq,Au,Wr l,Au]
theorem Ws{o:Int}(c:1<=o/\o<=26):∀(l:List Raw) (y i:Int),(∀a∈l,RawOk a)->2024<=y->y+l.length<=2100->(1<=i/\i<=o)->∀d∈cq o y i l,F8 d
 | [],_,_,_,_,_,_,d,hd=>by cases hd
 |a::l,y,i,hl,hy,hn,hi,d,hd=>by
  simp only[Au]at hn;rcases List.mem_cons.1 hd with rfl|hd
  ·exact⟨Afw (hl a (by simp)),⟨hy,by show y<=2100;omega⟩,hi,c.2⟩
  ·exact Ws c l _ _ (fun b e=>hl b (by simp[e])) (by split<;>omega) (by split<;>omega) (by split<;>omega) d hd
theorem Wq{o:Int}:∀(l:List Raw) (s:ak) (y i:Int),(1<=i/\i<=o)->cR s.1 s.2.1 s.2.2.1 y i o->Gd s (cq o y i l)
 | [],_,_,_,_,_=>trivial
 |a::l,s,y,i,hi,hf=>by
  refine⟨hf,Wq l _ _ _ (by split<;>omega) ?_⟩;show cR y i o _ _ o;unfold cR;split
  ·exact .inr (.inr ⟨by omega,rfl,rfl⟩)
  ·exact .inr (.inl ⟨rfl,rfl,rfl⟩)
theorem W7{o:Int}(d:1<=o/\o<=26):∀(l pre:List Raw) (y i:Int) (acc:List CO),(∀a∈l,RawOk a)->(0<=y/\y<=10000)->(1<=i/\i<=o)->pre.length+l.length<=1000->y+l.length<=10000->acc.length<=pre.length->
  iter Oy (o,y,i,pre++l,((pre++l).length:Int),(pre.length:Int),acc,(),())=some (acc++(cq o y i l).map Md.mon,(),())
 | [],pre,y,i,acc,_,_,_,_,_,_=>by
  refine ay ?_;unfold Oy;dsimp only;have h:decide ((pre.length:Int)<(((pre++ []):List Raw).length:Int))=false:=Al (by simp);rw[h,An (by decide)];simp only[cq,List.map_nil,List.append_nil]
 |a::l,pre,y,i,acc,hl,hy,hi,hn,hyn,ha=>by
  simp only[Au]at hn hyn;have w1:i64.wrap ((pre.length:Int)+1)=((pre++ [a]).length:Int):=by rw[AI (by omega) (by omega)];simp
  have h:decide ((pre.length:Int)<(((pre++a::l):List Raw).length:Int))=true:=Am (by simp;omega);have e:=W7 d l (pre++ [a]) (if i+1>o then y+1 else y) (if i+1>o then 1 else i+1) (acc++ [(IT a).mon y i o]) (fun b f=>hl b (by simp[f])) (by split<;>omega) (by split<;>omega) (by simp;omega) (by split<;>omega) (by simp;omega);rw[Ax,List.singleton_append]at e;refine(aH ?_).trans (e.trans ?_)
  ·unfold Oy;dsimp only;rw[h,Ao rfl,CZ,ms,bs];have g:=Aft (a:=a) (y:=y) (i:=i) (o:=o) (hl a (by simp));refine CP (a:=(o,if i+1>o then y+1 else y,if i+1>o then 1 else i+1,pre++a::l,((pre++a::l).length:Int),(pre.length:Int),acc++ [(IT a).mon y i o],(),())) (CP g ?_) ?_
   ·rw[OW (by simp;omega) (by decide),bs,AI (n:=i+1) (by omega) (by omega),AI (n:=y+1) (by omega) (by omega)];by_cases c:i+1>o
    ·rw[Am c,Ao rfl,Ao c,Ao c]
    ·rw[Al c,An (by decide),An c,An c]
   ·dsimp only;rw[w1]
  ·rw[Ax];rfl
theorem Afx{o first:Int}{l:List Raw}(b:1<=o/\o<=26)(d:0<=first/\first<=255)(c:∀a∈l,RawOk a)(f:l.length<=100):
  Ox (l,first,o)=some ((cq o 2024 (first.tmod o+1) l).map Md.mon):=by
 have h:0<=first.tmod o:=Int.tmod_nonneg _ d.1
 have g:first.tmod o<o:=Int.tmod_lt_of_pos _ (by omega)
 have e:=W7 b l [] 2024 (first.tmod o+1) [] c (by omega) (by omega) (by simp;omega) (by omega) (by simp);simp only[Ay,Av]at e;rw[show((0:Nat):Int)=0 from rfl]at e;unfold Ox;dsimp only;rw[An (show ¬o=0 by omega),AI (n:=first) (by omega) (by omega),bs,AI (n:=first.tmod o+1) (by omega) (by omega),e,bs]
theorem Yq:∀(a b:List Md) (s:ak),Dc s (a++b)=Dc s a++Dc (BE s a) b
 | [],_,_=>rfl
 |d::a,b,s=>by rw[List.cons_append,Dc,Dc,BE,Yq a,List.cons_append]
theorem VX:∀(a b:List Md) (s:ak),BE s (a++b)=BE (BE s a) b
 | [],_,_=>rfl
 |d::a,b,s=>by rw[List.cons_append,BE,BE,VX a]
theorem RR:∀(a b:List Md) (s:ak),Gd s (a++b)->Gd s a/\Gd (BE s a) b
 | [],_,_,h=>⟨trivial,h⟩
 |d::a,b,s,h=>by
  have e:=RR a b _ h.2;exact⟨⟨h.1,e.1⟩,e.2⟩
theorem Qg:∀(l:List Md) (s:ak) (n:Int),(∀d∈l,F8 d)->bo n s->0<=n->n+l.length<=31->bo (n+l.length) (BE s l)
 | [],s,n,_,hs,_,_=>by
  rw[show n+((([]:List Md).length:Nat):Int)=n by simp];exact hs
 |d::l,s,n,hk,hs,h0,hn=>by
  simp only[Au]at hn;have a:=hk d (by simp);have e:=Qg l (IV s d) (n+1) (fun z b=>hk z (by simp[b])) (hs.next (by omega) a.x a.y a.i a.o) (by omega) (by omega);rw[show n+1+(l.length:Int)=n+((d::l).length:Int) by simp only[Au];omega]at e;exact e
theorem Yr:∀(l:List Md) (s:ak) (n:Int),(∀d∈l,F8 d)->bo n s->0<=n->n+l.length<=31->∀z∈Dc s l,Hp z=some 0
 | [],_,_,_,_,_,_,z,c=>by cases c
 |d::l,s,n,hk,hs,h0,hn,z,c=>by
  simp only[Au]at hn;have b:=hk d (by simp);rcases List.mem_cons.1 c with rfl|c
  ·have a:=LH (y:=d.y) hs (by omega) b.x b.i b.o;have e:=b.y;have hi:=b.i;have f:=b.o;exact Ul (y:=d.y) (i:=d.i) (l:=Ec s d.x d.y d.i d.o) (by omega) (by omega) (Wd b.x a) Qo (by have:=Qn (s:=s) (x:=d.x) (y:=d.y) (i:=d.i) (o:=d.o);omega)
  ·exact Yr l (IV s d) (n+1) (fun z c=>hk z (by simp[c])) (hs.next (by omega) b.x b.y b.i b.o) (by omega) (by omega) z c
end WB
namespace WB
open Go Go.RowKit
set_option linter.unusedSimpArgs false
set_option linter.unusedVariables false
def Kz:Nat:=1125899906842624
def R6(n:Nat):List UInt8:=Lib.decDigits (n/100)++ [46,cH (n/10 % 10),cH (n % 10)]
def Oi(c:Int):List UInt8:=(if c<0 then [45]else [])++R6 c.natAbs
theorem Abs(c:Int):Df c=some (decide (c.natAbs<=Kz)):=by
 unfold Df Kz;simp only[aN,aK,aO,aM,aL,gM,aS,B5,aP,B6,BC,aU,aT,aR,aQ,B2,B4,B7,BB,B3,BA,ao];by_cases b:c≥ -1125899906842624<;>by_cases a:c<=1125899906842624<;>simp[b,a]<;>omega
theorem XS{d:Nat}(h:d<10):(Utf8.encode (IntKind.i32.wrap (i64.wrap (48+(d:Int))))).data.toList= [cH d]:=by
 have:d=0\/d=1\/d=2\/d=3\/d=4\/d=5\/d=6\/d=7\/d=8\/d=9:=by omega
 rcases this with rfl|rfl|rfl|rfl|rfl|rfl|rfl|rfl|rfl|rfl<;>rfl
theorem Ak8:∀(n:Nat) (s:List UInt8),n<=4611686018427387->s.length+n<=4611686018427387904->∃(m:Nat) (t:List UInt8),iter Me ((n:Int),s,())=some ((m:Int),t,())/\m<10/\t.length<=s.length+n/\ [cH m]++t=Lib.decDigits n++s:=by
 intro n
 induction n using Nat.strongRecOn with
 |_ n ih=>
  intro s i g;by_cases h:n<10
  ·refine⟨n,s, ?_,h, ?_, ?_⟩
   ·rw[Kg];unfold Me;dsimp only;rw[Al (show ¬(n:Int)>9 by omega)];rfl
   ·omega
   ·rw[Mv h]
  ·obtain⟨m,t,d,c,b,a⟩:=ih (n/10) (by omega) ([cH (n % 10)]++s) (by omega) (by simp;omega);refine⟨m,t, ?_,c,by simp at b;omega, ?_⟩
   ·rw[Kg];unfold Me;dsimp only;rw[Am (show(n:Int)>9 by omega),Ao rfl,An (by decide),bs];have f:(n:Int).tmod 10=((n % 10:Nat):Int):=by rw[Int.tmod_eq_emod_of_nonneg (by omega)];omega
    have e:i64.wrap ((n:Int).tdiv 10)=((n/10:Nat):Int):=by rw[Int.tdiv_eq_ediv_of_nonneg (by omega),AI (by omega) (by omega)];omega
    rw[f,XS (Nat.mod_lt _ (by omega))];rw[Ao (by simp;omega),bs,An (by decide),bs,e];exact d
   ·rw[a,UE h];simp
theorem RB{n:Nat}(h:n<=4611686018427387):Iy (n:Int)=some (Lib.decDigits n):=by
 obtain⟨m,t,d,c,b,a⟩:=Ak8 n [] h (by simp;omega);unfold Iy;dsimp only;rw[d,bs];dsimp only;rw[XS c];simp only[Av,Nat.zero_add]at b;rw[Ao (by simp;omega),a];simp
theorem Ajb{x y:List UInt8}(b:x.length<=1000000)(a:y.length<=1000000){β:Type}(K:List UInt8->Option β):(if x.length+y.length<=4611686018427387904 then K (x++y)else none)=K (x++y):=Ao (by omega)
theorem ZE{c:Int}(l:c.natAbs<=20000000000000000):Ep c=some (if c.natAbs<=Kz then Oi c else []):=by
 unfold Ep;dsimp only;simp only[aN,aK,aO,aM,aL,gM,aS,B5,aP,B6,BC,aU,aT,aR,aQ,B2,B4,B7,BB,B3,BA,ao];simp only[BH,BI,BJ,BK,BL,BM,BN,BO,ao,BG,aX,aW,aY,aZ,bs,ms];rw[Abs,bs];by_cases a:c.natAbs<=Kz
 ·have j:c.natAbs<=1125899906842624:=a;rw[Am a,Ao a];simp only[Bool.not_true,Ah,if_false]
  have g:(if decide (c<0)=true then some (i64.wrap (0-c),([45]:List UInt8),())else some (c,[],()))=some ((c.natAbs:Int),(if c<0 then [45]else []),()):=by
   by_cases h:c<0
   ·rw[Am h,Ao rfl,Ao h,AI (by omega) (by omega)]
    congr 2;omega
   ·rw[Al h,An (by decide),An h]
    congr 2;omega
  rw[g,bs,An (by decide),bs];dsimp only;have f:(c.natAbs:Int).tmod 100=((c.natAbs % 100:Nat):Int):=by rw[Int.tmod_eq_emod_of_nonneg (by omega)];omega
  have e:i64.wrap ((c.natAbs:Int).tdiv 100)=((c.natAbs/100:Nat):Int):=by rw[Int.tdiv_eq_ediv_of_nonneg (by omega),AI (by omega) (by omega)];omega
  have d:i64.wrap (((c.natAbs % 100:Nat):Int).tdiv 10)=((c.natAbs/10 % 10:Nat):Int):=by rw[Int.tdiv_eq_ediv_of_nonneg (by omega),AI (by omega) (by omega)];omega
  have b:((c.natAbs % 100:Nat):Int).tmod 10=((c.natAbs % 10:Nat):Int):=by rw[Int.tmod_eq_emod_of_nonneg (by omega)];omega
  rw[An (by decide),bs,f,e,RB (by omega),bs];have k:(Lib.decDigits (c.natAbs/100)).length<=20:=Mu (by omega) (by omega);have i:(if c<0 then([45]:List UInt8)else []).length<=1:=by split<;>simp
  rw[Ajb (by omega) (by omega) (fun x=>if x.length+([46]:List UInt8).length<=4611686018427387904 then _ else _)];rw[Ao (by simp only[List.length_append];simp only[List.length_singleton];omega)];rw[An (by decide),bs,d,RB (by omega),bs,Mv (Nat.mod_lt _ (by omega))];rw[Ao (by simp only[List.length_append,List.length_singleton];omega)];rw[An (by decide),bs,b,RB (by omega),bs,Mv (Nat.mod_lt _ (by omega))];rw[Ao (by simp only[List.length_append,List.length_singleton];omega)];simp[Oi,R6]
 ·rw[Al a,An a];rfl
theorem Aj2(c:Int)(h:c.natAbs<=Kz):(Oi c).length<=20:=by
 have a:c.natAbs<=1125899906842624:=h;have b:(Lib.decDigits (c.natAbs/100)).length<=14:=Mu (by omega) (by omega);unfold Oi R6;simp only[List.length_append,Au,Av];split<;>simp<;>omega
end WB
namespace WB
open Go Go.RowKit Go.Sort Go.Proofs
theorem GK{c:Int}(h:c.natAbs<=20000000000000000):∃t,Ep c=some t/\t.length<=20:=by
 refine⟨_,ZE h, ?_⟩;split
 ·rename_i a;exact Aj2 c a
 ·simp
theorem Xs:∀(l pre:List (List UInt8)) (acc:List UInt8),(∀w∈l,w.length<=100)->acc.length+101*l.length<=1000000->pre.length+l.length<=100->
  ∃t,iter O4 (pre++l,((pre++l).length:Int),(pre.length:Int),acc,(),(),())=some (t,(),(),())/\t.length<=acc.length+101*l.length
 | [],pre,acc,_,_,_=>by
  refine⟨acc,ay ?_,by simp⟩;unfold O4;dsimp only;have h:decide ((pre.length:Int)<(((pre++ []):List (List UInt8)).length:Int))=false:=Al (by simp);rw[h,An (by decide)]
 |w::l,pre,acc,hl,ha,hn=>by
  simp only[Au]at hn;have w1:i64.wrap ((pre.length:Int)+1)=((pre++ [w]).length:Int):=by rw[AI (by omega) (by omega)];simp
  have h:decide ((pre.length:Int)<(((pre++w::l):List (List UInt8)).length:Int))=true:=Am (by simp;omega);have i:=hl w (by simp);obtain⟨a,g,j⟩:∃a,(if decide ((pre.length:Int)>0)=true then acc++ [32]else acc)=a/\a.length<=acc.length+1:=⟨_,rfl,by split<;>simp⟩;simp only[Au]at ha;obtain⟨t,c,f⟩:=Xs l (pre++ [w]) (a++w) (fun z d=>hl z (by simp[d])) (by simp;omega) (by simp;omega);rw[Ax,List.singleton_append]at c;refine⟨t,(aH ?_).trans c,by simp at f;simp only[Au];omega⟩;unfold O4;dsimp only;rw[h,Ao rfl,CZ,ms,bs]
  have e:(if decide ((pre.length:Int)>0)=true then(if acc.length+([32]:List UInt8).length<=4611686018427387904 then some (acc++([32]:List UInt8))else none).bind fun b=>some (w,pre++w::l,((pre++w::l).length:Int),(pre.length:Int),b,(),(),())else some (w,pre++w::l,((pre++w::l).length:Int),(pre.length:Int),acc,(),(),()))=some (w,pre++w::l,((pre++w::l).length:Int),(pre.length:Int),a,(),(),()):=by
   rw[<-g];by_cases q:(pre.length:Int)>0
   ·rw[Am q,Ao rfl,Ao (by simp;omega),bs,Ao rfl]
   ·rw[Al q,An (by decide),An (by decide)]
  refine CP e ?_;dsimp only;rw[Ao (by omega),bs,w1]
theorem KU{l:List (List UInt8)}{acc:List UInt8}(b:∀w∈l,w.length<=100)(d:acc.length<=900000)(c:l.length<=10):
  ∃t,GA (l,()) (acc,(),())=some ((),(t,(),()))/\t.length<=acc.length+2000:=by
 obtain⟨t,a,e⟩:=Xs l [] acc b (by omega) (by simp;omega);simp only[Ay,Av]at a;rw[show((0:Nat):Int)=0 from rfl]at a;refine⟨t++ [10], ?_,by simp;omega⟩;unfold GA;dsimp only;rw[a,bs];dsimp only;rw[Ao (by simp;omega),bs]
theorem Aj1{ks:List (List UInt8)}{k:List UInt8}{y i o:Int}{bf:MI}{so:MS}{tb tt:Int}{od:MI}{acc:List UInt8}(e:ks= []\/ks= [k])(p:k.length<=100)(b:(A7 k bf).natAbs<=20000000000000000)(h:acc.length<=900000):
  ∃t,iter Hv ((),ks,(ks.length:Int),0,y,i,o,bf,so,tb,tt,od,acc,(),(),(),(),())=some ((),y,i,o,bf,so,tb,tt,od,t,(),(),(),(),())/\t.length<=acc.length+2000:=by
 rcases e with rfl|rfl
 ·refine⟨acc,ay ?_,by omega⟩;unfold Hv;rfl
 ·have n:∀t:List UInt8,iter Hv ((),[k],1,1,y,i,o,bf,so,tb,tt,od,t,(),(),(),(),())=some ((),y,i,o,bf,so,tb,tt,od,t,(),(),(),(),()):=fun t=>ay (by unfold Hv;rfl)
  have step:∃t,Hv ((),[k],1,0,y,i,o,bf,so,tb,tt,od,acc,(),(),(),(),())=some (.inl ((),[k],1,1,y,i,o,bf,so,tb,tt,od,t,(),(),(),(),()))/\t.length<=acc.length+2000:=by
   unfold A7 at b;by_cases q:(AW (aj Ty.str) (AT (Ty.int IntKind.i64)) k bf).1=0
   ·refine⟨acc, ?_,by omega⟩;unfold Hv;dsimp only;rw[Am (by decide),Ao rfl,show an [k] 0=some k from rfl,ms,bs,q,An (by decide),bs];rfl
   ·obtain⟨c,g,f⟩:=GK b;obtain⟨t,d,a⟩:=KU (l:= [[98,101,102,111,114,101],k,c]) (acc:=acc) (by simp;omega) h (by simp);refine⟨t, ?_,a⟩;unfold Hv;dsimp only;rw[Am (by decide),Ao rfl,show an [k] 0=some k from rfl,ms,bs,Ao (by simpa using q),g,bs,d,bs,bs];rfl
  obtain⟨t,m,j⟩:=step;exact⟨t,(aH m).trans (n t),j⟩
theorem Aj0{ks:List (List UInt8)}{k:List UInt8}{y i o:Int}{bf:MI}{so:MS}{tb tt:Int}{od:MI}{acc:List UInt8}(w:ks= []\/ks= [k])(H:k.length<=100)
  (a:∀z:Int×Int×Int×Int,(AW (aj .str) zS k so).1=z->z.1.natAbs<=20000000000000000/\z.2.1.natAbs<=20000000000000000/\z.2.2.1.natAbs<=20000000000000000/\z.2.2.2.natAbs<=20000000000000000) (x:acc.length<=900000):
  ∃t,iter Hu ((),ks,(ks.length:Int),0,y,i,o,bf,so,tb,tt,od,acc,(),(),(),(),())=some ((),y,i,o,bf,so,tb,tt,od,t,(),(),(),(),())/\t.length<=acc.length+2000:=by
 rcases w with rfl|rfl
 ·refine⟨acc,ay ?_,by omega⟩;unfold Hu;rfl
 ·have C:∀t:List UInt8,iter Hu ((),[k],1,1,y,i,o,bf,so,tb,tt,od,t,(),(),(),(),())=some ((),y,i,o,bf,so,tb,tt,od,t,(),(),(),(),()):=fun t=>ay (by unfold Hu;rfl)
  have step:∃t,Hu ((),[k],1,0,y,i,o,bf,so,tb,tt,od,acc,(),(),(),(),())=some (.inl ((),[k],1,1,y,i,o,bf,so,tb,tt,od,t,(),(),(),(),()))/\t.length<=acc.length+2000:=by
   have a:=a _ rfl;change(AW (aj Ty.str) (AT (.agg (.cons (.int .i64) (.cons (.int .i64) (.cons (.int .i64) (.one (.int .i64))))))) k so).1.1.natAbs<=_/\(AW (aj Ty.str) (AT (.agg (.cons (.int .i64) (.cons (.int .i64) (.cons (.int .i64) (.one (.int .i64))))))) k so).1.2.1.natAbs<=_/\(AW (aj Ty.str) (AT (.agg (.cons (.int .i64) (.cons (.int .i64) (.cons (.int .i64) (.one (.int .i64))))))) k so).1.2.2.1.natAbs<=_/\(AW (aj Ty.str) (AT (.agg (.cons (.int .i64) (.cons (.int .i64) (.cons (.int .i64) (.one (.int .i64))))))) k so).1.2.2.2.natAbs<=_ at a;obtain⟨z,b⟩:∃z:Int×Int×Int×Int,(AW (aj Ty.str) (AT (.agg (.cons (.int .i64) (.cons (.int .i64) (.cons (.int .i64) (.one (.int .i64))))))) k so).1=z:=⟨_,rfl⟩;rw[b]at a;obtain⟨n,m,j,h⟩:=a;cases q:(!((z.1==(0:Int))&&((z.2.1==(0:Int))&&((z.2.2.1==(0:Int))&&(z.2.2.2==(0:Int))))))
   ·refine⟨acc, ?_,by omega⟩;unfold Hu;dsimp only;rw[Am (by decide),Ao rfl,show an [k] 0=some k from rfl,ms,bs,b,q,An (by decide),bs];rfl
   ·obtain⟨G,g,v⟩:=GK n;obtain⟨F,f,u⟩:=GK m;obtain⟨E,e,s⟩:=GK j;obtain⟨D,d,r⟩:=GK h;obtain⟨t,p,c⟩:=KU (l:= [[115,111,99,105,97,108],k,G,F,E,D]) (acc:=acc) (by simp;omega) x (by simp);refine⟨t, ?_,c⟩;unfold Hu;dsimp only;rw[Am (by decide),Ao rfl,show an [k] 0=some k from rfl,ms,bs,b,q,Ao rfl,g,bs,f,bs,e,bs,d,bs,p,bs,bs];rfl
  obtain⟨t,B,A⟩:=step;exact⟨t,(aH B).trans (C t),A⟩
theorem Ajz{ks:List (List UInt8)}{k:List UInt8}{y i o:Int}{bf:MI}{so:MS}{tb tt:Int}{od:MI}{acc:List UInt8}(e:ks= []\/ks= [k])(n:k.length<=100)(a:(A7 k od).natAbs<=20000000000000000)(h:acc.length<=900000):
  ∃t,iter Ht ((),ks,(ks.length:Int),0,y,i,o,bf,so,tb,tt,od,acc,(),(),(),(),())=some (t,(),(),()):=by
 rcases e with rfl|rfl
 ·refine⟨acc,ay ?_⟩;unfold Ht;rfl
 ·have m:∀t:List UInt8,iter Ht ((),[k],1,1,y,i,o,bf,so,tb,tt,od,t,(),(),(),(),())=some (t,(),(),()):=fun t=>ay (by unfold Ht;rfl)
  have step:∃t,Ht ((),[k],1,0,y,i,o,bf,so,tb,tt,od,acc,(),(),(),(),())=some (.inl ((),[k],1,1,y,i,o,bf,so,tb,tt,od,t,(),(),(),(),())):=by
   unfold A7 at a;by_cases q:(AW (aj Ty.str) (AT (Ty.int IntKind.i64)) k od).1=0
   ·refine⟨acc, ?_⟩;unfold Ht;dsimp only;rw[Am (by decide),Ao rfl,show an [k] 0=some k from rfl,ms,bs,q,An (by decide),bs];rfl
   ·obtain⟨c,g,f⟩:=GK a;obtain⟨t,d,b⟩:=KU (l:= [[111,114,100,101,114],k,c]) (acc:=acc) (by simp;omega) h (by simp);refine⟨t, ?_⟩;unfold Ht;dsimp only;rw[Am (by decide),Ao rfl,show an [k] 0=some k from rfl,ms,bs,Ao (by simpa using q),g,bs,d,bs,bs];rfl
  obtain⟨t,j⟩:=step;exact⟨t,(aH j).trans (m t)⟩
theorem Ry{β:Type}{k:List UInt8}(a:k.length<=100){m:List (List UInt8×β)}(h:m= []\/∃v,m= [(k,v)]):∃ks,F3 m=some ks/\(ks= []\/ks= [k]):=by
 rcases h with rfl|⟨v,rfl⟩
 ·exact⟨[],by unfold F3;rw[Ao (by simp)];simp,.inl rfl⟩
 ·refine⟨[k], ?_,.inr rfl⟩;unfold F3;rw[Ao ⟨by simp,by simp;omega⟩];simp
theorem PY{n:Int}(h:0<=n/\n<=10000):(Lib.itoa n).length<=100:=by
 unfold Lib.itoa;have b:(Lib.decDigits n.natAbs).length<=14:=Mu (by omega) (by omega);have a:(Lib.decDigits n.toNat).length<=14:=Mu (by omega) (by omega);split<;>simp<;>omega
theorem Aj3{n:Int}{s:ak}(h:bo n s)(hn:0<=n/\n<=31)(I:0<=s.2.2.1/\s.2.2.1<=10000):∃t,Gc s=some t:=by
 obtain⟨y,i,o,bf,so,tb,tt,od⟩:=s;have N:0<=y/\y<=2100:=h.yy;have U:0<=i/\i<=26:=h.ii;have H:cg AS bf:=h.bf;have V:0<=A7 AS bf/\A7 AS bf<=n*1048576:=h.bv;have x:cK so:=h.so;have A: -(n*8589934592)<=(A8 so).1/\(A8 so).1<=n*8589934592:=h.sb;have C:0<=(A8 so).2.1/\(A8 so).2.1<=n*8589934592:=h.sI;have B:0<=(A8 so).2.2.1/\(A8 so).2.2.1<=(A8 so).2.1:=h.sW;have D:0<=(A8 so).2.2.2/\(A8 so).2.2.2<=(A8 so).2.1:=h.sF;have P: -(n*8589934592)<=tb/\tb<=n*8589934592:=h.tb;have O:0<=tt/\tt<=30000000000001:=h.tt;have E:cg AG od:=h.od;have R:0<=A7 AG od/\A7 AG od<=n*30010000000000:=h.ov;have I:0<=o/\o<=10000:=I;clear h;by_cases b:i=0
 ·subst b;exact⟨[],by unfold Gc RE;rfl⟩
 ·obtain⟨L,w,l0⟩:=KU (l:= [[108,97,115,116],Lib.itoa y,Lib.itoa i,Lib.itoa o]) (acc:= []) (by have h1:=PY (n:=y) (by omega);have h2:=PY (n:=i) (by omega);have h3:=PY (n:=o) (by omega);simp;omega) (by simp) (by simp);obtain⟨k1,Y,q1⟩:=Ry (k:=AS) (by decide) H;obtain⟨k2,X,q2⟩:=Ry (k:=AE) (by decide) x;obtain⟨k3,W,q3⟩:=Ry (k:=AG) (by decide) E;simp only[Av]at l0;obtain⟨K,v,l1⟩:=Aj1 (y:=y) (i:=i) (o:=o) (bf:=bf) (so:=so) (tb:=tb) (tt:=tt) (od:=od) (acc:=L) q1 (by decide) (by omega) (by omega)
  obtain⟨a,u,l2⟩:=Aj0 (y:=y) (i:=i) (o:=o) (bf:=bf) (so:=so) (tb:=tb) (tt:=tt) (od:=od) (acc:=K) q2 (by decide) (by
   intro z M;have e:A8 so=z:=M;rw[e]at A C B D
   omega) (by omega)
  obtain⟨d,r,l3⟩:∃d,(if(!((tb==(0:Int))&&(tt==(0:Int))))=true then
    (Ep tb).bind fun g=>(Ep tt).bind fun f=>(GA ([[116,97,120],g,f],()) (a,(),())).bind fun j=>some ((),y,i,o,bf,so,tb,tt,od,j.2.1,(),(),(),(),())
    else some ((),y,i,o,bf,so,tb,tt,od,a,(),(),(),(),()))=some ((),y,i,o,bf,so,tb,tt,od,d,(),(),(),(),())/\d.length<=a.length+2000:=by
   cases q:(!((tb==(0:Int))&&(tt==(0:Int))))
   ·exact⟨a,by rw[An (by decide)],by omega⟩
   ·obtain⟨c1,G,T⟩:=GK (c:=tb) (by omega);obtain⟨Z,F,S⟩:=GK (c:=tt) (by omega);obtain⟨t,Q,m⟩:=KU (l:= [[116,97,120],c1,Z]) (acc:=a) (by simp;omega) (by omega) (by simp);exact⟨t,by rw[Ao rfl,G,bs,F,bs,Q,bs],m⟩
  obtain⟨J,p⟩:=Ajz (y:=y) (i:=i) (o:=o) (bf:=bf) (so:=so) (tb:=tb) (tt:=tt) (od:=od) (acc:=d) q3 (by decide) (by omega) (by omega);refine⟨J, ?_⟩;have a1:strconv_Itoa y=some (Lib.itoa y):=Ao (by omega);have a2:strconv_Itoa i=some (Lib.itoa i):=Ao (by omega);have a3:strconv_Itoa o=some (Lib.itoa o):=Ao (by omega);unfold Gc RE Q0 Q1 Q2;dsimp only;rw[An (by simpa using b),a1,bs,a2,bs,a3,bs,w,bs,bs];dsimp only[Jp];rw[Y,bs,v,bs];dsimp only;rw[bs,X,bs,u,bs];dsimp only;rw[r,bs];dsimp only;rw[bs,W,bs,p,bs];rfl
abbrev ct:=Int×Int×List bb
theorem Yb{y i:Int}:∀(l pre:List bb),pre.length+l.length<=1000->
  iter O0 (((pre++l).length:Int),(pre.length:Int),y,i,pre++l,y,i,pre++l,(),(),(),(),())=some (.inl ())
 | [],pre,_=>by
  refine ay ?_;unfold O0;dsimp only;have h:decide ((pre.length:Int)<(((pre++ []):List bb).length:Int))=false:=Al (by simp);rw[h,An (by decide)]
 |x::l,pre,hn=>by
  simp only[Au]at hn;have w1:i64.wrap ((pre.length:Int)+1)=((pre++ [x]).length:Int):=by rw[AI (by omega) (by omega)];simp
  have h:decide ((pre.length:Int)<(((pre++x::l):List bb).length:Int))=true:=Am (by simp;omega);have e:=Yb (y:=y) (i:=i) l (pre++ [x]) (by simp;omega);rw[Ax,List.singleton_append]at e;refine(aH ?_).trans e;unfold O0;dsimp only;rw[h,Ao rfl,CZ,ms,bs,bs,An (by simp),w1]
theorem Ah3{z:ct}(h:z.2.2.length<=1000):Oz (z,z)=some true:=by
 obtain⟨y,i,l⟩:=z;have e:=Yb (y:=y) (i:=i) l [] (by simpa using h);simp only[Ay,Av]at e;rw[show((0:Nat):Int)=0 from rfl]at e;unfold Oz;dsimp only;simp only[aN,aK,aO,aM,aL,gM,aS,B5,aP,B6,BC,aU,aT,aR,aQ,B2,B4,B7,BB,B3,BA,ao];simp only[BH,BI,BJ,BK,BL,BM,BN,BO,ao,BG,aX,aW,aY,aZ,bs,ms];rw[show(y !=y)=false by simp,show(i !=i)=false by simp,show((l.length:Int) !=(l.length:Int))=false by simp];simp only[Ah,if_false,bs];rw[e,bs]
theorem TR:∀(l pre:List ct),(∀z∈l,z.2.2.length<=1000)->pre.length+l.length<=1000->
  iter Ow (pre++l,pre++l,((pre++l).length:Int),(pre.length:Int),())=some (.inl ())
 | [],pre,_,_=>by
  refine ay ?_;unfold Ow;dsimp only;have h:decide ((pre.length:Int)<(((pre++ []):List ct).length:Int))=false:=Al (by simp);rw[h,An (by decide)]
 |x::l,pre,hl,hn=>by
  simp only[Au]at hn;have w1:i64.wrap ((pre.length:Int)+1)=((pre++ [x]).length:Int):=by rw[AI (by omega) (by omega)];simp
  have h:decide ((pre.length:Int)<(((pre++x::l):List ct).length:Int))=true:=Am (by simp;omega);have e:=TR l (pre++ [x]) (fun z a=>hl z (by simp[a])) (by simp;omega);rw[Ax,List.singleton_append]at e;refine(aH ?_).trans e;unfold Ow;dsimp only;rw[h,Ao rfl,CZ,ms,bs,bs,Ah3 (hl x (by simp)),bs,An (by decide),w1]
theorem Ze{l:List ct}(b:∀z∈l,z.2.2.length<=1000)(a:l.length<=1000):Ov (l,l)=some true:=by
 have e:=TR l [] b (by simpa using a);simp only[Ay,Av]at e;rw[show((0:Nat):Int)=0 from rfl]at e;unfold Ov;dsimp only;rw[An (by simp),e,bs]
theorem X4{ml:List CO}{k e:Int}{w a b:List ct}{s t u:ak}:∀(l pre:List ct),(∀z∈l,Hp z=some 0)->pre.length+l.length<=1000->
  iter Ou (ml,k,w,a,b,e,pre++l,((pre++l).length:Int),(pre.length:Int),s.1,s.2.1,s.2.2.1,s.2.2.2.1,s.2.2.2.2.1,s.2.2.2.2.2.1,s.2.2.2.2.2.2.1,s.2.2.2.2.2.2.2,t.1,t.2.1,t.2.2.1,t.2.2.2.1,t.2.2.2.2.1,t.2.2.2.2.2.1,t.2.2.2.2.2.2.1,t.2.2.2.2.2.2.2,u.1,u.2.1,u.2.2.1,u.2.2.2.1,u.2.2.2.2.1,u.2.2.2.2.2.1,u.2.2.2.2.2.2.1,u.2.2.2.2.2.2.2,(),(),(),(),(),(),())=
   some (.inl (ml,k,w,a,b,e,s.1,s.2.1,s.2.2.1,s.2.2.2.1,s.2.2.2.2.1,s.2.2.2.2.2.1,s.2.2.2.2.2.2.1,s.2.2.2.2.2.2.2,t.1,t.2.1,t.2.2.1,t.2.2.2.1,t.2.2.2.2.1,t.2.2.2.2.2.1,t.2.2.2.2.2.2.1,t.2.2.2.2.2.2.2,u.1,u.2.1,u.2.2.1,u.2.2.2.1,u.2.2.2.2.1,u.2.2.2.2.2.1,u.2.2.2.2.2.2.1,u.2.2.2.2.2.2.2,(),(),(),(),(),(),()))
 | [],pre,_,_=>by
  refine ay ?_;unfold Ou;dsimp only;have h:decide ((pre.length:Int)<(((pre++ []):List ct).length:Int))=false:=Al (by simp);rw[h,An (by decide)]
 |x::l,pre,hl,hn=>by
  simp only[Au]at hn;have w1:i64.wrap ((pre.length:Int)+1)=((pre++ [x]).length:Int):=by rw[AI (by omega) (by omega)];simp
  have h:decide ((pre.length:Int)<(((pre++x::l):List ct).length:Int))=true:=Am (by simp;omega);have c:=X4 (ml:=ml) (k:=k) (e:=e) (w:=w) (a:=a) (b:=b) (s:=s) (t:=t) (u:=u) l (pre++ [x]) (fun z d=>hl z (by simp[d])) (by simp;omega);rw[Ax,List.singleton_append]at c;refine(aH ?_).trans c;have f:Hp (x.1,x.2.1,x.2.2)=some 0:=hl x (by simp);unfold Ou;dsimp only;rw[h,Ao rfl,CZ,ms,bs,f,bs,An (by decide),w1]
theorem VY:∀(l:List Md) (s:ak),(∀d∈l,F8 d)->(0<=s.2.2.1/\s.2.2.1<=10000)->0<=(BE s l).2.2.1/\(BE s l).2.2.1<=10000
 | [],_,_,h=>h
 |d::l,s,hk,_=>VY l _ (fun z b=>hk z (by simp[b])) (by
  have a:=hk d (by simp);have e:=a.i;have c:=a.o;show 0<=d.o/\d.o<=10000
  omega)
theorem Ys:∀(l:List Md) (s:ak),∀z∈Dc s l,z.2.2.length<=1000
 | [],_,z,hz=>by cases hz
 |d::l,s,z,hz=>by
  rcases List.mem_cons.1 hz with rfl|hz
  ·show(Ec s d.x d.y d.i d.o).length<=1000;have:=Qn (s:=s) (x:=d.x) (y:=d.y) (i:=d.i) (o:=d.o);omega
  ·exact Ys l _ z hz
theorem law_TopResume{l:List Raw}{first of cut:Int}(P:∀a∈l,RawOk a)(Q:0<=first/\first<=255)(Z:0<=of/\of<=255)(hc:0<=cut/\cut<=255):wagebooktop_TopResume (l,first,of,cut)=some true:=by
 by_cases M:(l.length:Int)>30
 ·unfold wagebooktop_TopResume;dsimp only;rw[Am M,Ao rfl]
 ·have h1:0<=of.tmod 26:=Int.tmod_nonneg _ Z.1;have h2:of.tmod 26<26:=Int.tmod_lt_of_pos _ (by decide);obtain⟨o,C⟩:∃o,o=of.tmod 26+1:=⟨_,rfl⟩;have p:1<=o/\o<=26:=by omega
  have g1:0<=first.tmod o:=Int.tmod_nonneg _ Q.1
  have g2:first.tmod o<o:=Int.tmod_lt_of_pos _ (by omega)
  have N:=Afx (o:=o) (first:=first) (l:=l) p Q P (by omega);obtain⟨L,y⟩:∃L,L=cq o 2024 (first.tmod o+1) l:=⟨_,rfl⟩;have O:L.length=l.length:=by rw[y];exact Wr (o:=o) l 2024 _
  have c:∀d∈L,F8 d:=by rw[y];exact Ws (o:=o) p l 2024 _ P (by decide) (by omega) (by omega)
  have r:Gd (0,0,0,[],[],0,0,[]) L:=by rw[y];exact Wq (o:=o) l (0,0,0,[],[],0,0,[]) 2024 _ (by omega) (.inl (by decide))
  rw[<-y]at N;have k1:0<=cut.tmod ((L.length:Int)+1):=Int.tmod_nonneg _ hc.1;have k2:cut.tmod ((L.length:Int)+1)<(L.length:Int)+1:=Int.tmod_lt_of_pos _ (by omega);obtain⟨k,hk⟩:∃k:Nat,cut.tmod ((L.length:Int)+1)=(k:Int):=⟨(cut.tmod ((L.length:Int)+1)).toNat,by omega⟩;have q:k<=L.length:=by omega
  have f:L=L.take k++L.drop k:=(List.take_append_drop k L).symm;have R:∀d∈L.take k,F8 d:=fun d G=>c d (List.mem_of_mem_take G);have hB:∀d∈L.drop k,F8 d:=fun d G=>c d (List.mem_of_mem_drop G);have E:(L.take k).length=k:=by simp;omega
  have hlB:(L.drop k).length=L.length-k:=by simp
  obtain⟨fA,fB⟩:=RR (L.take k) (L.drop k) (0,0,0,[],[],0,0,[]) (by rw[<-f];exact r);have S:=YK c r (by omega);have aF:=YK R fA (by omega);have T:=Qg (L.take k) (0,0,0,[],[],0,0,[]) 0 R bo.zero (by decide) (by omega);have bF:=X5 hB fB T (by omega) (by omega);have sW:=Qg L (0,0,0,[],[],0,0,[]) 0 c bo.zero (by decide) (by omega);have eS:Dc (0,0,0,[],[],0,0,[]) L=Dc (0,0,0,[],[],0,0,[]) (L.take k)++Dc (BE (0,0,0,[],[],0,0,[]) (L.take k)) (L.drop k):=by rw[<-Yq,<-f]
  have eL:BE (0,0,0,[],[],0,0,[]) L=BE (BE (0,0,0,[],[],0,0,[]) (L.take k)) (L.drop k):=by rw[<-VX,<-f]
  obtain⟨J,m⟩:=Aj3 sW (by omega) (VY L _ c (by decide));have H:=Yr L (0,0,0,[],[],0,0,[]) 0 c bo.zero (by decide) (by omega);have D:=Ys L (0,0,0,[],[],0,0,[]);have V:=NT L (0,0,0,[],[],0,0,[]);have X:=NT (L.take k) (0,0,0,[],[],0,0,[]);have lB:=NT (L.drop k) (BE (0,0,0,[],[],0,0,[]) (L.take k))
  have U:Fv (L.map Md.mon) 0 (k:Int)=some ((L.take k).map Md.mon):=by
   have:=VV (xs:=L.map Md.mon) (i:=0) (j:=k) (by omega) (by simpa using q);rw[show((0:Nat):Int)=0 from rfl]at this;rw[this,List.drop_zero,List.map_take]
  have K:Fv (L.map Md.mon) (k:Int) ((L.map Md.mon).length:Int)=some ((L.drop k).map Md.mon):=by
   rw[VV (xs:=L.map Md.mon) (i:=k) (j:=(L.map Md.mon).length) (by simpa using q) (by omega),List.take_length,List.map_drop]
  have z:k=L.length->BE (0,0,0,[],[],0,0,[]) (L.take k)=BE (0,0,0,[],[],0,0,[]) L:=fun h=>by rw[h,List.take_length]
  generalize Dc (0,0,0,[],[],0,0,[]) L=W at*;generalize Dc (0,0,0,[],[],0,0,[]) (L.take k)=A at*;generalize Dc (BE (0,0,0,[],[],0,0,[]) (L.take k)) (L.drop k)=B at*;generalize BE (0,0,0,[],[],0,0,[]) L=s at*;generalize BE (0,0,0,[],[],0,0,[]) (L.take k)=t at*;generalize BE t (L.drop k)=u at*;subst eL;have v:=fun s t u=>X4 (ml:=L.map Md.mon) (k:=(k:Int)) (e:=0) (w:=W) (a:=A) (b:=B) (s:=s) (t:=t) (u:=u) W [] H (by simp;omega);simp only[Ay,Av]at v;rw[show((0:Nat):Int)=0 from rfl]at v;have x:=Ze D (by omega);have I:Jv ((t.1,t.2.1,t.2.2.1,t.2.2.2.1,t.2.2.2.2.1,t.2.2.2.2.2.1,t.2.2.2.2.2.2.1,t.2.2.2.2.2.2.2),(L.drop k).map Md.mon)=some (B,s,0):=bF;have g:Gc (s.1,s.2.1,s.2.2.1,s.2.2.2.1,s.2.2.2.2.1,s.2.2.2.2.2.1,s.2.2.2.2.2.2.1,s.2.2.2.2.2.2.2)=some J:=m;rw[show(((L.map Md.mon).length:Nat):Int)=(L.length:Int) by simp]at K;have v:=v s t s;unfold wagebooktop_TopResume;dsimp only;simp only[aN,aK,aO,aM,aL,gM,aS,B5,aP,B6,BC,aU,aT,aR,aQ,B2,B4,B7,BB,B3,BA,ao];simp only[BH,BI,BJ,BK,BL,BM,BN,BO,ao,BG,aX,aW,aY,aZ,bs,ms];rw[Al M,An (by decide),An (show ¬((26:Int)=0) by decide),bs,AI (n:=of.tmod 26) (by omega) (by omega),AI (n:=of.tmod 26+1) (by omega) (by omega),<-C,N,bs];rw[AI (n:=cut) (by omega) (by omega),show(((L.map Md.mon).length:Nat):Int)=(L.length:Int) by simp,AI (n:=(L.length:Int)+1) (by omega) (by omega),An (by omega),hk,bs,S,bs,U,bs,aF,bs];dsimp only;rw[An (show ¬((0:Int) !=0)=true by decide),bs,An (show ¬((0:Int) !=0)=true by decide),K,bs,I,bs];dsimp only
  rw[show((W.length:Int) !=(L.length:Int))=false by simp[V],An (by decide),show((A.length:Int) !=(k:Int))=false by rw[X,E];simp,bs,An (by decide),AI (n:=(L.length:Int)-(k:Int)) (by omega) (by omega),show((B.length:Int) !=(L.length:Int)-(k:Int))=false by
   have:(B.length:Int)=(L.length:Int)-(k:Int):=by omega
   rw[this];simp]
  rw[bs,An (by decide),v,bs];dsimp only;rw[Ao (show((0:Int)==0)=true by decide),Ao ⟨by simp;omega,by simp;omega⟩,Ao ⟨by simp;omega,by simp;omega⟩,Ay,<-eS,x,bs,Ao rfl,g,bs,bs,Ao (by simp)];by_cases F:k=L.length
  ·have Y:Gc (t.1,t.2.1,t.2.2.1,t.2.2.2.1,t.2.2.2.2.1,t.2.2.2.2.2.1,t.2.2.2.2.2.2.1,t.2.2.2.2.2.2.2)=some J:=by rw[z F];exact m
   rw[Al (by simp;omega),An (by decide),Y,bs,bs];simp
  ·rw[Am (by simp;omega),Ao rfl];rfl
end WB
