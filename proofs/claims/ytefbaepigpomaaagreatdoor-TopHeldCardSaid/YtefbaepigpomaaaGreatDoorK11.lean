/-
  OWN TEXTS, MERGED (wip/merge.py): Pty, Ptya, Ptyb, Ptyc, Ptyd, Ptye. No condition of their own.
-/
import Derived.Test.YtefbaepigpomaaaGreatDoorK10
set_option linter.unusedVariables false
set_option linter.unusedSimpArgs false
open Go.IntKind (i64 u64 u8 u32)
namespace WB
open Go Go.RowKit Go.Sort Go.Proofs
def QH(s:ak)(y i o:Int):ak:=(y,i,o,bI s y,an s y,C8 s y,EX s y,bU s)
theorem Agk{n:Int}{s:ak}{x:Mo}{y i o:Int}(h:bx n s)(v:0≤n/\n≤31)(f:BT x)(hi:1≤i/\i≤o)(u:o≤26):
  iter DI (CJ 0 s (aq (QH s y i o) (x.mon y i o) 0 0 0 []))=some (Vj s (aq (I6 s x y i o) (x.mon y i o) (x.S+x.B) (Cb x) (D9 s x y i o-Cd s x y i o) (Hb s x y i o))):=by
 have j:=h.at v.1 y;have a:=IY (y:=y) h v f hi u;have t:=Aeu (s:=QH s y i o) (y:=y) (i:=i) (o:=o) (g:=0) (b:=0) (c:=0) f;have r:=Aev (yy:=y) (ii:=i) (oo:=o) (tb:=C8 s y) (tt:=EX s y) (bf:=bI s y) (so:=an s y) (od:=bU s) (y:=y) (i:=i) (o:=o) f j.bf (by have:=j.bv;omega);have I:=a.base;have F:=a.work;have G:=a.held;have E:=a.l3;have D:=a.l4;have z:=j.tb;have w:=j.tt;have A:=h.ov;have q1:∀e∈CF x++b7 1 AI (AS x),e.1.1=0\/e.1.1=1:=fun e d=>(List.mem_append.1 d).elim (fun h=>.inl (UL e h)) (fun h=>.inr (PB e h))
 have q2:∀e∈CF x++b7 1 AI (AS x)++ba 2 Az (B1 x (Av (an s y)))++ba 6 Az (Cg x (Av (an s y))),e.1.1=0\/e.1.1=1\/e.1.1=2\/e.1.1=6:=by
  intro e d;simp only[List.mem_append]at d;rcases d with(((d|d)|d)|d)
  ·exact .inl (UL e d)
  ·exact .inr (.inl (PB e d))
  ·exact .inr (.inr (.inl (Vn e d)))
  ·exact .inr (.inr (.inr (Vn e d)))
 have q:=Aew (yy:=y) (ii:=i) (oo:=o) (tb:=C8 s y) (tt:=EX s y) (bf:= [(AI,Au AI (bI s y)+AS x)]) (so:=an s y) (od:=bU s) (y:=y) (i:=i) (o:=o) (b:=Cb x) (c:=Cb x) (ln:=CF x++b7 1 AI (AS x)) f j.so a.H (by omega)
  (Kh fun e d k=>by rcases q1 e d with h|h<;>omega) (Kh fun e d k=>by rcases q1 e d with h|h<;>omega)
 have p:=Aex (yy:=y) (ii:=i) (oo:=o) (tb:=C8 s y) (tt:=EX s y) (bf:= [(AI,Au AI (bI s y)+AS x)]) (so:= [(Az,Cu x (Av (an s y)))]) (od:=bU s) (y:=y) (i:=i) (o:=o) (g:=x.S+x.B) (b:=Cb x) (c:=Cb x-B1 x (Av (an s y)))
  (ln:=CF x++b7 1 AI (AS x)++ba 2 Az (B1 x (Av (an s y)))++ba 6 Az (Cg x (Av (an s y)))) f (by omega) (by omega) (by omega) hi u (by omega)
  (Kh fun e d k=>by rcases q2 e d with h|h|h|h<;>omega)
 have q3:∀e∈CF x++b7 1 AI (AS x)++ba 2 Az (B1 x (Av (an s y)))++ba 6 Az (Cg x (Av (an s y)))++ [((3,DY),CU s x y i o)],e.1.1=0\/e.1.1=1\/e.1.1=2\/e.1.1=6\/e.1.1=3:=by
  intro e d;rcases List.mem_append.1 d with d|d
  ·rcases q2 e d with h|h|h|h
   ·exact .inl h
   ·exact .inr (.inl h)
   ·exact .inr (.inr (.inl h))
   ·exact .inr (.inr (.inr (.inl h)))
  ·rw[List.mem_singleton]at d;subst d;exact .inr (.inr (.inr (.inr rfl)))
 have m:=Aey (s:=(y,i,o,[(AI,Au AI (bI s y)+AS x)],[(Az,Cu x (Av (an s y)))],C8 s y+Cb x,Dn x (C8 s y+Cb x) i o,bU s)) (y:=y) (i:=i) (o:=o) (g:=x.S+x.B) (b:=Cb x) (c:=E1 s x y i o)
  (ln:=CF x++b7 1 AI (AS x)++ba 2 Az (B1 x (Av (an s y)))++ba 6 Az (Cg x (Av (an s y)))++ [((3,DY),CU s x y i o)]) f (by omega)
  (Kh fun e d k=>by rcases q3 e d with h|h|h|h|h<;>omega)
 have l:=Aez (yy:=y) (ii:=i) (oo:=o) (tb:=C8 s y+Cb x) (tt:=Dn x (C8 s y+Cb x) i o) (bf:= [(AI,Au AI (bI s y)+AS x)]) (so:= [(Az,Cu x (Av (an s y)))]) (od:=bU s) (y:=y) (i:=i) (o:=o) (g:=x.S+x.B) (b:=Cb x) (c:=D9 s x y i o)
  (ln:=CF x++b7 1 AI (AS x)++ba 2 Az (B1 x (Av (an s y)))++ba 6 Az (Cg x (Av (an s y)))++ [((3,DY),CU s x y i o)]++b7 4 DO (min x.C (E1 s x y i o))) f h.od (by
   have:Au A2 (bU s)=Au A2 s.2.2.2.2.2.2.2:=rfl
   omega) (by omega)
  (Kh fun e d k=>by
   rcases List.mem_append.1 d with d|d
   ·rcases q3 e d with h|h|h|h|h<;>omega
   ·have:=PB e d;omega)
 exact(aH (Agn t)).trans ((aH (Ago (s:=s) r)).trans ((aH (Agp (s:=s) q)).trans ((aH (Agq (s:=s) p)).trans ((aH (Agr (s:=s) m)).trans ((aH (Ags (s:=s) l)).trans (aD Agt))))))
theorem Ag9{n:Int}{s:ak}{x:Mo}{y i o:Int}(h:bx n s)(k:0≤n/\n≤31)(d:BT x)(p:2024≤y/\y≤2100)(hi:1≤i/\i≤o)(f:o≤26)(q:cG s.1 s.2.1 s.2.2.1 y i o):
  NT (s,x.mon y i o)=some (I6 s x y i o,(y,i,BW s x y i o),0):=by
 have a:=IY (y:=y) h k d hi f;have v:=Agk (y:=y) h k d hi f;have u:=Agb (yy:=s.1) (ii:=s.2.1) (oo:=s.2.2.1) (bf:=s.2.2.2.1) (so:=s.2.2.2.2.1) (tb:=s.2.2.2.2.2.1) (tt:=s.2.2.2.2.2.2.1) (od:=s.2.2.2.2.2.2.2) d p hi f q (by have:=h.yy;omega) (by have:=h.ii;omega);have r:=Ae1 (s:=QH s y i o) (m:=x.mon y i o) (g:=0) (b:=0) (c:=0) (ln:= []);have es:=Agw (s:=I6 s x y i o) (m:=x.mon y i o) (g:=x.S+x.B) (b:=Cb x) (c:=D9 s x y i o-Cd s x y i o) (Yc d a) Yd (Adh a) P8;have t:=Tq (y:=y) (i:=i) (l:=BW s x y i o) (by omega) (by omega) (Vm d a) P8 (by have:=P7 (s:=s) (x:=x) (y:=y) (i:=i) (o:=o);omega)
 have e:QV (s,x.mon y i o) ()=some ((I6 s x y i o,(y,i,BW s x y i o),0),()):=by
  unfold QV;refine CL u ?_;refine CL (a:=((0:Int),s.1,s.2.1,s.2.2.1,s.2.2.2.1,s.2.2.2.2.1,s.2.2.2.2.2.1,s.2.2.2.2.2.2.1,s.2.2.2.2.2.2.2,(x.mon y i o).1,(x.mon y i o).2.1,(x.mon y i o).2.2.1,(x.mon y i o).2.2.2.1,(x.mon y i o).2.2.2.2.1,(x.mon y i o).2.2.2.2.2.1,(x.mon y i o).2.2.2.2.2.2.1,(x.mon y i o).2.2.2.2.2.2.2.1,(x.mon y i o).2.2.2.2.2.2.2.2.1,(x.mon y i o).2.2.2.2.2.2.2.2.2.1,(x.mon y i o).2.2.2.2.2.2.2.2.2.2.1,(x.mon y i o).2.2.2.2.2.2.2.2.2.2.2,(0:Int),(0:Int),(0:Int),(0:Int),(0:Int),(0:Int),(0:Int),s.1,s.2.1,s.2.2.1,bI s y,an s y,C8 s y,EX s y,bU s,(x.mon y i o).1,(x.mon y i o).2.1,(x.mon y i o).2.2.1,(x.mon y i o).2.2.2.1,(x.mon y i o).2.2.2.2.1,(x.mon y i o).2.2.2.2.2.1,(x.mon y i o).2.2.2.2.2.2.1,(x.mon y i o).2.2.2.2.2.2.2.1,(x.mon y i o).2.2.2.2.2.2.2.2.1,(x.mon y i o).2.2.2.2.2.2.2.2.2.1,(x.mon y i o).2.2.2.2.2.2.2.2.2.2.1,(x.mon y i o).2.2.2.2.2.2.2.2.2.2.2,(0:Int),(0:Int),(0:Int),([]:ML),(),(),(),(),(),(),(),(),(),(),(),(),(),(),(),())) ?_ ?_
  ·by_cases e:s.1=y
   ·have j:(s.1 !=y)=false:=by simp[e]
    simp only[bI,an,C8,EX,if_pos e];show(if(s.1 !=y)=true then _ else _)=_;rw[j];rfl
   ·have j:(s.1 !=y)=true:=by simp[e]
    simp only[bI,an,C8,EX,if_neg e];show(if(s.1 !=y)=true then _ else _)=_;rw[j];rfl
  ·refine CL (CL r (CL v rfl)) ?_;refine CL (Eq.trans (if_pos rfl) (CL es rfl)) ?_;refine CL (Eq.trans (if_pos rfl) (CL t rfl)) ?_;exact(if_neg (show ¬((0:Int) !=0)=true by decide)).trans rfl
 unfold NT;rw[e];rfl
theorem UH{k:List UInt8}{v:Int}:Au k [(k,v)]=v:=by
 unfold Au;show(if aj Ty.str k k=true then(v,true)else _).1=v;rw[(cC k k).2 rfl,if_pos rfl]
theorem bx.next{n:Int}{s:ak}{x:Mo}{y i o:Int}(h:bx n s)(d:0≤n/\n≤31)(b:BT x)(p:2024≤y/\y≤2100)(hi:1≤i/\i≤o)(l:o≤26):bx (n+1) (I6 s x y i o):=by
 have j:=h.at d.1 y;have a:=IY (y:=y) h d b hi l;have t:=b.S;have v:=b.B;have q:=a.pre;have r:=a.base;have I:=j.bv;have G:=j.sb;have F:=j.sI;have E:=j.sW;have D:=j.sF;have C:=j.tb;have A:=h.ov;have z:=a.court;have c:=Wb b a.H;have k:=IE (g:=BZ x.ce ((Av (an s y)).1+(x.S+x.B)) (Av (an s y)).2.1) (m:=x.w) c.1 ⟨b.w.1,by have:=b.w;omega⟩;have e:=IE (g:=BZ x.ce ((Av (an s y)).1+(x.S+x.B)) (Av (an s y)).2.1) (m:=x.f) c.1 ⟨b.f.1,by have:=b.f;omega⟩
 have u:(Av (an s y)).2.1+BZ x.ce ((Av (an s y)).1+(x.S+x.B)) (Av (an s y)).2.1≤n*8589934592+8589934592:=by
  unfold BZ Fm;split<;>omega
 refine⟨by show 0≤y/\y≤2100;omega,by show 0≤i/\i≤26;omega,.inr ⟨_,rfl⟩, ?_,.inr ⟨_,rfl⟩, ?_, ?_, ?_, ?_, ?_,a.tax,.inr ⟨_,rfl⟩, ?_⟩
 ·show 0≤Au AI [(AI,_)]/\Au AI [(AI,_)]≤_;rw[UH];omega
 ·show _≤(Av [(Az,_)]).1/\(Av [(Az,_)]).1≤_;rw[Mf];unfold Cu;dsimp only;omega
 ·show 0≤(Av [(Az,_)]).2.1/\(Av [(Az,_)]).2.1≤_;rw[Mf];unfold Cu;dsimp only;omega
 ·show 0≤(Av [(Az,_)]).2.2.1/\(Av [(Az,_)]).2.2.1≤(Av [(Az,_)]).2.1;rw[Mf];unfold Cu;dsimp only;omega
 ·show 0≤(Av [(Az,_)]).2.2.2/\(Av [(Az,_)]).2.2.2≤(Av [(Az,_)]).2.1;rw[Mf];unfold Cu;dsimp only;omega
 ·show _≤C8 s y+Cb x/\C8 s y+Cb x≤_;omega
 ·show 0≤Au A2 [(A2,_)]/\Au A2 [(A2,_)]≤_;rw[UH];have:Au A2 (bU s)=Au A2 s.2.2.2.2.2.2.2:=rfl;omega
structure Md where
 x:Mo
 y:Int
 i:Int
 o:Int
def Md.mon(d:Md):Cr:=d.x.mon d.y d.i d.o
structure GV (d:Md):Prop where
 x:BT d.x
 y:2024≤d.y/\d.y≤2100
 i:1≤d.i/\d.i≤d.o
 o:d.o≤26
def H6(s:ak)(d:Md):ak:=I6 s d.x d.y d.i d.o
def FG(s:ak)(d:Md):Int×Int×List aI:=(d.y,d.i,BW s d.x d.y d.i d.o)
def HN:ak->List Md->Prop
 |_,[]=>True
 |s,d::l=>cG s.1 s.2.1 s.2.2.1 d.y d.i d.o/\HN (H6 s d) l
def CQ:ak->List Md->List (Int×Int×List aI)
 |_,[]=> []
 |s,d::l=>FG s d::CQ (H6 s d) l
def Fe:ak->List Md->ak
 |s,[]=>s
 |s,d::l=>Fe (H6 s d) l
theorem Xp:∀(l:List Md) (s:ak),(CQ s l).length=l.length
 | [],_=>rfl
 |d::l,s=>by rw[CQ,List.length_cons,Xp l,List.length_cons]
theorem W7{s0:ak}:∀(l pre:List Md) (s:ak) (n:Int) (a:List (Int×Int×List aI)),(∀d∈l,GV d)->HN s l->bx n s->0≤n->n+l.length≤31->pre.length+l.length≤1000->a.length≤pre.length->
  iter NS ((pre++l).map Md.mon,(((pre++l).map Md.mon).length:Int),(pre.length:Int),s0.1,s0.2.1,s0.2.2.1,s0.2.2.2.1,s0.2.2.2.2.1,s0.2.2.2.2.2.1,s0.2.2.2.2.2.2.1,s0.2.2.2.2.2.2.2,0,0,0,0,0,s.1,s.2.1,s.2.2.1,s.2.2.2.1,s.2.2.2.2.1,s.2.2.2.2.2.1,s.2.2.2.2.2.2.1,s.2.2.2.2.2.2.2,a,(),(),(),(),(),(),(),(),(),(),())=
   some (.inl (0,0,0,0,0,(Fe s l).1,(Fe s l).2.1,(Fe s l).2.2.1,(Fe s l).2.2.2.1,(Fe s l).2.2.2.2.1,(Fe s l).2.2.2.2.2.1,(Fe s l).2.2.2.2.2.2.1,(Fe s l).2.2.2.2.2.2.2,a++CQ s l,(),(),(),(),(),(),(),(),()))
 | [],pre,s,n,a,_,_,_,_,_,_,_=>by
  refine aD ?_;unfold NS;dsimp only;have h:decide ((pre.length:Int)<(((pre++ []).map Md.mon).length:Int))=false:=Al (by simp);rw[h,if_neg (by decide)];simp only[CQ,List.append_nil];rfl
 |d::l,pre,s,n,a,hk,hf,hs,h0,hn,hc,ha=>by
  simp only[List.length_cons]at hn hc;have w1:i64.wrap ((pre.length:Int)+1)=((pre++ [d]).length:Int):=by rw[A7 (by omega) (by omega)];simp
  have h:decide ((pre.length:Int)<(((pre++d::l).map Md.mon).length:Int))=true:=Am (by simp;omega);have hd:=hk d (by simp);have c:ap ((pre++d::l).map Md.mon) (pre.length:Int)=some d.mon:=H0 (by simp);have es:=Ag9 hs (by omega) hd.x hd.y hd.i hd.o hf.1;have e:=W7 (s0:=s0) l (pre++ [d]) (H6 s d) (n+1) (a++ [FG s d]) (fun z b=>hk z (by simp[b])) hf.2 (hs.next (by omega) hd.x hd.y hd.i hd.o) (by omega) (by omega) (by simp;omega) (by simp;omega);rw[List.append_assoc,List.singleton_append]at e;refine(aH ?_).trans (e.trans ?_)
  ·unfold NS;dsimp only;rw[h,if_pos rfl,c];simp only[Option.map_some,Option.bind_some];refine CL es ?_;dsimp only;rw[if_neg (show ¬((0:Int) !=0)=true by decide),Ov (by simp;omega) (by decide),bs,w1];rfl
  ·rw[List.append_assoc];rfl
theorem Afo{s:ak}{l:List Md}{n:Int}(c:∀d∈l,GV d)(f:HN s l)(a:bx n s)(g:0≤n)(b:n+l.length≤31):NR (s,l.map Md.mon)=some (CQ s l,Fe s l,0):=by
 have e:=W7 (s0:=s) l [] s n [] c f a g b (by simp;omega) (by simp);simp only[List.nil_append,List.length_nil]at e;rw[show((0:Nat):Int)=0 from rfl]at e;unfold NR;dsimp only;rw[Al (show ¬((l.map Md.mon).length:Int)>4096 by simp;omega),if_neg (by decide),e];rfl
theorem Ai7{l:List Md}(a:∀d∈l,GV d)(b:HN (0,0,0,[],[],0,0,[]) l)(c:l.length≤31):NQ (l.map Md.mon)=some (CQ (0,0,0,[],[],0,0,[]) l,Fe (0,0,0,[],[],0,0,[]) l,0):=by
 have e:=Afo a b bx.zero (by decide) (by omega);unfold NQ;dsimp only;rw[e,bs]
abbrev Raw:=Int×Int×Int×Int×Int×Int×Int×Int×Int×Int×Int×Int×Int×Int×Int×Int
structure RawOk (a:Raw):Prop where
 S: -2147483648≤a.1/\a.1≤2147483647
 B: -2147483648≤a.2.1/\a.2.1≤2147483647
 P: -2147483648≤a.2.2.1/\a.2.2.1≤2147483647
 C: -2147483648≤a.2.2.2.1/\a.2.2.2.1≤2147483647
 w:0≤a.2.2.2.2.1/\a.2.2.2.2.1≤65535
 f:0≤a.2.2.2.2.2.1/\a.2.2.2.2.2.1≤65535
 ce:0≤a.2.2.2.2.2.2.1/\a.2.2.2.2.2.2.1≤4294967295
 al:0≤a.2.2.2.2.2.2.2.1/\a.2.2.2.2.2.2.2.1≤4294967295
 ex:0≤a.2.2.2.2.2.2.2.2.1/\a.2.2.2.2.2.2.2.2.1≤255
 lo:0≤a.2.2.2.2.2.2.2.2.2.1/\a.2.2.2.2.2.2.2.2.2.1≤65535
 hi:0≤a.2.2.2.2.2.2.2.2.2.2.1/\a.2.2.2.2.2.2.2.2.2.2.1≤65535
 ed:0≤a.2.2.2.2.2.2.2.2.2.2.2.1/\a.2.2.2.2.2.2.2.2.2.2.2.1≤4294967295
 fx:0≤a.2.2.2.2.2.2.2.2.2.2.2.2.1/\a.2.2.2.2.2.2.2.2.2.2.2.2.1≤4294967295
 pr:0≤a.2.2.2.2.2.2.2.2.2.2.2.2.2.1/\a.2.2.2.2.2.2.2.2.2.2.2.2.2.1≤4294967295
 tt:0≤a.2.2.2.2.2.2.2.2.2.2.2.2.2.2.1/\a.2.2.2.2.2.2.2.2.2.2.2.2.2.2.1≤4294967295
 rt:0≤a.2.2.2.2.2.2.2.2.2.2.2.2.2.2.2/\a.2.2.2.2.2.2.2.2.2.2.2.2.2.2.2≤65535
def I4(a:Raw):Mo:=⟨a.1,a.2.1,BI .and .i32 a.2.2.1 1048575,BI .and .i32 a.2.2.2.1 65535,a.2.2.2.2.1*10,a.2.2.2.2.2.1*10,a.2.2.2.2.2.2.1,a.2.2.2.2.2.2.2.1,a.2.2.2.2.2.2.2.2.1,a.2.2.2.2.2.2.2.2.2.1*10,a.2.2.2.2.2.2.2.2.2.2.2.1+1,a.2.2.2.2.2.2.2.2.2.2.1*10,a.2.2.2.2.2.2.2.2.2.2.2.2.2.2.2*10,a.2.2.2.2.2.2.2.2.2.2.2.2.1,a.2.2.2.2.2.2.2.2.2.2.2.2.2.1,a.2.2.2.2.2.2.2.2.2.2.2.2.2.2.1⟩
theorem Ll{m:Nat}(p:Int)(d:m<2147483648):0≤BI .and .i32 p (m:Int)/\BI .and .i32 p (m:Int)≤(m:Int):=by
 have c:(BitVec.ofInt 32 p&&&BitVec.ofInt 32 (m:Int)).toNat≤m:=by
  rw[BitVec.toNat_and];refine Nat.le_trans Nat.and_le_right ?_;rw[BitVec.toNat_ofInt];omega
 obtain⟨q,a⟩:∃q,(BitVec.ofInt 32 p&&&BitVec.ofInt 32 (m:Int)).toNat=q:=⟨_,rfl⟩;rw[a]at c
 have b:BI .and .i32 p (m:Int)=(q:Int):=by
  show IntKind.i32.wrap (((BitVec.ofInt 32 p&&&BitVec.ofInt 32 (m:Int)).toNat:Nat):Int)=_;rw[a];simp[IntKind.wrap,IntKind.bits,IntKind.signed];omega
 rw[b];omega
theorem Ad2{a:Raw}(h:RawOk a):BT (I4 a):=by
 have p:=h.S;have s:=h.B;have n:=h.w;have o:=h.f;have k:=h.ce;have l:=h.al;have hex:=h.ex;have e:=h.lo;have g:=h.hi;have j:=h.ed;have i:=h.fx;have d:=h.pr;have b:=h.tt;have c:=h.rt;have q:0≤BI .and .i32 a.2.2.1 1048575/\BI .and .i32 a.2.2.1 1048575≤1048575:=Ll (m:=1048575) a.2.2.1 (by decide);have r:0≤BI .and .i32 a.2.2.2.1 65535/\BI .and .i32 a.2.2.2.1 65535≤65535:=Ll (m:=65535) a.2.2.2.1 (by decide);constructor<;>simp only[I4]<;>omega
theorem JR{n:Int}(h:0≤n/\n≤65535):GT n=some (n*10):=by
 unfold GT;dsimp only;rw[A7 (n:=n) (by omega) (by omega),A7 (n:=n*10) (by omega) (by omega)]
theorem Adz{a:Raw}{y i o:Int}(h:RawOk a):NM (a,y,i,o)=some ((I4 a).mon y i o):=by
 have s:=h.S;have v:=h.B;have e:=h.w;have l:=h.f;have q:=h.ce;have r:=h.al;have hex:=h.ex;have c:=h.lo;have d:=h.hi;have p:=h.ed;have k:=h.fx;have j:=h.pr;have g:=h.tt;have b:=h.rt;have t:0≤BI .and .i32 a.2.2.1 1048575/\BI .and .i32 a.2.2.1 1048575≤1048575:=Ll (m:=1048575) a.2.2.1 (by decide);have u:0≤BI .and .i32 a.2.2.2.1 65535/\BI .and .i32 a.2.2.2.1 65535≤65535:=Ll (m:=65535) a.2.2.2.1 (by decide);unfold NM;dsimp only;rw[JR e,bs,JR l,bs,JR c,bs,JR d,bs,JR b,bs];rw[A7 (n:=a.1) (by omega) (by omega),A7 (n:=a.2.1) (by omega) (by omega),A7 (n:=BI .and .i32 a.2.2.1 1048575) (by omega) (by omega),A7 (n:=BI .and .i32 a.2.2.2.1 65535) (by omega) (by omega),A7 (n:=a.2.2.2.2.2.2.1) (by omega) (by omega),A7 (n:=a.2.2.2.2.2.2.2.1) (by omega) (by omega),A7 (n:=a.2.2.2.2.2.2.2.2.1) (by omega) (by omega),A7 (n:=a.2.2.2.2.2.2.2.2.2.2.2.1) (by omega) (by omega),A7 (n:=a.2.2.2.2.2.2.2.2.2.2.2.1+1) (by omega) (by omega),A7 (n:=a.2.2.2.2.2.2.2.2.2.2.2.2.1) (by omega) (by omega),A7 (n:=a.2.2.2.2.2.2.2.2.2.2.2.2.2.1) (by omega) (by omega),A7 (n:=a.2.2.2.2.2.2.2.2.2.2.2.2.2.2.1) (by omega) (by omega)];rfl
def bS(o:Int):Int->Int->List Raw->List Md
 |_,_,[]=> []
 |y,i,a::l=>⟨I4 a,y,i,o⟩::bS o (if i+1>o then y+1 else y) (if i+1>o then 1 else i+1) l
theorem Vz{o:Int}:∀(l:List Raw) (y i:Int),(bS o y i l).length=l.length
 | [],_,_=>rfl
 |a::l,y,i=>by rw[bS,List.length_cons,Vz l,List.length_cons]
theorem V0{o:Int}(c:1≤o/\o≤26):∀(l:List Raw) (y i:Int),(∀a∈l,RawOk a)->2024≤y->y+l.length≤2100->(1≤i/\i≤o)->∀d∈bS o y i l,GV d
 | [],_,_,_,_,_,_,d,hd=>by cases hd
 |a::l,y,i,hl,hy,hn,hi,d,hd=>by
  simp only[List.length_cons]at hn;rcases List.mem_cons.1 hd with rfl|hd
  ·exact⟨Ad2 (hl a (by simp)),⟨hy,by show y≤2100;omega⟩,hi,c.2⟩
  ·exact V0 c l _ _ (fun b e=>hl b (by simp[e])) (by split<;>omega) (by split<;>omega) (by split<;>omega) d hd
theorem Vy{o:Int}:∀(l:List Raw) (s:ak) (y i:Int),(1≤i/\i≤o)->cG s.1 s.2.1 s.2.2.1 y i o->HN s (bS o y i l)
 | [],_,_,_,_,_=>trivial
 |a::l,s,y,i,hi,hf=>by
  refine⟨hf,Vy l _ _ _ (by split<;>omega) ?_⟩;show cG y i o _ _ o;unfold cG;split
  ·exact .inr (.inr ⟨by omega,rfl,rfl⟩)
  ·exact .inr (.inl ⟨rfl,rfl,rfl⟩)
theorem V9{o:Int}(f:1≤o/\o≤26):∀(l pre:List Raw) (y i:Int) (c:List Cr),(∀a∈l,RawOk a)->(0≤y/\y≤10000)->(1≤i/\i≤o)->pre.length+l.length≤1000->y+l.length≤10000->c.length≤pre.length->
  iter NO (o,y,i,pre++l,((pre++l).length:Int),(pre.length:Int),c,(),())=some (c++(bS o y i l).map Md.mon,(),())
 | [],pre,y,i,c,_,_,_,_,_,_=>by
  refine aD ?_;unfold NO;dsimp only;have h:decide ((pre.length:Int)<(((pre++ []):List Raw).length:Int))=false:=Al (by simp);rw[h,if_neg (by decide)];simp only[bS,List.map_nil,List.append_nil]
 |a::l,pre,y,i,c,hl,hy,hi,hn,hyn,ha=>by
  simp only[List.length_cons]at hn hyn;have w1:i64.wrap ((pre.length:Int)+1)=((pre++ [a]).length:Int):=by rw[A7 (by omega) (by omega)];simp
  have h:decide ((pre.length:Int)<(((pre++a::l):List Raw).length:Int))=true:=Am (by simp;omega);have e:=V9 f l (pre++ [a]) (if i+1>o then y+1 else y) (if i+1>o then 1 else i+1) (c++ [(I4 a).mon y i o]) (fun b g=>hl b (by simp[g])) (by split<;>omega) (by split<;>omega) (by simp;omega) (by split<;>omega) (by simp;omega);rw[List.append_assoc,List.singleton_append]at e;refine(aH ?_).trans (e.trans ?_)
  ·unfold NO;dsimp only;rw[h,if_pos rfl,Dk,ms,bs];have j:=Adz (a:=a) (y:=y) (i:=i) (o:=o) (hl a (by simp));refine CL (a:=(o,if i+1>o then y+1 else y,if i+1>o then 1 else i+1,pre++a::l,((pre++a::l).length:Int),(pre.length:Int),c++ [(I4 a).mon y i o],(),())) (CL j ?_) ?_
   ·rw[Ov (by simp;omega) (by decide),bs,A7 (n:=i+1) (by omega) (by omega),A7 (n:=y+1) (by omega) (by omega)];by_cases d:i+1>o
    ·rw[Am d,if_pos rfl,if_pos d,if_pos d]
    ·rw[Al d,if_neg (by decide),if_neg d,if_neg d]
   ·dsimp only;rw[w1]
  ·rw[List.append_assoc];rfl
theorem Ad3{o first:Int}{l:List Raw}(b:1≤o/\o≤26)(d:0≤first/\first≤255)(c:∀a∈l,RawOk a)(f:l.length≤100):
  NN (l,first,o)=some ((bS o 2024 (first.tmod o+1) l).map Md.mon):=by
 have h:0≤first.tmod o:=Int.tmod_nonneg _ d.1
 have g:first.tmod o<o:=Int.tmod_lt_of_pos _ (by omega)
 have e:=V9 b l [] 2024 (first.tmod o+1) [] c (by omega) (by omega) (by simp;omega) (by omega) (by simp);simp only[List.nil_append,List.length_nil]at e;rw[show((0:Nat):Int)=0 from rfl]at e;unfold NN;dsimp only;rw[if_neg (show ¬o=0 by omega),A7 (n:=first) (by omega) (by omega),bs,A7 (n:=first.tmod o+1) (by omega) (by omega),e,bs]
def AU(f t:Int)(l:List aI):Int:=(l.map fun x=>if f≤x.1/\x.1≤t then x.2.2 else 0).sum
theorem N9(f t:Int)(a b:List aI):AU f t (a++b)=AU f t a+AU f t b:=by unfold AU;rw[List.map_append,List.sum_append]
theorem NA(f t p:Int)(k:List UInt8)(v:Int):AU f t (aW p k v)=if f≤p/\p≤t then v else 0:=by
 unfold AU aW;by_cases h:v=0
 ·rw[if_pos h,h];simp
 ·rw[if_neg h];simp
def bR(x:aI):Prop:= -1125899906842624≤x.2.2/\x.2.2≤1125899906842624
theorem X1{f t:Int}:∀(l pre:List aI) (c:Int),(∀x∈l,bR x)->(-(1125899906842624*(pre.length:Int))≤c/\c≤1125899906842624*(pre.length:Int))->pre.length+l.length≤448->
  iter Ny (f,t,c,pre++l,((pre++l).length:Int),(pre.length:Int),())=some (c+AU f t l,())
 | [],pre,c,_,_,hn=>by
  refine aD ?_;unfold Ny;dsimp only;have h:decide ((pre.length:Int)<(((pre++ []):List aI).length:Int))=false:=Al (by simp);rw[h,if_neg (by decide)];simp[AU]
 |x::l,pre,c,hl,hc,hn=>by
  simp only[List.length_cons]at hn;have w1:i64.wrap ((pre.length:Int)+1)=((pre++ [x]).length:Int):=by rw[A7 (by omega) (by omega)];simp
  have h:decide ((pre.length:Int)<(((pre++x::l):List aI).length:Int))=true:=Am (by simp;omega);have i:bR x:=hl x (by simp);unfold bR at i;have e:=X1 (f:=f) (t:=t) l (pre++ [x]) (if f≤x.1/\x.1≤t then c+x.2.2 else c) (fun z g=>hl z (by simp[g])) (by simp only[List.length_append,List.length_cons,List.length_nil];split<;>omega) (by simp;omega);rw[List.append_assoc,List.singleton_append]at e;have es:AU f t (x::l)=(if f≤x.1/\x.1≤t then x.2.2 else 0)+AU f t l:=by unfold AU;rw[List.map_cons,List.sum_cons]
  refine(aH (s':=(f,t,if f≤x.1/\x.1≤t then c+x.2.2 else c,pre++x::l,((pre++x::l).length:Int),((pre++ [x]).length:Int),())) ?_).trans (e.trans ?_)
  ·unfold Ny;dsimp only;simp only[aM,aJ,aN,aL,aK,gM,aR,Bq,aO,Br,Bw,aT,aS,aQ,aP,Bn,Bp,Bs,Bv,Bo,Bu,am];simp only[B4,B5,B6,B7,BA,BB,BC,BE,am,B3,aY,aX,aZ,b3,bs,ms];rw[h,if_pos rfl,Dk,bs];by_cases b:f≤x.1
   ·rw[Am (show x.1≥f from b),if_pos rfl];by_cases a:x.1≤t
    ·rw[Am a,bs,if_pos rfl,bs,if_pos ⟨b,a⟩,A7 (n:=c+x.2.2) (by omega) (by omega),w1]
    ·rw[Al a,bs,if_neg (by decide),bs,if_neg (fun d=>a d.2),w1]
   ·rw[Al (show ¬x.1≥f from b),if_neg (by decide),bs,if_neg (by decide),bs,if_neg (fun d=>b d.1),w1]
  ·rw[es];split
   ·rw[Int.add_assoc]
   ·rw[Int.zero_add]
theorem QI{f t y i:Int}{l:List aI}(a:∀x∈l,bR x)(b:l.length≤448):IQ ((y,i,l),f,t)=some (AU f t l):=by
 have e:=X1 (f:=f) (t:=t) l [] 0 a (by simp) (by simp;omega);simp only[List.nil_append,List.length_nil]at e;rw[show((0:Nat):Int)=0 from rfl]at e;unfold IQ;dsimp only;rw[e,bs,Int.zero_add]
theorem NB{a b c d v:Int}{l:List Int}{j:Nat}(e:l[j]? =some v)(f:A4 v=true)(g:l.length≤100):
  KD (a,b,c,d,(l.length:Int),(j:Int),l,(),())=some (.inl (a,b,c,d,(l.length:Int),((j+1:Nat):Int),l,(),())):=by
 have h:=(Af.1 e).1;unfold KD;dsimp only;simp only[aM,aJ,aN,aL,aK,gM,aR,Bq,aO,Br,Bw,aT,aS,aQ,aP,Bn,Bp,Bs,Bv,Bo,Bu,am];rw[PJ e,if_pos rfl,if_pos ⟨by omega,by omega⟩,show((j:Int)).toNat=j by omega,bs,e,bs,DZ,bs,f,if_neg (by decide),QT (by omega)]
theorem Ahh{y i:Int}{l:List aI}(o:1900≤y/\y≤2199)(hi:1≤i/\i≤400)(r:∀x∈l,H1 x)(p:l.Pairwise E2)(e:l.length≤448)(f:∀x∈l,bR x)
  (B: -500000000000000≤AU 0 0 l/\AU 0 0 l≤500000000000000) (A: -500000000000000≤AU 1 5 l/\AU 1 5 l≤500000000000000) (w: -500000000000000≤AU 6 6 l/\AU 6 6 l≤500000000000000):
  IP (y,i,l)=some (AU 0 0 l,AU 1 5 l,AU 0 0 l-AU 1 5 l,AU 6 6 l,0):=by
 have u:A4 (AU 0 0 l)=true:=by simp[A4];omega
 have t:A4 (AU 1 5 l)=true:=by simp[A4];omega
 have f3:A4 (AU 0 0 l-AU 1 5 l)=true:=by simp[A4];omega
 have s:A4 (AU 6 6 l)=true:=by simp[A4];omega
 unfold IP;dsimp only;rw[Tq o hi r p e,bs,if_neg (show ¬((0:Int) !=0)=true by decide),QI f e,bs,QI f e,bs,QI f e,bs,A7 (n:=AU 0 0 l-AU 1 5 l) (by omega) (by omega)];generalize AU 0 0 l=g at*;generalize AU 1 5 l=q at*;generalize AU 6 6 l=z at*;have s0:=NB (a:=g) (b:=q) (c:=g-q) (d:=z) (l:= [g,q,g-q,z]) (j:=0) (v:=g) rfl u (by simp);have m:=NB (a:=g) (b:=q) (c:=g-q) (d:=z) (l:= [g,q,g-q,z]) (j:=1) (v:=q) rfl t (by simp);have k:=NB (a:=g) (b:=q) (c:=g-q) (d:=z) (l:= [g,q,g-q,z]) (j:=2) (v:=g-q) rfl f3 (by simp);have s3:=NB (a:=g) (b:=q) (c:=g-q) (d:=z) (l:= [g,q,g-q,z]) (j:=3) (v:=z) rfl s (by simp)
 have h:KD (g,q,g-q,z,(([g,q,g-q,z]:List Int).length:Int),((3+1:Nat):Int),[g,q,g-q,z],(),())=some (.inr (.inl (g,q,g-q,z,()))):=by
  unfold KD;dsimp only;rfl
 rw[show((0:Nat):Int)=0 from rfl]at s0;rw[aH s0,aH m,aH k,aH s3,aD h];rfl
theorem Adm{x:aI}(h:H1 x):bR x:=by
 have:=h.2.2.2;simp only[A4,Ag,decide_eq_true_eq]at this;exact this
structure XS (s:ak) (d:Md):Prop where
 sums:IP (FG s d)=some (d.x.S+d.x.B,d.x.S+d.x.B-(D9 s d.x d.y d.i d.o-Cd s d.x d.y d.i d.o),D9 s d.x d.y d.i d.o-Cd s d.x d.y d.i d.o,Cg d.x (Av (an s d.y)),0)
 pos:∀x∈BW s d.x d.y d.i d.o,(x.1=5->0≤x.2.2)/\(x.1=1->0≤x.2.2)
 court:AU 5 5 (BW s d.x d.y d.i d.o)=Cd s d.x d.y d.i d.o
 prot:Cd s d.x d.y d.i d.o>0->d.x.pr≤D9 s d.x d.y d.i d.o-Cd s d.x d.y d.i d.o
 val:∀x∈BW s d.x d.y d.i d.o,bR x
theorem Agx{n:Int}{s:ak}{d:Md}(h:bx n s)(t:0≤n/\n≤31)(hd:GV d):XS s d:=by
 have a:=IY (y:=d.y) h t hd.x hd.i hd.o;have l:=Vm hd.x a;have j:=P7 (s:=s) (x:=d.x) (y:=d.y) (i:=d.i) (o:=d.o);have f:∀x∈BW s d.x d.y d.i d.o,bR x:=fun x c=>Adm (l x c)
 have s0:AU 0 0 (BW s d.x d.y d.i d.o)=d.x.S+d.x.B:=by
  unfold BW;simp only[N9,NA];simp;omega
 have r:AU 1 5 (BW s d.x d.y d.i d.o)=AS d.x+B1 d.x (Av (an s d.y))+CU s d.x d.y d.i d.o+Ec s d.x d.y d.i d.o+Cd s d.x d.y d.i d.o:=by
  unfold BW;simp only[N9,NA];simp
 have m:AU 6 6 (BW s d.x d.y d.i d.o)=Cg d.x (Av (an s d.y)):=by
  unfold BW;simp only[N9,NA];simp
 have q:AU 5 5 (BW s d.x d.y d.i d.o)=Cd s d.x d.y d.i d.o:=by
  unfold BW;simp only[N9,NA];simp
 have D:=hd.x.S;have E:=hd.x.B;have K:=a.pre;have J:=a.work;have I:=a.held;have H:=a.club;have G:=a.court;have F:=a.firm;have A:=hd.y;have hi:=hd.i;have C:=hd.o;refine⟨?_, ?_,q, ?_,f⟩
 ·unfold FG;rw[Ahh (by omega) (by omega) l P8 (by omega) f (by omega) (by omega) (by omega),s0,r,m]
  have e:d.x.S+d.x.B-(AS d.x+B1 d.x (Av (an s d.y))+CU s d.x d.y d.i d.o+Ec s d.x d.y d.i d.o+Cd s d.x d.y d.i d.o)=D9 s d.x d.y d.i d.o-Cd s d.x d.y d.i d.o:=by
   unfold D9 E1 Cb;omega
  rw[e,show AS d.x+B1 d.x (Av (an s d.y))+CU s d.x d.y d.i d.o+Ec s d.x d.y d.i d.o+Cd s d.x d.y d.i d.o=d.x.S+d.x.B-(D9 s d.x d.y d.i d.o-Cd s d.x d.y d.i d.o) by omega]
 ·have key:∀{p:Int} {k:List UInt8} {v:Int} {x:aI},x∈aW p k v->x.1=p/\x.2.2=v:=by
   intro p k v x c;unfold aW at c;split at c
   ·cases c
   ·rw[List.mem_singleton]at c;subst c;exact⟨rfl,rfl⟩
  intro z b;unfold BW at b;simp only[List.mem_append]at b;rcases b with((((((b|b)|b)|b)|b)|b)|b)|b<;>obtain⟨w,u⟩:=key b<;>rw[w,u]<;>exact⟨fun h=>by omega,fun h=>by omega⟩
 ·intro g;unfold Cd at g⊢;unfold BV at g⊢;omega
abbrev Ld:=Int×Int×List aI
theorem UO{mz:List Cr}{k g hd nt e:Int}{sl:List Ld}{n k2:Int}:∀(l pre:List aI) (c:Int),(∀x∈l,bR x/\(x.1=5->0≤x.2.2)/\(x.1=1->0≤x.2.2))->(-(1125899906842624*(pre.length:Int))≤c/\c≤1125899906842624*(pre.length:Int))->pre.length+l.length≤448->
  iter KK (mz,k,g,hd,nt,e,c,sl,n,k2,pre++l,((pre++l).length:Int),(pre.length:Int),())=some (.inl (mz,k,g,hd,nt,e,c+AU 5 5 l,sl,n,k2,()))
 | [],pre,c,_,_,hn=>by
  refine aD ?_;unfold KK;dsimp only;have h:decide ((pre.length:Int)<(((pre++ []):List aI).length:Int))=false:=Al (by simp);rw[h,if_neg (by decide)];simp[AU]
 |x::l,pre,c,hl,hc,hn=>by
  simp only[List.length_cons]at hn;have w1:i64.wrap ((pre.length:Int)+1)=((pre++ [x]).length:Int):=by rw[A7 (by omega) (by omega)];simp
  have h:decide ((pre.length:Int)<(((pre++x::l):List aI).length:Int))=true:=Am (by simp;omega);obtain⟨i,j,m⟩:=hl x (by simp);unfold bR at i;have d:=UO (mz:=mz) (k:=k) (g:=g) (hd:=hd) (nt:=nt) (e:=e) (sl:=sl) (n:=n) (k2:=k2) l (pre++ [x]) (if x.1=5 then c+x.2.2 else c) (fun z f=>hl z (by simp[f])) (by simp only[List.length_append,List.length_cons,List.length_nil];split<;>omega) (by simp;omega);rw[List.append_assoc,List.singleton_append]at d;have es:AU 5 5 (x::l)=(if 5≤x.1/\x.1≤5 then x.2.2 else 0)+AU 5 5 l:=by unfold AU;rw[List.map_cons,List.sum_cons]
  refine(aH (s':=(mz,k,g,hd,nt,e,if x.1=5 then c+x.2.2 else c,sl,n,k2,pre++x::l,((pre++x::l).length:Int),((pre++ [x]).length:Int),())) ?_).trans (d.trans ?_)
  ·unfold KK;dsimp only;simp only[aM,aJ,aN,aL,aK,gM,aR,Bq,aO,Br,Bw,aT,aS,aQ,aP,Bn,Bp,Bs,Bv,Bo,Bu,am];simp only[B4,B5,B6,B7,BA,BB,BC,BE,am,B3,aY,aX,aZ,b3,bs,ms];rw[h,if_pos rfl,Dk,bs];by_cases a:x.1=5
   ·rw[if_pos (by simpa using a),bs,if_pos a];dsimp only;rw[if_pos (by simpa using a),Al (show ¬x.2.2<0 by have:=j a;omega),bs,if_neg (by decide),if_neg (by simp[a]),bs,if_neg (by decide),A7 (n:=c+x.2.2) (by omega) (by omega),w1]
   ·rw[if_neg (by simpa using a),bs,if_neg a];dsimp only;rw[if_neg (by simpa using a),bs,if_neg (by decide)];by_cases b:x.1=1
    ·rw[if_pos (by simpa using b),Al (show ¬x.2.2<0 by have:=m b;omega),bs,if_neg (by decide),w1]
    ·rw[if_neg (by simpa using b),bs,if_neg (by decide),w1]
  ·rw[es];by_cases a:x.1=5
   ·rw[if_pos a,if_pos (by omega),Int.add_assoc]
   ·rw[if_neg a,if_neg (by omega),Int.zero_add]
theorem Acs{mz:List Cr}{k g h nt:Int}{sl:List Ld}{n k2 C:Int}{L:List aI}(c:∀x∈L,bR x/\(x.1=5->0≤x.2.2)/\(x.1=1->0≤x.2.2))(b:L.length≤448)(d:AU 5 5 L=C):
  iter KK (mz,k,g,h,nt,0,0,sl,n,k2,L,(L.length:Int),0,())=some (.inl (mz,k,g,h,nt,0,C,sl,n,k2,())):=by
 have a:=UO (mz:=mz) (k:=k) (g:=g) (hd:=h) (nt:=nt) (e:=0) (sl:=sl) (n:=n) (k2:=k2) L [] 0 c (by simp) (by simpa using b);rw[d,Int.zero_add]at a;exact a
theorem Acu{l:List Md}{s:ak}{d:Md}{n:Int}{c:List Cr}{b:List Ld}(hd:GV d)(u:bx n s)(M:0≤n)(F:n≤30)(D:c.length=b.length)(H:b.length≤1000):
  KL (c++(d::l).map Md.mon,b++CQ s (d::l),((b++CQ s (d::l)).length:Int),(b.length:Int),())=some (.inl (c++d.mon::l.map Md.mon,b++FG s d::CQ (H6 s d) l,((b++FG s d::CQ (H6 s d) l).length:Int),((b++ [FG s d]).length:Int),())):=by
 have ok:=Agx u (by omega) hd;have w1:i64.wrap ((b.length:Int)+1)=((b++ [FG s d]).length:Int):=by rw[A7 (by omega) (by omega)];simp
 have h:decide ((b.length:Int)<((b++CQ s (d::l)).length:Int))=true:=Am (by simp[CQ];omega);have r:ap (b++CQ s (d::l)) (b.length:Int)=some (d.y,d.i,BW s d.x d.y d.i d.o):=H0 (by simp[CQ,FG]);have q:ap (c++(d::l).map Md.mon) (b.length:Int)=some d.mon:=H0 (by rw[<-D];simp);have w:=P7 (s:=s) (x:=d.x) (y:=d.y) (i:=d.i) (o:=d.o);have m:=ok.court;have e:∀x∈BW s d.x d.y d.i d.o,bR x/\(x.1=5->0≤x.2.2)/\(x.1=1->0≤x.2.2):=fun x t=>⟨ok.val x t,ok.pos x t⟩;have a:=IY (y:=d.y) u (by omega) hd.x hd.i hd.o;have I:=hd.x.S;have J:=hd.x.B;have L:=a.l4;have K:=a.court;have f:IP (d.y,d.i,BW s d.x d.y d.i d.o)=_:=ok.sums;have j:=ok.prot;clear ok;generalize hG:d.x.S+d.x.B=G at*;generalize hN:D9 s d.x d.y d.i d.o-Cd s d.x d.y d.i d.o=N at*;generalize hCo:Cd s d.x d.y d.i d.o=C at*;have E:=fun mz k sl n k2=>Acs (mz:=mz) (k:=k) (g:=G) (h:=G-N) (nt:=N) (sl:=sl) (n:=n) (k2:=k2) e (by omega) m
 have A:(if decide (C>0)=true then
   (ap (c++(d::l).map Md.mon) (b.length:Int)).bind fun v=>(ap v.2.2.2.2.2.2.2.2.2.2.2 0).bind fun v=>some (decide (N<v.2.2.2.2.1))
   else some false)=some false:=by
  by_cases p:C>0
  ·have:=j p;rw[Am p,if_pos rfl,q,bs];show some (decide (N<d.x.pr))=some false;rw[Al (by omega)]
  ·rw[Al p,if_neg (by decide)]
 have z:i64.wrap (G-N+N)=G:=by rw[A7 (by omega) (by omega)];omega
 unfold KL;dsimp only;simp only[aM,aJ,aN,aL,aK,gM,aR,Bq,aO,Br,Bw,aT,aS,aQ,aP,Bn,Bp,Bs,Bv,Bo,Bu,am];simp only[B4,B5,B6,B7,BA,BB,BC,BE,am,B3,aY,aX,aZ,b3,bs,ms];rw[h,if_pos rfl,r,bs];dsimp only;rw[f,bs];dsimp only;rw[E,bs];dsimp only;rw[if_neg (show ¬((0:Int) !=0)=true by decide),bs,z,show(G !=G)=false by simp,if_neg (by decide),A,bs,if_neg (by decide),w1];rfl
theorem UP:∀(l:List Md) (s:ak) (n:Int) (b:List Cr) (a:List Ld),(∀d∈l,GV d)->HN s l->bx n s->0≤n->n+l.length≤31->b.length=a.length->a.length+l.length≤1000->
  iter KL (b++l.map Md.mon,a++CQ s l,((a++CQ s l).length:Int),(a.length:Int),())=some (.inl ())
 | [],s,n,b,a,_,_,_,_,_,_,_=>by
  refine aD ?_;unfold KL;dsimp only;have h:decide ((a.length:Int)<((a++CQ s []).length:Int))=false:=Al (by simp[CQ]);rw[h,if_neg (by decide)]
 |d::l,s,n,b,a,hk,hf,hs,h0,hn,hl,hc=>by
  simp only[List.length_cons]at hn hc;have hd:=hk d (by simp);have e:=UP l (H6 s d) (n+1) (b++ [d.mon]) (a++ [FG s d]) (fun z c=>hk z (by simp[c])) hf.2 (hs.next (by omega) hd.x hd.y hd.i hd.o) (by omega) (by omega) (by simp[hl]) (by simp;omega);rw[List.append_assoc,List.singleton_append,List.append_assoc,List.singleton_append]at e;exact(aH (Acu hd hs h0 (by omega) hl (by omega))).trans e
theorem law_TopHeld{l:List Raw}{of:Int}(h:∀a∈l,RawOk a)(j:0≤of/\of≤255):wagebooktop_TopHeld (l,of)=some true:=by
 unfold wagebooktop_TopHeld;dsimp only;simp only[aM,aJ,aN,aL,aK,gM,aR,Bq,aO,Br,Bw,aT,aS,aQ,aP,Bn,Bp,Bs,Bv,Bo,Bu,am];by_cases e:(l.length:Int)>26
 ·rw[Am e,if_pos rfl]
 ·have q:0≤of.tmod 26:=Int.tmod_nonneg _ j.1;have p:of.tmod 26<26:=Int.tmod_lt_of_pos _ (by decide);have f:=Ad3 (o:=of.tmod 26+1) (first:=0) (l:=l) (by omega) (by decide) h (by omega);have m:(0:Int).tmod (of.tmod 26+1)+1=1:=by rw[Int.zero_tmod];rfl
  rw[m]at f;have b:=V0 (o:=of.tmod 26+1) (by omega) l 2024 1 h (by decide) (by omega) (by omega);have c:=Vy (o:=of.tmod 26+1) l (0,0,0,[],[],0,0,[]) 2024 1 (by omega) (.inl (by decide));have g:=Vz (o:=of.tmod 26+1) l 2024 1;have k:=Ai7 b c (by omega);have d:=UP (bS (of.tmod 26+1) 2024 1 l) (0,0,0,[],[],0,0,[]) 0 [] [] b c bx.zero (by decide) (by omega) rfl (by simp;omega);simp only[List.nil_append,List.length_nil]at d;rw[show((0:Nat):Int)=0 from rfl]at d;rw[Al e,if_neg (by decide),if_neg (show ¬((26:Int)=0) by decide),bs,A7 (n:=of.tmod 26) (by omega) (by omega),A7 (n:=of.tmod 26+1) (by omega) (by omega),f,bs,k,bs];dsimp only;have i:=Xp (bS (of.tmod 26+1) 2024 1 l) (0,0,0,[],[],0,0,[]);rw[if_neg (show ¬((0:Int) !=0)=true by decide)];simp only[ms,bs];rw[show(((CQ (0,0,0,[],[],0,0,[]) (bS (of.tmod 26+1) 2024 1 l)).length:Int) !=(((bS (of.tmod 26+1) 2024 1 l).map Md.mon).length:Int))=false by simp[i],if_neg (by decide),d];rfl
end WB
