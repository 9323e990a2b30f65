/-
  THE OWN LAYER, ZS: a row's arguments of whatever shape, read as plain data, with the ranges that their types give.
-/
import Derived.Test.YtbajcpobojindaaGreatDoorK6
import Derived.Test.YtbajcpobojindaaGreatDoorK4
set_option linter.unusedVariables false
set_option linter.unusedSimpArgs false
open Go.IntKind (i64 u64 u8 u32)
namespace WB
open Go Go.RowKit Go.ChangeShapes Go.WideShapes Go.Deep
def InR:(t:Ty)→D t→Prop
 | .int k,n=>k.min≤(n:Int)∧(n:Int)≤k.max
 | .str,s=>(s:List UInt8).length≤9223372036854775807
 | .sl e,xs=>(xs:List (D e)).length≤9223372036854775807∧∀x∈(xs:List (D e)),InR e x
 | .agg r,x=>InR r x
 | .one t,x=>InR t x
 | .cons t r,x=>InR t x.1∧InR r x.2
 |_,_=>True
def G2(P:Program)(t:TypeId):Bool:=
 match P.underlying t with
 |some (.struct _)|some (.array _ _)=>true
 |_=>false
def JF(P:Program)(t:TypeId)(r:Ty):Option Ty:=
 if G2 P t then some (.agg r)else match r with
  | .one t=>if E1 t=true then some t else none
  |_=>none
section
variable (P:Program)
def GQ(r:Ty):Nat→Ty
 |0=>.nil
 |n+1=>(B6 r (GQ r n)).1
def Jr(R:TypeId→Option Ty):List Field→Nat→Option Ty
 | [],_=>some .nil
 |f::fs,off=>(R f.type).bind fun r=>(Jr R fs (off+P.cellsOf f.type)).bind fun q=>if f.offset=off∧Ba r=some (P.cellsOf f.type)then some (B6 r q).1 else none
def HK:Nat→TypeId→Option Ty
 |0,_=>none
 |n+1,t=>match P.underlying t with
  |some (.int k)=>some (.one (.int k))
  |some .bool=>some (.one .bool)
  |some .string=>some (.one .str)
  |some (.slice e)=>(HK n e).bind fun r=>(JF P e r).bind fun te=>if te.val=true∧Ba (BD te)=some (P.cellsOf e)∧0<P.cellsOf e then some (.one (.sl te))else none
  |some (.struct fs)=>(Jr P (HK n) fs.toList 0).bind fun r=>if Ba r=some (P.cellsOf t)then some r else none
  |some (.array m e)=>(HK n e).bind fun r=>if Ba r=some (P.cellsOf e)∧Ba (GQ r m)=some (P.cellsOf t)then some (GQ r m)else none
  |_=>none
end
theorem Pe:∀{r s:Ty} {n:Nat} {x:D r} {y:D s},Ba r=some n→InR r x→InR s y→InR (B6 r s).1 ((B6 r s).2 x y):=by
 intro r
 induction r with
 |nil=>intro s n x y _ _ h;exact h
 |one t _=>
  intro s n x y _ h k;cases s
  case nil=>exact h
  all_goals exact⟨h,k⟩
 |cons t r _ ihr=>
  intro s n x y hn h k;simp only[Ba,Aa]at hn;obtain⟨n',hn,_⟩:=hn;exact⟨h.1,ihr hn h.2 k⟩
 |_=>intro s n x y hn;cases hn
section
variable {H:Type} {enc:TypeId×Value→H} {P:Program} {w:World} {base:Nat} {spare:Nat→Bool} {held:Bool}
theorem Sd{t:TypeId}{r te:Ty}{x:D r}{cvs:List CV}{cs:List Value}(hv:JF P t r=some te)(hl:G2 P t=false→cs.length=1)(hc:Can r x cvs)(hr:RelL w noM cvs cs)(hi:InR r x):
  ∃(y:D te) (c:CV) (v:Value),Can te y [c]∧RelC w noM c v∧v.cells.toList=cs∧InR te y:=by
 unfold JF at hv;split at hv
 ·cases hv;exact⟨x,.agg cvs,.agg ⟨cs⟩,by unfold Can;exact⟨_,rfl,hc⟩,by unfold RelC;exact⟨_,rfl,hr⟩,rfl,hi⟩
 ·rename_i ha;have hl:=hl (by simpa using ha);split at hv<;>(try cases hv;done);split at hv<;>(try cases hv;done);rename_i ho;cases hv;unfold Can at hc;obtain⟨c,rfl,hc⟩:=hc;unfold RelL at hr;obtain⟨v,vs,rfl,h1,h2⟩:=hr;unfold RelL at h2;subst h2;refine⟨x,c,v,hc,h1, ?_,hi⟩;rw[NY h1 (fun cs e=>by have:=FN ho hc;rw[e]at this;cases this)]
theorem Si{r:Ty}{k:Nat}(hk:Ba r=some k){cs:List Value}:∀{m j:Nat},(∀i,j≤i→i<j+m→∃(x:D r) (cvs:List CV),Can r x cvs∧RelL w noM cvs ((cs.drop (i*k)).take k)∧InR r x)→
  ∃(x:D (GQ r m)) (cvs:List CV),Can (GQ r m) x cvs∧RelL w noM cvs ((cs.drop (j*k)).take (m*k))∧InR (GQ r m) x
 |0,j,_=>⟨(),[],rfl,by simp only[Nat.zero_mul,List.take_zero];exact RelL.nil,trivial⟩
 |m+1,j,h=>by
  obtain⟨x,cvs,h1,h2,h3⟩:=h j (Nat.le_refl _) (by omega);obtain⟨y,dvs,g1,g2,g3⟩:=Si hk (m:=m) (j:=j+1) (cs:=cs) (fun i h4 h5=>h i (by omega) (by omega));refine⟨(B6 r (GQ r m)).2 x y,cvs++dvs,GX hk h1 g1, ?_,Pe hk h3 g3⟩
  have e:(cs.drop (j*k)).take ((m+1)*k)=(cs.drop (j*k)).take k++(cs.drop ((j+1)*k)).take (m*k):=by
   rw[Nat.add_mul,Nat.one_mul,Nat.add_comm (m*k) k,List.take_add,List.drop_drop,Nat.add_mul,Nat.one_mul]
  rw[e];exact RelL.append h2 g2
theorem Aas{k:IntKind}{n:Int}(h:(Lit.int k n).wf=true):k.min≤n∧n≤k.max:=by
 simpa[Lit.wf]using h
theorem Wp{α β:Type}{p:Nat→α→β→Prop}:∀(n:Nat),(∀i,i<n→∃x y,p i x y)→∃(l:List α) (m:List β),l.length=n∧m.length=n∧∀(i:Nat) x y,l[i]? =some x→m[i]? =some y→p i x y:=by
 intro n h;obtain⟨l,hl,hp⟩:=QV (p:=fun i (z:α×β)=>p i z.1 z.2) n (fun i hi=>by obtain⟨x,y,h⟩:=h i hi;exact⟨(x,y),h⟩);refine⟨l.map (·.1),l.map (·.2),by simp[hl],by simp[hl],fun i x y h1 h2=> ?_⟩;rw[List.getElem?_map,Aa]at h1 h2;obtain⟨z,hz,rfl⟩:=h1;obtain⟨z',hz',rfl⟩:=h2;rw[hz]at hz';cases hz';exact hp i z hz
theorem OZ{α β:Type}{R:α→β→Prop}:∀{as:List α} {bs:List β},as.length=bs.length→(∀(i:Nat) a b,as[i]? =some a→bs[i]? =some b→R a b)→Ap R as bs
 | [],[],_,_=>rfl
 | [],_::_,h,_=>by cases h
 |_::_,[],h,_=>by cases h
 |a::as,b::bs,h,hr=>⟨b,bs,rfl,hr 0 a b rfl rfl,OZ (by simpa using h) fun i x y h1 h2=>hr (i+1) x y (by simpa using h1) (by simpa using h2)⟩
theorem Sj{R:TypeId→Option Ty}(hR:∀{t:TypeId} {r:Ty} {fuel:Nat} {cs:List Value} {y:DataW H×List MemPlace},R t=some r→DataW.trod enc P w base spare held fuel t cs=some y→∃(x:D r) (cvs:List CV),Can r x cvs∧RelL w noM cvs cs∧InR r x):∀{fs:List Field} {off:Nat} {r:Ty} {cs:List Value},Jr P R fs off=some r→(∀f∈fs,∃fuel y,DataW.trod enc P w base spare held fuel f.type ((cs.drop f.offset).take (P.cellsOf f.type))=some y)→
  ∃(x:D r) (cvs:List CV),Can r x cvs∧RelL w noM cvs ((cs.drop off).take cvs.length)∧InR r x
 | [],off,r,cs,h,_=>by
  unfold Jr at h;cases h;exact⟨(),[],rfl,by simp only[List.length_nil,List.take_zero];exact RelL.nil,trivial⟩
 |f::fs,off,r,cs,h,hd=>by
  unfold Jr at h;obtain⟨r',h1,h⟩:=Ab.1 h;obtain⟨q,h2,h⟩:=Ab.1 h;split at h<;>(try cases h;done);rename_i hh;obtain⟨hoff,hlen⟩:=hh;cases h;obtain⟨fuel,y,hy⟩:=hd f (by simp);obtain⟨x,cvs,g1,g2,g3⟩:=hR h1 hy;obtain⟨x',cvs',k1,k2,k3⟩:=Sj hR (cs:=cs) h2 (fun f' hf'=>hd f' (by simp[hf']));refine⟨(B6 r' q).2 x x',cvs++cvs',GX hlen g1 k1, ?_,Pe hlen g3 k3⟩;have hl:=Ew hlen g1;rw[hoff,←hl]at g2;rw[←hl]at k2;rw[List.length_append,List.take_add,List.drop_drop];exact RelL.append g2 k2
theorem Lu:∀{n:Nat} {t:TypeId} {r:Ty} {fuel:Nat} {cs:List Value} {y:DataW H×List MemPlace},HK P n t=some r→DataW.trod enc P w base spare held fuel t cs=some y→(G2 P t=false→cs.length=1)∧∃(x:D r) (cvs:List CV),Can r x cvs∧RelL w noM cvs cs∧InR r x
 |0,_,_,_,_,_,h,_=>by cases h
 |n+1,t,r,fuel,cs,y,h,hd=>by
  unfold HK at h;split at h
  ·rename_i k ht;cases h;obtain⟨m,rfl,_,hw⟩:=DataW.trod_int ht hd;exact⟨fun _=>rfl,m,[.int k m],⟨_,rfl,rfl⟩,RelL.cons rfl RelL.nil,Aas hw⟩
  ·rename_i ht;cases h;obtain⟨b,rfl,_⟩:=DataW.trod_bool ht hd;exact⟨fun _=>rfl,b,[.bool b],⟨_,rfl,rfl⟩,RelL.cons rfl RelL.nil,trivial⟩
  ·rename_i ht;cases h;obtain⟨s,rfl,_,hs⟩:=DataW.trod_string ht hd;refine⟨fun _=>rfl,s.data.toList,[.str s.data.toList],⟨_,rfl,rfl⟩,RelL.cons rfl RelL.nil, ?_⟩;have h9:s.size≤9223372036854775807:=hs;show s.data.toList.length≤9223372036854775807;rw[Array.length_toList];exact h9
  ·rename_i e ht;obtain⟨r',h1,h⟩:=Ab.1 h;obtain⟨te,h2,h⟩:=Ab.1 h;split at h<;>(try cases h;done);rename_i hh;obtain⟨hv,hlen,hpos⟩:=hh;cases h;rcases open_slice ht hd with⟨h0,_⟩|⟨a,len,cap,m,n',D',Pl,hcs,hb,hl,hm,hmm,hx,hi⟩
   ·subst h0;refine⟨fun _=>rfl,[],[.sl (some true) []],⟨_,rfl,_,_,rfl,rfl⟩,RelL.cons ?_ RelL.nil,by simp[InR]⟩;unfold RelC;exact⟨none,0,0,rfl,rfl,Nat.le_refl _,fun _=>rfl,(fun hh=>by cases hh),fun _=>rfl,fun hh=>absurd rfl hh⟩
   ·subst hcs
    have hel:∀i,i<len→∃(z:D te) (c:CV),(Can te z [c]∧InR te z)∧∃v,RelC w noM c v∧v.cells.size=P.cellsOf e∧∀(j:Nat) u,v.cells[j]? =some u→w.cell? (a.add (i*P.cellsOf e+j))=some u:=by
     intro i hil;obtain⟨cs',hc,ht'⟩:=hi i (by rw[hmm];split<;>omega);obtain⟨_,hcl,hat⟩:=World.cells?_some hc;obtain⟨g0,x,cvs,g1,g2,g3⟩:=Lu h1 ht';obtain⟨z,c,v,k1,k2,k3,k4⟩:=Sd h2 g0 g1 g2 g3;refine⟨z,c,⟨k1,k4⟩,v,k2,by rw[←hcl,←k3];simp,fun j u hu=> ?_⟩
     have hj:j<P.cellsOf e:=by
      have:=(Array.getElem?_eq_some_iff.1 hu).1;rw[←hcl,←k3];simpa using this
     rw[←WB.GW,hat j hj,←k3];simpa using hu
    obtain⟨zs,es,e1,e2,hp⟩:=Wp len hel;refine⟨fun _=>rfl,zs,[.sl (some false) es],⟨_,rfl,_,_,rfl,OZ (by omega) fun i z c h3 h4=>(hp i z c h3 h4).1.1⟩,RelL.cons ?_ RelL.nil,⟨?_,fun z hz=> ?_⟩⟩
    ·unfold RelC;refine⟨some a,len,cap,rfl,by omega,hl,(fun hh=>by cases hh),(fun _=>by simp),(fun hh=>by cases hh),fun hne=> ?_⟩;refine⟨a,P.cellsOf e,rfl, ?_,fun hh=>hh,E9 fun k el hel'=> ?_⟩
     ·have hlen0:0<len:=by
       rcases Nat.eq_zero_or_pos len with h0|h0
       ·exact absurd (List.eq_nil_of_length_eq_zero (by omega)) hne
       ·exact h0
      obtain⟨cs',hc,_⟩:=hi 0 (by rw[hmm];split<;>omega);obtain⟨_,hcl,hat⟩:=World.cells?_some hc;have h5:=hat 0 hpos;rw[Ai (by omega)]at h5;have h6:=MG h5;rw[Db,Db]at h6;exact h6
     ·have hk:k<len:=by have:=(Ae.1 hel').1;omega
      have hz:zs[k]? =some (zs[k]'(by omega)):=Ai _;obtain⟨v,k1,k2,k3⟩:=(hp k _ el hz hel').2;exact⟨v,k1,k2,fun j u hu=>by simpa using k3 j u hu⟩
    ·have:cap≤9223372036854775807:=hm;omega
    ·obtain⟨i,hi'⟩:=List.getElem?_of_mem hz;have hlt:=(Ae.1 hi').1;exact(hp i z (es[i]'(by omega)) hi' (Ai _)).1.2
  ·rename_i fs ht;obtain⟨r',h1,h⟩:=Ab.1 h;split at h<;>(try cases h;done);rename_i hlen;cases h;obtain⟨ys,n',_,_,hcl,hyl,hg⟩:=DataW.trod_struct ht hd;refine⟨fun ha=>by simp[G2,ht]at ha, ?_⟩
   obtain⟨x,cvs,g1,g2,g3⟩:=Sj (fun h3 h4=>(Lu h3 h4).2) (cs:=cs) h1 (fun f hf=>by
    obtain⟨i,hi⟩:=List.getElem?_of_mem hf;have h2:=hg i f (by simpa using hi);have hi':=(Ae.1 hi).1;rw[Ai (show i<ys.length by rw[hyl];simpa using hi')]at h2
    exact⟨_,_,h2⟩)
   have hl2:=Ew hlen g1;have hl3:=g2.length;have hl4:(cs.take cvs.length)=cs:=List.take_of_length_le (by omega);rw[List.drop_zero,hl4]at g2;exact⟨x,cvs,g1,g2,g3⟩
  ·rename_i m e ht;obtain⟨r',h1,h⟩:=Ab.1 h;split at h<;>(try cases h;done);rename_i hlen;cases h;obtain⟨ys,n',_,_,hcl,hyl,hg⟩:=DataW.trod_array ht hd;refine⟨fun ha=>by simp[G2,ht]at ha, ?_⟩
   obtain⟨x,cvs,g1,g2,g3⟩:=Si (w:=w) hlen.1 (cs:=cs) (m:=m) (j:=0) (fun i _ hi=>by
    have h2:=hg i (by omega);rw[Ai (show i<ys.length by omega)]at h2
    exact(Lu h1 h2).2)
   have hl2:=Ew hlen.2 g1;have hl3:=g2.length;simp only[Nat.zero_mul,List.drop_zero,List.length_take]at hl3 g2;have hl4:(cs.take (m*P.cellsOf e))=cs:=List.take_of_length_le (by omega);rw[hl4]at g2;exact⟨x,cvs,g1,g2,g3⟩
  ·cases h
def Mn(P:Program)(n:Nat)(t:TypeId):Option Ty:=(HK P n t).bind fun r=>(JF P t r).bind fun te=>if te.val=true then some te else none
theorem Sk{n:Nat}{t:TypeId}{te:Ty}{r:Reach}{b0:Nat}{v:Value}{d:DataW H}{p:List MemPlace}(ht:Mn P n t=some te)(hv:Value.okWide P w r b0 t v)(hd:DataW.Trod enc P w base spare held t v d p):
  ∃(x:D te) (c:CV),Can te x [c]∧RelC w noM c v∧InR te x:=by
 unfold Mn at ht;obtain⟨r',h1,ht⟩:=Ab.1 ht;obtain⟨te',h2,ht⟩:=Ab.1 ht;split at ht<;>(try cases ht;done);cases ht;obtain⟨fuel,hd⟩:=hd;obtain⟨g0,x,cvs,g1,g2,g3⟩:=Lu h1 hd;obtain⟨z,c,v',k1,k2,k3,k4⟩:=Sd h2 g0 g1 g2 g3;refine⟨z,c,k1, ?_,k4⟩;unfold JF at h2;split at h2
 ·rename_i ha
  have hagg:∃cs,v=.agg cs:=by
   unfold G2 at ha;split at ha<;>(try cases ha;done)
   all_goals
    rename_i ht;simp only[Value.okWide,ht]at hv;obtain⟨cs,h,_⟩:=hv;exact⟨cs,h⟩
  obtain⟨cs,rfl⟩:=hagg;have ht':te=.agg r':=by cases h2;rfl
  subst ht';unfold Can at k1;obtain⟨l,e,_⟩:=k1;cases e;unfold RelC at k2⊢;obtain⟨vs,e,hl⟩:=k2;subst e;refine⟨vs, ?_,hl⟩;have:vs=cs.toList:=by simpa[Value.cells]using k3
  rw[this]
 ·rename_i ha;split at h2<;>(try cases h2;done);split at h2<;>(try cases h2;done);rename_i ho;cases h2;have e:=NY k2 (fun cs e=>by have:=FN ho k1;rw[e]at this;cases this);rw[e]at k3
  have hl:v.cells= #[v']:=by
   apply Array.toList_inj.1;rw[←k3]
  have:v=v':=by
   cases v with
   |agg cs=>
    exfalso;unfold G2 at ha;unfold Value.okWide at hv;split at hv
    all_goals first
     |(rename_i hh;rw[hh]at ha;exact ha rfl)
     |(rename_i hn1 hn2
       revert hv;simp only[Cell.okWide,Cell.ok]
       split<;>simp_all)
   |_=>simpa[Value.cells]using hl
  rw[this];exact k2
def M3(P:Program)(n:Nat):List TypeId→Option Ty
 | []=>some .nil
 | [t]=>(Mn P n t).map .one
 |t::u::ts=>(Mn P n t).bind fun te=>(M3 P n (u::ts)).map fun r=>.cons te r
theorem Sh{n:Nat}{r:Reach}{b0:Nat}:∀{ts:List TypeId} {a:Ty} {vs:List Value} {ds:List (DataW H)} {ps:List MemPlace},M3 P n ts=some a→(∀(j:Nat) t v,ts[j]? =some t→vs[j]? =some v→Value.okWide P w r b0 t v)→DataW.TrodAll enc P w base spare held ts vs ds ps→
  ∃(x:D a) (l:List CV),Can a x l∧RelL w noM l vs∧InR a x
 | [],a,vs,ds,ps,ha,_,h=>by
  cases ha;obtain⟨rfl,rfl,rfl⟩:=trodAll_nil h;exact⟨(),[],rfl,RelL.nil,trivial⟩
 | [t],a,vs,ds,ps,ha,hv,h=>by
  obtain⟨te,h1,rfl⟩:=Aa.1 ha;obtain⟨v0,vs0,d0,ds0,p0,q0,rfl,rfl,rfl,h0,r0⟩:=trodAll_cons h;obtain⟨rfl,rfl,rfl⟩:=trodAll_nil r0;obtain⟨x,c,g1,g2,g3⟩:=Sk h1 (hv 0 t v0 rfl rfl) h0;exact⟨x,[c],⟨c,rfl,g1⟩,RelL.cons g2 RelL.nil,g3⟩
 |t::u::ts,a,vs,ds,ps,ha,hv,h=>by
  obtain⟨te,h1,ha⟩:=Ab.1 ha;obtain⟨q,h2,rfl⟩:=Aa.1 ha;obtain⟨v0,vs0,d0,ds0,p0,q0,rfl,rfl,rfl,h0,r0⟩:=trodAll_cons h;obtain⟨x,c,g1,g2,g3⟩:=Sk h1 (hv 0 t v0 rfl rfl) h0;obtain⟨x',l,k1,k2,k3⟩:=Sh h2 (fun j t' v' h3 h4=>hv (j+1) t' v' (by simpa using h3) (by simpa using h4)) r0;exact⟨(x,x'),c::l,⟨c,l,rfl,g1,k1⟩,RelL.cons g2 k2,g3,k3⟩
end
theorem TL{H:Type}{enc:TypeId×Value→H}{P:Program}{w:World}{base:Nat}{spare:Nat→Bool}{held:Bool}:∀{ts:List TypeId} {vs:List Value} {ds:List (DataW H)} {ps:List MemPlace},DataW.TrodAll enc P w base spare held ts vs ds ps→ds.length=ts.length
 | [],vs,ds,ps,h=>by
  obtain⟨rfl,rfl,rfl⟩:=trodAll_nil h;rfl
 |t::ts,vs,ds,ps,h=>by
  obtain⟨v0,vs0,d0,ds0,p0,q0,rfl,rfl,rfl,h0,r0⟩:=trodAll_cons h;simp[TL r0]
theorem row_contract{P:Program}{G:Nat→List CV}{f:FuncId}{fn:Func}{s:ChangeSpec}{tb:TypeId}{a:Ty}(n:Nat)(laidOut:laidOutB P=true)(hA:M3 P n fn.params.toList=some a)(hr:(fn.params.toList.all fun t=>P.readableRec t&&decide (t<P.types.size))=true)
  (hres:fn.resultTypes= #[tb]) (htb:P.underlying tb=some .bool) (hsv:s.vars= []) (hs:∀(H:Type) (ds:List (DataW H)),ds.length=fn.params.size→(s.fn H ds).results= [.lit (.bool true)]∧(s.fn H ds).args=ds∧(s.fn H ds).vars= [])
  (hcall:∀(x:D a) (l:List CV),Can a x l→InR a x→CallsTo P G f l (.val (.bool true)))
  (H:Type) (enc:TypeId×Value→H) (W:World) (base:Nat) (args:Array Value) (ds gs:List (DataW H)) (before:List MemPlace)
  (hval:∀(j:Nat) t v,fn.params[j]? =some t→args[j]? =some v→Value.okWide P W .any base t v)
  (hW:DataW.Whole enc P fn.params.toList s.vars false W args.toList ds gs before) (hG:GOk G W noM):
  Calls P f args W fun e W'=>∃v,e=.returned v∧s.post enc P fn false true false false W args v W':=by
 have hW':=hW;obtain⟨p,q,hA0,hV,rfl,hfz,hnd⟩:=hW;have hA1:DataW.TrodAll enc P W 0 (fun _=>true) true fn.params.toList args.toList ds p:=hA0;rw[hsv]at hV;obtain⟨rfl,rfl⟩:=trodVars_none hV;obtain⟨x,l,g1,g2,g3⟩:=Sh (base:=0) hA (fun j t v h1 h2=>hval j t v (by simpa using h1) (by simpa using h2)) hA1;have hlen:ds.length=fn.params.size:=by rw[TL hA1];simp
 obtain⟨e1,e2,e3⟩:=hs H ds hlen;have hc:=hcall x l g1 g3 W noM args.toList (fun _ h=>h.elim) hG g2;refine hc.mono fun e W' ⟨v,he,hb,hr'⟩=> ?_;subst he;unfold Gf RelC at hr';subst hr';refine⟨_,rfl,Ym (pa:=p) (pv:= []) hW' (fun _ _ _=> ?_) (fun sp hsp=> ?_) (fun sp hsp=> ?_) rfl hb ?_⟩
 ·rw[List.append_nil,e1,hres];exact trodAll_cons_mk (shut_bool htb _) trodAll_mk0
 ·rw[List.append_nil,e2];exact TK laidOut hb hr (fun x hx=>hW'.lt x (by simpa using hx)) (fun x hx=>hsp x (by simpa using hx)) hA1
 ·rw[List.append_nil,e3,hsv];rfl
 ·exact ok_one hres rfl (okWide_bool_mk htb _)
end WB
