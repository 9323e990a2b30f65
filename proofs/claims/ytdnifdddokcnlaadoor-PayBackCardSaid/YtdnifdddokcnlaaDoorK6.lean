/-
  OWN TEXTS, MERGED (wip/merge.py): CoreTn, CoreTne, CoreTo, CoreTq, CoreLb, CoreMc, CoreZs. No condition of their own.
-/
import Derived.Test.YtdnifdddokcnlaaDoorK5
import Derived.Lib.LaidTab
import Derived.Lib.ItoaNum
import Derived.Lib.TrimByte
import Derived.Lib.AppendIntMem
import Derived.Lib.Bytealg
import Derived.Lib.SlMapMerge
import Derived.Maps.Own
import Derived.StringKeys
import Derived.Test.YtdnifdddokcnlaaDoorK4
set_option linter.unusedVariables false
set_option linter.unusedSimpArgs false
open Go.IntKind (i64 u64 u8 u32)
namespace WB
open Go Go.RowKit
section
variable {X:TP} {E:Env}
theorem NJ{t:Ty}(hm:mlT t=true):∀{ys:List (D t)} {es:List CV},Ap (fun x c=>Can t x [c]) ys es→BJ es=true
 | [],es,h=>by unfold Ap at h;subst h;rfl
 |y::ys,es,h=>by
  obtain⟨c,es',rfl,h1,h2⟩:=h;have:=Qz hm h1;simp only[BJ,Bool.and_true]at this;simp[BJ,this,NJ hm h2]
theorem V9(hT:TOk X E){Γ:TC}{msk:List Nat}{ρ:HS Γ}{st:St}(hr:Rep Γ ρ st){rd:Nat→Ob}(hrd:∀id,msk.contains id=false→rd id=st.ob id){d:Nat}{op:SOp}{o:OpD Γ}(h:MJ X Γ msk d op=some o){b:o.B}(hb:o.d.val ρ=some b):
  ∃st',Ay E rd st (some d) op=some st'∧Rep o.Γ' (o.up ρ b) st':=by
 cases op<;>(try cases h;done)
 case call f args=>
  simp only[MJ]at h;split at h<;>(try cases h;done);rename_i a e size t fn hs;split at h<;>(try cases h;done);rename_i f0 hg;split at h<;>(try cases h;done);rename_i p hp;split at h<;>(try cases h;done);rename_i g hg';split at h<;>(try cases h;done);rename_i hc;cases h;try dsimp only at hb
  obtain⟨z,h1,h2⟩:=Dyn.comp_val hb;obtain⟨y,h3,h4⟩:=Dyn.map_val h1;subst h4;obtain⟨l,h5,h6,h7⟩:=H2 hr hrd (G:=E.G) (fl:=p.1) (q:=p.2) hp h3;obtain⟨_,s3⟩:=hT.nw f a e size t fn hs;obtain⟨es,h8,h9⟩:=s3 _ l b (BE _ _ hg' h6) h2;have hn:st.ob d=.none:=hr.o d _ hg
  have hm:((args.all fun x=>isC (so E.G st.fr x))||(Res.new (.arr e size es)).memless)=true:=by
   cases hp1:p.1 with
   |true=>rw[h7 hp1];rfl
   |false=>
    rw[hp1]at hc;simp only[Bool.false_or]at hc;simp[Res.memless,NJ hc h9]
  refine⟨_, ?_,Rep.newObjS hr (k:=.own d) (ko:=.arr e size t) (x:=()) (y:=b) (v:=.osl d) ⟨es,rfl,h9⟩ rfl⟩;simp only[Ay,SOp.cls,hT.ef f (.inr (by rw[hs];rfl)),CW,h5,Option.bind_some,List.append_nil,h8,hm,if_true,Dw,AW,hn,Option.getD_some,Ko]
theorem SY(hF:Bi X E){a:Ty}{Θ:TC}{r:Ty}{n:Nat}(hn:A7 a=some n):∀{t:Ty} {F:D t→D a→HS Θ→Option (D r×HS Θ)} {x:D t} {y:D a} {θ θ':HS Θ} {z:D r} {c:CV} {l:List CV} {H:Nat→Ob},H4 X a Θ r t=some F→F x y θ=some (z,θ')→Can t x [c]→Can a y l→Rep Θ θ {fr:=fun _=>.undef,ob:=H}→
  r.val=true∧r.ok=true∧∃g caps e,c=.fn g caps∧E.ef g=some e∧e.T=idsT Θ∧e.fn (l++caps) H=some (enc r z,encO Θ θ'):=by
 have one:∀{g:Nat} {cc:Ty} {s:AD} {h:D (Be a cc).1→D s.a} {hΘ:s.Θ=Θ} {hr:s.r=r} {x:D cc} {y:D a} {θ θ':HS Θ} {z:D r} {caps l:List CV} {H:Nat→Ob},X.TE g=some s→AE (Be a cc).1 s.a=some h→Lr s.fn hΘ hr (h ((Be a cc).2 y x)) θ=some (z,θ')→Can cc x caps→Can a y l→Rep Θ θ {fr:=fun _=>.undef,ob:=H}→
   r.val=true∧r.ok=true∧∃e,E.ef g=some e∧e.T=idsT Θ∧e.fn (l++caps) H=some (enc r z,encO Θ θ'):=by
  intro g cc s h hΘ hr x y θ θ' z caps l H hs hh hz hx hy hH;obtain⟨⟨s1,_⟩,s2,e,s3,s4,s5⟩:=hF g s hs;obtain⟨Θs,as,rs,fn⟩:=s;simp only at hΘ hr;subst hΘ;subst hr;exact⟨s1,s2,e,s3,s4,s5 _ _ θ H z θ' (BE _ _ hh (G3 hn hy hx)) hH hz⟩
 intro t
 induction t with
 |clo g cc _=>
  intro F x y θ θ' z c l H h hz hx hy hH;simp only[H4]at h;split at h<;>(try cases h;done);rename_i s hs;split at h<;>(try cases h;done);rename_i hh h1;split at h<;>(try cases h;done);rename_i hΘ;split at h<;>(try cases h;done);rename_i hr;cases h;unfold Can at hx;obtain⟨caps,e,hx⟩:=hx;cases e;obtain⟨g1,g2,e,g3,g4,g5⟩:=one hs h1 hz hx hy hH;exact⟨g1,g2,g,caps,e,rfl,g3,g4,g5⟩
 |falt g cc l' _ ihl=>
  intro F x y θ θ' z c l H h hz hx hy hH;simp only[H4]at h;split at h<;>(try cases h;done);rename_i s FF hs hFF;split at h<;>(try cases h;done);rename_i hh h1;split at h<;>(try cases h;done);rename_i hΘ;split at h<;>(try cases h;done);rename_i hr;cases h
  cases x with
  |inl w=>
   unfold Can at hx;obtain⟨caps,e,hx⟩:=hx;cases e;obtain⟨g1,g2,e,g3,g4,g5⟩:=one hs h1 hz hx hy hH;exact⟨g1,g2,g,caps,e,rfl,g3,g4,g5⟩
  |inr w=>
   unfold Can at hx;exact ihl hFF hz hx.2 hy hH
 |_=>intro F x y θ θ' z c l H h;cases h
theorem Jj(hT:TOk X E)(hF:Bi X E){Γ:TC}{ρ:HS Γ}{st:St}(hr:Rep Γ ρ st){op:SOp}{q:EfD Γ}(h:efK X Γ op=some q)(ho:okΘ q.Θ=true){y:D q.r}{θ':HS q.Θ}(hy:q.d.val ρ=some (y,θ'))(rd:Nat→Ob)(d:Option Nat):
  q.r.val=true∧q.r.ok=true∧Ay E rd st d op=some ((BW (idsT q.Θ) (encO q.Θ θ') st).set d (.c (enc q.r y))):=by
 have part:∀{Θ:TC} {f:HS Γ→HS Θ},okΘ Θ=true→BX Γ Θ=some f→Rep Θ (f ρ) {fr:=fun _=>.undef,ob:=Ca (idsT Θ) st.ob}:=by
  intro Θ f ho hf;have h1:=CX hf hr;simp only[okΘ,Af]at ho;refine⟨fun i q hq=> ?_,fun id q hq=> ?_⟩
  ·have:=B8 ho.2 (AQ hq);obtain⟨k,f'⟩:=q;cases k<;>cases this
  ·have hok:=B8 ho.2 (AQ hq);have hid:(idsT Θ).contains id=true:=by simpa using EW.2 (E0 (AQ hq))
   have r:=h1.o id _ hq;show RO Θ _ id q.1 _ (Ca (idsT Θ) st.ob id);unfold Ca;rw[if_pos hid];obtain⟨k,f'⟩:=q;cases k<;>(try cases hok;done)
   case box n=>
    obtain⟨cs,e1,hl,hc⟩:=r;rw[e1];refine⟨_,rfl,by simpa using hl,fun j q' hj hq'=> ?_⟩;obtain⟨sv,g1,g2⟩:=hc j q' hj hq';refine⟨FT (idsT Θ) sv,by rw[List.getElem?_map,g1];rfl, ?_⟩;simp only[okE,Af,List.all_eq_true,List.mem_range]at hok;have hcj:=hok.2 j hj;rw[AQ hq']at hcj;obtain⟨k',f''⟩:=q';cases k'<;>(try cases hcj;done)
    case v t=>obtain⟨c,rfl,hc'⟩:=g2;exact⟨c,rfl,hc'⟩
    case own K=>
     have e2:sv=.osl K:=g2;subst e2;simp only[okC,Af]at hcj;show FT (idsT Θ) (.osl K)=.osl K;simp only[FT,SV.ref];rw[if_pos hcj.1]
   case arr e size t=>obtain⟨es,e1,hc⟩:=r;rw[e1];exact⟨es,rfl,hc⟩
   case buf e=>
    have e1:st.ob id=.buf e (f' (f ρ)):=r;rw[e1];rfl
 cases op<;>(try cases h;done)
 case call f args=>
  simp only[efK]at h;split at h<;>(try cases h;done);rename_i s hs;split at h<;>(try cases h;done);rename_i p g hp hg;split at h<;>(try cases h;done);rename_i k hk;cases h;try dsimp only at hy ho y θ'⊢
  obtain⟨z,h1,h2⟩:=Dyn.comp_val hy;obtain⟨x,h3,h4⟩:=Dyn.map_val h1;subst h4;obtain⟨l,h5,h6⟩:=H5 (G:=E.G) hr hp h3;obtain⟨⟨s1,_⟩,s2,e,s3,s4,s5⟩:=hF f s hs;refine⟨s1,s2, ?_⟩;have h7:=s5 _ l (g ρ) _ y θ' (BE _ _ hk h6) (part ho hg) h2;simp only[Ay,SOp.cls,s3,CI,h5,Option.bind_some,List.append_nil,s4,h7]
 case callv f args=>
  simp only[efK]at h;split at h<;>(try cases h;done)
  ·rename_i g cc d' p hf hp;split at h<;>(try cases h;done);rename_i s hs;split at h<;>(try cases h;done);rename_i n k gθ hn hk hg;cases h;try dsimp only at hy ho y θ'⊢
   obtain⟨z,h1,h2⟩:=Dyn.comp_val hy;obtain⟨x,h3,h4⟩:=Dyn.map_val h1;obtain⟨h3,h3'⟩:=Dyn.both_val h3;subst h4;obtain⟨l,h5,h6⟩:=H5 (G:=E.G) hr hp h3;obtain⟨c,e1,e2⟩:=A1 (G:=E.G) hf hr h3';unfold Can at e2;obtain⟨caps,e3,e2⟩:=e2;cases e3;obtain⟨⟨s1,_⟩,s2,e,s3,s4,s5⟩:=hF g s hs;refine⟨s1,s2, ?_⟩;have h7:=s5 _ (l++caps) (gθ ρ) _ y θ' (BE _ _ hk (G3 hn h6 e2)) (part ho hg) h2;simp only[Ay,SOp.cls,e1,s3,CI,h5,Option.bind_some,s4,h7]
  ·rename_i g cc l' d' p hf hp;split at h<;>(try cases h;done);rename_i s hs;split at h<;>(try cases h;done);rename_i n gθ F hn hg hFF;cases h;try dsimp only at hy ho y θ'⊢
   obtain⟨z,h1,h2⟩:=Dyn.comp_val hy;obtain⟨x,h3,h4⟩:=Dyn.map_val h1;obtain⟨h3,h3'⟩:=Dyn.both_val h3;subst h4;obtain⟨l,h5,h6⟩:=H5 (G:=E.G) hr hp h3;obtain⟨c,e1,e2⟩:=A1 (G:=E.G) hf hr h3';obtain⟨s1,s2,g',caps,e,rfl,s3,s4,s5⟩:=SY hF hn hFF h2 e2 h6 (part ho hg);refine⟨s1,s2, ?_⟩;simp only[Ay,SOp.cls,e1,s3,CI,h5,Option.bind_some,s4,s5]
theorem KO{Γ Θ:TC}{ρ:HS Γ}{θ':HS Θ}{st:St}(ho:okΘ Θ=true)(hr:Rep Γ ρ st):Rep (Θ++AO (idsT Θ) Γ) (BM Θ θ' (Bb (idsT Θ) ρ)) (BW (idsT Θ) (encO Θ θ') st):=
 hr.turned ho (TW ho θ' fun _=>.undef)
theorem TF{Γ:TC}{op:SOp}{q:EfD Γ}(h:efK X Γ op=some q):BX Γ q.Θ=some q.θ:=by
 cases op<;>(try cases h;done)
 case call f args=>
  simp only[efK]at h;split at h<;>(try cases h;done);split at h<;>(try cases h;done);rename_i p g hp hg;split at h<;>(try cases h;done);cases h;exact hg
 case callv f args=>
  simp only[efK]at h;split at h<;>(try cases h;done)
  all_goals
   split at h<;>(try cases h;done);split at h<;>(try cases h;done)
  ·rename_i hg;cases h;exact hg
  ·rename_i hg _;cases h;exact hg
theorem TD{Γ:TC}{op:SOp}{q:EfD Γ}(h:efK X Γ op=some q):∃f,X.TE f≠none:=by
 cases op<;>(try cases h;done)
 case call f args=>
  simp only[efK]at h;split at h<;>(try cases h;done);rename_i s hs;exact⟨f,by rw[hs];simp⟩
 case callv f args=>
  simp only[efK]at h;split at h<;>(try cases h;done)
  all_goals
   split at h<;>(try cases h;done);rename_i s hs;exact⟨_,by rw[hs];simp⟩
theorem QG(hT:TOk X E)(hF:Bi X E){Γ:TC}{ρ:HS Γ}{st:St}(hr:Rep Γ ρ st)(rd:Nat→Ob){l:SL}{o:OpD Γ}(h:Gg X Γ l=some o){b:o.B}(hb:o.d.val ρ=some b):
  ∃st',Bj E rd l st=some st'∧Rep o.Γ' (o.up ρ b) st':=by
 unfold Gg at h;split at h<;>(try cases h;done);rename_i e he;split at h<;>(try cases h;done);rename_i ho;obtain⟨dst,op,guard⟩:=l;simp only at he h;split at h
 ·rename_i d;cases h;obtain⟨y,θ'⟩:=b;obtain⟨v1,v2,v3⟩:=Jj hT hF hr he ho hb rd (some d);exact⟨_,by simp only[Bj];exact v3,Rep.set (KO ho hr) ⟨_,rfl,Can.enc y v1 v2⟩⟩
 ·cases h;obtain⟨y,θ'⟩:=b;obtain⟨v1,v2,v3⟩:=Jj hT hF hr he ho hb rd none;exact⟨_,by simp only[Bj];exact v3,KO ho hr⟩
 ·rename_i g want d;have hun:=hr.unturned ho (CX (TF he) hr);split at h<;>(try cases h;done)
  ·rename_i f hg;cases h;obtain⟨c,e1,e2⟩:=hr.s g _ hg;unfold Can at e2;cases e2;by_cases hw:f ρ=want
   ·have:∃y,e.d.val ρ=some y∧b=some y:=by
     cases hd:e.d with
     |tot k=>rw[hd]at hb;simp only[gD,Dyn.val,hw,if_true,Ac]at hb;exact⟨_,rfl,hb.symm⟩
     |par k=>
      rw[hd]at hb;simp only[gD,Dyn.val,hw,if_true]at hb;obtain⟨y,h1,h2⟩:=Aa.1 hb;exact⟨y,h1,h2.symm⟩
    obtain⟨⟨y,θ'⟩,hy,rfl⟩:=this;obtain⟨v1,v2,v3⟩:=Jj hT hF hr he ho hy rd (some d);exact⟨_,by simp only[Bj,e1,hw,if_true];exact v3,Rep.set (k:=.opt (.v e.r)) (x:=some y) (KO ho hr) ⟨_,rfl,Can.enc y v1 v2⟩⟩
   ·have:b=none:=by
     cases hd:e.d with
     |tot k=>rw[hd]at hb;simp only[gD,Dyn.val,hw,if_false,Ac]at hb;exact hb.symm
     |par k=>rw[hd]at hb;simp only[gD,Dyn.val,hw,if_false,Ac]at hb;exact hb.symm
    subst this;exact⟨st.set (some d) AK,by simp only[Bj,e1,hw,if_false],Rep.set hun (k:=.opt (.v e.r)) (x:=none) rfl⟩
  ·rename_i f hg;cases h;have hs:=hr.s g _ hg;unfold RS at hs;by_cases hw:f ρ=some want
   ·simp only[hw]at hs;obtain⟨c,e1,e2⟩:=hs;unfold Can at e2;cases e2
    have:∃y,e.d.val ρ=some y∧b=some y:=by
     cases hd:e.d with
     |tot k=>rw[hd]at hb;simp only[gO,Dyn.val,hw,if_true,Ac]at hb;exact⟨_,rfl,hb.symm⟩
     |par k=>
      rw[hd]at hb;simp only[gO,Dyn.val,hw,if_true]at hb;obtain⟨y,h1,h2⟩:=Aa.1 hb;exact⟨y,h1,h2.symm⟩
    obtain⟨⟨y,θ'⟩,hy,rfl⟩:=this;obtain⟨v1,v2,v3⟩:=Jj hT hF hr he ho hy rd (some d);exact⟨_,by simp only[Bj,e1,if_true];exact v3,Rep.set (k:=.opt (.v e.r)) (x:=some y) (KO ho hr) ⟨_,rfl,Can.enc y v1 v2⟩⟩
   ·have:b=none:=by
     cases hd:e.d with
     |tot k=>rw[hd]at hb;simp only[gO,Dyn.val,hw,if_false,Ac]at hb;exact hb.symm
     |par k=>rw[hd]at hb;simp only[gO,Dyn.val,hw,if_false,Ac]at hb;exact hb.symm
    subst this
    cases hf:f ρ with
    |none=>
     simp only[hf]at hs;exact⟨st.set (some d) AK,by simp only[Bj,hs,AK],Rep.set hun (k:=.opt (.v e.r)) (x:=none) rfl⟩
    |some b'=>
     simp only[hf]at hs;obtain⟨c,e1,e2⟩:=hs;unfold Can at e2;cases e2;have hne:b'≠want:=fun e=>hw (by rw[hf,e]);exact⟨st.set (some d) AK,by simp only[Bj,e1,hne,if_false],Rep.set hun (k:=.opt (.v e.r)) (x:=none) rfl⟩
 ·cases h
theorem QH(hT:TOk X E){Γ:TC}{msk:List Nat}{ρ:HS Γ}{st:St}(hr:Rep Γ ρ st){rd:Nat→Ob}{l:SL}(hD:∀id,(hid l.op msk).contains id=false→rd id=st.ob id){o:OpD Γ}(h:Gj X Γ msk l=some o){b:o.B}(hb:o.d.val ρ=some b):
  ∃st',Bj E rd l st=some st'∧Rep o.Γ' (o.up ρ b) st':=by
 obtain⟨dst,op,guard⟩:=l
 cases guard with
 |none=>
  simp only[Gj]at h;split at h
  ·rename_i hcls;split at h<;>(try cases h;done);rename_i d;split at h<;>(try cases h;done);rename_i f hg;obtain⟨v,ob,h1,h2⟩:=VC hr h hb;have hn:st.ob d=.none:=hr.o d _ hg;rw[←hT.G]at h1;exact⟨_,by simp[Bj,Ay,hcls,h1,AW,hn],h2⟩
  ·rename_i hcls;obtain⟨st',h1,h2⟩:=VB hr h hb;rw[←hT.G]at h1;exact⟨st',by simp only[Bj,Ay,hcls,D3,h1],h2⟩
  ·obtain⟨st',h1,h2⟩:=VA hT hr h hb rd;exact⟨st',h1,h2⟩
  ·split at h
   ·rename_i q hq;split at h
    ·rename_i d;cases h;obtain⟨sv,h1,h2⟩:=K0 hT hr hD hq hb (some d);exact⟨_,by simp only[Bj,h1],Rep.set hr h2⟩
    ·cases h;obtain⟨sv,h1,h2⟩:=K0 hT hr hD hq hb none;exact⟨st,by simp only[Bj,h1,St.set],hr⟩
   ·split at h<;>(try cases h;done);rename_i d;obtain⟨st',h1,h2⟩:=V9 hT hr hD h hb;exact⟨st',by simp only[Bj,h1],h2⟩
 |some g=>
  obtain⟨g,want⟩:=g;simp only[Gj]at h;split at h<;>(try cases h;done);rename_i q d hq;split at h<;>(try cases h;done)
  ·rename_i f hg;cases h;obtain⟨c,e1,e2⟩:=hr.s g _ hg;unfold Can at e2;cases e2;by_cases hw:f ρ=want
   ·have:∃y,q.2.val ρ=some y∧b=some y:=by
     cases hd:q.2 with
     |tot k=>rw[hd]at hb;simp only[gD,Dyn.val,hw,if_true,Ac]at hb;exact⟨_,rfl,hb.symm⟩
     |par k=>
      rw[hd]at hb;simp only[gD,Dyn.val,hw,if_true]at hb;obtain⟨y,h1,h2⟩:=Aa.1 hb;exact⟨y,h1,h2.symm⟩
    obtain⟨y,hy,rfl⟩:=this;obtain⟨sv,h1,h2⟩:=K0 hT hr hD hq hy (some d);refine⟨_,by simp only[Bj,e1,hw,if_true];exact h1,Rep.set hr ?_⟩;exact h2
   ·have:b=none:=by
     cases hd:q.2 with
     |tot k=>rw[hd]at hb;simp only[gD,Dyn.val,hw,if_false,Ac]at hb;exact hb.symm
     |par k=>rw[hd]at hb;simp only[gD,Dyn.val,hw,if_false,Ac]at hb;exact hb.symm
    subst this;exact⟨st.set (some d) AK,by simp only[Bj,e1,hw,if_false],Rep.set hr (k:=.opt q.1) (x:=none) rfl⟩
  ·rename_i f hg;cases h;have hs:=hr.s g _ hg;unfold RS at hs;by_cases hw:f ρ=some want
   ·simp only[hw]at hs;obtain⟨c,e1,e2⟩:=hs;unfold Can at e2;cases e2
    have:∃y,q.2.val ρ=some y∧b=some y:=by
     cases hd:q.2 with
     |tot k=>rw[hd]at hb;simp only[gO,Dyn.val,hw,if_true,Ac]at hb;exact⟨_,rfl,hb.symm⟩
     |par k=>
      rw[hd]at hb;simp only[gO,Dyn.val,hw,if_true]at hb;obtain⟨y,h1,h2⟩:=Aa.1 hb;exact⟨y,h1,h2.symm⟩
    obtain⟨y,hy,rfl⟩:=this;obtain⟨sv,h1,h2⟩:=K0 hT hr hD hq hy (some d);refine⟨_,by simp only[Bj,e1,if_true];exact h1,Rep.set hr ?_⟩;exact h2
   ·have:b=none:=by
     cases hd:q.2 with
     |tot k=>rw[hd]at hb;simp only[gO,Dyn.val,hw,if_false,Ac]at hb;exact hb.symm
     |par k=>rw[hd]at hb;simp only[gO,Dyn.val,hw,if_false,Ac]at hb;exact hb.symm
    subst this
    cases hf:f ρ with
    |none=>
     simp only[hf]at hs;exact⟨st.set (some d) AK,by simp only[Bj,hs,AK],Rep.set hr (k:=.opt q.1) (x:=none) rfl⟩
    |some b'=>
     simp only[hf]at hs;obtain⟨c,e1,e2⟩:=hs;unfold Can at e2;cases e2;have hne:b'≠want:=fun e=>hw (by rw[hf,e]);exact⟨st.set (some d) AK,by simp only[Bj,e1,hne,if_false],Rep.set hr (k:=.opt q.1) (x:=none) rfl⟩
theorem JR(hT:TOk X E)(hF:Bi X E){Γ:TC}{msk:List Nat}{ρ:HS Γ}{st:St}(hr:Rep Γ ρ st){D:Option (List Nat)}(hDn:D=none∨∀f,X.TE f=none){l:SL}(hD:∀id,(hid l.op msk).contains id=false→A0 (D.map (hid l.op)) st.ob id=st.ob id){o:OpD Γ}(h:opL X Γ msk l=some o){b:o.B}(hb:o.d.val ρ=some b):
  ∃st',Av E D l st=some st'∧Rep o.Γ' (o.up ρ b) st':=by
 cases hef:Gg X Γ l with
 |some oe=>
  have h':(match Gg X Γ l with
   |some o=>some o
   |none=>Gj X Γ msk l)=some o:=h
  rw[hef]at h';cases h'
  have hD0:D=none:=by
   rcases hDn with h1|h1
   ·exact h1
   ·unfold Gg at hef;split at hef<;>(try cases hef;done);rename_i e he;obtain⟨f,hf⟩:=TD he;exact absurd (h1 f) hf
  subst hD0;exact QG hT hF hr _ hef hb
 |none=>
  have h':Gj X Γ msk l=some o:=by
   unfold opL at h;rw[hef]at h;exact h
  exact QH (hT.at D) hr hD h' hb
theorem HC{X:TP}{E:Env}(hT:TOk X E)(hF:Bi X E){A:Type}{msk:List Nat}{D:Option (List Nat)}(hDn:D=none∨∀f,X.TE f=none)(hD:∀(op:SOp) (ob:Nat→Ob) id,(hid op msk).contains id=false→A0 (D.map (hid op)) ob id=ob id):∀{ls:List SL} {Γ:TC} {q:LsD A Γ} {ρ:HS Γ} {st:St} {K:HS q.Γ'→Option A} {r:A},
  GD A X msk ls Γ=some q→Rep Γ ρ st→q.run ρ K=some r→∃st',BG E D ls st=some st'∧∃ρ',Rep q.Γ' ρ' st'∧K ρ'=some r
 | [],Γ,q,ρ,st,K,r,h,hr,hk=>by
  simp only[GD,Ac]at h;subst h;exact⟨st,rfl,ρ,hr,hk⟩
 |l::ls,Γ,q,ρ,st,K,r,h,hr,hk=>by
  simp only[GD]at h;split at h<;>(try cases h;done);rename_i o ho;split at h<;>(try cases h;done);rename_i p hp;cases h;have hk':o.d.app ρ (fun b=>p.run (o.up ρ b) K)=some r:=hk;obtain⟨b,h1,h2⟩:=Dyn.app_some hk';obtain⟨st1,h3,h4⟩:=JR hT hF hr hDn (hD l.op st.ob) ho h1;obtain⟨st2,h5,h6⟩:=HC hT hF hDn hD hp h4 h2;exact⟨st2,by simp[BG,h3,h5],h6⟩
theorem LA(hT:TOk X E)(hF:Bi X E){A:Type}{draw:Bool}{D:List Nat}{ls:List SL}{Γ:TC}{q:LsD A Γ}{ρ:HS Γ}{st:St}{K:HS q.Γ'→Option A}{r:A}(h:Ft A X draw D ls Γ=some q)(hr:Rep Γ ρ st)(hk:q.run ρ K=some r):
  ∃st',BY E draw D ls st=some st'∧∃ρ',Rep q.Γ' ρ' st'∧K ρ'=some r:=by
 cases draw with
 |true=>
  cases D with
  |nil=>
   simp only[Ft,cond_true]at h;obtain⟨st',h1,h2⟩:=HC hT.noE (Bi.noE X E) (D:=some []) (.inr fun _=>rfl) (fun op ob id _=>by simp[A0,hid]) h hr hk;exact⟨st',by simpa[BY]using h1,h2⟩
  |cons d ds=>
   simp only[Ft,cond_true,if_true]at h;split at h<;>(try cases h;done);rename_i p hp;cases h
   obtain⟨st',h1,h2⟩:=HC hT.noE (Bi.noE X E) (D:=some (d::ds)) (.inr fun _=>rfl) (fun op ob id hh=>by
    simp only[Option.map_some,A0,hh,Ag,if_false]) hp (hr.kill (d::ds)) hk
   exact⟨st',by simpa[BY]using h1,h2⟩
 |false=>
  cases D with
  |nil=>
   simp only[Ft,cond_false]at h;obtain⟨st',h1,h2⟩:=HC hT hF (D:=none) (.inl rfl) (fun op ob id _=>rfl) h hr hk;exact⟨st',by simpa[BY]using h1,h2⟩
  |cons d ds=>
   simp only[Ft,cond_false,Ag,if_false]at h;split at h<;>(try cases h;done);rename_i p hp;cases h;obtain⟨st',h1,h2⟩:=HC hT hF (D:=none) (.inl rfl) (fun op ob id hh=>rfl) hp (hr.kill (d::ds)) hk;exact⟨st',by simpa[BY]using h1,h2⟩
theorem Jc(hT:TOk X E)(hF:Bi X E){A:Type}:∀{gs:List GL} {Γ:TC} {q:LsD A Γ} {ρ:HS Γ} {st:St} {K:HS q.Γ'→Option A} {r:A} {Q:St→Prop},
  Fr A X gs Γ=some q→Rep Γ ρ st→q.run ρ K=some r→(∀st' ρ',Rep q.Γ' ρ' st'→K ρ'=some r→Q st')→Ek (CJ X.Θ) E (Ea gs) Q st
 | [],Γ,q,ρ,st,K,r,Q,h,hr,hk,hQ=>by
  simp only[Fr,Ac]at h;subst h;exact⟨st,As.refl st,hQ _ _ hr hk⟩
 | .l l::gs,Γ,q,ρ,st,K,r,Q,h,hr,hk,hQ=>by
  simp only[Fr]at h;split at h<;>(try cases h;done);rename_i o ho;split at h<;>(try cases h;done);rename_i p hp;cases h;have hk':o.d.app ρ (fun b=>p.run (o.up ρ b) K)=some r:=hk;obtain⟨b,h1,h2⟩:=Dyn.app_some hk';obtain⟨st1,h3,h4⟩:=JR hT hF hr (D:=none) (.inl rfl) (fun _ _=>rfl) ho h1;exact⟨st,As.refl st,st1,h3,Jc (gs:=gs) hT hF hp h4 h2 hQ⟩
 | .g g::gs,Γ,q,ρ,st,K,r,Q,h,hr,hk,hQ=>by
  simp only[Fr]at h;split at h<;>(try cases h;done);rename_i p hp;split at h<;>(try cases h;done);rename_i p' hp';cases h;obtain⟨st',h1,h2⟩:=Jt hp hr;exact Wm h1 (Jc (gs:=gs) hT hF hp' h2 hk hQ)
theorem Pd(hT:TOk X E)(hF:Bi X E){A:Type}{D:List Nat}{gs:List GL}{Γ:TC}{q:LsD A Γ}{ρ:HS Γ}{st:St}{K:HS q.Γ'→Option A}{r:A}{Q:Ex→St→Prop}(h:HD A X D gs Γ=some q)(hr:Rep Γ ρ st)(hk:q.run ρ K=some r)
  (hQ:∀st' ρ',Rep q.Γ' ρ' st'→K ρ'=some r→Q .normal st'):Ci (CJ X.Θ) E (.reg false D (Ea gs)) Q st:=by
 cases D with
 |nil=>
  simp only[HD]at h;exact⟨st,As.refl st,Jc hT hF h hr hk hQ⟩
 |cons d ds=>
  simp only[HD]at h;split at h<;>(try cases h;done);rename_i p hp;cases h;exact⟨st,As.refl st,Jc hT hF hp (hr.kill (d::ds)) hk hQ⟩
theorem Wl{R:St→St→Prop}(hRt:∀{a b c:St},R a b→R b c→R a c){E:Env}{D:Option (List Nat)}{ls:List RL}{Q:St→Prop}{st s:St}(h:R st s)(hr:CB R E D ls Q s):CB R E D ls Q st:=by
 cases ls with
 |nil=>obtain⟨s',h1,h2⟩:=hr;exact⟨s',hRt h h1,h2⟩
 |cons l ls=>
  cases l with
  |l l=>obtain⟨s',h1,h2⟩:=hr;exact⟨s',hRt h h1,h2⟩
  |sk d=>obtain⟨s',h1,h2⟩:=hr;exact⟨s',hRt h h1,h2⟩
theorem Jd{X:TP}{E:Env}(hT:TOk X E)(hF:Bi X E){A:Type}{R:St→St→Prop}(hRr:∀s,R s s){msk:List Nat}{D:Option (List Nat)}(hDn:D=none∨∀f,X.TE f=none)(hD:∀(op:SOp) (ob:Nat→Ob) id,(hid op msk).contains id=false→A0 (D.map (hid op)) ob id=ob id):∀{ls:List RL} {Γ:TC} {q:LsD A Γ} {ρ:HS Γ} {st:St} {K:HS q.Γ'→Option A} {r:A},
  Fs A X msk ls Γ=some q→Rep Γ ρ st→q.run ρ K=some r→CB R E D ls (fun st'=>∃ρ',Rep q.Γ' ρ' st'∧K ρ'=some r) st
 | [],Γ,q,ρ,st,K,r,h,hr,hk=>by
  simp only[Fs,Ac]at h;subst h;exact⟨st,hRr st,ρ,hr,hk⟩
 | .l l::ls,Γ,q,ρ,st,K,r,h,hr,hk=>by
  simp only[Fs]at h;split at h<;>(try cases h;done);rename_i o ho;split at h<;>(try cases h;done);rename_i p hp;cases h;have hk':o.d.app ρ (fun b=>p.run (o.up ρ b) K)=some r:=hk;obtain⟨b,h1,h2⟩:=Dyn.app_some hk';obtain⟨st1,h3,h4⟩:=JR hT hF hr hDn (hD l.op st.ob) ho h1;have ih:=Jd (R:=R) (ls:=ls) (q:=p) (K:=K) hT hF hRr hDn hD hp h4 h2;exact⟨st,hRr st,st1,h3,ih⟩
 | .sk (some d)::ls,Γ,q,ρ,st,K,r,h,hr,hk=>by
  simp only[Fs]at h;split at h<;>(try cases h;done);rename_i p hp;cases h;have ih:=Jd (R:=R) (ls:=ls) (q:=p) (K:=K) hT hF hRr hDn hD hp (Rep.set hr (d:=d) (k:=.undef) (x:=()) (sv:=AK) trivial) hk;exact⟨st,hRr st,ih⟩
 | .sk none::ls,Γ,q,ρ,st,K,r,h,hr,hk=>⟨st,hRr st,Jd hT hF hRr hDn hD (ls:=ls) h hr hk⟩
theorem Pc{X:TP}{E:Env}(hT:TOk X E)(hF:Bi X E){A:Type}{R:St→St→Prop}(hRr:∀s,R s s)(hRt:∀{a b c:St},R a b→R b c→R a c)(hRk:∀{st s:St},R st s→∀(i:Nat) (c:CV),LR c=true→st.fr i=.c c→s.fr i=.c c)
  {draw:Bool} (hG:draw=false→∀{st s:St},As (CJ X.Θ) st s→R st s) {msk:List Nat} {D:Option (List Nat)} (hDn:D=none∨∀f,X.TE f=none) (hD:∀(op:SOp) (ob:Nat→Ob) id,(hid op msk).contains id=false→A0 (D.map (hid op)) ob id=ob id):∀{h:HT} {ls:List RL} {Γ Γn:TC} {q:HS Γ→(HS Γn→Option A)→Option A} {ρ:HS Γ} {st:St} {K:HS Γn→Option A} {r:A},
  Co A X draw msk h ls Γ Γn=some q→Rep Γ ρ st→q ρ K=some r→CB R E D ls (fun st'=>∃ρ',Rep Γn ρ' st'∧K ρ'=some r) st:=by
 intro h
 induction h with
 |nil=>
  intro ls Γ Γn q ρ st K r h hr hk;simp only[Co]at h;split at h<;>(try cases h;done);rename_i p hp;split at h<;>(try cases h;done);rename_i f hf;cases h;have:=Jd hT hF hRr hDn hD hp hr hk;refine Np (fun s ⟨ρ',h1,h2⟩=>⟨_,CX hf h1,h2⟩) this
 |n k ih=>
  intro ls Γ Γn q ρ st K r h hr hk
  match ls,h with
  | .l l::ls,h=>
   simp only[Co]at h;split at h<;>(try cases h;done);rename_i o ho;split at h<;>(try cases h;done);rename_i p hp;cases h;have hk':o.d.app ρ (fun b=>p (o.up ρ b) K)=some r:=hk;obtain⟨b,h1,h2⟩:=Dyn.app_some hk';obtain⟨st1,h3,h4⟩:=JR hT hF hr hDn (hD l.op st.ob) ho h1;exact⟨st,hRr st,st1,h3,ih hp h4 h2⟩
  | .sk (some d)::ls,h=>
   simp only[Co]at h;split at h<;>(try cases h;done);rename_i p hp;cases h;exact⟨st,hRr st,ih hp (Rep.set hr (d:=d) (k:=.undef) (x:=()) (sv:=AK) trivial) hk⟩
  | .sk none::ls,h=>
   simp only[Co]at h;exact⟨st,hRr st,ih h hr hk⟩
  | [],h=>simp only[Co]at h;cases h
 |g g k ih=>
  intro ls Γ Γn q ρ st K r h hr hk;simp only[Co]at h;split at h<;>(try cases h;done);rename_i hdr;split at h<;>(try cases h;done);rename_i p hp;split at h<;>(try cases h;done);rename_i p' hp';cases h;obtain⟨st',h1,h2⟩:=Jt hp hr;exact Wl (R:=R) hRt (hG rfl h1) (ih hp' h2 hk)
 |sp g t f iht ihf=>
  intro ls Γ Γn q ρ st K r h hr hk;simp only[Co]at h;split at h<;>(try cases h;done);rename_i hno;split at h<;>(try cases h;done);rename_i e dt df he ht hf;cases h;obtain⟨c,e1,e2⟩:=hr.s g _ he;unfold Can at e2;cases e2;replace hk:(if e ρ=true then dt ρ K else df ρ K)=some r:=hk;by_cases hb:e ρ=true
  ·rw[if_pos hb]at hk;replace e1:st.fr g=.c (.bool true):=hb▸e1;exact Iz hRk hno e1 (fun _ hh=>by cases hh) (iht ht hr hk)
  ·rw[if_neg hb]at hk;have hb':e ρ=false:=by simpa using hb
   replace e1:st.fr g=.c (.bool false):=hb'▸e1;exact Iz hRk hno e1 (fun _ hh=>by cases hh) (ihf hf hr hk)
theorem T1(hT:TOk X E)(hF:Bi X E){A:Type}{draw:Bool}{D:List Nat}{ls:List SL}{h:HT}{Γ Γn:TC}{q:HS Γ→(HS Γn→Option A)→Option A}{ρ:HS Γ}{st:St}{K:HS Γn→Option A}{r:A}{Q:Ex→St→Prop}(hd:GF A X draw D ls h Γ Γn=some q)(hr:Rep Γ ρ st)(hk:q ρ K=some r)
  (hQ:∀st' ρ',Rep Γn ρ' st'→K ρ'=some r→Q .normal st'):Ci (CJ X.Θ) E (.reg draw D ls) Q st:=by
 have fin:∀{st:St},(∃st',BG E (some D) ls st=some st'∧∃ρ',Rep Γn ρ' st'∧K ρ'=some r)→∃st',BG E (some D) ls st=some st'∧Q .normal st':=fun⟨st',h1,ρ',h2,h3⟩=>⟨st',h1,hQ st' ρ' h2 h3⟩
 cases draw with
 |true=>
  have key:∀{msk:List Nat} {Γ:TC} {ρ:HS Γ} {st:St} {q:HS Γ→(HS Γn→Option A)→Option A},msk=D→Co A X.noE true msk h (ls.map .l) Γ Γn=some q→Rep Γ ρ st→q ρ K=some r→∃st',BG E (some D) ls st=some st'∧Q .normal st':=by
   intro msk Γ ρ st q hm hq hr hk;subst hm;refine fin (Rm (Pc hT.noE (Bi.noE X E) (R:=Eq) (fun _=>rfl) (fun a b=>a.trans b) (fun e=>by subst e;exact fun _ _ _ h=>h) (draw:=true) (fun hh=>by cases hh) (D:=some msk) (.inr fun _=>rfl) (fun op ob id hh=> ?_) hq hr hk));simp only[Option.map_some,A0,hh,Ag,if_false]
  cases D with
  |nil=>
   simp only[GF,cond_true]at hd;obtain⟨st',h1,h2⟩:=key rfl hd hr hk;exact⟨st,As.refl st,st',by simpa[BY]using h1,h2⟩
  |cons d ds=>
   simp only[GF,cond_true,if_true]at hd;split at hd<;>(try cases hd;done);rename_i p hp;cases hd;obtain⟨st',h1,h2⟩:=key rfl hp (hr.kill (d::ds)) hk;exact⟨st,As.refl st,st',by simpa[BY]using h1,h2⟩
 |false=>
  have key:∀{Γ:TC} {ρ:HS Γ} {st:St} {q:HS Γ→(HS Γn→Option A)→Option A},Co A X false [] h (ls.map .l) Γ Γn=some q→Rep Γ ρ st→q ρ K=some r→Ek (CJ X.Θ) E ls (Q .normal) st:=by
   intro Γ ρ st q hq hr hk;have:=Pc hT hF (R:=As (CJ X.Θ)) As.refl (fun a b=>a.trans b) (fun e=>e.2) (draw:=false) (fun _ _ _ h=>h) (D:=none) (.inl rfl) (fun op ob id _=>rfl) hq hr hk;exact Nq (fun s ⟨ρ',h1,h2⟩=>hQ s ρ' h1 h2) (Rn this)
  cases D with
  |nil=>
   simp only[GF,cond_false]at hd;exact⟨st,As.refl st,key hd hr hk⟩
  |cons d ds=>
   simp only[GF,cond_false,Ag,if_false]at hd;split at hd<;>(try cases hd;done);rename_i p hp;cases hd;exact⟨st,As.refl st,key hp (hr.kill (d::ds)) hk⟩
theorem MA{st:St}{k:Nat}{b:Ob}(hk:k<tbase):merge {low st with ob:=upd (low st).ob k b} st={st with ob:=upd st.ob k b}∧low {st with ob:=upd st.ob k b}={low st with ob:=upd (low st).ob k b}:=by
 constructor
 ·simp only[merge,low,St.mk.injEq,true_and];funext i;simp only[BL,BC];by_cases h1:i=k
  ·subst h1;rw[if_pos rfl,if_neg (by omega),if_pos rfl]
  ·rw[if_neg h1,if_neg h1];split<;>rfl
 ·simp only[low,St.mk.injEq,true_and];funext i;simp only[BL,BC];by_cases h1:i=k
  ·subst h1;rw[if_pos rfl,if_pos rfl,if_neg (by omega)]
  ·rw[if_neg h1,if_neg h1]
theorem Qw(st:St):merge (low st) st=st:=by
 obtain⟨fr,ob⟩:=st;simp only[merge,low,St.mk.injEq,true_and];funext i;simp only[BC];split<;>rfl
theorem Qp{st:St}{id:Nat}{o:Ob}(h:(low st).ob id=o)(hn:o≠ .none):id<tbase∧st.ob id=o:=by
 have h':(if tbase≤id then Ob.none else st.ob id)=o:=h;by_cases hi:tbase≤id
 ·rw[if_pos hi]at h';exact absurd h'.symm hn
 ·rw[if_neg hi]at h';exact⟨by omega,h'⟩
theorem WC{d:Option Nat}{ρ:SO→SV}{st t:St}{n:Nat}{x y:SO}(h:A5 d ρ (low st) (.store n x y)=some t):A5 d ρ st (.store n x y)=some (merge t st)∧low (merge t st)=t:=by
 simp only[A5]at h⊢
 have hdr:deref st.ob (ρ x)=deref (low st).ob (ρ x)∨deref (low st).ob (ρ x)=.undef:=by
  generalize ρ x=q;cases q<;>try exact .inl rfl
  rename_i c;cases c<;>try exact .inl rfl
  rename_i N;simp only[deref];by_cases hN:tbase≤N
  ·right;rw[if_pos hN];have:(low st).ob N=.none:=by show(if tbase≤N then Ob.none else st.ob N)=_;rw[if_pos hN]
   rw[this]
  ·left;rw[if_neg hN,if_neg hN]
 rcases hdr with hdr|hdr
 ·rw[hdr];generalize deref (low st).ob (ρ x)=q at h⊢;cases q<;>(try cases h;done)
  ·rename_i cv;cases cv<;>(try cases h;done);rename_i cs
   cases cs with
   |nil=>cases h
   |cons c0 cs=>
    cases cs with
    |cons _ _=>cases c0<;>cases h
    |nil=>
     cases c0<;>(try cases h;done);cases hv:ρ y<;>simp only[hv]at h⊢ <;>(try cases h;done);rename_i c2;cases c2<;>(try cases h;done);simp only[Ad,Ac]at h⊢;obtain⟨hc,rfl⟩:=h;exact⟨⟨hc,(Qw st).symm⟩,by rw[Qw]⟩
  ·rename_i id o;simp only at h⊢;cases hob:(low st).ob id<;>rw[hob]at h<;>(try cases h;done);rename_i cs bt;obtain⟨hi,hob'⟩:=Qp hob (by simp);rw[hob'];simp only at h⊢;split at h
   ·split at h<;>(try cases h;done);rename_i hc;cases h;obtain⟨k1,k2⟩:=MA (st:=st) (b:=.box (Ff cs o (List.map SV.c ‹_›)) bt) hi;rw[k1];exact⟨by rw[if_pos hc],k2⟩
   ·split at h<;>(try cases h;done);rename_i hc;cases h;obtain⟨k1,k2⟩:=MA (st:=st) (b:=.box (cs.set o (ρ y)) bt) hi;rw[k1];exact⟨by rw[if_pos hc],k2⟩
  ·rename_i id i size o;simp only at h⊢;split at h<;>(try cases h;done);rename_i e sz es v hob hv;obtain⟨hi,hob'⟩:=Qp hob (by simp);rw[hob',hv];simp only;split at h<;>(try cases h;done);rename_i hc;rw[if_pos hc];obtain⟨el,h1,h2⟩:=Ab.1 h;rw[h1,Option.bind_some];split at h2<;>(try cases h2;done);rename_i hc2;cases h2;obtain⟨k1,k2⟩:=MA (st:=st) (b:=.arr e sz (es.set i (Fa el o n v))) hi;rw[k1,if_pos hc2];exact⟨rfl,k2⟩
 ·rw[hdr]at h;cases h
theorem VQ{E:Env}{D:List Nat}{l:SL}{st t:St}(hl:Mu l=true)(h:Bj E.pois (A0 (some (hid l.op D)) (BC st.ob)) l (low st)=some t):Cy E D l st=some (merge t st)∧low (merge t st)=t:=by
 simp only[Mu,Af,Aj,Bool.not_eq_true']at hl
 have hd:∀j,l.dst=some j→j<tbase:=fun j hj=>by
  have:=hl.2;rw[hj]at this;exact Nat.lt_of_succ_le (Ah this)
 unfold Cy;rw[LN]at h⊢;have hgd:gd l (low st).fr=gd l st.fr:=rfl;rw[hgd]at h
 cases hg:gd l st.fr with
 |none=>rw[hg]at h;cases h
 |some b=>
  rw[hg]at h
  cases b with
  |false=>
   simp only[Option.bind_some,Ag,if_false,Ac]at h⊢;have h':put (low st) l.dst (AK,none)=some t:=by rw[←h];rfl
   obtain⟨k1,k2⟩:=Nd hd h';exact⟨Option.some.inj k1,k2⟩
  |true=>
   simp only[Option.bind_some,if_true]at h⊢
   cases hh:l.op.hard with
   |true=>
    have hst:l.op.stores=true:=by
     rcases hl.1 with h1|h1
     ·rw[hh]at h1;cases h1
     ·exact h1
    cases hop:l.op<;>rw[hop]at hst<;>(try cases hst;done);rw[hop]at h;exact WC (d:=l.dst) h
   |false=>
    have hnone:efL E l st.fr=none:=by
     cases hef:efL E l st.fr with
     |none=>rfl
     |some q=>
      exfalso;unfold efL at hef;split at hef<;>(try cases hef;done)
      ·rename_i f args ho;split at hef<;>(try cases hef;done);rename_i e he;have he':E.pois.ef f=some ⟨e.T,fun _ _=>none⟩:=by show(E.ef f).map _=_;rw[he];rfl
       rw[ho]at h;simp only[Ay,SOp.cls,he',CI]at h
       cases hal:Ao (fun x=>closed (so E.pois.G (low st).fr x)) args with
       |none=>rw[hal]at h;cases h
       |some v=>rw[hal]at h;cases h
      ·rename_i f args ho;split at hef<;>(try cases hef;done);rename_i g caps hfv;split at hef<;>(try cases hef;done);rename_i e he;have he':E.pois.ef g=some ⟨e.T,fun _ _=>none⟩:=by show(E.ef g).map _=_;rw[he];rfl
       have hfv':so E.pois.G (low st).fr f=.c (.fn g caps):=hfv;rw[ho]at h;simp only[Ay,SOp.cls,hfv',he',CI]at h
       cases hal:Ao (fun x=>closed (so E.pois.G (low st).fr x)) args with
       |none=>rw[hal]at h;cases h
       |some v=>rw[hal]at h;cases h
    have hnone':efL E.pois l (low st).fr=none:=by
     unfold efL at hnone⊢;cases ho:l.op<;>rw[ho]at hnone<;>try rfl
     ·rename_i f args;simp only at hnone⊢;split at hnone<;>(try cases hnone;done);rename_i he;have he':E.pois.ef f=none:=by show(E.ef f).map _=_;rw[he];rfl
      rw[he']
     ·rename_i f args;simp only at hnone⊢
      show(match so E.G st.fr f with
       | .c (.fn f caps)=>match E.pois.ef f with
        |some e=>some (e,args,caps)
        |none=>none
       |_=>none)=none
      split
      ·rename_i g caps hfv;rw[hfv]at hnone;simp only at hnone;split at hnone<;>(try cases hnone;done);rename_i he;have he':E.pois.ef g=none:=by show(E.ef g).map _=_;rw[he];rfl
       rw[he']
      ·rfl
    rw[ML hnone',Hw hh,Ab]at h;obtain⟨p,h1,h2⟩:=h;obtain⟨k1,k2⟩:=Nd hd h2;refine⟨?_,k2⟩;rw[ML hnone,Hw hh,Ab];exact⟨p,h1,k1⟩
theorem FC{f:Key×EK→Bool}:∀{Γ:TC} {seen:List Key},(Dd f Γ seen).all f=true
 | [],_=>rfl
 |e::Γ,seen=>by
  unfold Dd
  cases seen.contains e.1 with
  |true=>exact FC
  |false=>
   simp only
   cases hf:f e with
   |true=>simp only[List.all_cons,hf,Bool.true_and];exact FC
   |false=>exact FC
theorem Ig{N:Nat}(h:Ce (.o N)=true):N<tbase:=by
 simp only[Ce,Bool.not_eq_true']at h;exact Nat.lt_of_not_le fun hh=>by rw[Nat.ble_eq_true_of_le hh]at h;cases h
theorem Vj{N j:Nat}(h:Ce (.c N j)=true):N<tbase:=Ig h
theorem LZ{N:Nat}(h:Ce (.o N)=false):tbase≤N:=by
 simp only[Ce,Bool.not_eq_false']at h;exact Ah h
section
variable {Γ:TC} {ρ:HS Γ} {st:St}
theorem Rep.low(h:Rep Γ ρ st)(hk:(Γ.all fun e=>Ce e.1)=true):Rep Γ ρ (WB.low st):=by
 refine⟨h.s,fun id q hq=> ?_⟩;have hid:=Ig (B8 (pr:=fun e=>Ce e.1) hk (AQ hq));have e:(WB.low st).ob id=st.ob id:=by show(if tbase≤id then Ob.none else st.ob id)=_;rw[if_neg (by omega)]
 rw[e];exact h.o id q hq
theorem RS.clean{k:EK}{x:DK k}{sv:SV}(h:RS k x sv)(hn:∀id,k.refs=some id→id<tbase):RS k x (C5 sv):=by
 have key:∀(id:Nat) (s:SV),s.ref=some id→id<tbase→C5 s=s:=fun id s hs hid=>by
  unfold C5;rw[hs];simp only;rw[if_neg (by omega)]
 have keyc:∀s:SV,s.ref=none→C5 s=s:=fun s hs=>by unfold C5;rw[hs]
 induction k
 case v t=>obtain⟨c,rfl,hc⟩:=h;exact⟨c,rfl,hc⟩
 case opt k ih=>
  unfold RS at h⊢
  cases x with
  |none=>simp only at h;subst h;rfl
  |some y=>exact ih h hn
 case rp ex r=>obtain⟨cs,rest,rfl,hc⟩:=h;exact⟨cs,rest,rfl,hc⟩
 case undef=>trivial
 case ptr id o=>unfold RS at h;subst h;exact key id _ rfl (hn id rfl)
 case eptr id s o=>unfold RS at h;subst h;exact key id _ rfl (hn id rfl)
 case aptr id n o=>obtain⟨h,hi⟩:=h;subst h;exact⟨key id _ rfl (hn id rfl),hi⟩
 case own id=>unfold RS at h;subst h;exact key id _ rfl (hn id rfl)
 case mp id=>unfold RS at h;subst h;exact key id _ rfl (hn id rfl)
 case iter id=>unfold RS at h;subst h;exact key id _ rfl (hn id rfl)
 case ent id k v=>
  obtain⟨ck,cv,rfl,h1,h2⟩:=h;exact⟨ck,cv,key id _ rfl (hn id rfl),h1,h2⟩
 case stamp id k=>
  obtain⟨ck,rfl,h1⟩:=h;exact⟨ck,key id _ rfl (hn id rfl),h1⟩
 all_goals exact h
theorem JC{p:Key}{k:EK}(h:EU (p,k)=true):Ce p=true∧∀id,k.refs=some id→id<tbase:=by
 simp only[EU,Af]at h;refine⟨h.1,fun id hid=> ?_⟩;have h2:=h.2;rw[hid]at h2;exact Ig h2
theorem Rep.lowC(h:Rep Γ ρ st)(hk:Γ.all EU=true):Rep Γ ρ (WB.low (CH st)):=by
 refine⟨fun i q hq=>RS.clean (h.s i q hq) (JC (B8 hk (AQ hq))).2,fun id q hq=> ?_⟩;have hid:=Ig (JC (B8 hk (AQ hq))).1
 have e:(WB.low (CH st)).ob id=Fo (st.ob id):=by
  show(if tbase≤id then Ob.none else(if tbase≤id then st.ob id else Fo (st.ob id)))=_;rw[if_neg (by omega),if_neg (by omega)]
 rw[e];have hob:=h.o id q hq;obtain⟨k,f'⟩:=q;simp only at hob⊢;cases k<;>try exact hob
 ·obtain⟨cs,h7,h8,h9⟩:=hob;rw[h7];refine⟨cs.map C5,rfl,by simp[h8],fun j q' hj hq'=> ?_⟩;obtain⟨sv,g4,g5⟩:=h9 j _ hj hq';exact⟨C5 sv,by simp[g4],RS.clean g5 (JC (B8 hk (AQ hq'))).2⟩
 all_goals first
  |(obtain⟨es,h7,h8⟩:=hob;rw[h7];exact⟨es,rfl,h8⟩)
  |(obtain⟨z,ks,vs,h7,h8⟩:=hob;rw[h7];exact⟨z,ks,vs,rfl,h8⟩)
  |(unfold RO at hob;rw[hob];rfl)
theorem Rep.highC(h:Rep Γ ρ st)(hk:Γ.all DA=true){st':St}(hob:∀i,tbase≤i→st'.ob i=st.ob i):Rep Γ ρ st':=by
 refine⟨fun i q hq=> ?_,fun id q hq=> ?_⟩
 ·have:=B8 hk (AQ hq);cases this
 ·have hid:Ce (.o id)=false:=by simpa[DA]using B8 hk (AQ hq)
  rw[hob id (LZ hid)];exact h.o id q hq
theorem Rep.comb{Θ:TC}{θ:HS Θ}(hΘ:Rep Θ θ st)(h:Rep Γ ρ (WB.low st))(hk:(Γ.all fun e=>Ce e.1)=true)(hk':Θ.all DA=true):Rep (Θ++Γ) (BM Θ θ ρ) st:=by
 refine⟨fun i q hq=> ?_,fun id q hq=> ?_⟩
 ·rcases C7 hq with⟨_,f,hf,e⟩|⟨_,f,hf,e⟩
  ·have:=B8 hk' (AQ hf);cases this
  ·rw[e];exact h.s i _ hf
 ·rcases C7 hq with⟨h1,f,hf,e⟩|⟨h1,f,hf,e⟩
  ·rw[e];have hid:Ce (.o id)=false:=by simpa[DA]using B8 hk' (AQ hf)
   have r:=hΘ.o id _ hf;obtain⟨k,f'⟩:=q;cases k<;>try exact r
   obtain⟨cs,e1,hl,hc⟩:=r;refine⟨cs,e1,hl,fun j q' hj hq'=> ?_⟩;rcases C7 hq' with⟨_,f2,hf2,e2⟩|⟨_,f2,hf2,e2⟩
   ·rw[e2];exact hc j _ hj hf2
   ·have:Ce (.c id j)=true:=B8 (pr:=fun e=>Ce e.1) hk (AQ hf2);have:=Vj this;have:=LZ hid;omega
  ·rw[e];have hid:=Ig (B8 (pr:=fun e=>Ce e.1) hk (AQ hf));have e0:(WB.low st).ob id=st.ob id:=by show(if tbase≤id then Ob.none else st.ob id)=_;rw[if_neg (by omega)]
   have r:=h.o id _ hf;rw[e0]at r;obtain⟨k,f'⟩:=q;cases k<;>try exact r
   obtain⟨cs,e1,hl,hc⟩:=r;refine⟨cs,e1,hl,fun j q' hj hq'=> ?_⟩;rcases C7 hq' with⟨_,f2,hf2,e2⟩|⟨_,f2,hf2,e2⟩
   ·have hc':Ce (.c id j)=false:=by simpa[DA]using B8 hk' (AQ hf2)
    have:=LZ (N:=id) hc';omega
   ·rw[e2];exact hc j _ hj hf2
end
theorem TH{X:TP}{E:Env}(hT:TOk X E)(hF:Bi X E){Γ Θ:TC}{ρ:HS Γ}{θ:HS Θ}{st:St}(hr:Rep Γ ρ (low st))(hΘ:Rep Θ θ st)(hh:Θ.all DA=true)(rd:Nat→Ob){l:SL}{o:OpD (Θ++Γ)}(h:efT X Γ Θ l=some o){b:o.B}(hb:o.d.val (BM Θ θ ρ)=some b):
  ∃st',Bj E rd l st=some st'∧Rep o.Γ' (o.up (BM Θ θ ρ) b) st':=by
 unfold efT at h;split at h<;>(try cases h;done);split at h<;>(try cases h;done);rename_i hk;exact QG hT hF (Rep.comb hΘ hr hk hh) rd h hb
theorem L4{X:TP}{E:Env}(hT:TOk X E)(hF:Bi X E){A:Type}{D:List Nat}:∀{ls:List SL} {Γ Θ:TC} {q:Oa A Γ Θ} {ρ:HS Γ} {θ:HS Θ} {st:St} {K:HS q.Γ'→HS q.Θ'→Option A} {r:A},
  GE A X D ls Γ Θ=some q→Rep Γ ρ (low st)→Rep Θ θ st→Θ.all DA=true→q.run ρ θ K=some r→∃st',Fx E.named D ls st=some st'∧∃ρ' θ',Rep q.Γ' ρ' (low st')∧Rep q.Θ' θ' st'∧q.Θ'.all DA=true∧K ρ' θ'=some r
 | [],Γ,Θ,q,ρ,θ,st,K,r,h,hr,hΘ,hh,hk=>by
  simp only[GE,Ac]at h;subst h;exact⟨st,rfl,ρ,θ,hr,hΘ,hh,hk⟩
 |l::ls,Γ,Θ,q,ρ,θ,st,K,r,h,hr,hΘ,hh,hk=>by
  simp only[GE]at h;split at h
  ·rename_i o ho;split at h<;>(try cases h;done);rename_i g f hg hf;split at h<;>(try cases h;done);rename_i p hp;cases h;have hk':o.d.app (BM Θ θ ρ) (fun b=>p.run (g (o.up (BM Θ θ ρ) b)) (f (o.up (BM Θ θ ρ) b)) K)=some r:=hk;obtain⟨b,h1,h2⟩:=Dyn.app_some hk';obtain⟨st1,h3,h4⟩:=TH hT.named hF.named hr hΘ hh (A0 (some (hid l.op D)) (BC st.ob)) ho h1
   have hlow:((Dd EU o.Γ' []).all fun e=>Ce e.1)=true:=by
    have:=FC (f:=EU) (Γ:=o.Γ') (seen:= []);rw[List.all_eq_true]at this⊢;intro e he;exact(JC (p:=e.1) (k:=e.2) (this e he)).1
   obtain⟨st2,h5,h6⟩:=L4 hT hF hp (Rep.low (CX hg h4) hlow) (CX hf h4) FC h2;exact⟨st2,by simp only[Fx,Cy,h3,Option.bind_some];exact h5,h6⟩
  ·split at h<;>(try cases h;done);rename_i hl;split at h<;>(try cases h;done);rename_i o ho;split at h<;>(try cases h;done);rename_i p hp;cases h;have hk':o.d.app ρ (fun b=>p.run (o.up ρ b) θ K)=some r:=hk;obtain⟨b,h1,h2⟩:=Dyn.app_some hk'
   obtain⟨t,h3,h4⟩:=QH hT.named.pois hr (rd:=A0 (some (hid l.op D)) (BC st.ob)) (fun id hid'=>by
    show(if(hid l.op D).contains id then Ob.none else BC st.ob id)=_
    rw[hid'];rfl) ho h1
   obtain⟨k1,k2⟩:=VQ hl h3;have hΘ':Rep Θ θ (merge t st):=hΘ.highC hh fun i hi=>by show(if tbase≤i then st.ob i else t.ob i)=_;rw[if_pos hi]
   rw[←k2]at h4;obtain⟨st2,h5,h6⟩:=L4 hT hF hp h4 hΘ' hh h2;exact⟨st2,by simp only[Fx,k1,Option.bind_some];exact h5,h6⟩
theorem T0{X:TP}{E:Env}(hT:TOk X E)(hF:Bi X E){A:Type}{D:List Nat}{ls:List SL}{Γ:TC}{q:LsD A Γ}{ρ:HS Γ}{st:St}{K:HS q.Γ'→Option A}{r:A}(h:L5 A X D ls Γ=some q)(hr:Rep Γ ρ st)(hk:q.run ρ K=some r):
  ∃st',HN E D ls st=some st'∧∃ρ',Rep q.Γ' ρ' st'∧K ρ'=some r:=by
 unfold L5 at h;split at h<;>(try cases h;done);rename_i g f hg hf;split at h<;>(try cases h;done);rename_i p hp;split at h<;>(try cases h;done);rename_i hall;cases h;have hr0:=hr.kill D;have h1:Rep _ (g (Bb D ρ)) (low (CH (WB.kill D st))):=Rep.lowC (CX hg hr0) FC;have h2:Rep _ (f (Bb D ρ)) (CH (WB.kill D st)):=Rep.highC (CX hf hr0) FC fun i hi=>by show(if tbase≤i then _ else _)=_;rw[if_pos hi]
 obtain⟨st',h3,ρ',θ',h4,h5,h6,h7⟩:=L4 hT hF hp h1 h2 FC hk;exact⟨st',h3,_,Rep.comb h5 h4 hall h6,h7⟩
theorem QZ{le:Df}{E:Env}{D:List Nat}{ls:List SL}{Q:Ex→St→Prop}{st st':St}(h:BY E true D ls st=some st'∨HN E D ls st=some st')(hq:Q .normal st'):Ci le E (.regE D ls) Q st:=⟨st,As.refl st,st',h,hq⟩
theorem Pe{X:TP}{E:Env}(hT:TOk X E)(hF:Bi X E){A:Type}{e:Bool}{D:List Nat}{ls:List SL}{Γ:TC}{q:LsD A Γ}{ρ:HS Γ}{st:St}{K:HS q.Γ'→Option A}{r:A}(h:LB A X e D ls Γ=some q)(hr:Rep Γ ρ st)(hk:q.run ρ K=some r):
  ∃st',(BY E true D ls st=some st'∨HN E D ls st=some st')∧∃ρ',Rep q.Γ' ρ' st'∧K ρ'=some r:=by
 cases e with
 |true=>
  obtain⟨st',h1,h2⟩:=T0 hT hF h hr hk;exact⟨st',.inr h1,h2⟩
 |false=>
  obtain⟨st',h1,h2⟩:=LA hT hF h hr hk;exact⟨st',.inl h1,h2⟩
theorem T2(hT:TOk X E)(hF:Bi X E){A:Type}{Q:Ex→St→Prop}:∀{c:AC} {Γ:TC} {q:LsD A Γ} {ρ:HS Γ} {st:St} {K:HS q.Γ'→Option A} {r:A},Fu A X c Γ=some q→Rep Γ ρ st→q.run ρ K=some r→
  (∀st' ρ',Rep q.Γ' ρ' st'→K ρ'=some r→Q .normal st')→Ci (CJ X.Θ) E (Ba c) Q st:=by
 intro c
 induction c generalizing Q with
 |skip=>
  intro Γ q ρ st K r h hr hk hQ;simp only[Fu,Ac]at h;subst h;exact⟨st,As.refl st,hQ _ _ hr hk⟩
 |reg draw D ls=>
  intro Γ q ρ st K r h hr hk hQ;obtain⟨st',h1,ρ',h2,h3⟩:=LA hT hF (K:=K) h hr hk;exact QY h1 (hQ _ _ h2 h3)
 |rg D gs=>
  intro Γ q ρ st K r h hr hk hQ;exact Pd hT hF (K:=K) h hr hk hQ
 |regE e D ls=>
  intro Γ q ρ st K r h hr hk hQ;obtain⟨st',h1,ρ',h2,h3⟩:=Pe hT hF (K:=K) h hr hk;exact QZ h1 (hQ _ _ h2 h3)
 |sq a b iha ihb=>
  intro Γ q ρ st K r h hr hk hQ;simp only[Fu]at h;split at h<;>(try cases h;done);rename_i p hp;split at h<;>(try cases h;done);rename_i p' hp';cases h;exact⟨st,As.refl st,iha hp hr hk fun st' ρ' h1 h2=>ihb hp' h1 h2 hQ⟩
 |gh g c ih=>
  intro Γ q ρ st K r h hr hk hQ;simp only[Fu]at h;split at h<;>(try cases h;done);rename_i p hp;split at h<;>(try cases h;done);rename_i p' hp';cases h;obtain⟨st',h1,h2⟩:=Jt hp hr;exact Ra h1 (ih hp' h2 hk hQ)
 |_=>intro Γ q ρ st K r h;cases h
theorem Nk{Γ:TC}{ρ:HS Γ}{st:St}(hr:Rep Γ ρ st){x:AB}{q:Σ t:Ty,Dyn (HS Γ) (D t)}{y:D q.1}(h:Hs X Γ x=some q)(hy:q.2.val ρ=some y):∃c,Ee st x=some c∧Can q.1 y [c]:=by
 cases x with
 |tmp t=>
  simp only[Hs]at h;split at h<;>(try cases h;done);rename_i p hp;cases h;obtain⟨c,h1,h2,_⟩:=Km (msk:= []) (rd:=st.ob) (G:=X.G) (fl:=p.1) (q:=p.2) hp hr (fun _ _=>rfl) hy;exact⟨c,h1,h2⟩
 |cell a sz=>
  simp only[Hs]at h;split at h<;>(try cases h;done);rename_i k hk;split at h<;>(try cases h;done)
  ·rename_i t d hd;cases h;obtain⟨sv,h1,c,h2,h3⟩:=J9 (msk:= []) (rd:=st.ob) (sv:=deref st.ob (so X.G st.fr (.t a))) hr (fun _ _=>rfl) hd hy (fun x hx=>HE hr (fun _ _=>rfl) (fun x hx=>AA hk hr hx) hx (J8 hd));subst h2;refine⟨c, ?_,h3⟩;have h1':AL st.ob sz (deref st.ob (st.fr a))=some (.c c):=h1;simp[Ee,h1',BO]
  ·rename_i id f hd;split at h<;>(try cases h;done);rename_i e size t xs ho;cases h;cases hy;obtain⟨sv,h1,h2⟩:=J9 (msk:= []) (rd:=st.ob) (sv:=deref st.ob (so X.G st.fr (.t a))) (y:=f ρ) hr (fun _ _=>rfl) hd rfl (fun x hx=>HE hr (fun _ _=>rfl) (fun x hx=>AA hk hr hx) hx (J8 hd));have h2':sv=.osl id:=h2;subst h2';obtain⟨es,h3,h4⟩:=hr.o id _ ho;refine⟨.sl none es, ?_,by unfold Can;exact⟨_,_,rfl,h4⟩⟩;have h1':AL st.ob sz (deref st.ob (st.fr a))=some (.osl id):=h1;simp[Ee,h1',BO,h3]
theorem Nj{Γ:TC}{ρ:HS Γ}{st:St}(hr:Rep Γ ρ st):∀{xs:List AB} {q:Σ t:Ty,Dyn (HS Γ) (D t)} {y:D q.1},Hr X Γ xs=some q→q.2.val ρ=some y→∃l,Ao (Ee st) xs=some l∧Can q.1 y l
 | [],q,y,h,hy=>by
  simp only[Hr,Ac]at h;subst h;exact⟨[],rfl,by unfold Can;rfl⟩
 | [x],q,y,h,hy=>by
  simp only[Hr]at h;split at h<;>(try cases h;done);rename_i p hp;cases h;obtain⟨c,h1,h2⟩:=Nk hr hp hy;exact⟨[c],by simp[Ao,h1],by unfold Can;exact⟨c,rfl,h2⟩⟩
 |x::z::xs,q,y,h,hy=>by
  simp only[Hr]at h;split at h<;>(try cases h;done);rename_i p p' hp hp';cases h;obtain⟨g1,g2⟩:=Dyn.both_val hy;obtain⟨c,h1,h2⟩:=Nk hr hp g1;obtain⟨l,h3,h4⟩:=Nj hr hp' g2;refine⟨c::l, ?_,by unfold Can;exact⟨c,l,rfl,h2,h4⟩⟩;have e:Ao (Ee st) (x::z::xs)=(Ee st x).bind fun b=>(Ao (Ee st) (z::xs)).map fun bs=>b::bs:=rfl;rw[e,h1,h3];rfl
theorem Wd{Γ:TC}{ρ:HS Γ}{st:St}(hr:Rep Γ ρ st){xs:List AB}{q:Σ t:Ty,Dyn (HS Γ) (D t)}{y:D q.1}(h:Kq X Γ xs=some q)(hy:q.2.val ρ=some y):∃c,Dt st xs=some c∧Can q.1 y [c]:=by
 match xs,h with
 | [x],h=>
  obtain⟨c,h1,h2⟩:=Nk hr h hy;exact⟨c,by simp[Dt,Ao,h1,E7],h2⟩
 | [],h=>
  simp only[Kq]at h;split at h<;>(try cases h;done);rename_i p hp;cases h;obtain⟨l,h1,h2⟩:=Nj hr hp hy;simp only[Ao,Ac]at h1;subst h1;exact⟨.tup [],rfl,by unfold Can;exact⟨[],rfl,h2⟩⟩
 |x::z::xs,h=>
  simp only[Kq]at h;split at h<;>(try cases h;done);rename_i p hp;cases h;obtain⟨l,h1,h2⟩:=Nj hr hp hy;have hlen:=CT h1;refine⟨.tup l, ?_,by unfold Can;exact⟨l,rfl,h2⟩⟩;simp only[Dt,h1,Option.map_some]
  match l,hlen with
  |c::d::l,_=>rfl
theorem PV{R A B:Type}{e:Nat×TC}{ys:XC}{rt:Bool}{f:Ep R (e::ys) rt→B}{ρ:HS e.2}{b:B}{ke:KE A (e::ys)}{kr:R→Option A}{r:A}(h:(keX (e::ys) rt f).1 ρ=some b)
  (hk:∀o,f o=b→elX (e::ys) rt ke kr o=some r):ke.1 ρ=some r:=by
 cases ys with
 |nil=>
  cases rt with
  |false=>exact hk ρ (Option.some.inj h)
  |true=>exact hk (.inl ρ) (Option.some.inj h)
 |cons e' ys=>exact hk (.inl ρ) (Option.some.inj h)
theorem Mi{R A B:Type}:∀{ys:XC} {rt:Bool} {f:Ep R ys rt→B} {i:Nat} {Γi:TC} {s:KE B ys→HS Γi→Option B} {ρ:HS Γi} {b:B} {ke:KE A ys} {kr:R→Option A} {r:A},Dl B ys i=some ⟨Γi,s⟩→s (keX ys rt f) ρ=some b→
  (∀o,f o=b→elX ys rt ke kr o=some r)→∃s',Dl A ys i=some ⟨Γi,s'⟩∧s' ke ρ=some r
 | [],rt,f,i,Γi,s,ρ,b,ke,kr,r,h,_,_=>by cases h
 |e::ys,rt,f,i,Γi,s,ρ,b,ke,kr,r,h,hs,hk=>by
  simp only[Dl]at h⊢;split at h
  ·rename_i hi;cases h;rw[if_pos hi];exact⟨_,rfl,PV hs hk⟩
  ·rename_i hi;rw[if_neg hi];split at h<;>(try cases h;done);rename_i q hq;cases h
   cases ys with
   |nil=>cases hq
   |cons e' ys=>
    obtain⟨s',h1,h2⟩:=Mi (A:=A) (f:=fun o=>f (.inr o)) (ke:=ke.2) (kr:=kr) (r:=r) hq hs (fun o ho=>hk (.inr o) ho);rw[h1];exact⟨_,rfl,h2⟩
theorem UM{R A B:Type}{e:Nat×TC}{ys:XC}{rt:Bool}{f:Ep R (e::ys) rt→B}{i:Nat}{Γi:TC}{s:KE B ys→HS Γi→Option B}{ρ:HS Γi}{b:B}{ke:KE A (e::ys)}{kr:R→Option A}{r:A}(h:Dl B ys i=some ⟨Γi,s⟩)(hs:s (keX (e::ys) rt f).2 ρ=some b)
  (hk:∀o,f o=b→elX (e::ys) rt ke kr o=some r):∃s',Dl A ys i=some ⟨Γi,s'⟩∧s' ke.2 ρ=some r:=by
 cases ys with
 |nil=>cases h
 |cons e' ys=>exact Mi (A:=A) (f:=fun o=>f (.inr o)) (ke:=ke.2) (kr:=kr) (r:=r) h hs (fun o ho=>hk (.inr o) ho)
theorem Nn{R A B:Type}:∀{ys:XC} {rt:Bool} {f:Ep R ys rt→B} {v:R} {b:B} {ke:KE A ys} {kr:R→Option A} {r:A},rtX ys rt f v=some b→(∀o,f o=b→elX ys rt ke kr o=some r)→kr v=some r
 | [],true,f,v,b,ke,kr,r,h,hk=>hk v (Option.some.inj h)
 | [],false,f,v,b,ke,kr,r,h,hk=>by cases h
 | [e],false,f,v,b,ke,kr,r,h,hk=>by cases h
 | [e],true,f,v,b,ke,kr,r,h,hk=>hk (.inr v) (Option.some.inj h)
 |e::e'::ys,rt,f,v,b,ke,kr,r,h,hk=>Nn (f:=fun o=>f (.inr o)) (ke:=ke.2) h (fun o ho=>hk (.inr o) ho)
theorem Nw{A:Type}{xs:XC}:∀{ys:XC} {g:KE A xs→KE A ys} {i:Nat} {Γi:TC} {s:KE A ys→HS Γi→Option A} {ke:KE A xs} {ρ:HS Γi} {r:A},I2 A xs ys=some g→Dl A ys i=some ⟨Γi,s⟩→s (g ke) ρ=some r→∃s',Dl A xs i=some ⟨Γi,s'⟩∧s' ke ρ=some r
 | [],g,i,Γi,s,ke,ρ,r,_,h,_=>by cases h
 |e::ys,g,i,Γi,s,ke,ρ,r,hg,h,hs=>by
  simp only[I2]at hg;split at hg<;>(try cases hg;done);rename_i q g' hq hg';split at hg<;>(try cases hg;done);rename_i he;cases hg;obtain⟨Γq,f⟩:=q;simp only at he;subst he;simp only[Dl]at h;split at h
  ·rename_i hi;subst hi;cases h;exact⟨f,hq,hs⟩
  ·split at h<;>(try cases h;done);rename_i q' hq';cases h;exact Nw hg' hq' hs
def EH(st:St)(rs:List AB):(Rt:Ty)→D Rt→Prop
 | .nw e size t,ys=>∃es,Ul rs (.arr e size es) .ret st∧Ap (fun x c=>Can t x [c]) ys es
 |Rt,v=>∃c,Dt st rs=some c∧Can Rt v [c]
theorem EH.val{st:St}{rs:List AB}{Rt:Ty}{v:D Rt}{c:CV}(h:Dt st rs=some c)(hc:Can Rt v [c]):EH st rs Rt v:=by
 cases Rt<;>first|exact⟨c,h,hc⟩|(unfold Can at hc;exact hc.elim)
theorem EH.of{st:St}{rs:List AB}{Rt:Ty}{v:D Rt}(hv:Rt.val=true)(h:EH st rs Rt v):∃c,Dt st rs=some c∧Can Rt v [c]:=by
 cases Rt<;>first|exact h|cases hv
theorem Wf{Γ:TC}{rs:List AB}{Rt:Ty}{g:HS Γ→D Rt}{ρ:HS Γ}{st:St}(h:Nl Γ rs Rt=some g)(hr:Rep Γ ρ st):EH st rs Rt (g ρ):=by
 unfold Nl at h;split at h<;>(try cases h;done);rename_i i e size t;split at h<;>(try cases h;done)
 ·rename_i id f hg;split at h<;>(try cases h;done);rename_i e' size' t' xs ho;split at h<;>(try cases h;done);rename_i ht;split at h<;>(try cases h;done);rename_i he;subst ht;obtain⟨rfl,rfl⟩:=he;cases h;have h1:st.fr i=.osl id:=hr.s i _ hg;obtain⟨es,h2,h3⟩:=hr.o id _ ho;exact⟨es,⟨i,rfl,.inl ⟨id,.inl h1,h2,rfl⟩⟩,h3⟩
 ·rename_i f hg;cases h;obtain⟨c,e1,e2⟩:=hr.s i _ hg;unfold Can at e2;cases e2;exact⟨[],⟨i,rfl,.inr ⟨e1,_,_,rfl⟩⟩,rfl⟩
theorem VY{rs:List AB}{Rt:Ty}{Γ:TC}{q:RdD Γ (D Rt)}{ρ:HS Γ}{st:St}(h:rdT X rs Rt Γ=some q)(hr:Rep Γ ρ st){v:q.B}(hv:q.d.val ρ=some v):EH st rs Rt (q.up ρ v):=by
 unfold rdT at h;split at h
 ·rename_i g hg;cases h;exact Wf hg hr
 ·split at h<;>(try cases h;done);rename_i q' hq;split at h<;>(try cases h;done);rename_i g hg;cases h;obtain⟨c,h3,h4⟩:=Wd hr hq hv;exact EH.val h3 (BE _ _ hg h4)
def S5{A:Type}{xs:XC}{Γn:TC}{R:Type}(RP:St→R→Prop)(k:DKn A xs Γn R)(r:A):Ex→St→Prop
 | .normal,st=>∃ρ,Rep Γn ρ st∧k.n ρ=some r
 | .exit i,st=>∃Γi s ρ,Dl A xs i=some ⟨Γi,s⟩∧Rep Γi ρ st∧s k.e ρ=some r
 | .ret,st=>∃v,RP st v∧k.r v=some r
theorem Pf(hT:TOk X E)(hF:Bi X E){R:Type}{rd:(Γ:TC)→Option (RdD Γ R)}{RP:St→R→Prop}(hrd:∀{Γ:TC} {q:RdD Γ R} {ρ:HS Γ} {st:St},rd Γ=some q→Rep Γ ρ st→∀{v:q.B},q.d.val ρ=some v→RP st (q.up ρ v)):∀(c:AC) {A:Type} {xs:XC} {Γn Γ:TC} {d:HS Γ→DKn A xs Γn R→Option A} {ρ:HS Γ} {k:DKn A xs Γn R} {st:St} {r:A},
  den X R rd c A xs Γn Γ=some d→Rep Γ ρ st→d ρ k=some r→Ci (CJ X.Θ) E (Ba c) (S5 RP k r) st:=by
 intro c
 induction c with
 |skip=>
  intro A xs Γn Γ d ρ k st r h hr hd;simp only[den]at h;split at h<;>(try cases h;done);rename_i f hf;cases h;exact⟨st,As.refl st,_,CX hf hr,hd⟩
 |reg draw D ls=>
  intro A xs Γn Γ d ρ k st r h hr hd;simp only[den]at h;split at h<;>(try cases h;done);rename_i q hq;split at h<;>(try cases h;done);rename_i f hf;cases h;obtain⟨st',h1,ρ',h2,h3⟩:=LA hT hF hq hr hd;exact QY h1 ⟨_,CX hf h2,h3⟩
 |rg D gs=>
  intro A xs Γn Γ d ρ k st r h hr hd;simp only[den]at h;split at h<;>(try cases h;done);rename_i q hq;split at h<;>(try cases h;done);rename_i f hf;cases h;exact Pd hT hF hq hr hd fun st' ρ' h2 h3=>⟨_,CX hf h2,h3⟩
 |rgt draw D ls hh=>
  intro A xs Γn Γ d ρ k st r h hr hd;simp only[den]at h;split at h<;>(try cases h;done);rename_i q hq;cases h;exact T1 hT hF hq hr hd fun st' ρ' h2 h3=>⟨_,h2,h3⟩
 |regE e D ls=>
  intro A xs Γn Γ d ρ k st r h hr hd;simp only[den]at h;split at h<;>(try cases h;done);rename_i q hq;split at h<;>(try cases h;done);rename_i f hf;cases h;obtain⟨st',h1,ρ',h2,h3⟩:=Pe hT hF hq hr hd;exact QZ h1 ⟨_,CX hf h2,h3⟩
 |sq a b iha ihb=>
  intro A xs Γn Γ d ρ k st r h hr hd;simp only[den]at h;split at h<;>(try cases h;done);rename_i q hq;split at h<;>(try cases h;done);rename_i db hdb;cases h;exact⟨st,As.refl st,T2 hT hF hq hr hd fun st' ρ' h1 h2=>ihb hdb h1 h2⟩
 |seq Γm a b iha ihb=>
  intro A xs Γn Γ d ρ k st r h hr hd;simp only[den]at h;split at h<;>(try cases h;done);rename_i da db hda hdb;cases h;refine⟨st,As.refl st,DO _ (fun e s hp=> ?_) (iha hda hr hd)⟩
  cases e with
  |normal=>
   obtain⟨ρ',h1,h2⟩:=hp;exact ihb hdb h1 h2
  |exit i=>exact hp
  |ret=>exact hp
 |join Γm ex rt a b iha ihb=>
  intro A xs Γn Γ d ρ k st r h hr hd;simp only[den]at h;split at h<;>(try cases h;done);rename_i ys hys;split at h<;>(try cases h;done);rename_i g da db hg hda hdb;cases h;obtain⟨o,h1,h2⟩:=Ab.1 hd;refine⟨st,As.refl st,DO _ (fun e s hp=> ?_) (iha hda hr h1)⟩;have hk:∀o',o'=o→elX ((0,Γm)::ys) rt (fun ρm=>db ρm k,g k.e) k.r o'=some r:=fun o' ho=>ho▸h2
  cases e with
  |normal=>
   obtain⟨ρ',h3,h4⟩:=hp;exact ihb hdb h3 (PV (ke:=(fun ρm=>db ρm k,g k.e)) h4 hk)
  |exit i=>
   obtain⟨Γi,s',ρ',h3,h4,h5⟩:=hp;obtain⟨s2,h6,h7⟩:=UM (A:=A) (ke:=(fun ρm=>db ρm k,g k.e)) h3 h5 hk;obtain⟨s3,h8,h9⟩:=Nw hg h6 h7;exact⟨Γi,s3,ρ',h8,h4,h9⟩
  |ret=>
   obtain⟨v,h3,h5⟩:=hp;exact⟨v,h3,Nn (ke:=(fun ρm=>db ρm k,g k.e)) h5 hk⟩
 |cond c x y ihx ihy=>
  intro A xs Γn Γ d ρ k st r h hr hd;simp only[den]at h;split at h<;>(try cases h;done);rename_i e dx dy he hdx hdy;cases h;obtain⟨b,h1,h2⟩:=Dyn.app_some hd;obtain⟨cv,e1,e2⟩:=A1 (G:=X.G) he hr h1;unfold Can at e2;cases e2;refine⟨st,As.refl st,b,by rw[hT.G];exact e1,fun hb=> ?_,fun hb=> ?_⟩
  ·rw[if_pos hb]at h2;exact ihx hdx hr h2
  ·rw[if_neg (by simp[hb])]at h2;exact ihy hdy hr h2
 |block id b ih=>
  intro A xs Γn Γ d ρ k st r h hr hd;simp only[den]at h;split at h<;>(try cases h;done);rename_i db hdb;cases h;refine⟨st,As.refl st,DO _ (fun e s hp=> ?_) (ih hdb hr hd)⟩
  cases e with
  |normal=>exact hp
  |exit i=>
   obtain⟨Γi,s',ρ',h3,h4,h5⟩:=hp;simp only[Dl]at h3;by_cases hi:i=id
   ·subst hi;simp only[if_true,Ac,Sigma.mk.injEq]at h3;obtain⟨rfl,h3⟩:=h3;cases eq_of_heq h3;simp only[if_true];exact⟨ρ',h4,h5⟩
   ·simp only[if_neg hi];rw[if_neg (fun e=>hi e.symm)]at h3;split at h3<;>(try cases h3;done);rename_i q hq;cases h3;exact⟨_,_,ρ',hq,h4,h5⟩
  |ret=>exact hp
 |loop Γh ex rt b ih=>
  intro A xs Γn Γ d ρ k st r h hr hd;simp only[den]at h;split at h<;>(try cases h;done);rename_i ys hys;split at h<;>(try cases h;done);rename_i g f db hg hf hdb;cases h;obtain⟨o,h1,h2⟩:=Ab.1 hd;obtain⟨n,hn⟩:=HW.1 h1;refine⟨st,As.refl st,fun m s=>∃ρ,Rep Γh ρ s∧Do (fun ρ=>db ρ ⟨fun ρ'=>some (.inl ρ'),keX ys rt Sum.inr,rtX ys rt Sum.inr⟩) m ρ=some o,⟨n,f ρ,CX hf hr,hn⟩,fun m s hR=> ?_⟩;obtain⟨ρ1,hr1,hi⟩:=hR
  cases m with
  |zero=>cases hi
  |succ m=>
   simp only[Do]at hi;obtain⟨w,h3,h4⟩:=Ab.1 hi;refine DO _ (fun e s' hp=> ?_) (ih hdb hr1 h3)
   have hk:∀o',Sum.inr o'=w→elX ys rt (g k.e) k.r o'=some r:=fun o' ho=>by
    subst ho;simp only[Ac]at h4;rw[h4];exact h2
   cases e with
   |normal=>
    obtain⟨ρ',h5,h6⟩:=hp;cases h6;exact⟨m,by omega,ρ',h5,h4⟩
   |exit i=>
    obtain⟨Γi,s2,ρ',h5,h6,h7⟩:=hp;obtain⟨s3,h8,h9⟩:=Mi (A:=A) (ke:=g k.e) h5 h7 hk;obtain⟨s4,h10,h11⟩:=Nw hg h8 h9;exact⟨Γi,s4,ρ',h10,h6,h11⟩
   |ret=>
    obtain⟨v,h5,h7⟩:=hp;exact⟨v,h5,Nn (ke:=g k.e) h7 hk⟩
 |exit i=>
  intro A xs Γn Γ d ρ k st r h hr hd;simp only[den]at h;split at h<;>(try cases h;done);rename_i q hq;split at h<;>(try cases h;done);rename_i f hf;cases h;exact⟨st,As.refl st,q.1,q.2,_,hq,CX hf hr,hd⟩
 |ret=>
  intro A xs Γn Γ d ρ k st r h hr hd;simp only[den]at h;split at h<;>(try cases h;done);rename_i q hq;cases h;obtain⟨v,h1,h2⟩:=Dyn.app_some hd;exact⟨st,As.refl st,_,hrd hq hr h1,h2⟩
 |raw c=>
  intro A xs Γn Γ d ρ k st r h hr hd;simp only[den,Ac]at h;subst h;cases hd
 |gh g c ih=>
  intro A xs Γn Γ d ρ k st r h hr hd;simp only[den]at h;split at h<;>(try cases h;done);rename_i p hp;split at h<;>(try cases h;done);rename_i dc hdc;cases h;obtain⟨st',h1,h2⟩:=Jt hp hr;exact Ra h1 (ih hdc h2 hd)
end
structure AF where
 n:Nat
 code:AC
 res:List AB
@[reducible] def CP:Ty→Nat→TC
 | .one t,i=> [(.s i,.v t)]
 | .cons t r,i=>(.s i,.v t)::CP r (i+1)
 |_,_=> []
def Gx:(a:Ty)→(i:Nat)→D a→HS (CP a i)
 | .one _,_,x=>(x,())
 | .cons _ r,i,x=>(x.1,Gx r (i+1) x.2)
 | .int _,_,_| .bool,_,_| .str,_,_| .err,_,_| .clo _ _,_,_| .falt _ _ _,_,_| .nfn,_,_| .nam _,_,_| .bptr _,_,_| .nilp,_,_| .pt _,_,_| .nw _ _ _,_,_| .nsl,_,_| .nmap,_,_| .agg _,_,_| .tup _,_,_| .sl _,_,_| .map _ _,_,_| .nil,_,_=>()
theorem N0:∀{a:Ty} {i:Nat} {x:D a} {l:List CV} {p:Key} {q:Σ k:EK,HS (CP a i)→DK k},Can a x l→get (CP a i) p=some q→∃j c,p=.s (i+j)∧l[j]? =some c∧RS q.1 (q.2 (Gx a i x)) (.c c)
 | .one t,i,x,l,p,q,hc,hg=>by
  unfold Can at hc;obtain⟨c,rfl,hc⟩:=hc;by_cases hp:Key.s i=p
  ·subst hp;have hg':get ((Key.s i,EK.v t):: []) (Key.s i)=some q:=hg;rw[Cq]at hg';cases hg';exact⟨0,c,rfl,rfl,c,rfl,hc⟩
  ·obtain⟨f,hf,_⟩:=BH hp hg;cases hf
 | .cons t r,i,x,l,p,q,hc,hg=>by
  unfold Can at hc;obtain⟨c,l',rfl,h1,h2⟩:=hc;by_cases hp:Key.s i=p
  ·subst hp;have hg':get ((Key.s i,EK.v t)::CP r (i+1)) (Key.s i)=some q:=hg;rw[Cq]at hg';cases hg';exact⟨0,c,rfl,rfl,c,rfl,h1⟩
  ·obtain⟨f,hf,hx⟩:=BH hp hg;obtain⟨j,c',h3,h4,h5⟩:=N0 (i:=i+1) h2 hf;refine⟨j+1,c',by rw[h3];congr 1;omega,by simpa using h4, ?_⟩;have e:=hx (Gx (.cons t r) i x);rw[e];exact h5
 | .int _,_,_,_,_,_,_,hg=>by cases hg
 | .bool,_,_,_,_,_,_,hg=>by cases hg
 | .str,_,_,_,_,_,_,hg=>by cases hg
 | .err,_,_,_,_,_,_,hg=>by cases hg
 | .clo _ _,_,_,_,_,_,_,hg=>by cases hg
 | .falt _ _ _,_,_,_,_,_,_,hg=>by cases hg
 | .nfn,_,_,_,_,_,_,hg=>by cases hg
 | .nam _,_,_,_,_,_,_,hg=>by cases hg
 | .bptr _,_,_,_,_,_,_,hg=>by cases hg
 | .nilp,_,_,_,_,_,_,hg=>by cases hg
 | .pt _,_,_,_,_,_,_,hg=>by cases hg
 | .nw _ _ _,_,_,_,_,_,_,hg=>by cases hg
 | .nsl,_,_,_,_,_,_,hg=>by cases hg
 | .nmap,_,_,_,_,_,_,hg=>by cases hg
 | .agg _,_,_,_,_,_,_,hg=>by cases hg
 | .tup _,_,_,_,_,_,_,hg=>by cases hg
 | .sl _,_,_,_,_,_,_,hg=>by cases hg
 | .map _ _,_,_,_,_,_,_,hg=>by cases hg
 | .nil,_,_,_,_,_,_,hg=>by cases hg
theorem PO{a:Ty}{x:D a}{l:List CV}(hc:Can a x l):Rep (CP a 0) (Gx a 0 x) (DY l):=by
 refine⟨fun i q hq=> ?_,fun id q hq=> ?_⟩
 ·obtain⟨j,c,h1,h2,h3⟩:=N0 hc hq;simp only[Nat.zero_add,Key.s.injEq]at h1;subst h1;simp only[DY,h2];exact h3
 ·obtain⟨j,c,h1,_⟩:=N0 hc hq;cases h1
def kN:(rs:List AB)→(Rt:Ty)→Option (D Rt)
 | [],.tup .nil=>some ()
 |_,_=>none
theorem UK{rs:List AB}{Rt:Ty}{y:D Rt}(h:kN rs Rt=some y)(st:St):∃c,Dt st rs=some c∧Can Rt y [c]:=by
 unfold kN at h;split at h
 ·exact⟨.tup [],rfl,by unfold Can;exact⟨[],rfl,by unfold Can;rfl⟩⟩
 ·cases h
theorem A3.plain{w:World}{M:MM}{size:Nat}{t:Ty}:∀{ys:List (D t)} {es:List CV} {xs:List Value},Ap (fun x c=>Can t x [c]) ys es→A3 w M size es xs→A3 w M size (ys.map (enc t)) xs
 | [],es,xs,h,hr=>by unfold Ap at h;subst h;exact hr
 |y::ys,es,xs,h,hr=>by
  obtain⟨c,es',rfl,h1,h2⟩:=h;obtain⟨v,xs',e,g1,g2,g3⟩:=hr;exact⟨v,xs',e,g1,RelC.enc h1 g2,A3.plain h2 g3⟩
section
variable {P:Program} {E:Env} {w0:WL} {M0:MM} {n:Nat} {st:St} {a:Act} {w w':World} {z:Cz}
theorem UG{G:Nat→List CV}{M:MM}{l:List CV}{vs:List Value}{T:List Nat}{H:Nat→Ob}{le:Df}(hM:∀g,M g→g<w.heap.size)(hG:GOk G w M)(hl:l.length≤n)(h:RelL w M l vs)(hn:n≤tbase)(hle:∀id,T.contains id=true→le.I id)(hL:Lies P w M z T H):
  SR P G {w with le:=le,L:=fun id g=>H id≠ .none∧blk (z.σ id)=some g} M n {fr:=(DY l).fr,ob:=H} {tmps:=(⟨vs⟩:Array Value)++Array.replicate (n-(⟨vs⟩:Array Value).size) undef,defers:= []} w z:=by
 have hlen:=h.length
 have hk:AN w M w (mutb M z H):=⟨Nat.le_refl _,fun _ _ _=>rfl,fun g _ hg=>by
  rcases hg with hg|⟨id,h1,h2⟩
  ·exact hg
  ·exact(hL.lo id g h1 h2).2,hL.al⟩
 refine⟨?_,rfl,⟨rfl,rfl,rfl,Nat.le_refl _,fun _ _ _=>rfl⟩,hM,⟨fun id g h'=>⟨(hL.lo id g h'.1 h'.2).2,hle id (hL.only id h'.1)⟩,hL.told,fun _ _=>by rw[hL.al],hn⟩,hG,fun i=> ?_,fun id=> ?_,fun id g h1 h2=>⟨.inr ⟨h1,h2⟩,(hL.lo id g h1 h2).1⟩,hL.apart⟩
 ·simp;omega
 ·simp only[DY]
  cases hi:l[i]? with
  |none=>trivial
  |some c=>
   obtain⟨v,h1,h2⟩:=h.get hi
   have hv:((⟨vs⟩:Array Value)++Array.replicate (n-(⟨vs⟩:Array Value).size) undef).getD i undef=v:=by
    have:i<vs.length:=(Ae.1 h1).1;rw[Array.getD_eq_getD_getElem?,Array.getElem?_append_left (by simpa using this)];simp[h1]
   show RelC w _ c _;simp only[hv];exact RelC.keep hk c v h2
 ·exact A8.keep hk (fun _ _=>rfl) (fun cs _ s _=>⟨fun j hj h1=>h1,fun j hj h1=>rfl,fun j hj h1 k b hb=>hb⟩) (fun k b hh=>hh) (hL.ob id)
def EB(st:St):AB→Option CV
 | .tmp t=>closed (st.fr t)
 | .cell a sz=>(AL st.ob sz (deref st.ob (st.fr a))).bind closed
def EC(st:St)(rs:List AB):Option CV:=(Ao (EB st) rs).map E7
theorem OM{s:SV}{c:CV}(h:closed s=some c):s=.c c:=by
 cases s<;>first|(cases h;rfl)|cases h
theorem Ov{G:Nat→List CV}(h:SR P G w0 M0 n st a w z){f:ResultVar→Sem Value}(hf:∀rv,f rv=(match rv with| .tmp t=>pure (a.tmps.getD t undef)| .cell b t=>(asAddr (a.tmps.getD b undef)>>=fun ad=>loadVar t ad))):∀{rvs:List ResultVar} {srs:List AB} {cs:List CV},Ao (Et P) rvs=some srs→Ao (EB st) srs=some cs→
  ∃vs,(rvs.mapM f).run P w=.ok vs w∧RelL w (mutb M0 z st.ob) cs vs
 | [],srs,cs,h1,h2=>by
  simp only[Ao,Ac]at h1;subst h1;simp only[Ao,Ac]at h2;subst h2;exact⟨[],by simp,RelL.nil⟩
 |rv::rvs,srs,cs,h1,h2=>by
  simp only[Ao,Ab,Aa]at h1;obtain⟨s,hs,ss,hss,rfl⟩:=h1;simp only[Ao,Ab,Aa]at h2;obtain⟨c,hc,cs',hcs,rfl⟩:=h2;obtain⟨vs,g3,g4⟩:=Ov h hf hss hcs
  cases rv with
  |cell b t=>
   simp only[Et,Aa]at hs;obtain⟨sz,hsz,rfl⟩:=hs;simp only[EB,Ab]at hc;obtain⟨sv,hl,hcl⟩:=hc;obtain⟨v,h1,h2⟩:=O8 h hsz hl;rw[OM hcl]at h2;refine⟨v::vs, ?_,RelL.cons h2 g4⟩;have g1:(f (.cell b t)).run P w=.ok v w:=by rw[hf];exact h1
   rw[List.mapM_cons];simp[g1,g3]
  |tmp t=>
   simp only[Et,Ac]at hs;subst hs;have hr:=h.fr t;rw[OM hc]at hr;exact⟨a.tmps.getD t undef::vs,by rw[List.mapM_cons,hf];simp[g3],RelL.cons hr g4⟩
theorem We{G:Nat→List CV}(h:SR P G w0 M0 n st a w z){fn:Func}{rs:List AB}(hc:Ao (Et P) fn.results.toList=some rs){c:CV}(ho:EC st rs=some c):
  ∃v,(results fn a.tmps).run P w=.ok v w∧RelC w (mutb M0 z st.ob) c v:=by
 simp only[EC,Aa]at ho;obtain⟨cs,hcs,rfl⟩:=ho;obtain⟨vs,h1,h2⟩:=Ov h (f:=fun rv=>match rv with| .tmp t=>pure (a.tmps.getD t undef)| .cell b t=>do loadVar t (←asAddr (a.tmps.getD b undef))) (fun rv=>by cases rv<;>rfl) hc hcs
 have hr:(results fn a.tmps).run P w=.ok (if h:(⟨vs⟩:Array Value).size=1 then(⟨vs⟩:Array Value)[0]else .tuple ⟨vs⟩) w:=by
  have e:results fn a.tmps=(fn.results.mapM (fun rv=>match rv with| .tmp t=>pure (a.tmps.getD t undef)| .cell b t=>do loadVar t (←asAddr (a.tmps.getD b undef)))>>=fun(vs:Array Value)=>pure (if h:vs.size=1 then vs[0]else .tuple vs)):=rfl;rw[e,Array.mapM_eq_mapM_toList];generalize (fun(rv:ResultVar)=>(match rv with| .tmp t=>pure (a.tmps.getD t undef)| .cell b t=>do loadVar t (←asAddr (a.tmps.getD b undef)):Sem Value))=f at h1;simp[h1]
 refine⟨_,hr, ?_⟩;have hlen:=h2.length
 match cs,vs,h2,hlen with
 | [],[],h2,_=>
  simp only[E7];unfold RelC;exact⟨[],rfl,h2⟩
 | [c],[v],h2,_=>
  simp only[E7];unfold RelL at h2;obtain⟨v',vs',e,h3,_⟩:=h2;cases e;exact h3
 |c::c'::cs,v::v'::vs,h2,_=>
  simp only[E7];unfold RelC;exact⟨v::v'::vs,by simp,h2⟩
theorem Q4{T:Nat→Bool}{t:Ty}(h:t.names T=true):∀(ys:List (D t)),noNamL T (ys.map (enc t))=true
 | []=>rfl
 |y::ys=>by simp only[List.map_cons,noNamL,Af];exact⟨MC y h,Q4 h ys⟩
theorem GI{Θ:TC}{θ:HS Θ}(ho:okΘ Θ=true)(hr:Rep Θ θ st){id:Nat}(h:encO Θ θ id≠ .none):st.ob id≠ .none:=by
 simp only[okΘ,Af]at ho;unfold encO at h
 cases hg:get Θ (.o id)with
 |none=>rw[hg]at h;exact absurd rfl h
 |some q=>
  have r:=hr.o id _ hg;have hok:=B8 ho.2 (AQ hg);obtain⟨k,f⟩:=q;cases k<;>(try cases hok;done)
  case box n=>obtain⟨cs,e1,_⟩:=r;rw[e1];simp
  case arr e size t=>obtain⟨es,e1,_⟩:=r;rw[e1];simp
  case buf e=>have e1:st.ob id=.buf e (f θ):=r;rw[e1];simp
theorem Ng{M:MM}{ob:Nat→Ob}:∀{cs:List SV} {vs:List Value},At w M z ob cs vs↔cs.length=vs.length∧∀(i:Nat) s v,cs[i]? =some s→vs[i]? =some v→Aq w M z ob s v
 | [],vs=>by
  constructor
  ·intro h;cases (show vs= []from h);exact⟨rfl,fun i s v h=>by simp at h⟩
  ·intro h;exact List.length_eq_zero_iff.1 h.1.symm
 |c::cs,vs=>by
  constructor
  ·rintro⟨v,vs',rfl,h1,h2⟩
   obtain⟨h3,h4⟩:=Ng.1 h2;refine⟨by simp[h3],fun i s u hs hu=> ?_⟩
   cases i with
   |zero=>simp only[List.getElem?_cons_zero,Ac]at hs hu;rw[←hs,←hu];exact h1
   |succ i=>simp only[List.getElem?_cons_succ]at hs hu;exact h4 i s u hs hu
  ·rintro⟨h1,h2⟩
   cases vs with
   |nil=>cases h1
   |cons v vs=>exact⟨v,vs,rfl,h2 0 c v rfl rfl,Ng.2 ⟨by simpa using h1,fun i s u hs hu=>h2 (i+1) s u (by simpa using hs) (by simpa using hu)⟩⟩
theorem TV{G:Nat→List CV}(h:SR P G w0 M0 n st a w z){Θ:TC}{θ:HS Θ}(ho:okΘ Θ=true)(hr:Rep Θ θ st)(hnm:∀N,(idsT Θ).contains N=true→w0.le.T N):
  EG (idsT Θ).contains w (mutb M0 z st.ob) w (mutb M0 {z with al:=M0.al} (encO Θ θ))∧Lies P w (mutb M0 {z with al:=M0.al} (encO Θ θ)) {z with al:=M0.al} (idsT Θ) (encO Θ θ):=by
 have hk:EG (idsT Θ).contains w (mutb M0 z st.ob) w (mutb M0 {z with al:=M0.al} (encO Θ θ)):=⟨Nat.le_refl _,fun _ _ _=>rfl,fun g _ hg=>by
  rcases hg with hg|⟨id,h1,h2⟩
  ·exact .inl hg
  ·exact .inr ⟨id,GI ho hr h1,h2⟩,fun N hN=>(h.nam.names N (hnm N hN)).symm⟩
 refine⟨hk,fun id=> ?_,fun id g h1 h2=>⟨(h.lo id g (GI ho hr h1) h2).2,.inr ⟨id,h1,h2⟩⟩,fun i j g hij h1 h2=>h.apart i j g hij (GI ho hr h1) (GI ho hr h2),fun N cs hN hc=> ?_,fun id h1=>encO_only h1,rfl⟩
 ·have ho':=ho;simp only[okΘ,Af]at ho';show A8 P w _ 0 _ _ id (z.σ id) (encO Θ θ id);have hoi:=h.ob id
  cases hg:get Θ (.o id)with
  |none=>unfold encO;rw[hg];trivial
  |some q=>
   have r:=hr.o id _ hg;have hok:=B8 ho'.2 (AQ hg);obtain⟨k,f⟩:=q;cases k<;>(try cases hok;done)
   case box m bt=>
    have e0:encO Θ θ id=.box ((List.range m).map (encCell Θ θ id)) bt:=by unfold encO;rw[hg]
    rw[e0];obtain⟨cs,e1,hl,hc⟩:=r;rw[e1]at hoi;obtain⟨g,ty,vs,k1,k2,k3⟩:=hoi;refine⟨g,ty,vs,k1,k2, ?_⟩;rw[Ng]at k3⊢;refine⟨by simp[←k3.1,hl],fun i s v hs hv=> ?_⟩;simp only[okE,Af,List.all_eq_true,List.mem_range]at hok
    have hi:i<m:=by
     rw[List.getElem?_map,Aa]at hs;obtain⟨_,hs,_⟩:=hs;have:=(Ae.1 hs).1;simpa using this
    have hs':s=encCell Θ θ id i:=by
     simp[hi]at hs;exact hs.symm
    subst hs';have hcj:=hok.2 i hi
    cases hkc:Bw Θ (.c id i)with
    |none=>rw[hkc]at hcj;cases hcj
    |some k'=>
     rw[hkc]at hcj;obtain⟨f',hf'⟩:=GN hkc;obtain⟨sv,g1,g2⟩:=hc i _ hi hf';have hv':=k3.2 i sv v g1 hv;unfold encCell;rw[hf'];cases k'<;>(try cases hcj;done)
     case v t=>
      simp only[okC,Af]at hcj;obtain⟨c,rfl,hc'⟩:=g2;exact RelC.named hk _ _ (MC _ hcj.2) (RelC.enc hc' hv')
     case own K=>
      have e2:sv=.osl K:=g2;subst e2;simp only[okC,Af]at hcj;refine⟨?_,hv'.2⟩;have h3:=hcj.2;split at h3<;>(try cases h3;done)
      ·rename_i e size t hkk;obtain⟨fk,hfk⟩:=GN hkk;unfold encO;rw[hfk];simp
      ·rename_i e hkk;obtain⟨fk,hfk⟩:=GN hkk;unfold encO;rw[hfk];simp
   case arr e size t=>
    have e0:encO Θ θ id=.arr e size ((f θ).map (enc t)):=by unfold encO;rw[hg]
    rw[e0];obtain⟨es,e1,hc⟩:=r;rw[e1]at hoi;obtain⟨xs,k1,k2⟩:=hoi;simp only[okE,Af]at hok;have hlen:((f θ).map (enc t)).length=es.length:=by rw[List.length_map];exact hc.length.symm
    exact⟨xs,by rw[hlen];exact k1,A3.named hk (Q4 hok.2 _) (A3.plain hc k2)⟩
   case buf e=>
    have e0:encO Θ θ id=.buf e (f θ):=by unfold encO;rw[hg]
    have e1:st.ob id=.buf e (f θ):=r;rw[e0];rw[e1]at hoi;exact hoi
 ·have hlive:=GI ho hr (id:=N) (by rw[hc];simp);have hin:=encO_only (Θ:=Θ) (θ:=θ) (id:=N) (by rw[hc];simp);show z.σ N=.pointer (some ⟨M0.al N,0,none⟩);rw[←h.nam.names N (hnm N hin)]
  cases hob:st.ob N with
  |box cs'=>exact h.nam.told N _ hN hob
  |_=>
   exfalso;have ho':=ho;simp only[okΘ,Af]at ho';unfold encO at hc
   cases hg:get Θ (.o N)with
   |none=>rw[hg]at hc;cases hc
   |some q=>
    rw[hg]at hc;have r:=hr.o N _ hg;obtain⟨k,f⟩:=q;cases k<;>(try cases hc;done);obtain⟨cs2,e1,_⟩:=r;rw[hob]at e1;cases e1
def HP(rs:List AB)(t:Ty)(y:D t)(Θ:TC)(θ:HS Θ)(e:Ex)(st:St):Prop:=
 match e with
 | .exit _=>False
 |_=>∃c,EC st rs=some c∧Can t y [c]∧Rep Θ θ st
theorem Up(hE:EOk P E){f:FuncId}{m:G0}(hc:Cv P f=some m){l:List CV}{t:Ty}{y:D t}{Θ:TC}{θ:HS Θ}{H:Nat→Ob}(hl:l.length≤m.n)(ho:okΘ Θ=true)(hnm:t.names (idsT Θ).contains=true)(h:Ci (CJ (some Θ)) E m.code (HP m.res t y Θ θ) {fr:=(DY l).fr,ob:=H}):
  hasBody P f=true∧Em P E.G f (idsT Θ) l H (enc t y) (encO Θ θ):=by
 unfold Cv at hc;split at hc<;>(try cases hc;done);rename_i hb;refine⟨hb, ?_⟩;simp only[Ab,Aa,Ad]at hc;obtain⟨fn,hf,b,hbody,hn,c,hcode,rs,hrs,rfl⟩:=hc;intro w M z vs hM hG hL hLies;refine calls_of_wp hf hbody (wp_mono (EN hE rfl b hcode (UG (le:=CJ (some Θ)) hM hG hl hL (Ah hn) (fun id hid=>hid) hLies) h) fun e a' w' hpost=> ?_);obtain⟨e',st',z',he,hq,hS⟩:=hpost;subst he
 have fin_:(∃c,EC st' rs=some c∧Can t y [c]∧Rep Θ θ st')→a'.defers= []∧∃v,(results fn a'.tmps).run P w'=.ok v w'∧∃u z',Ending.returned v=.returned u∧(w'.os=w.os∧w'.tape=w.tape∧w'.output=w.output∧w.heap.size≤w'.heap.size∧∀g,g<w.heap.size→¬own z H g→w'.heap[g]? =w.heap[g]?)∧
   Lies P w' (mutb M z' (encO Θ θ)) z' (idsT Θ) (encO Θ θ)∧(∀id g,encO Θ θ id≠ .none→blk (z'.σ id)=some g→(H id≠ .none∧blk (z.σ id)=some g)∨w.heap.size≤g)∧z'.al=M.al∧RelC w' (mutb M z' (encO Θ θ)) (enc t y) u:=fun⟨c,hr,hcan,hrep⟩=>by
  obtain⟨v,h1,h2⟩:=We hS hrs hr;obtain⟨k1,k2⟩:=TV hS ho hrep (fun N hN=>hN);refine⟨hS.defers,v,h1,v,{z' with al:=M.al},rfl,⟨hS.below.os,hS.below.tape,hS.below.output,hS.below.size,fun g hg hno=>hS.below.block g hg fun id hid=>hno ⟨id,hid.1,hid.2⟩⟩,k2,fun id g g1 g2=> ?_,rfl,RelC.named k1 _ _ (MC y hnm) (RelC.enc hcan h2)⟩;rcases(hS.lo id g (GI ho hrep g1) g2).1 with g3|g3
  ·exact .inr g3
  ·exact .inl g3
 cases e' with
 |normal=>exact fin_ hq
 |exit i=>exact hq.elim
 |ret=>exact fin_ hq
theorem Em.to{G:Nat→List CV}{f:FuncId}{l:List CV}{r:CV}{H':Nat→Ob}(h:Em P G f [] l (fun _=>.none) r H')(hH:∀id,H' id=.none):CallsTo P G f l (.val r):=by
 intro w M vs hM hG hL;have hLies:Lies P w M (z0 undef M.al) [] fun _=>.none:=⟨fun _=>trivial,fun _ _ h=>absurd rfl h,fun _ _ _ _ h=>absurd rfl h,fun _ _ _ h=>(by cases h),fun _ h=>absurd rfl h,rfl⟩;refine(h w M _ vs hM hG hL hLies).mono fun e w' ⟨v,z',he,⟨h1,h2,h3,h4,h5⟩,_,_,hal,hr⟩=> ?_;refine⟨v,he,⟨h1,h2,h3,h4,fun g hg=>h5 g hg fun⟨id,hh,_⟩=>hh rfl⟩, ?_⟩;have hk:AN w' (mutb M z' H') w' M:=⟨Nat.le_refl _,fun _ _ _=>rfl,fun _ _ hg=>.inl hg,hal.symm⟩;exact RelC.keep hk _ _ hr
end
def Hq(X:TP)(Γ:TC):AB→Option (Σ r:Ty,Dyn (HS Γ) (D r))
 | .tmp t=>rdV Γ (.t t)
 | .cell a sz=>match rdK X.G Γ (.t a)with
  |some k=>match E3 Γ [] sz (D7 Γ [] k)with
   |some ⟨.v t,d⟩=>some ⟨t,d⟩
   |_=>none
  |none=>none
def Hp(X:TP)(Γ:TC):List AB→Option (Σ r:Ty,Dyn (HS Γ) (D r))
 | []=>some ⟨.nil,.tot fun _=>()⟩
 | [x]=>match Hq X Γ x with
  |some q=>some ⟨.one q.1,q.2⟩
  |none=>none
 |x::y::xs=>match Hq X Γ x,Hp X Γ (y::xs)with
  |some q,some p=>some ⟨.cons q.1 p.1,q.2.both p.2⟩
  |_,_=>none
def Kr(X:TP)(Γ:TC):List AB→Option (Σ t:Ty,Dyn (HS Γ) (D t))
 | [x]=>Hq X Γ x
 |xs=>match Hp X Γ xs with
  |some q=>some ⟨.tup q.1,q.2⟩
  |none=>none
def rdE(X:TP)(rs:List AB)(Rt:Ty)(Θ Γ:TC):Option (RdD Γ (D Rt×HS Θ)):=
 match Kr X Γ rs,BX Γ Θ with
 |some q,some f=>match AE q.1 Rt with
  |some g=>some ⟨D q.1,q.2,fun ρ v=>(g v,f ρ)⟩
  |none=>none
 |_,_=>none
section
variable {X:TP}
theorem Nh{Γ:TC}{ρ:HS Γ}{st:St}(hr:Rep Γ ρ st){x:AB}{q:Σ t:Ty,Dyn (HS Γ) (D t)}{y:D q.1}(h:Hq X Γ x=some q)(hy:q.2.val ρ=some y):∃c,EB st x=some c∧Can q.1 y [c]:=by
 cases x with
 |tmp t=>
  have h0:rdV Γ (.t t)=some q:=h;obtain⟨c,h1,h2⟩:=A1 (G:=X.G) h0 hr hy;have h1':st.fr t=.c c:=h1;exact⟨c,by simp[EB,h1',closed],h2⟩
 |cell a sz=>
  simp only[Hq]at h;split at h<;>(try cases h;done);rename_i k hk;split at h<;>(try cases h;done);rename_i t d hd;cases h;obtain⟨sv,h1,c,h2,h3⟩:=J9 (msk:= []) (rd:=st.ob) (sv:=deref st.ob (so X.G st.fr (.t a))) hr (fun _ _=>rfl) hd hy (fun x hx=>HE hr (fun _ _=>rfl) (fun x hx=>AA hk hr hx) hx (J8 hd));subst h2;refine⟨c, ?_,h3⟩;have h1':AL st.ob sz (deref st.ob (st.fr a))=some (.c c):=h1;simp[EB,h1',closed]
theorem Ni{Γ:TC}{ρ:HS Γ}{st:St}(hr:Rep Γ ρ st):∀{xs:List AB} {q:Σ t:Ty,Dyn (HS Γ) (D t)} {y:D q.1},Hp X Γ xs=some q→q.2.val ρ=some y→∃l,Ao (EB st) xs=some l∧Can q.1 y l
 | [],q,y,h,hy=>by
  simp only[Hp,Ac]at h;subst h;exact⟨[],rfl,by unfold Can;rfl⟩
 | [x],q,y,h,hy=>by
  simp only[Hp]at h;split at h<;>(try cases h;done);rename_i p hp;cases h;obtain⟨c,h1,h2⟩:=Nh hr hp hy;exact⟨[c],by simp[Ao,h1],by unfold Can;exact⟨c,rfl,h2⟩⟩
 |x::z::xs,q,y,h,hy=>by
  simp only[Hp]at h;split at h<;>(try cases h;done);rename_i p p' hp hp';cases h;obtain⟨g1,g2⟩:=Dyn.both_val hy;obtain⟨c,h1,h2⟩:=Nh hr hp g1;obtain⟨l,h3,h4⟩:=Ni hr hp' g2;refine⟨c::l, ?_,by unfold Can;exact⟨c,l,rfl,h2,h4⟩⟩;have e:Ao (EB st) (x::z::xs)=(EB st x).bind fun b=>(Ao (EB st) (z::xs)).map fun bs=>b::bs:=rfl;rw[e,h1,h3];rfl
theorem Wc{Γ:TC}{ρ:HS Γ}{st:St}(hr:Rep Γ ρ st){xs:List AB}{q:Σ t:Ty,Dyn (HS Γ) (D t)}{y:D q.1}(h:Kr X Γ xs=some q)(hy:q.2.val ρ=some y):∃c,EC st xs=some c∧Can q.1 y [c]:=by
 match xs,h with
 | [x],h=>
  have h0:Hq X Γ x=some q:=by cases x<;>exact h
  obtain⟨c,h1,h2⟩:=Nh hr h0 hy;exact⟨c,by simp[EC,Ao,h1,E7],h2⟩
 | [],h=>
  simp only[Kr]at h;split at h<;>(try cases h;done);rename_i p hp;cases h;obtain⟨l,h1,h2⟩:=Ni hr hp hy;simp only[Ao,Ac]at h1;subst h1;exact⟨.tup [],rfl,by unfold Can;exact⟨[],rfl,h2⟩⟩
 |x::z::xs,h=>
  simp only[Kr]at h;split at h<;>(try cases h;done);rename_i p hp;cases h;obtain⟨l,h1,h2⟩:=Ni hr hp hy;have hlen:=CT h1;refine⟨.tup l, ?_,by unfold Can;exact⟨l,rfl,h2⟩⟩;simp only[EC,h1,Option.map_some]
  match l,hlen with
  |c::d::l,_=>rfl
end
theorem VX{X:TP}{rs:List AB}{Rt:Ty}{Θ Γ:TC}{q:RdD Γ (D Rt×HS Θ)}{ρ:HS Γ}{st:St}(h:rdE X rs Rt Θ Γ=some q)(hr:Rep Γ ρ st){v:q.B}(hv:q.d.val ρ=some v):∃c,EC st rs=some c∧Can Rt (q.up ρ v).1 [c]∧Rep Θ (q.up ρ v).2 st:=by
 unfold rdE at h;split at h<;>(try cases h;done);rename_i q' f hq hf;split at h<;>(try cases h;done);rename_i g hg;cases h;obtain⟨c,h1,h2⟩:=Wc hr hq hv;exact⟨c,h1,BE _ _ hg h2,CX hf hr⟩
theorem UL{rs:List AB}{Rt:Ty}{y:D Rt}(h:kN rs Rt=some y)(st:St):∃c,EC st rs=some c∧Can Rt y [c]:=by
 unfold kN at h;split at h
 ·exact⟨.tup [],rfl,by unfold Can;exact⟨[],rfl,by unfold Can;rfl⟩⟩
 ·cases h
noncomputable def GJ(X:TP)(a Rt:Ty)(Θ:TC)(m:AF):Option (D a→HS Θ→Option (D Rt×HS Θ)):=
 match den {X with Θ:=some Θ} (D Rt×HS Θ) (rdE X m.res Rt Θ) m.code (D Rt×HS Θ) [] Θ (CP a 0++Θ)with
 |some d=>some fun x θ=>d (BM (CP a 0) (Gx a 0 x) θ) ⟨fun θ'=>(kN m.res Rt).map fun y=>(y,θ'),(),fun y=>some y⟩
 |none=>none
theorem RK{a:Ty}{i:Nat}{p:Key}(h:p∈(CP a i).map (·.1)):∃j,p=.s j:=by
 induction a generalizing i with
 |one t _=>simp[CP]at h;exact⟨_,h⟩
 |cons t r _ ih=>
  simp only[CP,List.map_cons,List.mem_cons]at h;rcases h with h|h
  ·exact⟨_,h⟩
  ·exact ih h
 |_=>simp[CP]at h
theorem UH{a:Ty}{x:D a}{l:List CV}{Θ:TC}{θ:HS Θ}{H:Nat→Ob}{fr:Nat→SV}(hc:Can a x l)(ho:okΘ Θ=true)(hr:Rep Θ θ {fr:=fr,ob:=H}):Rep (CP a 0++Θ) (BM (CP a 0) (Gx a 0 x) θ) {fr:=(DY l).fr,ob:=H}:=by
 simp only[okΘ,Af]at ho;refine⟨fun i q hq=> ?_,fun id q hq=> ?_⟩
 ·rcases C7 hq with⟨_,f,hf,e⟩|⟨_,f,hf,e⟩
  ·rw[e];exact(PO hc).s i _ hf
  ·have:=B8 ho.2 (AQ hf);obtain⟨k,f'⟩:=q;cases k<;>cases this
 ·rcases C7 hq with⟨h1,_⟩|⟨_,f,hf,e⟩
  ·obtain⟨j,hj⟩:=RK h1;cases hj
  ·rw[e];have r:=hr.o id _ hf;obtain⟨k,f'⟩:=q;cases k<;>try exact r
   obtain⟨cs,e1,hl,hh⟩:=r;refine⟨cs,e1,hl,fun j q' hj hq'=> ?_⟩;rcases C7 hq' with⟨h1,_⟩|⟨_,f2,hf2,e2⟩
   ·obtain⟨j',hj'⟩:=RK h1;cases hj'
   ·rw[e2];exact hh j _ hj hf2
theorem PF{P:Program}{X:TP}{E:Env}(hE:EOk P E)(hT:TOk X E)(hF:Bi X E){a Rt:Ty}{Θ:TC}{m:AF}{g:D a→HS Θ→Option (D Rt×HS Θ)}(h:GJ X a Rt Θ m=some g){f:FuncId}(hc:Cv P f=some ⟨m.n,Ba m.code,m.res⟩){k:Nat}(hl:A7 a=some k)(hk:k≤m.n)(ho:okΘ Θ=true)(hnm:Rt.names (idsT Θ).contains=true)
  {x:D a} {l:List CV} {θ θ':HS Θ} {y:D Rt} {H:Nat→Ob} {fr:Nat→SV} (hx:Can a x l) (hr:Rep Θ θ {fr:=fr,ob:=H}) (hy:g x θ=some (y,θ')):hasBody P f=true∧Em P E.G f (idsT Θ) l H (enc Rt y) (encO Θ θ'):=by
 unfold GJ at h;split at h<;>(try cases h;done);rename_i d hd;cases h;have hT':TOk {X with Θ:=some Θ} E:=⟨hT.G,hT.cp,hT.fn,hT.ef,hT.nw⟩;refine Up hE hc (by rw[DF hl hx];exact hk) ho hnm (DO _ (fun e st hp=> ?_) (Pf hT' hF (RP:=fun st p=>∃c,EC st m.res=some c∧Can Rt p.1 [c]∧Rep Θ p.2 st) (fun h1 h2 _ h3=>VX h1 h2 h3) m.code hd (UH hx ho hr) hy))
 cases e with
 |normal=>
  obtain⟨ρ,h1,h2⟩:=hp;obtain⟨y',h3,h4⟩:=Aa.1 h2;cases h4;obtain⟨c,h5,h6⟩:=UL h3 st;exact⟨c,h5,h6,h1⟩
 |exit i=>
  obtain⟨Γi,s,ρ,h1,_⟩:=hp;cases h1
 |ret=>
  obtain⟨v,h1,h3⟩:=hp;cases h3;exact h1
noncomputable def Jr(X:TP)(a Rt:Ty)(m:AF):Option (D a→Option (D Rt)):=
 match den X (D Rt) (rdT X m.res Rt) m.code (D Rt) [] [] (CP a 0)with
 |some d=>some fun x=>d (Gx a 0 x) ⟨fun _=>kN m.res Rt,(),fun y=>some y⟩
 |none=>none
theorem Uy{P:Program}{X:TP}{E:Env}(hE:EOk P E)(hT:TOk X E)(hF:Bi X E)(hΘ:CJ X.Θ=.no){a Rt:Ty}{m:AF}{g:D a→Option (D Rt)}(h:Jr X a Rt m=some g){f:FuncId}(hc:Cv P f=some ⟨m.n,Ba m.code,m.res⟩){k:Nat}(hl:A7 a=some k)(hk:k≤m.n)
  {x:D a} {l:List CV} {y:D Rt} (hx:Can a x l) (hy:g x=some y) (hv:(Rt.val&&Rt.ok)=true:=by rfl):hasBody P f=true∧CallsTo P E.G f l (.val (enc Rt y)):=by
 simp only[Af]at hv;unfold Jr at h;split at h<;>(try cases h;done);rename_i d hd;cases h;refine Uq hE hc (by rw[DF hl hx];exact hk) (hΘ▸DO _ (fun e st hp=> ?_) (Pf hT hF (RP:=fun st v=>EH st m.res _ v) (fun h1 h2 _ h3=>VY h1 h2 h3) m.code hd (PO hx) hy))
 cases e with
 |normal=>
  obtain⟨ρ,_,h2⟩:=hp;exact UK h2 st
 |exit i=>
  obtain⟨Γi,s,ρ,h1,_⟩:=hp;cases h1
 |ret=>
  obtain⟨v,h1,h3⟩:=hp;cases h3;exact EH.of hv.1 h1
structure TB where
 G:Nat→List CV
 TT:Nat→Option Ty
 TM:Nat→Option (Ty×Ty)
 cp:FuncId→Bool:=fun _=>false
def Cd:List (FuncId×Sig)→FuncId→Option Sig
 | [],_=>none
 |e::L,f=>if e.1=f then some e.2 else Cd L f
def GY:List (FuncId×AD)→FuncId→Option AD
 | [],_=>none
 |e::L,f=>if e.1=f then some e.2 else GY L f
def Ty.isNw:Ty→Bool
 | .nw _ _ _=>true
 |_=>false
def tp(B:TB)(L:List (FuncId×Sig))(LE:List (FuncId×AD)):TP where
 G:=B.G
 T:=fun f=>match Cd L f with
  |some s=>match s.r.isNw with
   |true=>none
   |false=>some s
  |none=>none
 TT:=B.TT
 TM:=B.TM
 cp:=B.cp
 TN:=fun f=>match Cd L f with
  |some s=>match s.r.isNw with
   |true=>some s
   |false=>none
  |none=>none
 TE:=fun f=>match Cd L f with
  |some _=>none
  |none=>GY LE f
theorem FG{B:TB}{L:List (FuncId×Sig)}{LE:List (FuncId×AD)}{f:FuncId}{s:Sig}:(tp B L LE).T f=some s↔Cd L f=some s∧s.r.isNw=false:=by
 show(match Cd L f with
  |some s=>match s.r.isNw with
   |true=>none
   |false=>some s
  |none=>none)=some s↔_
 cases h:Cd L f with
 |none=>simp
 |some s'=>cases h2:s'.r.isNw with
  |true=>
   simp only[h2,Ac];exact⟨fun e=>(by cases e),fun e=>by rw[e.1]at h2;rw[h2]at e;cases e.2⟩
  |false=>
   simp only[h2,Ac];exact⟨fun e=>⟨e,e▸h2⟩,fun e=>e.1⟩
theorem Hz{B:TB}{L:List (FuncId×Sig)}{LE:List (FuncId×AD)}{f:FuncId}{s:Sig}:(tp B L LE).TN f=some s↔Cd L f=some s∧s.r.isNw=true:=by
 show(match Cd L f with
  |some s=>match s.r.isNw with
   |true=>some s
   |false=>none
  |none=>none)=some s↔_
 cases h:Cd L f with
 |none=>simp
 |some s'=>cases h2:s'.r.isNw with
  |false=>
   simp only[h2,Ac];exact⟨fun e=>(by cases e),fun e=>by rw[e.1]at h2;rw[h2]at e;cases e.2⟩
  |true=>
   simp only[h2,Ac];exact⟨fun e=>⟨e,e▸h2⟩,fun e=>e.1⟩
theorem KN{B:TB}{L:List (FuncId×Sig)}{LE:List (FuncId×AD)}{f:FuncId}{s:AD}:(tp B L LE).TE f=some s↔Cd L f=none∧GY LE f=some s:=by
 show(match Cd L f with
  |some _=>none
  |none=>GY LE f)=some s↔_
 cases h:Cd L f with
 |none=>simp
 |some s'=>simp
open Classical in
noncomputable def EP(s:AD):Eff:=⟨idsT s.Θ,fun l H=>if h:∃p:D s.a×HS s.Θ,Can s.a p.1 l∧Rep s.Θ p.2 {fr:=fun _=>.undef,ob:=H}then(s.fn (choose h).1 (choose h).2).map fun q=>(enc s.r q.1,encO s.Θ q.2)else none⟩
theorem TI{s:AD}(ho:okΘ s.Θ=true){x:D s.a}{l:List CV}{θ:HS s.Θ}{H:Nat→Ob}{y:D s.r}{θ':HS s.Θ}(hx:Can s.a x l)(hr:Rep s.Θ θ {fr:=fun _=>.undef,ob:=H})(hy:s.fn x θ=some (y,θ')):(EP s).fn l H=some (enc s.r y,encO s.Θ θ'):=by
 have hh:∃p:D s.a×HS s.Θ,Can s.a p.1 l∧Rep s.Θ p.2 {fr:=fun _=>.undef,ob:=H}:=⟨(x,θ),hx,hr⟩;have hc:=Classical.choose_spec hh;simp only[EP,dif_pos hh];rw[Can.uniq s.a hc.1 hx,Rep.uniq ho rfl hc.2 hr,hy];rfl
theorem TJ{s:AD}{l:List CV}{H:Nat→Ob}{r:CV}{H':Nat→Ob}(h:(EP s).fn l H=some (r,H')):∃x θ y θ',Can s.a x l∧Rep s.Θ θ {fr:=fun _=>.undef,ob:=H}∧s.fn x θ=some (y,θ')∧r=enc s.r y∧H'=encO s.Θ θ':=by
 simp only[EP]at h;split at h<;>(try cases h;done);rename_i hh;obtain⟨⟨y,θ'⟩,h1,h2⟩:=Aa.1 h;cases h2;exact⟨_,_,y,θ',(Classical.choose_spec hh).1,(Classical.choose_spec hh).2,h1,rfl,rfl⟩
open Classical in
noncomputable def Dk(X:TP):Env:={G:=X.G,cp:=X.cp,ef:=fun f=>(X.TE f).map EP,fn:=fun f l=>match X.T f with
 |some s=>if h:∃x,Can s.a x l then(s.fn (choose h)).map fun y=>.val (enc s.r y)else none
 |none=>match X.TN f with
  |some ⟨a,.nw e size t,fn⟩=>if h:∃x,Can a x l then(fn (choose h)).map fun y=>.new (.arr e size (y.map (enc t)))else none
  |_=>none}
theorem LK{X:TP}{f:FuncId}{s:Sig}(hs:X.T f=some s){x:D s.a}{l:List CV}{y:D s.r}(hx:Can s.a x l)(hy:s.fn x=some y):(Dk X).fn f l=some (.val (enc s.r y)):=by
 have hh:∃x,Can s.a x l:=⟨x,hx⟩;simp only[Dk,hs,dif_pos hh];rw[Can.uniq s.a (Classical.choose_spec hh) hx,hy];rfl
theorem Jk{X:TP}{f:FuncId}{a:Ty}{e size:Nat}{t:Ty}{fn:D a→Option (D (.nw e size t))}(h0:X.T f=none)(hs:X.TN f=some ⟨a,.nw e size t,fn⟩){x:D a}{l:List CV}{y:List (D t)}(hx:Can a x l)(hy:fn x=some y):(Dk X).fn f l=some (.new (.arr e size (y.map (enc t)))):=by
 have hh:∃x,Can a x l:=⟨x,hx⟩;simp only[Dk,h0,hs,dif_pos hh];rw[Can.uniq a (Classical.choose_spec hh) hx,hy];rfl
theorem Pp{X:TP}{f:FuncId}{l:List CV}{r:Res}(h:(Dk X).fn f l=some r):
  (∃s x y,X.T f=some s∧Can s.a x l∧s.fn x=some y∧r=.val (enc s.r y))∨
  (X.T f=none∧∃(a:Ty) (e size:Nat) (t:Ty) (fn:D a→Option (D (.nw e size t))) (x:D a) (y:List (D t)),X.TN f=some ⟨a,.nw e size t,fn⟩∧Can a x l∧fn x=some y∧r=.new (.arr e size (y.map (enc t)))):=by
 simp only[Dk]at h;split at h
 ·rename_i s hs;split at h<;>(try cases h;done);rename_i hh;obtain⟨y,h1,h2⟩:=Aa.1 h;exact .inl ⟨s,_,y,hs,Classical.choose_spec hh,h1,h2.symm⟩
 ·rename_i h0;split at h<;>(try cases h;done);rename_i a e size t fn hs;split at h<;>(try cases h;done);rename_i hh;obtain⟨y,h1,h2⟩:=Aa.1 h;exact .inr ⟨h0,a,e,size,t,fn,_,y,hs,Classical.choose_spec hh,h1,h2.symm⟩
structure EffOk (P:Program) (G:Nat→List CV) (f:FuncId) (s:AD):Prop where
 rv:s.r.val=true
 rok:s.r.ok=true
 hi:((idsT s.Θ).all fun N=>Nat.ble tbase N)=true
 ok:okΘ s.Θ=true
 body:hasBody P ((DH f).getD f)=true
 calls:∀x l θ H y θ',Can s.a x l→Rep s.Θ θ {fr:=fun _=>.undef,ob:=H}→s.fn x θ=some (y,θ')→D1 P G f (idsT s.Θ) l H (enc s.r y) (encO s.Θ θ')
theorem D1.of{P:Program}{G:Nat→List CV}{f:FuncId}{T:List Nat}{l:List CV}{H H':Nat→Ob}{r:CV}(hb:hasBody P f=true)(h:Em P G f T l H r H'):D1 P G f T l H r H':=by
 unfold D1;rw[hasBody_real hb];exact h
theorem D1.to{P:Program}{G:Nat→List CV}{f:FuncId}{T:List Nat}{l:List CV}{H H':Nat→Ob}{r:CV}(hb:hasBody P f=true)(h:D1 P G f T l H r H'):Em P G f T l H r H':=by
 unfold D1 at h;rw[hasBody_real hb]at h;exact h
def En(P:Program)(G:Nat→List CV)(X:TP):Prop:=∀f s,X.TE f=some s→EffOk P G f s
theorem En.ef{P:Program}{X:TP}(h:En P X.G X):NO P (Dk X):=fun f e he=>by
 obtain⟨s,hs,rfl⟩:=Aa.1 he;have k:=h f s hs;refine⟨k.body,fun args H r H' hr=> ?_⟩;obtain⟨x,θ,y,θ',h1,h2,h3,rfl,rfl⟩:=TJ hr;exact k.calls x args θ H y θ' h1 h2 h3
theorem En.te{P:Program}{X:TP}(h:En P X.G X):Bi X (Dk X):=fun f s hs=>by
 have k:=h f s hs;have e:(Dk X).ef f=some (EP s):=by show(X.TE f).map EP=_;rw[hs];rfl
 exact⟨⟨k.rv,k.hi⟩,k.rok,EP s,e,rfl,fun x l θ H y θ' hx hr hy=>TI k.ok hx hr hy⟩
structure GoodT (P:Program) (B:TB) (L:List (FuncId×Sig)) (LE:List (FuncId×AD)):Prop where
 E:EOk P (Dk (tp B L LE))
 T:TOk (tp B L LE) (Dk (tp B L LE))
 F:En P B.G (tp B L LE)
theorem GoodT.TE{P:Program}{B:TB}{L:List (FuncId×Sig)}{LE:List (FuncId×AD)}(h:GoodT P B L LE):Bi (tp B L LE) (Dk (tp B L LE)):=En.te (X:=tp B L LE) h.F
theorem NB{B:TB}{L:List (FuncId×Sig)}{LE:List (FuncId×AD)}(f:FuncId)(h:((tp B L LE).T f).isSome=true∨((tp B L LE).TN f).isSome=true):(Dk (tp B L LE)).ef f=none:=by
 have:∃s,Cd L f=some s:=by
  rcases h with h|h<;>obtain⟨s,hs⟩:=Option.isSome_iff_exists.1 h
  ·exact⟨s,(FG.1 hs).1⟩
  ·exact⟨s,(Hz.1 hs).1⟩
 obtain⟨s,hs⟩:=this
 show((match Cd L f with
  |some _=>none
  |none=>GY LE f):Option AD).map EP=none
 rw[hs];rfl
theorem GoodT.nil(P:Program)(B:TB)(hcp:NL P B.cp:=by intro f h;cases h):GoodT P B [] []:=by
 refine⟨⟨fun f l r h=> ?_,hcp,fun f e h=>by cases h⟩,⟨rfl,rfl,fun f s h=> ?_,fun f h=>NB f h,fun f a e size t fn h=> ?_⟩,fun f s h=>by cases h⟩
 ·rcases Pp h with⟨s,x,y,h1,_⟩|⟨_,_,_,_,_,_,_,_,h1,_⟩<;>cases h1
 ·cases h
 ·cases h
def G1(P:Program)(G:Nat→List CV)(f:FuncId):Sig→Prop
 |⟨a,.nw e size t,fn⟩=>(t.val&&t.ok)=true∧∀x l (y:List (D t)),Can a x l→fn x=some y→hasBody P f=true∧CallsTo P G f l (.new (.arr e size (y.map (enc t))))
 |s=>(s.r.val&&s.r.ok)=true∧∀x l y,Can s.a x l→s.fn x=some y→hasBody P f=true∧CallsTo P G f l (.val (enc s.r y))
theorem G1.val{P:Program}{G:Nat→List CV}{f:FuncId}{s:Sig}(h:G1 P G f s)(hn:s.r.isNw=false):(s.r.val&&s.r.ok)=true∧∀x l y,Can s.a x l→s.fn x=some y→hasBody P f=true∧CallsTo P G f l (.val (enc s.r y)):=by
 obtain⟨a,r,fn⟩:=s;cases r<;>first|exact h|cases hn
theorem G1.mk{P:Program}{G:Nat→List CV}{f:FuncId}{s:Sig}(hv:(s.r.val&&s.r.ok)=true)(h:∀x l y,Can s.a x l→s.fn x=some y→hasBody P f=true∧CallsTo P G f l (.val (enc s.r y))):G1 P G f s:=by
 obtain⟨a,r,fn⟩:=s;cases r<;>first|exact⟨hv,h⟩|cases hv
theorem Ap.encs{t:Ty}(hv:t.val=true)(ho:t.ok=true):∀(ys:List (D t)),Ap (fun x c=>Can t x [c]) ys (ys.map (enc t))
 | []=>rfl
 |y::ys=>⟨_,_,rfl,Can.enc y hv ho,Ap.encs hv ho ys⟩
theorem Jy{B:TB}{L:List (FuncId×Sig)}{LE:List (FuncId×AD)}{f:FuncId}{s:Sig}(h:(tp B L LE).TN f=some s):(tp B L LE).T f=none:=by
 obtain⟨h1,h2⟩:=Hz.1 h
 cases hT:(tp B L LE).T f with
 |none=>rfl
 |some s'=>
  obtain⟨h3,h4⟩:=FG.1 hT;rw[h1]at h3;cases h3;rw[h2]at h4;cases h4
theorem GoodT.addS{P:Program}{B:TB}{L:List (FuncId×Sig)}{LE:List (FuncId×AD)}(h:GoodT P B L LE)(f:FuncId)(s:Sig)(hs:G1 P B.G f s):GoodT P B ((f,s)::L) LE:=by
 have key:∀g s',Cd ((f,s)::L) g=some s'→(g=f∧s'=s)∨Cd L g=some s':=fun g s' hg=>by
  unfold Cd at hg;by_cases e:f=g
  ·simp only[e,if_true,Ac]at hg;exact .inl ⟨e.symm,hg.symm⟩
  ·simp only[e,if_false]at hg;exact .inr hg
 have hF:En P B.G (tp B ((f,s)::L) LE):=fun g s' hs'=>by
  obtain⟨h1,h2⟩:=KN.1 hs';refine h.F g s' (KN.2 ⟨?_,h2⟩);unfold Cd at h1;split at h1
  ·cases h1
  ·exact h1
 refine⟨⟨fun g l r hr=> ?_,h.E.cp,En.ef (X:=tp B ((f,s)::L) LE) hF⟩,⟨rfl,rfl,fun g s' hs'=> ?_,fun f h=>NB f h,fun g a e size t fn hs'=> ?_⟩,hF⟩
 ·rcases Pp hr with⟨s',x,y,h1,h2,h3,rfl⟩|⟨h0,a,e,size,t,fn,x,y,h1,h2,h3,rfl⟩
  ·obtain⟨g1,g2⟩:=FG.1 h1;rcases key g s' g1 with⟨rfl,rfl⟩|g3
   ·exact(hs.val g2).2 x l y h2 h3
   ·exact h.E.1 g l _ (LK (X:=tp B L LE) (FG.2 ⟨g3,g2⟩) h2 h3)
  ·obtain⟨g1,g2⟩:=Hz.1 h1;rcases key g _ g1 with⟨rfl,e1⟩|g3
   ·subst e1;exact hs.2 x l y h2 h3
   ·have h4:(tp B L LE).TN g=some ⟨a,.nw e size t,fn⟩:=Hz.2 ⟨g3,g2⟩;exact h.E.1 g l _ (Jk (X:=tp B L LE) (Jy h4) h4 h2 h3)
 ·obtain⟨g1,g2⟩:=FG.1 hs'
  refine⟨?_, ?_,fun x l y hx hy=>LK hs' hx hy⟩<;>
  ·rcases key g s' g1 with⟨rfl,rfl⟩|g3
   ·have:=(hs.val g2).1;simp only[Af]at this;first|exact this.1|exact this.2
   ·first|exact(h.T.fn g s' (FG.2 ⟨g3,g2⟩)).1|exact(h.T.fn g s' (FG.2 ⟨g3,g2⟩)).2.1
 ·obtain⟨g1,g2⟩:=Hz.1 hs';rcases key g _ g1 with⟨rfl,e1⟩|g3
  ·subst e1;have hto:=hs.1;simp only[Af]at hto;exact⟨hto.1,fun x l ys hx hy=>⟨_,Jk (Jy hs') hs' hx hy,Ap.encs hto.1 hto.2 ys⟩⟩
  ·have h4:(tp B L LE).TN g=some ⟨a,.nw e size t,fn⟩:=Hz.2 ⟨g3,g2⟩;obtain⟨k1,k2⟩:=h.T.nw g a e size t fn h4;refine⟨k1,fun x l ys hx hy=>⟨_,Jk (Jy hs') hs' hx hy, ?_⟩⟩;obtain⟨es,k3,k4⟩:=k2 x l ys hx hy;have k5:=Jk (X:=tp B L LE) (Jy h4) h4 hx hy;rw[k5]at k3;cases k3;exact k4
theorem GoodT.addM{P:Program}{B:TB}{L:List (FuncId×Sig)}{LE:List (FuncId×AD)}(h:GoodT P B L LE)(f:FuncId)(s:Sig)(hv:(s.r.val&&s.r.ok)=true)(hf:∀x l y,Can s.a x l→s.fn x=some y→hasBody P f=true∧CallsTo P B.G f l (.val (enc s.r y))):GoodT P B ((f,s)::L) LE:=
 h.addS f s (G1.mk hv hf)
theorem GoodT.add{P:Program}{B:TB}{L:List (FuncId×Sig)}{LE:List (FuncId×AD)}(h:GoodT P B L LE)(f:FuncId)(s:Sig)(m:AF)(hc:Cv P f=some ⟨m.n,Ba m.code,m.res⟩)(hg:Jr (tp B L LE) s.a s.r m=some s.fn){k:Nat}(hl:A7 s.a=some k)(hk:Nat.ble k m.n=true)(hv:(s.r.val&&s.r.ok)=true):GoodT P B ((f,s)::L) LE:=
 h.addM f s hv fun _ _ _ hx hy=>Uy h.E h.T h.TE rfl hg hc hl (Ah hk) hx hy hv
theorem GoodT.call{P:Program}{B:TB}{L:List (FuncId×Sig)}{LE:List (FuncId×AD)}(h:GoodT P B L LE){f:FuncId}{s:Sig}(hs:Cd L f=some s){x:D s.a}{l:List CV}{y:D s.r}(hx:Can s.a x l)(hy:s.fn x=some y)(hn:s.r.isNw=false:=by rfl):CallsTo P B.G f l (.val (enc s.r y)):=
 (h.E.1 f l _ (LK (X:=tp B L LE) (FG.2 ⟨hs,hn⟩) hx hy)).2
theorem GoodT.addEM{P:Program}{B:TB}{L:List (FuncId×Sig)}{LE:List (FuncId×AD)}(h:GoodT P B L LE)(f:FuncId)(s:AD)(hs:EffOk P B.G f s):GoodT P B L ((f,s)::LE):=by
 have hF:En P B.G (tp B L ((f,s)::LE)):=fun g s' hs'=>by
  obtain⟨h1,h2⟩:=KN.1 hs';unfold GY at h2;split at h2
  ·rename_i e;have e':f=g:=e;cases h2;rw[←e'];exact hs
  ·exact h.F g s' (KN.2 ⟨h1,h2⟩)
 exact⟨⟨fun g l r hr=>h.E.fn g l r hr,h.E.cp,En.ef (X:=tp B L ((f,s)::LE)) hF⟩,⟨rfl,rfl,fun g s' hs'=>h.T.fn g s' hs',fun f h=>NB f h,fun g a e size t fn hs'=>h.T.nw g a e size t fn hs'⟩,hF⟩
theorem Ly{P:Program}{f:FuncId}{m:G0}(h:Cv P f=some m):hasBody P f=true:=by
 unfold Cv at h;split at h<;>(try cases h;done);rename_i hb;exact hb
theorem GoodT.addE{P:Program}{B:TB}{L:List (FuncId×Sig)}{LE:List (FuncId×AD)}(h:GoodT P B L LE)(f:FuncId)(s:AD)(m:AF){k:Nat}(hl:A7 s.a=some k)(hk:Nat.ble k m.n=true)(hv:(s.r.val&&s.r.ok&&okΘ s.Θ&&s.r.names (idsT s.Θ).contains&&(idsT s.Θ).all fun N=>Nat.ble tbase N)=true)(hc:Cv P f=some ⟨m.n,Ba m.code,m.res⟩)(hg:GJ (tp B L LE) s.a s.r s.Θ m=some s.fn):GoodT P B L ((f,s)::LE):=by
 simp only[Af]at hv;exact h.addEM f s ⟨hv.1.1.1.1,hv.1.1.1.2,hv.2,hv.1.1.2,by rw[hasBody_real (Ly hc)];exact Ly hc,fun x l θ H y θ' hx hr hy=>.of (Ly hc) (PF h.E h.T h.TE hg hc hl (Ah hk) hv.1.1.2 hv.1.2 hx hr hy).2⟩
theorem GoodT.addV{P:Program}{B:TB}{L:List (FuncId×Sig)}{LE:List (FuncId×AD)}(h:GoodT P B L LE)(f:FuncId){t u r:Ty}{Θ:TC}{fn:D (.cons t (.one u))→HS Θ→Option (D r×HS Θ)}(hb:hasBody P f=true)(hs:(tp B L LE).TE f=some ⟨Θ,.cons t (.one u),r,fn⟩):GoodT P B L ((E4+f,⟨Θ,.cons u (.one t),r,fun x θ=>fn (x.2,x.1) θ⟩)::LE):=by
 obtain⟨h1,h2,h3,h4,h5,h6⟩:=h.F f _ hs;refine h.addEM (E4+f) _ ⟨h1,h2,h3,h4,by rw[MB];exact hb,fun x l θ H y θ' hx hr hy=> ?_⟩;unfold Can at hx;obtain⟨c,l',rfl,hx1,hx2⟩:=hx;unfold Can at hx2;obtain⟨d,rfl,hx2⟩:=hx2;unfold D1;rw[MB];exact⟨[c],d,rfl,D1.to hb (h6 (x.2,x.1) [d,c] θ H y θ' (by unfold Can;exact⟨d,[c],rfl,hx2,by unfold Can;exact⟨c,rfl,hx1⟩⟩) hr hy)⟩
theorem GoodT.addT{P:Program}{B:TB}{L:List (FuncId×Sig)}{LE:List (FuncId×AD)}(h:GoodT P B L LE)(f:FuncId)(s:Sig)(m:AF){k:Nat}(hl:A7 s.a=some k)(hk:Nat.ble k m.n=true)(hv:(s.r.val&&s.r.ok&&s.r.names fun _=>false)=true)(hc:Cv P f=some ⟨m.n,Ba m.code,m.res⟩){fn:D s.a→HS ([]:TC)→Option (D s.r×HS ([]:TC))}(hg:GJ (tp B L LE) s.a s.r [] m=some fn)(hfn:s.fn=fun x=>(fn x ()).map fun p=>p.1):GoodT P B ((f,s)::L) LE:=by
 simp only[Af]at hv;refine h.addM f s (by simp[hv.1]) fun x l y hx hy=> ?_;rw[hfn]at hy;obtain⟨⟨y',θ'⟩,h1,h2⟩:=Aa.1 hy;cases h2;have hr:Rep ([]:TC) () {fr:=fun _=>.undef,ob:=fun _=>.none}:=⟨fun i q hq=>(by cases hq),fun id q hq=>(by cases hq)⟩;obtain⟨g1,g2⟩:=PF h.E h.T h.TE hg hc hl (Ah hk) rfl hv.2 hx hr h1;exact⟨g1,g2.to fun id=>rfl⟩
def m(i j:Nat):SL:=⟨some i,.mov (.t j),none⟩
def l'(i:Nat)(o:SOp):SL:=⟨some i,o,none⟩
def fo(i:Nat)(off x:Nat):SL:=⟨some i,.faddr off (.t x),none⟩
def st'(a x:Nat):SL:=⟨none,.store 1 (.t a) (.t x),none⟩
def ex(i x j:Nat):SL:=⟨some i,.ext (.t x) j,none⟩
def rf(l:List SL):AC:=.reg false [] l
def rs(l:List SL):Cg:=.reg false [] l
def K(k:IntKind)(n:Int):SO:=.k (.int k n)
def sS(i:Nat):Key×EK:=(.s i,.v .str)
def sI(i:Nat):Key×EK:=(.s i,.v (.int .i64))
def sB(i:Nat):Key×EK:=(.s i,.v .bool)
def cI(i j:Nat):Key×EK:=(.c i j,.v (.int .i64))
inductive Hn where
 |s (Γ:TC)
 |j (Γ:TC) (ex:List Nat) (rt:Bool)
 |l (Γ:TC) (ex:List Nat) (rt:Bool)
 |g (g:Gh)
 |r
 |e
 |t (gs:List (Nat×Gh))
 |x (h:HT)
abbrev HL:=List (Nat×Hn)
def HR(i:Nat):List SL→List (Nat×Gh)→List GL
 | [],gs=>gs.map fun g=>.g g.2
 |l::ls,gs=>let p:=gs.span fun g=>Nat.beq g.1 i;p.1.map (fun g=>.g g.2)++ .l l::HR (i+1) ls p.2
theorem Qi(gs:List (Nat×Gh))(r:List GL):Ea (gs.map (fun g=>.g g.2)++r)=Ea r:=by
 induction gs with
 |nil=>rfl
 |cons g gs ih=>simp[Ea,ih]
theorem UY(ls:List SL):∀i gs,Ea (HR i ls gs)=ls:=by
 induction ls with
 |nil=>intro i gs;unfold HR;simpa[Ea]using Qi gs []
 |cons l ls ih=>intro i gs;unfold HR;simp only;rw[Qi];simp[Ea,ih]
def hnG(k:Nat):HL→List Gh×HL
 |(n,.g g)::hs=>cond (Nat.beq n k) (let p:=hnG k hs;(g::p.1,p.2)) ([],(n,.g g)::hs)
 |hs=>([],hs)
def hnO(k:Nat):HL→Option Hn×HL
 |(n,h)::hs=>cond (Nat.beq n k) (some h,hs) (none,(n,h)::hs)
 | []=>(none,[])
def wrG:List Gh→AC→AC
 | [],c=>c
 |g::gs,c=>.gh g (wrG gs c)
theorem Jn(gs:List Gh)(c:AC):Ba (wrG gs c)=Ba c:=by
 induction gs with
 |nil=>rfl
 |cons g gs ih=>simpa[wrG,Ba]using ih
def sqH(o:Option Hn)(a b:AC):AC:=
 match o with
 |some (.s Γ)=>.seq Γ a b
 |some (.j Γ ex rt)=>.join Γ ex rt a b
 |_=>.sq a b
def rgH(o:Option Hn)(draw:Bool)(D:List Nat)(ls:List SL):AC:=
 match o,draw with
 |some (.t gs),false=>.rg D (HR 0 ls gs)
 |some (.x h),d=>.rgt d D ls h
 |_,_=>.reg draw D ls
def reH(o:Option Hn)(D:List Nat)(ls:List SL):AC:=
 match o with
 |some .e=>.regE true D ls
 |_=>.regE false D ls
def loH(o:Option Hn)(b:AC):AC:=
 match o with
 |some (.l Γ ex rt)=>.loop Γ ex rt b
 |_=>.loop [] [] false b
def isR:Option Hn→Bool
 |some .r=>true
 |_=>false
def ann:Cg→Nat→HL→AC×Nat×HL
 | .skip,k,hs=>let p:=hnG k hs;let q:=hnO k p.2;(wrG p.1 (cond (isR q.1) (.raw .skip) .skip),k+1,q.2)
 | .ret,k,hs=>let p:=hnG k hs;let q:=hnO k p.2;(wrG p.1 (cond (isR q.1) (.raw .ret) .ret),k+1,q.2)
 | .exit i,k,hs=>let p:=hnG k hs;let q:=hnO k p.2;(wrG p.1 (cond (isR q.1) (.raw (.exit i)) (.exit i)),k+1,q.2)
 | .bad,k,hs=>let p:=hnG k hs;let q:=hnO k p.2;(wrG p.1 (.raw .bad),k+1,q.2)
 | .reg d D ls,k,hs=>let p:=hnG k hs;let q:=hnO k p.2;(wrG p.1 (cond (isR q.1) (.raw (.reg d D ls)) (rgH q.1 d D ls)),k+1,q.2)
 | .regE D ls,k,hs=>let p:=hnG k hs;let q:=hnO k p.2;(wrG p.1 (cond (isR q.1) (.raw (.regE D ls)) (reH q.1 D ls)),k+1,q.2)
 | .seq a b,k,hs=>let p:=hnG k hs;let q:=hnO k p.2
  match isR q.1 with
  |true=>(wrG p.1 (.raw (.seq a b)),k+1,q.2)
  |false=>let x:=ann a (k+1) q.2;let y:=ann b x.2.1 x.2.2;(wrG p.1 (sqH q.1 x.1 y.1),y.2)
 | .cond c a b,k,hs=>let p:=hnG k hs;let q:=hnO k p.2
  match isR q.1 with
  |true=>(wrG p.1 (.raw (.cond c a b)),k+1,q.2)
  |false=>let x:=ann a (k+1) q.2;let y:=ann b x.2.1 x.2.2;(wrG p.1 (.cond c x.1 y.1),y.2)
 | .block i a,k,hs=>let p:=hnG k hs;let q:=hnO k p.2
  match isR q.1 with
  |true=>(wrG p.1 (.raw (.block i a)),k+1,q.2)
  |false=>let x:=ann a (k+1) q.2;(wrG p.1 (.block i x.1),x.2)
 | .loop a,k,hs=>let p:=hnG k hs;let q:=hnO k p.2
  match isR q.1 with
  |true=>(wrG p.1 (.raw (.loop a)),k+1,q.2)
  |false=>let x:=ann a (k+1) q.2;(wrG p.1 (loH q.1 x.1),x.2)
theorem Ue(o:Option Hn)(a b:AC):Ba (sqH o a b)=.seq (Ba a) (Ba b):=by
 unfold sqH;split<;>rfl
theorem Ud(o:Option Hn)(d:Bool)(D:List Nat)(ls:List SL):Ba (rgH o d D ls)=.reg d D ls:=by
 unfold rgH;split<;>simp[Ba,UY]
theorem Uc(o:Option Hn)(D:List Nat)(ls:List SL):Ba (reH o D ls)=.regE D ls:=by
 unfold reH;split<;>rfl
theorem Ub(o:Option Hn)(a:AC):Ba (loH o a)=.loop (Ba a):=by
 unfold loH;split<;>rfl
theorem Ua(c:Cg):∀k hs,Ba (ann c k hs).1=c:=by
 induction c with
 |seq a b iha ihb|cond c a b iha ihb=>intro k hs;simp only[ann];split<;>simp[Jn,Ue,Ba,iha,ihb]
 |block i a iha|loop a iha=>intro k hs;simp only[ann];split<;>simp[Jn,Ub,Ba,iha]
 |bad=>intro k hs;simp[ann,Jn,Ba]
 |_=>intro k hs;simp only[ann,Jn];cases isR (hnO k (hnG k hs).2).1<;>simp[Ba,Ud,Uc]
def mdl(P:Program)(f:FuncId)(hs:HL):AF:=
 match Cv P f with
 |some m=>⟨m.n,(ann m.code 0 hs).1,m.res⟩
 |none=>⟨0,.ret,[]⟩
def tst(P:Program)(f:FuncId)(a:Ty):Bool:=
 match Cv P f,A7 a with
 |some m,some k=>Nat.ble k m.n
 |_,_=>false
theorem NC{P:Program}{f:FuncId}{a:Ty}(hs:HL)(h:tst P f a=true):∃k,A7 a=some k∧Nat.ble k (mdl P f hs).n=true∧Cv P f=some ⟨(mdl P f hs).n,Ba (mdl P f hs).code,(mdl P f hs).res⟩:=by
 unfold tst at h;split at h
 ·rename_i m k h1 h2;refine⟨k,h2, ?_, ?_⟩<;>simp[mdl,h1,h,Ua]
 ·cases h
theorem GoodT.hT{P:Program}{B:TB}{L:List (FuncId×Sig)}{LE:List (FuncId×AD)}(h:GoodT P B L LE){f:FuncId}{s:Sig}(hs:HL)(hv:(s.r.val&&s.r.ok)=true)(hc:tst P f s.a=true)(hg:Jr (tp B L LE) s.a s.r (mdl P f hs)=some s.fn):GoodT P B ((f,s)::L) LE:=by
 obtain⟨k,h1,h2,h3⟩:=NC hs hc;exact h.add f s _ h3 hg h1 h2 hv
theorem GoodT.hE{P:Program}{B:TB}{L:List (FuncId×Sig)}{LE:List (FuncId×AD)}(h:GoodT P B L LE){f:FuncId}{s:AD}(hs:HL)(hv:(s.r.val&&s.r.ok&&okΘ s.Θ&&s.r.names (idsT s.Θ).contains&&(idsT s.Θ).all fun N=>Nat.ble tbase N)=true)(hc:tst P f s.a=true)(hg:GJ (tp B L LE) s.a s.r s.Θ (mdl P f hs)=some s.fn):GoodT P B L ((f,s)::LE):=by
 obtain⟨k,h1,h2,h3⟩:=NC hs hc;exact h.addE f s _ h1 h2 hv h3 hg
theorem GoodT.hU{P:Program}{B:TB}{L:List (FuncId×Sig)}{LE:List (FuncId×AD)}(h:GoodT P B L LE){f:FuncId}{s:Sig}(hs:HL)(hv:(s.r.val&&s.r.ok&&s.r.names fun _=>false)=true)(hc:tst P f s.a=true){fn:D s.a→HS ([]:TC)→Option (D s.r×HS ([]:TC))}(hg:GJ (tp B L LE) s.a s.r [] (mdl P f hs)=some fn)(hfn:s.fn=fun x=>(fn x ()).map fun p=>p.1):GoodT P B ((f,s)::L) LE:=by
 obtain⟨k,h1,h2,h3⟩:=NC hs hc;exact h.addT f s _ h1 h2 hv h3 hg hfn
theorem RelL.ints{w:World}{M:MM}{k:IntKind}:∀{zs:List Int} {vs:List Value},RelL w M (zs.map fun z=>.int k z) vs→vs=zs.map fun z=>Value.int k z
 | [],vs,h=>by unfold RelL at h;exact h
 |z::zs,vs,h=>by
  simp only[List.map_cons]at h;unfold RelL at h;obtain⟨v,vs',rfl,h1,h2⟩:=h;unfold RelC at h1;rw[h1,RelL.ints h2];rfl
theorem GOk.tab{P:Program}{G:Nat→List CV}{w:World}{M:MM}(h:GOk G w M){name:String}{k:IntKind}{zs:List Int}{g:Nat}(hg:P.globalNamed name=some g)(hG:G g=zs.map fun z=>.int k z)(hz:zs≠ []):Lib.TabIs P w name k zs:=by
 obtain⟨h1,cs,t,fr,h2,h3⟩:=h g (by rw[hG];simpa using hz);rw[hG]at h1 h3;unfold RelC at h1;obtain⟨ad,vs,e,_,_,hl,hc⟩:=h1;cases e;have hv:=RelL.ints hl;subst hv;unfold Lib.TabIs World.var?;rw[hg];simp only[Option.bind_some,h2,Ac];apply Array.ext_getElem?;intro i;by_cases hi:i<zs.length
 ·have:=hc i (.int k zs[i]) (by simp[hi])
  have e2:(({block:=g,off:=0,spot:=none}:Addr).add i)={block:=g,off:=i,spot:=none}:=by
   unfold Addr.add;by_cases h0:i=0<;>simp[h0]
  rw[e2]at this;simp only[World.cell?,h2]at this;rw[show(cs[i]? =some (Value.int k zs[i]))from by simpa using this];simp[hi]
 ·rw[Array.getElem?_eq_none (by simp at h3;omega),Array.getElem?_eq_none (by simp;omega)]
def FE:Int×Int→Option (List UInt8):=fun x=>if x.2=10∧0≤x.1∧x.1<18446744073709551616 then some (Lib.itoa x.1)else none
theorem WG{P:Program}{B:TB}{f g:Nat}(hb:hasBody P f=true)(hg:P.globalNamed "internal/strconv.uint64pow10" =some g)(hG:B.G g=Lib.pow10Tab.map fun z=>.int .u64 z)
  (hc:∀(n:Nat) (_:n<18446744073709551616) (w:World) (_:Lib.TabIs P w "internal/strconv.uint64pow10" .u64 Lib.pow10Tab),Calls P f #[.int .u64 (n:Int),.int .i64 10] w fun e w'=>e=.returned (.string ⟨(Lib.itoa (n:Int)).toArray⟩)∧∃k os,w'=Sort.grow (w.drewN k) os)
  {x:D (.cons (.int .u64) (.one (.int .i64)))} {l:List CV} {y:D .str} (hx:Can (.cons (.int .u64) (.one (.int .i64))) x l) (hy:FE x=some y):hasBody P f=true∧CallsTo P B.G f l (.val (enc .str y)):=by
 refine⟨hb,fun w M vs hM hGk hL=> ?_⟩;obtain⟨n,b⟩:=x;simp only[FE]at hy;split at hy
 ·rename_i h;obtain⟨rfl,h0,h1⟩:=h;obtain⟨m,rfl⟩:=Int.eq_ofNat_of_zero_le h0;cases hy;unfold Can at hx;obtain⟨c,l',rfl,h2,h3⟩:=hx;unfold Can at h2 h3;obtain⟨c',rfl,h3⟩:=h3;unfold Can at h3;cases h2;cases h3;unfold RelL RelC at hL;obtain⟨v,vs',rfl,rfl,hL⟩:=hL;unfold RelL RelC at hL;obtain⟨v,vs',rfl,rfl,hL⟩:=hL;unfold RelL at hL;subst hL;refine(hc m (by omega) w (hGk.tab hg hG (by simp[Lib.pow10Tab]))).mono fun e w' he=> ?_;obtain⟨rfl,k,os,rfl⟩:=he;refine⟨_,rfl,Lib.below_grow _ _ (Nat.le_refl _) _ _, ?_⟩;simp[DS,enc,Au,RelC]
 ·cases hy
theorem Rd{w:World}{M:MM}{x:D (.cons .str (.one .str))}{l:List CV}{vs:List Value}(hx:Can (.cons .str (.one .str)) x l)(hL:RelL w M l vs):vs= [.string ⟨⟨x.1⟩⟩,.string ⟨⟨x.2⟩⟩]:=by
 obtain⟨s,b⟩:=x;unfold Can at hx;obtain⟨c1,l',rfl,h2,h3⟩:=hx;unfold Can at h2 h3;obtain⟨c',rfl,h3⟩:=h3;unfold Can at h3;cases h2;cases h3;unfold RelL RelC at hL;obtain⟨v,vs',rfl,rfl,hL⟩:=hL;unfold RelL RelC at hL;obtain⟨v,vs',rfl,rfl,hL⟩:=hL;unfold RelL at hL;subst hL;rfl
theorem Qc{P:Program}{w:World}:∀{l:List (String×DataW Unit)} {ps:List MemPlace},DataW.LaidVars P w l ps→∀{name:String} {d:DataW Unit},(name,d)∈l→∃g t cs fuel p,P.globalNamed name=some g∧(P.globals[g]?).map (·.type)=some t∧w.var? P name=some cs∧DataW.trod (fun _=>()) P w 0 (fun _=>true) false fuel t cs.toList=some (d,p)
 | [],_,_,_,_,hm=>by cases hm
 |(n,d)::l,ps,h,name,d',hm=>by
  obtain⟨g,t,cs,fuel,p,q,h1,h2,h3,h4,h5,h6⟩:=h;rcases List.mem_cons.1 hm with e|hm
  ·cases e;exact⟨g,t,cs,fuel,p,h1,h2,h3,h4⟩
  ·exact Qc h5 hm
theorem tabIs_of_mem{P:Program}{W:World}{l:List (String×DataW Unit)}{name:String}{k:IntKind}{zs:List Int}{g:Nat}{t e:TypeId}{n:Nat}(hm:(name,Lib.tabData k zs)∈l)
  (hg:P.globalNamed name=some g) (hty:(P.globals[g]?).map (·.type)=some t) (ht:P.underlying t=some (.array n e)) (he:P.underlying e=some (.int k)) (hce:P.cellsOf e=1) (hct:P.cellsOf t=n)
  (h:laidMet P l W):Lib.TabIs P W name k zs:=by
 obtain⟨ps,h1,_,_⟩:=h;obtain⟨g',t',cs,fuel,p,hg',ht',hvar,hd⟩:=Qc h1 hm;obtain rfl:=Option.some.inj (hg.symm.trans hg');obtain rfl:=Option.some.inj (hty.symm.trans ht');unfold Lib.TabIs;rw[hvar,←Lib.cells_of_tab ht he hce hct hd]
def Om(w:World)(g:Nat)(vs:List Value):Prop:=∃t fr,w.heap[g]? =some (.cells ⟨vs⟩ t fr)
theorem WX{P:Program}{w:World}{name:String}{g:Nat}{vs:List Value}(hg:P.globalNamed name=some g)(h:w.var? P name=some ⟨vs⟩):Om w g vs:=by
 unfold World.var? at h;rw[hg]at h;simp only[Option.bind_some]at h;split at h<;>(try cases h;done);rename_i cs t fr hh;cases h;exact⟨t,fr,hh⟩
theorem GOk.one{w:World}{g:Nat}{cvs:List CV}{vs:List Value}(h:Om w g vs)(hr:RelL w noM cvs vs)(hn:noNamL (fun _=>false) cvs=true):
  RelC w noM (.rp cvs) (.pointer (some ⟨g,0,none⟩))∧∃cs t fr,w.heap[g]? =some (.cells cs t fr)∧cs.size=cvs.length∧noNamL (fun _=>false) cvs=true:=by
 obtain⟨t,fr,hh⟩:=h;refine⟨?_,⟨vs⟩,t,fr,hh,by simp[hr.length],hn⟩;unfold RelC;refine⟨⟨g,0,none⟩,vs,rfl,heap_lt hh,fun hh=>hh,hr,fun j u hu=> ?_⟩
 have e2:(({block:=g,off:=0,spot:=none}:Addr).add j)={block:=g,off:=j,spot:=none}:=by
  unfold Addr.add;by_cases h0:j=0<;>simp[h0]
 rw[e2];simp only[World.cell?,hh];simpa using hu
theorem Rb{w:World}{M:MM}{k:IntKind}:∀(zs:List Int),RelL w M (zs.map fun z=>.int k z) (zs.map fun z=>Value.int k z)
 | []=>RelL.nil
 |z::zs=>RelL.cons (by unfold RelC;rfl) (Rb zs)
theorem Q9{k:IntKind}:∀(zs:List Int),noNamL (fun _=>false) (zs.map fun z=>CV.int k z)=true
 | []=>rfl
 |z::zs=>by simp only[List.map_cons,noNamL,AJ,Q9 zs,Bool.and_self]
theorem GOk.ints{P:Program}{w:World}{name:String}{g:Nat}{k:IntKind}{zs:List Int}(hg:P.globalNamed name=some g)(h:Lib.TabIs P w name k zs):
  RelC w noM (.rp (zs.map fun z=>.int k z)) (.pointer (some ⟨g,0,none⟩))∧∃cs t fr,w.heap[g]? =some (.cells cs t fr)∧cs.size=(zs.map fun z=>CV.int k z).length∧noNamL (fun _=>false) (zs.map fun z=>CV.int k z)=true:=
 GOk.one (WX hg h) (Rb zs) (Q9 zs)
end WB
namespace WB
open Go Go.RowKit Go.Maps
open Go.WideElems (Fit rd rg)
open Go.MapKept (Stamped)
open Go.WideMaps (keyOf_string_mk)
end WB
namespace WB
open Go Go.RowKit Go.ChangeShapes Go.WideShapes Go.Deep
def InR:(t:Ty)→D t→Prop
 | .int k,n=>k.min≤(n:Int)∧(n:Int)≤k.max
 | .str,s=>(s:List UInt8).length≤9223372036854775807
 | .sl e,xs=>(xs:List (D e)).length≤9223372036854775807∧∀x∈(xs:List (D e)),InR e x
 | .agg r,x=>InR r x
 | .one t,x=>InR t x
 | .cons t r,x=>InR t x.1∧InR r x.2
 |_,_=>True
def Gd(P:Program)(t:TypeId):Bool:=
 match P.underlying t with
 |some (.struct _)|some (.array _ _)=>true
 |_=>false
def ID(P:Program)(t:TypeId)(r:Ty):Option Ty:=
 if Gd P t then some (.agg r)else match r with
  | .one t=>if Ef t=true then some t else none
  |_=>none
section
variable (P:Program)
def Gu(r:Ty):Nat→Ty
 |0=>.nil
 |n+1=>(Be r (Gu r n)).1
def I0(R:TypeId→Option Ty):List Field→Nat→Option Ty
 | [],_=>some .nil
 |f::fs,off=>(R f.type).bind fun r=>(I0 R fs (off+P.cellsOf f.type)).bind fun q=>if f.offset=off∧A7 r=some (P.cellsOf f.type)then some (Be r q).1 else none
def Ht:Nat→TypeId→Option Ty
 |0,_=>none
 |n+1,t=>match P.underlying t with
  |some (.int k)=>some (.one (.int k))
  |some .bool=>some (.one .bool)
  |some .string=>some (.one .str)
  |some (.slice e)=>(Ht n e).bind fun r=>(ID P e r).bind fun te=>if te.val=true∧A7 (BD te)=some (P.cellsOf e)∧0<P.cellsOf e then some (.one (.sl te))else none
  |some (.struct fs)=>(I0 P (Ht n) fs.toList 0).bind fun r=>if A7 r=some (P.cellsOf t)then some r else none
  |some (.array m e)=>(Ht n e).bind fun r=>if A7 r=some (P.cellsOf e)∧A7 (Gu r m)=some (P.cellsOf t)then some (Gu r m)else none
  |_=>none
end
theorem NR:∀{r s:Ty} {n:Nat} {x:D r} {y:D s},A7 r=some n→InR r x→InR s y→InR (Be r s).1 ((Be r s).2 x y):=by
 intro r
 induction r with
 |nil=>intro s n x y _ _ h;exact h
 |one t _=>
  intro s n x y _ h k;cases s
  case nil=>exact h
  all_goals exact⟨h,k⟩
 |cons t r _ ihr=>
  intro s n x y hn h k;simp only[A7,Aa]at hn;obtain⟨n',hn,_⟩:=hn;exact⟨h.1,ihr hn h.2 k⟩
 |_=>intro s n x y hn;cases hn
section
variable {H:Type} {enc:TypeId×Value→H} {P:Program} {w:World} {base:Nat} {spare:Nat→Bool} {held:Bool}
theorem QF{t:TypeId}{r te:Ty}{x:D r}{cvs:List CV}{cs:List Value}(hv:ID P t r=some te)(hl:Gd P t=false→cs.length=1)(hc:Can r x cvs)(hr:RelL w noM cvs cs)(hi:InR r x):
  ∃(y:D te) (c:CV) (v:Value),Can te y [c]∧RelC w noM c v∧v.cells.toList=cs∧InR te y:=by
 unfold ID at hv;split at hv
 ·cases hv;exact⟨x,.agg cvs,.agg ⟨cs⟩,by unfold Can;exact⟨_,rfl,hc⟩,by unfold RelC;exact⟨_,rfl,hr⟩,rfl,hi⟩
 ·rename_i ha;have hl:=hl (by simpa using ha);split at hv<;>(try cases hv;done);split at hv<;>(try cases hv;done);rename_i ho;cases hv;unfold Can at hc;obtain⟨c,rfl,hc⟩:=hc;unfold RelL at hr;obtain⟨v,vs,rfl,h1,h2⟩:=hr;unfold RelL at h2;subst h2;refine⟨x,c,v,hc,h1, ?_,hi⟩;rw[MH h1 (fun cs e=>by have:=F5 ho hc;rw[e]at this;cases this)]
theorem QK{r:Ty}{k:Nat}(hk:A7 r=some k){cs:List Value}:∀{m j:Nat},(∀i,j≤i→i<j+m→∃(x:D r) (cvs:List CV),Can r x cvs∧RelL w noM cvs ((cs.drop (i*k)).take k)∧InR r x)→
  ∃(x:D (Gu r m)) (cvs:List CV),Can (Gu r m) x cvs∧RelL w noM cvs ((cs.drop (j*k)).take (m*k))∧InR (Gu r m) x
 |0,j,_=>⟨(),[],rfl,by simp only[Nat.zero_mul,List.take_zero];exact RelL.nil,trivial⟩
 |m+1,j,h=>by
  obtain⟨x,cvs,h1,h2,h3⟩:=h j (Nat.le_refl _) (by omega);obtain⟨y,dvs,g1,g2,g3⟩:=QK hk (m:=m) (j:=j+1) (cs:=cs) (fun i h4 h5=>h i (by omega) (by omega));refine⟨(Be r (Gu r m)).2 x y,cvs++dvs,G3 hk h1 g1, ?_,NR hk h3 g3⟩
  have e:(cs.drop (j*k)).take ((m+1)*k)=(cs.drop (j*k)).take k++(cs.drop ((j+1)*k)).take (m*k):=by
   rw[Nat.add_mul,Nat.one_mul,Nat.add_comm (m*k) k,List.take_add,List.drop_drop,Nat.add_mul,Nat.one_mul]
  rw[e];exact RelL.append h2 g2
theorem X9{k:IntKind}{n:Int}(h:(Lit.int k n).wf=true):k.min≤n∧n≤k.max:=by
 simpa[Lit.wf]using h
theorem Uh{α β:Type}{p:Nat→α→β→Prop}:∀(n:Nat),(∀i,i<n→∃x y,p i x y)→∃(l:List α) (m:List β),l.length=n∧m.length=n∧∀(i:Nat) x y,l[i]? =some x→m[i]? =some y→p i x y:=by
 intro n h;obtain⟨l,hl,hp⟩:=P6 (p:=fun i (z:α×β)=>p i z.1 z.2) n (fun i hi=>by obtain⟨x,y,h⟩:=h i hi;exact⟨(x,y),h⟩);refine⟨l.map (·.1),l.map (·.2),by simp[hl],by simp[hl],fun i x y h1 h2=> ?_⟩;rw[List.getElem?_map,Aa]at h1 h2;obtain⟨z,hz,rfl⟩:=h1;obtain⟨z',hz',rfl⟩:=h2;rw[hz]at hz';cases hz';exact hp i z hz
theorem NK{α β:Type}{R:α→β→Prop}:∀{as:List α} {bs:List β},as.length=bs.length→(∀(i:Nat) a b,as[i]? =some a→bs[i]? =some b→R a b)→Ap R as bs
 | [],[],_,_=>rfl
 | [],_::_,h,_=>by cases h
 |_::_,[],h,_=>by cases h
 |a::as,b::bs,h,hr=>⟨b,bs,rfl,hr 0 a b rfl rfl,NK (by simpa using h) fun i x y h1 h2=>hr (i+1) x y (by simpa using h1) (by simpa using h2)⟩
theorem QL{R:TypeId→Option Ty}(hR:∀{t:TypeId} {r:Ty} {fuel:Nat} {cs:List Value} {y:DataW H×List MemPlace},R t=some r→DataW.trod enc P w base spare held fuel t cs=some y→∃(x:D r) (cvs:List CV),Can r x cvs∧RelL w noM cvs cs∧InR r x):∀{fs:List Field} {off:Nat} {r:Ty} {cs:List Value},I0 P R fs off=some r→(∀f∈fs,∃fuel y,DataW.trod enc P w base spare held fuel f.type ((cs.drop f.offset).take (P.cellsOf f.type))=some y)→
  ∃(x:D r) (cvs:List CV),Can r x cvs∧RelL w noM cvs ((cs.drop off).take cvs.length)∧InR r x
 | [],off,r,cs,h,_=>by
  unfold I0 at h;cases h;exact⟨(),[],rfl,by simp only[List.length_nil,List.take_zero];exact RelL.nil,trivial⟩
 |f::fs,off,r,cs,h,hd=>by
  unfold I0 at h;obtain⟨r',h1,h⟩:=Ab.1 h;obtain⟨q,h2,h⟩:=Ab.1 h;split at h<;>(try cases h;done);rename_i hh;obtain⟨hoff,hlen⟩:=hh;cases h;obtain⟨fuel,y,hy⟩:=hd f (by simp);obtain⟨x,cvs,g1,g2,g3⟩:=hR h1 hy;obtain⟨x',cvs',k1,k2,k3⟩:=QL hR (cs:=cs) h2 (fun f' hf'=>hd f' (by simp[hf']));refine⟨(Be r' q).2 x x',cvs++cvs',G3 hlen g1 k1, ?_,NR hlen g3 k3⟩;have hl:=DF hlen g1;rw[hoff,←hl]at g2;rw[←hl]at k2;rw[List.length_append,List.take_add,List.drop_drop];exact RelL.append g2 k2
theorem JT:∀{n:Nat} {t:TypeId} {r:Ty} {fuel:Nat} {cs:List Value} {y:DataW H×List MemPlace},Ht P n t=some r→DataW.trod enc P w base spare held fuel t cs=some y→(Gd P t=false→cs.length=1)∧∃(x:D r) (cvs:List CV),Can r x cvs∧RelL w noM cvs cs∧InR r x
 |0,_,_,_,_,_,h,_=>by cases h
 |n+1,t,r,fuel,cs,y,h,hd=>by
  unfold Ht at h;split at h
  ·rename_i k ht;cases h;obtain⟨m,rfl,_,hw⟩:=DataW.trod_int ht hd;exact⟨fun _=>rfl,m,[.int k m],⟨_,rfl,rfl⟩,RelL.cons rfl RelL.nil,X9 hw⟩
  ·rename_i ht;cases h;obtain⟨b,rfl,_⟩:=DataW.trod_bool ht hd;exact⟨fun _=>rfl,b,[.bool b],⟨_,rfl,rfl⟩,RelL.cons rfl RelL.nil,trivial⟩
  ·rename_i ht;cases h;obtain⟨s,rfl,_,hs⟩:=DataW.trod_string ht hd;refine⟨fun _=>rfl,s.data.toList,[.str s.data.toList],⟨_,rfl,rfl⟩,RelL.cons rfl RelL.nil, ?_⟩;have h9:s.size≤9223372036854775807:=hs;show s.data.toList.length≤9223372036854775807;rw[Array.length_toList];exact h9
  ·rename_i e ht;obtain⟨r',h1,h⟩:=Ab.1 h;obtain⟨te,h2,h⟩:=Ab.1 h;split at h<;>(try cases h;done);rename_i hh;obtain⟨hv,hlen,hpos⟩:=hh;cases h;rcases open_slice ht hd with⟨h0,_⟩|⟨a,len,cap,m,n',D',Pl,hcs,hb,hl,hm,hmm,hx,hi⟩
   ·subst h0;refine⟨fun _=>rfl,[],[.sl (some true) []],⟨_,rfl,_,_,rfl,rfl⟩,RelL.cons ?_ RelL.nil,by simp[InR]⟩;unfold RelC;exact⟨none,0,0,rfl,rfl,Nat.le_refl _,fun _=>rfl,(fun hh=>by cases hh),fun _=>rfl,fun hh=>absurd rfl hh⟩
   ·subst hcs
    have hel:∀i,i<len→∃(z:D te) (c:CV),(Can te z [c]∧InR te z)∧∃v,RelC w noM c v∧v.cells.size=P.cellsOf e∧∀(j:Nat) u,v.cells[j]? =some u→w.cell? (a.add (i*P.cellsOf e+j))=some u:=by
     intro i hil;obtain⟨cs',hc,ht'⟩:=hi i (by rw[hmm];split<;>omega);obtain⟨_,hcl,hat⟩:=World.cells?_some hc;obtain⟨g0,x,cvs,g1,g2,g3⟩:=JT h1 ht';obtain⟨z,c,v,k1,k2,k3,k4⟩:=QF h2 g0 g1 g2 g3;refine⟨z,c,⟨k1,k4⟩,v,k2,by rw[←hcl,←k3];simp,fun j u hu=> ?_⟩
     have hj:j<P.cellsOf e:=by
      have:=(Array.getElem?_eq_some_iff.1 hu).1;rw[←hcl,←k3];simpa using this
     rw[←WB.G2,hat j hj,←k3];simpa using hu
    obtain⟨zs,es,e1,e2,hp⟩:=Uh len hel;refine⟨fun _=>rfl,zs,[.sl (some false) es],⟨_,rfl,_,_,rfl,NK (by omega) fun i z c h3 h4=>(hp i z c h3 h4).1.1⟩,RelL.cons ?_ RelL.nil,⟨?_,fun z hz=> ?_⟩⟩
    ·unfold RelC;refine⟨some a,len,cap,rfl,by omega,hl,(fun hh=>by cases hh),(fun _=>by simp),(fun hh=>by cases hh),fun hne=> ?_⟩;refine⟨a,P.cellsOf e,rfl, ?_,fun hh=>hh,Fj fun k el hel'=> ?_⟩
     ·have hlen0:0<len:=by
       rcases Nat.eq_zero_or_pos len with h0|h0
       ·exact absurd (List.eq_nil_of_length_eq_zero (by omega)) hne
       ·exact h0
      obtain⟨cs',hc,_⟩:=hi 0 (by rw[hmm];split<;>omega);obtain⟨_,hcl,hat⟩:=World.cells?_some hc;have h5:=hat 0 hpos;rw[Ai (by omega)]at h5;have h6:=Ls h5;rw[CS,CS]at h6;exact h6
     ·have hk:k<len:=by have:=(Ae.1 hel').1;omega
      have hz:zs[k]? =some (zs[k]'(by omega)):=Ai _;obtain⟨v,k1,k2,k3⟩:=(hp k _ el hz hel').2;exact⟨v,k1,k2,fun j u hu=>by simpa using k3 j u hu⟩
    ·have:cap≤9223372036854775807:=hm;omega
    ·obtain⟨i,hi'⟩:=List.getElem?_of_mem hz;have hlt:=(Ae.1 hi').1;exact(hp i z (es[i]'(by omega)) hi' (Ai _)).1.2
  ·rename_i fs ht;obtain⟨r',h1,h⟩:=Ab.1 h;split at h<;>(try cases h;done);rename_i hlen;cases h;obtain⟨ys,n',_,_,hcl,hyl,hg⟩:=DataW.trod_struct ht hd;refine⟨fun ha=>by simp[Gd,ht]at ha, ?_⟩
   obtain⟨x,cvs,g1,g2,g3⟩:=QL (fun h3 h4=>(JT h3 h4).2) (cs:=cs) h1 (fun f hf=>by
    obtain⟨i,hi⟩:=List.getElem?_of_mem hf;have h2:=hg i f (by simpa using hi);have hi':=(Ae.1 hi).1;rw[Ai (show i<ys.length by rw[hyl];simpa using hi')]at h2
    exact⟨_,_,h2⟩)
   have hl2:=DF hlen g1;have hl3:=g2.length;have hl4:(cs.take cvs.length)=cs:=List.take_of_length_le (by omega);rw[List.drop_zero,hl4]at g2;exact⟨x,cvs,g1,g2,g3⟩
  ·rename_i m e ht;obtain⟨r',h1,h⟩:=Ab.1 h;split at h<;>(try cases h;done);rename_i hlen;cases h;obtain⟨ys,n',_,_,hcl,hyl,hg⟩:=DataW.trod_array ht hd;refine⟨fun ha=>by simp[Gd,ht]at ha, ?_⟩
   obtain⟨x,cvs,g1,g2,g3⟩:=QK (w:=w) hlen.1 (cs:=cs) (m:=m) (j:=0) (fun i _ hi=>by
    have h2:=hg i (by omega);rw[Ai (show i<ys.length by omega)]at h2
    exact(JT h1 h2).2)
   have hl2:=DF hlen.2 g1;have hl3:=g2.length;simp only[Nat.zero_mul,List.drop_zero,List.length_take]at hl3 g2;have hl4:(cs.take (m*P.cellsOf e))=cs:=List.take_of_length_le (by omega);rw[hl4]at g2;exact⟨x,cvs,g1,g2,g3⟩
  ·cases h
def KR(P:Program)(n:Nat)(t:TypeId):Option Ty:=(Ht P n t).bind fun r=>(ID P t r).bind fun te=>if te.val=true then some te else none
theorem QM{n:Nat}{t:TypeId}{te:Ty}{r:Reach}{b0:Nat}{v:Value}{d:DataW H}{p:List MemPlace}(ht:KR P n t=some te)(hv:Value.okWide P w r b0 t v)(hd:DataW.Trod enc P w base spare held t v d p):
  ∃(x:D te) (c:CV),Can te x [c]∧RelC w noM c v∧InR te x:=by
 unfold KR at ht;obtain⟨r',h1,ht⟩:=Ab.1 ht;obtain⟨te',h2,ht⟩:=Ab.1 ht;split at ht<;>(try cases ht;done);cases ht;obtain⟨fuel,hd⟩:=hd;obtain⟨g0,x,cvs,g1,g2,g3⟩:=JT h1 hd;obtain⟨z,c,v',k1,k2,k3,k4⟩:=QF h2 g0 g1 g2 g3;refine⟨z,c,k1, ?_,k4⟩;unfold ID at h2;split at h2
 ·rename_i ha
  have hagg:∃cs,v=.agg cs:=by
   unfold Gd at ha;split at ha<;>(try cases ha;done)
   all_goals
    rename_i ht;simp only[Value.okWide,ht]at hv;obtain⟨cs,h,_⟩:=hv;exact⟨cs,h⟩
  obtain⟨cs,rfl⟩:=hagg;have ht':te=.agg r':=by cases h2;rfl
  subst ht';unfold Can at k1;obtain⟨l,e,_⟩:=k1;cases e;unfold RelC at k2⊢;obtain⟨vs,e,hl⟩:=k2;subst e;refine⟨vs, ?_,hl⟩;have:vs=cs.toList:=by simpa[Value.cells]using k3
  rw[this]
 ·rename_i ha;split at h2<;>(try cases h2;done);split at h2<;>(try cases h2;done);rename_i ho;cases h2;have e:=MH k2 (fun cs e=>by have:=F5 ho k1;rw[e]at this;cases this);rw[e]at k3
  have hl:v.cells= #[v']:=by
   apply Array.toList_inj.1;rw[←k3]
  have:v=v':=by
   cases v with
   |agg cs=>
    exfalso;unfold Gd at ha;unfold Value.okWide at hv;split at hv
    all_goals first
     |(rename_i hh;rw[hh]at ha;exact ha rfl)
     |(rename_i hn1 hn2
       revert hv;simp only[Cell.okWide,Cell.ok]
       split<;>simp_all)
   |_=>simpa[Value.cells]using hl
  rw[this];exact k2
def IN(P:Program)(n:Nat):List TypeId→Option Ty
 | []=>some .nil
 | [t]=>(KR P n t).map .one
 |t::u::ts=>(KR P n t).bind fun te=>(IN P n (u::ts)).map fun r=>.cons te r
theorem QJ{n:Nat}{r:Reach}{b0:Nat}:∀{ts:List TypeId} {a:Ty} {vs:List Value} {ds:List (DataW H)} {ps:List MemPlace},IN P n ts=some a→(∀(j:Nat) t v,ts[j]? =some t→vs[j]? =some v→Value.okWide P w r b0 t v)→DataW.TrodAll enc P w base spare held ts vs ds ps→
  ∃(x:D a) (l:List CV),Can a x l∧RelL w noM l vs∧InR a x
 | [],a,vs,ds,ps,ha,_,h=>by
  cases ha;obtain⟨rfl,rfl,rfl⟩:=trodAll_nil h;exact⟨(),[],rfl,RelL.nil,trivial⟩
 | [t],a,vs,ds,ps,ha,hv,h=>by
  obtain⟨te,h1,rfl⟩:=Aa.1 ha;obtain⟨v0,vs0,d0,ds0,p0,q0,rfl,rfl,rfl,h0,r0⟩:=trodAll_cons h;obtain⟨rfl,rfl,rfl⟩:=trodAll_nil r0;obtain⟨x,c,g1,g2,g3⟩:=QM h1 (hv 0 t v0 rfl rfl) h0;exact⟨x,[c],⟨c,rfl,g1⟩,RelL.cons g2 RelL.nil,g3⟩
 |t::u::ts,a,vs,ds,ps,ha,hv,h=>by
  obtain⟨te,h1,ha⟩:=Ab.1 ha;obtain⟨q,h2,rfl⟩:=Aa.1 ha;obtain⟨v0,vs0,d0,ds0,p0,q0,rfl,rfl,rfl,h0,r0⟩:=trodAll_cons h;obtain⟨x,c,g1,g2,g3⟩:=QM h1 (hv 0 t v0 rfl rfl) h0;obtain⟨x',l,k1,k2,k3⟩:=QJ h2 (fun j t' v' h3 h4=>hv (j+1) t' v' (by simpa using h3) (by simpa using h4)) r0;exact⟨(x,x'),c::l,⟨c,l,rfl,g1,k1⟩,RelL.cons g2 k2,g3,k3⟩
end
theorem Si{H:Type}{enc:TypeId×Value→H}{P:Program}{w:World}{base:Nat}{spare:Nat→Bool}{held:Bool}:∀{ts:List TypeId} {vs:List Value} {ds:List (DataW H)} {ps:List MemPlace},DataW.TrodAll enc P w base spare held ts vs ds ps→ds.length=ts.length
 | [],vs,ds,ps,h=>by
  obtain⟨rfl,rfl,rfl⟩:=trodAll_nil h;rfl
 |t::ts,vs,ds,ps,h=>by
  obtain⟨v0,vs0,d0,ds0,p0,q0,rfl,rfl,rfl,h0,r0⟩:=trodAll_cons h;simp[Si r0]
end WB
