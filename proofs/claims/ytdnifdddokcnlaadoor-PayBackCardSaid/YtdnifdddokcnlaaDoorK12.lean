/-
  OWN TEXTS, MERGED (wip/merge.py): LibBe, RShelf, FmtU. No condition of their own.
-/
import Derived.Test.YtdnifdddokcnlaaDoorK7
import Derived.Lib.FrozenHead
import Derived.Shelf.Strings.BuilderK
import Derived.Shelf.Strings.Builder1
import Derived.Shelf.Strings.Builder2
import Derived.Shelf.Strings.OnBuilder
import Derived.Shelf.Small.Wraps
import Derived.Shelf.Strings.BuilderF
import Derived.Shelf.Utf8.RuneCount
import Derived.Shelf.Strings.Builder2Cap
import Derived.Shelf.Strconv.Itoa0
import Derived.Shelf.Strconv.Itoa1
import Derived.Shelf.LaysM
import Derived.Shelf.Strconv.Itoa2
import Derived.Shelf.Strconv.Itoa3
import Derived.Shelf.Strconv.Clone
import Derived.Shelf.Strconv.SyntaxError
import Derived.Shelf.LaysC
import Derived.Shelf.Strconv.ToError
import Derived.Shelf.Strconv.Lower
import Derived.Shelf.Strconv.ParseUint10
import Derived.Shelf.Strconv.ParseUint10Empty
import Derived.Shelf.Strconv.ParseUint10Any
import Derived.Shelf.Strconv.RangeError
import Derived.Shelf.Strconv.ToErrorRange
import Derived.Shelf.Strconv.ParseUintEmpty
import Derived.Shelf.Strconv.ParseUint10b64
import Derived.Shelf.Strconv.ParseUint10b32
import Derived.Shelf.Strconv.ParseUint10b16
import Derived.Shelf.Strconv.ParseUint10b8
import Derived.Shelf.Strconv.ParseUint10At
import Derived.Ground.MpProg
import Derived.Shelf.Pu.ParseUintPublic10
import Derived.Shelf.Strings.Search1
import Derived.Shelf.Strings.Search2
import Derived.Shelf.Strings.Search3
import Derived.Shelf.Strings.Count
import Derived.Shelf.Strings.Shaped
import Derived.Shelf.Strings.Prefix
import Derived.Shelf.Strings.Split
import Derived.Shelf.Strings.SplitShaped
import Derived.Shelf.Unicode.Decode
import Derived.Shelf.Strings.RuneCount
import Derived.Shelf.Strings.Explode
import Derived.Shelf.Unicode.DecodeSlow
import Derived.Shelf.Unicode.DecodeAny
import Derived.Shelf.Strings.BuilderCap
import Derived.Shelf.Slices.Turned
import Derived.KernelRfl
import Derived.Test.YtdnifdddokcnlaaDoorProg
import Derived.Lib.Walk
import Derived.Lib.ItoaMem
import Derived.WalkKit
import Derived.BigCall
import Derived.BigGuard
set_option linter.unusedVariables false
set_option linter.unusedSimpArgs false
namespace WB
open Go Go.RowKit Go.Lib
section
variable {P:Program} (w:World)
theorem run_app3(base:Nat)(t u ty e:TypeId)(i:TypeInfo)(ht:P.underlying t=some (.slice e))(hu:P.underlying u=some .string)(hi:P.info? e=some i)(hz:i.zero=some (.int .u8 0))
  (hsize:i.size=1) (hby:i.bytes=1) (v:Value) (n:Nat) (xs:List Value) (hown:w.ownsRowF base e 1 v n xs) (s:ByteArray) (hbytes:n+s.size≤140737488355328) (hbase:base≤w.heap.size):
  ∃v' w',(Builtin.append_ #[t,u] ty #[v,.string s]).run P w=.ok v' w'∧w'.ownsRowF base e 1 v' (n+s.size) (xs++strCells s)∧w.grownBy w' v.ownBlock∧
   ∀g,v'.ownBlock=some g→v.ownBlock=some g∨w.heap.size≤g:=by
 have h63:n+s.size≤maxLen:=by unfold maxLen;omega
 rcases hown.2 with⟨rfl,rfl⟩|⟨g,cap,cur,fz,rfl,hbg,hg,hfz,hnc,hcm,hcs,htake⟩
 ·obtain⟨v',w',h1,h2,h3,_⟩:=run_append_own_string (P:=P) w w.heap.size t u ty e i ht hu hi hz hsize hby (.slice none 0 0) 0 xs ⟨hown.1,.inl ⟨rfl,rfl⟩⟩ s h63 hbytes (Nat.le_refl _);have h4:=World.ownsRowF_of h2;refine⟨v',w',h1,⟨h4.1, ?_⟩,h3,fun g hg=>.inr (World.ownsRowF.lt h4 g hg).1⟩;rcases h4.2 with hn|⟨g,cap,cur,fz,e1,e2,r⟩
  ·exact .inl hn
  ·exact .inr ⟨g,cap,cur,fz,e1,Nat.le_trans hbase e2,r⟩
 ·have hxl:xs.length=n:=by simpa using hown.1
  have hlen:(xs++strCells s).length=(n+s.size)*1:=by rw[List.length_append,hxl,strCells_length,Nat.mul_one]
  by_cases hroom:n+s.size≤cap
  ·have hcs':cur.size=cap:=by simpa using hcs
   have hr:=run_append_room_stringF (P:=P) w t u ty e i ht hu hi hsize g n cap cur fz hg (by simpa using hfz) s hroom (by omega);refine⟨_,_,hr,⟨hlen,.inr ⟨g,cap,_,fz,rfl,hbg,setRow_heap w g cur _ e _ hg,by omega,hroom,hcm, ?_, ?_⟩⟩,⟨rfl,rfl,rfl,by simp,fun k _ hk=>setRow_other w g k _ (fun e=>hk (by simp[Value.ownBlock,e]))⟩,fun k hk=>.inl hk⟩
   ·simp only[List.size_toArray,List.length_append,List.length_take,List.length_drop,Array.length_toList,strCells_length];omega
   ·have ht':cur.toList.take n=xs:=by simpa using htake
    rw[ht',←hlen];exact List.take_left
  ·have holds:∀j u,xs[j]? =some u→w.cell? ((⟨g,0,none⟩:Addr).add j)=some u:=hown.cells (g:=g) rfl;have hr:=run_append_grow_string (P:=P) w t u ty e i (.int .u8 0) ht hu hi hz ⟨g,0,none⟩ n cap xs (by rw[hsize];simpa using hxl) holds s (by omega) (by omega) (by rw[hby];exact growslice_fits (by omega) (by omega));have hge:=grownCap_ge w (n+s.size) cap e;have hcm2:grownCap w (n+s.size) cap e≤maxLen:=grownCap_le_maxLen w (n+s.size) cap e h63;refine⟨_,_,hr,⟨hlen,.inr ⟨w.heap.size,_,_,(0,0),rfl,hbase,heap_alloc_new w.drew _,Nat.zero_le _,hge,hcm2, ?_, ?_⟩⟩,⟨rfl,rfl,rfl,by simp,fun k hk _=>by first|exact heap_alloc_old w.drew _ k hk|exact heap_alloc_old w.drew _ hk⟩,fun k hk=>.inr ?_⟩
   ·have hz1:(Value.int IntKind.u8 0).cells.size=1:=rfl;simp only[Array.size_append,List.size_toArray,size_zeroCells,hz1,hxl,strCells_length];omega
   ·simp only[Array.toList_append,List.append_assoc];rw[←List.append_assoc,←hlen];exact List.take_left
   ·simp only[Value.ownBlock,Option.some.injEq]at hk;omega
theorem wpList_app3{ops:Array Oper}{rest:List Oper}{o:Oper}{a:Act}{Q:Exit→Act→World→Prop}(hgd:o.guard=none)(sl x:Operand)(t u:TypeId)
  (ho:o.op=.call {callee:=.builtin .append,args:= #[sl,x],argTypes:= #[t,u]})
  (base:Nat) (e:TypeId) (i:TypeInfo) (ht:P.underlying t=some (.slice e)) (hu:P.underlying u=some .string) (hi:P.info? e=some i) (hz:i.zero=some (.int .u8 0))
  (hsize:i.size=1) (hby:i.bytes=1) (v:Value) (n:Nat) (xs:List Value) (hs:a.eval sl=v) (hown:w.ownsRowF base e 1 v n xs) (s:ByteArray) (hx:a.eval x=.string s)
  (hbytes:n+s.size≤140737488355328) (hbase:base≤w.heap.size)
  (h:∀v' w',w'.ownsRowF base e 1 v' (n+s.size) (xs++strCells s)→w.grownBy w' v.ownBlock→(∀g,v'.ownBlock=some g→v.ownBlock=some g∨w.heap.size≤g)→wpList P ops Q rest (a.put o.dst v') w'):wpList P ops Q (o::rest) a w:=by
 refine wpList_plain hgd fun K hK=> ?_;obtain⟨v',w',hr,h2,h3,h4⟩:=run_app3 (P:=P) w base t u o.type e i ht hu hi hz hsize hby v n xs hown s hbytes hbase;unfold Oper.wp execOp;simp only[ho,resolve,invoke,builtin,Sem.run_bind,Sem.run_pure,Result.andThen_ok,List.map_toArray,List.map_cons,List.map_nil,hs,hx,hr];exact hK _ _ (h v' w' h2 h3 h4)
end
end WB
namespace Go.Proofs
open Go.Shelf Go.RowKit
variable {P:Program} {ρ:Ren}
set_option maxHeartbeats 1000000 in
set_option maxRecDepth 100000 in
theorem Any.copyCheckT(L:Lays.n240 P ρ)(X:Builder.X72 P ρ)(T:TypeId)(hT:liesAt P P.depth T (2/P.cellsOf T) 0 (ρ.t 72) 1=true)(b:Nat)(w:World)(h0:w.cell? ⟨b,0,none⟩=some (.pointer none))(hsh:w.shape? b=some (T,2))(hfz:w.frozen? ⟨b,0,none⟩=false):
  Calls P (ρ.f 240) #[.pointer (some ⟨b,0,none⟩)] w fun e w'=>e=.returned (.tuple #[])∧w'=w.setCell ⟨b,0,none⟩ (.pointer (some ⟨b,0,none⟩)):=by
 obtain⟨j,hj,hjs⟩:=Option.map_eq_some_iff.1 X.sizeBuilder;have mixed:=L.mixed;have t72:=L.t72;have a72:=L.a72;have z72:=L.z72;have v72:=L.v72;have u72:=run_underlying L.t72;have t70:=L.t70;have a70:=L.a70;have z70:=L.z70;have v70:=L.v70;have u70:=run_underlying L.t70;have t9:=L.t9;have a9:=L.a9;have z9:=L.z9;have v9:=L.v9;have u9:=run_underlying L.t9;have t4:=L.t4;have a4:=L.a4;have z4:=L.z4;have v4:=L.v4;have u4:=run_underlying L.t4;have t164:=L.t164;have a164:=L.a164;have z164:=L.z164;have v164:=L.v164;have u164:=run_underlying L.t164
 go_enter L.f240,Body.n240_ntmps ρ
 go_wp2
 rw[Lib.run_to_unsafe w ⟨b,0,none⟩ L.t70 L.t164 hj (by rw[hjs];decide) hsh (Nat.zero_lt_succ 1)];simp only[Result.andThen];rw[Oper.upon_value]
 go_wp2
 rw[run_callFunc_extern L.f276 (by kernel_rfl) (by kernel_rfl) (by kernel_rfl) (e:=Extern.AbiNoEscape.same) (by kernel_rfl)];rw[Lib.run_noEscape];simp only[Result.andThen];rw[Oper.upon_value]
 go_wp2
 rw[Lib.run_from_unsafe w ⟨b,0,none⟩ L.t164 L.t70 hj hsh hT];simp only[Result.andThen];rw[Oper.upon_value]
 go_wp2
 go_end0
 exact⟨rfl,rfl⟩
set_option maxHeartbeats 2000000 in
set_option maxRecDepth 100000 in
theorem Any.write_usedT(L:Lays.n166 P ρ)(X:Builder.Extra P ρ)(T:TypeId)(B b:Nat)(v:Value)(bs:List Value)(s:ByteArray)(w:World)(hB:B≤b)(hBw:B≤w.heap.size)(hbk:w.heap[b]? =some (.cells #[.pointer (some ⟨b,0,none⟩),v] T (0,0)))
  (hown:w.ownsRowF B (ρ.t 5) 1 v bs.length bs) (hne:v.ownBlock≠some b) (hlen:bs.length+s.size≤140737488355328) (w00:World)
  (hcc:∀W,W=w00→Calls P (ρ.f 240) #[.pointer (some ⟨b,0,none⟩)] W fun e w'=>e=.returned (.tuple #[])∧w'=w):
  Calls P (ρ.f 166) #[.pointer (some ⟨b,0,none⟩),.string s] w00 fun e w'=>e=.returned (.tuple #[.int .i64 s.size,.nilIface])∧∃v',w'.heap[b]? =some (.cells #[.pointer (some ⟨b,0,none⟩),v'] T (0,0))∧w'.ownsRowF B (ρ.t 5) 1 v' (bs.length+s.size) (bs++Lib.strCells s)∧
   v'.ownBlock≠some b∧(∀g,v'.ownBlock=some g→v.ownBlock=some g∨w.heap.size≤g)∧w'.os=w.os∧w'.tape=w.tape∧w'.output=w.output∧w.heap.size≤w'.heap.size∧∀g,g<w.heap.size→g≠b→v.ownBlock≠some g→w'.heap[g]? =w.heap[g]? :=by
 obtain⟨i0,hi,hz0,hz1,hz2⟩:=info_parts X.infoByte;have mixed:=L.mixed;have t72:=L.t72;have a72:=L.a72;have z72:=L.z72;have v72:=L.v72;have u72:=run_underlying L.t72;have t70:=L.t70;have a70:=L.a70;have z70:=L.z70;have v70:=L.v70;have u70:=run_underlying L.t70;have t37:=L.t37;have a37:=L.a37;have z37:=L.z37;have v37:=L.v37;have u37:=run_underlying L.t37;have t3:=L.t3;have a3:=L.a3;have z3:=L.z3;have v3:=L.v3;have u3:=run_underlying L.t3;have t9:=L.t9;have a9:=L.a9;have z9:=L.z9;have v9:=L.v9;have u9:=run_underlying L.t9;have t4:=L.t4;have a4:=L.a4;have z4:=L.z4;have v4:=L.v4;have u4:=run_underlying L.t4;have t164:=L.t164;have a164:=L.a164;have z164:=L.z164;have v164:=L.v164;have u164:=run_underlying L.t164;have t5:=X.t5;have a5:=X.a5;have z5:=X.z5;have v5:=X.v5;have u5:=run_underlying X.t5;have e240:∀args w,(callFunc (ρ.f 240) args).run P w=.ok (.enter (ρ.f 240) args) w:=enters_of L.f240 (by kernel_rfl) rfl
 have hlt:b<w.heap.size:=by
  rcases Nat.lt_or_ge b w.heap.size with h'|h'
  ·exact h'
  ·simp[Array.getElem?_eq_none h']at hbk
 have c0:w.cell? ⟨b,0,none⟩=some (.pointer (some ⟨b,0,none⟩)):=by rw[Lib.cell_of_heap hbk];rfl
 have c1:w.cell? ⟨b,1,none⟩=some v:=by rw[Lib.cell_of_heap hbk];rfl
 go_enter L.f166,Body.n166_ntmps ρ
 go_wp2_with (go_at_fn (ρ.f 240);refine(hcc _ rfl).mono ?_)
 rintro e w1 ⟨rfl,rfl⟩
 go_wp2_with (at_builtin;refine WB.wpList_app3 _ rfl _ _ (ρ.t 37) (ρ.t 9) rfl B (ρ.t 5) i0 L.t37 L.t9 hi hz0 hz1 hz2 _ _ _ rfl hown s rfl ?c4 hBw ?_)
 case c4=>omega
 intro v' w2 hown' hgrow hnew
 have hb2:w2.heap[b]? =some (.cells #[.pointer (some ⟨b,0,none⟩),v] T (0,0)):=by
  rw[hgrow.block b hlt (fun e=>hne e.symm)];exact hbk
 have d0:w2.cell? ⟨b,0,none⟩=some (.pointer (some ⟨b,0,none⟩)):=by rw[Lib.cell_of_heap hb2];rfl
 have d1:w2.cell? ⟨b,1,none⟩=some v:=by rw[Lib.cell_of_heap hb2];rfl
 have f1:w2.frozen? ⟨b,1,none⟩=false:=Lib.frozen_of_heap hb2 1
 obtain⟨ao,n',cap,rfl⟩:∃ao n' cap,v'=.slice ao n' cap:=by
  rcases hown'.2 with⟨hv,_⟩|⟨g,cap,cur,fz,hv,_⟩
  ·exact⟨_,_,_,hv⟩
  ·exact⟨_,_,_,hv⟩
 go_wp2
 go_ret2
 have hne':(Value.slice ao n' cap).ownBlock≠some b:=fun hh=>by
  rcases hnew b hh with h'|h'
  ·exact hne h'
  ·omega
 have hsz:(w2.setCell ⟨b,1,none⟩ (.slice ao n' cap)).heap.size=w2.heap.size:=by simp[World.setCell]
 refine⟨rfl,.slice ao n' cap, ?_, ?_,hne',hnew,hgrow.os,hgrow.tape,hgrow.output,by rw[hsz];exact hgrow.size,fun g hg h1 h2=> ?_⟩
 ·simp[World.setCell,Array.getElem?_modify,hb2]
 ·exact hown'.kept (row:=some b) ⟨rfl,rfl,rfl,by simp[World.setCell],fun k _ hk=>Below.heap_setCell _ _ _ _ (fun e=>hk (by simp[e]))⟩ (Or.inr hne')
 ·rw[Below.heap_setCell _ _ _ _ (fun e=>h1 (by simpa using e))];exact hgrow.block g hg (fun e=>h2 e.symm)
def StrLeft(w:World)(b:Nat)(p v:Value)(T e:TypeId)(l:List UInt8)(w':World):Prop:=
 w'.heap[b]? =some (.cells #[p,v] T (0,0))∧w'.ownsRowF 0 e 1 v l.length (Lib.byteCells l)∧w'.os=w.os∧w'.tape=w.tape∧w'.output=w.output∧w.heap.size≤w'.heap.size∧∀g,g<w.heap.size→v.ownBlock≠some g→w'.heap[g]? =w.heap[g]?
theorem freeze_other{w:World}{g:Nat}(k:Nat){j:Nat}(h:j≠g):(w.freeze ⟨g,0,none⟩ k).heap[j]? =w.heap[j]? :=by
 unfold World.freeze;split
 ·rfl
 ·simp only[Array.getElem?_modify];rw[if_neg (Ne.symm h)]
theorem freeze_same{w:World}{g k:Nat}:(w.freeze ⟨g,0,none⟩ k).os=w.os∧(w.freeze ⟨g,0,none⟩ k).tape=w.tape∧(w.freeze ⟨g,0,none⟩ k).output=w.output∧(w.freeze ⟨g,0,none⟩ k).heap.size=w.heap.size:=by
 unfold World.freeze;split<;>simp
set_option maxHeartbeats 1000000 in
set_option maxRecDepth 100000 in
theorem Any.string_someT(L:Lays.n169 P ρ)(X:Builder.Extra P ρ)(T:TypeId)(b:Nat)(p v:Value)(l:List UInt8)(w:World)(hbk:w.heap[b]? =some (.cells #[p,v] T (0,0)))(hown:w.ownsRowF 0 (ρ.t 5) 1 v l.length (Lib.byteCells l))(hne:v.ownBlock≠some b)(h0:l≠ []):
  Calls P (ρ.f 169) #[.pointer (some ⟨b,0,none⟩)] w fun e w'=>e=.returned (.string ⟨l.toArray⟩)∧StrLeft w b p v T (ρ.t 5) l w':=by
 have hl0:l.length≠0:=by simpa using h0
 obtain⟨g,cap,cur,fz,rfl,hbg,hg,hfz,hnc,hcm,hcs,htake⟩:∃g cap cur fz,v=.slice (some ⟨g,0,none⟩) l.length cap∧0≤g∧w.heap[g]? =some (.cells cur (ρ.t 5) fz)∧fz.2≤l.length*1∧l.length≤cap∧cap≤maxLen∧cur.size=cap*1∧cur.toList.take (l.length*1)=Lib.byteCells l:=by
  rcases hown.2 with⟨_,hz⟩|⟨g,cap,cur,fz,hv,r⟩
  ·exact absurd hz hl0
  ·exact⟨g,cap,cur,fz,hv,r⟩
 have hgb:b≠g:=fun e=>hne (by simp[Value.ownBlock,e])
 have c1:w.drew.cell? ⟨b,1,none⟩=some (.slice (some ⟨g,0,none⟩) l.length cap):=by
  have:w.drew.heap[b]? =some (.cells #[p,.slice (some ⟨g,0,none⟩) l.length cap] T (0,0)):=hbk;rw[Lib.cell_of_heap this];rfl
 have hSD:(Builtin.unsafeSliceData_ #[(ρ.t 37)] (ρ.t 127) #[.slice (some ⟨g,0,none⟩) l.length cap]).run P w.drew=.ok (.pointer (some ⟨g,0,none⟩)) w.drew:=
  Lib.run_unsafeSliceData_row _ _ _ _ _ _ (by omega)
 have hUS:(Builtin.unsafeString_ #[(ρ.t 127),(ρ.t 3)] (ρ.t 9) #[.pointer (some ⟨g,0,none⟩),.int .i64 l.length]).run P w.drew=.ok (.string ⟨l.toArray⟩) (w.drew.freeze ⟨g,0,none⟩ l.length):=by
  refine Lib.run_unsafeString_row w.drew (ρ.t 127) (ρ.t 3) (ρ.t 9) (ρ.t 5) L.t127 X.cellsByte g cur.size (by have hg':w.drew.heap[g]? =some (.cells cur (ρ.t 5) fz):=hg;simp[World.shape?,hg']) l h0 (by omega) (by unfold maxLen at hcm;omega) ?_;intro j x hx;have:=hown.cells (g:=g) rfl j (.int .u8 x.toNat) (by simp[Lib.byteCells,hx]);exact this
 have hleft:StrLeft w b p (.slice (some ⟨g,0,none⟩) l.length cap) T (ρ.t 5) l (w.drew.freeze ⟨g,0,none⟩ l.length):=by
  have hA:Lib.BuilderAtF T (ρ.t 5) 0 b p (Lib.byteCells l) w.drew:=⟨Nat.zero_le _,_,hbk,by rw[Lib.byteCells_length];exact hown,hne⟩;have hF:=hA.froze (g:=g) (cap:=cap) (by rw[Lib.byteCells_length];exact c1);rw[Lib.byteCells_length]at hF;have hb':(w.drew.freeze ⟨g,0,none⟩ l.length).heap[b]? =some (.cells #[p,.slice (some ⟨g,0,none⟩) l.length cap] T (0,0)):=(freeze_other _ hgb).trans hbk;obtain⟨_,v',k1,k2,k3⟩:=hF;rw[hb']at k1
  have e1:v'=.slice (some ⟨g,0,none⟩) l.length cap:=by
   simp only[Option.some.injEq,Obj.cells.injEq,Array.mk.injEq,List.cons.injEq,and_true,true_and]at k1;exact k1.symm
  subst e1;rw[Lib.byteCells_length]at k2;obtain⟨s1,s2,s3,s4⟩:=freeze_same (w:=w.drew) (g:=g) (k:=l.length);exact⟨hb',k2,s1,s2,s3,Nat.le_of_eq s4.symm,fun j _ hj=>(freeze_other _ (fun e=>hj (by simp[Value.ownBlock,e])))⟩
 have mixed:=L.mixed;have t72:=L.t72;have a72:=L.a72;have z72:=L.z72;have v72:=L.v72;have u72:=run_underlying L.t72;have t70:=L.t70;have a70:=L.a70;have z70:=L.z70;have v70:=L.v70;have u70:=run_underlying L.t70;have t37:=L.t37;have a37:=L.a37;have z37:=L.z37;have v37:=L.v37;have u37:=run_underlying L.t37;have t127:=L.t127;have a127:=L.a127;have z127:=L.z127;have v127:=L.v127;have u127:=run_underlying L.t127;have t3:=L.t3;have a3:=L.a3;have z3:=L.z3;have v3:=L.v3;have u3:=run_underlying L.t3;have t9:=L.t9;have a9:=L.a9;have z9:=L.z9;have v9:=L.v9;have u9:=run_underlying L.t9;have t5:=X.t5;have a5:=X.a5;have z5:=X.z5;have v5:=X.v5;have u5:=run_underlying X.t5
 go_enter L.f169,Body.n169_ntmps ρ
 go_wp2
 go_region_o
 all_goals(go_wp2;go_ret;exact⟨rfl,hleft⟩)
theorem StrLeft.drew{w:World}{b:Nat}{p v:Value}{T e:TypeId}{l:List UInt8}(hbk:w.heap[b]? =some (.cells #[p,v] T (0,0)))(hown:w.ownsRowF 0 e 1 v l.length (Lib.byteCells l)):StrLeft w b p v T e l w.drew:=⟨hbk,hown,rfl,rfl,rfl,Nat.le_refl _,fun _ _ _=>rfl⟩
theorem StrLeft.alloc{w:World}{b:Nat}{p v:Value}{T e:TypeId}{l:List UInt8}(o:Obj)(hbk:w.heap[b]? =some (.cells #[p,v] T (0,0)))(hown:w.ownsRowF 0 e 1 v l.length (Lib.byteCells l)):StrLeft w b p v T e l (w.drew.alloc o):=by
 have hlt:b<w.heap.size:=by
  rcases Nat.lt_or_ge b w.heap.size with h'|h'
  ·exact h'
  ·simp[Array.getElem?_eq_none h']at hbk
 have hold:∀g,g<w.heap.size→(w.drew.alloc o).heap[g]? =w.heap[g]? :=fun g hg=>Lib.alloc_old w.drew _ g hg;refine⟨(hold b hlt).trans hbk,⟨hown.1, ?_⟩,rfl,rfl,rfl, ?_,fun g hg _=>hold g hg⟩
 ·rcases hown.2 with h|⟨g,cap,cur,fz,e1,e2,e3,r⟩
  ·exact .inl h
  ·have hg:g<w.heap.size:=by
    rcases Nat.lt_or_ge g w.heap.size with h'|h'
    ·exact h'
    ·simp[Array.getElem?_eq_none h']at e3
   exact .inr ⟨g,cap,cur,fz,e1,e2,(hold g hg).trans e3,r⟩
 ·simp[World.alloc]
set_option maxHeartbeats 2000000 in
set_option maxRecDepth 100000 in
theorem Any.string_nilT(L:Lays.n169 P ρ)(X:Builder.Extra P ρ)(T:TypeId)(b:Nat)(p:Value)(w:World)(hbk:w.heap[b]? =some (.cells #[p,.slice none 0 0] T (0,0)))(hown:w.ownsRowF 0 (ρ.t 5) 1 (.slice none 0 0) 0 (Lib.byteCells [])):
  Calls P (ρ.f 169) #[.pointer (some ⟨b,0,none⟩)] w fun e w'=>e=.returned (.string ⟨#[]⟩)∧StrLeft w b p (.slice none 0 0) T (ρ.t 5) [] w':=by
 have hUS:=Any.unsafeString_none L X
 have c1:w.drew.cell? ⟨b,1,none⟩=some (.slice none 0 0):=by
  have:w.drew.heap[b]? =some (.cells #[p,.slice none 0 0] T (0,0)):=hbk;rw[Lib.cell_of_heap this];rfl
 have hSD:(Builtin.unsafeSliceData_ #[(ρ.t 37)] (ρ.t 127) #[.slice none 0 0]).run P w.drew=.ok (.pointer none) w.drew:=rfl;have mixed:=L.mixed;have t72:=L.t72;have a72:=L.a72;have z72:=L.z72;have v72:=L.v72;have u72:=run_underlying L.t72;have t70:=L.t70;have a70:=L.a70;have z70:=L.z70;have v70:=L.v70;have u70:=run_underlying L.t70;have t37:=L.t37;have a37:=L.a37;have z37:=L.z37;have v37:=L.v37;have u37:=run_underlying L.t37;have t127:=L.t127;have a127:=L.a127;have z127:=L.z127;have v127:=L.v127;have u127:=run_underlying L.t127;have t3:=L.t3;have a3:=L.a3;have z3:=L.z3;have v3:=L.v3;have u3:=run_underlying L.t3;have t9:=L.t9;have a9:=L.a9;have z9:=L.z9;have v9:=L.v9;have u9:=run_underlying L.t9;have t5:=X.t5;have a5:=X.a5;have z5:=X.z5;have v5:=X.v5;have u5:=run_underlying X.t5
 go_enter L.f169,Body.n169_ntmps ρ
 go_wp2
 go_region_o
 all_goals(go_wp2;go_ret;exact⟨rfl,StrLeft.drew hbk hown⟩)
set_option maxHeartbeats 2000000 in
set_option maxRecDepth 100000 in
theorem Any.string_noroomT(L:Lays.n169 P ρ)(X:Builder.Extra P ρ)(T:TypeId)(b g:Nat)(p:Value)(cur:Array Value)(w:World)(hbk:w.heap[b]? =some (.cells #[p,.slice (some ⟨g,0,none⟩) 0 0] T (0,0)))(fz:Nat×Nat)(hg:w.heap[g]? =some (.cells cur (ρ.t 5) fz))(hown:w.ownsRowF 0 (ρ.t 5) 1 (.slice (some ⟨g,0,none⟩) 0 0) 0 (Lib.byteCells [])):
  Calls P (ρ.f 169) #[.pointer (some ⟨b,0,none⟩)] w fun e w'=>e=.returned (.string ⟨#[]⟩)∧StrLeft w b p (.slice (some ⟨g,0,none⟩) 0 0) T (ρ.t 5) [] w':=by
 have hUS:=Any.unsafeString_none L X
 have hlt:b<w.heap.size:=by
  rcases Nat.lt_or_ge b w.heap.size with h'|h'
  ·exact h'
  ·simp[Array.getElem?_eq_none h']at hbk
 have c1:w.drew.cell? ⟨b,1,none⟩=some (.slice (some ⟨g,0,none⟩) 0 0):=by
  have:w.drew.heap[b]? =some (.cells #[p,.slice (some ⟨g,0,none⟩) 0 0] T (0,0)):=hbk;rw[Lib.cell_of_heap this];rfl
 have hSD:(Builtin.unsafeSliceData_ #[(ρ.t 37)] (ρ.t 127) #[.slice (some ⟨g,0,none⟩) 0 0]).run P w.drew=.ok (.pointer (some ⟨w.drew.heap.size,0,none⟩)) (w.drew.alloc (.view ⟨g,0,none⟩ (ρ.t 5))):=
  Lib.run_unsafeSliceData_zero w.drew _ _ (ρ.t 5) L.t127 ⟨g,0,none⟩ 0 ((ρ.t 5),cur.size) (by have hg':w.drew.heap[g]? =some (.cells cur (ρ.t 5) fz):=hg;simp[World.shape?,hg'])
 have c2:(w.drew.alloc (.view ⟨g,0,none⟩ (ρ.t 5))).cell? ⟨b,1,none⟩=some (.slice (some ⟨g,0,none⟩) 0 0):=by
  have:(w.drew.alloc (.view ⟨g,0,none⟩ (ρ.t 5))).heap[b]? =_:=(Lib.alloc_old w.drew _ b hlt).trans hbk;rw[Lib.cell_of_heap this];rfl
 have c3:(w.alloc (.view ⟨g,0,none⟩ (ρ.t 5))).drew.cell? ⟨b,1,none⟩=some (.slice (some ⟨g,0,none⟩) 0 0):=c2;have c0:w.cell? ⟨b,1,none⟩=some (.slice (some ⟨g,0,none⟩) 0 0):=c1;have mixed:=L.mixed;have t72:=L.t72;have a72:=L.a72;have z72:=L.z72;have v72:=L.v72;have u72:=run_underlying L.t72;have t70:=L.t70;have a70:=L.a70;have z70:=L.z70;have v70:=L.v70;have u70:=run_underlying L.t70;have t37:=L.t37;have a37:=L.a37;have z37:=L.z37;have v37:=L.v37;have u37:=run_underlying L.t37;have t127:=L.t127;have a127:=L.a127;have z127:=L.z127;have v127:=L.v127;have u127:=run_underlying L.t127;have t3:=L.t3;have a3:=L.a3;have z3:=L.z3;have v3:=L.v3;have u3:=run_underlying L.t3;have t9:=L.t9;have a9:=L.a9;have z9:=L.z9;have v9:=L.v9;have u9:=run_underlying L.t9;have t5:=X.t5;have a5:=X.a5;have z5:=X.z5;have v5:=X.v5;have u5:=run_underlying X.t5
 go_enter L.f169,Body.n169_ntmps ρ
 go_wp2
 go_region_o
 all_goals(go_wp2;go_ret;exact⟨rfl,StrLeft.alloc _ hbk hown⟩)
set_option maxHeartbeats 2000000 in
set_option maxRecDepth 100000 in
theorem Any.string_roomT(L:Lays.n169 P ρ)(X:Builder.Extra P ρ)(T:TypeId)(b g cap:Nat)(p:Value)(w:World)(hc0:cap≠0)(hbk:w.heap[b]? =some (.cells #[p,.slice (some ⟨g,0,none⟩) 0 cap] T (0,0)))(hown:w.ownsRowF 0 (ρ.t 5) 1 (.slice (some ⟨g,0,none⟩) 0 cap) 0 (Lib.byteCells [])):
  Calls P (ρ.f 169) #[.pointer (some ⟨b,0,none⟩)] w fun e w'=>e=.returned (.string ⟨#[]⟩)∧StrLeft w b p (.slice (some ⟨g,0,none⟩) 0 cap) T (ρ.t 5) [] w':=by
 have hUS:=Any.unsafeString_none L X
 have c1:w.drew.cell? ⟨b,1,none⟩=some (.slice (some ⟨g,0,none⟩) 0 cap):=by
  have:w.drew.heap[b]? =some (.cells #[p,.slice (some ⟨g,0,none⟩) 0 cap] T (0,0)):=hbk;rw[Lib.cell_of_heap this];rfl
 have hSD:(Builtin.unsafeSliceData_ #[(ρ.t 37)] (ρ.t 127) #[.slice (some ⟨g,0,none⟩) 0 cap]).run P w.drew=.ok (.pointer (some ⟨g,0,none⟩)) w.drew:=
  Lib.run_unsafeSliceData_row _ _ _ _ _ _ hc0
 clear hc0;have mixed:=L.mixed;have t72:=L.t72;have a72:=L.a72;have z72:=L.z72;have v72:=L.v72;have u72:=run_underlying L.t72;have t70:=L.t70;have a70:=L.a70;have z70:=L.z70;have v70:=L.v70;have u70:=run_underlying L.t70;have t37:=L.t37;have a37:=L.a37;have z37:=L.z37;have v37:=L.v37;have u37:=run_underlying L.t37;have t127:=L.t127;have a127:=L.a127;have z127:=L.z127;have v127:=L.v127;have u127:=run_underlying L.t127;have t3:=L.t3;have a3:=L.a3;have z3:=L.z3;have v3:=L.v3;have u3:=run_underlying L.t3;have t9:=L.t9;have a9:=L.a9;have z9:=L.z9;have v9:=L.v9;have u9:=run_underlying L.t9;have t5:=X.t5;have a5:=X.a5;have z5:=X.z5;have v5:=X.v5;have u5:=run_underlying X.t5
 go_enter L.f169,Body.n169_ntmps ρ
 go_wp2
 go_region_o
 all_goals(go_wp2;go_ret;exact⟨rfl,StrLeft.drew hbk hown⟩)
theorem Any.string_anyT(L:Lays.n169 P ρ)(X:Builder.Extra P ρ)(T:TypeId)(b:Nat)(p v:Value)(l:List UInt8)(w:World)(hbk:w.heap[b]? =some (.cells #[p,v] T (0,0)))(hown:w.ownsRowF 0 (ρ.t 5) 1 v l.length (Lib.byteCells l))(hne:v.ownBlock≠some b):
  Calls P (ρ.f 169) #[.pointer (some ⟨b,0,none⟩)] w fun e w'=>e=.returned (.string ⟨l.toArray⟩)∧StrLeft w b p v T (ρ.t 5) l w':=by
 cases l with
 |cons x r=>exact Any.string_someT L X T b p v (x::r) w hbk hown hne (by simp)
 |nil=>
  have hown0:=hown;rcases hown.2 with⟨rfl,_⟩|⟨g,cap,cur,fz,rfl,hbg,hg,_,_,_,_,_⟩
  ·exact Any.string_nilT L X T b p w hbk hown0
  ·by_cases hc0:cap=0
   ·subst hc0;exact Any.string_noroomT L X T b g p cur w hbk fz hg hown0
   ·exact Any.string_roomT L X T b g cap p w hc0 hbk hown0
end Go.Proofs
namespace WB
open Go Go.RowKit Go.Shelf Go.Proofs
section
variable {P:Program} {G:Nat→List CV} {N K T e:Nat}
theorem bld_get(hNK:N≠K):get (bldΘ N K T e) (.o K)=some ⟨.buf e,fun ρ=>ρ.1⟩∧get (bldΘ N K T e) (.o N)=some ⟨.box 2 (some T),fun _=>()⟩∧get (bldΘ N K T e) (.c N 0)=some ⟨.v (.bptr N),fun _=>()⟩∧get (bldΘ N K T e) (.c N 1)=some ⟨.own K,fun _=>()⟩:=by
 have h:K≠N:=Ne.symm hNK;refine⟨?_, ?_, ?_, ?_⟩<;>simp[get,h]
theorem bld_lies{w:World}{M:MM}{z:Cz}{H:Nat→Ob}{θ:HS (bldΘ N K T e)}(hNK:N≠K)(hN:Nat.ble tbase N=true)(hr:Rep (bldΘ N K T e) θ {fr:=fun _=>.undef,ob:=H})(hL:Lies P w M z (idsT (bldΘ N K T e)) H):
  ∃(p v:Value),z.σ N=.pointer (some ⟨M.al N,0,none⟩)∧z.σ K=v∧w.heap[M.al N]? =some (.cells #[p,v] T (0,0))∧(p=.pointer none∨p=.pointer (some ⟨M.al N,0,none⟩))∧w.ownsRowF 0 e 1 v θ.1.length (Lib.byteCells θ.1)∧v.ownBlock≠some (M.al N)∧H N≠ .none∧H K≠ .none:=by
 obtain⟨g1,g2,g3,g4⟩:=bld_get (T:=T) (e:=e) hNK;obtain⟨cs,e1,e2,e3⟩:=hr.o N _ g2;have e4:H K=.buf e θ.1:=hr.o K _ g1;obtain⟨s0,f1,c,rfl,f2⟩:=e3 0 _ (by omega) g3;obtain⟨s1,f3,f4⟩:=e3 1 _ (by omega) g4;have f4':s1=.osl K:=f4;subst f4';have e1':H N=.box cs (some T):=e1
 have hcs:cs= [.c c,.osl K]:=by
  match cs,e2,f1,f3 with
  | [a,b],_,f1,f3=>simp at f1 f3;rw[f1,f3]
 subst hcs;have ht:=hL.told N _ (Nat.le_of_ble_eq_true hN) e1';have ho:=hL.ob N;rw[e1',ht]at ho;obtain⟨g,ty,vs,h1,h2,h3⟩:=ho;simp only[Value.pointer.injEq,Option.some.injEq,Addr.mk.injEq,and_true]at h1;subst h1;obtain⟨p,vs',rfl,h4,h5⟩:=h3;obtain⟨v,vs'',rfl,h6,h7⟩:=h5;have h7':vs''= []:=h7;subst h7';have hty:ty.1=T:=ty.2 T rfl;rw[hty]at h2;have hb:=hL.ob K;rw[e4]at hb;have hb':w.ownsRowF 0 e 1 (z.σ K) θ.1.length (Lib.byteCells θ.1):=hb;have hvk:v=z.σ K:=h6.2;have hlN:H N≠ .none:=by rw[e1'];simp
 have hlK:H K≠ .none:=by rw[e4];simp
 rw[hL.al]at h2 ht;refine⟨p,v,ht,hvk.symm,h2, ?_,by rw[hvk];exact hb',fun hh=> ?_,hlN,hlK⟩
 ·have h4':RelC w M c p:=h4;have f2': [c]= [.bptr N]∨ [c]= [.nam N]∨ [c]= [.nilp]:=f2;rcases f2' with e5|e5|e5;all_goals(cases e5;unfold RelC at h4')
  ·exact h4'
  ·exact .inr h4'
  ·exact .inl h4'
 ·refine hL.apart N K (M.al N) hNK hlN hlK (by rw[ht];rfl) ?_;rw[←hvk];cases v<;>simp[Value.ownBlock]at hh;rename_i ao n c
  cases ao with
  |none=>simp at hh
  |some a=>simp at hh;simp[blk,hh]
theorem blk_own{v:Value}{g:Nat}:(∃a n c,v=.slice a n c)→(blk v=some g↔v.ownBlock=some g):=by
 rintro⟨a,n,c,rfl⟩
 cases a<;>simp[blk,Value.ownBlock]
theorem row_slice{w:World}{B e k n:Nat}{v:Value}{xs:List Value}(h:w.ownsRowF B e k v n xs):∃a n c,v=.slice a n c:=by
 rcases h.2 with⟨rfl,_⟩|⟨g,cap,cur,fz,rfl,_⟩
 ·exact⟨_,_,_,rfl⟩
 ·exact⟨_,_,_,rfl⟩
theorem bld_left{w w':World}{M:MM}{z:Cz}{H:Nat→Ob}{θ θ':HS (bldΘ N K T e)}{v p' v':Value}(hNK:N≠K)(hN:Nat.ble tbase N=true)(hr:Rep (bldΘ N K T e) θ {fr:=fun _=>.undef,ob:=H})(hL:Lies P w M z (idsT (bldΘ N K T e)) H)
  (h1:z.σ N=.pointer (some ⟨M.al N,0,none⟩)) (h2:z.σ K=v) (hlN:H N≠ .none) (hlK:H K≠ .none)
  (k1:w'.heap[M.al N]? =some (.cells #[p',v'] T (0,0))) (kp:p'=.pointer none∨p'=.pointer (some ⟨M.al N,0,none⟩)) (k2:w'.ownsRowF 0 e 1 v' θ'.1.length (Lib.byteCells θ'.1)) (hv:∃a n c,v=.slice a n c)
  (k3:v'.ownBlock≠some (M.al N)) (k4:∀g,v'.ownBlock=some g→v.ownBlock=some g∨w.heap.size≤g) (k5:w'.os=w.os) (k6:w'.tape=w.tape) (k7:w'.output=w.output) (k8:w.heap.size≤w'.heap.size) (k9:∀g,g<w.heap.size→g≠M.al N→v.ownBlock≠some g→w'.heap[g]? =w.heap[g]?):
  ∃z':Cz,(w'.os=w.os∧w'.tape=w.tape∧w'.output=w.output∧w.heap.size≤w'.heap.size∧∀g,g<w.heap.size→¬own z H g→w'.heap[g]? =w.heap[g]?)∧
   Lies P w' (mutb M z' (encO (bldΘ N K T e) θ')) z' (idsT (bldΘ N K T e)) (encO (bldΘ N K T e) θ')∧(∀id g,encO (bldΘ N K T e) θ' id≠ .none→blk (z'.σ id)=some g→(H id≠ .none∧blk (z.σ id)=some g)∨w.heap.size≤g)∧z'.al=M.al:=by
 obtain⟨g1,g2,g3,g4⟩:=bld_get (T:=T) (e:=e) hNK
 have eN:encO (bldΘ N K T e) θ' N=.box [.c (.bptr N),.osl K] (some T):=by
  unfold encO;rw[g2];simp only[List.range,List.range.loop,List.map_cons,List.map_nil,encCell,g3,g4];rfl
 have eK:encO (bldΘ N K T e) θ' K=.buf e θ'.1:=by unfold encO;rw[g1]
 have hsl':=row_slice k2;let z':Cz:={z with σ:=upd z.σ K v'};have σK:z'.σ K=v':=upd_same _ _ _;have σN:z'.σ N=.pointer (some ⟨M.al N,0,none⟩):=(upd_ne _ _ hNK).trans h1
 have only:∀id,encO (bldΘ N K T e) θ' id≠ .none→id=N∨id=K:=fun id hid=>by
  have:=encO_only hid;simp only[idsT,List.contains_eq_mem,List.mem_cons,List.not_mem_nil,or_false,decide_eq_true_eq]at this;exact this.symm
 have hlt':M.al N<w'.heap.size:=heap_lt k1;have ownN:own z' (encO (bldΘ N K T e) θ') (M.al N):=⟨N,by rw[eN];simp,by rw[σN];rfl⟩
 have lt_v:∀g,v'.ownBlock=some g→g<w'.heap.size:=fun g hg=>by
  rcases k2.2 with⟨rfl,_⟩|⟨g',cap,cur,fz,rfl,_,hh,_⟩
  ·simp[Value.ownBlock]at hg
  ·simp[Value.ownBlock]at hg;subst hg;exact heap_lt hh
 refine⟨z',⟨k5,k6,k7,k8,fun g hg hno=>k9 g hg (fun e=>hno ⟨N,hlN,by rw[h1,e];rfl⟩) fun e=>hno ⟨K,hlK,by rw[h2];exact(blk_own hv).2 e⟩⟩,⟨fun id=> ?_,fun id g hid hg=> ?_,fun i j g hij hi hj hg=> ?_,fun M' cs hM hc=> ?_,fun id hid=>encO_only hid,rfl⟩,fun id g hid hg=> ?_,hL.al⟩
 ·by_cases hiN:id=N
  ·subst hiN;rw[eN,σN];refine⟨M.al id,⟨T,fun T' h=>by cases h;rfl⟩,[p',v'],rfl,k1,p',_,rfl, ?_,v',_,rfl,⟨by rw[eK];simp,σK.symm⟩,rfl⟩;show RelC w' (mutb M z' (encO (bldΘ id K T e) θ')) (.bptr id) p';unfold RelC;rcases kp with e|e
   ·exact .inl e
   ·right;rw[e];show _=Value.pointer (some ⟨z.al id,0,none⟩);rw[hL.al]
  ·by_cases hiK:id=K
   ·subst hiK;rw[eK,σK];exact k2
   ·cases hh:encO (bldΘ N K T e) θ' id with
    |none=>trivial
    |_=>exact absurd (only id (by rw[hh];simp)) (by simp[hiN,hiK])
 ·rcases only id hid with rfl|rfl
  ·rw[σN]at hg;simp[blk]at hg;subst hg;exact⟨hlt',.inr ownN⟩
  ·rw[σK]at hg;exact⟨lt_v g ((blk_own hsl').1 hg),.inr ⟨id,hid,by rw[σK];exact hg⟩⟩
 ·rcases only i hi with rfl|rfl<;>rcases only j hj with rfl|rfl
  ·exact absurd rfl hij
  ·rw[σN]at hg;simp[blk]at hg;subst hg;rw[σK];exact fun e=>k3 ((blk_own hsl').1 e)
  ·rw[σK]at hg;rw[σN];intro e;simp[blk]at e;subst e;exact k3 ((blk_own hsl').1 hg)
  ·exact absurd rfl hij
 ·have hid:encO (bldΘ N K T e) θ' M'≠ .none:=by rw[hc];simp
  rcases only M' hid with rfl|rfl
  ·rw[σN];show _=Value.pointer (some ⟨z.al M',0,none⟩);rw[hL.al]
  ·rw[eK]at hc;cases hc
 ·rcases only id hid with rfl|rfl
  ·rw[σN]at hg;exact .inl ⟨hlN,by rw[h1];exact hg⟩
  ·rw[σK]at hg;rcases k4 g ((blk_own hsl').1 hg)with h|h
   ·exact .inl ⟨hlK,by rw[h2];exact(blk_own hv).2 h⟩
   ·exact .inr h
end
variable {P:Program} {ρ:Ren} {G:Nat→List CV} {N K T:Nat}
theorem can_consB{t r:Ty}{x:D (.cons t r)}{l:List CV}(h:Can (.cons t r) x l):∃c l',l=c::l'∧Can t x.1 [c]∧Can r x.2 l':=by
 unfold Can at h;exact h
theorem can_oneB{t:Ty}{x:D (.one t)}{l:List CV}(h:Can (.one t) x l):∃c,l= [c]∧Can t x [c]:=by
 unfold Can at h;exact h
theorem writeE_ok(L:Lays.n166 P ρ)(X:Builder.Extra P ρ)(hb:hasBody P (ρ.f 166)=true)(hT:liesAt P P.depth T (2/P.cellsOf T) 0 (ρ.t 72) 1=true)(hNK:N≠K)(hN:Nat.ble tbase N=true)(hK:Nat.ble tbase K=true)(hok:okΘ (bldΘ N K T (ρ.t 5))=true):EffOk P G (ρ.f 166) (writeF N K T (ρ.t 5)) where
 rv:=rfl
 rok:=rfl
 hi:=by
  show((K::N:: []:List Nat).all fun N=>Nat.ble tbase N)=true;simp only[List.all_cons,List.all_nil,hN,hK,Bool.and_self]
 ok:=hok
 body:=by rw[hasBody_real hb];exact hb
 calls:=fun x l θ H y θ' hx hr hy=>.of hb fun w M z vs hM hG hR hL=>by
  simp only[writeF,strings_Builder_WriteString,Option.ite_none_right_eq_some,Option.some.injEq,Prod.mk.injEq]at hy;obtain⟨hlen,rfl,rfl⟩:=hy;have hx':∃c l',l=c::l'∧Can (.nam N) x.1 [c]∧Can (.one .str) x.2 l':=can_consB (t:=.nam N) (r:=.one .str) hx;obtain⟨c,l',rfl,hx1,hx2⟩:=hx';unfold Can at hx1;cases hx1;unfold Can at hx2;obtain⟨c2,rfl,hx2⟩:=hx2;unfold Can at hx2;cases hx2;unfold RelL at hR;obtain⟨v1,vs',rfl,r1,hR⟩:=hR;unfold RelL at hR;obtain⟨v2,vs'',rfl,r2,hR⟩:=hR;unfold RelL at hR;subst hR;unfold RelC at r1 r2;subst r1 r2;obtain⟨p,v,q1,q2,q3,q4,q5,q6,q7,q8⟩:=bld_lies hNK hN hr hL;have hlt:M.al N<w.heap.size:=heap_lt q3;have hl1:(Lib.byteCells θ.1).length=θ.1.length:=by simp[Lib.byteCells]
  have hs:(⟨⟨x.2⟩⟩:ByteArray).size=x.2.length:=rfl;have hcat:Lib.byteCells θ.1++Lib.strCells ⟨⟨x.2⟩⟩=Lib.byteCells (θ.1++x.2):=by rw[Lib.strCells_eq,Lib.byteCells_append]
  have L240:Lays.n240 P ρ:={L with}
  have go:∀(w1:World),w1.heap[M.al N]? =some (.cells #[.pointer (some ⟨M.al N,0,none⟩),v] T (0,0))→w1.ownsRowF 0 (ρ.t 5) 1 v θ.1.length (Lib.byteCells θ.1)→w1.os=w.os→w1.tape=w.tape→w1.output=w.output→w1.heap.size=w.heap.size→(∀g,g≠M.al N→w1.heap[g]? =w.heap[g]?)→
    Calls P (ρ.f 240) #[.pointer (some ⟨M.al N,0,none⟩)] w (fun e w'=>e=.returned (.tuple #[])∧w'=w1)→
    Calls P (ρ.f 166) #[.pointer (some ⟨M.al N,0,none⟩),.string ⟨⟨x.2⟩⟩] w fun e' w'=>e'=.returned (.tuple #[.int .i64 x.2.length,.nilIface])∧∃v',w'.heap[M.al N]? =some (.cells #[.pointer (some ⟨M.al N,0,none⟩),v'] T (0,0))∧
     w'.ownsRowF 0 (ρ.t 5) 1 v' (θ.1++x.2).length (Lib.byteCells (θ.1++x.2))∧v'.ownBlock≠some (M.al N)∧(∀g,v'.ownBlock=some g→v.ownBlock=some g∨w.heap.size≤g)∧
     w'.os=w.os∧w'.tape=w.tape∧w'.output=w.output∧w.heap.size≤w'.heap.size∧∀g,g<w.heap.size→g≠M.al N→v.ownBlock≠some g→w'.heap[g]? =w.heap[g]? :=by
   intro w1 h1 h2 e1 e2 e3 e4 h3 hcc;refine(Any.write_usedT L X T 0 (M.al N) v (Lib.byteCells θ.1) ⟨⟨x.2⟩⟩ w1 (Nat.zero_le _) (Nat.zero_le _) h1 (by rw[hl1];exact h2) q6 (by rw[hl1,hs];exact hlen) w (fun W hW=>by subst hW;exact hcc)).mono fun e' w' hx=> ?_;obtain⟨rfl,v',k1,k2,k3,k4,k5,k6,k7,k8,k9⟩:=hx;rw[hl1,hs,hcat]at k2;refine⟨rfl,v',k1,by rw[List.length_append];exact k2,k3,fun g hg=>by rw[←e4];exact k4 g hg,k5.trans e1,k6.trans e2,k7.trans e3,by rw[←e4];exact k8,fun g hg g1 g2=> ?_⟩;rw[k9 g (by rw[e4];exact hg) g1 g2,h3 g g1]
  have main:Calls P (ρ.f 166) #[.pointer (some ⟨M.al N,0,none⟩),.string ⟨⟨x.2⟩⟩] w fun e' w'=>e'=.returned (.tuple #[.int .i64 x.2.length,.nilIface])∧∃v',w'.heap[M.al N]? =some (.cells #[.pointer (some ⟨M.al N,0,none⟩),v'] T (0,0))∧
     w'.ownsRowF 0 (ρ.t 5) 1 v' (θ.1++x.2).length (Lib.byteCells (θ.1++x.2))∧v'.ownBlock≠some (M.al N)∧(∀g,v'.ownBlock=some g→v.ownBlock=some g∨w.heap.size≤g)∧
     w'.os=w.os∧w'.tape=w.tape∧w'.output=w.output∧w.heap.size≤w'.heap.size∧∀g,g<w.heap.size→g≠M.al N→v.ownBlock≠some g→w'.heap[g]? =w.heap[g]? :=by
   rcases q4 with rfl|rfl
   ·refine go (w.setCell ⟨M.al N,0,none⟩ (.pointer (some ⟨M.al N,0,none⟩))) (by simp[World.setCell,Array.getElem?_modify,q3]) ?_ rfl rfl rfl (by simp[World.setCell]) (fun g hg=>Below.heap_setCell _ _ _ _ (fun e=>hg (by simpa using e))) ?_
    ·exact q5.kept (row:=some (M.al N)) ⟨rfl,rfl,rfl,by simp[World.setCell],fun k _ hk=>Below.heap_setCell _ _ _ _ (fun e=>hk (by simp[e]))⟩ (Or.inr q6)
    ·exact Any.copyCheckT L240 X.toX72 T hT (M.al N) w (by rw[Lib.cell_of_heap q3];rfl) (by simp[World.shape?,q3]) (Lib.frozen_of_heap q3 0)
   ·refine go w q3 q5 rfl rfl rfl rfl (fun _ _=>rfl) ?_;exact Any.Builder_copyCheck_used L240 X.toX72 (M.al N) w (by rw[Lib.cell_of_heap q3];rfl)
  refine main.mono fun e' w' hh=> ?_;obtain⟨rfl,v',k1,k2,k3,k4,k5,k6,k7,k8,k9⟩:=hh;obtain⟨z',a1,a2,a3,a4⟩:=bld_left (θ':=(θ.1++x.2,(),(),(),())) hNK hN hr hL q1 q2 q7 q8 k1 (.inr rfl) k2 (row_slice q5) k3 k4 k5 k6 k7 k8 k9;refine⟨_,z',rfl,a1,a2,a3,a4, ?_⟩;show RelC _ _ (.tup [.int .i64 (x.2.length:Int),.nilif]) _;unfold RelC;refine⟨_,rfl,RelL.cons ?_ (RelL.cons ?_ RelL.nil)⟩
  ·unfold RelC;rfl
  ·unfold RelC;rfl
theorem stringE_ok(L:Lays.n169 P ρ)(X:Builder.Extra P ρ)(hb:hasBody P (ρ.f 169)=true)(hNK:N≠K)(hN:Nat.ble tbase N=true)(hK:Nat.ble tbase K=true)(hok:okΘ (bldΘ N K T (ρ.t 5))=true):EffOk P G (ρ.f 169) (stringF N K T (ρ.t 5)) where
 rv:=rfl
 rok:=rfl
 hi:=by
  show((K::N:: []:List Nat).all fun N=>Nat.ble tbase N)=true;simp only[List.all_cons,List.all_nil,hN,hK,Bool.and_self]
 ok:=hok
 body:=by rw[hasBody_real hb];exact hb
 calls:=fun x l θ H y θ' hx hr hy=>.of hb fun w M z vs hM hG hR hL=>by
  simp only[stringF,strings_Builder_String,Option.some.injEq,Prod.mk.injEq]at hy;obtain⟨rfl,rfl⟩:=hy;have hx':∃c,l= [c]∧Can (.nam N) x [c]:=can_oneB (t:=.nam N) hx;obtain⟨c,rfl,hx1⟩:=hx';unfold Can at hx1;cases hx1;unfold RelL at hR;obtain⟨v1,vs',rfl,r1,hR⟩:=hR;unfold RelL at hR;subst hR;unfold RelC at r1;subst r1;obtain⟨p,v,q1,q2,q3,q4,q5,q6,q7,q8⟩:=bld_lies hNK hN hr hL;refine(Any.string_anyT L X T (M.al N) p v θ.1 w q3 q5 q6).mono fun e' w' hh=> ?_;obtain⟨rfl,k1,k2,k5,k6,k7,k8,k9⟩:=hh;obtain⟨z',a1,a2,a3,a4⟩:=bld_left (θ':=θ) hNK hN hr hL q1 q2 q7 q8 k1 q4 k2 (row_slice q5) q6 (fun g hg=>.inl hg) k5 k6 k7 k8 (fun g hg _ hv=>k9 g hg hv);refine⟨_,z',rfl,a1,a2,a3,a4, ?_⟩;show RelC _ _ (.str θ.1) _;unfold RelC;rfl
end WB
namespace Go.Proofs
open Go.Shelf
def Tryd.laysM171_ren:Go.Shelf.Ren:=⟨fun|171=>21|243=>42|246=>57|283=>58|284=>59|285=>60|286=>61|129=>72|317=>71|318=>73|319=>74|320=>75|337=>87|338=>88|n=>n,fun|3=>3|9=>9|2=>2|4=>4|171=>116|0=>0|53=>66|37=>34|5=>5|173=>119|212=>129|51=>51|20=>20|213=>130|46=>132|232=>147|233=>148|n=>n,fun|17=>1|18=>4|19=>5|n=>n⟩
theorem Tryd.laysM171:Go.Proofs.LaysM.n171 Tryd.prog Tryd.laysM171_ren:={
 mixed:=by kernel_rfl
 f129:=Tryd.func72.trans (congrArg some (by kernel_rfl))
 f171:=Tryd.func21.trans (congrArg some (by kernel_rfl))
 f243:=Tryd.func42.trans (congrArg some (by kernel_rfl))
 f246:=Tryd.func57.trans (congrArg some (by kernel_rfl))
 f283:=Tryd.func58.trans (congrArg some (by kernel_rfl))
 f284:=Tryd.func59.trans (congrArg some (by kernel_rfl))
 f285:=Tryd.func60.trans (congrArg some (by kernel_rfl))
 f286:=Tryd.func61.trans (congrArg some (by kernel_rfl))
 f317:=Tryd.func71.trans (congrArg some (by kernel_rfl))
 f318:=Tryd.func73.trans (congrArg some (by kernel_rfl))
 f319:=Tryd.func74.trans (congrArg some (by kernel_rfl))
 f320:=Tryd.func75.trans (congrArg some (by kernel_rfl))
 f337:=Tryd.func87.trans (congrArg some (by kernel_rfl))
 f338:=Tryd.func88.trans (congrArg some (by kernel_rfl))
 t0:=Tryd.underlying0
 a0:=Tryd.isAgg0
 z0:=Tryd.sizeOf0
 v0:=Tryd.zeroValue0
 t2:=Tryd.underlying2
 a2:=Tryd.isAgg2
 z2:=Tryd.sizeOf2
 v2:=Tryd.zeroValue2
 t3:=Tryd.underlying3
 a3:=Tryd.isAgg3
 z3:=Tryd.sizeOf3
 v3:=Tryd.zeroValue3
 t4:=Tryd.underlying4
 a4:=Tryd.isAgg4
 z4:=Tryd.sizeOf4
 v4:=Tryd.zeroValue4
 t5:=Tryd.underlying5
 a5:=Tryd.isAgg5
 z5:=Tryd.sizeOf5
 v5:=Tryd.zeroValue5
 t9:=Tryd.underlying9
 a9:=Tryd.isAgg9
 z9:=Tryd.sizeOf9
 v9:=Tryd.zeroValue9
 t20:=Tryd.underlying20
 a20:=Tryd.isAgg20
 z20:=Tryd.sizeOf20
 v20:=Tryd.zeroValue20
 t37:=Tryd.underlying34
 a37:=Tryd.isAgg34
 z37:=Tryd.sizeOf34
 v37:=Tryd.zeroValue34
 t46:=Tryd.underlying132
 a46:=Tryd.isAgg132
 z46:=Tryd.sizeOf132
 v46:=Tryd.zeroValue132
 t51:=Tryd.underlying51
 a51:=Tryd.isAgg51
 z51:=Tryd.sizeOf51
 v51:=Tryd.zeroValue51
 t53:=Tryd.underlying66
 a53:=Tryd.isAgg66
 z53:=Tryd.sizeOf66
 v53:=Tryd.zeroValue66
 t171:=Tryd.underlying116
 a171:=Tryd.isAgg116
 z171:=Tryd.sizeOf116
 v171:=Tryd.zeroValue116
 t173:=Tryd.underlying119
 a173:=Tryd.isAgg119
 z173:=Tryd.sizeOf119
 v173:=Tryd.zeroValue119
 t212:=Tryd.underlying129
 a212:=Tryd.isAgg129
 z212:=Tryd.sizeOf129
 v212:=Tryd.zeroValue129
 t213:=Tryd.underlying130
 a213:=Tryd.isAgg130
 z213:=Tryd.sizeOf130
 t232:=Tryd.underlying147
 a232:=Tryd.isAgg147
 z232:=Tryd.sizeOf147
 v232:=Tryd.zeroValue147
 t233:=Tryd.underlying148
 a233:=Tryd.isAgg148
 z233:=Tryd.sizeOf148
 v233:=Tryd.zeroValue148
 g17:=by kernel_rfl
 g18:=by kernel_rfl
 g19:=by kernel_rfl
 i0:=by kernel_rfl
 i2:=by kernel_rfl
 i3:=by kernel_rfl
 i4:=by kernel_rfl
 i5:=by kernel_rfl
 i9:=by kernel_rfl
 i20:=by kernel_rfl
 i37:=by kernel_rfl
 i46:=by kernel_rfl
 i51:=by kernel_rfl
 i53:=by kernel_rfl
 i171:=by kernel_rfl
 i173:=by kernel_rfl
 i212:=by kernel_rfl
 i232:=by kernel_rfl
 i233:=by kernel_rfl
 m17:=by kernel_rfl
 m18:=by kernel_rfl
 m19:=by kernel_rfl}
open Go.RowKit Go.Sort Go.Lib in
theorem Tryd.strconv_Itoa(n:Int)(h0: -9223372036854775808≤n)(h1:n≤9223372036854775807)(w:World)(htab:Lib.TabIs Tryd.prog w "internal/strconv.uint64pow10" .u64 Lib.pow10Tab):
  Calls Tryd.prog 21 #[.int .i64 n] w fun e w'=>e=.returned (.string ⟨(Lib.itoa n).toArray⟩)∧∃k os,w'=grow (w.drewN k) os:=Any.strconv_Itoa Tryd.laysM171 n h0 h1 w htab
def Tryd.lays219_ren:Go.Shelf.Ren:=⟨fun|219=>85|217=>92|225=>93|224=>94|267=>95|266=>96|314=>97|n=>n,fun|9=>9|3=>3|4=>4|5=>5|46=>132|146=>156|51=>51|n=>n,fun|1=>0|n=>n⟩
theorem Tryd.lays219:Go.Proofs.Lays.n219 Tryd.prog Tryd.lays219_ren:={
 mixed:=by kernel_rfl
 f217:=Tryd.func92.trans (congrArg some (by kernel_rfl))
 f219:=Tryd.func85.trans (congrArg some (by kernel_rfl))
 f224:=Tryd.func94.trans (congrArg some (by kernel_rfl))
 f225:=Tryd.func93.trans (congrArg some (by kernel_rfl))
 f266:=Tryd.func96.trans (congrArg some (by kernel_rfl))
 f267:=Tryd.func95.trans (congrArg some (by kernel_rfl))
 f314:=Tryd.func97.trans (congrArg some (by kernel_rfl))
 t3:=Tryd.underlying3
 a3:=Tryd.isAgg3
 z3:=Tryd.sizeOf3
 v3:=Tryd.zeroValue3
 t4:=Tryd.underlying4
 a4:=Tryd.isAgg4
 z4:=Tryd.sizeOf4
 v4:=Tryd.zeroValue4
 t5:=Tryd.underlying5
 a5:=Tryd.isAgg5
 z5:=Tryd.sizeOf5
 v5:=Tryd.zeroValue5
 t9:=Tryd.underlying9
 a9:=Tryd.isAgg9
 z9:=Tryd.sizeOf9
 v9:=Tryd.zeroValue9
 t46:=Tryd.underlying132
 a46:=Tryd.isAgg132
 z46:=Tryd.sizeOf132
 v46:=Tryd.zeroValue132
 t51:=Tryd.underlying51
 a51:=Tryd.isAgg51
 z51:=Tryd.sizeOf51
 v51:=Tryd.zeroValue51
 t146:=Tryd.underlying156
 a146:=Tryd.isAgg156
 z146:=Tryd.sizeOf156
 v146:=Tryd.zeroValue156
 g1:=by kernel_rfl}
open Go.RowKit Go.Lib in
theorem Tryd.stringslite_Index_one(s:ByteArray)(c:UInt8)(w:World):
  Calls Tryd.prog 85 #[.string s,.string ⟨#[c]⟩] w fun e w'=>e=.returned (.int .i64 (Lib.indexByte s.data.toList c))∧w'=w:=Any.stringslite_Index_one Tryd.lays219 s c w
def Tryd.lays283_ren:Go.Shelf.Ren:=⟨fun|283=>58|n=>n,fun|3=>3|9=>9|4=>4|n=>n,fun|n=>n⟩
theorem Tryd.lays283:Go.Proofs.Lays.n283 Tryd.prog Tryd.lays283_ren:={
 mixed:=by kernel_rfl
 f283:=Tryd.func58.trans (congrArg some (by kernel_rfl))
 t3:=Tryd.underlying3
 a3:=Tryd.isAgg3
 z3:=Tryd.sizeOf3
 v3:=Tryd.zeroValue3
 t4:=Tryd.underlying4
 a4:=Tryd.isAgg4
 z4:=Tryd.sizeOf4
 v4:=Tryd.zeroValue4
 t9:=Tryd.underlying9
 a9:=Tryd.isAgg9
 z9:=Tryd.sizeOf9
 v9:=Tryd.zeroValue9}
open Go.Lib in
theorem Tryd.internal_strconv_small(i:Nat)(h:i<100)(w:World):
  Calls Tryd.prog 58 #[.int .i64 i] w fun e w'=>e=.returned (.string ⟨(Lib.decDigits i).toArray⟩)∧w'=w:=Any.internal_strconv_small Tryd.lays283 i h w
def Tryd.laysM284_ren:Go.Shelf.Ren:=⟨fun|284=>59|129=>72|317=>71|318=>73|n=>n,fun|53=>66|3=>3|212=>129|0=>0|4=>4|46=>132|5=>5|9=>9|n=>n,fun|17=>1|n=>n⟩
theorem Tryd.laysM284:Go.Proofs.LaysM.n284 Tryd.prog Tryd.laysM284_ren:={
 mixed:=by kernel_rfl
 f129:=Tryd.func72.trans (congrArg some (by kernel_rfl))
 f284:=Tryd.func59.trans (congrArg some (by kernel_rfl))
 f317:=Tryd.func71.trans (congrArg some (by kernel_rfl))
 f318:=Tryd.func73.trans (congrArg some (by kernel_rfl))
 t0:=Tryd.underlying0
 a0:=Tryd.isAgg0
 z0:=Tryd.sizeOf0
 v0:=Tryd.zeroValue0
 t3:=Tryd.underlying3
 a3:=Tryd.isAgg3
 z3:=Tryd.sizeOf3
 v3:=Tryd.zeroValue3
 t4:=Tryd.underlying4
 a4:=Tryd.isAgg4
 z4:=Tryd.sizeOf4
 v4:=Tryd.zeroValue4
 t5:=Tryd.underlying5
 a5:=Tryd.isAgg5
 z5:=Tryd.sizeOf5
 v5:=Tryd.zeroValue5
 t9:=Tryd.underlying9
 a9:=Tryd.isAgg9
 z9:=Tryd.sizeOf9
 v9:=Tryd.zeroValue9
 t46:=Tryd.underlying132
 a46:=Tryd.isAgg132
 z46:=Tryd.sizeOf132
 v46:=Tryd.zeroValue132
 t53:=Tryd.underlying66
 a53:=Tryd.isAgg66
 z53:=Tryd.sizeOf66
 v53:=Tryd.zeroValue66
 t212:=Tryd.underlying129
 a212:=Tryd.isAgg129
 z212:=Tryd.sizeOf129
 v212:=Tryd.zeroValue129
 g17:=by kernel_rfl
 i0:=by kernel_rfl
 i3:=by kernel_rfl
 i4:=by kernel_rfl
 i5:=by kernel_rfl
 i9:=by kernel_rfl
 i46:=by kernel_rfl
 i53:=by kernel_rfl
 i212:=by kernel_rfl
 m17:=by kernel_rfl}
open Go.Lib in
theorem Tryd.internal_strconv_numDigits(u:Nat)(h1:1≤u)(h2:u<18446744073709551616)(w:World)(htab:Lib.TabIs Tryd.prog w "internal/strconv.uint64pow10" .u64 Lib.pow10Tab):
  Calls Tryd.prog 59 #[.int .u64 u] w fun e w'=>e=.returned (.int .i64 (Lib.nDigits u))∧w'=w:=Any.internal_strconv_numDigits Tryd.laysM284 u h1 h2 w htab
def Tryd.lays285_ren:Go.Shelf.Ren:=⟨fun|285=>60|n=>n,fun|37=>34|53=>66|3=>3|4=>4|51=>51|9=>9|5=>5|0=>0|n=>n,fun|n=>n⟩
theorem Tryd.lays285:Go.Proofs.Lays.n285 Tryd.prog Tryd.lays285_ren:={
 mixed:=by kernel_rfl
 f285:=Tryd.func60.trans (congrArg some (by kernel_rfl))
 t0:=Tryd.underlying0
 a0:=Tryd.isAgg0
 z0:=Tryd.sizeOf0
 v0:=Tryd.zeroValue0
 t3:=Tryd.underlying3
 a3:=Tryd.isAgg3
 z3:=Tryd.sizeOf3
 v3:=Tryd.zeroValue3
 t4:=Tryd.underlying4
 a4:=Tryd.isAgg4
 z4:=Tryd.sizeOf4
 v4:=Tryd.zeroValue4
 t5:=Tryd.underlying5
 a5:=Tryd.isAgg5
 z5:=Tryd.sizeOf5
 v5:=Tryd.zeroValue5
 t9:=Tryd.underlying9
 a9:=Tryd.isAgg9
 z9:=Tryd.sizeOf9
 v9:=Tryd.zeroValue9
 t37:=Tryd.underlying34
 a37:=Tryd.isAgg34
 z37:=Tryd.sizeOf34
 v37:=Tryd.zeroValue34
 t51:=Tryd.underlying51
 a51:=Tryd.isAgg51
 z51:=Tryd.sizeOf51
 v51:=Tryd.zeroValue51
 t53:=Tryd.underlying66
 a53:=Tryd.isAgg66
 z53:=Tryd.sizeOf66
 v53:=Tryd.zeroValue66}
open Go.RowKit Go.Sort Go.Lib in
theorem Tryd.internal_strconv_formatBase10(blk off cap:Nat)(u:Nat)(d:Array UInt8)(w:World)(hH:Holds (fun(b:UInt8)=>Value.int .u8 (b.toNat:Int)) w blk off d)(hu:u<10^d.size)(hu64:u<18446744073709551616)(hsz:d.size<4611686018427387904):
  Calls Tryd.prog 60 #[.slice (some ⟨blk,off,none⟩) d.size cap,.int .u64 u] w fun e w'=>
   e=.returned (.tuple #[])∧∃(n v':Nat) (dk:Array UInt8),w'=(putRow (fun(b:UInt8)=>Value.int .u8 (b.toNat:Int)) w blk off dk).drewN n∧FmtInv d.size u 0 v' dk:=Any.internal_strconv_formatBase10 Tryd.lays285 blk off cap u d w hH hu hu64 hsz
def Tryd.lays156_ren:Go.Shelf.Ren:=⟨fun|156=>41|165=>56|166=>40|169=>25|240=>55|241=>70|276=>69|277=>86|n=>n,fun|31=>95|9=>9|3=>3|4=>4|0=>0|20=>20|72=>75|76=>104|70=>73|37=>34|75=>103|127=>107|164=>125|5=>5|80=>83|n=>n,fun|n=>n⟩
theorem Tryd.lays156:Go.Proofs.Lays.n156 Tryd.prog Tryd.lays156_ren:={
 mixed:=by kernel_rfl
 f156:=Tryd.func41.trans (congrArg some (by kernel_rfl))
 f165:=Tryd.func56.trans (congrArg some (by kernel_rfl))
 f166:=Tryd.func40.trans (congrArg some (by kernel_rfl))
 f169:=Tryd.func25.trans (congrArg some (by kernel_rfl))
 f240:=Tryd.func55.trans (congrArg some (by kernel_rfl))
 f241:=Tryd.func70.trans (congrArg some (by kernel_rfl))
 f276:=Tryd.func69.trans (congrArg some (by kernel_rfl))
 f277:=Tryd.func86.trans (congrArg some (by kernel_rfl))
 t0:=Tryd.underlying0
 a0:=Tryd.isAgg0
 z0:=Tryd.sizeOf0
 v0:=Tryd.zeroValue0
 t3:=Tryd.underlying3
 a3:=Tryd.isAgg3
 z3:=Tryd.sizeOf3
 v3:=Tryd.zeroValue3
 t4:=Tryd.underlying4
 a4:=Tryd.isAgg4
 z4:=Tryd.sizeOf4
 v4:=Tryd.zeroValue4
 t9:=Tryd.underlying9
 a9:=Tryd.isAgg9
 z9:=Tryd.sizeOf9
 v9:=Tryd.zeroValue9
 t20:=Tryd.underlying20
 a20:=Tryd.isAgg20
 z20:=Tryd.sizeOf20
 v20:=Tryd.zeroValue20
 t31:=Tryd.underlying95
 a31:=Tryd.isAgg95
 z31:=Tryd.sizeOf95
 v31:=Tryd.zeroValue95
 t37:=Tryd.underlying34
 a37:=Tryd.isAgg34
 z37:=Tryd.sizeOf34
 v37:=Tryd.zeroValue34
 t70:=Tryd.underlying73
 a70:=Tryd.isAgg73
 z70:=Tryd.sizeOf73
 v70:=Tryd.zeroValue73
 t72:=Tryd.underlying75
 a72:=Tryd.isAgg75
 z72:=Tryd.sizeOf75
 v72:=Tryd.zeroValue75
 t75:=Tryd.underlying103
 a75:=Tryd.isAgg103
 z75:=Tryd.sizeOf103
 v75:=Tryd.zeroValue103
 t76:=Tryd.underlying104
 a76:=Tryd.isAgg104
 z76:=Tryd.sizeOf104
 v76:=Tryd.zeroValue104
 t127:=Tryd.underlying107
 a127:=Tryd.isAgg107
 z127:=Tryd.sizeOf107
 v127:=Tryd.zeroValue107
 t164:=Tryd.underlying125
 a164:=Tryd.isAgg125
 z164:=Tryd.sizeOf125
 v164:=Tryd.zeroValue125}
theorem Tryd.Builder_Extra_156:Builder.Extra Tryd.prog Tryd.lays156_ren:={
 sizeBuilder:=by kernel_rfl
 liesBuilder:=by kernel_rfl
 t5:=Tryd.underlying5
 a5:=Tryd.isAgg5
 z5:=Tryd.sizeOf5
 v5:=Tryd.zeroValue5
 infoByte:=by kernel_rfl
 cellsByte:=by kernel_rfl
 sizeByte:=by kernel_rfl
 neB5:=by decide}
open Go.RowKit in
theorem Tryd.strings_Join(bk o c:Nat)(xs:List ByteArray)(sep:ByteArray)(w:World)(hcells:∀(j:Nat) x,xs[j]? =some x→w.cell? ⟨bk,o+j,none⟩=some (.string x))(hbk:bk<w.heap.size)(hN:xs.length≤140737488355328)(hcap:xs.length≤c)(hlen:(Lib.join (xs.map (·.data.toList)) sep.data.toList).length≤140737488355328):
  Calls Tryd.prog 41 #[.slice (some ⟨bk,o,none⟩) xs.length c,.string sep] w fun e w'=>e=.returned (.string ⟨(Lib.join (xs.map (·.data.toList)) sep.data.toList).toArray⟩)∧Below w.heap.size w w':=Any.strings_Join Tryd.lays156 Tryd.Builder_Extra_156 bk o c xs sep w hcells hbk hN hcap hlen
open Go.RowKit in
theorem Tryd.strings_Join_none(a:Option Addr)(c:Nat)(sep:ByteArray)(w:World):
  Calls Tryd.prog 41 #[.slice a 0 c,.string sep] w fun e w'=>e=.returned (.string ⟨#[]⟩)∧w'=w:=Any.strings_Join_none Tryd.lays156 Tryd.Builder_Extra_156 a c sep w
def Tryd.lays138_ren:Go.Shelf.Ren:=⟨fun|138=>67|195=>82|218=>84|143=>68|219=>85|217=>92|225=>93|224=>94|267=>95|266=>96|314=>97|n=>n,fun|9=>9|3=>3|4=>4|5=>5|0=>0|46=>132|146=>156|51=>51|n=>n,fun|1=>0|n=>n⟩
theorem Tryd.lays138:Go.Proofs.Lays.n138 Tryd.prog Tryd.lays138_ren:={
 mixed:=by kernel_rfl
 f138:=Tryd.func67.trans (congrArg some (by kernel_rfl))
 f143:=Tryd.func68.trans (congrArg some (by kernel_rfl))
 f195:=Tryd.func82.trans (congrArg some (by kernel_rfl))
 f217:=Tryd.func92.trans (congrArg some (by kernel_rfl))
 f218:=Tryd.func84.trans (congrArg some (by kernel_rfl))
 f219:=Tryd.func85.trans (congrArg some (by kernel_rfl))
 f224:=Tryd.func94.trans (congrArg some (by kernel_rfl))
 f225:=Tryd.func93.trans (congrArg some (by kernel_rfl))
 f266:=Tryd.func96.trans (congrArg some (by kernel_rfl))
 f267:=Tryd.func95.trans (congrArg some (by kernel_rfl))
 f314:=Tryd.func97.trans (congrArg some (by kernel_rfl))
 t0:=Tryd.underlying0
 a0:=Tryd.isAgg0
 z0:=Tryd.sizeOf0
 v0:=Tryd.zeroValue0
 t3:=Tryd.underlying3
 a3:=Tryd.isAgg3
 z3:=Tryd.sizeOf3
 v3:=Tryd.zeroValue3
 t4:=Tryd.underlying4
 a4:=Tryd.isAgg4
 z4:=Tryd.sizeOf4
 v4:=Tryd.zeroValue4
 t5:=Tryd.underlying5
 a5:=Tryd.isAgg5
 z5:=Tryd.sizeOf5
 v5:=Tryd.zeroValue5
 t9:=Tryd.underlying9
 a9:=Tryd.isAgg9
 z9:=Tryd.sizeOf9
 v9:=Tryd.zeroValue9
 t46:=Tryd.underlying132
 a46:=Tryd.isAgg132
 z46:=Tryd.sizeOf132
 v46:=Tryd.zeroValue132
 t51:=Tryd.underlying51
 a51:=Tryd.isAgg51
 z51:=Tryd.sizeOf51
 v51:=Tryd.zeroValue51
 t146:=Tryd.underlying156
 a146:=Tryd.isAgg156
 z146:=Tryd.sizeOf156
 v146:=Tryd.zeroValue156
 g1:=by kernel_rfl}
open Go.RowKit Go.Lib in
theorem Tryd.strings_Count_one(s:ByteArray)(c:UInt8)(w:World):
  Calls Tryd.prog 67 #[.string s,.string ⟨#[c]⟩] w fun e w'=>e=.returned (.int .i64 (Lib.countByte s.data.toList c))∧w'=w:=Any.strings_Count_one Tryd.lays138 s c w
open Go.RowKit Go.Lib in
theorem Tryd.stringslite_Index(s sub:ByteArray)(m:Int)(w:World)(hs:s.size<4294967281)(hm:w.cell? ⟨0,0,none⟩=some (.int .i64 m)):
  Calls Tryd.prog 85 #[.string s,.string sub] w fun e w'=>e=.returned (.int .i64 (Lib.index s.data.toList sub.data.toList))∧w'=w:=Any.stringslite_Index Tryd.lays219 s sub m w hs hm
def Tryd.laysPu14_ren:Go.Shelf.Ren:=⟨fun|14=>49|16=>64|17=>65|19=>76|20=>77|21=>78|22=>79|23=>80|24=>81|25=>89|27=>21|26=>90|28=>42|29=>57|30=>58|31=>59|32=>60|33=>61|35=>72|34=>71|36=>73|37=>74|38=>75|39=>87|40=>88|n=>n,fun|9=>9|3=>3|22=>66|24=>103|25=>109|4=>4|34=>134|5=>5|36=>132|37=>34|0=>0|39=>136|21=>21|44=>145|47=>107|50=>151|48=>149|2=>2|52=>116|55=>119|59=>129|60=>51|20=>20|61=>130|65=>147|66=>148|67=>83|n=>n,fun|0=>2|1=>3|2=>1|3=>4|4=>5|n=>n⟩
theorem Tryd.laysPu14:Go.Proofs.LaysPu.n14 Tryd.prog Tryd.laysPu14_ren:={
 mixed:=by kernel_rfl
 f14:=Tryd.func49.trans (congrArg some (by kernel_rfl))
 f16:=Tryd.func64.trans (congrArg some (by kernel_rfl))
 f17:=Tryd.func65.trans (congrArg some (by kernel_rfl))
 f19:=Tryd.func76.trans (congrArg some (by kernel_rfl))
 f20:=Tryd.func77.trans (congrArg some (by kernel_rfl))
 f21:=Tryd.func78.trans (congrArg some (by kernel_rfl))
 f22:=Tryd.func79.trans (congrArg some (by kernel_rfl))
 f23:=Tryd.func80.trans (congrArg some (by kernel_rfl))
 f24:=Tryd.func81.trans (congrArg some (by kernel_rfl))
 f25:=Tryd.func89.trans (congrArg some (by kernel_rfl))
 f26:=Tryd.func90.trans (congrArg some (by kernel_rfl))
 f27:=Tryd.func21.trans (congrArg some (by kernel_rfl))
 f28:=Tryd.func42.trans (congrArg some (by kernel_rfl))
 f29:=Tryd.func57.trans (congrArg some (by kernel_rfl))
 f30:=Tryd.func58.trans (congrArg some (by kernel_rfl))
 f31:=Tryd.func59.trans (congrArg some (by kernel_rfl))
 f32:=Tryd.func60.trans (congrArg some (by kernel_rfl))
 f33:=Tryd.func61.trans (congrArg some (by kernel_rfl))
 f34:=Tryd.func71.trans (congrArg some (by kernel_rfl))
 f35:=Tryd.func72.trans (congrArg some (by kernel_rfl))
 f36:=Tryd.func73.trans (congrArg some (by kernel_rfl))
 f37:=Tryd.func74.trans (congrArg some (by kernel_rfl))
 f38:=Tryd.func75.trans (congrArg some (by kernel_rfl))
 f39:=Tryd.func87.trans (congrArg some (by kernel_rfl))
 f40:=Tryd.func88.trans (congrArg some (by kernel_rfl))
 t0:=Tryd.underlying0
 a0:=Tryd.isAgg0
 z0:=Tryd.sizeOf0
 v0:=Tryd.zeroValue0
 i0:=by kernel_rfl
 t2:=Tryd.underlying2
 a2:=Tryd.isAgg2
 z2:=Tryd.sizeOf2
 v2:=Tryd.zeroValue2
 i2:=by kernel_rfl
 t3:=Tryd.underlying3
 a3:=Tryd.isAgg3
 z3:=Tryd.sizeOf3
 v3:=Tryd.zeroValue3
 i3:=by kernel_rfl
 t4:=Tryd.underlying4
 a4:=Tryd.isAgg4
 z4:=Tryd.sizeOf4
 v4:=Tryd.zeroValue4
 i4:=by kernel_rfl
 t5:=Tryd.underlying5
 a5:=Tryd.isAgg5
 z5:=Tryd.sizeOf5
 v5:=Tryd.zeroValue5
 i5:=by kernel_rfl
 t9:=Tryd.underlying9
 a9:=Tryd.isAgg9
 z9:=Tryd.sizeOf9
 v9:=Tryd.zeroValue9
 i9:=by kernel_rfl
 t20:=Tryd.underlying20
 a20:=Tryd.isAgg20
 z20:=Tryd.sizeOf20
 v20:=Tryd.zeroValue20
 i20:=by kernel_rfl
 t21:=Tryd.underlying21
 a21:=Tryd.isAgg21
 z21:=Tryd.sizeOf21
 v21:=Tryd.zeroValue21
 i21:=by kernel_rfl
 t22:=Tryd.underlying66
 a22:=Tryd.isAgg66
 z22:=Tryd.sizeOf66
 v22:=Tryd.zeroValue66
 i22:=by kernel_rfl
 t24:=Tryd.underlying103
 a24:=Tryd.isAgg103
 z24:=Tryd.sizeOf103
 v24:=Tryd.zeroValue103
 i24:=by kernel_rfl
 t25:=Tryd.underlying109
 a25:=Tryd.isAgg109
 z25:=Tryd.sizeOf109
 v25:=Tryd.zeroValue109
 i25:=by kernel_rfl
 t34:=Tryd.underlying134
 a34:=Tryd.isAgg134
 z34:=Tryd.sizeOf134
 v34:=Tryd.zeroValue134
 i34:=by kernel_rfl
 c34:=by kernel_rfl
 t36:=Tryd.underlying132
 a36:=Tryd.isAgg132
 z36:=Tryd.sizeOf132
 v36:=Tryd.zeroValue132
 i36:=by kernel_rfl
 t37:=Tryd.underlying34
 a37:=Tryd.isAgg34
 z37:=Tryd.sizeOf34
 v37:=Tryd.zeroValue34
 i37:=by kernel_rfl
 t39:=Tryd.underlying136
 a39:=Tryd.isAgg136
 z39:=Tryd.sizeOf136
 v39:=Tryd.zeroValue136
 i39:=by kernel_rfl
 t44:=Tryd.underlying145
 a44:=Tryd.isAgg145
 z44:=Tryd.sizeOf145
 v44:=Tryd.zeroValue145
 i44:=by kernel_rfl
 t47:=Tryd.underlying107
 a47:=Tryd.isAgg107
 z47:=Tryd.sizeOf107
 v47:=Tryd.zeroValue107
 i47:=by kernel_rfl
 t48:=Tryd.underlying149
 a48:=Tryd.isAgg149
 z48:=Tryd.sizeOf149
 v48:=Tryd.zeroValue149
 i48:=by kernel_rfl
 t50:=Tryd.underlying151
 a50:=Tryd.isAgg151
 z50:=Tryd.sizeOf151
 v50:=Tryd.zeroValue151
 i50:=by kernel_rfl
 t52:=Tryd.underlying116
 a52:=Tryd.isAgg116
 z52:=Tryd.sizeOf116
 v52:=Tryd.zeroValue116
 i52:=by kernel_rfl
 t55:=Tryd.underlying119
 a55:=Tryd.isAgg119
 z55:=Tryd.sizeOf119
 v55:=Tryd.zeroValue119
 i55:=by kernel_rfl
 t59:=Tryd.underlying129
 a59:=Tryd.isAgg129
 z59:=Tryd.sizeOf129
 v59:=Tryd.zeroValue129
 i59:=by kernel_rfl
 t60:=Tryd.underlying51
 a60:=Tryd.isAgg51
 z60:=Tryd.sizeOf51
 v60:=Tryd.zeroValue51
 i60:=by kernel_rfl
 t61:=Tryd.underlying130
 a61:=Tryd.isAgg130
 z61:=Tryd.sizeOf130
 t65:=Tryd.underlying147
 a65:=Tryd.isAgg147
 z65:=Tryd.sizeOf147
 v65:=Tryd.zeroValue147
 i65:=by kernel_rfl
 t66:=Tryd.underlying148
 a66:=Tryd.isAgg148
 z66:=Tryd.sizeOf148
 v66:=Tryd.zeroValue148
 i66:=by kernel_rfl
 t67:=Tryd.underlying83
 a67:=Tryd.isAgg83
 z67:=Tryd.sizeOf83
 v67:=Tryd.zeroValue83
 i67:=by kernel_rfl
 g0:=by kernel_rfl
 m0:=by kernel_rfl
 g1:=by kernel_rfl
 m1:=by kernel_rfl
 g2:=by kernel_rfl
 m2:=by kernel_rfl
 g3:=by kernel_rfl
 m3:=by kernel_rfl
 g4:=by kernel_rfl
 m4:=by kernel_rfl}
open Go.RowKit in
theorem Tryd.strconv_ParseUint_10_at64_ok(s:ByteArray)(hmax:s.size≤9223372036854775806)(u:Nat)(h:Lib.parseUintB 64 s.data.toList=.ok u)(w:World):
  Calls Tryd.prog 49 #[.string s,.int .i64 10,.int .i64 64] w fun e w'=>e=.returned (.tuple #[.int .u64 u,.nilIface])∧(w'=w∨w'=Lib.bytesWorld w 5 s):=Any.strconv_ParseUint_10_at64_ok Tryd.laysPu14 s hmax u h w
open Go.RowKit in
theorem Tryd.strconv_ParseUint_10_at64_syntax(s:ByteArray)(hlim:s.size≤281474976710656)(h:Lib.parseUintB 64 s.data.toList=Lib.NumEnd.syntax)(ev:Value)(w:World)(hv:w.cell? ⟨2,0,none⟩=some ev)(hev:ev=.nilIface∨∃te pe,ev=.iface te pe):
  Calls Tryd.prog 49 #[.string s,.int .i64 10,.int .i64 64] w fun e w'=>∃N,e=.returned (.tuple #[.int .u64 0,.iface 136 (.pointer (some ⟨N,0,none⟩))])∧w.heap.size≤N∧w'.heap[N]? =some (.cells #[.string ⟨#[80,97,114,115,101,85,105,110,116]⟩,.string s,ev] 145 (0,0))∧Below w.heap.size w w':=Any.strconv_ParseUint_10_at64_syntax Tryd.laysPu14 s hlim h ev w hv hev
open Go.RowKit in
theorem Tryd.strconv_ParseUint_10_at64_range(s:ByteArray)(hlim:s.size≤281474976710656)(h:Lib.parseUintB 64 s.data.toList=.range)(ev:Value)(w:World)(hv:w.cell? ⟨3,0,none⟩=some ev)(hev:ev=.nilIface∨∃te pe,ev=.iface te pe):
  Calls Tryd.prog 49 #[.string s,.int .i64 10,.int .i64 64] w fun e w'=>∃N,e=.returned (.tuple #[.int .u64 18446744073709551615,.iface 136 (.pointer (some ⟨N,0,none⟩))])∧w.heap.size≤N∧w'.heap[N]? =some (.cells #[.string ⟨#[80,97,114,115,101,85,105,110,116]⟩,.string s,ev] 145 (0,0))∧Below w.heap.size w w':=Any.strconv_ParseUint_10_at64_range Tryd.laysPu14 s hlim h ev w hv hev
def Tryd.laysB_ren:Go.Shelf.Ren:=⟨fun|166=>40|240=>55|276=>69|169=>25|n=>n,fun|37=>34|70=>73|72=>75|75=>103|80=>83|164=>125|127=>107|n=>n,fun n=>n⟩
theorem Tryd.laysB166:Lays.n166 Tryd.prog Tryd.laysB_ren:={
 mixed:=by kernel_rfl
 f166:=Tryd.func40.trans (congrArg some (by kernel_rfl))
 f240:=Tryd.func55.trans (congrArg some (by kernel_rfl))
 f276:=Tryd.func69.trans (congrArg some (by kernel_rfl))
 t0:=Tryd.underlying0
 a0:=Tryd.isAgg0
 z0:=Tryd.sizeOf0
 v0:=Tryd.zeroValue0
 t3:=Tryd.underlying3
 a3:=Tryd.isAgg3
 z3:=Tryd.sizeOf3
 v3:=Tryd.zeroValue3
 t4:=Tryd.underlying4
 a4:=Tryd.isAgg4
 z4:=Tryd.sizeOf4
 v4:=Tryd.zeroValue4
 t9:=Tryd.underlying9
 a9:=Tryd.isAgg9
 z9:=Tryd.sizeOf9
 v9:=Tryd.zeroValue9
 t20:=Tryd.underlying20
 a20:=Tryd.isAgg20
 z20:=Tryd.sizeOf20
 v20:=Tryd.zeroValue20
 t37:=Tryd.underlying34
 a37:=Tryd.isAgg34
 z37:=Tryd.sizeOf34
 v37:=Tryd.zeroValue34
 t70:=Tryd.underlying73
 a70:=Tryd.isAgg73
 z70:=Tryd.sizeOf73
 v70:=Tryd.zeroValue73
 t72:=Tryd.underlying75
 a72:=Tryd.isAgg75
 z72:=Tryd.sizeOf75
 v72:=Tryd.zeroValue75
 t75:=Tryd.underlying103
 a75:=Tryd.isAgg103
 z75:=Tryd.sizeOf103
 v75:=Tryd.zeroValue103
 t164:=Tryd.underlying125
 a164:=Tryd.isAgg125
 z164:=Tryd.sizeOf125
 v164:=Tryd.zeroValue125}
theorem Tryd.laysB169:Lays.n169 Tryd.prog Tryd.laysB_ren:={
 mixed:=by kernel_rfl
 f169:=Tryd.func25.trans (congrArg some (by kernel_rfl))
 t0:=Tryd.underlying0
 a0:=Tryd.isAgg0
 z0:=Tryd.sizeOf0
 v0:=Tryd.zeroValue0
 t3:=Tryd.underlying3
 a3:=Tryd.isAgg3
 z3:=Tryd.sizeOf3
 v3:=Tryd.zeroValue3
 t9:=Tryd.underlying9
 a9:=Tryd.isAgg9
 z9:=Tryd.sizeOf9
 v9:=Tryd.zeroValue9
 t37:=Tryd.underlying34
 a37:=Tryd.isAgg34
 z37:=Tryd.sizeOf34
 v37:=Tryd.zeroValue34
 t70:=Tryd.underlying73
 a70:=Tryd.isAgg73
 z70:=Tryd.sizeOf73
 v70:=Tryd.zeroValue73
 t72:=Tryd.underlying75
 a72:=Tryd.isAgg75
 z72:=Tryd.sizeOf75
 v72:=Tryd.zeroValue75
 t127:=Tryd.underlying107
 a127:=Tryd.isAgg107
 z127:=Tryd.sizeOf107
 v127:=Tryd.zeroValue107}
theorem Tryd.builderX:Builder.Extra Tryd.prog Tryd.laysB_ren where
 sizeBuilder:=by kernel_rfl
 liesBuilder:=by kernel_rfl
 t5:=Tryd.underlying5
 a5:=Tryd.isAgg5
 z5:=Tryd.sizeOf5
 v5:=Tryd.zeroValue5
 infoByte:=by kernel_rfl
 cellsByte:=by kernel_rfl
 sizeByte:=by kernel_rfl
 neB5:=by decide
theorem Tryd.liesPaper:Go.liesAt Tryd.prog Tryd.prog.depth (77:Nat) (2/Tryd.prog.cellsOf (77:Nat)) 0 (Tryd.laysB_ren.t 72) 1=true:=by kernel_rfl
theorem Tryd.builderWrite{G:Nat→List WB.CV}{N K:Nat}(hNK:N≠K)(hN:Nat.ble WB.tbase N=true)(hK:Nat.ble WB.tbase K=true)(hok:WB.okΘ (WB.bldΘ N K 77 5)=true):WB.EffOk Tryd.prog G 40 (WB.writeF N K 77 5):=
 WB.writeE_ok (T:=77) (P:=Tryd.prog) (ρ:=Tryd.laysB_ren) Tryd.laysB166 Tryd.builderX (by kernel_rfl) Tryd.liesPaper hNK hN hK hok
theorem Tryd.builderString{G:Nat→List WB.CV}{N K:Nat}(hNK:N≠K)(hN:Nat.ble WB.tbase N=true)(hK:Nat.ble WB.tbase K=true)(hok:WB.okΘ (WB.bldΘ N K 77 5)=true):WB.EffOk Tryd.prog G 25 (WB.stringF N K 77 5):=
 WB.stringE_ok (T:=77) (P:=Tryd.prog) (ρ:=Tryd.laysB_ren) Tryd.laysB169 Tryd.builderX (by kernel_rfl) hNK hN hK hok
end Go.Proofs
namespace Go.Proofs
open Go.Shelf Go.RowKit Go.Sort Go.Lib
theorem holds_zero0(w:World)(T:TypeId)(nd:Nat)(hs:nd≤24):Holds (fun(b:UInt8)=>Value.int .u8 (b.toNat:Int)) (w.alloc (.cells zeros24 T)) w.heap.size 0 (Array.replicate nd (0:UInt8)):=fun j hj=>by
 have hj':j<nd:=by simpa using hj
 refine⟨?_,World.frozen?_alloc_new _ _ _ _⟩;rw[World.cell?_alloc_new,zeros24_at _ (by omega),getElem!_pos _ j hj];simp
theorem fin_pos0(w:World)(o:Obj)(dk:Array UInt8)(k:Nat):∃os,(putRow (fun(b:UInt8)=>Value.int .u8 (b.toNat:Int)) (w.alloc o) w.heap.size 0 dk).drewN k=grow (w.drewN k) os:=by
 rw[alloc_eq_grow];obtain⟨os',_,e⟩:=putRow_grow_new (fun(b:UInt8)=>Value.int .u8 (b.toNat:Int)) w #[o] w.heap.size 0 dk (Nat.le_refl _);exact⟨os',by rw[e];rfl⟩
set_option maxHeartbeats 6400000 in
set_option maxRecDepth 100000 in
theorem Tryd.internal_FormatUint_10(u:Nat)(hu64:u<18446744073709551616)(w:World)(htab:Lib.TabIs Tryd.prog w "internal/strconv.uint64pow10" .u64 Lib.pow10Tab):
  Calls Tryd.prog 44 #[.int .u64 (u:Int),.int .i64 10] w fun e w'=>e=.returned (.string ⟨(Lib.itoa (u:Int)).toArray⟩)∧∃k os,w'=grow (w.drewN k) os:=by
 have eS:∀args w,(callFunc 58 args).run Tryd.prog w=.ok (.enter 58 args) w:=enters_of Tryd.func58 (by kernel_rfl) rfl;have eN:∀args w,(callFunc 59 args).run Tryd.prog w=.ok (.enter 59 args) w:=enters_of Tryd.func59 (by kernel_rfl) rfl;have eB:∀args w,(callFunc 60 args).run Tryd.prog w=.ok (.enter 60 args) w:=enters_of Tryd.func60 (by kernel_rfl) rfl;by_cases hs:u<100
 ·have hwr:IntKind.i64.wrap (u:Int)=(u:Int):=by rw[IntKind.wrap_i64];omega
  go_enter Tryd.func44,Tryd.ntmps44
  go_wp2_with (go_at_fn 58;refine(Tryd.internal_strconv_small u hs _).mono ?_;rintro e w' ⟨rfl,rfl⟩)
  go_ret
  refine⟨?_,0, #[],by simp[World.drewN_zero]⟩;rw[Lib.itoa_nonneg];rfl
 ·have hu1:1≤u:=by omega
  have hnd20:Lib.nDigits u≤20:=by have:=Lib.numDigits_eq u hu1 hu64;split at this<;>omega
  have hal:Tryd.prog.arrayLen 116 =24:=by kernel_rfl
  have hsl1:∀W,(Instr.sliceAt 116 (.pointer (some ⟨w.heap.size,0,none⟩)) none (some (.int .i64 (Lib.nDigits u:Int))) none).run Tryd.prog W=.ok (.slice (some ⟨w.heap.size,0,none⟩) (Lib.nDigits u) 24) W:=fun W=>by
   rw[run_sliceAt_array_h W 116 ⟨w.heap.size,0,none⟩ (by simp[Program.arrayLen,Program.elem,Tryd.underlying116]) .i64 (Lib.nDigits u:Int) (by omega) (by rw[hal];omega)]
   go_simp
  have hH0:=holds_zero0 w 116 (Lib.nDigits u) (by omega);have hfmt:=Tryd.internal_strconv_formatBase10 w.heap.size 0 24 u (Array.replicate (Lib.nDigits u) 0) (w.alloc (.cells Lib.zeros24 116)) hH0 (by rw[Array.size_replicate];exact Lib.lt_pow_nDigits u) hu64 (by rw[Array.size_replicate];omega);rw[Array.size_replicate]at hfmt;have HH0:=Lib.hid hH0;clear hH0 hal
  go_enter Tryd.func44,Tryd.ntmps44
  go_wp2_with (first
   |(go_at_fn 59;refine(Tryd.internal_strconv_numDigits u hu1 hu64 _ (Lib.tabIs_alloc htab _)).mono ?_;rintro e w' ⟨rfl,rfl⟩))
  go_at_fn 60
  refine hfmt.mono ?_
  rintro e w' ⟨rfl,k,v',dk,rfl,hF⟩
  have hcv:(convert 34 9 (.slice (some ⟨w.heap.size,0,none⟩) (Lib.nDigits u) 24)).run Tryd.prog ((putRow (fun(b:UInt8)=>Value.int .u8 (b.toNat:Int)) (w.alloc (.cells Lib.zeros24 116)) w.heap.size 0 dk).drewN k)=.ok (.string ⟨(Lib.decDigits u).toArray⟩) ((putRow (fun(b:UInt8)=>Value.int .u8 (b.toNat:Int)) (w.alloc (.cells Lib.zeros24 116)) w.heap.size 0 dk).drewN k):=by
   have h:=run_convert_bytes_back (P:=Tryd.prog) ((putRow (fun(b:UInt8)=>Value.int .u8 (b.toNat:Int)) (w.alloc (.cells Lib.zeros24 116)) w.heap.size 0 dk).drewN k) 34 9 5 ⟨w.heap.size,0,none⟩ 24 (Lib.decDigits u) Tryd.underlying34 Tryd.underlying5 Tryd.underlying9 (fun j hj=>by
    rw[Lib.row_is_numeral hF j hj,Lib.add_plain,World.cell?_drewN]
    exact cell?_putRow (fun(b:UInt8)=>Value.int .u8 (b.toNat:Int)) _ w.heap.size 0 _ dk HH0.out (by rw[hF.size,Array.size_replicate]) j (by rw[hF.size];rw[Lib.decDigits_length]at hj;exact hj))
   rw[Lib.decDigits_length]at h;exact h
  go_wp2
  go_ret
  obtain⟨os,eo⟩:=fin_pos0 w (.cells Lib.zeros24 116) dk k;refine⟨?_,k,os,eo⟩;rw[Lib.itoa_nonneg];rfl
set_option maxHeartbeats 1600000 in
theorem Tryd.strconv_FormatUint_10(u:Nat)(hu64:u<18446744073709551616)(w:World)(htab:Lib.TabIs Tryd.prog w "internal/strconv.uint64pow10" .u64 Lib.pow10Tab):
  Calls Tryd.prog 23 #[.int .u64 (u:Int),.int .i64 10] w fun e w'=>e=.returned (.string ⟨(Lib.itoa (u:Int)).toArray⟩)∧∃k os,w'=grow (w.drewN k) os:=by
 have eS:∀args w,(callFunc 44 args).run Tryd.prog w=.ok (.enter 44 args) w:=enters_of Tryd.func44 (by kernel_rfl) rfl
 go_enter Tryd.func23,Tryd.ntmps23
 go_wp2_with (go_at_fn 44;refine(Tryd.internal_FormatUint_10 u hu64 _ htab).mono ?_;rintro e w' ⟨rfl,k,os,rfl⟩)
 go_ret
 exact⟨rfl,k,os,rfl⟩
end Go.Proofs
