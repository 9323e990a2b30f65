/-
  OWN TEXTS, MERGED (wip/merge.py): LibIr, RShelf. No condition of their own.
-/
import Derived.Shelf.Strings.Runes
import Derived.Shelf.Strings.IndexAnyAll
import Derived.Laws.Runes
import Derived.Laws.RangeAny
import Derived.WalkMore
import Derived.Lib.OthersKept
import Derived.Shelf.RegionOpenPlain
import Derived.Shelf.Strings.Builder1
import Derived.Shelf.Strings.Builder2
import Derived.Shelf.Strings.OnBuilder
import Derived.Shelf.Strings.Trim
import Derived.Shelf.Small.Utf8
import Derived.Shelf.Small.Strs
import Derived.Shelf.Strings.BuilderF
import Derived.Shelf.Strings.BuilderK
import Derived.Shelf.Utf8.RuneCount
import Derived.Shelf.Strings.Builder2Cap
import Derived.Shelf.Strconv.Atoi
import Derived.Shelf.Strconv.Itoa0
import Derived.Shelf.Strconv.Itoa1
import Derived.Shelf.LaysM
import Derived.Shelf.Strconv.Itoa2
import Derived.Shelf.Strconv.Itoa3
import Derived.Shelf.Strconv.AtoiErrFast
import Derived.Shelf.Strconv.ParseIntEmpty
import Derived.Shelf.Strconv.AtoiFail
import Derived.Shelf.Strconv.Clone
import Derived.Shelf.Strconv.SyntaxError
import Derived.Shelf.LaysC
import Derived.Shelf.Strconv.ToError
import Derived.Shelf.Strconv.AtoiErr
import Derived.Shelf.Strconv.ErrVar
import Derived.Shelf.Strconv.Lower
import Derived.Shelf.Strconv.ParseUint10
import Derived.Shelf.Strconv.ParseUint10Empty
import Derived.Shelf.Strconv.ParseUint10Any
import Derived.Shelf.Strconv.ParseInt10
import Derived.Shelf.Strconv.AtoiLong
import Derived.Shelf.Strconv.AtoiInnerAll
import Derived.Shelf.Strconv.RangeError
import Derived.Shelf.Strconv.ToErrorRange
import Derived.Shelf.Strconv.AtoiAll
import Derived.Shelf.Strconv.ErrVarAll
import Derived.Shelf.Strconv.ParseUintEmpty
import Derived.Shelf.Strconv.ParseUint10b64
import Derived.Shelf.Strconv.ParseUint10b32
import Derived.Shelf.Strconv.ParseUint10b16
import Derived.Shelf.Strconv.ParseUint10b8
import Derived.Shelf.Strconv.ParseUint10At
import Derived.Shelf.Strconv.ParseInt10At64
import Derived.Shelf.Strconv.ParseInt10At32
import Derived.Shelf.Strconv.ParseInt10At16
import Derived.Shelf.Strconv.ParseInt10At8
import Derived.Shelf.Strconv.ParseInt10All
import Derived.Shelf.Strings.Search1
import Derived.Shelf.Strings.Search2
import Derived.Shelf.Strings.Search3
import Derived.Shelf.Strings.Cut
import Derived.Shelf.Strings.Count
import Derived.Shelf.Strings.Shaped
import Derived.Shelf.Strings.Split
import Derived.Shelf.Strings.Replace
import Derived.Shelf.Strings.SplitShaped
import Derived.Shelf.Unicode.Decode
import Derived.Shelf.Strings.RuneCount
import Derived.Shelf.Strings.IndexAny
import Derived.Shelf.Strings.AsciiSet
import Derived.Shelf.Strings.Explode
import Derived.Shelf.Unicode.DecodeSlow
import Derived.Shelf.Unicode.DecodeAny
import Derived.Shelf.Unicode.DecodeLast
import Derived.Shelf.Strings.BuilderCap
import Derived.Shelf.Strings.SlTrimAscii
import Derived.KernelRfl
import Derived.Test.YtcakkedgkahhfaaGreatDoorProg
set_option linter.unusedVariables false
set_option linter.unusedSimpArgs false
namespace Go.Proofs
open Go.Shelf Go.RowKit Go.Lib
variable {P:Program} {ρ:Ren}
theorem idx_not'{l:List UInt8}{c:UInt8}(h:∀b∈l,b≠c):Lib.indexByte l c= -1:=by
 induction l with
 |nil=>rfl
 |cons b l ih=>
  have e:(b==c)=false:=by simpa using h b (by simp)
  simp[Lib.indexByte,e,ih fun x hx=>h x (by simp[hx])]
set_option maxHeartbeats 2000000 in
set_option maxRecDepth 1000000 in
theorem Any.utf8_ValidRune'(L:Lays.n119 P ρ)(r:Int)(w:World)(h0:0≤r):
  Calls P (ρ.f 119) #[.int .i32 r] w fun e w'=>e=.returned (.bool (Utf8.valid r))∧w'=w:=by
 have t4:=L.t4;have a4:=L.a4;have z4:=L.z4;have v4:=L.v4;have t21:=L.t21;have a21:=L.a21;have z21:=L.z21;have v21:=L.v21;by_cases h1:r<55296
 ·have hv:Utf8.valid r=true:=by simp[Utf8.valid];omega
  rw[hv]
  go_enter L.f119,Body.n119_ntmps ρ
  go_wp2
  go_ret
  exact⟨rfl,rfl⟩
 ·by_cases h2:57343<r
  ·by_cases h3:r≤1114111
   ·have hv:Utf8.valid r=true:=by simp[Utf8.valid];omega
    rw[hv]
    go_enter L.f119,Body.n119_ntmps ρ
    go_wp2
    go_ret
    exact⟨rfl,rfl⟩
   ·have hv:Utf8.valid r=false:=by simp[Utf8.valid];omega
    rw[hv]
    go_enter L.f119,Body.n119_ntmps ρ
    go_wp2
    go_ret
    exact⟨rfl,rfl⟩
  ·have hv:Utf8.valid r=false:=by simp[Utf8.valid];omega
   rw[hv]
   go_enter L.f119,Body.n119_ntmps ρ
   go_wp2
   go_ret
   exact⟨rfl,rfl⟩
set_option maxHeartbeats 8000000 in
set_option maxRecDepth 1000000 in
theorem Any.strings_IndexRune_error(L:Lays.n152 P ρ)(s:ByteArray)(w:World)(has:∀(j:Nat) b,s.data.toList[j]? =some b→b.toNat<128):
  Calls P (ρ.f 152) #[.string s,.int .i32 65533] w fun e w'=>e=.returned (.int .i64 (-1))∧∃pos,w'=w.iter s pos:=by
 have HA:Aside (∀(j:Nat) b,s.data.toList[j]? =some b→b.toNat<128):=has;clear has;have t3:=L.t3;have a3:=L.a3;have z3:=L.z3;have v3:=L.v3;have t4:=L.t4;have a4:=L.a4;have z4:=L.z4;have v4:=L.v4;have t5:=L.t5;have a5:=L.a5;have z5:=L.z5;have v5:=L.v5;have t9:=L.t9;have a9:=L.a9;have z9:=L.z9;have v9:=L.v9;have t21:=L.t21;have a21:=L.a21;have z21:=L.z21;have v21:=L.v21
 go_enter L.f152,Body.n152_ntmps ρ
 go_wp2
 go_loopg [5,6] s.size (fun g _ _ wx=>∃i:Nat,i+g=s.size∧wx=w.iter s i)
 case atStart=>exact⟨0,by omega,rfl⟩
 case round=>
  obtain⟨i,hig,rfl⟩:=hrel
  cases gk with
  |zero=>
   obtain rfl:i=s.size:=by omega
   have hnx:=run_next_end (P:=P) w s s.size
   go_wp2
   go_ret
   exact⟨rfl,_,rfl⟩
  |succ g=>
   have hi:i<s.size:=by omega
   obtain⟨x,hx⟩:∃x:UInt8,s[i]'hi=x:=⟨_,rfl⟩;have hxl:s.data.toList[i]? =some x:=by rw[←hx];exact Lib.data_getElem? s i hi
   have hx128:x.toNat<128:=HA.out i x hxl;have hnx:=fun ty=>run_next_ascii (P:=P) w s i ty hi (by rw[hx];exact hx128);rw[hx]at hnx;have hne:((x.toNat:Int)==65533)=false:=beq_eq_false_iff_ne.2 (by omega);clear hxl hx
   go_wp2
   go_roundg g
   case measure=>omega
   case rel=>exact⟨i+1,by omega,rfl⟩
set_option maxHeartbeats 8000000 in
set_option maxRecDepth 1000000 in
theorem Any.strings_IndexRune_bad(L:Lays.n152 P ρ)(s:ByteArray)(r:Int)(w:World)(h1:128≤r)(h2:r≠65533)(hv:Utf8.valid r=false):
  Calls P (ρ.f 152) #[.string s,.int .i32 r] w fun e w'=>e=.returned (.int .i64 (-1))∧w'=w:=by
 have hne:(r==65533)=false:=beq_eq_false_iff_ne.2 h2;have t3:=L.t3;have a3:=L.a3;have z3:=L.z3;have v3:=L.v3;have t4:=L.t4;have a4:=L.a4;have z4:=L.z4;have v4:=L.v4;have t5:=L.t5;have a5:=L.a5;have z5:=L.z5;have v5:=L.v5;have t9:=L.t9;have a9:=L.a9;have z9:=L.z9;have v9:=L.v9;have t21:=L.t21;have a21:=L.a21;have z21:=L.z21;have v21:=L.v21;have e119:∀args w,(callFunc (ρ.f 119) args).run P w=.ok (.enter (ρ.f 119) args) w:=enters_of L.f119 (by kernel_rfl) rfl
 go_enter L.f152,Body.n152_ntmps ρ
 go_wp2_with (go_at_fn (ρ.f 119);refine(Any.utf8_ValidRune' {L with} _ _ (by omega)).mono ?_;rintro e w' ⟨rfl,hw⟩;rw[hw,hv])
 go_ret
 exact⟨rfl,rfl⟩
set_option maxHeartbeats 8000000 in
set_option maxRecDepth 1000000 in
theorem Any.strings_IndexRune_valid(L:Lays.n152 P ρ)(s:ByteArray)(r:Int)(w:World)(h1:128≤r)(h2:r≠65533)(hv:Utf8.valid r=true)(hs:s.size≤1000000)(has:∀(j:Nat) b,s.data.toList[j]? =some b→b.toNat<128):
  Calls P (ρ.f 152) #[.string s,.int .i32 r] w fun e w'=>e=.returned (.int .i64 (-1))∧Below w.heap.size w w':=by
 have hne:(r==65533)=false:=beq_eq_false_iff_ne.2 h2;obtain⟨f1,f2,f3⟩:=encode_facts r hv h1;generalize hE:Utf8.encode r=E at f1 f2 f3;have mixed:=L.mixed;have t3:=L.t3;have a3:=L.a3;have z3:=L.z3;have v3:=L.v3;have t4:=L.t4;have a4:=L.a4;have z4:=L.z4;have v4:=L.v4;have t5:=L.t5;have a5:=L.a5;have z5:=L.z5;have v5:=L.v5;have t9:=L.t9;have a9:=L.a9;have z9:=L.z9;have v9:=L.v9;have t21:=L.t21;have a21:=L.a21;have z21:=L.z21;have v21:=L.v21;have e119:∀args w,(callFunc (ρ.f 119) args).run P w=.ok (.enter (ρ.f 119) args) w:=enters_of L.f119 (by kernel_rfl) rfl;have e137:∀args w,(callFunc (ρ.f 137) args).run P w=.ok (.enter (ρ.f 137) args) w:=enters_of L.f137 (by kernel_rfl) rfl;have hconv:∀w,(convert (ρ.t 21) (ρ.t 9) (.int .i32 r)).run P w=.ok (.string E) w:=fun w=>by rw[run_convert_int_string (hs:=by rw[t21];rfl) (hd:=t9),hE]
 have t21s:(P.underlying (ρ.t 21)).isSome=true:=by rw[t21];rfl
 obtain⟨k,hk⟩:∃k:Nat,E.size=k+1:=⟨E.size-1,by omega⟩;have hw1:IntKind.i64.wrap ((E.size:Int)-1)=(k:Int):=by rw[wrap_small _ (by omega) (by omega)];omega
 have hkE:k<E.size:=by omega
 obtain⟨z,hz⟩:∃z:UInt8,E[k]'hkE=z:=⟨_,rfl⟩
 have hz128:128≤z.toNat:=by
  have:=f3 (by omega);have e:E.size-1=k:=by omega
  rw[←hz];simpa only[e]using this
 clear f3
 go_enter L.f152,Body.n152_ntmps ρ
 go_wp2_with (go_at_fn (ρ.f 119);refine(Any.utf8_ValidRune' {L with} _ _ (by omega)).mono ?_;rintro e w' ⟨rfl,hw⟩;rw[hw,hv])
 go_step3
 go_wp2
 go_loopg [9] 1 (fun g s9 wx=>wx=w∧s9=.int .i64 k)
 case atStart=>exact⟨rfl,rfl⟩
 case round=>
  obtain⟨rfl,rfl⟩:=hrel;by_cases hi:k<s.size
  ·have hiz:(k:Int)<(s.size:Int):=by omega
   obtain⟨x,hx⟩:∃x:UInt8,s[k]'hi=x:=⟨_,rfl⟩;have hxl:s.data.toList[k]? =some x:=by rw[←hx];exact Lib.data_getElem? s k hi
   have hx128:x.toNat<128:=has k x hxl;have hxz:((x.toNat:Int)==(z.toNat:Int))=false:=beq_eq_false_iff_ne.2 (by omega);have hw2:IntKind.i64.wrap ((k:Int)+1)=(k:Int)+1:=wrap_small _ (by omega) (by omega)
   go_wp2
   go_step3
   go_wp2
   go_region_o
   go_wp2
   have hib:Lib.indexByte (List.take (s.size-(k+1)) (List.drop (k+1) s.data.toList)) z= -1:=idx_not' fun b hb=>by
    obtain⟨j,hj⟩:=List.getElem?_of_mem (List.mem_of_mem_drop (List.mem_of_mem_take hb));have:=has j b hj;intro e;subst e;omega
   have hlt:Lib.indexByte (List.take (s.size-(k+1)) (List.drop (k+1) s.data.toList)) z<0:=by omega
   go_region_with_o (refine(Any.strings_IndexByte {L with} _ _ _).mono ?_;rintro e w' ⟨rfl,hw⟩;rw[hw])
   go_wp2
   all_goals(simp only[Exit.noGoto_ret,Exit.inBlock,Exit.then];go_ret;exact⟨rfl,(Below.refl _ _).drew.drew⟩)
  ·have hiz:¬(k:Int)<(s.size:Int):=by omega
   go_wp2
   go_ret
   exact⟨rfl,Below.refl _ _⟩
theorem Any.strings_IndexRune_high(L:Lays.n152 P ρ)(s:ByteArray)(r:Int)(w:World)(h1:128≤r)(hs:s.size≤1000000)(has:∀(j:Nat) b,s.data.toList[j]? =some b→b.toNat<128):
  Calls P (ρ.f 152) #[.string s,.int .i32 r] w fun e w'=>e=.returned (.int .i64 (-1))∧Below w.heap.size w w':=by
 by_cases h2:r=65533
 ·subst h2;exact(Any.strings_IndexRune_error L s w has).mono fun e w' ⟨he,pos,hw⟩=>⟨he,hw▸(Below.refl _ _).alloc (Nat.le_refl _) _⟩
 ·cases hv:Utf8.valid r with
  |true=>exact Any.strings_IndexRune_valid L s r w h1 h2 hv hs has
  |false=>exact(Any.strings_IndexRune_bad L s r w h1 h2 hv).mono fun e w' ⟨he,hw⟩=>⟨he,hw▸Below.refl _ _⟩
theorem decode_bytes(s:ByteArray)(pos:Nat)(h:pos<s.size)(ha:128≤(s[pos]'h).toNat):∀j,j<(Utf8.decode s pos).2→128≤(s.get! (pos+j)).toNat:=by
 have hn:¬(s[pos]'h).toNat<128:=by omega
 have h0:128≤(s.get! (pos+0)).toNat:=by rw[get_at s pos h];exact ha
 have hdec:(Utf8.decode s pos).2≤1∨128≤(s.get! (pos+1)).toNat∧((Utf8.decode s pos).2≤2∨128≤(s.get! (pos+2)).toNat∧((Utf8.decode s pos).2≤3∨128≤(s.get! (pos+3)).toNat∧(Utf8.decode s pos).2≤4)):=by
  simp only[Utf8.decode,get_at s pos h,hn,if_false]
  repeat' split
  all_goals simp_all
  all_goals omega
 intro j hj
 match j with
 |0=>exact h0
 |1=>omega
 |2=>omega
 |3=>omega
 |n+4=>omega
set_option maxHeartbeats 8000000 in
set_option maxRecDepth 1000000 in
theorem Any.strings_IndexAny_short'(L:Lays.n153 P ρ)(s chars:ByteArray)(w:World)(h2:2≤chars.size)(hc:chars.size≤1000000)(h8:s.size≤8)(hascii:∀(j:Nat) b,chars.data.toList[j]? =some b→b.toNat<128):
  Calls P (ρ.f 153) #[.string s,.string chars] w fun e w'=>e=.returned (.int .i64 (Lib.indexAny s.data.toList chars.data.toList))∧Below w.heap.size w w':=by
 have HA:Aside (∀(j:Nat) b,chars.data.toList[j]? =some b→b.toNat<128):=hascii;clear hascii
 have hemp:chars.toList.isEmpty=false:=by
  rw[Lib.toList_data]
  cases h:chars.data.toList with
  |nil=>have:=Lib.size_eq chars;rw[h,List.length_nil]at this;omega
  |cons _ _=>rfl
 have hn1:((chars.size:Int)==1)=false:=beq_eq_false_iff_ne.2 (by omega);have h8z:decide ((8:Int)<(s.size:Int))=false:=decide_eq_false (by omega);have t3:=L.t3;have a3:=L.a3;have z3:=L.z3;have v3:=L.v3;have t4:=L.t4;have a4:=L.a4;have z4:=L.z4;have v4:=L.v4;have t5:=L.t5;have a5:=L.a5;have z5:=L.z5;have v5:=L.v5;have t9:=L.t9;have a9:=L.a9;have z9:=L.z9;have v9:=L.v9;have t21:=L.t21;have a21:=L.a21;have z21:=L.z21;have v21:=L.v21;have e152:∀args w,(callFunc (ρ.f 152) args).run P w=.ok (.enter (ρ.f 152) args) w:=enters_of L.f152 (by kernel_rfl) rfl;have e226:∀args w,(callFunc (ρ.f 226) args).run P w=.ok (.enter (ρ.f 226) args) w:=enters_of L.f226 (by kernel_rfl) rfl
 go_enter L.f153,Body.n153_ntmps ρ
 go_wp2_with (go_at_fn (ρ.f 226);refine(Any.strings_shouldUseASCIISet {L with} _ _).mono ?_;rintro e w' ⟨rfl,hw⟩;rw[hw,h8z])
 go_loopg [9,10] s.size (fun g _ _ wx=>∃i:Nat,i≤s.size∧s.size≤i+g∧wx.heap[w.heap.size]? =some (.stringIter s i)∧Below w.heap.size w wx∧Lib.NoAny s.data.toList chars.data.toList i)
 case atStart=>exact⟨0,by omega,by omega,World.iter_heap w s 0,(Below.refl _ _).alloc (Nat.le_refl _) _,Lib.NoAny.zero _ _⟩
 case round=>
  obtain⟨i,hi1,hi2,hit,hbl,hno⟩:=hrel;have HN:Aside (Lib.NoAny s.data.toList chars.data.toList i):=hno;clear hno;by_cases hi:i<s.size
  ·obtain⟨x,hx⟩:∃x:UInt8,s[i]'hi=x:=⟨_,rfl⟩;have hxl:s.data.toList[i]? =some x:=by rw[←hx];exact Lib.data_getElem? s i hi
   have hlt:w.heap.size<wr.heap.size:=(Array.getElem?_eq_some_iff.1 hit).1;by_cases hx128:x.toNat<128
   ·have hnx:=fun ty=>run_next_ascii_at (P:=P) wr w.heap.size s i ty hit hi (by rw[hx];exact hx128);rw[hx]at hnx;have hit':=iterAt_heap wr w.heap.size s i (i+1) hit;have hbl':=below_iterAt hbl (Nat.le_refl _) s (i+1);have Hx:Aside (s.data.toList[i]? =some x):=hxl;clear hxl hx;have hcon:=Lib.contains_iff_indexByte chars.data.toList x;have hback:((x.toNat:Int)).toNat.toUInt8=x:=by simp
    cases hin:chars.data.toList.contains x
    ·rw[hin]at hcon;have hlt:¬((0:Int)≤Lib.indexByte chars.data.toList x):=of_decide_eq_false hcon.symm;clear hcon
     go_wp2_with (go_at_fn (ρ.f 152);refine(Any.strings_IndexRune_ascii {L with} _ _ _ (by omega) (by omega)).mono ?_;rintro e w' ⟨rfl,hw⟩;rw[hw,hback])
     go_roundg (s.size-(i+1))
     case measure=>omega
     case rel=>exact⟨i+1,by omega,by omega,hit',hbl',HN.out.succ Hx.out hin⟩
    ·rw[hin]at hcon;have hge:(0:Int)≤Lib.indexByte chars.data.toList x:=of_decide_eq_true hcon.symm;clear hcon
     go_wp2_with (go_at_fn (ρ.f 152);refine(Any.strings_IndexRune_ascii {L with} _ _ _ (by omega) (by omega)).mono ?_;rintro e w' ⟨rfl,hw⟩;rw[hw,hback])
     go_ret
     exact⟨by rw[Lib.indexAny_hit HN.out Hx.out hin];rfl,hbl'⟩
   ·have hnx:=fun ty=>run_next_any_at (P:=P) wr w.heap.size s i ty hit hi;obtain⟨hc1,hn1'⟩:=decode_high s i hi (by rw[hx];omega);have hby:=decode_bytes s i hi (by rw[hx];omega);generalize hd:Utf8.decode s i=d at hnx hc1 hn1' hby;obtain⟨c,n⟩:=d;simp only at hnx hc1 hn1' hby
    have hin:i+n≤s.size:=by
     have h1:=hby (n-1) (by omega);by_cases hh:i+(n-1)<s.size
     ·omega
     ·exfalso;rw[show s.get! (i+(n-1))=default from by simp[ByteArray.get!,getElem!_neg,hh]]at h1;exact absurd h1 (by decide)
    have hno':Lib.NoAny s.data.toList chars.data.toList (i+n):=fun j b hj hb=>by
     by_cases hji:j<i
     ·exact HN.out j b hji hb
     ·have h1:=hby (j-i) (by omega)
      have h2:s.get! (i+(j-i))=b:=by
          have hjs:j<s.size:=by omega
          have e:i+(j-i)=j:=by omega
          rw[e];have h3:=Lib.data_getElem? s j hjs;rw[h3]at hb;have h4:=Option.some.inj hb;rw[←h4];exact get_at s j hjs
      rw[h2]at h1
      cases hcc:chars.data.toList.contains b with
      |false=>rfl
      |true=>
          obtain⟨q,hq⟩:=List.getElem?_of_mem (List.contains_iff_mem.1 hcc);have:=HA.out q b hq;omega
    have HB:Aside (Lib.NoAny s.data.toList chars.data.toList (i+n)):=hno';have hit':=iterAt_heap wr w.heap.size s i (i+n) hit;have hbl':=below_iterAt hbl (Nat.le_refl _) s (i+n);have hsz':w.heap.size<(wr.iterAt w.heap.size s (i+n)).heap.size:=by rw[iterAt_size];exact hlt
    clear hno' hby hd hxl hx
    go_wp2_with (go_at_fn (ρ.f 152);refine(Any.strings_IndexRune_high {L with} _ _ _ (by omega) (by omega) HA.out).mono ?_;rintro e w' ⟨rfl,hw⟩)
    have hit2:w'.heap[w.heap.size]? =some (.stringIter s (i+n)):=by rw[hw.block _ hsz'];exact hit'
    have hbl2:Below w.heap.size w w':=hbl'.trans ⟨hw.os,hw.tape,hw.output,hw.size,fun k hk=>hw.block k (by omega)⟩
    go_roundg (s.size-(i+n))
    case measure=>omega
    case rel=>exact⟨i+n,by omega,by omega,hit2,hbl2,HB.out⟩
  ·obtain rfl:i=s.size:=by omega
   have hnx:=fun ty=>run_next_end_at (P:=P) wr w.heap.size s s.size ty hit (by omega)
   go_wp2
   go_ret
   exact⟨by rw[Lib.indexAny_none (by rw[←Lib.size_eq];exact HN.out)];rfl,hbl⟩
set_option maxHeartbeats 1000000 in
theorem Any.strings_ContainsAny'(L:Lays.n150 P ρ)(h116:(P.info? (ρ.t 116)).map (fun i=>(i.zero,i.size))=some (some (.agg (Array.replicate 256 (.bool false))),256))(s chars:ByteArray)(w:World)(hs:s.size<4294967281)(hcs:chars.size≤1000000)
  (hac:∀(j:Nat) b,chars.data.toList[j]? =some b→b.toNat<128):
  Calls P (ρ.f 150) #[.string s,.string chars] w fun e w'=>e=.returned (.bool (Lib.containsAny s.data.toList chars.data.toList))∧Below w.heap.size w w':=by
 have c:Calls P (ρ.f 153) #[.string s,.string chars] w fun e w'=>e=.returned (.int .i64 (Lib.indexAny s.data.toList chars.data.toList))∧Below w.heap.size w w':=by
  by_cases h0:chars.size=0
  ·exact(Any.strings_IndexAny_none {L with} s chars w h0).mono fun e w' ⟨h1,h2⟩=>⟨h1,h2▸Below.refl _ _⟩
  by_cases h1:chars.size=1
  ·exact(Any.strings_IndexAny_one {L with} s chars w h1 hac).mono fun e w' ⟨h1,h2⟩=>⟨h1,h2▸Below.refl _ _⟩
  by_cases h8:s.size≤8
  ·exact Any.strings_IndexAny_short' {L with} s chars w (by omega) hcs h8 hac
  ·refine(Any.strings_IndexAny_long {L with} (zero_of_info h116).1 (zero_of_info h116).2 s chars w (by omega) (by omega) hs (by omega) hac).mono fun e w' ⟨h1,h2⟩=>⟨h1, ?_⟩;rw[h2];exact((Below.refl _ _).alloc (Nat.le_refl _) _).alloc (by simp) _
 have t3:=L.t3;have a3:=L.a3;have z3:=L.z3;have v3:=L.v3;have t4:=L.t4;have a4:=L.a4;have z4:=L.z4;have v4:=L.v4;have t9:=L.t9;have a9:=L.a9;have z9:=L.z9;have v9:=L.v9;have e153:∀args w,(callFunc (ρ.f 153) args).run P w=.ok (.enter (ρ.f 153) args) w:=enters_of L.f153 (by kernel_rfl) rfl
 go_enter L.f150,Body.n150_ntmps ρ
 go_wp2_with (go_at_fn (ρ.f 153);refine c.mono ?_;rintro e w' ⟨rfl,hw⟩)
 go_ret
 exact⟨rfl,hw⟩
end Go.Proofs
namespace Go.Proofs
open Go.Shelf
def Tryz.laysM171_ren:Go.Shelf.Ren:=⟨fun|171=>15|243=>27|246=>45|283=>66|284=>67|285=>68|286=>69|129=>84|317=>83|318=>85|319=>86|320=>87|337=>99|338=>100|n=>n,fun|3=>3|9=>9|2=>2|4=>4|171=>108|0=>0|53=>109|37=>77|5=>5|173=>112|212=>130|51=>131|20=>20|213=>132|46=>124|232=>154|233=>155|n=>n,fun|17=>4|18=>7|19=>8|n=>n⟩
theorem Tryz.laysM171:Go.Proofs.LaysM.n171 Tryz.prog Tryz.laysM171_ren:={
 mixed:=by kernel_rfl
 f129:=Tryz.func84.trans (congrArg some (by kernel_rfl))
 f171:=Tryz.func15.trans (congrArg some (by kernel_rfl))
 f243:=Tryz.func27.trans (congrArg some (by kernel_rfl))
 f246:=Tryz.func45.trans (congrArg some (by kernel_rfl))
 f283:=Tryz.func66.trans (congrArg some (by kernel_rfl))
 f284:=Tryz.func67.trans (congrArg some (by kernel_rfl))
 f285:=Tryz.func68.trans (congrArg some (by kernel_rfl))
 f286:=Tryz.func69.trans (congrArg some (by kernel_rfl))
 f317:=Tryz.func83.trans (congrArg some (by kernel_rfl))
 f318:=Tryz.func85.trans (congrArg some (by kernel_rfl))
 f319:=Tryz.func86.trans (congrArg some (by kernel_rfl))
 f320:=Tryz.func87.trans (congrArg some (by kernel_rfl))
 f337:=Tryz.func99.trans (congrArg some (by kernel_rfl))
 f338:=Tryz.func100.trans (congrArg some (by kernel_rfl))
 t0:=Tryz.underlying0
 a0:=Tryz.isAgg0
 z0:=Tryz.sizeOf0
 v0:=Tryz.zeroValue0
 t2:=Tryz.underlying2
 a2:=Tryz.isAgg2
 z2:=Tryz.sizeOf2
 v2:=Tryz.zeroValue2
 t3:=Tryz.underlying3
 a3:=Tryz.isAgg3
 z3:=Tryz.sizeOf3
 v3:=Tryz.zeroValue3
 t4:=Tryz.underlying4
 a4:=Tryz.isAgg4
 z4:=Tryz.sizeOf4
 v4:=Tryz.zeroValue4
 t5:=Tryz.underlying5
 a5:=Tryz.isAgg5
 z5:=Tryz.sizeOf5
 v5:=Tryz.zeroValue5
 t9:=Tryz.underlying9
 a9:=Tryz.isAgg9
 z9:=Tryz.sizeOf9
 v9:=Tryz.zeroValue9
 t20:=Tryz.underlying20
 a20:=Tryz.isAgg20
 z20:=Tryz.sizeOf20
 v20:=Tryz.zeroValue20
 t37:=Tryz.underlying77
 a37:=Tryz.isAgg77
 z37:=Tryz.sizeOf77
 v37:=Tryz.zeroValue77
 t46:=Tryz.underlying124
 a46:=Tryz.isAgg124
 z46:=Tryz.sizeOf124
 v46:=Tryz.zeroValue124
 t51:=Tryz.underlying131
 a51:=Tryz.isAgg131
 z51:=Tryz.sizeOf131
 v51:=Tryz.zeroValue131
 t53:=Tryz.underlying109
 a53:=Tryz.isAgg109
 z53:=Tryz.sizeOf109
 v53:=Tryz.zeroValue109
 t171:=Tryz.underlying108
 a171:=Tryz.isAgg108
 z171:=Tryz.sizeOf108
 v171:=Tryz.zeroValue108
 t173:=Tryz.underlying112
 a173:=Tryz.isAgg112
 z173:=Tryz.sizeOf112
 v173:=Tryz.zeroValue112
 t212:=Tryz.underlying130
 a212:=Tryz.isAgg130
 z212:=Tryz.sizeOf130
 v212:=Tryz.zeroValue130
 t213:=Tryz.underlying132
 a213:=Tryz.isAgg132
 z213:=Tryz.sizeOf132
 t232:=Tryz.underlying154
 a232:=Tryz.isAgg154
 z232:=Tryz.sizeOf154
 v232:=Tryz.zeroValue154
 t233:=Tryz.underlying155
 a233:=Tryz.isAgg155
 z233:=Tryz.sizeOf155
 v233:=Tryz.zeroValue155
 g17:=by kernel_rfl
 g18:=by kernel_rfl
 g19:=by kernel_rfl
 i0:=by kernel_rfl
 i2:=by kernel_rfl
 i3:=by kernel_rfl
 i4:=by kernel_rfl
 i5:=by kernel_rfl
 i9:=by kernel_rfl
 i20:=by kernel_rfl
 i37:=by kernel_rfl
 i46:=by kernel_rfl
 i51:=by kernel_rfl
 i53:=by kernel_rfl
 i171:=by kernel_rfl
 i173:=by kernel_rfl
 i212:=by kernel_rfl
 i232:=by kernel_rfl
 i233:=by kernel_rfl
 m17:=by kernel_rfl
 m18:=by kernel_rfl
 m19:=by kernel_rfl}
open Go.RowKit Go.Sort Go.Lib in
theorem Tryz.strconv_Itoa(n:Int)(h0: -9223372036854775808≤n)(h1:n≤9223372036854775807)(w:World)(htab:Lib.TabIs Tryz.prog w "internal/strconv.uint64pow10" .u64 Lib.pow10Tab):
  Calls Tryz.prog 15 #[.int .i64 n] w fun e w'=>e=.returned (.string ⟨(Lib.itoa n).toArray⟩)∧∃k os,w'=grow (w.drewN k) os:=Any.strconv_Itoa Tryz.laysM171 n h0 h1 w htab
def Tryz.lays219_ren:Go.Shelf.Ren:=⟨fun|219=>63|217=>79|225=>80|224=>81|267=>82|266=>97|314=>98|n=>n,fun|9=>9|3=>3|4=>4|5=>5|46=>124|146=>143|51=>131|n=>n,fun|1=>1|n=>n⟩
theorem Tryz.lays219:Go.Proofs.Lays.n219 Tryz.prog Tryz.lays219_ren:={
 mixed:=by kernel_rfl
 f217:=Tryz.func79.trans (congrArg some (by kernel_rfl))
 f219:=Tryz.func63.trans (congrArg some (by kernel_rfl))
 f224:=Tryz.func81.trans (congrArg some (by kernel_rfl))
 f225:=Tryz.func80.trans (congrArg some (by kernel_rfl))
 f266:=Tryz.func97.trans (congrArg some (by kernel_rfl))
 f267:=Tryz.func82.trans (congrArg some (by kernel_rfl))
 f314:=Tryz.func98.trans (congrArg some (by kernel_rfl))
 t3:=Tryz.underlying3
 a3:=Tryz.isAgg3
 z3:=Tryz.sizeOf3
 v3:=Tryz.zeroValue3
 t4:=Tryz.underlying4
 a4:=Tryz.isAgg4
 z4:=Tryz.sizeOf4
 v4:=Tryz.zeroValue4
 t5:=Tryz.underlying5
 a5:=Tryz.isAgg5
 z5:=Tryz.sizeOf5
 v5:=Tryz.zeroValue5
 t9:=Tryz.underlying9
 a9:=Tryz.isAgg9
 z9:=Tryz.sizeOf9
 v9:=Tryz.zeroValue9
 t46:=Tryz.underlying124
 a46:=Tryz.isAgg124
 z46:=Tryz.sizeOf124
 v46:=Tryz.zeroValue124
 t51:=Tryz.underlying131
 a51:=Tryz.isAgg131
 z51:=Tryz.sizeOf131
 v51:=Tryz.zeroValue131
 t146:=Tryz.underlying143
 a146:=Tryz.isAgg143
 z146:=Tryz.sizeOf143
 v146:=Tryz.zeroValue143
 g1:=by kernel_rfl}
open Go.RowKit Go.Lib in
theorem Tryz.stringslite_Index_one(s:ByteArray)(c:UInt8)(w:World):
  Calls Tryz.prog 63 #[.string s,.string ⟨#[c]⟩] w fun e w'=>e=.returned (.int .i64 (Lib.indexByte s.data.toList c))∧w'=w:=Any.stringslite_Index_one Tryz.lays219 s c w
def Tryz.lays156_ren:Go.Shelf.Ren:=⟨fun|156=>30|165=>38|166=>40|169=>42|240=>61|241=>62|276=>77|277=>78|n=>n,fun|31=>26|9=>9|3=>3|4=>4|0=>0|20=>20|72=>79|76=>83|70=>76|37=>77|75=>82|127=>105|164=>121|5=>5|80=>87|n=>n,fun|n=>n⟩
theorem Tryz.lays156:Go.Proofs.Lays.n156 Tryz.prog Tryz.lays156_ren:={
 mixed:=by kernel_rfl
 f156:=Tryz.func30.trans (congrArg some (by kernel_rfl))
 f165:=Tryz.func38.trans (congrArg some (by kernel_rfl))
 f166:=Tryz.func40.trans (congrArg some (by kernel_rfl))
 f169:=Tryz.func42.trans (congrArg some (by kernel_rfl))
 f240:=Tryz.func61.trans (congrArg some (by kernel_rfl))
 f241:=Tryz.func62.trans (congrArg some (by kernel_rfl))
 f276:=Tryz.func77.trans (congrArg some (by kernel_rfl))
 f277:=Tryz.func78.trans (congrArg some (by kernel_rfl))
 t0:=Tryz.underlying0
 a0:=Tryz.isAgg0
 z0:=Tryz.sizeOf0
 v0:=Tryz.zeroValue0
 t3:=Tryz.underlying3
 a3:=Tryz.isAgg3
 z3:=Tryz.sizeOf3
 v3:=Tryz.zeroValue3
 t4:=Tryz.underlying4
 a4:=Tryz.isAgg4
 z4:=Tryz.sizeOf4
 v4:=Tryz.zeroValue4
 t9:=Tryz.underlying9
 a9:=Tryz.isAgg9
 z9:=Tryz.sizeOf9
 v9:=Tryz.zeroValue9
 t20:=Tryz.underlying20
 a20:=Tryz.isAgg20
 z20:=Tryz.sizeOf20
 v20:=Tryz.zeroValue20
 t31:=Tryz.underlying26
 a31:=Tryz.isAgg26
 z31:=Tryz.sizeOf26
 v31:=Tryz.zeroValue26
 t37:=Tryz.underlying77
 a37:=Tryz.isAgg77
 z37:=Tryz.sizeOf77
 v37:=Tryz.zeroValue77
 t70:=Tryz.underlying76
 a70:=Tryz.isAgg76
 z70:=Tryz.sizeOf76
 v70:=Tryz.zeroValue76
 t72:=Tryz.underlying79
 a72:=Tryz.isAgg79
 z72:=Tryz.sizeOf79
 v72:=Tryz.zeroValue79
 t75:=Tryz.underlying82
 a75:=Tryz.isAgg82
 z75:=Tryz.sizeOf82
 v75:=Tryz.zeroValue82
 t76:=Tryz.underlying83
 a76:=Tryz.isAgg83
 z76:=Tryz.sizeOf83
 v76:=Tryz.zeroValue83
 t127:=Tryz.underlying105
 a127:=Tryz.isAgg105
 z127:=Tryz.sizeOf105
 v127:=Tryz.zeroValue105
 t164:=Tryz.underlying121
 a164:=Tryz.isAgg121
 z164:=Tryz.sizeOf121
 v164:=Tryz.zeroValue121}
theorem Tryz.Builder_Extra_156:Builder.Extra Tryz.prog Tryz.lays156_ren:={
 sizeBuilder:=by kernel_rfl
 liesBuilder:=by kernel_rfl
 t5:=Tryz.underlying5
 a5:=Tryz.isAgg5
 z5:=Tryz.sizeOf5
 v5:=Tryz.zeroValue5
 infoByte:=by kernel_rfl
 cellsByte:=by kernel_rfl
 sizeByte:=by kernel_rfl
 neB5:=by decide}
open Go.RowKit in
theorem Tryz.strings_Join(bk o c:Nat)(xs:List ByteArray)(sep:ByteArray)(w:World)(hcells:∀(j:Nat) x,xs[j]? =some x→w.cell? ⟨bk,o+j,none⟩=some (.string x))(hbk:bk<w.heap.size)(hN:xs.length≤140737488355328)(hcap:xs.length≤c)(hlen:(Lib.join (xs.map (·.data.toList)) sep.data.toList).length≤140737488355328):
  Calls Tryz.prog 30 #[.slice (some ⟨bk,o,none⟩) xs.length c,.string sep] w fun e w'=>e=.returned (.string ⟨(Lib.join (xs.map (·.data.toList)) sep.data.toList).toArray⟩)∧Below w.heap.size w w':=Any.strings_Join Tryz.lays156 Tryz.Builder_Extra_156 bk o c xs sep w hcells hbk hN hcap hlen
open Go.RowKit in
theorem Tryz.strings_Join_none(a:Option Addr)(c:Nat)(sep:ByteArray)(w:World):
  Calls Tryz.prog 30 #[.slice a 0 c,.string sep] w fun e w'=>e=.returned (.string ⟨#[]⟩)∧w'=w:=Any.strings_Join_none Tryz.lays156 Tryz.Builder_Extra_156 a c sep w
def Tryz.lays138_ren:Go.Shelf.Ren:=⟨fun|138=>37|195=>59|218=>60|143=>39|219=>63|217=>79|225=>80|224=>81|267=>82|266=>97|314=>98|n=>n,fun|9=>9|3=>3|4=>4|5=>5|0=>0|46=>124|146=>143|51=>131|n=>n,fun|1=>1|n=>n⟩
theorem Tryz.lays138:Go.Proofs.Lays.n138 Tryz.prog Tryz.lays138_ren:={
 mixed:=by kernel_rfl
 f138:=Tryz.func37.trans (congrArg some (by kernel_rfl))
 f143:=Tryz.func39.trans (congrArg some (by kernel_rfl))
 f195:=Tryz.func59.trans (congrArg some (by kernel_rfl))
 f217:=Tryz.func79.trans (congrArg some (by kernel_rfl))
 f218:=Tryz.func60.trans (congrArg some (by kernel_rfl))
 f219:=Tryz.func63.trans (congrArg some (by kernel_rfl))
 f224:=Tryz.func81.trans (congrArg some (by kernel_rfl))
 f225:=Tryz.func80.trans (congrArg some (by kernel_rfl))
 f266:=Tryz.func97.trans (congrArg some (by kernel_rfl))
 f267:=Tryz.func82.trans (congrArg some (by kernel_rfl))
 f314:=Tryz.func98.trans (congrArg some (by kernel_rfl))
 t0:=Tryz.underlying0
 a0:=Tryz.isAgg0
 z0:=Tryz.sizeOf0
 v0:=Tryz.zeroValue0
 t3:=Tryz.underlying3
 a3:=Tryz.isAgg3
 z3:=Tryz.sizeOf3
 v3:=Tryz.zeroValue3
 t4:=Tryz.underlying4
 a4:=Tryz.isAgg4
 z4:=Tryz.sizeOf4
 v4:=Tryz.zeroValue4
 t5:=Tryz.underlying5
 a5:=Tryz.isAgg5
 z5:=Tryz.sizeOf5
 v5:=Tryz.zeroValue5
 t9:=Tryz.underlying9
 a9:=Tryz.isAgg9
 z9:=Tryz.sizeOf9
 v9:=Tryz.zeroValue9
 t46:=Tryz.underlying124
 a46:=Tryz.isAgg124
 z46:=Tryz.sizeOf124
 v46:=Tryz.zeroValue124
 t51:=Tryz.underlying131
 a51:=Tryz.isAgg131
 z51:=Tryz.sizeOf131
 v51:=Tryz.zeroValue131
 t146:=Tryz.underlying143
 a146:=Tryz.isAgg143
 z146:=Tryz.sizeOf143
 v146:=Tryz.zeroValue143
 g1:=by kernel_rfl}
open Go.RowKit Go.Lib in
theorem Tryz.strings_Count_one(s:ByteArray)(c:UInt8)(w:World):
  Calls Tryz.prog 37 #[.string s,.string ⟨#[c]⟩] w fun e w'=>e=.returned (.int .i64 (Lib.countByte s.data.toList c))∧w'=w:=Any.strings_Count_one Tryz.lays138 s c w
def Tryz.laysC172_ren:Go.Shelf.Ren:=⟨fun|172=>58|244=>75|245=>76|247=>92|279=>93|280=>94|281=>95|282=>96|287=>106|316=>107|171=>15|205=>108|321=>110|322=>111|243=>27|246=>45|283=>66|284=>67|285=>68|286=>69|129=>84|317=>83|318=>85|319=>86|320=>87|337=>99|338=>100|n=>n,fun|9=>9|3=>3|75=>82|76=>83|4=>4|5=>5|167=>137|37=>77|0=>0|85=>138|2=>2|168=>140|53=>109|175=>148|46=>124|210=>152|127=>105|145=>160|143=>158|21=>21|171=>108|173=>112|212=>130|51=>131|20=>20|213=>132|232=>154|233=>155|80=>87|n=>n,fun|15=>5|16=>6|17=>4|18=>7|19=>8|n=>n⟩
theorem Tryz.laysC172:Go.Proofs.LaysC.n172 Tryz.prog Tryz.laysC172_ren:={
 mixed:=by kernel_rfl
 f129:=Tryz.func84.trans (congrArg some (by kernel_rfl))
 f171:=Tryz.func15.trans (congrArg some (by kernel_rfl))
 f172:=Tryz.func58.trans (congrArg some (by kernel_rfl))
 f205:=Tryz.func108.trans (congrArg some (by kernel_rfl))
 f243:=Tryz.func27.trans (congrArg some (by kernel_rfl))
 f244:=Tryz.func75.trans (congrArg some (by kernel_rfl))
 f245:=Tryz.func76.trans (congrArg some (by kernel_rfl))
 f246:=Tryz.func45.trans (congrArg some (by kernel_rfl))
 f247:=Tryz.func92.trans (congrArg some (by kernel_rfl))
 f279:=Tryz.func93.trans (congrArg some (by kernel_rfl))
 f280:=Tryz.func94.trans (congrArg some (by kernel_rfl))
 f281:=Tryz.func95.trans (congrArg some (by kernel_rfl))
 f282:=Tryz.func96.trans (congrArg some (by kernel_rfl))
 f283:=Tryz.func66.trans (congrArg some (by kernel_rfl))
 f284:=Tryz.func67.trans (congrArg some (by kernel_rfl))
 f285:=Tryz.func68.trans (congrArg some (by kernel_rfl))
 f286:=Tryz.func69.trans (congrArg some (by kernel_rfl))
 f287:=Tryz.func106.trans (congrArg some (by kernel_rfl))
 f316:=Tryz.func107.trans (congrArg some (by kernel_rfl))
 f317:=Tryz.func83.trans (congrArg some (by kernel_rfl))
 f318:=Tryz.func85.trans (congrArg some (by kernel_rfl))
 f319:=Tryz.func86.trans (congrArg some (by kernel_rfl))
 f320:=Tryz.func87.trans (congrArg some (by kernel_rfl))
 f321:=Tryz.func110.trans (congrArg some (by kernel_rfl))
 f322:=Tryz.func111.trans (congrArg some (by kernel_rfl))
 f337:=Tryz.func99.trans (congrArg some (by kernel_rfl))
 f338:=Tryz.func100.trans (congrArg some (by kernel_rfl))
 t0:=Tryz.underlying0
 a0:=Tryz.isAgg0
 z0:=Tryz.sizeOf0
 v0:=Tryz.zeroValue0
 t2:=Tryz.underlying2
 a2:=Tryz.isAgg2
 z2:=Tryz.sizeOf2
 v2:=Tryz.zeroValue2
 t3:=Tryz.underlying3
 a3:=Tryz.isAgg3
 z3:=Tryz.sizeOf3
 v3:=Tryz.zeroValue3
 t4:=Tryz.underlying4
 a4:=Tryz.isAgg4
 z4:=Tryz.sizeOf4
 v4:=Tryz.zeroValue4
 t5:=Tryz.underlying5
 a5:=Tryz.isAgg5
 z5:=Tryz.sizeOf5
 v5:=Tryz.zeroValue5
 t9:=Tryz.underlying9
 a9:=Tryz.isAgg9
 z9:=Tryz.sizeOf9
 v9:=Tryz.zeroValue9
 t20:=Tryz.underlying20
 a20:=Tryz.isAgg20
 z20:=Tryz.sizeOf20
 v20:=Tryz.zeroValue20
 t21:=Tryz.underlying21
 a21:=Tryz.isAgg21
 z21:=Tryz.sizeOf21
 v21:=Tryz.zeroValue21
 t37:=Tryz.underlying77
 a37:=Tryz.isAgg77
 z37:=Tryz.sizeOf77
 v37:=Tryz.zeroValue77
 t46:=Tryz.underlying124
 a46:=Tryz.isAgg124
 z46:=Tryz.sizeOf124
 v46:=Tryz.zeroValue124
 t51:=Tryz.underlying131
 a51:=Tryz.isAgg131
 z51:=Tryz.sizeOf131
 v51:=Tryz.zeroValue131
 t53:=Tryz.underlying109
 a53:=Tryz.isAgg109
 z53:=Tryz.sizeOf109
 v53:=Tryz.zeroValue109
 t75:=Tryz.underlying82
 a75:=Tryz.isAgg82
 z75:=Tryz.sizeOf82
 v75:=Tryz.zeroValue82
 t76:=Tryz.underlying83
 a76:=Tryz.isAgg83
 z76:=Tryz.sizeOf83
 v76:=Tryz.zeroValue83
 t85:=Tryz.underlying138
 a85:=Tryz.isAgg138
 z85:=Tryz.sizeOf138
 v85:=Tryz.zeroValue138
 t127:=Tryz.underlying105
 a127:=Tryz.isAgg105
 z127:=Tryz.sizeOf105
 v127:=Tryz.zeroValue105
 t143:=Tryz.underlying158
 a143:=Tryz.isAgg158
 z143:=Tryz.sizeOf158
 v143:=Tryz.zeroValue158
 t145:=Tryz.underlying160
 a145:=Tryz.isAgg160
 z145:=Tryz.sizeOf160
 v145:=Tryz.zeroValue160
 t167:=Tryz.underlying137
 a167:=Tryz.isAgg137
 z167:=Tryz.sizeOf137
 v167:=Tryz.zeroValue137
 t168:=Tryz.underlying140
 a168:=Tryz.isAgg140
 z168:=Tryz.sizeOf140
 v168:=Tryz.zeroValue140
 t171:=Tryz.underlying108
 a171:=Tryz.isAgg108
 z171:=Tryz.sizeOf108
 v171:=Tryz.zeroValue108
 t173:=Tryz.underlying112
 a173:=Tryz.isAgg112
 z173:=Tryz.sizeOf112
 v173:=Tryz.zeroValue112
 t175:=Tryz.underlying148
 a175:=Tryz.isAgg148
 z175:=Tryz.sizeOf148
 v175:=Tryz.zeroValue148
 t210:=Tryz.underlying152
 a210:=Tryz.isAgg152
 z210:=Tryz.sizeOf152
 v210:=Tryz.zeroValue152
 t212:=Tryz.underlying130
 a212:=Tryz.isAgg130
 z212:=Tryz.sizeOf130
 v212:=Tryz.zeroValue130
 t213:=Tryz.underlying132
 a213:=Tryz.isAgg132
 z213:=Tryz.sizeOf132
 t232:=Tryz.underlying154
 a232:=Tryz.isAgg154
 z232:=Tryz.sizeOf154
 v232:=Tryz.zeroValue154
 t233:=Tryz.underlying155
 a233:=Tryz.isAgg155
 z233:=Tryz.sizeOf155
 v233:=Tryz.zeroValue155
 g15:=by kernel_rfl
 g16:=by kernel_rfl
 g17:=by kernel_rfl
 g18:=by kernel_rfl
 g19:=by kernel_rfl
 t80:=Tryz.underlying87
 a80:=Tryz.isAgg87
 z80:=Tryz.sizeOf87
 v80:=Tryz.zeroValue87
 i0:=by kernel_rfl
 i2:=by kernel_rfl
 i3:=by kernel_rfl
 i4:=by kernel_rfl
 i5:=by kernel_rfl
 i9:=by kernel_rfl
 i20:=by kernel_rfl
 i21:=by kernel_rfl
 i37:=by kernel_rfl
 i46:=by kernel_rfl
 i51:=by kernel_rfl
 i53:=by kernel_rfl
 i75:=by kernel_rfl
 i76:=by kernel_rfl
 i80:=by kernel_rfl
 i85:=by kernel_rfl
 i127:=by kernel_rfl
 i143:=by kernel_rfl
 i145:=by kernel_rfl
 i167:=by kernel_rfl
 i168:=by kernel_rfl
 i171:=by kernel_rfl
 i173:=by kernel_rfl
 i175:=by kernel_rfl
 i210:=by kernel_rfl
 i212:=by kernel_rfl
 i232:=by kernel_rfl
 i233:=by kernel_rfl
 m15:=by kernel_rfl
 m16:=by kernel_rfl
 m17:=by kernel_rfl
 m18:=by kernel_rfl
 m19:=by kernel_rfl
 c0:=by kernel_rfl
 c2:=by kernel_rfl
 c3:=by kernel_rfl
 c4:=by kernel_rfl
 c5:=by kernel_rfl
 c9:=by kernel_rfl
 c20:=by kernel_rfl
 c21:=by kernel_rfl
 c37:=by kernel_rfl
 c46:=by kernel_rfl
 c51:=by kernel_rfl
 c53:=by kernel_rfl
 c75:=by kernel_rfl
 c76:=by kernel_rfl
 c80:=by kernel_rfl
 c85:=by kernel_rfl
 c127:=by kernel_rfl
 c143:=by kernel_rfl
 c145:=by kernel_rfl
 c167:=by kernel_rfl
 c168:=by kernel_rfl
 c171:=by kernel_rfl
 c173:=by kernel_rfl
 c175:=by kernel_rfl
 c210:=by kernel_rfl
 c212:=by kernel_rfl
 c213:=by kernel_rfl
 c232:=by kernel_rfl
 c233:=by kernel_rfl}
open Go.RowKit in
theorem Tryz.strconv_Atoi_ok(s:ByteArray)(hmax:s.size≤9223372036854775806)(v:Int)(h:Lib.atoiAll s.data.toList=.ok v)(w:World):
  Calls Tryz.prog 58 #[.string s] w fun e w'=>e=.returned (.tuple #[.int .i64 v,.nilIface])∧(w'=w∨∃t,w'=Lib.bytesWorld w 5 t):=Any.strconv_Atoi_ok Tryz.laysC172 s hmax v h w
open Go.RowKit in
theorem Tryz.strconv_Atoi_syntax(s:ByteArray)(hlim:s.size≤281474976710656)(h:Lib.atoiAll s.data.toList=Lib.NumEnd.syntax)(ev:Value)(w:World)(hv:w.cell? ⟨5,0,none⟩=some ev)(hev:ev=.nilIface∨∃te pe,ev=.iface te pe):
  Calls Tryz.prog 58 #[.string s] w fun e w'=>∃N,e=.returned (.tuple #[.int .i64 (0),.iface 140 (.pointer (some ⟨N,0,none⟩))])∧w.heap.size≤N∧w'.heap[N]? =some (.cells #[.string ⟨#[65,116,111,105]⟩,.string s,ev] 152 (0,0))∧Below w.heap.size w w':=Any.strconv_Atoi_syntax Tryz.laysC172 s hlim h ev w hv hev
open Go.RowKit in
theorem Tryz.strconv_Atoi_range(s:ByteArray)(hlim:s.size≤281474976710656)(h:Lib.atoiAll s.data.toList=.range)(ev:Value)(w:World)(hv:w.cell? ⟨6,0,none⟩=some ev)(hev:ev=.nilIface∨∃te pe,ev=.iface te pe):
  Calls Tryz.prog 58 #[.string s] w fun e w'=>∃N,e=.returned (.tuple #[.int .i64 (Lib.atoiSat s.data.toList),.iface 140 (.pointer (some ⟨N,0,none⟩))])∧w.heap.size≤N∧w'.heap[N]? =some (.cells #[.string ⟨#[65,116,111,105]⟩,.string s,ev] 152 (0,0))∧Below w.heap.size w w':=Any.strconv_Atoi_range Tryz.laysC172 s hlim h ev w hv hev
def Tryz.lays160_ren:Go.Shelf.Ren:=⟨fun|160=>33|232=>50|231=>49|227=>51|234=>53|233=>52|236=>55|235=>54|228=>72|271=>74|151=>73|197=>41|120=>91|152=>90|260=>64|137=>104|119=>105|224=>81|225=>80|217=>79|266=>97|n=>n,fun|9=>9|4=>4|3=>3|5=>5|117=>96|116=>95|0=>0|124=>99|21=>21|105=>85|46=>124|119=>125|139=>128|138=>127|n=>n,fun|3=>2|4=>3|n=>n⟩
theorem Tryz.lays160:Go.Proofs.Lays.n160 Tryz.prog Tryz.lays160_ren:={
 mixed:=by kernel_rfl
 f119:=Tryz.func105.trans (congrArg some (by kernel_rfl))
 f120:=Tryz.func91.trans (congrArg some (by kernel_rfl))
 f137:=Tryz.func104.trans (congrArg some (by kernel_rfl))
 f151:=Tryz.func73.trans (congrArg some (by kernel_rfl))
 f152:=Tryz.func90.trans (congrArg some (by kernel_rfl))
 f160:=Tryz.func33.trans (congrArg some (by kernel_rfl))
 f197:=Tryz.func41.trans (congrArg some (by kernel_rfl))
 f217:=Tryz.func79.trans (congrArg some (by kernel_rfl))
 f224:=Tryz.func81.trans (congrArg some (by kernel_rfl))
 f225:=Tryz.func80.trans (congrArg some (by kernel_rfl))
 f227:=Tryz.func51.trans (congrArg some (by kernel_rfl))
 f228:=Tryz.func72.trans (congrArg some (by kernel_rfl))
 f231:=Tryz.func49.trans (congrArg some (by kernel_rfl))
 f232:=Tryz.func50.trans (congrArg some (by kernel_rfl))
 f233:=Tryz.func52.trans (congrArg some (by kernel_rfl))
 f234:=Tryz.func53.trans (congrArg some (by kernel_rfl))
 f235:=Tryz.func54.trans (congrArg some (by kernel_rfl))
 f236:=Tryz.func55.trans (congrArg some (by kernel_rfl))
 f260:=Tryz.func64.trans (congrArg some (by kernel_rfl))
 f266:=Tryz.func97.trans (congrArg some (by kernel_rfl))
 f271:=Tryz.func74.trans (congrArg some (by kernel_rfl))
 t0:=Tryz.underlying0
 a0:=Tryz.isAgg0
 z0:=Tryz.sizeOf0
 v0:=Tryz.zeroValue0
 t3:=Tryz.underlying3
 a3:=Tryz.isAgg3
 z3:=Tryz.sizeOf3
 v3:=Tryz.zeroValue3
 t4:=Tryz.underlying4
 a4:=Tryz.isAgg4
 z4:=Tryz.sizeOf4
 v4:=Tryz.zeroValue4
 t5:=Tryz.underlying5
 a5:=Tryz.isAgg5
 z5:=Tryz.sizeOf5
 v5:=Tryz.zeroValue5
 t9:=Tryz.underlying9
 a9:=Tryz.isAgg9
 z9:=Tryz.sizeOf9
 v9:=Tryz.zeroValue9
 t21:=Tryz.underlying21
 a21:=Tryz.isAgg21
 z21:=Tryz.sizeOf21
 v21:=Tryz.zeroValue21
 t46:=Tryz.underlying124
 a46:=Tryz.isAgg124
 z46:=Tryz.sizeOf124
 v46:=Tryz.zeroValue124
 t105:=Tryz.underlying85
 a105:=Tryz.isAgg85
 z105:=Tryz.sizeOf85
 v105:=Tryz.zeroValue85
 t116:=Tryz.underlying95
 a116:=Tryz.isAgg95
 z116:=Tryz.sizeOf95
 t117:=Tryz.underlying96
 a117:=Tryz.isAgg96
 z117:=Tryz.sizeOf96
 v117:=Tryz.zeroValue96
 t119:=Tryz.underlying125
 a119:=Tryz.isAgg125
 z119:=Tryz.sizeOf125
 t124:=Tryz.underlying99
 a124:=Tryz.isAgg99
 z124:=Tryz.sizeOf99
 v124:=Tryz.zeroValue99
 t138:=Tryz.underlying127
 a138:=Tryz.isAgg127
 z138:=Tryz.sizeOf127
 v138:=Tryz.zeroValue127
 t139:=Tryz.underlying128
 a139:=Tryz.isAgg128
 z139:=Tryz.sizeOf128
 v139:=Tryz.zeroValue128
 g3:=by kernel_rfl
 g4:=by kernel_rfl}
def Tryz.lays150_ren:Go.Shelf.Ren:=⟨fun|150=>89|153=>103|152=>90|226=>109|227=>51|228=>72|137=>104|119=>105|224=>81|225=>80|217=>79|266=>97|n=>n,fun|9=>9|4=>4|3=>3|5=>5|21=>21|117=>96|116=>95|0=>0|46=>124|124=>99|n=>n,fun|n=>n⟩
theorem Tryz.lays150:Go.Proofs.Lays.n150 Tryz.prog Tryz.lays150_ren:={
 mixed:=by kernel_rfl
 f119:=Tryz.func105.trans (congrArg some (by kernel_rfl))
 f137:=Tryz.func104.trans (congrArg some (by kernel_rfl))
 f150:=Tryz.func89.trans (congrArg some (by kernel_rfl))
 f152:=Tryz.func90.trans (congrArg some (by kernel_rfl))
 f153:=Tryz.func103.trans (congrArg some (by kernel_rfl))
 f217:=Tryz.func79.trans (congrArg some (by kernel_rfl))
 f224:=Tryz.func81.trans (congrArg some (by kernel_rfl))
 f225:=Tryz.func80.trans (congrArg some (by kernel_rfl))
 f226:=Tryz.func109.trans (congrArg some (by kernel_rfl))
 f227:=Tryz.func51.trans (congrArg some (by kernel_rfl))
 f228:=Tryz.func72.trans (congrArg some (by kernel_rfl))
 f266:=Tryz.func97.trans (congrArg some (by kernel_rfl))
 t0:=Tryz.underlying0
 a0:=Tryz.isAgg0
 z0:=Tryz.sizeOf0
 v0:=Tryz.zeroValue0
 t3:=Tryz.underlying3
 a3:=Tryz.isAgg3
 z3:=Tryz.sizeOf3
 v3:=Tryz.zeroValue3
 t4:=Tryz.underlying4
 a4:=Tryz.isAgg4
 z4:=Tryz.sizeOf4
 v4:=Tryz.zeroValue4
 t5:=Tryz.underlying5
 a5:=Tryz.isAgg5
 z5:=Tryz.sizeOf5
 v5:=Tryz.zeroValue5
 t9:=Tryz.underlying9
 a9:=Tryz.isAgg9
 z9:=Tryz.sizeOf9
 v9:=Tryz.zeroValue9
 t21:=Tryz.underlying21
 a21:=Tryz.isAgg21
 z21:=Tryz.sizeOf21
 v21:=Tryz.zeroValue21
 t46:=Tryz.underlying124
 a46:=Tryz.isAgg124
 z46:=Tryz.sizeOf124
 v46:=Tryz.zeroValue124
 t116:=Tryz.underlying95
 a116:=Tryz.isAgg95
 z116:=Tryz.sizeOf95
 t117:=Tryz.underlying96
 a117:=Tryz.isAgg96
 z117:=Tryz.sizeOf96
 v117:=Tryz.zeroValue96
 t124:=Tryz.underlying99
 a124:=Tryz.isAgg99
 z124:=Tryz.sizeOf99
 v124:=Tryz.zeroValue99}
open Go.RowKit Go.Lib in
theorem Tryz.stringslite_Index(s sub:ByteArray)(m:Int)(w:World)(hs:s.size<4294967281)(hm:w.cell? ⟨1,0,none⟩=some (.int .i64 m)):
  Calls Tryz.prog 63 #[.string s,.string sub] w fun e w'=>e=.returned (.int .i64 (Lib.index s.data.toList sub.data.toList))∧w'=w:=Any.stringslite_Index Tryz.lays219 s sub m w hs hm
def Tryz.lays155_ren:Go.Shelf.Ren:=⟨fun|155=>11|154=>22|138=>37|165=>38|143=>39|166=>40|197=>41|169=>42|195=>59|218=>60|240=>61|241=>62|219=>63|260=>64|276=>77|277=>78|217=>79|225=>80|224=>81|267=>82|266=>97|314=>98|n=>n,fun|9=>9|3=>3|4=>4|72=>79|0=>0|76=>83|105=>85|21=>21|5=>5|70=>76|20=>20|37=>77|75=>82|127=>105|164=>121|46=>124|119=>125|139=>128|138=>127|146=>143|51=>131|80=>87|n=>n,fun|1=>1|3=>2|4=>3|n=>n⟩
theorem Tryz.lays155:Go.Proofs.Lays.n155 Tryz.prog Tryz.lays155_ren:={
 mixed:=by kernel_rfl
 f138:=Tryz.func37.trans (congrArg some (by kernel_rfl))
 f143:=Tryz.func39.trans (congrArg some (by kernel_rfl))
 f154:=Tryz.func22.trans (congrArg some (by kernel_rfl))
 f155:=Tryz.func11.trans (congrArg some (by kernel_rfl))
 f165:=Tryz.func38.trans (congrArg some (by kernel_rfl))
 f166:=Tryz.func40.trans (congrArg some (by kernel_rfl))
 f169:=Tryz.func42.trans (congrArg some (by kernel_rfl))
 f195:=Tryz.func59.trans (congrArg some (by kernel_rfl))
 f197:=Tryz.func41.trans (congrArg some (by kernel_rfl))
 f217:=Tryz.func79.trans (congrArg some (by kernel_rfl))
 f218:=Tryz.func60.trans (congrArg some (by kernel_rfl))
 f219:=Tryz.func63.trans (congrArg some (by kernel_rfl))
 f224:=Tryz.func81.trans (congrArg some (by kernel_rfl))
 f225:=Tryz.func80.trans (congrArg some (by kernel_rfl))
 f240:=Tryz.func61.trans (congrArg some (by kernel_rfl))
 f241:=Tryz.func62.trans (congrArg some (by kernel_rfl))
 f260:=Tryz.func64.trans (congrArg some (by kernel_rfl))
 f266:=Tryz.func97.trans (congrArg some (by kernel_rfl))
 f267:=Tryz.func82.trans (congrArg some (by kernel_rfl))
 f276:=Tryz.func77.trans (congrArg some (by kernel_rfl))
 f277:=Tryz.func78.trans (congrArg some (by kernel_rfl))
 f314:=Tryz.func98.trans (congrArg some (by kernel_rfl))
 t0:=Tryz.underlying0
 a0:=Tryz.isAgg0
 z0:=Tryz.sizeOf0
 v0:=Tryz.zeroValue0
 t3:=Tryz.underlying3
 a3:=Tryz.isAgg3
 z3:=Tryz.sizeOf3
 v3:=Tryz.zeroValue3
 t4:=Tryz.underlying4
 a4:=Tryz.isAgg4
 z4:=Tryz.sizeOf4
 v4:=Tryz.zeroValue4
 t5:=Tryz.underlying5
 a5:=Tryz.isAgg5
 z5:=Tryz.sizeOf5
 v5:=Tryz.zeroValue5
 t9:=Tryz.underlying9
 a9:=Tryz.isAgg9
 z9:=Tryz.sizeOf9
 v9:=Tryz.zeroValue9
 t20:=Tryz.underlying20
 a20:=Tryz.isAgg20
 z20:=Tryz.sizeOf20
 v20:=Tryz.zeroValue20
 t21:=Tryz.underlying21
 a21:=Tryz.isAgg21
 z21:=Tryz.sizeOf21
 v21:=Tryz.zeroValue21
 t37:=Tryz.underlying77
 a37:=Tryz.isAgg77
 z37:=Tryz.sizeOf77
 v37:=Tryz.zeroValue77
 t46:=Tryz.underlying124
 a46:=Tryz.isAgg124
 z46:=Tryz.sizeOf124
 v46:=Tryz.zeroValue124
 t51:=Tryz.underlying131
 a51:=Tryz.isAgg131
 z51:=Tryz.sizeOf131
 v51:=Tryz.zeroValue131
 t70:=Tryz.underlying76
 a70:=Tryz.isAgg76
 z70:=Tryz.sizeOf76
 v70:=Tryz.zeroValue76
 t72:=Tryz.underlying79
 a72:=Tryz.isAgg79
 z72:=Tryz.sizeOf79
 v72:=Tryz.zeroValue79
 t75:=Tryz.underlying82
 a75:=Tryz.isAgg82
 z75:=Tryz.sizeOf82
 v75:=Tryz.zeroValue82
 t76:=Tryz.underlying83
 a76:=Tryz.isAgg83
 z76:=Tryz.sizeOf83
 v76:=Tryz.zeroValue83
 t105:=Tryz.underlying85
 a105:=Tryz.isAgg85
 z105:=Tryz.sizeOf85
 v105:=Tryz.zeroValue85
 t119:=Tryz.underlying125
 a119:=Tryz.isAgg125
 z119:=Tryz.sizeOf125
 t127:=Tryz.underlying105
 a127:=Tryz.isAgg105
 z127:=Tryz.sizeOf105
 v127:=Tryz.zeroValue105
 t138:=Tryz.underlying127
 a138:=Tryz.isAgg127
 z138:=Tryz.sizeOf127
 v138:=Tryz.zeroValue127
 t139:=Tryz.underlying128
 a139:=Tryz.isAgg128
 z139:=Tryz.sizeOf128
 v139:=Tryz.zeroValue128
 t146:=Tryz.underlying143
 a146:=Tryz.isAgg143
 z146:=Tryz.sizeOf143
 v146:=Tryz.zeroValue143
 t164:=Tryz.underlying121
 a164:=Tryz.isAgg121
 z164:=Tryz.sizeOf121
 v164:=Tryz.zeroValue121
 g1:=by kernel_rfl
 g3:=by kernel_rfl
 g4:=by kernel_rfl}
theorem Tryz.Builder_Extra_155:Builder.Extra Tryz.prog Tryz.lays155_ren:={
 sizeBuilder:=by kernel_rfl
 liesBuilder:=by kernel_rfl
 t5:=Tryz.underlying5
 a5:=Tryz.isAgg5
 z5:=Tryz.sizeOf5
 v5:=Tryz.zeroValue5
 infoByte:=by kernel_rfl
 cellsByte:=by kernel_rfl
 sizeByte:=by kernel_rfl
 neB5:=by decide}
open Go.RowKit Go.Lib in
theorem Tryz.strings_ReplaceAll(s old new:ByteArray)(m:Int)(w:World)(hs:s.size<4294967281)(hm:w.cell? ⟨1,0,none⟩=some (.int .i64 m))(h1:1≤old.size)(hlen:s.size+Lib.countB s old*new.size≤140737488355328):
  Calls Tryz.prog 11 #[.string s,.string old,.string new] w fun e w'=>
   e=.returned (.string ⟨(Lib.replaceAll s.data.toList old.data.toList new.data.toList).toArray⟩)∧Below w.heap.size w w':=Any.strings_ReplaceAll Tryz.lays155 Tryz.Builder_Extra_155 s old new m w hs hm h1 hlen
theorem Tryz.strings_Trim_laid(s cutset:ByteArray)(w:World)(hs:s.size≤9223372036854775807)(hcs:cutset.size<4294967281)(hascii:∀(j:Nat) b,cutset.data.toList[j]? =some b→b.toNat<128):
  Calls Tryz.prog 33 #[.string s,.string cutset] w fun e w'=>e=.returned (.string ⟨(Lib.trimS s.data.toList cutset.data.toList).toArray⟩)∧Go.RowKit.Below w.heap.size w w':=
 Any.strings_Trim_laid Tryz.lays160 (by kernel_rfl) s cutset w hs hcs hascii
theorem Tryz.strings_ContainsAny(s chars:ByteArray)(w:World)(hs:s.size<4294967281)(hcs:chars.size≤1000000)(hac:∀(j:Nat) b,chars.data.toList[j]? =some b→b.toNat<128):
  Calls Tryz.prog 89 #[.string s,.string chars] w fun e w'=>e=.returned (.bool (Lib.containsAny s.data.toList chars.data.toList))∧Go.RowKit.Below w.heap.size w w':=
 Any.strings_ContainsAny' Tryz.lays150 (by kernel_rfl) s chars w hs hcs hac
end Go.Proofs
