/-
  OWN TEXTS, MERGED (wip/merge.py): LibEv, RShelo. No condition of their own.
-/
import Derived.Test.YtbajcpobojindaaGreatDoorK6
import Derived.LaidLaws
import Derived.Shelf.SlIterI.Nil
import Derived.Shelf.SortM.Plain
import Derived.Shelf.SortM.SortNone
import Derived.Ground.GgzProg
import Derived.Ground.SlgmProg
import Derived.Shelf.Small.Bits
import Derived.Shelf.Small.Wraps
import Derived.Shelf.Utf8.RuneCount
import Derived.Shelf.Strconv.Atoi
import Derived.Shelf.Strconv.Itoa0
import Derived.Shelf.Strconv.Itoa1
import Derived.Shelf.LaysM
import Derived.Shelf.Strconv.Itoa2
import Derived.Shelf.Strconv.Itoa3
import Derived.Shelf.Strconv.AtoiErrFast
import Derived.Shelf.Strconv.ParseIntEmpty
import Derived.Shelf.Strconv.AtoiFail
import Derived.Shelf.Strconv.Clone
import Derived.Shelf.Strconv.SyntaxError
import Derived.Shelf.LaysC
import Derived.Shelf.Strconv.ToError
import Derived.Shelf.Strconv.AtoiErr
import Derived.Shelf.Strconv.ErrVar
import Derived.Shelf.Strconv.Lower
import Derived.Shelf.Strconv.ParseUint10
import Derived.Shelf.Strconv.ParseUint10Empty
import Derived.Shelf.Strconv.ParseUint10Any
import Derived.Shelf.Strconv.ParseInt10
import Derived.Shelf.Strconv.AtoiLong
import Derived.Shelf.Strconv.AtoiInnerAll
import Derived.Shelf.Strconv.RangeError
import Derived.Shelf.Strconv.ToErrorRange
import Derived.Shelf.Strconv.AtoiAll
import Derived.Shelf.Strconv.ParseUintEmpty
import Derived.Shelf.Strconv.ParseUint10b64
import Derived.Shelf.Strconv.ParseUint10b32
import Derived.Shelf.Strconv.ParseUint10b16
import Derived.Shelf.Strconv.ParseUint10b8
import Derived.Shelf.Strconv.ParseUint10At
import Derived.Shelf.Strconv.ParseInt10At64
import Derived.Shelf.Strconv.ParseInt10At32
import Derived.Shelf.Strconv.ParseInt10At16
import Derived.Shelf.Strconv.ParseInt10At8
import Derived.Shelf.Strconv.ParseInt10All
import Derived.Ground.MpProg
import Derived.Shelf.Pu.ParseUintPublic10
import Derived.Shelf.Pu.ErrVarParseUint
import Derived.Shelf.Strings.Search1
import Derived.Shelf.Strings.Search2
import Derived.Shelf.Strings.Search3
import Derived.Shelf.Strings.Cut
import Derived.Shelf.Strings.Count
import Derived.Shelf.Strings.Shaped
import Derived.Shelf.Strings.Prefix
import Derived.Shelf.Strings.Split
import Derived.Shelf.Strings.SplitShaped
import Derived.Shelf.Unicode.Decode
import Derived.Shelf.Strings.RuneCount
import Derived.Shelf.Strings.Explode
import Derived.Shelf.Unicode.DecodeSlow
import Derived.Shelf.Unicode.DecodeAny
import Derived.Shelf.Slices.Turned
import Derived.Lib.SlKeysI
import Derived.KernelRfl
import Derived.Test.YtbajcpobojindaaGreatDoorProg
set_option linter.unusedVariables false
set_option linter.unusedSimpArgs false
namespace WB
open Go Go.RowKit
theorem laid_errv{P:Program}{n nm:String}{d:DataW Unit}{W:World}{g:Nat}{ti:TypeId}{ms:Array (String×TypeId)}
  (hg:P.globalNamed n=some g) (ht:(P.globals[g]?).map (·.type)=some ti) (hi:P.underlying ti=some (.interface ms)):∀{l:List (String×DataW Unit)},(n,.iface nm d)∈l→laidMet P l W→∃u v,W.var? P n=some #[.iface u v]:=by
 intro l hm h;obtain⟨ps,hl,hx⟩:=h;clear hx
 induction l generalizing ps with
 |nil=>cases hm
 |cons x r ih=>
  obtain⟨n',d'⟩:=x;obtain⟨g0,t0,cs0,f0,p0,q0,hg0,ht0,hv0,hd0,hr,e0⟩:=hl;rcases List.mem_cons.1 hm with e|hm
  ·cases e;obtain rfl:=Option.some.inj (hg.symm.trans hg0);obtain rfl:=Option.some.inj (ht.symm.trans ht0);obtain⟨f1,u,v,e1,_,_⟩:=iface_of_trod hi hd0;refine⟨u,v, ?_⟩;rw[hv0];obtain⟨l0⟩:=cs0;simp only at e1;subst e1;rfl
  ·exact ih hm q0 hr
theorem GOk.errv{P:Program}{w:World}{name:String}{g:Nat}{u:TypeId}{v:Value}(hg:P.globalNamed name=some g)(h:w.var? P name=some #[.iface u v]):
  RelC w noM (.rp [.ifc]) (.pointer (some ⟨g,0,none⟩))∧∃cs t fr,w.heap[g]? =some (.cells cs t fr)∧cs.size= [CV.ifc].length∧noNamL (fun _=>false) [CV.ifc]=true:=by
 have hh:∃t fr,w.heap[g]? =some (.cells #[.iface u v] t fr):=by
  unfold World.var? at h;rw[hg]at h;simp only[Option.bind_some]at h;split at h<;>simp only[Option.some.injEq,reduceCtorEq]at h;rename_i cs t fr hc;subst h;exact⟨t,fr,hc⟩
 obtain⟨t,fr,hh⟩:=hh;refine⟨?_,_,t,fr,hh,rfl,rfl⟩;unfold RelC;refine⟨_,[.iface u v],rfl,heap_lt hh,(fun h=>h),RelL.cons ⟨u,v,rfl⟩ RelL.nil,fun j u' hj=> ?_⟩
 have hj0:j=0:=by
  have:=(List.getElem?_eq_some_iff.1 hj).1;simpa using this
 subst hj0;simp only[List.getElem?_cons_zero,Option.some.injEq]at hj;subst hj;rw[add_zero];simp[World.cell?,hh]
end WB
namespace Go.Proofs
open Go.Shelf
def Tryz.lays138_ren:Go.Shelf.Ren:=⟨fun|138=>94|195=>110|218=>112|143=>95|219=>96|217=>113|225=>114|224=>115|267=>116|266=>126|314=>127|n=>n,fun|9=>9|3=>3|4=>4|5=>5|0=>0|46=>127|146=>183|51=>23|n=>n,fun|1=>2|n=>n⟩
theorem Tryz.lays138:Go.Proofs.Lays.n138 Tryz.prog Tryz.lays138_ren:={
 mixed:=by kernel_rfl
 f138:=Tryz.func94.trans (congrArg some (by kernel_rfl))
 f143:=Tryz.func95.trans (congrArg some (by kernel_rfl))
 f195:=Tryz.func110.trans (congrArg some (by kernel_rfl))
 f217:=Tryz.func113.trans (congrArg some (by kernel_rfl))
 f218:=Tryz.func112.trans (congrArg some (by kernel_rfl))
 f219:=Tryz.func96.trans (congrArg some (by kernel_rfl))
 f224:=Tryz.func115.trans (congrArg some (by kernel_rfl))
 f225:=Tryz.func114.trans (congrArg some (by kernel_rfl))
 f266:=Tryz.func126.trans (congrArg some (by kernel_rfl))
 f267:=Tryz.func116.trans (congrArg some (by kernel_rfl))
 f314:=Tryz.func127.trans (congrArg some (by kernel_rfl))
 t0:=Tryz.underlying0
 a0:=Tryz.isAgg0
 z0:=Tryz.sizeOf0
 v0:=Tryz.zeroValue0
 t3:=Tryz.underlying3
 a3:=Tryz.isAgg3
 z3:=Tryz.sizeOf3
 v3:=Tryz.zeroValue3
 t4:=Tryz.underlying4
 a4:=Tryz.isAgg4
 z4:=Tryz.sizeOf4
 v4:=Tryz.zeroValue4
 t5:=Tryz.underlying5
 a5:=Tryz.isAgg5
 z5:=Tryz.sizeOf5
 v5:=Tryz.zeroValue5
 t9:=Tryz.underlying9
 a9:=Tryz.isAgg9
 z9:=Tryz.sizeOf9
 v9:=Tryz.zeroValue9
 t46:=Tryz.underlying127
 a46:=Tryz.isAgg127
 z46:=Tryz.sizeOf127
 v46:=Tryz.zeroValue127
 t51:=Tryz.underlying23
 a51:=Tryz.isAgg23
 z51:=Tryz.sizeOf23
 v51:=Tryz.zeroValue23
 t146:=Tryz.underlying183
 a146:=Tryz.isAgg183
 z146:=Tryz.sizeOf183
 v146:=Tryz.zeroValue183
 g1:=by kernel_rfl}
open Go.RowKit Go.Lib in
theorem Tryz.strings_Count_one(s:ByteArray)(c:UInt8)(w:World):
  Calls Tryz.prog 94 #[.string s,.string ⟨#[c]⟩] w fun e w'=>e=.returned (.int .i64 (Lib.countByte s.data.toList c))∧w'=w:=Any.strings_Count_one Tryz.lays138 s c w
def Tryz.lays219_ren:Go.Shelf.Ren:=⟨fun|219=>96|217=>113|225=>114|224=>115|267=>116|266=>126|314=>127|n=>n,fun|9=>9|3=>3|4=>4|5=>5|46=>127|146=>183|51=>23|n=>n,fun|1=>2|n=>n⟩
theorem Tryz.lays219:Go.Proofs.Lays.n219 Tryz.prog Tryz.lays219_ren:={
 mixed:=by kernel_rfl
 f217:=Tryz.func113.trans (congrArg some (by kernel_rfl))
 f219:=Tryz.func96.trans (congrArg some (by kernel_rfl))
 f224:=Tryz.func115.trans (congrArg some (by kernel_rfl))
 f225:=Tryz.func114.trans (congrArg some (by kernel_rfl))
 f266:=Tryz.func126.trans (congrArg some (by kernel_rfl))
 f267:=Tryz.func116.trans (congrArg some (by kernel_rfl))
 f314:=Tryz.func127.trans (congrArg some (by kernel_rfl))
 t3:=Tryz.underlying3
 a3:=Tryz.isAgg3
 z3:=Tryz.sizeOf3
 v3:=Tryz.zeroValue3
 t4:=Tryz.underlying4
 a4:=Tryz.isAgg4
 z4:=Tryz.sizeOf4
 v4:=Tryz.zeroValue4
 t5:=Tryz.underlying5
 a5:=Tryz.isAgg5
 z5:=Tryz.sizeOf5
 v5:=Tryz.zeroValue5
 t9:=Tryz.underlying9
 a9:=Tryz.isAgg9
 z9:=Tryz.sizeOf9
 v9:=Tryz.zeroValue9
 t46:=Tryz.underlying127
 a46:=Tryz.isAgg127
 z46:=Tryz.sizeOf127
 v46:=Tryz.zeroValue127
 t51:=Tryz.underlying23
 a51:=Tryz.isAgg23
 z51:=Tryz.sizeOf23
 v51:=Tryz.zeroValue23
 t146:=Tryz.underlying183
 a146:=Tryz.isAgg183
 z146:=Tryz.sizeOf183
 v146:=Tryz.zeroValue183
 g1:=by kernel_rfl}
open Go.RowKit Go.Lib in
theorem Tryz.stringslite_Index_one(s:ByteArray)(c:UInt8)(w:World):
  Calls Tryz.prog 96 #[.string s,.string ⟨#[c]⟩] w fun e w'=>e=.returned (.int .i64 (Lib.indexByte s.data.toList c))∧w'=w:=Any.stringslite_Index_one Tryz.lays219 s c w
def Tryz.laysPu14_ren:Go.Shelf.Ren:=⟨fun|14=>70|16=>97|17=>62|19=>117|20=>118|21=>78|22=>79|23=>80|24=>81|25=>101|27=>103|26=>102|28=>123|29=>128|30=>129|31=>130|32=>131|33=>132|35=>92|34=>133|36=>134|37=>135|38=>136|39=>137|40=>138|n=>n,fun|9=>9|3=>3|22=>116|24=>98|25=>130|4=>4|34=>139|5=>5|36=>127|37=>128|0=>0|39=>142|21=>21|44=>160|47=>176|50=>179|48=>177|2=>2|52=>190|55=>192|59=>195|60=>23|20=>20|61=>196|65=>197|66=>198|67=>199|n=>n,fun|0=>0|1=>1|2=>5|3=>6|4=>7|n=>n⟩
theorem Tryz.laysPu14:Go.Proofs.LaysPu.n14 Tryz.prog Tryz.laysPu14_ren:={
 mixed:=by kernel_rfl
 f14:=Tryz.func70.trans (congrArg some (by kernel_rfl))
 f16:=Tryz.func97.trans (congrArg some (by kernel_rfl))
 f17:=Tryz.func62.trans (congrArg some (by kernel_rfl))
 f19:=Tryz.func117.trans (congrArg some (by kernel_rfl))
 f20:=Tryz.func118.trans (congrArg some (by kernel_rfl))
 f21:=Tryz.func78.trans (congrArg some (by kernel_rfl))
 f22:=Tryz.func79.trans (congrArg some (by kernel_rfl))
 f23:=Tryz.func80.trans (congrArg some (by kernel_rfl))
 f24:=Tryz.func81.trans (congrArg some (by kernel_rfl))
 f25:=Tryz.func101.trans (congrArg some (by kernel_rfl))
 f26:=Tryz.func102.trans (congrArg some (by kernel_rfl))
 f27:=Tryz.func103.trans (congrArg some (by kernel_rfl))
 f28:=Tryz.func123.trans (congrArg some (by kernel_rfl))
 f29:=Tryz.func128.trans (congrArg some (by kernel_rfl))
 f30:=Tryz.func129.trans (congrArg some (by kernel_rfl))
 f31:=Tryz.func130.trans (congrArg some (by kernel_rfl))
 f32:=Tryz.func131.trans (congrArg some (by kernel_rfl))
 f33:=Tryz.func132.trans (congrArg some (by kernel_rfl))
 f34:=Tryz.func133.trans (congrArg some (by kernel_rfl))
 f35:=Tryz.func92.trans (congrArg some (by kernel_rfl))
 f36:=Tryz.func134.trans (congrArg some (by kernel_rfl))
 f37:=Tryz.func135.trans (congrArg some (by kernel_rfl))
 f38:=Tryz.func136.trans (congrArg some (by kernel_rfl))
 f39:=Tryz.func137.trans (congrArg some (by kernel_rfl))
 f40:=Tryz.func138.trans (congrArg some (by kernel_rfl))
 t0:=Tryz.underlying0
 a0:=Tryz.isAgg0
 z0:=Tryz.sizeOf0
 v0:=Tryz.zeroValue0
 i0:=by kernel_rfl
 t2:=Tryz.underlying2
 a2:=Tryz.isAgg2
 z2:=Tryz.sizeOf2
 v2:=Tryz.zeroValue2
 i2:=by kernel_rfl
 t3:=Tryz.underlying3
 a3:=Tryz.isAgg3
 z3:=Tryz.sizeOf3
 v3:=Tryz.zeroValue3
 i3:=by kernel_rfl
 t4:=Tryz.underlying4
 a4:=Tryz.isAgg4
 z4:=Tryz.sizeOf4
 v4:=Tryz.zeroValue4
 i4:=by kernel_rfl
 t5:=Tryz.underlying5
 a5:=Tryz.isAgg5
 z5:=Tryz.sizeOf5
 v5:=Tryz.zeroValue5
 i5:=by kernel_rfl
 t9:=Tryz.underlying9
 a9:=Tryz.isAgg9
 z9:=Tryz.sizeOf9
 v9:=Tryz.zeroValue9
 i9:=by kernel_rfl
 t20:=Tryz.underlying20
 a20:=Tryz.isAgg20
 z20:=Tryz.sizeOf20
 v20:=Tryz.zeroValue20
 i20:=by kernel_rfl
 t21:=Tryz.underlying21
 a21:=Tryz.isAgg21
 z21:=Tryz.sizeOf21
 v21:=Tryz.zeroValue21
 i21:=by kernel_rfl
 t22:=Tryz.underlying116
 a22:=Tryz.isAgg116
 z22:=Tryz.sizeOf116
 v22:=Tryz.zeroValue116
 i22:=by kernel_rfl
 t24:=Tryz.underlying98
 a24:=Tryz.isAgg98
 z24:=Tryz.sizeOf98
 v24:=Tryz.zeroValue98
 i24:=by kernel_rfl
 t25:=Tryz.underlying130
 a25:=Tryz.isAgg130
 z25:=Tryz.sizeOf130
 v25:=Tryz.zeroValue130
 i25:=by kernel_rfl
 t34:=Tryz.underlying139
 a34:=Tryz.isAgg139
 z34:=Tryz.sizeOf139
 v34:=Tryz.zeroValue139
 i34:=by kernel_rfl
 c34:=by kernel_rfl
 t36:=Tryz.underlying127
 a36:=Tryz.isAgg127
 z36:=Tryz.sizeOf127
 v36:=Tryz.zeroValue127
 i36:=by kernel_rfl
 t37:=Tryz.underlying128
 a37:=Tryz.isAgg128
 z37:=Tryz.sizeOf128
 v37:=Tryz.zeroValue128
 i37:=by kernel_rfl
 t39:=Tryz.underlying142
 a39:=Tryz.isAgg142
 z39:=Tryz.sizeOf142
 v39:=Tryz.zeroValue142
 i39:=by kernel_rfl
 t44:=Tryz.underlying160
 a44:=Tryz.isAgg160
 z44:=Tryz.sizeOf160
 v44:=Tryz.zeroValue160
 i44:=by kernel_rfl
 t47:=Tryz.underlying176
 a47:=Tryz.isAgg176
 z47:=Tryz.sizeOf176
 v47:=Tryz.zeroValue176
 i47:=by kernel_rfl
 t48:=Tryz.underlying177
 a48:=Tryz.isAgg177
 z48:=Tryz.sizeOf177
 v48:=Tryz.zeroValue177
 i48:=by kernel_rfl
 t50:=Tryz.underlying179
 a50:=Tryz.isAgg179
 z50:=Tryz.sizeOf179
 v50:=Tryz.zeroValue179
 i50:=by kernel_rfl
 t52:=Tryz.underlying190
 a52:=Tryz.isAgg190
 z52:=Tryz.sizeOf190
 v52:=Tryz.zeroValue190
 i52:=by kernel_rfl
 t55:=Tryz.underlying192
 a55:=Tryz.isAgg192
 z55:=Tryz.sizeOf192
 v55:=Tryz.zeroValue192
 i55:=by kernel_rfl
 t59:=Tryz.underlying195
 a59:=Tryz.isAgg195
 z59:=Tryz.sizeOf195
 v59:=Tryz.zeroValue195
 i59:=by kernel_rfl
 t60:=Tryz.underlying23
 a60:=Tryz.isAgg23
 z60:=Tryz.sizeOf23
 v60:=Tryz.zeroValue23
 i60:=by kernel_rfl
 t61:=Tryz.underlying196
 a61:=Tryz.isAgg196
 z61:=Tryz.sizeOf196
 t65:=Tryz.underlying197
 a65:=Tryz.isAgg197
 z65:=Tryz.sizeOf197
 v65:=Tryz.zeroValue197
 i65:=by kernel_rfl
 t66:=Tryz.underlying198
 a66:=Tryz.isAgg198
 z66:=Tryz.sizeOf198
 v66:=Tryz.zeroValue198
 i66:=by kernel_rfl
 t67:=Tryz.underlying199
 a67:=Tryz.isAgg199
 z67:=Tryz.sizeOf199
 v67:=Tryz.zeroValue199
 i67:=by kernel_rfl
 g0:=by kernel_rfl
 m0:=by kernel_rfl
 g1:=by kernel_rfl
 m1:=by kernel_rfl
 g2:=by kernel_rfl
 m2:=by kernel_rfl
 g3:=by kernel_rfl
 m3:=by kernel_rfl
 g4:=by kernel_rfl
 m4:=by kernel_rfl}
open Go.RowKit in
theorem Tryz.strconv_ParseUint_10_at64_ok(s:ByteArray)(hmax:s.size≤9223372036854775806)(u:Nat)(h:Lib.parseUintB 64 s.data.toList=.ok u)(w:World):
  Calls Tryz.prog 70 #[.string s,.int .i64 10,.int .i64 64] w fun e w'=>e=.returned (.tuple #[.int .u64 u,.nilIface])∧(w'=w∨w'=Lib.bytesWorld w 5 s):=Any.strconv_ParseUint_10_at64_ok Tryz.laysPu14 s hmax u h w
open Go.RowKit in
theorem Tryz.strconv_ParseUint_10_at64_syntax(s:ByteArray)(hlim:s.size≤281474976710656)(h:Lib.parseUintB 64 s.data.toList=Lib.NumEnd.syntax)(ev:Value)(w:World)(hv:w.cell? ⟨0,0,none⟩=some ev)(hev:ev=.nilIface∨∃te pe,ev=.iface te pe):
  Calls Tryz.prog 70 #[.string s,.int .i64 10,.int .i64 64] w fun e w'=>∃N,e=.returned (.tuple #[.int .u64 0,.iface 142 (.pointer (some ⟨N,0,none⟩))])∧w.heap.size≤N∧w'.heap[N]? =some (.cells #[.string ⟨#[80,97,114,115,101,85,105,110,116]⟩,.string s,ev] 160 (0,0))∧Below w.heap.size w w':=Any.strconv_ParseUint_10_at64_syntax Tryz.laysPu14 s hlim h ev w hv hev
open Go.RowKit in
theorem Tryz.strconv_ParseUint_10_at64_range(s:ByteArray)(hlim:s.size≤281474976710656)(h:Lib.parseUintB 64 s.data.toList=.range)(ev:Value)(w:World)(hv:w.cell? ⟨1,0,none⟩=some ev)(hev:ev=.nilIface∨∃te pe,ev=.iface te pe):
  Calls Tryz.prog 70 #[.string s,.int .i64 10,.int .i64 64] w fun e w'=>∃N,e=.returned (.tuple #[.int .u64 18446744073709551615,.iface 142 (.pointer (some ⟨N,0,none⟩))])∧w.heap.size≤N∧w'.heap[N]? =some (.cells #[.string ⟨#[80,97,114,115,101,85,105,110,116]⟩,.string s,ev] 160 (0,0))∧Below w.heap.size w w':=Any.strconv_ParseUint_10_at64_range Tryz.laysPu14 s hlim h ev w hv hev
def Tryz.laysC172_ren:Go.Shelf.Ren:=⟨fun|172=>46|244=>61|245=>62|247=>77|279=>78|280=>79|281=>80|282=>81|287=>97|316=>101|171=>103|205=>102|321=>117|322=>118|243=>123|246=>128|283=>129|284=>130|285=>131|286=>132|129=>92|317=>133|318=>134|319=>135|320=>136|337=>137|338=>138|n=>n,fun|9=>9|3=>3|75=>98|76=>99|4=>4|5=>5|167=>139|37=>128|0=>0|85=>140|2=>2|168=>142|53=>116|175=>130|46=>127|210=>160|127=>176|145=>179|143=>177|21=>21|171=>190|173=>192|212=>195|51=>23|20=>20|213=>196|232=>197|233=>198|80=>199|n=>n,fun|15=>0|16=>1|17=>5|18=>6|19=>7|n=>n⟩
theorem Tryz.laysC172:Go.Proofs.LaysC.n172 Tryz.prog Tryz.laysC172_ren:={
 mixed:=by kernel_rfl
 f129:=Tryz.func92.trans (congrArg some (by kernel_rfl))
 f171:=Tryz.func103.trans (congrArg some (by kernel_rfl))
 f172:=Tryz.func46.trans (congrArg some (by kernel_rfl))
 f205:=Tryz.func102.trans (congrArg some (by kernel_rfl))
 f243:=Tryz.func123.trans (congrArg some (by kernel_rfl))
 f244:=Tryz.func61.trans (congrArg some (by kernel_rfl))
 f245:=Tryz.func62.trans (congrArg some (by kernel_rfl))
 f246:=Tryz.func128.trans (congrArg some (by kernel_rfl))
 f247:=Tryz.func77.trans (congrArg some (by kernel_rfl))
 f279:=Tryz.func78.trans (congrArg some (by kernel_rfl))
 f280:=Tryz.func79.trans (congrArg some (by kernel_rfl))
 f281:=Tryz.func80.trans (congrArg some (by kernel_rfl))
 f282:=Tryz.func81.trans (congrArg some (by kernel_rfl))
 f283:=Tryz.func129.trans (congrArg some (by kernel_rfl))
 f284:=Tryz.func130.trans (congrArg some (by kernel_rfl))
 f285:=Tryz.func131.trans (congrArg some (by kernel_rfl))
 f286:=Tryz.func132.trans (congrArg some (by kernel_rfl))
 f287:=Tryz.func97.trans (congrArg some (by kernel_rfl))
 f316:=Tryz.func101.trans (congrArg some (by kernel_rfl))
 f317:=Tryz.func133.trans (congrArg some (by kernel_rfl))
 f318:=Tryz.func134.trans (congrArg some (by kernel_rfl))
 f319:=Tryz.func135.trans (congrArg some (by kernel_rfl))
 f320:=Tryz.func136.trans (congrArg some (by kernel_rfl))
 f321:=Tryz.func117.trans (congrArg some (by kernel_rfl))
 f322:=Tryz.func118.trans (congrArg some (by kernel_rfl))
 f337:=Tryz.func137.trans (congrArg some (by kernel_rfl))
 f338:=Tryz.func138.trans (congrArg some (by kernel_rfl))
 t0:=Tryz.underlying0
 a0:=Tryz.isAgg0
 z0:=Tryz.sizeOf0
 v0:=Tryz.zeroValue0
 t2:=Tryz.underlying2
 a2:=Tryz.isAgg2
 z2:=Tryz.sizeOf2
 v2:=Tryz.zeroValue2
 t3:=Tryz.underlying3
 a3:=Tryz.isAgg3
 z3:=Tryz.sizeOf3
 v3:=Tryz.zeroValue3
 t4:=Tryz.underlying4
 a4:=Tryz.isAgg4
 z4:=Tryz.sizeOf4
 v4:=Tryz.zeroValue4
 t5:=Tryz.underlying5
 a5:=Tryz.isAgg5
 z5:=Tryz.sizeOf5
 v5:=Tryz.zeroValue5
 t9:=Tryz.underlying9
 a9:=Tryz.isAgg9
 z9:=Tryz.sizeOf9
 v9:=Tryz.zeroValue9
 t20:=Tryz.underlying20
 a20:=Tryz.isAgg20
 z20:=Tryz.sizeOf20
 v20:=Tryz.zeroValue20
 t21:=Tryz.underlying21
 a21:=Tryz.isAgg21
 z21:=Tryz.sizeOf21
 v21:=Tryz.zeroValue21
 t37:=Tryz.underlying128
 a37:=Tryz.isAgg128
 z37:=Tryz.sizeOf128
 v37:=Tryz.zeroValue128
 t46:=Tryz.underlying127
 a46:=Tryz.isAgg127
 z46:=Tryz.sizeOf127
 v46:=Tryz.zeroValue127
 t51:=Tryz.underlying23
 a51:=Tryz.isAgg23
 z51:=Tryz.sizeOf23
 v51:=Tryz.zeroValue23
 t53:=Tryz.underlying116
 a53:=Tryz.isAgg116
 z53:=Tryz.sizeOf116
 v53:=Tryz.zeroValue116
 t75:=Tryz.underlying98
 a75:=Tryz.isAgg98
 z75:=Tryz.sizeOf98
 v75:=Tryz.zeroValue98
 t76:=Tryz.underlying99
 a76:=Tryz.isAgg99
 z76:=Tryz.sizeOf99
 v76:=Tryz.zeroValue99
 t85:=Tryz.underlying140
 a85:=Tryz.isAgg140
 z85:=Tryz.sizeOf140
 v85:=Tryz.zeroValue140
 t127:=Tryz.underlying176
 a127:=Tryz.isAgg176
 z127:=Tryz.sizeOf176
 v127:=Tryz.zeroValue176
 t143:=Tryz.underlying177
 a143:=Tryz.isAgg177
 z143:=Tryz.sizeOf177
 v143:=Tryz.zeroValue177
 t145:=Tryz.underlying179
 a145:=Tryz.isAgg179
 z145:=Tryz.sizeOf179
 v145:=Tryz.zeroValue179
 t167:=Tryz.underlying139
 a167:=Tryz.isAgg139
 z167:=Tryz.sizeOf139
 v167:=Tryz.zeroValue139
 t168:=Tryz.underlying142
 a168:=Tryz.isAgg142
 z168:=Tryz.sizeOf142
 v168:=Tryz.zeroValue142
 t171:=Tryz.underlying190
 a171:=Tryz.isAgg190
 z171:=Tryz.sizeOf190
 v171:=Tryz.zeroValue190
 t173:=Tryz.underlying192
 a173:=Tryz.isAgg192
 z173:=Tryz.sizeOf192
 v173:=Tryz.zeroValue192
 t175:=Tryz.underlying130
 a175:=Tryz.isAgg130
 z175:=Tryz.sizeOf130
 v175:=Tryz.zeroValue130
 t210:=Tryz.underlying160
 a210:=Tryz.isAgg160
 z210:=Tryz.sizeOf160
 v210:=Tryz.zeroValue160
 t212:=Tryz.underlying195
 a212:=Tryz.isAgg195
 z212:=Tryz.sizeOf195
 v212:=Tryz.zeroValue195
 t213:=Tryz.underlying196
 a213:=Tryz.isAgg196
 z213:=Tryz.sizeOf196
 t232:=Tryz.underlying197
 a232:=Tryz.isAgg197
 z232:=Tryz.sizeOf197
 v232:=Tryz.zeroValue197
 t233:=Tryz.underlying198
 a233:=Tryz.isAgg198
 z233:=Tryz.sizeOf198
 v233:=Tryz.zeroValue198
 g15:=by kernel_rfl
 g16:=by kernel_rfl
 g17:=by kernel_rfl
 g18:=by kernel_rfl
 g19:=by kernel_rfl
 t80:=Tryz.underlying199
 a80:=Tryz.isAgg199
 z80:=Tryz.sizeOf199
 v80:=Tryz.zeroValue199
 i0:=by kernel_rfl
 i2:=by kernel_rfl
 i3:=by kernel_rfl
 i4:=by kernel_rfl
 i5:=by kernel_rfl
 i9:=by kernel_rfl
 i20:=by kernel_rfl
 i21:=by kernel_rfl
 i37:=by kernel_rfl
 i46:=by kernel_rfl
 i51:=by kernel_rfl
 i53:=by kernel_rfl
 i75:=by kernel_rfl
 i76:=by kernel_rfl
 i80:=by kernel_rfl
 i85:=by kernel_rfl
 i127:=by kernel_rfl
 i143:=by kernel_rfl
 i145:=by kernel_rfl
 i167:=by kernel_rfl
 i168:=by kernel_rfl
 i171:=by kernel_rfl
 i173:=by kernel_rfl
 i175:=by kernel_rfl
 i210:=by kernel_rfl
 i212:=by kernel_rfl
 i232:=by kernel_rfl
 i233:=by kernel_rfl
 m15:=by kernel_rfl
 m16:=by kernel_rfl
 m17:=by kernel_rfl
 m18:=by kernel_rfl
 m19:=by kernel_rfl
 c0:=by kernel_rfl
 c2:=by kernel_rfl
 c3:=by kernel_rfl
 c4:=by kernel_rfl
 c5:=by kernel_rfl
 c9:=by kernel_rfl
 c20:=by kernel_rfl
 c21:=by kernel_rfl
 c37:=by kernel_rfl
 c46:=by kernel_rfl
 c51:=by kernel_rfl
 c53:=by kernel_rfl
 c75:=by kernel_rfl
 c76:=by kernel_rfl
 c80:=by kernel_rfl
 c85:=by kernel_rfl
 c127:=by kernel_rfl
 c143:=by kernel_rfl
 c145:=by kernel_rfl
 c167:=by kernel_rfl
 c168:=by kernel_rfl
 c171:=by kernel_rfl
 c173:=by kernel_rfl
 c175:=by kernel_rfl
 c210:=by kernel_rfl
 c212:=by kernel_rfl
 c213:=by kernel_rfl
 c232:=by kernel_rfl
 c233:=by kernel_rfl}
open Go.RowKit in
theorem Tryz.strconv_Atoi_ok(s:ByteArray)(hmax:s.size≤9223372036854775806)(v:Int)(h:Lib.atoiAll s.data.toList=.ok v)(w:World):
  Calls Tryz.prog 46 #[.string s] w fun e w'=>e=.returned (.tuple #[.int .i64 v,.nilIface])∧(w'=w∨∃t,w'=Lib.bytesWorld w 5 t):=Any.strconv_Atoi_ok Tryz.laysC172 s hmax v h w
open Go.RowKit in
theorem Tryz.strconv_Atoi_syntax(s:ByteArray)(hlim:s.size≤281474976710656)(h:Lib.atoiAll s.data.toList=Lib.NumEnd.syntax)(ev:Value)(w:World)(hv:w.cell? ⟨0,0,none⟩=some ev)(hev:ev=.nilIface∨∃te pe,ev=.iface te pe):
  Calls Tryz.prog 46 #[.string s] w fun e w'=>∃N,e=.returned (.tuple #[.int .i64 (0),.iface 142 (.pointer (some ⟨N,0,none⟩))])∧w.heap.size≤N∧w'.heap[N]? =some (.cells #[.string ⟨#[65,116,111,105]⟩,.string s,ev] 160 (0,0))∧Below w.heap.size w w':=Any.strconv_Atoi_syntax Tryz.laysC172 s hlim h ev w hv hev
open Go.RowKit in
theorem Tryz.strconv_Atoi_range(s:ByteArray)(hlim:s.size≤281474976710656)(h:Lib.atoiAll s.data.toList=.range)(ev:Value)(w:World)(hv:w.cell? ⟨1,0,none⟩=some ev)(hev:ev=.nilIface∨∃te pe,ev=.iface te pe):
  Calls Tryz.prog 46 #[.string s] w fun e w'=>∃N,e=.returned (.tuple #[.int .i64 (Lib.atoiSat s.data.toList),.iface 142 (.pointer (some ⟨N,0,none⟩))])∧w.heap.size≤N∧w'.heap[N]? =some (.cells #[.string ⟨#[65,116,111,105]⟩,.string s,ev] 160 (0,0))∧Below w.heap.size w w':=Any.strconv_Atoi_range Tryz.laysC172 s hlim h ev w hv hev
def Tryz.keys23_ren:Go.Shelf.Ren:=⟨fun|7=>23|10=>49|n=>n,fun|23=>78|26=>24|3=>52|28=>83|0=>0|27=>82|33=>102|4=>4|n=>n,fun|n=>n⟩
theorem Tryz.keys23:Go.Proofs.SlLaysZI.n7 Tryz.prog Tryz.keys23_ren:={
 mixed:=by kernel_rfl
 f7:=⟨Tryz.f23.name,by decide,Tryz.func23.trans (congrArg some (by kernel_rfl))⟩
 f10:=⟨Tryz.f49.name,by decide,Tryz.func49.trans (congrArg some (by kernel_rfl))⟩
 t0:=Tryz.underlying0
 a0:=Tryz.isAgg0
 z0:=Tryz.sizeOf0
 v0:=Tryz.zeroValue0
 t4:=Tryz.underlying4
 a4:=Tryz.isAgg4
 z4:=Tryz.sizeOf4
 v4:=Tryz.zeroValue4
 t23:=Tryz.underlying78
 a23:=Tryz.isAgg78
 z23:=Tryz.sizeOf78
 v23:=Tryz.zeroValue78
 t26:=Tryz.underlying24
 a26:=Tryz.isAgg24
 z26:=Tryz.sizeOf24
 v26:=Tryz.zeroValue24
 t27:=Tryz.underlying82
 a27:=Tryz.isAgg82
 z27:=Tryz.sizeOf82
 v27:=Tryz.zeroValue82
 t28:=Tryz.underlying83
 a28:=Tryz.isAgg83
 z28:=Tryz.sizeOf83
 v28:=Tryz.zeroValue83
 t33:=Tryz.underlying102
 a33:=Tryz.isAgg102
 z33:=Tryz.sizeOf102
 v33:=Tryz.zeroValue102}
def Tryz.sorted22_ren:Go.Shelf.Ren:=⟨fun|6=>22|8=>47|9=>48|11=>63|13=>65|12=>64|23=>91|24=>92|14=>82|15=>83|16=>84|17=>85|18=>86|19=>87|20=>88|21=>89|22=>90|25=>104|26=>105|27=>106|28=>107|29=>108|30=>109|31=>124|n=>n,fun|26=>24|28=>83|24=>80|0=>0|3=>3|37=>127|48=>23|50=>116|4=>4|40=>147|39=>146|45=>152|5=>5|9=>9|51=>163|55=>167|57=>180|58=>181|33=>102|n=>n,fun|n=>n⟩
theorem Tryz.sorted22:Go.Proofs.SlLaysZI.n6 Tryz.prog Tryz.sorted22_ren:={
 mixed:=by kernel_rfl
 f6:=⟨Tryz.f22.name,by decide,Tryz.func22.trans (congrArg some (by kernel_rfl))⟩
 f8:=⟨Tryz.f47.name,by decide,Tryz.func47.trans (congrArg some (by kernel_rfl))⟩
 f11:=⟨Tryz.f63.name,by decide,Tryz.func63.trans (congrArg some (by kernel_rfl))⟩
 t0:=Tryz.underlying0
 a0:=Tryz.isAgg0
 z0:=Tryz.sizeOf0
 v0:=Tryz.zeroValue0
 t24:=Tryz.underlying80
 a24:=Tryz.isAgg80
 z24:=Tryz.sizeOf80
 v24:=Tryz.zeroValue80
 t26:=Tryz.underlying24
 a26:=Tryz.isAgg24
 z26:=Tryz.sizeOf24
 v26:=Tryz.zeroValue24
 t28:=Tryz.underlying83
 a28:=Tryz.isAgg83
 z28:=Tryz.sizeOf83
 v28:=Tryz.zeroValue83
 i26:=by kernel_rfl}
def Tryz.sort48_ren:Go.Shelf.Ren:=⟨fun|5=>48|8=>65|7=>64|19=>91|20=>92|10=>82|11=>83|12=>84|13=>85|14=>86|15=>87|16=>88|17=>89|18=>90|30=>104|31=>105|32=>106|33=>107|34=>108|35=>109|40=>124|n=>n,fun|23=>80|25=>24|3=>3|32=>127|22=>80|0=>0|44=>23|46=>116|4=>4|36=>147|35=>146|41=>152|5=>5|9=>9|53=>163|57=>167|63=>180|64=>181|n=>n,fun|n=>n⟩
theorem Tryz.sort48:Go.Proofs.SlLaysM.n5 Tryz.prog Tryz.sort48_ren:={
 mixed:=by kernel_rfl
 f5:=⟨Tryz.f48.name,by decide,Tryz.func48.trans (congrArg some (by kernel_rfl))⟩
 f7:=⟨Tryz.f64.name,by decide,Tryz.func64.trans (congrArg some (by kernel_rfl))⟩
 f8:=Tryz.func65.trans (congrArg some (by kernel_rfl))
 f10:=⟨Tryz.f82.name,by decide,Tryz.func82.trans (congrArg some (by kernel_rfl))⟩
 f11:=⟨Tryz.f83.name,by decide,Tryz.func83.trans (congrArg some (by kernel_rfl))⟩
 f12:=⟨Tryz.f84.name,by decide,Tryz.func84.trans (congrArg some (by kernel_rfl))⟩
 f13:=⟨Tryz.f85.name,by decide,Tryz.func85.trans (congrArg some (by kernel_rfl))⟩
 f14:=⟨Tryz.f86.name,by decide,Tryz.func86.trans (congrArg some (by kernel_rfl))⟩
 f15:=⟨Tryz.f87.name,by decide,Tryz.func87.trans (congrArg some (by kernel_rfl))⟩
 f16:=⟨Tryz.f88.name,by decide,Tryz.func88.trans (congrArg some (by kernel_rfl))⟩
 f17:=⟨Tryz.f89.name,by decide,Tryz.func89.trans (congrArg some (by kernel_rfl))⟩
 f18:=⟨Tryz.f90.name,by decide,Tryz.func90.trans (congrArg some (by kernel_rfl))⟩
 f19:=Tryz.func91.trans (congrArg some (by kernel_rfl))
 f20:=Tryz.func92.trans (congrArg some (by kernel_rfl))
 f30:=⟨Tryz.f104.name,by decide,Tryz.func104.trans (congrArg some (by kernel_rfl))⟩
 f31:=Tryz.func105.trans (congrArg some (by kernel_rfl))
 f32:=Tryz.func106.trans (congrArg some (by kernel_rfl))
 f33:=⟨Tryz.f107.name,by decide,Tryz.func107.trans (congrArg some (by kernel_rfl))⟩
 f34:=⟨Tryz.f108.name,by decide,Tryz.func108.trans (congrArg some (by kernel_rfl))⟩
 f35:=⟨Tryz.f109.name,by decide,Tryz.func109.trans (congrArg some (by kernel_rfl))⟩
 f40:=⟨Tryz.f124.name,by decide,Tryz.func124.trans (congrArg some (by kernel_rfl))⟩
 t0:=Tryz.underlying0
 a0:=Tryz.isAgg0
 z0:=Tryz.sizeOf0
 v0:=Tryz.zeroValue0
 t3:=Tryz.underlying3
 a3:=Tryz.isAgg3
 z3:=Tryz.sizeOf3
 v3:=Tryz.zeroValue3
 t4:=Tryz.underlying4
 a4:=Tryz.isAgg4
 z4:=Tryz.sizeOf4
 v4:=Tryz.zeroValue4
 t5:=Tryz.underlying5
 a5:=Tryz.isAgg5
 z5:=Tryz.sizeOf5
 v5:=Tryz.zeroValue5
 t9:=Tryz.underlying9
 a9:=Tryz.isAgg9
 z9:=Tryz.sizeOf9
 v9:=Tryz.zeroValue9
 t22:=Tryz.underlying80
 a22:=Tryz.isAgg80
 z22:=Tryz.sizeOf80
 v22:=Tryz.zeroValue80
 t23:=Tryz.underlying80
 a23:=Tryz.isAgg80
 z23:=Tryz.sizeOf80
 v23:=Tryz.zeroValue80
 t25:=Tryz.underlying24
 a25:=Tryz.isAgg24
 z25:=Tryz.sizeOf24
 v25:=Tryz.zeroValue24
 t32:=Tryz.underlying127
 a32:=Tryz.isAgg127
 z32:=Tryz.sizeOf127
 v32:=Tryz.zeroValue127
 t35:=Tryz.underlying146
 a35:=Tryz.isAgg146
 z35:=Tryz.sizeOf146
 v35:=Tryz.zeroValue146
 t36:=Tryz.underlying147
 a36:=Tryz.isAgg147
 z36:=Tryz.sizeOf147
 v36:=Tryz.zeroValue147
 t41:=Tryz.underlying152
 a41:=Tryz.isAgg152
 z41:=Tryz.sizeOf152
 v41:=Tryz.zeroValue152
 t44:=Tryz.underlying23
 a44:=Tryz.isAgg23
 z44:=Tryz.sizeOf23
 v44:=Tryz.zeroValue23
 t46:=Tryz.underlying116
 a46:=Tryz.isAgg116
 z46:=Tryz.sizeOf116
 v46:=Tryz.zeroValue116
 t53:=Tryz.underlying163
 a53:=Tryz.isAgg163
 z53:=Tryz.sizeOf163
 v53:=Tryz.zeroValue163
 t57:=Tryz.underlying167
 a57:=Tryz.isAgg167
 z57:=Tryz.sizeOf167
 v57:=Tryz.zeroValue167
 t63:=Tryz.underlying180
 a63:=Tryz.isAgg180
 z63:=Tryz.sizeOf180
 v63:=Tryz.zeroValue180
 t64:=Tryz.underlying181
 a64:=Tryz.isAgg181
 z64:=Tryz.sizeOf181
 v64:=Tryz.zeroValue181}
theorem Tryz.sorts22(m:Nat):AnyZI.SortsIn Tryz.prog Tryz.sorted22_ren Fence.wide m:=
 ⟨fun blk off cap ss W hH hblk hsz=>Go.callsIn_wide.2 (AnyM.slices_Sort_int Tryz.sort48 blk off cap ss W hH hblk hsz),
  fun p cap W=>Go.callsIn_wide.2 (AnyM.slices_Sort_int_none Tryz.sort48 p cap W)⟩
theorem Tryz.sortedC(Bm b nn:Nat)(D0:DataW Value)(R:Value→Option (DataW Value×List MemPlace))(w:World)(hBm:Bm<w.heap.size)(hcell:w.cell? ⟨Bm,0,none⟩=some (.map (some b)))(hown:w.ownsMap Tryz.prog 24 R b nn D0)(hmax:Go.Maps.size D0≤maxLen)(hbytes:Go.Maps.size D0*8≤140737488355328):
  Go.Calls Tryz.prog 22 #[.func (.func 49) #[] #[.pointer (some ⟨Bm,0,none⟩)]] w fun e w'=>∃(v:Value) (ss:List Int),e=.returned v∧ss.Perm (Go.intKeys D0)∧w'.ownsRow w.heap.size 24 1 v ss.length ((ss.mergeSort (fun x y=>decide (x≤y))).map Go.encZ)∧(v=.slice none 0 0↔ss= [])∧Go.RowKit.Below w.heap.size w w':=
 (Go.callsIn_wide (n:=5)).1 (AnyZI.sorted_in Tryz.sorted22 Fence.wide 5 trivial trivial trivial trivial rfl (by omega) (Tryz.sorts22 _) (enters_of Tryz.func48 (by kernel_rfl) rfl) 49 #[.pointer (some ⟨Bm,0,none⟩)] trivial (enters_of Tryz.func49 (by kernel_rfl) rfl) _ _ hmax hbytes _
  (AnyZI.keys_gives (ρ:=Tryz.keys23_ren) {Tryz.keys23 with} Fence.wide 2 trivial rfl (by omega) Bm b nn D0 w hBm hcell hown))
theorem Tryz.sortedN(Bm:Nat)(w:World)(hBm:Bm<w.heap.size)(hcell:w.cell? ⟨Bm,0,none⟩=some (.map none)):
  Go.Calls Tryz.prog 22 #[.func (.func 49) #[] #[.pointer (some ⟨Bm,0,none⟩)]] w fun e w'=>∃(v:Value) (ss:List Int),e=.returned v∧ss= []∧w'.ownsRow w.heap.size 24 1 v ss.length ((ss.mergeSort (fun x y=>decide (x≤y))).map Go.encZ)∧(v=.slice none 0 0↔ss= [])∧Go.RowKit.Below w.heap.size w w':=
 (Go.callsIn_wide (n:=5)).1 (AnyZI.sorted_in Tryz.sorted22 Fence.wide 5 trivial trivial trivial trivial rfl (by omega) (Tryz.sorts22 _) (enters_of Tryz.func48 (by kernel_rfl) rfl) 49 #[.pointer (some ⟨Bm,0,none⟩)] trivial (enters_of Tryz.func49 (by kernel_rfl) rfl) _ 0 (Nat.zero_le _) (by omega) _
  (AnyZI.keys_gives_nil (ρ:=Tryz.keys23_ren) {Tryz.keys23 with} Fence.wide 2 trivial rfl Bm w hBm hcell))
end Go.Proofs
