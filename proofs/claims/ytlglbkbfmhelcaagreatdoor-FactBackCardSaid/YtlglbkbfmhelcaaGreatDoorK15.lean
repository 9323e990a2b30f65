/-
  OWN TEXTS, MERGED (wip/merge.py): LibEv, RShelf, FmtU. No condition of their own.
-/
import Derived.Test.YtlglbkbfmhelcaaGreatDoorK5
import Derived.LaidLaws
import Derived.Shelf.Strings.Builder1
import Derived.Shelf.Strings.Builder2
import Derived.Shelf.Strings.OnBuilder
import Derived.Shelf.Small.Wraps
import Derived.Shelf.Strings.BuilderF
import Derived.Shelf.Strings.BuilderK
import Derived.Shelf.Utf8.RuneCount
import Derived.Shelf.Strings.Builder2Cap
import Derived.Shelf.Strconv.Itoa0
import Derived.Shelf.Strconv.Itoa1
import Derived.Shelf.LaysM
import Derived.Shelf.Strconv.Itoa2
import Derived.Shelf.Strconv.Itoa3
import Derived.Shelf.Strconv.Itoa4
import Derived.Shelf.Strconv.ParseIntEmpty
import Derived.Shelf.Strconv.Clone
import Derived.Shelf.Strconv.SyntaxError
import Derived.Shelf.LaysC
import Derived.Shelf.Strconv.ToError
import Derived.Shelf.Strconv.Lower
import Derived.Shelf.Strconv.ParseUint10
import Derived.Shelf.Strconv.ParseUint10Empty
import Derived.Shelf.Strconv.ParseUint10Any
import Derived.Shelf.Strconv.ParseInt10
import Derived.Shelf.Strconv.RangeError
import Derived.Shelf.Strconv.ToErrorRange
import Derived.Shelf.Strconv.ParseUintEmpty
import Derived.Shelf.Strconv.ParseUint10b64
import Derived.Shelf.Strconv.ParseUint10b32
import Derived.Shelf.Strconv.ParseUint10b16
import Derived.Shelf.Strconv.ParseUint10b8
import Derived.Shelf.Strconv.ParseUint10At
import Derived.Shelf.Strconv.ParseInt10At64
import Derived.Shelf.Strconv.ParseInt10At32
import Derived.Shelf.Strconv.ParseInt10At16
import Derived.Shelf.Strconv.ParseInt10At8
import Derived.Shelf.Strconv.ParseInt10All
import Derived.Shelf.Strconv.ParseIntPublic10
import Derived.Shelf.Strconv.ErrVarParseInt
import Derived.Ground.MpProg
import Derived.Shelf.Pu.ParseUintPublic10
import Derived.Shelf.Strings.Search1
import Derived.Shelf.Strings.Search2
import Derived.Shelf.Strings.Search3
import Derived.Shelf.Strings.Cut
import Derived.Shelf.Strings.Count
import Derived.Shelf.Strings.Shaped
import Derived.Shelf.Strings.Prefix
import Derived.Shelf.Strings.Split
import Derived.Shelf.Strings.SplitShaped
import Derived.Shelf.Unicode.Decode
import Derived.Shelf.Strings.RuneCount
import Derived.Shelf.Strings.Explode
import Derived.Shelf.Unicode.DecodeSlow
import Derived.Shelf.Unicode.DecodeAny
import Derived.Shelf.Strings.BuilderCap
import Derived.Shelf.Slices.Turned
import Derived.Test.YtlglbkbfmhelcaaGreatDoorProg
import Derived.Lib.Walk
import Derived.Lib.ItoaMem
import Derived.WalkKit
import Derived.BigCall
import Derived.BigGuard
set_option linter.unusedVariables false
set_option linter.unusedSimpArgs false
namespace WB
open Go Go.RowKit
theorem laid_errv{P:Program}{n nm:String}{d:DataW Unit}{W:World}{g:Nat}{ti:TypeId}{ms:Array (String×TypeId)}
  (hg:P.globalNamed n=some g) (ht:(P.globals[g]?).map (·.type)=some ti) (hi:P.underlying ti=some (.interface ms)):∀{l:List (String×DataW Unit)},(n,.iface nm d)∈l→laidMet P l W→∃u v,W.var? P n=some #[.iface u v]:=by
 intro l hm h;obtain⟨ps,hl,hx⟩:=h;clear hx
 induction l generalizing ps with
 |nil=>cases hm
 |cons x r ih=>
  obtain⟨n',d'⟩:=x;obtain⟨g0,t0,cs0,f0,p0,q0,hg0,ht0,hv0,hd0,hr,e0⟩:=hl;rcases List.mem_cons.1 hm with e|hm
  ·cases e;obtain rfl:=Option.some.inj (hg.symm.trans hg0);obtain rfl:=Option.some.inj (ht.symm.trans ht0);obtain⟨f1,u,v,e1,_,_⟩:=iface_of_trod hi hd0;refine⟨u,v, ?_⟩;rw[hv0];obtain⟨l0⟩:=cs0;simp only at e1;subst e1;rfl
  ·exact ih hm q0 hr
theorem GOk.errv{P:Program}{w:World}{name:String}{g:Nat}{u:TypeId}{v:Value}(hg:P.globalNamed name=some g)(h:w.var? P name=some #[.iface u v]):
  RelC w noM (.rp [.ifc]) (.pointer (some ⟨g,0,none⟩))∧∃cs t fr,w.heap[g]? =some (.cells cs t fr)∧cs.size= [CV.ifc].length∧noNamL (fun _=>false) [CV.ifc]=true:=by
 have hh:∃t fr,w.heap[g]? =some (.cells #[.iface u v] t fr):=by
  unfold World.var? at h;rw[hg]at h;simp only[Option.bind_some]at h;split at h<;>simp only[Option.some.injEq,reduceCtorEq]at h;rename_i cs t fr hc;subst h;exact⟨t,fr,hc⟩
 obtain⟨t,fr,hh⟩:=hh;refine⟨?_,_,t,fr,hh,rfl,rfl⟩;unfold RelC;refine⟨_,[.iface u v],rfl,heap_lt hh,(fun h=>h),RelL.cons ⟨u,v,rfl⟩ RelL.nil,fun j u' hj=> ?_⟩
 have hj0:j=0:=by
  have:=(List.getElem?_eq_some_iff.1 hj).1;simpa using this
 subst hj0;simp only[List.getElem?_cons_zero,Option.some.injEq]at hj;subst hj;rw[add_zero];simp[World.cell?,hh]
end WB
namespace Go.Proofs
open Go.Shelf
def Tryz.laysM173_ren:Go.Shelf.Ren:=⟨fun|173=>37|246=>78|283=>99|284=>100|285=>101|286=>102|129=>126|317=>125|318=>127|319=>128|320=>129|337=>147|338=>148|n=>n,fun|2=>2|3=>3|9=>9|4=>4|171=>125|0=>0|53=>59|37=>89|5=>5|173=>128|212=>146|51=>22|20=>20|213=>147|46=>148|232=>171|233=>172|n=>n,fun|17=>0|18=>5|19=>6|n=>n⟩
theorem Tryz.laysM173:Go.Proofs.LaysM.n173 Tryz.prog Tryz.laysM173_ren:={
 mixed:=by kernel_rfl
 f129:=Tryz.func126.trans (congrArg some (by kernel_rfl))
 f173:=Tryz.func37.trans (congrArg some (by kernel_rfl))
 f246:=Tryz.func78.trans (congrArg some (by kernel_rfl))
 f283:=Tryz.func99.trans (congrArg some (by kernel_rfl))
 f284:=Tryz.func100.trans (congrArg some (by kernel_rfl))
 f285:=Tryz.func101.trans (congrArg some (by kernel_rfl))
 f286:=Tryz.func102.trans (congrArg some (by kernel_rfl))
 f317:=Tryz.func125.trans (congrArg some (by kernel_rfl))
 f318:=Tryz.func127.trans (congrArg some (by kernel_rfl))
 f319:=Tryz.func128.trans (congrArg some (by kernel_rfl))
 f320:=Tryz.func129.trans (congrArg some (by kernel_rfl))
 f337:=Tryz.func147.trans (congrArg some (by kernel_rfl))
 f338:=Tryz.func148.trans (congrArg some (by kernel_rfl))
 t0:=Tryz.underlying0
 a0:=Tryz.isAgg0
 z0:=Tryz.sizeOf0
 v0:=Tryz.zeroValue0
 t2:=Tryz.underlying2
 a2:=Tryz.isAgg2
 z2:=Tryz.sizeOf2
 v2:=Tryz.zeroValue2
 t3:=Tryz.underlying3
 a3:=Tryz.isAgg3
 z3:=Tryz.sizeOf3
 v3:=Tryz.zeroValue3
 t4:=Tryz.underlying4
 a4:=Tryz.isAgg4
 z4:=Tryz.sizeOf4
 v4:=Tryz.zeroValue4
 t5:=Tryz.underlying5
 a5:=Tryz.isAgg5
 z5:=Tryz.sizeOf5
 v5:=Tryz.zeroValue5
 t9:=Tryz.underlying9
 a9:=Tryz.isAgg9
 z9:=Tryz.sizeOf9
 v9:=Tryz.zeroValue9
 t20:=Tryz.underlying20
 a20:=Tryz.isAgg20
 z20:=Tryz.sizeOf20
 v20:=Tryz.zeroValue20
 t37:=Tryz.underlying89
 a37:=Tryz.isAgg89
 z37:=Tryz.sizeOf89
 v37:=Tryz.zeroValue89
 t46:=Tryz.underlying148
 a46:=Tryz.isAgg148
 z46:=Tryz.sizeOf148
 v46:=Tryz.zeroValue148
 t51:=Tryz.underlying22
 a51:=Tryz.isAgg22
 z51:=Tryz.sizeOf22
 v51:=Tryz.zeroValue22
 t53:=Tryz.underlying59
 a53:=Tryz.isAgg59
 z53:=Tryz.sizeOf59
 v53:=Tryz.zeroValue59
 t171:=Tryz.underlying125
 a171:=Tryz.isAgg125
 z171:=Tryz.sizeOf125
 v171:=Tryz.zeroValue125
 t173:=Tryz.underlying128
 a173:=Tryz.isAgg128
 z173:=Tryz.sizeOf128
 v173:=Tryz.zeroValue128
 t212:=Tryz.underlying146
 a212:=Tryz.isAgg146
 z212:=Tryz.sizeOf146
 v212:=Tryz.zeroValue146
 t213:=Tryz.underlying147
 a213:=Tryz.isAgg147
 z213:=Tryz.sizeOf147
 t232:=Tryz.underlying171
 a232:=Tryz.isAgg171
 z232:=Tryz.sizeOf171
 v232:=Tryz.zeroValue171
 t233:=Tryz.underlying172
 a233:=Tryz.isAgg172
 z233:=Tryz.sizeOf172
 v233:=Tryz.zeroValue172
 g17:=by kernel_rfl
 g18:=by kernel_rfl
 g19:=by kernel_rfl
 i0:=by kernel_rfl
 i2:=by kernel_rfl
 i3:=by kernel_rfl
 i4:=by kernel_rfl
 i5:=by kernel_rfl
 i9:=by kernel_rfl
 i20:=by kernel_rfl
 i37:=by kernel_rfl
 i46:=by kernel_rfl
 i51:=by kernel_rfl
 i53:=by kernel_rfl
 i171:=by kernel_rfl
 i173:=by kernel_rfl
 i212:=by kernel_rfl
 i232:=by kernel_rfl
 i233:=by kernel_rfl
 m17:=by kernel_rfl
 m18:=by kernel_rfl
 m19:=by kernel_rfl}
open Go.RowKit Go.Sort Go.Lib in
theorem Tryz.strconv_FormatInt_10(n:Int)(h0: -9223372036854775808≤n)(h1:n≤9223372036854775807)(w:World)(htab:Lib.TabIs Tryz.prog w "internal/strconv.uint64pow10" .u64 Lib.pow10Tab):
  Calls Tryz.prog 37 #[.int .i64 n,.int .i64 10] w fun e w'=>e=.returned (.string ⟨(Lib.itoa n).toArray⟩)∧∃k os,w'=grow (w.drewN k) os:=Any.strconv_FormatInt_10 Tryz.laysM173 n h0 h1 w htab
def Tryz.lays219_ren:Go.Shelf.Ren:=⟨fun|219=>136|217=>150|225=>151|224=>152|267=>153|266=>160|314=>161|n=>n,fun|9=>9|3=>3|4=>4|5=>5|46=>148|146=>177|51=>22|n=>n,fun|1=>2|n=>n⟩
theorem Tryz.lays219:Go.Proofs.Lays.n219 Tryz.prog Tryz.lays219_ren:={
 mixed:=by kernel_rfl
 f217:=Tryz.func150.trans (congrArg some (by kernel_rfl))
 f219:=Tryz.func136.trans (congrArg some (by kernel_rfl))
 f224:=Tryz.func152.trans (congrArg some (by kernel_rfl))
 f225:=Tryz.func151.trans (congrArg some (by kernel_rfl))
 f266:=Tryz.func160.trans (congrArg some (by kernel_rfl))
 f267:=Tryz.func153.trans (congrArg some (by kernel_rfl))
 f314:=Tryz.func161.trans (congrArg some (by kernel_rfl))
 t3:=Tryz.underlying3
 a3:=Tryz.isAgg3
 z3:=Tryz.sizeOf3
 v3:=Tryz.zeroValue3
 t4:=Tryz.underlying4
 a4:=Tryz.isAgg4
 z4:=Tryz.sizeOf4
 v4:=Tryz.zeroValue4
 t5:=Tryz.underlying5
 a5:=Tryz.isAgg5
 z5:=Tryz.sizeOf5
 v5:=Tryz.zeroValue5
 t9:=Tryz.underlying9
 a9:=Tryz.isAgg9
 z9:=Tryz.sizeOf9
 v9:=Tryz.zeroValue9
 t46:=Tryz.underlying148
 a46:=Tryz.isAgg148
 z46:=Tryz.sizeOf148
 v46:=Tryz.zeroValue148
 t51:=Tryz.underlying22
 a51:=Tryz.isAgg22
 z51:=Tryz.sizeOf22
 v51:=Tryz.zeroValue22
 t146:=Tryz.underlying177
 a146:=Tryz.isAgg177
 z146:=Tryz.sizeOf177
 v146:=Tryz.zeroValue177
 g1:=by kernel_rfl}
open Go.RowKit Go.Lib in
theorem Tryz.stringslite_Index_one(s:ByteArray)(c:UInt8)(w:World):
  Calls Tryz.prog 136 #[.string s,.string ⟨#[c]⟩] w fun e w'=>e=.returned (.int .i64 (Lib.indexByte s.data.toList c))∧w'=w:=Any.stringslite_Index_one Tryz.lays219 s c w
def Tryz.lays283_ren:Go.Shelf.Ren:=⟨fun|283=>99|n=>n,fun|3=>3|9=>9|4=>4|n=>n,fun|n=>n⟩
theorem Tryz.lays283:Go.Proofs.Lays.n283 Tryz.prog Tryz.lays283_ren:={
 mixed:=by kernel_rfl
 f283:=Tryz.func99.trans (congrArg some (by kernel_rfl))
 t3:=Tryz.underlying3
 a3:=Tryz.isAgg3
 z3:=Tryz.sizeOf3
 v3:=Tryz.zeroValue3
 t4:=Tryz.underlying4
 a4:=Tryz.isAgg4
 z4:=Tryz.sizeOf4
 v4:=Tryz.zeroValue4
 t9:=Tryz.underlying9
 a9:=Tryz.isAgg9
 z9:=Tryz.sizeOf9
 v9:=Tryz.zeroValue9}
open Go.Lib in
theorem Tryz.internal_strconv_small(i:Nat)(h:i<100)(w:World):
  Calls Tryz.prog 99 #[.int .i64 i] w fun e w'=>e=.returned (.string ⟨(Lib.decDigits i).toArray⟩)∧w'=w:=Any.internal_strconv_small Tryz.lays283 i h w
def Tryz.laysM284_ren:Go.Shelf.Ren:=⟨fun|284=>100|129=>126|317=>125|318=>127|n=>n,fun|53=>59|3=>3|212=>146|0=>0|4=>4|46=>148|5=>5|9=>9|n=>n,fun|17=>0|n=>n⟩
theorem Tryz.laysM284:Go.Proofs.LaysM.n284 Tryz.prog Tryz.laysM284_ren:={
 mixed:=by kernel_rfl
 f129:=Tryz.func126.trans (congrArg some (by kernel_rfl))
 f284:=Tryz.func100.trans (congrArg some (by kernel_rfl))
 f317:=Tryz.func125.trans (congrArg some (by kernel_rfl))
 f318:=Tryz.func127.trans (congrArg some (by kernel_rfl))
 t0:=Tryz.underlying0
 a0:=Tryz.isAgg0
 z0:=Tryz.sizeOf0
 v0:=Tryz.zeroValue0
 t3:=Tryz.underlying3
 a3:=Tryz.isAgg3
 z3:=Tryz.sizeOf3
 v3:=Tryz.zeroValue3
 t4:=Tryz.underlying4
 a4:=Tryz.isAgg4
 z4:=Tryz.sizeOf4
 v4:=Tryz.zeroValue4
 t5:=Tryz.underlying5
 a5:=Tryz.isAgg5
 z5:=Tryz.sizeOf5
 v5:=Tryz.zeroValue5
 t9:=Tryz.underlying9
 a9:=Tryz.isAgg9
 z9:=Tryz.sizeOf9
 v9:=Tryz.zeroValue9
 t46:=Tryz.underlying148
 a46:=Tryz.isAgg148
 z46:=Tryz.sizeOf148
 v46:=Tryz.zeroValue148
 t53:=Tryz.underlying59
 a53:=Tryz.isAgg59
 z53:=Tryz.sizeOf59
 v53:=Tryz.zeroValue59
 t212:=Tryz.underlying146
 a212:=Tryz.isAgg146
 z212:=Tryz.sizeOf146
 v212:=Tryz.zeroValue146
 g17:=by kernel_rfl
 i0:=by kernel_rfl
 i3:=by kernel_rfl
 i4:=by kernel_rfl
 i5:=by kernel_rfl
 i9:=by kernel_rfl
 i46:=by kernel_rfl
 i53:=by kernel_rfl
 i212:=by kernel_rfl
 m17:=by kernel_rfl}
open Go.Lib in
theorem Tryz.internal_strconv_numDigits(u:Nat)(h1:1≤u)(h2:u<18446744073709551616)(w:World)(htab:Lib.TabIs Tryz.prog w "internal/strconv.uint64pow10" .u64 Lib.pow10Tab):
  Calls Tryz.prog 100 #[.int .u64 u] w fun e w'=>e=.returned (.int .i64 (Lib.nDigits u))∧w'=w:=Any.internal_strconv_numDigits Tryz.laysM284 u h1 h2 w htab
def Tryz.lays285_ren:Go.Shelf.Ren:=⟨fun|285=>101|n=>n,fun|37=>89|53=>59|3=>3|4=>4|51=>22|9=>9|5=>5|0=>0|n=>n,fun|n=>n⟩
theorem Tryz.lays285:Go.Proofs.Lays.n285 Tryz.prog Tryz.lays285_ren:={
 mixed:=by kernel_rfl
 f285:=Tryz.func101.trans (congrArg some (by kernel_rfl))
 t0:=Tryz.underlying0
 a0:=Tryz.isAgg0
 z0:=Tryz.sizeOf0
 v0:=Tryz.zeroValue0
 t3:=Tryz.underlying3
 a3:=Tryz.isAgg3
 z3:=Tryz.sizeOf3
 v3:=Tryz.zeroValue3
 t4:=Tryz.underlying4
 a4:=Tryz.isAgg4
 z4:=Tryz.sizeOf4
 v4:=Tryz.zeroValue4
 t5:=Tryz.underlying5
 a5:=Tryz.isAgg5
 z5:=Tryz.sizeOf5
 v5:=Tryz.zeroValue5
 t9:=Tryz.underlying9
 a9:=Tryz.isAgg9
 z9:=Tryz.sizeOf9
 v9:=Tryz.zeroValue9
 t37:=Tryz.underlying89
 a37:=Tryz.isAgg89
 z37:=Tryz.sizeOf89
 v37:=Tryz.zeroValue89
 t51:=Tryz.underlying22
 a51:=Tryz.isAgg22
 z51:=Tryz.sizeOf22
 v51:=Tryz.zeroValue22
 t53:=Tryz.underlying59
 a53:=Tryz.isAgg59
 z53:=Tryz.sizeOf59
 v53:=Tryz.zeroValue59}
open Go.RowKit Go.Sort Go.Lib in
theorem Tryz.internal_strconv_formatBase10(blk off cap:Nat)(u:Nat)(d:Array UInt8)(w:World)(hH:Holds (fun(b:UInt8)=>Value.int .u8 (b.toNat:Int)) w blk off d)(hu:u<10^d.size)(hu64:u<18446744073709551616)(hsz:d.size<4611686018427387904):
  Calls Tryz.prog 101 #[.slice (some ⟨blk,off,none⟩) d.size cap,.int .u64 u] w fun e w'=>
   e=.returned (.tuple #[])∧∃(n v':Nat) (dk:Array UInt8),w'=(putRow (fun(b:UInt8)=>Value.int .u8 (b.toNat:Int)) w blk off dk).drewN n∧FmtInv d.size u 0 v' dk:=Any.internal_strconv_formatBase10 Tryz.lays285 blk off cap u d w hH hu hu64 hsz
def Tryz.lays156_ren:Go.Shelf.Ren:=⟨fun|156=>38|165=>79|166=>80|169=>81|240=>105|241=>106|276=>131|277=>132|n=>n,fun|31=>63|9=>9|3=>3|4=>4|0=>0|20=>20|72=>91|76=>95|70=>88|37=>89|75=>94|127=>132|164=>151|5=>5|80=>97|n=>n,fun|n=>n⟩
theorem Tryz.lays156:Go.Proofs.Lays.n156 Tryz.prog Tryz.lays156_ren:={
 mixed:=by kernel_rfl
 f156:=Tryz.func38.trans (congrArg some (by kernel_rfl))
 f165:=Tryz.func79.trans (congrArg some (by kernel_rfl))
 f166:=Tryz.func80.trans (congrArg some (by kernel_rfl))
 f169:=Tryz.func81.trans (congrArg some (by kernel_rfl))
 f240:=Tryz.func105.trans (congrArg some (by kernel_rfl))
 f241:=Tryz.func106.trans (congrArg some (by kernel_rfl))
 f276:=Tryz.func131.trans (congrArg some (by kernel_rfl))
 f277:=Tryz.func132.trans (congrArg some (by kernel_rfl))
 t0:=Tryz.underlying0
 a0:=Tryz.isAgg0
 z0:=Tryz.sizeOf0
 v0:=Tryz.zeroValue0
 t3:=Tryz.underlying3
 a3:=Tryz.isAgg3
 z3:=Tryz.sizeOf3
 v3:=Tryz.zeroValue3
 t4:=Tryz.underlying4
 a4:=Tryz.isAgg4
 z4:=Tryz.sizeOf4
 v4:=Tryz.zeroValue4
 t9:=Tryz.underlying9
 a9:=Tryz.isAgg9
 z9:=Tryz.sizeOf9
 v9:=Tryz.zeroValue9
 t20:=Tryz.underlying20
 a20:=Tryz.isAgg20
 z20:=Tryz.sizeOf20
 v20:=Tryz.zeroValue20
 t31:=Tryz.underlying63
 a31:=Tryz.isAgg63
 z31:=Tryz.sizeOf63
 v31:=Tryz.zeroValue63
 t37:=Tryz.underlying89
 a37:=Tryz.isAgg89
 z37:=Tryz.sizeOf89
 v37:=Tryz.zeroValue89
 t70:=Tryz.underlying88
 a70:=Tryz.isAgg88
 z70:=Tryz.sizeOf88
 v70:=Tryz.zeroValue88
 t72:=Tryz.underlying91
 a72:=Tryz.isAgg91
 z72:=Tryz.sizeOf91
 v72:=Tryz.zeroValue91
 t75:=Tryz.underlying94
 a75:=Tryz.isAgg94
 z75:=Tryz.sizeOf94
 v75:=Tryz.zeroValue94
 t76:=Tryz.underlying95
 a76:=Tryz.isAgg95
 z76:=Tryz.sizeOf95
 v76:=Tryz.zeroValue95
 t127:=Tryz.underlying132
 a127:=Tryz.isAgg132
 z127:=Tryz.sizeOf132
 v127:=Tryz.zeroValue132
 t164:=Tryz.underlying151
 a164:=Tryz.isAgg151
 z164:=Tryz.sizeOf151
 v164:=Tryz.zeroValue151}
theorem Tryz.Builder_Extra_156:Builder.Extra Tryz.prog Tryz.lays156_ren:={
 sizeBuilder:=by kernel_rfl
 liesBuilder:=by kernel_rfl
 t5:=Tryz.underlying5
 a5:=Tryz.isAgg5
 z5:=Tryz.sizeOf5
 v5:=Tryz.zeroValue5
 infoByte:=by kernel_rfl
 cellsByte:=by kernel_rfl
 sizeByte:=by kernel_rfl
 neB5:=by decide}
open Go.RowKit in
theorem Tryz.strings_Join(bk o c:Nat)(xs:List ByteArray)(sep:ByteArray)(w:World)(hcells:∀(j:Nat) x,xs[j]? =some x→w.cell? ⟨bk,o+j,none⟩=some (.string x))(hbk:bk<w.heap.size)(hN:xs.length≤140737488355328)(hcap:xs.length≤c)(hlen:(Lib.join (xs.map (·.data.toList)) sep.data.toList).length≤140737488355328):
  Calls Tryz.prog 38 #[.slice (some ⟨bk,o,none⟩) xs.length c,.string sep] w fun e w'=>e=.returned (.string ⟨(Lib.join (xs.map (·.data.toList)) sep.data.toList).toArray⟩)∧Below w.heap.size w w':=Any.strings_Join Tryz.lays156 Tryz.Builder_Extra_156 bk o c xs sep w hcells hbk hN hcap hlen
open Go.RowKit in
theorem Tryz.strings_Join_none(a:Option Addr)(c:Nat)(sep:ByteArray)(w:World):
  Calls Tryz.prog 38 #[.slice a 0 c,.string sep] w fun e w'=>e=.returned (.string ⟨#[]⟩)∧w'=w:=Any.strings_Join_none Tryz.lays156 Tryz.Builder_Extra_156 a c sep w
def Tryz.laysPu14_ren:Go.Shelf.Ren:=⟨fun|14=>84|16=>110|17=>111|19=>137|20=>138|21=>139|22=>140|23=>141|24=>142|25=>154|27=>156|26=>155|28=>162|29=>78|30=>99|31=>100|32=>101|33=>102|35=>126|34=>125|36=>127|37=>128|38=>129|39=>147|40=>148|n=>n,fun|9=>9|3=>3|22=>59|24=>94|25=>100|4=>4|34=>158|5=>5|36=>148|37=>89|0=>0|39=>160|21=>21|44=>168|47=>132|50=>181|48=>179|2=>2|52=>125|55=>128|59=>146|60=>22|20=>20|61=>147|65=>171|66=>172|67=>97|n=>n,fun|0=>3|1=>4|2=>0|3=>5|4=>6|n=>n⟩
theorem Tryz.laysPu14:Go.Proofs.LaysPu.n14 Tryz.prog Tryz.laysPu14_ren:={
 mixed:=by kernel_rfl
 f14:=Tryz.func84.trans (congrArg some (by kernel_rfl))
 f16:=Tryz.func110.trans (congrArg some (by kernel_rfl))
 f17:=Tryz.func111.trans (congrArg some (by kernel_rfl))
 f19:=Tryz.func137.trans (congrArg some (by kernel_rfl))
 f20:=Tryz.func138.trans (congrArg some (by kernel_rfl))
 f21:=Tryz.func139.trans (congrArg some (by kernel_rfl))
 f22:=Tryz.func140.trans (congrArg some (by kernel_rfl))
 f23:=Tryz.func141.trans (congrArg some (by kernel_rfl))
 f24:=Tryz.func142.trans (congrArg some (by kernel_rfl))
 f25:=Tryz.func154.trans (congrArg some (by kernel_rfl))
 f26:=Tryz.func155.trans (congrArg some (by kernel_rfl))
 f27:=Tryz.func156.trans (congrArg some (by kernel_rfl))
 f28:=Tryz.func162.trans (congrArg some (by kernel_rfl))
 f29:=Tryz.func78.trans (congrArg some (by kernel_rfl))
 f30:=Tryz.func99.trans (congrArg some (by kernel_rfl))
 f31:=Tryz.func100.trans (congrArg some (by kernel_rfl))
 f32:=Tryz.func101.trans (congrArg some (by kernel_rfl))
 f33:=Tryz.func102.trans (congrArg some (by kernel_rfl))
 f34:=Tryz.func125.trans (congrArg some (by kernel_rfl))
 f35:=Tryz.func126.trans (congrArg some (by kernel_rfl))
 f36:=Tryz.func127.trans (congrArg some (by kernel_rfl))
 f37:=Tryz.func128.trans (congrArg some (by kernel_rfl))
 f38:=Tryz.func129.trans (congrArg some (by kernel_rfl))
 f39:=Tryz.func147.trans (congrArg some (by kernel_rfl))
 f40:=Tryz.func148.trans (congrArg some (by kernel_rfl))
 t0:=Tryz.underlying0
 a0:=Tryz.isAgg0
 z0:=Tryz.sizeOf0
 v0:=Tryz.zeroValue0
 i0:=by kernel_rfl
 t2:=Tryz.underlying2
 a2:=Tryz.isAgg2
 z2:=Tryz.sizeOf2
 v2:=Tryz.zeroValue2
 i2:=by kernel_rfl
 t3:=Tryz.underlying3
 a3:=Tryz.isAgg3
 z3:=Tryz.sizeOf3
 v3:=Tryz.zeroValue3
 i3:=by kernel_rfl
 t4:=Tryz.underlying4
 a4:=Tryz.isAgg4
 z4:=Tryz.sizeOf4
 v4:=Tryz.zeroValue4
 i4:=by kernel_rfl
 t5:=Tryz.underlying5
 a5:=Tryz.isAgg5
 z5:=Tryz.sizeOf5
 v5:=Tryz.zeroValue5
 i5:=by kernel_rfl
 t9:=Tryz.underlying9
 a9:=Tryz.isAgg9
 z9:=Tryz.sizeOf9
 v9:=Tryz.zeroValue9
 i9:=by kernel_rfl
 t20:=Tryz.underlying20
 a20:=Tryz.isAgg20
 z20:=Tryz.sizeOf20
 v20:=Tryz.zeroValue20
 i20:=by kernel_rfl
 t21:=Tryz.underlying21
 a21:=Tryz.isAgg21
 z21:=Tryz.sizeOf21
 v21:=Tryz.zeroValue21
 i21:=by kernel_rfl
 t22:=Tryz.underlying59
 a22:=Tryz.isAgg59
 z22:=Tryz.sizeOf59
 v22:=Tryz.zeroValue59
 i22:=by kernel_rfl
 t24:=Tryz.underlying94
 a24:=Tryz.isAgg94
 z24:=Tryz.sizeOf94
 v24:=Tryz.zeroValue94
 i24:=by kernel_rfl
 t25:=Tryz.underlying100
 a25:=Tryz.isAgg100
 z25:=Tryz.sizeOf100
 v25:=Tryz.zeroValue100
 i25:=by kernel_rfl
 t34:=Tryz.underlying158
 a34:=Tryz.isAgg158
 z34:=Tryz.sizeOf158
 v34:=Tryz.zeroValue158
 i34:=by kernel_rfl
 c34:=by kernel_rfl
 t36:=Tryz.underlying148
 a36:=Tryz.isAgg148
 z36:=Tryz.sizeOf148
 v36:=Tryz.zeroValue148
 i36:=by kernel_rfl
 t37:=Tryz.underlying89
 a37:=Tryz.isAgg89
 z37:=Tryz.sizeOf89
 v37:=Tryz.zeroValue89
 i37:=by kernel_rfl
 t39:=Tryz.underlying160
 a39:=Tryz.isAgg160
 z39:=Tryz.sizeOf160
 v39:=Tryz.zeroValue160
 i39:=by kernel_rfl
 t44:=Tryz.underlying168
 a44:=Tryz.isAgg168
 z44:=Tryz.sizeOf168
 v44:=Tryz.zeroValue168
 i44:=by kernel_rfl
 t47:=Tryz.underlying132
 a47:=Tryz.isAgg132
 z47:=Tryz.sizeOf132
 v47:=Tryz.zeroValue132
 i47:=by kernel_rfl
 t48:=Tryz.underlying179
 a48:=Tryz.isAgg179
 z48:=Tryz.sizeOf179
 v48:=Tryz.zeroValue179
 i48:=by kernel_rfl
 t50:=Tryz.underlying181
 a50:=Tryz.isAgg181
 z50:=Tryz.sizeOf181
 v50:=Tryz.zeroValue181
 i50:=by kernel_rfl
 t52:=Tryz.underlying125
 a52:=Tryz.isAgg125
 z52:=Tryz.sizeOf125
 v52:=Tryz.zeroValue125
 i52:=by kernel_rfl
 t55:=Tryz.underlying128
 a55:=Tryz.isAgg128
 z55:=Tryz.sizeOf128
 v55:=Tryz.zeroValue128
 i55:=by kernel_rfl
 t59:=Tryz.underlying146
 a59:=Tryz.isAgg146
 z59:=Tryz.sizeOf146
 v59:=Tryz.zeroValue146
 i59:=by kernel_rfl
 t60:=Tryz.underlying22
 a60:=Tryz.isAgg22
 z60:=Tryz.sizeOf22
 v60:=Tryz.zeroValue22
 i60:=by kernel_rfl
 t61:=Tryz.underlying147
 a61:=Tryz.isAgg147
 z61:=Tryz.sizeOf147
 t65:=Tryz.underlying171
 a65:=Tryz.isAgg171
 z65:=Tryz.sizeOf171
 v65:=Tryz.zeroValue171
 i65:=by kernel_rfl
 t66:=Tryz.underlying172
 a66:=Tryz.isAgg172
 z66:=Tryz.sizeOf172
 v66:=Tryz.zeroValue172
 i66:=by kernel_rfl
 t67:=Tryz.underlying97
 a67:=Tryz.isAgg97
 z67:=Tryz.sizeOf97
 v67:=Tryz.zeroValue97
 i67:=by kernel_rfl
 g0:=by kernel_rfl
 m0:=by kernel_rfl
 g1:=by kernel_rfl
 m1:=by kernel_rfl
 g2:=by kernel_rfl
 m2:=by kernel_rfl
 g3:=by kernel_rfl
 m3:=by kernel_rfl
 g4:=by kernel_rfl
 m4:=by kernel_rfl}
open Go.RowKit in
theorem Tryz.strconv_ParseUint_10_at64_ok(s:ByteArray)(hmax:s.size≤9223372036854775806)(u:Nat)(h:Lib.parseUintB 64 s.data.toList=.ok u)(w:World):
  Calls Tryz.prog 84 #[.string s,.int .i64 10,.int .i64 64] w fun e w'=>e=.returned (.tuple #[.int .u64 u,.nilIface])∧(w'=w∨w'=Lib.bytesWorld w 5 s):=Any.strconv_ParseUint_10_at64_ok Tryz.laysPu14 s hmax u h w
open Go.RowKit in
theorem Tryz.strconv_ParseUint_10_at64_syntax(s:ByteArray)(hlim:s.size≤281474976710656)(h:Lib.parseUintB 64 s.data.toList=Lib.NumEnd.syntax)(ev:Value)(w:World)(hv:w.cell? ⟨3,0,none⟩=some ev)(hev:ev=.nilIface∨∃te pe,ev=.iface te pe):
  Calls Tryz.prog 84 #[.string s,.int .i64 10,.int .i64 64] w fun e w'=>∃N,e=.returned (.tuple #[.int .u64 0,.iface 160 (.pointer (some ⟨N,0,none⟩))])∧w.heap.size≤N∧w'.heap[N]? =some (.cells #[.string ⟨#[80,97,114,115,101,85,105,110,116]⟩,.string s,ev] 168 (0,0))∧Below w.heap.size w w':=Any.strconv_ParseUint_10_at64_syntax Tryz.laysPu14 s hlim h ev w hv hev
open Go.RowKit in
theorem Tryz.strconv_ParseUint_10_at64_range(s:ByteArray)(hlim:s.size≤281474976710656)(h:Lib.parseUintB 64 s.data.toList=.range)(ev:Value)(w:World)(hv:w.cell? ⟨4,0,none⟩=some ev)(hev:ev=.nilIface∨∃te pe,ev=.iface te pe):
  Calls Tryz.prog 84 #[.string s,.int .i64 10,.int .i64 64] w fun e w'=>∃N,e=.returned (.tuple #[.int .u64 18446744073709551615,.iface 160 (.pointer (some ⟨N,0,none⟩))])∧w.heap.size≤N∧w'.heap[N]? =some (.cells #[.string ⟨#[80,97,114,115,101,85,105,110,116]⟩,.string s,ev] 168 (0,0))∧Below w.heap.size w w':=Any.strconv_ParseUint_10_at64_range Tryz.laysPu14 s hlim h ev w hv hev
def Tryz.laysC174_ren:Go.Shelf.Ren:=⟨fun|174=>88|247=>113|245=>111|287=>110|279=>139|280=>140|281=>141|282=>142|321=>137|322=>138|316=>154|171=>156|205=>155|243=>162|246=>78|283=>99|284=>100|285=>101|286=>102|129=>126|317=>125|318=>127|319=>128|320=>129|337=>147|338=>148|n=>n,fun|9=>9|3=>3|2=>2|75=>94|85=>107|4=>4|167=>158|5=>5|53=>59|175=>100|46=>148|168=>160|37=>89|0=>0|210=>168|21=>21|127=>132|145=>181|143=>179|171=>125|173=>128|212=>146|51=>22|20=>20|213=>147|232=>171|233=>172|80=>97|n=>n,fun|15=>3|16=>4|17=>0|18=>5|19=>6|n=>n⟩
theorem Tryz.laysC174:Go.Proofs.LaysC.n174 Tryz.prog Tryz.laysC174_ren:={
 mixed:=by kernel_rfl
 f129:=Tryz.func126.trans (congrArg some (by kernel_rfl))
 f171:=Tryz.func156.trans (congrArg some (by kernel_rfl))
 f174:=Tryz.func88.trans (congrArg some (by kernel_rfl))
 f205:=Tryz.func155.trans (congrArg some (by kernel_rfl))
 f243:=Tryz.func162.trans (congrArg some (by kernel_rfl))
 f245:=Tryz.func111.trans (congrArg some (by kernel_rfl))
 f246:=Tryz.func78.trans (congrArg some (by kernel_rfl))
 f247:=Tryz.func113.trans (congrArg some (by kernel_rfl))
 f279:=Tryz.func139.trans (congrArg some (by kernel_rfl))
 f280:=Tryz.func140.trans (congrArg some (by kernel_rfl))
 f281:=Tryz.func141.trans (congrArg some (by kernel_rfl))
 f282:=Tryz.func142.trans (congrArg some (by kernel_rfl))
 f283:=Tryz.func99.trans (congrArg some (by kernel_rfl))
 f284:=Tryz.func100.trans (congrArg some (by kernel_rfl))
 f285:=Tryz.func101.trans (congrArg some (by kernel_rfl))
 f286:=Tryz.func102.trans (congrArg some (by kernel_rfl))
 f287:=Tryz.func110.trans (congrArg some (by kernel_rfl))
 f316:=Tryz.func154.trans (congrArg some (by kernel_rfl))
 f317:=Tryz.func125.trans (congrArg some (by kernel_rfl))
 f318:=Tryz.func127.trans (congrArg some (by kernel_rfl))
 f319:=Tryz.func128.trans (congrArg some (by kernel_rfl))
 f320:=Tryz.func129.trans (congrArg some (by kernel_rfl))
 f321:=Tryz.func137.trans (congrArg some (by kernel_rfl))
 f322:=Tryz.func138.trans (congrArg some (by kernel_rfl))
 f337:=Tryz.func147.trans (congrArg some (by kernel_rfl))
 f338:=Tryz.func148.trans (congrArg some (by kernel_rfl))
 t0:=Tryz.underlying0
 a0:=Tryz.isAgg0
 z0:=Tryz.sizeOf0
 v0:=Tryz.zeroValue0
 t2:=Tryz.underlying2
 a2:=Tryz.isAgg2
 z2:=Tryz.sizeOf2
 v2:=Tryz.zeroValue2
 t3:=Tryz.underlying3
 a3:=Tryz.isAgg3
 z3:=Tryz.sizeOf3
 v3:=Tryz.zeroValue3
 t4:=Tryz.underlying4
 a4:=Tryz.isAgg4
 z4:=Tryz.sizeOf4
 v4:=Tryz.zeroValue4
 t5:=Tryz.underlying5
 a5:=Tryz.isAgg5
 z5:=Tryz.sizeOf5
 v5:=Tryz.zeroValue5
 t9:=Tryz.underlying9
 a9:=Tryz.isAgg9
 z9:=Tryz.sizeOf9
 v9:=Tryz.zeroValue9
 t20:=Tryz.underlying20
 a20:=Tryz.isAgg20
 z20:=Tryz.sizeOf20
 v20:=Tryz.zeroValue20
 t21:=Tryz.underlying21
 a21:=Tryz.isAgg21
 z21:=Tryz.sizeOf21
 v21:=Tryz.zeroValue21
 t37:=Tryz.underlying89
 a37:=Tryz.isAgg89
 z37:=Tryz.sizeOf89
 v37:=Tryz.zeroValue89
 t46:=Tryz.underlying148
 a46:=Tryz.isAgg148
 z46:=Tryz.sizeOf148
 v46:=Tryz.zeroValue148
 t51:=Tryz.underlying22
 a51:=Tryz.isAgg22
 z51:=Tryz.sizeOf22
 v51:=Tryz.zeroValue22
 t53:=Tryz.underlying59
 a53:=Tryz.isAgg59
 z53:=Tryz.sizeOf59
 v53:=Tryz.zeroValue59
 t75:=Tryz.underlying94
 a75:=Tryz.isAgg94
 z75:=Tryz.sizeOf94
 v75:=Tryz.zeroValue94
 t85:=Tryz.underlying107
 a85:=Tryz.isAgg107
 z85:=Tryz.sizeOf107
 v85:=Tryz.zeroValue107
 t127:=Tryz.underlying132
 a127:=Tryz.isAgg132
 z127:=Tryz.sizeOf132
 v127:=Tryz.zeroValue132
 t143:=Tryz.underlying179
 a143:=Tryz.isAgg179
 z143:=Tryz.sizeOf179
 v143:=Tryz.zeroValue179
 t145:=Tryz.underlying181
 a145:=Tryz.isAgg181
 z145:=Tryz.sizeOf181
 v145:=Tryz.zeroValue181
 t167:=Tryz.underlying158
 a167:=Tryz.isAgg158
 z167:=Tryz.sizeOf158
 v167:=Tryz.zeroValue158
 t168:=Tryz.underlying160
 a168:=Tryz.isAgg160
 z168:=Tryz.sizeOf160
 v168:=Tryz.zeroValue160
 t171:=Tryz.underlying125
 a171:=Tryz.isAgg125
 z171:=Tryz.sizeOf125
 v171:=Tryz.zeroValue125
 t173:=Tryz.underlying128
 a173:=Tryz.isAgg128
 z173:=Tryz.sizeOf128
 v173:=Tryz.zeroValue128
 t175:=Tryz.underlying100
 a175:=Tryz.isAgg100
 z175:=Tryz.sizeOf100
 v175:=Tryz.zeroValue100
 t210:=Tryz.underlying168
 a210:=Tryz.isAgg168
 z210:=Tryz.sizeOf168
 v210:=Tryz.zeroValue168
 t212:=Tryz.underlying146
 a212:=Tryz.isAgg146
 z212:=Tryz.sizeOf146
 v212:=Tryz.zeroValue146
 t213:=Tryz.underlying147
 a213:=Tryz.isAgg147
 z213:=Tryz.sizeOf147
 t232:=Tryz.underlying171
 a232:=Tryz.isAgg171
 z232:=Tryz.sizeOf171
 v232:=Tryz.zeroValue171
 t233:=Tryz.underlying172
 a233:=Tryz.isAgg172
 z233:=Tryz.sizeOf172
 v233:=Tryz.zeroValue172
 g15:=by kernel_rfl
 g16:=by kernel_rfl
 g17:=by kernel_rfl
 g18:=by kernel_rfl
 g19:=by kernel_rfl
 t80:=Tryz.underlying97
 a80:=Tryz.isAgg97
 z80:=Tryz.sizeOf97
 v80:=Tryz.zeroValue97
 i0:=by kernel_rfl
 i2:=by kernel_rfl
 i3:=by kernel_rfl
 i4:=by kernel_rfl
 i5:=by kernel_rfl
 i9:=by kernel_rfl
 i20:=by kernel_rfl
 i21:=by kernel_rfl
 i37:=by kernel_rfl
 i46:=by kernel_rfl
 i51:=by kernel_rfl
 i53:=by kernel_rfl
 i75:=by kernel_rfl
 i80:=by kernel_rfl
 i85:=by kernel_rfl
 i127:=by kernel_rfl
 i143:=by kernel_rfl
 i145:=by kernel_rfl
 i167:=by kernel_rfl
 i168:=by kernel_rfl
 i171:=by kernel_rfl
 i173:=by kernel_rfl
 i175:=by kernel_rfl
 i210:=by kernel_rfl
 i212:=by kernel_rfl
 i232:=by kernel_rfl
 i233:=by kernel_rfl
 m15:=by kernel_rfl
 m16:=by kernel_rfl
 m17:=by kernel_rfl
 m18:=by kernel_rfl
 m19:=by kernel_rfl
 c0:=by kernel_rfl
 c2:=by kernel_rfl
 c3:=by kernel_rfl
 c4:=by kernel_rfl
 c5:=by kernel_rfl
 c9:=by kernel_rfl
 c20:=by kernel_rfl
 c21:=by kernel_rfl
 c37:=by kernel_rfl
 c46:=by kernel_rfl
 c51:=by kernel_rfl
 c53:=by kernel_rfl
 c75:=by kernel_rfl
 c80:=by kernel_rfl
 c85:=by kernel_rfl
 c127:=by kernel_rfl
 c143:=by kernel_rfl
 c145:=by kernel_rfl
 c167:=by kernel_rfl
 c168:=by kernel_rfl
 c171:=by kernel_rfl
 c173:=by kernel_rfl
 c175:=by kernel_rfl
 c210:=by kernel_rfl
 c212:=by kernel_rfl
 c213:=by kernel_rfl
 c232:=by kernel_rfl
 c233:=by kernel_rfl}
open Go.RowKit in
theorem Tryz.strconv_ParseInt_10_at64_ok(s:ByteArray)(hmax:s.size≤9223372036854775806)(v:Int)(h:Lib.parseIntB 64 s.data.toList=.ok v)(w:World):
  Calls Tryz.prog 88 #[.string s,.int .i64 10,.int .i64 64] w fun e w'=>e=.returned (.tuple #[.int .i64 v,.nilIface])∧(w'=w∨∃t,w'=Lib.bytesWorld w 5 t):=Any.strconv_ParseInt_10_at64_ok Tryz.laysC174 s hmax v h w
open Go.RowKit in
theorem Tryz.strconv_ParseInt_10_at64_syntax(s:ByteArray)(hlim:s.size≤281474976710656)(h:Lib.parseIntB 64 s.data.toList=Lib.NumEnd.syntax)(ev:Value)(w:World)(hv:w.cell? ⟨3,0,none⟩=some ev)(hev:ev=.nilIface∨∃te pe,ev=.iface te pe):
  Calls Tryz.prog 88 #[.string s,.int .i64 10,.int .i64 64] w fun e w'=>∃N,e=.returned (.tuple #[.int .i64 (0),.iface 160 (.pointer (some ⟨N,0,none⟩))])∧w.heap.size≤N∧w'.heap[N]? =some (.cells #[.string ⟨#[80,97,114,115,101,73,110,116]⟩,.string s,ev] 168 (0,0))∧Below w.heap.size w w':=Any.strconv_ParseInt_10_at64_syntax Tryz.laysC174 s hlim h ev w hv hev
open Go.RowKit in
theorem Tryz.strconv_ParseInt_10_at64_range(s:ByteArray)(hlim:s.size≤281474976710656)(h:Lib.parseIntB 64 s.data.toList=.range)(ev:Value)(w:World)(hv:w.cell? ⟨4,0,none⟩=some ev)(hev:ev=.nilIface∨∃te pe,ev=.iface te pe):
  Calls Tryz.prog 88 #[.string s,.int .i64 10,.int .i64 64] w fun e w'=>∃N,e=.returned (.tuple #[.int .i64 (Lib.intSat 64 s.data.toList),.iface 160 (.pointer (some ⟨N,0,none⟩))])∧w.heap.size≤N∧w'.heap[N]? =some (.cells #[.string ⟨#[80,97,114,115,101,73,110,116]⟩,.string s,ev] 168 (0,0))∧Below w.heap.size w w':=Any.strconv_ParseInt_10_at64_range Tryz.laysC174 s hlim h ev w hv hev
def Tryz.lays138_ren:Go.Shelf.Ren:=⟨fun|138=>108|195=>133|218=>135|143=>109|219=>136|217=>150|225=>151|224=>152|267=>153|266=>160|314=>161|n=>n,fun|9=>9|3=>3|4=>4|5=>5|0=>0|46=>148|146=>177|51=>22|n=>n,fun|1=>2|n=>n⟩
theorem Tryz.lays138:Go.Proofs.Lays.n138 Tryz.prog Tryz.lays138_ren:={
 mixed:=by kernel_rfl
 f138:=Tryz.func108.trans (congrArg some (by kernel_rfl))
 f143:=Tryz.func109.trans (congrArg some (by kernel_rfl))
 f195:=Tryz.func133.trans (congrArg some (by kernel_rfl))
 f217:=Tryz.func150.trans (congrArg some (by kernel_rfl))
 f218:=Tryz.func135.trans (congrArg some (by kernel_rfl))
 f219:=Tryz.func136.trans (congrArg some (by kernel_rfl))
 f224:=Tryz.func152.trans (congrArg some (by kernel_rfl))
 f225:=Tryz.func151.trans (congrArg some (by kernel_rfl))
 f266:=Tryz.func160.trans (congrArg some (by kernel_rfl))
 f267:=Tryz.func153.trans (congrArg some (by kernel_rfl))
 f314:=Tryz.func161.trans (congrArg some (by kernel_rfl))
 t0:=Tryz.underlying0
 a0:=Tryz.isAgg0
 z0:=Tryz.sizeOf0
 v0:=Tryz.zeroValue0
 t3:=Tryz.underlying3
 a3:=Tryz.isAgg3
 z3:=Tryz.sizeOf3
 v3:=Tryz.zeroValue3
 t4:=Tryz.underlying4
 a4:=Tryz.isAgg4
 z4:=Tryz.sizeOf4
 v4:=Tryz.zeroValue4
 t5:=Tryz.underlying5
 a5:=Tryz.isAgg5
 z5:=Tryz.sizeOf5
 v5:=Tryz.zeroValue5
 t9:=Tryz.underlying9
 a9:=Tryz.isAgg9
 z9:=Tryz.sizeOf9
 v9:=Tryz.zeroValue9
 t46:=Tryz.underlying148
 a46:=Tryz.isAgg148
 z46:=Tryz.sizeOf148
 v46:=Tryz.zeroValue148
 t51:=Tryz.underlying22
 a51:=Tryz.isAgg22
 z51:=Tryz.sizeOf22
 v51:=Tryz.zeroValue22
 t146:=Tryz.underlying177
 a146:=Tryz.isAgg177
 z146:=Tryz.sizeOf177
 v146:=Tryz.zeroValue177
 g1:=by kernel_rfl}
open Go.RowKit Go.Lib in
theorem Tryz.strings_Count_one(s:ByteArray)(c:UInt8)(w:World):
  Calls Tryz.prog 108 #[.string s,.string ⟨#[c]⟩] w fun e w'=>e=.returned (.int .i64 (Lib.countByte s.data.toList c))∧w'=w:=Any.strings_Count_one Tryz.lays138 s c w
end Go.Proofs
namespace Go.Proofs
open Go.Shelf Go.RowKit Go.Sort Go.Lib
theorem holds_zero0(w:World)(T:TypeId)(nd:Nat)(hs:nd≤24):Holds (fun(b:UInt8)=>Value.int .u8 (b.toNat:Int)) (w.alloc (.cells zeros24 T)) w.heap.size 0 (Array.replicate nd (0:UInt8)):=fun j hj=>by
 have hj':j<nd:=by simpa using hj
 refine⟨?_,World.frozen?_alloc_new _ _ _ _⟩;rw[World.cell?_alloc_new,zeros24_at _ (by omega),getElem!_pos _ j hj];simp
theorem fin_pos0(w:World)(o:Obj)(dk:Array UInt8)(k:Nat):∃os,(putRow (fun(b:UInt8)=>Value.int .u8 (b.toNat:Int)) (w.alloc o) w.heap.size 0 dk).drewN k=grow (w.drewN k) os:=by
 rw[alloc_eq_grow];obtain⟨os',_,e⟩:=putRow_grow_new (fun(b:UInt8)=>Value.int .u8 (b.toNat:Int)) w #[o] w.heap.size 0 dk (Nat.le_refl _);exact⟨os',by rw[e];rfl⟩
set_option maxHeartbeats 6400000 in
set_option maxRecDepth 100000 in
theorem Tryz.internal_FormatUint_10(u:Nat)(hu64:u<18446744073709551616)(w:World)(htab:Lib.TabIs Tryz.prog w "internal/strconv.uint64pow10" .u64 Lib.pow10Tab):
  Calls Tryz.prog 74 #[.int .u64 (u:Int),.int .i64 10] w fun e w'=>e=.returned (.string ⟨(Lib.itoa (u:Int)).toArray⟩)∧∃k os,w'=grow (w.drewN k) os:=by
 have eS:∀args w,(callFunc 99 args).run Tryz.prog w=.ok (.enter 99 args) w:=enters_of Tryz.func99 (by kernel_rfl) rfl;have eN:∀args w,(callFunc 100 args).run Tryz.prog w=.ok (.enter 100 args) w:=enters_of Tryz.func100 (by kernel_rfl) rfl;have eB:∀args w,(callFunc 101 args).run Tryz.prog w=.ok (.enter 101 args) w:=enters_of Tryz.func101 (by kernel_rfl) rfl;by_cases hs:u<100
 ·have hwr:IntKind.i64.wrap (u:Int)=(u:Int):=by rw[IntKind.wrap_i64];omega
  go_enter Tryz.func74,Tryz.ntmps74
  go_wp2_with (go_at_fn 99;refine(Tryz.internal_strconv_small u hs _).mono ?_;rintro e w' ⟨rfl,rfl⟩)
  go_ret
  refine⟨?_,0, #[],by simp[World.drewN_zero]⟩;rw[Lib.itoa_nonneg];rfl
 ·have hu1:1≤u:=by omega
  have hnd20:Lib.nDigits u≤20:=by have:=Lib.numDigits_eq u hu1 hu64;split at this<;>omega
  have hal:Tryz.prog.arrayLen 125 =24:=by kernel_rfl
  have hsl1:∀W,(Instr.sliceAt 125 (.pointer (some ⟨w.heap.size,0,none⟩)) none (some (.int .i64 (Lib.nDigits u:Int))) none).run Tryz.prog W=.ok (.slice (some ⟨w.heap.size,0,none⟩) (Lib.nDigits u) 24) W:=fun W=>by
   rw[run_sliceAt_array_h W 125 ⟨w.heap.size,0,none⟩ (by simp[Program.arrayLen,Program.elem,Tryz.underlying125]) .i64 (Lib.nDigits u:Int) (by omega) (by rw[hal];omega)]
   go_simp
  have hH0:=holds_zero0 w 125 (Lib.nDigits u) (by omega);have hfmt:=Tryz.internal_strconv_formatBase10 w.heap.size 0 24 u (Array.replicate (Lib.nDigits u) 0) (w.alloc (.cells Lib.zeros24 125)) hH0 (by rw[Array.size_replicate];exact Lib.lt_pow_nDigits u) hu64 (by rw[Array.size_replicate];omega);rw[Array.size_replicate]at hfmt;have HH0:=Lib.hid hH0;clear hH0 hal
  go_enter Tryz.func74,Tryz.ntmps74
  go_wp2_with (first
   |(go_at_fn 100;refine(Tryz.internal_strconv_numDigits u hu1 hu64 _ (Lib.tabIs_alloc htab _)).mono ?_;rintro e w' ⟨rfl,rfl⟩))
  go_at_fn 101
  refine hfmt.mono ?_
  rintro e w' ⟨rfl,k,v',dk,rfl,hF⟩
  have hcv:(convert 89 9 (.slice (some ⟨w.heap.size,0,none⟩) (Lib.nDigits u) 24)).run Tryz.prog ((putRow (fun(b:UInt8)=>Value.int .u8 (b.toNat:Int)) (w.alloc (.cells Lib.zeros24 125)) w.heap.size 0 dk).drewN k)=.ok (.string ⟨(Lib.decDigits u).toArray⟩) ((putRow (fun(b:UInt8)=>Value.int .u8 (b.toNat:Int)) (w.alloc (.cells Lib.zeros24 125)) w.heap.size 0 dk).drewN k):=by
   have h:=run_convert_bytes_back (P:=Tryz.prog) ((putRow (fun(b:UInt8)=>Value.int .u8 (b.toNat:Int)) (w.alloc (.cells Lib.zeros24 125)) w.heap.size 0 dk).drewN k) 89 9 5 ⟨w.heap.size,0,none⟩ 24 (Lib.decDigits u) Tryz.underlying89 Tryz.underlying5 Tryz.underlying9 (fun j hj=>by
    rw[Lib.row_is_numeral hF j hj,Lib.add_plain,World.cell?_drewN]
    exact cell?_putRow (fun(b:UInt8)=>Value.int .u8 (b.toNat:Int)) _ w.heap.size 0 _ dk HH0.out (by rw[hF.size,Array.size_replicate]) j (by rw[hF.size];rw[Lib.decDigits_length]at hj;exact hj))
   rw[Lib.decDigits_length]at h;exact h
  go_wp2
  go_ret
  obtain⟨os,eo⟩:=fin_pos0 w (.cells Lib.zeros24 125) dk k;refine⟨?_,k,os,eo⟩;rw[Lib.itoa_nonneg];rfl
set_option maxHeartbeats 1600000 in
theorem Tryz.strconv_FormatUint_10(u:Nat)(hu64:u<18446744073709551616)(w:World)(htab:Lib.TabIs Tryz.prog w "internal/strconv.uint64pow10" .u64 Lib.pow10Tab):
  Calls Tryz.prog 33 #[.int .u64 (u:Int),.int .i64 10] w fun e w'=>e=.returned (.string ⟨(Lib.itoa (u:Int)).toArray⟩)∧∃k os,w'=grow (w.drewN k) os:=by
 have eS:∀args w,(callFunc 74 args).run Tryz.prog w=.ok (.enter 74 args) w:=enters_of Tryz.func74 (by kernel_rfl) rfl
 go_enter Tryz.func33,Tryz.ntmps33
 go_wp2_with (go_at_fn 74;refine(Tryz.internal_FormatUint_10 u hu64 _ htab).mono ?_;rintro e w' ⟨rfl,k,os,rfl⟩)
 go_ret
 exact⟨rfl,k,os,rfl⟩
end Go.Proofs
