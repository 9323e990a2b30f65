/-
  THE LIBRARY's CONTRACTS that this seat takes, laid at its dump (printed by the kit's lay-shelf and lay-plain, picked by wip/shelf.py).
-/
import Derived.Shelf.SlIter.Nil
import Derived.Shelf.SortM.Plain
import Derived.Shelf.SortM.SortNone
import Derived.Ground.GgzProg
import Derived.Ground.SlgmProg
import Derived.Shelf.Strconv.Itoa2
import Derived.Shelf.Strconv.Itoa3
import Derived.Sort.KeysCollected
import Derived.KernelRfl
import Derived.Test.YtefbaepigpomaaaGreatDoorProg
set_option linter.unusedVariables false
set_option linter.unusedSimpArgs false
namespace Go.Proofs
open Go.Shelf
theorem sk13{α:Type}{o:Option α}{a b:α}(h:o=some a)(k:a=b):o=some b:=h.trans (congrArg some k)
def Tryz.laysM171_ren:Go.Shelf.Ren:=⟨fun|171=>54|243=>97|246=>149|283=>171|284=>172|285=>173|286=>174|129=>189|317=>241|318=>242|319=>243|320=>244|337=>290|338=>291|n=>n,fun|3=>3|9=>9|2=>2|4=>4|171=>296|0=>0|53=>189|37=>58|5=>5|173=>299|212=>359|51=>70|20=>20|213=>360|46=>246|232=>422|233=>423|n=>n,fun|17=>2|18=>3|19=>4|n=>n⟩
theorem Tryz.laysM171:Go.Proofs.LaysM.n171 Tryz.prog Tryz.laysM171_ren:={
 mixed:=by kernel_rfl
 f129:=sk13 Tryz.func189 (by kernel_rfl)
 f171:=sk13 Tryz.func54 (by kernel_rfl)
 f243:=sk13 Tryz.func97 (by kernel_rfl)
 f246:=sk13 Tryz.func149 (by kernel_rfl)
 f283:=sk13 Tryz.func171 (by kernel_rfl)
 f284:=sk13 Tryz.func172 (by kernel_rfl)
 f285:=sk13 Tryz.func173 (by kernel_rfl)
 f286:=sk13 Tryz.func174 (by kernel_rfl)
 f317:=sk13 Tryz.func241 (by kernel_rfl)
 f318:=sk13 Tryz.func242 (by kernel_rfl)
 f319:=sk13 Tryz.func243 (by kernel_rfl)
 f320:=sk13 Tryz.func244 (by kernel_rfl)
 f337:=sk13 Tryz.func290 (by kernel_rfl)
 f338:=sk13 Tryz.func291 (by kernel_rfl)
 t0:=Tryz.underlying0
 a0:=Tryz.isAgg0
 z0:=Tryz.sizeOf0
 v0:=Tryz.zeroValue0
 t2:=Tryz.underlying2
 a2:=Tryz.isAgg2
 z2:=Tryz.sizeOf2
 v2:=Tryz.zeroValue2
 t3:=Tryz.underlying3
 a3:=Tryz.isAgg3
 z3:=Tryz.sizeOf3
 v3:=Tryz.zeroValue3
 t4:=Tryz.underlying4
 a4:=Tryz.isAgg4
 z4:=Tryz.sizeOf4
 v4:=Tryz.zeroValue4
 t5:=Tryz.underlying5
 a5:=Tryz.isAgg5
 z5:=Tryz.sizeOf5
 v5:=Tryz.zeroValue5
 t9:=Tryz.underlying9
 a9:=Tryz.isAgg9
 z9:=Tryz.sizeOf9
 v9:=Tryz.zeroValue9
 t20:=Tryz.underlying20
 a20:=Tryz.isAgg20
 z20:=Tryz.sizeOf20
 v20:=Tryz.zeroValue20
 t37:=Tryz.underlying58
 a37:=Tryz.isAgg58
 z37:=Tryz.sizeOf58
 v37:=Tryz.zeroValue58
 t46:=Tryz.underlying246
 a46:=Tryz.isAgg246
 z46:=Tryz.sizeOf246
 v46:=Tryz.zeroValue246
 t51:=Tryz.underlying70
 a51:=Tryz.isAgg70
 z51:=Tryz.sizeOf70
 v51:=Tryz.zeroValue70
 t53:=Tryz.underlying189
 a53:=Tryz.isAgg189
 z53:=Tryz.sizeOf189
 v53:=Tryz.zeroValue189
 t171:=Tryz.underlying296
 a171:=Tryz.isAgg296
 z171:=Tryz.sizeOf296
 v171:=Tryz.zeroValue296
 t173:=Tryz.underlying299
 a173:=Tryz.isAgg299
 z173:=Tryz.sizeOf299
 v173:=Tryz.zeroValue299
 t212:=Tryz.underlying359
 a212:=Tryz.isAgg359
 z212:=Tryz.sizeOf359
 v212:=Tryz.zeroValue359
 t213:=Tryz.underlying360
 a213:=Tryz.isAgg360
 z213:=Tryz.sizeOf360
 t232:=Tryz.underlying422
 a232:=Tryz.isAgg422
 z232:=Tryz.sizeOf422
 v232:=Tryz.zeroValue422
 t233:=Tryz.underlying423
 a233:=Tryz.isAgg423
 z233:=Tryz.sizeOf423
 v233:=Tryz.zeroValue423
 g17:=by kernel_rfl
 g18:=by kernel_rfl
 g19:=by kernel_rfl
 i0:=by kernel_rfl
 i2:=by kernel_rfl
 i3:=by kernel_rfl
 i4:=by kernel_rfl
 i5:=by kernel_rfl
 i9:=by kernel_rfl
 i20:=by kernel_rfl
 i37:=by kernel_rfl
 i46:=by kernel_rfl
 i51:=by kernel_rfl
 i53:=by kernel_rfl
 i171:=by kernel_rfl
 i173:=by kernel_rfl
 i212:=by kernel_rfl
 i232:=by kernel_rfl
 i233:=by kernel_rfl
 m17:=by kernel_rfl
 m18:=by kernel_rfl
 m19:=by kernel_rfl}
open Go.RowKit Go.Sort Go.Lib in
theorem Tryz.strconv_Itoa(n:Int)(c: -9223372036854775808<=n)(b:n<=9223372036854775807)(w:World)(a:Lib.TabIs Tryz.prog w "internal/strconv.uint64pow10" .u64 Lib.pow10Tab):
  Calls Tryz.prog 54 #[.int .i64 n] w fun e w'=>e=.returned (.string ⟨(Lib.itoa n).toArray⟩)/\∃k os,w'=grow (w.drewN k) os:=Any.strconv_Itoa Tryz.laysM171 n c b w a
def Tryz.keys56_ren:Go.Shelf.Ren:=⟨fun|7=>56|10=>100|n=>n,fun|23=>26|26=>9|3=>28|28=>153|0=>0|27=>152|33=>200|4=>4|n=>n,fun|n=>n⟩
theorem Tryz.keys56:Go.Proofs.SlLaysZ.n7 Tryz.prog Tryz.keys56_ren:={
 mixed:=by kernel_rfl
 f7:=⟨Tryz.f56.name,by decide,sk13 Tryz.func56 (by kernel_rfl)⟩
 f10:=⟨Tryz.f100.name,by decide,sk13 Tryz.func100 (by kernel_rfl)⟩
 t0:=Tryz.underlying0
 a0:=Tryz.isAgg0
 z0:=Tryz.sizeOf0
 v0:=Tryz.zeroValue0
 t4:=Tryz.underlying4
 a4:=Tryz.isAgg4
 z4:=Tryz.sizeOf4
 v4:=Tryz.zeroValue4
 t23:=Tryz.underlying26
 a23:=Tryz.isAgg26
 z23:=Tryz.sizeOf26
 v23:=Tryz.zeroValue26
 t26:=Tryz.underlying9
 a26:=Tryz.isAgg9
 z26:=Tryz.sizeOf9
 v26:=Tryz.zeroValue9
 t27:=Tryz.underlying152
 a27:=Tryz.isAgg152
 z27:=Tryz.sizeOf152
 v27:=Tryz.zeroValue152
 t28:=Tryz.underlying153
 a28:=Tryz.isAgg153
 z28:=Tryz.sizeOf153
 v28:=Tryz.zeroValue153
 t33:=Tryz.underlying200
 a33:=Tryz.isAgg200
 z33:=Tryz.sizeOf200
 v33:=Tryz.zeroValue200}
def Tryz.keys58_ren:Go.Shelf.Ren:=⟨fun|7=>58|10=>102|n=>n,fun|23=>27|26=>9|3=>158|28=>153|0=>0|27=>152|33=>200|4=>4|n=>n,fun|n=>n⟩
theorem Tryz.keys58:Go.Proofs.SlLaysZ.n7 Tryz.prog Tryz.keys58_ren:={
 mixed:=by kernel_rfl
 f7:=⟨Tryz.f58.name,by decide,sk13 Tryz.func58 (by kernel_rfl)⟩
 f10:=⟨Tryz.f102.name,by decide,sk13 Tryz.func102 (by kernel_rfl)⟩
 t0:=Tryz.underlying0
 a0:=Tryz.isAgg0
 z0:=Tryz.sizeOf0
 v0:=Tryz.zeroValue0
 t4:=Tryz.underlying4
 a4:=Tryz.isAgg4
 z4:=Tryz.sizeOf4
 v4:=Tryz.zeroValue4
 t23:=Tryz.underlying27
 a23:=Tryz.isAgg27
 z23:=Tryz.sizeOf27
 v23:=Tryz.zeroValue27
 t26:=Tryz.underlying9
 a26:=Tryz.isAgg9
 z26:=Tryz.sizeOf9
 v26:=Tryz.zeroValue9
 t27:=Tryz.underlying152
 a27:=Tryz.isAgg152
 z27:=Tryz.sizeOf152
 v27:=Tryz.zeroValue152
 t28:=Tryz.underlying153
 a28:=Tryz.isAgg153
 z28:=Tryz.sizeOf153
 v28:=Tryz.zeroValue153
 t33:=Tryz.underlying200
 a33:=Tryz.isAgg200
 z33:=Tryz.sizeOf200
 v33:=Tryz.zeroValue200}
def Tryz.keys59_ren:Go.Shelf.Ren:=⟨fun|7=>59|10=>103|n=>n,fun|23=>31|26=>9|3=>28|28=>153|0=>0|27=>152|33=>200|4=>4|n=>n,fun|n=>n⟩
theorem Tryz.keys59:Go.Proofs.SlLaysZ.n7 Tryz.prog Tryz.keys59_ren:={
 mixed:=by kernel_rfl
 f7:=⟨Tryz.f59.name,by decide,sk13 Tryz.func59 (by kernel_rfl)⟩
 f10:=⟨Tryz.f103.name,by decide,sk13 Tryz.func103 (by kernel_rfl)⟩
 t0:=Tryz.underlying0
 a0:=Tryz.isAgg0
 z0:=Tryz.sizeOf0
 v0:=Tryz.zeroValue0
 t4:=Tryz.underlying4
 a4:=Tryz.isAgg4
 z4:=Tryz.sizeOf4
 v4:=Tryz.zeroValue4
 t23:=Tryz.underlying31
 a23:=Tryz.isAgg31
 z23:=Tryz.sizeOf31
 v23:=Tryz.zeroValue31
 t26:=Tryz.underlying9
 a26:=Tryz.isAgg9
 z26:=Tryz.sizeOf9
 v26:=Tryz.zeroValue9
 t27:=Tryz.underlying152
 a27:=Tryz.isAgg152
 z27:=Tryz.sizeOf152
 v27:=Tryz.zeroValue152
 t28:=Tryz.underlying153
 a28:=Tryz.isAgg153
 z28:=Tryz.sizeOf153
 v28:=Tryz.zeroValue153
 t33:=Tryz.underlying200
 a33:=Tryz.isAgg200
 z33:=Tryz.sizeOf200
 v33:=Tryz.zeroValue200}
def Tryz.sorted55_ren:Go.Shelf.Ren:=⟨fun|6=>55|8=>98|9=>99|11=>150|13=>128|12=>151|23=>188|24=>189|14=>213|15=>214|16=>215|17=>216|18=>217|19=>218|20=>219|21=>220|22=>221|25=>275|26=>247|27=>248|28=>276|29=>277|30=>212|31=>308|n=>n,fun|26=>9|28=>153|24=>148|0=>0|3=>3|37=>246|48=>70|50=>189|4=>4|40=>305|39=>304|45=>310|5=>5|9=>9|51=>361|55=>365|57=>396|58=>397|33=>200|n=>n,fun|n=>n⟩
theorem Tryz.sorted55:Go.Proofs.SlLaysZ.n6 Tryz.prog Tryz.sorted55_ren:={
 mixed:=by kernel_rfl
 f6:=⟨Tryz.f55.name,by decide,sk13 Tryz.func55 (by kernel_rfl)⟩
 f8:=⟨Tryz.f98.name,by decide,sk13 Tryz.func98 (by kernel_rfl)⟩
 f11:=⟨Tryz.f150.name,by decide,sk13 Tryz.func150 (by kernel_rfl)⟩
 t0:=Tryz.underlying0
 a0:=Tryz.isAgg0
 z0:=Tryz.sizeOf0
 v0:=Tryz.zeroValue0
 t24:=Tryz.underlying148
 a24:=Tryz.isAgg148
 z24:=Tryz.sizeOf148
 v24:=Tryz.zeroValue148
 t26:=Tryz.underlying9
 a26:=Tryz.isAgg9
 z26:=Tryz.sizeOf9
 v26:=Tryz.zeroValue9
 t28:=Tryz.underlying153
 a28:=Tryz.isAgg153
 z28:=Tryz.sizeOf153
 v28:=Tryz.zeroValue153
 i26:=by kernel_rfl}
def Tryz.sort99_ren:Go.Shelf.Ren:=⟨fun|6=>99|8=>128|9=>151|19=>188|20=>189|21=>213|22=>214|23=>215|24=>216|25=>217|26=>218|27=>219|28=>220|29=>221|36=>275|31=>247|32=>248|37=>276|38=>277|39=>212|41=>308|n=>n,fun|27=>148|29=>9|3=>3|32=>246|26=>148|0=>0|44=>70|46=>189|4=>4|36=>305|35=>304|41=>310|5=>5|9=>9|53=>361|57=>365|63=>396|64=>397|n=>n,fun|n=>n⟩
theorem Tryz.sort99:Go.Proofs.SlLaysM.n6 Tryz.prog Tryz.sort99_ren:={
 mixed:=by kernel_rfl
 f6:=⟨Tryz.f99.name,by decide,sk13 Tryz.func99 (by kernel_rfl)⟩
 f8:=sk13 Tryz.func128 (by kernel_rfl)
 f9:=⟨Tryz.f151.name,by decide,sk13 Tryz.func151 (by kernel_rfl)⟩
 f19:=sk13 Tryz.func188 (by kernel_rfl)
 f20:=sk13 Tryz.func189 (by kernel_rfl)
 f21:=⟨Tryz.f213.name,by decide,sk13 Tryz.func213 (by kernel_rfl)⟩
 f22:=⟨Tryz.f214.name,by decide,sk13 Tryz.func214 (by kernel_rfl)⟩
 f23:=⟨Tryz.f215.name,by decide,sk13 Tryz.func215 (by kernel_rfl)⟩
 f24:=⟨Tryz.f216.name,by decide,sk13 Tryz.func216 (by kernel_rfl)⟩
 f25:=⟨Tryz.f217.name,by decide,sk13 Tryz.func217 (by kernel_rfl)⟩
 f26:=⟨Tryz.f218.name,by decide,sk13 Tryz.func218 (by kernel_rfl)⟩
 f27:=⟨Tryz.f219.name,by decide,sk13 Tryz.func219 (by kernel_rfl)⟩
 f28:=⟨Tryz.f220.name,by decide,sk13 Tryz.func220 (by kernel_rfl)⟩
 f29:=⟨Tryz.f221.name,by decide,sk13 Tryz.func221 (by kernel_rfl)⟩
 f31:=sk13 Tryz.func247 (by kernel_rfl)
 f32:=sk13 Tryz.func248 (by kernel_rfl)
 f36:=⟨Tryz.f275.name,by decide,sk13 Tryz.func275 (by kernel_rfl)⟩
 f37:=⟨Tryz.f276.name,by decide,sk13 Tryz.func276 (by kernel_rfl)⟩
 f38:=⟨Tryz.f277.name,by decide,sk13 Tryz.func277 (by kernel_rfl)⟩
 f39:=⟨Tryz.f212.name,by decide,sk13 Tryz.func212 (by kernel_rfl)⟩
 f41:=⟨Tryz.f308.name,by decide,sk13 Tryz.func308 (by kernel_rfl)⟩
 t0:=Tryz.underlying0
 a0:=Tryz.isAgg0
 z0:=Tryz.sizeOf0
 v0:=Tryz.zeroValue0
 t3:=Tryz.underlying3
 a3:=Tryz.isAgg3
 z3:=Tryz.sizeOf3
 v3:=Tryz.zeroValue3
 t4:=Tryz.underlying4
 a4:=Tryz.isAgg4
 z4:=Tryz.sizeOf4
 v4:=Tryz.zeroValue4
 t5:=Tryz.underlying5
 a5:=Tryz.isAgg5
 z5:=Tryz.sizeOf5
 v5:=Tryz.zeroValue5
 t9:=Tryz.underlying9
 a9:=Tryz.isAgg9
 z9:=Tryz.sizeOf9
 v9:=Tryz.zeroValue9
 t26:=Tryz.underlying148
 a26:=Tryz.isAgg148
 z26:=Tryz.sizeOf148
 v26:=Tryz.zeroValue148
 t27:=Tryz.underlying148
 a27:=Tryz.isAgg148
 z27:=Tryz.sizeOf148
 v27:=Tryz.zeroValue148
 t29:=Tryz.underlying9
 a29:=Tryz.isAgg9
 z29:=Tryz.sizeOf9
 v29:=Tryz.zeroValue9
 t32:=Tryz.underlying246
 a32:=Tryz.isAgg246
 z32:=Tryz.sizeOf246
 v32:=Tryz.zeroValue246
 t35:=Tryz.underlying304
 a35:=Tryz.isAgg304
 z35:=Tryz.sizeOf304
 v35:=Tryz.zeroValue304
 t36:=Tryz.underlying305
 a36:=Tryz.isAgg305
 z36:=Tryz.sizeOf305
 v36:=Tryz.zeroValue305
 t41:=Tryz.underlying310
 a41:=Tryz.isAgg310
 z41:=Tryz.sizeOf310
 v41:=Tryz.zeroValue310
 t44:=Tryz.underlying70
 a44:=Tryz.isAgg70
 z44:=Tryz.sizeOf70
 v44:=Tryz.zeroValue70
 t46:=Tryz.underlying189
 a46:=Tryz.isAgg189
 z46:=Tryz.sizeOf189
 v46:=Tryz.zeroValue189
 t53:=Tryz.underlying361
 a53:=Tryz.isAgg361
 z53:=Tryz.sizeOf361
 v53:=Tryz.zeroValue361
 t57:=Tryz.underlying365
 a57:=Tryz.isAgg365
 z57:=Tryz.sizeOf365
 v57:=Tryz.zeroValue365
 t63:=Tryz.underlying396
 a63:=Tryz.isAgg396
 z63:=Tryz.sizeOf396
 v63:=Tryz.zeroValue396
 t64:=Tryz.underlying397
 a64:=Tryz.isAgg397
 z64:=Tryz.sizeOf397
 v64:=Tryz.zeroValue397}
theorem Tryz.sorts55(m:Nat):AnyZ.SortsIn Tryz.prog Tryz.sorted55_ren Fence.wide m:=
 ⟨fun blk off cap c W d a b=>Go.callsIn_wide.2 (AnyM.slices_Sort_string Tryz.sort99 blk off cap c W d a b),
  fun p cap W=>Go.callsIn_wide.2 (AnyM.slices_Sort_string_none Tryz.sort99 p cap W)⟩
theorem Tryz.sortedC56(h b k:Nat)(g:DataW Value)(R:Value->Option (DataW Value×List MemPlace))(w:World)(j:h<w.heap.size)(c:w.cell? ⟨h,0,none⟩=some (.map (some b)))(d:w.ownsMap Tryz.prog 9 R b k g)(f:Go.Maps.size g<=maxLen)(a:Go.Maps.size g*16<=140737488355328):
  Go.Calls Tryz.prog 55 #[.func (.func 100) #[] #[.pointer (some ⟨h,0,none⟩)]] w fun e w'=>∃(v:Value) (i:List (List UInt8)),e=.returned v/\i.Perm (Go.strKeys g)/\w'.ownsRow w.heap.size 9 1 v i.length ((i.mergeSort (fun x y=>decide (x<=y))).map encStr)/\(v=.slice none 0 0<->i= [])/\Go.RowKit.Below w.heap.size w w':=
 (Go.callsIn_wide (n:=5)).1 (AnyZ.sorted_in Tryz.sorted55 Fence.wide 5 trivial trivial trivial trivial rfl (by omega) (Tryz.sorts55 _) (enters_of Tryz.func99 (by kernel_rfl) rfl) 100 #[.pointer (some ⟨h,0,none⟩)] trivial (enters_of Tryz.func100 (by kernel_rfl) rfl) _ _ f a _
  (AnyZ.keys_gives (ρ:=Tryz.keys56_ren) {Tryz.keys56 with} Fence.wide 2 trivial rfl (by omega) h b k g w j c d))
theorem Tryz.sortedN56(b:Nat)(w:World)(d:b<w.heap.size)(a:w.cell? ⟨b,0,none⟩=some (.map none)):
  Go.Calls Tryz.prog 55 #[.func (.func 100) #[] #[.pointer (some ⟨b,0,none⟩)]] w fun e w'=>∃(v:Value) (c:List (List UInt8)),e=.returned v/\c= []/\w'.ownsRow w.heap.size 9 1 v c.length ((c.mergeSort (fun x y=>decide (x<=y))).map encStr)/\(v=.slice none 0 0<->c= [])/\Go.RowKit.Below w.heap.size w w':=
 (Go.callsIn_wide (n:=5)).1 (AnyZ.sorted_in Tryz.sorted55 Fence.wide 5 trivial trivial trivial trivial rfl (by omega) (Tryz.sorts55 _) (enters_of Tryz.func99 (by kernel_rfl) rfl) 100 #[.pointer (some ⟨b,0,none⟩)] trivial (enters_of Tryz.func100 (by kernel_rfl) rfl) _ 0 (Nat.zero_le _) (by omega) _
  (AnyZ.keys_gives_nil (ρ:=Tryz.keys56_ren) {Tryz.keys56 with} Fence.wide 2 trivial rfl b w d a))
theorem Tryz.sortedC58(h b k:Nat)(g:DataW Value)(R:Value->Option (DataW Value×List MemPlace))(w:World)(j:h<w.heap.size)(c:w.cell? ⟨h,0,none⟩=some (.map (some b)))(d:w.ownsMap Tryz.prog 9 R b k g)(f:Go.Maps.size g<=maxLen)(a:Go.Maps.size g*16<=140737488355328):
  Go.Calls Tryz.prog 55 #[.func (.func 102) #[] #[.pointer (some ⟨h,0,none⟩)]] w fun e w'=>∃(v:Value) (i:List (List UInt8)),e=.returned v/\i.Perm (Go.strKeys g)/\w'.ownsRow w.heap.size 9 1 v i.length ((i.mergeSort (fun x y=>decide (x<=y))).map encStr)/\(v=.slice none 0 0<->i= [])/\Go.RowKit.Below w.heap.size w w':=
 (Go.callsIn_wide (n:=5)).1 (AnyZ.sorted_in Tryz.sorted55 Fence.wide 5 trivial trivial trivial trivial rfl (by omega) (Tryz.sorts55 _) (enters_of Tryz.func99 (by kernel_rfl) rfl) 102 #[.pointer (some ⟨h,0,none⟩)] trivial (enters_of Tryz.func102 (by kernel_rfl) rfl) _ _ f a _
  (AnyZ.keys_gives (ρ:=Tryz.keys58_ren) {Tryz.keys58 with} Fence.wide 2 trivial rfl (by omega) h b k g w j c d))
theorem Tryz.sortedN58(b:Nat)(w:World)(d:b<w.heap.size)(a:w.cell? ⟨b,0,none⟩=some (.map none)):
  Go.Calls Tryz.prog 55 #[.func (.func 102) #[] #[.pointer (some ⟨b,0,none⟩)]] w fun e w'=>∃(v:Value) (c:List (List UInt8)),e=.returned v/\c= []/\w'.ownsRow w.heap.size 9 1 v c.length ((c.mergeSort (fun x y=>decide (x<=y))).map encStr)/\(v=.slice none 0 0<->c= [])/\Go.RowKit.Below w.heap.size w w':=
 (Go.callsIn_wide (n:=5)).1 (AnyZ.sorted_in Tryz.sorted55 Fence.wide 5 trivial trivial trivial trivial rfl (by omega) (Tryz.sorts55 _) (enters_of Tryz.func99 (by kernel_rfl) rfl) 102 #[.pointer (some ⟨b,0,none⟩)] trivial (enters_of Tryz.func102 (by kernel_rfl) rfl) _ 0 (Nat.zero_le _) (by omega) _
  (AnyZ.keys_gives_nil (ρ:=Tryz.keys58_ren) {Tryz.keys58 with} Fence.wide 2 trivial rfl b w d a))
theorem Tryz.sortedC59(h b k:Nat)(g:DataW Value)(R:Value->Option (DataW Value×List MemPlace))(w:World)(j:h<w.heap.size)(c:w.cell? ⟨h,0,none⟩=some (.map (some b)))(d:w.ownsMap Tryz.prog 9 R b k g)(f:Go.Maps.size g<=maxLen)(a:Go.Maps.size g*16<=140737488355328):
  Go.Calls Tryz.prog 55 #[.func (.func 103) #[] #[.pointer (some ⟨h,0,none⟩)]] w fun e w'=>∃(v:Value) (i:List (List UInt8)),e=.returned v/\i.Perm (Go.strKeys g)/\w'.ownsRow w.heap.size 9 1 v i.length ((i.mergeSort (fun x y=>decide (x<=y))).map encStr)/\(v=.slice none 0 0<->i= [])/\Go.RowKit.Below w.heap.size w w':=
 (Go.callsIn_wide (n:=5)).1 (AnyZ.sorted_in Tryz.sorted55 Fence.wide 5 trivial trivial trivial trivial rfl (by omega) (Tryz.sorts55 _) (enters_of Tryz.func99 (by kernel_rfl) rfl) 103 #[.pointer (some ⟨h,0,none⟩)] trivial (enters_of Tryz.func103 (by kernel_rfl) rfl) _ _ f a _
  (AnyZ.keys_gives (ρ:=Tryz.keys59_ren) {Tryz.keys59 with} Fence.wide 2 trivial rfl (by omega) h b k g w j c d))
theorem Tryz.sortedN59(b:Nat)(w:World)(d:b<w.heap.size)(a:w.cell? ⟨b,0,none⟩=some (.map none)):
  Go.Calls Tryz.prog 55 #[.func (.func 103) #[] #[.pointer (some ⟨b,0,none⟩)]] w fun e w'=>∃(v:Value) (c:List (List UInt8)),e=.returned v/\c= []/\w'.ownsRow w.heap.size 9 1 v c.length ((c.mergeSort (fun x y=>decide (x<=y))).map encStr)/\(v=.slice none 0 0<->c= [])/\Go.RowKit.Below w.heap.size w w':=
 (Go.callsIn_wide (n:=5)).1 (AnyZ.sorted_in Tryz.sorted55 Fence.wide 5 trivial trivial trivial trivial rfl (by omega) (Tryz.sorts55 _) (enters_of Tryz.func99 (by kernel_rfl) rfl) 103 #[.pointer (some ⟨b,0,none⟩)] trivial (enters_of Tryz.func103 (by kernel_rfl) rfl) _ 0 (Nat.zero_le _) (by omega) _
  (AnyZ.keys_gives_nil (ρ:=Tryz.keys59_ren) {Tryz.keys59 with} Fence.wide 2 trivial rfl b w d a))
end Go.Proofs
