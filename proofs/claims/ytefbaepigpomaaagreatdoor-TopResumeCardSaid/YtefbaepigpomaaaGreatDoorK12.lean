/-
  THE LIBRARY's CONTRACTS that this seat takes, laid at its dump (printed by the kit's lay-shelf and lay-plain, picked by wip/shelf.py).
-/
import Derived.Shelf.SlSortCmp.WholeK
import Derived.Shelf.SlMaps.Copy
import Derived.Ground.SlsfProg
import Derived.Ground.SlmpProg
import Derived.Shelf.SlSortCmp.NoneTotal
import Derived.Test.YtefbaepigpomaaaGreatDoorProg
set_option linter.unusedVariables false
set_option linter.unusedSimpArgs false
namespace Go.Proofs
open Go.Shelf
theorem sk12{α:Type}{o:Option α}{a b:α}(h:o=some a)(k:a=b):o=some b:=h.trans (congrArg some k)
def Tryz.sort144_ren:Go.Shelf.Ren:=⟨fun|6=>144|15=>128|14=>210|28=>188|29=>189|20=>267|21=>268|22=>269|23=>270|24=>271|25=>272|26=>273|27=>274|46=>305|47=>247|48=>248|49=>306|50=>307|57=>339|n=>n,fun|22=>37|24=>43|25=>268|3=>3|39=>246|0=>0|53=>70|55=>189|4=>4|46=>305|45=>304|50=>310|5=>5|9=>9|66=>361|70=>365|76=>396|77=>397|n=>n,fun|n=>n⟩
theorem Tryz.sort144:Go.Proofs.SlLaysF0.n6 Tryz.prog Tryz.sort144_ren:={
 mixed:=by kernel_rfl
 f6:=⟨Tryz.f144.name,by decide,sk12 Tryz.func144 (by kernel_rfl)⟩
 f14:=⟨Tryz.f210.name,by decide,sk12 Tryz.func210 (by kernel_rfl)⟩
 f15:=sk12 Tryz.func128 (by kernel_rfl)
 f20:=⟨Tryz.f267.name,by decide,sk12 Tryz.func267 (by kernel_rfl)⟩
 f21:=⟨Tryz.f268.name,by decide,sk12 Tryz.func268 (by kernel_rfl)⟩
 f22:=⟨Tryz.f269.name,by decide,sk12 Tryz.func269 (by kernel_rfl)⟩
 f23:=⟨Tryz.f270.name,by decide,sk12 Tryz.func270 (by kernel_rfl)⟩
 f24:=⟨Tryz.f271.name,by decide,sk12 Tryz.func271 (by kernel_rfl)⟩
 f25:=⟨Tryz.f272.name,by decide,sk12 Tryz.func272 (by kernel_rfl)⟩
 f26:=⟨Tryz.f273.name,by decide,sk12 Tryz.func273 (by kernel_rfl)⟩
 f27:=⟨Tryz.f274.name,by decide,sk12 Tryz.func274 (by kernel_rfl)⟩
 f28:=sk12 Tryz.func188 (by kernel_rfl)
 f29:=sk12 Tryz.func189 (by kernel_rfl)
 f46:=⟨Tryz.f305.name,by decide,sk12 Tryz.func305 (by kernel_rfl)⟩
 f47:=sk12 Tryz.func247 (by kernel_rfl)
 f48:=sk12 Tryz.func248 (by kernel_rfl)
 f49:=⟨Tryz.f306.name,by decide,sk12 Tryz.func306 (by kernel_rfl)⟩
 f50:=⟨Tryz.f307.name,by decide,sk12 Tryz.func307 (by kernel_rfl)⟩
 f57:=⟨Tryz.f339.name,by decide,sk12 Tryz.func339 (by kernel_rfl)⟩
 t0:=Tryz.underlying0
 a0:=Tryz.isAgg0
 z0:=Tryz.sizeOf0
 v0:=Tryz.zeroValue0
 t3:=Tryz.underlying3
 a3:=Tryz.isAgg3
 z3:=Tryz.sizeOf3
 v3:=Tryz.zeroValue3
 t4:=Tryz.underlying4
 a4:=Tryz.isAgg4
 z4:=Tryz.sizeOf4
 v4:=Tryz.zeroValue4
 t5:=Tryz.underlying5
 a5:=Tryz.isAgg5
 z5:=Tryz.sizeOf5
 v5:=Tryz.zeroValue5
 t9:=Tryz.underlying9
 a9:=Tryz.isAgg9
 z9:=Tryz.sizeOf9
 v9:=Tryz.zeroValue9
 t22:=Tryz.underlying37
 a22:=Tryz.isAgg37
 z22:=Tryz.sizeOf37
 v22:=Tryz.zeroValue37
 t25:=Tryz.underlying268
 a25:=Tryz.isAgg268
 z25:=Tryz.sizeOf268
 v25:=Tryz.zeroValue268
 t39:=Tryz.underlying246
 a39:=Tryz.isAgg246
 z39:=Tryz.sizeOf246
 v39:=Tryz.zeroValue246
 t45:=Tryz.underlying304
 a45:=Tryz.isAgg304
 z45:=Tryz.sizeOf304
 v45:=Tryz.zeroValue304
 t46:=Tryz.underlying305
 a46:=Tryz.isAgg305
 z46:=Tryz.sizeOf305
 v46:=Tryz.zeroValue305
 t50:=Tryz.underlying310
 a50:=Tryz.isAgg310
 z50:=Tryz.sizeOf310
 v50:=Tryz.zeroValue310
 t53:=Tryz.underlying70
 a53:=Tryz.isAgg70
 z53:=Tryz.sizeOf70
 v53:=Tryz.zeroValue70
 t55:=Tryz.underlying189
 a55:=Tryz.isAgg189
 z55:=Tryz.sizeOf189
 v55:=Tryz.zeroValue189
 t66:=Tryz.underlying361
 a66:=Tryz.isAgg361
 z66:=Tryz.sizeOf361
 v66:=Tryz.zeroValue361
 t70:=Tryz.underlying365
 a70:=Tryz.isAgg365
 z70:=Tryz.sizeOf365
 v70:=Tryz.zeroValue365
 t76:=Tryz.underlying396
 a76:=Tryz.isAgg396
 z76:=Tryz.sizeOf396
 v76:=Tryz.zeroValue396
 t77:=Tryz.underlying397
 a77:=Tryz.isAgg397
 z77:=Tryz.sizeOf397
 v77:=Tryz.zeroValue397}
def Tryz.laysX195_ren:Go.Shelf.Ren:=⟨fun|5=>195|n=>n,fun|23=>26|24=>26|26=>9|27=>28|0=>0|4=>4|n=>n,fun|n=>n⟩
theorem Tryz.laysX195:Go.Proofs.SlLaysX.n5 Tryz.prog Tryz.laysX195_ren:={
 mixed:=by kernel_rfl
 f5:=⟨Tryz.f195.name,by decide,sk12 Tryz.func195 (by kernel_rfl)⟩
 t0:=Tryz.underlying0
 a0:=Tryz.isAgg0
 z0:=Tryz.sizeOf0
 v0:=Tryz.zeroValue0
 t4:=Tryz.underlying4
 a4:=Tryz.isAgg4
 z4:=Tryz.sizeOf4
 v4:=Tryz.zeroValue4
 t23:=Tryz.underlying26
 a23:=Tryz.isAgg26
 z23:=Tryz.sizeOf26
 v23:=Tryz.zeroValue26
 t24:=Tryz.underlying26
 a24:=Tryz.isAgg26
 z24:=Tryz.sizeOf26
 v24:=Tryz.zeroValue26
 a26:=Tryz.isAgg9
 z26:=Tryz.sizeOf9
 a27:=Tryz.isAgg28
 z27:=Tryz.sizeOf28}
theorem Tryz.copyK:Tryz.prog.underlying (Tryz.laysX195_ren.t 26)=some .string:=by kernel_rfl
theorem Tryz.copyC{H:Type}(R:Value->Option (DataW H×List MemPlace))(b f:Nat)(d:Option Nat)(h c:DataW H)(w:World)(j:w.ownsMap Tryz.prog (Tryz.laysX195_ren.t 26) R b f h)(i:SrcOf Tryz.prog (Tryz.laysX195_ren.t 26) R w d c)(g:d≠some b)(a:f+Maps.size c<=maxLen):
  Calls Tryz.prog 195 #[.map (some b),.map d] w fun e w'=>e=.returned (.tuple #[])/\w'.ownsMap Tryz.prog (Tryz.laysX195_ren.t 26) R b (f+Maps.size c) (Lib.mergeD h c)/\w.grownBy w' (some b):=AnyX.maps_Copy_opt Tryz.laysX195 (Maps.string_keyed Tryz.copyK) R b f d h c w j i g a
end Go.Proofs
