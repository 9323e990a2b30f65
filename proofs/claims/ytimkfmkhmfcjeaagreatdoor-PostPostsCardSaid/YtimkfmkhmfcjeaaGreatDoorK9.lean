/-
  OWN TEXTS, MERGED (wip/merge.py): RShelv, PostTv, PostWv, PostVv. No condition of their own.
-/
import Derived.Shelf.Small.Bits
import Derived.Shelf.Small.Wraps
import Derived.Shelf.Utf8.RuneCount
import Derived.Shelf.Strconv.Itoa0
import Derived.Shelf.Strconv.Itoa1
import Derived.Shelf.LaysM
import Derived.Shelf.Strconv.Itoa2
import Derived.Shelf.Strconv.Itoa3
import Derived.Shelf.Strconv.Clone
import Derived.Shelf.Strconv.SyntaxError
import Derived.Shelf.LaysC
import Derived.Shelf.Strconv.ToError
import Derived.Shelf.Strconv.Lower
import Derived.Shelf.Strconv.ParseUint10
import Derived.Shelf.Strconv.ParseUint10Empty
import Derived.Shelf.Strconv.ParseUint10Any
import Derived.Shelf.Strconv.RangeError
import Derived.Shelf.Strconv.ToErrorRange
import Derived.Shelf.Strconv.ParseUintEmpty
import Derived.Shelf.Strconv.ParseUint10b64
import Derived.Shelf.Strconv.ParseUint10b32
import Derived.Shelf.Strconv.ParseUint10b16
import Derived.Shelf.Strconv.ParseUint10b8
import Derived.Shelf.Strconv.ParseUint10At
import Derived.Ground.MpProg
import Derived.Shelf.Pu.ParseUintPublic10
import Derived.Shelf.Strings.Search1
import Derived.Shelf.Strings.Search2
import Derived.Shelf.Strings.Search3
import Derived.Shelf.Strings.Cut
import Derived.Shelf.Strings.Count
import Derived.Shelf.Strings.Shaped
import Derived.Shelf.Strings.Prefix
import Derived.Shelf.Strings.Split
import Derived.Shelf.Strings.SplitShaped
import Derived.Shelf.Unicode.Decode
import Derived.Shelf.Strings.RuneCount
import Derived.Shelf.Strings.Explode
import Derived.Shelf.Bits.Mul64
import Derived.Shelf.Unicode.DecodeSlow
import Derived.Shelf.Unicode.DecodeAny
import Derived.Shelf.Slices.Turned
import Derived.Test.YtimkfmkhmfcjeaaGreatDoorProg
import Derived.Test.YtimkfmkhmfcjeaaGreatDoorK8
import Derived.Test.YtimkfmkhmfcjeaaGreatDoorK6
import Derived.KernelRfl
import Derived.Test.YtimkfmkhmfcjeaaGreatDoorRows
import Derived.Lay
import Derived.Deep.DeepHandedRow
set_option linter.unusedVariables false
set_option linter.unusedSimpArgs false
namespace Go.Proofs
open Go.Shelf
def Tryz.lays138_ren:Go.Shelf.Ren:=⟨fun|138=>103|195=>114|218=>116|143=>104|219=>117|217=>124|225=>125|224=>126|267=>127|266=>137|314=>138|n=>n,fun|9=>9|3=>3|4=>4|5=>5|0=>0|46=>135|146=>182|51=>49|n=>n,fun|1=>5|n=>n⟩
theorem Tryz.lays138:Go.Proofs.Lays.n138 Tryz.prog Tryz.lays138_ren:={
 mixed:=by kernel_rfl
 f138:=Tryz.func103.trans (congrArg some (by kernel_rfl))
 f143:=Tryz.func104.trans (congrArg some (by kernel_rfl))
 f195:=Tryz.func114.trans (congrArg some (by kernel_rfl))
 f217:=Tryz.func124.trans (congrArg some (by kernel_rfl))
 f218:=Tryz.func116.trans (congrArg some (by kernel_rfl))
 f219:=Tryz.func117.trans (congrArg some (by kernel_rfl))
 f224:=Tryz.func126.trans (congrArg some (by kernel_rfl))
 f225:=Tryz.func125.trans (congrArg some (by kernel_rfl))
 f266:=Tryz.func137.trans (congrArg some (by kernel_rfl))
 f267:=Tryz.func127.trans (congrArg some (by kernel_rfl))
 f314:=Tryz.func138.trans (congrArg some (by kernel_rfl))
 t0:=Tryz.underlying0
 a0:=Tryz.isAgg0
 z0:=Tryz.sizeOf0
 v0:=Tryz.zeroValue0
 t3:=Tryz.underlying3
 a3:=Tryz.isAgg3
 z3:=Tryz.sizeOf3
 v3:=Tryz.zeroValue3
 t4:=Tryz.underlying4
 a4:=Tryz.isAgg4
 z4:=Tryz.sizeOf4
 v4:=Tryz.zeroValue4
 t5:=Tryz.underlying5
 a5:=Tryz.isAgg5
 z5:=Tryz.sizeOf5
 v5:=Tryz.zeroValue5
 t9:=Tryz.underlying9
 a9:=Tryz.isAgg9
 z9:=Tryz.sizeOf9
 v9:=Tryz.zeroValue9
 t46:=Tryz.underlying135
 a46:=Tryz.isAgg135
 z46:=Tryz.sizeOf135
 v46:=Tryz.zeroValue135
 t51:=Tryz.underlying49
 a51:=Tryz.isAgg49
 z51:=Tryz.sizeOf49
 v51:=Tryz.zeroValue49
 t146:=Tryz.underlying182
 a146:=Tryz.isAgg182
 z146:=Tryz.sizeOf182
 v146:=Tryz.zeroValue182
 g1:=by kernel_rfl}
open Go.RowKit Go.Lib in
theorem Tryz.strings_Count_one(s:ByteArray)(c:UInt8)(w:World):
  Calls Tryz.prog 103 #[.string s,.string ⟨#[c]⟩] w fun e w'=>e=.returned (.int .i64 (Lib.countByte s.data.toList c))∧w'=w:=Any.strings_Count_one Tryz.lays138 s c w
def Tryz.lays219_ren:Go.Shelf.Ren:=⟨fun|219=>117|217=>124|225=>125|224=>126|267=>127|266=>137|314=>138|n=>n,fun|9=>9|3=>3|4=>4|5=>5|46=>135|146=>182|51=>49|n=>n,fun|1=>5|n=>n⟩
theorem Tryz.lays219:Go.Proofs.Lays.n219 Tryz.prog Tryz.lays219_ren:={
 mixed:=by kernel_rfl
 f217:=Tryz.func124.trans (congrArg some (by kernel_rfl))
 f219:=Tryz.func117.trans (congrArg some (by kernel_rfl))
 f224:=Tryz.func126.trans (congrArg some (by kernel_rfl))
 f225:=Tryz.func125.trans (congrArg some (by kernel_rfl))
 f266:=Tryz.func137.trans (congrArg some (by kernel_rfl))
 f267:=Tryz.func127.trans (congrArg some (by kernel_rfl))
 f314:=Tryz.func138.trans (congrArg some (by kernel_rfl))
 t3:=Tryz.underlying3
 a3:=Tryz.isAgg3
 z3:=Tryz.sizeOf3
 v3:=Tryz.zeroValue3
 t4:=Tryz.underlying4
 a4:=Tryz.isAgg4
 z4:=Tryz.sizeOf4
 v4:=Tryz.zeroValue4
 t5:=Tryz.underlying5
 a5:=Tryz.isAgg5
 z5:=Tryz.sizeOf5
 v5:=Tryz.zeroValue5
 t9:=Tryz.underlying9
 a9:=Tryz.isAgg9
 z9:=Tryz.sizeOf9
 v9:=Tryz.zeroValue9
 t46:=Tryz.underlying135
 a46:=Tryz.isAgg135
 z46:=Tryz.sizeOf135
 v46:=Tryz.zeroValue135
 t51:=Tryz.underlying49
 a51:=Tryz.isAgg49
 z51:=Tryz.sizeOf49
 v51:=Tryz.zeroValue49
 t146:=Tryz.underlying182
 a146:=Tryz.isAgg182
 z146:=Tryz.sizeOf182
 v146:=Tryz.zeroValue182
 g1:=by kernel_rfl}
open Go.RowKit Go.Lib in
theorem Tryz.stringslite_Index_one(s:ByteArray)(c:UInt8)(w:World):
  Calls Tryz.prog 117 #[.string s,.string ⟨#[c]⟩] w fun e w'=>e=.returned (.int .i64 (Lib.indexByte s.data.toList c))∧w'=w:=Any.stringslite_Index_one Tryz.lays219 s c w
end Go.Proofs
namespace WB
set_option maxHeartbeats 4000000
open Go Go.RowKit Go.Proofs
def lkT{α:Type}:List (Nat×α)→Nat→Option α
 | [],_=>none
 |e::l,i=>if e.1=i then some e.2 else lkT l i
def B:TB:=⟨fun i=> [],lkT [(38,(.agg (.cons (.int .i64) (.cons .str (.one (.int .i64)))))),(24,(.agg (.cons (.int .i64) (.cons (.int .i64) (.one (.sl (.agg (.cons (.int .i64) (.cons .str (.one (.int .i64))))))))))),(41,(.agg (.cons .str (.cons .str (.cons (.int .i64) (.one .str)))))),(77,(.agg (.cons .str (.one (.int .i64))))),(2,(.int .i64)),(9,.str),(36,(.int .i64)),(5,(.int .u8)),(39,.str),(100,(.int .u64))],lkT [(47,((.int .u32),(.sl (.agg (.cons .str (.one (.int .i64))))))),(60,((.int .u32),.str)),(69,(.str,(.int .i64))),(103,(.str,.bool)),(146,(.str,(.int .i64)))],fun f=>false⟩
abbrev y1:Ty:=(.agg (.cons .str (.cons .str (.cons (.int .i64) (.one .str)))))
abbrev y3:Ty:=(.agg (.cons (.int .u32) (.cons (.int .u32) (.cons (.int .i64) (.cons (.int .i64) (.cons (.int .i64) (.cons .str (.cons (.int .i64) (.one .str)))))))))
abbrev y5:Ty:=(.one (.pt (.one .str)))
abbrev y6:Ty:=(.cons .str (.cons .bool (.cons .bool (.cons (.falt 83 .nil (.falt 77 .nil (.falt 89 .nil (.falt 78 .nil .nfn)))) (.cons (.int .i64) (.cons (.int .i64) (.one (.falt 84 .nil (.falt 85 .nil (.falt 86 .nil (.falt 88 .nil (.falt 79 .nil (.falt 90 .nil (.falt 80 .nil (.falt 82 .nil .nfn)))))))))))))))
abbrev y7:Ty:=(.one (.falt 45 .nil (.clo 47 .nil)))
abbrev y8:Ty:=(.sl (.int .i64))
abbrev y10:Ty:=(.cons (.int .u64) (.one (.int .u64)))
abbrev y11:Ty:=(.one (.int .i64))
abbrev y2:Ty:=(.agg (.cons (.int .i64) (.cons .str y11)))
abbrev y4:Ty:=(.sl (.agg (.cons .str y11)))
abbrev y0:Ty:=(.cons (.pt (.one y4)) (.cons (.pt (.one .str)) (.one (.pt y7))))
abbrev y9:Ty:=(.agg (.cons (.int .i64) (.cons (.int .i64) (.one (.sl y2)))))
abbrev y12:Ty:=(.sl (.int .u8))
abbrev y13:Ty:=(.agg (.cons (.sl (.sl y1)) (.one (.map .str (.int .i64)))))
abbrev y14:Ty:=(.cons .str (.one .str))
def q0:TC:= [(.c 1 0,.v (.int .u32)),(.c 1 1,.v (.int .u32)),cI 1 2,cI 1 3,cI 1 4,(.c 1 5,.v .str),cI 1 6,(.c 1 7,.v .str),(.c 3 0,.v .str),(.c 3 1,.v .bool),(.c 3 2,.v .bool),(.c 3 3,.v (.falt 83 .nil (.falt 77 .nil (.falt 89 .nil (.falt 78 .nil .nfn))))),cI 3 4,cI 3 5,(.c 3 6,.v (.falt 84 .nil (.falt 85 .nil (.falt 86 .nil (.falt 88 .nil (.falt 79 .nil (.falt 90 .nil (.falt 80 .nil (.falt 82 .nil .nfn))))))))),(.s 1,.ptr 1 0),(.s 3,.ptr 3 0),(.o 1,.box 8 none),(.o 3,.box 7 none)]
def q1:TC:= [(.s 30,.v (.sl y2)),sI 31,sI 32,(.c 8 0,.v (.falt 56 y0 (.clo 57 y5))),(.c 8 1,.v (.falt 56 y0 (.clo 57 y5))),(.c 8 2,.v (.falt 56 y0 (.clo 57 y5))),(.c 8 3,.v (.falt 56 y0 (.clo 57 y5))),(.c 8 4,.v (.falt 56 y0 (.clo 57 y5))),(.c 8 5,.v (.falt 56 y0 (.clo 57 y5))),(.c 8 6,.v (.falt 56 y0 (.clo 57 y5))),(.o 1009,.arr 41 4 y1),(.s 8,.ptr 8 0),(.s 9,.own 1009),(.o 8,.box 7 none)]
def q2:TC:= [(.s 1,.v (.sl y1)),(.s 28,.v (.sl y1)),sI 29,sI 30,(.o 27,.mob 69 .str (.int .i64)),(.s 2,.ptr 2 0),(.s 4,.ptr 4 0),(.s 7,.mp 27),(.c 2 0,.v .nsl),(.c 2 1,.v .nmap),(.c 4 0,.v .nsl),(.c 4 1,.v .nmap),(.o 2,.box 2 none),(.o 4,.box 2 none)]
def q3:TC:= [(.s 1,.v (.pt (.one y4))),(.s 2,.v (.pt (.one .str))),(.s 3,.v (.pt y7)),(.s 14,.v y4),sI 15,sI 16,cI 4 0,(.c 4 1,.v .str),cI 4 2,(.o 1006,.arr 2 1 (.int .i64)),(.s 4,.ptr 4 0),(.s 6,.own 1006),(.o 4,.box 3 none)]
def q4:TC:= [(.s 1,.v (.pt (.one y4))),(.s 2,.v (.pt (.one .str))),(.s 3,.v (.pt y7)),(.s 33,.v y8),sI 34,sI 35,cI 4 0,(.c 4 1,.v .str),cI 4 2,(.o 1011,.arr 41 4 y1),(.s 4,.ptr 4 0),(.s 11,.own 1011),(.o 4,.box 3 none)]
def q5:TC:= [(.s 1,.v (.sl y1)),(.o 27,.mob 69 .str (.int .i64)),(.s 2,.ptr 2 0),(.s 4,.ptr 4 0),(.s 7,.mp 27),(.c 2 0,.v .nsl),(.c 2 1,.v .nmap),(.c 4 0,.v .nsl),(.c 4 1,.v .nmap),(.o 2,.box 2 none),(.o 4,.box 2 none)]
def q6:TC:= [(.s 2,.v (.int .u64)),(.s 8,.v (.int .u64)),(.s 9,.v (.int .u64)),(.s 10,.v (.int .u64)),(.s 11,.v (.int .u64)),(.s 13,.v (.int .u64)),(.s 14,.v (.int .u64)),(.s 15,.v (.int .u64)),(.s 16,.v (.int .u64))]
def q7:TC:= [(.s 2,.v (.int .u64)),(.s 8,.v (.int .u64)),(.s 9,.v (.int .u64)),(.s 10,.v (.int .u64)),(.s 14,.v (.int .u64)),(.s 15,.v (.int .u64)),(.s 16,.v (.int .u64)),(.s 17,.v (.int .u64)),(.s 18,.v (.int .u64))]
def q8:TC:= [(.s 0,.v (.int .u64)),(.s 1,.v (.int .u64)),(.s 9,.v (.int .u64)),(.s 24,.v y8),sI 25,sI 26,(.o 19,.arr 36 1 (.int .i64)),(.o 22,.arr 100 1 (.int .u64)),(.s 7,.own 19),(.s 8,.own 22)]
def q9:TC:= [sI 3,(.s 30,.v (.sl y2)),sI 31,sI 32,cI 1 0,cI 1 1,(.c 1 2,.v (.sl y2)),cI 4 0,(.c 4 1,.v .str),cI 4 2,(.s 1,.ptr 1 0),(.s 4,.ptr 4 0),(.o 1,.box 3 none),(.o 4,.box 3 none)]
def q10:TC:= [(.s 1,.v (.sl y1)),(.s 2,.ptr 2 0),(.s 4,.ptr 4 0),(.c 2 0,.v .nsl),(.c 2 1,.v .nmap),(.c 4 0,.v .nsl),(.c 4 1,.v .nmap),(.o 2,.box 2 none),(.o 4,.box 2 none)]
def q11:TC:= [(.s 9,.v (.int .u64)),sI 14,sI 57,sI 58,(.o 19,.arr 36 1 (.int .i64)),(.o 22,.arr 100 1 (.int .u64)),(.s 7,.own 19),(.s 8,.own 22),(.s 56,.own 22)]
def q12:TC:= [(.s 9,.v (.int .u64)),(.o 19,.arr 36 1 (.int .i64)),(.o 22,.arr 100 1 (.int .u64)),(.s 7,.own 19),(.s 8,.own 22)]
def q13:TC:= [(.s 30,.v (.sl y2)),sI 31,sI 32,cI 1 0,cI 1 1,(.c 1 2,.v (.sl y2)),(.s 1,.ptr 1 0),(.o 1,.box 3 none)]
def q14:TC:= [(.s 1,.v y4),cI 2 0,cI 2 1,(.c 2 2,.v (.sl y2)),(.s 2,.ptr 2 0),(.o 2,.box 3 none)]
def q15:TC:= [(.s 10,.v y4),sI 11,sI 12,(.o 9,.mob 103 .str .bool),(.s 3,.mp 9)]
def q16:TC:= [(.s 0,.v (.int .u64)),(.s 1,.v (.int .u64)),(.s 2,.v (.int .u64))]
def q17:TC:= [sS 0,sS 1,sI 2,sI 3,sI 10,(.o 31,.arr 9 1 .str),(.s 9,.own 31)]
def q18:TC:= [sI 35,sI 36,(.o 33,.arr 36 1 (.int .i64)),(.s 8,.own 33)]
def q19:TC:= [sS 0,sI 1,sI 7,(.o 21,.arr 9 1 .str),(.s 6,.own 21)]
def q20:TC:= [(.s 4,.v (.int .u64)),(.s 15,.v y8),sI 16,sI 17]
def q21:TC:= [(.s 0,.v (.sl y1)),sS 1,sI 5,sI 6]
def q22:TC:= [(.s 11,.v (.sl .str)),sI 12,sI 13]
def q23:TC:= [(.s 14,.v (.sl y1)),sI 15,sI 16]
def q24:TC:= [(.s 17,.v y12),sI 18,sI 19]
def q25:TC:= [(.s 13,.v y12),sI 14,sI 15]
def q26:TC:= [(.s 0,.v (.int .u64)),sI 2]
def q27:TC:= [(.s 9,.v y12),sI 10,sI 11]
abbrev LF:=List (FuncId×Sig)
def LNil:List (FuncId×Sig):= []
def LENil:List (FuncId×SigE):= []
theorem gNil:GoodT Tryz.prog B LNil LENil:=GoodT.nil _ _
noncomputable def s10:Sig:=⟨(.cons y9 (.one y4)),.bool,law34_great⟩
noncomputable def L10:LF:=(10,s10)::LNil
theorem g10:GoodT Tryz.prog B L10 LENil:=.hT gNil [] (by rfl) (by kernel_rfl) (by kernel_rfl)
noncomputable def L48:LF:=(48,⟨(.one .str),.bool,slip_code⟩)::L10
theorem g48:GoodT Tryz.prog B L48 LENil:=.hT g10 [(2,.s [sS 0]),(10,.s []),(14,.l q24 [0] true),(17,.s q24),(21,.s q24),(26,.j [(.s 17,.v y12),sI 18,sI 19,sB 23] [] false)] (by rfl) (by kernel_rfl) (by kernel_rfl)
noncomputable def L37:LF:=(37,⟨y11,.bool,cents_Fits⟩)::L48
theorem g37:GoodT Tryz.prog B L37 LENil:=.hT g48 [] (by rfl) (by kernel_rfl) (by kernel_rfl)
noncomputable def L30:LF:=(30,⟨(.one y2),(.int .i64),slip_line⟩)::L37
theorem g30:GoodT Tryz.prog B L30 LENil:=.hT g37 [(2,.s [])] (by rfl) (by kernel_rfl) (by kernel_rfl)
noncomputable def L31:LF:=(31,⟨(.cons y2 (.one y2)),.bool,slip_less⟩)::L30
theorem g31:GoodT Tryz.prog B L31 LENil:=.hT g30 [] (by rfl) (by kernel_rfl) (by kernel_rfl)
noncomputable def L13:LF:=(13,⟨(.one y9),(.int .i64),slip_Check⟩)::L31
theorem g13:GoodT Tryz.prog B L13 LENil:=.hT g31 [(2,.s [cI 1 0,cI 1 1,(.c 1 2,.v (.sl y2)),(.s 1,.ptr 1 0),(.o 1,.box 3 none)]),(4,.j [sB 7,cI 1 0,cI 1 1,(.c 1 2,.v (.sl y2)),(.s 1,.ptr 1 0),(.o 1,.box 3 none)] [] false),(21,.s []),(25,.l q13 [1] true),(28,.s q13),(32,.j q13 [] true),(36,.s q9),(46,.s q9)] (by rfl) (by kernel_rfl) (by kernel_rfl)
noncomputable def L65:LF:=(65,⟨y11,.bool,fact_known⟩)::L13
theorem g65:GoodT Tryz.prog B L65 LENil:=.hT g13 [] (by rfl) (by kernel_rfl) (by kernel_rfl)
noncomputable def L78:LF:=(78,⟨(.one .str),.bool,fact_isName⟩)::L65
theorem g78:GoodT Tryz.prog B L78 LENil:=.hT g65 [(2,.s [sS 0]),(6,.l [sS 0,sI 6,sI 7] [0] true),(9,.s [sS 0,sI 6,sI 7]),(13,.s [sS 0,sI 6,sI 7])] (by rfl) (by kernel_rfl) (by kernel_rfl)
noncomputable def L77:LF:=(77,⟨(.one .str),.bool,fact_rules_1⟩)::L78
theorem g77:GoodT Tryz.prog B L77 LENil:=.hT g78 [] (by rfl) (by kernel_rfl) (by kernel_rfl)
noncomputable def L79:LF:=(79,⟨(.one y3),.bool,fact_rules_2⟩)::L77
theorem g79:GoodT Tryz.prog B L79 LENil:=.hT g77 [] (by rfl) (by kernel_rfl) (by kernel_rfl)
noncomputable def L81:LF:=(81,⟨(.one .str),.bool,fact_plain⟩)::L79
theorem g81:GoodT Tryz.prog B L81 LENil:=.hT g79 [(2,.s []),(6,.l [sS 0,sI 5,sI 6] [0] true),(9,.s [sS 0,sI 5,sI 6]),(13,.s [sS 0,sI 5,sI 6])] (by rfl) (by kernel_rfl) (by kernel_rfl)
noncomputable def L80:LF:=(80,⟨(.one y3),.bool,fact_rules_3⟩)::L81
theorem g80:GoodT Tryz.prog B L80 LENil:=.hT g81 [] (by rfl) (by kernel_rfl) (by kernel_rfl)
noncomputable def L82:LF:=(82,⟨(.one y3),.bool,fact_rules_4⟩)::L80
theorem g82:GoodT Tryz.prog B L82 LENil:=.hT g80 [] (by rfl) (by kernel_rfl) (by kernel_rfl)
noncomputable def L83:LF:=(83,⟨(.one .str),.bool,fact_empty⟩)::L82
theorem g83:GoodT Tryz.prog B L83 LENil:=.hT g82 [] (by rfl) (by kernel_rfl) (by kernel_rfl)
noncomputable def L84:LF:=(84,⟨(.one y3),.bool,fact_silent⟩)::L83
theorem g84:GoodT Tryz.prog B L84 LENil:=.hT g83 [] (by rfl) (by kernel_rfl) (by kernel_rfl)
noncomputable def L85:LF:=(85,⟨(.one y3),.bool,fact_weekly⟩)::L84
theorem g85:GoodT Tryz.prog B L85 LENil:=.hT g84 [(2,.s []),(3,.r),(4,.r)] (by rfl) (by kernel_rfl) (by kernel_rfl)
noncomputable def L86:LF:=(86,⟨(.one y3),.bool,fact_rules_5⟩)::L85
theorem g86:GoodT Tryz.prog B L86 LENil:=.hT g85 [(2,.s []),(3,.r),(4,.r)] (by rfl) (by kernel_rfl) (by kernel_rfl)
noncomputable def L88:LF:=(88,⟨(.one y3),.bool,fact_night⟩)::L86
theorem g88:GoodT Tryz.prog B L88 LENil:=.hT g86 [(2,.s []),(3,.r),(4,.r)] (by rfl) (by kernel_rfl) (by kernel_rfl)
noncomputable def L89:LF:=(89,⟨(.one .str),.bool,fact_absence⟩)::L88
theorem g89:GoodT Tryz.prog B L89 LENil:=.hT g88 [(2,.s []),(3,.r),(4,.r)] (by rfl) (by kernel_rfl) (by kernel_rfl)
noncomputable def L90:LF:=(90,⟨(.one y3),.bool,fact_rules_6⟩)::L89
theorem g90:GoodT Tryz.prog B L90 LENil:=.hT g89 [(2,.s []),(3,.r),(4,.r)] (by rfl) (by kernel_rfl) (by kernel_rfl)
noncomputable def L66:LF:=(66,⟨.nil,(.agg (.cons .str (.cons .bool (.cons .bool (.cons (.falt 83 .nil (.falt 77 .nil (.falt 89 .nil (.falt 78 .nil .nfn)))) (.cons (.int .i64) (.cons (.int .i64) (.cons (.falt 84 .nil (.falt 85 .nil (.falt 86 .nil (.falt 88 .nil (.falt 79 .nil (.falt 90 .nil (.falt 80 .nil (.falt 82 .nil .nfn)))))))) (.cons .str (.cons .bool (.cons .bool (.cons (.falt 83 .nil (.falt 77 .nil (.falt 89 .nil (.falt 78 .nil .nfn)))) (.cons (.int .i64) (.cons (.int .i64) (.cons (.falt 84 .nil (.falt 85 .nil (.falt 86 .nil (.falt 88 .nil (.falt 79 .nil (.falt 90 .nil (.falt 80 .nil (.falt 82 .nil .nfn)))))))) (.cons .str (.cons .bool (.cons .bool (.cons (.falt 83 .nil (.falt 77 .nil (.falt 89 .nil (.falt 78 .nil .nfn)))) (.cons (.int .i64) (.cons (.int .i64) (.cons (.falt 84 .nil (.falt 85 .nil (.falt 86 .nil (.falt 88 .nil (.falt 79 .nil (.falt 90 .nil (.falt 80 .nil (.falt 82 .nil .nfn)))))))) (.cons .str (.cons .bool (.cons .bool (.cons (.falt 83 .nil (.falt 77 .nil (.falt 89 .nil (.falt 78 .nil .nfn)))) (.cons (.int .i64) (.cons (.int .i64) (.cons (.falt 84 .nil (.falt 85 .nil (.falt 86 .nil (.falt 88 .nil (.falt 79 .nil (.falt 90 .nil (.falt 80 .nil (.falt 82 .nil .nfn)))))))) (.cons .str (.cons .bool (.cons .bool (.cons (.falt 83 .nil (.falt 77 .nil (.falt 89 .nil (.falt 78 .nil .nfn)))) (.cons (.int .i64) (.cons (.int .i64) (.cons (.falt 84 .nil (.falt 85 .nil (.falt 86 .nil (.falt 88 .nil (.falt 79 .nil (.falt 90 .nil (.falt 80 .nil (.falt 82 .nil .nfn)))))))) (.cons .str (.cons .bool (.cons .bool (.cons (.falt 83 .nil (.falt 77 .nil (.falt 89 .nil (.falt 78 .nil .nfn)))) (.cons (.int .i64) (.cons (.int .i64) (.cons (.falt 84 .nil (.falt 85 .nil (.falt 86 .nil (.falt 88 .nil (.falt 79 .nil (.falt 90 .nil (.falt 80 .nil (.falt 82 .nil .nfn)))))))) (.cons .str (.cons .bool (.cons .bool (.cons (.falt 83 .nil (.falt 77 .nil (.falt 89 .nil (.falt 78 .nil .nfn)))) (.cons (.int .i64) (.cons (.int .i64) (.cons (.falt 84 .nil (.falt 85 .nil (.falt 86 .nil (.falt 88 .nil (.falt 79 .nil (.falt 90 .nil (.falt 80 .nil (.falt 82 .nil .nfn)))))))) (.cons .str (.cons .bool (.cons .bool (.cons (.falt 83 .nil (.falt 77 .nil (.falt 89 .nil (.falt 78 .nil .nfn)))) (.cons (.int .i64) (.cons (.int .i64) (.cons (.falt 84 .nil (.falt 85 .nil (.falt 86 .nil (.falt 88 .nil (.falt 79 .nil (.falt 90 .nil (.falt 80 .nil (.falt 82 .nil .nfn)))))))) (.cons .str (.cons .bool (.cons .bool (.cons (.falt 83 .nil (.falt 77 .nil (.falt 89 .nil (.falt 78 .nil .nfn)))) (.cons (.int .i64) (.cons (.int .i64) (.cons (.falt 84 .nil (.falt 85 .nil (.falt 86 .nil (.falt 88 .nil (.falt 79 .nil (.falt 90 .nil (.falt 80 .nil (.falt 82 .nil .nfn)))))))) (.cons .str (.cons .bool (.cons .bool (.cons (.falt 83 .nil (.falt 77 .nil (.falt 89 .nil (.falt 78 .nil .nfn)))) (.cons (.int .i64) (.cons (.int .i64) (.cons (.falt 84 .nil (.falt 85 .nil (.falt 86 .nil (.falt 88 .nil (.falt 79 .nil (.falt 90 .nil (.falt 80 .nil (.falt 82 .nil .nfn)))))))) (.cons .str (.cons .bool (.cons .bool (.cons (.falt 83 .nil (.falt 77 .nil (.falt 89 .nil (.falt 78 .nil .nfn)))) (.cons (.int .i64) (.cons (.int .i64) (.cons (.falt 84 .nil (.falt 85 .nil (.falt 86 .nil (.falt 88 .nil (.falt 79 .nil (.falt 90 .nil (.falt 80 .nil (.falt 82 .nil .nfn)))))))) (.cons .str (.cons .bool (.cons .bool (.cons (.falt 83 .nil (.falt 77 .nil (.falt 89 .nil (.falt 78 .nil .nfn)))) (.cons (.int .i64) (.cons (.int .i64) (.cons (.falt 84 .nil (.falt 85 .nil (.falt 86 .nil (.falt 88 .nil (.falt 79 .nil (.falt 90 .nil (.falt 80 .nil (.falt 82 .nil .nfn)))))))) (.cons .str (.cons .bool (.cons .bool (.cons (.falt 83 .nil (.falt 77 .nil (.falt 89 .nil (.falt 78 .nil .nfn)))) (.cons (.int .i64) (.cons (.int .i64) (.cons (.falt 84 .nil (.falt 85 .nil (.falt 86 .nil (.falt 88 .nil (.falt 79 .nil (.falt 90 .nil (.falt 80 .nil (.falt 82 .nil .nfn)))))))) (.cons .str (.cons .bool (.cons .bool (.cons (.falt 83 .nil (.falt 77 .nil (.falt 89 .nil (.falt 78 .nil .nfn)))) (.cons (.int .i64) (.cons (.int .i64) (.cons (.falt 84 .nil (.falt 85 .nil (.falt 86 .nil (.falt 88 .nil (.falt 79 .nil (.falt 90 .nil (.falt 80 .nil (.falt 82 .nil .nfn)))))))) (.cons .str (.cons .bool (.cons .bool (.cons (.falt 83 .nil (.falt 77 .nil (.falt 89 .nil (.falt 78 .nil .nfn)))) (.cons (.int .i64) (.cons (.int .i64) (.cons (.falt 84 .nil (.falt 85 .nil (.falt 86 .nil (.falt 88 .nil (.falt 79 .nil (.falt 90 .nil (.falt 80 .nil (.falt 82 .nil .nfn)))))))) (.cons .str (.cons .bool (.cons .bool (.cons (.falt 83 .nil (.falt 77 .nil (.falt 89 .nil (.falt 78 .nil .nfn)))) (.cons (.int .i64) (.cons (.int .i64) (.cons (.falt 84 .nil (.falt 85 .nil (.falt 86 .nil (.falt 88 .nil (.falt 79 .nil (.falt 90 .nil (.falt 80 .nil (.falt 82 .nil .nfn)))))))) (.cons .str (.cons .bool (.cons .bool (.cons (.falt 83 .nil (.falt 77 .nil (.falt 89 .nil (.falt 78 .nil .nfn)))) (.cons (.int .i64) (.cons (.int .i64) (.cons (.falt 84 .nil (.falt 85 .nil (.falt 86 .nil (.falt 88 .nil (.falt 79 .nil (.falt 90 .nil (.falt 80 .nil (.falt 82 .nil .nfn)))))))) (.cons .str (.cons .bool (.cons .bool (.cons (.falt 83 .nil (.falt 77 .nil (.falt 89 .nil (.falt 78 .nil .nfn)))) (.cons (.int .i64) (.cons (.int .i64) (.cons (.falt 84 .nil (.falt 85 .nil (.falt 86 .nil (.falt 88 .nil (.falt 79 .nil (.falt 90 .nil (.falt 80 .nil (.falt 82 .nil .nfn)))))))) y6))))))))))))))))))))))))))))))))))))))))))))))))))))))))))))))))))))))))))))))))))))))))))))))))))))))))))))))))))))))))))))))),fact_rules⟩)::L90
theorem g66:GoodT Tryz.prog B L66 LENil:=.hT g90 [] (by rfl) (by kernel_rfl) (by kernel_rfl)
noncomputable def L67:LF:=(67,⟨(.cons y3 (.one (.agg y6))),(.int .i64),fact_Fact_days⟩)::L66
theorem g67:GoodT Tryz.prog B L67 LENil:=.hT g66 [(2,.s []),(4,.j [sB 5,(.c 2 0,.v (.int .u32)),(.c 2 1,.v (.int .u32)),cI 2 2,cI 2 3,cI 2 4,(.c 2 5,.v .str),cI 2 6,(.c 2 7,.v .str),(.c 3 0,.v .str),(.c 3 1,.v .bool),(.c 3 2,.v .bool),(.c 3 3,.v (.falt 83 .nil (.falt 77 .nil (.falt 89 .nil (.falt 78 .nil .nfn))))),cI 3 4,cI 3 5,(.c 3 6,.v (.falt 84 .nil (.falt 85 .nil (.falt 86 .nil (.falt 88 .nil (.falt 79 .nil (.falt 90 .nil (.falt 80 .nil (.falt 82 .nil .nfn))))))))),(.s 2,.ptr 2 0),(.s 3,.ptr 3 0),(.o 2,.box 8 none),(.o 3,.box 7 none)] [] false)] (by rfl) (by kernel_rfl) (by kernel_rfl)
noncomputable def L55:LF:=(55,⟨(.one y3),(.int .i64),fact_Fact_Check⟩)::L67
theorem g55:GoodT Tryz.prog B L55 LENil:=.hT g67 [(2,.s [(.c 1 0,.v (.int .u32)),(.c 1 1,.v (.int .u32)),cI 1 2,cI 1 3,cI 1 4,(.c 1 5,.v .str),cI 1 6,(.c 1 7,.v .str),(.s 1,.ptr 1 0),(.o 1,.box 8 none)]),(12,.s q0),(20,.s q0),(30,.s [])] (by rfl) (by kernel_rfl) (by kernel_rfl)
noncomputable def L43:LF:=(43,⟨(.one .str),.bool,post_name⟩)::L55
theorem g43:GoodT Tryz.prog B L43 LENil:=.hT g55 [] (by rfl) (by kernel_rfl) (by kernel_rfl)
noncomputable def L28:LF:=(28,⟨(.one y4),(.int .i64),post_check⟩)::L43
theorem g28:GoodT Tryz.prog B L28 LENil:=.hT g43 [(2,.s [(.s 0,.v y4)]),(12,.s []),(16,.l q15 [0] true),(19,.s q15),(23,.s q15),(27,.s [(.s 10,.v y4),sI 11,sI 12,(.c 5 0,.v .str),cI 5 1,(.o 9,.mob 103 .str .bool),(.s 3,.mp 9),(.s 5,.ptr 5 0),(.o 5,.box 2 none)]),(35,.j [(.s 10,.v y4),sI 11,sI 12,sB 21,(.c 5 0,.v .str),cI 5 1,(.o 9,.mob 103 .str .bool),(.s 3,.mp 9),(.s 5,.ptr 5 0),(.o 5,.box 2 none)] [] false)] (by rfl) (by kernel_rfl) (by kernel_rfl)
noncomputable def L49:LF:=(49,⟨y11,.bool,share_fits⟩)::L28
theorem g49:GoodT Tryz.prog B L49 LENil:=.hT g28 [] (by rfl) (by kernel_rfl) (by kernel_rfl)
noncomputable def L50:LF:=(50,⟨(.one y8),(.tup (.cons (.int .u64) y11)),share_sum⟩)::L49
theorem g50:GoodT Tryz.prog B L50 LENil:=.hT g49 [(2,.s [(.s 0,.v y8)]),(19,.s [(.s 4,.v (.int .u64))]),(23,.l q20 [1] true),(26,.s q20),(30,.s q20),(34,.s [(.s 4,.v (.int .u64)),sI 6,(.s 15,.v y8),sI 16,sI 17]),(44,.s [(.s 4,.v (.int .u64))])] (by rfl) (by kernel_rfl) (by kernel_rfl)
noncomputable def L68:LF:=(68,⟨y10,(.tup y10),math_bits_Mul64⟩)::L50
theorem g68:GoodT Tryz.prog B L68 LENil:=.hT g50 [] (by rfl) (by kernel_rfl) (by kernel_rfl)
noncomputable def L71:LF:=(71,⟨(.one (.int .u64)),(.int .i64),math_bits_Len64⟩)::L68
theorem g71:GoodT Tryz.prog B L71 LENil:=.hT g68 [(2,.j q26 [] false),(10,.j q26 [] false),(18,.j q26 [] false)] (by rfl) (by kernel_rfl) (by kernel_rfl)
noncomputable def L92:LF:=(92,⟨(.one (.int .u64)),(.int .i64),math_bits_LeadingZeros64⟩)::L71
theorem g92:GoodT Tryz.prog B L92 LENil:=.hT g71 [] (by rfl) (by kernel_rfl) (by kernel_rfl)
noncomputable def L69:LF:=(69,⟨(.cons (.int .u64) y10),(.tup y10),math_bits_Div64⟩)::L92
theorem g69:GoodT Tryz.prog B L69 LENil:=.hT g92 [(2,.s q16),(6,.r),(8,.s q16),(12,.r),(14,.s q16),(42,.j [(.s 2,.v (.int .u64)),(.s 8,.v (.int .u64)),(.s 9,.v (.int .u64)),(.s 10,.v (.int .u64)),(.s 11,.v (.int .u64)),(.s 13,.v (.int .u64)),(.s 14,.v (.int .u64)),(.s 15,.v (.int .u64))] [] false),(44,.l q6 [0] false),(45,.s q6),(67,.j [(.s 2,.v (.int .u64)),(.s 8,.v (.int .u64)),(.s 14,.v (.int .u64)),(.s 15,.v (.int .u64)),(.s 17,.v (.int .u64)),(.s 18,.v (.int .u64))] [] false),(69,.l q7 [2] false),(70,.s q7)] (by rfl) (by kernel_rfl) (by kernel_rfl)
noncomputable def L58:LF:=(58,⟨(.cons (.int .u64) y10),(.tup y10),share_part⟩)::L69
theorem g58:GoodT Tryz.prog B L58 LENil:=.hT g69 [] (by rfl) (by kernel_rfl) (by kernel_rfl)
noncomputable def L51:LF:=(51,⟨(.cons (.int .u64) (.cons (.int .u64) (.one y8))),(.nw 36 1 (.int .i64)),share_split⟩)::L58
theorem g51:GoodT Tryz.prog B L51 LENil:=.hN g58 [(8,.s q12),(12,.l q8 [0] false),(15,.s q8),(19,.s q8),(29,.s [(.o 19,.arr 36 1 (.int .i64)),(.s 7,.own 19)]),(31,.l q12 [2] false),(32,.s q12),(38,.s q12),(42,.s [(.s 9,.v (.int .u64)),sI 14,(.o 19,.arr 36 1 (.int .i64)),(.o 22,.arr 100 1 (.int .u64)),(.s 7,.own 19),(.s 8,.own 22)]),(46,.l q11 [4] false),(49,.s q11),(53,.j q11 [] false)] (by rfl) (by kernel_rfl) (by kernel_rfl)
noncomputable def L34:LF:=(34,⟨(.cons (.int .i64) (.one y8)),(.tup (.cons y8 y11)),share_Split⟩)::L51
theorem g34:GoodT Tryz.prog B L34 LENil:=.hT g51 [(2,.s [sI 0,(.s 1,.v y8)]),(12,.s [sI 0,(.s 1,.v y8),(.s 6,.v (.int .u64))]),(20,.s [sI 0,(.s 1,.v y8),(.s 6,.v (.int .u64))]),(30,.s [(.o 33,.arr 36 1 (.int .i64)),(.s 8,.own 33)]),(34,.l q18 [0] false),(37,.s q18),(41,.s q18)] (by rfl) (by kernel_rfl) (by kernel_rfl)
noncomputable def L38:LF:=(38,⟨(.cons .str (.cons .str (.cons (.int .i64) (.one .str)))),(.sl y1),post_entry⟩)::L34
theorem g38:GoodT Tryz.prog B L38 LENil:=.hT g34 [(2,.j [sS 0,sS 1,sI 2,sS 3] [] true)] (by rfl) (by kernel_rfl) (by kernel_rfl)
noncomputable def L44:LF:=(44,⟨(.cons y4 (.cons .str y7)),(.agg (.one (.clo 56 y0))),post_split⟩)::L38
theorem g44:GoodT Tryz.prog B L44 LENil:=.hT g38 [(3,.t [(0,.frzb 3),(0,.frzb 4),(0,.frzb 5)])] (by rfl) (by kernel_rfl) (by kernel_rfl)
noncomputable def L45:LF:=(45,⟨(.one y2),.str,post_ways_1⟩)::L44
theorem g45:GoodT Tryz.prog B L45 LENil:=.hT g44 [] (by rfl) (by kernel_rfl) (by kernel_rfl)
noncomputable def L46:LF:=(46,⟨(.one .str),(.agg (.one (.clo 57 y5))),post_owed⟩)::L45
theorem g46:GoodT Tryz.prog B L46 LENil:=.hT g45 [(3,.t [(0,.frzb 1)])] (by rfl) (by kernel_rfl) (by kernel_rfl)
noncomputable def L47:LF:=(47,⟨(.one y2),.str,post_ways_2⟩)::L46
theorem g47:GoodT Tryz.prog B L47 LENil:=.hT g46 [] (by rfl) (by kernel_rfl) (by kernel_rfl)
noncomputable def L29:LF:=(29,⟨(.one y4),(.agg (.cons (.falt 56 y0 (.clo 57 y5)) (.cons (.falt 56 y0 (.clo 57 y5)) (.cons (.falt 56 y0 (.clo 57 y5)) (.cons (.falt 56 y0 (.clo 57 y5)) (.cons (.falt 56 y0 (.clo 57 y5)) (.cons (.falt 56 y0 (.clo 57 y5)) (.one (.falt 56 y0 (.clo 57 y5)))))))))),post_ways⟩)::L47
theorem g29:GoodT Tryz.prog B L29 LENil:=.hT g47 [] (by rfl) (by kernel_rfl) (by kernel_rfl)
noncomputable def L56:LF:=(56,⟨(.cons y2 y0),(.sl y1),post_split_1⟩)::L29
theorem g56:GoodT Tryz.prog B L56 LENil:=.hT g29 [(4,.g (.own 6 1006 2 1)),(4,.s [(.s 1,.v (.pt (.one y4))),(.s 2,.v (.pt (.one .str))),(.s 3,.v (.pt y7)),cI 4 0,(.c 4 1,.v .str),cI 4 2,(.o 1006,.arr 2 1 (.int .i64)),(.s 4,.ptr 4 0),(.s 6,.own 1006),(.o 4,.box 3 none)]),(8,.l q3 [0] false),(11,.s q3),(15,.s q3),(22,.t [(3,.frz 29)]),(25,.g (.own 11 1011 41 4)),(25,.s [(.o 1011,.arr 41 4 y1),(.s 11,.own 1011)]),(29,.l q4 [2] false),(32,.s q4),(36,.s q4)] (by rfl) (by kernel_rfl) (by kernel_rfl)
noncomputable def L57:LF:=(57,⟨(.cons y2 y5),(.sl y1),post_owed_1⟩)::L56
theorem g57:GoodT Tryz.prog B L57 LENil:=.hT g56 [] (by rfl) (by kernel_rfl) (by kernel_rfl)
noncomputable def L12:LF:=(12,⟨(.cons y9 (.one y4)),(.tup (.cons (.sl y1) y11)),post_Of⟩)::L57
theorem g12:GoodT Tryz.prog B L12 LENil:=.hT g57 [(2,.s q14),(12,.s q14),(22,.j q14 [] false),(26,.t [(3,.frz 1)]),(32,.g (.own 9 1009 41 4)),(32,.s [(.o 1009,.arr 41 4 y1),(.s 9,.own 1009)]),(36,.l q1 [0] false),(39,.s q1),(43,.s q1)] (by rfl) (by kernel_rfl) (by kernel_rfl)
noncomputable def s11:Sig:=⟨.nil,.bool,law34_awake⟩
noncomputable def L11:LF:=(11,s11)::L12
theorem g11:GoodT Tryz.prog B L11 LENil:=.hT g12 [(3,.t [(2,.frz 7)]),(5,.t [(2,.frz 17)])] (by rfl) (by kernel_rfl) (by kernel_rfl)
noncomputable def L114:LF:=(114,⟨(.one .str),(.int .i64),unicode_utf8_RuneCountInString⟩)::L11
theorem g114:GoodT Tryz.prog B L114 LENil:=.hT g11 [(2,.s []),(3,.s []),(4,.r),(5,.r),(6,.r)] (by rfl) (by kernel_rfl) (by kernel_rfl)
noncomputable def L123:LF:=(123,⟨(.one .str),(.tup (.cons (.int .i32) y11)),unicode_utf8_decodeRuneInStringSlow⟩)::L114
theorem g123:GoodT Tryz.prog B L123 LENil:=.hT g114 [(4,.s [sS 0,sI 4]),(14,.s []),(15,.r),(16,.r)] (by rfl) (by kernel_rfl) (by kernel_rfl)
noncomputable def L115:LF:=(115,⟨(.one .str),(.tup (.cons (.int .i32) y11)),unicode_utf8_DecodeRuneInString⟩)::L123
theorem g115:GoodT Tryz.prog B L115 LENil:=.hT g123 [(2,.s [(.s 2,.v (.int .i32)),sI 3])] (by rfl) (by kernel_rfl) (by kernel_rfl)
noncomputable def L102:LF:=(102,⟨(.cons .str y11),(.sl .str),strings_explode⟩)::L115
theorem g102:GoodT Tryz.prog B L102 LENil:=.hT g115 [(4,.j [sS 0,sI 1] [] false),(12,.s [sS 0,sI 1,(.o 21,.arr 9 1 .str),(.s 6,.own 21)]),(16,.l q19 [0] false),(17,.s q19),(23,.s q19),(31,.j [(.o 21,.arr 9 1 .str),(.s 6,.own 21)] [] false)] (by rfl) (by kernel_rfl) (by kernel_rfl)
noncomputable def s103:Sig:=⟨y14,(.int .i64),strings_Count⟩
noncomputable def L103:LF:=(103,s103)::L102
theorem g103:GoodT Tryz.prog B L103 LENil:=GoodT.addM g102 103 s103 (by rfl) fun _ _ _ hx hy=>strings_Count_ok (by kernel_rfl) Go.Proofs.Tryz.strings_Count_one hx hy
noncomputable def s117:Sig:=⟨y14,(.int .i64),internal_stringslite_Index⟩
noncomputable def L117:LF:=(117,s117)::L103
theorem g117:GoodT Tryz.prog B L117 LENil:=GoodT.addM g103 117 s117 (by rfl) fun _ _ _ hx hy=>internal_stringslite_Index_ok (by kernel_rfl) Go.Proofs.Tryz.stringslite_Index_one hx hy
noncomputable def L104:LF:=(104,⟨y14,(.int .i64),strings_Index⟩)::L117
theorem g104:GoodT Tryz.prog B L104 LENil:=.hT g117 [] (by rfl) (by kernel_rfl) (by kernel_rfl)
noncomputable def L95:LF:=(95,⟨(.cons .str (.cons .str (.cons (.int .i64) y11))),(.sl .str),strings_genSplit⟩)::L104
theorem g95:GoodT Tryz.prog B L95 LENil:=.hT g104 [(2,.s [sS 0,sS 1,sI 2,sI 3]),(10,.s [sS 0,sS 1,sI 2,sI 3]),(18,.j [sS 0,sS 1,sI 2,sI 3] [] false),(32,.j [sS 0,sI 10,(.o 31,.arr 9 1 .str),(.s 9,.own 31)] [] false),(34,.l q17 [0] false),(35,.s q17),(44,.s [sS 0,sS 1,sI 2,sI 3,sI 10,sI 11,(.o 31,.arr 9 1 .str),(.s 9,.own 31)]),(58,.t [(3,.frz 62)])] (by rfl) (by kernel_rfl) (by kernel_rfl)
noncomputable def L75:LF:=(75,⟨y14,(.sl .str),strings_Split⟩)::L95
theorem g75:GoodT Tryz.prog B L75 LENil:=.hT g95 [] (by rfl) (by kernel_rfl) (by kernel_rfl)
noncomputable def L76:LF:=(76,⟨(.one .str),.bool,ledger_part⟩)::L75
theorem g76:GoodT Tryz.prog B L76 LENil:=.hT g75 [(2,.s [sS 0]),(10,.s []),(14,.l q25 [0] true),(17,.s q25),(21,.s q25),(26,.j [(.s 13,.v y12),sI 14,sI 15,sB 19] [] false)] (by rfl) (by kernel_rfl) (by kernel_rfl)
noncomputable def L63:LF:=(63,⟨(.one .str),.bool,ledger_Account_right⟩)::L76
theorem g63:GoodT Tryz.prog B L63 LENil:=.hT g76 [(4,.s [(.s 3,.v (.sl .str))]),(12,.s []),(16,.l q22 [0] true),(19,.s q22),(23,.s q22)] (by rfl) (by kernel_rfl) (by kernel_rfl)
noncomputable def L64:LF:=(64,⟨(.one .str),.bool,ledger_note⟩)::L63
theorem g64:GoodT Tryz.prog B L64 LENil:=.hT g63 [(2,.s [sS 0]),(10,.s []),(14,.l q27 [0] true),(17,.s q27),(21,.s q27)] (by rfl) (by kernel_rfl) (by kernel_rfl)
noncomputable def L53:LF:=(53,⟨(.one y1),(.int .i64),ledger_Entry_check⟩)::L64
theorem g53:GoodT Tryz.prog B L53 LENil:=.hT g64 [(2,.s []),(4,.j [sB 3,(.c 1 0,.v .str),(.c 1 1,.v .str),cI 1 2,(.c 1 3,.v .str),(.s 1,.ptr 1 0),(.o 1,.box 4 none)] [] false)] (by rfl) (by kernel_rfl) (by kernel_rfl)
noncomputable def L40:LF:=(40,⟨(.one (.sl y1)),(.int .i64),ledger_batch⟩)::L53
theorem g40:GoodT Tryz.prog B L40 LENil:=.hT g53 [(2,.s [(.s 0,.v (.sl y1))]),(17,.s []),(21,.l q23 [1] true),(24,.s q23),(28,.s q23)] (by rfl) (by kernel_rfl) (by kernel_rfl)
noncomputable def s42:Sig:=⟨(.one (.sl y1)),(.sl y1),slices_Clone⟩
noncomputable def L42:LF:=(42,s42)::L40
theorem g42:GoodT Tryz.prog B L42 LENil:=GoodT.addM g40 42 s42 (by rfl) fun _ _ _ hx hy=>clone_ok (t:=y1) (e:=41) (size:=4) (bytes:=56) g40.E (by kernel_rfl) (by rfl) (by rfl) (by rfl) hx hy
noncomputable def L26:LF:=(26,⟨(.one y13),(.int .i64),ledger_Ledger_Trial⟩)::L42
theorem g26:GoodT Tryz.prog B L26 LENil:=.hT g42 [(4,.s [sI 3]),(8,.m [sI 3] [0] false)] (by rfl) (by kernel_rfl) (by kernel_rfl)
noncomputable def L27:LF:=(27,⟨(.cons y13 (.one .str)),(.int .i64),ledger_Ledger_Balance⟩)::L26
theorem g27:GoodT Tryz.prog B L27 LENil:=.hT g26 [] (by rfl) (by kernel_rfl) (by kernel_rfl)
noncomputable def s35:Sig:=⟨y14,.bool,law34_begins⟩
noncomputable def L35:LF:=(35,s35)::L27
theorem g35:GoodT Tryz.prog B L35 LENil:=.hT g27 [] (by rfl) (by kernel_rfl) (by kernel_rfl)
noncomputable def s17:Sig:=⟨(.cons (.sl y1) (.one .str)),(.int .i64),law34_sum⟩
noncomputable def L17:LF:=(17,s17)::L35
theorem g17:GoodT Tryz.prog B L17 LENil:=.hT g35 [(4,.s [sI 5]),(8,.l q21 [0] false),(9,.s q21),(15,.j q21 [] false),(17,.j q21 [] false)] (by rfl) (by kernel_rfl) (by kernel_rfl)
noncomputable def L41:LF:=(41,⟨(.one .nmap),.nmap,maps_Clone⟩)::L17
theorem g41:GoodT Tryz.prog B L41 LENil:=.hT g17 [(2,.s []),(9,.r),(10,.r)] (by rfl) (by kernel_rfl) (by kernel_rfl)
noncomputable def L25:LF:=(25,⟨(.cons (.agg (.cons .nsl (.one .nmap))) (.one (.sl y1))),(.tup (.cons y13 y11)),ledger_Ledger_Post⟩)::L41
theorem g25:GoodT Tryz.prog B L25 LENil:=.hT g41 [(2,.s q10),(12,.s q10),(22,.s q5),(27,.r),(28,.s q5),(32,.l q2 [0] true),(35,.s q2),(39,.s q2),(58,.g (.frz 7))] (by rfl) (by kernel_rfl) (by kernel_rfl)
noncomputable def s9:Sig:=⟨(.cons y9 (.one y4)),.bool,law34_PostPosts⟩
noncomputable def L9:LF:=(9,s9)::L25
theorem g9:GoodT Tryz.prog B L9 LENil:=.hT g25 [(2,.s q14),(12,.s [(.s 5,.v (.sl y1))]),(24,.s [(.s 5,.v (.sl y1)),sI 9,(.c 8 0,.v (.sl (.sl y1))),(.c 8 1,.v (.map .str (.int .i64))),(.s 8,.ptr 8 0),(.o 8,.box 2 none)])] (by rfl) (by kernel_rfl) (by kernel_rfl)
end WB
namespace WB
open Go Go.RowKit Go.Proofs
def tabsR:List (String×DataW Unit):=Go.Proofs.YtimkfmkhmfcjeaaGreatDoor.Rows.postPostsRow.laid
noncomputable def laidW(os:Os):World:=World.laidAll Tryz.prog os tabsR
theorem laid_met(os:Os)(args:Array Value):laidMet Tryz.prog tabsR ((laidW os).forCall (fun _ _=>0) ⟨#[],args,[]⟩).memory:=
 laidMet_laidAll args (by kernel_rfl) (by kernel_rfl)
end WB
namespace WB
open Go Go.RowKit Go.Proofs
theorem gok{W:World}(h:laidMetH Tryz.prog tabsR W):GOk B.G W noM:=fun i hi=>absurd rfl hi
end WB
