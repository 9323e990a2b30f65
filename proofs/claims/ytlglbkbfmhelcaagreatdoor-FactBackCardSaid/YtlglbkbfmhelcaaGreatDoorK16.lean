/-
  A SEAT's FUNCTIONS do what they do over plain data (printed by wip/genseat.py).
-/
import Derived.Test.YtlglbkbfmhelcaaGreatDoorK9
import Derived.Test.YtlglbkbfmhelcaaGreatDoorK5
import Derived.Test.YtlglbkbfmhelcaaGreatDoorProg
import Derived.Test.YtlglbkbfmhelcaaGreatDoorK15
import Derived.KernelRfl
set_option linter.unusedVariables false
set_option linter.unusedSimpArgs false
open Go.IntKind (i64 u64 u8 u32)
namespace WB
set_option maxHeartbeats 4000000
open Go Go.RowKit Go.Proofs
def lkT{α:Type}:List (Nat×α)→Nat→Option α
 | [],_=>none
 |e::l,i=>if e.1=i then some e.2 else lkT l i
def B:TB:=⟨fun i=>if i=1 then [.int .i64 31,.int .i64 28,.int .i64 31,.int .i64 30,.int .i64 31,.int .i64 30,.int .i64 31,.int .i64 31,.int .i64 30,.int .i64 31,.int .i64 30,.int .i64 31]else if i=0 then Lib.pow10Tab.map fun z=>.int .u64 z else if i=3 then [.ifc]else if i=4 then [.ifc]else [],lkT [(9,.str),(5,(.int .u8)),(3,(.int .i64))],lkT [(117,(.str,(.int .i64)))],fun f=>false⟩
abbrev y0:Ty:=(.agg (.cons (.int .u32) (.cons (.int .u32) (.cons (.int .i64) (.cons (.int .i64) (.cons (.int .i64) (.cons .str (.cons (.int .i64) (.one .str)))))))))
abbrev y2:Ty:=(.one (.int .i64))
abbrev y3:Ty:=(.cons .str (.cons .bool (.cons .bool (.cons (.falt 60 .nil (.falt 54 .nil (.falt 66 .nil (.falt 55 .nil .nfn)))) (.cons (.int .i64) (.cons (.int .i64) (.one (.falt 61 .nil (.falt 62 .nil (.falt 63 .nil (.falt 65 .nil (.falt 56 .nil (.falt 67 .nil (.falt 57 .nil (.falt 59 .nil .nfn)))))))))))))))
abbrev y4:Ty:=(.cons .str (.one .str))
abbrev y5:Ty:=(.cons (.int .i64) y2)
abbrev y1:Ty:=(.agg (.cons (.int .i64) (.cons (.int .i64) (.cons (.int .i64) (.cons (.int .i64) (.cons (.int .i64) y5))))))
abbrev y6:Ty:=(.cons .str (.one .bool))
abbrev y7:Ty:=(.sl (.int .u8))
def q0:TC:= [(.c 1 0,.v (.int .u32)),(.c 1 1,.v (.int .u32)),cI 1 2,cI 1 3,cI 1 4,(.c 1 5,.v .str),cI 1 6,(.c 1 7,.v .str),(.c 3 0,.v .str),(.c 3 1,.v .bool),(.c 3 2,.v .bool),(.c 3 3,.v (.falt 60 .nil (.falt 54 .nil (.falt 66 .nil (.falt 55 .nil .nfn))))),cI 3 4,cI 3 5,(.c 3 6,.v (.falt 61 .nil (.falt 62 .nil (.falt 63 .nil (.falt 65 .nil (.falt 56 .nil (.falt 67 .nil (.falt 57 .nil (.falt 59 .nil .nfn))))))))),(.s 1,.ptr 1 0),(.s 3,.ptr 3 0),(.o 1,.box 8),(.o 3,.box 7)]
def q1:TC:= [(.s 4,.v (.sl .str)),sI 8,(.c 2 0,.v (.int .u32)),(.c 2 1,.v (.int .u32)),cI 2 2,cI 2 3,cI 2 4,(.c 2 5,.v .str),cI 2 6,(.c 2 7,.v .str),(.c 7 0,.v (.int .u32)),(.c 7 1,.v (.int .u32)),cI 7 2,cI 7 3,cI 7 4,(.c 7 5,.v .str),cI 7 6,(.c 7 7,.v .str),(.c 1048576 0,.v .bool),(.s 2,.ptr 2 0),(.s 5,.v (.nam 1048576)),(.s 7,.ptr 7 0),(.o 2,.box 8),(.o 7,.box 8),(.o 1048576,.box 1)]
def q2:TC:= [(.c 2 0,.v (.int .u32)),(.c 2 1,.v (.int .u32)),cI 2 2,cI 2 3,cI 2 4,(.c 2 5,.v .str),cI 2 6,(.c 2 7,.v .str),(.c 7 0,.v (.int .u32)),(.c 7 1,.v (.int .u32)),cI 7 2,cI 7 3,cI 7 4,(.c 7 5,.v .str),cI 7 6,(.c 7 7,.v .str),(.c 1048576 0,.v .bool),(.s 2,.ptr 2 0),(.s 7,.ptr 7 0),(.o 2,.box 8),(.o 7,.box 8),(.o 1048576,.box 1)]
def q3:TC:= [sS 2,(.c 3 0,.v (.int .u32)),(.c 3 1,.v (.int .u32)),cI 3 2,cI 3 3,cI 3 4,(.c 3 5,.v .str),cI 3 6,(.c 3 7,.v .str),(.c 4 0,.v (.int .u32)),(.c 4 1,.v (.int .u32)),cI 4 2,cI 4 3,cI 4 4,(.c 4 5,.v .str),cI 4 6,(.c 4 7,.v .str),(.s 3,.ptr 3 0),(.s 4,.ptr 4 0),(.o 3,.box 8),(.o 4,.box 8)]
def q4:TC:= [sI 5,sI 6,(.s 7,.v (.int .u8)),(.s 11,.v y7),sI 12,sI 13,cI 2 0,cI 2 1,cI 2 2,cI 2 3,cI 2 4,cI 2 5,cI 2 6,cI 4 0,cI 4 1,cI 4 2,cI 4 3,cI 4 4,cI 4 5,cI 4 6,(.s 2,.ptr 2 0),(.s 4,.ptr 4 0),(.o 2,.box 7),(.o 4,.box 7)]
def q5:TC:= [(.c 1 0,.v (.int .u32)),(.c 1 1,.v (.int .u32)),cI 1 2,cI 1 3,cI 1 4,(.c 1 5,.v .str),cI 1 6,(.c 1 7,.v .str),(.s 1,.ptr 1 0),(.o 1,.box 8)]
def q6:TC:= [(.s 3,.v (.sl .str)),(.s 15,.v (.sl .str)),sI 16,sI 17,(.o 14,.mob 117 .str (.int .i64)),(.s 4,.mp 14)]
def q7:TC:= [sI 3,sI 4,sI 5,cI 2 0,cI 2 1,cI 2 2,(.s 2,.ptr 2 0),(.o 2,.box 3)]
def q8:TC:= [sS 0,sS 1,sI 2,sI 3,sI 10,(.o 31,.arr 9 1 .str),(.s 9,.own 31)]
def q9:TC:= [sI 3,sI 4,cI 2 0,cI 2 1,cI 2 2,(.s 2,.ptr 2 0),(.o 2,.box 3)]
def q10:TC:= [sI 4,sI 5,cI 1 0,cI 1 1,cI 1 2,(.s 1,.ptr 1 0),(.o 1,.box 3)]
def q11:TC:= [sS 0,sI 1,sI 7,(.o 21,.arr 9 1 .str),(.s 6,.own 21)]
def q12:TC:= [sS 0,(.s 1,.v (.int .u64)),sI 22,sI 23]
def q13:TC:= [(.s 0,.v (.sl .str)),sS 1,sI 7,sI 8]
def q14:TC:= [sI 4,(.s 8,.v y7),sI 9,sI 10]
def q15:TC:= [sS 0,sI 4,sB 5,sI 9,sI 10]
def q16:TC:= [sS 0,sI 1,sI 5,sI 8,sI 9]
def q17:TC:= [sS 0,sI 5,sI 6]
abbrev LF:=List (FuncId×Sig)
abbrev LG:=List (FuncId×Bv)
def OE:List (FuncId×Sig):= []
def AL:List (FuncId×Bv):= []
theorem VL:GoodT Tryz.prog B OE AL:=GoodT.nil _ _
noncomputable def O4:LF:=(133,⟨(.one .str),(.int .i64),ST⟩)::OE
theorem VB:GoodT Tryz.prog B O4 AL:=.hT VL [(2,.s []),(3,.s []),(4,.r),(5,.r),(6,.r)] (by rfl) (by kernel_rfl) (by kernel_rfl)
noncomputable def OA:LF:=(149,⟨(.one .str),(.tup (.cons (.int .i32) y2)),SU⟩)::O4
theorem VH:GoodT Tryz.prog B OA AL:=.hT VB [(4,.s [sS 0,sI 4]),(14,.s []),(15,.r),(16,.r)] (by rfl) (by kernel_rfl) (by kernel_rfl)
noncomputable def O5:LF:=(134,⟨(.one .str),(.tup (.cons (.int .i32) y2)),SS⟩)::OA
theorem VC:GoodT Tryz.prog B O5 AL:=.hT VH [(2,.s [(.s 2,.v (.int .i32)),sI 3])] (by rfl) (by kernel_rfl) (by kernel_rfl)
noncomputable def Ot:LF:=(107,⟨(.cons .str y2),(.sl .str),SE⟩)::O5
theorem V0:GoodT Tryz.prog B Ot AL:=.hT VC [(4,.j [sS 0,sI 1] [] false),(12,.s [sS 0,sI 1,(.o 21,.arr 9 1 .str),(.s 6,.own 21)]),(16,.l q11 [0] false),(17,.s q11),(23,.s q11),(31,.j [(.o 21,.arr 9 1 .str),(.s 6,.own 21)] [] false)] (by rfl) (by kernel_rfl) (by kernel_rfl)
noncomputable def Sr:Sig:=⟨y4,(.int .i64),Jp⟩
noncomputable def Ou:LF:=(108,Sr)::Ot
theorem V1:GoodT Tryz.prog B Ou AL:=GoodT.addM V0 108 Sr (by rfl) fun _ _ _ hx hy=>Yh (by kernel_rfl) Go.Proofs.Tryz.strings_Count_one hx hy
noncomputable def Ss:Sig:=⟨y4,(.int .i64),Fc⟩
noncomputable def O6:LF:=(136,Ss)::Ou
theorem VD:GoodT Tryz.prog B O6 AL:=GoodT.addM V1 136 Ss (by rfl) fun _ _ _ hx hy=>VZ (by kernel_rfl) Go.Proofs.Tryz.stringslite_Index_one hx hy
noncomputable def Ov:LF:=(109,⟨y4,(.int .i64),NS⟩)::O6
theorem V2:GoodT Tryz.prog B Ov AL:=.hT VD [] (by rfl) (by kernel_rfl) (by kernel_rfl)
noncomputable def L82:LF:=(82,⟨(.cons .str (.cons .str y5)),(.sl .str),HP⟩)::Ov
theorem g82:GoodT Tryz.prog B L82 AL:=.hT V2 [(2,.s [sS 0,sS 1,sI 2,sI 3]),(10,.s [sS 0,sS 1,sI 2,sI 3]),(18,.j [sS 0,sS 1,sI 2,sI 3] [] false),(32,.j [sS 0,sI 10,(.o 31,.arr 9 1 .str),(.s 9,.own 31)] [] false),(34,.l q8 [0] false),(35,.s q8),(44,.s [sS 0,sS 1,sI 2,sI 3,sI 10,sI 11,(.o 31,.arr 9 1 .str),(.s 9,.own 31)]),(58,.t [(3,.frz 62)])] (by rfl) (by kernel_rfl) (by kernel_rfl)
noncomputable def L39:LF:=(39,⟨(.cons .str (.cons .str y2)),(.sl .str),Fr⟩)::L82
theorem g39:GoodT Tryz.prog B L39 AL:=.hT g82 [] (by rfl) (by kernel_rfl) (by kernel_rfl)
noncomputable def L83:LF:=(83,⟨(.cons (.sl .str) (.one .str)),(.int .i64),Lo⟩)::L39
theorem g83:GoodT Tryz.prog B L83 AL:=.hT g39 [(2,.s []),(6,.l q13 [0] true),(9,.s q13),(13,.s q13)] (by rfl) (by kernel_rfl) (by kernel_rfl)
noncomputable def L40:LF:=(40,⟨(.cons (.sl .str) (.one .str)),.bool,Fq⟩)::L83
theorem g40:GoodT Tryz.prog B L40 AL:=.hT g83 [] (by rfl) (by kernel_rfl) (by kernel_rfl)
noncomputable def s84:Sig:=⟨(.cons .str y5),(.tup (.cons (.int .u64) (.one .err))),Jo⟩
noncomputable def L84:LF:=(84,s84)::L40
theorem g84:GoodT Tryz.prog B L84 AL:=GoodT.addM g40 84 s84 (by rfl) fun _ _ _ hx hy=>Yg (by kernel_rfl) (g0:=3) (g1:=4) rfl rfl Go.Proofs.Tryz.strconv_ParseUint_10_at64_ok Go.Proofs.Tryz.strconv_ParseUint_10_at64_syntax Go.Proofs.Tryz.strconv_ParseUint_10_at64_range hx hy
noncomputable def L42:LF:=(42,⟨(.cons .str (.one (.int .u64))),(.tup (.cons (.int .u64) (.one .bool))),Dh⟩)::L84
theorem g42:GoodT Tryz.prog B L42 AL:=.hT g84 [(2,.s [sS 0,(.s 1,.v (.int .u64))]),(10,.s [sS 0,(.s 1,.v (.int .u64))]),(14,.l q12 [0] true),(17,.s q12),(21,.s q12)] (by rfl) (by kernel_rfl) (by kernel_rfl)
noncomputable def L24:LF:=(24,⟨y2,.bool,BV⟩)::L42
theorem g24:GoodT Tryz.prog B L24 AL:=.hT g42 [] (by rfl) (by kernel_rfl) (by kernel_rfl)
noncomputable def L55:LF:=(55,⟨(.one .str),.bool,Fb⟩)::L24
theorem g55:GoodT Tryz.prog B L55 AL:=.hT g24 [(2,.s [sS 0]),(6,.l [sS 0,sI 6,sI 7] [0] true),(9,.s [sS 0,sI 6,sI 7]),(13,.s [sS 0,sI 6,sI 7])] (by rfl) (by kernel_rfl) (by kernel_rfl)
noncomputable def L54:LF:=(54,⟨(.one .str),.bool,Kb⟩)::L55
theorem g54:GoodT Tryz.prog B L54 AL:=.hT g55 [] (by rfl) (by kernel_rfl) (by kernel_rfl)
noncomputable def L56:LF:=(56,⟨(.one y0),.bool,Hm⟩)::L54
theorem g56:GoodT Tryz.prog B L56 AL:=.hT g54 [] (by rfl) (by kernel_rfl) (by kernel_rfl)
noncomputable def L58:LF:=(58,⟨(.one .str),.bool,Gx⟩)::L56
theorem g58:GoodT Tryz.prog B L58 AL:=.hT g56 [(2,.s []),(6,.l q17 [0] true),(9,.s q17),(13,.s q17)] (by rfl) (by kernel_rfl) (by kernel_rfl)
noncomputable def L57:LF:=(57,⟨(.one y0),.bool,Kc⟩)::L58
theorem g57:GoodT Tryz.prog B L57 AL:=.hT g58 [] (by rfl) (by kernel_rfl) (by kernel_rfl)
noncomputable def L59:LF:=(59,⟨(.one y0),.bool,Kd⟩)::L57
theorem g59:GoodT Tryz.prog B L59 AL:=.hT g57 [] (by rfl) (by kernel_rfl) (by kernel_rfl)
noncomputable def L60:LF:=(60,⟨(.one .str),.bool,DF⟩)::L59
theorem g60:GoodT Tryz.prog B L60 AL:=.hT g59 [] (by rfl) (by kernel_rfl) (by kernel_rfl)
noncomputable def L61:LF:=(61,⟨(.one y0),.bool,DH⟩)::L60
theorem g61:GoodT Tryz.prog B L61 AL:=.hT g60 [] (by rfl) (by kernel_rfl) (by kernel_rfl)
noncomputable def Ox:LF:=(117,⟨(.one y1),.bool,L7⟩)::L61
theorem V4:GoodT Tryz.prog B Ox AL:=.hT g61 [(2,.s []),(6,.l [(.s 5,.v y1),sI 6] [0] true),(9,.s [(.s 5,.v y1),sI 6]),(13,.s [(.s 5,.v y1),sI 6])] (by rfl) (by kernel_rfl) (by kernel_rfl)
noncomputable def L92:LF:=(92,⟨(.one .str),(.tup (.cons y1 y2)),L6⟩)::Ox
theorem g92:GoodT Tryz.prog B L92 AL:=.hT V4 [(6,.s [sI 5,sI 6,cI 2 0,cI 2 1,cI 2 2,cI 2 3,cI 2 4,cI 2 5,cI 2 6,cI 4 0,cI 4 1,cI 4 2,cI 4 3,cI 4 4,cI 4 5,cI 4 6,(.s 2,.ptr 2 0),(.s 4,.ptr 4 0),(.o 2,.box 7),(.o 4,.box 7)]),(10,.l q4 [0] true),(13,.s q4),(17,.j q4 [] true),(26,.j [sI 5,sI 6,(.s 7,.v (.int .u8)),(.s 9,.v (.int .u8)),(.s 11,.v y7),sI 12,sI 13,sB 46,cI 2 0,cI 2 1,cI 2 2,cI 2 3,cI 2 4,cI 2 5,cI 2 6,cI 4 0,cI 4 1,cI 4 2,cI 4 3,cI 4 4,cI 4 5,cI 4 6,(.s 2,.ptr 2 0),(.s 4,.ptr 4 0),(.o 2,.box 7),(.o 4,.box 7)] [] false),(40,.j [sI 5,sI 6,(.s 7,.v (.int .u8)),(.s 9,.v (.int .u8)),(.s 11,.v y7),sI 12,sI 13,cI 2 0,cI 2 1,cI 2 2,cI 2 3,cI 2 4,cI 2 5,cI 2 6,cI 4 0,cI 4 1,cI 4 2,cI 4 3,cI 4 4,cI 4 5,cI 4 6,(.s 2,.ptr 2 0),(.s 4,.ptr 4 0),(.o 2,.box 7),(.o 4,.box 7)] [] false),(48,.s [cI 2 0,cI 2 1,cI 2 2,cI 2 3,cI 2 4,cI 2 5,cI 2 6,cI 4 0,cI 4 1,cI 4 2,cI 4 3,cI 4 4,cI 4 5,cI 4 6,(.s 2,.ptr 2 0),(.s 4,.ptr 4 0),(.o 2,.box 7),(.o 4,.box 7)]),(50,.j [sB 59,cI 2 0,cI 2 1,cI 2 2,cI 2 3,cI 2 4,cI 2 5,cI 2 6,cI 4 0,cI 4 1,cI 4 2,cI 4 3,cI 4 4,cI 4 5,cI 4 6,(.s 2,.ptr 2 0),(.s 4,.ptr 4 0),(.o 2,.box 7),(.o 4,.box 7)] [] false)] (by rfl) (by kernel_rfl) (by kernel_rfl)
noncomputable def L62:LF:=(62,⟨(.one y0),.bool,Kh⟩)::L92
theorem g62:GoodT Tryz.prog B L62 AL:=.hT g92 [] (by rfl) (by kernel_rfl) (by kernel_rfl)
noncomputable def L93:LF:=(93,⟨y4,(.sl .str),GH⟩)::L62
theorem g93:GoodT Tryz.prog B L93 AL:=.hT g62 [] (by rfl) (by kernel_rfl) (by kernel_rfl)
noncomputable def Oy:LF:=(118,⟨y4,(.tup (.cons .str y6)),Hw⟩)::L93
theorem V5:GoodT Tryz.prog B Oy AL:=.hT g93 [(2,.s [sS 0])] (by rfl) (by kernel_rfl) (by kernel_rfl)
noncomputable def L94:LF:=(94,⟨y4,(.tup (.cons .str y6)),Da⟩)::Oy
theorem g94:GoodT Tryz.prog B L94 AL:=.hT V5 [] (by rfl) (by kernel_rfl) (by kernel_rfl)
noncomputable def L64:LF:=(64,⟨(.one .str),.bool,I2⟩)::L94
theorem g64:GoodT Tryz.prog B L64 AL:=.hT g94 [(6,.s [(.s 3,.v (.sl .str))]),(10,.l q6 [0] true),(13,.s q6),(17,.s q6)] (by rfl) (by kernel_rfl) (by kernel_rfl)
noncomputable def L63:LF:=(63,⟨(.one y0),.bool,Ke⟩)::L64
theorem g63:GoodT Tryz.prog B L63 AL:=.hT g64 [] (by rfl) (by kernel_rfl) (by kernel_rfl)
noncomputable def L65:LF:=(65,⟨(.one y0),.bool,JZ⟩)::L63
theorem g65:GoodT Tryz.prog B L65 AL:=.hT g63 [] (by rfl) (by kernel_rfl) (by kernel_rfl)
noncomputable def L66:LF:=(66,⟨(.one .str),.bool,JX⟩)::L65
theorem g66:GoodT Tryz.prog B L66 AL:=.hT g65 [] (by rfl) (by kernel_rfl) (by kernel_rfl)
noncomputable def O7:LF:=(143,⟨y4,.bool,Hx⟩)::L66
theorem VE:GoodT Tryz.prog B O7 AL:=.hT g66 [] (by rfl) (by kernel_rfl) (by kernel_rfl)
noncomputable def Ow:LF:=(112,⟨y4,(.tup y6),I8⟩)::O7
theorem V3:GoodT Tryz.prog B Ow AL:=.hT VE [(2,.s [sS 0,sS 1])] (by rfl) (by kernel_rfl) (by kernel_rfl)
noncomputable def L87:LF:=(87,⟨y4,(.tup y6),Et⟩)::Ow
theorem g87:GoodT Tryz.prog B L87 AL:=.hT V3 [] (by rfl) (by kernel_rfl) (by kernel_rfl)
noncomputable def OB:LF:=(157,⟨y4,.bool,Kp⟩)::L87
theorem VI:GoodT Tryz.prog B OB AL:=.hT g87 [] (by rfl) (by kernel_rfl) (by kernel_rfl)
noncomputable def O8:LF:=(145,⟨y4,(.tup y6),MA⟩)::OB
theorem VF:GoodT Tryz.prog B O8 AL:=.hT VI [(2,.s [sS 0,sS 1])] (by rfl) (by kernel_rfl) (by kernel_rfl)
noncomputable def Oz:LF:=(119,⟨y4,(.tup y6),HO⟩)::O8
theorem V6:GoodT Tryz.prog B Oz AL:=.hT VF [] (by rfl) (by kernel_rfl) (by kernel_rfl)
noncomputable def O0:LF:=(120,⟨(.one .str),.bool,FP⟩)::Oz
theorem V7:GoodT Tryz.prog B O0 AL:=.hT V6 [(2,.s [sS 0]),(6,.l q17 [0] true),(9,.s q17),(13,.s q17)] (by rfl) (by kernel_rfl) (by kernel_rfl)
noncomputable def O1:LF:=(121,⟨(.cons .str y2),(.int .i64),Er⟩)::O0
theorem V8:GoodT Tryz.prog B O1 AL:=.hT V7 [(4,.s [sI 5]),(8,.l q16 [0] false),(11,.s q16),(15,.s q16)] (by rfl) (by kernel_rfl) (by kernel_rfl)
noncomputable def L95:LF:=(95,⟨(.one .str),(.tup y5),La⟩)::O1
theorem g95:GoodT Tryz.prog B L95 AL:=.hT V8 [(2,.s [sS 0]),(16,.s [sB 5,sS 7,sS 8]),(39,.s [sB 5,sI 10]),(47,.j [sI 10] [] false)] (by rfl) (by kernel_rfl) (by kernel_rfl)
noncomputable def OC:LF:=(158,⟨y2,.bool,J6⟩)::L95
theorem VJ:GoodT Tryz.prog B OC AL:=.hT g95 [] (by rfl) (by kernel_rfl) (by kernel_rfl)
noncomputable def OD:LF:=(159,⟨y2,.str,GV⟩)::OC
theorem VK:GoodT Tryz.prog B OD AL:=.hT VJ [(4,.s [sI 0,sS 3]),(6,.l [sI 0,sS 3] [0] false),(7,.s [sI 0,sS 3])] (by rfl) (by kernel_rfl) (by kernel_rfl)
noncomputable def O9:LF:=(146,⟨y2,.str,GU⟩)::OD
theorem VG:GoodT Tryz.prog B O9 AL:=.hT VK [(2,.s [sI 0]),(12,.j [sI 0,sS 3] [] false)] (by rfl) (by kernel_rfl) (by kernel_rfl)
noncomputable def O2:LF:=(122,⟨(.one .str),(.tup y5),Gj⟩)::O9
theorem V9:GoodT Tryz.prog B O2 AL:=.hT VG [(4,.s [sS 0,sI 4,sB 5]),(8,.l q15 [0] true),(11,.s q15),(15,.j q15 [] true),(38,.j [sS 0,sI 4] [] false),(44,.s [sI 4])] (by rfl) (by kernel_rfl) (by kernel_rfl)
noncomputable def L96:LF:=(96,⟨(.one .str),.bool,I0⟩)::O2
theorem g96:GoodT Tryz.prog B L96 AL:=.hT V9 [] (by rfl) (by kernel_rfl) (by kernel_rfl)
noncomputable def L68:LF:=(68,⟨(.one .str),.bool,Gw⟩)::L96
theorem g68:GoodT Tryz.prog B L68 AL:=.hT g96 [(4,.s [(.s 3,.v (.sl .str))])] (by rfl) (by kernel_rfl) (by kernel_rfl)
noncomputable def L67:LF:=(67,⟨(.one y0),.bool,Kf⟩)::L68
theorem g67:GoodT Tryz.prog B L67 AL:=.hT g68 [] (by rfl) (by kernel_rfl) (by kernel_rfl)
noncomputable def L25:LF:=(25,⟨.nil,(.agg (.cons .str (.cons .bool (.cons .bool (.cons (.falt 60 .nil (.falt 54 .nil (.falt 66 .nil (.falt 55 .nil .nfn)))) (.cons (.int .i64) (.cons (.int .i64) (.cons (.falt 61 .nil (.falt 62 .nil (.falt 63 .nil (.falt 65 .nil (.falt 56 .nil (.falt 67 .nil (.falt 57 .nil (.falt 59 .nil .nfn)))))))) (.cons .str (.cons .bool (.cons .bool (.cons (.falt 60 .nil (.falt 54 .nil (.falt 66 .nil (.falt 55 .nil .nfn)))) (.cons (.int .i64) (.cons (.int .i64) (.cons (.falt 61 .nil (.falt 62 .nil (.falt 63 .nil (.falt 65 .nil (.falt 56 .nil (.falt 67 .nil (.falt 57 .nil (.falt 59 .nil .nfn)))))))) (.cons .str (.cons .bool (.cons .bool (.cons (.falt 60 .nil (.falt 54 .nil (.falt 66 .nil (.falt 55 .nil .nfn)))) (.cons (.int .i64) (.cons (.int .i64) (.cons (.falt 61 .nil (.falt 62 .nil (.falt 63 .nil (.falt 65 .nil (.falt 56 .nil (.falt 67 .nil (.falt 57 .nil (.falt 59 .nil .nfn)))))))) (.cons .str (.cons .bool (.cons .bool (.cons (.falt 60 .nil (.falt 54 .nil (.falt 66 .nil (.falt 55 .nil .nfn)))) (.cons (.int .i64) (.cons (.int .i64) (.cons (.falt 61 .nil (.falt 62 .nil (.falt 63 .nil (.falt 65 .nil (.falt 56 .nil (.falt 67 .nil (.falt 57 .nil (.falt 59 .nil .nfn)))))))) (.cons .str (.cons .bool (.cons .bool (.cons (.falt 60 .nil (.falt 54 .nil (.falt 66 .nil (.falt 55 .nil .nfn)))) (.cons (.int .i64) (.cons (.int .i64) (.cons (.falt 61 .nil (.falt 62 .nil (.falt 63 .nil (.falt 65 .nil (.falt 56 .nil (.falt 67 .nil (.falt 57 .nil (.falt 59 .nil .nfn)))))))) (.cons .str (.cons .bool (.cons .bool (.cons (.falt 60 .nil (.falt 54 .nil (.falt 66 .nil (.falt 55 .nil .nfn)))) (.cons (.int .i64) (.cons (.int .i64) (.cons (.falt 61 .nil (.falt 62 .nil (.falt 63 .nil (.falt 65 .nil (.falt 56 .nil (.falt 67 .nil (.falt 57 .nil (.falt 59 .nil .nfn)))))))) (.cons .str (.cons .bool (.cons .bool (.cons (.falt 60 .nil (.falt 54 .nil (.falt 66 .nil (.falt 55 .nil .nfn)))) (.cons (.int .i64) (.cons (.int .i64) (.cons (.falt 61 .nil (.falt 62 .nil (.falt 63 .nil (.falt 65 .nil (.falt 56 .nil (.falt 67 .nil (.falt 57 .nil (.falt 59 .nil .nfn)))))))) (.cons .str (.cons .bool (.cons .bool (.cons (.falt 60 .nil (.falt 54 .nil (.falt 66 .nil (.falt 55 .nil .nfn)))) (.cons (.int .i64) (.cons (.int .i64) (.cons (.falt 61 .nil (.falt 62 .nil (.falt 63 .nil (.falt 65 .nil (.falt 56 .nil (.falt 67 .nil (.falt 57 .nil (.falt 59 .nil .nfn)))))))) (.cons .str (.cons .bool (.cons .bool (.cons (.falt 60 .nil (.falt 54 .nil (.falt 66 .nil (.falt 55 .nil .nfn)))) (.cons (.int .i64) (.cons (.int .i64) (.cons (.falt 61 .nil (.falt 62 .nil (.falt 63 .nil (.falt 65 .nil (.falt 56 .nil (.falt 67 .nil (.falt 57 .nil (.falt 59 .nil .nfn)))))))) (.cons .str (.cons .bool (.cons .bool (.cons (.falt 60 .nil (.falt 54 .nil (.falt 66 .nil (.falt 55 .nil .nfn)))) (.cons (.int .i64) (.cons (.int .i64) (.cons (.falt 61 .nil (.falt 62 .nil (.falt 63 .nil (.falt 65 .nil (.falt 56 .nil (.falt 67 .nil (.falt 57 .nil (.falt 59 .nil .nfn)))))))) (.cons .str (.cons .bool (.cons .bool (.cons (.falt 60 .nil (.falt 54 .nil (.falt 66 .nil (.falt 55 .nil .nfn)))) (.cons (.int .i64) (.cons (.int .i64) (.cons (.falt 61 .nil (.falt 62 .nil (.falt 63 .nil (.falt 65 .nil (.falt 56 .nil (.falt 67 .nil (.falt 57 .nil (.falt 59 .nil .nfn)))))))) (.cons .str (.cons .bool (.cons .bool (.cons (.falt 60 .nil (.falt 54 .nil (.falt 66 .nil (.falt 55 .nil .nfn)))) (.cons (.int .i64) (.cons (.int .i64) (.cons (.falt 61 .nil (.falt 62 .nil (.falt 63 .nil (.falt 65 .nil (.falt 56 .nil (.falt 67 .nil (.falt 57 .nil (.falt 59 .nil .nfn)))))))) (.cons .str (.cons .bool (.cons .bool (.cons (.falt 60 .nil (.falt 54 .nil (.falt 66 .nil (.falt 55 .nil .nfn)))) (.cons (.int .i64) (.cons (.int .i64) (.cons (.falt 61 .nil (.falt 62 .nil (.falt 63 .nil (.falt 65 .nil (.falt 56 .nil (.falt 67 .nil (.falt 57 .nil (.falt 59 .nil .nfn)))))))) (.cons .str (.cons .bool (.cons .bool (.cons (.falt 60 .nil (.falt 54 .nil (.falt 66 .nil (.falt 55 .nil .nfn)))) (.cons (.int .i64) (.cons (.int .i64) (.cons (.falt 61 .nil (.falt 62 .nil (.falt 63 .nil (.falt 65 .nil (.falt 56 .nil (.falt 67 .nil (.falt 57 .nil (.falt 59 .nil .nfn)))))))) (.cons .str (.cons .bool (.cons .bool (.cons (.falt 60 .nil (.falt 54 .nil (.falt 66 .nil (.falt 55 .nil .nfn)))) (.cons (.int .i64) (.cons (.int .i64) (.cons (.falt 61 .nil (.falt 62 .nil (.falt 63 .nil (.falt 65 .nil (.falt 56 .nil (.falt 67 .nil (.falt 57 .nil (.falt 59 .nil .nfn)))))))) (.cons .str (.cons .bool (.cons .bool (.cons (.falt 60 .nil (.falt 54 .nil (.falt 66 .nil (.falt 55 .nil .nfn)))) (.cons (.int .i64) (.cons (.int .i64) (.cons (.falt 61 .nil (.falt 62 .nil (.falt 63 .nil (.falt 65 .nil (.falt 56 .nil (.falt 67 .nil (.falt 57 .nil (.falt 59 .nil .nfn)))))))) (.cons .str (.cons .bool (.cons .bool (.cons (.falt 60 .nil (.falt 54 .nil (.falt 66 .nil (.falt 55 .nil .nfn)))) (.cons (.int .i64) (.cons (.int .i64) (.cons (.falt 61 .nil (.falt 62 .nil (.falt 63 .nil (.falt 65 .nil (.falt 56 .nil (.falt 67 .nil (.falt 57 .nil (.falt 59 .nil .nfn)))))))) (.cons .str (.cons .bool (.cons .bool (.cons (.falt 60 .nil (.falt 54 .nil (.falt 66 .nil (.falt 55 .nil .nfn)))) (.cons (.int .i64) (.cons (.int .i64) (.cons (.falt 61 .nil (.falt 62 .nil (.falt 63 .nil (.falt 65 .nil (.falt 56 .nil (.falt 67 .nil (.falt 57 .nil (.falt 59 .nil .nfn)))))))) y3))))))))))))))))))))))))))))))))))))))))))))))))))))))))))))))))))))))))))))))))))))))))))))))))))))))))))))))))))))))))))))))),Ce⟩)::L67
theorem g25:GoodT Tryz.prog B L25 AL:=.hT g67 [] (by rfl) (by kernel_rfl) (by kernel_rfl)
noncomputable def L22:LF:=(22,⟨y2,.str,Hk⟩)::L25
theorem g22:GoodT Tryz.prog B L22 AL:=.hT g25 [(2,.s [sI 0])] (by rfl) (by kernel_rfl) (by kernel_rfl)
noncomputable def L85:LF:=(85,⟨(.one .str),(.tup (.cons (.int .i64) (.one .bool))),E0⟩)::L22
theorem g85:GoodT Tryz.prog B L85 AL:=.hT g22 [(4,.s [sI 4]),(8,.l q14 [0] true),(11,.s q14),(15,.s q14),(19,.s [sI 4,(.s 6,.v (.int .u8)),(.s 8,.v y7),sI 9,sI 10])] (by rfl) (by kernel_rfl) (by kernel_rfl)
noncomputable def O3:LF:=(130,⟨y2,.bool,J9⟩)::L85
theorem VA:GoodT Tryz.prog B O3 AL:=.hT g85 [] (by rfl) (by kernel_rfl) (by kernel_rfl)
noncomputable def Oq:LF:=(104,⟨y5,(.int .i64),ER⟩)::O3
theorem Vz:GoodT Tryz.prog B Oq AL:=.hT VA [(2,.s [sI 1]),(4,.j [sI 0,sI 1,sB 5] [] false)] (by rfl) (by kernel_rfl) (by kernel_rfl)
noncomputable def Oo:LF:=(103,⟨y2,(.int .i64),GW⟩)::Oq
theorem Vy:GoodT Tryz.prog B Oo AL:=.hT Vz [] (by rfl) (by kernel_rfl) (by kernel_rfl)
noncomputable def L75:LF:=(75,⟨y2,.bool,Ik⟩)::Oo
theorem g75:GoodT Tryz.prog B L75 AL:=.hT Vy [] (by rfl) (by kernel_rfl) (by kernel_rfl)
noncomputable def L76:LF:=(76,⟨y2,(.agg (.cons (.int .i64) y5)),Gk⟩)::L75
theorem g76:GoodT Tryz.prog B L76 AL:=.hT g75 [(2,.s [sI 0,cI 2 0,cI 2 1,cI 2 2,(.s 2,.ptr 2 0),(.o 2,.box 3)]),(14,.s q9),(16,.l q9 [0] false),(17,.s q9),(29,.s q7),(31,.l q7 [2] false),(32,.s q7)] (by rfl) (by kernel_rfl) (by kernel_rfl)
noncomputable def L86:LF:=(86,⟨(.one (.agg (.cons (.int .i64) y5))),(.tup y5),Ea⟩)::L76
theorem g86:GoodT Tryz.prog B L86 AL:=.hT g76 [(2,.s [cI 1 0,cI 1 1,cI 1 2,(.s 1,.ptr 1 0),(.o 1,.box 3)]),(12,.s [sI 4,cI 1 0,cI 1 1,cI 1 2,(.s 1,.ptr 1 0),(.o 1,.box 3)]),(16,.l q10 [0] false),(17,.s q10),(23,.s q10),(29,.s [sI 6])] (by rfl) (by kernel_rfl) (by kernel_rfl)
noncomputable def L43:LF:=(43,⟨(.one .str),(.tup y5),C2⟩)::L86
theorem g43:GoodT Tryz.prog B L43 AL:=.hT g86 [(2,.s [sS 0]),(16,.s [sI 4,sI 6,sI 8])] (by rfl) (by kernel_rfl) (by kernel_rfl)
noncomputable def L44:LF:=(44,⟨(.one .str),(.tup (.cons (.int .i64) (.one .bool))),Ef⟩)::L43
theorem g44:GoodT Tryz.prog B L44 AL:=.hT g43 [(2,.s [sS 0])] (by rfl) (by kernel_rfl) (by kernel_rfl)
noncomputable def s88:Sig:=⟨(.cons .str y5),(.tup (.cons (.int .i64) (.one .err))),FV⟩
noncomputable def L88:LF:=(88,s88)::L44
theorem g88:GoodT Tryz.prog B L88 AL:=GoodT.addM g44 88 s88 (by rfl) fun _ _ _ hx hy=>Yf (by kernel_rfl) (g0:=3) (g1:=4) rfl rfl Go.Proofs.Tryz.strconv_ParseInt_10_at64_ok Go.Proofs.Tryz.strconv_ParseInt_10_at64_syntax Go.Proofs.Tryz.strconv_ParseInt_10_at64_range hx hy
noncomputable def L45:LF:=(45,⟨(.one .str),(.tup (.cons (.int .i64) (.one .bool))),DG⟩)::L88
theorem g45:GoodT Tryz.prog B L45 AL:=.hT g88 [(6,.s [sS 0])] (by rfl) (by kernel_rfl) (by kernel_rfl)
noncomputable def L26:LF:=(26,⟨(.cons y0 (.one (.agg y3))),(.int .i64),JW⟩)::L45
theorem g26:GoodT Tryz.prog B L26 AL:=.hT g45 [(2,.s []),(4,.j [sB 5,(.c 2 0,.v (.int .u32)),(.c 2 1,.v (.int .u32)),cI 2 2,cI 2 3,cI 2 4,(.c 2 5,.v .str),cI 2 6,(.c 2 7,.v .str),(.c 3 0,.v .str),(.c 3 1,.v .bool),(.c 3 2,.v .bool),(.c 3 3,.v (.falt 60 .nil (.falt 54 .nil (.falt 66 .nil (.falt 55 .nil .nfn))))),cI 3 4,cI 3 5,(.c 3 6,.v (.falt 61 .nil (.falt 62 .nil (.falt 63 .nil (.falt 65 .nil (.falt 56 .nil (.falt 67 .nil (.falt 57 .nil (.falt 59 .nil .nfn))))))))),(.s 2,.ptr 2 0),(.s 3,.ptr 3 0),(.o 2,.box 8),(.o 3,.box 7)] [] false)] (by rfl) (by kernel_rfl) (by kernel_rfl)
noncomputable def L14:LF:=(14,⟨(.one y0),(.int .i64),AR⟩)::L26
theorem g14:GoodT Tryz.prog B L14 AL:=.hT g26 [(2,.s q5),(12,.s q0),(20,.s q0),(30,.s [])] (by rfl) (by kernel_rfl) (by kernel_rfl)
noncomputable def Dn:LG:=(41,⟨[(.c 1048576 0,.v .bool),(.o 1048576,.box 1)],(.cons .str (.one (.nam 1048576))),(.int .u32),Fa⟩)::AL
theorem g41:GoodT Tryz.prog B L14 Dn:=.hE g14 [] (by rfl) (by kernel_rfl) (by kernel_rfl)
noncomputable def L17:LF:=(17,⟨(.one .str),(.tup (.cons y0 y2)),Dg⟩)::L14
theorem g17:GoodT Tryz.prog B L17 Dn:=.hU g41 [(4,.s [(.s 4,.v (.sl .str)),(.c 2 0,.v (.int .u32)),(.c 2 1,.v (.int .u32)),cI 2 2,cI 2 3,cI 2 4,(.c 2 5,.v .str),cI 2 6,(.c 2 7,.v .str),(.s 2,.ptr 2 0),(.o 2,.box 8)]),(13,.t [(1,.tell 5 1048576)]),(17,.e),(18,.s [(.s 4,.v (.sl .str)),(.c 2 0,.v (.int .u32)),(.c 2 1,.v (.int .u32)),cI 2 2,cI 2 3,cI 2 4,(.c 2 5,.v .str),cI 2 6,(.c 2 7,.v .str),(.c 7 0,.v (.int .u32)),(.c 7 1,.v (.int .u32)),cI 7 2,cI 7 3,cI 7 4,(.c 7 5,.v .str),cI 7 6,(.c 7 7,.v .str),(.c 1048576 0,.v .bool),(.s 2,.ptr 2 0),(.s 5,.v (.nam 1048576)),(.s 7,.ptr 7 0),(.o 2,.box 8),(.o 7,.box 8),(.o 1048576,.box 1)]),(22,.l q1 [0] false),(23,.s q1),(29,.j q1 [] false),(43,.s [(.s 4,.v (.sl .str)),sI 9,sI 11,sI 13,(.c 2 0,.v (.int .u32)),(.c 2 1,.v (.int .u32)),cI 2 2,cI 2 3,cI 2 4,(.c 2 5,.v .str),cI 2 6,(.c 2 7,.v .str),(.c 7 0,.v (.int .u32)),(.c 7 1,.v (.int .u32)),cI 7 2,cI 7 3,cI 7 4,(.c 7 5,.v .str),cI 7 6,(.c 7 7,.v .str),(.c 1048576 0,.v .bool),(.s 2,.ptr 2 0),(.s 7,.ptr 7 0),(.o 2,.box 8),(.o 7,.box 8),(.o 1048576,.box 1)]),(53,.j [(.s 4,.v (.sl .str)),(.c 2 0,.v (.int .u32)),(.c 2 1,.v (.int .u32)),cI 2 2,cI 2 3,cI 2 4,(.c 2 5,.v .str),cI 2 6,(.c 2 7,.v .str),(.c 7 0,.v (.int .u32)),(.c 7 1,.v (.int .u32)),cI 7 2,cI 7 3,cI 7 4,(.c 7 5,.v .str),cI 7 6,(.c 7 7,.v .str),(.c 1048576 0,.v .bool),(.s 2,.ptr 2 0),(.s 7,.ptr 7 0),(.o 2,.box 8),(.o 7,.box 8),(.o 1048576,.box 1)] [] false),(59,.j q2 [] false),(65,.s q2)] (by rfl) (by kernel_rfl) (by kernel_rfl) rfl
noncomputable def s33:Sig:=⟨(.cons (.int .u64) y2),.str,Es⟩
noncomputable def L33:LF:=(33,s33)::L17
theorem g33:GoodT Tryz.prog B L33 Dn:=GoodT.addM g17 33 s33 (by rfl) fun _ _ _ hx hy=>Ye (by kernel_rfl) (g:=0) (by kernel_rfl) rfl Go.Proofs.Tryz.strconv_FormatUint_10 hx hy
noncomputable def L77:LF:=(77,⟨y5,.str,DB⟩)::L33
theorem g77:GoodT Tryz.prog B L77 Dn:=.hT g33 [(4,.s [sS 5]),(8,.l [sI 0,sS 5,sI 6,sI 7] [0] false),(11,.s [sI 0,sS 5,sI 6,sI 7]),(15,.s [sI 0,sS 5,sI 6,sI 7])] (by rfl) (by kernel_rfl) (by kernel_rfl)
noncomputable def L34:LF:=(34,⟨y2,.str,Df⟩)::L77
theorem g34:GoodT Tryz.prog B L34 Dn:=.hT g77 [(2,.s [sI 0])] (by rfl) (by kernel_rfl) (by kernel_rfl)
noncomputable def L35:LF:=(35,⟨y2,.str,Ho⟩)::L34
theorem g35:GoodT Tryz.prog B L35 Dn:=.hT g34 [(2,.s [sI 0])] (by rfl) (by kernel_rfl) (by kernel_rfl)
noncomputable def L36:LF:=(36,⟨(.one .str),.str,JY⟩)::L35
theorem g36:GoodT Tryz.prog B L36 Dn:=.hT g35 [(2,.s [sS 0])] (by rfl) (by kernel_rfl) (by kernel_rfl)
noncomputable def s37:Sig:=⟨y5,.str,FU⟩
noncomputable def L37:LF:=(37,s37)::L36
theorem g37:GoodT Tryz.prog B L37 Dn:=GoodT.addM g36 37 s37 (by rfl) fun _ _ _ hx hy=>Yd (by kernel_rfl) (g:=0) (by kernel_rfl) rfl Go.Proofs.Tryz.strconv_FormatInt_10 hx hy
noncomputable def s38:Sig:=⟨(.cons (.sl .str) (.one .str)),.str,strings_Join⟩
noncomputable def L38:LF:=(38,s38)::L37
theorem g38:GoodT Tryz.prog B L38 Dn:=GoodT.addM g37 38 s38 (by rfl) fun _ _ _ hx hy=>Yi (by kernel_rfl) Go.Proofs.Tryz.strings_Join_none Go.Proofs.Tryz.strings_Join hx hy
noncomputable def L16:LF:=(16,⟨(.one y0),(.tup (.cons .str y2)),Dv⟩)::L38
theorem g16:GoodT Tryz.prog B L16 Dn:=.hT g38 [(2,.s q5),(14,.j [(.o 34,.arr 9 1 .str),(.s 5,.own 34)] [] false)] (by rfl) (by kernel_rfl) (by kernel_rfl)
noncomputable def L20:LF:=(20,⟨(.cons y0 y2),.bool,My⟩)::L16
theorem g20:GoodT Tryz.prog B L20 Dn:=.hT g16 [(2,.s [sI 1,(.c 2 0,.v (.int .u32)),(.c 2 1,.v (.int .u32)),cI 2 2,cI 2 3,cI 2 4,(.c 2 5,.v .str),cI 2 6,(.c 2 7,.v .str),(.s 2,.ptr 2 0),(.o 2,.box 8)])] (by rfl) (by kernel_rfl) (by kernel_rfl)
noncomputable def s11:Sig:=⟨.nil,.bool,IG⟩
noncomputable def L11:LF:=(11,s11)::L20
theorem g11:GoodT Tryz.prog B L11 Dn:=.hT g20 [] (by rfl) (by kernel_rfl) (by kernel_rfl)
noncomputable def s5:Sig:=⟨(.cons y0 (.cons y0 (.one .str))),.bool,MJ⟩
noncomputable def L5:LF:=(5,s5)::L11
theorem g5:GoodT Tryz.prog B L5 Dn:=.hT g11 [(2,.s q3),(10,.s q3),(22,.j [sS 2] [] true),(44,.s [sS 2,(.c 13 0,.v (.int .u32)),(.c 13 1,.v (.int .u32)),cI 13 2,cI 13 3,cI 13 4,(.c 13 5,.v .str),cI 13 6,(.c 13 7,.v .str),(.s 13,.ptr 13 0),(.o 13,.box 8)])] (by rfl) (by kernel_rfl) (by kernel_rfl)
end WB
