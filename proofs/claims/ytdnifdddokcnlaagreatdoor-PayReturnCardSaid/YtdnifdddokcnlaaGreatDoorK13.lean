/-
  A SEAT's FUNCTIONS do what they do over plain data (printed by wip/genseat.py).
-/
import Derived.Test.YtdnifdddokcnlaaGreatDoorK8
import Derived.Test.YtdnifdddokcnlaaGreatDoorK6
import Derived.Test.YtdnifdddokcnlaaGreatDoorProg
import Derived.Test.YtdnifdddokcnlaaGreatDoorK11
import Derived.Test.YtdnifdddokcnlaaGreatDoorK12
import Derived.KernelRfl
set_option linter.unusedVariables false
set_option linter.unusedSimpArgs false
open Go.IntKind (i64 u64 u8 u32)
namespace WB
set_option maxHeartbeats 4000000
open Go Go.RowKit Go.Proofs
def lkT{α:Type}:List (Nat×α)→Nat→Option α
 | [],_=>none
 |e::l,i=>if e.1=i then some e.2 else lkT l i
variable {mx:Int}
def B(mx:Int):TB:=⟨fun i=>if i=1 then [.int .i64 mx]else if i=0 then Lib.pow10Tab.map fun z=>.int .u64 z else if i=4 then [.ifc]else if i=5 then [.ifc]else [],lkT [(71,(.agg (.cons (.int .u32) (.cons .str (.cons (.int .i64) (.one .str)))))),(57,(.agg (.cons (.int .u32) (.cons (.int .i64) (.cons (.int .i64) (.cons (.sl (.agg (.cons (.int .i64) (.cons .str (.one (.int .i64)))))) (.cons (.sl (.agg (.cons (.int .i64) (.cons (.int .i64) (.one (.sl (.agg (.cons (.int .i64) (.cons .str (.one (.int .i64))))))))))) (.cons (.int .i64) (.cons (.int .i64) (.one (.int .i64))))))))))),(41,(.int .u32)),(46,(.agg (.cons (.int .u32) (.cons .str (.cons (.int .i64) (.one .str)))))),(44,(.int .i64)),(5,(.int .u8)),(9,.str)],lkT [(28,((.int .u32),.str)),(102,(.str,.bool))],fun f=>false⟩
abbrev y0:Ty:=(.agg (.cons (.int .u32) (.cons .str (.cons (.int .i64) (.one .str)))))
abbrev y2:Ty:=(.one (.int .i64))
abbrev y3:Ty:=(.cons .str (.one .str))
abbrev y4:Ty:=(.cons (.int .i64) y2)
abbrev y1:Ty:=(.sl (.agg (.cons (.int .u32) (.cons (.int .i64) (.cons (.int .i64) (.cons (.sl (.agg (.cons (.int .i64) (.cons .str y2)))) (.cons (.sl (.agg (.cons (.int .i64) (.cons (.int .i64) (.one (.sl (.agg (.cons (.int .i64) (.cons .str y2))))))))) (.cons (.int .i64) y4))))))))
abbrev y5:Ty:=(.tup (.cons .str (.one .bool)))
abbrev y6:Ty:=(.sl (.sl y0))
abbrev y7:Ty:=(.one (.nam 1048640))
abbrev y8:Ty:=(.agg (.cons (.int .i64) (.cons (.int .i64) (.cons (.int .i64) (.cons (.int .i64) (.one y1))))))
abbrev y9:Ty:=(.one (.pt (.one .str)))
def q0:TC:= [(.s 5,.v (.falt 1048627 y7 (.clo 1048631 y7))),(.s 16,.v (.sl .str)),sI 17,sI 18,(.c 1048640 0,.v (.int .u64)),(.c 1048640 1,.v (.int .u64)),cI 1048640 2,(.o 1048644,.arr 46 4 y0),(.s 0,.v (.nam 1048640)),(.c 1048640 3,.own 1048644),(.o 1048640,.box 4 none)]
def q1:TC:= [(.s 1,.v (.map (.int .u32) .str)),sI 30,sI 31,cI 2 0,cI 2 1,cI 2 2,cI 2 3,(.c 2 4,.v y1),(.o 1007,.arr 46 4 y0),(.o 1008,.arr 41 1 (.int .u32)),(.s 2,.ptr 2 0),(.s 7,.own 1007),(.s 8,.own 1008),(.o 2,.box 5 none)]
def q2:TC:= [(.c 1048640 0,.v (.int .u64)),(.c 1048640 1,.v (.int .u64)),cI 1048640 2,(.o 1048644,.arr 46 4 y0),(.s 7,.v (.nam 1048640)),(.c 1048640 3,.own 1048644),(.o 1048640,.box 4 none)]
def q3:TC:= [(.s 32,.v (.sl y0)),sI 33,sI 34,(.o 1048578,.buf 5),(.s 7,.v (.nam 1048576)),(.c 1048576 0,.v (.bptr 1048576)),(.c 1048576 1,.own 1048578),(.o 1048576,.box 2 (some 86))]
def q4:TC:= [(.s 1,.v (.sl y0)),(.s 22,.v (.sl y0)),sI 23,sI 24,(.o 21,.mob 102 .str .bool),(.s 5,.mp 21)]
def q5:TC:= [(.o 1007,.arr 46 4 y0),(.o 1008,.arr 41 1 (.int .u32)),(.s 7,.own 1007),(.s 8,.own 1008)]
def q6:TC:= [(.s 7,.v (.sl y0)),sI 8,sI 9,(.o 1004,.arr 44 1 (.int .i64)),(.s 4,.own 1004)]
def q7:TC:= [sS 0,sS 1,sI 2,sI 3,sI 10,(.o 31,.arr 9 1 .str),(.s 9,.own 31)]
def q8:TC:= [(.s 0,.v (.sl y0)),sI 4,(.o 1003,.arr 71 4 y0),(.s 3,.own 1003)]
def q9:TC:= [(.s 25,.v y6),sI 26,sI 27,(.o 24,.arr 46 4 y0),(.s 6,.own 24)]
def q10:TC:= [sS 0,sI 1,sI 7,(.o 21,.arr 9 1 .str),(.s 6,.own 21)]
def q11:TC:= [(.s 0,.v (.sl y0)),(.s 1,.v (.clo 23 y9)),sI 7,sI 8]
def q12:TC:= [(.s 0,.v y6),sI 3,(.s 9,.v y6),sI 10,sI 11]
def q13:TC:= [sI 4,(.s 9,.v (.sl (.int .i64))),sI 10,sI 11]
def q14:TC:= [(.s 0,.v (.sl y0)),(.s 1,.v (.sl y0)),sI 5]
def q15:TC:= [sS 0,(.s 1,.v (.int .u64)),sI 10,sI 11]
def q16:TC:= [(.s 0,.v (.sl .str)),sS 1,sI 7,sI 8]
def q17:TC:= [sI 4,(.s 7,.v (.sl y0)),sI 8,sI 9]
def q18:TC:= [sS 0,(.s 1,.v (.int .u8)),sI 5]
def q19:TC:= [(.s 0,.v (.sl y0)),sI 1,sI 5]
def q20:TC:= [(.s 0,.v (.sl y0)),sS 1,sI 5]
def q21:TC:= [sS 0,sI 4,sB 5,sI 9,sI 10]
abbrev LF:=List (FuncId×Sig)
abbrev LG:=List (FuncId×A9)
def Oq:List (FuncId×Sig):= []
def Dj:List (FuncId×A9):= []
theorem UR:GoodT Tryz.prog (B mx) Oq Dj:=GoodT.nil _ _
noncomputable def L36:LF:=(36,⟨(.one .str),.bool,Hh⟩)::Oq
theorem g36:GoodT Tryz.prog (B mx) L36 Dj:=.hT UR [(2,.s [sS 0]),(6,.l [sS 0,sI 6,sI 7] [0] true),(9,.s [sS 0,sI 6,sI 7]),(13,.s [sS 0,sI 6,sI 7])] (by rfl) (by kernel_rfl) (by kernel_rfl)
noncomputable def s29:Sig:=⟨y2,.str,strconv_Itoa⟩
noncomputable def L29:LF:=(29,s29)::L36
theorem g29:GoodT Tryz.prog (B mx) L29 Dj:=GoodT.addM g36 29 s29 (by rfl) fun _ _ _ hx hy=>Xe (by kernel_rfl) (g:=0) (by kernel_rfl) rfl Go.Proofs.Tryz.strconv_Itoa hx hy
noncomputable def s31:Sig:=⟨(.cons (.int .u64) y2),.str,FG⟩
noncomputable def L31:LF:=(31,s31)::L29
theorem g31:GoodT Tryz.prog (B mx) L31 Dj:=GoodT.addM g29 31 s31 (by rfl) fun _ _ _ hx hy=>Xd (by kernel_rfl) (g:=0) (by kernel_rfl) rfl Go.Proofs.Tryz.strconv_FormatUint_10 hx hy
noncomputable def L17:LF:=(17,⟨(.cons y8 (.cons (.int .i64) (.one (.map (.int .u32) .str)))),(.tup (.cons y0 y2)),Kr⟩)::L31
theorem g17:GoodT Tryz.prog (B mx) L17 Dj:=.hT g31 [(6,.s [sS 9,cI 3 0,cI 3 1,cI 3 2,cI 3 3,(.c 3 4,.v y1),(.c 6 0,.v (.int .u32)),(.c 6 1,.v .str),cI 6 2,(.c 6 3,.v .str),(.c 8 0,.v (.int .u32)),cI 8 1,cI 8 2,(.c 8 3,.v (.sl (.agg (.cons (.int .i64) (.cons .str y2))))),(.c 8 4,.v (.sl (.agg (.cons (.int .i64) (.cons (.int .i64) (.one (.sl (.agg (.cons (.int .i64) (.cons .str y2)))))))))),cI 8 5,cI 8 6,cI 8 7,(.s 3,.ptr 3 0),(.s 6,.ptr 6 0),(.s 8,.ptr 8 0),(.o 3,.box 5 none),(.o 6,.box 4 none),(.o 8,.box 8 none)])] (by rfl) (by kernel_rfl) (by kernel_rfl)
noncomputable def L37:LF:=(37,⟨y2,.bool,El⟩)::L17
theorem g37:GoodT Tryz.prog (B mx) L37 Dj:=.hT g17 [] (by rfl) (by kernel_rfl) (by kernel_rfl)
noncomputable def L18:LF:=(18,⟨(.one (.sl y0)),(.tup (.cons (.int .i64) (.one .bool))),Gn⟩)::L37
theorem g18:GoodT Tryz.prog (B mx) L18 Dj:=.hT g37 [(4,.s [sI 4]),(8,.l q17 [0] false),(11,.s q17),(15,.s q17)] (by rfl) (by kernel_rfl) (by kernel_rfl)
noncomputable def L8:LF:=(8,⟨(.cons y8 (.one (.map (.int .u32) .str))),(.tup (.cons (.sl y0) (.cons (.sl (.int .u32)) y2))),Kj⟩)::L18
theorem g8:GoodT Tryz.prog (B mx) L8 Dj:=.hT g18 [(2,.s [(.s 1,.v (.map (.int .u32) .str)),cI 2 0,cI 2 1,cI 2 2,cI 2 3,(.c 2 4,.v y1),(.s 2,.ptr 2 0),(.o 2,.box 5 none)]),(19,.g (.own 7 1007 46 4)),(21,.g (.own 8 1008 41 1)),(21,.s q5),(25,.l q1 [1] true),(28,.s q1),(32,.j q1 [] true),(55,.s q5)] (by rfl) (by kernel_rfl) (by kernel_rfl)
noncomputable def L27:LF:=(27,⟨(.cons (.int .i64) (.one (.sl y0))),(.int .i64),Is⟩)::L8
theorem g27:GoodT Tryz.prog (B mx) L27 Dj:=.hT g8 [(2,.s [(.s 1,.v (.sl y0))]),(19,.s [(.s 1,.v (.sl y0))]),(23,.l q4 [1] true),(26,.s q4),(30,.s q4),(34,.s [(.s 1,.v (.sl y0)),(.s 22,.v (.sl y0)),sI 23,sI 24,(.c 7 0,.v (.int .u32)),(.c 7 1,.v .str),cI 7 2,(.c 7 3,.v .str),(.o 21,.mob 102 .str .bool),(.s 5,.mp 21),(.s 7,.ptr 7 0),(.o 7,.box 4 none)]),(69,.s [])] (by rfl) (by kernel_rfl) (by kernel_rfl)
noncomputable def L44:LF:=(44,⟨y2,.str,G5⟩)::L27
theorem g44:GoodT Tryz.prog (B mx) L44 Dj:=.hT g27 [(4,.s [sI 0,sS 3]),(6,.l [sI 0,sS 3] [0] false),(7,.s [sI 0,sS 3])] (by rfl) (by kernel_rfl) (by kernel_rfl)
noncomputable def L30:LF:=(30,⟨y2,.str,EL⟩)::L44
theorem g30:GoodT Tryz.prog (B mx) L30 Dj:=.hT g44 [(2,.s [sI 0]),(12,.j [sI 0,sS 3] [] false)] (by rfl) (by kernel_rfl) (by kernel_rfl)
noncomputable def s42:Sig:=⟨(.cons (.sl .str) (.one .str)),.str,strings_Join⟩
noncomputable def L42:LF:=(42,s42)::L30
theorem g42:GoodT Tryz.prog (B mx) L42 Dj:=GoodT.addM g30 42 s42 (by rfl) fun _ _ _ hx hy=>Xh (by kernel_rfl) Go.Proofs.Tryz.strings_Join_none Go.Proofs.Tryz.strings_Join hx hy
noncomputable def s41:A9:=writeF 1048576 1048578 86 5
noncomputable def Om:LG:=(41,s41)::Dj
theorem g41:GoodT Tryz.prog (B mx) L42 Om:=GoodT.addEM g42 41 s41 (Go.Proofs.Tryz.builderWrite (by decide) rfl rfl rfl)
noncomputable def Ol:LG:=(28,⟨[(.o 1048578,.buf 5),(.c 1048576 0,.v (.bptr 1048576)),(.c 1048576 1,.own 1048578),(.o 1048576,.box 2 (some 86))],(.cons (.nam 1048576) (.one (.sl .str))),(.tup .nil),Hi⟩)::Om
theorem g28:GoodT Tryz.prog (B mx) L42 Ol:=.hE g41 [(0,.e)] (by rfl) (by kernel_rfl) (by kernel_rfl)
noncomputable def s33:A9:=stringF 1048576 1048578 86 5
noncomputable def Bb:LG:=(33,s33)::Ol
theorem g33:GoodT Tryz.prog (B mx) L42 Bb:=GoodT.addEM g28 33 s33 (Go.Proofs.Tryz.builderString (by decide) rfl rfl rfl)
noncomputable def L32:LF:=(32,⟨(.one .str),(.int .i64),Ip⟩)::L42
theorem g32:GoodT Tryz.prog (B mx) L32 Bb:=.hT g33 [(4,.s [sI 3]),(8,.l [sS 0,sI 3,sI 6,sI 7] [0] false),(11,.s [sS 0,sI 3,sI 6,sI 7]),(15,.s [sS 0,sI 3,sI 6,sI 7])] (by rfl) (by kernel_rfl) (by kernel_rfl)
noncomputable def L15:LF:=(15,⟨(.cons (.int .i64) (.one (.sl y0))),(.tup (.cons .str y2)),Ki⟩)::L32
theorem g15:GoodT Tryz.prog (B mx) L15 Bb:=.hU g32 [(2,.s [sI 0,(.s 1,.v (.sl y0))]),(13,.t [(1,.tell 7 1048576),(1,.ownb 1048576 1 1048578 5)]),(18,.s [(.o 1048578,.buf 5),(.s 7,.v (.nam 1048576)),(.c 1048576 0,.v (.bptr 1048576)),(.c 1048576 1,.own 1048578),(.o 1048576,.box 2 (some 86))]),(22,.l q3 [0] false),(25,.s q3),(29,.s q3),(33,.e)] (by rfl) (by kernel_rfl) (by kernel_rfl) rfl
noncomputable def L69:LF:=(69,⟨y3,.bool,GP⟩)::L15
theorem g69:GoodT Tryz.prog (B mx) L69 Bb:=.hT g15 [] (by rfl) (by kernel_rfl) (by kernel_rfl)
noncomputable def L65:LF:=(65,⟨y3,y5,Mw⟩)::L69
theorem g65:GoodT Tryz.prog (B mx) L65 Bb:=.hT g69 [(2,.s [sS 0,sS 1])] (by rfl) (by kernel_rfl) (by kernel_rfl)
noncomputable def L46:LF:=(46,⟨y3,y5,KW⟩)::L65
theorem g46:GoodT Tryz.prog (B mx) L46 Bb:=.hT g65 [] (by rfl) (by kernel_rfl) (by kernel_rfl)
noncomputable def L66:LF:=(66,⟨(.cons .str (.one (.int .u8))),(.int .i64),Mu⟩)::L46
theorem g66:GoodT Tryz.prog (B mx) L66 Bb:=.hT g46 [(2,.s []),(6,.l q18 [0] true),(7,.s q18),(13,.s q18)] (by rfl) (by kernel_rfl) (by kernel_rfl)
noncomputable def L47:LF:=(47,⟨(.cons .str (.one (.int .u8))),(.int .i64),ID⟩)::L66
theorem g47:GoodT Tryz.prog (B mx) L47 Bb:=.hT g66 [] (by rfl) (by kernel_rfl) (by kernel_rfl)
noncomputable def L82:LF:=(82,⟨y3,.bool,J2⟩)::L47
theorem g82:GoodT Tryz.prog (B mx) L82 Bb:=.hT g47 [] (by rfl) (by kernel_rfl) (by kernel_rfl)
noncomputable def L67:LF:=(67,⟨y3,y5,Mv⟩)::L82
theorem g67:GoodT Tryz.prog (B mx) L67 Bb:=.hT g82 [(2,.s [sS 0,sS 1])] (by rfl) (by kernel_rfl) (by kernel_rfl)
noncomputable def L48:LF:=(48,⟨y3,y5,KV⟩)::L67
theorem g48:GoodT Tryz.prog (B mx) L48 Bb:=.hT g67 [] (by rfl) (by kernel_rfl) (by kernel_rfl)
noncomputable def s68:Sig:=⟨(.cons .str y4),(.tup (.cons (.int .u64) (.one .err))),IB⟩
noncomputable def L68:LF:=(68,s68)::L48
theorem g68:GoodT Tryz.prog (B mx) L68 Bb:=GoodT.addM g48 68 s68 (by rfl) fun _ _ _ hx hy=>Xf (by kernel_rfl) (g0:=4) (g1:=5) rfl rfl Go.Proofs.Tryz.strconv_ParseUint_10_at64_ok Go.Proofs.Tryz.strconv_ParseUint_10_at64_syntax Go.Proofs.Tryz.strconv_ParseUint_10_at64_range hx hy
noncomputable def L49:LF:=(49,⟨(.cons .str (.one (.int .u64))),(.tup (.cons (.int .u64) (.one .bool))),Gm⟩)::L68
theorem g49:GoodT Tryz.prog (B mx) L49 Bb:=.hT g68 [(2,.s [sS 0,(.s 1,.v (.int .u64))]),(6,.l q15 [0] true),(9,.s q15),(13,.s q15)] (by rfl) (by kernel_rfl) (by kernel_rfl)
noncomputable def L34:LF:=(34,⟨(.one .str),y5,Ir⟩)::L49
theorem g34:GoodT Tryz.prog (B mx) L34 Bb:=.hT g49 [] (by rfl) (by kernel_rfl) (by kernel_rfl)
noncomputable def L50:LF:=(50,⟨y3,.bool,KX⟩)::L34
theorem g50:GoodT Tryz.prog (B mx) L50 Bb:=.hT g34 [] (by rfl) (by kernel_rfl) (by kernel_rfl)
noncomputable def L70:LF:=(70,⟨(.one .str),(.tup y4),Em⟩)::L50
theorem g70:GoodT Tryz.prog (B mx) L70 Bb:=.hT g50 [(4,.s [sS 0,sI 4,sB 5]),(8,.l q21 [0] true),(11,.s q21),(15,.j q21 [] true),(38,.j [sS 0,sI 4] [] false),(44,.s [sI 4])] (by rfl) (by kernel_rfl) (by kernel_rfl)
noncomputable def L72:LF:=(72,⟨y3,.str,Mx⟩)::L70
theorem g72:GoodT Tryz.prog (B mx) L72 Bb:=.hT g70 [(2,.s [sS 0])] (by rfl) (by kernel_rfl) (by kernel_rfl)
noncomputable def L53:LF:=(53,⟨y3,.str,KY⟩)::L72
theorem g53:GoodT Tryz.prog (B mx) L53 Bb:=.hT g72 [] (by rfl) (by kernel_rfl) (by kernel_rfl)
noncomputable def L97:LF:=(97,⟨(.one .str),(.int .i64),S2⟩)::L53
theorem g97:GoodT Tryz.prog (B mx) L97 Bb:=.hT g53 [(2,.s []),(3,.s []),(4,.r),(5,.r),(6,.r)] (by rfl) (by kernel_rfl) (by kernel_rfl)
noncomputable def Oi:LF:=(103,⟨(.one .str),(.tup (.cons (.int .i32) y2)),S3⟩)::L97
theorem UO:GoodT Tryz.prog (B mx) Oi Bb:=.hT g97 [(4,.s [sS 0,sI 4]),(14,.s []),(15,.r),(16,.r)] (by rfl) (by kernel_rfl) (by kernel_rfl)
noncomputable def L98:LF:=(98,⟨(.one .str),(.tup (.cons (.int .i32) y2)),S1⟩)::Oi
theorem g98:GoodT Tryz.prog (B mx) L98 Bb:=.hT UO [(2,.s [(.s 2,.v (.int .i32)),sI 3])] (by rfl) (by kernel_rfl) (by kernel_rfl)
noncomputable def L85:LF:=(85,⟨(.cons .str y2),(.sl .str),Sq⟩)::L98
theorem g85:GoodT Tryz.prog (B mx) L85 Bb:=.hT g98 [(4,.j [sS 0,sI 1] [] false),(12,.s [sS 0,sI 1,(.o 21,.arr 9 1 .str),(.s 6,.own 21)]),(16,.l q10 [0] false),(17,.s q10),(23,.s q10),(31,.j [(.o 21,.arr 9 1 .str),(.s 6,.own 21)] [] false)] (by rfl) (by kernel_rfl) (by kernel_rfl)
noncomputable def s86:Sig:=⟨y3,(.int .i64),IC⟩
noncomputable def L86:LF:=(86,s86)::L85
theorem g86:GoodT Tryz.prog (B mx) L86 Bb:=GoodT.addM g85 86 s86 (by rfl) fun _ _ _ hx hy=>Xg (by kernel_rfl) Go.Proofs.Tryz.strings_Count_one hx hy
noncomputable def RI:Sig:=⟨y3,(.int .i64),KZ⟩
noncomputable def Oh:LF:=(100,RI)::L86
theorem UN:GoodT Tryz.prog (B mx) Oh Bb:=GoodT.addM g86 100 RI (by rfl) fun _ _ _ hx hy=>Xj (by kernel_rfl) (g:=1) rfl Go.Proofs.Tryz.stringslite_Index_one Go.Proofs.Tryz.stringslite_Index hx hy
noncomputable def L87:LF:=(87,⟨y3,(.int .i64),NL⟩)::Oh
theorem g87:GoodT Tryz.prog (B mx) L87 Bb:=.hT UN [] (by rfl) (by kernel_rfl) (by kernel_rfl)
noncomputable def L71:LF:=(71,⟨(.cons .str (.cons .str y4)),(.sl .str),NM⟩)::L87
theorem g71:GoodT Tryz.prog (B mx) L71 Bb:=.hT g87 [(2,.s [sS 0,sS 1,sI 2,sI 3]),(10,.s [sS 0,sS 1,sI 2,sI 3]),(18,.j [sS 0,sS 1,sI 2,sI 3] [] false),(32,.j [sS 0,sI 10,(.o 31,.arr 9 1 .str),(.s 9,.own 31)] [] false),(34,.l q7 [0] false),(35,.s q7),(44,.s [sS 0,sS 1,sI 2,sI 3,sI 10,sI 11,(.o 31,.arr 9 1 .str),(.s 9,.own 31)]),(58,.t [(3,.frz 62)])] (by rfl) (by kernel_rfl) (by kernel_rfl)
noncomputable def L52:LF:=(52,⟨y3,(.sl .str),IE⟩)::L71
theorem g52:GoodT Tryz.prog (B mx) L52 Bb:=.hT g71 [] (by rfl) (by kernel_rfl) (by kernel_rfl)
noncomputable def L73:LF:=(73,⟨(.cons (.sl .str) (.one .str)),(.int .i64),NG⟩)::L52
theorem g73:GoodT Tryz.prog (B mx) L73 Bb:=.hT g52 [(2,.s []),(6,.l q16 [0] true),(9,.s q16),(13,.s q16)] (by rfl) (by kernel_rfl) (by kernel_rfl)
noncomputable def L54:LF:=(54,⟨(.cons (.sl .str) (.one .str)),.bool,KM⟩)::L73
theorem g54:GoodT Tryz.prog (B mx) L54 Bb:=.hT g73 [] (by rfl) (by kernel_rfl) (by kernel_rfl)
noncomputable def s51:A9:=⟨[(.c 1048640 0,.v (.int .u64)),(.c 1048640 1,.v (.int .u64)),(.c 1048640 2,.v (.int .i64)),(.o 1048644,.arr 46 4 y0),(.c 1048640 3,.own 1048644),(.o 1048640,.box 4 none)],(.cons (.nam 1048640) (.one (.sl .str))),.bool,Kp⟩
noncomputable def On:LG:=(51,s51)::Bb
theorem g51:GoodT Tryz.prog (B mx) L54 On:=.hE g54 [] (by rfl) (by kernel_rfl) (by kernel_rfl)
noncomputable def Oj:LG:=(1048627,⟨[(.c 1048640 0,.v (.int .u64)),(.c 1048640 1,.v (.int .u64)),(.c 1048640 2,.v (.int .i64)),(.o 1048644,.arr 46 4 y0),(.c 1048640 3,.own 1048644),(.o 1048640,.box 4 none)],(.cons (.sl .str) y7),.bool,Nn⟩)::On
theorem UP:GoodT Tryz.prog (B mx) L54 Oj:=GoodT.addV g51 51 (by kernel_rfl) (fn:=s51.fn) rfl
noncomputable def s55:A9:=⟨[(.c 1048640 0,.v (.int .u64)),(.c 1048640 1,.v (.int .u64)),(.c 1048640 2,.v (.int .i64)),(.o 1048644,.arr 46 4 y0),(.c 1048640 3,.own 1048644),(.o 1048640,.box 4 none)],(.cons (.nam 1048640) (.one (.sl .str))),.bool,Kq⟩
noncomputable def Oo:LG:=(55,s55)::Oj
theorem g55:GoodT Tryz.prog (B mx) L54 Oo:=.hE UP [] (by rfl) (by kernel_rfl) (by kernel_rfl)
noncomputable def Ok:LG:=(1048631,⟨[(.c 1048640 0,.v (.int .u64)),(.c 1048640 1,.v (.int .u64)),(.c 1048640 2,.v (.int .i64)),(.o 1048644,.arr 46 4 y0),(.c 1048640 3,.own 1048644),(.o 1048640,.box 4 none)],(.cons (.sl .str) y7),.bool,Np⟩)::Oo
theorem UQ:GoodT Tryz.prog (B mx) L54 Ok:=GoodT.addV g55 55 (by kernel_rfl) (fn:=s55.fn) rfl
noncomputable def Cw:LG:=(35,⟨[(.c 1048640 0,.v (.int .u64)),(.c 1048640 1,.v (.int .u64)),(.c 1048640 2,.v (.int .i64)),(.o 1048644,.arr 46 4 y0),(.c 1048640 3,.own 1048644),(.o 1048640,.box 4 none)],(.cons (.nam 1048640) (.one .str)),.bool,Hj⟩)::Ok
theorem g35:GoodT Tryz.prog (B mx) L54 Cw:=.hE UQ [(2,.s [sS 1,(.c 1048640 0,.v (.int .u64)),(.c 1048640 1,.v (.int .u64)),cI 1048640 2,(.o 1048644,.arr 46 4 y0),(.s 0,.v (.nam 1048640)),(.c 1048640 3,.own 1048644),(.o 1048640,.box 4 none)]),(12,.s [(.c 1048640 0,.v (.int .u64)),(.c 1048640 1,.v (.int .u64)),cI 1048640 2,(.o 1048644,.arr 46 4 y0),(.c 1048640 3,.own 1048644),(.o 1048640,.box 4 none)]),(16,.l q0 [0] true),(19,.s q0),(23,.s [(.s 5,.v (.clo 1048631 y7)),(.s 16,.v (.sl .str)),sI 17,sI 18,(.c 1048640 0,.v (.int .u64)),(.c 1048640 1,.v (.int .u64)),cI 1048640 2,(.o 1048644,.arr 46 4 y0),(.s 0,.v (.nam 1048640)),(.c 1048640 3,.own 1048644),(.o 1048640,.box 4 none)]),(29,.s [(.s 16,.v (.sl .str)),sI 17,sI 18,(.c 1048640 0,.v (.int .u64)),(.c 1048640 1,.v (.int .u64)),cI 1048640 2,(.o 1048644,.arr 46 4 y0),(.s 0,.v (.nam 1048640)),(.c 1048640 3,.own 1048644),(.o 1048640,.box 4 none)])] (by rfl) (by kernel_rfl) (by kernel_rfl)
noncomputable def L16:LF:=(16,⟨(.one .str),(.tup (.cons (.int .i64) (.cons (.sl y0) y2))),Kl⟩)::L54
theorem g16:GoodT Tryz.prog (B mx) L16 Cw:=.hU g35 [(2,.s [sS 0]),(12,.s [sS 5]),(21,.t [(1,.tell 7 1048640),(1,.ownc 1048640 3 1048644 46 4)]),(22,.s q2),(32,.s q2),(40,.s q2),(52,.g (.frz 3))] (by rfl) (by kernel_rfl) (by kernel_rfl) rfl
noncomputable def s5:Sig:=⟨.nil,.bool,Ib⟩
noncomputable def L5:LF:=(5,s5)::L16
theorem g5:GoodT Tryz.prog (B mx) L5 Cw:=.hT g16 [(3,.t [(3,.frz 12)]),(5,.t [(4,.frz 17)])] (by rfl) (by kernel_rfl) (by kernel_rfl)
noncomputable def s11:Sig:=⟨(.one (.sl y0)),(.nw 71 4 y0),ER⟩
noncomputable def L11:LF:=(11,s11)::L5
theorem g11:GoodT Tryz.prog (B mx) L11 Cw:=.hN g5 [(4,.g (.own 3 1003 71 4)),(4,.s [(.o 1003,.arr 71 4 y0),(.s 3,.own 1003)]),(8,.l q8 [0] false),(9,.s q8),(15,.s q8)] (by rfl) (by kernel_rfl) (by kernel_rfl)
noncomputable def L12:LF:=(12,⟨(.cons (.sl y0) y2),.bool,K0⟩)::L11
theorem g12:GoodT Tryz.prog (B mx) L12 Cw:=.hT g11 [(2,.s [(.s 0,.v (.sl y0)),sI 1]),(6,.l q19 [0] true),(7,.s q19),(13,.s q19)] (by rfl) (by kernel_rfl) (by kernel_rfl)
noncomputable def s24:Sig:=⟨(.one (.sl y0)),(.sl y0),NE⟩
noncomputable def L24:LF:=(24,s24)::L12
theorem g24:GoodT Tryz.prog (B mx) L24 Cw:=GoodT.addM g12 24 s24 (by rfl) fun _ _ _ hx hy=>TA (t:=y0) (e:=46) (size:=4) (bytes:=48) g12.E (by kernel_rfl) (by rfl) (by rfl) (by rfl) hx hy
noncomputable def s39:Sig:=⟨(.cons .nsl y2),(.nw 46 4 y0),NF⟩
noncomputable def L39:LF:=(39,s39)::L24
theorem g39:GoodT Tryz.prog (B mx) L39 Cw:=GoodT.addS g24 39 s39 (UX (e:=46) (size:=4) (bytes:=48) (i0:=(Tryz.prog.info? 46).get (by kernel_rfl)) (z:=((Tryz.prog.info? 46).bind fun i=>i.zero).get (by kernel_rfl)) (by kernel_rfl) (by kernel_rfl) (by kernel_rfl) (by kernel_rfl) (by kernel_rfl) (by decide) (by kernel_rfl) (fun w=>Any8.slices_Grow_room Tryz.grow46 none 0 0 0 w (by decide) (by decide) (by decide) (by decide)) (fun hi hz hs n w h1 h2 h3=>Any8.slices_Grow_grow Tryz.grow46 _ _ hi hz hs none 0 0 n [] w (Nat.le_refl _) h1 h2 h3 (Nat.zero_mul _).symm (fun _=>rfl) (fun _ h=>by cases h)) (by rfl))
noncomputable def L25:LF:=(25,⟨(.one y6),(.sl y0),KL⟩)::L39
theorem g25:GoodT Tryz.prog (B mx) L25 Cw:=.hT g39 [(4,.s [(.s 0,.v y6),sI 3]),(8,.l q12 [0] false),(11,.s q12),(15,.s q12),(24,.r),(29,.s [(.o 24,.arr 46 4 y0),(.s 6,.own 24)]),(33,.l q9 [2] false),(36,.s q9),(40,.s q9)] (by rfl) (by kernel_rfl) (by kernel_rfl)
noncomputable def L23:LF:=(23,⟨(.cons y0 y9),.bool,Nm⟩)::L25
theorem g23:GoodT Tryz.prog (B mx) L23 Cw:=.hT g25 [] (by rfl) (by kernel_rfl) (by kernel_rfl)
noncomputable def L22:LF:=(22,⟨(.cons (.sl y0) (.one (.clo 23 y9))),(.int .i64),KN⟩)::L23
theorem g22:GoodT Tryz.prog (B mx) L22 Cw:=.hT g23 [(2,.s []),(6,.l q11 [0] true),(9,.s q11),(13,.s q11)] (by rfl) (by kernel_rfl) (by kernel_rfl)
noncomputable def L13:LF:=(13,⟨(.cons (.sl y0) (.one .str)),(.tup (.cons (.sl y0) (.cons y0 (.one .bool)))),Km⟩)::L22
theorem g13:GoodT Tryz.prog (B mx) L13 Cw:=.hT g22 [(3,.t [(1,.frzb 3)]),(4,.s [(.s 0,.v (.sl y0)),sI 7,(.c 5 0,.v (.int .u32)),(.c 5 1,.v .str),cI 5 2,(.c 5 3,.v .str),(.s 5,.ptr 5 0),(.o 5,.box 4 none)])] (by rfl) (by kernel_rfl) (by kernel_rfl)
noncomputable def L10:LF:=(10,⟨(.cons (.sl y0) (.one (.sl y0))),.bool,Iz⟩)::L13
theorem g10:GoodT Tryz.prog (B mx) L10 Cw:=.hT g13 [(2,.s [(.s 0,.v (.sl y0)),(.s 1,.v (.sl y0))]),(10,.s []),(14,.l q14 [0] true),(15,.s q14),(21,.s q14)] (by rfl) (by kernel_rfl) (by kernel_rfl)
noncomputable def L57:LF:=(57,⟨(.cons (.int .i64) y4),(.tup y4),IX⟩)::L10
theorem g57:GoodT Tryz.prog (B mx) L57 Cw:=.hT g10 [(2,.s [sI 2]),(4,.j [sI 2,sB 8] [] false)] (by rfl) (by kernel_rfl) (by kernel_rfl)
noncomputable def L40:LF:=(40,⟨y4,(.tup y4),G4⟩)::L57
theorem g40:GoodT Tryz.prog (B mx) L40 Cw:=.hT g57 [] (by rfl) (by kernel_rfl) (by kernel_rfl)
noncomputable def L26:LF:=(26,⟨(.one (.sl (.int .i64))),(.tup y4),IV⟩)::L40
theorem g26:GoodT Tryz.prog (B mx) L26 Cw:=.hT g40 [(4,.s [sI 4]),(8,.l q13 [0] true),(11,.s q13),(15,.s q13),(21,.s [sI 7,(.s 9,.v (.sl (.int .i64))),sI 10,sI 11])] (by rfl) (by kernel_rfl) (by kernel_rfl)
noncomputable def L14:LF:=(14,⟨(.one (.sl y0)),(.tup y4),Io⟩)::L26
theorem g14:GoodT Tryz.prog (B mx) L14 Cw:=.hT g26 [(4,.g (.own 4 1004 44 1)),(4,.s [(.o 1004,.arr 44 1 (.int .i64)),(.s 4,.own 1004)]),(8,.l q6 [0] false),(11,.s q6),(15,.s q6)] (by rfl) (by kernel_rfl) (by kernel_rfl)
noncomputable def s4:Sig:=⟨(.cons (.sl y0) (.one .str)),.bool,M6⟩
noncomputable def L4:LF:=(4,s4)::L14
theorem g4:GoodT Tryz.prog (B mx) L4 Cw:=.hT g14 [(2,.s [(.s 0,.v (.sl y0)),sS 1]),(10,.s [(.s 0,.v (.sl y0)),sS 1]),(20,.s q20),(22,.l q20 [0] false),(23,.s q20),(33,.s [(.s 0,.v (.sl y0)),sI 5,(.s 6,.v (.sl y0)),sB 8,(.c 7 0,.v (.int .u32)),(.c 7 1,.v .str),cI 7 2,(.c 7 3,.v .str),(.s 7,.ptr 7 0),(.o 7,.box 4 none)]),(37,.j [sB 4] [] false),(38,.x (.ns 8 (.sp 57 .nil .nil))),(41,.s [(.s 0,.v (.sl y0)),(.s 6,.v (.sl y0)),(.c 7 0,.v (.int .u32)),(.c 7 1,.v .str),cI 7 2,(.c 7 3,.v .str),(.s 7,.ptr 7 0),(.o 7,.box 4 none)]),(42,.j [(.s 0,.v (.sl y0)),(.s 6,.v (.sl y0)),sB 89,(.c 7 0,.v (.int .u32)),(.c 7 1,.v .str),cI 7 2,(.c 7 3,.v .str),(.s 7,.ptr 7 0),(.o 7,.box 4 none)] [] false),(43,.x (.ns 11 (.sp 74 .nil .nil)))] (by rfl) (by kernel_rfl) (by kernel_rfl)
end WB
