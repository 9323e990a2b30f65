/-
  A SEAT's FUNCTIONS do what they do over plain data (printed by wip/genseat.py).
-/
import Derived.Test.YtdnifdddokcnlaaGreatDoorK8
import Derived.Test.YtdnifdddokcnlaaGreatDoorK6
import Derived.Test.YtdnifdddokcnlaaGreatDoorProg
import Derived.Test.YtdnifdddokcnlaaGreatDoorK11
import Derived.Test.YtdnifdddokcnlaaGreatDoorK12
import Derived.KernelRfl
set_option linter.unusedVariables false
set_option linter.unusedSimpArgs false
open Go.IntKind (i64 u64 u8 u32)
namespace WB
set_option maxHeartbeats 4000000
open Go Go.RowKit Go.Proofs
def lkT{α:Type}:List (Nat×α)→Nat→Option α
 | [],_=>none
 |e::l,i=>if e.1=i then some e.2 else lkT l i
variable {mx:Int}
def B(mx:Int):TB:=⟨fun i=>if i=1 then [.int .i64 mx]else if i=0 then Lib.pow10Tab.map fun z=>.int .u64 z else if i=4 then [.ifc]else if i=5 then [.ifc]else [],lkT [(71,(.agg (.cons (.int .u32) (.cons .str (.cons (.int .i64) (.one .str)))))),(57,(.agg (.cons (.int .u32) (.cons (.int .i64) (.cons (.int .i64) (.cons (.sl (.agg (.cons (.int .i64) (.cons .str (.one (.int .i64)))))) (.cons (.sl (.agg (.cons (.int .i64) (.cons (.int .i64) (.one (.sl (.agg (.cons (.int .i64) (.cons .str (.one (.int .i64))))))))))) (.cons (.int .i64) (.cons (.int .i64) (.one (.int .i64))))))))))),(41,(.int .u32)),(46,(.agg (.cons (.int .u32) (.cons .str (.cons (.int .i64) (.one .str)))))),(31,(.sl (.agg (.cons (.int .u32) (.cons .str (.cons (.int .i64) (.one .str))))))),(44,(.int .i64)),(5,(.int .u8)),(9,.str)],lkT [(28,((.int .u32),.str)),(102,(.str,.bool))],fun f=>false⟩
abbrev y0:Ty:=(.agg (.cons (.int .u32) (.cons .str (.cons (.int .i64) (.one .str)))))
abbrev y2:Ty:=(.sl (.agg (.cons (.int .u32) (.cons (.int .i64) (.one .str)))))
abbrev y3:Ty:=(.one (.int .i64))
abbrev y4:Ty:=(.cons .str (.one .str))
abbrev y6:Ty:=(.sl (.int .u32))
abbrev y7:Ty:=(.tup (.cons .str (.one .bool)))
abbrev y8:Ty:=(.cons (.int .i64) y3)
abbrev y1:Ty:=(.agg (.cons (.int .u32) (.cons (.int .i64) (.cons (.int .i64) (.cons (.sl (.agg (.cons (.int .i64) (.cons .str y3)))) (.cons (.sl (.agg (.cons (.int .i64) (.cons (.int .i64) (.one (.sl (.agg (.cons (.int .i64) (.cons .str y3))))))))) (.cons (.int .i64) y8)))))))
abbrev y5:Ty:=(.agg (.cons (.int .i64) (.cons (.int .i64) (.cons (.int .i64) (.cons (.int .i64) (.one (.sl y1)))))))
abbrev y9:Ty:=(.one (.nam 1048640))
def q0:TC:= [(.s 1,.v y2),sI 8,cI 4 0,cI 4 1,cI 4 2,cI 4 3,cI 6 0,cI 6 1,cI 6 2,cI 6 3,(.o 11,.mob 28 (.int .u32) .str),(.o 100604,.arr 57 8 y1),(.s 4,.ptr 4 0),(.s 6,.ptr 6 0),(.s 7,.mp 11),(.c 4 4,.v .nsl),(.c 6 4,.own 100604),(.o 4,.box 5 none),(.o 6,.box 5 none)]
def q1:TC:= [(.s 5,.v (.falt 1048627 y9 (.clo 1048631 y9))),(.s 16,.v (.sl .str)),sI 17,sI 18,(.c 1048640 0,.v (.int .u64)),(.c 1048640 1,.v (.int .u64)),cI 1048640 2,(.o 1048644,.arr 46 4 y0),(.s 0,.v (.nam 1048640)),(.c 1048640 3,.own 1048644),(.o 1048640,.box 4 none)]
def q2:TC:= [(.s 1,.v (.map (.int .u32) .str)),sI 30,sI 31,cI 2 0,cI 2 1,cI 2 2,cI 2 3,(.c 2 4,.v (.sl y1)),(.o 1007,.arr 46 4 y0),(.o 1008,.arr 41 1 (.int .u32)),(.s 2,.ptr 2 0),(.s 7,.own 1007),(.s 8,.own 1008),(.o 2,.box 5 none)]
def q3:TC:= [(.c 1048640 0,.v (.int .u64)),(.c 1048640 1,.v (.int .u64)),cI 1048640 2,(.o 1048644,.arr 46 4 y0),(.s 7,.v (.nam 1048640)),(.c 1048640 3,.own 1048644),(.o 1048640,.box 4 none)]
def q4:TC:= [(.s 32,.v (.sl y0)),sI 33,sI 34,(.o 1048578,.buf 5),(.s 7,.v (.nam 1048576)),(.c 1048576 0,.v (.bptr 1048576)),(.c 1048576 1,.own 1048578),(.o 1048576,.box 2 (some 86))]
def q5:TC:= [sI 0,(.s 1,.v y2),sI 9,(.o 1007,.arr 71 4 y0),(.o 1008,.arr 41 1 (.int .u32)),(.s 7,.own 1007),(.s 8,.own 1008)]
def q6:TC:= [(.s 1,.v (.sl y0)),(.s 22,.v (.sl y0)),sI 23,sI 24,(.o 21,.mob 102 .str .bool),(.s 5,.mp 21)]
def q7:TC:= [(.o 1007,.arr 46 4 y0),(.o 1008,.arr 41 1 (.int .u32)),(.s 7,.own 1007),(.s 8,.own 1008)]
def q8:TC:= [(.o 1007,.arr 71 4 y0),(.o 1008,.arr 41 1 (.int .u32)),(.s 7,.own 1007),(.s 8,.own 1008)]
def q9:TC:= [(.s 0,.v (.sl y0)),sI 5,(.o 1004,.arr 44 1 (.int .i64)),(.s 4,.own 1004)]
def q10:TC:= [sS 0,sS 1,sI 2,sI 3,sI 10,(.o 31,.arr 9 1 .str),(.s 9,.own 31)]
def q11:TC:= [(.s 0,.v (.sl y0)),sI 4,(.o 1003,.arr 71 4 y0),(.s 3,.own 1003)]
def q12:TC:= [sS 0,sI 1,sI 7,(.o 21,.arr 9 1 .str),(.s 6,.own 21)]
def q13:TC:= [(.s 0,.v (.sl y0)),(.s 1,.v (.sl y0)),sI 5]
def q14:TC:= [sS 0,(.s 1,.v (.int .u64)),sI 10,sI 11]
def q15:TC:= [(.s 0,.v (.sl (.int .i64))),sI 4,sI 5]
def q16:TC:= [(.s 0,.v (.sl .str)),sS 1,sI 7,sI 8]
def q17:TC:= [sI 4,(.s 7,.v (.sl y0)),sI 8,sI 9]
def q18:TC:= [(.s 8,.v y6),(.s 11,.v y6),sI 13]
def q19:TC:= [sS 0,(.s 1,.v (.int .u8)),sI 5]
def q20:TC:= [sS 0,sI 4,sB 5,sI 9,sI 10]
def q21:TC:= [(.s 0,.v (.int .u64)),sS 3]
def q22:TC:= [(.s 0,.v y2),sI 3,sI 4]
def q23:TC:= [(.s 0,.v y2),sI 3]
def q24:TC:= [sI 0,(.s 1,.v y2)]
abbrev LF:=List (FuncId×Sig)
abbrev LG:=List (FuncId×AD)
def NQ:List (FuncId×Sig):= []
def Db:List (FuncId×AD):= []
theorem Ux:GoodT Tryz.prog (B mx) NQ Db:=GoodT.nil _ _
noncomputable def L36:LF:=(36,⟨(.one .str),.bool,GS⟩)::NQ
theorem g36:GoodT Tryz.prog (B mx) L36 Db:=.hT Ux [(2,.s [sS 0]),(6,.l [sS 0,sI 6,sI 7] [0] true),(9,.s [sS 0,sI 6,sI 7]),(13,.s [sS 0,sI 6,sI 7])] (by rfl) (by kernel_rfl) (by kernel_rfl)
noncomputable def s29:Sig:=⟨y3,.str,strconv_Itoa⟩
noncomputable def L29:LF:=(29,s29)::L36
theorem g29:GoodT Tryz.prog (B mx) L29 Db:=GoodT.addM g36 29 s29 (by rfl) fun _ _ _ hx hy=>W5 (by kernel_rfl) (g:=0) (by kernel_rfl) rfl Go.Proofs.Tryz.strconv_Itoa hx hy
noncomputable def s31:Sig:=⟨(.cons (.int .u64) y3),.str,F4⟩
noncomputable def L31:LF:=(31,s31)::L29
theorem g31:GoodT Tryz.prog (B mx) L31 Db:=GoodT.addM g29 31 s31 (by rfl) fun _ _ _ hx hy=>W4 (by kernel_rfl) (g:=0) (by kernel_rfl) rfl Go.Proofs.Tryz.strconv_FormatUint_10 hx hy
noncomputable def L17:LF:=(17,⟨(.cons y5 (.cons (.int .i64) (.one (.map (.int .u32) .str)))),(.tup (.cons y0 y3)),JW⟩)::L31
theorem g17:GoodT Tryz.prog (B mx) L17 Db:=.hT g31 [(6,.s [sS 9,cI 3 0,cI 3 1,cI 3 2,cI 3 3,(.c 3 4,.v (.sl y1)),(.c 6 0,.v (.int .u32)),(.c 6 1,.v .str),cI 6 2,(.c 6 3,.v .str),(.c 8 0,.v (.int .u32)),cI 8 1,cI 8 2,(.c 8 3,.v (.sl (.agg (.cons (.int .i64) (.cons .str y3))))),(.c 8 4,.v (.sl (.agg (.cons (.int .i64) (.cons (.int .i64) (.one (.sl (.agg (.cons (.int .i64) (.cons .str y3)))))))))),cI 8 5,cI 8 6,cI 8 7,(.s 3,.ptr 3 0),(.s 6,.ptr 6 0),(.s 8,.ptr 8 0),(.o 3,.box 5 none),(.o 6,.box 4 none),(.o 8,.box 8 none)])] (by rfl) (by kernel_rfl) (by kernel_rfl)
noncomputable def L37:LF:=(37,⟨y3,.bool,FD⟩)::L17
theorem g37:GoodT Tryz.prog (B mx) L37 Db:=.hT g17 [] (by rfl) (by kernel_rfl) (by kernel_rfl)
noncomputable def L18:LF:=(18,⟨(.one (.sl y0)),(.tup (.cons (.int .i64) (.one .bool))),FZ⟩)::L37
theorem g18:GoodT Tryz.prog (B mx) L18 Db:=.hT g37 [(4,.s [sI 4]),(8,.l q17 [0] false),(11,.s q17),(15,.s q17)] (by rfl) (by kernel_rfl) (by kernel_rfl)
noncomputable def L8:LF:=(8,⟨(.cons y5 (.one (.map (.int .u32) .str))),(.tup (.cons (.sl y0) (.cons y6 y3))),Ic⟩)::L18
theorem g8:GoodT Tryz.prog (B mx) L8 Db:=.hT g18 [(2,.s [(.s 1,.v (.map (.int .u32) .str)),cI 2 0,cI 2 1,cI 2 2,cI 2 3,(.c 2 4,.v (.sl y1)),(.s 2,.ptr 2 0),(.o 2,.box 5 none)]),(19,.g (.own 7 1007 46 4)),(21,.g (.own 8 1008 41 1)),(21,.s q7),(25,.l q2 [1] true),(28,.s q2),(32,.j q2 [] true),(55,.s q7)] (by rfl) (by kernel_rfl) (by kernel_rfl)
noncomputable def L27:LF:=(27,⟨(.cons (.int .i64) (.one (.sl y0))),(.int .i64),Ig⟩)::L8
theorem g27:GoodT Tryz.prog (B mx) L27 Db:=.hT g8 [(2,.s [(.s 1,.v (.sl y0))]),(19,.s [(.s 1,.v (.sl y0))]),(23,.l q6 [1] true),(26,.s q6),(30,.s q6),(34,.s [(.s 1,.v (.sl y0)),(.s 22,.v (.sl y0)),sI 23,sI 24,(.c 7 0,.v (.int .u32)),(.c 7 1,.v .str),cI 7 2,(.c 7 3,.v .str),(.o 21,.mob 102 .str .bool),(.s 5,.mp 21),(.s 7,.ptr 7 0),(.o 7,.box 4 none)]),(69,.s [])] (by rfl) (by kernel_rfl) (by kernel_rfl)
noncomputable def L44:LF:=(44,⟨y3,.str,Gs⟩)::L27
theorem g44:GoodT Tryz.prog (B mx) L44 Db:=.hT g27 [(4,.s [sI 0,sS 3]),(6,.l [sI 0,sS 3] [0] false),(7,.s [sI 0,sS 3])] (by rfl) (by kernel_rfl) (by kernel_rfl)
noncomputable def L30:LF:=(30,⟨y3,.str,EF⟩)::L44
theorem g30:GoodT Tryz.prog (B mx) L30 Db:=.hT g44 [(2,.s [sI 0]),(12,.j [sI 0,sS 3] [] false)] (by rfl) (by kernel_rfl) (by kernel_rfl)
noncomputable def s42:Sig:=⟨(.cons (.sl .str) (.one .str)),.str,strings_Join⟩
noncomputable def L42:LF:=(42,s42)::L30
theorem g42:GoodT Tryz.prog (B mx) L42 Db:=GoodT.addM g30 42 s42 (by rfl) fun _ _ _ hx hy=>W8 (by kernel_rfl) Go.Proofs.Tryz.strings_Join_none Go.Proofs.Tryz.strings_Join hx hy
noncomputable def s41:AD:=writeF 1048576 1048578 86 5
noncomputable def NN:LG:=(41,s41)::Db
theorem g41:GoodT Tryz.prog (B mx) L42 NN:=GoodT.addEM g42 41 s41 (Go.Proofs.Tryz.builderWrite (by decide) rfl rfl rfl)
noncomputable def NM:LG:=(28,⟨[(.o 1048578,.buf 5),(.c 1048576 0,.v (.bptr 1048576)),(.c 1048576 1,.own 1048578),(.o 1048576,.box 2 (some 86))],(.cons (.nam 1048576) (.one (.sl .str))),(.tup .nil),GT⟩)::NN
theorem g28:GoodT Tryz.prog (B mx) L42 NM:=.hE g41 [(0,.e)] (by rfl) (by kernel_rfl) (by kernel_rfl)
noncomputable def s33:AD:=stringF 1048576 1048578 86 5
noncomputable def Br:LG:=(33,s33)::NM
theorem g33:GoodT Tryz.prog (B mx) L42 Br:=GoodT.addEM g28 33 s33 (Go.Proofs.Tryz.builderString (by decide) rfl rfl rfl)
noncomputable def L32:LF:=(32,⟨(.one .str),(.int .i64),Id⟩)::L42
theorem g32:GoodT Tryz.prog (B mx) L32 Br:=.hT g33 [(4,.s [sI 3]),(8,.l [sS 0,sI 3,sI 6,sI 7] [0] false),(11,.s [sS 0,sI 3,sI 6,sI 7]),(15,.s [sS 0,sI 3,sI 6,sI 7])] (by rfl) (by kernel_rfl) (by kernel_rfl)
noncomputable def L15:LF:=(15,⟨(.cons (.int .i64) (.one (.sl y0))),(.tup (.cons .str y3)),JQ⟩)::L32
theorem g15:GoodT Tryz.prog (B mx) L15 Br:=.hU g32 [(2,.s [sI 0,(.s 1,.v (.sl y0))]),(13,.t [(1,.tell 7 1048576),(1,.ownb 1048576 1 1048578 5)]),(18,.s [(.o 1048578,.buf 5),(.s 7,.v (.nam 1048576)),(.c 1048576 0,.v (.bptr 1048576)),(.c 1048576 1,.own 1048578),(.o 1048576,.box 2 (some 86))]),(22,.l q4 [0] false),(25,.s q4),(29,.s q4),(33,.e)] (by rfl) (by kernel_rfl) (by kernel_rfl) rfl
noncomputable def L69:LF:=(69,⟨y4,.bool,GA⟩)::L15
theorem g69:GoodT Tryz.prog (B mx) L69 Br:=.hT g15 [] (by rfl) (by kernel_rfl) (by kernel_rfl)
noncomputable def L65:LF:=(65,⟨y4,y7,Mf⟩)::L69
theorem g65:GoodT Tryz.prog (B mx) L65 Br:=.hT g69 [(2,.s [sS 0,sS 1])] (by rfl) (by kernel_rfl) (by kernel_rfl)
noncomputable def L46:LF:=(46,⟨y4,y7,KH⟩)::L65
theorem g46:GoodT Tryz.prog (B mx) L46 Br:=.hT g65 [] (by rfl) (by kernel_rfl) (by kernel_rfl)
noncomputable def L66:LF:=(66,⟨(.cons .str (.one (.int .u8))),(.int .i64),Md⟩)::L46
theorem g66:GoodT Tryz.prog (B mx) L66 Br:=.hT g46 [(2,.s []),(6,.l q19 [0] true),(7,.s q19),(13,.s q19)] (by rfl) (by kernel_rfl) (by kernel_rfl)
noncomputable def L47:LF:=(47,⟨(.cons .str (.one (.int .u8))),(.int .i64),Iz⟩)::L66
theorem g47:GoodT Tryz.prog (B mx) L47 Br:=.hT g66 [] (by rfl) (by kernel_rfl) (by kernel_rfl)
noncomputable def L82:LF:=(82,⟨y4,.bool,Jj⟩)::L47
theorem g82:GoodT Tryz.prog (B mx) L82 Br:=.hT g47 [] (by rfl) (by kernel_rfl) (by kernel_rfl)
noncomputable def L67:LF:=(67,⟨y4,y7,Me⟩)::L82
theorem g67:GoodT Tryz.prog (B mx) L67 Br:=.hT g82 [(2,.s [sS 0,sS 1])] (by rfl) (by kernel_rfl) (by kernel_rfl)
noncomputable def L48:LF:=(48,⟨y4,y7,KG⟩)::L67
theorem g48:GoodT Tryz.prog (B mx) L48 Br:=.hT g67 [] (by rfl) (by kernel_rfl) (by kernel_rfl)
noncomputable def s68:Sig:=⟨(.cons .str y8),(.tup (.cons (.int .u64) (.one .err))),Iw⟩
noncomputable def L68:LF:=(68,s68)::L48
theorem g68:GoodT Tryz.prog (B mx) L68 Br:=GoodT.addM g48 68 s68 (by rfl) fun _ _ _ hx hy=>W6 (by kernel_rfl) (g0:=4) (g1:=5) rfl rfl Go.Proofs.Tryz.strconv_ParseUint_10_at64_ok Go.Proofs.Tryz.strconv_ParseUint_10_at64_syntax Go.Proofs.Tryz.strconv_ParseUint_10_at64_range hx hy
noncomputable def L49:LF:=(49,⟨(.cons .str (.one (.int .u64))),(.tup (.cons (.int .u64) (.one .bool))),FY⟩)::L68
theorem g49:GoodT Tryz.prog (B mx) L49 Br:=.hT g68 [(2,.s [sS 0,(.s 1,.v (.int .u64))]),(6,.l q14 [0] true),(9,.s q14),(13,.s q14)] (by rfl) (by kernel_rfl) (by kernel_rfl)
noncomputable def L34:LF:=(34,⟨(.one .str),y7,If⟩)::L49
theorem g34:GoodT Tryz.prog (B mx) L34 Br:=.hT g49 [] (by rfl) (by kernel_rfl) (by kernel_rfl)
noncomputable def L50:LF:=(50,⟨y4,.bool,KI⟩)::L34
theorem g50:GoodT Tryz.prog (B mx) L50 Br:=.hT g34 [] (by rfl) (by kernel_rfl) (by kernel_rfl)
noncomputable def L70:LF:=(70,⟨(.one .str),(.tup y8),Ej⟩)::L50
theorem g70:GoodT Tryz.prog (B mx) L70 Br:=.hT g50 [(4,.s [sS 0,sI 4,sB 5]),(8,.l q20 [0] true),(11,.s q20),(15,.j q20 [] true),(38,.j [sS 0,sI 4] [] false),(44,.s [sI 4])] (by rfl) (by kernel_rfl) (by kernel_rfl)
noncomputable def L72:LF:=(72,⟨y4,.str,Mg⟩)::L70
theorem g72:GoodT Tryz.prog (B mx) L72 Br:=.hT g70 [(2,.s [sS 0])] (by rfl) (by kernel_rfl) (by kernel_rfl)
noncomputable def L53:LF:=(53,⟨y4,.str,KJ⟩)::L72
theorem g53:GoodT Tryz.prog (B mx) L53 Br:=.hT g72 [] (by rfl) (by kernel_rfl) (by kernel_rfl)
noncomputable def L97:LF:=(97,⟨(.one .str),(.int .i64),Sb⟩)::L53
theorem g97:GoodT Tryz.prog (B mx) L97 Br:=.hT g53 [(2,.s []),(3,.s []),(4,.r),(5,.r),(6,.r)] (by rfl) (by kernel_rfl) (by kernel_rfl)
noncomputable def NJ:LF:=(103,⟨(.one .str),(.tup (.cons (.int .i32) y3)),Sc⟩)::L97
theorem Uu:GoodT Tryz.prog (B mx) NJ Br:=.hT g97 [(4,.s [sS 0,sI 4]),(14,.s []),(15,.r),(16,.r)] (by rfl) (by kernel_rfl) (by kernel_rfl)
noncomputable def L98:LF:=(98,⟨(.one .str),(.tup (.cons (.int .i32) y3)),Sa⟩)::NJ
theorem g98:GoodT Tryz.prog (B mx) L98 Br:=.hT Uu [(2,.s [(.s 2,.v (.int .i32)),sI 3])] (by rfl) (by kernel_rfl) (by kernel_rfl)
noncomputable def L85:LF:=(85,⟨(.cons .str y3),(.sl .str),RN⟩)::L98
theorem g85:GoodT Tryz.prog (B mx) L85 Br:=.hT g98 [(4,.j [sS 0,sI 1] [] false),(12,.s [sS 0,sI 1,(.o 21,.arr 9 1 .str),(.s 6,.own 21)]),(16,.l q12 [0] false),(17,.s q12),(23,.s q12),(31,.j [(.o 21,.arr 9 1 .str),(.s 6,.own 21)] [] false)] (by rfl) (by kernel_rfl) (by kernel_rfl)
noncomputable def s86:Sig:=⟨y4,(.int .i64),Iy⟩
noncomputable def L86:LF:=(86,s86)::L85
theorem g86:GoodT Tryz.prog (B mx) L86 Br:=GoodT.addM g85 86 s86 (by rfl) fun _ _ _ hx hy=>W7 (by kernel_rfl) Go.Proofs.Tryz.strings_Count_one hx hy
noncomputable def Ru:Sig:=⟨y4,(.int .i64),KK⟩
noncomputable def NI:LF:=(100,Ru)::L86
theorem Ut:GoodT Tryz.prog (B mx) NI Br:=GoodT.addM g86 100 Ru (by rfl) fun _ _ _ hx hy=>WA (by kernel_rfl) (g:=1) rfl Go.Proofs.Tryz.stringslite_Index_one Go.Proofs.Tryz.stringslite_Index hx hy
noncomputable def L87:LF:=(87,⟨y4,(.int .i64),Nx⟩)::NI
theorem g87:GoodT Tryz.prog (B mx) L87 Br:=.hT Ut [] (by rfl) (by kernel_rfl) (by kernel_rfl)
noncomputable def L71:LF:=(71,⟨(.cons .str (.cons .str y8)),(.sl .str),Ny⟩)::L87
theorem g71:GoodT Tryz.prog (B mx) L71 Br:=.hT g87 [(2,.s [sS 0,sS 1,sI 2,sI 3]),(10,.s [sS 0,sS 1,sI 2,sI 3]),(18,.j [sS 0,sS 1,sI 2,sI 3] [] false),(32,.j [sS 0,sI 10,(.o 31,.arr 9 1 .str),(.s 9,.own 31)] [] false),(34,.l q10 [0] false),(35,.s q10),(44,.s [sS 0,sS 1,sI 2,sI 3,sI 10,sI 11,(.o 31,.arr 9 1 .str),(.s 9,.own 31)]),(58,.t [(3,.frz 62)])] (by rfl) (by kernel_rfl) (by kernel_rfl)
noncomputable def L52:LF:=(52,⟨y4,(.sl .str),I0⟩)::L71
theorem g52:GoodT Tryz.prog (B mx) L52 Br:=.hT g71 [] (by rfl) (by kernel_rfl) (by kernel_rfl)
noncomputable def L73:LF:=(73,⟨(.cons (.sl .str) (.one .str)),(.int .i64),Ns⟩)::L52
theorem g73:GoodT Tryz.prog (B mx) L73 Br:=.hT g52 [(2,.s []),(6,.l q16 [0] true),(9,.s q16),(13,.s q16)] (by rfl) (by kernel_rfl) (by kernel_rfl)
noncomputable def L54:LF:=(54,⟨(.cons (.sl .str) (.one .str)),.bool,Kz⟩)::L73
theorem g54:GoodT Tryz.prog (B mx) L54 Br:=.hT g73 [] (by rfl) (by kernel_rfl) (by kernel_rfl)
noncomputable def s51:AD:=⟨[(.c 1048640 0,.v (.int .u64)),(.c 1048640 1,.v (.int .u64)),(.c 1048640 2,.v (.int .i64)),(.o 1048644,.arr 46 4 y0),(.c 1048640 3,.own 1048644),(.o 1048640,.box 4 none)],(.cons (.nam 1048640) (.one (.sl .str))),.bool,JU⟩
noncomputable def NO:LG:=(51,s51)::Br
theorem g51:GoodT Tryz.prog (B mx) L54 NO:=.hE g54 [] (by rfl) (by kernel_rfl) (by kernel_rfl)
noncomputable def NK:LG:=(1048627,⟨[(.c 1048640 0,.v (.int .u64)),(.c 1048640 1,.v (.int .u64)),(.c 1048640 2,.v (.int .i64)),(.o 1048644,.arr 46 4 y0),(.c 1048640 3,.own 1048644),(.o 1048640,.box 4 none)],(.cons (.sl .str) y9),.bool,MV⟩)::NO
theorem Uv:GoodT Tryz.prog (B mx) L54 NK:=GoodT.addV g51 51 (by kernel_rfl) (fn:=s51.fn) rfl
noncomputable def s55:AD:=⟨[(.c 1048640 0,.v (.int .u64)),(.c 1048640 1,.v (.int .u64)),(.c 1048640 2,.v (.int .i64)),(.o 1048644,.arr 46 4 y0),(.c 1048640 3,.own 1048644),(.o 1048640,.box 4 none)],(.cons (.nam 1048640) (.one (.sl .str))),.bool,JV⟩
noncomputable def NP:LG:=(55,s55)::NK
theorem g55:GoodT Tryz.prog (B mx) L54 NP:=.hE Uv [] (by rfl) (by kernel_rfl) (by kernel_rfl)
noncomputable def NL:LG:=(1048631,⟨[(.c 1048640 0,.v (.int .u64)),(.c 1048640 1,.v (.int .u64)),(.c 1048640 2,.v (.int .i64)),(.o 1048644,.arr 46 4 y0),(.c 1048640 3,.own 1048644),(.o 1048640,.box 4 none)],(.cons (.sl .str) y9),.bool,MW⟩)::NP
theorem Uw:GoodT Tryz.prog (B mx) L54 NL:=GoodT.addV g55 55 (by kernel_rfl) (fn:=s55.fn) rfl
noncomputable def CE:LG:=(35,⟨[(.c 1048640 0,.v (.int .u64)),(.c 1048640 1,.v (.int .u64)),(.c 1048640 2,.v (.int .i64)),(.o 1048644,.arr 46 4 y0),(.c 1048640 3,.own 1048644),(.o 1048640,.box 4 none)],(.cons (.nam 1048640) (.one .str)),.bool,GU⟩)::NL
theorem g35:GoodT Tryz.prog (B mx) L54 CE:=.hE Uw [(2,.s [sS 1,(.c 1048640 0,.v (.int .u64)),(.c 1048640 1,.v (.int .u64)),cI 1048640 2,(.o 1048644,.arr 46 4 y0),(.s 0,.v (.nam 1048640)),(.c 1048640 3,.own 1048644),(.o 1048640,.box 4 none)]),(12,.s [(.c 1048640 0,.v (.int .u64)),(.c 1048640 1,.v (.int .u64)),cI 1048640 2,(.o 1048644,.arr 46 4 y0),(.c 1048640 3,.own 1048644),(.o 1048640,.box 4 none)]),(16,.l q1 [0] true),(19,.s q1),(23,.s [(.s 5,.v (.clo 1048631 y9)),(.s 16,.v (.sl .str)),sI 17,sI 18,(.c 1048640 0,.v (.int .u64)),(.c 1048640 1,.v (.int .u64)),cI 1048640 2,(.o 1048644,.arr 46 4 y0),(.s 0,.v (.nam 1048640)),(.c 1048640 3,.own 1048644),(.o 1048640,.box 4 none)]),(29,.s [(.s 16,.v (.sl .str)),sI 17,sI 18,(.c 1048640 0,.v (.int .u64)),(.c 1048640 1,.v (.int .u64)),cI 1048640 2,(.o 1048644,.arr 46 4 y0),(.s 0,.v (.nam 1048640)),(.c 1048640 3,.own 1048644),(.o 1048640,.box 4 none)])] (by rfl) (by kernel_rfl) (by kernel_rfl)
noncomputable def L16:LF:=(16,⟨(.one .str),(.tup (.cons (.int .i64) (.cons (.sl y0) y3))),JS⟩)::L54
theorem g16:GoodT Tryz.prog (B mx) L16 CE:=.hU g35 [(2,.s [sS 0]),(12,.s [sS 5]),(21,.t [(1,.tell 7 1048640),(1,.ownc 1048640 3 1048644 46 4)]),(22,.s q3),(32,.s q3),(40,.s q3),(52,.g (.frz 3))] (by rfl) (by kernel_rfl) (by kernel_rfl) rfl
noncomputable def s5:Sig:=⟨.nil,.bool,HM⟩
noncomputable def L5:LF:=(5,s5)::L16
theorem g5:GoodT Tryz.prog (B mx) L5 CE:=.hT g16 [(3,.t [(3,.frz 12)]),(5,.t [(4,.frz 17)])] (by rfl) (by kernel_rfl) (by kernel_rfl)
noncomputable def s6:Sig:=⟨(.one y2),.bool,Jt⟩
noncomputable def L6:LF:=(6,s6)::L5
theorem g6:GoodT Tryz.prog (B mx) L6 CE:=.hT g5 [(2,.s [(.s 0,.v y2)]),(6,.l q23 [0] true),(7,.s q23),(13,.s q23),(15,.s q23),(26,.l q22 [2] true),(27,.s q22),(33,.s q22)] (by rfl) (by kernel_rfl) (by kernel_rfl)
noncomputable def s7:Sig:=⟨(.cons (.int .i64) (.one y2)),(.tup (.cons y5 (.one (.map (.int .u32) .str)))),Ju⟩
noncomputable def L7:LF:=(7,s7)::L6
theorem g7:GoodT Tryz.prog (B mx) L7 CE:=.hT g6 [(4,.g (.ownc 6 4 100604 57 8)),(6,.s [cI 4 0,cI 4 1,cI 4 2,cI 4 3,cI 6 0,cI 6 1,cI 6 2,cI 6 3,(.o 11,.mob 28 (.int .u32) .str),(.o 100604,.arr 57 8 y1),(.s 4,.ptr 4 0),(.s 6,.ptr 6 0),(.s 7,.mp 11),(.c 4 4,.v .nsl),(.c 6 4,.own 100604),(.o 4,.box 5 none),(.o 6,.box 5 none)]),(10,.l q0 [0] false),(11,.s q0),(17,.j q0 [] false),(28,.t [(0,.frzc 6 4)])] (by rfl) (by kernel_rfl) (by kernel_rfl)
noncomputable def L19:LF:=(19,⟨(.one .str),.bool,Ki⟩)::L7
theorem g19:GoodT Tryz.prog (B mx) L19 CE:=.hT g7 [(2,.s [sS 0]),(6,.l [sS 0,sI 3] [0] true),(7,.s [sS 0,sI 3]),(13,.s [sS 0,sI 3])] (by rfl) (by kernel_rfl) (by kernel_rfl)
noncomputable def L20:LF:=(20,⟨(.one (.int .u64)),.str,Gb⟩)::L19
theorem g20:GoodT Tryz.prog (B mx) L20 CE:=.hT g19 [(4,.s q21),(6,.l q21 [0] false),(7,.s q21)] (by rfl) (by kernel_rfl) (by kernel_rfl)
noncomputable def L74:LF:=(74,⟨y3,.bool,Im⟩)::L20
theorem g74:GoodT Tryz.prog (B mx) L74 CE:=.hT g20 [] (by rfl) (by kernel_rfl) (by kernel_rfl)
noncomputable def L56:LF:=(56,⟨y8,(.tup y8),Kf⟩)::L74
theorem g56:GoodT Tryz.prog (B mx) L56 CE:=.hT g74 [(2,.s [sI 0,sI 1]),(10,.s [sI 0,sI 1])] (by rfl) (by kernel_rfl) (by kernel_rfl)
noncomputable def L38:LF:=(38,⟨(.one (.sl (.int .i64))),(.tup y8),Kg⟩)::L56
theorem g38:GoodT Tryz.prog (B mx) L38 CE:=.hT g56 [(4,.s [sI 4]),(8,.l q15 [0] true),(9,.s q15),(15,.s q15),(19,.s [(.s 0,.v (.sl (.int .i64))),sI 5,sI 6])] (by rfl) (by kernel_rfl) (by kernel_rfl)
noncomputable def L21:LF:=(21,⟨(.one (.sl y0)),(.tup y8),Km⟩)::L38
theorem g21:GoodT Tryz.prog (B mx) L21 CE:=.hT g38 [(4,.g (.own 4 1004 44 1)),(4,.s [(.o 1004,.arr 44 1 (.int .i64)),(.s 4,.own 1004)]),(8,.l q9 [0] false),(9,.s q9),(15,.s q9)] (by rfl) (by kernel_rfl) (by kernel_rfl)
noncomputable def L9:LF:=(9,⟨(.cons (.int .i64) (.one y2)),(.tup (.cons (.sl y0) (.cons y6 y3))),Kj⟩)::L21
theorem g9:GoodT Tryz.prog (B mx) L9 CE:=.hT g21 [(2,.s q24),(10,.s q24),(20,.g (.own 7 1007 71 4)),(22,.g (.own 8 1008 41 1)),(22,.s q8),(26,.l q5 [0] true),(27,.s q5),(33,.j q5 [] true),(35,.s q5),(43,.s q5),(51,.s q5),(59,.s q5),(65,.s q5),(73,.s q5),(85,.s q8)] (by rfl) (by kernel_rfl) (by kernel_rfl)
noncomputable def s11:Sig:=⟨(.one (.sl y0)),(.sl y0),Jr⟩
noncomputable def L11:LF:=(11,s11)::L9
theorem g11:GoodT Tryz.prog (B mx) L11 CE:=.hT g9 [(4,.g (.own 3 1003 71 4)),(4,.s [(.o 1003,.arr 71 4 y0),(.s 3,.own 1003)]),(8,.l q11 [0] false),(9,.s q11),(15,.s q11)] (by rfl) (by kernel_rfl) (by kernel_rfl)
noncomputable def L10:LF:=(10,⟨(.cons (.sl y0) (.one (.sl y0))),.bool,Kl⟩)::L11
theorem g10:GoodT Tryz.prog (B mx) L10 CE:=.hT g11 [(2,.s [(.s 0,.v (.sl y0)),(.s 1,.v (.sl y0))]),(10,.s []),(14,.l q13 [0] true),(15,.s q13),(21,.s q13)] (by rfl) (by kernel_rfl) (by kernel_rfl)
noncomputable def s3:Sig:=⟨(.cons (.int .i64) (.one y2)),.bool,Mo⟩
noncomputable def L3:LF:=(3,s3)::L10
theorem g3:GoodT Tryz.prog (B mx) L3 CE:=.hT g10 [(2,.s q24),(10,.s q24),(24,.s [(.s 8,.v y6),(.s 11,.v y6)]),(32,.s []),(36,.l q18 [0] true),(37,.s q18),(43,.s q18)] (by rfl) (by kernel_rfl) (by kernel_rfl)
end WB
