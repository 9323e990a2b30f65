/-
  A SEAT's FUNCTIONS do what they do over plain data (printed by wip/genseat.py).
-/
import Derived.Test.YtdnifdddokcnlaaDoorK8
import Derived.Test.YtdnifdddokcnlaaDoorK6
import Derived.Test.YtdnifdddokcnlaaDoorProg
import Derived.Test.YtdnifdddokcnlaaDoorK11
import Derived.Test.YtdnifdddokcnlaaDoorK12
import Derived.KernelRfl
set_option linter.unusedVariables false
set_option linter.unusedSimpArgs false
open Go.IntKind (i64 u64 u8 u32)
namespace WB
set_option maxHeartbeats 4000000
open Go Go.RowKit Go.Proofs
def lkT{α:Type}:List (Nat×α)→Nat→Option α
 | [],_=>none
 |e::l,i=>if e.1=i then some e.2 else lkT l i
variable {mx:Int}
def B(mx:Int):TB:=⟨fun i=>if i=0 then [.int .i64 mx]else if i=1 then Lib.pow10Tab.map fun z=>.int .u64 z else if i=2 then [.ifc]else if i=3 then [.ifc]else [],lkT [(62,(.agg (.cons (.int .u32) (.cons (.int .i64) (.cons (.int .i64) (.cons (.sl (.agg (.cons (.int .i64) (.cons .str (.one (.int .i64)))))) (.cons (.sl (.agg (.cons (.int .i64) (.cons (.int .i64) (.one (.sl (.agg (.cons (.int .i64) (.cons .str (.one (.int .i64))))))))))) (.cons (.int .i64) (.cons (.int .i64) (.one (.int .i64))))))))))),(63,(.agg (.cons (.int .u32) (.cons .str (.cons (.int .i64) (.one .str)))))),(51,(.int .u32)),(55,(.agg (.cons (.int .u32) (.cons .str (.cons (.int .i64) (.one .str)))))),(48,(.int .i64)),(9,.str),(5,(.int .u8))],lkT [(42,((.int .u32),.str)),(100,(.str,.bool))],fun f=>false⟩
abbrev y0:Ty:=(.agg (.cons (.int .u32) (.cons .str (.cons (.int .i64) (.one .str)))))
abbrev y2:Ty:=(.one (.int .i64))
abbrev y1:Ty:=(.sl (.agg (.cons (.int .u32) (.cons (.int .i64) (.cons (.int .i64) (.cons (.sl (.agg (.cons (.int .i64) (.cons .str y2)))) (.cons (.sl (.agg (.cons (.int .i64) (.cons (.int .i64) (.one (.sl (.agg (.cons (.int .i64) (.cons .str y2))))))))) (.cons (.int .i64) (.cons (.int .i64) y2)))))))))
abbrev y3:Ty:=(.cons .str (.one .str))
abbrev y4:Ty:=(.tup (.cons .str (.one .bool)))
abbrev y5:Ty:=(.one (.nam 1048640))
abbrev y6:Ty:=(.agg (.cons (.int .i64) (.cons (.int .i64) (.cons (.int .i64) (.cons (.int .i64) (.one y1))))))
def q0:TC:= [(.s 5,.v (.falt 1048609 y5 (.clo 1048613 y5))),(.s 16,.v (.sl .str)),sI 17,sI 18,(.c 1048640 0,.v (.int .u64)),(.c 1048640 1,.v (.int .u64)),cI 1048640 2,(.o 1048644,.arr 55 4 y0),(.s 0,.v (.nam 1048640)),(.c 1048640 3,.own 1048644),(.o 1048640,.box 4 none)]
def q1:TC:= [(.s 1,.v (.map (.int .u32) .str)),sI 30,sI 31,cI 2 0,cI 2 1,cI 2 2,cI 2 3,(.c 2 4,.v y1),(.o 1007,.arr 55 4 y0),(.o 1008,.arr 51 1 (.int .u32)),(.s 2,.ptr 2 0),(.s 7,.own 1007),(.s 8,.own 1008),(.o 2,.box 5 none)]
def q2:TC:= [(.c 1048640 0,.v (.int .u64)),(.c 1048640 1,.v (.int .u64)),cI 1048640 2,(.o 1048644,.arr 55 4 y0),(.s 7,.v (.nam 1048640)),(.c 1048640 3,.own 1048644),(.o 1048640,.box 4 none)]
def q3:TC:= [(.s 32,.v (.sl y0)),sI 33,sI 34,(.o 1048578,.buf 5),(.s 7,.v (.nam 1048576)),(.c 1048576 0,.v (.bptr 1048576)),(.c 1048576 1,.own 1048578),(.o 1048576,.box 2 (some 77))]
def q4:TC:= [(.s 1,.v (.sl y0)),(.s 22,.v (.sl y0)),sI 23,sI 24,(.o 21,.mob 100 .str .bool),(.s 5,.mp 21)]
def q5:TC:= [(.o 1007,.arr 55 4 y0),(.o 1008,.arr 51 1 (.int .u32)),(.s 7,.own 1007),(.s 8,.own 1008)]
def q6:TC:= [sI 0,(.s 1,.v (.sl y0)),sS 2,(.s 3,.v (.int .u16)),(.s 4,.v (.int .u8))]
def q7:TC:= [sS 0,sS 1,sI 2,sI 3,sI 10,(.o 31,.arr 9 1 .str),(.s 9,.own 31)]
def q8:TC:= [(.s 0,.v (.sl y0)),sI 4,(.o 1003,.arr 63 4 y0),(.s 3,.own 1003)]
def q9:TC:= [sS 0,sI 1,sI 7,(.o 21,.arr 9 1 .str),(.s 6,.own 21)]
def q10:TC:= [(.s 3,.v (.int .u16)),(.s 4,.v (.int .u8)),sS 16]
def q11:TC:= [(.s 0,.v (.sl y0)),(.s 1,.v (.sl y0)),sI 5]
def q12:TC:= [sS 0,(.s 1,.v (.int .u64)),sI 10,sI 11]
def q13:TC:= [(.s 0,.v (.sl .str)),sS 1,sI 7,sI 8]
def q14:TC:= [sI 4,(.s 7,.v (.sl y0)),sI 8,sI 9]
def q15:TC:= [sS 0,(.s 1,.v (.int .u8)),sI 5]
def q16:TC:= [(.s 0,.v (.sl y0)),sI 1,sI 5]
def q17:TC:= [sS 0,sI 4,sB 5,sI 9,sI 10]
abbrev LF:=List (FuncId×Sig)
abbrev LG:=List (FuncId×AD)
def NZ:List (FuncId×Sig):= []
def De:List (FuncId×AD):= []
theorem U1:GoodT Tryd.prog (B mx) NZ De:=GoodT.nil _ _
noncomputable def L39:LF:=(39,⟨(.one .str),.bool,Hi⟩)::NZ
theorem g39:GoodT Tryd.prog (B mx) L39 De:=.hT U1 [(2,.s [sS 0]),(6,.l [sS 0,sI 6,sI 7] [0] true),(9,.s [sS 0,sI 6,sI 7]),(13,.s [sS 0,sI 6,sI 7])] (by rfl) (by kernel_rfl) (by kernel_rfl)
noncomputable def s21:Sig:=⟨y2,.str,strconv_Itoa⟩
noncomputable def L21:LF:=(21,s21)::L39
theorem g21:GoodT Tryd.prog (B mx) L21 De:=GoodT.addM g39 21 s21 (by rfl) fun _ _ _ hx hy=>WH (by kernel_rfl) (g:=1) (by kernel_rfl) rfl Go.Proofs.Tryd.strconv_Itoa hx hy
noncomputable def s23:Sig:=⟨(.cons (.int .u64) y2),.str,FE⟩
noncomputable def L23:LF:=(23,s23)::L21
theorem g23:GoodT Tryd.prog (B mx) L23 De:=GoodT.addM g21 23 s23 (by rfl) fun _ _ _ hx hy=>WG (by kernel_rfl) (g:=1) (by kernel_rfl) rfl Go.Proofs.Tryd.strconv_FormatUint_10 hx hy
noncomputable def L26:LF:=(26,⟨(.cons y6 (.cons (.int .i64) (.one (.map (.int .u32) .str)))),(.tup (.cons y0 y2)),Ke⟩)::L23
theorem g26:GoodT Tryd.prog (B mx) L26 De:=.hT g23 [(6,.s [sS 9,cI 3 0,cI 3 1,cI 3 2,cI 3 3,(.c 3 4,.v y1),(.c 6 0,.v (.int .u32)),(.c 6 1,.v .str),cI 6 2,(.c 6 3,.v .str),(.c 8 0,.v (.int .u32)),cI 8 1,cI 8 2,(.c 8 3,.v (.sl (.agg (.cons (.int .i64) (.cons .str y2))))),(.c 8 4,.v (.sl (.agg (.cons (.int .i64) (.cons (.int .i64) (.one (.sl (.agg (.cons (.int .i64) (.cons .str y2)))))))))),cI 8 5,cI 8 6,cI 8 7,(.s 3,.ptr 3 0),(.s 6,.ptr 6 0),(.s 8,.ptr 8 0),(.o 3,.box 5 none),(.o 6,.box 4 none),(.o 8,.box 8 none)])] (by rfl) (by kernel_rfl) (by kernel_rfl)
noncomputable def L38:LF:=(38,⟨y2,.bool,FP⟩)::L26
theorem g38:GoodT Tryd.prog (B mx) L38 De:=.hT g26 [] (by rfl) (by kernel_rfl) (by kernel_rfl)
noncomputable def L18:LF:=(18,⟨(.one (.sl y0)),(.tup (.cons (.int .i64) (.one .bool))),Gq⟩)::L38
theorem g18:GoodT Tryd.prog (B mx) L18 De:=.hT g38 [(4,.s [sI 4]),(8,.l q14 [0] false),(11,.s q14),(15,.s q14)] (by rfl) (by kernel_rfl) (by kernel_rfl)
noncomputable def L14:LF:=(14,⟨(.cons y6 (.one (.map (.int .u32) .str))),(.tup (.cons (.sl y0) (.cons (.sl (.int .u32)) y2))),JZ⟩)::L18
theorem g14:GoodT Tryd.prog (B mx) L14 De:=.hT g18 [(2,.s [(.s 1,.v (.map (.int .u32) .str)),cI 2 0,cI 2 1,cI 2 2,cI 2 3,(.c 2 4,.v y1),(.s 2,.ptr 2 0),(.o 2,.box 5 none)]),(19,.g (.own 7 1007 55 4)),(21,.g (.own 8 1008 51 1)),(21,.s q5),(25,.l q1 [1] true),(28,.s q1),(32,.j q1 [] true),(55,.s q5)] (by rfl) (by kernel_rfl) (by kernel_rfl)
noncomputable def L19:LF:=(19,⟨(.cons (.int .i64) (.one (.sl y0))),(.int .i64),Gr⟩)::L14
theorem g19:GoodT Tryd.prog (B mx) L19 De:=.hT g14 [(2,.s [(.s 1,.v (.sl y0))]),(19,.s [(.s 1,.v (.sl y0))]),(23,.l q4 [1] true),(26,.s q4),(30,.s q4),(34,.s [(.s 1,.v (.sl y0)),(.s 22,.v (.sl y0)),sI 23,sI 24,(.c 7 0,.v (.int .u32)),(.c 7 1,.v .str),cI 7 2,(.c 7 3,.v .str),(.o 21,.mob 100 .str .bool),(.s 5,.mp 21),(.s 7,.ptr 7 0),(.o 7,.box 4 none)]),(69,.s [])] (by rfl) (by kernel_rfl) (by kernel_rfl)
noncomputable def L43:LF:=(43,⟨y2,.str,G8⟩)::L19
theorem g43:GoodT Tryd.prog (B mx) L43 De:=.hT g19 [(4,.s [sI 0,sS 3]),(6,.l [sI 0,sS 3] [0] false),(7,.s [sI 0,sS 3])] (by rfl) (by kernel_rfl) (by kernel_rfl)
noncomputable def L22:LF:=(22,⟨y2,.str,EM⟩)::L43
theorem g22:GoodT Tryd.prog (B mx) L22 De:=.hT g43 [(2,.s [sI 0]),(12,.j [sI 0,sS 3] [] false)] (by rfl) (by kernel_rfl) (by kernel_rfl)
noncomputable def s41:Sig:=⟨(.cons (.sl .str) (.one .str)),.str,strings_Join⟩
noncomputable def L41:LF:=(41,s41)::L22
theorem g41:GoodT Tryd.prog (B mx) L41 De:=GoodT.addM g22 41 s41 (by rfl) fun _ _ _ hx hy=>WK (by kernel_rfl) Go.Proofs.Tryd.strings_Join_none Go.Proofs.Tryd.strings_Join hx hy
noncomputable def s40:AD:=writeF 1048576 1048578 77 5
noncomputable def NY:LG:=(40,s40)::De
theorem g40:GoodT Tryd.prog (B mx) L41 NY:=GoodT.addEM g41 40 s40 (Go.Proofs.Tryd.builderWrite (by decide) rfl rfl rfl)
noncomputable def NV:LG:=(20,⟨[(.o 1048578,.buf 5),(.c 1048576 0,.v (.bptr 1048576)),(.c 1048576 1,.own 1048578),(.o 1048576,.box 2 (some 77))],(.cons (.nam 1048576) (.one (.sl .str))),(.tup .nil),Hj⟩)::NY
theorem g20:GoodT Tryd.prog (B mx) L41 NV:=.hE g40 [(0,.e)] (by rfl) (by kernel_rfl) (by kernel_rfl)
noncomputable def s25:AD:=stringF 1048576 1048578 77 5
noncomputable def Bc:LG:=(25,s25)::NV
theorem g25:GoodT Tryd.prog (B mx) L41 Bc:=GoodT.addEM g20 25 s25 (Go.Proofs.Tryd.builderString (by decide) rfl rfl rfl)
noncomputable def L24:LF:=(24,⟨(.one .str),(.int .i64),Ip⟩)::L41
theorem g24:GoodT Tryd.prog (B mx) L24 Bc:=.hT g25 [(4,.s [sI 3]),(8,.l [sS 0,sI 3,sI 6,sI 7] [0] false),(11,.s [sS 0,sI 3,sI 6,sI 7]),(15,.s [sS 0,sI 3,sI 6,sI 7])] (by rfl) (by kernel_rfl) (by kernel_rfl)
noncomputable def L10:LF:=(10,⟨(.cons (.int .i64) (.one (.sl y0))),(.tup (.cons .str y2)),Eh⟩)::L24
theorem g10:GoodT Tryd.prog (B mx) L10 Bc:=.hU g24 [(2,.s [sI 0,(.s 1,.v (.sl y0))]),(13,.t [(1,.tell 7 1048576),(1,.ownb 1048576 1 1048578 5)]),(18,.s [(.o 1048578,.buf 5),(.s 7,.v (.nam 1048576)),(.c 1048576 0,.v (.bptr 1048576)),(.c 1048576 1,.own 1048578),(.o 1048576,.box 2 (some 77))]),(22,.l q3 [0] false),(25,.s q3),(29,.s q3),(33,.e)] (by rfl) (by kernel_rfl) (by kernel_rfl) rfl
noncomputable def L50:LF:=(50,⟨y3,.bool,GR⟩)::L10
theorem g50:GoodT Tryd.prog (B mx) L50 Bc:=.hT g10 [] (by rfl) (by kernel_rfl) (by kernel_rfl)
noncomputable def L46:LF:=(46,⟨y3,y4,Me⟩)::L50
theorem g46:GoodT Tryd.prog (B mx) L46 Bc:=.hT g50 [(2,.s [sS 0,sS 1])] (by rfl) (by kernel_rfl) (by kernel_rfl)
noncomputable def L28:LF:=(28,⟨y3,y4,KF⟩)::L46
theorem g28:GoodT Tryd.prog (B mx) L28 Bc:=.hT g46 [] (by rfl) (by kernel_rfl) (by kernel_rfl)
noncomputable def L47:LF:=(47,⟨(.cons .str (.one (.int .u8))),(.int .i64),Mc⟩)::L28
theorem g47:GoodT Tryd.prog (B mx) L47 Bc:=.hT g28 [(2,.s []),(6,.l q15 [0] true),(7,.s q15),(13,.s q15)] (by rfl) (by kernel_rfl) (by kernel_rfl)
noncomputable def L29:LF:=(29,⟨(.cons .str (.one (.int .u8))),(.int .i64),IA⟩)::L47
theorem g29:GoodT Tryd.prog (B mx) L29 Bc:=.hT g47 [] (by rfl) (by kernel_rfl) (by kernel_rfl)
noncomputable def L63:LF:=(63,⟨y3,.bool,Jv⟩)::L29
theorem g63:GoodT Tryd.prog (B mx) L63 Bc:=.hT g29 [] (by rfl) (by kernel_rfl) (by kernel_rfl)
noncomputable def L48:LF:=(48,⟨y3,y4,Md⟩)::L63
theorem g48:GoodT Tryd.prog (B mx) L48 Bc:=.hT g63 [(2,.s [sS 0,sS 1])] (by rfl) (by kernel_rfl) (by kernel_rfl)
noncomputable def L30:LF:=(30,⟨y3,y4,KD⟩)::L48
theorem g30:GoodT Tryd.prog (B mx) L30 Bc:=.hT g48 [] (by rfl) (by kernel_rfl) (by kernel_rfl)
noncomputable def s49:Sig:=⟨(.cons .str (.cons (.int .i64) y2)),(.tup (.cons (.int .u64) (.one .err))),I8⟩
noncomputable def L49:LF:=(49,s49)::L30
theorem g49:GoodT Tryd.prog (B mx) L49 Bc:=GoodT.addM g30 49 s49 (by rfl) fun _ _ _ hx hy=>WI (by kernel_rfl) (g0:=2) (g1:=3) rfl rfl Go.Proofs.Tryd.strconv_ParseUint_10_at64_ok Go.Proofs.Tryd.strconv_ParseUint_10_at64_syntax Go.Proofs.Tryd.strconv_ParseUint_10_at64_range hx hy
noncomputable def L31:LF:=(31,⟨(.cons .str (.one (.int .u64))),(.tup (.cons (.int .u64) (.one .bool))),Gn⟩)::L49
theorem g31:GoodT Tryd.prog (B mx) L31 Bc:=.hT g49 [(2,.s [sS 0,(.s 1,.v (.int .u64))]),(6,.l q12 [0] true),(9,.s q12),(13,.s q12)] (by rfl) (by kernel_rfl) (by kernel_rfl)
noncomputable def L16:LF:=(16,⟨(.one .str),y4,Gp⟩)::L31
theorem g16:GoodT Tryd.prog (B mx) L16 Bc:=.hT g31 [] (by rfl) (by kernel_rfl) (by kernel_rfl)
noncomputable def L32:LF:=(32,⟨y3,.bool,KG⟩)::L16
theorem g32:GoodT Tryd.prog (B mx) L32 Bc:=.hT g16 [] (by rfl) (by kernel_rfl) (by kernel_rfl)
noncomputable def L51:LF:=(51,⟨(.one .str),(.tup (.cons (.int .i64) y2)),Er⟩)::L32
theorem g51:GoodT Tryd.prog (B mx) L51 Bc:=.hT g32 [(4,.s [sS 0,sI 4,sB 5]),(8,.l q17 [0] true),(11,.s q17),(15,.j q17 [] true),(38,.j [sS 0,sI 4] [] false),(44,.s [sI 4])] (by rfl) (by kernel_rfl) (by kernel_rfl)
noncomputable def L53:LF:=(53,⟨y3,.str,Mf⟩)::L51
theorem g53:GoodT Tryd.prog (B mx) L53 Bc:=.hT g51 [(2,.s [sS 0])] (by rfl) (by kernel_rfl) (by kernel_rfl)
noncomputable def L35:LF:=(35,⟨y3,.str,KH⟩)::L53
theorem g35:GoodT Tryd.prog (B mx) L35 Bc:=.hT g53 [] (by rfl) (by kernel_rfl) (by kernel_rfl)
noncomputable def L82:LF:=(82,⟨(.one .str),(.int .i64),Sk⟩)::L35
theorem g82:GoodT Tryd.prog (B mx) L82 Bc:=.hT g35 [(2,.s []),(3,.s []),(4,.r),(5,.r),(6,.r)] (by rfl) (by kernel_rfl) (by kernel_rfl)
noncomputable def L91:LF:=(91,⟨(.one .str),(.tup (.cons (.int .i32) y2)),Sl⟩)::L82
theorem g91:GoodT Tryd.prog (B mx) L91 Bc:=.hT g82 [(4,.s [sS 0,sI 4]),(14,.s []),(15,.r),(16,.r)] (by rfl) (by kernel_rfl) (by kernel_rfl)
noncomputable def L83:LF:=(83,⟨(.one .str),(.tup (.cons (.int .i32) y2)),Sj⟩)::L91
theorem g83:GoodT Tryd.prog (B mx) L83 Bc:=.hT g91 [(2,.s [(.s 2,.v (.int .i32)),sI 3])] (by rfl) (by kernel_rfl) (by kernel_rfl)
noncomputable def L66:LF:=(66,⟨(.cons .str y2),(.sl .str),RZ⟩)::L83
theorem g66:GoodT Tryd.prog (B mx) L66 Bc:=.hT g83 [(4,.j [sS 0,sI 1] [] false),(12,.s [sS 0,sI 1,(.o 21,.arr 9 1 .str),(.s 6,.own 21)]),(16,.l q9 [0] false),(17,.s q9),(23,.s q9),(31,.j [(.o 21,.arr 9 1 .str),(.s 6,.own 21)] [] false)] (by rfl) (by kernel_rfl) (by kernel_rfl)
noncomputable def s67:Sig:=⟨y3,(.int .i64),I9⟩
noncomputable def L67:LF:=(67,s67)::L66
theorem g67:GoodT Tryd.prog (B mx) L67 Bc:=GoodT.addM g66 67 s67 (by rfl) fun _ _ _ hx hy=>WJ (by kernel_rfl) Go.Proofs.Tryd.strings_Count_one hx hy
noncomputable def s85:Sig:=⟨y3,(.int .i64),KI⟩
noncomputable def L85:LF:=(85,s85)::L67
theorem g85:GoodT Tryd.prog (B mx) L85 Bc:=GoodT.addM g67 85 s85 (by rfl) fun _ _ _ hx hy=>WN (by kernel_rfl) (g:=0) rfl Go.Proofs.Tryd.stringslite_Index_one Go.Proofs.Tryd.stringslite_Index hx hy
noncomputable def L68:LF:=(68,⟨y3,(.int .i64),N5⟩)::L85
theorem g68:GoodT Tryd.prog (B mx) L68 Bc:=.hT g85 [] (by rfl) (by kernel_rfl) (by kernel_rfl)
noncomputable def L52:LF:=(52,⟨(.cons .str (.cons .str (.cons (.int .i64) y2))),(.sl .str),N6⟩)::L68
theorem g52:GoodT Tryd.prog (B mx) L52 Bc:=.hT g68 [(2,.s [sS 0,sS 1,sI 2,sI 3]),(10,.s [sS 0,sS 1,sI 2,sI 3]),(18,.j [sS 0,sS 1,sI 2,sI 3] [] false),(32,.j [sS 0,sI 10,(.o 31,.arr 9 1 .str),(.s 9,.own 31)] [] false),(34,.l q7 [0] false),(35,.s q7),(44,.s [sS 0,sS 1,sI 2,sI 3,sI 10,sI 11,(.o 31,.arr 9 1 .str),(.s 9,.own 31)]),(58,.t [(3,.frz 62)])] (by rfl) (by kernel_rfl) (by kernel_rfl)
noncomputable def L34:LF:=(34,⟨y3,(.sl .str),IB⟩)::L52
theorem g34:GoodT Tryd.prog (B mx) L34 Bc:=.hT g52 [] (by rfl) (by kernel_rfl) (by kernel_rfl)
noncomputable def L54:LF:=(54,⟨(.cons (.sl .str) (.one .str)),(.int .i64),Nz⟩)::L34
theorem g54:GoodT Tryd.prog (B mx) L54 Bc:=.hT g34 [(2,.s []),(6,.l q13 [0] true),(9,.s q13),(13,.s q13)] (by rfl) (by kernel_rfl) (by kernel_rfl)
noncomputable def L36:LF:=(36,⟨(.cons (.sl .str) (.one .str)),.bool,Kx⟩)::L54
theorem g36:GoodT Tryd.prog (B mx) L36 Bc:=.hT g54 [] (by rfl) (by kernel_rfl) (by kernel_rfl)
noncomputable def s33:AD:=⟨[(.c 1048640 0,.v (.int .u64)),(.c 1048640 1,.v (.int .u64)),(.c 1048640 2,.v (.int .i64)),(.o 1048644,.arr 55 4 y0),(.c 1048640 3,.own 1048644),(.o 1048640,.box 4 none)],(.cons (.nam 1048640) (.one (.sl .str))),.bool,Kc⟩
noncomputable def NW:LG:=(33,s33)::Bc
theorem g33:GoodT Tryd.prog (B mx) L36 NW:=.hE g36 [] (by rfl) (by kernel_rfl) (by kernel_rfl)
noncomputable def NT:LG:=(1048609,⟨[(.c 1048640 0,.v (.int .u64)),(.c 1048640 1,.v (.int .u64)),(.c 1048640 2,.v (.int .i64)),(.o 1048644,.arr 55 4 y0),(.c 1048640 3,.own 1048644),(.o 1048640,.box 4 none)],(.cons (.sl .str) y5),.bool,MX⟩)::NW
theorem Uz:GoodT Tryd.prog (B mx) L36 NT:=GoodT.addV g33 33 (by kernel_rfl) (fn:=s33.fn) rfl
noncomputable def s37:AD:=⟨[(.c 1048640 0,.v (.int .u64)),(.c 1048640 1,.v (.int .u64)),(.c 1048640 2,.v (.int .i64)),(.o 1048644,.arr 55 4 y0),(.c 1048640 3,.own 1048644),(.o 1048640,.box 4 none)],(.cons (.nam 1048640) (.one (.sl .str))),.bool,Kd⟩
noncomputable def NX:LG:=(37,s37)::NT
theorem g37:GoodT Tryd.prog (B mx) L36 NX:=.hE Uz [] (by rfl) (by kernel_rfl) (by kernel_rfl)
noncomputable def NU:LG:=(1048613,⟨[(.c 1048640 0,.v (.int .u64)),(.c 1048640 1,.v (.int .u64)),(.c 1048640 2,.v (.int .i64)),(.o 1048644,.arr 55 4 y0),(.c 1048640 3,.own 1048644),(.o 1048640,.box 4 none)],(.cons (.sl .str) y5),.bool,MY⟩)::NX
theorem U0:GoodT Tryd.prog (B mx) L36 NU:=GoodT.addV g37 37 (by kernel_rfl) (fn:=s37.fn) rfl
noncomputable def FI:LG:=(17,⟨[(.c 1048640 0,.v (.int .u64)),(.c 1048640 1,.v (.int .u64)),(.c 1048640 2,.v (.int .i64)),(.o 1048644,.arr 55 4 y0),(.c 1048640 3,.own 1048644),(.o 1048640,.box 4 none)],(.cons (.nam 1048640) (.one .str)),.bool,Ei⟩)::NU
theorem g17:GoodT Tryd.prog (B mx) L36 FI:=.hE U0 [(2,.s [sS 1,(.c 1048640 0,.v (.int .u64)),(.c 1048640 1,.v (.int .u64)),cI 1048640 2,(.o 1048644,.arr 55 4 y0),(.s 0,.v (.nam 1048640)),(.c 1048640 3,.own 1048644),(.o 1048640,.box 4 none)]),(12,.s [(.c 1048640 0,.v (.int .u64)),(.c 1048640 1,.v (.int .u64)),cI 1048640 2,(.o 1048644,.arr 55 4 y0),(.c 1048640 3,.own 1048644),(.o 1048640,.box 4 none)]),(16,.l q0 [0] true),(19,.s q0),(23,.s [(.s 5,.v (.clo 1048613 y5)),(.s 16,.v (.sl .str)),sI 17,sI 18,(.c 1048640 0,.v (.int .u64)),(.c 1048640 1,.v (.int .u64)),cI 1048640 2,(.o 1048644,.arr 55 4 y0),(.s 0,.v (.nam 1048640)),(.c 1048640 3,.own 1048644),(.o 1048640,.box 4 none)]),(29,.s [(.s 16,.v (.sl .str)),sI 17,sI 18,(.c 1048640 0,.v (.int .u64)),(.c 1048640 1,.v (.int .u64)),cI 1048640 2,(.o 1048644,.arr 55 4 y0),(.s 0,.v (.nam 1048640)),(.c 1048640 3,.own 1048644),(.o 1048640,.box 4 none)])] (by rfl) (by kernel_rfl) (by kernel_rfl)
noncomputable def L9:LF:=(9,⟨(.one .str),(.tup (.cons (.int .i64) (.cons (.sl y0) y2))),DM⟩)::L36
theorem g9:GoodT Tryd.prog (B mx) L9 FI:=.hU g17 [(2,.s [sS 0]),(12,.s [sS 5]),(21,.t [(1,.tell 7 1048640),(1,.ownc 1048640 3 1048644 55 4)]),(22,.s q2),(32,.s q2),(40,.s q2),(52,.g (.frz 3))] (by rfl) (by kernel_rfl) (by kernel_rfl) rfl
noncomputable def s6:Sig:=⟨.nil,.bool,Ic⟩
noncomputable def L6:LF:=(6,s6)::L9
theorem g6:GoodT Tryd.prog (B mx) L6 FI:=.hT g9 [(3,.t [(3,.frz 12)]),(5,.t [(4,.frz 17)])] (by rfl) (by kernel_rfl) (by kernel_rfl)
noncomputable def s8:Sig:=⟨(.one (.sl y0)),(.sl y0),F0⟩
noncomputable def L8:LF:=(8,s8)::L6
theorem g8:GoodT Tryd.prog (B mx) L8 FI:=.hT g6 [(4,.g (.own 3 1003 63 4)),(4,.s [(.o 1003,.arr 63 4 y0),(.s 3,.own 1003)]),(8,.l q8 [0] false),(9,.s q8),(15,.s q8)] (by rfl) (by kernel_rfl) (by kernel_rfl)
noncomputable def L7:LF:=(7,⟨(.cons (.sl y0) y2),.bool,Kn⟩)::L8
theorem g7:GoodT Tryd.prog (B mx) L7 FI:=.hT g8 [(2,.s [(.s 0,.v (.sl y0)),sI 1]),(6,.l q16 [0] true),(7,.s q16),(13,.s q16)] (by rfl) (by kernel_rfl) (by kernel_rfl)
noncomputable def L11:LF:=(11,⟨(.cons (.sl y0) (.one (.sl y0))),.bool,Iv⟩)::L7
theorem g11:GoodT Tryd.prog (B mx) L11 FI:=.hT g7 [(2,.s [(.s 0,.v (.sl y0)),(.s 1,.v (.sl y0))]),(10,.s []),(14,.l q11 [0] true),(15,.s q11),(21,.s q11)] (by rfl) (by kernel_rfl) (by kernel_rfl)
noncomputable def s3:Sig:=⟨(.cons (.int .i64) (.cons (.sl y0) (.cons .str (.cons (.int .u16) (.one (.int .u8)))))),.bool,Mp⟩
noncomputable def L3:LF:=(3,s3)::L11
theorem g3:GoodT Tryd.prog (B mx) L3 FI:=.hT g11 [(2,.s q6),(10,.s q6),(20,.j [sI 0,(.s 1,.v (.sl y0)),(.s 3,.v (.int .u16)),(.s 4,.v (.int .u8))] [] true),(42,.s [sI 0,(.s 1,.v (.sl y0)),(.s 3,.v (.int .u16)),(.s 4,.v (.int .u8)),sS 16]),(52,.s q10),(60,.s q10)] (by rfl) (by kernel_rfl) (by kernel_rfl)
end WB
