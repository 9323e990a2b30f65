/-
  A SEAT's FUNCTIONS do what they do over plain data (printed by wip/genseat.py).
-/
import Derived.Test.YtdnifdddokcnlaaDoorK8
import Derived.Test.YtdnifdddokcnlaaDoorK6
import Derived.Test.YtdnifdddokcnlaaDoorProg
import Derived.Test.YtdnifdddokcnlaaDoorK11
import Derived.Test.YtdnifdddokcnlaaDoorK12
import Derived.KernelRfl
set_option linter.unusedVariables false
set_option linter.unusedSimpArgs false
open Go.IntKind (i64 u64 u8 u32)
namespace WB
set_option maxHeartbeats 4000000
open Go Go.RowKit Go.Proofs
def lkT{α:Type}:List (Nat×α)→Nat→Option α
 | [],_=>none
 |e::l,i=>if e.1=i then some e.2 else lkT l i
variable {mx:Int}
def B(mx:Int):TB:=⟨fun i=>if i=0 then [.int .i64 mx]else if i=1 then Lib.pow10Tab.map fun z=>.int .u64 z else if i=2 then [.ifc]else if i=3 then [.ifc]else [],lkT [(62,(.agg (.cons (.int .u32) (.cons (.int .i64) (.cons (.int .i64) (.cons (.sl (.agg (.cons (.int .i64) (.cons .str (.one (.int .i64)))))) (.cons (.sl (.agg (.cons (.int .i64) (.cons (.int .i64) (.one (.sl (.agg (.cons (.int .i64) (.cons .str (.one (.int .i64))))))))))) (.cons (.int .i64) (.cons (.int .i64) (.one (.int .i64))))))))))),(63,(.agg (.cons (.int .u32) (.cons .str (.cons (.int .i64) (.one .str)))))),(51,(.int .u32)),(55,(.agg (.cons (.int .u32) (.cons .str (.cons (.int .i64) (.one .str)))))),(48,(.int .i64)),(9,.str),(5,(.int .u8))],lkT [(42,((.int .u32),.str)),(100,(.str,.bool))],fun f=>false⟩
abbrev y0:Ty:=(.agg (.cons (.int .u32) (.cons .str (.cons (.int .i64) (.one .str)))))
abbrev y2:Ty:=(.sl (.agg (.cons (.int .u32) (.cons (.int .i64) (.one .str)))))
abbrev y3:Ty:=(.one (.int .i64))
abbrev y4:Ty:=(.cons .str (.one .str))
abbrev y6:Ty:=(.cons (.int .i64) y3)
abbrev y1:Ty:=(.agg (.cons (.int .u32) (.cons (.int .i64) (.cons (.int .i64) (.cons (.sl (.agg (.cons (.int .i64) (.cons .str y3)))) (.cons (.sl (.agg (.cons (.int .i64) (.cons (.int .i64) (.one (.sl (.agg (.cons (.int .i64) (.cons .str y3))))))))) (.cons (.int .i64) y6)))))))
abbrev y5:Ty:=(.agg (.cons (.int .i64) (.cons (.int .i64) (.cons (.int .i64) (.cons (.int .i64) (.one (.sl y1)))))))
abbrev y7:Ty:=(.sl (.int .u32))
abbrev y8:Ty:=(.tup (.cons .str (.one .bool)))
abbrev y9:Ty:=(.one (.nam 1048640))
def q0:TC:= [(.s 1,.v y2),sI 8,cI 4 0,cI 4 1,cI 4 2,cI 4 3,cI 6 0,cI 6 1,cI 6 2,cI 6 3,(.o 11,.mob 42 (.int .u32) .str),(.o 100604,.arr 62 8 y1),(.s 4,.ptr 4 0),(.s 6,.ptr 6 0),(.s 7,.mp 11),(.c 4 4,.v .nsl),(.c 6 4,.own 100604),(.o 4,.box 5 none),(.o 6,.box 5 none)]
def q1:TC:= [(.s 5,.v (.falt 1048609 y9 (.clo 1048613 y9))),(.s 16,.v (.sl .str)),sI 17,sI 18,(.c 1048640 0,.v (.int .u64)),(.c 1048640 1,.v (.int .u64)),cI 1048640 2,(.o 1048644,.arr 55 4 y0),(.s 0,.v (.nam 1048640)),(.c 1048640 3,.own 1048644),(.o 1048640,.box 4 none)]
def q2:TC:= [(.s 1,.v (.map (.int .u32) .str)),sI 30,sI 31,cI 2 0,cI 2 1,cI 2 2,cI 2 3,(.c 2 4,.v (.sl y1)),(.o 1007,.arr 55 4 y0),(.o 1008,.arr 51 1 (.int .u32)),(.s 2,.ptr 2 0),(.s 7,.own 1007),(.s 8,.own 1008),(.o 2,.box 5 none)]
def q3:TC:= [(.c 1048640 0,.v (.int .u64)),(.c 1048640 1,.v (.int .u64)),cI 1048640 2,(.o 1048644,.arr 55 4 y0),(.s 7,.v (.nam 1048640)),(.c 1048640 3,.own 1048644),(.o 1048640,.box 4 none)]
def q4:TC:= [(.s 32,.v (.sl y0)),sI 33,sI 34,(.o 1048578,.buf 5),(.s 7,.v (.nam 1048576)),(.c 1048576 0,.v (.bptr 1048576)),(.c 1048576 1,.own 1048578),(.o 1048576,.box 2 (some 77))]
def q5:TC:= [(.s 1,.v (.sl y0)),(.s 22,.v (.sl y0)),sI 23,sI 24,(.o 21,.mob 100 .str .bool),(.s 5,.mp 21)]
def q6:TC:= [sI 0,(.s 1,.v y2),(.s 7,.v (.sl y0)),(.s 8,.v y7),sI 10,sI 11,sI 12,sI 13,sI 14,sI 15]
def q7:TC:= [(.o 1007,.arr 55 4 y0),(.o 1008,.arr 51 1 (.int .u32)),(.s 7,.own 1007),(.s 8,.own 1008)]
def q8:TC:= [(.s 7,.v (.sl y0)),sI 8,sI 9,(.o 1004,.arr 48 1 (.int .i64)),(.s 4,.own 1004)]
def q9:TC:= [sS 0,sS 1,sI 2,sI 3,sI 10,(.o 31,.arr 9 1 .str),(.s 9,.own 31)]
def q10:TC:= [sS 0,sI 1,sI 7,(.o 21,.arr 9 1 .str),(.s 6,.own 21)]
def q11:TC:= [sI 4,(.s 9,.v (.sl (.int .i64))),sI 10,sI 11]
def q12:TC:= [sS 0,(.s 1,.v (.int .u64)),sI 10,sI 11]
def q13:TC:= [(.s 0,.v (.sl .str)),sS 1,sI 7,sI 8]
def q14:TC:= [sI 4,(.s 7,.v (.sl y0)),sI 8,sI 9]
def q15:TC:= [sS 0,(.s 1,.v (.int .u8)),sI 5]
def q16:TC:= [sS 0,sI 4,sB 5,sI 9,sI 10]
def q17:TC:= [(.s 0,.v y2),sI 3,sI 4]
def q18:TC:= [(.s 0,.v y2),sI 3]
abbrev LF:=List (FuncId×Sig)
abbrev LG:=List (FuncId×AE)
def NE:List (FuncId×Sig):= []
def CW:List (FuncId×AE):= []
theorem TV:GoodT Tryd.prog (B mx) NE CW:=GoodT.nil _ _
noncomputable def L39:LF:=(39,⟨(.one .str),.bool,GQ⟩)::NE
theorem g39:GoodT Tryd.prog (B mx) L39 CW:=.hT TV [(2,.s [sS 0]),(6,.l [sS 0,sI 6,sI 7] [0] true),(9,.s [sS 0,sI 6,sI 7]),(13,.s [sS 0,sI 6,sI 7])] (by rfl) (by kernel_rfl) (by kernel_rfl)
noncomputable def s21:Sig:=⟨y3,.str,strconv_Itoa⟩
noncomputable def L21:LF:=(21,s21)::L39
theorem g21:GoodT Tryd.prog (B mx) L21 CW:=GoodT.addM g39 21 s21 (by rfl) fun _ _ _ hx hy=>VY (by kernel_rfl) (g:=1) (by kernel_rfl) rfl Go.Proofs.Tryd.strconv_Itoa hx hy
noncomputable def s23:Sig:=⟨(.cons (.int .u64) y3),.str,F2⟩
noncomputable def L23:LF:=(23,s23)::L21
theorem g23:GoodT Tryd.prog (B mx) L23 CW:=GoodT.addM g21 23 s23 (by rfl) fun _ _ _ hx hy=>VX (by kernel_rfl) (g:=1) (by kernel_rfl) rfl Go.Proofs.Tryd.strconv_FormatUint_10 hx hy
noncomputable def L26:LF:=(26,⟨(.cons y5 (.cons (.int .i64) (.one (.map (.int .u32) .str)))),(.tup (.cons y0 y3)),JW⟩)::L23
theorem g26:GoodT Tryd.prog (B mx) L26 CW:=.hT g23 [(6,.s [sS 9,cI 3 0,cI 3 1,cI 3 2,cI 3 3,(.c 3 4,.v (.sl y1)),(.c 6 0,.v (.int .u32)),(.c 6 1,.v .str),cI 6 2,(.c 6 3,.v .str),(.c 8 0,.v (.int .u32)),cI 8 1,cI 8 2,(.c 8 3,.v (.sl (.agg (.cons (.int .i64) (.cons .str y3))))),(.c 8 4,.v (.sl (.agg (.cons (.int .i64) (.cons (.int .i64) (.one (.sl (.agg (.cons (.int .i64) (.cons .str y3)))))))))),cI 8 5,cI 8 6,cI 8 7,(.s 3,.ptr 3 0),(.s 6,.ptr 6 0),(.s 8,.ptr 8 0),(.o 3,.box 5 none),(.o 6,.box 4 none),(.o 8,.box 8 none)])] (by rfl) (by kernel_rfl) (by kernel_rfl)
noncomputable def L38:LF:=(38,⟨y3,.bool,Ec⟩)::L26
theorem g38:GoodT Tryd.prog (B mx) L38 CW:=.hT g26 [] (by rfl) (by kernel_rfl) (by kernel_rfl)
noncomputable def L18:LF:=(18,⟨(.one (.sl y0)),(.tup (.cons (.int .i64) (.one .bool))),FX⟩)::L38
theorem g18:GoodT Tryd.prog (B mx) L18 CW:=.hT g38 [(4,.s [sI 4]),(8,.l q14 [0] false),(11,.s q14),(15,.s q14)] (by rfl) (by kernel_rfl) (by kernel_rfl)
noncomputable def L14:LF:=(14,⟨(.cons y5 (.one (.map (.int .u32) .str))),(.tup (.cons (.sl y0) (.cons y7 y3))),Ib⟩)::L18
theorem g14:GoodT Tryd.prog (B mx) L14 CW:=.hT g18 [(2,.s [(.s 1,.v (.map (.int .u32) .str)),cI 2 0,cI 2 1,cI 2 2,cI 2 3,(.c 2 4,.v (.sl y1)),(.s 2,.ptr 2 0),(.o 2,.box 5 none)]),(19,.g (.own 7 1007 55 4)),(21,.g (.own 8 1008 51 1)),(21,.s q7),(25,.l q2 [1] true),(28,.s q2),(32,.j q2 [] true),(55,.s q7)] (by rfl) (by kernel_rfl) (by kernel_rfl)
noncomputable def L19:LF:=(19,⟨(.cons (.int .i64) (.one (.sl y0))),(.int .i64),Ig⟩)::L14
theorem g19:GoodT Tryd.prog (B mx) L19 CW:=.hT g14 [(2,.s [(.s 1,.v (.sl y0))]),(19,.s [(.s 1,.v (.sl y0))]),(23,.l q5 [1] true),(26,.s q5),(30,.s q5),(34,.s [(.s 1,.v (.sl y0)),(.s 22,.v (.sl y0)),sI 23,sI 24,(.c 7 0,.v (.int .u32)),(.c 7 1,.v .str),cI 7 2,(.c 7 3,.v .str),(.o 21,.mob 100 .str .bool),(.s 5,.mp 21),(.s 7,.ptr 7 0),(.o 7,.box 4 none)]),(69,.s [])] (by rfl) (by kernel_rfl) (by kernel_rfl)
noncomputable def L43:LF:=(43,⟨y3,.str,Gp⟩)::L19
theorem g43:GoodT Tryd.prog (B mx) L43 CW:=.hT g19 [(4,.s [sI 0,sS 3]),(6,.l [sI 0,sS 3] [0] false),(7,.s [sI 0,sS 3])] (by rfl) (by kernel_rfl) (by kernel_rfl)
noncomputable def L22:LF:=(22,⟨y3,.str,EA⟩)::L43
theorem g22:GoodT Tryd.prog (B mx) L22 CW:=.hT g43 [(2,.s [sI 0]),(12,.j [sI 0,sS 3] [] false)] (by rfl) (by kernel_rfl) (by kernel_rfl)
noncomputable def s41:Sig:=⟨(.cons (.sl .str) (.one .str)),.str,strings_Join⟩
noncomputable def L41:LF:=(41,s41)::L22
theorem g41:GoodT Tryd.prog (B mx) L41 CW:=GoodT.addM g22 41 s41 (by rfl) fun _ _ _ hx hy=>Wb (by kernel_rfl) Go.Proofs.Tryd.strings_Join_none Go.Proofs.Tryd.strings_Join hx hy
noncomputable def s40:AE:=writeF 1048576 1048578 77 5
noncomputable def ND:LG:=(40,s40)::CW
theorem g40:GoodT Tryd.prog (B mx) L41 ND:=GoodT.addEM g41 40 s40 (Go.Proofs.Tryd.builderWrite (by decide) rfl rfl rfl)
noncomputable def NA:LG:=(20,⟨[(.o 1048578,.buf 5),(.c 1048576 0,.v (.bptr 1048576)),(.c 1048576 1,.own 1048578),(.o 1048576,.box 2 (some 77))],(.cons (.nam 1048576) (.one (.sl .str))),(.tup .nil),GR⟩)::ND
theorem g20:GoodT Tryd.prog (B mx) L41 NA:=.hE g40 [(0,.e)] (by rfl) (by kernel_rfl) (by kernel_rfl)
noncomputable def s25:AE:=stringF 1048576 1048578 77 5
noncomputable def Bk:LG:=(25,s25)::NA
theorem g25:GoodT Tryd.prog (B mx) L41 Bk:=GoodT.addEM g20 25 s25 (Go.Proofs.Tryd.builderString (by decide) rfl rfl rfl)
noncomputable def L24:LF:=(24,⟨(.one .str),(.int .i64),Id⟩)::L41
theorem g24:GoodT Tryd.prog (B mx) L24 Bk:=.hT g25 [(4,.s [sI 3]),(8,.l [sS 0,sI 3,sI 6,sI 7] [0] false),(11,.s [sS 0,sI 3,sI 6,sI 7]),(15,.s [sS 0,sI 3,sI 6,sI 7])] (by rfl) (by kernel_rfl) (by kernel_rfl)
noncomputable def L10:LF:=(10,⟨(.cons (.int .i64) (.one (.sl y0))),(.tup (.cons .str y3)),HZ⟩)::L24
theorem g10:GoodT Tryd.prog (B mx) L10 Bk:=.hU g24 [(2,.s [sI 0,(.s 1,.v (.sl y0))]),(13,.t [(1,.tell 7 1048576),(1,.ownb 1048576 1 1048578 5)]),(18,.s [(.o 1048578,.buf 5),(.s 7,.v (.nam 1048576)),(.c 1048576 0,.v (.bptr 1048576)),(.c 1048576 1,.own 1048578),(.o 1048576,.box 2 (some 77))]),(22,.l q4 [0] false),(25,.s q4),(29,.s q4),(33,.e)] (by rfl) (by kernel_rfl) (by kernel_rfl) rfl
noncomputable def L50:LF:=(50,⟨y4,.bool,G8⟩)::L10
theorem g50:GoodT Tryd.prog (B mx) L50 Bk:=.hT g10 [] (by rfl) (by kernel_rfl) (by kernel_rfl)
noncomputable def L46:LF:=(46,⟨y4,y8,LT⟩)::L50
theorem g46:GoodT Tryd.prog (B mx) L46 Bk:=.hT g50 [(2,.s [sS 0,sS 1])] (by rfl) (by kernel_rfl) (by kernel_rfl)
noncomputable def L28:LF:=(28,⟨y4,y8,Kw⟩)::L46
theorem g28:GoodT Tryd.prog (B mx) L28 Bk:=.hT g46 [] (by rfl) (by kernel_rfl) (by kernel_rfl)
noncomputable def L47:LF:=(47,⟨(.cons .str (.one (.int .u8))),(.int .i64),LQ⟩)::L28
theorem g47:GoodT Tryd.prog (B mx) L47 Bk:=.hT g28 [(2,.s []),(6,.l q15 [0] true),(7,.s q15),(13,.s q15)] (by rfl) (by kernel_rfl) (by kernel_rfl)
noncomputable def L29:LF:=(29,⟨(.cons .str (.one (.int .u8))),(.int .i64),Iv⟩)::L47
theorem g29:GoodT Tryd.prog (B mx) L29 Bk:=.hT g47 [] (by rfl) (by kernel_rfl) (by kernel_rfl)
noncomputable def L63:LF:=(63,⟨y4,.bool,Jj⟩)::L29
theorem g63:GoodT Tryd.prog (B mx) L63 Bk:=.hT g29 [] (by rfl) (by kernel_rfl) (by kernel_rfl)
noncomputable def L48:LF:=(48,⟨y4,y8,LR⟩)::L63
theorem g48:GoodT Tryd.prog (B mx) L48 Bk:=.hT g63 [(2,.s [sS 0,sS 1])] (by rfl) (by kernel_rfl) (by kernel_rfl)
noncomputable def L30:LF:=(30,⟨y4,y8,Kv⟩)::L48
theorem g30:GoodT Tryd.prog (B mx) L30 Bk:=.hT g48 [] (by rfl) (by kernel_rfl) (by kernel_rfl)
noncomputable def s49:Sig:=⟨(.cons .str y6),(.tup (.cons (.int .u64) (.one .err))),It⟩
noncomputable def L49:LF:=(49,s49)::L30
theorem g49:GoodT Tryd.prog (B mx) L49 Bk:=GoodT.addM g30 49 s49 (by rfl) fun _ _ _ hx hy=>VZ (by kernel_rfl) (g0:=2) (g1:=3) rfl rfl Go.Proofs.Tryd.strconv_ParseUint_10_at64_ok Go.Proofs.Tryd.strconv_ParseUint_10_at64_syntax Go.Proofs.Tryd.strconv_ParseUint_10_at64_range hx hy
noncomputable def L31:LF:=(31,⟨(.cons .str (.one (.int .u64))),(.tup (.cons (.int .u64) (.one .bool))),FW⟩)::L49
theorem g31:GoodT Tryd.prog (B mx) L31 Bk:=.hT g49 [(2,.s [sS 0,(.s 1,.v (.int .u64))]),(6,.l q12 [0] true),(9,.s q12),(13,.s q12)] (by rfl) (by kernel_rfl) (by kernel_rfl)
noncomputable def L16:LF:=(16,⟨(.one .str),y8,If⟩)::L31
theorem g16:GoodT Tryd.prog (B mx) L16 Bk:=.hT g31 [] (by rfl) (by kernel_rfl) (by kernel_rfl)
noncomputable def L32:LF:=(32,⟨y4,.bool,Kx⟩)::L16
theorem g32:GoodT Tryd.prog (B mx) L32 Bk:=.hT g16 [] (by rfl) (by kernel_rfl) (by kernel_rfl)
noncomputable def L51:LF:=(51,⟨(.one .str),(.tup y6),Ed⟩)::L32
theorem g51:GoodT Tryd.prog (B mx) L51 Bk:=.hT g32 [(4,.s [sS 0,sI 4,sB 5]),(8,.l q16 [0] true),(11,.s q16),(15,.j q16 [] true),(38,.j [sS 0,sI 4] [] false),(44,.s [sI 4])] (by rfl) (by kernel_rfl) (by kernel_rfl)
noncomputable def L53:LF:=(53,⟨y4,.str,LU⟩)::L51
theorem g53:GoodT Tryd.prog (B mx) L53 Bk:=.hT g51 [(2,.s [sS 0])] (by rfl) (by kernel_rfl) (by kernel_rfl)
noncomputable def L35:LF:=(35,⟨y4,.str,Ky⟩)::L53
theorem g35:GoodT Tryd.prog (B mx) L35 Bk:=.hT g53 [] (by rfl) (by kernel_rfl) (by kernel_rfl)
noncomputable def L82:LF:=(82,⟨(.one .str),(.int .i64),R9⟩)::L35
theorem g82:GoodT Tryd.prog (B mx) L82 Bk:=.hT g35 [(2,.s []),(3,.s []),(4,.r),(5,.r),(6,.r)] (by rfl) (by kernel_rfl) (by kernel_rfl)
noncomputable def L91:LF:=(91,⟨(.one .str),(.tup (.cons (.int .i32) y3)),RA⟩)::L82
theorem g91:GoodT Tryd.prog (B mx) L91 Bk:=.hT g82 [(4,.s [sS 0,sI 4]),(14,.s []),(15,.r),(16,.r)] (by rfl) (by kernel_rfl) (by kernel_rfl)
noncomputable def L83:LF:=(83,⟨(.one .str),(.tup (.cons (.int .i32) y3)),R8⟩)::L91
theorem g83:GoodT Tryd.prog (B mx) L83 Bk:=.hT g91 [(2,.s [(.s 2,.v (.int .i32)),sI 3])] (by rfl) (by kernel_rfl) (by kernel_rfl)
noncomputable def L66:LF:=(66,⟨(.cons .str y3),(.sl .str),R0⟩)::L83
theorem g66:GoodT Tryd.prog (B mx) L66 Bk:=.hT g83 [(4,.j [sS 0,sI 1] [] false),(12,.s [sS 0,sI 1,(.o 21,.arr 9 1 .str),(.s 6,.own 21)]),(16,.l q10 [0] false),(17,.s q10),(23,.s q10),(31,.j [(.o 21,.arr 9 1 .str),(.s 6,.own 21)] [] false)] (by rfl) (by kernel_rfl) (by kernel_rfl)
noncomputable def s67:Sig:=⟨y4,(.int .i64),Iu⟩
noncomputable def L67:LF:=(67,s67)::L66
theorem g67:GoodT Tryd.prog (B mx) L67 Bk:=GoodT.addM g66 67 s67 (by rfl) fun _ _ _ hx hy=>Wa (by kernel_rfl) Go.Proofs.Tryd.strings_Count_one hx hy
noncomputable def s85:Sig:=⟨y4,(.int .i64),Kz⟩
noncomputable def L85:LF:=(85,s85)::L67
theorem g85:GoodT Tryd.prog (B mx) L85 Bk:=GoodT.addM g67 85 s85 (by rfl) fun _ _ _ hx hy=>Wd (by kernel_rfl) (g:=0) rfl Go.Proofs.Tryd.stringslite_Index_one Go.Proofs.Tryd.stringslite_Index hx hy
noncomputable def L68:LF:=(68,⟨y4,(.int .i64),Nl⟩)::L85
theorem g68:GoodT Tryd.prog (B mx) L68 Bk:=.hT g85 [] (by rfl) (by kernel_rfl) (by kernel_rfl)
noncomputable def L52:LF:=(52,⟨(.cons .str (.cons .str y6)),(.sl .str),Nm⟩)::L68
theorem g52:GoodT Tryd.prog (B mx) L52 Bk:=.hT g68 [(2,.s [sS 0,sS 1,sI 2,sI 3]),(10,.s [sS 0,sS 1,sI 2,sI 3]),(18,.j [sS 0,sS 1,sI 2,sI 3] [] false),(32,.j [sS 0,sI 10,(.o 31,.arr 9 1 .str),(.s 9,.own 31)] [] false),(34,.l q9 [0] false),(35,.s q9),(44,.s [sS 0,sS 1,sI 2,sI 3,sI 10,sI 11,(.o 31,.arr 9 1 .str),(.s 9,.own 31)]),(58,.t [(3,.frz 62)])] (by rfl) (by kernel_rfl) (by kernel_rfl)
noncomputable def L34:LF:=(34,⟨y4,(.sl .str),Iw⟩)::L52
theorem g34:GoodT Tryd.prog (B mx) L34 Bk:=.hT g52 [] (by rfl) (by kernel_rfl) (by kernel_rfl)
noncomputable def L54:LF:=(54,⟨(.cons (.sl .str) (.one .str)),(.int .i64),Ng⟩)::L34
theorem g54:GoodT Tryd.prog (B mx) L54 Bk:=.hT g34 [(2,.s []),(6,.l q13 [0] true),(9,.s q13),(13,.s q13)] (by rfl) (by kernel_rfl) (by kernel_rfl)
noncomputable def L36:LF:=(36,⟨(.cons (.sl .str) (.one .str)),.bool,Ko⟩)::L54
theorem g36:GoodT Tryd.prog (B mx) L36 Bk:=.hT g54 [] (by rfl) (by kernel_rfl) (by kernel_rfl)
noncomputable def s33:AE:=⟨[(.c 1048640 0,.v (.int .u64)),(.c 1048640 1,.v (.int .u64)),(.c 1048640 2,.v (.int .i64)),(.o 1048644,.arr 55 4 y0),(.c 1048640 3,.own 1048644),(.o 1048640,.box 4 none)],(.cons (.nam 1048640) (.one (.sl .str))),.bool,JU⟩
noncomputable def NB:LG:=(33,s33)::Bk
theorem g33:GoodT Tryd.prog (B mx) L36 NB:=.hE g36 [] (by rfl) (by kernel_rfl) (by kernel_rfl)
noncomputable def N8:LG:=(1048609,⟨[(.c 1048640 0,.v (.int .u64)),(.c 1048640 1,.v (.int .u64)),(.c 1048640 2,.v (.int .i64)),(.o 1048644,.arr 55 4 y0),(.c 1048640 3,.own 1048644),(.o 1048640,.box 4 none)],(.cons (.sl .str) y9),.bool,MH⟩)::NB
theorem TS:GoodT Tryd.prog (B mx) L36 N8:=GoodT.addV g33 33 (by kernel_rfl) (fn:=s33.fn) rfl
noncomputable def s37:AE:=⟨[(.c 1048640 0,.v (.int .u64)),(.c 1048640 1,.v (.int .u64)),(.c 1048640 2,.v (.int .i64)),(.o 1048644,.arr 55 4 y0),(.c 1048640 3,.own 1048644),(.o 1048640,.box 4 none)],(.cons (.nam 1048640) (.one (.sl .str))),.bool,JV⟩
noncomputable def NC:LG:=(37,s37)::N8
theorem g37:GoodT Tryd.prog (B mx) L36 NC:=.hE TS [] (by rfl) (by kernel_rfl) (by kernel_rfl)
noncomputable def N9:LG:=(1048613,⟨[(.c 1048640 0,.v (.int .u64)),(.c 1048640 1,.v (.int .u64)),(.c 1048640 2,.v (.int .i64)),(.o 1048644,.arr 55 4 y0),(.c 1048640 3,.own 1048644),(.o 1048640,.box 4 none)],(.cons (.sl .str) y9),.bool,MI⟩)::NC
theorem TU:GoodT Tryd.prog (B mx) L36 N9:=GoodT.addV g37 37 (by kernel_rfl) (fn:=s37.fn) rfl
noncomputable def DZ:LG:=(17,⟨[(.c 1048640 0,.v (.int .u64)),(.c 1048640 1,.v (.int .u64)),(.c 1048640 2,.v (.int .i64)),(.o 1048644,.arr 55 4 y0),(.c 1048640 3,.own 1048644),(.o 1048640,.box 4 none)],(.cons (.nam 1048640) (.one .str)),.bool,GS⟩)::N9
theorem g17:GoodT Tryd.prog (B mx) L36 DZ:=.hE TU [(2,.s [sS 1,(.c 1048640 0,.v (.int .u64)),(.c 1048640 1,.v (.int .u64)),cI 1048640 2,(.o 1048644,.arr 55 4 y0),(.s 0,.v (.nam 1048640)),(.c 1048640 3,.own 1048644),(.o 1048640,.box 4 none)]),(12,.s [(.c 1048640 0,.v (.int .u64)),(.c 1048640 1,.v (.int .u64)),cI 1048640 2,(.o 1048644,.arr 55 4 y0),(.c 1048640 3,.own 1048644),(.o 1048640,.box 4 none)]),(16,.l q1 [0] true),(19,.s q1),(23,.s [(.s 5,.v (.clo 1048613 y9)),(.s 16,.v (.sl .str)),sI 17,sI 18,(.c 1048640 0,.v (.int .u64)),(.c 1048640 1,.v (.int .u64)),cI 1048640 2,(.o 1048644,.arr 55 4 y0),(.s 0,.v (.nam 1048640)),(.c 1048640 3,.own 1048644),(.o 1048640,.box 4 none)]),(29,.s [(.s 16,.v (.sl .str)),sI 17,sI 18,(.c 1048640 0,.v (.int .u64)),(.c 1048640 1,.v (.int .u64)),cI 1048640 2,(.o 1048644,.arr 55 4 y0),(.s 0,.v (.nam 1048640)),(.c 1048640 3,.own 1048644),(.o 1048640,.box 4 none)])] (by rfl) (by kernel_rfl) (by kernel_rfl)
noncomputable def L9:LF:=(9,⟨(.one .str),(.tup (.cons (.int .i64) (.cons (.sl y0) y3))),JR⟩)::L36
theorem g9:GoodT Tryd.prog (B mx) L9 DZ:=.hU g17 [(2,.s [sS 0]),(12,.s [sS 5]),(21,.t [(1,.tell 7 1048640),(1,.ownc 1048640 3 1048644 55 4)]),(22,.s q3),(32,.s q3),(40,.s q3),(52,.g (.frz 3))] (by rfl) (by kernel_rfl) (by kernel_rfl) rfl
noncomputable def s6:Sig:=⟨.nil,.bool,HK⟩
noncomputable def L6:LF:=(6,s6)::L9
theorem g6:GoodT Tryd.prog (B mx) L6 DZ:=.hT g9 [(3,.t [(3,.frz 12)]),(5,.t [(4,.frz 17)])] (by rfl) (by kernel_rfl) (by kernel_rfl)
noncomputable def s12:Sig:=⟨(.one y2),.bool,Jr⟩
noncomputable def L12:LF:=(12,s12)::L6
theorem g12:GoodT Tryd.prog (B mx) L12 DZ:=.hT g6 [(2,.s [(.s 0,.v y2)]),(6,.l q18 [0] true),(7,.s q18),(13,.s q18),(15,.s q18),(26,.l q17 [2] true),(27,.s q17),(33,.s q17)] (by rfl) (by kernel_rfl) (by kernel_rfl)
noncomputable def s13:Sig:=⟨(.cons (.int .i64) (.one y2)),(.tup (.cons y5 (.one (.map (.int .u32) .str)))),Js⟩
noncomputable def L13:LF:=(13,s13)::L12
theorem g13:GoodT Tryd.prog (B mx) L13 DZ:=.hT g12 [(4,.g (.ownc 6 4 100604 62 8)),(6,.s [cI 4 0,cI 4 1,cI 4 2,cI 4 3,cI 6 0,cI 6 1,cI 6 2,cI 6 3,(.o 11,.mob 42 (.int .u32) .str),(.o 100604,.arr 62 8 y1),(.s 4,.ptr 4 0),(.s 6,.ptr 6 0),(.s 7,.mp 11),(.c 4 4,.v .nsl),(.c 6 4,.own 100604),(.o 4,.box 5 none),(.o 6,.box 5 none)]),(10,.l q0 [0] false),(11,.s q0),(17,.j q0 [] false),(28,.t [(0,.frzc 6 4)])] (by rfl) (by kernel_rfl) (by kernel_rfl)
noncomputable def L62:LF:=(62,⟨(.cons (.int .i64) y6),(.tup y6),Ln⟩)::L13
theorem g62:GoodT Tryd.prog (B mx) L62 DZ:=.hT g13 [(2,.s [sI 2]),(4,.j [sI 2,sB 8] [] false)] (by rfl) (by kernel_rfl) (by kernel_rfl)
noncomputable def L45:LF:=(45,⟨y6,(.tup y6),IF⟩)::L62
theorem g45:GoodT Tryd.prog (B mx) L45 DZ:=.hT g62 [] (by rfl) (by kernel_rfl) (by kernel_rfl)
noncomputable def L27:LF:=(27,⟨(.one (.sl (.int .i64))),(.tup y6),IG⟩)::L45
theorem g27:GoodT Tryd.prog (B mx) L27 DZ:=.hT g45 [(4,.s [sI 4]),(8,.l q11 [0] true),(11,.s q11),(15,.s q11),(21,.s [sI 7,(.s 9,.v (.sl (.int .i64))),sI 10,sI 11])] (by rfl) (by kernel_rfl) (by kernel_rfl)
noncomputable def L15:LF:=(15,⟨(.one (.sl y0)),(.tup y6),Ic⟩)::L27
theorem g15:GoodT Tryd.prog (B mx) L15 DZ:=.hT g27 [(4,.g (.own 4 1004 48 1)),(4,.s [(.o 1004,.arr 48 1 (.int .i64)),(.s 4,.own 1004)]),(8,.l q8 [0] false),(11,.s q8),(15,.s q8)] (by rfl) (by kernel_rfl) (by kernel_rfl)
noncomputable def s5:Sig:=⟨(.cons (.int .i64) (.one y2)),.bool,Mc⟩
noncomputable def L5:LF:=(5,s5)::L15
theorem g5:GoodT Tryd.prog (B mx) L5 DZ:=.hT g15 [(2,.s [sI 0,(.s 1,.v y2)]),(10,.s [sI 0,(.s 1,.v y2)]),(22,.s [sI 0,(.s 1,.v y2),(.s 7,.v (.sl y0)),(.s 8,.v y7)]),(36,.s [sI 0,(.s 7,.v (.sl y0)),(.s 8,.v y7),sI 10,sI 11,sI 12,sI 13,sI 14]),(40,.l q6 [0] true),(41,.s q6),(47,.j q6 [] true),(49,.s q6),(55,.s q6),(59,.s q6),(71,.s q6)] (by rfl) (by kernel_rfl) (by kernel_rfl)
end WB
