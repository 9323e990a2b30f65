/-
  A SEAT's FUNCTIONS do what they do over plain data (printed by wip/genseat.py).
-/
import Derived.Test.YtcakkedgkahhfaaGreatDoorK8
import Derived.Test.YtcakkedgkahhfaaGreatDoorK6
import Derived.Test.YtcakkedgkahhfaaGreatDoorProg
import Derived.Test.YtcakkedgkahhfaaGreatDoorK12
import Derived.KernelRfl
set_option linter.unusedVariables false
set_option linter.unusedSimpArgs false
open Go.IntKind (i64 u64 u8 u32)
namespace WB
set_option maxHeartbeats 4000000
open Go Go.RowKit Go.Proofs
def lkT{α:Type}:List (Nat×α)→Nat→Option α
 | [],_=>none
 |e::l,i=>if e.1=i then some e.2 else lkT l i
variable {mx:Int}
def B(mx:Int):TB:=⟨fun i=>if i=0 then [.int .i64 31,.int .i64 28,.int .i64 31,.int .i64 30,.int .i64 31,.int .i64 30,.int .i64 31,.int .i64 31,.int .i64 30,.int .i64 31,.int .i64 30,.int .i64 31]else if i=1 then [.int .i64 mx]else if i=4 then Lib.pow10Tab.map fun z=>.int .u64 z else if i=5 then [.ifc]else if i=6 then [.ifc]else [],lkT [(28,(.agg (.cons (.int .i64) (.cons (.int .i64) (.one (.sl .str)))))),(52,(.agg (.cons (.int .i64) (.cons (.int .i64) (.one (.sl .str)))))),(9,.str),(63,(.agg (.cons .str (.one .str)))),(5,(.int .u8))],lkT [],fun f=>false⟩
abbrev y0:Ty:=(.agg (.cons (.int .i64) (.cons (.int .i64) (.one (.sl .str)))))
abbrev y2:Ty:=(.cons .str (.one .str))
abbrev y3:Ty:=(.one (.int .i64))
abbrev y1:Ty:=(.cons (.int .i64) y3)
abbrev y4:Ty:=(.agg (.cons (.int .i64) y1))
def q0:TC:= [sB 9,(.s 20,.v (.sl .str)),sI 21,sI 22,cI 2 0,cI 2 1,cI 2 2,cI 6 0,cI 6 1,cI 6 2,cI 7 0,cI 7 1,cI 7 2,(.o 1008,.arr 28 3 y0),(.s 2,.ptr 2 0),(.s 6,.ptr 6 0),(.s 7,.ptr 7 0),(.s 8,.own 1008),(.o 2,.box 3),(.o 6,.box 3),(.o 7,.box 3)]
def q1:TC:= [sI 0,(.s 1,.v (.sl .str)),(.s 8,.v (.sl (.agg y2))),sI 9,sI 10,cI 4 0,cI 4 1,(.s 4,.ptr 4 0),(.c 4 2,.v .nsl),(.o 4,.box 3)]
def q2:TC:= [(.s 14,.v (.sl .str)),sI 15,sI 16,(.c 2 0,.v .str),(.c 2 1,.v .str),(.s 2,.ptr 2 0),(.o 2,.box 2)]
def q3:TC:= [(.s 0,.v (.sl y0)),(.s 7,.v (.sl y0)),sI 8,sI 9,(.s 18,.v (.sl .str)),sI 19,sI 20]
def q4:TC:= [sS 0,(.s 10,.v (.sl .str)),sI 11,sI 12,(.o 1003,.arr 9 1 .str),(.s 3,.own 1003)]
def q5:TC:= [(.s 1,.v (.sl y0)),sS 2,cI 3 0,cI 3 1,cI 3 2,(.s 3,.ptr 3 0),(.o 3,.box 3)]
def q6:TC:= [(.s 1,.v (.sl y0)),cI 2 0,cI 2 1,cI 2 2,(.s 2,.ptr 2 0),(.o 2,.box 3)]
def q7:TC:= [(.s 6,.v (.sl y0)),sI 7,sI 8,(.o 1003,.arr 52 3 y0),(.s 3,.own 1003)]
def q8:TC:= [sI 3,sI 4,sI 5,cI 2 0,cI 2 1,cI 2 2,(.s 2,.ptr 2 0),(.o 2,.box 3)]
def q9:TC:= [sS 0,sS 1,sI 2,sI 3,sI 10,(.o 31,.arr 9 1 .str),(.s 9,.own 31)]
def q10:TC:= [sI 3,sI 4,cI 2 0,cI 2 1,cI 2 2,(.s 2,.ptr 2 0),(.o 2,.box 3)]
def q11:TC:= [sI 4,sI 5,cI 1 0,cI 1 1,cI 1 2,(.s 1,.ptr 1 0),(.o 1,.box 3)]
def q12:TC:= [(.s 1,.v (.sl y0)),sB 2,(.s 14,.v (.sl y0)),sI 15,sI 16]
def q13:TC:= [(.s 0,.v (.sl .str)),(.s 1,.v (.sl .str)),sI 12,sI 13]
def q14:TC:= [sS 0,sI 1,sI 7,(.o 21,.arr 9 1 .str),(.s 6,.own 21)]
def q15:TC:= [(.s 0,.v (.sl y0)),(.s 7,.v (.sl y0)),sI 8,sI 9]
def q16:TC:= [sI 4,(.s 8,.v (.sl (.int .u8))),sI 9,sI 10]
def q17:TC:= [sS 7,(.s 37,.v (.sl y0)),sI 38,sI 39]
def q18:TC:= [sS 0,(.s 7,.v (.sl .str)),sI 8,sI 9]
def q19:TC:= [sS 0,sI 4,sB 5,sI 9,sI 10]
abbrev LF:=List (FuncId×Sig)
def Nt:List (FuncId×Sig):= []
def A5:List (FuncId×BJ):= []
theorem T1:GoodT Tryz.prog (B mx) Nt A5:=GoodT.nil _ _
noncomputable def L59:LF:=(59,⟨(.one .str),(.int .i64),Rb⟩)::Nt
theorem g59:GoodT Tryz.prog (B mx) L59 A5:=.hT T1 [(2,.s []),(3,.s []),(4,.r),(5,.r),(6,.r)] (by rfl) (by kernel_rfl) (by kernel_rfl)
noncomputable def L64:LF:=(64,⟨(.one .str),(.tup (.cons (.int .i32) y3)),Rc⟩)::L59
theorem g64:GoodT Tryz.prog (B mx) L64 A5:=.hT g59 [(4,.s [sS 0,sI 4]),(14,.s []),(15,.r),(16,.r)] (by rfl) (by kernel_rfl) (by kernel_rfl)
noncomputable def L41:LF:=(41,⟨(.one .str),(.tup (.cons (.int .i32) y3)),Ra⟩)::L64
theorem g41:GoodT Tryz.prog (B mx) L41 A5:=.hT g64 [(2,.s [(.s 2,.v (.int .i32)),sI 3])] (by rfl) (by kernel_rfl) (by kernel_rfl)
noncomputable def L47:LF:=(47,⟨(.cons .str y3),(.sl .str),QJ⟩)::L41
theorem g47:GoodT Tryz.prog (B mx) L47 A5:=.hT g41 [(4,.j [sS 0,sI 1] [] false),(12,.s [sS 0,sI 1,(.o 21,.arr 9 1 .str),(.s 6,.own 21)]),(16,.l q14 [0] false),(17,.s q14),(23,.s q14),(31,.j [(.o 21,.arr 9 1 .str),(.s 6,.own 21)] [] false)] (by rfl) (by kernel_rfl) (by kernel_rfl)
noncomputable def s37:Sig:=⟨y2,(.int .i64),I9⟩
noncomputable def L37:LF:=(37,s37)::L47
theorem g37:GoodT Tryz.prog (B mx) L37 A5:=GoodT.addM g47 37 s37 (by rfl) fun _ _ _ hx hy=>V7 (by kernel_rfl) Go.Proofs.Tryz.strings_Count_one hx hy
noncomputable def s63:Sig:=⟨y2,(.int .i64),Gg⟩
noncomputable def L63:LF:=(63,s63)::L37
theorem g63:GoodT Tryz.prog (B mx) L63 A5:=GoodT.addM g37 63 s63 (by rfl) fun _ _ _ hx hy=>VC (by kernel_rfl) (g:=1) rfl Go.Proofs.Tryz.stringslite_Index_one Go.Proofs.Tryz.stringslite_Index hx hy
noncomputable def L39:LF:=(39,⟨y2,(.int .i64),MV⟩)::L63
theorem g39:GoodT Tryz.prog (B mx) L39 A5:=.hT g63 [] (by rfl) (by kernel_rfl) (by kernel_rfl)
noncomputable def L31:LF:=(31,⟨(.cons .str (.cons .str y1)),(.sl .str),MW⟩)::L39
theorem g31:GoodT Tryz.prog (B mx) L31 A5:=.hT g39 [(2,.s [sS 0,sS 1,sI 2,sI 3]),(10,.s [sS 0,sS 1,sI 2,sI 3]),(18,.j [sS 0,sS 1,sI 2,sI 3] [] false),(32,.j [sS 0,sI 10,(.o 31,.arr 9 1 .str),(.s 9,.own 31)] [] false),(34,.l q9 [0] false),(35,.s q9),(44,.s [sS 0,sS 1,sI 2,sI 3,sI 10,sI 11,(.o 31,.arr 9 1 .str),(.s 9,.own 31)]),(58,.t [(3,.frz 62)])] (by rfl) (by kernel_rfl) (by kernel_rfl)
noncomputable def L17:LF:=(17,⟨y2,(.sl .str),IA⟩)::L31
theorem g17:GoodT Tryz.prog (B mx) L17 A5:=.hT g31 [] (by rfl) (by kernel_rfl) (by kernel_rfl)
noncomputable def L48:LF:=(48,⟨y2,(.tup (.cons .str (.cons .str (.one .bool)))),LL⟩)::L17
theorem g48:GoodT Tryz.prog (B mx) L48 A5:=.hT g17 [(2,.s [sS 0])] (by rfl) (by kernel_rfl) (by kernel_rfl)
noncomputable def L32:LF:=(32,⟨y2,(.tup (.cons .str (.cons .str (.one .bool)))),Kv⟩)::L48
theorem g32:GoodT Tryz.prog (B mx) L32 A5:=.hT g48 [] (by rfl) (by kernel_rfl) (by kernel_rfl)
noncomputable def s33:Sig:=⟨y2,.str,F2⟩
noncomputable def L33:LF:=(33,s33)::L32
theorem g33:GoodT Tryz.prog (B mx) L33 A5:=GoodT.addM g32 33 s33 (by rfl) fun _ _ _ hx hy=>VA (by kernel_rfl) Go.Proofs.Tryz.strings_Trim_laid hx hy
noncomputable def L18:LF:=(18,⟨(.one .str),(.sl .str),De⟩)::L33
theorem g18:GoodT Tryz.prog (B mx) L18 A5:=.hT g33 [(4,.g (.own 3 1003 9 1)),(4,.s [sS 0,(.o 1003,.arr 9 1 .str),(.s 3,.own 1003)]),(8,.l q4 [0] false),(11,.s q4),(15,.j q4 [] false),(25,.s [(.s 3,.v (.sl .str))]),(27,.t [(4,.frz 3)])] (by rfl) (by kernel_rfl) (by kernel_rfl)
noncomputable def L13:LF:=(13,⟨.nil,(.sl .str),GZ⟩)::L18
theorem g13:GoodT Tryz.prog (B mx) L13 A5:=.hT g18 [] (by rfl) (by kernel_rfl) (by kernel_rfl)
noncomputable def L34:LF:=(34,⟨(.cons .str (.one (.sl .str))),(.int .i64),Et⟩)::L13
theorem g34:GoodT Tryz.prog (B mx) L34 A5:=.hT g13 [(2,.s []),(6,.l q18 [0] true),(9,.s q18),(13,.s q18)] (by rfl) (by kernel_rfl) (by kernel_rfl)
noncomputable def L56:LF:=(56,⟨(.one .str),(.tup (.cons (.int .i64) (.one .bool))),Ej⟩)::L34
theorem g56:GoodT Tryz.prog (B mx) L56 A5:=.hT g34 [(4,.s [sI 4]),(8,.l q16 [0] true),(11,.s q16),(15,.s q16),(19,.s [sI 4,(.s 6,.v (.int .u8)),(.s 8,.v (.sl (.int .u8))),sI 9,sI 10])] (by rfl) (by kernel_rfl) (by kernel_rfl)
noncomputable def L65:LF:=(65,⟨y3,.bool,IS⟩)::L56
theorem g65:GoodT Tryz.prog (B mx) L65 A5:=.hT g56 [] (by rfl) (by kernel_rfl) (by kernel_rfl)
noncomputable def L44:LF:=(44,⟨y1,(.int .i64),E0⟩)::L65
theorem g44:GoodT Tryz.prog (B mx) L44 A5:=.hT g65 [(2,.s [sI 1]),(4,.j [sI 0,sI 1,sB 5] [] false)] (by rfl) (by kernel_rfl) (by kernel_rfl)
noncomputable def L43:LF:=(43,⟨y3,(.int .i64),Gu⟩)::L44
theorem g43:GoodT Tryz.prog (B mx) L43 A5:=.hT g44 [] (by rfl) (by kernel_rfl) (by kernel_rfl)
noncomputable def L24:LF:=(24,⟨y3,.bool,H3⟩)::L43
theorem g24:GoodT Tryz.prog (B mx) L24 A5:=.hT g43 [] (by rfl) (by kernel_rfl) (by kernel_rfl)
noncomputable def L25:LF:=(25,⟨y3,y4,FH⟩)::L24
theorem g25:GoodT Tryz.prog (B mx) L25 A5:=.hT g24 [(2,.s [sI 0,cI 2 0,cI 2 1,cI 2 2,(.s 2,.ptr 2 0),(.o 2,.box 3)]),(14,.s q10),(16,.l q10 [0] false),(17,.s q10),(29,.s q8),(31,.l q8 [2] false),(32,.s q8)] (by rfl) (by kernel_rfl) (by kernel_rfl)
noncomputable def L57:LF:=(57,⟨(.one y4),(.tup y1),DQ⟩)::L25
theorem g57:GoodT Tryz.prog (B mx) L57 A5:=.hT g25 [(2,.s [cI 1 0,cI 1 1,cI 1 2,(.s 1,.ptr 1 0),(.o 1,.box 3)]),(12,.s [sI 4,cI 1 0,cI 1 1,cI 1 2,(.s 1,.ptr 1 0),(.o 1,.box 3)]),(16,.l q11 [0] false),(17,.s q11),(23,.s q11),(29,.s [sI 6])] (by rfl) (by kernel_rfl) (by kernel_rfl)
noncomputable def L35:LF:=(35,⟨(.one .str),(.tup y1),CJ⟩)::L57
theorem g35:GoodT Tryz.prog (B mx) L35 A5:=.hT g57 [(2,.s [sS 0]),(16,.s [sI 4,sI 6,sI 8])] (by rfl) (by kernel_rfl) (by kernel_rfl)
noncomputable def s58:Sig:=⟨(.one .str),(.tup (.cons (.int .i64) (.one .err))),Hf⟩
noncomputable def L58:LF:=(58,s58)::L35
theorem g58:GoodT Tryz.prog (B mx) L58 A5:=GoodT.addM g35 58 s58 (by rfl) fun _ _ _ hx hy=>strconv_Atoi_ok (by kernel_rfl) (g0:=5) (g1:=6) rfl rfl Go.Proofs.Tryz.strconv_Atoi_ok Go.Proofs.Tryz.strconv_Atoi_syntax Go.Proofs.Tryz.strconv_Atoi_range hx hy
noncomputable def L36:LF:=(36,⟨(.one .str),(.tup y1),CD⟩)::L58
theorem g36:GoodT Tryz.prog (B mx) L36 A5:=.hT g58 [(2,.s [sS 0]),(10,.s [sS 0]),(20,.s [sI 4])] (by rfl) (by kernel_rfl) (by kernel_rfl)
noncomputable def L23:LF:=(23,⟨y3,.bool,JW⟩)::L36
theorem g23:GoodT Tryz.prog (B mx) L23 A5:=.hT g36 [] (by rfl) (by kernel_rfl) (by kernel_rfl)
noncomputable def L12:LF:=(12,⟨(.one y4),(.int .i64),Im⟩)::L23
theorem g12:GoodT Tryz.prog (B mx) L12 A5:=.hT g23 [(2,.s [])] (by rfl) (by kernel_rfl) (by kernel_rfl)
noncomputable def L19:LF:=(19,⟨(.one (.sl .str)),(.tup (.cons y4 y3)),Dv⟩)::L12
theorem g19:GoodT Tryz.prog (B mx) L19 A5:=.hT g12 [(2,.s [(.s 0,.v (.sl .str)),cI 2 0,cI 2 1,cI 2 2,(.s 2,.ptr 2 0),(.o 2,.box 3)]),(12,.s [(.s 0,.v (.sl .str)),sI 4,cI 2 0,cI 2 1,cI 2 2,(.s 2,.ptr 2 0),(.o 2,.box 3)]),(22,.s [(.s 0,.v (.sl .str)),sI 4,sI 5,cI 2 0,cI 2 1,cI 2 2,(.s 2,.ptr 2 0),(.o 2,.box 3)]),(32,.s [sI 4,sI 5,sI 7,cI 2 0,cI 2 1,cI 2 2,(.s 2,.ptr 2 0),(.o 2,.box 3)])] (by rfl) (by kernel_rfl) (by kernel_rfl)
noncomputable def L28:LF:=(28,⟨.nil,(.sl (.agg y2)),GY⟩)::L19
theorem g28:GoodT Tryz.prog (B mx) L28 A5:=.hT g19 [] (by rfl) (by kernel_rfl) (by kernel_rfl)
noncomputable def Nr:LF:=(101,⟨y3,.bool,IP⟩)::L28
theorem Tz:GoodT Tryz.prog (B mx) Nr A5:=.hT g28 [] (by rfl) (by kernel_rfl) (by kernel_rfl)
noncomputable def Ns:LF:=(102,⟨y3,.str,Gt⟩)::Nr
theorem T0:GoodT Tryz.prog (B mx) Ns A5:=.hT Tz [(4,.s [sI 0,sS 3]),(6,.l [sI 0,sS 3] [0] false),(7,.s [sI 0,sS 3])] (by rfl) (by kernel_rfl) (by kernel_rfl)
noncomputable def L88:LF:=(88,⟨y3,.str,Gs⟩)::Ns
theorem g88:GoodT Tryz.prog (B mx) L88 A5:=.hT T0 [(2,.s [sI 0]),(12,.j [sI 0,sS 3] [] false)] (by rfl) (by kernel_rfl) (by kernel_rfl)
noncomputable def L70:LF:=(70,⟨(.one .str),(.tup y1),FG⟩)::L88
theorem g70:GoodT Tryz.prog (B mx) L70 A5:=.hT g88 [(4,.s [sS 0,sI 4,sB 5]),(8,.l q19 [0] true),(11,.s q19),(15,.j q19 [] true),(38,.j [sS 0,sI 4] [] false),(44,.s [sI 4])] (by rfl) (by kernel_rfl) (by kernel_rfl)
noncomputable def s89:Sig:=⟨y2,.bool,strings_ContainsAny⟩
noncomputable def L89:LF:=(89,s89)::L70
theorem g89:GoodT Tryz.prog (B mx) L89 A5:=GoodT.addM g70 89 s89 (by rfl) fun _ _ _ hx hy=>V6 (by kernel_rfl) Go.Proofs.Tryz.strings_ContainsAny hx hy
noncomputable def L71:LF:=(71,⟨(.cons .str (.cons .str y3)),(.int .i64),Iw⟩)::L89
theorem g71:GoodT Tryz.prog (B mx) L71 A5:=.hT g89 [(2,.s [])] (by rfl) (by kernel_rfl) (by kernel_rfl)
noncomputable def L46:LF:=(46,⟨(.cons (.int .u8) (.one .str)),(.int .i64),Fx⟩)::L71
theorem g46:GoodT Tryz.prog (B mx) L46 A5:=.hT g71 [(2,.s [sS 1])] (by rfl) (by kernel_rfl) (by kernel_rfl)
noncomputable def L29:LF:=(29,⟨(.cons (.agg y2) (.one (.sl .str))),(.int .i64),Dd⟩)::L46
theorem g29:GoodT Tryz.prog (B mx) L29 A5:=.hT g46 [(2,.s [(.s 1,.v (.sl .str)),(.c 2 0,.v .str),(.c 2 1,.v .str),(.s 2,.ptr 2 0),(.o 2,.box 2)]),(10,.s []),(14,.l q2 [0] true),(17,.s q2),(21,.s q2)] (by rfl) (by kernel_rfl) (by kernel_rfl)
noncomputable def L20:LF:=(20,⟨(.cons (.int .i64) (.one (.sl .str))),(.tup (.cons y0 y3)),Dc⟩)::L29
theorem g20:GoodT Tryz.prog (B mx) L20 A5:=.hT g29 [(2,.s [cI 4 0,cI 4 1,(.s 4,.ptr 4 0),(.c 4 2,.v .nsl),(.o 4,.box 3)]),(6,.l q1 [0] true),(9,.s q1),(13,.s q1)] (by rfl) (by kernel_rfl) (by kernel_rfl)
noncomputable def L6:LF:=(6,⟨(.one .str),(.tup (.cons y4 (.cons (.sl y0) y1))),Es⟩)::L20
theorem g6:GoodT Tryz.prog (B mx) L6 A5:=.hT g20 [(4,.s [sS 0,cI 2 0,cI 2 1,cI 2 2,cI 6 0,cI 6 1,cI 6 2,cI 7 0,cI 7 1,cI 7 2,(.s 2,.ptr 2 0),(.s 6,.ptr 6 0),(.s 7,.ptr 7 0),(.o 2,.box 3),(.o 6,.box 3),(.o 7,.box 3)]),(14,.g (.own 8 1008 28 3)),(16,.s [sB 9,cI 2 0,cI 2 1,cI 2 2,cI 6 0,cI 6 1,cI 6 2,cI 7 0,cI 7 1,cI 7 2,(.o 1008,.arr 28 3 y0),(.s 2,.ptr 2 0),(.s 6,.ptr 6 0),(.s 7,.ptr 7 0),(.s 8,.own 1008),(.o 2,.box 3),(.o 6,.box 3),(.o 7,.box 3)]),(20,.l q0 [0] true),(23,.s q0),(27,.j q0 [] true),(33,.s [sB 9,sI 10,(.s 12,.v (.sl .str)),(.s 20,.v (.sl .str)),sI 21,sI 22,cI 2 0,cI 2 1,cI 2 2,cI 6 0,cI 6 1,cI 6 2,cI 7 0,cI 7 1,cI 7 2,(.o 1008,.arr 28 3 y0),(.s 2,.ptr 2 0),(.s 6,.ptr 6 0),(.s 7,.ptr 7 0),(.s 8,.own 1008),(.o 2,.box 3),(.o 6,.box 3),(.o 7,.box 3)]),(43,.j [sB 9,sI 10,sI 13,(.s 20,.v (.sl .str)),sI 21,sI 22,cI 2 0,cI 2 1,cI 2 2,cI 6 0,cI 6 1,cI 6 2,cI 7 0,cI 7 1,cI 7 2,cI 14 0,cI 14 1,(.c 14 2,.v (.sl .str)),(.o 1008,.arr 28 3 y0),(.s 2,.ptr 2 0),(.s 6,.ptr 6 0),(.s 7,.ptr 7 0),(.s 8,.own 1008),(.s 14,.ptr 14 0),(.o 2,.box 3),(.o 6,.box 3),(.o 7,.box 3),(.o 14,.box 3)] [] false),(55,.s [sB 9,(.s 20,.v (.sl .str)),sI 21,sI 22,cI 2 0,cI 2 1,cI 2 2,cI 6 0,cI 6 1,cI 6 2,cI 7 0,cI 7 1,cI 7 2,cI 14 0,cI 14 1,(.c 14 2,.v (.sl .str)),(.o 1008,.arr 28 3 y0),(.s 2,.ptr 2 0),(.s 6,.ptr 6 0),(.s 7,.ptr 7 0),(.s 8,.own 1008),(.s 14,.ptr 14 0),(.o 2,.box 3),(.o 6,.box 3),(.o 7,.box 3),(.o 14,.box 3)]),(63,.j [(.s 20,.v (.sl .str)),sI 21,sI 22,cI 2 0,cI 2 1,cI 2 2,cI 6 0,cI 6 1,cI 6 2,cI 7 0,cI 7 1,cI 7 2,(.o 1008,.arr 28 3 y0),(.s 2,.ptr 2 0),(.s 6,.ptr 6 0),(.s 7,.ptr 7 0),(.s 8,.own 1008),(.o 2,.box 3),(.o 6,.box 3),(.o 7,.box 3)] [] false),(71,.s [cI 2 0,cI 2 1,cI 2 2,cI 7 0,cI 7 1,cI 7 2,(.o 1008,.arr 28 3 y0),(.s 2,.ptr 2 0),(.s 7,.ptr 7 0),(.s 8,.own 1008),(.o 2,.box 3),(.o 7,.box 3)])] (by rfl) (by kernel_rfl) (by kernel_rfl)
noncomputable def s7:Sig:=⟨.nil,.bool,J1⟩
noncomputable def L7:LF:=(7,s7)::L6
theorem g7:GoodT Tryz.prog (B mx) L7 A5:=.hT g6 [] (by rfl) (by kernel_rfl) (by kernel_rfl)
noncomputable def s8:Sig:=⟨(.one (.sl y0)),.bool,J2⟩
noncomputable def L8:LF:=(8,s8)::L7
theorem g8:GoodT Tryz.prog (B mx) L8 A5:=.hT g7 [(2,.s [(.s 0,.v (.sl y0))]),(6,.l q15 [0] true),(9,.s q15),(13,.s q15),(17,.s [(.s 0,.v (.sl y0)),(.s 7,.v (.sl y0)),sI 8,sI 9,cI 4 0,cI 4 1,(.c 4 2,.v (.sl .str)),(.s 4,.ptr 4 0),(.o 4,.box 3)]),(28,.l q3 [2] true),(31,.s q3),(35,.s q3)] (by rfl) (by kernel_rfl) (by kernel_rfl)
noncomputable def L26:LF:=(26,⟨y1,.str,EY⟩)::L8
theorem g26:GoodT Tryz.prog (B mx) L26 A5:=.hT g8 [(4,.s [sS 5]),(8,.l [sI 0,sS 5,sI 6,sI 7] [0] false),(11,.s [sI 0,sS 5,sI 6,sI 7]),(15,.s [sI 0,sS 5,sI 6,sI 7])] (by rfl) (by kernel_rfl) (by kernel_rfl)
noncomputable def L14:LF:=(14,⟨y3,.str,E1⟩)::L26
theorem g14:GoodT Tryz.prog (B mx) L14 A5:=.hT g26 [(2,.s [sI 0])] (by rfl) (by kernel_rfl) (by kernel_rfl)
noncomputable def s15:Sig:=⟨y3,.str,strconv_Itoa⟩
noncomputable def L15:LF:=(15,s15)::L14
theorem g15:GoodT Tryz.prog (B mx) L15 A5:=GoodT.addM g14 15 s15 (by rfl) fun _ _ _ hx hy=>V5 (by kernel_rfl) (g:=4) (by kernel_rfl) rfl Go.Proofs.Tryz.strconv_Itoa hx hy
noncomputable def s30:Sig:=⟨(.cons (.sl .str) (.one .str)),.str,strings_Join⟩
noncomputable def L30:LF:=(30,s30)::L15
theorem g30:GoodT Tryz.prog (B mx) L30 A5:=GoodT.addM g15 30 s30 (by rfl) fun _ _ _ hx hy=>V8 (by kernel_rfl) Go.Proofs.Tryz.strings_Join_none Go.Proofs.Tryz.strings_Join hx hy
noncomputable def L16:LF:=(16,⟨(.one y0),(.tup (.cons .str y3)),GX⟩)::L30
theorem g16:GoodT Tryz.prog (B mx) L16 A5:=.hT g30 [(2,.s [cI 1 0,cI 1 1,(.c 1 2,.v (.sl .str)),(.s 1,.ptr 1 0),(.o 1,.box 3)]),(12,.s [cI 1 0,cI 1 1,(.c 1 2,.v (.sl .str)),(.c 4 0,.v .str),(.c 4 1,.v .str),(.s 1,.ptr 1 0),(.s 4,.ptr 4 0),(.o 1,.box 3),(.o 4,.box 2)])] (by rfl) (by kernel_rfl) (by kernel_rfl)
noncomputable def L5:LF:=(5,⟨(.cons y4 (.one (.sl y0))),(.tup (.cons .str y3)),Iu⟩)::L16
theorem g5:GoodT Tryz.prog (B mx) L5 A5:=.hT g16 [(2,.s q6),(12,.s q6),(22,.s [sS 7]),(26,.l q17 [0] true),(29,.s q17),(33,.s q17),(39,.s [sS 7,sS 10,(.s 37,.v (.sl y0)),sI 38,sI 39]),(49,.s [sS 7])] (by rfl) (by kernel_rfl) (by kernel_rfl)
noncomputable def s10:Sig:=⟨(.one (.sl y0)),(.sl y0),GE⟩
noncomputable def L10:LF:=(10,s10)::L5
theorem g10:GoodT Tryz.prog (B mx) L10 A5:=.hT g5 [(4,.g (.own 3 1003 52 3)),(4,.s [(.o 1003,.arr 52 3 y0),(.s 3,.own 1003)]),(8,.l q7 [0] false),(11,.s q7),(15,.s q7)] (by rfl) (by kernel_rfl) (by kernel_rfl)
noncomputable def s21:Sig:=⟨(.cons (.sl .str) (.one (.sl .str))),.bool,J4⟩
noncomputable def L21:LF:=(21,s21)::L10
theorem g21:GoodT Tryz.prog (B mx) L21 A5:=.hT g10 [(2,.s [(.s 0,.v (.sl .str)),(.s 1,.v (.sl .str))]),(10,.s []),(14,.l q13 [0] true),(17,.s q13),(21,.s q13)] (by rfl) (by kernel_rfl) (by kernel_rfl)
noncomputable def s9:Sig:=⟨(.cons (.sl y0) (.cons (.sl y0) (.one .bool))),.bool,GF⟩
noncomputable def L9:LF:=(9,s9)::L21
theorem g9:GoodT Tryz.prog (B mx) L9 A5:=.hT g21 [(2,.s [(.s 0,.v (.sl y0)),(.s 1,.v (.sl y0)),sB 2]),(10,.s []),(14,.l q12 [0] true),(17,.s q12),(21,.s q12)] (by rfl) (by kernel_rfl) (by kernel_rfl)
noncomputable def s11:Sig:=⟨(.cons .str y2),.str,strings_ReplaceAll⟩
noncomputable def L11:LF:=(11,s11)::L9
theorem g11:GoodT Tryz.prog (B mx) L11 A5:=GoodT.addM g9 11 s11 (by rfl) fun _ _ _ hx hy=>V9 (by kernel_rfl) (g:=1) rfl Go.Proofs.Tryz.strings_ReplaceAll hx hy
noncomputable def s4:Sig:=⟨(.cons y4 (.cons (.sl y0) (.one .str))),.bool,LU⟩
noncomputable def L4:LF:=(4,s4)::L11
theorem g4:GoodT Tryz.prog (B mx) L4 A5:=.hT g11 [(2,.s q5),(10,.s q5),(18,.j [sS 2] [] true),(38,.s [(.s 14,.v (.sl y0)),sI 16,cI 13 0,cI 13 1,cI 13 2,(.s 13,.ptr 13 0),(.o 13,.box 3)]),(46,.s [(.s 14,.v (.sl y0)),cI 13 0,cI 13 1,cI 13 2,(.s 13,.ptr 13 0),(.o 13,.box 3)])] (by rfl) (by kernel_rfl) (by kernel_rfl)
end WB
