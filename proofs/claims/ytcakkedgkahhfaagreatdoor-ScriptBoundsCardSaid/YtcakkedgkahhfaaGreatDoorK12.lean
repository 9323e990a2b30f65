/-
  A SEAT's FUNCTIONS do what they do over plain data (printed by wip/genseat.py).
-/
import Derived.Test.YtcakkedgkahhfaaGreatDoorK8
import Derived.Test.YtcakkedgkahhfaaGreatDoorK6
import Derived.Test.YtcakkedgkahhfaaGreatDoorProg
import Derived.Test.YtcakkedgkahhfaaGreatDoorK11
import Derived.KernelRfl
set_option linter.unusedVariables false
set_option linter.unusedSimpArgs false
open Go.IntKind (i64 u64 u8 u32)
namespace WB
set_option maxHeartbeats 4000000
open Go Go.RowKit Go.Proofs
def lkT{α:Type}:List (Nat×α)→Nat→Option α
 | [],_=>none
 |e::l,i=>if e.1=i then some e.2 else lkT l i
def B:TB:=⟨fun i=>if i=0 then [.int .i64 31,.int .i64 28,.int .i64 31,.int .i64 30,.int .i64 31,.int .i64 30,.int .i64 31,.int .i64 31,.int .i64 30,.int .i64 31,.int .i64 30,.int .i64 31]else if i=4 then Lib.pow10Tab.map fun z=>.int .u64 z else if i=5 then [.ifc]else if i=6 then [.ifc]else [],lkT [(28,(.agg (.cons (.int .i64) (.cons (.int .i64) (.one (.sl .str)))))),(52,(.agg (.cons (.int .i64) (.cons (.int .i64) (.one (.sl .str)))))),(9,.str),(63,(.agg (.cons .str (.one .str)))),(5,(.int .u8))],lkT [],fun f=>false⟩
abbrev y0:Ty:=(.agg (.cons (.int .i64) (.cons (.int .i64) (.one (.sl .str)))))
abbrev y1:Ty:=(.one (.int .i64))
abbrev y2:Ty:=(.cons .str (.one .str))
abbrev y3:Ty:=(.cons (.int .i64) y1)
abbrev y4:Ty:=(.agg (.cons (.int .i64) y3))
def q0:TC:= [sB 9,(.s 20,.v (.sl .str)),sI 21,sI 22,cI 2 0,cI 2 1,cI 2 2,cI 6 0,cI 6 1,cI 6 2,cI 7 0,cI 7 1,cI 7 2,(.o 1008,.arr 28 3 y0),(.s 2,.ptr 2 0),(.s 6,.ptr 6 0),(.s 7,.ptr 7 0),(.s 8,.own 1008),(.o 2,.box 3),(.o 6,.box 3),(.o 7,.box 3)]
def q1:TC:= [sI 0,(.s 1,.v (.sl .str)),(.s 8,.v (.sl (.agg y2))),sI 9,sI 10,cI 4 0,cI 4 1,(.s 4,.ptr 4 0),(.c 4 2,.v .nsl),(.o 4,.box 3)]
def q2:TC:= [(.s 14,.v (.sl .str)),sI 15,sI 16,(.c 2 0,.v .str),(.c 2 1,.v .str),(.s 2,.ptr 2 0),(.o 2,.box 2)]
def q3:TC:= [sI 16,cI 1 0,cI 1 1,cI 1 2,(.o 1002,.arr 28 3 y0),(.s 1,.ptr 1 0),(.s 2,.own 1002),(.o 1,.box 3)]
def q4:TC:= [sS 0,(.s 10,.v (.sl .str)),sI 11,sI 12,(.o 1003,.arr 9 1 .str),(.s 3,.own 1003)]
def q5:TC:= [(.s 1,.v (.sl y0)),cI 2 0,cI 2 1,cI 2 2,(.s 2,.ptr 2 0),(.o 2,.box 3)]
def q6:TC:= [sI 3,sI 4,sI 5,cI 2 0,cI 2 1,cI 2 2,(.s 2,.ptr 2 0),(.o 2,.box 3)]
def q7:TC:= [sS 0,sS 1,sI 2,sI 3,sI 10,(.o 31,.arr 9 1 .str),(.s 9,.own 31)]
def q8:TC:= [sI 3,sI 4,cI 2 0,cI 2 1,cI 2 2,(.s 2,.ptr 2 0),(.o 2,.box 3)]
def q9:TC:= [sI 4,sI 5,cI 1 0,cI 1 1,cI 1 2,(.s 1,.ptr 1 0),(.o 1,.box 3)]
def q10:TC:= [sS 0,sI 1,sI 7,(.o 21,.arr 9 1 .str),(.s 6,.own 21)]
def q11:TC:= [sI 4,(.s 8,.v (.sl (.int .u8))),sI 9,sI 10]
def q12:TC:= [sS 7,(.s 37,.v (.sl y0)),sI 38,sI 39]
def q13:TC:= [sS 0,(.s 7,.v (.sl .str)),sI 8,sI 9]
def q14:TC:= [sS 0,sI 4,sB 5,sI 9,sI 10]
abbrev LF:=List (FuncId×Sig)
def Lb:List (FuncId×Sig):= []
def A8:List (FuncId×Bq):= []
theorem Qm:GoodT Tryz.prog B Lb A8:=GoodT.nil _ _
noncomputable def L23:LF:=(23,⟨y1,.bool,Nt⟩)::Lb
theorem g23:GoodT Tryz.prog B L23 A8:=.hT Qm [] (by rfl) (by kernel_rfl) (by kernel_rfl)
noncomputable def L12:LF:=(12,⟨(.one y4),(.int .i64),It⟩)::L23
theorem g12:GoodT Tryz.prog B L12 A8:=.hT g23 [(2,.s [])] (by rfl) (by kernel_rfl) (by kernel_rfl)
noncomputable def L13:LF:=(13,⟨.nil,(.sl .str),Kz⟩)::L12
theorem g13:GoodT Tryz.prog B L13 A8:=.hT g12 [] (by rfl) (by kernel_rfl) (by kernel_rfl)
noncomputable def L24:LF:=(24,⟨y1,.bool,Ji⟩)::L13
theorem g24:GoodT Tryz.prog B L24 A8:=.hT g13 [] (by rfl) (by kernel_rfl) (by kernel_rfl)
noncomputable def L43:LF:=(43,⟨y1,(.int .i64),Hi⟩)::L24
theorem g43:GoodT Tryz.prog B L43 A8:=.hT g24 [] (by rfl) (by kernel_rfl) (by kernel_rfl)
noncomputable def L65:LF:=(65,⟨y1,.bool,LD⟩)::L43
theorem g65:GoodT Tryz.prog B L65 A8:=.hT g43 [] (by rfl) (by kernel_rfl) (by kernel_rfl)
noncomputable def L44:LF:=(44,⟨y3,(.int .i64),Gc⟩)::L65
theorem g44:GoodT Tryz.prog B L44 A8:=.hT g65 [(2,.s [sI 1]),(4,.j [sI 0,sI 1,sB 5] [] false)] (by rfl) (by kernel_rfl) (by kernel_rfl)
noncomputable def L25:LF:=(25,⟨y1,y4,EJ⟩)::L44
theorem g25:GoodT Tryz.prog B L25 A8:=.hT g44 [(2,.s [sI 0,cI 2 0,cI 2 1,cI 2 2,(.s 2,.ptr 2 0),(.o 2,.box 3)]),(14,.s q8),(16,.l q8 [0] false),(17,.s q8),(29,.s q6),(31,.l q6 [2] false),(32,.s q6)] (by rfl) (by kernel_rfl) (by kernel_rfl)
noncomputable def L26:LF:=(26,⟨y3,.str,Ei⟩)::L25
theorem g26:GoodT Tryz.prog B L26 A8:=.hT g25 [(4,.s [sS 5]),(8,.l [sI 0,sS 5,sI 6,sI 7] [0] false),(11,.s [sI 0,sS 5,sI 6,sI 7]),(15,.s [sI 0,sS 5,sI 6,sI 7])] (by rfl) (by kernel_rfl) (by kernel_rfl)
noncomputable def L14:LF:=(14,⟨y1,.str,Hh⟩)::L26
theorem g14:GoodT Tryz.prog B L14 A8:=.hT g26 [(2,.s [sI 0])] (by rfl) (by kernel_rfl) (by kernel_rfl)
noncomputable def s15:Sig:=⟨y1,.str,strconv_Itoa⟩
noncomputable def L15:LF:=(15,s15)::L14
theorem g15:GoodT Tryz.prog B L15 A8:=GoodT.addM g14 15 s15 (by rfl) fun _ _ _ hx hy=>Sb (by kernel_rfl) (g:=4) (by kernel_rfl) rfl Go.Proofs.Tryz.strconv_Itoa hx hy
noncomputable def L28:LF:=(28,⟨.nil,(.sl (.agg y2)),FN⟩)::L15
theorem g28:GoodT Tryz.prog B L28 A8:=.hT g15 [] (by rfl) (by kernel_rfl) (by kernel_rfl)
noncomputable def s33:Sig:=⟨y2,.str,FR⟩
noncomputable def L33:LF:=(33,s33)::L28
theorem g33:GoodT Tryz.prog B L33 A8:=GoodT.addM g28 33 s33 (by rfl) fun _ _ _ hx hy=>Sf (by kernel_rfl) Go.Proofs.Tryz.strings_Trim_laid hx hy
noncomputable def s58:Sig:=⟨(.one .str),(.tup (.cons (.int .i64) (.one .err))),IH⟩
noncomputable def L58:LF:=(58,s58)::L33
theorem g58:GoodT Tryz.prog B L58 A8:=GoodT.addM g33 58 s58 (by rfl) fun _ _ _ hx hy=>strconv_Atoi_ok (by kernel_rfl) (g0:=5) (g1:=6) rfl rfl Go.Proofs.Tryz.strconv_Atoi_ok Go.Proofs.Tryz.strconv_Atoi_syntax Go.Proofs.Tryz.strconv_Atoi_range hx hy
noncomputable def L36:LF:=(36,⟨(.one .str),(.tup y3),C6⟩)::L58
theorem g36:GoodT Tryz.prog B L36 A8:=.hT g58 [(2,.s [sS 0]),(10,.s [sS 0]),(20,.s [sI 4])] (by rfl) (by kernel_rfl) (by kernel_rfl)
noncomputable def KZ:LF:=(101,⟨y1,.bool,L9⟩)::L36
theorem Qk:GoodT Tryz.prog B KZ A8:=.hT g36 [] (by rfl) (by kernel_rfl) (by kernel_rfl)
noncomputable def La:LF:=(102,⟨y1,.str,Hg⟩)::KZ
theorem Ql:GoodT Tryz.prog B La A8:=.hT Qk [(4,.s [sI 0,sS 3]),(6,.l [sI 0,sS 3] [0] false),(7,.s [sI 0,sS 3])] (by rfl) (by kernel_rfl) (by kernel_rfl)
noncomputable def L88:LF:=(88,⟨y1,.str,LB⟩)::La
theorem g88:GoodT Tryz.prog B L88 A8:=.hT Ql [(2,.s [sI 0]),(12,.j [sI 0,sS 3] [] false)] (by rfl) (by kernel_rfl) (by kernel_rfl)
noncomputable def L70:LF:=(70,⟨(.one .str),(.tup y3),LA⟩)::L88
theorem g70:GoodT Tryz.prog B L70 A8:=.hT g88 [(4,.s [sS 0,sI 4,sB 5]),(8,.l q14 [0] true),(11,.s q14),(15,.j q14 [] true),(38,.j [sS 0,sI 4] [] false),(44,.s [sI 4])] (by rfl) (by kernel_rfl) (by kernel_rfl)
noncomputable def s89:Sig:=⟨y2,.bool,strings_ContainsAny⟩
noncomputable def L89:LF:=(89,s89)::L70
theorem g89:GoodT Tryz.prog B L89 A8:=GoodT.addM g70 89 s89 (by rfl) fun _ _ _ hx hy=>Sc (by kernel_rfl) Go.Proofs.Tryz.strings_ContainsAny hx hy
noncomputable def L71:LF:=(71,⟨(.cons .str (.cons .str y1)),(.int .i64),K0⟩)::L89
theorem g71:GoodT Tryz.prog B L71 A8:=.hT g89 [(2,.s [])] (by rfl) (by kernel_rfl) (by kernel_rfl)
noncomputable def L46:LF:=(46,⟨(.cons (.int .u8) (.one .str)),(.int .i64),GI⟩)::L71
theorem g46:GoodT Tryz.prog B L46 A8:=.hT g71 [(2,.s [sS 1])] (by rfl) (by kernel_rfl) (by kernel_rfl)
noncomputable def L29:LF:=(29,⟨(.cons (.agg y2) (.one (.sl .str))),(.int .i64),DC⟩)::L46
theorem g29:GoodT Tryz.prog B L29 A8:=.hT g46 [(2,.s [(.s 1,.v (.sl .str)),(.c 2 0,.v .str),(.c 2 1,.v .str),(.s 2,.ptr 2 0),(.o 2,.box 2)]),(10,.s []),(14,.l q2 [0] true),(17,.s q2),(21,.s q2)] (by rfl) (by kernel_rfl) (by kernel_rfl)
noncomputable def s30:Sig:=⟨(.cons (.sl .str) (.one .str)),.str,strings_Join⟩
noncomputable def L30:LF:=(30,s30)::L29
theorem g30:GoodT Tryz.prog B L30 A8:=GoodT.addM g29 30 s30 (by rfl) fun _ _ _ hx hy=>Se (by kernel_rfl) Go.Proofs.Tryz.strings_Join_none Go.Proofs.Tryz.strings_Join hx hy
noncomputable def L16:LF:=(16,⟨(.one y0),(.tup (.cons .str y1)),I6⟩)::L30
theorem g16:GoodT Tryz.prog B L16 A8:=.hT g30 [(2,.s [cI 1 0,cI 1 1,(.c 1 2,.v (.sl .str)),(.s 1,.ptr 1 0),(.o 1,.box 3)]),(12,.s [cI 1 0,cI 1 1,(.c 1 2,.v (.sl .str)),(.c 4 0,.v .str),(.c 4 1,.v .str),(.s 1,.ptr 1 0),(.s 4,.ptr 4 0),(.o 1,.box 3),(.o 4,.box 2)])] (by rfl) (by kernel_rfl) (by kernel_rfl)
noncomputable def L5:LF:=(5,⟨(.cons y4 (.one (.sl y0))),(.tup (.cons .str y1)),Fd⟩)::L16
theorem g5:GoodT Tryz.prog B L5 A8:=.hT g16 [(2,.s q5),(12,.s q5),(22,.s [sS 7]),(26,.l q12 [0] true),(29,.s q12),(33,.s q12),(39,.s [sS 7,sS 10,(.s 37,.v (.sl y0)),sI 38,sI 39]),(49,.s [sS 7])] (by rfl) (by kernel_rfl) (by kernel_rfl)
noncomputable def L59:LF:=(59,⟨(.one .str),(.int .i64),O1⟩)::L5
theorem g59:GoodT Tryz.prog B L59 A8:=.hT g5 [(2,.s []),(3,.s []),(4,.r),(5,.r),(6,.r)] (by rfl) (by kernel_rfl) (by kernel_rfl)
noncomputable def L64:LF:=(64,⟨(.one .str),(.tup (.cons (.int .i32) y1)),O2⟩)::L59
theorem g64:GoodT Tryz.prog B L64 A8:=.hT g59 [(4,.s [sS 0,sI 4]),(14,.s []),(15,.r),(16,.r)] (by rfl) (by kernel_rfl) (by kernel_rfl)
noncomputable def L41:LF:=(41,⟨(.one .str),(.tup (.cons (.int .i32) y1)),O0⟩)::L64
theorem g41:GoodT Tryz.prog B L41 A8:=.hT g64 [(2,.s [(.s 2,.v (.int .i32)),sI 3])] (by rfl) (by kernel_rfl) (by kernel_rfl)
noncomputable def L47:LF:=(47,⟨(.cons .str y1),(.sl .str),On⟩)::L41
theorem g47:GoodT Tryz.prog B L47 A8:=.hT g41 [(4,.j [sS 0,sI 1] [] false),(12,.s [sS 0,sI 1,(.o 21,.arr 9 1 .str),(.s 6,.own 21)]),(16,.l q10 [0] false),(17,.s q10),(23,.s q10),(31,.j [(.o 21,.arr 9 1 .str),(.s 6,.own 21)] [] false)] (by rfl) (by kernel_rfl) (by kernel_rfl)
noncomputable def s37:Sig:=⟨y2,(.int .i64),GR⟩
noncomputable def L37:LF:=(37,s37)::L47
theorem g37:GoodT Tryz.prog B L37 A8:=GoodT.addM g47 37 s37 (by rfl) fun _ _ _ hx hy=>Sd (by kernel_rfl) Go.Proofs.Tryz.strings_Count_one hx hy
noncomputable def s63:Sig:=⟨y2,(.int .i64),Gu⟩
noncomputable def L63:LF:=(63,s63)::L37
theorem g63:GoodT Tryz.prog B L63 A8:=GoodT.addM g37 63 s63 (by rfl) fun _ _ _ hx hy=>Qz (by kernel_rfl) Go.Proofs.Tryz.stringslite_Index_one hx hy
noncomputable def L39:LF:=(39,⟨y2,(.int .i64),KJ⟩)::L63
theorem g39:GoodT Tryz.prog B L39 A8:=.hT g63 [] (by rfl) (by kernel_rfl) (by kernel_rfl)
noncomputable def L31:LF:=(31,⟨(.cons .str (.cons .str y3)),(.sl .str),KK⟩)::L39
theorem g31:GoodT Tryz.prog B L31 A8:=.hT g39 [(2,.s [sS 0,sS 1,sI 2,sI 3]),(10,.s [sS 0,sS 1,sI 2,sI 3]),(18,.j [sS 0,sS 1,sI 2,sI 3] [] false),(32,.j [sS 0,sI 10,(.o 31,.arr 9 1 .str),(.s 9,.own 31)] [] false),(34,.l q7 [0] false),(35,.s q7),(44,.s [sS 0,sS 1,sI 2,sI 3,sI 10,sI 11,(.o 31,.arr 9 1 .str),(.s 9,.own 31)]),(58,.t [(3,.frz 62)])] (by rfl) (by kernel_rfl) (by kernel_rfl)
noncomputable def L17:LF:=(17,⟨y2,(.sl .str),GS⟩)::L31
theorem g17:GoodT Tryz.prog B L17 A8:=.hT g31 [] (by rfl) (by kernel_rfl) (by kernel_rfl)
noncomputable def L48:LF:=(48,⟨y2,(.tup (.cons .str (.cons .str (.one .bool)))),M1⟩)::L17
theorem g48:GoodT Tryz.prog B L48 A8:=.hT g17 [(2,.s [sS 0])] (by rfl) (by kernel_rfl) (by kernel_rfl)
noncomputable def L32:LF:=(32,⟨y2,(.tup (.cons .str (.cons .str (.one .bool)))),Om⟩)::L48
theorem g32:GoodT Tryz.prog B L32 A8:=.hT g48 [] (by rfl) (by kernel_rfl) (by kernel_rfl)
noncomputable def L18:LF:=(18,⟨(.one .str),(.sl .str),BQ⟩)::L32
theorem g18:GoodT Tryz.prog B L18 A8:=.hT g32 [(4,.g (.own 3 1003 9 1)),(4,.s [sS 0,(.o 1003,.arr 9 1 .str),(.s 3,.own 1003)]),(8,.l q4 [0] false),(11,.s q4),(15,.j q4 [] false),(25,.s [(.s 3,.v (.sl .str))]),(27,.t [(4,.frz 3)])] (by rfl) (by kernel_rfl) (by kernel_rfl)
noncomputable def L34:LF:=(34,⟨(.cons .str (.one (.sl .str))),(.int .i64),I9⟩)::L18
theorem g34:GoodT Tryz.prog B L34 A8:=.hT g18 [(2,.s []),(6,.l q13 [0] true),(9,.s q13),(13,.s q13)] (by rfl) (by kernel_rfl) (by kernel_rfl)
noncomputable def L56:LF:=(56,⟨(.one .str),(.tup (.cons (.int .i64) (.one .bool))),D4⟩)::L34
theorem g56:GoodT Tryz.prog B L56 A8:=.hT g34 [(4,.s [sI 4]),(8,.l q11 [0] true),(11,.s q11),(15,.s q11),(19,.s [sI 4,(.s 6,.v (.int .u8)),(.s 8,.v (.sl (.int .u8))),sI 9,sI 10])] (by rfl) (by kernel_rfl) (by kernel_rfl)
noncomputable def L57:LF:=(57,⟨(.one y4),(.tup y3),Fp⟩)::L56
theorem g57:GoodT Tryz.prog B L57 A8:=.hT g56 [(2,.s [cI 1 0,cI 1 1,cI 1 2,(.s 1,.ptr 1 0),(.o 1,.box 3)]),(12,.s [sI 4,cI 1 0,cI 1 1,cI 1 2,(.s 1,.ptr 1 0),(.o 1,.box 3)]),(16,.l q9 [0] false),(17,.s q9),(23,.s q9),(29,.s [sI 6])] (by rfl) (by kernel_rfl) (by kernel_rfl)
noncomputable def L35:LF:=(35,⟨(.one .str),(.tup y3),Fq⟩)::L57
theorem g35:GoodT Tryz.prog B L35 A8:=.hT g57 [(2,.s [sS 0]),(16,.s [sI 4,sI 6,sI 8])] (by rfl) (by kernel_rfl) (by kernel_rfl)
noncomputable def L19:LF:=(19,⟨(.one (.sl .str)),(.tup (.cons y4 y1)),Fe⟩)::L35
theorem g19:GoodT Tryz.prog B L19 A8:=.hT g35 [(2,.s [(.s 0,.v (.sl .str)),cI 2 0,cI 2 1,cI 2 2,(.s 2,.ptr 2 0),(.o 2,.box 3)]),(12,.s [(.s 0,.v (.sl .str)),sI 4,cI 2 0,cI 2 1,cI 2 2,(.s 2,.ptr 2 0),(.o 2,.box 3)]),(22,.s [(.s 0,.v (.sl .str)),sI 4,sI 5,cI 2 0,cI 2 1,cI 2 2,(.s 2,.ptr 2 0),(.o 2,.box 3)]),(32,.s [sI 4,sI 5,sI 7,cI 2 0,cI 2 1,cI 2 2,(.s 2,.ptr 2 0),(.o 2,.box 3)])] (by rfl) (by kernel_rfl) (by kernel_rfl)
noncomputable def L20:LF:=(20,⟨(.cons (.int .i64) (.one (.sl .str))),(.tup (.cons y0 y1)),Ea⟩)::L19
theorem g20:GoodT Tryz.prog B L20 A8:=.hT g19 [(2,.s [cI 4 0,cI 4 1,(.s 4,.ptr 4 0),(.c 4 2,.v .nsl),(.o 4,.box 3)]),(6,.l q1 [0] true),(9,.s q1),(13,.s q1)] (by rfl) (by kernel_rfl) (by kernel_rfl)
noncomputable def L6:LF:=(6,⟨(.one .str),(.tup (.cons y4 (.cons (.sl y0) y3))),DB⟩)::L20
theorem g6:GoodT Tryz.prog B L6 A8:=.hT g20 [(4,.s [sS 0,cI 2 0,cI 2 1,cI 2 2,cI 6 0,cI 6 1,cI 6 2,cI 7 0,cI 7 1,cI 7 2,(.s 2,.ptr 2 0),(.s 6,.ptr 6 0),(.s 7,.ptr 7 0),(.o 2,.box 3),(.o 6,.box 3),(.o 7,.box 3)]),(14,.g (.own 8 1008 28 3)),(16,.s [sB 9,cI 2 0,cI 2 1,cI 2 2,cI 6 0,cI 6 1,cI 6 2,cI 7 0,cI 7 1,cI 7 2,(.o 1008,.arr 28 3 y0),(.s 2,.ptr 2 0),(.s 6,.ptr 6 0),(.s 7,.ptr 7 0),(.s 8,.own 1008),(.o 2,.box 3),(.o 6,.box 3),(.o 7,.box 3)]),(20,.l q0 [0] true),(23,.s q0),(27,.j q0 [] true),(33,.s [sB 9,sI 10,(.s 12,.v (.sl .str)),(.s 20,.v (.sl .str)),sI 21,sI 22,cI 2 0,cI 2 1,cI 2 2,cI 6 0,cI 6 1,cI 6 2,cI 7 0,cI 7 1,cI 7 2,(.o 1008,.arr 28 3 y0),(.s 2,.ptr 2 0),(.s 6,.ptr 6 0),(.s 7,.ptr 7 0),(.s 8,.own 1008),(.o 2,.box 3),(.o 6,.box 3),(.o 7,.box 3)]),(43,.j [sB 9,sI 10,sI 13,(.s 20,.v (.sl .str)),sI 21,sI 22,cI 2 0,cI 2 1,cI 2 2,cI 6 0,cI 6 1,cI 6 2,cI 7 0,cI 7 1,cI 7 2,cI 14 0,cI 14 1,(.c 14 2,.v (.sl .str)),(.o 1008,.arr 28 3 y0),(.s 2,.ptr 2 0),(.s 6,.ptr 6 0),(.s 7,.ptr 7 0),(.s 8,.own 1008),(.s 14,.ptr 14 0),(.o 2,.box 3),(.o 6,.box 3),(.o 7,.box 3),(.o 14,.box 3)] [] false),(55,.s [sB 9,(.s 20,.v (.sl .str)),sI 21,sI 22,cI 2 0,cI 2 1,cI 2 2,cI 6 0,cI 6 1,cI 6 2,cI 7 0,cI 7 1,cI 7 2,cI 14 0,cI 14 1,(.c 14 2,.v (.sl .str)),(.o 1008,.arr 28 3 y0),(.s 2,.ptr 2 0),(.s 6,.ptr 6 0),(.s 7,.ptr 7 0),(.s 8,.own 1008),(.s 14,.ptr 14 0),(.o 2,.box 3),(.o 6,.box 3),(.o 7,.box 3),(.o 14,.box 3)]),(63,.j [(.s 20,.v (.sl .str)),sI 21,sI 22,cI 2 0,cI 2 1,cI 2 2,cI 6 0,cI 6 1,cI 6 2,cI 7 0,cI 7 1,cI 7 2,(.o 1008,.arr 28 3 y0),(.s 2,.ptr 2 0),(.s 6,.ptr 6 0),(.s 7,.ptr 7 0),(.s 8,.own 1008),(.o 2,.box 3),(.o 6,.box 3),(.o 7,.box 3)] [] false),(71,.s [cI 2 0,cI 2 1,cI 2 2,cI 7 0,cI 7 1,cI 7 2,(.o 1008,.arr 28 3 y0),(.s 2,.ptr 2 0),(.s 7,.ptr 7 0),(.s 8,.own 1008),(.o 2,.box 3),(.o 7,.box 3)])] (by rfl) (by kernel_rfl) (by kernel_rfl)
noncomputable def s7:Sig:=⟨.nil,.bool,HU⟩
noncomputable def L7:LF:=(7,s7)::L6
theorem g7:GoodT Tryz.prog B L7 A8:=.hT g6 [] (by rfl) (by kernel_rfl) (by kernel_rfl)
noncomputable def s3:Sig:=⟨.nil,.bool,JE⟩
noncomputable def L3:LF:=(3,s3)::L7
theorem g3:GoodT Tryz.prog B L3 A8:=.hT g7 [(6,.g (.own 2 1002 28 3)),(6,.s [cI 1 0,cI 1 1,cI 1 2,(.o 1002,.arr 28 3 y0),(.s 1,.ptr 1 0),(.s 2,.own 1002),(.o 1,.box 3)]),(10,.l q3 [0] false),(13,.s q3),(17,.s q3)] (by rfl) (by kernel_rfl) (by kernel_rfl)
end WB
