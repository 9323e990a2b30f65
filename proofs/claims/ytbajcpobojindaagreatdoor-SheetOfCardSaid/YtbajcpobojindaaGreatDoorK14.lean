/-
  OWN TEXTS, MERGED (wip/merge.py): PGo, Pta, Ptb, Ptc, Ptd. No condition of their own.
-/
import Derived.Test.YtbajcpobojindaaGreatDoorK10
import Derived.Test.YtbajcpobojindaaGreatDoorK8
import Derived.Test.YtbajcpobojindaaGreatDoorK13
import Derived.Test.YtbajcpobojindaaGreatDoorK11
set_option linter.unusedVariables false
set_option linter.unusedSimpArgs false
open Go.IntKind (i64 u64 u8 u32)
namespace WB
open Go Go.RowKit
set_option linter.unusedVariables false
noncomputable def MJ(a:Int):Option Int:=let x0:=a;(PS x0).bind fun x4=>let x5:=(!x4);if x5 then(some (-1:Int))else(let x7:=i64.wrap (x0-(-25567));Option.bind (if(7:Int)=0 then none else some (x7.tmod (7:Int))) fun x8=>some x8)
noncomputable def YY(s:(List (Int×Int×Int))×(List (Int×Int×Int))×Int×Int×Int×Int×Unit×Unit×Unit):Option (((List (Int×Int×Int))×(List (Int×Int×Int))×Int×Int×Int×Int×Unit×Unit×Unit)⊕((Int×Int×Unit×Unit×Unit)⊕Int)):=let x0:=s.1;let x10:=s.2.1;let x11:=s.2.2.1;let x12:=s.2.2.2.1;let c3_0:=s.2.2.2.2.1;let c3_1:=s.2.2.2.2.2.1;let x13:=(decide (x12<x11));if x13 then(Option.bind ((lAt x10 x12).map (fun y=>y)) fun x15=>(MJ x15.1).bind fun x20=>let x21:=(decide (x20<0));if x21 then(some (Sum.inr (Sum.inr (15:Int))))else(let x24:=(decide (x12>0));let x26:=(if x24=true then some ()else none);Option.bind (if x24=true then(x26.map (fun z=>x15.1)).map some else some none) fun x27=>let x28:=(if x24=true then some x0 else none);let x29:=(if x24=true then some x12 else none);Option.bind (if x24=true then((x29.bind (fun z=>some (z,(1:Int)))).map (fun u=>i64.wrap (u.1-u.2))).map some else some none) fun x30=>Option.bind (if x24=true then((x28.bind (fun z=>x30.map (fun u=>(z,u)))).bind (fun v=>(lAt v.1 v.2).map (fun y=>y))).map some else some none) fun x31=>Option.bind (if x24=true then(x31.map (fun z=>z)).map some else some none) fun x32=>Option.bind (if x24=true then(x32.map (fun z=>z.1)).map some else some none) fun x33=>Option.bind (if x24=true then((x27.bind (fun z=>x33.map (fun u=>(z,u)))).map (fun v=>(decide (v.1≤v.2)))).map some else some none) fun x34=>(if x24 then x34 else some false).bind fun x35=>if x35 then(some (Sum.inr (Sum.inr (8:Int))))else(let x39:=(decide (x15.2.1<0));let x41:=(if x39=false then some ()else none);Option.bind (if x39=false then(x41.map (fun z=>x15.2.1)).map some else some none) fun x42=>Option.bind (if x39=false then((x42.bind (fun z=>some (z,(1440:Int)))).map (fun u=>(decide (u.1>u.2)))).map some else some none) fun x43=>Option.bind (if x39 then some true else x43.map (fun z=>z)) fun x44=>let x46:=(if x44=false then some ()else none);Option.bind (if x44=false then(x46.map (fun z=>x15.2.2)).map some else some none) fun x47=>Option.bind (if x44=false then((x47.bind (fun z=>some (z,(0:Int)))).map (fun u=>(decide (u.1<u.2)))).map some else some none) fun x48=>Option.bind (if x44 then some true else x48.map (fun z=>z)) fun x49=>let x51:=(if x49=false then some ()else none);Option.bind (if x49=false then(x51.map (fun z=>x15.2.2)).map some else some none) fun x52=>let x53:=(if x49=false then some ()else none);Option.bind (if x49=false then(x53.map (fun z=>x15.2.1)).map some else some none) fun x54=>Option.bind (if x49=false then((x52.bind (fun z=>x54.map (fun u=>(z,u)))).map (fun v=>(decide (v.1>v.2)))).map some else some none) fun x55=>Option.bind (if x49 then some true else x55.map (fun z=>z)) fun x56=>if x56 then(some (Sum.inr (Sum.inr (2:Int))))else(let x57:=i64.wrap (x12+1);some (Sum.inl (x0,x10,x11,x57,c3_0,c3_1,(),(),()))))))else(some (Sum.inr (Sum.inl (c3_0,c3_1,(),(),()))))
noncomputable def J2(a:(List (Int×Int×Int))×(Int×Int)):Option Int:=let x0:=a.1;let x1:=a.2;let x8:=(x0.length:Int);let x9:=(decide (x8>4096));if x9 then(some (5:Int))else(let x11:=(x0.length:Int);Option.bind (iter YY (x0,x0,x11,0,x1.1,x1.2,(),(),())) fun o=>match o with|Sum.inl p477=>(let c3_0:=p477.1;let c3_1:=p477.2.1;let x60:=(decide (c3_0<0));let x62:=(if x60=false then some ()else none);Option.bind (if x60=false then(x62.map (fun z=>c3_0)).map some else some none) fun x63=>Option.bind (if x60=false then((x63.bind (fun z=>some (z,(1440:Int)))).map (fun u=>(decide (u.1>u.2)))).map some else some none) fun x64=>Option.bind (if x60 then some true else x64.map (fun z=>z)) fun x65=>let x67:=(if x65=false then some ()else none);Option.bind (if x65=false then(x67.map (fun z=>c3_1)).map some else some none) fun x68=>Option.bind (if x65=false then((x68.bind (fun z=>some (z,(0:Int)))).map (fun u=>(decide (u.1<u.2)))).map some else some none) fun x69=>Option.bind (if x65 then some true else x69.map (fun z=>z)) fun x70=>let x72:=(if x70=false then some ()else none);Option.bind (if x70=false then(x72.map (fun z=>c3_1)).map some else some none) fun x73=>Option.bind (if x70=false then((x73.bind (fun z=>some (z,(10080:Int)))).map (fun u=>(decide (u.1>u.2)))).map some else some none) fun x74=>Option.bind (if x70 then some true else x74.map (fun z=>z)) fun x75=>if x75 then(some (2:Int))else(some (0:Int)))|Sum.inr q478=>(some q478))
noncomputable def YW(s:(List (Int×Int×Int))×Int×Int×Int×Int×(List (Int×Int))×(List (Int×Int×Int))×List Int×Unit×Unit×Unit×Unit×Unit×Unit):Option (((List (Int×Int×Int))×Int×Int×Int×Int×(List (Int×Int))×(List (Int×Int×Int))×List Int×Unit×Unit×Unit×Unit×Unit×Unit)⊕(((List (Int×Int×Int))×List Int×Unit×Unit×Unit))):=let x15:=s.1;let x16:=s.2.1;let x17:=s.2.2.1;let c3_0:=s.2.2.2.1;let c3_1:=s.2.2.2.2.1;let l14:=s.2.2.2.2.2.1;let l1007:=s.2.2.2.2.2.2.1;let l1008:=s.2.2.2.2.2.2.2.1;let x18:=(decide (x17<x16));if x18 then(Option.bind ((lAt x15 x17).map (fun y=>y)) fun x19=>(MJ x19.1).bind fun x25=>let x26:=i64.wrap (x19.1-x25);let x32:=(min x19.2.1 c3_0);let x38:=(Bh (eqZ (.agg (.one (.int .i64)))) (Bv (.int .i64)) x26 l14).1;let x39:=i64.wrap (c3_1-x38);let x40:=(max x39 (0:Int));let x41:=(min x32 x40);let x44:=(Bh (eqZ (.agg (.one (.int .i64)))) (Bv (.int .i64)) x26 l14).1;let x46:=i64.wrap (x44+x32);let l14:=B0 (eqZ (.agg (.one (.int .i64)))) x26 ((Bh (eqZ (.agg (.one (.int .i64)))) (Bv (.int .i64)) x26 l14).1) l14;Option.bind (if(Bh (eqZ (.agg (.one (.int .i64)))) (Bv (.int .i64)) x26 l14).2=true then some (B0 (eqZ (.agg (.one (.int .i64)))) x26 x46 l14)else none) fun l14=>let x54:=i64.wrap (x19.2.1-x41);let l58:=([(x41,x54,x19.2.2)]:List (Int×Int×Int));Option.bind (if((l1007.length:Int)+(l58.length:Int))*24≤140737488355328∧(l1007.length:Int)+(l58.length:Int)≤4611686018427387904 then some (l1007++l58)else none) fun l1007=>let l62:=([x26]:List Int);Option.bind (if((l1008.length:Int)+(l62.length:Int))*8≤140737488355328∧(l1008.length:Int)+(l62.length:Int)≤4611686018427387904 then some (l1008++l62)else none) fun l1008=>let x64:=i64.wrap (x17+1);some (Sum.inl (x15,x16,x64,c3_0,c3_1,l14,l1007,l1008,(),(),(),(),(),())))else(some (Sum.inr (l1007,l1008,(),(),())))
noncomputable def J0(a:(List (Int×Int×Int))×(Int×Int)):Option ((List (Int×Int×Int))×List Int):=let x0:=a.1;let x1:=a.2;let x16:=(x0.length:Int);Option.bind (iter YW (x0,x16,(0:Int),x1.1,x1.2,([]:List (Int×Int)),([]:List (Int×Int×Int)),([]:List Int),(),(),(),(),(),())) fun o=>let l1007:=o.1;let l1008:=o.2.1;some (l1007,l1008)
noncomputable def O7(a:(Int×Int×Int)×(Int×Int×Int)):Option (Int×Int×Int):=let x0:=a.1;let x1:=a.2;let x9:=i64.wrap (x0.1+x1.1);let x14:=i64.wrap (x0.2.1+x1.2.1);let x19:=i64.wrap (x0.2.2+x1.2.2);some (x9,x14,x19)
noncomputable def YU(s:(List (Int×Int×Int))×(List (Int×Int×Int))×Int×Int×Int×Int×Int×Int×Int×Int×Int×Int×Unit×Unit×Unit×Unit×Unit×Unit×Unit):Option (((List (Int×Int×Int))×(List (Int×Int×Int))×Int×Int×Int×Int×Int×Int×Int×Int×Int×Int×Unit×Unit×Unit×Unit×Unit×Unit×Unit)⊕((Int×Int×Int×Int×Int×Int×Unit×Unit×Unit×Unit×Unit))):=let sq6:=s.2.2.2.2.2.2;let x10:=s.1;let x27:=s.2.1;let x28:=s.2.2.1;let x29:=s.2.2.2.1;let c5_0:=s.2.2.2.2.1;let c5_1:=s.2.2.2.2.2.1;let c6_0:=sq6.1;let c6_1:=sq6.2.1;let c6_2:=sq6.2.2.1;let c9_0:=sq6.2.2.2.1;let c9_1:=sq6.2.2.2.2.1;let c9_2:=sq6.2.2.2.2.2.1;let x30:=(decide (x29<x28));if x30 then(Option.bind (show Option (((List (Int×Int×Int))×(List (Int×Int×Int))×Int×Int×Int×Int×Int×Int×Int×Int×Int×Int×Unit×Unit×Unit×Unit×Unit×Unit×Unit))from(Option.bind ((lAt x27 x29).map (fun y=>y)) fun x32=>let x38:=(decide (x32.1<c5_0));let x40:=(if x38=false then some ()else none);Option.bind (if x38=false then(x40.map (fun z=>x32.1)).map some else some none) fun x41=>let x42:=(if x38=false then some ()else none);Option.bind (if x38=false then(x42.map (fun z=>c5_1)).map some else some none) fun x43=>Option.bind (if x38=false then((x41.bind (fun z=>x43.map (fun u=>(z,u)))).map (fun v=>(decide (v.1≥v.2)))).map some else some none) fun x44=>Option.bind (if x38 then some true else x44.map (fun z=>z)) fun x45=>if x45 then(some (x10,x27,x28,x29,c5_0,c5_1,c6_0,c6_1,c6_2,c9_0,c9_1,c9_2,(),(),(),(),(),(),()))else(Option.bind ((lAt x10 x29).map (fun y=>y)) fun x49=>Option.bind (O7 ((c9_0,c9_1,c9_2),x49)) fun x51=>some (x10,x27,x28,x29,c5_0,c5_1,c6_0,c6_1,c6_2,x51.1,x51.2.1,x51.2.2,(),(),(),(),(),(),())))) fun o=>let oq6:=o.2.2.2.2.2.2;let x10:=o.1;let x27:=o.2.1;let x28:=o.2.2.1;let x29:=o.2.2.2.1;let c5_0:=o.2.2.2.2.1;let c5_1:=o.2.2.2.2.2.1;let c6_0:=oq6.1;let c6_1:=oq6.2.1;let c6_2:=oq6.2.2.1;let c9_0:=oq6.2.2.2.1;let c9_1:=oq6.2.2.2.2.1;let c9_2:=oq6.2.2.2.2.2.1;let x52:=i64.wrap (x29+1);some (Sum.inl (x10,x27,x28,x52,c5_0,c5_1,c6_0,c6_1,c6_2,c9_0,c9_1,c9_2,(),(),(),(),(),(),())))else(some (Sum.inr (c6_0,c6_1,c6_2,c9_0,c9_1,c9_2,(),(),(),(),())))
noncomputable def LV(a:(List (Int×Int×Int))×(Int×Int)×(Int×Int)):Option ((Int×Int×Int)×Int):=let x0:=a.1;let x1:=a.2.1;let x2:=a.2.2;Option.bind (J2 (x0,(x1.1,x1.2))) fun x16=>let x18:=(x16 !=0);if x18 then(some (((0:Int),(0:Int),(0:Int)),x16))else(Option.bind (J0 (x0,(x1.1,x1.2))) fun x24=>let x28:=(x0.length:Int);Option.bind (iter YU (x24.1,x0,x28,0,x2.1,x2.2,0,0,0,0,0,0,(),(),(),(),(),(),())) fun o=>let c6_0:=o.1;let c6_1:=o.2.1;let c6_2:=o.2.2.1;let c9_0:=o.2.2.2.1;let c9_1:=o.2.2.2.2.1;let c9_2:=o.2.2.2.2.2.1;some ((c9_0,c9_1,c9_2),(0:Int)))
noncomputable def YV(s:List Int×(List (Int×Int×Int))×Int×Int×(List (Int×Int×Int))×Unit×Unit):Option ((List Int×(List (Int×Int×Int))×Int×Int×(List (Int×Int×Int))×Unit×Unit)⊕(((List (Int×Int×Int))×Unit×Unit))):=let x6:=s.1;let x20:=s.2.1;let x21:=s.2.2.1;let x22:=s.2.2.2.1;let l1007:=s.2.2.2.2.1;let x23:=(decide (x22<x21));if x23 then(Option.bind (show Option ((List Int×(List (Int×Int×Int))×Int×Int×(List (Int×Int×Int))×Unit×Unit))from(Option.bind ((lAt x20 x22).map (fun y=>y)) fun x25=>let x28:=(decide (x22>0));let x30:=(if x28=true then some x6 else none);let x31:=(if x28=true then some x22 else none);Option.bind (if x28=true then((x30.bind (fun z=>x31.map (fun u=>(z,u)))).bind (fun v=>(lAt v.1 v.2).map (fun y=>y))).map some else some none) fun x32=>Option.bind (if x28=true then(x32.map (fun z=>z)).map some else some none) fun x33=>let x34:=(if x28=true then some x6 else none);let x35:=(if x28=true then some x22 else none);Option.bind (if x28=true then((x35.bind (fun z=>some (z,(1:Int)))).map (fun u=>i64.wrap (u.1-u.2))).map some else some none) fun x36=>Option.bind (if x28=true then((x34.bind (fun z=>x36.map (fun u=>(z,u)))).bind (fun v=>(lAt v.1 v.2).map (fun y=>y))).map some else some none) fun x37=>Option.bind (if x28=true then(x37.map (fun z=>z)).map some else some none) fun x38=>Option.bind (if x28=true then((x33.bind (fun z=>x38.map (fun u=>(z,u)))).map (fun v=>(v.1==v.2))).map some else some none) fun x39=>(if x28 then x39 else some false).bind fun x40=>if x40 then(let x43:=(l1007.length:Int);let x44:=i64.wrap (x43-1);let x47:=(l1007.length:Int);let x48:=i64.wrap (x47-1);Option.bind (if 0≤x48∧x48<(l1007.length:Int)then some x48.toNat else none) fun x49=>Option.bind ((l1007[x49]?).map (fun y=>y)) fun x50=>Option.bind (O7 (x50,(x25.1,x25.2.1,x25.2.2))) fun x52=>Option.bind (if 0≤x44∧x44<(l1007.length:Int)then some x44.toNat else none) fun x53=>Option.bind ((l1007[x53]?).map (fun el285=>l1007.set x53 (x52.1,x52.2.1,x52.2.2))) fun l1007=>some (x6,x20,x21,x22,l1007,(),()))else(let l56:=([(x25.1,x25.2.1,x25.2.2)]:List (Int×Int×Int));Option.bind (if((l1007.length:Int)+(l56.length:Int))*24≤140737488355328∧(l1007.length:Int)+(l56.length:Int)≤4611686018427387904 then some (l1007++l56)else none) fun l1007=>some (x6,x20,x21,x22,l1007,(),())))) fun o=>let x6:=o.1;let x20:=o.2.1;let x21:=o.2.2.1;let x22:=o.2.2.2.1;let l1007:=o.2.2.2.2.1;let x58:=i64.wrap (x22+1);some (Sum.inl (x6,x20,x21,x58,l1007,(),())))else(some (Sum.inr (l1007,(),())))
noncomputable def LW(a:(List (Int×Int×Int))×(Int×Int)):Option (List (Int×Int×Int)):=let x0:=a.1;let x1:=a.2;Option.bind (J2 (x0,(x1.1,x1.2))) fun x12=>let x13:=(x12 !=0);if x13 then(some ([]:List (Int×Int×Int)))else(Option.bind (J0 (x0,(x1.1,x1.2))) fun x17=>let x21:=(x17.1.length:Int);Option.bind (iter YV (x17.2,x17.1,x21,(0:Int),([]:List (Int×Int×Int)),(),())) fun o=>let l1007:=o.1;some l1007)
noncomputable def Xn(s:Int×(List (Int×Int×Int))×Unit×Unit):Option ((Int×(List (Int×Int×Int))×Unit×Unit)⊕(((List (Int×Int×Int))×Unit×Unit))):=let x2:=s.1;let l1001:=s.2.1;let x7:=(decide (x2<19728));if x7 then(let l13:=([(x2,(540:Int),(0:Int))]:List (Int×Int×Int));Option.bind (if((l1001.length:Int)+(l13.length:Int))*24≤140737488355328∧(l1001.length:Int)+(l13.length:Int)≤4611686018427387904 then some (l1001++l13)else none) fun l1001=>let x9:=i64.wrap (x2+1);some (Sum.inl (x9,l1001,(),())))else(some (Sum.inr (l1001,(),())))
noncomputable def KU(a:Unit):Option Bool:=Option.bind (iter Xn ((19723:Int),([]:List (Int×Int×Int)),(),())) fun o=>let l1001:=o.1;Option.bind (LV (l1001,((480:Int),(2280:Int)),((0:Int),(30000:Int)))) fun x19=>Option.bind (LW (l1001,((480:Int),(2280:Int)))) fun x24=>let x26:=(x19.2==0);let x28:=(if x26=true then some (x19.1.1,x19.1.2.1,x19.1.2.2)else none);let x29:=(if x26=true then some ((2280:Int),(420:Int),(0:Int))else none);Option.bind (if x26=true then((x28.bind (fun z=>x29.map (fun u=>(z,u)))).map (fun v=>((v.1.1==v.2.1)&&((v.1.2.1==v.2.2.1)&&(v.1.2.2==v.2.2.2))))).map some else some none) fun x30=>(if x26 then x30 else some false).bind fun x31=>let x33:=(if x31=true then some x24 else none);Option.bind (if x31=true then(x33.map (fun z=>(z.length:Int))).map some else some none) fun x34=>Option.bind (if x31=true then((x34.bind (fun z=>some (z,(1:Int)))).map (fun u=>(u.1==u.2))).map some else some none) fun x35=>(if x31 then x35 else some false).bind fun x36=>let x38:=(if x36=true then some x24 else none);Option.bind (if x36=true then((x38.bind (fun z=>some (z,(0:Int)))).bind (fun u=>(lAt u.1 u.2).map (fun y=>y))).map some else some none) fun x39=>Option.bind (if x36=true then(x39.map (fun z=>z)).map some else some none) fun x40=>let x41:=(if x36=true then some (x19.1.1,x19.1.2.1,x19.1.2.2)else none);Option.bind (if x36=true then((x40.bind (fun z=>x41.map (fun u=>(z,u)))).map (fun v=>((v.1.1==v.2.1)&&((v.1.2.1==v.2.2.1)&&(v.1.2.2==v.2.2.2))))).map some else some none) fun x42=>(if x36 then x42 else some false).bind fun x43=>some x43
noncomputable def OG(a:(Int×Int×Int×Int×Int×List UInt8×Int×List UInt8)×Int):Option Bool:=let x0:=a.1;let x1:=a.2;let x7:=(x0.1==x1);some x7
noncomputable def J3(s:(List (Int×Int×Int×Int×Int×List UInt8×Int×List UInt8))×Int×Int×Int×Unit):Option (((List (Int×Int×Int×Int×Int×List UInt8×Int×List UInt8))×Int×Int×Int×Unit)⊕(Unit⊕Int)):=let x0:=s.1;let x1:=s.2.1;let x7:=s.2.2.1;let x8:=s.2.2.2.1;let x9:=(decide (x8<x7));if x9 then(Option.bind ((lAt x0 x8).map (fun y=>y)) fun x14=>(OG (x14,x1)).bind fun x16=>if x16 then(some (Sum.inr (Sum.inr x8)))else(let x18:=i64.wrap (x8+1);some (Sum.inl (x0,x1,x7,x18,()))))else(some (Sum.inr (Sum.inl (()))))
noncomputable def OA(a:(List (Int×Int×Int×Int×Int×List UInt8×Int×List UInt8))×Int):Option Int:=let x0:=a.1;let x1:=a.2;let x7:=(x0.length:Int);Option.bind (iter J3 (x0,x1,x7,0,())) fun o=>match o with|Sum.inl p1=>(some (-1:Int))|Sum.inr q2=>(some q2)
noncomputable def Md(a:((List (Int×Int×Int×Int×Int×List UInt8×Int×List UInt8)))×Int):Option Int:=let x0:=a.1;let x1:=a.2;let x6:=(x1==0);if x6 then(some (-1:Int))else((OA (x0,x1)).bind fun x10=>some x10)
noncomputable def J8(s:Int×(List (Int×Int×Int×Int×Int×List UInt8×Int×List UInt8))×Int×Int×Unit):Option ((Int×(List (Int×Int×Int×Int×Int×List UInt8×Int×List UInt8))×Int×Int×Unit)⊕(Unit⊕Bool)):=let x1:=s.1;let x7:=s.2.1;let x8:=s.2.2.1;let x9:=s.2.2.2.1;let x10:=(decide (x9<x8));if x10 then(Option.bind ((lAt x7 x9).map (fun y=>y)) fun x11=>let x15:=(x11.2.2.1==18);let x17:=(if x15=true then some ()else none);Option.bind (if x15=true then(x17.map (fun z=>x11.2.2.2.2.2.2.1)).map some else some none) fun x18=>let x19:=(if x15=true then some x1 else none);Option.bind (if x15=true then((x18.bind (fun z=>x19.map (fun u=>(z,u)))).map (fun v=>(v.1==v.2))).map some else some none) fun x20=>(if x15 then x20 else some false).bind fun x21=>if x21 then(some (Sum.inr (Sum.inr true)))else(let x22:=i64.wrap (x9+1);some (Sum.inl (x1,x7,x8,x22,()))))else(some (Sum.inr (Sum.inl (()))))
noncomputable def Mf(a:(List (Int×Int×Int×Int×Int×List UInt8×Int×List UInt8))×Int):Option Bool:=let x0:=a.1;let x1:=a.2;let x8:=(x0.length:Int);Option.bind (iter J8 (x1,x0,x8,0,())) fun o=>match o with|Sum.inl p69=>(some false)|Sum.inr q70=>(some q70)
noncomputable def J6(a:((List (Int×Int×Int×Int×Int×List UInt8×Int×List UInt8)))×(Int×Int×Int×Int×Int×List UInt8×Int×List UInt8)):Option Int:=let x0:=a.1;let x1:=a.2;let x8:=(x1.2.2.1 !=18);if x8 then(some (0:Int))else(let x14:=(x0.length:Int);let x15:=(decide (x1.2.2.2.2.2.2.1>x14));if x15 then(some (6:Int))else(let x21:=i64.wrap (x1.2.2.2.2.2.2.1-1);Option.bind ((lAt x0 x21).map (fun y=>y)) fun x22=>let x25:=(x22.2.2.1==18);if x25 then(some (11:Int))else((Mf (x0,x1.2.2.2.2.2.2.1)).bind fun x31=>if x31 then(some (18:Int))else(some (0:Int)))))
noncomputable def J5(a:((List (Int×Int×Int×Int×Int×List UInt8×Int×List UInt8)))×(Int×Int×Int×Int×Int×List UInt8×Int×List UInt8)):Option (((List (Int×Int×Int×Int×Int×List UInt8×Int×List UInt8)))×Int):=let x0:=a.1;let x1:=a.2;let x12:=(x0.length:Int);let x14:=(decide (x12≥4096));if x14 then(some (x0,(5:Int)))else((Bb (x1.1,x1.2.1,x1.2.2.1,x1.2.2.2.1,x1.2.2.2.2.1,x1.2.2.2.2.2.1,x1.2.2.2.2.2.2.1,x1.2.2.2.2.2.2.2)).bind fun x17=>let x19:=(x17 !=0);if x19 then(some (x0,x17))else((Md (x0,x1.1)).bind fun x25=>let x26:=(decide (x25≥0));if x26 then(some (x0,(7:Int)))else(Option.bind (J6 (x0,(x1.1,x1.2.1,x1.2.2.1,x1.2.2.2.1,x1.2.2.2.2.1,x1.2.2.2.2.2.1,x1.2.2.2.2.2.2.1,x1.2.2.2.2.2.2.2))) fun x30=>let x32:=(x30 !=0);if x32 then(some (x0,x30))else(let x36:=i64.wrap (x12+1);Option.bind (if 0≤x36∧x36≤x36∧x36*72≤140737488355328∧x36≤4611686018427387904 then some (List.replicate x36.toNat ((0:Int),(0:Int),(0:Int),(0:Int),(0:Int),([]:List UInt8),(0:Int),([]:List UInt8)))else none) fun l37=>let x42:=((min x0.length l37.length:Nat):Int);let l37:=x0.take (min x0.length l37.length)++l37.drop (min x0.length l37.length);Option.bind (if 0≤x42∧x42<(l37.length:Int)then some x42.toNat else none) fun x44=>Option.bind ((l37[x44]?).map (fun el3=>l37.set x44 (x1.1,x1.2.1,x1.2.2.1,x1.2.2.2.1,x1.2.2.2.2.1,x1.2.2.2.2.2.1,x1.2.2.2.2.2.2.1,x1.2.2.2.2.2.2.2))) fun l37=>some (l37,(0:Int))))))
noncomputable def OF(a:((List (Int×Int×Int×Int×Int×List UInt8×Int×List UInt8)))):Option Int:=let x0:=a;let x5:=(x0.length:Int);some x5
noncomputable def OE(a:((List (Int×Int×Int×Int×Int×List UInt8×Int×List UInt8)))×Int):Option ((List (Int×Int×Int×Int×Int×List UInt8×Int×List UInt8))):=let x0:=a.1;let x1:=a.2;let x8:=(x0.length:Int);let x9:=(min x1 x8);let x10:=(max (0:Int) x9);Option.bind (if x10=x10 then Be x0 0 x10 else none) fun x15=>some x15
noncomputable def H2(s:(List (Int×Int×Int×Int×Int×List UInt8×Int×List UInt8))×Int×(List (Int×Int×Int×Int×Int×List UInt8×Int×List UInt8))×Unit×Unit×Unit×Unit×Unit×Unit):Option (((List (Int×Int×Int×Int×Int×List UInt8×Int×List UInt8))×Int×(List (Int×Int×Int×Int×Int×List UInt8×Int×List UInt8))×Unit×Unit×Unit×Unit×Unit×Unit)⊕(((List (Int×Int×Int×Int×Int×List UInt8×Int×List UInt8))×Unit×Unit×Unit×Unit×Unit×Unit))):=let x0:=s.1;let x4:=s.2.1;let c3_0:=s.2.2.1;let x10:=(x0.length:Int);let x11:=(decide (x4<x10));if x11 then(Option.bind (show Option (((List (Int×Int×Int×Int×Int×List UInt8×Int×List UInt8))×Int×(List (Int×Int×Int×Int×Int×List UInt8×Int×List UInt8))×Unit×Unit×Unit×Unit×Unit×Unit))from(Option.bind ((lAt x0 x4).map (fun y=>y)) fun x18=>(J5 (c3_0,x18)).bind fun x20=>let x24:=(x20.2==0);if x24 then(some (x0,x4,x20.1,(),(),(),(),(),()))else(some (x0,x4,c3_0,(),(),(),(),(),())))) fun o=>let x0:=o.1;let x4:=o.2.1;let c3_0:=o.2.2.1;let x13:=i64.wrap (x4+1);some (Sum.inl (x0,x13,c3_0,(),(),(),(),(),())))else(some (Sum.inr (c3_0,(),(),(),(),(),())))
noncomputable def KW(a:(List (Int×Int×Int×Int×Int×List UInt8×Int×List UInt8))):Option ((List (Int×Int×Int×Int×Int×List UInt8×Int×List UInt8))):=let x0:=a;Option.bind (iter H2 (x0,(0:Int),([]:List (Int×Int×Int×Int×Int×List UInt8×Int×List UInt8)),(),(),(),(),(),())) fun o=>let c3_0:=o.1;(OF c3_0).bind fun x28=>(OE (c3_0,x28)).bind fun x29=>some x29
noncomputable def HX(s:(List (Int×Int×Int×Int×Int×List UInt8×Int×List UInt8))×Int×Int×List Bool×Unit×Unit):Option (((List (Int×Int×Int×Int×Int×List UInt8×Int×List UInt8))×Int×Int×List Bool×Unit×Unit)⊕((List Bool×Unit×Unit))):=let x11:=s.1;let x12:=s.2.1;let x13:=s.2.2.1;let l9:=s.2.2.2.1;let x14:=(decide (x13<x12));if x14 then(Option.bind (show Option (((List (Int×Int×Int×Int×Int×List UInt8×Int×List UInt8))×Int×Int×List Bool×Unit×Unit))from(Option.bind ((lAt x11 x13).map (fun y=>y)) fun x15=>let x19:=(x15.2.2.1==18);let x21:=(if x19=true then some ()else none);Option.bind (if x19=true then(x21.map (fun z=>x15.2.2.2.2.2.2.1)).map some else some none) fun x22=>Option.bind (if x19=true then((x22.bind (fun z=>some (z,(1:Int)))).map (fun u=>(decide (u.1≥u.2)))).map some else some none) fun x23=>(if x19 then x23 else some false).bind fun x24=>let x26:=(if x24=true then some ()else none);Option.bind (if x24=true then(x26.map (fun z=>x15.2.2.2.2.2.2.1)).map some else some none) fun x27=>let x28:=(if x24=true then some ()else none);Option.bind (if x24=true then(x28.map (fun z=>(l9.length:Int))).map some else some none) fun x29=>Option.bind (if x24=true then((x27.bind (fun z=>x29.map (fun u=>(z,u)))).map (fun v=>(decide (v.1≤v.2)))).map some else some none) fun x30=>(if x24 then x30 else some false).bind fun x31=>if x31 then(let x35:=i64.wrap (x15.2.2.2.2.2.2.1-1);Option.bind (if 0≤x35∧x35<(l9.length:Int)then some x35.toNat else none) fun x36=>Option.bind ((l9[x36]?).map (fun el169=>l9.set x36 true)) fun l9=>some (x11,x12,x13,l9,(),()))else(some (x11,x12,x13,l9,(),())))) fun o=>let x11:=o.1;let x12:=o.2.1;let x13:=o.2.2.1;let l9:=o.2.2.2.1;let x37:=i64.wrap (x13+1);some (Sum.inl (x11,x12,x37,l9,(),())))else(some (Sum.inr (l9,(),())))
noncomputable def Me(a:((List (Int×Int×Int×Int×Int×List UInt8×Int×List UInt8)))):Option (List Bool):=let x0:=a;let x8:=(x0.length:Int);Option.bind (if 0≤x8∧x8≤x8∧x8*1≤140737488355328∧x8≤4611686018427387904 then some (List.replicate x8.toNat false)else none) fun l9=>let x12:=(x0.length:Int);Option.bind (iter HX (x0,x12,0,l9,(),())) fun o=>let l9:=o.1;some l9
noncomputable def J7(a:(Int×Int×Int×Int×Int×List UInt8×Int×List UInt8)×Int×Int):Option Bool:=let x0:=a.1;let x1:=a.2.1;let x2:=a.2.2;let x8:=(x0.2.1==x1);let x10:=(if x8=true then some ()else none);Option.bind (if x8=true then(x10.map (fun z=>x0.2.2.1)).map some else some none) fun x11=>let x12:=(if x8=true then some x2 else none);Option.bind (if x8=true then((x11.bind (fun z=>x12.map (fun u=>(z,u)))).map (fun v=>(v.1==v.2))).map some else some none) fun x13=>(if x8 then x13 else some false).bind fun x14=>some x14
noncomputable def HY(s:(Int×Int)×List Bool×(List (Int×Int×Int×Int×Int×List UInt8×Int×List UInt8))×Int×Int×(List (Int×Int×Int×Int×Int×Int×List UInt8×Int×List UInt8))×Unit×Unit):Option (((Int×Int)×List Bool×(List (Int×Int×Int×Int×Int×List UInt8×Int×List UInt8))×Int×Int×(List (Int×Int×Int×Int×Int×Int×List UInt8×Int×List UInt8))×Unit×Unit)⊕(((List (Int×Int×Int×Int×Int×Int×List UInt8×Int×List UInt8))×Unit×Unit))):=let x1:=s.1;let x6:=s.2.1;let x12:=s.2.2.1;let x13:=s.2.2.2.1;let x14:=s.2.2.2.2.1;let l1005:=s.2.2.2.2.2.1;let x15:=(decide (x14<x13));if x15 then(Option.bind (show Option (((Int×Int)×List Bool×(List (Int×Int×Int×Int×Int×List UInt8×Int×List UInt8))×Int×Int×(List (Int×Int×Int×Int×Int×Int×List UInt8×Int×List UInt8))×Unit×Unit))from(Option.bind ((lAt x12 x14).map (fun y=>y)) fun x17=>Option.bind ((lAt x6 x14).map (fun y=>y)) fun x21=>let x23:=(!x21);let x25:=(if x23=true then some x1 else none);let x26:=(if x23=true then some (x17.1,x17.2.1,x17.2.2.1,x17.2.2.2.1,x17.2.2.2.2.1,x17.2.2.2.2.2.1,x17.2.2.2.2.2.2.1,x17.2.2.2.2.2.2.2)else none);Option.bind (if x23=true then(((x26.bind (fun z=>x25.map (fun u=>(z,u)))).map (fun v=>(v.1,v.2.1,v.2.2))).bind (fun w=>J7 w)).map some else some none) fun x27=>(if x23 then x27 else some false).bind fun x28=>if x28 then(let x31:=i64.wrap (x14+1);let l34:=([(x31,x17.1,x17.2.1,x17.2.2.1,x17.2.2.2.1,x17.2.2.2.2.1,x17.2.2.2.2.2.1,x17.2.2.2.2.2.2.1,x17.2.2.2.2.2.2.2)]:List (Int×Int×Int×Int×Int×Int×List UInt8×Int×List UInt8));Option.bind (if((l1005.length:Int)+(l34.length:Int))*80≤140737488355328∧(l1005.length:Int)+(l34.length:Int)≤4611686018427387904 then some (l1005++l34)else none) fun l1005=>some (x1,x6,x12,x13,x14,l1005,(),()))else(some (x1,x6,x12,x13,x14,l1005,(),())))) fun o=>let x1:=o.1;let x6:=o.2.1;let x12:=o.2.2.1;let x13:=o.2.2.2.1;let x14:=o.2.2.2.2.1;let l1005:=o.2.2.2.2.2.1;let x36:=i64.wrap (x14+1);some (Sum.inl (x1,x6,x12,x13,x36,l1005,(),())))else(some (Sum.inr (l1005,(),())))
noncomputable def OH(a:((List (Int×Int×Int×Int×Int×List UInt8×Int×List UInt8)))×(Int×Int)):Option (List (Int×Int×Int×Int×Int×Int×List UInt8×Int×List UInt8)):=let x0:=a.1;let x1:=a.2;(Me x0).bind fun x10=>let x13:=(x0.length:Int);Option.bind (iter HY (x1,x10,x0,x13,(0:Int),([]:List (Int×Int×Int×Int×Int×Int×List UInt8×Int×List UInt8)),(),())) fun o=>let l1005:=o.1;some l1005
noncomputable def HW(a:((List (Int×Int×Int×Int×Int×List UInt8×Int×List UInt8)))×Int×Int):Option (List (Int×Int×Int×Int×Int×Int×List UInt8×Int×List UInt8)):=let x0:=a.1;let x1:=a.2.1;let x2:=a.2.2;Option.bind (OH (x0,(x1,x2))) fun x9=>some x9
noncomputable def J1(a:(Int×Int×Int×Int×Int×List UInt8×Int×List UInt8)):Option Int:=let x0:=a;(JA x0.2.2.2.2.2.2.2).bind fun x8=>let x12:=(!x8.2);if x12 then(some (0:Int))else(some x8.1)
noncomputable def Lh(a:(List (Int×(Int×Int×Int)))):Option (((List (Int×(Int×Int×Int))))):=let x0:=a;some x0
noncomputable def HO(s:(List (Int×(Int×Int×Int)))×List Int×Int×Int×(List (Int×Int×Int))×Unit×Unit):Option (((List (Int×(Int×Int×Int)))×List Int×Int×Int×(List (Int×Int×Int))×Unit×Unit)⊕(((List (Int×Int×Int))×Unit×Unit)⊕((List (Int×Int×Int))×Int))):=let x12:=s.1;let x80:=s.2.1;let x81:=s.2.2.1;let x82:=s.2.2.2.1;let l1016:=s.2.2.2.2.1;let x83:=(decide (x82<x81));if x83 then(Option.bind ((lAt x80 x82).map (fun y=>y)) fun x84=>let x88:=(Bh (eqZ (.int .i64)) (Bv (.agg (.cons (.int .i64) (.cons (.int .i64) (.one (.int .i64)))))) x84 x12).1;let x90:=(decide (x88.2.1>1440));if x90 then(some (Sum.inr (Sum.inr (([]:List (Int×Int×Int)),(2:Int)))))else(let x94:=(Bh (eqZ (.int .i64)) (Bv (.agg (.cons (.int .i64) (.cons (.int .i64) (.one (.int .i64)))))) x84 x12).1;let l95:=([x94]:List (Int×Int×Int));Option.bind (if((l1016.length:Int)+(l95.length:Int))*24≤140737488355328∧(l1016.length:Int)+(l95.length:Int)≤4611686018427387904 then some (l1016++l95)else none) fun l1016=>let x97:=i64.wrap (x82+1);some (Sum.inl (x12,x80,x81,x97,l1016,(),()))))else(some (Sum.inr (Sum.inl (l1016,(),()))))
noncomputable def Jz(x:(Int×List UInt8)×(Int×Int×Int×Int×Int×List UInt8×Int×List UInt8))(s:(List (Int×(Int×Int×Int)))×Unit×Unit):Option (((List (Int×(Int×Int×Int)))×Unit×Unit)⊕(((List (Int×(Int×Int×Int)))×Unit×Unit))):=let l50:=s.1;let x61:=(Bh (eqZ (.int .i64)) (Bv (.agg (.cons (.int .i64) (.cons (.int .i64) (.one (.int .i64)))))) x.1.1 l50).1;let x71:=i64.wrap (x61.2.1+x.2.2.2.2.2.2.2.1);(J1 (x.2.1,x.2.2.1,x.2.2.2.1,x.2.2.2.2.1,x.2.2.2.2.2.1,x.2.2.2.2.2.2.1,x.2.2.2.2.2.2.2.1,x.2.2.2.2.2.2.2.2)).bind fun x75=>let x76:=i64.wrap (x61.2.2+x75);let l50:=B0 (eqZ (.int .i64)) x.1.1 (x.1.1,x71,x76) l50;some (Sum.inl (l50,(),()))
noncomputable def O8(s:(List (Int×(Int×Int×Int)))×Unit×Unit):Option (((List (Int×(Int×Int×Int)))×Unit×Unit)⊕(((List (Int×(Int×Int×Int)))×Unit×Unit))):=let l50:=s.1;some (Sum.inr (l50,(),()))
noncomputable def HP(s:(List (Int×Int×Int×Int×Int×Int×List UInt8×Int×List UInt8))×Int×Int×Int×Int×(List ((Int×List UInt8)×(Int×Int×Int×Int×Int×List UInt8×Int×List UInt8)))×Unit×Unit×Unit×Unit):Option (((List (Int×Int×Int×Int×Int×Int×List UInt8×Int×List UInt8))×Int×Int×Int×Int×(List ((Int×List UInt8)×(Int×Int×Int×Int×Int×List UInt8×Int×List UInt8)))×Unit×Unit×Unit×Unit)⊕(((List ((Int×List UInt8)×(Int×Int×Int×Int×Int×List UInt8×Int×List UInt8)))×Unit×Unit))):=let x22:=s.1;let x23:=s.2.1;let x24:=s.2.2.1;let c5_0:=s.2.2.2.1;let c5_1:=s.2.2.2.2.1;let l19:=s.2.2.2.2.2.1;let x25:=(decide (x24<x23));if x25 then(Option.bind (show Option (((List (Int×Int×Int×Int×Int×Int×List UInt8×Int×List UInt8))×Int×Int×Int×Int×(List ((Int×List UInt8)×(Int×Int×Int×Int×Int×List UInt8×Int×List UInt8)))×Unit×Unit×Unit×Unit))from(Option.bind ((lAt x22 x24).map (fun y=>y)) fun x26=>let x34:=(decide (x26.2.2.2.2.1≥c5_0));let x36:=(if x34=true then some x26.2.2.2.2.1 else none);let x37:=(if x34=true then some ()else none);Option.bind (if x34=true then(x37.map (fun z=>c5_1)).map some else some none) fun x38=>Option.bind (if x34=true then((x36.bind (fun z=>x38.map (fun u=>(z,u)))).map (fun v=>(decide (v.1<v.2)))).map some else some none) fun x39=>(if x34 then x39 else some false).bind fun x40=>if x40 then(let l19:=B0 (eqZ (.agg (.cons (.int .i64) (.one .str)))) (x26.2.2.2.2.1,x26.2.2.2.2.2.2.1) (x26.2.1,x26.2.2.1,x26.2.2.2.1,x26.2.2.2.2.1,x26.2.2.2.2.2.1,x26.2.2.2.2.2.2.1,x26.2.2.2.2.2.2.2.1,x26.2.2.2.2.2.2.2.2) l19;some (x22,x23,x24,c5_0,c5_1,l19,(),(),(),()))else(some (x22,x23,x24,c5_0,c5_1,l19,(),(),(),())))) fun o=>let x22:=o.1;let x23:=o.2.1;let x24:=o.2.2.1;let c5_0:=o.2.2.2.1;let c5_1:=o.2.2.2.2.1;let l19:=o.2.2.2.2.2.1;let x49:=i64.wrap (x24+1);some (Sum.inl (x22,x23,x49,c5_0,c5_1,l19,(),(),(),())))else(some (Sum.inr (l19,(),())))
noncomputable def Jy(a:((List (Int×Int×Int×Int×Int×List UInt8×Int×List UInt8)))×Int×(Int×Int)):Option ((List (Int×Int×Int))×Int):=let x0:=a.1;let x1:=a.2.1;let x2:=a.2.2;(HW (x0,x1,6)).bind fun x22=>let x23:=(x22.length:Int);Option.bind (iter HP (x22,x23,(0:Int),x2.1,x2.2,([]:List ((Int×List UInt8)×(Int×Int×Int×Int×Int×List UInt8×Int×List UInt8))),(),(),(),())) fun o=>let l19:=o.1;Lz l19 fun π=>Option.bind (EP Jz O8 π (([]:List (Int×(Int×Int×Int))),(),())) fun o=>let l50:=o.1;(Lh l50).bind fun x79=>(HQ x79).bind fun x80=>let x81:=(x80.length:Int);Option.bind (iter HO (l50,x80,x81,(0:Int),([]:List (Int×Int×Int)),(),())) fun o=>match o with|Sum.inl p69=>(let l1016:=p69.1;some (l1016,(0:Int)))|Sum.inr q70=>(some q70)
noncomputable def GP(s:List UInt8×Int×Int×Unit):Option ((List UInt8×Int×Int×Unit)⊕((Int×Unit))):=let x0:=s.1;let x3:=s.2.1;let x4:=s.2.2.1;let x7:=(x0.length:Int);let x8:=(decide (x4<x7));if x8 then(let x12:=i64.wrap ((10:Int)*x3);(sAt x0 x4).bind fun x15=>let x16:=i64.wrap x15;let x17:=i64.wrap (x12+x16);let x18:=i64.wrap (x17-48);let x10:=i64.wrap (x4+1);some (Sum.inl (x0,x18,x10,())))else(some (Sum.inr (x3,())))
noncomputable def Jp(a:List UInt8):Option Int:=let x0:=a;Option.bind (iter GP (x0,0,0,())) fun o=>let x3:=o.1;some x3
noncomputable def GN(s:(List (Int×Int×List UInt8×Int×List UInt8))×(List (Int×Int×Int))×Int×Int×Int×Int×Bool×Int×Int×Int×Int×Int×Int×Unit×Unit×Unit×Unit×Unit):Option (((List (Int×Int×List UInt8×Int×List UInt8))×(List (Int×Int×Int))×Int×Int×Int×Int×Bool×Int×Int×Int×Int×Int×Int×Unit×Unit×Unit×Unit×Unit)⊕(((List (Int×Int×List UInt8×Int×List UInt8))×(List (Int×Int×Int))×Int×Int×Int×Int×Bool×Int×Int×Int×Int×Int×Unit×Unit×Unit×Unit×Unit))):=let sq6:=s.2.2.2.2.2.2;let sq12:=sq6.2.2.2.2.2.2;let x0:=s.1;let x6:=s.2.1;let x7:=s.2.2.1;let x8:=s.2.2.2.1;let x9:=s.2.2.2.2.1;let x11:=s.2.2.2.2.2.1;let x12:=sq6.1;let x13:=sq6.2.1;let c3_0:=sq6.2.2.1;let c3_1:=sq6.2.2.2.1;let c10_0:=sq6.2.2.2.2.1;let c10_1:=sq6.2.2.2.2.2.1;let c10_2:=sq12.1;let x80:=(x0.length:Int);let x81:=(decide (x13<x80));if x81 then(let x86:=(if x12=true then some x0 else none);let x87:=(if x12=true then some x13 else none);Option.bind (if x12=true then((x86.bind (fun z=>x87.map (fun u=>(z,u)))).bind (fun v=>(lAt v.1 v.2).map (fun y=>y))).map some else some none) fun x88=>Option.bind (if x12=true then(x88.map (fun z=>(z.2.1,z.2.2.1,z.2.2.2.1,z.2.2.2.2))).map some else some none) fun x89=>Option.bind (if x12=true then(x89.map (fun z=>z.1)).map some else some none) fun x90=>let x91:=(if x12=true then some x8 else none);Option.bind (if x12=true then((x90.bind (fun z=>x91.map (fun u=>(z,u)))).map (fun v=>(v.1 !=v.2))).map some else some none) fun x92=>Option.bind (if x12=true then x92.map some else some none) fun x93=>let x94:=(if x93=some false then some x0 else none);let x95:=(if x93=some false then some x13 else none);Option.bind (if x93=some false then((x94.bind (fun z=>x95.map (fun u=>(z,u)))).bind (fun v=>(lAt v.1 v.2).map (fun y=>y))).map some else some none) fun x96=>Option.bind (if x93=some false then(x96.map (fun z=>(z.2.2.1,z.2.2.2.1,z.2.2.2.2))).map some else some none) fun x97=>Option.bind (if x93=some false then(x97.map (fun z=>z.1)).map some else some none) fun x98=>let x99:=(if x93=some false then some x0 else none);let x100:=(if x93=some false then some x11 else none);Option.bind (if x93=some false then((x99.bind (fun z=>x100.map (fun u=>(z,u)))).bind (fun v=>(lAt v.1 v.2).map (fun y=>y))).map some else some none) fun x101=>Option.bind (if x93=some false then(x101.map (fun z=>(z.2.2.1,z.2.2.2.1,z.2.2.2.2))).map some else some none) fun x102=>Option.bind (if x93=some false then(x102.map (fun z=>z.1)).map some else some none) fun x103=>Option.bind (if x93=some false then((x98.bind (fun z=>x103.map (fun u=>(z,u)))).map (fun v=>(!(v.1==v.2)))).map some else some none) fun x104=>Option.bind (if x12=true then(x93.bind (fun z=>if z then some true else x104.map (fun u=>u))).map some else some none) fun x105=>Option.bind (if x12=true then x105.map some else some none) fun x106=>let x107:=(if x106=some false then some x0 else none);let x108:=(if x106=some false then some x13 else none);Option.bind (if x106=some false then((x107.bind (fun z=>x108.map (fun u=>(z,u)))).bind (fun v=>(lAt v.1 v.2).map (fun y=>y))).map some else some none) fun x109=>Option.bind (if x106=some false then(x109.map (fun z=>z)).map some else some none) fun x110=>Option.bind (if x106=some false then(x110.map (fun z=>z.1)).map some else some none) fun x111=>let x112:=(if x106=some false then some x0 else none);let x113:=(if x106=some false then some x11 else none);Option.bind (if x106=some false then((x112.bind (fun z=>x113.map (fun u=>(z,u)))).bind (fun v=>(lAt v.1 v.2).map (fun y=>y))).map some else some none) fun x114=>Option.bind (if x106=some false then(x114.map (fun z=>z)).map some else some none) fun x115=>Option.bind (if x106=some false then(x115.map (fun z=>z.1)).map some else some none) fun x116=>Option.bind (if x106=some false then((x111.bind (fun z=>x116.map (fun u=>(z,u)))).map (fun v=>(decide (v.1≤v.2)))).map some else some none) fun x117=>Option.bind (if x12=true then(x106.bind (fun z=>if z then some true else x117.map (fun u=>u))).map some else some none) fun x118=>(if x12 then x118 else some false).bind fun x119=>let x83:=i64.wrap (x13+1);some (Sum.inl (x0,x6,x7,x8,x9,x11,x119,x83,c3_0,c3_1,c10_0,c10_1,c10_2,(),(),(),(),())))else(some (Sum.inr (x0,x6,x7,x8,x9,x11,x12,c3_0,c3_1,c10_0,c10_1,c10_2,(),(),(),(),())))
noncomputable def GO(s:(List (Int×Int×List UInt8×Int×List UInt8))×(List (Int×Int×Int))×Int×Int×Int×Int×Int×Int×Int×Int×Int×Unit×Unit×Unit×Unit×Unit):Option (((List (Int×Int×List UInt8×Int×List UInt8))×(List (Int×Int×Int))×Int×Int×Int×Int×Int×Int×Int×Int×Int×Unit×Unit×Unit×Unit×Unit)⊕(((List (Int×Int×List UInt8×Int×List UInt8))×(List (Int×Int×Int))×Int×Int×Int×Int×Int×Int×Int×Unit×Unit×Unit×Unit×Unit))):=let x0:=s.1;let x6:=s.2.1;let x7:=s.2.2.1;let x8:=s.2.2.2.1;let x9:=s.2.2.2.2.1;let x11:=s.2.2.2.2.2.1;let c3_0:=s.2.2.2.2.2.2.1;let c3_1:=s.2.2.2.2.2.2.2.1;let c10_0:=s.2.2.2.2.2.2.2.2.1;let c10_1:=s.2.2.2.2.2.2.2.2.2.1;let c10_2:=s.2.2.2.2.2.2.2.2.2.2.1;let x67:=(x0.length:Int);let x68:=(decide (x11<x67));if x68 then(Option.bind (show Option (((List (Int×Int×List UInt8×Int×List UInt8))×(List (Int×Int×Int))×Int×Int×Int×Int×Int×Int×Int×Int×Int×Unit×Unit×Unit×Unit×Unit))from(Option.bind ((lAt x0 x11).map (fun y=>y)) fun x73=>let x77:=(x73.2.1==x8);Option.bind (iter GN (x0,x6,x7,x8,x9,x11,x77,0,c3_0,c3_1,c10_0,c10_1,c10_2,(),(),(),(),())) fun o=>let oq6:=o.2.2.2.2.2.2;let x0:=o.1;let x6:=o.2.1;let x7:=o.2.2.1;let x8:=o.2.2.2.1;let x9:=o.2.2.2.2.1;let x11:=o.2.2.2.2.2.1;let x12:=oq6.1;let c3_0:=oq6.2.1;let c3_1:=oq6.2.2.1;let c10_0:=oq6.2.2.2.1;let c10_1:=oq6.2.2.2.2.1;let c10_2:=oq6.2.2.2.2.2.1;if x12 then(Option.bind ((lAt x0 x11).map (fun y=>y)) fun x125=>let x128:=i64.wrap (c10_1+x125.2.2.2.1);Option.bind ((lAt x0 x11).map (fun y=>y)) fun x134=>(Jp x134.2.2.2.2).bind fun x137=>let x138:=i64.wrap (c10_2+x137);some (x0,x6,x7,x8,x9,x11,c3_0,c3_1,c10_0,x128,x138,(),(),(),(),()))else(some (x0,x6,x7,x8,x9,x11,c3_0,c3_1,c10_0,c10_1,c10_2,(),(),(),(),())))) fun o=>let x0:=o.1;let x6:=o.2.1;let x7:=o.2.2.1;let x8:=o.2.2.2.1;let x9:=o.2.2.2.2.1;let x11:=o.2.2.2.2.2.1;let c3_0:=o.2.2.2.2.2.2.1;let c3_1:=o.2.2.2.2.2.2.2.1;let c10_0:=o.2.2.2.2.2.2.2.2.1;let c10_1:=o.2.2.2.2.2.2.2.2.2.1;let c10_2:=o.2.2.2.2.2.2.2.2.2.2.1;let x70:=i64.wrap (x11+1);some (Sum.inl (x0,x6,x7,x8,x9,x70,c3_0,c3_1,c10_0,c10_1,c10_2,(),(),(),(),())))else(some (Sum.inr (x0,x6,x7,x9,c3_0,c3_1,c10_0,c10_1,c10_2,(),(),(),(),())))
noncomputable def HG(s:(List (Int×Int×List UInt8×Int×List UInt8))×(List (Int×Int×Int))×Int×Int×Int×Int×Int×Unit×Unit×Unit):Option (((List (Int×Int×List UInt8×Int×List UInt8))×(List (Int×Int×Int))×Int×Int×Int×Int×Int×Unit×Unit×Unit)⊕(((List (Int×Int×List UInt8×Int×List UInt8))×(List (Int×Int×Int))×Int×Int×Int×Int×Int×Unit×Unit×Unit))):=let x0:=s.1;let x6:=s.2.1;let x7:=s.2.2.1;let x8:=s.2.2.2.1;let x9:=s.2.2.2.2.1;let c3_0:=s.2.2.2.2.2.1;let c3_1:=s.2.2.2.2.2.2.1;let x37:=(x6.length:Int);let x38:=(decide (x9<x37));let x40:=(if x38=true then some x6 else none);let x41:=(if x38=true then some x9 else none);Option.bind (if x38=true then((x40.bind (fun z=>x41.map (fun u=>(z,u)))).bind (fun v=>(lAt v.1 v.2).map (fun y=>y))).map some else some none) fun x42=>Option.bind (if x38=true then(x42.map (fun z=>z)).map some else some none) fun x43=>Option.bind (if x38=true then(x43.map (fun z=>z.1)).map some else some none) fun x44=>let x45:=(if x38=true then some x8 else none);Option.bind (if x38=true then((x44.bind (fun z=>x45.map (fun u=>(z,u)))).map (fun v=>(decide (v.1<v.2)))).map some else some none) fun x46=>(if x38 then x46 else some false).bind fun x47=>if x47 then(let x49:=i64.wrap (x9+1);some (Sum.inl (x0,x6,x7,x8,x49,c3_0,c3_1,(),(),())))else(some (Sum.inr (x0,x6,x7,x8,x9,c3_0,c3_1,(),(),())))
noncomputable def Jo(s:(List (Int×Int×List UInt8×Int×List UInt8))×(List (Int×Int×Int))×Int×Int×Int×Unit×Unit×Unit):Option (((List (Int×Int×List UInt8×Int×List UInt8))×(List (Int×Int×Int))×Int×Int×Int×Unit×Unit×Unit)⊕(((List (Int×Int×Int))×Unit)⊕((List (Int×Int×Int))×Bool))):=let x0:=s.1;let x6:=s.2.1;let x7:=s.2.2.1;let c3_0:=s.2.2.2.1;let c3_1:=s.2.2.2.2.1;let x16:=(x0.length:Int);let x17:=(decide (x7<x16));if x17 then(Option.bind (show Option (((List (Int×Int×List UInt8×Int×List UInt8))×(List (Int×Int×Int))×Int×Int×Int×Unit×Unit×Unit)⊕((List (Int×Int×Int))×Bool))from(Option.bind ((lAt x0 x7).map (fun y=>y)) fun x22=>let x28:=(decide (x22.2.1<c3_0));let x30:=(if x28=false then some x22.2.1 else none);let x31:=(if x28=false then some ()else none);Option.bind (if x28=false then(x31.map (fun z=>c3_1)).map some else some none) fun x32=>Option.bind (if x28=false then((x30.bind (fun z=>x32.map (fun u=>(z,u)))).map (fun v=>(decide (v.1≥v.2)))).map some else some none) fun x33=>Option.bind (if x28 then some true else x33.map (fun z=>z)) fun x34=>if x34 then(some (Sum.inl (x0,x6,x7,c3_0,c3_1,(),(),())))else(Option.bind (iter HG (x0,x6,x7,x22.2.1,0,c3_0,c3_1,(),(),())) fun o=>let x0:=o.1;let x6:=o.2.1;let x7:=o.2.2.1;let x8:=o.2.2.2.1;let x9:=o.2.2.2.2.1;let c3_0:=o.2.2.2.2.2.1;let c3_1:=o.2.2.2.2.2.2.1;let x52:=(x6.length:Int);let x53:=(decide (x9<x52));let x55:=(if x53=true then some x6 else none);let x56:=(if x53=true then some x9 else none);Option.bind (if x53=true then((x55.bind (fun z=>x56.map (fun u=>(z,u)))).bind (fun v=>(lAt v.1 v.2).map (fun y=>y))).map some else some none) fun x57=>Option.bind (if x53=true then(x57.map (fun z=>z)).map some else some none) fun x58=>Option.bind (if x53=true then(x58.map (fun z=>z.1)).map some else some none) fun x59=>let x60:=(if x53=true then some x8 else none);Option.bind (if x53=true then((x59.bind (fun z=>x60.map (fun u=>(z,u)))).map (fun v=>(v.1==v.2))).map some else some none) fun x61=>(if x53 then x61 else some false).bind fun x62=>if x62 then(some (Sum.inl (x0,x6,x7,c3_0,c3_1,(),(),())))else(Option.bind (iter GO (x0,x6,x7,x8,x9,0,c3_0,c3_1,x8,0,0,(),(),(),(),())) fun o=>let x0:=o.1;let x6:=o.2.1;let x7:=o.2.2.1;let x9:=o.2.2.2.1;let c3_0:=o.2.2.2.2.1;let c3_1:=o.2.2.2.2.2.1;let c10_0:=o.2.2.2.2.2.2.1;let c10_1:=o.2.2.2.2.2.2.2.1;let c10_2:=o.2.2.2.2.2.2.2.2.1;let x142:=(decide (c10_1>1440));if x142 then(some (Sum.inr (([]:List (Int×Int×Int)),false)))else(let l143:=([]:List (Int×Int×Int));(Be x6 0 x9).bind fun x146=>Option.bind (if((l143.length:Int)+(x146.length:Int))*24≤140737488355328∧(l143.length:Int)+(x146.length:Int)≤4611686018427387904 then some (l143++x146)else none) fun l143=>let l149:=([(c10_0,c10_1,c10_2)]:List (Int×Int×Int));Option.bind (if((l143.length:Int)+(l149.length:Int))*24≤140737488355328∧(l143.length:Int)+(l149.length:Int)≤4611686018427387904 then some (l143++l149)else none) fun l143=>(Be x6 x9 (x6.length:Int)).bind fun x153=>Option.bind (if((l143.length:Int)+(x153.length:Int))*24≤140737488355328∧(l143.length:Int)+(x153.length:Int)≤4611686018427387904 then some (l143++x153)else none) fun l143=>some (Sum.inl (x0,l143,x7,c3_0,c3_1,(),(),()))))))) fun o=>match o with|Sum.inl p7712=>(let x0:=p7712.1;let x6:=p7712.2.1;let x7:=p7712.2.2.1;let c3_0:=p7712.2.2.2.1;let c3_1:=p7712.2.2.2.2.1;let x19:=i64.wrap (x7+1);some (Sum.inl (x0,x6,x19,c3_0,c3_1,(),(),())))|Sum.inr q7713=>(some (Sum.inr (Sum.inr q7713))))else(some (Sum.inr (Sum.inl (x6,()))))
noncomputable def Jn(a:(List (Int×Int×List UInt8×Int×List UInt8))×(Int×Int)):Option ((List (Int×Int×Int))×Bool):=let x0:=a.1;let x1:=a.2;Option.bind (iter Jo (x0,([]:List (Int×Int×Int)),(0:Int),x1.1,x1.2,(),(),())) fun o=>match o with|Sum.inl p7714=>(let x6:=p7714.1;some (x6,true))|Sum.inr q7715=>(some q7715)
noncomputable def IP(s:(List (Int×Int×Int))×Int×(List (Int×Int×Int))×Unit×Unit):Option (((List (Int×Int×Int))×Int×(List (Int×Int×Int))×Unit×Unit)⊕(((List (Int×Int×Int))×Unit×Unit))):=let x0:=s.1;let x4:=s.2.1;let l1003:=s.2.2.1;let x7:=(x0.length:Int);let x8:=(decide (x4<x7));if x8 then(Option.bind ((lAt x0 x4).map (fun y=>y)) fun x14=>Option.bind ((lAt x0 x4).map (fun y=>y)) fun x19=>Option.bind ((lAt x0 x4).map (fun y=>y)) fun x24=>let l28:=([(x14.1,x19.2.1,x24.2.2)]:List (Int×Int×Int));Option.bind (if((l1003.length:Int)+(l28.length:Int))*24≤140737488355328∧(l1003.length:Int)+(l28.length:Int)≤4611686018427387904 then some (l1003++l28)else none) fun l1003=>let x10:=i64.wrap (x4+1);some (Sum.inl (x0,x10,l1003,(),())))else(some (Sum.inr (l1003,(),())))
noncomputable def KV(a:(List (Int×Int×Int))):Option (List (Int×Int×Int)):=let x0:=a;Option.bind (iter IP (x0,(0:Int),([]:List (Int×Int×Int)),(),())) fun o=>let l1003:=o.1;some l1003
noncomputable def IM(s:(List (Int×Int×Int))×(List (Int×Int×Int))×Int×Unit):Option (((List (Int×Int×Int))×(List (Int×Int×Int))×Int×Unit)⊕(Unit⊕Bool)):=let x13:=s.1;let x15:=s.2.1;let x17:=s.2.2.1;let x122:=(x15.length:Int);let x123:=(decide (x17<x122));if x123 then((KV x13).bind fun x127=>Option.bind ((lAt x127 x17).map (fun y=>y)) fun x129=>Option.bind ((lAt x15 x17).map (fun y=>y)) fun x133=>let x135:=(!((x129.1==x133.1)&&((x129.2.1==x133.2.1)&&(x129.2.2==x133.2.2))));if x135 then(some (Sum.inr (Sum.inr false)))else(let x125:=i64.wrap (x17+1);some (Sum.inl (x13,x15,x125,()))))else(some (Sum.inr (Sum.inl (()))))
noncomputable def IN(s:Int×(List (Int×Int×Int×Int×Int×Int×List UInt8×Int×List UInt8))×Int×Int×Int×(List (Int×Int×Int×Int×Int×List UInt8×Int×List UInt8))×(List (Int×Int×List UInt8×Int×List UInt8))×Unit×Unit×Unit×Unit×Unit×Unit):Option ((Int×(List (Int×Int×Int×Int×Int×Int×List UInt8×Int×List UInt8))×Int×Int×Int×(List (Int×Int×Int×Int×Int×List UInt8×Int×List UInt8))×(List (Int×Int×List UInt8×Int×List UInt8))×Unit×Unit×Unit×Unit×Unit×Unit)⊕((Int×Int×Int×(List (Int×Int×Int×Int×Int×List UInt8×Int×List UInt8))×(List (Int×Int×List UInt8×Int×List UInt8))×Unit×Unit×Unit×Unit×Unit×Unit)⊕Bool)):=let x1:=s.1;let x9:=s.2.1;let x11:=s.2.2.1;let c5_0:=s.2.2.2.1;let c5_1:=s.2.2.2.2.1;let c8_0:=s.2.2.2.2.2.1;let l1010:=s.2.2.2.2.2.2.1;let x55:=(x9.length:Int);let x56:=(decide (x11<x55));if x56 then(Option.bind ((lAt x9 x11).map (fun y=>y)) fun x61=>(Bb (x61.2.1,x61.2.2.1,x61.2.2.2.1,x61.2.2.2.2.1,x61.2.2.2.2.2.1,x61.2.2.2.2.2.2.1,x61.2.2.2.2.2.2.2.1,x61.2.2.2.2.2.2.2.2)).bind fun x65=>let x66:=(x65 !=0);let x68:=(if x66=false then some ()else none);Option.bind (if x66=false then(x68.map (fun z=>x61.2.2.2.1)).map some else some none) fun x69=>Option.bind (if x66=false then((x69.bind (fun z=>some (z,(6:Int)))).map (fun u=>(u.1 !=u.2))).map some else some none) fun x70=>Option.bind (if x66 then some true else x70.map (fun z=>z)) fun x71=>if x71 then(some (Sum.inr (Sum.inr false)))else(Option.bind ((lAt x9 x11).map (fun y=>y)) fun x75=>let l87:=([(x75.1,x61.2.2.2.2.1,x61.2.2.2.2.2.2.1,x61.2.2.2.2.2.2.2.1,x61.2.2.2.2.2.2.2.2)]:List (Int×Int×List UInt8×Int×List UInt8));Option.bind (if((l1010.length:Int)+(l87.length:Int))*56≤140737488355328∧(l1010.length:Int)+(l87.length:Int)≤4611686018427387904 then some (l1010++l87)else none) fun l1010=>let x58:=i64.wrap (x11+1);some (Sum.inl (x1,x9,x58,c5_0,c5_1,c8_0,l1010,(),(),(),(),(),()))))else(some (Sum.inr (Sum.inl (x1,c5_0,c5_1,c8_0,l1010,(),(),(),(),(),()))))
noncomputable def IO(s:(List (Int×Int×Int×Int×Int×List UInt8×Int×List UInt8))×Int×Int×Int×Int×Unit×Unit×Unit):Option (((List (Int×Int×Int×Int×Int×List UInt8×Int×List UInt8))×Int×Int×Int×Int×Unit×Unit×Unit)⊕(((List (Int×Int×Int×Int×Int×List UInt8×Int×List UInt8))×Int×Int×Int×Unit×Unit×Unit)⊕Bool)):=let x0:=s.1;let x1:=s.2.1;let x7:=s.2.2.1;let c5_0:=s.2.2.2.1;let c5_1:=s.2.2.2.2.1;let x25:=(x0.length:Int);let x26:=(decide (x7<x25));if x26 then(Option.bind ((lAt x0 x7).map (fun y=>y)) fun x31=>let x34:=(x31.2.2.2.2.2.1.length:Int);let x35:=(decide (x34>300));let x37:=(if x35=false then some x0 else none);let x38:=(if x35=false then some x7 else none);Option.bind (if x35=false then((x37.bind (fun z=>x38.map (fun u=>(z,u)))).bind (fun v=>(lAt v.1 v.2).map (fun y=>y))).map some else some none) fun x39=>Option.bind (if x35=false then(x39.map (fun z=>z.2.2.2.2.2.2.2)).map some else some none) fun x40=>Option.bind (if x35=false then(x40.map (fun z=>z)).map some else some none) fun x41=>Option.bind (if x35=false then(x41.map (fun z=>(z.length:Int))).map some else some none) fun x42=>Option.bind (if x35=false then((x42.bind (fun z=>some (z,(300:Int)))).map (fun u=>(decide (u.1>u.2)))).map some else some none) fun x43=>Option.bind (if x35 then some true else x43.map (fun z=>z)) fun x44=>if x44 then(some (Sum.inr (Sum.inr true)))else(let x28:=i64.wrap (x7+1);some (Sum.inl (x0,x1,x28,c5_0,c5_1,(),(),()))))else(some (Sum.inr (Sum.inl (x0,x1,c5_0,c5_1,(),(),()))))
noncomputable def N4(a:(List (Int×Int×Int×Int×Int×List UInt8×Int×List UInt8))×Int×(Int×Int)):Option Bool:=let x0:=a.1;let x1:=a.2.1;let x2:=a.2.2;(KU ()).bind fun x18=>let x19:=(!x18);if x19 then(some false)else(let x21:=(x0.length:Int);let x22:=(decide (x21>60));if x22 then(some true)else(Option.bind (iter IO (x0,x1,0,x2.1,x2.2,(),(),())) fun o=>match o with|Sum.inl p171=>(let x0:=p171.1;let x1:=p171.2.1;let c5_0:=p171.2.2.1;let c5_1:=p171.2.2.2.1;(KW x0).bind fun x46=>(HW (x46,x1,6)).bind fun x49=>let x51:=(x49.length:Int);let x52:=(decide (x51>60));if x52 then(some false)else(Option.bind (iter IN (x1,x49,(0:Int),c5_0,c5_1,x46,([]:List (Int×Int×List UInt8×Int×List UInt8)),(),(),(),(),(),())) fun o=>match o with|Sum.inl p268=>(let x1:=p268.1;let c5_0:=p268.2.1;let c5_1:=p268.2.2.1;let c8_0:=p268.2.2.2.1;let l1010:=p268.2.2.2.2.1;Option.bind (Jy (c8_0,x1,(c5_0,c5_1))) fun x93=>Option.bind (Jn (l1010,(c5_0,c5_1))) fun x99=>let x103:=(!x99.2);if x103 then(let x105:=(x93.2==2);let x107:=(if x105=true then some x93.1 else none);Option.bind (if x105=true then(x107.map (fun z=>(z.length:Int))).map some else some none) fun x108=>Option.bind (if x105=true then((x108.bind (fun z=>some (z,(0:Int)))).map (fun u=>(u.1==u.2))).map some else some none) fun x109=>(if x105 then x109 else some false).bind fun x110=>some x110)else(let x112:=(x93.2 !=0);let x114:=(if x112=false then some x93.1 else none);Option.bind (if x112=false then(x114.map (fun z=>(z.length:Int))).map some else some none) fun x115=>let x116:=(if x112=false then some x99.1 else none);Option.bind (if x112=false then(x116.map (fun z=>(z.length:Int))).map some else some none) fun x117=>Option.bind (if x112=false then((x115.bind (fun z=>x117.map (fun u=>(z,u)))).map (fun v=>(v.1 !=v.2))).map some else some none) fun x118=>Option.bind (if x112 then some true else x118.map (fun z=>z)) fun x119=>if x119 then(some false)else(Option.bind (iter IM (x93.1,x99.1,0,())) fun o=>match o with|Sum.inl p320=>(some true)|Sum.inr q321=>(some q321))))|Sum.inr q269=>(some q269)))|Sum.inr q172=>(some q172)))
set_option linter.unusedSimpArgs false
set_option linter.unusedVariables false
abbrev Fac:=Int×Int×Int×Int×Int×List UInt8×Int×List UInt8
def SmF(x:Fac):Prop:=x.2.2.2.2.2.1.length≤300∧x.2.2.2.2.2.2.2.length≤300
def OkF(x:Fac):Prop:=BM x=0∧SmF x
theorem PQ{x:Fac}(h:SmF x):Bb x=some (BM x):=Vn x (by have:=h.1;omega) (by have:=h.2;omega)
theorem UU{fm cb tb:Bool}{p D num lo hi len:Int}(h:Im fm cb tb p D num lo hi len=0):D=0∧cb=true∧lo≤num∧num≤hi∧tb=true:=by
 unfold Im at h;split at h
 ·cases h
 split at h
 ·rename_i h1;rw[h]at h1;cases h1
 rename_i h1;split at h
 ·cases h
 rename_i h2;split at h
 ·cases h
 rename_i h3;split at h
 ·cases h
 split at h
 ·cases h
 rename_i h4
 refine⟨by simpa using h1,by simpa using h2, ?_, ?_,by simpa using h4⟩<;>
 ·rw[Aj,decide_eq_true_eq,decide_eq_true_eq]at h3;omega
theorem PP{x:Fac}(h:BM x=0):Hk x.2.2.1 (Qq x.2.2.1) x.2.2.2.1 x.2.2.2.2.1=0∧PZ x.2.2.1 x.2.2.2.2.2.1=true∧RB x.2.2.1≤x.2.2.2.2.2.2.1∧x.2.2.2.2.2.2.1≤Rn x.2.2.1∧TF x.2.2.1 x.2.2.2.2.2.2.1 x.2.2.2.2.2.2.2=true:=by
 unfold BM at h;split at h
 ·exact UU h
 ·cases h
theorem V5{k fr to:Int}{dy:Bool}(h:Hk k dy fr to=0): -25567≤fr∧fr≤84005:=by
 unfold Hk at h;split at h
 ·cases h
 rename_i h1;rw[Aj,Aj,decide_eq_true_eq,decide_eq_true_eq]at h1;omega
theorem Yk{s:List Fac}(hs:s.length≤5000)(id:Int):∃r,Md (s,id)=some r:=by
 unfold Md;dsimp only;split
 ·exact⟨_,rfl⟩
 have key:=Eu (b:=J3) (α:=Fac) (A:=Nat) (fun i _=>(s,id,(s.length:Int),(i:Int),())) (fun a x=>if(x.1==id)=true then .inr (.inr (a:Int))else .inl (a+1)) (fun _=>.inl ()) (fun i a=>a=i) s (a:=0) rfl (fun i x a hx hi=>by
  have:=(Ae.1 hx).1;subst hi;unfold J3 OG;dsimp only;rw[BP hx,if_pos rfl,Bd hx,ms,bs,bs,Bu (by omega)];by_cases h:(x.1==id)=true
  ·rw[if_pos h,if_pos h];rfl
  ·rw[if_neg h,if_neg h];rfl) (fun i x a a' _ hi h=>by
  split at h
  ·cases h
  ·cases h
   rw[hi]) (fun a _=>by
  unfold J3;dsimp only
  rw[Cb,if_neg (by decide)])
 unfold OA;dsimp only;rw[show iter J3 (s,id,(s.length:Int),0,())=_ from key,bs];generalize Bg _ _ _ _=o;rcases o with o|o
 ·exact⟨_,rfl⟩
 ·exact⟨_,rfl⟩
theorem Z4{s:List Fac}(hs:s.length≤5000)(n:Int):∃r,Mf (s,n)=some r:=by
 have key:=Eu (b:=J8) (α:=Fac) (A:=Unit) (fun i _=>(n,s,(s.length:Int),(i:Int),())) (fun _ x=>if(x.2.2.1==18&&x.2.2.2.2.2.2.1==n)=true then .inr (.inr true)else .inl ()) (fun _=>.inl ()) (fun _ _=>True) s (a:=()) trivial (fun i x a hx hi=>by
  have:=(Ae.1 hx).1;unfold J8;dsimp only;simp only[gPi,gSS,gPb,gPm,gPs,gM,gM2,A9,gOr,AA,AG,gAA,gAO,gOA,gOO,A6,A8,AB,AE,A7,AD,gId];try simp only[AL,AM,AN,AO,AP,AQ,AR,AS,gId,AV,gMb,gMm,gBm,gBb,bs,ms]
  rw[BP hx,if_pos rfl,Bd hx,bs,Bu (by omega)]
  cases h:(x.2.2.1==18)<;>cases h2:(x.2.2.2.2.2.2.1==n)<;>simp[h2,EU]) (fun i x a a' _ hi h=>trivial) (fun a _=>by
  unfold J8;dsimp only
  rw[Cb,if_neg (by decide)])
 unfold Mf;dsimp only;rw[show iter J8 (n,s,(s.length:Int),0,())=_ from key,bs];generalize Bg _ _ _ _=o;rcases o with o|o
 ·exact⟨_,rfl⟩
 ·exact⟨_,rfl⟩
theorem UL{s:List Fac}(hs:s.length≤5000){f:Fac}(hf:BM f=0):∃r,J6 (s,f)=some r:=by
 unfold J6;dsimp only;split
 ·exact⟨_,rfl⟩
 rename_i hk;split
 ·exact⟨_,rfl⟩
 rename_i hn;have hk':f.2.2.1=18:=by simpa using hk
 have hl:=(PP hf).2.2.1;rw[hk']at hl;have hl':(1:Int)≤f.2.2.2.2.2.2.1:=hl;rw[decide_eq_true_eq]at hn;rw[A3 (by omega) (by omega)];obtain⟨j,hj⟩:∃j:Nat,f.2.2.2.2.2.2.1-1=(j:Int):=⟨(f.2.2.2.2.2.2.1-1).toNat,by omega⟩;rw[hj];have hlt:j<s.length:=by omega
 rw[Bd (Ai hlt),ms,bs];split
 ·exact⟨_,rfl⟩
 obtain⟨r,hr⟩:=Z4 hs f.2.2.2.2.2.2.1;rw[hr,bs];split
 ·exact⟨_,rfl⟩
 ·exact⟨_,rfl⟩
theorem Z3(s:List Fac)(z:Fac)(n:Nat)(h:n=s.length):s.take (min s.length (List.replicate (n+1) z).length)++(List.replicate (n+1) z).drop (min s.length (List.replicate (n+1) z).length)=s++ [z]:=by
 subst h;rw[List.length_replicate,Nat.min_eq_left (by omega),List.take_length,List.drop_replicate,show s.length+1-s.length=1 by omega];rfl
theorem Ud{s:List Fac}(hs:s.length≤4000){f:Fac}(hf:SmF f):(∃e,J5 (s,f)=some (s,e)∧e≠0)∨(J5 (s,f)=some (s++ [f],0)∧BM f=0):=by
 unfold J5;dsimp only;rw[if_neg (by rw[decide_eq_true_eq];omega),PQ hf,bs];by_cases h0:BM f=0
 ·rw[if_neg (by rw[h0];decide)];obtain⟨r,hr⟩:=Yk (s:=s) (by omega) f.1;rw[hr,bs];split
  ·exact .inl ⟨_,rfl,by decide⟩
  obtain⟨c,hc⟩:=UL (s:=s) (by omega) h0;rw[show J6 (s,(f.1,f.2.1,f.2.2.1,f.2.2.2.1,f.2.2.2.2.1,f.2.2.2.2.2.1,f.2.2.2.2.2.2.1,f.2.2.2.2.2.2.2))=_ from hc,bs];by_cases hz:(c !=0)=true
  ·rw[if_pos hz];exact .inl ⟨_,rfl,by simpa using hz⟩
  rw[if_neg hz,Bu (by omega),if_pos (by omega),bs,Int.toNat_natCast];right;refine⟨?_,h0⟩;rw[Z3 s _ _ rfl];rw[List.length_replicate,Nat.min_eq_left (by omega),List.length_append,List.length_singleton];rw[if_pos (by omega),bs,Int.toNat_natCast];rw[List.getElem?_append_right (by omega),Nat.sub_self];rw[show([((0:Int),(0:Int),(0:Int),(0:Int),(0:Int),([]:List UInt8),(0:Int),([]:List UInt8))]:List Fac)[0]? =some _ from rfl,ms,bs];rw[List.set_append_right _ _ (by omega),Nat.sub_self];rfl
 ·rw[if_pos (by simpa using h0)];exact .inl ⟨_,rfl,h0⟩
theorem Aam{l:List Fac}(hl:l.length≤60)(hsm:∀x∈l,SmF x):∀(k i:Nat) (s:List Fac),l.length-i=k→i≤l.length→s.length≤i→(∀x∈s,OkF x)→
  ∃v,iter H2 (l,(i:Int),s,(),(),(),(),(),())=some (v,(),(),(),(),(),())∧v.length≤l.length∧∀x∈v,OkF x:=by
 intro k
 induction k with
 |zero=>
  intro i s h1 h2 h3 h4;have:i=l.length:=by omega
  subst this;refine⟨s, ?_,h3,h4⟩;refine itR ?_;unfold H2;dsimp only;rw[Cb,if_neg (by decide)]
 |succ k ih=>
  intro i s h1 h2 h3 h4;have hlt:i<l.length:=by omega
  have hx:=Ai hlt;have hsx:=hsm _ (List.getElem_mem hlt)
  have step:∃s',H2 (l,(i:Int),s,(),(),(),(),(),())=some (.inl (l,((i+1:Nat):Int),s',(),(),(),(),(),()))∧s'.length≤i+1∧∀x∈s',OkF x:=by
   unfold H2;dsimp only;rw[BP hx,if_pos rfl,Bd hx,ms,bs];rcases Ud (s:=s) (by omega) hsx with⟨e,h,he⟩|⟨h,h0⟩
   ·rw[h,bs];dsimp only;rw[if_neg (by simpa using he),bs];dsimp only;rw[Bu (by omega)];exact⟨s,rfl,by omega,h4⟩
   ·rw[h,bs];dsimp only;rw[if_pos (by decide),bs];dsimp only;rw[Bu (by omega)];refine⟨_,rfl,by simp;omega, ?_⟩;intro x hx';rcases List.mem_append.1 hx' with hx'|hx'
    ·exact h4 x hx'
    ·rw[List.mem_singleton.1 hx'];exact⟨h0,hsx⟩
  obtain⟨s',hst,h5,h6⟩:=step;rw[BV,hst];exact ih (i+1) s' (by omega) hlt h5 h6
theorem Aal{l:List Fac}(hl:l.length≤60)(hsm:∀x∈l,SmF x):∃v,KW l=some v∧v.length≤60∧∀x∈v,OkF x:=by
 obtain⟨v,h1,h2,h3⟩:=Aam hl hsm l.length 0 [] (by omega) (by omega) (by simp) (by simp);refine⟨v, ?_,by omega,h3⟩;unfold KW;dsimp only;rw[show iter H2 (l,0,[],(),(),(),(),(),())=_ from h1,bs];unfold OF OE;dsimp only;rw[bs,if_pos rfl,show max (0:Int) (min (v.length:Int) (v.length:Int))=((v.length:Nat):Int) by omega];rw[show Be v 0 (v.length:Int)=some _ from CU (i:=0) (j:=v.length) (by omega) (by omega),bs,bs];simp
theorem U1{v:List Fac}(hv:v.length≤60):∀(k i:Nat) (b:List Bool),v.length-i=k→i≤v.length→b.length=v.length→
  ∃b',iter HX (v,(v.length:Int),(i:Int),b,(),())=some (b',(),())∧b'.length=v.length:=by
 intro k
 induction k with
 |zero=>
  intro i b h1 h2 h3;have:i=v.length:=by omega
  subst this;refine⟨b, ?_,h3⟩;refine itR ?_;unfold HX;dsimp only;rw[Cb,if_neg (by decide)]
 |succ k ih=>
  intro i b h1 h2 h3;have hlt:i<v.length:=by omega
  have hx:=Ai hlt
  have step:∃b',HX (v,(v.length:Int),(i:Int),b,(),())=some (.inl (v,(v.length:Int),((i+1:Nat):Int),b',(),()))∧b'.length=v.length:=by
   unfold HX;dsimp only;simp only[gPi,gSS,gPb,gPm,gPs,gM,gM2,A9,gOr,AA,AG,gAA,gAO,gOA,gOO,A6,A8,AB,AE,A7,AD,gId];try simp only[AL,AM,AN,AO,AP,AQ,AR,AS,gId,AV,gMb,gMm,gBm,gBb,bs,ms]
   rw[BP hx,if_pos rfl,Bd hx,bs,←Bu (i:=i) (by omega)];generalize v[i]=x;cases h:(x.2.2.1==18)
   ·exact⟨b,rfl,h3⟩
   rw[if_pos rfl];by_cases h4:x.2.2.2.2.2.2.1≥1
   ·rw[Al h4,bs,if_pos rfl];by_cases h5:x.2.2.2.2.2.2.1≤(b.length:Int)
    ·rw[Al h5,bs,if_pos rfl,A3 (by omega) (by omega),if_pos (by omega)];obtain⟨j,hj⟩:∃j:Nat,x.2.2.2.2.2.2.1-1=(j:Int):=⟨(x.2.2.2.2.2.2.1-1).toNat,by omega⟩;rw[hj,Int.toNat_natCast,Ai (show j<b.length by omega),bs,bs];exact⟨_,rfl,by rw[List.length_set,h3]⟩
    ·rw[Ak h5];exact⟨b,rfl,h3⟩
   ·rw[Ak h4];exact⟨b,rfl,h3⟩
  obtain⟨b',hst,h5⟩:=step;rw[BV,hst];exact ih (i+1) b' (by omega) hlt h5
theorem U0{v:List Fac}(hv:v.length≤60):∃b,Me v=some b∧b.length=v.length:=by
 obtain⟨b,h1,h2⟩:=U1 hv v.length 0 (List.replicate v.length false) (by omega) (by omega) (by simp);refine⟨b, ?_,h2⟩;unfold Me;dsimp only;rw[if_pos (by omega),bs,Int.toNat_natCast];rw[show iter HX (v,(v.length:Int),0,List.replicate v.length false,(),())=_ from h1,bs]
abbrev Kno:=Int×Fac
structure Kn (K:List Kno) (n:Nat) (kd:Int):Prop where
 len:K.length≤n
 ok:∀k∈K,1≤k.1∧k.1≤n∧OkF k.2∧k.2.2.2.1=kd
 up:K.Pairwise fun a b=>a.1<b.1
theorem Wr(x:Fac)(p k:Int):J7 (x,p,k)=some (x.2.1==p&&x.2.2.1==k):=by
 unfold J7;dsimp only;simp only[gPi,gSS,gPb,gPm,gPs,gM,gM2,A9,gOr,AA,AG,gAA,gAO,gOA,gOO,A6,A8,AB,AE,A7,AD,gId];try simp only[AL,AM,AN,AO,AP,AQ,AR,AS,gId,AV,gMb,gMm,gBm,gBb,bs,ms]
 cases (x.2.1==p)<;>rfl
theorem Z9{v:List Fac}{b:List Bool}{p kd:Int}(hv:v.length≤60)(hb:b.length=v.length)(hok:∀x∈v,OkF x):∀(k i:Nat) (K:List Kno),v.length-i=k→i≤v.length→Kn K i kd→
  ∃K',iter HY ((p,kd),b,v,(v.length:Int),(i:Int),K,(),())=some (K',(),())∧Kn K' v.length kd:=by
 intro k
 induction k with
 |zero=>
  intro i K h1 h2 h3;have:i=v.length:=by omega
  subst this;refine⟨K, ?_,h3⟩;refine itR ?_;unfold HY;dsimp only;rw[Cb,if_neg (by decide)]
 |succ k ih=>
  intro i K h1 h2 h3;have hlt:i<v.length:=by omega
  have hx:=Ai hlt;have hbx:=Ai (show i<b.length by omega);have hxok:=hok _ (List.getElem_mem hlt);have h3':Kn K (i+1) kd:=⟨by have:=h3.len;omega,fun k hk=>by have:=h3.ok k hk;exact⟨this.1,by omega,this.2.2⟩,h3.up⟩
  have step:∃K',HY ((p,kd),b,v,(v.length:Int),(i:Int),K,(),())=some (.inl ((p,kd),b,v,(v.length:Int),((i+1:Nat):Int),K',(),()))∧Kn K' (i+1) kd:=by
   unfold HY;dsimp only;simp only[gPi,gSS,gPb,gPm,gPs,gM,gM2,A9,gOr,AA,AG,gAA,gAO,gOA,gOO,A6,A8,AB,AE,A7,AD,gId];try simp only[AL,AM,AN,AO,AP,AQ,AR,AS,gId,AV,gMb,gMm,gBm,gBb,bs,ms]
   rw[BP hx,if_pos rfl,Bd hx,bs,Bd hbx,bs,←Bu (i:=i) (by omega)];generalize v[i]=x at*;generalize b[i]=c;cases c
   ·rw[show(!false)=true from rfl,if_pos rfl];rw[show J7 (((x.1,x.2.1,x.2.2.1,x.2.2.2.1,x.2.2.2.2.1,x.2.2.2.2.2.1,x.2.2.2.2.2.2.1,x.2.2.2.2.2.2.2),(p,kd)).1,((x.1,x.2.1,x.2.2.1,x.2.2.2.1,x.2.2.2.2.1,x.2.2.2.2.2.1,x.2.2.2.2.2.2.1,x.2.2.2.2.2.2.2),(p,kd)).2.1,((x.1,x.2.1,x.2.2.1,x.2.2.2.1,x.2.2.2.2.1,x.2.2.2.2.2.1,x.2.2.2.2.2.2.1,x.2.2.2.2.2.2.2),(p,kd)).2.2)=_ from Wr x p kd,bs];cases hc:(x.2.1==p&&x.2.2.1==kd)
    ·rw[if_neg (by decide),bs];exact⟨K,rfl,h3'⟩
    ·rw[if_pos rfl];have hl:=h3.len;rw[if_pos (by simp;omega),bs];dsimp only;rw[Bu (i:=i) (by omega)];refine⟨_,rfl,by simp;omega, ?_, ?_⟩
     ·intro k hk;rcases List.mem_append.1 hk with hk|hk
      ·exact h3'.ok k hk
      ·rw[List.mem_singleton.1 hk];refine⟨?_, ?_,hxok, ?_⟩
       ·show(1:Int)≤((i+1:Nat):Int);omega
       ·show((i+1:Nat):Int)≤((i+1:Nat):Int);omega
       ·rw[Af]at hc;simpa using hc.2
     ·refine List.pairwise_append.2 ⟨h3.up,List.pairwise_singleton _ _,fun a ha c hc'=> ?_⟩;rw[List.mem_singleton.1 hc'];have:=(h3.ok a ha).2.1;show a.1<((i+1:Nat):Int);omega
   ·exact⟨K,rfl,h3'⟩
  obtain⟨K',hst,h5⟩:=step;rw[BV,hst];exact ih (i+1) K' (by omega) hlt h5
theorem Uk{v:List Fac}(hv:v.length≤60)(hok:∀x∈v,OkF x)(p kd:Int):∃K,HW (v,p,kd)=some K∧Kn K 60 kd:=by
 obtain⟨b,hb,hl⟩:=U0 hv;obtain⟨K,h1,h2⟩:=Z9 (p:=p) (kd:=kd) hv hl hok v.length 0 [] (by omega) (by omega) ⟨by simp,by simp,List.Pairwise.nil⟩;refine⟨K, ?_,by have:=h2.len;omega,fun k hk=> ?_,h2.up⟩
 ·unfold HW OH;dsimp only;rw[hb,bs,show iter HY ((p,kd),b,v,(v.length:Int),0,[],(),())=_ from h1,bs,bs]
 ·have:=h2.ok k hk;exact⟨this.1,by omega,this.2.2⟩
set_option linter.unusedSimpArgs false
set_option linter.unusedVariables false
theorem Xc{S T A:Type}{b:S→Option (S⊕T)}(mk:Nat→A→S)(n:Nat)(I:Nat→A→Prop)(Q:T→Prop)
  (hs:∀i a,i<n→I i a→(∃a',b (mk i a)=some (.inl (mk (i+1) a'))∧I (i+1) a')∨∃t,b (mk i a)=some (.inr t)∧Q t)
  (he:∀a,I n a→∃t,b (mk n a)=some (.inr t)∧Q t):∀(k i:Nat) (a:A),n-i=k→i≤n→I i a→∃t,iter b (mk i a)=some t∧Q t:=by
 intro k
 induction k with
 |zero=>
  intro i a h1 h2 h3;have:i=n:=by omega
  subst this;obtain⟨t,h4,h5⟩:=he a h3;exact⟨t,by rw[BV,h4];rfl,h5⟩
 |succ k ih=>
  intro i a h1 h2 h3;rcases hs i a (by omega) h3 with⟨a',h4,h5⟩|⟨t,h4,h5⟩
  ·obtain⟨t,h6,h7⟩:=ih (i+1) a' (by omega) (by omega) h5;exact⟨t,by rw[BV,h4];exact h6,h7⟩
  ·exact⟨t,by rw[BV,h4];rfl,h5⟩
theorem Fh{S T A:Type}{b:S→Option (S⊕T)}(mk:Nat→A→S)(n:Nat)(I:Nat→A→Prop)(Q:T→Prop){a:A}(h:I 0 a)
  (hs:∀i a,i<n→I i a→(∃a',b (mk i a)=some (.inl (mk (i+1) a'))∧I (i+1) a')∨∃t,b (mk i a)=some (.inr t)∧Q t)
  (he:∀a,I n a→∃t,b (mk n a)=some (.inr t)∧Q t):∃t,iter b (mk 0 a)=some t∧Q t:=Xc mk n I Q hs he n 0 a rfl (by omega) h
theorem Fs{α:Type}(l:List α)(i:Nat)(h:i<l.length):l.take i++ [l[i]]=l.take (i+1):=List.take_append_getElem h
section
variable {α β:Type} {eq:α→α→Bool}
theorem Om(k:α)(v:β):B0 eq k v []= [(k,v)]:=rfl
theorem Ok(k:α)(v:β)(p:α×β)(m:List (α×β)):B0 eq k v (p::m)=if eq k p.1=true then(p.1,v)::m else p::B0 eq k v m:=rfl
theorem Rz(he:∀a b,eq a b=true↔a=b){k x:α}{v:β}:∀{m:List (α×β)},x∈(B0 eq k v m).map (·.1)↔x=k∨x∈m.map (·.1)
 | []=>by simp[Om]
 |p::m=>by
  rw[Ok];split
  ·rename_i h;have e:=(he _ _).1 h;simp only[List.map_cons,List.mem_cons,←e];constructor
   ·intro h;exact .inr h
   ·rintro(h|h)
    ·exact .inl h
    ·exact h
  ·simp only[List.map_cons,List.mem_cons,Rz he (m:=m)];constructor
   ·rintro(h|h|h)
    ·exact .inr (.inl h)
    ·exact .inl h
    ·exact .inr (.inr h)
   ·rintro(h|h|h)
    ·exact .inr (.inl h)
    ·exact .inl h
    ·exact .inr (.inr h)
theorem NT(he:∀a b,eq a b=true↔a=b){k:α}{v:β}:∀{m:List (α×β)},(m.map (·.1)).Nodup→((B0 eq k v m).map (·.1)).Nodup
 | [],_=>by simp[Om]
 |p::m,h=>by
  rw[Ok];split
  ·exact h
  ·rename_i hk;rw[List.map_cons,List.nodup_cons]at h⊢;refine⟨fun hm=> ?_,NT he h.2⟩;rcases(Rz he).1 hm with e|hm
   ·exact hk ((he _ _).2 e.symm)
   ·exact h.1 hm
theorem NL(he:∀a b,eq a b=true↔a=b){k:α}{v:β}{p:α×β}:∀{m:List (α×β)},(m.map (·.1)).Nodup→(p∈B0 eq k v m↔p=(k,v)∨(p.1≠k∧p∈m))
 | [],_=>by simp[Om]
 |q::m,h=>by
  rw[List.map_cons,List.nodup_cons]at h;rw[Ok];split
  ·rename_i hk;have e:=(he _ _).1 hk;rw[List.mem_cons,List.mem_cons,e];constructor
   ·rintro(h1|h1)
    ·exact .inl h1
    ·exact .inr ⟨fun h2=>h.1 (h2▸List.mem_map_of_mem h1),.inr h1⟩
   ·rintro(h1|⟨h1,h2|h2⟩)
    ·exact .inl h1
    ·exact absurd (by rw[h2]) h1
    ·exact .inr h2
  ·rename_i hk;rw[List.mem_cons,List.mem_cons,NL he h.2];constructor
   ·rintro(h1|h1|h1)
    ·refine .inr ⟨fun h2=>hk ((he _ _).2 ?_),.inl h1⟩;rw[←h2,h1]
    ·exact .inl h1
    ·exact .inr ⟨h1.1,.inr h1.2⟩
   ·rintro(h1|⟨h1,h2|h2⟩)
    ·exact .inr (.inl h1)
    ·exact .inl h2
    ·exact .inr (.inr ⟨h1,h2⟩)
theorem Rf(he:∀a b,eq a b=true↔a=b){z:β}{p:α×β}:∀{m:List (α×β)},(m.map (·.1)).Nodup→p∈m→Bh eq z p.1 m=(p.2,true)
 |q::m,h,hp=>by
  rw[List.map_cons,List.nodup_cons]at h;unfold Bh;rcases List.mem_cons.1 hp with e|hp
  ·rw[if_pos ((he _ _).2 (by rw[e])),e]
  ·rw[if_neg (fun e=>h.1 (by
    have e2:=(he _ _).1 e;rw[←e2]
    exact List.mem_map_of_mem hp))]
   exact Rf he h.2 hp
theorem Rg(he:∀a b,eq a b=true↔a=b){z:β}{k:α}:∀{m:List (α×β)},k∉m.map (·.1)→Bh eq z k m=(z,false)
 | [],_=>rfl
 |q::m,h=>by
  rw[List.map_cons,List.mem_cons]at h;unfold Bh;rw[if_neg (fun e=>h (.inl ((he _ _).1 e)))];exact Rg he fun hh=>h (.inr hh)
end
def nt(t:List UInt8):Int:=if t= []then 0 else(Ay 0 t:Int)
theorem Ss:∀(s:List UInt8) (a:Nat),s.all dgt=true→Ay a s≤1440→Lib.parseUint10 a s=.ok (Ay a s)
 | [],a,_,_=>rfl
 |c::r,a,h,hn=>by
  rw[List.all_cons,Af]at h;have hc:=Cu.1 h.1;have e:Ay a (c::r)=Ay (a*10+(c.toNat-48)) r:=rfl;rw[e]at hn⊢;have:=GA r (a*10+(c.toNat-48));unfold Lib.parseUint10;rw[if_pos hc,if_neg (by omega),if_neg (by omega)];exact Ss r _ h.2 hn
theorem Uy{t:List UInt8}(h:BB t=true)(hn:Ay 0 t≤1440):Lib.atoiAll t=.ok (Ay 0 t:Int):=by
 unfold BB at h;rw[Af,Af]at h;obtain⟨⟨h1,_⟩,h2⟩:=h
 cases t with
 |nil=>cases h1
 |cons c r=>
  have hc:=Cu.1 (by rw[List.all_cons,Af]at h2;exact h2.1);have hp:=Ss (c::r) 0 h2 hn;unfold Lib.atoiAll;simp only;rw[if_neg (by omega)];unfold Lib.parseMag;rw[if_neg (by simp),hp];simp only;rw[if_neg (by omega),if_neg (by omega),if_neg (by omega)]
structure ShF (x:Fac):Prop where
 d: -25567≤x.2.2.2.1∧x.2.2.2.1≤84005
 n:0≤x.2.2.2.2.2.2.1∧x.2.2.2.2.2.2.1≤1440
 t:x.2.2.2.2.2.2.2= []∨(BB x.2.2.2.2.2.2.2=true∧Ay 0 x.2.2.2.2.2.2.2≤1440)
 s:SmF x
theorem Tr{x:Fac}(h:OkF x)(hk:x.2.2.1=6):ShF x:=by
 have hc:=PP h.1;rw[hk]at hc;obtain⟨h1,_,h3,h4,h5⟩:=hc;have h3':(0:Int)≤x.2.2.2.2.2.2.1:=h3;have h4':x.2.2.2.2.2.2.1≤(1440:Int):=h4;refine⟨V5 h1,⟨h3',h4'⟩, ?_,h.2⟩;have h5':(x.2.2.2.2.2.2.2== []||Dk x.2.2.2.2.2.2.2 (u64.wrap (max x.2.2.2.2.2.2.1 0)))=true:=h5;rw[Aj]at h5';rcases h5' with h5'|h5'
 ·exact .inl (by simpa using h5')
 ·right;unfold Dk at h5';rw[Af,decide_eq_true_eq,IntKind.wrap_u64]at h5';refine⟨h5'.1, ?_⟩;have:=h5'.2;omega
theorem Lp{x:Fac}(h:ShF x):0≤nt x.2.2.2.2.2.2.2∧nt x.2.2.2.2.2.2.2≤1440:=by
 unfold nt;rcases h.t with e|⟨_,e⟩
 ·rw[if_pos e];omega
 ·split<;>omega
theorem YX{x:Fac}(h:ShF x):J1 x=some (nt x.2.2.2.2.2.2.2):=by
 have hs:=h.s.2;unfold J1 JA;dsimp only;rw[if_pos (by omega),bs];rcases h.t with e|⟨hc,hn⟩
 ·rw[e];rfl
 ·rw[Uy hc hn];dsimp only;rw[if_neg (by decide)];unfold nt;rw[if_neg];intro e;rw[e]at hc;cases hc
abbrev Cm:=Int×List UInt8
def QF:Cm→Cm→Bool:=eqZ (.agg (.cons (.int .i64) (.one .str)))
theorem QG(a b:Cm):QF a b=true↔a=b:=by
 obtain⟨a1,a2⟩:=a;obtain⟨b1,b2⟩:=b;show((a1==b1)&&(a2==b2))=true↔_;simp
theorem Km(a b:Int):eqZ (.int .i64) a b=true↔a=b:=beq_iff_eq
def inS(s:Int×Int)(d:Int):Bool:=decide (d≥s.1)&&decide (d<s.2)
def tk(x:Fac):Cm:=(x.2.2.2.1,x.2.2.2.2.2.1)
def Gb(P:List Kno)(k:Kno):Prop:=∀m∈P,tk m.2=tk k.2→m.1≤k.1
structure Fx (s:Int×Int) (P:List Kno) (m:List (Cm×Fac)):Prop where
 nd:(m.map (·.1)).Nodup
 mem:∀p,p∈m↔∃k∈P,inS s k.2.2.2.2.1=true∧Gb P k∧p=(tk k.2,k.2)
theorem ZD{s:Int×Int}{P:List Kno}{m:List (Cm×Fac)}(h:Fx s P m){x:Kno}(hx:∀k∈P,k.1<x.1):Fx s (P++ [x]) (if inS s x.2.2.2.2.1=true then B0 QF (tk x.2) x.2 m else m):=by
 obtain⟨hnd,hm⟩:=h;split
 ·rename_i hin;refine⟨NT QG hnd,fun p=> ?_⟩;rw[NL QG hnd,hm];constructor
  ·rintro(h1|⟨h1,k,h2,h3,h4,h5⟩)
   ·refine⟨x,by simp,hin,fun m hm _=> ?_,h1⟩;rcases List.mem_append.1 hm with hm|hm
    ·exact Int.le_of_lt (hx m hm)
    ·rw[List.mem_singleton.1 hm];exact Int.le_refl _
   ·refine⟨k,by simp[h2],h3,fun m hm ht=> ?_,h5⟩;rcases List.mem_append.1 hm with hm|hm
    ·exact h4 m hm ht
    ·rw[List.mem_singleton.1 hm]at ht;exact absurd (by rw[h5,ht]) h1
  ·rintro⟨k,h2,h3,h4,h5⟩
   rcases List.mem_append.1 h2 with h2|h2
   ·right;refine⟨?_,k,h2,h3,fun m hm=>h4 m (by simp[hm]),h5⟩;intro e;rw[h5]at e;have:=h4 x (by simp) e.symm;have:=hx k h2;omega
   ·rw[List.mem_singleton.1 h2]at h5;exact .inl h5
 ·rename_i hin;refine⟨hnd,fun p=> ?_⟩;rw[hm];constructor
  ·rintro⟨k,h2,h3,h4,h5⟩
   refine⟨k,by simp[h2],h3,fun m hm ht=> ?_,h5⟩;rcases List.mem_append.1 hm with hm|hm
   ·exact h4 m hm ht
   ·rw[List.mem_singleton.1 hm]at ht;have:x.2.2.2.2.1=k.2.2.2.2.1:=congrArg (fun q:Cm=>q.1) ht;rw[this]at hin;exact absurd h3 hin
  ·rintro⟨k,h2,h3,h4,h5⟩
   rcases List.mem_append.1 h2 with h2|h2
   ·exact⟨k,h2,h3,fun m hm=>h4 m (by simp[hm]),h5⟩
   ·rw[List.mem_singleton.1 h2]at h3;exact absurd h3 hin
theorem ZC{K:List Kno}(hK:Kn K 60 6)(s:Int×Int):∃m,iter HP (K,(K.length:Int),0,s.1,s.2,[],(),(),(),())=some (m,(),())∧Fx s K m:=by
 have hl:=hK.len
 obtain⟨t,h1,m,h2,h3⟩:=Fh (b:=HP) (fun i (m:List (Cm×Fac))=>(K,(K.length:Int),(i:Int),s.1,s.2,m,(),(),(),())) K.length (fun i m=>Fx s (K.take i) m) (fun t=>∃m,t=(m,(),())∧Fx s K m) (a:= []) ⟨by simp,by simp⟩ (fun i m hi hm=>by
  left;have hx:=Ai hi
  have hup:∀k∈K.take i,k.1<K[i].1:=by
   intro k hk;obtain⟨j,hj,rfl⟩:=List.mem_iff_getElem.1 hk;rw[List.length_take]at hj;rw[List.getElem_take];exact List.pairwise_iff_getElem.1 hK.up j i (by omega) hi (by omega)
  have ht:=ZD hm hup;rw[Fs K i hi]at ht;refine⟨_, ?_,ht⟩;unfold HP;dsimp only;simp only[gPi,gSS,gPb,gPm,gPs,gM,gM2,A9,gOr,AA,AG,gAA,gAO,gOA,gOO,A6,A8,AB,AE,A7,AD,gId];try simp only[AL,AM,AN,AO,AP,AQ,AR,AS,gId,AV,gMb,gMm,gBm,gBb,bs,ms]
  rw[BP hx,if_pos rfl,Bd hx,bs,←Bu (i:=i) (by omega)];generalize K[i]=x;unfold inS;cases decide (x.2.2.2.2.1≥s.1)
  ·rfl
  ·rw[if_pos rfl];cases decide (x.2.2.2.2.1<s.2)
   ·rfl
   ·rfl) (fun m hm=>by
  rw[List.take_length]at hm;refine⟨_, ?_,m,rfl,hm⟩;unfold HP;dsimp only
  rw[Cb,if_neg (by decide)])
 exact⟨m,by rw[show iter HP (K,(K.length:Int),0,s.1,s.2,[],(),(),(),())=_ from h1,h2],h3⟩
def BJ(f:Fac→Int)(d:Int)(P:List (Cm×Fac)):Int:=((P.filter fun e=>e.1.1==d).map fun e=>f e.2).sum
def nmF(x:Fac):Int:=x.2.2.2.2.2.2.1
def ntF(x:Fac):Int:=nt x.2.2.2.2.2.2.2
theorem T8(f:Fac→Int)(d:Int)(P:List (Cm×Fac))(e:Cm×Fac):BJ f d (P++ [e])=BJ f d P+if e.1.1=d then f e.2 else 0:=by
 unfold BJ;rw[List.filter_append,List.map_append,List.sum_append]
 congr 1
 by_cases h:e.1.1=d
 ·rw[if_pos h,List.filter_cons_of_pos (by simpa using h)];simp
 ·rw[if_neg h,List.filter_cons_of_neg (by simpa using h)];simp
theorem OK{f:Fac→Int}{d:Int}:∀{P:List (Cm×Fac)},(∀e∈P,0≤f e.2∧f e.2≤1440)→0≤BJ f d P∧BJ f d P≤1440*P.length
 | [],_=>by simp[BJ]
 |e::P,h=>by
  have ih:=OK (f:=f) (d:=d) (P:=P) fun x hx=>h x (by simp[hx]);have he:=h e (by simp)
  have:BJ f d (e::P)=(if e.1.1=d then f e.2 else 0)+BJ f d P:=by
   unfold BJ;by_cases hd:e.1.1=d
   ·rw[if_pos hd,List.filter_cons_of_pos (by simpa using hd)];simp
   ·rw[if_neg hd,List.filter_cons_of_neg (by simpa using hd)];simp
  rw[this,List.length_cons];split<;>omega
theorem T7{f:Fac→Int}{d:Int}{P:List (Cm×Fac)}(h:¬∃e∈P,e.1.1=d):BJ f d P=0:=by
 unfold BJ
 rw[List.filter_eq_nil_iff.2 (fun e he=>by
  intro hh
  exact h ⟨e,he,by simpa using hh⟩)]
 rfl
theorem OL{f:Fac→Int}{d:Int}{P Q:List (Cm×Fac)}(h:P.Perm Q):BJ f d P=BJ f d Q:=by
 unfold BJ;have:=(h.filter fun e=>e.1.1==d).map fun e=>f e.2;generalize ((P.filter fun e=>e.1.1==d).map fun e=>f e.2)=a at*;generalize ((Q.filter fun e=>e.1.1==d).map fun e=>f e.2)=b at*
 induction this with
 |nil=>rfl
 |cons x _ ih=>simp only[List.sum_cons,ih]
 |swap x y l=>simp only[List.sum_cons];omega
 |trans _ _ i1 i2=>exact i1.trans i2
abbrev En:=Int×Int×Int
structure JH (P:List (Cm×Fac)) (m:List (Int×En)):Prop where
 nd:(m.map (·.1)).Nodup
 mem:∀p,p∈m↔(∃e∈P,e.1.1=p.1)∧p.2=(p.1,BJ nmF p.1 P,BJ ntF p.1 P)
theorem Qr{P:List (Cm×Fac)}{m:List (Int×En)}(h:JH P m){z:En}(hz:z.2=(0,0))(d:Int):(Bh (eqZ (.int .i64)) z d m).1.2=(BJ nmF d P,BJ ntF d P)∧((∃e∈P,e.1.1=d)→(Bh (eqZ (.int .i64)) z d m).1.1=d):=by
 by_cases hd:∃e∈P,e.1.1=d
 ·have:((d,(d,BJ nmF d P,BJ ntF d P)):Int×En)∈m:=(h.mem _).2 ⟨hd,rfl⟩;have:=Rf Km (z:=z) h.nd this;rw[this];exact⟨rfl,fun _=>rfl⟩
 ·have hk:d∉m.map (·.1):=by
   intro hm;obtain⟨p,hp,e⟩:=List.mem_map.1 hm;have:=((h.mem p).1 hp).1;rw[e]at this;exact hd this
  rw[Rg Km hk,T7 hd,T7 hd];exact⟨hz,fun h=>absurd h hd⟩
theorem Qs{zz:En}:∀(π P:List (Cm×Fac)) (m:List (Int×En)),P.length+π.length≤60→(∀e∈P++π,ShF e.2)→JH P m→
  ∃m',EP Jz O8 π (m,(),())=some (m',(),())∧JH (P++π) m'
 | [],P,m,_,_,h=>⟨m,rfl,by simpa using h⟩
 |e::π,P,m,hl,hs,h=>by
  rw[List.length_cons]at hl;have hse:=hs e (by simp);have hn:=Lp hse;have hnum:=hse.n;obtain⟨g1,_⟩:=Qr h (z:=Bv (.agg (.cons (.int .i64) (.cons (.int .i64) (.one (.int .i64)))))) rfl e.1.1;have b1:=OK (f:=nmF) (d:=e.1.1) (P:=P) fun x hx=>(hs x (by simp[hx])).n;have b2:=OK (f:=ntF) (d:=e.1.1) (P:=P) fun x hx=>Lp (hs x (by simp[hx]))
  have hstep:Jz e (m,(),())=some (.inl (B0 (eqZ (.int .i64)) e.1.1 (e.1.1,BJ nmF e.1.1 P+nmF e.2,BJ ntF e.1.1 P+ntF e.2) m,(),())):=by
   unfold Jz;dsimp only;rw[show J1 (e.2.1,e.2.2.1,e.2.2.2.1,e.2.2.2.2.1,e.2.2.2.2.2.1,e.2.2.2.2.2.2.1,e.2.2.2.2.2.2.2.1,e.2.2.2.2.2.2.2.2)=_ from YX hse,bs];rw[g1];dsimp only;rw[A3 (by omega) (by omega),A3 (by omega) (by omega)];rfl
  have hd:JH (P++ [e]) (B0 (eqZ (.int .i64)) e.1.1 (e.1.1,BJ nmF e.1.1 P+nmF e.2,BJ ntF e.1.1 P+ntF e.2) m):=by
   refine⟨NT Km h.nd,fun p=> ?_⟩;rw[NL Km h.nd,h.mem,T8,T8];constructor
   ·rintro(h1|⟨h1,⟨x,hx,h2⟩,h3⟩)
    ·subst h1;refine⟨⟨e,by simp,rfl⟩, ?_⟩;dsimp only;rw[if_pos rfl,if_pos rfl]
    ·refine⟨⟨x,by simp[hx],h2⟩, ?_⟩;rw[if_neg (fun e=>h1 e.symm),if_neg (fun e=>h1 e.symm),h3,Int.add_zero,Int.add_zero]
   ·rintro⟨⟨x,hx,h2⟩,h3⟩
    by_cases he:e.1.1=p.1
    ·left;rw[if_pos he,if_pos he]at h3;rw[he,←h3]
    ·right;rw[if_neg he,if_neg he,Int.add_zero,Int.add_zero]at h3;refine⟨fun hh=>he hh.symm,⟨x, ?_,h2⟩,h3⟩;rcases List.mem_append.1 hx with hx|hx
     ·exact hx
     ·rw[List.mem_singleton.1 hx]at h2;exact absurd h2 he
  obtain⟨m',h1,h2⟩:=Qs (zz:=zz) π (P++ [e]) _ (by simp;omega) (by simpa using hs) hd;refine⟨m', ?_,by simpa using h2⟩;rw[EP,hstep];exact h1
def CC(K:List Kno)(k:Kno):Bool:=K.all fun m=>decide (tk m.2=tk k.2→m.1≤k.1)
theorem M5{K:List Kno}{k:Kno}:CC K k=true↔Gb K k:=by
 unfold CC Gb;rw[List.all_eq_true];exact forall_congr' fun m=>forall_congr' fun _=>decide_eq_true_iff
def CZ(f:Fac→Int)(K:List Kno)(d:Int):Int:=((K.filter fun k=>k.2.2.2.2.1==d&&CC K k).map fun k=>f k.2).sum
def BY(K:List Kno)(d:Int):En:=(d,CZ nmF K d,CZ ntF K d)
def EH(K:List Kno)(L:List Int):List En×Int:=if(L.all fun d=>decide (CZ nmF K d≤1440))=true then(L.map (BY K),0)else([],2)
structure Da (K:List Kno) (s:Int×Int) (L:List Int):Prop where
 up:L.Pairwise (· < ·)
 mem:∀d,d∈L↔∃k∈K,inS s k.2.2.2.2.1=true∧k.2.2.2.2.1=d
theorem OS{a b:List Int}(ha:a.Pairwise (· < ·))(hb:b.Pairwise (· < ·))(h:∀x,x∈a↔x∈b):a=b:=by
 refine List.Perm.eq_of_pairwise (le:=fun x y=>x<y) (fun x y _ _ h1 h2=>by omega) ha hb ?_;exact(List.perm_ext_iff_of_nodup (ha.imp fun h=>by omega) (hb.imp fun h=>by omega)).2 h
theorem TH{K:List Kno}{n:Nat}{kd:Int}(hK:Kn K n kd){s:Int×Int}{m:List (Cm×Fac)}(h:Fx s K m):m.Perm ((K.filter fun k=>inS s k.2.2.2.2.1&&CC K k).map fun k=>(tk k.2,k.2)):=by
 refine(List.perm_ext_iff_of_nodup ((List.pairwise_map.1 h.nd).imp fun h e=>h (congrArg _ e)) ?_).2 fun p=> ?_
 ·refine List.pairwise_map.2 ((List.Pairwise.filter _ hK.up).imp_of_mem ?_);intro a b ha hb hab e;rw[List.mem_filter,Af,M5]at ha hb;have:=ha.2.2 b hb.1 (congrArg Prod.fst e).symm;omega
 ·rw[h.mem,List.mem_map];constructor
  ·rintro⟨k,h1,h2,h3,h4⟩
   exact⟨k,List.mem_filter.2 ⟨h1,by rw[Af,M5];exact⟨h2,h3⟩⟩,h4.symm⟩
  ·rintro⟨k,h1,h2⟩
   rw[List.mem_filter,Af,M5]at h1;exact⟨k,h1.1,h1.2.1,h1.2.2,h2.symm⟩
theorem TA{K:List Kno}{n:Nat}{kd:Int}(hK:Kn K n kd){s:Int×Int}{m:List (Cm×Fac)}(h:Fx s K m){d:Int}(hd:inS s d=true)(f:Fac→Int):BJ f d m=CZ f K d:=by
 rw[OL (TH hK h)];unfold BJ CZ;rw[List.filter_map,List.map_map,List.filter_filter]
 congr 2
 refine List.filter_congr fun k _=> ?_;show((k.2.2.2.2.1==d)&&(inS s k.2.2.2.2.1&&CC K k))=_;by_cases e:k.2.2.2.2.1=d
 ·rw[e,hd,Bool.true_and]
 ·rw[show(k.2.2.2.2.1==d)=false by simpa using e];rfl
theorem U4{K:List Kno}{n:Nat}{kd:Int}(hK:Kn K n kd):∀k∈K,∃k'∈K,tk k'.2=tk k.2∧Gb K k':=by
 have key:∀(j:Nat) (k:Kno),k∈K→(n:Int)-k.1≤j→∃k'∈K,tk k'.2=tk k.2∧Gb K k':=by
  intro j
  induction j with
  |zero=>
   intro k hk hj;refine⟨k,hk,rfl,fun m hm _=> ?_⟩;have:=(hK.ok m hm).2.1;omega
  |succ j ih=>
   intro k hk hj;by_cases hl:Gb K k
   ·exact⟨k,hk,rfl,hl⟩
   ·unfold Gb at hl;obtain⟨m,hm⟩:=Classical.not_forall.1 hl;obtain⟨hm1,hm2⟩:=Classical.not_imp.1 hm;obtain⟨hm2,hm3⟩:=Classical.not_imp.1 hm2;obtain⟨k',h1,h2,h3⟩:=ih m hm1 (by omega);exact⟨k',h1,h2.trans hm2,h3⟩
 intro k hk;exact key ((n:Int)-k.1).toNat k hk (by omega)
theorem Y8{K:List Kno}(hK:Kn K 60 6){s:Int×Int}{L:List Int}(hL:Da K s L){m:List (Cm×Fac)}(hm:Fx s K m){π:List (Cm×Fac)}(hπ:π.Perm m):
  (Option.bind (EP Jz O8 π (([]:List ((Int)×(Int×Int×Int))),(),())) fun o=>
   let l50:=o.1
   Option.bind (Lh l50) fun x79=>
   Option.bind (HQ x79) fun x80=>
   let x81:=(x80.length:Int)
   Option.bind (iter HO (l50,x80,x81,(0:Int),([]:List (Int×Int×Int)),(),())) fun o=>
   match o with
   |Sum.inl p69=>(
    let l1016:=p69.1
    some (l1016,(0:Int)))
   |Sum.inr q70=>(
    some q70))=some (EH K L):=by
 have hlen:m.length≤60:=by
  rw[(TH hK hm).length_eq,List.length_map];exact Nat.le_trans (List.length_filter_le _ _) hK.len
 have hsh:∀e∈π,ShF e.2∧inS s e.1.1=true∧ -25567≤e.1.1∧e.1.1≤84005:=by
  intro e he;obtain⟨k,h1,h2,_,rfl⟩:=(hm.mem e).1 (hπ.mem_iff.1 he);obtain⟨_,_,h3,h4⟩:=hK.ok k h1;have:=Tr h3 h4;exact⟨this,h2,this.d⟩
 have hπl:=hπ.length_eq;obtain⟨dm,hd1,hd2⟩:=Qs (zz:=(0,0,0)) π [] [] (by simp;omega) (fun e he=>(hsh e (by simpa using he)).1) ⟨by simp,by simp⟩;rw[List.nil_append]at hd2;rw[hd1,bs]
 have hmem:∀d,d∈dm.map (·.1)↔d∈L:=by
  intro d;rw[hL.mem,List.mem_map];constructor
  ·rintro⟨p,hp,rfl⟩
   obtain⟨⟨e,he,h1⟩,_⟩:=(hd2.mem p).1 hp;obtain⟨k,h3,h4,_,h5⟩:=(hm.mem e).1 (hπ.mem_iff.1 he);exact⟨k,h3,h4,by rw[←h1,h5];rfl⟩
  ·rintro⟨k,h1,h2,rfl⟩
   obtain⟨k',h3,h4,h5⟩:=U4 hK k h1;have hdd:k'.2.2.2.2.1=k.2.2.2.2.1:=congrArg (fun q:Cm=>q.1) h4;refine⟨(k.2.2.2.2.1,(k.2.2.2.2.1,BJ nmF k.2.2.2.2.1 π,BJ ntF k.2.2.2.2.1 π)),(hd2.mem _).2 ⟨⟨(tk k'.2,k'.2),hπ.mem_iff.2 ((hm.mem _).2 ⟨k',h3,by rw[hdd];exact h2,h5,rfl⟩),hdd⟩,rfl⟩,rfl⟩
 have hsort:(dm.map (·.1)).mergeSort leZ=L:=by
  have hp:=List.mergeSort_perm (dm.map (·.1)) leZ;refine OS ?_ hL.up fun d=>by rw[hp.mem_iff,hmem]
  have hs:=List.pairwise_mergeSort (le:=leZ) (fun a b c h1 h2=>by
   simp only[leZ,decide_eq_true_eq]at*
   omega) (fun a b=>by
   simp only[leZ,Aj,decide_eq_true_eq]
   omega) (dm.map (·.1))
  have hn:((dm.map (·.1)).mergeSort leZ).Nodup:=hp.nodup_iff.2 hd2.nd;refine(hs.and hn).imp fun{a b} h=> ?_;have h1:=h.1;have h2:=h.2;simp only[leZ,decide_eq_true_eq]at h1;omega
 have hLl:L.length≤60:=by
  rw[←hsort,List.length_mergeSort,List.length_map]
  have:(dm.map (·.1)).length≤(π.map (·.1.1)).length:=by
   refine hd2.nd.length_le_of_subset fun d hd=> ?_;obtain⟨p,hp,rfl⟩:=List.mem_map.1 hd;obtain⟨⟨e,he,h1⟩,_⟩:=(hd2.mem p).1 hp;exact List.mem_map.2 ⟨e,he,h1⟩
  rw[List.length_map,List.length_map]at this;omega
 have hdl:dm.length=L.length:=by rw[←hsort,List.length_mergeSort,List.length_map]
 dsimp only;unfold Lh;dsimp only;rw[bs];unfold HQ
 rw[if_pos ⟨by omega,List.all_eq_true.2 fun p hp=>by
  obtain⟨⟨e,he,h1⟩,_⟩:=(hd2.mem p).1 hp;have:=(hsh e he).2.2;rw[h1]at this
  exact Al (by omega)⟩,bs,hsort]
 have hg:∀d∈L,(Bh (eqZ (.int .i64)) (Bv (.agg (.cons (.int .i64) (.cons (.int .i64) (.one (.int .i64)))))) d dm).1=BY K d:=by
  intro d hd;obtain⟨p,hp,e⟩:=List.mem_map.1 ((hmem d).2 hd);have hex:=((hd2.mem p).1 hp).1;rw[e]at hex;obtain⟨g1,g2⟩:=Qr hd2 (z:=Bv (.agg (.cons (.int .i64) (.cons (.int .i64) (.one (.int .i64)))))) rfl d;obtain⟨k,_,hk,hkd⟩:=(hL.mem d).1 hd;rw[hkd]at hk;have s1:=(OL (f:=nmF) (d:=d) hπ).trans (TA hK hm hk nmF);have s2:=(OL (f:=ntF) (d:=d) hπ).trans (TA hK hm hk ntF);rw[s1,s2]at g1;have g3:=g2 hex;exact Prod.ext g3 g1
 obtain⟨t,h1,h2⟩:=Fh (b:=HO) (fun i (o:List En)=>(dm,L,(L.length:Int),(i:Int),o,(),())) L.length (fun i o=>o=(L.take i).map (BY K)∧∀d∈L.take i,CZ nmF K d≤1440)
  (fun t=>(∃o,t=.inl (o,(),())∧EH K L=(o,0))∨(t=.inr ([],2)∧EH K L=([],2))) (a:= []) ⟨rfl,by simp⟩ (fun i o hi ho=>by
  obtain⟨rfl,hbd⟩:=ho;have hx:=Ai hi;have hmemL:=List.getElem_mem hi;have hgi:=hg _ hmemL;unfold HO;dsimp only;rw[BP hx,if_pos rfl,Bd hx,ms,bs,hgi];by_cases hgt:CZ nmF K L[i]>1440
  ·right;refine⟨_,if_pos (Al hgt),.inr ⟨rfl, ?_⟩⟩;unfold EH;rw[if_neg];intro hall;have:=List.all_eq_true.1 hall _ hmemL;rw[decide_eq_true_eq]at this;omega
  ·left;rw[if_neg (show ¬decide ((BY K L[i]).2.1>1440)=true by rw[decide_eq_true_eq];exact hgt)];rw[if_pos (by simp;omega),bs,Bu (by omega)];refine⟨_,rfl, ?_, ?_⟩
   ·rw[←Fs L i hi,List.map_append];rfl
   ·intro d hd;rw[←Fs L i hi]at hd;rcases List.mem_append.1 hd with hd|hd
    ·exact hbd d hd
    ·rw[List.mem_singleton.1 hd];omega) (fun o ho=>by
  obtain⟨rfl,hbd⟩:=ho;rw[List.take_length]at hbd⊢;refine⟨.inl (L.map (BY K),(),()), ?_,.inl ⟨_,rfl, ?_⟩⟩
  ·unfold HO;dsimp only;rw[Cb,if_neg (by decide)]
  ·unfold EH
   rw[if_pos (List.all_eq_true.2 fun d hd=>Al (hbd d hd))])
 rw[show iter HO (dm,L,(L.length:Int),0,[],(),())=_ from h1,bs];rcases h2 with⟨o,rfl,h2⟩|⟨rfl,h2⟩
 ·rw[h2]
 ·rw[h2]
theorem Um{v:List Fac}{p:Int}{s:Int×Int}{K:List Kno}(hF:HW (v,p,6)=some K)(hK:Kn K 60 6){L:List Int}(hL:Da K s L):Jy (v,p,s)=some (EH K L):=by
 obtain⟨m,h1,h2⟩:=ZC hK s;unfold Jy;dsimp only;rw[hF,bs,h1,bs];exact Sv.2 fun π hπ=>Y8 hK hL h2 hπ
set_option linter.unusedSimpArgs false
set_option linter.unusedVariables false
abbrev Kr:=Int×Int×List UInt8×Int×List UInt8
def kn(k:Kno):Kr:=(k.1,k.2.2.2.2.1,k.2.2.2.2.2.2.1,k.2.2.2.2.2.2.2.1,k.2.2.2.2.2.2.2.2)
theorem XP{pre t:List UInt8}{b:UInt8}{n:Nat}(hd:dgt b=true)(hl:pre.length+(b::t).length≤1000)(hn:n*10+(b.toNat-48)≤1440):GP (pre++b::t,(n:Int),(pre.length:Int),())=some (.inl (pre++b::t,((n*10+(b.toNat-48):Nat):Int),((pre++ [b]).length:Int),())):=by
 have hb:=Cu.1 hd;simp only[List.length_cons]at hl;unfold GP;dsimp only;rw[Al (by simp;omega),if_pos rfl,Th,bs,A3 (n:=10*(n:Int)) (by omega) (by omega),A3 (n:=(b.toNat:Int)) (by omega) (by omega),A3 (n:=10*(n:Int)+b.toNat) (by omega) (by omega),A3 (by omega) (by omega),Bu (by omega)]
 congr 4
 ·omega
 ·rw[List.length_append,List.length_singleton]
theorem NX:∀(t pre:List UInt8) (n:Nat),pre.length+t.length≤1000→t.all dgt=true→Ay n t≤1440→iter GP (pre++t,(n:Int),(pre.length:Int),())=some ((Ay n t:Int),())
 | [],pre,n,hl,_,_=>by
  refine itR ?_;unfold GP;dsimp only;rw[Ak (by simp),if_neg (by decide)];rfl
 |b::t,pre,n,hl,hd,hn=>by
  rw[List.all_cons,Af]at hd;have e:Ay n (b::t)=Ay (n*10+(b.toNat-48)) t:=rfl;have:=GA t (n*10+(b.toNat-48));rw[BV,XP hd.1 hl (by omega)];have ih:=NX t (pre++ [b]) (n*10+(b.toNat-48)) (by simp only[List.length_append,List.length_cons,List.length_nil]at*;omega) hd.2 (by omega);rw[List.append_assoc,List.singleton_append]at ih;exact ih
theorem XQ{x:Fac}(h:ShF x):Jp x.2.2.2.2.2.2.2=some (nt x.2.2.2.2.2.2.2):=by
 have hs:=h.s.2;unfold Jp nt;dsimp only;rcases h.t with e|⟨hc,hn⟩
 ·rw[e];have:=NX [] [] 0 (by simp) rfl (by simp[Ay]);rw[show iter GP ([],0,0,())=_ from this,bs];rfl
 ·rw[if_neg (fun e=>by rw[e]at hc;cases hc)];unfold BB at hc;rw[Af]at hc;have:=NX x.2.2.2.2.2.2.2 [] 0 (by simp;omega) hc.2 hn;rw[show iter GP (x.2.2.2.2.2.2.2,0,0,())=_ from this,bs]
theorem Ra{α T:Type}(p:α→Bool)(fin:Bool→T):∀(l:List α) (b:Bool),Bg (fun b x=>Sum.inl (b&&p x)) fin b l=fin (b&&l.all p)
 | [],b=>by simp[Bg]
 |x::l,b=>by
  rw[Bg];simp only;rw[Ra p fin l,List.all_cons,Bool.and_assoc]
theorem G6{α β:Type}(f:α→β){l:List α}{i:Nat}{x:α}(h:l[i]? =some x):lAt (l.map f) (i:Int)=some (f x):=Bd (by rw[List.getElem?_map,h];rfl)
theorem U3{K:List Kno}(hK:K.length≤60){i:Nat}{k:Kno}(hk:K[i]? =some k)(out:List En)(z d at_ s1 s2 e0 e1 e2:Int):
  iter GN (K.map kn,out,z,d,at_,(i:Int),k.2.2.2.2.1==d,0,s1,s2,e0,e1,e2,(),(),(),(),())=some (K.map kn,out,z,d,at_,(i:Int),k.2.2.2.2.1==d&&CC K k,s1,s2,e0,e1,e2,(),(),(),(),()):=by
 have key:=Eu (b:=GN) (α:=Kno) (A:=Bool) (fun j b=>(K.map kn,out,z,d,at_,(i:Int),b,(j:Int),s1,s2,e0,e1,e2,(),(),(),(),())) (fun b x=>.inl (b&&(((x.2.2.2.2.1 !=d)|| !(x.2.2.2.2.2.2.1==k.2.2.2.2.2.2.1))||decide (x.1≤k.1)))) (fun b=>(K.map kn,out,z,d,at_,(i:Int),b,s1,s2,e0,e1,e2,(),(),(),(),())) (fun _ _=>True) K (a:=k.2.2.2.2.1==d) trivial (fun j x b hx _=>by
  have hj:=(Ae.1 hx).1;unfold GN;dsimp only;simp only[gPi,gSS,gPb,gPm,gPs,gM,gM2,A9,gOr,AA,AG,gAA,gAO,gOA,gOO,A6,A8,AB,AE,A7,AD,gId];try simp only[AL,AM,AN,AO,AP,AQ,AR,AS,gId,AV,gMb,gMm,gBm,gBb,bs,ms]
  rw[List.length_map,BP hx,if_pos rfl,G6 kn hx,G6 kn hk,Bu (by omega)];simp only[bs];cases b
  ·rfl
  ·rw[if_pos rfl];show((if((kn x).2.1 !=d)=true then some true else some (!(kn x).2.2.1==(kn k).2.2.1)).bind fun z=>if z=true then some true else some (decide ((kn x).1≤(kn k).1))).bind _=_;unfold kn;dsimp only
   cases (x.2.2.2.2.1 !=d)<;>cases (x.2.2.2.2.2.2.1==k.2.2.2.2.2.2.1)<;>rfl) (fun _ _ _ _ _ _ _=>trivial) (fun b _=>by
  unfold GN;dsimp only
  rw[List.length_map,Cb,if_neg (by decide)])
 rw[Ra]at key;rw[show iter GN (K.map kn,out,z,d,at_,(i:Int),k.2.2.2.2.1==d,0,s1,s2,e0,e1,e2,(),(),(),(),())=_ from key]
 congr 2
 by_cases hd:k.2.2.2.2.1=d
 ·have:(K.all fun x=>(x.2.2.2.2.1 !=d|| !(x.2.2.2.2.2.2.1==k.2.2.2.2.2.2.1)||decide (x.1≤k.1)))=CC K k:=by
   unfold CC
   congr 1
   funext x;unfold tk;rw[Bool.eq_iff_iff];simp only[Aj,bne_iff_ne,Bool.not_eq_true',beq_eq_false_iff_ne,decide_eq_true_eq,Prod.mk.injEq];rw[hd];constructor
   ·rintro((h|h)|h) ⟨h1,h2⟩
    ·exact absurd h1 h
    ·exact absurd h2 h
    ·exact h
   ·intro h;by_cases h1:x.2.2.2.2.1=d
    ·by_cases h2:x.2.2.2.2.2.2.1=k.2.2.2.2.2.2.1
     ·exact .inr (h ⟨h1,h2⟩)
     ·exact .inl (.inr h2)
    ·exact .inl (.inl h1)
  rw[this]
 ·rw[show(k.2.2.2.2.1==d)=false by simpa using hd];rfl
def DP(f:Fac→Int)(K P:List Kno)(d:Int):Int:=((P.filter fun k=>k.2.2.2.2.1==d&&CC K k).map fun k=>f k.2).sum
theorem T9(f:Fac→Int)(K P:List Kno)(d:Int)(x:Kno):DP f K (P++ [x]) d=DP f K P d+if(x.2.2.2.2.1==d&&CC K x)=true then f x.2 else 0:=by
 unfold DP;rw[List.filter_append,List.map_append,List.sum_append]
 congr 1
 by_cases h:(x.2.2.2.2.1==d&&CC K x)=true
 ·rw[if_pos h,List.filter_cons_of_pos (p:=fun k:Kno=>k.2.2.2.2.1==d&&CC K k) h];simp
 ·rw[if_neg h,List.filter_cons_of_neg (p:=fun k:Kno=>k.2.2.2.2.1==d&&CC K k) h];simp
theorem OM{f:Fac→Int}{K:List Kno}{d:Int}:∀{P:List Kno},(∀e∈P,0≤f e.2∧f e.2≤1440)→0≤DP f K P d∧DP f K P d≤1440*P.length
 | [],_=>by simp[DP]
 |e::P,h=>by
  have ih:=OM (f:=f) (K:=K) (d:=d) (P:=P) fun x hx=>h x (by simp[hx]);have he:=h e (by simp)
  have:DP f K (e::P) d=(if(e.2.2.2.2.1==d&&CC K e)=true then f e.2 else 0)+DP f K P d:=by
   unfold DP;by_cases hd:(e.2.2.2.2.1==d&&CC K e)=true
   ·rw[if_pos hd,List.filter_cons_of_pos (p:=fun k:Kno=>k.2.2.2.2.1==d&&CC K k) hd];simp
   ·rw[if_neg hd,List.filter_cons_of_neg (p:=fun k:Kno=>k.2.2.2.2.1==d&&CC K k) hd];simp
  rw[this,List.length_cons];split<;>omega
theorem Ny{K:List Kno}(hK:Kn K 60 6){k:Kno}(hk:k∈K):ShF k.2:=by
 obtain⟨_,_,h3,h4⟩:=hK.ok k hk;exact Tr h3 h4
theorem Zq{K:List Kno}(hK:Kn K 60 6)(out:List En)(z d at_ s1 s2:Int):
  iter GO (K.map kn,out,z,d,at_,0,s1,s2,d,0,0,(),(),(),(),())=some (K.map kn,out,z,at_,s1,s2,d,CZ nmF K d,CZ ntF K d,(),(),(),(),()):=by
 have hl:=hK.len
 obtain⟨t,h1,h2⟩:=Fh (b:=GO) (fun i (a:Int×Int)=>(K.map kn,out,z,d,at_,(i:Int),s1,s2,d,a.1,a.2,(),(),(),(),())) K.length (fun i a=>a=(DP nmF K (K.take i) d,DP ntF K (K.take i) d)) (fun t=>t=(K.map kn,out,z,at_,s1,s2,d,CZ nmF K d,CZ ntF K d,(),(),(),(),())) (a:=(0,0)) rfl (fun i a hi ha=>by
  left;subst ha;have hx:=Ai hi;have hmem:=List.getElem_mem hi;have hsh:=Ny hK hmem;have hn:=Lp hsh;have hnum:=hsh.n;have b1:=OM (f:=nmF) (K:=K) (d:=d) (P:=K.take i) fun e he=>(Ny hK (List.mem_of_mem_take he)).n;have b2:=OM (f:=ntF) (K:=K) (d:=d) (P:=K.take i) fun e he=>Lp (Ny hK (List.mem_of_mem_take he));rw[List.length_take]at b1 b2;refine⟨_, ?_,rfl⟩;rw[←Fs K i hi,T9,T9];have hnb:Jp (kn K[i]).2.2.2.2=some (ntF K[i].2):=XQ hsh;unfold GO;dsimp only;simp only[gPi,gSS,gPb,gPm,gPs,gM,gM2,A9,gOr,AA,AG,gAA,gAO,gOA,gOO,A6,A8,AB,AE,A7,AD,gId];try simp only[AL,AM,AN,AO,AP,AQ,AR,AS,gId,AV,gMb,gMm,gBm,gBb,bs,ms]
  rw[List.length_map,BP hx,if_pos rfl,G6 kn hx,bs];rw[show iter GN (K.map kn,out,z,d,at_,(i:Int),(kn K[i]).2.1==d,0,s1,s2,d,DP nmF K (K.take i) d,DP ntF K (K.take i) d,(),(),(),(),())=_ from U3 hl hx out z d at_ s1 s2 d _ _,bs];dsimp only;cases hb:(K[i].2.2.2.2.1==d&&CC K K[i])
  ·rw[if_neg (by decide),bs,Bu (by omega)];simp
  ·rw[if_pos rfl,if_pos rfl,if_pos rfl,G6 kn hx,bs,bs,hnb,bs,bs];have e1:(kn K[i]).2.2.2.1=nmF K[i].2:=rfl;rw[e1,Bu (by omega)];have i1:0≤nmF K[i].2∧nmF K[i].2≤1440:=hnum;have i2:0≤ntF K[i].2∧ntF K[i].2≤1440:=hn
   rw[A3 (by omega) (by omega),A3 (by omega) (by omega)]) (fun a ha=>by
  subst ha;rw[List.take_length];refine⟨_, ?_,rfl⟩;unfold GO;dsimp only;rw[List.length_map,Cb,if_neg (by decide)]
  rfl)
 rw[show iter GO (K.map kn,out,z,d,at_,0,s1,s2,d,0,0,(),(),(),(),())=_ from h1,h2]
theorem Ux{l:List Kr}{out:List En}(ho:out.length≤60)(z d s1 s2:Int):∃a:Nat,a≤out.length∧iter HG (l,out,z,d,0,s1,s2,(),(),())=some (l,out,z,d,(a:Int),s1,s2,(),(),())∧(∀x∈out.take a,x.1<d)∧∀x,out[a]? =some x→¬x.1<d:=by
 obtain⟨t,h1,a,h2,h3,h4,h5⟩:=Fh (b:=HG) (fun i (_:Unit)=>(l,out,z,d,(i:Int),s1,s2,(),(),())) out.length (fun i _=>∀x∈out.take i,x.1<d) (fun t=>∃a:Nat,a≤out.length∧t=(l,out,z,d,(a:Int),s1,s2,(),(),())∧(∀x∈out.take a,x.1<d)∧∀x,out[a]? =some x→¬x.1<d) (a:=()) (by simp) (fun i _ hi ha=>by
  have hx:=Ai hi;unfold HG;dsimp only;simp only[gPi,gSS,gPb,gPm,gPs,gM,gM2,A9,gOr,AA,AG,gAA,gAO,gOA,gOO,A6,A8,AB,AE,A7,AD,gId];try simp only[AL,AM,AN,AO,AP,AQ,AR,AS,gId,AV,gMb,gMm,gBm,gBb,bs,ms]
  rw[BP hx,if_pos rfl,Bd hx,bs,bs];by_cases hlt:out[i].1<d
  ·left;rw[Al hlt,if_pos rfl,Bu (by omega)];refine⟨(),rfl,fun x hx=> ?_⟩;rw[←Fs out i hi]at hx;rcases List.mem_append.1 hx with hx|hx
   ·exact ha x hx
   ·rw[List.mem_singleton.1 hx];exact hlt
  ·right;rw[Ak hlt,if_neg (by decide)];refine⟨_,rfl,i,by omega,rfl,ha,fun x hx2=> ?_⟩;rw[hx]at hx2;cases hx2
   exact hlt) (fun _ ha=>by
  refine⟨_, ?_,out.length,Nat.le_refl _,rfl,ha,fun x hx=> ?_⟩
  ·unfold HG;dsimp only;simp only[gPi,gSS,gPb,gPm,gPs,gM,gM2,A9,gOr,AA,AG,gAA,gAO,gOA,gOO,A6,A8,AB,AE,A7,AD,gId];try simp only[AL,AM,AN,AO,AP,AQ,AR,AS,gId,AV,gMb,gMm,gBm,gBb,bs,ms]
   rw[Cb,if_neg (by decide),bs,if_neg (by decide)]
  ·rw[List.getElem?_eq_none (Nat.le_refl _)]at hx
   cases hx)
 exact⟨a,h2,by rw[show iter HG (l,out,z,d,0,s1,s2,(),(),())=_ from h1,h3],h4,h5⟩
theorem Kb{P:List Kno}{s:Int×Int}{L:List Int}(h:Da P s L){x:Kno}(hx:inS s x.2.2.2.2.1=true→x.2.2.2.2.1∈L):Da (P++ [x]) s L:=by
 refine⟨h.up,fun d=> ?_⟩;rw[h.mem];constructor
 ·rintro⟨k,h1,h2⟩
  exact⟨k,by simp[h1],h2⟩
 ·rintro⟨k,h1,h2,h3⟩
  rcases List.mem_append.1 h1 with h1|h1
  ·exact⟨k,h1,h2,h3⟩
  ·rw[List.mem_singleton.1 h1]at h2 h3;obtain⟨k',h4,h5,h6⟩:=(h.mem _).1 (hx h2);exact⟨k',h4,h5,h6.trans h3⟩
theorem Qp{P:List Kno}{s:Int×Int}{A B:List Int}(h:Da P s (A++B)){x:Kno}(hx:inS s x.2.2.2.2.1=true)(ha:∀y∈A,y<x.2.2.2.2.1)(hb:∀y∈B,x.2.2.2.2.1<y):Da (P++ [x]) s (A++ [x.2.2.2.2.1]++B):=by
 obtain⟨h1,h2⟩:=h;rw[List.pairwise_append]at h1;refine⟨?_,fun d=> ?_⟩
 ·rw[List.append_assoc,List.pairwise_append,List.singleton_append,List.pairwise_cons];refine⟨h1.1,⟨hb,h1.2.1⟩,fun a haa b hbb=> ?_⟩;rcases List.mem_cons.1 hbb with e|hbb
  ·rw[e];exact ha a haa
  ·exact h1.2.2 a haa b hbb
 ·constructor
  ·intro hd;rcases List.mem_append.1 hd with hd|hd
   ·rcases List.mem_append.1 hd with hd|hd
    ·obtain⟨k,h3,h4⟩:=(h2 d).1 (by simp[hd]);exact⟨k,by simp[h3],h4⟩
    ·exact⟨x,by simp,hx,(List.mem_singleton.1 hd).symm⟩
   ·obtain⟨k,h3,h4⟩:=(h2 d).1 (by simp[hd]);exact⟨k,by simp[h3],h4⟩
  ·rintro⟨k,h3,h4,h5⟩
   rcases List.mem_append.1 h3 with h3|h3
   ·have:=(h2 d).2 ⟨k,h3,h4,h5⟩;rcases List.mem_append.1 this with h|h<;>simp[h]
   ·rw[List.mem_singleton.1 h3]at h5;simp[h5]
theorem V4(s:Int×Int)(K:List Kno):∃L,Da K s L:=by
 have key:∀(P Q:List Kno) (L:List Int),Da P s L→∃L',Da (P++Q) s L':=by
  intro P Q
  induction Q generalizing P with
  |nil=>intro L h;exact⟨L,by simpa using h⟩
  |cons x Q ih=>
   intro L h
   have:∃L',Da (P++ [x]) s L':=by
    by_cases hin:inS s x.2.2.2.2.1=true
    ·by_cases hm:x.2.2.2.2.1∈L
     ·exact⟨L,Kb h fun _=>hm⟩
     ·have e:L.filter (fun y=>decide (y<x.2.2.2.2.1))++L.filter (fun y=>decide (x.2.2.2.2.1<y))=L:=by
       refine OS ?_ h.up fun y=> ?_
       ·rw[List.pairwise_append];refine⟨h.up.filter _,h.up.filter _,fun a ha b hb=> ?_⟩;rw[List.mem_filter,decide_eq_true_eq]at ha hb;omega
       ·rw[List.mem_append,List.mem_filter,List.mem_filter,decide_eq_true_eq,decide_eq_true_eq];constructor
        ·rintro(h|h)<;>exact h.1
        ·intro hy;by_cases h1:y<x.2.2.2.2.1
         ·exact .inl ⟨hy,h1⟩
         ·refine .inr ⟨hy, ?_⟩;have:y≠x.2.2.2.2.1:=fun e=>hm (e▸hy);omega
      rw[←e]at h;exact⟨_,Qp h hin (fun y hy=>by rw[List.mem_filter,decide_eq_true_eq]at hy;exact hy.2) (fun y hy=>by rw[List.mem_filter,decide_eq_true_eq]at hy;exact hy.2)⟩
    ·exact⟨L,Kb h fun hh=>absurd hh hin⟩
   obtain⟨L',hL'⟩:=this;obtain⟨L2,h2⟩:=ih _ L' hL';exact⟨L2,by simpa using h2⟩
 obtain⟨L,h⟩:=key [] K [] ⟨by simp,by simp⟩;exact⟨L,by simpa using h⟩
theorem Qo{P:List Kno}{s:Int×Int}{L:List Int}(h:Da P s L):L.length≤P.length:=by
 have hn:L.Nodup:=h.up.imp fun h=>by omega
 have:=hn.length_le_of_subset (l₂:=P.map fun k=>k.2.2.2.2.1) fun d hd=>by
  obtain⟨k,h1,_,h2⟩:=(h.mem d).1 hd;exact List.mem_map.2 ⟨k,h1,h2⟩
 rwa [List.length_map]at this
def Uo(K:List Kno)(s:Int×Int)(t:List En×Bool):Prop:=
 (∃L,Da K s L∧(∀d∈L,CZ nmF K d≤1440)∧t=(L.map (BY K),true))∨((∃k∈K,inS s k.2.2.2.2.1=true∧¬CZ nmF K k.2.2.2.2.1≤1440)∧t=([],false))
theorem Yz{K:List Kno}(hK:Kn K 60 6)(s:Int×Int):∃t,iter Jo (K.map kn,[],0,s.1,s.2,(),(),())=some t∧
  ((∃L,Da K s L∧(∀d∈L,CZ nmF K d≤1440)∧t=.inl (L.map (BY K),()))∨((∃k∈K,inS s k.2.2.2.2.1=true∧¬CZ nmF K k.2.2.2.2.1≤1440)∧t=.inr ([],false))):=by
 have hl:=hK.len;refine Fh (b:=Jo) (fun i (out:List En)=>(K.map kn,out,(i:Int),s.1,s.2,(),(),())) K.length (fun i out=>∃L,Da (K.take i) s L∧(∀d∈L,CZ nmF K d≤1440)∧out=L.map (BY K)) _ (a:= []) ⟨[],⟨by simp,by simp⟩,by simp,rfl⟩ (fun i out hi ho=> ?_) (fun out ho=> ?_)
 ·obtain⟨L,hL,hbd,rfl⟩:=ho;have hx:=Ai hi;have hmem:=List.getElem_mem hi;have hll:=Qo hL;rw[List.length_take]at hll
  have hkeep:(∀{L':List Int},Da (K.take i++ [K[i]]) s L'→Da (K.take (i+1)) s L'):=by
   intro L' h
   rwa [Fs K i hi]at h
  unfold Jo;dsimp only;simp only[gPi,gSS,gPb,gPm,gPs,gM,gM2,A9,gOr,AA,AG,gAA,gAO,gOA,gOO,A6,A8,AB,AE,A7,AD,gId];try simp only[AL,AM,AN,AO,AP,AQ,AR,AS,gId,AV,gMb,gMm,gBm,gBb,bs,ms]
  rw[List.length_map,BP hx,if_pos rfl,G6 kn hx,bs];have e1:(kn K[i]).2.1=K[i].2.2.2.2.1:=rfl;rw[e1]
  have ein:((if decide (K[i].2.2.2.2.1<s.1)=true then some true else some (decide (K[i].2.2.2.2.1≥s.2))):Option Bool)=some (!inS s K[i].2.2.2.2.1):=by
   unfold inS;by_cases h1:K[i].2.2.2.2.1<s.1
   ·rw[Al h1,Ak (show ¬K[i].2.2.2.2.1≥s.1 by omega)];rfl
   ·rw[Ak h1,Al (show K[i].2.2.2.2.1≥s.1 by omega)];by_cases h2:K[i].2.2.2.2.1≥s.2
    ·rw[Al h2,Ak (show ¬K[i].2.2.2.2.1<s.2 by omega)];rfl
    ·rw[Ak h2,Al (show K[i].2.2.2.2.1<s.2 by omega)];rfl
  rw[ein,bs];by_cases hin:inS s K[i].2.2.2.2.1=true
  ·rw[hin,if_neg (by decide)];obtain⟨a,ha,hat,h1,h2⟩:=Ux (l:=K.map kn) (out:=L.map (BY K)) (by simp;omega) (i:Int) K[i].2.2.2.2.1 s.1 s.2;rw[hat,bs];dsimp only;rw[List.length_map]at ha
   have hA:∀y∈L.take a,y<K[i].2.2.2.2.1:=by
    intro y hy;refine h1 (BY K y) ?_;rw[←List.map_take];exact List.mem_map_of_mem hy
   have hmid:∀y,L[a]? =some y→¬y<K[i].2.2.2.2.1:=by
    intro y hy;exact h2 (BY K y) (by rw[List.getElem?_map,hy];rfl)
   have found:(∃y,L[a]? =some y∧y=K[i].2.2.2.2.1)∨∀y∈L.drop a,K[i].2.2.2.2.1<y:=by
    by_cases halt:a<L.length
    ·have hy:=Ai halt;have hn:=hmid _ hy;by_cases he:L[a]=K[i].2.2.2.2.1
     ·exact .inl ⟨_,hy,he⟩
     ·right;intro y hyy;rw[List.drop_eq_getElem_cons halt,List.mem_cons]at hyy;rcases hyy with rfl|hyy
      ·omega
      ·have hp:=hL.up;rw[←List.take_append_drop a L,List.pairwise_append,List.drop_eq_getElem_cons halt,List.pairwise_cons]at hp;have:=hp.2.1.1 y hyy;omega
    ·right;intro y hy;rw[List.drop_eq_nil_of_le (by omega)]at hy;cases hy
   rcases found with⟨y,hy,he⟩|hB
   ·left;have halt:=(Ae.1 hy).1;rw[List.length_map,Al (by omega),if_pos rfl,G6 (BY K) hy,bs,bs];rw[show((BY K y).1==K[i].2.2.2.2.1)=true by simpa[BY]using he,if_pos rfl,bs];dsimp only;rw[Bu (by omega)];refine⟨_,rfl,L,hkeep (Kb hL fun _=> ?_),hbd,rfl⟩;rw[←he];exact List.mem_of_getElem? hy
   ·have hne:(if decide ((a:Int)<((L.map (BY K)).length:Int))=true then(lAt (L.map (BY K)) (a:Int)).bind fun v=>some (v.1==K[i].2.2.2.2.1)else some false)=some false:=by
     rw[List.length_map];by_cases halt:a<L.length
     ·rw[Al (by omega),if_pos rfl,G6 (BY K) (Ai halt),bs];have:=hB L[a] (by rw[List.drop_eq_getElem_cons halt];exact List.mem_cons_self)
      rw[show((BY K L[a]).1==K[i].2.2.2.2.1)=false by
       have:(BY K L[a]).1=L[a]:=rfl;rw[this,beq_eq_false_iff_ne]
       omega]
     ·rw[Ak (by omega),if_neg (by decide)]
    rw[hne,bs,if_neg (by decide)];rw[show iter GO (K.map kn,L.map (BY K),(i:Int),K[i].2.2.2.2.1,(a:Int),0,s.1,s.2,K[i].2.2.2.2.1,0,0,(),(),(),(),())=_ from Zq hK _ _ _ _ _ _,bs];dsimp only;by_cases hgt:CZ nmF K K[i].2.2.2.2.1>1440
    ·right;rw[Al hgt,if_pos rfl,bs];exact⟨_,rfl,.inr ⟨⟨K[i],hmem,hin,by omega⟩,rfl⟩⟩
    ·left;rw[Ak hgt,if_neg (by decide)];rw[show Be (L.map (BY K)) 0 (a:Int)=some _ from CU (i:=0) (j:=a) (by omega) (by rw[List.length_map];exact ha),bs];rw[List.drop_zero,List.nil_append];rw[if_pos (by simp;omega),if_pos (by simp;omega)];rw[CU (i:=a) (j:=(L.map (BY K)).length) (by rw[List.length_map];exact ha) (Nat.le_refl _),bs];rw[if_pos (by simp;omega),bs];dsimp only;rw[Bu (by omega),List.take_length];refine⟨_,rfl,L.take a++ [K[i].2.2.2.2.1]++L.drop a,hkeep (Qp (by rw[List.take_append_drop];exact hL) hin hA hB), ?_, ?_⟩
     ·intro d hd;rcases List.mem_append.1 hd with hd|hd
      ·rcases List.mem_append.1 hd with hd|hd
       ·exact hbd d (List.mem_of_mem_take hd)
       ·rw[List.mem_singleton.1 hd];omega
      ·exact hbd d (List.mem_of_mem_drop hd)
     ·rw[List.map_append,List.map_append,List.map_take,List.map_drop];rfl
  ·have hin':inS s K[i].2.2.2.2.1=false:=by simpa using hin
   rw[hin',show(!false)=true from rfl,if_pos rfl,bs];dsimp only;left;rw[Bu (by omega)];exact⟨_,rfl,L,hkeep (Kb hL fun hh=>absurd hh hin),hbd,rfl⟩
 ·obtain⟨L,hL,hbd,rfl⟩:=ho;rw[List.take_length]at hL;refine⟨_, ?_,.inl ⟨L,hL,hbd,rfl⟩⟩;unfold Jo;dsimp only;rw[List.length_map,Cb,if_neg (by decide)]
theorem Yy{K:List Kno}(hK:Kn K 60 6)(s:Int×Int):∃t,Jn (K.map kn,s)=some t∧Uo K s t:=by
 obtain⟨t,h1,h2⟩:=Yz hK s;unfold Jn;dsimp only;rw[h1,bs];rcases h2 with⟨L,h3,h4,rfl⟩|⟨h3,rfl⟩
 ·exact⟨_,rfl,.inl ⟨L,h3,h4,rfl⟩⟩
 ·exact⟨_,rfl,.inr ⟨h3,rfl⟩⟩
set_option linter.unusedSimpArgs false
set_option linter.unusedVariables false
set_option maxRecDepth 100000
def aw5:List En:= [(19723,540,0),(19724,540,0),(19725,540,0),(19726,540,0),(19727,540,0)]
theorem Uc:J2 (aw5,(480,2280))=some 0:=by
 unfold J2;dsimp only;rw[if_neg (by decide)];refine Eo (IF 10 rfl) rfl
theorem VK:∃h w,J0 (aw5,(480,2280))=some (h,w)∧h= [(480,60,0),(480,60,0),(480,60,0),(480,60,0),(360,180,0)]∧w= [19723,19723,19723,19723,19723]:=by
 refine⟨_,_, ?_,rfl,rfl⟩;unfold J0;dsimp only;refine Eo (IF 10 rfl) rfl
theorem Xm:KU ()=some true:=by
 obtain⟨h,w,he,rfl,rfl⟩:=VK
 have h1:LV (aw5,((480,2280)),(0,30000))=some ((2280,420,0),0):=by
  unfold LV;dsimp only;refine Eo Uc ?_;rw[if_neg (by decide)];refine Eo he ?_;refine Eo (IF 10 rfl) rfl
 have h2:LW (aw5,(480,2280))=some [(2280,420,0)]:=by
  unfold LW;dsimp only;refine Eo Uc ?_;rw[if_neg (by decide)];refine Eo he ?_;refine Eo (IF 10 rfl) rfl
 unfold KU;refine Eo (IF (t:=(aw5,(),())) 10 rfl) ?_;dsimp only;refine Eo h1 ?_;refine Eo h2 ?_;rfl
theorem Xp{l:List En}(hl:l.length≤100):∃t,iter IP (l,0,[],(),())=some t∧t=(l,(),()):=
 Fh (b:=IP) (fun i (o:List En)=>(l,(i:Int),o,(),())) l.length (fun i o=>o=l.take i) _ (a:= []) rfl (fun i o hi ho=>by
  left;subst ho;have hx:=Ai hi;refine⟨_, ?_,rfl⟩;unfold IP;dsimp only
  rw[BP hx,if_pos rfl,Bd hx,ms,bs,bs,bs,if_pos (by simp;omega),bs,Bu (by omega),←Fs l i hi]) (fun o ho=>by
  subst ho;rw[List.take_length];refine⟨_, ?_,rfl⟩;unfold IP;dsimp only
  rw[Cb,if_neg (by decide)])
theorem Xo{l:List En}(hl:l.length≤100):KV l=some l:=by
 obtain⟨t,h1,rfl⟩:=Xp hl;unfold KV;dsimp only;rw[h1,bs]
theorem YZ(l:List Fac)(hl:l.length≤60)(p s1 s2:Int):∃t,iter IO (l,p,0,s1,s2,(),(),())=some t∧(t=.inr true∨(t=.inl (l,p,s1,s2,(),(),())∧∀x∈l,SmF x)):=
 Fh (b:=IO) (fun i (_:Unit)=>(l,p,(i:Int),s1,s2,(),(),())) l.length (fun i _=>∀x∈l.take i,SmF x) _ (a:=()) (by simp) (fun i _ hi ho=>by
  have hx:=Ai hi;unfold IO;dsimp only;simp only[gPi,gSS,gPb,gPm,gPs,gM,gM2,A9,gOr,AA,AG,gAA,gAO,gOA,gOO,A6,A8,AB,AE,A7,AD,gId];try simp only[AL,AM,AN,AO,AP,AQ,AR,AS,gId,AV,gMb,gMm,gBm,gBb,bs,ms]
  rw[BP hx,if_pos rfl,Bd hx,bs];by_cases h1:(l[i].2.2.2.2.2.1.length:Int)>300
  ·right;rw[Al h1,if_pos rfl,bs,if_pos rfl];exact⟨_,rfl,.inl rfl⟩
  ·rw[Ak h1,if_neg (by decide),bs];by_cases h2:(l[i].2.2.2.2.2.2.2.length:Int)>300
   ·right;rw[Al h2,bs,if_pos rfl];exact⟨_,rfl,.inl rfl⟩
   ·left;rw[Ak h2,bs,if_neg (by decide),Bu (by omega)];refine⟨(),rfl,fun x hx=> ?_⟩;rw[←Fs l i hi]at hx;rcases List.mem_append.1 hx with hx|hx
    ·exact ho x hx
    ·rw[List.mem_singleton.1 hx]
     exact⟨by omega,by omega⟩) (fun _ ho=>by
  rw[List.take_length]at ho;refine⟨_, ?_,.inr ⟨rfl,ho⟩⟩;unfold IO;dsimp only
  rw[Cb,if_neg (by decide)])
theorem Xj{K:List Kno}(hK:Kn K 60 6)(p s1 s2:Int)(v:List Fac):∃t,iter IN (p,K,0,s1,s2,v,[],(),(),(),(),(),())=some t∧t=.inl (p,s1,s2,v,K.map kn,(),(),(),(),(),()):=by
 have hl:=hK.len
 exact Fh (b:=IN) (fun i (o:List Kr)=>(p,K,(i:Int),s1,s2,v,o,(),(),(),(),(),())) K.length (fun i o=>o=(K.take i).map kn) _ (a:= []) rfl (fun i o hi ho=>by
  left;subst ho;have hx:=Ai hi;obtain⟨_,_,h3,h4⟩:=hK.ok _ (List.getElem_mem hi);refine⟨_, ?_,rfl⟩;unfold IN;dsimp only;simp only[gPi,gSS,gPb,gPm,gPs,gM,gM2,A9,gOr,AA,AG,gAA,gAO,gOA,gOO,A6,A8,AB,AE,A7,AD,gId];try simp only[AL,AM,AN,AO,AP,AQ,AR,AS,gId,AV,gMb,gMm,gBm,gBb,bs,ms]
  rw[BP hx,if_pos rfl,Bd hx,bs];rw[show Bb (K[i].2.1,K[i].2.2.1,K[i].2.2.2.1,K[i].2.2.2.2.1,K[i].2.2.2.2.2.1,K[i].2.2.2.2.2.2.1,K[i].2.2.2.2.2.2.2.1,K[i].2.2.2.2.2.2.2.2)=some 0 from(PQ h3.2).trans (by rw[h3.1]),bs];rw[if_neg (by decide),h4,bs,if_neg (by decide),bs,if_pos (by simp;omega),Bu (by omega),←Fs K i hi,List.map_append]
  rfl) (fun o ho=>by
  subst ho;rw[List.take_length];refine⟨_, ?_,rfl⟩;unfold IN;dsimp only
  rw[Cb,if_neg (by decide)])
theorem YN{l:List En}(hl:l.length≤100):∃t,iter IM (l,l,0,())=some t∧t=.inl ():=
 Fh (b:=IM) (fun i (_:Unit)=>(l,l,(i:Int),())) l.length (fun _ _=>True) _ (a:=()) trivial (fun i _ hi _=>by
  left;have hx:=Ai hi;refine⟨(), ?_,trivial⟩;unfold IM;dsimp only
  rw[BP hx,if_pos rfl,Xo hl,bs,Bd hx,ms,bs,bs,if_neg (by simp),Bu (by omega)]) (fun _ _=>by
  refine⟨_, ?_,rfl⟩;unfold IM;dsimp only
  rw[Cb,if_neg (by decide)])
theorem law_SheetOf(l:List Fac)(p:Int)(s:Int×Int):N4 (l,p,s)=some true:=by
 unfold N4;dsimp only;simp only[gPi,gSS,gPb,gPm,gPs,gM,gM2,A9,gOr,AA,AG,gAA,gAO,gOA,gOO,A6,A8,AB,AE,A7,AD,gId];try simp only[AL,AM,AN,AO,AP,AQ,AR,AS,gId,AV,gMb,gMm,gBm,gBb,bs,ms]
 rw[Xm,bs,if_neg (by decide)];by_cases hl:(l.length:Int)>60
 ·rw[Al hl,if_pos rfl]
 rw[Ak hl,if_neg (by decide)];obtain⟨t,h1,h2⟩:=YZ l (by omega) p s.1 s.2;rw[h1,bs];rcases h2 with rfl|⟨rfl,hsm⟩
 ·rfl
 dsimp only;obtain⟨v,hv,hvl,hvo⟩:=Aal (show l.length≤60 by omega) hsm;rw[hv,bs];obtain⟨K,hF,hK⟩:=Uk hvl hvo p 6;have hKl:=hK.len;rw[hF,bs,Ak (by omega),if_neg (by decide)];obtain⟨t,h1,rfl⟩:=Xj hK p s.1 s.2 v;rw[h1,bs];dsimp only;obtain⟨L,hL⟩:=V4 s K;rw[show Jy (v,p,s.1,s.2)=_ from Um (s:=s) hF hK hL,bs];obtain⟨t,hr,hend⟩:=Yy hK s;rw[show Jn (K.map kn,s.1,s.2)=_ from hr,bs];have hLl:=Qo hL;rcases hend with⟨L',hL',hbd,rfl⟩|⟨⟨k,hk,hin,hgt⟩,rfl⟩
 ·have e:L'=L:=OS hL'.up hL.up fun d=>by rw[hL'.mem,hL.mem]
  subst e
  have hE:EH K L'=(L'.map (BY K),0):=by
   unfold EH;rw[if_pos (List.all_eq_true.2 fun d hd=>Al (hbd d hd))]
  rw[hE];dsimp only;rw[if_neg (by decide),if_neg (by decide),bs,if_neg (by simp)];obtain⟨t,h3,rfl⟩:=YN (l:=L'.map (BY K)) (by rw[List.length_map];omega);rw[h3,bs]
 ·have hE:EH K L=([],2):=by
   unfold EH;rw[if_neg];intro hall;have:=List.all_eq_true.1 hall _ ((hL.mem _).2 ⟨k,hk,hin,rfl⟩);rw[decide_eq_true_eq]at this;exact hgt this
  rw[hE];rfl
end WB
