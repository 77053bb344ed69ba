/-
  Texts of mine that belong together (packed by pack.py), for every input: GTe, GLy, QLy, QTe, QTf, QPr, QPa, GPz, GPt, QPt.
-/
import Derived.Test.YtbfjgcjjaoaaaaaGreatDoorKP2
import Derived.Test.YtbfjgcjjaoaaaaaGreatDoorKP3
import Derived.KernelRfl
set_option linter.unusedVariables false
set_option linter.unusedSimpArgs false
namespace Go.Pl
open Go.RowKit
open Enc (enc dec is)
open EncL (encL decL isL)
set_option maxRecDepth 100000
def J6:IC:=(.seq (.reg [⟨(some 2),(.mv (.c (.bool false))),0,none⟩] none) (.seq (.reg [⟨(some 3),(.mv (.t 0)),0,none⟩,⟨(some 4),(.bin .num .geq (.t 3) (.c (.int .u8 97))),0,none⟩,⟨(some 5),(.mv (.t 4)),0,none⟩,⟨(some 6),(.mv (.t 0)),0,(some (5,true))⟩,⟨(some 7),(.bin .num .leq (.t 6) (.c (.int .u8 122))),0,(some (5,true))⟩,⟨(some 8),(.pick (.t 5) (.t 7) (.c (.bool false))),0,none⟩,⟨(some 2),(.mv (.t 8)),0,none⟩] none) .ret))
def J7:List IRes:=[(.tmp 2)]
abbrev Ez:Nat:=9
def CL:ZC:=Xi []
theorem a4o{G:PV->Prop}(c:UInt8)(h:if (decide ((↑(UInt8.toNat c):Int) ≥ 97))=true then G ((.bool (decide ((↑(UInt8.toNat c):Int)<=122))))else(G ((.bool false)))):Zc CL 0 (Za J7 G) J6 [] (Ye 9 [enc c]):=Zc.tp (.lit (.ask (.lit (.lit (.lit (.nil)))) (.lit (.lit (.nil))))) h (by kernel_rfl)
def J4:IC:=(.seq (.reg [⟨(some 2),(.mv (.c (.bool false))),0,none⟩] none) (.seq (.reg [⟨(some 3),(.mv (.t 0)),0,none⟩,⟨(some 4),(.bin .num .geq (.t 3) (.c (.int .u8 48))),0,none⟩,⟨(some 5),(.mv (.t 4)),0,none⟩,⟨(some 6),(.mv (.t 0)),0,(some (5,true))⟩,⟨(some 7),(.bin .num .leq (.t 6) (.c (.int .u8 57))),0,(some (5,true))⟩,⟨(some 8),(.pick (.t 5) (.t 7) (.c (.bool false))),0,none⟩,⟨(some 2),(.mv (.t 8)),0,none⟩] none) .ret))
def Ha:List IRes:=[(.tmp 2)]
abbrev EF:Nat:=9
def DW:ZC:=Xi []
theorem a3s{G:PV->Prop}(c:UInt8)(h:if (decide ((↑(UInt8.toNat c):Int) ≥ 48))=true then G ((.bool (decide ((↑(UInt8.toNat c):Int)<=57))))else(G ((.bool false)))):Zc DW 0 (Za Ha G) J4 [] (Ye 9 [enc c]):=Zc.tp (.lit (.ask (.lit (.lit (.lit (.nil)))) (.lit (.lit (.nil))))) h (by kernel_rfl)
def Vu:IC:=(.seq (.reg [⟨(some 4),(.mv (.c (.str []))),0,none⟩] none) (.seq (.reg [⟨(some 5),(.mv (.c (.int .i64 0))),0,none⟩] none) (.seq (.block 0 (.loop [5,0,1] (.seq (.seq (.reg [⟨(some 6),(.mv (.t 5)),0,none⟩,⟨(some 7),(.mv (.t 0)),0,none⟩,⟨(some 8),(.len 0 (.t 7)),0,none⟩,⟨(some 9),(.bin .num .lss (.t 6) (.t 8)),0,none⟩,⟨(some 10),(.mv (.t 9)),0,none⟩,⟨(some 11),(.mv (.t 0)),0,(some (10,true))⟩,⟨(some 12),(.mv (.t 5)),0,(some (10,true))⟩,⟨(some 13),(.index (.t 11) (.t 12)),0,(some (10,true))⟩,⟨(some 14),(.call (.c (.fn 107)) [(.t 13)]),0,(some (10,true))⟩,⟨(some 15),(.mv (.t 14)),2,(some (10,true))⟩,⟨(some 16),(.mv (.t 1)),2,(some (15,false))⟩,⟨(some 17),(.mv (.t 16)),2,(some (15,false))⟩,⟨(some 18),(.mv (.t 0)),2,(some (17,true))⟩,⟨(some 19),(.mv (.t 5)),2,(some (17,true))⟩,⟨(some 20),(.index (.t 18) (.t 19)),2,(some (17,true))⟩,⟨(some 21),(.call (.c (.fn 81)) [(.t 20)]),2,(some (17,true))⟩,⟨(some 22),(.pick (.t 17) (.t 21) (.c (.bool false))),4,(some (15,false))⟩,⟨(some 23),(.pick (.t 15) (.c (.bool true)) (.t 22)),4,(some (10,true))⟩,⟨(some 24),(.pick (.t 10) (.t 23) (.c (.bool false))),4,none⟩] none) (.cond (.t 24) .skip (.exit 0))) (.block 1 (.reg [⟨(some 25),(.mv (.t 5)),0,none⟩,⟨(some 26),(.bin .num .add (.t 25) (.c (.int .i64 1))),0,none⟩,⟨(some 5),(.mv (.t 26)),0,none⟩] none))))) (.seq (.reg [⟨(some 27),(.mv (.t 0)),0,none⟩,⟨(some 28),(.mv (.t 5)),0,none⟩,⟨(some 29),(.strslc (.t 27) none (some (.t 28))),0,none⟩,⟨(some 4),(.mv (.t 29)),0,none⟩] none) .ret))))
def Vt:List IRes:=[(.tmp 4)]
abbrev b3y:Nat:=30
def UT:ZC:=Xi [(107,.pure (preT (fun _:UInt8×Unit=>true)) (Zf (fun x:UInt8×Unit=>digB x.1))),(81,.pure (preT (fun _:UInt8×Unit=>true)) (Zf (fun x:UInt8×Unit=>lowB x.1)))]
theorem b9w{G:PV->Prop}(s:List UInt8)(b:Bool)(h:At UT 0 (Za Vt G) Vu 0 30 [(0,(.pv (.str s))),(1,(.pv (.bool b))),(5,(.pv (.int .i64 0)))] []):Zc UT 0 (Za Vt G) Vu [] (Ye 30 [.str s,.bool b]):=Zc.tp (.nil) h (by kernel_rfl)
theorem FC{G:PV->Prop}(s:List UInt8)(b:Bool)(i:Int)(h:if (decide (i<(↑(List.length s):Int)))=true then(decide (0<=i)&&decide (Int.toNat i<List.length s))=true∧((Go.Pl.preT (fun(x:UInt8×Unit)=>true) [(.int IntKind.u8 (↑(UInt8.toNat (List.getD s (Int.toNat i) (0:UInt8))):Int))])=true∧(∃ y0:Bool,AV.pv (Zf (fun(x:UInt8×Unit)=>digB x.1) [(.int IntKind.u8 (↑(UInt8.toNat (List.getD s (Int.toNat i) (0:UInt8))):Int))])=AV.pv (enc y0)∧(if (y0)=true then At UT 0 (Za Vt G) Vu 0 30 [(0,(.pv (.str s))),(1,(.pv (.bool b))),(5,(.pv (.int .i64 (IntKind.wrap IntKind.i64 (i+1)))))] []else(if (b)=true then(decide (0<=i)&&decide (Int.toNat i<List.length s))=true∧((Go.Pl.preT (fun(x:UInt8×Unit)=>true) [(.int IntKind.u8 (↑(UInt8.toNat (List.getD s (Int.toNat i) (0:UInt8))):Int))])=true∧(∃ y1:Bool,AV.pv (Zf (fun(x:UInt8×Unit)=>lowB x.1) [(.int IntKind.u8 (↑(UInt8.toNat (List.getD s (Int.toNat i) (0:UInt8))):Int))])=AV.pv (enc y1)∧(if (y1)=true then At UT 0 (Za Vt G) Vu 0 30 [(0,(.pv (.str s))),(1,(.pv (.bool b))),(5,(.pv (.int .i64 (IntKind.wrap IntKind.i64 (i+1)))))] []else((true&&decide (0<=i)&&decide (0<=Int.toNat i)&&decide (Int.toNat i<=List.length s))=true∧(G ((.str (List.drop 0 (List.take (Int.toNat i) s)))))))))else((true&&decide (0<=i)&&decide (0<=Int.toNat i)&&decide (Int.toNat i<=List.length s))=true∧(G ((.str (List.drop 0 (List.take (Int.toNat i) s))))))))))else((true&&decide (0<=i)&&decide (0<=Int.toNat i)&&decide (Int.toNat i<=List.length s))=true∧(G ((.str (List.drop 0 (List.take (Int.toNat i) s))))))):At UT 0 (Za Vt G) Vu 0 30 [(0,.pv (.str s)),(1,.pv (.bool b)),(5,.pv (.int .i64 i))] []:=At.tp (.lit (.ask (.lit (.lit (.req (.lit (.req (.abs (Bool) (fun YY=>AV.pv (enc YY)) (.lit (.ask (.lit (.lit (.lit (.lit (.lit (.lit (.lit (.nil)))))))) (.lit (.ask (.lit (.lit (.req (.lit (.req (.abs (Bool) (fun YY=>AV.pv (enc YY)) (.lit (.lit (.lit (.lit (.lit (.ask (.lit (.nil)) (.req (.nil)))))))))))))) (.lit (.lit (.lit (.lit (.lit (.lit (.lit (.lit (.lit (.req (.nil))))))))))))))))))))) (.lit (.lit (.lit (.lit (.lit (.lit (.lit (.req (.nil))))))))))) h (by kernel_rfl)
def AA:IC:=(.seq (.reg [⟨(some 2),(.mv (.c (.bool false))),0,none⟩] none) (.seq (.seq (.reg [⟨(some 3),(.mv (.t 0)),0,none⟩] none) (.block 0 (.seq (.seq (.reg [⟨(some 5),(.bin .num .eql (.t 3) (.c (.str [98,111,111,108]))),0,none⟩,⟨(some 4),(.mv (.t 5)),0,none⟩] none) (.cond (.t 4) .skip (.seq (.reg [⟨(some 6),(.bin .num .eql (.t 3) (.c (.str [100,101,102]))),0,none⟩,⟨(some 4),(.mv (.t 6)),0,none⟩] none) (.cond (.t 4) .skip (.seq (.reg [⟨(some 7),(.bin .num .eql (.t 3) (.c (.str [101,120,112,111,114,116]))),0,none⟩,⟨(some 4),(.mv (.t 7)),0,none⟩] none) (.cond (.t 4) .skip (.seq (.reg [⟨(some 8),(.bin .num .eql (.t 3) (.c (.str [102,97,108,115,101]))),0,none⟩,⟨(some 4),(.mv (.t 8)),0,none⟩] none) (.cond (.t 4) .skip (.seq (.reg [⟨(some 9),(.bin .num .eql (.t 3) (.c (.str [102,111,108,100]))),0,none⟩,⟨(some 4),(.mv (.t 9)),0,none⟩] none) (.cond (.t 4) .skip (.seq (.reg [⟨(some 10),(.bin .num .eql (.t 3) (.c (.str [105,109,112,111,114,116]))),0,none⟩,⟨(some 4),(.mv (.t 10)),0,none⟩] none) (.cond (.t 4) .skip (.seq (.reg [⟨(some 11),(.bin .num .eql (.t 3) (.c (.str [105,110]))),0,none⟩,⟨(some 4),(.mv (.t 11)),0,none⟩] none) (.cond (.t 4) .skip (.seq (.reg [⟨(some 12),(.bin .num .eql (.t 3) (.c (.str [105,110,116]))),0,none⟩,⟨(some 4),(.mv (.t 12)),0,none⟩] none) (.cond (.t 4) .skip (.seq (.reg [⟨(some 13),(.bin .num .eql (.t 3) (.c (.str [108,101,116]))),0,none⟩,⟨(some 4),(.mv (.t 13)),0,none⟩] none) (.cond (.t 4) .skip (.seq (.reg [⟨(some 14),(.bin .num .eql (.t 3) (.c (.str [109,111,100,117,108,101]))),0,none⟩,⟨(some 4),(.mv (.t 14)),0,none⟩] none) (.cond (.t 4) .skip (.seq (.reg [⟨(some 15),(.bin .num .eql (.t 3) (.c (.str [115,99,97,110]))),0,none⟩,⟨(some 4),(.mv (.t 15)),0,none⟩] none) (.cond (.t 4) .skip (.seq (.reg [⟨(some 16),(.bin .num .eql (.t 3) (.c (.str [115,105,122,101]))),0,none⟩,⟨(some 4),(.mv (.t 16)),0,none⟩] none) (.cond (.t 4) .skip (.seq (.reg [⟨(some 17),(.bin .num .eql (.t 3) (.c (.str [116,114,117,101]))),0,none⟩,⟨(some 4),(.mv (.t 17)),0,none⟩] none) (.cond (.t 4) .skip (.reg [⟨(some 18),(.bin .num .eql (.t 3) (.c (.str [119,104,101,114,101]))),0,none⟩,⟨(some 4),(.mv (.t 18)),0,none⟩] none))))))))))))))))))))))))))) (.cond (.t 4) (.seq (.reg [⟨(some 2),(.mv (.c (.bool true))),0,none⟩] none) .ret) .skip)))) (.seq (.reg [⟨(some 2),(.mv (.c (.bool false))),0,none⟩] none) .ret)))
def TD:List IRes:=[(.tmp 2)]
abbrev b2d:Nat:=19
def LA:ZC:=Xi []
theorem c1c{G:PV->Prop}(s:List UInt8)(h:if (s==[(98:UInt8),(111:UInt8),(111:UInt8),(108:UInt8)])=true then G ((.bool true))else(if (s==[(100:UInt8),(101:UInt8),(102:UInt8)])=true then G ((.bool true))else(if (s==[(101:UInt8),(120:UInt8),(112:UInt8),(111:UInt8),(114:UInt8),(116:UInt8)])=true then G ((.bool true))else(if (s==[(102:UInt8),(97:UInt8),(108:UInt8),(115:UInt8),(101:UInt8)])=true then G ((.bool true))else(if (s==[(102:UInt8),(111:UInt8),(108:UInt8),(100:UInt8)])=true then G ((.bool true))else(if (s==[(105:UInt8),(109:UInt8),(112:UInt8),(111:UInt8),(114:UInt8),(116:UInt8)])=true then G ((.bool true))else(if (s==[(105:UInt8),(110:UInt8)])=true then G ((.bool true))else(if (s==[(105:UInt8),(110:UInt8),(116:UInt8)])=true then G ((.bool true))else(if (s==[(108:UInt8),(101:UInt8),(116:UInt8)])=true then G ((.bool true))else(if (s==[(109:UInt8),(111:UInt8),(100:UInt8),(117:UInt8),(108:UInt8),(101:UInt8)])=true then G ((.bool true))else(if (s==[(115:UInt8),(99:UInt8),(97:UInt8),(110:UInt8)])=true then G ((.bool true))else(if (s==[(115:UInt8),(105:UInt8),(122:UInt8),(101:UInt8)])=true then G ((.bool true))else(if (s==[(116:UInt8),(114:UInt8),(117:UInt8),(101:UInt8)])=true then G ((.bool true))else(if (s==[(119:UInt8),(104:UInt8),(101:UInt8),(114:UInt8),(101:UInt8)])=true then G ((.bool true))else(G ((.bool false))))))))))))))))):Zc LA 0 (Za TD G) AA [] (Ye 19 [.str s]):=Zc.tp (.lit (.ask (.lit (.nil)) (.lit (.ask (.lit (.nil)) (.lit (.ask (.lit (.nil)) (.lit (.ask (.lit (.nil)) (.lit (.ask (.lit (.nil)) (.lit (.ask (.lit (.nil)) (.lit (.ask (.lit (.nil)) (.lit (.ask (.lit (.nil)) (.lit (.ask (.lit (.nil)) (.lit (.ask (.lit (.nil)) (.lit (.ask (.lit (.nil)) (.lit (.ask (.lit (.nil)) (.lit (.ask (.lit (.nil)) (.lit (.ask (.nil) (.nil))))))))))))))))))))))))))))) h (by kernel_rfl)
def Cv:IC:=(.seq (.reg [⟨(some 2),(.mv (.c (.bool false))),0,none⟩] none) (.seq (.reg [⟨(some 3),(.mv (.t 0)),0,none⟩,⟨(some 4),(.bin .num .neq (.t 3) (.c (.str []))),0,none⟩,⟨(some 5),(.mv (.t 4)),0,none⟩,⟨(some 6),(.mv (.t 0)),0,(some (5,true))⟩,⟨(some 7),(.len 0 (.t 6)),0,(some (5,true))⟩,⟨(some 8),(.bin .num .leq (.t 7) (.c (.int .i64 30))),0,(some (5,true))⟩,⟨(some 9),(.pick (.t 5) (.t 8) (.c (.bool false))),0,none⟩,⟨(some 10),(.mv (.t 9)),0,none⟩,⟨(some 11),(.mv (.t 0)),0,(some (10,true))⟩,⟨(some 12),(.index (.t 11) (.c (.int .i64 0))),0,(some (10,true))⟩,⟨(some 13),(.call (.c (.fn 81)) [(.t 12)]),0,(some (10,true))⟩,⟨(some 14),(.pick (.t 10) (.t 13) (.c (.bool false))),2,none⟩,⟨(some 15),(.mv (.t 14)),2,none⟩,⟨(some 16),(.mv (.t 0)),2,(some (15,true))⟩,⟨(some 17),(.call (.c (.fn 82)) [(.t 16),(.c (.bool true))]),2,(some (15,true))⟩,⟨(some 18),(.mv (.t 0)),4,(some (15,true))⟩,⟨(some 19),(.bin .num .eql (.t 17) (.t 18)),4,(some (15,true))⟩,⟨(some 20),(.pick (.t 15) (.t 19) (.c (.bool false))),4,none⟩,⟨(some 21),(.mv (.t 20)),4,none⟩,⟨(some 22),(.mv (.t 0)),4,(some (21,true))⟩,⟨(some 23),(.call (.c (.fn 83)) [(.t 22)]),4,(some (21,true))⟩,⟨(some 24),(.un .not (.t 23)),6,(some (21,true))⟩,⟨(some 25),(.pick (.t 21) (.t 24) (.c (.bool false))),6,none⟩,⟨(some 2),(.mv (.t 25)),6,none⟩] none) .ret))
def DV:List IRes:=[(.tmp 2)]
abbrev a3d:Nat:=26
def Tt:ZC:=Xi [(81,.pure (preT (fun _:UInt8×Unit=>true)) (Zf (fun x:UInt8×Unit=>lowB x.1))),(82,.pure (preT (fun x:Str×Bool×Unit=>decide (x.1.s.length<=1048576))) (Zf (fun x:Str×Bool×Unit=>DU x.1 x.2.1))),(83,.pure (preT (fun _:Str×Unit=>true)) (Zf (fun x:Str×Unit=>Gl.contains x.1.s)))]
theorem b6h{G:PV->Prop}(s:List UInt8)(h:if (!s==[])=true then if (decide ((↑(List.length s):Int)<=30))=true then(decide (0<=0)&&decide (Int.toNat 0<List.length s))=true∧((Go.Pl.preT (fun(x:UInt8×Unit)=>true) [(.int IntKind.u8 (↑(UInt8.toNat (List.getD s (Int.toNat 0) (0:UInt8))):Int))])=true∧(∃ y0:Bool,AV.pv (Zf (fun(x:UInt8×Unit)=>lowB x.1) [(.int IntKind.u8 (↑(UInt8.toNat (List.getD s (Int.toNat 0) (0:UInt8))):Int))])=AV.pv (enc y0)∧(if (y0)=true then(Go.Pl.preT (fun(x:Str×Bool×Unit)=>decide (List.length (Str.s x.1)<=1048576)) [(.str s),(.bool true)])=true∧(∃ y1:Str,AV.pv (Zf (fun(x:Str×Bool×Unit)=>DU x.1 x.2.1) [(.str s),(.bool true)])=AV.pv (enc y1)∧(if (Str.s y1==s)=true then ∃ y2:Bool,AV.pv (Zf (fun(x:Str×Unit)=>List.contains Gl (Str.s x.1)) [(.str s)])=AV.pv (enc y2)∧(G ((.bool !y2)))else(G ((.bool false)))))else(G ((.bool false))))))else(G ((.bool false)))else(G ((.bool false)))):Zc Tt 0 (Za DV G) Cv [] (Ye 26 [.str s]):=Zc.tp (.lit (.ask (.lit (.lit (.lit (.lit (.ask (.lit (.req (.lit (.req (.abs (Bool) (fun YY=>AV.pv (enc YY)) (.lit (.ask (.lit (.req (.abs (Str) (fun YY=>AV.pv (enc YY)) (.lit (.lit (.lit (.lit (.ask (.lit (.lit (.abs (Bool) (fun YY=>AV.pv (enc YY)) (.lit (.lit (.nil)))))) (.lit (.lit (.lit (.nil)))))))))))) (.lit (.lit (.lit (.lit (.lit (.lit (.lit (.lit (.nil)))))))))))))))) (.lit (.lit (.lit (.lit (.lit (.lit (.lit (.lit (.lit (.lit (.lit (.lit (.nil)))))))))))))))))) (.lit (.lit (.lit (.lit (.lit (.lit (.lit (.lit (.lit (.lit (.lit (.lit (.lit (.lit (.lit (.lit (.nil))))))))))))))))))) h (by kernel_rfl)
def CY:IC:=(.seq (.reg [⟨(some 2),(.mv (.c (.bool false))),0,none⟩] none) (.seq (.reg [⟨(some 7),(.mv (.t 0)),0,none⟩,⟨(some 8),(.call (.c (.fn 131)) [(.t 7),(.c (.str [46]))]),0,none⟩,⟨(some 6),(.mv (.t 8)),2,none⟩,⟨(some 9),(.extract (.t 6) 0),2,none⟩,⟨(some 10),(.extract (.t 6) 1),2,none⟩,⟨(some 11),(.extract (.t 6) 2),2,none⟩,⟨(some 3),(.mv (.t 9)),2,none⟩,⟨(some 4),(.mv (.t 10)),2,none⟩,⟨(some 5),(.mv (.t 11)),2,none⟩] none) (.seq (.reg [⟨(some 12),(.mv (.t 5)),0,none⟩,⟨(some 13),(.mv (.t 12)),0,none⟩,⟨(some 14),(.mv (.t 3)),0,(some (13,true))⟩,⟨(some 15),(.call (.c (.fn 46)) [(.t 14)]),0,(some (13,true))⟩,⟨(some 16),(.pick (.t 13) (.t 15) (.c (.bool false))),2,none⟩,⟨(some 17),(.mv (.t 16)),2,none⟩,⟨(some 18),(.mv (.t 4)),2,(some (17,true))⟩,⟨(some 19),(.call (.c (.fn 46)) [(.t 18)]),2,(some (17,true))⟩,⟨(some 20),(.pick (.t 17) (.t 19) (.c (.bool false))),4,none⟩,⟨(some 2),(.mv (.t 20)),4,none⟩] none) .ret)))
def KT:List IRes:=[(.tmp 2)]
abbrev a5j:Nat:=21
def G8:ZC:=Xi [(131,.pure (preT (fun x:Str×Str×Unit=>decide (x.1.s.length<=1048576)&&decide (x.2.1.s=[46]))) (Zf (fun x:Str×Str×Unit=>Vv x.1))),(46,.pure (preT (fun x:Str×Unit=>decide (x.1.s.length<=1048576))) (Zf (fun x:Str×Unit=>ZZ x.1.s)))]
theorem b6s{G:PV->Prop}(s:List UInt8)(h:(Go.Pl.preT (fun(x:Str×Str×Unit)=>decide (List.length (Str.s x.1)<=1048576)&&decide (Str.s x.2.1=[(46:UInt8)])) [(.str s),(.str [(46:UInt8)])])=true∧(∃ y0:R3 Str Str Bool,AV.pv (Zf (fun(x:Str×Str×Unit)=>Vv x.1) [(.str s),(.str [(46:UInt8)])])=AV.pv (enc y0)∧(if (R3.c y0)=true then(Go.Pl.preT (fun(x:Str×Unit)=>decide (List.length (Str.s x.1)<=1048576)) [(.str (Str.s (R3.a y0)))])=true∧(∃ y1:Bool,AV.pv (Zf (fun(x:Str×Unit)=>ZZ (Str.s x.1)) [(.str (Str.s (R3.a y0)))])=AV.pv (enc y1)∧(if (y1)=true then(Go.Pl.preT (fun(x:Str×Unit)=>decide (List.length (Str.s x.1)<=1048576)) [(.str (Str.s (R3.b y0)))])=true∧(∃ y2:Bool,AV.pv (Zf (fun(x:Str×Unit)=>ZZ (Str.s x.1)) [(.str (Str.s (R3.b y0)))])=AV.pv (enc y2)∧(G ((.bool y2))))else(G ((.bool false)))))else(G ((.bool false)))))):Zc G8 0 (Za KT G) CY [] (Ye 21 [.str s]):=Zc.tp (.req (.abs (R3 Str Str Bool) (fun YY=>AV.pv (enc YY)) (.ask (.lit (.req (.abs (Bool) (fun YY=>AV.pv (enc YY)) (.lit (.ask (.lit (.req (.abs (Bool) (fun YY=>AV.pv (enc YY)) (.lit (.nil))))) (.lit (.lit (.nil)))))))) (.lit (.lit (.lit (.lit (.lit (.nil))))))))) h (by kernel_rfl)
def TQ:IC:=(.seq (.reg [⟨(some 2),(.mv (.c (.bool false))),0,none⟩] none) (.seq (.reg [⟨(some 3),(.mv (.t 0)),0,none⟩,⟨(some 4),(.call (.c (.fn 46)) [(.t 3)]),0,none⟩,⟨(some 5),(.mv (.t 4)),2,none⟩,⟨(some 6),(.mv (.t 0)),2,(some (5,false))⟩,⟨(some 7),(.call (.c (.fn 106)) [(.t 6)]),2,(some (5,false))⟩,⟨(some 8),(.pick (.t 5) (.c (.bool true)) (.t 7)),4,none⟩,⟨(some 2),(.mv (.t 8)),4,none⟩] none) .ret))
def Tz:List IRes:=[(.tmp 2)]
abbrev b6d:Nat:=9
def NT:ZC:=Xi [(46,.pure (preT (fun x:Str×Unit=>decide (x.1.s.length<=1048576))) (Zf (fun x:Str×Unit=>ZZ x.1.s))),(106,.pure (preT (fun x:Str×Unit=>decide (x.1.s.length<=1048576))) (Zf (fun x:Str×Unit=>fullI x.1.s)))]
theorem c0z{G:PV->Prop}(s:List UInt8)(h:(Go.Pl.preT (fun(x:Str×Unit)=>decide (List.length (Str.s x.1)<=1048576)) [(.str s)])=true∧(∃ y0:Bool,AV.pv (Zf (fun(x:Str×Unit)=>ZZ (Str.s x.1)) [(.str s)])=AV.pv (enc y0)∧(if (y0)=true then G ((.bool true))else((Go.Pl.preT (fun(x:Str×Unit)=>decide (List.length (Str.s x.1)<=1048576)) [(.str s)])=true∧(∃ y1:Bool,AV.pv (Zf (fun(x:Str×Unit)=>fullI (Str.s x.1)) [(.str s)])=AV.pv (enc y1)∧(G ((.bool y1)))))))):Zc NT 0 (Za Tz G) TQ [] (Ye 9 [.str s]):=Zc.tp (.req (.abs (Bool) (fun YY=>AV.pv (enc YY)) (.ask (.lit (.lit (.nil))) (.lit (.req (.abs (Bool) (fun YY=>AV.pv (enc YY)) (.lit (.nil)))))))) h (by kernel_rfl)
def TH:IC:=(.seq (.reg [⟨(some 1),(.box 10 (.t 0)),0,none⟩,⟨(some 2),(.mv (.c (.bool false))),1,none⟩] none) (.seq (.seq (.reg [⟨(some 3),(.faddr 2 (.t 1)),0,none⟩,⟨(some 4),(.load false [.str] (.t 3)),0,none⟩,⟨(some 5),(.bin .num .eql (.t 4) (.c (.str [98,111,111,108]))),0,none⟩] none) (.cond (.t 5) (.seq (.reg [⟨(some 6),(.faddr 3 (.t 1)),0,none⟩,⟨(some 7),(.load false [(.int .i64)] (.t 6)),0,none⟩,⟨(some 8),(.bin .num .eql (.t 7) (.c (.int .i64 0))),0,none⟩,⟨(some 9),(.mv (.t 8)),0,none⟩,⟨(some 10),(.faddr 3 (.t 1)),0,(some (9,false))⟩,⟨(some 11),(.load false [(.int .i64)] (.t 10)),0,(some (9,false))⟩,⟨(some 12),(.bin .num .eql (.t 11) (.c (.int .i64 1))),0,(some (9,false))⟩,⟨(some 13),(.pick (.t 9) (.c (.bool true)) (.t 12)),0,none⟩,⟨(some 2),(.mv (.t 13)),0,none⟩] none) .ret) .skip)) (.seq (.reg [⟨(some 14),(.faddr 2 (.t 1)),0,none⟩,⟨(some 15),(.load false [.str] (.t 14)),0,none⟩,⟨(some 16),(.bin .num .eql (.t 15) (.c (.str [105,110,116]))),0,none⟩,⟨(some 17),(.mv (.t 16)),0,none⟩,⟨(some 18),(.faddr 3 (.t 1)),0,(some (17,true))⟩,⟨(some 19),(.load false [(.int .i64)] (.t 18)),0,(some (17,true))⟩,⟨(some 20),(.bin .num .geq (.t 19) (.c (.int .i64 (-2147483648)))),0,(some (17,true))⟩,⟨(some 21),(.pick (.t 17) (.t 20) (.c (.bool false))),0,none⟩,⟨(some 22),(.mv (.t 21)),0,none⟩,⟨(some 23),(.faddr 3 (.t 1)),0,(some (22,true))⟩,⟨(some 24),(.load false [(.int .i64)] (.t 23)),0,(some (22,true))⟩,⟨(some 25),(.bin .num .lss (.t 24) (.c (.int .i64 2147483648))),0,(some (22,true))⟩,⟨(some 26),(.pick (.t 22) (.t 25) (.c (.bool false))),0,none⟩,⟨(some 2),(.mv (.t 26)),0,none⟩] none) .ret)))
def GJ:List IRes:=[(.tmp 2)]
abbrev b4d:Nat:=27
def Re:ZC:=Xi []
theorem c0n{G:PV->Prop}(n:Nd)(ks:List Tm)(h:if (Str.s (Nd.name n)==[(98:UInt8),(111:UInt8),(111:UInt8),(108:UInt8)])=true then if (Nd.num n==0)=true then G ((.bool true))else(G ((.bool (Nd.num n==1))))else(if (Str.s (Nd.name n)==[(105:UInt8),(110:UInt8),(116:UInt8)])=true then if (decide (Nd.num n ≥ (-2147483648:Int)))=true then G ((.bool (decide (Nd.num n<2147483648))))else(G ((.bool false)))else(G ((.bool false))))):Zc Re 0 (Za GJ G) TH [] (Ye 27 [.agg [enc n.kind,enc n.line,enc n.name,enc n.num,enc n.elem,enc n.dims,enc n.data,enc n.sizes,enc n.ranks,enc ks]]):=Zc.tp (.lit (.ask (.lit (.ask (.lit (.lit (.lit (.nil)))) (.lit (.lit (.lit (.lit (.nil))))))) (.lit (.ask (.lit (.lit (.lit (.lit (.ask (.lit (.lit (.lit (.lit (.nil))))) (.lit (.lit (.lit (.nil))))))))) (.lit (.lit (.lit (.lit (.lit (.lit (.lit (.nil)))))))))))) h (by kernel_rfl)
def X0:IC:=(.seq (.reg [⟨(some 1),(.box 2 (.t 0)),0,none⟩,⟨(some 2),(.mv (.c (.bool false))),1,none⟩] none) (.seq (.seq (.reg [⟨(some 5),(.faddr 1 (.t 1)),0,none⟩,⟨(some 6),(.load false [(.sl 2)] (.t 5)),0,none⟩,⟨(some 7),(.len 1 (.t 6)),0,none⟩,⟨(some 8),(.mv (.c (.int .i64 0))),0,none⟩] none) (.block 0 (.loop [8,7,6,1] (.seq (.reg [⟨(some 9),(.bin .num .lss (.t 8) (.t 7)),0,none⟩] none) (.seq (.cond (.t 9) .skip (.exit 0)) (.seq (.block 1 (.seq (.reg [⟨(some 10),(.mv (.t 8)),0,none⟩,⟨(some 11),(.iaddr 2 (.t 6) (.t 8)),0,none⟩,⟨(some 12),(.load true [.str,(.int .i64)] (.t 11)),0,none⟩,⟨(some 4),(.alloc (.agg [(.str []),(.int .i64 0)])),0,none⟩,⟨(some 3),(.mv (.t 10)),1,none⟩,⟨none,(.store 2 (.t 4) (.t 12)),1,none⟩] none) (.seq (.reg [⟨(some 13),(.faddr 0 (.t 4)),0,none⟩,⟨(some 14),(.load false [.str] (.t 13)),0,none⟩,⟨(some 15),(.call (.c (.fn 93)) [(.t 14)]),0,none⟩,⟨(some 16),(.un .not (.t 15)),2,none⟩,⟨(some 17),(.mv (.t 16)),2,none⟩,⟨(some 18),(.faddr 1 (.t 4)),2,(some (17,false))⟩,⟨(some 19),(.load false [(.int .i64)] (.t 18)),2,(some (17,false))⟩,⟨(some 20),(.bin .num .eql (.t 19) (.c (.int .i64 0))),2,(some (17,false))⟩,⟨(some 21),(.pick (.t 17) (.c (.bool true)) (.t 20)),2,none⟩,⟨(some 22),(.mv (.t 21)),2,none⟩,⟨(some 23),(.faddr 1 (.t 4)),2,(some (22,false))⟩,⟨(some 24),(.load false [(.int .i64)] (.t 23)),2,(some (22,false))⟩,⟨(some 25),(.call (.c (.fn 94)) [(.t 24)]),2,(some (22,false))⟩,⟨(some 26),(.un .not (.t 25)),4,(some (22,false))⟩,⟨(some 27),(.pick (.t 22) (.c (.bool true)) (.t 26)),4,none⟩,⟨(some 28),(.mv (.t 27)),4,none⟩,⟨(some 29),(.mv (.t 3)),4,(some (28,false))⟩,⟨(some 30),(.bin .num .gtr (.t 29) (.c (.int .i64 0))),4,(some (28,false))⟩,⟨(some 31),(.mv (.t 30)),4,(some (28,false))⟩,⟨(some 32),(.faddr 1 (.t 1)),4,(some (31,true))⟩,⟨(some 33),(.load false [(.sl 2)] (.t 32)),4,(some (31,true))⟩,⟨(some 34),(.mv (.t 3)),4,(some (31,true))⟩,⟨(some 35),(.bin .num .sub (.t 34) (.c (.int .i64 1))),4,(some (31,true))⟩,⟨(some 36),(.iaddr 2 (.t 33) (.t 35)),4,(some (31,true))⟩,⟨(some 37),(.faddr 0 (.t 36)),4,(some (31,true))⟩,⟨(some 38),(.load false [.str] (.t 37)),4,(some (31,true))⟩,⟨(some 39),(.faddr 0 (.t 4)),4,(some (31,true))⟩,⟨(some 40),(.load false [.str] (.t 39)),4,(some (31,true))⟩,⟨(some 41),(.bin .num .geq (.t 38) (.t 40)),4,(some (31,true))⟩,⟨(some 42),(.pick (.t 31) (.t 41) (.c (.bool false))),4,(some (28,false))⟩,⟨(some 43),(.pick (.t 28) (.c (.bool true)) (.t 42)),4,none⟩] (some [[],[0],[1,0],[2,1,0],[3,2,1,0],[4,3,2,1,0],[5,4,3,2,1,0],[6,4,5,3,2,1,0],[4,7,3,2,1,0,6,5],[8,4,7,3,2,1,0,6,5],[9,8,4,7,3,2,1,0,6,5],[10,9,8,4,7,3,2,1,0,6,5],[11,9,10,8,4,7,3,2,1,0,6,5],[12,9,11,10,8,4,7,3,2,1,0,6,5],[9,13,8,4,7,3,2,1,0,6,5,12,11,10],[14,12,9,13,8,4,7,3,2,1,0,6,5,11,10],[15,14,12,9,13,8,4,7,3,2,1,0,6,5,11,10],[16,15,14,12,9,13,8,4,7,3,2,1,0,6,5,11,10],[17,15,16,14,12,9,13,8,4,7,3,2,1,0,6,5,11,10],[18,17,15,16,14,12,9,13,8,4,7,3,2,1,0,6,5,11,10],[19,18,17,15,16,14,12,9,13,8,4,7,3,2,1,0,6,5,11,10],[18,17,15,16,14,12,9,13,8,4,7,3,2,1,0,6,5,11,10],[21,18,17,15,16,14,12,9,13,8,4,7,3,2,1,0,6,5,11,10],[20,22,18,19,17,15,16,14,12,9,13,8,4,7,3,2,1,0,6,5,11,10,21],[23,18,20,22,19,17,15,16,14,12,9,13,8,4,7,3,2,1,0,6,5,11,10,21],[24,18,23,20,22,19,17,15,16,14,12,9,13,8,4,7,3,2,1,0,6,5,11,10,21],[18,17,15,16,14,12,9,13,8,4,7,3,2,1,0,6,5,11,10],[26,18,17,15,16,14,12,9,13,8,4,7,3,2,1,0,6,5,11,10],[25,27,18,24,23,20,22,19,17,15,16,14,12,9,13,8,4,7,3,2,1,0,6,5,11,10,21,26],[18,28,15,17,16,14,12,9,13,8,4,7,3,2,1,0,6,5,11,10,25,27,24,23,20,22,19,21,26],[15,29,14,12,9,13,8,4,7,3,2,1,0,6,5,11,10,18,28,17,16,25,27,24,23,20,22,19,21,26]])) (.cond (.t 43) (.seq (.reg [⟨(some 2),(.mv (.c (.bool false))),0,none⟩] none) .ret) .skip)))) (.reg [⟨(some 44),(.bin .num .add (.t 8) (.c (.int .i64 1))),0,none⟩,⟨(some 8),(.mv (.t 44)),0,none⟩] none))))))) (.seq (.reg [⟨(some 45),(.faddr 0 (.t 1)),0,none⟩,⟨(some 46),(.load false [(.int .i64)] (.t 45)),0,none⟩,⟨(some 47),(.call (.c (.fn 94)) [(.t 46)]),0,none⟩,⟨(some 48),(.mv (.t 47)),2,none⟩,⟨(some 49),(.faddr 1 (.t 1)),2,(some (48,true))⟩,⟨(some 50),(.load false [(.sl 2)] (.t 49)),2,(some (48,true))⟩,⟨(some 51),(.len 1 (.t 50)),2,(some (48,true))⟩,⟨(some 52),(.bin .num .leq (.t 51) (.c (.int .i64 12))),2,(some (48,true))⟩,⟨(some 53),(.pick (.t 48) (.t 52) (.c (.bool false))),2,none⟩,⟨(some 2),(.mv (.t 53)),2,none⟩] none) .ret)))
def Wx:List IRes:=[(.tmp 2)]
abbrev a2r:Nat:=54
def Vn:ZC:=Xi [(94,.pure (preT (fun _:Int×Unit=>true)) (Zf (fun x:Int×Unit=>Yj x.1))),(93,.pure (preT (fun x:Str×Unit=>decide (x.1.s.length<=281474976710656))) (Zf (fun x:Str×Unit=>Yf x.1)))]
theorem b6f{G:PV->Prop}(l:Lin)(h:At Vn 0 (Za Wx G) X0 0 54 [(1,(.ptr 0 0)),(6,(.pv (.sl 2 false (List.map enc l.t)))),(7,(.pv (.int .i64 (↑(List.length (List.map enc l.t)):Int)))),(8,(.pv (.int .i64 0)))] [(.obj (.box [(.pv (.int .i64 l.k)),(.pv (.sl 2 false (List.map enc l.t)))]))]):Zc Vn 0 (Za Wx G) X0 [] (Ye 54 [enc l]):=Zc.tp (.nil) h (by kernel_rfl)
theorem PM{G:PV->Prop}(l:Lin)(i:Int)(h:if (decide (i<(↑(List.length l.t):Int)))=true then(decide (0<=i)&&decide (Int.toNat i<List.length (List.map enc l.t))&&Enc.sz Coef==2)=true∧(∃ y0:Coef,AV.pv (PV.rptr (PV.cells (List.getD (List.map enc l.t) (Int.toNat i) default)))=AV.pv (PV.rptr (PV.cells ((enc) y0)))∧((Go.Pl.preT (fun(x:Str×Unit)=>decide (List.length (Str.s x.1)<=281474976710656)) [(.str (PV.asStr (List.getD (PV.cells (enc y0)) 0 default)))])=true∧(∃ y1:Bool,AV.pv (Zf (fun(x:Str×Unit)=>Yf x.1) [(.str (PV.asStr (List.getD (PV.cells (enc y0)) 0 default)))])=AV.pv (enc y1)∧(if (!y1)=true then G ((.bool false))else(if (PV.asInt (List.getD (PV.cells (enc y0)) (0+1) default)==0)=true then G ((.bool false))else(∃ y2:Bool,AV.pv (Zf (fun(x:Int×Unit)=>Yj x.1) [(.int .i64 (PV.asInt (List.getD (PV.cells (enc y0)) (0+1) default)))])=AV.pv (enc y2)∧(if (!y2)=true then G ((.bool false))else(if (decide (i>0))=true then(decide (0<=IntKind.wrap IntKind.i64 (i - 1))&&decide (Int.toNat (IntKind.wrap IntKind.i64 (i - 1))<List.length (List.map enc l.t))&&Enc.sz Coef==2)=true∧(∃ y3:Coef,AV.pv (PV.rptr (PV.cells (List.getD (List.map enc l.t) (Int.toNat (IntKind.wrap IntKind.i64 (i - 1))) default)))=AV.pv (PV.rptr (PV.cells ((enc) y3)))∧(if (!Op.bytesLess (PV.asStr (List.getD (List.drop 0 (PV.cells (enc y3))) 0 default)) (PV.asStr (List.getD (PV.cells (enc y0)) 0 default)))=true then G ((.bool false))else(At Vn 0 (Za Wx G) X0 0 54 [(1,(.ptr 0 0)),(6,(.pv (.sl 2 false (List.map enc l.t)))),(7,(.pv (.int .i64 (↑(List.length l.t):Int)))),(8,(.pv (.int .i64 (IntKind.wrap IntKind.i64 (i+1)))))] [(.obj (.box [(.pv (.int .i64 l.k)),(.pv (.sl 2 false (List.map enc l.t)))]))])))else(At Vn 0 (Za Wx G) X0 0 54 [(1,(.ptr 0 0)),(6,(.pv (.sl 2 false (List.map enc l.t)))),(7,(.pv (.int .i64 (↑(List.length l.t):Int)))),(8,(.pv (.int .i64 (IntKind.wrap IntKind.i64 (i+1)))))] [(.obj (.box [(.pv (.int .i64 l.k)),(.pv (.sl 2 false (List.map enc l.t)))]))])))))))))else(∃ y4:Bool,AV.pv (Zf (fun(x:Int×Unit)=>Yj x.1) [(.int .i64 l.k)])=AV.pv (enc y4)∧(if (y4)=true then G ((.bool (decide ((↑(List.length (List.map enc l.t)):Int)<=12))))else(G ((.bool false)))))):At Vn 0 (Za Wx G) X0 0 54 [(1,.ptr 0 0),(6,.pv (enc l.t)),(7,.pv (.int .i64 l.t.length)),(8,.pv (.int .i64 i))] [.obj (.box [.pv (.int .i64 l.k),.pv (enc l.t)])]:=At.tp (.lit (.ask (.req (.abs (Coef) (fun YY=>AV.pv (PV.rptr (PV.cells ((enc) YY)))) (.lit (.req (.abs (Bool) (fun YY=>AV.pv (enc YY)) (.ask (.lit (.lit (.lit (.lit (.lit (.lit (.lit (.lit (.lit (.lit (.lit (.lit (.lit (.lit (.nil))))))))))))))) (.lit (.lit (.lit (.lit (.ask (.lit (.lit (.lit (.lit (.lit (.lit (.lit (.lit (.lit (.lit (.nil))))))))))) (.lit (.lit (.lit (.abs (Bool) (fun YY=>AV.pv (enc YY)) (.lit (.lit (.ask (.lit (.lit (.lit (.lit (.lit (.nil)))))) (.lit (.lit (.lit (.ask (.lit (.lit (.lit (.lit (.lit (.req (.abs (Coef) (fun YY=>AV.pv (PV.rptr (PV.cells ((enc) YY)))) (.lit (.lit (.lit (.lit (.lit (.lit (.lit (.lit (.lit (.lit (.ask (.nil) (.lit (.nil)))))))))))))))))))) (.lit (.lit (.lit (.lit (.lit (.lit (.lit (.lit (.lit (.lit (.lit (.lit (.lit (.lit (.nil))))))))))))))))))))))))))))))))))))) (.lit (.abs (Bool) (fun YY=>AV.pv (enc YY)) (.ask (.lit (.lit (.lit (.lit (.lit (.nil)))))) (.lit (.lit (.lit (.lit (.nil)))))))))) h (by kernel_rfl)
def S9:IC:=(.seq (.reg [⟨(some 1),(.box 2 (.t 0)),0,none⟩,⟨(some 2),(.mv (.c (.bool false))),1,none⟩] none) (.seq (.reg [⟨(some 3),(.load true [(.int .i64),(.sl 2)] (.t 1)),0,none⟩,⟨(some 4),(.call (.c (.fn 56)) [(.t 3)]),0,none⟩,⟨(some 5),(.un .not (.t 4)),2,none⟩,⟨(some 2),(.mv (.t 5)),2,none⟩] none) .ret))
def SK:List IRes:=[(.tmp 2)]
abbrev b3w:Nat:=6
def LB:ZC:=Xi [(56,.pure (preT (fun x:Lin×Unit=>V8 x.1)) (Zf (fun x:Lin×Unit=>Zw x.1)))]
theorem b8n{G:PV->Prop}(l:Lin)(h:(Go.Pl.preT (fun(x:Lin×Unit)=>V8 x.1) [(.agg [(.int .i64 l.k),(.sl 2 false (List.map enc l.t))])])=true∧(∃ y0:Bool,AV.pv (Zf (fun(x:Lin×Unit)=>Zw x.1) [(.agg [(.int .i64 l.k),(.sl 2 false (List.map enc l.t))])])=AV.pv (enc y0)∧(G ((.bool !y0))))):Zc LB 0 (Za SK G) S9 [] (Ye 6 [.agg [enc l.k,enc l.t]]):=Zc.tp (.req (.abs (Bool) (fun YY=>AV.pv (enc YY)) (.nil))) h (by kernel_rfl)
def KE:IC:=(.seq (.reg [⟨(some 4),(.mv (.c (.int .i64 0))),0,none⟩] none) (.seq (.seq (.reg [⟨(some 6),(.mv (.t 0)),0,none⟩,⟨(some 7),(.len 1 (.t 6)),0,none⟩,⟨(some 8),(.mv (.c (.int .i64 0))),0,none⟩] none) (.block 0 (.loop [8,7,1,0] (.seq (.reg [⟨(some 9),(.bin .num .lss (.t 8) (.t 7)),0,none⟩] none) (.seq (.cond (.t 9) .skip (.exit 0)) (.seq (.block 1 (.seq (.reg [⟨(some 10),(.mv (.t 8)),0,none⟩,⟨(some 5),(.mv (.t 10)),0,none⟩] none) (.seq (.reg [⟨(some 11),(.mv (.t 1)),0,none⟩,⟨(some 12),(.mv (.t 0)),0,none⟩,⟨(some 13),(.mv (.t 5)),0,none⟩,⟨(some 14),(.iaddr 2 (.t 12) (.t 13)),0,none⟩,⟨(some 15),(.load true [(.int .i64),(.sl 2)] (.t 14)),0,none⟩,⟨(some 16),(.call (.t 11) [(.t 15)]),0,none⟩] none) (.cond (.t 16) (.seq (.reg [⟨(some 17),(.mv (.t 5)),0,none⟩,⟨(some 4),(.mv (.t 17)),0,none⟩] none) .ret) .skip)))) (.reg [⟨(some 18),(.bin .num .add (.t 8) (.c (.int .i64 1))),0,none⟩,⟨(some 8),(.mv (.t 18)),0,none⟩] none))))))) (.seq (.reg [⟨(some 4),(.mv (.c (.int .i64 (-1)))),0,none⟩] none) .ret)))
def Q6:List IRes:=[(.tmp 4)]
abbrev b9u:Nat:=19
def Di:ZC:=Xi [(103,.pure (preT (fun x:Lin×Unit=>V8 x.1)) (Zf (fun x:Lin×Unit=> !(Zw x.1))))]
theorem c5b{G:PV->Prop}(l:List Lin)(h:At Di 0 (Za Q6 G) KE 0 19 [(0,(.pv (.sl 2 false (List.map enc l)))),(1,(.pv (.fn 103))),(7,(.pv (.int .i64 (↑(List.length (List.map enc l)):Int)))),(8,(.pv (.int .i64 0)))] []):Zc Di 0 (Za Q6 G) KE [] (Ye 19 [enc l,.fn 103]):=Zc.tp (.nil) h (by kernel_rfl)
theorem a2k{G:PV->Prop}(l:List Lin)(i:Int)(h:if (decide (i<(↑(List.length l):Int)))=true then(decide (0<=i)&&decide (Int.toNat i<List.length (List.map enc l))&&Enc.sz Lin==2)=true∧(∃ y0:Lin,AV.pv (PV.rptr (PV.cells (List.getD (List.map enc l) (Int.toNat i) default)))=AV.pv (PV.rptr (PV.cells ((enc) y0)))∧((Go.Pl.preT (fun(x:Lin×Unit)=>V8 x.1) [(.agg [(.int .i64 (PV.asInt (List.getD (PV.cells (enc y0)) 0 default))),(.sl 2 false (PV.asXs (List.getD (PV.cells (enc y0)) (0+1) default)))])])=true∧(∃ y1:Bool,AV.pv (Zf (fun(x:Lin×Unit)=> !Zw x.1) [(.agg [(.int .i64 (PV.asInt (List.getD (PV.cells (enc y0)) 0 default))),(.sl 2 false (PV.asXs (List.getD (PV.cells (enc y0)) (0+1) default)))])])=AV.pv (enc y1)∧(if (y1)=true then G ((.int .i64 i))else(At Di 0 (Za Q6 G) KE 0 19 [(0,(.pv (.sl 2 false (List.map enc l)))),(1,(.pv (.fn 103))),(7,(.pv (.int .i64 (↑(List.length l):Int)))),(8,(.pv (.int .i64 (IntKind.wrap IntKind.i64 (i+1)))))] [])))))else(G ((.int .i64 (-1))))):At Di 0 (Za Q6 G) KE 0 19 [(0,.pv (enc l)),(1,.pv (.fn 103)),(7,.pv (.int .i64 l.length)),(8,.pv (.int .i64 i))] []:=At.tp (.lit (.ask (.req (.abs (Lin) (fun YY=>AV.pv (PV.rptr (PV.cells ((enc) YY)))) (.lit (.req (.abs (Bool) (fun YY=>AV.pv (enc YY)) (.ask (.nil) (.lit (.nil)))))))) (.nil))) h (by kernel_rfl)
def MP:IC:=(.seq (.reg [⟨(some 4),(.mv (.c (.bool false))),0,none⟩] none) (.seq (.reg [⟨(some 5),(.mv (.t 0)),0,none⟩,⟨(some 6),(.mv (.t 1)),0,none⟩,⟨(some 7),(.call (.c (.fn 129)) [(.t 5),(.t 6)]),0,none⟩,⟨(some 8),(.bin .num .geq (.t 7) (.c (.int .i64 0))),2,none⟩,⟨(some 4),(.mv (.t 8)),2,none⟩] none) .ret))
def MV:List IRes:=[(.tmp 4)]
abbrev c0e:Nat:=9
def a4g:ZC:=Xi [(129,.pure (preT (fun x:List Lin×FnV 103×Unit=>decide (x.1.length<=1048576)&&x.1.all V8)) (Zf (fun x:List Lin×FnV 103×Unit=>Y6 (fun l:Lin=> !(Zw l)) x.1)))]
theorem c4g{G:PV->Prop}(l:List Lin)(h:(Go.Pl.preT (fun(x:List Lin×FnV 103×Unit)=>decide (List.length x.1<=1048576)&&List.all x.1 V8) [(.sl 2 false (List.map enc l)),(.fn 103)])=true∧(∃ y0:Int,AV.pv (Zf (fun(x:List Lin×FnV 103×Unit)=>Y6 (fun(l:Lin)=> !Zw l) x.1) [(.sl 2 false (List.map enc l)),(.fn 103)])=AV.pv (enc y0)∧(G ((.bool (decide (y0 ≥ 0))))))):Zc a4g 0 (Za MV G) MP [] (Ye 9 [enc l,.fn 103]):=Zc.tp (.req (.abs (Int) (fun YY=>AV.pv (enc YY)) (.lit (.nil)))) h (by kernel_rfl)
def Hm:IC:=(.seq (.reg [⟨(some 3),(.box 10 (.t 0)),0,none⟩,⟨(some 6),(.mv (.c (.bool false))),1,none⟩] none) (.seq (.reg [⟨(some 7),(.faddr 7 (.t 3)),0,none⟩,⟨(some 8),(.load false [(.sl 2)] (.t 7)),0,none⟩,⟨(some 9),(.len 1 (.t 8)),0,none⟩,⟨(some 10),(.mv (.t 1)),0,none⟩,⟨(some 11),(.bin .num .leq (.t 9) (.t 10)),0,none⟩,⟨(some 12),(.mv (.t 11)),0,none⟩,⟨(some 13),(.faddr 8 (.t 3)),0,(some (12,true))⟩,⟨(some 14),(.load false [(.sl 1)] (.t 13)),0,(some (12,true))⟩,⟨(some 15),(.len 1 (.t 14)),0,(some (12,true))⟩,⟨(some 16),(.mv (.t 2)),0,(some (12,true))⟩,⟨(some 17),(.bin .num .leq (.t 15) (.t 16)),0,(some (12,true))⟩,⟨(some 18),(.pick (.t 12) (.t 17) (.c (.bool false))),0,none⟩,⟨(some 19),(.mv (.t 18)),0,none⟩,⟨(some 20),(.faddr 7 (.t 3)),0,(some (19,true))⟩,⟨(some 21),(.load false [(.sl 2)] (.t 20)),0,(some (19,true))⟩,⟨(some 22),(.call (.c (.fn 102)) [(.t 21),(.c (.fn 103))]),0,(some (19,true))⟩,⟨(some 23),(.un .not (.t 22)),2,(some (19,true))⟩,⟨(some 24),(.pick (.t 19) (.t 23) (.c (.bool false))),2,none⟩,⟨(some 6),(.mv (.t 24)),2,none⟩] none) .ret))
def Ho:List IRes:=[(.tmp 6)]
abbrev a0n:Nat:=25
def Bc:ZC:=Xi [(102,.pure (preT (fun x:List Lin×FnV 103×Unit=>decide (x.1.length<=1048576)&&x.1.all V8)) (Zf (fun x:List Lin×FnV 103×Unit=>x.1.any fun l:Lin=> !(Zw l))))]
theorem a9b{G:PV->Prop}(n:Nd)(ks:List Tm)(a b:Int)(h:if (decide ((↑(List.length (List.map enc (Nd.sizes n))):Int)<=a))=true then if (decide ((↑(List.length (List.map enc (Nd.ranks n))):Int)<=b))=true then(Go.Pl.preT (fun(x:List Lin×FnV 103×Unit)=>decide (List.length x.1<=1048576)&&List.all x.1 V8) [(.sl 2 false (List.map enc (Nd.sizes n))),(.fn 103)])=true∧(∃ y0:Bool,AV.pv (Zf (fun(x:List Lin×FnV 103×Unit)=>List.any x.1 fun(l:Lin)=> !Zw l) [(.sl 2 false (List.map enc (Nd.sizes n))),(.fn 103)])=AV.pv (enc y0)∧(G ((.bool !y0))))else(G ((.bool false)))else(G ((.bool false)))):Zc Bc 0 (Za Ho G) Hm [] (Ye 25 [.agg [enc n.kind,enc n.line,enc n.name,enc n.num,enc n.elem,enc n.dims,enc n.data,enc n.sizes,enc n.ranks,enc ks],.int .i64 a,.int .i64 b]):=Zc.tp (.lit (.ask (.lit (.lit (.lit (.lit (.lit (.lit (.ask (.lit (.lit (.req (.abs (Bool) (fun YY=>AV.pv (enc YY)) (.lit (.lit (.nil))))))) (.lit (.lit (.lit (.lit (.nil)))))))))))) (.lit (.lit (.lit (.lit (.lit (.lit (.lit (.lit (.lit (.lit (.nil))))))))))))) h (by kernel_rfl)
def AQ:IC:=(.seq (.reg [⟨(some 2),(.mv (.c (.bool false))),0,none⟩] none) (.seq (.reg [⟨(some 3),(.mv (.t 0)),0,none⟩,⟨(some 4),(.bin .num .lss (.t 3) (.c (.int .i64 0))),0,none⟩,⟨(some 5),(.mv (.t 4)),0,none⟩,⟨(some 6),(.mv (.t 0)),0,(some (5,false))⟩,⟨(some 7),(.bin .num .gtr (.t 6) (.c (.int .i64 6))),0,(some (5,false))⟩,⟨(some 8),(.pick (.t 5) (.c (.bool true)) (.t 7)),0,none⟩,⟨(some 2),(.mv (.t 8)),0,none⟩] none) .ret))
def TR:List IRes:=[(.tmp 2)]
abbrev b6m:Nat:=9
def NS:ZC:=Xi []
theorem c2g{G:PV->Prop}(n:Int)(h:if (decide (n<0))=true then G ((.bool true))else(G ((.bool (decide (n>6)))))):Zc NS 0 (Za TR G) AQ [] (Ye 9 [.int .i64 n]):=Zc.tp (.lit (.ask (.lit (.lit (.nil))) (.lit (.lit (.lit (.nil)))))) h (by kernel_rfl)
def Qr:IC:=(.seq (.reg [⟨(some 4),(.mv (.c (.int .i64 0))),0,none⟩] none) (.seq (.seq (.reg [⟨(some 6),(.mv (.t 0)),0,none⟩,⟨(some 7),(.len 1 (.t 6)),0,none⟩,⟨(some 8),(.mv (.c (.int .i64 0))),0,none⟩] none) (.block 0 (.loop [8,7,1,0] (.seq (.reg [⟨(some 9),(.bin .num .lss (.t 8) (.t 7)),0,none⟩] none) (.seq (.cond (.t 9) .skip (.exit 0)) (.seq (.block 1 (.seq (.reg [⟨(some 10),(.mv (.t 8)),0,none⟩,⟨(some 5),(.mv (.t 10)),0,none⟩] none) (.seq (.reg [⟨(some 11),(.mv (.t 1)),0,none⟩,⟨(some 12),(.mv (.t 0)),0,none⟩,⟨(some 13),(.mv (.t 5)),0,none⟩,⟨(some 14),(.iaddr 1 (.t 12) (.t 13)),0,none⟩,⟨(some 15),(.load false [(.int .i64)] (.t 14)),0,none⟩,⟨(some 16),(.call (.t 11) [(.t 15)]),0,none⟩] none) (.cond (.t 16) (.seq (.reg [⟨(some 17),(.mv (.t 5)),0,none⟩,⟨(some 4),(.mv (.t 17)),0,none⟩] none) .ret) .skip)))) (.reg [⟨(some 18),(.bin .num .add (.t 8) (.c (.int .i64 1))),0,none⟩,⟨(some 8),(.mv (.t 18)),0,none⟩] none))))))) (.seq (.reg [⟨(some 4),(.mv (.c (.int .i64 (-1)))),0,none⟩] none) .ret)))
def Kt:List IRes:=[(.tmp 4)]
abbrev b8h:Nat:=19
def Da:ZC:=Xi [(105,.pure (preT (fun _:Int×Unit=>true)) (Zf (fun x:Int×Unit=>Z4 x.1)))]
theorem c3b{G:PV->Prop}(l:List Int)(h:At Da 0 (Za Kt G) Qr 0 19 [(0,(.pv (.sl 1 false (List.map enc l)))),(1,(.pv (.fn 105))),(7,(.pv (.int .i64 (↑(List.length (List.map enc l)):Int)))),(8,(.pv (.int .i64 0)))] []):Zc Da 0 (Za Kt G) Qr [] (Ye 19 [enc l,.fn 105]):=Zc.tp (.nil) h (by kernel_rfl)
theorem a5r{G:PV->Prop}(l:List Int)(i:Int)(h:if (decide (i<(↑(List.length l):Int)))=true then(decide (0<=i)&&decide (Int.toNat i<List.length (List.map enc l))&&Enc.sz Int==1)=true∧(∃ y0:Int,AV.pv (PV.rptr (PV.cells (List.getD (List.map enc l) (Int.toNat i) default)))=AV.pv (PV.rptr (PV.cells ((enc) y0)))∧(∃ y1:Bool,AV.pv (Zf (fun(x:Int×Unit)=>Z4 x.1) [(.int .i64 (PV.asInt (List.getD (PV.cells (enc y0)) 0 default)))])=AV.pv (enc y1)∧(if (y1)=true then G ((.int .i64 i))else(At Da 0 (Za Kt G) Qr 0 19 [(0,(.pv (.sl 1 false (List.map enc l)))),(1,(.pv (.fn 105))),(7,(.pv (.int .i64 (↑(List.length l):Int)))),(8,(.pv (.int .i64 (IntKind.wrap IntKind.i64 (i+1)))))] []))))else(G ((.int .i64 (-1))))):At Da 0 (Za Kt G) Qr 0 19 [(0,.pv (enc l)),(1,.pv (.fn 105)),(7,.pv (.int .i64 l.length)),(8,.pv (.int .i64 i))] []:=At.tp (.lit (.ask (.req (.abs (Int) (fun YY=>AV.pv (PV.rptr (PV.cells ((enc) YY)))) (.lit (.lit (.abs (Bool) (fun YY=>AV.pv (enc YY)) (.ask (.nil) (.lit (.nil)))))))) (.nil))) h (by kernel_rfl)
def Sc:IC:=(.seq (.reg [⟨(some 4),(.mv (.c (.bool false))),0,none⟩] none) (.seq (.reg [⟨(some 5),(.mv (.t 0)),0,none⟩,⟨(some 6),(.mv (.t 1)),0,none⟩,⟨(some 7),(.call (.c (.fn 130)) [(.t 5),(.t 6)]),0,none⟩,⟨(some 8),(.bin .num .geq (.t 7) (.c (.int .i64 0))),2,none⟩,⟨(some 4),(.mv (.t 8)),2,none⟩] none) .ret))
def Fq:List IRes:=[(.tmp 4)]
abbrev c0t:Nat:=9
def a9p:ZC:=Xi [(130,.pure (preT (fun x:List Int×FnV 105×Unit=>decide (x.1.length<=1048576))) (Zf (fun x:List Int×FnV 105×Unit=>Y6 Z4 x.1)))]
theorem c4k{G:PV->Prop}(l:List Int)(h:(Go.Pl.preT (fun(x:List Int×FnV 105×Unit)=>decide (List.length x.1<=1048576)) [(.sl 1 false (List.map enc l)),(.fn 105)])=true∧(∃ y0:Int,AV.pv (Zf (fun(x:List Int×FnV 105×Unit)=>Y6 Z4 x.1) [(.sl 1 false (List.map enc l)),(.fn 105)])=AV.pv (enc y0)∧(G ((.bool (decide (y0 ≥ 0))))))):Zc a9p 0 (Za Fq G) Sc [] (Ye 9 [enc l,.fn 105]):=Zc.tp (.req (.abs (Int) (fun YY=>AV.pv (enc YY)) (.lit (.nil)))) h (by kernel_rfl)
def Dc:IC:=(.seq (.reg [⟨(some 1),(.box 10 (.t 0)),0,none⟩,⟨(some 2),(.mv (.c (.bool false))),1,none⟩] none) (.seq (.seq (.reg [⟨(some 3),(.faddr 2 (.t 1)),0,none⟩,⟨(some 4),(.load false [.str] (.t 3)),0,none⟩,⟨(some 5),(.call (.c (.fn 79)) [(.t 4)]),0,none⟩,⟨(some 6),(.un .not (.t 5)),2,none⟩,⟨(some 7),(.mv (.t 6)),2,none⟩,⟨(some 8),(.faddr 3 (.t 1)),2,(some (7,false))⟩,⟨(some 9),(.load false [(.int .i64)] (.t 8)),2,(some (7,false))⟩,⟨(some 10),(.bin .num .lss (.t 9) (.c (.int .i64 0))),2,(some (7,false))⟩,⟨(some 11),(.pick (.t 7) (.c (.bool true)) (.t 10)),2,none⟩,⟨(some 12),(.mv (.t 11)),2,none⟩,⟨(some 13),(.faddr 3 (.t 1)),2,(some (12,false))⟩,⟨(some 14),(.load false [(.int .i64)] (.t 13)),2,(some (12,false))⟩,⟨(some 15),(.bin .num .gtr (.t 14) (.c (.int .i64 64))),2,(some (12,false))⟩,⟨(some 16),(.pick (.t 12) (.c (.bool true)) (.t 15)),2,none⟩,⟨(some 17),(.mv (.t 16)),2,none⟩,⟨(some 18),(.faddr 9 (.t 1)),2,(some (17,false))⟩,⟨(some 19),(.load false [(.sl 10)] (.t 18)),2,(some (17,false))⟩,⟨(some 20),(.len 1 (.t 19)),2,(some (17,false))⟩,⟨(some 21),(.bin .num .gtr (.t 20) (.c (.int .i64 8))),2,(some (17,false))⟩,⟨(some 22),(.pick (.t 17) (.c (.bool true)) (.t 21)),2,none⟩,⟨(some 23),(.mv (.t 22)),2,none⟩,⟨(some 24),(.faddr 8 (.t 1)),2,(some (23,false))⟩,⟨(some 25),(.load false [(.sl 1)] (.t 24)),2,(some (23,false))⟩,⟨(some 26),(.len 1 (.t 25)),2,(some (23,false))⟩,⟨(some 27),(.bin .num .gtr (.t 26) (.c (.int .i64 0))),2,(some (23,false))⟩,⟨(some 28),(.mv (.t 27)),2,(some (23,false))⟩,⟨(some 29),(.faddr 8 (.t 1)),2,(some (28,true))⟩,⟨(some 30),(.load false [(.sl 1)] (.t 29)),2,(some (28,true))⟩,⟨(some 31),(.len 1 (.t 30)),2,(some (28,true))⟩,⟨(some 32),(.faddr 9 (.t 1)),2,(some (28,true))⟩,⟨(some 33),(.load false [(.sl 10)] (.t 32)),2,(some (28,true))⟩,⟨(some 34),(.len 1 (.t 33)),2,(some (28,true))⟩,⟨(some 35),(.bin .num .neq (.t 31) (.t 34)),2,(some (28,true))⟩,⟨(some 36),(.pick (.t 28) (.t 35) (.c (.bool false))),2,(some (23,false))⟩,⟨(some 37),(.pick (.t 23) (.c (.bool true)) (.t 36)),2,none⟩] none) (.cond (.t 37) (.seq (.reg [⟨(some 2),(.mv (.c (.bool false))),0,none⟩] none) .ret) .skip)) (.seq (.reg [⟨(some 38),(.load true [(.int .i64),(.int .i64),.str,(.int .i64),.str,(.sl 1),(.sl 1),(.sl 2),(.sl 1),(.sl 10)] (.t 1)),0,none⟩,⟨(some 39),(.call (.c (.fn 76)) [(.t 38),(.c (.int .i64 4)),(.c (.int .i64 8))]),0,none⟩,⟨(some 40),(.mv (.t 39)),2,none⟩,⟨(some 41),(.faddr 8 (.t 1)),2,(some (40,true))⟩,⟨(some 42),(.load false [(.sl 1)] (.t 41)),2,(some (40,true))⟩,⟨(some 43),(.call (.c (.fn 104)) [(.t 42),(.c (.fn 105))]),2,(some (40,true))⟩,⟨(some 44),(.un .not (.t 43)),4,(some (40,true))⟩,⟨(some 45),(.pick (.t 40) (.t 44) (.c (.bool false))),4,none⟩,⟨(some 2),(.mv (.t 45)),4,none⟩] none) .ret)))
def Jl:List IRes:=[(.tmp 2)]
abbrev b1f:Nat:=46
def GL:ZC:=Xi [(79,.pure (preT (fun x:Str×Unit=>decide (x.1.s.length<=1048576))) (Zf (fun x:Str×Unit=>RS x.1.s))),(76,.pure (preT (fun x:Tm×Int×Int×Unit=>tW x.1)) (Zf (fun x:Tm×Int×Int×Unit=>Z8 x.1.nd x.2.1 x.2.2.1))),(104,.pure (preT (fun x:List Int×FnV 105×Unit=>decide (x.1.length<=1048576))) (Zf (fun x:List Int×FnV 105×Unit=>x.1.any Z4)))]
theorem b6q{G:PV->Prop}(n:Nd)(ks:List Tm)(h:(Go.Pl.preT (fun(x:Str×Unit)=>decide (List.length (Str.s x.1)<=1048576)) [(.str (Str.s (Nd.name n)))])=true∧(∃ y0:Bool,AV.pv (Zf (fun(x:Str×Unit)=>RS (Str.s x.1)) [(.str (Str.s (Nd.name n)))])=AV.pv (enc y0)∧(if (!y0)=true then G ((.bool false))else(if (decide (Nd.num n<0))=true then G ((.bool false))else(if (decide (Nd.num n>64))=true then G ((.bool false))else(if (decide ((↑(List.length (List.map enc ks)):Int)>8))=true then G ((.bool false))else(if (decide ((↑(List.length (List.map enc (Nd.ranks n))):Int)>0))=true then if ((↑(List.length (List.map enc (Nd.ranks n))):Int) != (↑(List.length (List.map enc ks)):Int))=true then G ((.bool false))else((Go.Pl.preT (fun(x:Tm×Int×Int×Unit)=>tW x.1) [(.agg [(.int .i64 (Nd.kind n)),(.int .i64 (Nd.line n)),(.str (Str.s (Nd.name n))),(.int .i64 (Nd.num n)),(.str (Str.s (Nd.elem n))),(.sl 1 false (List.map enc (Nd.dims n))),(.sl 1 false (List.map enc (Nd.data n))),(.sl 2 false (List.map enc (Nd.sizes n))),(.sl 1 false (List.map enc (Nd.ranks n))),(.sl 10 false (List.map enc ks))]),(.int .i64 4),(.int .i64 8)])=true∧(∃ y1:Bool,AV.pv (Zf (fun(x:Tm×Int×Int×Unit)=>Z8 (Tm.nd x.1) x.2.1 x.2.2.1) [(.agg [(.int .i64 (Nd.kind n)),(.int .i64 (Nd.line n)),(.str (Str.s (Nd.name n))),(.int .i64 (Nd.num n)),(.str (Str.s (Nd.elem n))),(.sl 1 false (List.map enc (Nd.dims n))),(.sl 1 false (List.map enc (Nd.data n))),(.sl 2 false (List.map enc (Nd.sizes n))),(.sl 1 false (List.map enc (Nd.ranks n))),(.sl 10 false (List.map enc ks))]),(.int .i64 4),(.int .i64 8)])=AV.pv (enc y1)∧(if (y1)=true then(Go.Pl.preT (fun(x:List Int×FnV 105×Unit)=>decide (List.length x.1<=1048576)) [(.sl 1 false (List.map enc (Nd.ranks n))),(.fn 105)])=true∧(∃ y2:Bool,AV.pv (Zf (fun(x:List Int×FnV 105×Unit)=>List.any x.1 Z4) [(.sl 1 false (List.map enc (Nd.ranks n))),(.fn 105)])=AV.pv (enc y2)∧(G ((.bool !y2))))else(G ((.bool false))))))else((Go.Pl.preT (fun(x:Tm×Int×Int×Unit)=>tW x.1) [(.agg [(.int .i64 (Nd.kind n)),(.int .i64 (Nd.line n)),(.str (Str.s (Nd.name n))),(.int .i64 (Nd.num n)),(.str (Str.s (Nd.elem n))),(.sl 1 false (List.map enc (Nd.dims n))),(.sl 1 false (List.map enc (Nd.data n))),(.sl 2 false (List.map enc (Nd.sizes n))),(.sl 1 false (List.map enc (Nd.ranks n))),(.sl 10 false (List.map enc ks))]),(.int .i64 4),(.int .i64 8)])=true∧(∃ y3:Bool,AV.pv (Zf (fun(x:Tm×Int×Int×Unit)=>Z8 (Tm.nd x.1) x.2.1 x.2.2.1) [(.agg [(.int .i64 (Nd.kind n)),(.int .i64 (Nd.line n)),(.str (Str.s (Nd.name n))),(.int .i64 (Nd.num n)),(.str (Str.s (Nd.elem n))),(.sl 1 false (List.map enc (Nd.dims n))),(.sl 1 false (List.map enc (Nd.data n))),(.sl 2 false (List.map enc (Nd.sizes n))),(.sl 1 false (List.map enc (Nd.ranks n))),(.sl 10 false (List.map enc ks))]),(.int .i64 4),(.int .i64 8)])=AV.pv (enc y3)∧(if (y3)=true then(Go.Pl.preT (fun(x:List Int×FnV 105×Unit)=>decide (List.length x.1<=1048576)) [(.sl 1 false (List.map enc (Nd.ranks n))),(.fn 105)])=true∧(∃ y4:Bool,AV.pv (Zf (fun(x:List Int×FnV 105×Unit)=>List.any x.1 Z4) [(.sl 1 false (List.map enc (Nd.ranks n))),(.fn 105)])=AV.pv (enc y4)∧(G ((.bool !y4))))else(G ((.bool false))))))))))))):Zc GL 0 (Za Jl G) Dc [] (Ye 46 [.agg [enc n.kind,enc n.line,enc n.name,enc n.num,enc n.elem,enc n.dims,enc n.data,enc n.sizes,enc n.ranks,enc ks]]):=Zc.tp (.req (.abs (Bool) (fun YY=>AV.pv (enc YY)) (.ask (.lit (.lit (.lit (.lit (.lit (.lit (.lit (.lit (.lit (.lit (.lit (.lit (.lit (.lit (.lit (.lit (.lit (.lit (.lit (.lit (.nil))))))))))))))))))))) (.lit (.lit (.lit (.lit (.ask (.lit (.lit (.lit (.lit (.lit (.lit (.lit (.lit (.lit (.lit (.lit (.lit (.lit (.lit (.lit (.lit (.nil))))))))))))))))) (.lit (.lit (.lit (.lit (.ask (.lit (.lit (.lit (.lit (.lit (.lit (.lit (.lit (.lit (.lit (.lit (.lit (.nil))))))))))))) (.lit (.lit (.lit (.lit (.lit (.ask (.lit (.lit (.lit (.lit (.lit (.lit (.lit (.nil)))))))) (.lit (.lit (.lit (.lit (.lit (.ask (.lit (.lit (.lit (.lit (.lit (.lit (.lit (.lit (.lit (.lit (.ask (.nil) (.req (.abs (Bool) (fun YY=>AV.pv (enc YY)) (.ask (.lit (.lit (.req (.abs (Bool) (fun YY=>AV.pv (enc YY)) (.lit (.lit (.nil))))))) (.lit (.lit (.lit (.lit (.nil))))))))))))))))))) (.lit (.lit (.lit (.lit (.lit (.lit (.lit (.lit (.lit (.lit (.req (.abs (Bool) (fun YY=>AV.pv (enc YY)) (.ask (.lit (.lit (.req (.abs (Bool) (fun YY=>AV.pv (enc YY)) (.lit (.lit (.nil))))))) (.lit (.lit (.lit (.lit (.nil))))))))))))))))))))))))))))))))))))))))))) h (by kernel_rfl)
def Dr:IC:=(.seq (.reg [⟨(some 1),(.box 10 (.t 0)),0,none⟩,⟨(some 2),(.mv (.c (.bool false))),1,none⟩] none) (.seq (.seq (.reg [⟨(some 5),(.faddr 1 (.t 1)),0,none⟩,⟨(some 6),(.load false [(.int .i64)] (.t 5)),0,none⟩,⟨(some 7),(.bin .num .lss (.t 6) (.c (.int .i64 0))),0,none⟩,⟨(some 8),(.mv (.t 7)),0,none⟩,⟨(some 9),(.faddr 1 (.t 1)),0,(some (8,false))⟩,⟨(some 10),(.load false [(.int .i64)] (.t 9)),0,(some (8,false))⟩,⟨(some 11),(.bin .num .gtr (.t 10) (.c (.int .i64 10000))),0,(some (8,false))⟩,⟨(some 12),(.pick (.t 8) (.c (.bool true)) (.t 11)),0,none⟩] none) (.cond (.t 12) (.seq (.reg [⟨(some 2),(.mv (.c (.bool false))),0,none⟩] none) .ret) .skip)) (.seq (.reg [⟨(some 13),(.faddr 4 (.t 1)),0,none⟩,⟨(some 14),(.faddr 0 (.t 13)),0,none⟩,⟨(some 15),(.load false [.str] (.t 14)),0,none⟩,⟨(some 16),(.bin .num .eql (.t 15) (.c (.str []))),0,none⟩,⟨(some 17),(.mv (.t 16)),0,none⟩,⟨(some 18),(.faddr 4 (.t 1)),0,(some (17,true))⟩,⟨(some 19),(.faddr 1 (.t 18)),0,(some (17,true))⟩,⟨(some 20),(.load false [(.sl 1)] (.t 19)),0,(some (17,true))⟩,⟨(some 21),(.len 1 (.t 20)),0,(some (17,true))⟩,⟨(some 22),(.bin .num .eql (.t 21) (.c (.int .i64 0))),0,(some (17,true))⟩,⟨(some 23),(.pick (.t 17) (.t 22) (.c (.bool false))),0,none⟩,⟨(some 24),(.mv (.t 23)),0,none⟩,⟨(some 25),(.faddr 4 (.t 1)),0,(some (24,true))⟩,⟨(some 26),(.faddr 2 (.t 25)),0,(some (24,true))⟩,⟨(some 27),(.load false [(.sl 1)] (.t 26)),0,(some (24,true))⟩,⟨(some 28),(.len 1 (.t 27)),0,(some (24,true))⟩,⟨(some 29),(.bin .num .eql (.t 28) (.c (.int .i64 0))),0,(some (24,true))⟩,⟨(some 30),(.pick (.t 24) (.t 29) (.c (.bool false))),0,none⟩,⟨(some 3),(.mv (.t 30)),0,none⟩] none) (.seq (.reg [⟨(some 31),(.faddr 9 (.t 1)),0,none⟩,⟨(some 32),(.load false [(.sl 10)] (.t 31)),0,none⟩,⟨(some 33),(.len 1 (.t 32)),0,none⟩,⟨(some 4),(.mv (.t 33)),0,none⟩] none) (.seq (.seq (.reg [⟨(some 34),(.faddr 0 (.t 1)),0,none⟩,⟨(some 35),(.load false [(.int .i64)] (.t 34)),0,none⟩] none) (.block 0 (.seq (.reg [⟨(some 37),(.bin .num .eql (.t 35) (.c (.int .i64 1))),0,none⟩,⟨(some 36),(.mv (.t 37)),0,none⟩] none) (.cond (.t 36) (.seq (.reg [⟨(some 38),(.mv (.t 3)),0,none⟩,⟨(some 39),(.mv (.t 38)),0,none⟩,⟨(some 40),(.faddr 2 (.t 1)),0,(some (39,true))⟩,⟨(some 41),(.load false [.str] (.t 40)),0,(some (39,true))⟩,⟨(some 42),(.call (.c (.fn 46)) [(.t 41)]),0,(some (39,true))⟩,⟨(some 43),(.pick (.t 39) (.t 42) (.c (.bool false))),2,none⟩,⟨(some 44),(.mv (.t 43)),2,none⟩,⟨(some 45),(.faddr 3 (.t 1)),2,(some (44,true))⟩,⟨(some 46),(.load false [(.int .i64)] (.t 45)),2,(some (44,true))⟩,⟨(some 47),(.bin .num .eql (.t 46) (.c (.int .i64 0))),2,(some (44,true))⟩,⟨(some 48),(.pick (.t 44) (.t 47) (.c (.bool false))),2,none⟩,⟨(some 49),(.mv (.t 48)),2,none⟩,⟨(some 50),(.mv (.t 4)),2,(some (49,true))⟩,⟨(some 51),(.bin .num .eql (.t 50) (.c (.int .i64 0))),2,(some (49,true))⟩,⟨(some 52),(.pick (.t 49) (.t 51) (.c (.bool false))),2,none⟩,⟨(some 53),(.mv (.t 52)),2,none⟩,⟨(some 54),(.load true [(.int .i64),(.int .i64),.str,(.int .i64),.str,(.sl 1),(.sl 1),(.sl 2),(.sl 1),(.sl 10)] (.t 1)),2,(some (53,true))⟩,⟨(some 55),(.call (.c (.fn 76)) [(.t 54),(.c (.int .i64 0)),(.c (.int .i64 0))]),2,(some (53,true))⟩,⟨(some 56),(.pick (.t 53) (.t 55) (.c (.bool false))),4,none⟩,⟨(some 2),(.mv (.t 56)),4,none⟩] none) .ret) (.seq (.reg [⟨(some 58),(.bin .num .eql (.t 35) (.c (.int .i64 2))),0,none⟩,⟨(some 57),(.mv (.t 58)),0,none⟩] none) (.cond (.t 57) (.seq (.reg [⟨(some 59),(.mv (.t 3)),0,none⟩,⟨(some 60),(.mv (.t 59)),0,none⟩,⟨(some 61),(.load true [(.int .i64),(.int .i64),.str,(.int .i64),.str,(.sl 1),(.sl 1),(.sl 2),(.sl 1),(.sl 10)] (.t 1)),0,(some (60,true))⟩,⟨(some 62),(.call (.c (.fn 77)) [(.t 61)]),0,(some (60,true))⟩,⟨(some 63),(.pick (.t 60) (.t 62) (.c (.bool false))),2,none⟩,⟨(some 64),(.mv (.t 63)),2,none⟩,⟨(some 65),(.mv (.t 4)),2,(some (64,true))⟩,⟨(some 66),(.bin .num .eql (.t 65) (.c (.int .i64 0))),2,(some (64,true))⟩,⟨(some 67),(.pick (.t 64) (.t 66) (.c (.bool false))),2,none⟩,⟨(some 68),(.mv (.t 67)),2,none⟩,⟨(some 69),(.load true [(.int .i64),(.int .i64),.str,(.int .i64),.str,(.sl 1),(.sl 1),(.sl 2),(.sl 1),(.sl 10)] (.t 1)),2,(some (68,true))⟩,⟨(some 70),(.call (.c (.fn 76)) [(.t 69),(.c (.int .i64 0)),(.c (.int .i64 0))]),2,(some (68,true))⟩,⟨(some 71),(.pick (.t 68) (.t 70) (.c (.bool false))),4,none⟩,⟨(some 2),(.mv (.t 71)),4,none⟩] none) .ret) (.seq (.reg [⟨(some 73),(.bin .num .eql (.t 35) (.c (.int .i64 3))),0,none⟩,⟨(some 72),(.mv (.t 73)),0,none⟩] none) (.cond (.t 72) (.seq (.reg [⟨(some 74),(.faddr 2 (.t 1)),0,none⟩,⟨(some 75),(.load false [.str] (.t 74)),0,none⟩,⟨(some 76),(.bin .num .eql (.t 75) (.c (.str []))),0,none⟩,⟨(some 77),(.mv (.t 76)),0,none⟩,⟨(some 78),(.faddr 3 (.t 1)),0,(some (77,true))⟩,⟨(some 79),(.load false [(.int .i64)] (.t 78)),0,(some (77,true))⟩,⟨(some 80),(.bin .num .eql (.t 79) (.c (.int .i64 0))),0,(some (77,true))⟩,⟨(some 81),(.pick (.t 77) (.t 80) (.c (.bool false))),0,none⟩,⟨(some 82),(.mv (.t 81)),0,none⟩,⟨(some 83),(.mv (.t 4)),0,(some (82,true))⟩,⟨(some 84),(.bin .num .eql (.t 83) (.c (.int .i64 0))),0,(some (82,true))⟩,⟨(some 85),(.pick (.t 82) (.t 84) (.c (.bool false))),0,none⟩,⟨(some 86),(.mv (.t 85)),0,none⟩,⟨(some 87),(.load true [(.int .i64),(.int .i64),.str,(.int .i64),.str,(.sl 1),(.sl 1),(.sl 2),(.sl 1),(.sl 10)] (.t 1)),0,(some (86,true))⟩,⟨(some 88),(.call (.c (.fn 76)) [(.t 87),(.c (.int .i64 0)),(.c (.int .i64 0))]),0,(some (86,true))⟩,⟨(some 89),(.pick (.t 86) (.t 88) (.c (.bool false))),2,none⟩,⟨(some 90),(.mv (.t 89)),2,none⟩,⟨(some 91),(.faddr 4 (.t 1)),2,(some (90,true))⟩,⟨(some 92),(.load true [.str,(.sl 1),(.sl 1)] (.t 91)),2,(some (90,true))⟩,⟨(some 93),(.call (.c (.fn 59)) [(.t 92)]),2,(some (90,true))⟩,⟨(some 94),(.pick (.t 90) (.t 93) (.c (.bool false))),4,none⟩,⟨(some 2),(.mv (.t 94)),4,none⟩] none) .ret) (.seq (.reg [⟨(some 96),(.bin .num .eql (.t 35) (.c (.int .i64 4))),0,none⟩,⟨(some 95),(.mv (.t 96)),0,none⟩] none) (.cond (.t 95) (.seq (.reg [⟨(some 97),(.mv (.t 3)),0,none⟩,⟨(some 98),(.mv (.t 97)),0,none⟩,⟨(some 99),(.faddr 2 (.t 1)),0,(some (98,true))⟩,⟨(some 100),(.load false [.str] (.t 99)),0,(some (98,true))⟩,⟨(some 101),(.bin .num .eql (.t 100) (.c (.str []))),0,(some (98,true))⟩,⟨(some 102),(.pick (.t 98) (.t 101) (.c (.bool false))),0,none⟩,⟨(some 103),(.mv (.t 102)),0,none⟩,⟨(some 104),(.faddr 3 (.t 1)),0,(some (103,true))⟩,⟨(some 105),(.load false [(.int .i64)] (.t 104)),0,(some (103,true))⟩,⟨(some 106),(.bin .num .eql (.t 105) (.c (.int .i64 0))),0,(some (103,true))⟩,⟨(some 107),(.pick (.t 103) (.t 106) (.c (.bool false))),0,none⟩,⟨(some 108),(.mv (.t 107)),0,none⟩,⟨(some 109),(.mv (.t 4)),0,(some (108,true))⟩,⟨(some 110),(.bin .num .eql (.t 109) (.c (.int .i64 0))),0,(some (108,true))⟩,⟨(some 111),(.pick (.t 108) (.t 110) (.c (.bool false))),0,none⟩,⟨(some 112),(.mv (.t 111)),0,none⟩,⟨(some 113),(.faddr 7 (.t 1)),0,(some (112,true))⟩,⟨(some 114),(.load false [(.sl 2)] (.t 113)),0,(some (112,true))⟩,⟨(some 115),(.len 1 (.t 114)),0,(some (112,true))⟩,⟨(some 116),(.bin .num .eql (.t 115) (.c (.int .i64 1))),0,(some (112,true))⟩,⟨(some 117),(.pick (.t 112) (.t 116) (.c (.bool false))),0,none⟩,⟨(some 118),(.mv (.t 117)),0,none⟩,⟨(some 119),(.load true [(.int .i64),(.int .i64),.str,(.int .i64),.str,(.sl 1),(.sl 1),(.sl 2),(.sl 1),(.sl 10)] (.t 1)),0,(some (118,true))⟩,⟨(some 120),(.call (.c (.fn 76)) [(.t 119),(.c (.int .i64 1)),(.c (.int .i64 0))]),0,(some (118,true))⟩,⟨(some 121),(.pick (.t 118) (.t 120) (.c (.bool false))),2,none⟩,⟨(some 2),(.mv (.t 121)),2,none⟩] none) .ret) (.seq (.reg [⟨(some 123),(.bin .num .eql (.t 35) (.c (.int .i64 5))),0,none⟩,⟨(some 122),(.mv (.t 123)),0,none⟩] none) (.cond (.t 122) (.seq (.reg [⟨(some 124),(.mv (.t 3)),0,none⟩,⟨(some 125),(.mv (.t 124)),0,none⟩,⟨(some 126),(.faddr 2 (.t 1)),0,(some (125,true))⟩,⟨(some 127),(.load false [.str] (.t 126)),0,(some (125,true))⟩,⟨(some 128),(.call (.c (.fn 46)) [(.t 127)]),0,(some (125,true))⟩,⟨(some 129),(.pick (.t 125) (.t 128) (.c (.bool false))),2,none⟩,⟨(some 130),(.mv (.t 129)),2,none⟩,⟨(some 131),(.faddr 3 (.t 1)),2,(some (130,true))⟩,⟨(some 132),(.load false [(.int .i64)] (.t 131)),2,(some (130,true))⟩,⟨(some 133),(.bin .num .eql (.t 132) (.c (.int .i64 0))),2,(some (130,true))⟩,⟨(some 134),(.pick (.t 130) (.t 133) (.c (.bool false))),2,none⟩,⟨(some 135),(.mv (.t 134)),2,none⟩,⟨(some 136),(.mv (.t 4)),2,(some (135,true))⟩,⟨(some 137),(.bin .num .eql (.t 136) (.c (.int .i64 2))),2,(some (135,true))⟩,⟨(some 138),(.pick (.t 135) (.t 137) (.c (.bool false))),2,none⟩,⟨(some 139),(.mv (.t 138)),2,none⟩,⟨(some 140),(.load true [(.int .i64),(.int .i64),.str,(.int .i64),.str,(.sl 1),(.sl 1),(.sl 2),(.sl 1),(.sl 10)] (.t 1)),2,(some (139,true))⟩,⟨(some 141),(.call (.c (.fn 76)) [(.t 140),(.c (.int .i64 0)),(.c (.int .i64 0))]),2,(some (139,true))⟩,⟨(some 142),(.pick (.t 139) (.t 141) (.c (.bool false))),4,none⟩,⟨(some 2),(.mv (.t 142)),4,none⟩] none) .ret) (.seq (.reg [⟨(some 144),(.bin .num .eql (.t 35) (.c (.int .i64 6))),0,none⟩,⟨(some 143),(.mv (.t 144)),0,none⟩] none) (.cond (.t 143) (.seq (.reg [⟨(some 145),(.mv (.t 3)),0,none⟩,⟨(some 146),(.mv (.t 145)),0,none⟩,⟨(some 147),(.load true [(.int .i64),(.int .i64),.str,(.int .i64),.str,(.sl 1),(.sl 1),(.sl 2),(.sl 1),(.sl 10)] (.t 1)),0,(some (146,true))⟩,⟨(some 148),(.call (.c (.fn 78)) [(.t 147)]),0,(some (146,true))⟩,⟨(some 149),(.pick (.t 146) (.t 148) (.c (.bool false))),2,none⟩,⟨(some 2),(.mv (.t 149)),2,none⟩] none) .ret) (.seq (.reg [⟨(some 151),(.bin .num .eql (.t 35) (.c (.int .i64 7))),0,none⟩,⟨(some 150),(.mv (.t 151)),0,none⟩] none) (.cond (.t 150) (.seq (.reg [⟨(some 152),(.mv (.t 3)),0,none⟩,⟨(some 153),(.mv (.t 152)),0,none⟩,⟨(some 154),(.faddr 2 (.t 1)),0,(some (153,true))⟩,⟨(some 155),(.load false [.str] (.t 154)),0,(some (153,true))⟩,⟨(some 156),(.bin .num .eql (.t 155) (.c (.str []))),0,(some (153,true))⟩,⟨(some 157),(.pick (.t 153) (.t 156) (.c (.bool false))),0,none⟩,⟨(some 158),(.mv (.t 157)),0,none⟩,⟨(some 159),(.faddr 3 (.t 1)),0,(some (158,true))⟩,⟨(some 160),(.load false [(.int .i64)] (.t 159)),0,(some (158,true))⟩,⟨(some 161),(.bin .num .eql (.t 160) (.c (.int .i64 0))),0,(some (158,true))⟩,⟨(some 162),(.pick (.t 158) (.t 161) (.c (.bool false))),0,none⟩,⟨(some 163),(.mv (.t 162)),0,none⟩,⟨(some 164),(.mv (.t 4)),0,(some (163,true))⟩,⟨(some 165),(.bin .num .geq (.t 164) (.c (.int .i64 1))),0,(some (163,true))⟩,⟨(some 166),(.pick (.t 163) (.t 165) (.c (.bool false))),0,none⟩,⟨(some 167),(.mv (.t 166)),0,none⟩,⟨(some 168),(.mv (.t 4)),0,(some (167,true))⟩,⟨(some 169),(.bin .num .leq (.t 168) (.c (.int .i64 16))),0,(some (167,true))⟩,⟨(some 170),(.pick (.t 167) (.t 169) (.c (.bool false))),0,none⟩,⟨(some 171),(.mv (.t 170)),0,none⟩,⟨(some 172),(.load true [(.int .i64),(.int .i64),.str,(.int .i64),.str,(.sl 1),(.sl 1),(.sl 2),(.sl 1),(.sl 10)] (.t 1)),0,(some (171,true))⟩,⟨(some 173),(.call (.c (.fn 76)) [(.t 172),(.c (.int .i64 0)),(.c (.int .i64 0))]),0,(some (171,true))⟩,⟨(some 174),(.pick (.t 171) (.t 173) (.c (.bool false))),2,none⟩,⟨(some 2),(.mv (.t 174)),2,none⟩] none) .ret) (.seq (.reg [⟨(some 176),(.bin .num .eql (.t 35) (.c (.int .i64 8))),0,none⟩,⟨(some 175),(.mv (.t 176)),0,none⟩] none) (.cond (.t 175) (.seq (.reg [⟨(some 177),(.mv (.t 3)),0,none⟩,⟨(some 178),(.mv (.t 177)),0,none⟩,⟨(some 179),(.faddr 2 (.t 1)),0,(some (178,true))⟩,⟨(some 180),(.load false [.str] (.t 179)),0,(some (178,true))⟩,⟨(some 181),(.call (.c (.fn 79)) [(.t 180)]),0,(some (178,true))⟩,⟨(some 182),(.pick (.t 178) (.t 181) (.c (.bool false))),2,none⟩,⟨(some 183),(.mv (.t 182)),2,none⟩,⟨(some 184),(.faddr 3 (.t 1)),2,(some (183,true))⟩,⟨(some 185),(.load false [(.int .i64)] (.t 184)),2,(some (183,true))⟩,⟨(some 186),(.bin .num .eql (.t 185) (.c (.int .i64 0))),2,(some (183,true))⟩,⟨(some 187),(.pick (.t 183) (.t 186) (.c (.bool false))),2,none⟩,⟨(some 188),(.mv (.t 187)),2,none⟩,⟨(some 189),(.mv (.t 4)),2,(some (188,true))⟩,⟨(some 190),(.bin .num .eql (.t 189) (.c (.int .i64 2))),2,(some (188,true))⟩,⟨(some 191),(.pick (.t 188) (.t 190) (.c (.bool false))),2,none⟩,⟨(some 192),(.mv (.t 191)),2,none⟩,⟨(some 193),(.load true [(.int .i64),(.int .i64),.str,(.int .i64),.str,(.sl 1),(.sl 1),(.sl 2),(.sl 1),(.sl 10)] (.t 1)),2,(some (192,true))⟩,⟨(some 194),(.call (.c (.fn 76)) [(.t 193),(.c (.int .i64 0)),(.c (.int .i64 0))]),2,(some (192,true))⟩,⟨(some 195),(.pick (.t 192) (.t 194) (.c (.bool false))),4,none⟩,⟨(some 2),(.mv (.t 195)),4,none⟩] none) .ret) (.seq (.reg [⟨(some 197),(.bin .num .eql (.t 35) (.c (.int .i64 9))),0,none⟩,⟨(some 196),(.mv (.t 197)),0,none⟩] none) (.cond (.t 196) (.seq (.reg [⟨(some 198),(.mv (.t 3)),0,none⟩,⟨(some 199),(.mv (.t 198)),0,none⟩,⟨(some 200),(.faddr 2 (.t 1)),0,(some (199,true))⟩,⟨(some 201),(.load false [.str] (.t 200)),0,(some (199,true))⟩,⟨(some 202),(.call (.c (.fn 79)) [(.t 201)]),0,(some (199,true))⟩,⟨(some 203),(.pick (.t 199) (.t 202) (.c (.bool false))),2,none⟩,⟨(some 204),(.mv (.t 203)),2,none⟩,⟨(some 205),(.faddr 3 (.t 1)),2,(some (204,true))⟩,⟨(some 206),(.load false [(.int .i64)] (.t 205)),2,(some (204,true))⟩,⟨(some 207),(.bin .num .eql (.t 206) (.c (.int .i64 0))),2,(some (204,true))⟩,⟨(some 208),(.pick (.t 204) (.t 207) (.c (.bool false))),2,none⟩,⟨(some 209),(.mv (.t 208)),2,none⟩,⟨(some 210),(.mv (.t 4)),2,(some (209,true))⟩,⟨(some 211),(.bin .num .eql (.t 210) (.c (.int .i64 1))),2,(some (209,true))⟩,⟨(some 212),(.pick (.t 209) (.t 211) (.c (.bool false))),2,none⟩,⟨(some 213),(.mv (.t 212)),2,none⟩,⟨(some 214),(.load true [(.int .i64),(.int .i64),.str,(.int .i64),.str,(.sl 1),(.sl 1),(.sl 2),(.sl 1),(.sl 10)] (.t 1)),2,(some (213,true))⟩,⟨(some 215),(.call (.c (.fn 76)) [(.t 214),(.c (.int .i64 0)),(.c (.int .i64 0))]),2,(some (213,true))⟩,⟨(some 216),(.pick (.t 213) (.t 215) (.c (.bool false))),4,none⟩,⟨(some 2),(.mv (.t 216)),4,none⟩] none) .ret) .skip)))))))))))))))))))) (.seq (.reg [⟨(some 2),(.mv (.c (.bool false))),0,none⟩] none) .ret))))))
def KZ:List IRes:=[(.tmp 2)]
abbrev a5y:Nat:=217
def GG:ZC:=Xi [(46,.pure (preT (fun x:Str×Unit=>decide (x.1.s.length<=1048576))) (Zf (fun x:Str×Unit=>ZZ x.1.s))),(76,.pure (preT (fun x:Tm×Int×Int×Unit=>tW x.1)) (Zf (fun x:Tm×Int×Int×Unit=>Z8 x.1.nd x.2.1 x.2.2.1))),(77,.pure (preT (fun x:Tm×Unit=>tW x.1)) (Zf (fun x:Tm×Unit=>VO x.1.nd))),(59,.pure (preT (fun x:Arr×Unit=>Qk x.1)) (Zf (fun x:Arr×Unit=>Ud x.1))),(78,.pure (preT (fun x:Tm×Unit=>tW x.1)) (Zf (fun x:Tm×Unit=>Xr x.1.nd x.1.ks.length))),(79,.pure (preT (fun x:Str×Unit=>decide (x.1.s.length<=1048576))) (Zf (fun x:Str×Unit=>RS x.1.s)))]
theorem b4b{G:PV->Prop}(n:Nd)(ks:List Tm)(h:if (decide (Nd.line n<0))=true then G ((.bool false))else(if (decide (Nd.line n>10000))=true then G ((.bool false))else(if (Str.s (Nd.elem n)==[])=true then if ((↑(List.length (List.map enc (Nd.dims n))):Int)==0)=true then if (Nd.kind n==1)=true then if ((↑(List.length (List.map enc (Nd.data n))):Int)==0)=true then(Go.Pl.preT (fun(x:Str×Unit)=>decide (List.length (Str.s x.1)<=1048576)) [(.str (Str.s (Nd.name n)))])=true∧(∃ y0:Bool,AV.pv (Zf (fun(x:Str×Unit)=>ZZ (Str.s x.1)) [(.str (Str.s (Nd.name n)))])=AV.pv (enc y0)∧(if (y0)=true then if (Nd.num n==0)=true then if ((↑(List.length (List.map enc ks)):Int)==0)=true then(Go.Pl.preT (fun(x:Tm×Int×Int×Unit)=>tW x.1) [(.agg [(.int .i64 (Nd.kind n)),(.int .i64 (Nd.line n)),(.str (Str.s (Nd.name n))),(.int .i64 (Nd.num n)),(.str (Str.s (Nd.elem n))),(.sl 1 false (List.map enc (Nd.dims n))),(.sl 1 false (List.map enc (Nd.data n))),(.sl 2 false (List.map enc (Nd.sizes n))),(.sl 1 false (List.map enc (Nd.ranks n))),(.sl 10 false (List.map enc ks))]),(.int .i64 0),(.int .i64 0)])=true∧(∃ y1:Bool,AV.pv (Zf (fun(x:Tm×Int×Int×Unit)=>Z8 (Tm.nd x.1) x.2.1 x.2.2.1) [(.agg [(.int .i64 (Nd.kind n)),(.int .i64 (Nd.line n)),(.str (Str.s (Nd.name n))),(.int .i64 (Nd.num n)),(.str (Str.s (Nd.elem n))),(.sl 1 false (List.map enc (Nd.dims n))),(.sl 1 false (List.map enc (Nd.data n))),(.sl 2 false (List.map enc (Nd.sizes n))),(.sl 1 false (List.map enc (Nd.ranks n))),(.sl 10 false (List.map enc ks))]),(.int .i64 0),(.int .i64 0)])=AV.pv (enc y1)∧(G ((.bool y1))))else(G ((.bool false)))else(G ((.bool false)))else(G ((.bool false)))))else(G ((.bool false)))else(if (Nd.kind n==2)=true then if ((↑(List.length (List.map enc (Nd.data n))):Int)==0)=true then(Go.Pl.preT (fun(x:Tm×Unit)=>tW x.1) [(.agg [(.int .i64 (Nd.kind n)),(.int .i64 (Nd.line n)),(.str (Str.s (Nd.name n))),(.int .i64 (Nd.num n)),(.str (Str.s (Nd.elem n))),(.sl 1 false (List.map enc (Nd.dims n))),(.sl 1 false (List.map enc (Nd.data n))),(.sl 2 false (List.map enc (Nd.sizes n))),(.sl 1 false (List.map enc (Nd.ranks n))),(.sl 10 false (List.map enc ks))])])=true∧(∃ y2:Bool,AV.pv (Zf (fun(x:Tm×Unit)=>VO (Tm.nd x.1)) [(.agg [(.int .i64 (Nd.kind n)),(.int .i64 (Nd.line n)),(.str (Str.s (Nd.name n))),(.int .i64 (Nd.num n)),(.str (Str.s (Nd.elem n))),(.sl 1 false (List.map enc (Nd.dims n))),(.sl 1 false (List.map enc (Nd.data n))),(.sl 2 false (List.map enc (Nd.sizes n))),(.sl 1 false (List.map enc (Nd.ranks n))),(.sl 10 false (List.map enc ks))])])=AV.pv (enc y2)∧(if (y2)=true then if ((↑(List.length (List.map enc ks)):Int)==0)=true then(Go.Pl.preT (fun(x:Tm×Int×Int×Unit)=>tW x.1) [(.agg [(.int .i64 (Nd.kind n)),(.int .i64 (Nd.line n)),(.str (Str.s (Nd.name n))),(.int .i64 (Nd.num n)),(.str (Str.s (Nd.elem n))),(.sl 1 false (List.map enc (Nd.dims n))),(.sl 1 false (List.map enc (Nd.data n))),(.sl 2 false (List.map enc (Nd.sizes n))),(.sl 1 false (List.map enc (Nd.ranks n))),(.sl 10 false (List.map enc ks))]),(.int .i64 0),(.int .i64 0)])=true∧(∃ y3:Bool,AV.pv (Zf (fun(x:Tm×Int×Int×Unit)=>Z8 (Tm.nd x.1) x.2.1 x.2.2.1) [(.agg [(.int .i64 (Nd.kind n)),(.int .i64 (Nd.line n)),(.str (Str.s (Nd.name n))),(.int .i64 (Nd.num n)),(.str (Str.s (Nd.elem n))),(.sl 1 false (List.map enc (Nd.dims n))),(.sl 1 false (List.map enc (Nd.data n))),(.sl 2 false (List.map enc (Nd.sizes n))),(.sl 1 false (List.map enc (Nd.ranks n))),(.sl 10 false (List.map enc ks))]),(.int .i64 0),(.int .i64 0)])=AV.pv (enc y3)∧(G ((.bool y3))))else(G ((.bool false)))else(G ((.bool false)))))else(G ((.bool false)))else(if (Nd.kind n==3)=true then if (Str.s (Nd.name n)==[])=true then if (Nd.num n==0)=true then if ((↑(List.length (List.map enc ks)):Int)==0)=true then(Go.Pl.preT (fun(x:Tm×Int×Int×Unit)=>tW x.1) [(.agg [(.int .i64 (Nd.kind n)),(.int .i64 (Nd.line n)),(.str (Str.s (Nd.name n))),(.int .i64 (Nd.num n)),(.str (Str.s (Nd.elem n))),(.sl 1 false (List.map enc (Nd.dims n))),(.sl 1 false (List.map enc (Nd.data n))),(.sl 2 false (List.map enc (Nd.sizes n))),(.sl 1 false (List.map enc (Nd.ranks n))),(.sl 10 false (List.map enc ks))]),(.int .i64 0),(.int .i64 0)])=true∧(∃ y4:Bool,AV.pv (Zf (fun(x:Tm×Int×Int×Unit)=>Z8 (Tm.nd x.1) x.2.1 x.2.2.1) [(.agg [(.int .i64 (Nd.kind n)),(.int .i64 (Nd.line n)),(.str (Str.s (Nd.name n))),(.int .i64 (Nd.num n)),(.str (Str.s (Nd.elem n))),(.sl 1 false (List.map enc (Nd.dims n))),(.sl 1 false (List.map enc (Nd.data n))),(.sl 2 false (List.map enc (Nd.sizes n))),(.sl 1 false (List.map enc (Nd.ranks n))),(.sl 10 false (List.map enc ks))]),(.int .i64 0),(.int .i64 0)])=AV.pv (enc y4)∧(if (y4)=true then(Go.Pl.preT (fun(x:Arr×Unit)=>Qk x.1) [(.agg [(.str (Str.s (Nd.elem n))),(.sl 1 false (List.map enc (Nd.dims n))),(.sl 1 false (List.map enc (Nd.data n)))])])=true∧(∃ y5:Bool,AV.pv (Zf (fun(x:Arr×Unit)=>Ud x.1) [(.agg [(.str (Str.s (Nd.elem n))),(.sl 1 false (List.map enc (Nd.dims n))),(.sl 1 false (List.map enc (Nd.data n)))])])=AV.pv (enc y5)∧(G ((.bool y5))))else(G ((.bool false)))))else(G ((.bool false)))else(G ((.bool false)))else(G ((.bool false)))else(if (Nd.kind n==4)=true then if ((↑(List.length (List.map enc (Nd.data n))):Int)==0)=true then if (Str.s (Nd.name n)==[])=true then if (Nd.num n==0)=true then if ((↑(List.length (List.map enc ks)):Int)==0)=true then if ((↑(List.length (List.map enc (Nd.sizes n))):Int)==1)=true then(Go.Pl.preT (fun(x:Tm×Int×Int×Unit)=>tW x.1) [(.agg [(.int .i64 (Nd.kind n)),(.int .i64 (Nd.line n)),(.str (Str.s (Nd.name n))),(.int .i64 (Nd.num n)),(.str (Str.s (Nd.elem n))),(.sl 1 false (List.map enc (Nd.dims n))),(.sl 1 false (List.map enc (Nd.data n))),(.sl 2 false (List.map enc (Nd.sizes n))),(.sl 1 false (List.map enc (Nd.ranks n))),(.sl 10 false (List.map enc ks))]),(.int .i64 1),(.int .i64 0)])=true∧(∃ y6:Bool,AV.pv (Zf (fun(x:Tm×Int×Int×Unit)=>Z8 (Tm.nd x.1) x.2.1 x.2.2.1) [(.agg [(.int .i64 (Nd.kind n)),(.int .i64 (Nd.line n)),(.str (Str.s (Nd.name n))),(.int .i64 (Nd.num n)),(.str (Str.s (Nd.elem n))),(.sl 1 false (List.map enc (Nd.dims n))),(.sl 1 false (List.map enc (Nd.data n))),(.sl 2 false (List.map enc (Nd.sizes n))),(.sl 1 false (List.map enc (Nd.ranks n))),(.sl 10 false (List.map enc ks))]),(.int .i64 1),(.int .i64 0)])=AV.pv (enc y6)∧(G ((.bool y6))))else(G ((.bool false)))else(G ((.bool false)))else(G ((.bool false)))else(G ((.bool false)))else(G ((.bool false)))else(if (Nd.kind n==5)=true then if ((↑(List.length (List.map enc (Nd.data n))):Int)==0)=true then(Go.Pl.preT (fun(x:Str×Unit)=>decide (List.length (Str.s x.1)<=1048576)) [(.str (Str.s (Nd.name n)))])=true∧(∃ y7:Bool,AV.pv (Zf (fun(x:Str×Unit)=>ZZ (Str.s x.1)) [(.str (Str.s (Nd.name n)))])=AV.pv (enc y7)∧(if (y7)=true then if (Nd.num n==0)=true then if ((↑(List.length (List.map enc ks)):Int)==2)=true then(Go.Pl.preT (fun(x:Tm×Int×Int×Unit)=>tW x.1) [(.agg [(.int .i64 (Nd.kind n)),(.int .i64 (Nd.line n)),(.str (Str.s (Nd.name n))),(.int .i64 (Nd.num n)),(.str (Str.s (Nd.elem n))),(.sl 1 false (List.map enc (Nd.dims n))),(.sl 1 false (List.map enc (Nd.data n))),(.sl 2 false (List.map enc (Nd.sizes n))),(.sl 1 false (List.map enc (Nd.ranks n))),(.sl 10 false (List.map enc ks))]),(.int .i64 0),(.int .i64 0)])=true∧(∃ y8:Bool,AV.pv (Zf (fun(x:Tm×Int×Int×Unit)=>Z8 (Tm.nd x.1) x.2.1 x.2.2.1) [(.agg [(.int .i64 (Nd.kind n)),(.int .i64 (Nd.line n)),(.str (Str.s (Nd.name n))),(.int .i64 (Nd.num n)),(.str (Str.s (Nd.elem n))),(.sl 1 false (List.map enc (Nd.dims n))),(.sl 1 false (List.map enc (Nd.data n))),(.sl 2 false (List.map enc (Nd.sizes n))),(.sl 1 false (List.map enc (Nd.ranks n))),(.sl 10 false (List.map enc ks))]),(.int .i64 0),(.int .i64 0)])=AV.pv (enc y8)∧(G ((.bool y8))))else(G ((.bool false)))else(G ((.bool false)))else(G ((.bool false)))))else(G ((.bool false)))else(if (Nd.kind n==6)=true then if ((↑(List.length (List.map enc (Nd.data n))):Int)==0)=true then(Go.Pl.preT (fun(x:Tm×Unit)=>tW x.1) [(.agg [(.int .i64 (Nd.kind n)),(.int .i64 (Nd.line n)),(.str (Str.s (Nd.name n))),(.int .i64 (Nd.num n)),(.str (Str.s (Nd.elem n))),(.sl 1 false (List.map enc (Nd.dims n))),(.sl 1 false (List.map enc (Nd.data n))),(.sl 2 false (List.map enc (Nd.sizes n))),(.sl 1 false (List.map enc (Nd.ranks n))),(.sl 10 false (List.map enc ks))])])=true∧(∃ y9:Bool,AV.pv (Zf (fun(x:Tm×Unit)=>Xr (Tm.nd x.1) (List.length (Tm.ks x.1))) [(.agg [(.int .i64 (Nd.kind n)),(.int .i64 (Nd.line n)),(.str (Str.s (Nd.name n))),(.int .i64 (Nd.num n)),(.str (Str.s (Nd.elem n))),(.sl 1 false (List.map enc (Nd.dims n))),(.sl 1 false (List.map enc (Nd.data n))),(.sl 2 false (List.map enc (Nd.sizes n))),(.sl 1 false (List.map enc (Nd.ranks n))),(.sl 10 false (List.map enc ks))])])=AV.pv (enc y9)∧(G ((.bool y9))))else(G ((.bool false)))else(if (Nd.kind n==7)=true then if ((↑(List.length (List.map enc (Nd.data n))):Int)==0)=true then if (Str.s (Nd.name n)==[])=true then if (Nd.num n==0)=true then if (decide ((↑(List.length (List.map enc ks)):Int) ≥ 1))=true then if (decide ((↑(List.length (List.map enc ks)):Int)<=16))=true then(Go.Pl.preT (fun(x:Tm×Int×Int×Unit)=>tW x.1) [(.agg [(.int .i64 (Nd.kind n)),(.int .i64 (Nd.line n)),(.str (Str.s (Nd.name n))),(.int .i64 (Nd.num n)),(.str (Str.s (Nd.elem n))),(.sl 1 false (List.map enc (Nd.dims n))),(.sl 1 false (List.map enc (Nd.data n))),(.sl 2 false (List.map enc (Nd.sizes n))),(.sl 1 false (List.map enc (Nd.ranks n))),(.sl 10 false (List.map enc ks))]),(.int .i64 0),(.int .i64 0)])=true∧(∃ y10:Bool,AV.pv (Zf (fun(x:Tm×Int×Int×Unit)=>Z8 (Tm.nd x.1) x.2.1 x.2.2.1) [(.agg [(.int .i64 (Nd.kind n)),(.int .i64 (Nd.line n)),(.str (Str.s (Nd.name n))),(.int .i64 (Nd.num n)),(.str (Str.s (Nd.elem n))),(.sl 1 false (List.map enc (Nd.dims n))),(.sl 1 false (List.map enc (Nd.data n))),(.sl 2 false (List.map enc (Nd.sizes n))),(.sl 1 false (List.map enc (Nd.ranks n))),(.sl 10 false (List.map enc ks))]),(.int .i64 0),(.int .i64 0)])=AV.pv (enc y10)∧(G ((.bool y10))))else(G ((.bool false)))else(G ((.bool false)))else(G ((.bool false)))else(G ((.bool false)))else(G ((.bool false)))else(if (Nd.kind n==8)=true then if ((↑(List.length (List.map enc (Nd.data n))):Int)==0)=true then(Go.Pl.preT (fun(x:Str×Unit)=>decide (List.length (Str.s x.1)<=1048576)) [(.str (Str.s (Nd.name n)))])=true∧(∃ y11:Bool,AV.pv (Zf (fun(x:Str×Unit)=>RS (Str.s x.1)) [(.str (Str.s (Nd.name n)))])=AV.pv (enc y11)∧(if (y11)=true then if (Nd.num n==0)=true then if ((↑(List.length (List.map enc ks)):Int)==2)=true then(Go.Pl.preT (fun(x:Tm×Int×Int×Unit)=>tW x.1) [(.agg [(.int .i64 (Nd.kind n)),(.int .i64 (Nd.line n)),(.str (Str.s (Nd.name n))),(.int .i64 (Nd.num n)),(.str (Str.s (Nd.elem n))),(.sl 1 false (List.map enc (Nd.dims n))),(.sl 1 false (List.map enc (Nd.data n))),(.sl 2 false (List.map enc (Nd.sizes n))),(.sl 1 false (List.map enc (Nd.ranks n))),(.sl 10 false (List.map enc ks))]),(.int .i64 0),(.int .i64 0)])=true∧(∃ y12:Bool,AV.pv (Zf (fun(x:Tm×Int×Int×Unit)=>Z8 (Tm.nd x.1) x.2.1 x.2.2.1) [(.agg [(.int .i64 (Nd.kind n)),(.int .i64 (Nd.line n)),(.str (Str.s (Nd.name n))),(.int .i64 (Nd.num n)),(.str (Str.s (Nd.elem n))),(.sl 1 false (List.map enc (Nd.dims n))),(.sl 1 false (List.map enc (Nd.data n))),(.sl 2 false (List.map enc (Nd.sizes n))),(.sl 1 false (List.map enc (Nd.ranks n))),(.sl 10 false (List.map enc ks))]),(.int .i64 0),(.int .i64 0)])=AV.pv (enc y12)∧(G ((.bool y12))))else(G ((.bool false)))else(G ((.bool false)))else(G ((.bool false)))))else(G ((.bool false)))else(if (Nd.kind n==9)=true then if ((↑(List.length (List.map enc (Nd.data n))):Int)==0)=true then(Go.Pl.preT (fun(x:Str×Unit)=>decide (List.length (Str.s x.1)<=1048576)) [(.str (Str.s (Nd.name n)))])=true∧(∃ y13:Bool,AV.pv (Zf (fun(x:Str×Unit)=>RS (Str.s x.1)) [(.str (Str.s (Nd.name n)))])=AV.pv (enc y13)∧(if (y13)=true then if (Nd.num n==0)=true then if ((↑(List.length (List.map enc ks)):Int)==1)=true then(Go.Pl.preT (fun(x:Tm×Int×Int×Unit)=>tW x.1) [(.agg [(.int .i64 (Nd.kind n)),(.int .i64 (Nd.line n)),(.str (Str.s (Nd.name n))),(.int .i64 (Nd.num n)),(.str (Str.s (Nd.elem n))),(.sl 1 false (List.map enc (Nd.dims n))),(.sl 1 false (List.map enc (Nd.data n))),(.sl 2 false (List.map enc (Nd.sizes n))),(.sl 1 false (List.map enc (Nd.ranks n))),(.sl 10 false (List.map enc ks))]),(.int .i64 0),(.int .i64 0)])=true∧(∃ y14:Bool,AV.pv (Zf (fun(x:Tm×Int×Int×Unit)=>Z8 (Tm.nd x.1) x.2.1 x.2.2.1) [(.agg [(.int .i64 (Nd.kind n)),(.int .i64 (Nd.line n)),(.str (Str.s (Nd.name n))),(.int .i64 (Nd.num n)),(.str (Str.s (Nd.elem n))),(.sl 1 false (List.map enc (Nd.dims n))),(.sl 1 false (List.map enc (Nd.data n))),(.sl 2 false (List.map enc (Nd.sizes n))),(.sl 1 false (List.map enc (Nd.ranks n))),(.sl 10 false (List.map enc ks))]),(.int .i64 0),(.int .i64 0)])=AV.pv (enc y14)∧(G ((.bool y14))))else(G ((.bool false)))else(G ((.bool false)))else(G ((.bool false)))))else(G ((.bool false)))else(G ((.bool false)))))))))))else(if (Nd.kind n==1)=true then G ((.bool false))else(if (Nd.kind n==2)=true then G ((.bool false))else(if (Nd.kind n==3)=true then if (Str.s (Nd.name n)==[])=true then if (Nd.num n==0)=true then if ((↑(List.length (List.map enc ks)):Int)==0)=true then(Go.Pl.preT (fun(x:Tm×Int×Int×Unit)=>tW x.1) [(.agg [(.int .i64 (Nd.kind n)),(.int .i64 (Nd.line n)),(.str (Str.s (Nd.name n))),(.int .i64 (Nd.num n)),(.str (Str.s (Nd.elem n))),(.sl 1 false (List.map enc (Nd.dims n))),(.sl 1 false (List.map enc (Nd.data n))),(.sl 2 false (List.map enc (Nd.sizes n))),(.sl 1 false (List.map enc (Nd.ranks n))),(.sl 10 false (List.map enc ks))]),(.int .i64 0),(.int .i64 0)])=true∧(∃ y15:Bool,AV.pv (Zf (fun(x:Tm×Int×Int×Unit)=>Z8 (Tm.nd x.1) x.2.1 x.2.2.1) [(.agg [(.int .i64 (Nd.kind n)),(.int .i64 (Nd.line n)),(.str (Str.s (Nd.name n))),(.int .i64 (Nd.num n)),(.str (Str.s (Nd.elem n))),(.sl 1 false (List.map enc (Nd.dims n))),(.sl 1 false (List.map enc (Nd.data n))),(.sl 2 false (List.map enc (Nd.sizes n))),(.sl 1 false (List.map enc (Nd.ranks n))),(.sl 10 false (List.map enc ks))]),(.int .i64 0),(.int .i64 0)])=AV.pv (enc y15)∧(if (y15)=true then(Go.Pl.preT (fun(x:Arr×Unit)=>Qk x.1) [(.agg [(.str (Str.s (Nd.elem n))),(.sl 1 false (List.map enc (Nd.dims n))),(.sl 1 false (List.map enc (Nd.data n)))])])=true∧(∃ y16:Bool,AV.pv (Zf (fun(x:Arr×Unit)=>Ud x.1) [(.agg [(.str (Str.s (Nd.elem n))),(.sl 1 false (List.map enc (Nd.dims n))),(.sl 1 false (List.map enc (Nd.data n)))])])=AV.pv (enc y16)∧(G ((.bool y16))))else(G ((.bool false)))))else(G ((.bool false)))else(G ((.bool false)))else(G ((.bool false)))else(if (Nd.kind n==4)=true then G ((.bool false))else(if (Nd.kind n==5)=true then G ((.bool false))else(if (Nd.kind n==6)=true then G ((.bool false))else(if (Nd.kind n==7)=true then G ((.bool false))else(if (Nd.kind n==8)=true then G ((.bool false))else(if (Nd.kind n==9)=true then G ((.bool false))else(G ((.bool false))))))))))))else(if (Nd.kind n==1)=true then G ((.bool false))else(if (Nd.kind n==2)=true then G ((.bool false))else(if (Nd.kind n==3)=true then if (Str.s (Nd.name n)==[])=true then if (Nd.num n==0)=true then if ((↑(List.length (List.map enc ks)):Int)==0)=true then(Go.Pl.preT (fun(x:Tm×Int×Int×Unit)=>tW x.1) [(.agg [(.int .i64 (Nd.kind n)),(.int .i64 (Nd.line n)),(.str (Str.s (Nd.name n))),(.int .i64 (Nd.num n)),(.str (Str.s (Nd.elem n))),(.sl 1 false (List.map enc (Nd.dims n))),(.sl 1 false (List.map enc (Nd.data n))),(.sl 2 false (List.map enc (Nd.sizes n))),(.sl 1 false (List.map enc (Nd.ranks n))),(.sl 10 false (List.map enc ks))]),(.int .i64 0),(.int .i64 0)])=true∧(∃ y17:Bool,AV.pv (Zf (fun(x:Tm×Int×Int×Unit)=>Z8 (Tm.nd x.1) x.2.1 x.2.2.1) [(.agg [(.int .i64 (Nd.kind n)),(.int .i64 (Nd.line n)),(.str (Str.s (Nd.name n))),(.int .i64 (Nd.num n)),(.str (Str.s (Nd.elem n))),(.sl 1 false (List.map enc (Nd.dims n))),(.sl 1 false (List.map enc (Nd.data n))),(.sl 2 false (List.map enc (Nd.sizes n))),(.sl 1 false (List.map enc (Nd.ranks n))),(.sl 10 false (List.map enc ks))]),(.int .i64 0),(.int .i64 0)])=AV.pv (enc y17)∧(if (y17)=true then(Go.Pl.preT (fun(x:Arr×Unit)=>Qk x.1) [(.agg [(.str (Str.s (Nd.elem n))),(.sl 1 false (List.map enc (Nd.dims n))),(.sl 1 false (List.map enc (Nd.data n)))])])=true∧(∃ y18:Bool,AV.pv (Zf (fun(x:Arr×Unit)=>Ud x.1) [(.agg [(.str (Str.s (Nd.elem n))),(.sl 1 false (List.map enc (Nd.dims n))),(.sl 1 false (List.map enc (Nd.data n)))])])=AV.pv (enc y18)∧(G ((.bool y18))))else(G ((.bool false)))))else(G ((.bool false)))else(G ((.bool false)))else(G ((.bool false)))else(if (Nd.kind n==4)=true then G ((.bool false))else(if (Nd.kind n==5)=true then G ((.bool false))else(if (Nd.kind n==6)=true then G ((.bool false))else(if (Nd.kind n==7)=true then G ((.bool false))else(if (Nd.kind n==8)=true then G ((.bool false))else(if (Nd.kind n==9)=true then G ((.bool false))else(G ((.bool false))))))))))))))):Zc GG 0 (Za KZ G) Dr [] (Ye 217 [.agg [enc n.kind,enc n.line,enc n.name,enc n.num,enc n.elem,enc n.dims,enc n.data,enc n.sizes,enc n.ranks,enc ks]]):=Zc.tp (.lit (.ask (.lit (.lit (.lit (.lit (.nil))))) (.lit (.lit (.lit (.lit (.ask (.nil) (.lit (.ask (.lit (.lit (.lit (.lit (.lit (.lit (.ask (.lit (.lit (.lit (.lit (.lit (.lit (.lit (.ask (.ask (.lit (.lit (.req (.abs (Bool) (fun YY=>AV.pv (enc YY)) (.lit (.ask (.lit (.lit (.lit (.lit (.ask (.lit (.lit (.lit (.ask (.lit (.req (.abs (Bool) (fun YY=>AV.pv (enc YY)) (.lit (.nil))))) (.lit (.lit (.nil))))))) (.lit (.lit (.lit (.lit (.lit (.nil))))))))))) (.lit (.lit (.lit (.lit (.lit (.lit (.lit (.lit (.lit (.nil)))))))))))))))) (.lit (.lit (.lit (.lit (.lit (.lit (.lit (.lit (.lit (.lit (.lit (.lit (.lit (.nil))))))))))))))) (.lit (.ask (.ask (.lit (.req (.abs (Bool) (fun YY=>AV.pv (enc YY)) (.lit (.ask (.lit (.lit (.lit (.ask (.lit (.req (.abs (Bool) (fun YY=>AV.pv (enc YY)) (.lit (.nil))))) (.lit (.lit (.nil))))))) (.lit (.lit (.lit (.lit (.lit (.nil))))))))))) (.lit (.lit (.lit (.lit (.lit (.lit (.lit (.lit (.nil)))))))))) (.lit (.ask (.lit (.ask (.lit (.lit (.lit (.lit (.ask (.lit (.lit (.lit (.ask (.lit (.req (.abs (Bool) (fun YY=>AV.pv (enc YY)) (.lit (.ask (.lit (.lit (.req (.abs (Bool) (fun YY=>AV.pv (enc YY)) (.lit (.nil)))))) (.lit (.lit (.lit (.nil))))))))) (.lit (.lit (.lit (.lit (.lit (.lit (.nil))))))))))) (.lit (.lit (.lit (.lit (.lit (.lit (.lit (.lit (.lit (.nil))))))))))))))) (.lit (.lit (.lit (.lit (.lit (.lit (.lit (.lit (.lit (.lit (.lit (.lit (.lit (.nil)))))))))))))))) (.lit (.ask (.ask (.lit (.lit (.lit (.lit (.ask (.lit (.lit (.lit (.lit (.ask (.lit (.lit (.lit (.ask (.lit (.lit (.lit (.lit (.lit (.ask (.lit (.req (.abs (Bool) (fun YY=>AV.pv (enc YY)) (.lit (.nil))))) (.lit (.lit (.nil))))))))) (.lit (.lit (.lit (.lit (.lit (.lit (.lit (.nil)))))))))))) (.lit (.lit (.lit (.lit (.lit (.lit (.lit (.lit (.lit (.lit (.nil)))))))))))))))) (.lit (.lit (.lit (.lit (.lit (.lit (.lit (.lit (.lit (.lit (.lit (.lit (.lit (.lit (.nil)))))))))))))))))))) (.lit (.lit (.lit (.lit (.lit (.lit (.lit (.lit (.lit (.lit (.lit (.lit (.lit (.lit (.lit (.lit (.lit (.lit (.nil)))))))))))))))))))) (.lit (.ask (.ask (.lit (.lit (.req (.abs (Bool) (fun YY=>AV.pv (enc YY)) (.lit (.ask (.lit (.lit (.lit (.lit (.ask (.lit (.lit (.lit (.ask (.lit (.req (.abs (Bool) (fun YY=>AV.pv (enc YY)) (.lit (.nil))))) (.lit (.lit (.nil))))))) (.lit (.lit (.lit (.lit (.lit (.nil))))))))))) (.lit (.lit (.lit (.lit (.lit (.lit (.lit (.lit (.lit (.nil)))))))))))))))) (.lit (.lit (.lit (.lit (.lit (.lit (.lit (.lit (.lit (.lit (.lit (.lit (.lit (.nil))))))))))))))) (.lit (.ask (.ask (.lit (.req (.abs (Bool) (fun YY=>AV.pv (enc YY)) (.lit (.nil))))) (.lit (.lit (.nil)))) (.lit (.ask (.ask (.lit (.lit (.lit (.lit (.ask (.lit (.lit (.lit (.lit (.ask (.lit (.lit (.lit (.ask (.lit (.lit (.lit (.ask (.lit (.req (.abs (Bool) (fun YY=>AV.pv (enc YY)) (.lit (.nil))))) (.lit (.lit (.nil))))))) (.lit (.lit (.lit (.lit (.lit (.nil)))))))))) (.lit (.lit (.lit (.lit (.lit (.lit (.lit (.lit (.nil)))))))))))))) (.lit (.lit (.lit (.lit (.lit (.lit (.lit (.lit (.lit (.lit (.lit (.lit (.nil)))))))))))))))))) (.lit (.lit (.lit (.lit (.lit (.lit (.lit (.lit (.lit (.lit (.lit (.lit (.lit (.lit (.lit (.lit (.nil)))))))))))))))))) (.lit (.ask (.ask (.lit (.lit (.req (.abs (Bool) (fun YY=>AV.pv (enc YY)) (.lit (.ask (.lit (.lit (.lit (.lit (.ask (.lit (.lit (.lit (.ask (.lit (.req (.abs (Bool) (fun YY=>AV.pv (enc YY)) (.lit (.nil))))) (.lit (.lit (.nil))))))) (.lit (.lit (.lit (.lit (.lit (.nil))))))))))) (.lit (.lit (.lit (.lit (.lit (.lit (.lit (.lit (.lit (.nil)))))))))))))))) (.lit (.lit (.lit (.lit (.lit (.lit (.lit (.lit (.lit (.lit (.lit (.lit (.lit (.nil))))))))))))))) (.lit (.ask (.ask (.lit (.lit (.req (.abs (Bool) (fun YY=>AV.pv (enc YY)) (.lit (.ask (.lit (.lit (.lit (.lit (.ask (.lit (.lit (.lit (.ask (.lit (.req (.abs (Bool) (fun YY=>AV.pv (enc YY)) (.lit (.nil))))) (.lit (.lit (.nil))))))) (.lit (.lit (.lit (.lit (.lit (.nil))))))))))) (.lit (.lit (.lit (.lit (.lit (.lit (.lit (.lit (.lit (.nil)))))))))))))))) (.lit (.lit (.lit (.lit (.lit (.lit (.lit (.lit (.lit (.lit (.lit (.lit (.lit (.nil))))))))))))))) (.nil))))))))))))))))))))))))) (.lit (.lit (.lit (.lit (.lit (.lit (.ask (.lit (.lit (.lit (.lit (.lit (.lit (.lit (.lit (.lit (.lit (.lit (.lit (.lit (.lit (.nil))))))))))))))) (.lit (.ask (.lit (.lit (.lit (.lit (.lit (.lit (.lit (.lit (.lit (.nil)))))))))) (.lit (.ask (.lit (.ask (.lit (.lit (.lit (.lit (.ask (.lit (.lit (.lit (.ask (.lit (.req (.abs (Bool) (fun YY=>AV.pv (enc YY)) (.lit (.ask (.lit (.lit (.req (.abs (Bool) (fun YY=>AV.pv (enc YY)) (.lit (.nil)))))) (.lit (.lit (.lit (.nil))))))))) (.lit (.lit (.lit (.lit (.lit (.lit (.nil))))))))))) (.lit (.lit (.lit (.lit (.lit (.lit (.lit (.lit (.lit (.nil))))))))))))))) (.lit (.lit (.lit (.lit (.lit (.lit (.lit (.lit (.lit (.lit (.lit (.lit (.lit (.nil)))))))))))))))) (.lit (.ask (.lit (.lit (.lit (.lit (.lit (.lit (.lit (.lit (.lit (.lit (.lit (.lit (.lit (.lit (.lit (.lit (.lit (.lit (.lit (.nil)))))))))))))))))))) (.lit (.ask (.lit (.lit (.lit (.lit (.lit (.lit (.lit (.lit (.lit (.lit (.lit (.lit (.lit (.lit (.nil))))))))))))))) (.lit (.ask (.lit (.lit (.lit (.nil)))) (.lit (.ask (.lit (.lit (.lit (.lit (.lit (.lit (.lit (.lit (.lit (.lit (.lit (.lit (.lit (.lit (.lit (.lit (.lit (.nil)))))))))))))))))) (.lit (.ask (.lit (.lit (.lit (.lit (.lit (.lit (.lit (.lit (.lit (.lit (.lit (.lit (.lit (.lit (.nil))))))))))))))) (.lit (.ask (.lit (.lit (.lit (.lit (.lit (.lit (.lit (.lit (.lit (.lit (.lit (.lit (.lit (.lit (.nil))))))))))))))) (.nil))))))))))))))))))))))))))))))) (.lit (.lit (.lit (.lit (.lit (.lit (.lit (.lit (.lit (.lit (.lit (.lit (.ask (.lit (.lit (.lit (.lit (.lit (.lit (.lit (.lit (.lit (.lit (.lit (.lit (.lit (.lit (.nil))))))))))))))) (.lit (.ask (.lit (.lit (.lit (.lit (.lit (.lit (.lit (.lit (.lit (.nil)))))))))) (.lit (.ask (.lit (.ask (.lit (.lit (.lit (.lit (.ask (.lit (.lit (.lit (.ask (.lit (.req (.abs (Bool) (fun YY=>AV.pv (enc YY)) (.lit (.ask (.lit (.lit (.req (.abs (Bool) (fun YY=>AV.pv (enc YY)) (.lit (.nil)))))) (.lit (.lit (.lit (.nil))))))))) (.lit (.lit (.lit (.lit (.lit (.lit (.nil))))))))))) (.lit (.lit (.lit (.lit (.lit (.lit (.lit (.lit (.lit (.nil))))))))))))))) (.lit (.lit (.lit (.lit (.lit (.lit (.lit (.lit (.lit (.lit (.lit (.lit (.lit (.nil)))))))))))))))) (.lit (.ask (.lit (.lit (.lit (.lit (.lit (.lit (.lit (.lit (.lit (.lit (.lit (.lit (.lit (.lit (.lit (.lit (.lit (.lit (.lit (.nil)))))))))))))))))))) (.lit (.ask (.lit (.lit (.lit (.lit (.lit (.lit (.lit (.lit (.lit (.lit (.lit (.lit (.lit (.lit (.nil))))))))))))))) (.lit (.ask (.lit (.lit (.lit (.nil)))) (.lit (.ask (.lit (.lit (.lit (.lit (.lit (.lit (.lit (.lit (.lit (.lit (.lit (.lit (.lit (.lit (.lit (.lit (.lit (.nil)))))))))))))))))) (.lit (.ask (.lit (.lit (.lit (.lit (.lit (.lit (.lit (.lit (.lit (.lit (.lit (.lit (.lit (.lit (.nil))))))))))))))) (.lit (.ask (.lit (.lit (.lit (.lit (.lit (.lit (.lit (.lit (.lit (.lit (.lit (.lit (.lit (.lit (.nil))))))))))))))) (.nil))))))))))))))))))))))))))))))))))))))) h (by kernel_rfl)
end Go.Pl

namespace Go.Pl
open Go.RowKit
open Enc (enc dec is)
open EncL (encL decL isL)
set_option maxRecDepth 100000
end Go.Pl

namespace Go.Pl
open Go.RowKit
open Enc (enc dec is)
open EncL (encL decL isL)
theorem Ox(p:UInt8->Bool): ∀ (s:List UInt8) (i:Nat),i<=s.length->(∀ j (h:j<s.length),j<i->p s[j]=true)->(∀ h:i<s.length,p s[i]=false)->s.takeWhile p=s.take i∧s.dropWhile p=s.drop i
 | [],i,hi,h1,h2=>by
  have:i=0:=by simpa using hi
  subst this
  exact⟨rfl,rfl⟩
 | c::s,0,hi,h1,h2=>by
  have:=h2 (by simp)
  simp only[List.getElem_cons_zero]at this
  simp[List.takeWhile_cons,List.dropWhile_cons,this]
 | c::s,i+1,hi,h1,h2=>by
  have hc:p c=true:=h1 0 (by simp) (by omega)
  have ih:=Ox p s i (by simpa using hi) (fun j h hj=>h1 (j+1) (by simp;omega) (by omega)) fun h=>h2 (by simp;omega)
  simp[List.takeWhile_cons,List.dropWhile_cons,hc,ih.1,ih.2]
end Go.Pl

namespace Go.Pl
open Go.RowKit
open Enc (enc dec is)
open EncL (encL decL isL)
theorem Oo{s:List UInt8}{i:Nat}(h:i<s.length):[PV.int .u8 ((s.getD (Int.toNat (i:Int)) 0).toNat:Int)]=encL (s[i],()):=by
 rw[show Int.toNat (i:Int)=i from rfl,List.getD_eq_getElem?_getD,List.getElem?_eq_getElem h];rfl
theorem NU: ∀ x:UInt8×Unit,(fun _:UInt8×Unit=>true) x=true->Zc CL 0 (Za J7 (Zk (lowB x.1))) J6 [] (Ye Ez (encL x)):=by
 rintro⟨c,⟨⟩⟩ _
 refine a4o c (Sy (fun h=>Z0 ?_) fun h=>Z0 ?_)
 ·have h:(97:Int)<=c.toNat:=by simpa using h
  have h1:(97:UInt8)<=c:=by rw[UInt8.le_iff_toNat_le];exact Int.ofNat_le.1 h
  unfold lowB
  rw[decide_eq_true h1,Bool.true_and]
  exact decide_eq_decide.2 ⟨fun h=>UInt8.le_iff_toNat_le.2 (Int.ofNat_le.1 h),fun h=>Int.ofNat_le.2 (UInt8.le_iff_toNat_le.1 h)⟩
 ·have h : ¬ (97:Int)<=c.toNat:=by simpa using h
  have h1 : ¬ (97:UInt8)<=c:=by rw[UInt8.le_iff_toNat_le];exact fun k=>h (Int.ofNat_le.2 k)
  unfold lowB
  rw[decide_eq_false h1]
  rfl
theorem MN: ∀ x:UInt8×Unit,(fun _:UInt8×Unit=>true) x=true->Zc DW 0 (Za Ha (Zk (digB x.1))) J4 [] (Ye EF (encL x)):=by
 rintro⟨c,⟨⟩⟩ _
 refine a3s c (Sy (fun h=>Z0 ?_) fun h=>Z0 ?_)
 ·have h:(48:Int)<=c.toNat:=by simpa using h
  have h1:(48:UInt8)<=c:=by rw[UInt8.le_iff_toNat_le];exact Int.ofNat_le.1 h
  unfold digB
  rw[decide_eq_true h1,Bool.true_and]
  exact decide_eq_decide.2 ⟨fun h=>UInt8.le_iff_toNat_le.2 (Int.ofNat_le.1 h),fun h=>Int.ofNat_le.2 (UInt8.le_iff_toNat_le.1 h)⟩
 ·have h : ¬ (48:Int)<=c.toNat:=by simpa using h
  have h1 : ¬ (48:UInt8)<=c:=by rw[UInt8.le_iff_toNat_le];exact fun k=>h (Int.ofNat_le.2 k)
  unfold digB
  rw[decide_eq_false h1]
  rfl
theorem O8(s:List UInt8)(b:Bool)(hl:s.length<=1048576): ∀ (m i:Nat),m+i=s.length->(∀ j (h:j<s.length),j<i->(digB s[j]||(b&&lowB s[j]))=true) ->
  At UT 0 (Za Vt (Zk (DU ⟨s⟩ b))) Vu 0 30 [(0,.pv (.str s)),(1,.pv (.bool b)),(5,.pv (.int .i64 i))] []:=by
 have fin : ∀ i:Nat,i<=s.length->(∀ j (h:j<s.length),j<i->(digB s[j]||(b&&lowB s[j]))=true)->(∀ h:i<s.length,(digB s[i]||(b&&lowB s[i]))=false) ->
   ((true&&decide (0<=(i:Int))&&decide (0<=Int.toNat (i:Int))&&decide (Int.toNat (i:Int)<=s.length))=true)∧Zk (DU ⟨s⟩ b) (.str (List.drop 0 (List.take (Int.toNat (i:Int)) s))):=by
  intro i hi h1 h2
  obtain⟨e1,_⟩:=Ox (fun c=>digB c||(b&&lowB c)) s i hi h1 h2
  refine⟨by simp[hi],rfl,?_⟩
  show(⟨List.drop 0 (List.take i s)⟩:Str)=⟨s.takeWhile fun c=>digB c||(b&&lowB c)⟩
  rw[e1,List.drop_zero]
 intro m
 induction m with
 | zero=>
  intro i hi hyes
  exact FC s b i (XR (YV (by omega)) (fin i (by omega) hyes (fun h=>by omega)))
 | succ m ih=>
  intro i hi hyes
  have hlt:i<s.length:=by omega
  have hnext:(digB s[i]||(b&&lowB s[i]))=true->At UT 0 (Za Vt (Zk (DU ⟨s⟩ b))) Vu 0 30 [(0,.pv (.str s)),(1,.pv (.bool b)),(5,.pv (.int .i64 (IntKind.i64.wrap ((i:Int)+1))))] []:=by
   intro hb
   rw[next (by omega)]
   refine ih (i+1) (by omega) fun j hj hji=> ?_
   by_cases e:j=i
   ·subst e;exact hb
   ·exact hyes j hj (by omega)
  have hix:(decide (0<=(i:Int))&&decide (Int.toNat (i:Int)<s.length))=true:=by simp[hlt]
  refine FC s b i (XQ (YU hlt) ⟨hix,Ze (s[i],()) (Oo hlt) rfl,Zg (s[i],()) (Oo hlt) (WC (fun h=>hnext ?_) fun h=>WC (fun hb=>⟨hix,Ze (s[i],()) (Oo hlt) rfl,Zg (s[i],()) (Oo hlt) (WC (fun h2=>hnext ?_) fun h2=> ?_)⟩) fun hb=> ?_)⟩)
  ·have h:digB s[i]=true:=h
   rw[h];rfl
  ·have h2:lowB s[i]=true:=h2
   rw[hb,h2];simp
  ·have h:digB s[i]=false:=h
   have h2:lowB s[i]=false:=h2
   exact fin i (by omega) hyes (fun _=>by rw[h,h2];simp)
  ·have h:digB s[i]=false:=h
   exact fin i (by omega) hyes (fun _=>by rw[h,hb];simp)
theorem a9d: ∀ x:Str×Bool×Unit,decide (x.1.s.length<=1048576)=true->Zc UT 0 (Za Vt (Zk (DU x.1 x.2.1))) Vu [] (Ye b3y (encL x)):=by
 rintro⟨⟨s⟩,b,⟨⟩⟩ h
 exact b9w s b (O8 s b (of_decide_eq_true h) s.length 0 (by omega) (fun j hj h=>by omega))
theorem a3j: ∀ x:Str×Unit,(fun _:Str×Unit=>true) x=true->Zc LA 0 (Za TD (Zk (Gl.contains x.1.s))) AA [] (Ye b2d (encL x)):=by
 rintro⟨⟨s⟩,⟨⟩⟩ _
 refine c1c s ?_
 iterate 14 (refine ZU (fun h=>Z0 (by subst h;rfl)) fun h=> ?_)
 refine Z0 ?_
 show false=Gl.contains s
 rw[eq_comm,<- Bool.not_eq_true,List.contains_iff_mem]
 simp only[Gl,List.mem_cons,List.not_mem_nil,or_false,not_or]
 refine⟨?_,?_,?_,?_,?_,?_,?_,?_,?_,?_,?_,?_,?_,?_⟩ <;> assumption
theorem QV{p:UInt8->Bool}: ∀ {l:List UInt8},(∀ x∈l,p x=true)->l.takeWhile p=l
 | [],_=>rfl
 | a::l,h=>by rw[List.takeWhile_cons,if_pos (h a (by simp)),QV fun x hx=>h x (by simp[hx])]
theorem EW: ∀ x:Str×Unit,decide (x.1.s.length<=1048576)=true->Zc Tt 0 (Za DV (Zk (ZZ x.1.s))) Cv [] (Ye a3d (encL x)):=by
 rintro⟨⟨s⟩,⟨⟩⟩ h
 refine b6h s (Sy (fun h0=> ?_) fun h0=>Z0 ?_)
 ·cases s with
  | nil=>simp at h0
  | cons c r=>
   have hlt:0<(c::r).length:=by simp
   refine Sy (fun h1=>⟨by simp,Ze (c,()) rfl rfl,Zg (c,()) rfl (WC (fun h2=>⟨Ze (⟨c::r⟩,true,()) rfl h,Zg (⟨c::r⟩,true,()) rfl (Sy (fun h3=>Zg (⟨c::r⟩,()) rfl (Z0 ?_)) fun h3=>Z0 ?_)⟩) fun h2=>Z0 ?_)⟩) fun h1=>Z0 ?_
   ·have h1:r.length+1<=30:=by have:=of_decide_eq_true h1;simp at this;omega
    have h2:lowB c=true:=h2
    have h3:(List.takeWhile (fun c=>digB c||(true&&lowB c)) (c::r))=c::r:=eq_of_beq h3
    show(!(Gl.contains (c::r)))=(lowB c&&r.all ldI&&decide (r.length<=29)&& !Gl.contains (c::r))
    have h4:r.all ldI=true:=by
     rw[List.all_eq_true]
     intro x hx
     have:=List.all_eq_true.1 (List.all_takeWhile (p:=fun c=>digB c||(true&&lowB c)) (l:=c::r)) x (by rw[h3];simp[hx])
     unfold ldI
     simpa using this
    rw[h2,h4,decide_eq_true (show r.length<=29 by omega)]
    rfl
   ·have h3 : ¬ (List.takeWhile (fun c=>digB c||(true&&lowB c)) (c::r))=c::r:=fun e=>h3 (by show(_==_)=true;rw[beq_iff_eq];exact e)
    have h2:lowB c=true:=h2
    show false=(lowB c&&r.all ldI&&decide (r.length<=29)&& !Gl.contains (c::r))
    have h4:r.all ldI=false:=by
     rw[<- Bool.not_eq_true,List.all_eq_true]
     intro hx
     refine h3 (QV fun x hm=> ?_)
     rcases List.mem_cons.1 hm with rfl|hm
     ·rw[h2];simp
     ·have:=hx x hm
      unfold ldI at this
      simpa using this
    rw[h4]
    simp
   ·have h2:lowB c=false:=h2
    show false=(lowB c&&r.all ldI&&decide (r.length<=29)&& !Gl.contains (c::r))
    rw[h2];rfl
   ·show false=(lowB c&&r.all ldI&&decide (r.length<=29)&& !Gl.contains (c::r))
    have h1 : ¬ r.length<=29:=fun k=>h1 (decide_eq_true (by simp;omega))
    rw[decide_eq_false h1]
    simp
 ·cases s with
  | nil=>rfl
  | cons c r=>simp at h0
theorem b3q(s:Str):(Vv s).a.s.length<=s.s.length∧(Vv s).b.s.length<=s.s.length:=by
 unfold Vv
 have h1:=(List.takeWhile_sublist (fun c:UInt8=>c != 46) (l:=s.s)).length_le
 have h2:=(List.dropWhile_sublist (fun c:UInt8=>c != 46) (l:=s.s)).length_le
 split
 ·exact⟨Nat.le_refl _,Nat.zero_le _⟩
 ·rename_i c r e
  rw[e]at h2
  exact⟨h1,by simp at h2 ⊢;omega⟩
theorem a1o: ∀ x:Str×Unit,decide (x.1.s.length<=1048576)=true->Zc G8 0 (Za KT (Zk (fullI x.1.s))) CY [] (Ye a5j (encL x)):=by
 rintro⟨⟨s⟩,⟨⟩⟩ h
 have h':s.length<=1048576:=of_decide_eq_true h
 have hc:=b3q ⟨s⟩
 have ha:decide ((Vv ⟨s⟩).a.s.length<=1048576)=true:=decide_eq_true (Nat.le_trans hc.1 h')
 have hb:decide ((Vv ⟨s⟩).b.s.length<=1048576)=true:=decide_eq_true (Nat.le_trans hc.2 h')
 have he:fullI s=((Vv ⟨s⟩).c&&ZZ (Vv ⟨s⟩).a.s&&ZZ (Vv ⟨s⟩).b.s):=by
  unfold fullI Vv
  show(match s.dropWhile fun c=>c != 46 with|[]=>false|_::r=>_)=_
  cases s.dropWhile fun c=>c != 46 <;> simp
 show Zc G8 0 (Za KT (Zk (fullI s))) _ _ _
 rw[he]
 refine b6s s ⟨Ze (⟨s⟩,⟨[46]⟩,()) rfl (by show(decide (s.length<=1048576)&&true)=true;rw[decide_eq_true h'];rfl),Zg (⟨s⟩,⟨[46]⟩,()) rfl (WC (fun h1=>⟨Ze ((Vv ⟨s⟩).a,()) rfl ha,Zg ((Vv ⟨s⟩).a,()) rfl (WC (fun h2=>⟨Ze ((Vv ⟨s⟩).b,()) rfl hb,Zg ((Vv ⟨s⟩).b,()) rfl (Z0 ?_)⟩) fun h2=>Z0 ?_)⟩) fun h1=>Z0 ?_)⟩
 ·have h1:(Vv ⟨s⟩).c=true:=h1
  have h2:ZZ (Vv ⟨s⟩).a.s=true:=h2
  rw[h1,h2];rfl
 ·have h2:ZZ (Vv ⟨s⟩).a.s=false:=h2
  rw[h2];simp
 ·have h1:(Vv ⟨s⟩).c=false:=h1
  rw[h1];rfl
theorem a2g: ∀ x:Str×Unit,decide (x.1.s.length<=1048576)=true->Zc NT 0 (Za Tz (Zk (RS x.1.s))) TQ [] (Ye b6d (encL x)):=by
 rintro⟨⟨s⟩,⟨⟩⟩ h
 refine c0z s ⟨Ze (⟨s⟩,()) rfl h,Zg (⟨s⟩,()) rfl (WC (fun h1=>Z0 ?_) fun h1=>⟨Ze (⟨s⟩,()) rfl h,Zg (⟨s⟩,()) rfl (Z0 ?_)⟩)⟩
 ·have h1:ZZ s=true:=h1
  show true=(ZZ s||fullI s)
  rw[h1];rfl
 ·have h1:ZZ s=false:=h1
  show fullI s=(ZZ s||fullI s)
  rw[h1];rfl
end Go.Pl

namespace Go.Pl
open Go.RowKit
open Enc (enc dec is)
open EncL (encL decL isL)
theorem Yh(n:Nd)(ks:List Tm):[PV.agg [enc n.kind,enc n.line,enc n.name,enc n.num,enc n.elem,enc n.dims,enc n.data,enc n.sizes,enc n.ranks,enc ks]]=encL (Tm.mk n ks,()):=by
 show _=[enc (Tm.mk n ks)]
 rw[ZX]
theorem Vz(n:Nd)(ks:List Tm)(a b:Int):[PV.agg [enc n.kind,enc n.line,enc n.name,enc n.num,enc n.elem,enc n.dims,enc n.data,enc n.sizes,enc n.ranks,enc ks],.int .i64 a,.int .i64 b]=encL (Tm.mk n ks,a,b,()):=by
 show _=[enc (Tm.mk n ks),enc a,enc b]
 rw[ZX]
 rfl
theorem a9g: ∀ x:Tm×Unit,tW x.1=true->Zc Re 0 (Za GJ (Zk (VO x.1.nd))) TH [] (Ye b4d (encL x)):=by
 rintro⟨⟨n,ks⟩,⟨⟩⟩ h
 rw[<- Yh]
 show Zc Re 0 (Za GJ (Zk (VO n))) _ _ _
 have e1 : ∀ b:Bool,VO n=b->Zk (VO n) (.bool b):=fun b h=>Z0 h.symm
 refine c0n n ks (ZU (fun h1=> ?_) fun h1=>ZU (fun h2=>Yp (fun h3=>e1 _ ?_) fun h3=>e1 _ ?_) fun h2=>e1 _ ?_)
 ·have h1:n.name.s=VW:=h1
  refine ZU (fun h2=>e1 _ ?_) fun h2=>e1 _ ?_
  ·unfold VO;rw[if_pos h1,h2];rfl
  ·unfold VO;rw[if_pos h1,decide_eq_false h2,Bool.false_or];exact Bool.eq_iff_iff.2 (by simp)
 ·have h1 : ¬ n.name.s=VW:=h1
  have h2:n.name.s=UA:=h2
  have h3 : -2147483648<=n.num:=h3
  unfold VO;rw[if_neg h1,decide_eq_true h2,decide_eq_true h3];rfl
 ·have h1 : ¬ n.name.s=VW:=h1
  have h3 : ¬ -2147483648<=n.num:=h3
  unfold VO;rw[if_neg h1,decide_eq_false h3,Bool.and_false];rfl
 ·have h1 : ¬ n.name.s=VW:=h1
  have h2 : ¬ n.name.s=UA:=h2
  unfold VO;rw[if_neg h1,decide_eq_false h2];rfl
theorem Lt(l:Lin)(hl:l.t.length<=9223372036854775807)(hs:l.t.all (fun t=>decide (t.v.s.length<=281474976710656))=true): ∀ (j i:Nat),j+i=l.t.length->At Vn 0 (Za Wx (Zk (Gn (pvS l.t i) (l.t.drop i)&&(Yj l.k&&decide (l.t.length<=12))))) X0 0 54 [(1,.ptr 0 0),(6,.pv (enc l.t)),(7,.pv (.int .i64 l.t.length)),(8,.pv (.int .i64 i))] [.obj (.box [.pv (.int .i64 l.k),.pv (enc l.t)])]:=by
 intro j
 induction j with
 | zero=>
  intro i hi
  refine PM l i (XR (YV (by omega)) (Zg (l.k,()) rfl ?_))
  rw[List.drop_of_length_le (show l.t.length<=i by omega)]
  refine WC (fun h=>Z0 ?_) fun h=>Z0 ?_
  ·have h:Yj l.k=true:=h
   rw[h]
   show _=(true&&(true&&_))
   rw[Bool.true_and,Bool.true_and]
   exact decide_eq_decide.2 (by simp;omega)
  ·have h:Yj l.k=false:=h
   rw[h];simp
 | succ j ih=>
  intro i hi
  have hlt:i<l.t.length:=by omega
  have h:=ih (i+1) (by omega)
  have hsi:l.t[i].v.s.length<=281474976710656:=by rw[List.all_eq_true]at hs;simpa using hs _ (List.getElem_mem hlt)
  refine PM l i ?_
  refine XQ (YU hlt) ⟨Yl hlt rfl,Y9 hlt ⟨Ze (l.t[i].v,()) rfl (by simpa using hsi),Zg (l.t[i].v,()) rfl (Gj (fun hn=> ?_) fun hn=>ZU (fun hc=> ?_) fun hc=>Zg (l.t[i].c,()) rfl (Gj (fun hk=> ?_) fun hk=> ?_))⟩⟩
  all_goals rw[List.drop_eq_getElem_cons hlt,KU]
  ·have hn:Yf l.t[i].v=false:=hn
   exact Z0 (by simp[hn])
  ·have hc:l.t[i].c=0:=hc
   exact Z0 (by simp[hc])
  ·have hk:Yj l.t[i].c=false:=hk
   exact Z0 (by simp[hk])
  have hn:Yf l.t[i].v=true:=hn
  have hk:Yj l.t[i].c=true:=hk
  have hc:l.t[i].c≠0:=hc
  rw[next (by omega),hn,hk,decide_eq_true hc]
  have ep:pvS l.t (i+1)=some l.t[i].v.s:=by simp[pvS,hlt]
  rw[ep]at h
  cases i with
  | zero=>exact XR (by simp) h
  | succ i=>
   refine XQ (by simp) ?_
   rw[OC (by omega)]
   refine⟨Yl (by omega) rfl,Y9 (by omega) ?_⟩
   have e2:pvS l.t (i+1)=some l.t[i].v.s:=by simp[pvS,show i<l.t.length by omega]
   rw[e2]
   refine Gj (fun hb=> ?_) fun hb=> ?_
   all_goals
    have hb':=(UK l.t[i].v.s l.t[i+1].v.s).symm.trans hb
    simp only[hb',Bool.and_true,Bool.true_and,Bool.and_false,Bool.false_and]
   ·exact Z0 rfl
   ·exact h
theorem a0q: ∀ a:Lin×Unit,V8 a.1=true->Zc Vn 0 (Za Wx (Zk (Zw a.1))) X0 [] (Ye a2r (encL a)):=by
 rintro⟨l,⟨⟩⟩ hl
 simp only[V8,H7,Bool.and_eq_true,decide_eq_true_eq]at hl
 refine b6f l ?_
 show At Vn 0 (Za Wx (Zk (Zw l))) X0 0 54 _ _
 have e:Zw l=(Gn (pvS l.t 0) (l.t.drop 0)&&(Yj l.k&&decide (l.t.length<=12))):=by rw[Rs,Bool.and_comm];rfl
 rw[e,List.length_map]
 exact Lt l hl.1 hl.2 l.t.length 0 (by omega)
theorem a5c: ∀ x:Lin×Unit,V8 x.1=true->Zc LB 0 (Za SK (Zk (!(Zw x.1)))) S9 [] (Ye b3w (encL x)):=by
 rintro⟨l,⟨⟩⟩ h
 exact b8n l ⟨Ze (l,()) rfl h,Zg (l,()) rfl (Z0 rfl)⟩
theorem a7n(l:List Lin)(hs : ∀ s∈l,V8 s=true)(hl:l.length<=1048576): ∀ (m i:Nat),m+i=l.length->(∀ j (h:j<l.length),j<i->(!(Zw l[j]))=false) ->
  At Di 0 (Za Q6 (Zk (Y6 (fun s:Lin=> !(Zw s)) l))) KE 0 19 [(0,.pv (enc l)),(1,.pv (.fn 103)),(7,.pv (.int .i64 l.length)),(8,.pv (.int .i64 i))] []:=by
 intro m
 induction m with
 | zero=>
  intro i hi hno
  refine a2k l i (XR (YV (by omega)) (Jg ?_))
  rw[Sk _ _ (fun j hj=>hno j hj (by omega))]
 | succ m ih=>
  intro i hi hno
  have hlt:i<l.length:=by omega
  refine a2k l i (XQ (YU hlt) ⟨Yl hlt rfl,Y9 hlt ⟨Ze (l[i],()) rfl (hs _ (List.getElem_mem hlt)),Zg (l[i],()) rfl (WC (fun hb=> ?_) fun hb=> ?_)⟩⟩)
  ·exact Jg (TK (fun s:Lin=> !(Zw s)) l i hlt hno hb).symm
  ·rw[next (by omega)]
   refine ih (i+1) (by omega) fun j hj hji=> ?_
   by_cases e:j=i
   ·subst e;exact hb
   ·exact hno j hj (by omega)
theorem b3e: ∀ a:List Lin×FnV 103×Unit,(decide (a.1.length<=1048576)&&a.1.all V8)=true->Zc Di 0 (Za Q6 (Zk (Y6 (fun s:Lin=> !(Zw s)) a.1))) KE [] (Ye b9u (encL a)):=by
 rintro⟨l,g,⟨⟩⟩ h
 have h':=h
 simp only[Bool.and_eq_true,List.all_eq_true,decide_eq_true_eq]at h'
 refine c5b l ?_
 rw[List.length_map]
 exact a7n l h'.2 h'.1 l.length 0 (by omega) (fun j hj h=>by omega)
theorem b5d: ∀ a:List Lin×FnV 103×Unit,(decide (a.1.length<=1048576)&&a.1.all V8)=true->Zc a4g 0 (Za MV (Zk (a.1.any fun s:Lin=> !(Zw s)))) MP [] (Ye c0e (encL a)):=by
 rintro⟨l,g,⟨⟩⟩ h
 exact c4g l ⟨Ze (l,{},()) rfl h,Zg (l,{},()) rfl (Z0 (Uc _ _))⟩
theorem Kq{α:Type}{p:α->Bool}(l:List α):(!(l.any fun x=> !(p x)))=l.all p:=by
 induction l with
 | nil=>rfl
 | cons a l ih=>rw[List.any_cons,List.all_cons,<- ih];cases p a <;> simp
theorem Mw: ∀ x:Tm×Int×Int×Unit,tW x.1=true->Zc Bc 0 (Za Ho (Zk (Z8 x.1.nd x.2.1 x.2.2.1))) Hm [] (Ye a0n (encL x)):=by
 rintro⟨⟨n,ks⟩,a,b,⟨⟩⟩ h
 rw[<- Vz]
 have hp:(decide (n.sizes.length<=1048576)&&n.sizes.all V8)=true:=by
  rw[decide_eq_true (ndB h).sizes,Bool.true_and,List.all_eq_true]
  exact b0i h
 refine a9b n ks a b (Yp (fun h1=>Yp (fun h2=>⟨Ze (n.sizes,{},()) rfl hp,Zg (n.sizes,{},()) rfl (Z0 ?_)⟩) fun h2=>Z0 ?_) fun h1=>Z0 ?_)
 ·rw[List.length_map]at h1 h2
  show(!(n.sizes.any fun l=> !(Zw l)))=Z8 n a b
  unfold Z8
  rw[Kq,decide_eq_true h1,decide_eq_true h2];rfl
 ·rw[List.length_map]at h1 h2
  show false=Z8 n a b
  unfold Z8
  rw[decide_eq_false h2,Bool.and_false];rfl
 ·rw[List.length_map]at h1
  show false=Z8 n a b
  unfold Z8
  rw[decide_eq_false h1];rfl
theorem a9s: ∀ x:Int×Unit,(fun _:Int×Unit=>true) x=true->Zc NS 0 (Za TR (Zk (Z4 x.1))) AQ [] (Ye b6m (encL x)):=by
 rintro⟨n,⟨⟩⟩ _
 refine c2g n (Yp (fun h=>Z0 ?_) fun h=>Z0 ?_)
 ·show true=Z4 n
  unfold Z4
  rw[decide_eq_true h];rfl
 ·show decide (n>6)=Z4 n
  unfold Z4
  rw[decide_eq_false h];rfl
theorem a6c(l:List Int)(hl:l.length<=1048576): ∀ (m i:Nat),m+i=l.length->(∀ j (h:j<l.length),j<i->Z4 l[j]=false) ->
  At Da 0 (Za Kt (Zk (Y6 Z4 l))) Qr 0 19 [(0,.pv (enc l)),(1,.pv (.fn 105)),(7,.pv (.int .i64 l.length)),(8,.pv (.int .i64 i))] []:=by
 intro m
 induction m with
 | zero=>
  intro i hi hno
  refine a5r l i (XR (YV (by omega)) (Jg ?_))
  rw[Sk _ _ (fun j hj=>hno j hj (by omega))]
 | succ m ih=>
  intro i hi hno
  have hlt:i<l.length:=by omega
  refine a5r l i (XQ (YU hlt) ⟨Yl hlt rfl,Y9 hlt (Zg (l[i],()) rfl (WC (fun hb=> ?_) fun hb=> ?_))⟩)
  ·exact Jg (TK Z4 l i hlt hno hb).symm
  ·rw[next (by omega)]
   refine ih (i+1) (by omega) fun j hj hji=> ?_
   by_cases e:j=i
   ·subst e;exact hb
   ·exact hno j hj (by omega)
theorem b4h: ∀ a:List Int×FnV 105×Unit,decide (a.1.length<=1048576)=true->Zc Da 0 (Za Kt (Zk (Y6 Z4 a.1))) Qr [] (Ye b8h (encL a)):=by
 rintro⟨l,g,⟨⟩⟩ h
 refine c3b l ?_
 rw[List.length_map]
 exact a6c l (of_decide_eq_true h) l.length 0 (by omega) (fun j hj h=>by omega)
theorem b1i: ∀ a:List Int×FnV 105×Unit,decide (a.1.length<=1048576)=true->Zc a9p 0 (Za Fq (Zk (a.1.any Z4))) Sc [] (Ye c0t (encL a)):=by
 rintro⟨l,g,⟨⟩⟩ h
 exact c4k l ⟨Ze (l,{},()) rfl h,Zg (l,{},()) rfl (Z0 (Uc _ _))⟩
theorem a0h: ∀ x:Tm×Unit,tW x.1=true->Zc GL 0 (Za Jl (Zk (Xr x.1.nd x.1.ks.length))) Dc [] (Ye b1f (encL x)):=by
 rintro⟨⟨n,ks⟩,⟨⟩⟩ h
 rw[<- Yh]
 show Zc GL 0 (Za Jl (Zk (Xr n ks.length))) _ _ _
 have hnm:decide (n.name.s.length<=1048576)=true:=decide_eq_true (ndB h).name
 have hrk:decide (n.ranks.length<=1048576)=true:=decide_eq_true (ndB h).ranks
 have hr:((n.ranks.any Z4)=false)=(XP n.ranks=true):=by
  unfold XP
  rw[<- Kq,Bool.not_eq_true',eq_iff_iff]
  have:(fun n:Int=> !(decide (0<=n)&&decide (n<=6)))=Z4:=by
   funext x
   unfold Z4
   by_cases h1:0<=x <;> by_cases h2:x<=6
   ·rw[decide_eq_true h1,decide_eq_true h2,decide_eq_false (by omega : ¬ x<0),decide_eq_false (by omega : ¬ 6<x)];rfl
   ·rw[decide_eq_false h2,decide_eq_true (by omega:6<x)];simp
   ·rw[decide_eq_false h1,decide_eq_true (by omega:x<0)];simp
   ·rw[decide_eq_false h1,decide_eq_true (by omega:x<0)];simp
  rw[this]
 have leaf : ∀ b:Bool,Xr n ks.length=b->Zk (Xr n ks.length) (.bool b):=fun b h=>Z0 h.symm
 refine b6q n ks ⟨Ze (n.name,()) rfl hnm,Zg (n.name,()) rfl (Gj (fun h1=>leaf _ ?_) fun h1=>Yp (fun h2=>leaf _ ?_) fun h2=>Yp (fun h3=>leaf _ ?_) fun h3=>Yp (fun h4=>leaf _ ?_) fun h4=> ?_)⟩
 ·have h1:RS n.name.s=false:=h1
  unfold Xr;rw[h1];rfl
 ·unfold Xr;rw[decide_eq_false (show ¬ 0<=n.num by omega),Bool.and_false];rfl
 ·unfold Xr;rw[decide_eq_false (show ¬ n.num<=64 by omega),Bool.and_false];rfl
 ·rw[List.length_map]at h4
  unfold Xr;rw[decide_eq_false (show ¬ ks.length<=8 by omega),Bool.and_false];rfl
 have h1:RS n.name.s=true:=h1
 rw[List.length_map]at h4
 have go:(n.ranks.isEmpty||decide (n.ranks.length=ks.length))=true-> ∀ (tl:Prop),(tl ↔ (Z8 n 4 8&&(!(n.ranks.any Z4)))=true)->True:=fun _ _ _=>trivial
 have hcall:(n.ranks.isEmpty||decide (n.ranks.length=ks.length))=true->n.ranks.length<=8->Xr n ks.length=(Z8 n 4 8&&(!(n.ranks.any Z4))):=by
  intro h5 h6
  have e:(!(n.ranks.any Z4))=XP n.ranks:=by
   cases hb:n.ranks.any Z4 with
   | true=>
    cases hk:XP n.ranks with
    | false=>rfl
    | true=>rw[<- hr,hb]at hk;cases hk
   | false=>rw[hr]at hb;rw[hb];rfl
  unfold Xr Z8
  rw[h1,decide_eq_true (show 0<=n.num by omega),decide_eq_true (show n.num<=64 by omega),decide_eq_true (show ks.length<=8 by omega),h5,e,decide_eq_true (show(n.ranks.length:Int)<=8 by omega)]
  simp only[Bool.true_and,Bool.and_true]
  rw[show decide ((n.sizes.length:Int)<=4)=decide (n.sizes.length<=4) by exact decide_eq_decide.2 (by omega)]
 have no8 : ¬ n.ranks.length<=8->Xr n ks.length=false:=by
  intro h6
  unfold Xr
  have:(n.ranks.isEmpty||decide (n.ranks.length=ks.length))=false:=by
   rw[decide_eq_false (by omega),Bool.or_false]
   cases hq:n.ranks with
   | nil=>rw[hq]at h6;exact absurd (Nat.zero_le _) h6
   | cons a l=>rfl
  rw[this];simp
 have no8l : ¬ n.ranks.length<=8->Z8 n 4 8=false:=by
  intro h6
  unfold Z8
  rw[decide_eq_false (show ¬ (n.ranks.length:Int)<=8 by omega)];simp
 have tail:(n.ranks.isEmpty||decide (n.ranks.length=ks.length))=true->(preT (fun(x:Tm×Int×Int×Unit)=>tW (Prod.fst x)) [PV.agg [enc n.kind,enc n.line,enc n.name,enc n.num,enc n.elem,enc n.dims,enc n.data,enc n.sizes,enc n.ranks,enc ks],.int .i64 4,.int .i64 8])=true ∧
   ∃ y:Bool,AV.pv (Zf (fun(x:Tm×Int×Int×Unit)=>Z8 (Tm.nd (Prod.fst x)) (Prod.fst (Prod.snd x)) (Prod.fst (Prod.snd (Prod.snd x)))) [PV.agg [enc n.kind,enc n.line,enc n.name,enc n.num,enc n.elem,enc n.dims,enc n.data,enc n.sizes,enc n.ranks,enc ks],.int .i64 4,.int .i64 8])=AV.pv (enc y) ∧
    (if y=true then((preT (fun(x:List Int×FnV 105×Unit)=>decide (List.length (Prod.fst x)<=1048576)) [enc n.ranks,.fn 105])=true ∧
     ∃ z:Bool,AV.pv (Zf (fun(x:List Int×FnV 105×Unit)=>List.any (Prod.fst x) Z4) [enc n.ranks,.fn 105])=AV.pv (enc z)∧Zk (Xr n ks.length) (.bool (!z)))else Zk (Xr n ks.length) (.bool false)):=by
  intro h5
  refine⟨Ze (.mk n ks,4,8,()) (Vz n ks 4 8) h,Zg (.mk n ks,4,8,()) (Vz n ks 4 8) (WC (fun h6=>⟨Ze (n.ranks,{},()) rfl hrk,Zg (n.ranks,{},()) rfl (leaf _ ?_)⟩) fun h6=>leaf _ ?_)⟩
  ·have h6:Z8 n 4 8=true:=h6
   by_cases h8:n.ranks.length<=8
   ·rw[hcall h5 h8,h6,Bool.true_and]
   ·rw[no8l h8]at h6;cases h6
  ·have h6:Z8 n 4 8=false:=h6
   by_cases h8:n.ranks.length<=8
   ·rw[hcall h5 h8,h6,Bool.false_and]
   ·exact no8 h8
 refine Yp (fun h5=>Sy (fun h6=>leaf _ ?_) fun h6=>tail ?_) fun h5=>tail ?_
 ·have h6 : ¬ n.ranks.length=ks.length:=by simp at h6;omega
  rw[List.length_map]at h5
  unfold Xr
  have:(n.ranks.isEmpty||decide (n.ranks.length=ks.length))=false:=by
   rw[decide_eq_false h6,Bool.or_false]
   cases hq:n.ranks with
   | nil=>rw[hq]at h5;exact absurd h5 (by decide)
   | cons a l=>rfl
  rw[this];simp
 ·have h6:n.ranks.length=ks.length:=by simp at h6;omega
  rw[decide_eq_true h6,Bool.or_true]
 ·rw[List.length_map]at h5
  cases hq:n.ranks with
  | nil=>rfl
  | cons a l=>rw[hq]at h5;simp at h5
end Go.Pl

namespace Go.Pl
open Go.RowKit
open Enc (enc dec is)
open EncL (encL decL isL)
theorem a3k: ∀ x:Str×Unit,decide (x.1.s.length<=1048576)=true->Zc ME 0 (Za Tj (Zk (!(ZZ x.1.s)))) AX [] (Ye b4k (encL x)):=by
 rintro⟨⟨s⟩,⟨⟩⟩ h
 exact c0l s ⟨Ze ((⟨s⟩:Str),()) rfl h,Zg ((⟨s⟩:Str),()) rfl (Z0 rfl)⟩
theorem a6m(l:List Str)(hs : ∀ s∈l,s.s.length<=1048576)(hl:l.length<=1048576): ∀ (m i:Nat),m+i=l.length->(∀ j (h:j<l.length),j<i->(!(ZZ l[j].s))=false) ->
  At Dj 0 (Za Ki (Zk (Y6 (fun s:Str=> !(ZZ s.s)) l))) Kz 0 19 [(0,.pv (enc l)),(1,.pv (.fn 45)),(7,.pv (.int .i64 l.length)),(8,.pv (.int .i64 i))] []:=by
 intro m
 induction m with
 | zero=>
  intro i hi hno
  refine b0c l i (XR (YV (by omega)) (Jg ?_))
  rw[Sk _ _ (fun j hj=>hno j hj (by omega))]
 | succ m ih=>
  intro i hi hno
  have hlt:i<l.length:=by omega
  refine b0c l i (XQ (YU hlt) ⟨Yl hlt rfl,Y9 hlt ⟨Ze (l[i],()) rfl (decide_eq_true (hs _ (List.getElem_mem hlt))),Zg (l[i],()) rfl (WC (fun hb=> ?_) fun hb=> ?_)⟩⟩)
  ·exact Jg (TK (fun s:Str=> !(ZZ s.s)) l i hlt hno hb).symm
  ·rw[next (by omega)]
   refine ih (i+1) (by omega) fun j hj hji=> ?_
   by_cases he:j=i
   ·subst he;exact hb
   ·exact hno j hj (by omega)
theorem a1m{l:List Str}(h:Vk l=true):l.length<=1048576∧ ∀ s∈l,s.s.length<=1048576:=by
 unfold Vk at h
 simp only[Bool.and_eq_true,decide_eq_true_eq,List.all_eq_true]at h
 exact h
theorem b5z: ∀ x:List Str×FnV 45×Unit,Vk x.1=true->Zc Dj 0 (Za Ki (Zk (Y6 (fun s:Str=> !(ZZ s.s)) x.1))) Kz [] (Ye b7z (encL x)):=by
 rintro⟨l,g,⟨⟩⟩ h
 have h:=a1m h
 refine c3d l ?_
 rw[List.length_map]
 exact a6m l h.2 h.1 l.length 0 (by omega) fun j hj hji=>by omega
theorem b5u: ∀ x:List Str×FnV 45×Unit,Vk x.1=true->Zc b1b 0 (Za Mi (Zk (x.1.any fun s:Str=> !(ZZ s.s)))) NZ [] (Ye c2j (encL x)):=by
 rintro⟨l,g,⟨⟩⟩ h
 exact c4h l ⟨Ze (l,{},()) rfl h,Zg (l,{},()) rfl (Z0 (Uc _ _))⟩
theorem Lv: ∀ x:List Str×Unit,Vk x.1=true->Zc DD 0 (Za Hg (Zk (x.1.all fun s:Str=>ZZ s.s))) JV [] (Ye EI (encL x)):=by
 rintro⟨l,⟨⟩⟩ h
 refine a8k l ⟨Ze (l,{},()) rfl h,Zg (l,{},()) rfl (Z0 ?_)⟩
 exact Kq l
theorem R4{t:Tm}(h:tW t=true):Vk (WW t)=true:=by
 have h1:=HY h
 have hm : ∀ s∈WW t,s∈Yz t:=fun s hs=>by
  have:=Ht t fun x=>decide (x∈Yz t)
  rw[show((Yz t).all fun x=>decide (x∈Yz t))=true by simp,List.all_eq_true]at this
  exact of_decide_eq_true (this s hs)
 have h2:(WW t).length<=1048576:=by
  unfold WW XT
  rw[List.length_map,List.length_mergeSort,List.length_map]
  have h4:=JW (Yz t) []
  have h5:=DX 1 t
  have h6:KX t<=1048576:=of_decide_eq_true h
  have h7:(Yz t).length=(((ZM 1 t).map (·.1)).flatMap K8).length:=rfl
  simp only[List.length_nil,Nat.zero_add]at h4
  unfold Ka
  omega
 unfold Vk
 rw[decide_eq_true h2,Bool.true_and,List.all_eq_true]
 exact fun s hs=>decide_eq_true (h1 s (hm s hs))
theorem La: ∀ x:Tm×Unit,tW x.1=true->Zc K9 0 (Za QG (Zk (Xz x.1))) J5 [] (Ye a0e (encL x)):=by
 rintro⟨⟨n,ks⟩,⟨⟩⟩ h
 rw[<- Yh]
 show Zc K9 0 (Za QG (Zk (Xz (.mk n ks)))) _ _ _
 refine a2x n ks ⟨Ze (.mk n ks,()) (Yh n ks) h,Zg (.mk n ks,()) (Yh n ks) (WC (fun h1=> ?_) fun h1=> ?_)⟩
 ·refine⟨Ze (.mk n ks,()) (Yh n ks) h,Zg (.mk n ks,()) (Yh n ks) ⟨Ze (WW (.mk n ks),()) rfl (R4 h),Zg (WW (.mk n ks),()) rfl (Z0 ?_)⟩⟩
  have h1:Wj (.mk n ks)=true:=h1
  unfold Xz
  rw[h1,Bool.true_and]
 ·have h1:Wj (.mk n ks)=false:=h1
  refine Z0 ?_
  unfold Xz
  rw[h1,Bool.false_and]
theorem a7v: ∀ x:Str×Unit,true=true->Zc NM 0 (Za SA (Zk (Dv x.1))) Sb [] (Ye b3s (encL x)):=by
 rintro⟨⟨s⟩,⟨⟩⟩ _
 refine b9h s (Yp (fun h=> ?_) fun h=> ?_)
 ·exact Zt (x:=((⟨[]⟩,3):Str×Int)) (by unfold Dv;rw[if_pos h])
 ·exact Zt (x:=((⟨s⟩,0):Str×Int)) (by unfold Dv;rw[if_neg h])
theorem a4t: ∀ ps:List PV,Gw ps=true->Zc Mr 0 (Za Su fun r=>r=GY ps) Ti [] (Ye b2c ps):=by
 intro ps h
 cases ps with
 | nil=>exact c2b rfl
 | cons a l=>cases h
def Ue(s:List UInt8)(l:List OpR):R3 Str Bool Bool:=match l.find? fun r=>r.n==s with
 | some r=>⟨⟨r.s⟩,r.u,true⟩
 | none=>⟨⟨[]⟩,false,false⟩
def Uf(s:List UInt8)(u:Bool)(l:List OpR):R3 Str Int Bool:=match l.find? fun r=>r.s==s&&r.u==u with
 | some r=>⟨⟨r.n⟩,r.l,true⟩
 | none=>⟨⟨[]⟩,0,false⟩
theorem YL{s:List UInt8}{r:OpR}{l:List OpR}(a:r.n=s):Ue s (r::l)=⟨⟨r.s⟩,r.u,true⟩:=by unfold Ue;rw[List.find?_cons_of_pos (by rw[a];simp)]
theorem Xl{s:List UInt8}{r:OpR}{l:List OpR}(a:r.n≠s):Ue s (r::l)=Ue s l:=by unfold Ue;rw[List.find?_cons_of_neg (by simpa using a)]
theorem YK{s:List UInt8}{u:Bool}{r:OpR}{l:List OpR}(a:r.s=s)(b:r.u=u):Uf s u (r::l)=⟨⟨r.n⟩,r.l,true⟩:=by unfold Uf;rw[List.find?_cons_of_pos (by rw[a,b];simp)]
theorem ZT{s:List UInt8}{u:Bool}{r:OpR}{l:List OpR}(a : ¬ (r.s=s∧r.u=u)):Uf s u (r::l)=Uf s u l:=by unfold Uf;rw[List.find?_cons_of_neg (by simpa using a)]
theorem b9v(s:List UInt8){F:R3 Str Bool Bool}(e:Ue s (Xv.drop 15)=F):At ZA 0 (Za Zu (Zk F)) Zv 0 20 [(0,.pv (.str s)),(7,.pv Zz),(8,.pv (.int .i64 15))] []:=a4l s (Zt (x:=(⟨⟨[]⟩,false,false⟩:R3 Str Bool Bool)) e)
theorem b8q(s:List UInt8){F:R3 Str Bool Bool}(e:Ue s (Xv.drop 14)=F):At ZA 0 (Za Zu (Zk F)) Zv 0 20 [(0,.pv (.str s)),(7,.pv Zz),(8,.pv (.int .i64 14))] []:=a5d s (ZU (fun h=>Zt (β:=R3 Str Bool Bool) ((YL h).symm.trans e)) fun h=>b9v s ((Xl h).symm.trans e))
theorem c1z(s:List UInt8){F:R3 Str Bool Bool}(e:Ue s (Xv.drop 13)=F):At ZA 0 (Za Zu (Zk F)) Zv 0 20 [(0,.pv (.str s)),(7,.pv Zz),(8,.pv (.int .i64 13))] []:=a6v s (ZU (fun h=>Zt (β:=R3 Str Bool Bool) ((YL h).symm.trans e)) fun h=>b8q s ((Xl h).symm.trans e))
theorem c1w(s:List UInt8){F:R3 Str Bool Bool}(e:Ue s (Xv.drop 12)=F):At ZA 0 (Za Zu (Zk F)) Zv 0 20 [(0,.pv (.str s)),(7,.pv Zz),(8,.pv (.int .i64 12))] []:=a4h s (ZU (fun h=>Zt (β:=R3 Str Bool Bool) ((YL h).symm.trans e)) fun h=>c1z s ((Xl h).symm.trans e))
theorem c0w(s:List UInt8){F:R3 Str Bool Bool}(e:Ue s (Xv.drop 11)=F):At ZA 0 (Za Zu (Zk F)) Zv 0 20 [(0,.pv (.str s)),(7,.pv Zz),(8,.pv (.int .i64 11))] []:=a6b s (ZU (fun h=>Zt (β:=R3 Str Bool Bool) ((YL h).symm.trans e)) fun h=>c1w s ((Xl h).symm.trans e))
theorem b9n(s:List UInt8){F:R3 Str Bool Bool}(e:Ue s (Xv.drop 10)=F):At ZA 0 (Za Zu (Zk F)) Zv 0 20 [(0,.pv (.str s)),(7,.pv Zz),(8,.pv (.int .i64 10))] []:=b0z s (ZU (fun h=>Zt (β:=R3 Str Bool Bool) ((YL h).symm.trans e)) fun h=>c0w s ((Xl h).symm.trans e))
theorem c2r(s:List UInt8){F:R3 Str Bool Bool}(e:Ue s (Xv.drop 9)=F):At ZA 0 (Za Zu (Zk F)) Zv 0 20 [(0,.pv (.str s)),(7,.pv Zz),(8,.pv (.int .i64 9))] []:=a5n s (ZU (fun h=>Zt (β:=R3 Str Bool Bool) ((YL h).symm.trans e)) fun h=>b9n s ((Xl h).symm.trans e))
theorem b7y(s:List UInt8){F:R3 Str Bool Bool}(e:Ue s (Xv.drop 8)=F):At ZA 0 (Za Zu (Zk F)) Zv 0 20 [(0,.pv (.str s)),(7,.pv Zz),(8,.pv (.int .i64 8))] []:=a6s s (ZU (fun h=>Zt (β:=R3 Str Bool Bool) ((YL h).symm.trans e)) fun h=>c2r s ((Xl h).symm.trans e))
theorem b8e(s:List UInt8){F:R3 Str Bool Bool}(e:Ue s (Xv.drop 7)=F):At ZA 0 (Za Zu (Zk F)) Zv 0 20 [(0,.pv (.str s)),(7,.pv Zz),(8,.pv (.int .i64 7))] []:=a6n s (ZU (fun h=>Zt (β:=R3 Str Bool Bool) ((YL h).symm.trans e)) fun h=>b7y s ((Xl h).symm.trans e))
theorem b8x(s:List UInt8){F:R3 Str Bool Bool}(e:Ue s (Xv.drop 6)=F):At ZA 0 (Za Zu (Zk F)) Zv 0 20 [(0,.pv (.str s)),(7,.pv Zz),(8,.pv (.int .i64 6))] []:=a3h s (ZU (fun h=>Zt (β:=R3 Str Bool Bool) ((YL h).symm.trans e)) fun h=>b8e s ((Xl h).symm.trans e))
theorem c1v(s:List UInt8){F:R3 Str Bool Bool}(e:Ue s (Xv.drop 5)=F):At ZA 0 (Za Zu (Zk F)) Zv 0 20 [(0,.pv (.str s)),(7,.pv Zz),(8,.pv (.int .i64 5))] []:=a6a s (ZU (fun h=>Zt (β:=R3 Str Bool Bool) ((YL h).symm.trans e)) fun h=>b8x s ((Xl h).symm.trans e))
theorem c0j(s:List UInt8){F:R3 Str Bool Bool}(e:Ue s (Xv.drop 4)=F):At ZA 0 (Za Zu (Zk F)) Zv 0 20 [(0,.pv (.str s)),(7,.pv Zz),(8,.pv (.int .i64 4))] []:=a8m s (ZU (fun h=>Zt (β:=R3 Str Bool Bool) ((YL h).symm.trans e)) fun h=>c1v s ((Xl h).symm.trans e))
theorem b8g(s:List UInt8){F:R3 Str Bool Bool}(e:Ue s (Xv.drop 3)=F):At ZA 0 (Za Zu (Zk F)) Zv 0 20 [(0,.pv (.str s)),(7,.pv Zz),(8,.pv (.int .i64 3))] []:=a4z s (ZU (fun h=>Zt (β:=R3 Str Bool Bool) ((YL h).symm.trans e)) fun h=>c0j s ((Xl h).symm.trans e))
theorem c0c(s:List UInt8){F:R3 Str Bool Bool}(e:Ue s (Xv.drop 2)=F):At ZA 0 (Za Zu (Zk F)) Zv 0 20 [(0,.pv (.str s)),(7,.pv Zz),(8,.pv (.int .i64 2))] []:=b0p s (ZU (fun h=>Zt (β:=R3 Str Bool Bool) ((YL h).symm.trans e)) fun h=>b8g s ((Xl h).symm.trans e))
theorem c1i(s:List UInt8){F:R3 Str Bool Bool}(e:Ue s (Xv.drop 1)=F):At ZA 0 (Za Zu (Zk F)) Zv 0 20 [(0,.pv (.str s)),(7,.pv Zz),(8,.pv (.int .i64 1))] []:=a3v s (ZU (fun h=>Zt (β:=R3 Str Bool Bool) ((YL h).symm.trans e)) fun h=>c0c s ((Xl h).symm.trans e))
theorem b8m(s:List UInt8){F:R3 Str Bool Bool}(e:Ue s (Xv.drop 0)=F):At ZA 0 (Za Zu (Zk F)) Zv 0 20 [(0,.pv (.str s)),(7,.pv Zz),(8,.pv (.int .i64 0))] []:=a9o s (ZU (fun h=>Zt (β:=R3 Str Bool Bool) ((YL h).symm.trans e)) fun h=>c1i s ((Xl h).symm.trans e))
theorem a2q(s:List UInt8)(u:Bool){F:R3 Str Int Bool}(e:Uf s u (Xv.drop 15)=F):At Zq 0 (Za Zl (Zk F)) Zm 0 28 [(0,.pv (.str s)),(1,.pv (.bool u)),(9,.pv Zz),(10,.pv (.int .i64 15))] []:=a7h s u (Zt (x:=(⟨⟨[]⟩,0,false⟩:R3 Str Int Bool)) e)
theorem a5x(s:List UInt8)(u:Bool){F:R3 Str Int Bool}(e:Uf s u (Xv.drop 14)=F):At Zq 0 (Za Zl (Zk F)) Zm 0 28 [(0,.pv (.str s)),(1,.pv (.bool u)),(9,.pv Zz),(10,.pv (.int .i64 14))] []:=a5i s u (ZU (fun h=>ZU (fun h2=>Zt (β:=R3 Str Int Bool) ((YK h h2).symm.trans e)) fun h2=>a2q s u ((ZT fun x=>h2 x.2).symm.trans e)) fun h=>a2q s u ((ZT fun x=>h x.1).symm.trans e))
theorem a8p(s:List UInt8)(u:Bool){F:R3 Str Int Bool}(e:Uf s u (Xv.drop 13)=F):At Zq 0 (Za Zl (Zk F)) Zm 0 28 [(0,.pv (.str s)),(1,.pv (.bool u)),(9,.pv Zz),(10,.pv (.int .i64 13))] []:=a4x s u (ZU (fun h=>ZU (fun h2=>Zt (β:=R3 Str Int Bool) ((YK h h2).symm.trans e)) fun h2=>a5x s u ((ZT fun x=>h2 x.2).symm.trans e)) fun h=>a5x s u ((ZT fun x=>h x.1).symm.trans e))
theorem a2l(s:List UInt8)(u:Bool){F:R3 Str Int Bool}(e:Uf s u (Xv.drop 12)=F):At Zq 0 (Za Zl (Zk F)) Zm 0 28 [(0,.pv (.str s)),(1,.pv (.bool u)),(9,.pv Zz),(10,.pv (.int .i64 12))] []:=a4f s u (ZU (fun h=>ZU (fun h2=>Zt (β:=R3 Str Int Bool) ((YK h h2).symm.trans e)) fun h2=>a8p s u ((ZT fun x=>h2 x.2).symm.trans e)) fun h=>a8p s u ((ZT fun x=>h x.1).symm.trans e))
theorem a3l(s:List UInt8)(u:Bool){F:R3 Str Int Bool}(e:Uf s u (Xv.drop 11)=F):At Zq 0 (Za Zl (Zk F)) Zm 0 28 [(0,.pv (.str s)),(1,.pv (.bool u)),(9,.pv Zz),(10,.pv (.int .i64 11))] []:=b1a s u (ZU (fun h=>ZU (fun h2=>Zt (β:=R3 Str Int Bool) ((YK h h2).symm.trans e)) fun h2=>a2l s u ((ZT fun x=>h2 x.2).symm.trans e)) fun h=>a2l s u ((ZT fun x=>h x.1).symm.trans e))
theorem a3i(s:List UInt8)(u:Bool){F:R3 Str Int Bool}(e:Uf s u (Xv.drop 10)=F):At Zq 0 (Za Zl (Zk F)) Zm 0 28 [(0,.pv (.str s)),(1,.pv (.bool u)),(9,.pv Zz),(10,.pv (.int .i64 10))] []:=a2f s u (ZU (fun h=>ZU (fun h2=>Zt (β:=R3 Str Int Bool) ((YK h h2).symm.trans e)) fun h2=>a3l s u ((ZT fun x=>h2 x.2).symm.trans e)) fun h=>a3l s u ((ZT fun x=>h x.1).symm.trans e))
theorem b0m(s:List UInt8)(u:Bool){F:R3 Str Int Bool}(e:Uf s u (Xv.drop 9)=F):At Zq 0 (Za Zl (Zk F)) Zm 0 28 [(0,.pv (.str s)),(1,.pv (.bool u)),(9,.pv Zz),(10,.pv (.int .i64 9))] []:=a5m s u (ZU (fun h=>ZU (fun h2=>Zt (β:=R3 Str Int Bool) ((YK h h2).symm.trans e)) fun h2=>a3i s u ((ZT fun x=>h2 x.2).symm.trans e)) fun h=>a3i s u ((ZT fun x=>h x.1).symm.trans e))
theorem a9x(s:List UInt8)(u:Bool){F:R3 Str Int Bool}(e:Uf s u (Xv.drop 8)=F):At Zq 0 (Za Zl (Zk F)) Zm 0 28 [(0,.pv (.str s)),(1,.pv (.bool u)),(9,.pv Zz),(10,.pv (.int .i64 8))] []:=a8l s u (ZU (fun h=>ZU (fun h2=>Zt (β:=R3 Str Int Bool) ((YK h h2).symm.trans e)) fun h2=>b0m s u ((ZT fun x=>h2 x.2).symm.trans e)) fun h=>b0m s u ((ZT fun x=>h x.1).symm.trans e))
theorem a7i(s:List UInt8)(u:Bool){F:R3 Str Int Bool}(e:Uf s u (Xv.drop 7)=F):At Zq 0 (Za Zl (Zk F)) Zm 0 28 [(0,.pv (.str s)),(1,.pv (.bool u)),(9,.pv Zz),(10,.pv (.int .i64 7))] []:=a2y s u (ZU (fun h=>ZU (fun h2=>Zt (β:=R3 Str Int Bool) ((YK h h2).symm.trans e)) fun h2=>a9x s u ((ZT fun x=>h2 x.2).symm.trans e)) fun h=>a9x s u ((ZT fun x=>h x.1).symm.trans e))
theorem a6k(s:List UInt8)(u:Bool){F:R3 Str Int Bool}(e:Uf s u (Xv.drop 6)=F):At Zq 0 (Za Zl (Zk F)) Zm 0 28 [(0,.pv (.str s)),(1,.pv (.bool u)),(9,.pv Zz),(10,.pv (.int .i64 6))] []:=a9w s u (ZU (fun h=>ZU (fun h2=>Zt (β:=R3 Str Int Bool) ((YK h h2).symm.trans e)) fun h2=>a7i s u ((ZT fun x=>h2 x.2).symm.trans e)) fun h=>a7i s u ((ZT fun x=>h x.1).symm.trans e))
theorem a2d(s:List UInt8)(u:Bool){F:R3 Str Int Bool}(e:Uf s u (Xv.drop 5)=F):At Zq 0 (Za Zl (Zk F)) Zm 0 28 [(0,.pv (.str s)),(1,.pv (.bool u)),(9,.pv Zz),(10,.pv (.int .i64 5))] []:=b0r s u (ZU (fun h=>ZU (fun h2=>Zt (β:=R3 Str Int Bool) ((YK h h2).symm.trans e)) fun h2=>a6k s u ((ZT fun x=>h2 x.2).symm.trans e)) fun h=>a6k s u ((ZT fun x=>h x.1).symm.trans e))
theorem a5t(s:List UInt8)(u:Bool){F:R3 Str Int Bool}(e:Uf s u (Xv.drop 4)=F):At Zq 0 (Za Zl (Zk F)) Zm 0 28 [(0,.pv (.str s)),(1,.pv (.bool u)),(9,.pv Zz),(10,.pv (.int .i64 4))] []:=a4k s u (ZU (fun h=>ZU (fun h2=>Zt (β:=R3 Str Int Bool) ((YK h h2).symm.trans e)) fun h2=>a2d s u ((ZT fun x=>h2 x.2).symm.trans e)) fun h=>a2d s u ((ZT fun x=>h x.1).symm.trans e))
theorem a6g(s:List UInt8)(u:Bool){F:R3 Str Int Bool}(e:Uf s u (Xv.drop 3)=F):At Zq 0 (Za Zl (Zk F)) Zm 0 28 [(0,.pv (.str s)),(1,.pv (.bool u)),(9,.pv Zz),(10,.pv (.int .i64 3))] []:=a7k s u (ZU (fun h=>ZU (fun h2=>Zt (β:=R3 Str Int Bool) ((YK h h2).symm.trans e)) fun h2=>a5t s u ((ZT fun x=>h2 x.2).symm.trans e)) fun h=>a5t s u ((ZT fun x=>h x.1).symm.trans e))
theorem a4r(s:List UInt8)(u:Bool){F:R3 Str Int Bool}(e:Uf s u (Xv.drop 2)=F):At Zq 0 (Za Zl (Zk F)) Zm 0 28 [(0,.pv (.str s)),(1,.pv (.bool u)),(9,.pv Zz),(10,.pv (.int .i64 2))] []:=a8r s u (ZU (fun h=>ZU (fun h2=>Zt (β:=R3 Str Int Bool) ((YK h h2).symm.trans e)) fun h2=>a6g s u ((ZT fun x=>h2 x.2).symm.trans e)) fun h=>a6g s u ((ZT fun x=>h x.1).symm.trans e))
theorem a3g(s:List UInt8)(u:Bool){F:R3 Str Int Bool}(e:Uf s u (Xv.drop 1)=F):At Zq 0 (Za Zl (Zk F)) Zm 0 28 [(0,.pv (.str s)),(1,.pv (.bool u)),(9,.pv Zz),(10,.pv (.int .i64 1))] []:=a6o s u (ZU (fun h=>ZU (fun h2=>Zt (β:=R3 Str Int Bool) ((YK h h2).symm.trans e)) fun h2=>a4r s u ((ZT fun x=>h2 x.2).symm.trans e)) fun h=>a4r s u ((ZT fun x=>h x.1).symm.trans e))
theorem c1y(s:List UInt8)(u:Bool){F:R3 Str Int Bool}(e:Uf s u (Xv.drop 0)=F):At Zq 0 (Za Zl (Zk F)) Zm 0 28 [(0,.pv (.str s)),(1,.pv (.bool u)),(9,.pv Zz),(10,.pv (.int .i64 0))] []:=b0l s u (ZU (fun h=>ZU (fun h2=>Zt (β:=R3 Str Int Bool) ((YK h h2).symm.trans e)) fun h2=>a3g s u ((ZT fun x=>h2 x.2).symm.trans e)) fun h=>a3g s u ((ZT fun x=>h x.1).symm.trans e))
theorem a1w: ∀ x:Str×Unit,true=true->Zc ZA 0 (Za Zu (Zk (NQ x.1))) Zv [] (Ye b5i (encL x)):=by
 rintro⟨⟨s⟩,⟨⟩⟩ _
 exact c1k s (b8m s rfl)
theorem a8o: ∀ x:Str×Bool×Unit,true=true->Zc Zq 0 (Za Zl (Zk (En x.1 x.2.1))) Zm [] (Ye b1o (encL x)):=by
 rintro⟨⟨s⟩,u,⟨⟩⟩ _
 exact b8t s u (c1y s u rfl)
theorem b4i: ∀ x:Tm×Unit,tW x.1=true->Zc FN 0 (Za Sv (Zk (UM x.1))) Lx [] (Ye b9j (encL x)):=by
 rintro⟨⟨n,ks⟩,⟨⟩⟩ h
 rw[<- Yh]
 show Zc FN 0 (Za Sv (Zk (UM (.mk n ks)))) _ _ _
 have e0:UM (.mk n ks)=((⟨[]⟩,0):Str×Int)->Zk (UM (.mk n ks)) (.tup [.str [],.int .i64 0]):=fun e=>Zt (x:=((⟨[]⟩,0):Str×Int)) e.symm
 refine c2z n ks (Zg (n.name,()) rfl ?_)
 have hs:NQ n.name=match Pk n.name.s with|some r=>⟨⟨r.s⟩,r.u,true⟩|none=>⟨⟨[]⟩,false,false⟩:=rfl
 cases hq:Pk n.name.s with
 | none=>
  have e:UM (.mk n ks)=((⟨[]⟩,0):Str×Int):=by rw[show UM (.mk n ks)=Ra n ks.length from rfl];unfold Ra Bo;simp[hq]
  rw[show NQ n.name=⟨⟨[]⟩,false,false⟩from by rw[hs,hq]]
  exact e0 e
 | some r=>
  rw[show NQ n.name=⟨⟨r.s⟩,r.u,true⟩from by rw[hs,hq]]
  have hn : ¬ (n.kind=6∧ks.length=(if r.u then 1 else 2)∧n.sizes=[]∧n.num=0∧n.ranks=[])->UM (.mk n ks)=((⟨[]⟩,0):Str×Int):=fun h=>by
   rw[show UM (.mk n ks)=Ra n ks.length from rfl]
   unfold Ra Bo
   simp only[hq]
   rw[if_neg h]
  have hy:(n.kind=6∧ks.length=(if r.u then 1 else 2)∧n.sizes=[]∧n.num=0∧n.ranks=[])->UM (.mk n ks)=((⟨r.s⟩,if r.u then 1 else 2):Str×Int):=fun h=>by
   rw[show UM (.mk n ks)=Ra n ks.length from rfl]
   unfold Ra Bo
   simp only[hq]
   rw[if_pos h]
  have hz : ∀ {α:Type} [Enc α] {l:List α},¬ ((List.length (List.map (enc:α->PV) l):Nat):Int)>0->l=[]:=fun {α} _ {l} h=>by
   cases l with
   | nil=>rfl
   | cons a l=>exact absurd (by simp) h
  have hz' : ∀ {α:Type} [Enc α] {l:List α},((List.length (List.map (enc:α->PV) l):Nat):Int)>0->l≠[]:=fun {α} _ {l} h e=>by
   subst e;simp at h
  have hb : ∀ {x y:Int} {P Q:Prop},(x≠y->P)->(x=y->Q)->if (x != y)=true then P else Q:=fun {x y P Q} h1 h2=>by
   by_cases hxy:x=y
   ·rw[if_neg (by simpa using hxy)];exact h2 hxy
   ·rw[if_pos (by simpa using hxy)];exact h1 hxy
  cases hu:r.u with
  | true=>
   rw[hu]at hn hy
   refine XQ rfl (XR (by simp) (hb (fun h1=>e0 (hn fun x=>h1 x.1)) fun h1=>hb (fun h2=>e0 (hn fun x=>h2 ?_)) fun h2=>Yp (fun h3=>e0 (hn fun x=>hz' h3 x.2.2.1)) fun h3=>hb (fun h4=>e0 (hn fun x=>h4 x.2.2.2.1)) fun h4=>Yp (fun h5=>e0 (hn fun x=>hz' h5 x.2.2.2.2)) fun h5=> ?_))
   ·rw[List.length_map,x.2.1];rfl
   ·exact Zt (x:=((⟨r.s⟩,1):Str×Int)) (hy ⟨h1,by rw[List.length_map]at h2;show _=1;omega,hz h3,h4,hz h5⟩).symm
  | false=>
   rw[hu]at hn hy
   refine XR (by simp) (XR (by simp) (hb (fun h1=>e0 (hn fun x=>h1 x.1)) fun h1=>hb (fun h2=>e0 (hn fun x=>h2 ?_)) fun h2=>Yp (fun h3=>e0 (hn fun x=>hz' h3 x.2.2.1)) fun h3=>hb (fun h4=>e0 (hn fun x=>h4 x.2.2.2.1)) fun h4=>Yp (fun h5=>e0 (hn fun x=>hz' h5 x.2.2.2.2)) fun h5=> ?_))
   ·rw[List.length_map,x.2.1];rfl
   ·exact Zt (x:=((⟨r.s⟩,2):Str×Int)) (hy ⟨h1,by rw[List.length_map]at h2;show _=2;omega,hz h3,h4,hz h5⟩).symm
theorem c0k: ∀ r∈Xv,(En ⟨r.s⟩ r.u).b=r.l:=by decide
theorem OH{n:Nd}{k:Nat}{r:OpR}(h:Bo n k=some r):r∈Xv∧k=(if r.u then 1 else 2):=by
 unfold Bo at h
 cases hq:Pk n.name.s with
 | none=>simp[hq]at h
 | some q=>
  simp[hq]at h
  rw[<- h.2]
  exact⟨List.mem_of_find?_eq_some hq,h.1.2.1⟩
theorem a7c: ∀ x:Tm×Unit,tW x.1=true->Zc Sl 0 (Za GH (Zk (XV x.1))) AR [] (Ye b2u (encL x)):=by
 rintro⟨⟨n,ks⟩,⟨⟩⟩ h
 rw[<- Yh]
 show Zc Sl 0 (Za GH (Zk (Nt n ks.length))) _ _ _
 refine c0y n ks ⟨Ze (.mk n ks,()) (Yh n ks) h,Zg (.mk n ks,()) (Yh n ks) (ZU (fun h1=>Jg ?_) fun h1=> ?_)⟩
 ·unfold Nt;rw[if_pos h1]
 ·have eo:UM (.mk n ks)=Ra n ks.length:=rfl
  rw[show UM ((.mk n ks:Tm),()).1=Ra n ks.length from rfl]
  unfold Nt
  rw[if_neg h1]
  cases ho:Bo n ks.length with
  | some r=>
   have e:Ra n ks.length=((⟨r.s⟩,if r.u then 1 else 2):Str×Int):=by unfold Ra;rw[ho]
   rw[e]
   have hb:((if r.u then 1 else 2:Int)==1)=r.u:=by cases r.u <;> rfl
   refine Yp (fun _=>Zg ((⟨r.s⟩:Str),((if r.u then 1 else 2:Int)==1),()) rfl (Jg ?_)) fun hn=>absurd (show(if r.u then 1 else 2:Int)>0 by split <;> omega) hn
   show(En ⟨r.s⟩ ((if r.u then 1 else 2:Int)==1)).b=r.l
   rw[hb]
   exact c0k r (OH ho).1
  | none=>
   have e:Ra n ks.length=((⟨[]⟩,0):Str×Int):=by unfold Ra;rw[ho]
   rw[e]
   refine Yp (fun hn=>absurd hn (by show ¬ (0:Int)>0;omega)) fun _=>ZU (fun h2=>ZU (fun h3=>Yp (fun h4=>Jg ?_) fun h4=>Jg ?_) fun h3=>Jg ?_) fun h2=>Jg ?_
   ·have h3:n.name.s=UA:=h3
    rw[if_pos ⟨h2,h3,h4⟩]
   ·rw[if_neg fun x=>h4 x.2.2]
   ·have h3 : ¬ n.name.s=UA:=h3
    rw[if_neg fun x=>h3 x.2.1]
   ·rw[if_neg fun x=>h2 x.1]
theorem a1b: ∀ x:List Str×Unit,Y8 x.1=true->Zc Tv 0 (Za DF (Zk (Yi x.1))) CJ [] (Ye a7d (encL x)):=by
 rintro⟨l,⟨⟩⟩ h
 exact b2w l ⟨Ze (l,(⟨[44,32]⟩:Str),()) rfl (by show(Y8 l&&decide _)=true;rw[h,decide_eq_true rfl];rfl),Zg (l,(⟨[44,32]⟩:Str),()) rfl (Zt rfl)⟩
def Gi(m:List Str)(i:Nat):List Str:=m.take i++List.replicate (m.length - i) ⟨[]⟩
theorem AB(m:List Str)(i:Nat)(h:i<=m.length):(Gi m i).length=m.length:=by unfold Gi;rw[List.length_append,List.length_take,List.length_replicate];omega
theorem DI(m:List Str):Gi m 0=List.replicate m.length ⟨[]⟩:=rfl
theorem TY(m:List Str):Gi m m.length=m:=by unfold Gi;rw[List.take_length,Nat.sub_self];simp
theorem Tx{m:List Str}{i:Nat}(h:i<m.length):(Gi m i).set i m[i]=Gi m (i+1):=by
 unfold Gi
 rw[List.set_append,if_neg (by rw[List.length_take];omega),show m.length - i=(m.length - (i+1))+1 by omega,List.replicate_succ,show i - (m.take i).length=0 by rw[List.length_take];omega,List.set_cons_zero,show m.take (i+1)=m.take i++[m[i]] by rw[List.take_add_one];simp[h],List.append_assoc]
 rfl
theorem LW{o:List Str}{i:Nat}(h:i<o.length)(y:Str):List.set (List.map (enc:Str->PV) o) (0+Int.toNat (i:Int)) (PV.withCells (List.getD (List.map (enc:Str->PV) o) (0+Int.toNat (i:Int)) default) (splice (PV.cells (List.getD (List.map (enc:Str->PV) o) (0+Int.toNat (i:Int)) default)) 0 (PV.cells (enc y))))=(o.set i y).map enc:=by
 have e:List.getD (List.map (enc:Str->PV) o) i default=enc o[i]:=by simp[List.getD,h]
 rw[Nat.zero_add,Int.toNat_natCast,e,List.map_set]
 rfl
theorem Mt{n i:Nat}{o:List Str}(h:i<n)(ho:o.length=n):(decide (0<=(i:Int))&&decide (0+Int.toNat (i:Int)<n)&&List.length (List.map (enc:Str->PV) o)==n)=true:=by simp[ho];omega
theorem NR{n i:Nat}{o:List Str}{y:Str}(h:i<n)(ho:o.length=n):(List.length (List.map (enc:Str->PV) o)==n&&decide (0+Int.toNat (i:Int)<List.length (List.map (enc:Str->PV) o))&&List.length (PV.cells (enc y))==1&&decide (0+1<=List.length (PV.cells (List.getD (List.map (enc:Str->PV) o) (0+Int.toNat (i:Int)) default)))&&PV.cellsOk (enc y))=true:=by
 have e:List.getD (List.map (enc:Str->PV) o) i default=enc o[i]:=by simp[List.getD,ho,h]
 subst ho
 rw[Nat.zero_add,Int.toNat_natCast,e,List.length_map,beq_self_eq_true,decide_eq_true h]
 rfl
theorem MB{m:List Str}:List.drop 0 (List.take m.length (List.map (enc:Str->PV) m))=m.map enc:=by rw[List.drop_zero,List.take_of_length_le (by simp)]
theorem b0a(n:Nat)(h:n<=1048576):(decide (0<=(n:Int))&&(n:Int)==(n:Int)&&decide ((n:Int)*((16:Nat):Int)<=1099511627776)&&decide ((n:Int)<=1099511627776))=true:=by simp;omega
theorem Af{l:List (List UInt8)}{c:Nat}(hc:c<=1048574)(hl:l.length<=1048576)(h : ∀ s∈l,s.length<=c):(Yd l).length<=1099511627776:=by
 have h1:=Y1 l
 have h2:=JU (f:=fun s:List UInt8=>s.length+2) (c:=1048576) (l:=l) fun s hs=>by have:=h s hs;show s.length+2<=_;omega
 have h3:1048576*l.length<=1048576*1048576:=Nat.mul_le_mul_left _ hl
 omega
theorem Ad{l:Lin}(h:Zw l=true):VN l=true:=by
 have h1:=Hr h
 unfold VN H7
 rw[decide_eq_true (by omega),Bool.true_and,List.all_eq_true]
 exact fun c hc=>decide_eq_true (by
  have:=K7 (VE h hc).1
  omega)
theorem Eo(l:List Lin)(hl:l.length<=1048576)(hp : ∀ x∈l,Zw x=true)(hj:Y8 (l.map Yx)=true): ∀ (d i:Nat),d+i=l.length ->
  At Q3 0 (Za U0 (Zk (Yi (l.map Yx)))) U7 0 27 [(1,.pv (.fn 29)),(5,.row 0 l.length 0 l.length),(11,.pv (enc l)),(12,.pv (.int .i64 l.length)),(13,.pv (.int .i64 i))] [.obj (.row false 9 1 ((Gi (l.map Yx) i).map enc))]:=by
 intro d
 induction d with
 | zero=>
  intro i hi
  have hil:i=l.length:=by omega
  subst hil
  have e:Gi (l.map Yx) l.length=l.map Yx:=by have:=TY (l.map Yx);rw[List.length_map]at this;exact this
  rw[e]
  have e2:=MB (m:=l.map Yx)
  rw[List.length_map]at e2
  refine OB l _ _ (XR (YV (by omega)) ⟨by simp,?_⟩)
  rw[e2]
  exact⟨Ze (l.map Yx,()) rfl hj,Zg (l.map Yx,()) rfl (Zt rfl)⟩
 | succ d ih=>
  intro i hi
  have hlt:i<l.length:=by omega
  have ho:(Gi (l.map Yx) i).length=l.length:=by rw[AB _ _ (by rw[List.length_map];omega),List.length_map]
  refine OB l _ _ (XQ (YU hlt) ⟨Yl hlt rfl,Y9 hlt ⟨Ze (l[i],()) rfl (Ad (hp _ (List.getElem_mem hlt))),Zg (l[i],()) rfl ⟨Mt hlt ho,NR hlt ho,?_⟩⟩⟩)
  have e:(Gi (l.map Yx) i).set i (Yx l[i])=Gi (l.map Yx) (i+1):=by
   have:=Tx (m:=l.map Yx) (i:=i) (by rw[List.length_map];exact hlt)
   rw[List.getElem_map]at this
   exact this
  have e2:=LW (o:=Gi (l.map Yx) i) (i:=i) (by omega) (Yx l[i])
  rw[e]at e2
  rw[next (by omega)]
  have h:=ih (i+1) (by omega)
  rw[<- e2]at h
  exact h
theorem a9f: ∀ x:List Lin×FnV 29×Unit,(decide (x.1.length<=1048576)&&x.1.all Zw)=true->Zc Q3 0 (Za U0 (Zk (Yi (x.1.map Yx)))) U7 [] (Ye b2k (encL x)):=by
 rintro⟨l,g,⟨⟩⟩ h
 simp only[Bool.and_eq_true,decide_eq_true_eq,List.all_eq_true]at h
 have hj:Y8 (l.map Yx)=true:=by
  unfold Y8
  rw[decide_eq_true (by rw[List.length_map];exact h.1),Bool.true_and]
  refine decide_eq_true (Af (c:=1000) (by omega) (by simp;exact h.1) fun s hs=> ?_)
  simp only[List.mem_map]at hs
  obtain⟨x,⟨y,_,rfl⟩,rfl⟩:=hs
  exact Ui y
 refine c2o l ⟨by rw[List.length_map];exact b0a _ h.1,?_⟩
 have:=Eo l h.1 h.2 hj l.length 0 (by omega)
 rw[DI,List.map_replicate,List.length_map]at this
 rw[List.length_map,Int.toNat_natCast]
 exact this
theorem a1i(l:List Int)(hl:l.length<=1048576)(hp : ∀ x∈l,0<=x∧x<=6)(hj:Y8 (l.map ZI)=true): ∀ (d i:Nat),d+i=l.length ->
  At Q8 0 (Za U2 (Zk (Yi (l.map ZI)))) UR 0 27 [(1,.pv (.fn 51)),(5,.row 0 l.length 0 l.length),(11,.pv (enc l)),(12,.pv (.int .i64 l.length)),(13,.pv (.int .i64 i))] [.obj (.row false 9 1 ((Gi (l.map ZI) i).map enc))]:=by
 intro d
 induction d with
 | zero=>
  intro i hi
  have hil:i=l.length:=by omega
  subst hil
  have e:Gi (l.map ZI) l.length=l.map ZI:=by have:=TY (l.map ZI);rw[List.length_map]at this;exact this
  rw[e]
  have e2:=MB (m:=l.map ZI)
  rw[List.length_map]at e2
  refine F9 l _ _ (XR (YV (by omega)) ⟨by simp,?_⟩)
  rw[e2]
  exact⟨Ze (l.map ZI,()) rfl hj,Zg (l.map ZI,()) rfl (Zt rfl)⟩
 | succ d ih=>
  intro i hi
  have hlt:i<l.length:=by omega
  have ho:(Gi (l.map ZI) i).length=l.length:=by rw[AB _ _ (by rw[List.length_map];omega),List.length_map]
  refine F9 l _ _ (XQ (YU hlt) ⟨Yl hlt rfl,Y9 hlt ⟨Ze (l[i],()) rfl (by have:=hp _ (List.getElem_mem hlt);show(decide _&&decide _)=true;rw[decide_eq_true (by omega),decide_eq_true (by omega)];rfl),Zg (l[i],()) rfl ⟨Mt hlt ho,NR hlt ho,?_⟩⟩⟩)
  have e:(Gi (l.map ZI) i).set i (ZI l[i])=Gi (l.map ZI) (i+1):=by
   have:=Tx (m:=l.map ZI) (i:=i) (by rw[List.length_map];exact hlt)
   rw[List.getElem_map]at this
   exact this
  have e2:=LW (o:=Gi (l.map ZI) i) (i:=i) (by omega) (ZI l[i])
  rw[e]at e2
  rw[next (by omega)]
  have h:=ih (i+1) (by omega)
  rw[<- e2]at h
  exact h
theorem a4i: ∀ x:List Int×FnV 51×Unit,(decide (x.1.length<=1048576)&&XP x.1)=true->Zc Q8 0 (Za U2 (Zk (Yi (x.1.map ZI)))) UR [] (Ye b3o (encL x)):=by
 rintro⟨l,g,⟨⟩⟩ h
 unfold XP at h
 simp only[Bool.and_eq_true,decide_eq_true_eq,List.all_eq_true]at h
 have hj:Y8 (l.map ZI)=true:=by
  unfold Y8
  rw[decide_eq_true (by rw[List.length_map];exact h.1),Bool.true_and]
  refine decide_eq_true (Af (c:=1000) (by omega) (by simp;exact h.1) fun s hs=> ?_)
  simp only[List.mem_map]at hs
  obtain⟨x,⟨y,hy,rfl⟩,rfl⟩:=hs
  have:=V9 (n:=y) (by have:=h.2 y hy;omega)
  unfold UD at this
  omega
 refine b9l l ⟨by rw[List.length_map];exact b0a _ h.1,?_⟩
 have:=a1i l h.1 h.2 hj l.length 0 (by omega)
 rw[DI,List.map_replicate,List.length_map]at this
 rw[List.length_map,Int.toNat_natCast]
 exact this
theorem a8x: ∀ x:Tm×Unit,VO x.1.nd=true->Zc Sq 0 (Za G9 (Zk (P8 x.1.nd))) Ty [] (Ye b6p (encL x)):=by
 rintro⟨⟨n,ks⟩,⟨⟩⟩ h
 rw[<- Yh]
 show Zc Sq 0 (Za G9 (Zk (P8 n))) _ _ _
 have h:VO n=true:=h
 refine b9s n ks (ZU (fun h1=>⟨Ze (n.num,()) rfl ?_,Zg (n.num,()) rfl (Zt ?_)⟩) fun h1=>Zg ((n.num==1),()) rfl (Zt ?_))
 ·have h1:n.name.s=UA:=h1
  unfold VO at h
  rw[if_neg (by rw[h1];decide)]at h
  simp only[Bool.and_eq_true,decide_eq_true_eq]at h
  show(decide _&&decide _)=true
  rw[decide_eq_true (by omega),decide_eq_true (by omega)];rfl
 ·have h1:n.name.s=UA:=h1
  unfold P8 SI
  rw[if_pos h1];rfl
 ·have h1 : ¬ n.name.s=UA:=h1
  unfold P8 SI b5h
  rw[if_neg h1]
  by_cases h2:n.num=1
  ·rw[h2];rfl
  ·rw[if_neg h2,show(n.num==1)=false by simpa using h2];rfl
theorem Et: ∀ x:Tm×Unit,tW x.1=true->Zc GX 0 (Za Jh (Zk (XZ x.1))) Cn [] (Ye a8q (encL x)):=by
 rintro⟨⟨n,ks⟩,⟨⟩⟩ h
 rw[<- Yh]
 show Zc GX 0 (Za Jh (Zk (XZ (.mk n ks)))) _ _ _
 refine b4o n ks ⟨Ze (.mk n ks,()) (Yh n ks) h,Zg (.mk n ks,()) (Yh n ks) (Gj (fun h1=> ?_) fun h1=> ?_)⟩
 ·have h1:Xz (.mk n ks)=false:=h1
  exact Zt (x:=((⟨[]⟩,1):Str×Int)) (by unfold XZ;rw[h1];rfl)
 ·have h1:Xz (.mk n ks)=true:=h1
  have hv:YJ (.mk n ks)=true:=D6 (by unfold Xz at h1;rw[Bool.and_eq_true]at h1;exact h1.1)
  have h:tW (.mk n ks)=true:=h
  refine⟨Ze (.mk n ks,()) (Yh n ks) (by show(tW (.mk n ks)&&YJ (.mk n ks))=true;rw[h,hv];rfl),Zg (.mk n ks,()) (Yh n ks) (Zg (Zr (.mk n ks),()) rfl (Zt (x:=Dv (Zr (.mk n ks))) ?_))⟩
  unfold XZ;rw[h1];rfl
end Go.Pl

namespace Go.Pl
open Go.RowKit
open Enc (enc dec is)
open EncL (encL decL isL)
theorem We(a b:List UInt8):Zd (a++b)=Zd a++Zd b:=by unfold Zd;rw[List.map_append]
theorem c4a{t n:Nat}{xs:List PV}(pre ds:List UInt8):((AV.row 0 (n+(Zd pre).length+ds.length) 0 (n+(Zd pre).length+ds.length),[AObj.row false t 1 (xs++Zd pre++Zd ds)],[]):AV×List AObj×List AObj)=(Nr n (pre++ds),[.row false t 1 (xs++Zd (pre++ds))],[]):=by
 unfold Nr
 rw[We,Ve,List.length_append,List.append_assoc,Nat.add_assoc]
theorem TU{n m:Nat}{xs:List PV}(h:xs.length=n)(hn:n+m<=1099511627776):(List.length xs==n&&n==n&&decide ((n+m)*1<=1099511627776)&&decide (n+m<=1099511627776))=true:=by
 rw[h,Nat.mul_one,decide_eq_true hn];simp
theorem BH{n:Nat}{u:Int}{xs:List PV}(h:xs.length=n)(h0:0<=u)(h1:u<18446744073709551616)(hn:n<=1099511620000):KD 5 [.row 0 n 0 n,.pv (.int .u64 u),.pv (.int .i64 10)] [.row false 5 1 xs]=true:=by
 show(5==5&&n==n&&xs.length==n&&decide (0<=u)&&decide (u<18446744073709551616)&&(10:Int)==10&&decide (n<=1099511620000))=true
 rw[h,decide_eq_true h0,decide_eq_true h1,decide_eq_true hn];simp
theorem BX{n:Nat}{i:Int}{xs:List PV}(h:xs.length=n)(h0 : -9223372036854775808<=i)(h1:i<=9223372036854775807)(hn:n<=1099511610000):Vd 5 [.row 0 n 0 n,.pv (.int .i64 i),.pv (.int .i64 10)] [.row false 5 1 xs]=true:=by
 show(5==5&&n==n&&xs.length==n&&decide (-9223372036854775808<=i)&&decide (i<=9223372036854775807)&&(10:Int)==10&&decide (n<=1099511610000))=true
 rw[h,decide_eq_true h0,decide_eq_true h1,decide_eq_true hn];simp
theorem b2m{i:Int}(h:i<0)(h0 : -9223372036854775808<=i):IntKind.wrap .u64 (-IntKind.wrap .u64 i)=(i.natAbs:Int):=by
 simp[IntKind.wrap,IntKind.bits,IntKind.signed]
 omega
theorem b1s{i:Int}(h : ¬ i<0)(h0:i<=9223372036854775807):IntKind.wrap .u64 i=(i.natAbs:Int):=by
 simp[IntKind.wrap,IntKind.bits,IntKind.signed]
 omega
theorem b3c: ∀ args os,Vd 5 args os=true->Zc b0s os.length (YB os.length NV fun r=>r=JM args os) LG [] (Vb c1m args os):=by
 intro args os h
 unfold Vd at h
 split at h
 ·rename_i n n' i b ty xs
  simp only[Bool.and_eq_true,beq_iff_eq,decide_eq_true_eq]at h
  obtain⟨⟨⟨⟨⟨⟨rfl,rfl⟩,hxl⟩,h0⟩,h1⟩,rfl⟩,hn⟩:=h
  refine c3x n' i xs (Yp (fun hi=> ?_) fun hi=> ?_)
  ·have e:Lib.itoa i=[45]++Lib.decDigits i.natAbs:=Ux hi
   rw[b2m hi h0,Int.toNat_natCast]
   refine⟨TU hxl (by show n'+1<=_;omega),BH (by rw[List.length_append,hxl]) (by omega) (by omega) (by show n'+1<=_;omega),?_⟩
   show _=((Nr n' (Lib.itoa i),[.row false 5 1 (xs++Zd (Lib.itoa i))],[]):AV×List AObj×List AObj)
   rw[e]
   exact c4a [45] _
  ·have e:Lib.itoa i=Lib.decDigits i.natAbs:=Uu hi
   rw[b1s hi h1,Int.toNat_natCast]
   refine⟨BH hxl (by omega) (by omega) (by omega),?_⟩
   show _=((Nr n' (Lib.itoa i),[.row false 5 1 (xs++Zd (Lib.itoa i))],[]):AV×List AObj×List AObj)
   rw[e]
   rfl
 ·cases h
theorem b3x: ∀ args os,Vd 5 args os=true->Zc a2t os.length (YB os.length LX fun r=>r=JM args os) Le [] (Vb b8k args os):=by
 intro args os h
 have h2:=h
 unfold Vd at h
 split at h
 ·rename_i n n' i b ty xs
  simp only[Bool.and_eq_true,beq_iff_eq,decide_eq_true_eq]at h
  obtain⟨⟨⟨⟨⟨⟨rfl,rfl⟩,hxl⟩,h0⟩,h1⟩,rfl⟩,hn⟩:=h
  exact c4r n' i xs ⟨h2,rfl⟩
 ·cases h
theorem b1k: ∀ args os,U3 5 args os=true->Zc a2i os.length (YB os.length M0 fun r=>r=SH args os) Mf [] (Vb c2w args os):=by
 intro args os h
 unfold U3 at h
 split at h
 ·rename_i i s n n' ty xs
  simp only[Bool.and_eq_true,beq_iff_eq,decide_eq_true_eq]at h
  obtain⟨⟨⟨⟨⟨rfl,rfl⟩,hxl⟩,h0⟩,h1⟩,hn⟩:=h
  refine c3v n' i s xs (WC (fun hs=> ?_) fun hs=> ?_)
  ·subst hs
   refine⟨TU hxl (by show n'+1<=_;omega),BX (by rw[List.length_append,hxl]) h0 h1 (by show n'+1<=_;omega),?_⟩
   show(AV.tup [],[AObj.box [.row 1 (n'+1+(Lib.itoa i).length) 0 (n'+1+(Lib.itoa i).length)],.row false 5 1 (xs++Zd [32]++Zd (Lib.itoa i))],[])=((AV.tup [],[AObj.box [.row 1 (n'+(Vg true i).length) 0 (n'+(Vg true i).length)],.row false 5 1 (xs++Zd (Vg true i))],[]):AV×List AObj×List AObj)
   have e:Vg true i=[32]++Lib.itoa i:=rfl
   rw[e,We,List.length_append,List.append_assoc,Nat.add_assoc]
   rfl
  ·subst hs
   exact⟨BX hxl h0 h1 (by omega),rfl⟩
 ·cases h
def apH(a:Arr)(o:List UInt8):Zp:=[.obj (.box [.pv (enc a.e),.pv (enc a.d),.pv (enc a.x)]),.obj (.box [.row 2 o.length 0 o.length]),.obj (.row false 5 1 (Zd o))]
theorem CR{i:Int}{s:Bool}{o:List UInt8}(h0 : -9223372036854775808<=i)(h1:i<=9223372036854775807)(hn:o.length<=1099511600000):U3 5 [.pv (.int .i64 i),.pv (.bool s),.ptr 0 0] [.box [.row 1 o.length 0 o.length],.row false 5 1 (Zd o)]=true:=by
 show(5==5&&o.length==o.length&&(Zd o).length==o.length&&decide (-9223372036854775808<=i)&&decide (i<=9223372036854775807)&&decide (o.length<=1099511600000))=true
 rw[Ve,decide_eq_true h0,decide_eq_true h1,decide_eq_true hn];simp
theorem FB(s:Bool){i:Int}(h:i.natAbs<18446744073709551616):(Vg s i).length<=22:=by
 have h:=V9 h
 have h:(Lib.itoa i).length<=21:=h
 unfold Vg
 rw[List.length_append]
 cases s
 ·show 0+_<=_;omega
 ·show 1+_<=_;omega
def YE(o:List UInt8):Bool->List Int->List UInt8
 | _,[]=>o
 | s,n::l=>YE (o++Vg s n) true l
theorem b8c(o:List UInt8):(Zd o).all Bq=true:=by
 unfold Zd
 rw[List.all_eq_true]
 intro x hx
 obtain⟨b,_,rfl⟩:=List.mem_map.1 hx
 have:b.toNat<256:=b.toNat_lt
 simp[Bq]
 omega
theorem a6l(o:List UInt8):XA (Zd o)=o:=by
 unfold XA Zd
 rw[List.map_map]
 conv=>rhs;rw[<- List.map_id o]
 refine List.map_congr_left fun b _=> ?_
 show UInt8.ofNat ((b.toNat:Int).toNat)=b
 rw[Int.toNat_natCast,UInt8.ofNat_toNat]
theorem Es(a:Arr)(G:PV->Prop)(hx : ∀ n∈a.x,n.natAbs<9223372036854775808)(hl:a.x.length<=2000000): ∀ (d i:Nat) (o:List UInt8),d+i=a.x.length->o.length<=100000000+22*i ->
  G (.tup [.str (YE o true (a.x.drop i)++[93]),.int .i64 0]) ->
  At Xg 0 (Za YI G) YH 1 56 [(1,.ptr 0 0),(4,.ptr 1 0),(5,.fn 60 [] [.ptr 1 0]),(40,.pv (.int .i64 a.x.length)),(41,.pv (.int .i64 i))] (apH a o):=by
 intro d
 induction d with
 | zero=>
  intro i o hi ho h
  rw[List.drop_eq_nil_of_le (by omega)]at h
  have el:(Zd o).length=o.length:=Ve o
  refine Al a o.length i (Zd o) (XR (YV (by omega)) ⟨TU el (by show o.length+1<=_;omega),?_,?_⟩)
  ·show((Zd o++Zd [93]).length==o.length+1&&(Zd o++Zd [93]).all Bq&&1==1)=true
   rw[<- We,Ve,b8c,List.length_append];simp
  ·show G (.tup [.str (XA (List.drop 0 (List.take (o.length+1) (Zd o++Zd [93])))),.int .i64 0])
   rw[<- We,List.drop_zero,List.take_of_length_le (by rw[Ve,List.length_append];exact Nat.le_refl _),a6l]
   exact h
 | succ d ih=>
  intro i o hi ho h
  have hlt:i<a.x.length:=by omega
  have hn:=hx _ (List.getElem_mem hlt)
  have hnl:=FB true (i:=a.x[i]) (by omega)
  rw[List.drop_eq_getElem_cons hlt]at h
  have k:=ih (i+1) (o++Vg true a.x[i]) (by omega) (by rw[List.length_append];omega) h
  refine Al a o.length i (Zd o) (XQ (YU hlt) ⟨Yl hlt rfl,Y9 hlt ⟨CR (by show _<=a.x[i];omega) (by show a.x[i]<=_;omega) (by omega),?_⟩⟩)
  rw[next (by omega)]
  unfold apH at k
  rw[We,List.length_append]at k
  exact k
theorem a0x(a:Arr)(G:PV->Prop)(hd : ∀ n∈a.d,n.natAbs<9223372036854775808)(hl:a.d.length<=2000000)
  (next1 : ∀ o:List UInt8,o.length<=44000010->G (.tup [.str (YE (o++[58]) true a.x++[93]),.int .i64 0])->At Xg 0 (Za YI G) YH 1 56 [(1,.ptr 0 0),(4,.ptr 1 0),(5,.fn 60 [] [.ptr 1 0]),(40,.pv (.int .i64 a.x.length)),(41,.pv (.int .i64 (0:Nat)))] (apH a (o++[58]))) : ∀ (d i:Nat) (o:List UInt8),d+i=a.d.length->o.length<=10+22*i ->
  G (.tup [.str (YE (YE o (decide (0<i)) (a.d.drop i)++[58]) true a.x++[93]),.int .i64 0]) ->
  At Xg 0 (Za YI G) YH 0 56 [(1,.ptr 0 0),(4,.ptr 1 0),(5,.fn 60 [] [.ptr 1 0]),(21,.pv (.int .i64 a.d.length)),(22,.pv (.int .i64 i))] (apH a o):=by
 intro d
 induction d with
 | zero=>
  intro i o hi ho h
  rw[List.drop_eq_nil_of_le (by omega)]at h
  have el:(Zd o).length=o.length:=Ve o
  have k:=next1 o (by omega) h
  unfold apH at k
  rw[We,List.length_append]at k
  refine BI a o.length i (Zd o) (XR (YV (by omega)) ⟨TU el (by show o.length+1<=_;omega),?_⟩)
  rw[List.length_map]
  exact k
 | succ d ih=>
  intro i o hi ho h
  have hlt:i<a.d.length:=by omega
  have hn:=hd _ (List.getElem_mem hlt)
  have hnl:=FB (decide (0<i)) (i:=a.d[i]) (by omega)
  rw[List.drop_eq_getElem_cons hlt]at h
  have k:=ih (i+1) (o++Vg (decide (0<i)) a.d[i]) (by omega) (by rw[List.length_append];omega) (by rw[decide_eq_true (show 0<i+1 by omega)];exact h)
  refine BI a o.length i (Zd o) (XQ (YU hlt) ⟨Yl hlt rfl,Y9 hlt ⟨CR (by show _<=a.d[i];omega) (by show a.d[i]<=_;omega) (by omega),?_⟩⟩)
  rw[next (by omega)]
  have eg:decide ((i:Int)>0)=decide (0<i):=decide_eq_decide.2 (by omega)
  rw[eg]
  unfold apH at k
  rw[We,List.length_append]at k
  exact k
theorem PP: ∀ (l:List Int) (o:List UInt8),YE o true l=o++l.flatMap fun n=>[32]++UD n
 | [],o=>by simp[YE]
 | n::l,o=>by
  rw[YE,PP l,List.flatMap_cons,List.append_assoc]
  rfl
theorem BJ: ∀ (l:List Int) (o:List UInt8),YE o false l=o++X9 l
 | [],o=>by simp[YE,X9]
 | [n],o=>by simp only[YE,X9];rfl
 | n::m::r,o=>by
  rw[YE,X9]
  ·have h:=BJ (m::r) (o++Vg false n++[32])
   rw[YE]at h ⊢
   have e:o++Vg false n++Vg true m=o++Vg false n++[32]++Vg false m:=by
    show o++Vg false n++([32]++Lib.itoa m)=_
    simp[Vg]
   rw[e,h]
   show o++([]++Lib.itoa n)++[32]++_=_
   simp[UD,ZI]
  ·simp
theorem Lh: ∀ x:Arr×Unit,(Qk x.1&&Ud x.1)=true->Zc Xg 0 (Za YI (Zk (Ri x.1))) YH [] (Ye a0c (encL x)):=by
 rintro⟨a,⟨⟩⟩ h
 rw[Bool.and_eq_true]at h
 have hs:Qk a=true:=h.1
 have hv:Ud a=true:=h.2
 have hsm:=hs
 unfold Qk at hsm
 simp only[Bool.and_eq_true,decide_eq_true_eq]at hsm
 obtain⟨hd,hx⟩:=Oy hv
 have fin : ∀ o:List UInt8,(o=if a.e.s=VW then [35,98,91]else [35,91])->Zk (Ri a) (.tup [.str (YE (YE o (decide (0<0)) (a.d.drop 0)++[58]) true a.x++[93]),.int .i64 0]):=fun o ho=>by
  have e:YE (YE o (decide (0<0)) (a.d.drop 0)++[58]) true a.x++[93]=Bd a:=by
   rw[List.drop_zero,show decide (0<0)=false from rfl,BJ,PP,ho]
   rfl
  rw[e]
  exact Zt (x:=((⟨Bd a⟩,0):Str×Int)) rfl
 have key : ∀ o:List UInt8,o.length<=10->Zk (Ri a) (.tup [.str (YE (YE o (decide (0<0)) (a.d.drop 0)++[58]) true a.x++[93]),.int .i64 0])->_:=fun o ho k=>
  a0x a (Zk (Ri a)) hd hsm.1 (fun o ho k=>Es a (Zk (Ri a)) hx hsm.2 a.x.length 0 (o++[58]) (by omega) (by rw[List.length_append];show _+1<=_;omega) k) a.d.length 0 o (by omega) (by omega) k
 refine a3e a ⟨Ze (a,()) rfl hs,Zg (a,()) rfl (Gj (fun hn=> ?_) fun hn=>ZU (fun hb=> ?_) fun hb=> ?_)⟩
 ·have hn:Ud a=false:=hn
  rw[hv]at hn;cases hn
 ·rw[List.length_map]
  exact key [35,98,91] (by decide) (fin _ (by rw[if_pos (show a.e.s=VW from hb)]))
 ·rw[List.length_map]
  exact key [35,91] (by decide) (fin _ (by rw[if_neg (show ¬ a.e.s=VW from hb)]))
end Go.Pl

namespace Go.Pl
open Go.RowKit
open Enc (enc dec is)
open EncL (encL decL isL)
set_option maxRecDepth 100000
def U9:IC:=(.seq (.reg [⟨(some 1),(.box 10 (.t 0)),0,none⟩,⟨(some 2),(.mv (.c (.int .i64 0))),1,none⟩] none) (.seq (.reg [⟨(some 3),(.mv (.c (.int .i64 0))),0,none⟩] none) (.seq (.seq (.reg [⟨(some 4),(.mv (.c (.int .i64 0))),0,none⟩] none) (.block 0 (.loop [4,1,3] (.seq (.seq (.reg [⟨(some 5),(.mv (.t 4)),0,none⟩,⟨(some 6),(.faddr 9 (.t 1)),0,none⟩,⟨(some 7),(.load false [(.sl 10)] (.t 6)),0,none⟩,⟨(some 8),(.len 1 (.t 7)),0,none⟩,⟨(some 9),(.bin .num .lss (.t 5) (.t 8)),0,none⟩] none) (.cond (.t 9) .skip (.exit 0))) (.seq (.block 1 (.reg [⟨(some 12),(.mv (.t 3)),0,none⟩,⟨(some 13),(.faddr 9 (.t 1)),0,none⟩,⟨(some 14),(.load false [(.sl 10)] (.t 13)),0,none⟩,⟨(some 15),(.mv (.t 4)),0,none⟩,⟨(some 16),(.iaddr 10 (.t 14) (.t 15)),0,none⟩,⟨(some 17),(.load true [(.int .i64),(.int .i64),.str,(.int .i64),.str,(.sl 1),(.sl 1),(.sl 2),(.sl 1),(.sl 10)] (.t 16)),0,none⟩,⟨(some 18),(.call (.c (.fn 11)) [(.t 17)]),0,none⟩,⟨(some 19),(.mm true (.t 12) (.t 18)),2,none⟩,⟨(some 3),(.mv (.t 19)),2,none⟩] none)) (.reg [⟨(some 10),(.mv (.t 4)),0,none⟩,⟨(some 11),(.bin .num .add (.t 10) (.c (.int .i64 1))),0,none⟩,⟨(some 4),(.mv (.t 11)),0,none⟩] none)))))) (.seq (.reg [⟨(some 20),(.mv (.t 3)),0,none⟩,⟨(some 21),(.bin .num .add (.t 20) (.c (.int .i64 1))),0,none⟩,⟨(some 2),(.mv (.t 21)),0,none⟩] none) .ret))))
def UG:List IRes:=[(.tmp 2)]
abbrev b5n:Nat:=22
def Kl(N:Nat):ZC:=Xi [(11,.pure (preT (fun x:Tm×Unit=>tW x.1&&decide (Yb x.1<N))) (Zf (fun x:Tm×Unit=>(Yb x.1:Int))))]
theorem b9b{G:PV->Prop}(N:Nat)(n:Nd)(ks:List Tm)(h:At (Kl N) 0 (Za UG G) U9 0 22 [(1,(.ptr 0 0)),(3,(.pv (.int .i64 0))),(4,(.pv (.int .i64 0)))] [(.obj (.box (ZN n ks)))]):Zc (Kl N) 0 (Za UG G) U9 [] (Ye 22 [.agg [enc n.kind,enc n.line,enc n.name,enc n.num,enc n.elem,enc n.dims,enc n.data,enc n.sizes,enc n.ranks,enc ks]]):=Zc.tp (.nil) h (by kernel_rfl)
theorem FE{G:PV->Prop}(N:Nat)(n:Nd)(ks:List Tm)(m i:Int)(h:if (decide (i<(↑(List.length (List.map enc ks)):Int)))=true then(decide (0<=i)&&decide (Int.toNat i<List.length (List.map enc ks))&&Enc.sz Tm==10)=true∧(∃ y0:Tm,AV.pv (PV.rptr (PV.cells (List.getD (List.map enc ks) (Int.toNat i) default)))=AV.pv (PV.rptr (PV.cells ((enc) y0)))∧(NG y0=true∧((Go.Pl.preT (fun(x:Tm×Unit)=>tW x.1&&decide (Yb x.1<N)) (Qg y0))=true∧(∃ y1:Int,AV.pv (Zf (fun(x:Tm×Unit)=>(↑(Yb x.1):Int)) (Qg y0))=AV.pv (enc y1)∧(At (Kl N) 0 (Za UG G) U9 0 22 [(1,(.ptr 0 0)),(3,(.pv (.int .i64 (if true=true then if y1>m then y1 else m else if y1<m then y1 else m)))),(4,(.pv (.int .i64 (IntKind.wrap IntKind.i64 (i+1)))))] [(.obj (.box (ZN n ks)))])))))else(G ((.int .i64 (IntKind.wrap IntKind.i64 (m+1)))))):At (Kl N) 0 (Za UG G) U9 0 22 [(1,.ptr 0 0),(3,.pv (.int .i64 m)),(4,.pv (.int .i64 i))] [.obj (.box [.pv (enc n.kind),.pv (enc n.line),.pv (enc n.name),.pv (enc n.num),.pv (enc n.elem),.pv (enc n.dims),.pv (enc n.data),.pv (enc n.sizes),.pv (enc n.ranks),.pv (enc ks)])]:=At.tp (.lit (.ask (.req (.abs (Tm) (fun YY=>AV.pv (PV.rptr (PV.cells ((enc) YY)))) (.req (.req (.abs (Int) (fun YY=>AV.pv (enc YY)) (.lit (.nil))))))) (.lit (.nil)))) h (by kernel_rfl)
def VI:IC:=(.seq (.reg [⟨(some 1),(.box 10 (.t 0)),0,none⟩,⟨(some 2),(.mv (.c (.int .i64 0))),1,none⟩] none) (.seq (.reg [⟨(some 3),(.mv (.c (.int .i64 1))),0,none⟩] none) (.seq (.seq (.reg [⟨(some 4),(.mv (.c (.int .i64 0))),0,none⟩] none) (.block 0 (.loop [4,1,3] (.seq (.seq (.reg [⟨(some 5),(.mv (.t 4)),0,none⟩,⟨(some 6),(.faddr 9 (.t 1)),0,none⟩,⟨(some 7),(.load false [(.sl 10)] (.t 6)),0,none⟩,⟨(some 8),(.len 1 (.t 7)),0,none⟩,⟨(some 9),(.bin .num .lss (.t 5) (.t 8)),0,none⟩] none) (.cond (.t 9) .skip (.exit 0))) (.seq (.block 1 (.reg [⟨(some 12),(.mv (.t 3)),0,none⟩,⟨(some 13),(.faddr 9 (.t 1)),0,none⟩,⟨(some 14),(.load false [(.sl 10)] (.t 13)),0,none⟩,⟨(some 15),(.mv (.t 4)),0,none⟩,⟨(some 16),(.iaddr 10 (.t 14) (.t 15)),0,none⟩,⟨(some 17),(.load true [(.int .i64),(.int .i64),.str,(.int .i64),.str,(.sl 1),(.sl 1),(.sl 2),(.sl 1),(.sl 10)] (.t 16)),0,none⟩,⟨(some 18),(.call (.c (.fn 12)) [(.t 17)]),0,none⟩,⟨(some 19),(.bin .num .add (.t 12) (.t 18)),2,none⟩,⟨(some 3),(.mv (.t 19)),2,none⟩] none)) (.reg [⟨(some 10),(.mv (.t 4)),0,none⟩,⟨(some 11),(.bin .num .add (.t 10) (.c (.int .i64 1))),0,none⟩,⟨(some 4),(.mv (.t 11)),0,none⟩] none)))))) (.seq (.reg [⟨(some 20),(.mv (.t 3)),0,none⟩,⟨(some 2),(.mv (.t 20)),0,none⟩] none) .ret))))
def VM:List IRes:=[(.tmp 2)]
abbrev a1t:Nat:=21
def UJ(N:Nat):ZC:=Xi [(12,.pure (preT (fun x:Tm×Unit=>tW x.1&&decide (Yb x.1<N))) (Zf (fun x:Tm×Unit=>(ZY x.1:Int))))]
theorem b1g{G:PV->Prop}(N:Nat)(n:Nd)(ks:List Tm)(h:At (UJ N) 0 (Za VM G) VI 0 21 [(1,(.ptr 0 0)),(3,(.pv (.int .i64 1))),(4,(.pv (.int .i64 0)))] [(.obj (.box (ZN n ks)))]):Zc (UJ N) 0 (Za VM G) VI [] (Ye 21 [.agg [enc n.kind,enc n.line,enc n.name,enc n.num,enc n.elem,enc n.dims,enc n.data,enc n.sizes,enc n.ranks,enc ks]]):=Zc.tp (.nil) h (by kernel_rfl)
theorem PW{G:PV->Prop}(N:Nat)(n:Nd)(ks:List Tm)(m i:Int)(h:if (decide (i<(↑(List.length (List.map enc ks)):Int)))=true then(decide (0<=i)&&decide (Int.toNat i<List.length (List.map enc ks))&&Enc.sz Tm==10)=true∧(∃ y0:Tm,AV.pv (PV.rptr (PV.cells (List.getD (List.map enc ks) (Int.toNat i) default)))=AV.pv (PV.rptr (PV.cells ((enc) y0)))∧(NG y0=true∧((Go.Pl.preT (fun(x:Tm×Unit)=>tW x.1&&decide (Yb x.1<N)) (Qg y0))=true∧(∃ y1:Int,AV.pv (Zf (fun(x:Tm×Unit)=>(↑(ZY x.1):Int)) (Qg y0))=AV.pv (enc y1)∧(At (UJ N) 0 (Za VM G) VI 0 21 [(1,(.ptr 0 0)),(3,(.pv (.int .i64 (IntKind.wrap IntKind.i64 (m+y1))))),(4,(.pv (.int .i64 (IntKind.wrap IntKind.i64 (i+1)))))] [(.obj (.box (ZN n ks)))])))))else(G ((.int .i64 m)))):At (UJ N) 0 (Za VM G) VI 0 21 [(1,.ptr 0 0),(3,.pv (.int .i64 m)),(4,.pv (.int .i64 i))] [.obj (.box [.pv (enc n.kind),.pv (enc n.line),.pv (enc n.name),.pv (enc n.num),.pv (enc n.elem),.pv (enc n.dims),.pv (enc n.data),.pv (enc n.sizes),.pv (enc n.ranks),.pv (enc ks)])]:=At.tp (.lit (.ask (.req (.abs (Tm) (fun YY=>AV.pv (PV.rptr (PV.cells ((enc) YY)))) (.req (.req (.abs (Int) (fun YY=>AV.pv (enc YY)) (.lit (.lit (.nil)))))))) (.nil))) h (by kernel_rfl)
def Qc:IC:=(.seq (.reg [⟨(some 1),(.box 10 (.t 0)),0,none⟩,⟨(some 2),(.mv (.c (.sl 0 true []))),1,none⟩] none) (.seq (.reg [⟨(some 5),(.load true [(.int .i64),(.int .i64),.str,(.int .i64),.str,(.sl 1),(.sl 1),(.sl 2),(.sl 1),(.sl 10)] (.t 1)),0,none⟩,⟨(some 6),(.bslice 28 10 1 (.agg [(.int .i64 0),(.int .i64 0),(.str []),(.int .i64 0),(.str []),(.sl 0 true []),(.sl 0 true []),(.sl 0 true []),(.sl 0 true []),(.sl 0 true [])]) [(0,(.t 5))]),0,none⟩,⟨(some 3),(.mv (.t 6)),1,none⟩] none) (.seq (.seq (.reg [⟨(some 4),(.mv (.c (.int .i64 0))),0,none⟩] none) (.block 0 (.loop [4,1,3] (.seq (.seq (.reg [⟨(some 7),(.mv (.t 4)),0,none⟩,⟨(some 8),(.faddr 9 (.t 1)),0,none⟩,⟨(some 9),(.load false [(.sl 10)] (.t 8)),0,none⟩,⟨(some 10),(.len 1 (.t 9)),0,none⟩,⟨(some 11),(.bin .num .lss (.t 7) (.t 10)),0,none⟩] none) (.cond (.t 11) .skip (.exit 0))) (.seq (.block 1 (.reg [⟨(some 14),(.mv (.t 3)),0,none⟩,⟨(some 15),(.faddr 9 (.t 1)),0,none⟩,⟨(some 16),(.load false [(.sl 10)] (.t 15)),0,none⟩,⟨(some 17),(.mv (.t 4)),0,none⟩,⟨(some 18),(.iaddr 10 (.t 16) (.t 17)),0,none⟩,⟨(some 19),(.load true [(.int .i64),(.int .i64),.str,(.int .i64),.str,(.sl 1),(.sl 1),(.sl 2),(.sl 1),(.sl 10)] (.t 18)),0,none⟩,⟨(some 20),(.call (.c (.fn 13)) [(.t 19)]),0,none⟩,⟨(some 21),(.append 28 10 176 (.t 14) (.t 20)),2,none⟩,⟨(some 3),(.mv (.t 21)),3,none⟩] none)) (.reg [⟨(some 12),(.mv (.t 4)),0,none⟩,⟨(some 13),(.bin .num .add (.t 12) (.c (.int .i64 1))),0,none⟩,⟨(some 4),(.mv (.t 13)),0,none⟩] none)))))) (.seq (.reg [⟨(some 22),(.mv (.t 3)),0,none⟩,⟨(some 2),(.mv (.t 22)),0,none⟩] none) .ret))))
def U8:List IRes:=[(.tmp 2)]
abbrev b3d:Nat:=23
def Q9(N:Nat):ZC:=Xi [(13,.pure (preT (fun x:Tm×Unit=>tW x.1&&decide (Yb x.1<N))) (Zf (fun x:Tm×Unit=>Xd x.1)))]
theorem b9r{G:PV->Prop}(N:Nat)(n:Nd)(ks:List Tm)(h:At (Q9 N) 0 (Za U8 G) Qc 0 23 [(1,(.ptr 0 0)),(3,(.row 1 1 0 1)),(4,(.pv (.int .i64 0)))] [(.obj (.box (ZN n ks))),(.obj (.row false 28 10 (BZ n ks)))]):Zc (Q9 N) 0 (Za U8 G) Qc [] (Ye 23 [.agg [enc n.kind,enc n.line,enc n.name,enc n.num,enc n.elem,enc n.dims,enc n.data,enc n.sizes,enc n.ranks,enc ks]]):=Zc.tp (.lit (.nil)) h (by kernel_rfl)
theorem Ov{G:PV->Prop}(N:Nat)(n:Nd)(ks:List Tm)(k:Nat)(i:Int)(o:List Tm)(h:if (decide (i<(↑(List.length (List.map enc ks)):Int)))=true then(decide (0<=i)&&decide (Int.toNat i<List.length (List.map enc ks))&&Enc.sz Tm==10)=true∧(∃ y0:Tm,AV.pv (PV.rptr (PV.cells (List.getD (List.map enc ks) (Int.toNat i) default)))=AV.pv (PV.rptr (PV.cells ((enc) y0)))∧(NG y0=true∧((Go.Pl.preT (fun(x:Tm×Unit)=>tW x.1&&decide (Yb x.1<N)) (Qg y0))=true∧(∃ y1:List Tm,AV.pv (Zf (fun(x:Tm×Unit)=>Xd x.1) (Qg y0))=AV.pv (enc y1)∧((List.isEmpty (List.map enc y1)||Enc.sz Tm==10)=true∧((List.length (List.map enc o)==k&&k==k&&decide ((k+List.length (List.map enc y1))*176<=1099511627776)&&decide (k+List.length (List.map enc y1)<=1099511627776))=true∧(At (Q9 N) 0 (Za U8 G) Qc 0 23 [(1,(.ptr 0 0)),(3,(.row 1 (k+List.length (List.map enc y1)) 0 (k+List.length (List.map enc y1)))),(4,(.pv (.int .i64 (IntKind.wrap IntKind.i64 (i+1)))))] [(.obj (.box (ZN n ks))),(.obj (.row false 28 10 (List.map enc o++List.map enc y1)))])))))))else((List.length (List.map enc o)==k)=true∧(G ((.sl 10 false (List.drop 0 (List.take k (List.map enc o)))))))):At (Q9 N) 0 (Za U8 G) Qc 0 23 [(1,.ptr 0 0),(3,.row 1 k 0 k),(4,.pv (.int .i64 i))] [.obj (.box [.pv (enc n.kind),.pv (enc n.line),.pv (enc n.name),.pv (enc n.num),.pv (enc n.elem),.pv (enc n.dims),.pv (enc n.data),.pv (enc n.sizes),.pv (enc n.ranks),.pv (enc ks)]),.obj (.row false 28 10 (o.map enc))]:=At.tp (.lit (.ask (.req (.abs (Tm) (fun YY=>AV.pv (PV.rptr (PV.cells ((enc) YY)))) (.req (.req (.abs (List Tm) (fun YY=>AV.pv (enc YY)) (.req (.req (.lit (.nil))))))))) (.req (.nil)))) h (by kernel_rfl)
def X8:IC:=(.seq (.reg [⟨(some 2),(.box 10 (.t 0)),0,none⟩,⟨(some 4),(.mv (.c (.bool false))),1,none⟩] none) (.seq (.seq (.reg [⟨(some 8),(.load true [(.int .i64),(.int .i64),.str,(.int .i64),.str,(.sl 1),(.sl 1),(.sl 2),(.sl 1),(.sl 10)] (.t 2)),0,none⟩,⟨(some 9),(.call (.c (.fn 11)) [(.t 8)]),0,none⟩,⟨(some 10),(.bin .num .gtr (.t 9) (.c (.int .i64 12))),2,none⟩,⟨(some 11),(.mv (.t 10)),2,none⟩,⟨(some 12),(.load true [(.int .i64),(.int .i64),.str,(.int .i64),.str,(.sl 1),(.sl 1),(.sl 2),(.sl 1),(.sl 10)] (.t 2)),2,(some (11,false))⟩,⟨(some 13),(.call (.c (.fn 12)) [(.t 12)]),2,(some (11,false))⟩,⟨(some 14),(.mv (.t 1)),4,(some (11,false))⟩,⟨(some 15),(.bin .num .gtr (.t 13) (.t 14)),4,(some (11,false))⟩,⟨(some 16),(.pick (.t 11) (.c (.bool true)) (.t 15)),4,none⟩] none) (.cond (.t 16) (.seq (.reg [⟨(some 4),(.mv (.c (.bool false))),0,none⟩] none) .ret) .skip)) (.seq (.reg [⟨(some 17),(.load true [(.int .i64),(.int .i64),.str,(.int .i64),.str,(.sl 1),(.sl 1),(.sl 2),(.sl 1),(.sl 10)] (.t 2)),0,none⟩,⟨(some 18),(.call (.c (.fn 13)) [(.t 17)]),0,none⟩,⟨(some 5),(.mv (.t 18)),2,none⟩] none) (.seq (.seq (.reg [⟨(some 6),(.mv (.c (.int .i64 0))),0,none⟩] none) (.block 0 (.loop [6,5] (.seq (.seq (.reg [⟨(some 19),(.mv (.t 6)),0,none⟩,⟨(some 20),(.mv (.t 5)),0,none⟩,⟨(some 21),(.len 1 (.t 20)),0,none⟩,⟨(some 22),(.bin .num .lss (.t 19) (.t 21)),0,none⟩] none) (.cond (.t 22) .skip (.exit 0))) (.seq (.block 1 (.seq (.seq (.reg [⟨(some 25),(.mv (.t 5)),0,none⟩,⟨(some 26),(.mv (.t 6)),0,none⟩,⟨(some 27),(.iaddr 10 (.t 25) (.t 26)),0,none⟩,⟨(some 28),(.faddr 2 (.t 27)),0,none⟩,⟨(some 29),(.load false [.str] (.t 28)),0,none⟩,⟨(some 30),(.len 0 (.t 29)),0,none⟩,⟨(some 31),(.bin .num .gtr (.t 30) (.c (.int .i64 40))),0,none⟩,⟨(some 32),(.mv (.t 31)),0,none⟩,⟨(some 33),(.mv (.t 5)),0,(some (32,false))⟩,⟨(some 34),(.mv (.t 6)),0,(some (32,false))⟩,⟨(some 35),(.iaddr 10 (.t 33) (.t 34)),0,(some (32,false))⟩,⟨(some 36),(.faddr 4 (.t 35)),0,(some (32,false))⟩,⟨(some 37),(.faddr 2 (.t 36)),0,(some (32,false))⟩,⟨(some 38),(.load false [(.sl 1)] (.t 37)),0,(some (32,false))⟩,⟨(some 39),(.len 1 (.t 38)),0,(some (32,false))⟩,⟨(some 40),(.bin .num .gtr (.t 39) (.c (.int .i64 30))),0,(some (32,false))⟩,⟨(some 41),(.pick (.t 32) (.c (.bool true)) (.t 40)),0,none⟩,⟨(some 42),(.mv (.t 41)),0,none⟩,⟨(some 43),(.mv (.t 5)),0,(some (42,false))⟩,⟨(some 44),(.mv (.t 6)),0,(some (42,false))⟩,⟨(some 45),(.iaddr 10 (.t 43) (.t 44)),0,(some (42,false))⟩,⟨(some 46),(.faddr 4 (.t 45)),0,(some (42,false))⟩,⟨(some 47),(.faddr 1 (.t 46)),0,(some (42,false))⟩,⟨(some 48),(.load false [(.sl 1)] (.t 47)),0,(some (42,false))⟩,⟨(some 49),(.len 1 (.t 48)),0,(some (42,false))⟩,⟨(some 50),(.bin .num .gtr (.t 49) (.c (.int .i64 8))),0,(some (42,false))⟩,⟨(some 51),(.pick (.t 42) (.c (.bool true)) (.t 50)),0,none⟩,⟨(some 52),(.mv (.t 51)),0,none⟩,⟨(some 53),(.mv (.t 5)),0,(some (52,false))⟩,⟨(some 54),(.mv (.t 6)),0,(some (52,false))⟩,⟨(some 55),(.iaddr 10 (.t 53) (.t 54)),0,(some (52,false))⟩,⟨(some 56),(.faddr 7 (.t 55)),0,(some (52,false))⟩,⟨(some 57),(.load false [(.sl 2)] (.t 56)),0,(some (52,false))⟩,⟨(some 58),(.len 1 (.t 57)),0,(some (52,false))⟩,⟨(some 59),(.bin .num .gtr (.t 58) (.c (.int .i64 6))),0,(some (52,false))⟩,⟨(some 60),(.pick (.t 52) (.c (.bool true)) (.t 59)),0,none⟩,⟨(some 61),(.mv (.t 60)),0,none⟩,⟨(some 62),(.mv (.t 5)),0,(some (61,false))⟩,⟨(some 63),(.mv (.t 6)),0,(some (61,false))⟩,⟨(some 64),(.iaddr 10 (.t 62) (.t 63)),0,(some (61,false))⟩,⟨(some 65),(.faddr 8 (.t 64)),0,(some (61,false))⟩,⟨(some 66),(.load false [(.sl 1)] (.t 65)),0,(some (61,false))⟩,⟨(some 67),(.len 1 (.t 66)),0,(some (61,false))⟩,⟨(some 68),(.bin .num .gtr (.t 67) (.c (.int .i64 10))),0,(some (61,false))⟩,⟨(some 69),(.pick (.t 61) (.c (.bool true)) (.t 68)),0,none⟩] none) (.cond (.t 69) (.seq (.reg [⟨(some 4),(.mv (.c (.bool false))),0,none⟩] none) .ret) .skip)) (.seq (.reg [⟨(some 7),(.mv (.c (.int .i64 0))),0,none⟩] none) (.block 2 (.loop [7,5,6] (.seq (.seq (.reg [⟨(some 70),(.mv (.t 7)),0,none⟩,⟨(some 71),(.mv (.t 5)),0,none⟩,⟨(some 72),(.mv (.t 6)),0,none⟩,⟨(some 73),(.iaddr 10 (.t 71) (.t 72)),0,none⟩,⟨(some 74),(.faddr 7 (.t 73)),0,none⟩,⟨(some 75),(.load false [(.sl 2)] (.t 74)),0,none⟩,⟨(some 76),(.len 1 (.t 75)),0,none⟩,⟨(some 77),(.bin .num .lss (.t 70) (.t 76)),0,none⟩] none) (.cond (.t 77) .skip (.exit 2))) (.seq (.block 3 (.seq (.reg [⟨(some 80),(.mv (.t 5)),0,none⟩,⟨(some 81),(.mv (.t 6)),0,none⟩,⟨(some 82),(.iaddr 10 (.t 80) (.t 81)),0,none⟩,⟨(some 83),(.faddr 7 (.t 82)),0,none⟩,⟨(some 84),(.load false [(.sl 2)] (.t 83)),0,none⟩,⟨(some 85),(.mv (.t 7)),0,none⟩,⟨(some 86),(.iaddr 2 (.t 84) (.t 85)),0,none⟩,⟨(some 87),(.faddr 1 (.t 86)),0,none⟩,⟨(some 88),(.load false [(.sl 2)] (.t 87)),0,none⟩,⟨(some 89),(.len 1 (.t 88)),0,none⟩,⟨(some 90),(.bin .num .gtr (.t 89) (.c (.int .i64 6))),0,none⟩] none) (.cond (.t 90) (.seq (.reg [⟨(some 4),(.mv (.c (.bool false))),0,none⟩] none) .ret) .skip))) (.reg [⟨(some 78),(.mv (.t 7)),0,none⟩,⟨(some 79),(.bin .num .add (.t 78) (.c (.int .i64 1))),0,none⟩,⟨(some 7),(.mv (.t 79)),0,none⟩] none)))))))) (.reg [⟨(some 23),(.mv (.t 6)),0,none⟩,⟨(some 24),(.bin .num .add (.t 23) (.c (.int .i64 1))),0,none⟩,⟨(some 6),(.mv (.t 24)),0,none⟩] none)))))) (.seq (.reg [⟨(some 4),(.mv (.c (.bool true))),0,none⟩] none) .ret)))))
def XI:List IRes:=[(.tmp 4)]
abbrev b6e:Nat:=91
def WN:ZC:=Xi [(11,.pure (preT (fun x:Tm×Unit=>tW x.1)) (Zf (fun x:Tm×Unit=>(Yb x.1:Int)))),(12,.pure (preT (fun x:Tm×Unit=>tW x.1)) (Zf (fun x:Tm×Unit=>(ZY x.1:Int)))),(13,.pure (preT (fun x:Tm×Unit=>tW x.1)) (Zf (fun x:Tm×Unit=>Xd x.1)))]
theorem b8y{G:PV->Prop}(n:Nd)(ks:List Tm)(m:Int)(h:(Go.Pl.preT (fun(x:Tm×Unit)=>tW x.1) (BZ n ks))=true∧(∃ y0:Int,AV.pv (Zf (fun(x:Tm×Unit)=>(↑(Yb x.1):Int)) (BZ n ks))=AV.pv (enc y0)∧(if (decide (y0>12))=true then G ((.bool false))else((Go.Pl.preT (fun(x:Tm×Unit)=>tW x.1) (BZ n ks))=true∧(∃ y1:Int,AV.pv (Zf (fun(x:Tm×Unit)=>(↑(ZY x.1):Int)) (BZ n ks))=AV.pv (enc y1)∧(if (decide (y1>m))=true then G ((.bool false))else((Go.Pl.preT (fun(x:Tm×Unit)=>tW x.1) (BZ n ks))=true∧(∃ y2:List Tm,AV.pv (Zf (fun(x:Tm×Unit)=>Xd x.1) (BZ n ks))=AV.pv (enc y2)∧(At WN 0 (Za XI G) X8 0 91 [(5,(.pv (.sl 10 false (List.map enc y2)))),(6,(.pv (.int .i64 0)))] []))))))))):Zc WN 0 (Za XI G) X8 [] (Ye 91 [.agg [enc n.kind,enc n.line,enc n.name,enc n.num,enc n.elem,enc n.dims,enc n.data,enc n.sizes,enc n.ranks,enc ks],.int .i64 m]):=Zc.tp (.req (.abs (Int) (fun YY=>AV.pv (enc YY)) (.lit (.ask (.lit (.lit (.lit (.lit (.lit (.nil)))))) (.lit (.req (.abs (Int) (fun YY=>AV.pv (enc YY)) (.lit (.lit (.lit (.lit (.ask (.nil) (.req (.abs (List Tm) (fun YY=>AV.pv (enc YY)) (.nil))))))))))))))) h (by kernel_rfl)
theorem FY{G:PV->Prop}(n:Nd)(ks:List Tm)(m:Int)(i:Int)(o:List Tm)(h:if (decide (i<(↑(List.length (List.map enc o)):Int)))=true then(decide (0<=i)&&decide (Int.toNat i<List.length (List.map enc o))&&Enc.sz Tm==10)=true∧(∃ y0:Tm,AV.pv (PV.rptr (PV.cells (List.getD (List.map enc o) (Int.toNat i) default)))=AV.pv (PV.rptr (PV.cells ((enc) y0)))∧((decide (0+List.length [Sh.str]<=List.length (List.drop 2 (PV.cells (enc y0))))&&Y5 (List.drop 2 (PV.cells (enc y0))) 0 [Sh.str])=true∧(if (decide ((↑(List.length (PV.asStr (List.getD (List.drop 2 (PV.cells (enc y0))) 0 default))):Int)>40))=true then G ((.bool false))else((decide (0<=i)&&decide (Int.toNat i<List.length (List.map enc o))&&Enc.sz Tm==10)=true∧(∃ y1:Tm,AV.pv (PV.rptr (PV.cells (List.getD (List.map enc o) (Int.toNat i) default)))=AV.pv (PV.rptr (PV.cells ((enc) y1)))∧((decide (0+List.length [Sh.sl 1]<=List.length (List.drop 2 (List.drop 4 (PV.cells (enc y1)))))&&Y5 (List.drop 2 (List.drop 4 (PV.cells (enc y1)))) 0 [Sh.sl 1])=true∧(if (decide ((↑(List.length (PV.asXs (List.getD (List.drop 2 (List.drop 4 (PV.cells (enc y1)))) 0 default))):Int)>30))=true then G ((.bool false))else((decide (0<=i)&&decide (Int.toNat i<List.length (List.map enc o))&&Enc.sz Tm==10)=true∧(∃ y2:Tm,AV.pv (PV.rptr (PV.cells (List.getD (List.map enc o) (Int.toNat i) default)))=AV.pv (PV.rptr (PV.cells ((enc) y2)))∧((decide (0+List.length [Sh.sl 1]<=List.length (List.drop 1 (List.drop 4 (PV.cells (enc y2)))))&&Y5 (List.drop 1 (List.drop 4 (PV.cells (enc y2)))) 0 [Sh.sl 1])=true∧(if (decide ((↑(List.length (PV.asXs (List.getD (List.drop 1 (List.drop 4 (PV.cells (enc y2)))) 0 default))):Int)>8))=true then G ((.bool false))else((decide (0<=i)&&decide (Int.toNat i<List.length (List.map enc o))&&Enc.sz Tm==10)=true∧(∃ y3:Tm,AV.pv (PV.rptr (PV.cells (List.getD (List.map enc o) (Int.toNat i) default)))=AV.pv (PV.rptr (PV.cells ((enc) y3)))∧((decide (0+List.length [Sh.sl 2]<=List.length (List.drop 7 (PV.cells (enc y3))))&&Y5 (List.drop 7 (PV.cells (enc y3))) 0 [Sh.sl 2])=true∧(if (decide ((↑(List.length (PV.asXs (List.getD (List.drop 7 (PV.cells (enc y3))) 0 default))):Int)>6))=true then G ((.bool false))else((decide (0<=i)&&decide (Int.toNat i<List.length (List.map enc o))&&Enc.sz Tm==10)=true∧(∃ y4:Tm,AV.pv (PV.rptr (PV.cells (List.getD (List.map enc o) (Int.toNat i) default)))=AV.pv (PV.rptr (PV.cells ((enc) y4)))∧((decide (0+List.length [Sh.sl 1]<=List.length (List.drop 8 (PV.cells (enc y4))))&&Y5 (List.drop 8 (PV.cells (enc y4))) 0 [Sh.sl 1])=true∧(if (decide ((↑(List.length (PV.asXs (List.getD (List.drop 8 (PV.cells (enc y4))) 0 default))):Int)>10))=true then G ((.bool false))else(At WN 0 (Za XI G) X8 1 91 [(5,(.pv (.sl 10 false (List.map enc o)))),(6,(.pv (.int .i64 i))),(7,(.pv (.int .i64 0)))] []))))))))))))))))))))else(G ((.bool true)))):At WN 0 (Za XI G) X8 0 91 [(5,.pv (enc o)),(6,.pv (.int .i64 i))] []:=At.tp (.lit (.ask (.req (.abs (Tm) (fun YY=>AV.pv (PV.rptr (PV.cells ((enc) YY)))) (.req (.lit (.ask (.lit (.lit (.lit (.lit (.lit (.lit (.lit (.lit (.lit (.lit (.lit (.lit (.lit (.lit (.lit (.lit (.lit (.lit (.lit (.lit (.lit (.lit (.lit (.lit (.lit (.lit (.lit (.lit (.lit (.lit (.lit (.lit (.lit (.lit (.nil))))))))))))))))))))))))))))))))))) (.lit (.lit (.req (.abs (Tm) (fun YY=>AV.pv (PV.rptr (PV.cells ((enc) YY)))) (.lit (.lit (.lit (.req (.lit (.lit (.lit (.lit (.ask (.lit (.lit (.lit (.lit (.lit (.lit (.lit (.lit (.lit (.lit (.lit (.lit (.lit (.lit (.lit (.lit (.lit (.lit (.lit (.lit (.lit (.lit (.lit (.lit (.lit (.nil)))))))))))))))))))))))))) (.lit (.lit (.req (.abs (Tm) (fun YY=>AV.pv (PV.rptr (PV.cells ((enc) YY)))) (.lit (.lit (.lit (.req (.lit (.lit (.lit (.lit (.ask (.lit (.lit (.lit (.lit (.lit (.lit (.lit (.lit (.lit (.lit (.lit (.lit (.lit (.lit (.lit (.lit (.nil))))))))))))))))) (.lit (.lit (.req (.abs (Tm) (fun YY=>AV.pv (PV.rptr (PV.cells ((enc) YY)))) (.lit (.lit (.req (.lit (.lit (.lit (.lit (.ask (.lit (.lit (.lit (.lit (.lit (.lit (.lit (.lit (.nil))))))))) (.lit (.lit (.req (.abs (Tm) (fun YY=>AV.pv (PV.rptr (PV.cells ((enc) YY)))) (.lit (.lit (.req (.lit (.lit (.lit (.lit (.ask (.nil) (.nil)))))))))))))))))))))))))))))))))))))))))))))))))))))))) (.nil))) h (by kernel_rfl)
theorem OZ{G:PV->Prop}(n:Nd)(ks:List Tm)(m:Int)(i j:Int)(o:List Tm)(h:(decide (0<=i)&&decide (Int.toNat i<List.length (List.map enc o))&&Enc.sz Tm==10)=true∧(∃ y0:Tm,AV.pv (PV.rptr (PV.cells (List.getD (List.map enc o) (Int.toNat i) default)))=AV.pv (PV.rptr (PV.cells ((enc) y0)))∧((decide (0+List.length [Sh.sl 2]<=List.length (List.drop 7 (PV.cells (enc y0))))&&Y5 (List.drop 7 (PV.cells (enc y0))) 0 [Sh.sl 2])=true∧(if (decide (j<(↑(List.length (PV.asXs (List.getD (List.drop 7 (PV.cells (enc y0))) 0 default))):Int)))=true then(decide (0<=i)&&decide (Int.toNat i<List.length (List.map enc o))&&Enc.sz Tm==10)=true∧(∃ y1:Tm,AV.pv (PV.rptr (PV.cells (List.getD (List.map enc o) (Int.toNat i) default)))=AV.pv (PV.rptr (PV.cells ((enc) y1)))∧((decide (0+List.length [Sh.sl 2]<=List.length (List.drop 7 (PV.cells (enc y1))))&&Y5 (List.drop 7 (PV.cells (enc y1))) 0 [Sh.sl 2])=true∧((decide (0<=j)&&decide (Int.toNat j<List.length (PV.asXs (List.getD (List.drop 7 (PV.cells (enc y1))) 0 default)))&&2==2)=true∧((decide (0+List.length [Sh.sl 2]<=List.length (List.drop 1 (PV.cells (List.getD (PV.asXs (List.getD (List.drop 7 (PV.cells (enc y1))) 0 default)) (Int.toNat j) default))))&&Y5 (List.drop 1 (PV.cells (List.getD (PV.asXs (List.getD (List.drop 7 (PV.cells (enc y1))) 0 default)) (Int.toNat j) default))) 0 [Sh.sl 2])=true∧(if (decide ((↑(List.length (PV.asXs (List.getD (List.drop 1 (PV.cells (List.getD (PV.asXs (List.getD (List.drop 7 (PV.cells (enc y1))) 0 default)) (Int.toNat j) default))) 0 default))):Int)>6))=true then G ((.bool false))else(At WN 0 (Za XI G) X8 1 91 [(5,(.pv (.sl 10 false (List.map enc o)))),(6,(.pv (.int .i64 i))),(7,(.pv (.int .i64 (IntKind.wrap IntKind.i64 (j+1)))))] []))))))else(At WN 0 (Za XI G) X8 0 91 [(5,(.pv (.sl 10 false (List.map enc o)))),(6,(.pv (.int .i64 (IntKind.wrap IntKind.i64 (i+1)))))] []))))):At WN 0 (Za XI G) X8 1 91 [(5,.pv (enc o)),(6,.pv (.int .i64 i)),(7,.pv (.int .i64 j))] []:=At.tp (.req (.abs (Tm) (fun YY=>AV.pv (PV.rptr (PV.cells ((enc) YY)))) (.req (.lit (.ask (.req (.abs (Tm) (fun YY=>AV.pv (PV.rptr (PV.cells ((enc) YY)))) (.req (.req (.keep (.req (.lit (.ask (.nil) (.lit (.nil)))))))))) (.lit (.nil))))))) h (by kernel_rfl)
def a5u:IC:=(.seq (.reg [⟨(some 2),(.alloc (.agg [(.int .i64 0),(.int .i64 0),(.str []),(.int .i64 0),(.str []),(.sl 0 true []),(.sl 0 true []),(.sl 0 true []),(.sl 0 true []),(.sl 0 true [])])),0,none⟩] none) (.seq (.reg [⟨(some 3),(.mv (.t 0)),0,none⟩,⟨(some 4),(.build [(.int .i64 0),(.int .i64 0),(.str []),(.int .i64 0),(.str []),(.sl 0 true []),(.sl 0 true []),(.sl 0 true []),(.sl 0 true []),(.sl 0 true [])] [(0,(1,(.c (.int .i64 1)))),(2,(1,(.t 3)))]),0,none⟩,⟨none,(.store 10 (.t 2) (.t 4)),0,none⟩] none) .ret))
def a6z:List IRes:=[(.cell true 10 2)]
abbrev c4l:Nat:=5
def c2y:ZC:=Xi []
theorem c6b{G:PV->Prop}(s:List UInt8)(h:G ((.agg [(.int .i64 1),(.int .i64 0),(.str s),(.int .i64 0),(.str []),(.sl 0 true []),(.sl 0 true []),(.sl 0 true []),(.sl 0 true []),(.sl 0 true [])]))):Zc c2y 0 (Za a6z G) a5u [] (Ye 5 [.str s]):=Zc.tp (.nil) h (by kernel_rfl)
def CE:IC:=(.seq (.reg [⟨(some 4),(.alloc (.agg [(.int .i64 0),(.int .i64 0),(.str []),(.int .i64 0),(.str []),(.sl 0 true []),(.sl 0 true []),(.sl 0 true []),(.sl 0 true []),(.sl 0 true [])])),0,none⟩] none) (.seq (.reg [⟨(some 5),(.mv (.t 0)),0,none⟩,⟨(some 6),(.mv (.t 1)),0,none⟩,⟨(some 7),(.build [(.int .i64 0),(.int .i64 0),(.str []),(.int .i64 0),(.str []),(.sl 0 true []),(.sl 0 true []),(.sl 0 true []),(.sl 0 true []),(.sl 0 true [])] [(0,(1,(.c (.int .i64 6)))),(2,(1,(.t 5))),(9,(1,(.t 6)))]),0,none⟩,⟨none,(.store 10 (.t 4) (.t 7)),0,none⟩] none) .ret))
def Bb:List IRes:=[(.cell true 10 4)]
abbrev a5l:Nat:=8
def SX:ZC:=Xi []
theorem b3k{G:PV->Prop}(s:List UInt8)(l:List Tm)(h:G ((.agg [(.int .i64 6),(.int .i64 0),(.str s),(.int .i64 0),(.str []),(.sl 0 true []),(.sl 0 true []),(.sl 0 true []),(.sl 0 true []),(.sl 10 false (List.map enc l))]))):Zc SX 0 (Za Bb G) CE [] (Ye 8 [.str s,enc l]):=Zc.tp (.nil) h (by kernel_rfl)
def JL:IC:=(.seq (.reg [⟨(some 0),(.mv (.c (.bool false))),0,none⟩] none) (.seq (.reg [⟨(some 7),(.build [(.int .i64 0),(.int .i64 0),(.str []),(.int .i64 0),(.str []),(.sl 0 true []),(.sl 0 true []),(.sl 0 true []),(.sl 0 true []),(.sl 0 true [])] [(0,(1,(.c (.int .i64 2)))),(2,(1,(.c (.str [105,110,116])))),(3,(1,(.c (.int .i64 5))))]),0,none⟩,⟨(some 8),(.build [(.int .i64 0),(.int .i64 0),(.str []),(.int .i64 0),(.str []),(.sl 0 true []),(.sl 0 true []),(.sl 0 true []),(.sl 0 true []),(.sl 0 true [])] [(0,(1,(.c (.int .i64 2)))),(2,(1,(.c (.str [105,110,116])))),(3,(1,(.c (.int .i64 (-2)))))]),0,none⟩,⟨(some 1),(.alloc (.agg [(.int .i64 0),(.int .i64 0),(.str []),(.int .i64 0),(.str []),(.sl 0 true []),(.sl 0 true []),(.sl 0 true []),(.sl 0 true []),(.sl 0 true [])])),0,none⟩,⟨(some 2),(.alloc (.agg [(.int .i64 0),(.int .i64 0),(.str []),(.int .i64 0),(.str []),(.sl 0 true []),(.sl 0 true []),(.sl 0 true []),(.sl 0 true []),(.sl 0 true [])])),1,none⟩,⟨none,(.store 10 (.t 1) (.t 7)),2,none⟩,⟨none,(.store 10 (.t 2) (.t 8)),2,none⟩] none) (.seq (.reg [⟨(some 10),(.call (.c (.fn 10)) [(.c (.str [97]))]),0,none⟩,⟨(some 11),(.call (.c (.fn 10)) [(.c (.str [98]))]),2,none⟩,⟨(some 12),(.load true [(.int .i64),(.int .i64),.str,(.int .i64),.str,(.sl 1),(.sl 1),(.sl 2),(.sl 1),(.sl 10)] (.t 1)),4,none⟩,⟨(some 13),(.bslice 28 10 1 (.agg [(.int .i64 0),(.int .i64 0),(.str []),(.int .i64 0),(.str []),(.sl 0 true []),(.sl 0 true []),(.sl 0 true []),(.sl 0 true []),(.sl 0 true [])]) [(0,(.t 12))]),4,none⟩,⟨(some 14),(.call (.c (.fn 9)) [(.c (.str [110,101,103])),(.t 13)]),5,none⟩,⟨(some 15),(.bslice 28 10 2 (.agg [(.int .i64 0),(.int .i64 0),(.str []),(.int .i64 0),(.str []),(.sl 0 true []),(.sl 0 true []),(.sl 0 true []),(.sl 0 true []),(.sl 0 true [])]) [(0,(.t 11)),(1,(.t 14))]),7,none⟩,⟨(some 16),(.call (.c (.fn 9)) [(.c (.str [115,117,98])),(.t 15)]),8,none⟩,⟨(some 17),(.bslice 28 10 2 (.agg [(.int .i64 0),(.int .i64 0),(.str []),(.int .i64 0),(.str []),(.sl 0 true []),(.sl 0 true []),(.sl 0 true []),(.sl 0 true []),(.sl 0 true [])]) [(0,(.t 10)),(1,(.t 16))]),10,none⟩,⟨(some 18),(.call (.c (.fn 9)) [(.c (.str [115,117,98])),(.t 17)]),11,none⟩,⟨(some 19),(.call (.c (.fn 7)) [(.t 18)]),13,none⟩,⟨(some 9),(.mv (.t 19)),15,none⟩,⟨(some 20),(.extract (.t 9) 0),15,none⟩,⟨(some 21),(.extract (.t 9) 1),15,none⟩,⟨(some 3),(.mv (.t 20)),15,none⟩,⟨(some 4),(.mv (.t 21)),15,none⟩] (some [[],[0],[],[2],[3,1,2,0],[1,4,0,3,2],[5,4,1,0,3,2],[0,6,5,4,1,3,2],[7,6,0,5,4,1,3,2],[8,7,6,0,5,4,1,3,2],[9,8,7,6,0,5,4,1,3,2],[10,9,8,7,6,0,5,4,1,3,2],[10,9,8,7,6,0,5,4,1,3,2],[11,9,0,1,2,3,4,5,6,7,8,10],[12,13,0,1,2,3,4,5,6,7,8,9,10,11]])) (.seq (.reg [⟨(some 23),(.call (.c (.fn 10)) [(.c (.str [97]))]),0,none⟩,⟨(some 24),(.call (.c (.fn 10)) [(.c (.str [98]))]),2,none⟩,⟨(some 25),(.bslice 28 10 2 (.agg [(.int .i64 0),(.int .i64 0),(.str []),(.int .i64 0),(.str []),(.sl 0 true []),(.sl 0 true []),(.sl 0 true []),(.sl 0 true []),(.sl 0 true [])]) [(0,(.t 23)),(1,(.t 24))]),4,none⟩,⟨(some 26),(.call (.c (.fn 9)) [(.c (.str [97,100,100])),(.t 25)]),5,none⟩,⟨(some 27),(.load true [(.int .i64),(.int .i64),.str,(.int .i64),.str,(.sl 1),(.sl 1),(.sl 2),(.sl 1),(.sl 10)] (.t 2)),7,none⟩,⟨(some 28),(.bslice 28 10 2 (.agg [(.int .i64 0),(.int .i64 0),(.str []),(.int .i64 0),(.str []),(.sl 0 true []),(.sl 0 true []),(.sl 0 true []),(.sl 0 true []),(.sl 0 true [])]) [(0,(.t 26)),(1,(.t 27))]),7,none⟩,⟨(some 29),(.call (.c (.fn 9)) [(.c (.str [109,117,108])),(.t 28)]),8,none⟩,⟨(some 30),(.call (.c (.fn 7)) [(.t 29)]),10,none⟩,⟨(some 22),(.mv (.t 30)),12,none⟩,⟨(some 31),(.extract (.t 22) 0),12,none⟩,⟨(some 32),(.extract (.t 22) 1),12,none⟩,⟨(some 5),(.mv (.t 31)),12,none⟩,⟨(some 6),(.mv (.t 32)),12,none⟩] (some [[],[0],[0,1],[2,1,0],[],[3,4,2,1,0],[5,3,4,2,1,0],[6,5,3,4,2,1,0],[7,6,5,3,4,2,1,0],[8,7,6,5,3,4,2,1,0],[8,7,6,5,3,4,2,1,0],[9,7,0,1,2,3,4,5,6,8],[10,11,0,1,2,3,4,5,6,7,8,9]])) (.seq (.reg [⟨(some 33),(.mv (.t 4)),0,none⟩,⟨(some 34),(.bin .num .eql (.t 33) (.c (.int .i64 0))),0,none⟩,⟨(some 35),(.mv (.t 34)),0,none⟩,⟨(some 36),(.mv (.t 6)),0,(some (35,true))⟩,⟨(some 37),(.bin .num .eql (.t 36) (.c (.int .i64 0))),0,(some (35,true))⟩,⟨(some 38),(.pick (.t 35) (.t 37) (.c (.bool false))),0,none⟩,⟨(some 39),(.mv (.t 38)),0,none⟩,⟨(some 40),(.mv (.t 3)),0,(some (39,true))⟩,⟨(some 41),(.bin .num .eql (.t 40) (.c (.str [97,32,45,32,40,98,32,45,32,45,40,53,41,41]))),0,(some (39,true))⟩,⟨(some 42),(.pick (.t 39) (.t 41) (.c (.bool false))),0,none⟩,⟨(some 43),(.mv (.t 42)),0,none⟩,⟨(some 44),(.mv (.t 5)),0,(some (43,true))⟩,⟨(some 45),(.bin .num .eql (.t 44) (.c (.str [40,97,32,43,32,98,41,32,42,32,45,50]))),0,(some (43,true))⟩,⟨(some 46),(.pick (.t 43) (.t 45) (.c (.bool false))),0,none⟩,⟨(some 0),(.mv (.t 46)),0,none⟩] none) .ret)))))
def JS:List IRes:=[(.tmp 0)]
abbrev EO:Nat:=47
def CV:ZC:=Xi [(10,.pure (preT (fun _:Str×Unit=>true)) (Zf (fun x:Str×Unit=>vT x.1))),(9,.pure (preT (fun _:Str×List Tm×Unit=>true)) (Zf (fun x:Str×List Tm×Unit=>cT x.1 x.2.1))),(7,.pure (preT (fun x:Tm×Unit=>tW x.1)) (Zf (fun x:Tm×Unit=>XZ x.1)))]
theorem a9i{G:PV->Prop}(h : ∃ y0:Tm,AV.pv (Zf (fun(x:Str×Unit)=>vT x.1) [(.str [(97:UInt8)])])=AV.pv (enc y0)∧(∃ y1:Tm,AV.pv (Zf (fun(x:Str×Unit)=>vT x.1) [(.str [(98:UInt8)])])=AV.pv (enc y1)∧(∃ y2:Tm,AV.pv (Zf (fun(x:Str×List Tm×Unit)=>cT x.1 x.2.1) [(.str [(110:UInt8),(101:UInt8),(103:UInt8)]),(.sl 10 false [(.agg [(.int .i64 2),(.int .i64 0),(.str [(105:UInt8),(110:UInt8),(116:UInt8)]),(.int .i64 5),(.str []),(.sl 0 true []),(.sl 0 true []),(.sl 0 true []),(.sl 0 true []),(.sl 0 true [])])])])=AV.pv (enc y2)∧((List.all [enc y1,enc y2] fun(x:PV)=>List.length (PV.cells x)==10&&PV.cellsOk x)=true∧((Go.Pl.preT (fun(x:Str×List Tm×Unit)=>true) [(.str [(115:UInt8),(117:UInt8),(98:UInt8)]),(.sl 10 false [enc y1,enc y2])])=true∧(∃ y3:Tm,AV.pv (Zf (fun(x:Str×List Tm×Unit)=>cT x.1 x.2.1) [(.str [(115:UInt8),(117:UInt8),(98:UInt8)]),(.sl 10 false [enc y1,enc y2])])=AV.pv (enc y3)∧((List.all [enc y0,enc y3] fun(x:PV)=>List.length (PV.cells x)==10&&PV.cellsOk x)=true∧((Go.Pl.preT (fun(x:Str×List Tm×Unit)=>true) [(.str [(115:UInt8),(117:UInt8),(98:UInt8)]),(.sl 10 false [enc y0,enc y3])])=true∧(∃ y4:Tm,AV.pv (Zf (fun(x:Str×List Tm×Unit)=>cT x.1 x.2.1) [(.str [(115:UInt8),(117:UInt8),(98:UInt8)]),(.sl 10 false [enc y0,enc y3])])=AV.pv (enc y4)∧((Go.Pl.preT (fun(x:Tm×Unit)=>tW x.1) [enc y4])=true∧(∃ y5:Str×Int,AV.pv (Zf (fun(x:Tm×Unit)=>XZ x.1) [enc y4])=AV.pv (enc y5)∧(∃ y6:Tm,AV.pv (Zf (fun(x:Str×Unit)=>vT x.1) [(.str [(97:UInt8)])])=AV.pv (enc y6)∧(∃ y7:Tm,AV.pv (Zf (fun(x:Str×Unit)=>vT x.1) [(.str [(98:UInt8)])])=AV.pv (enc y7)∧((List.all [enc y6,enc y7] fun(x:PV)=>List.length (PV.cells x)==10&&PV.cellsOk x)=true∧((Go.Pl.preT (fun(x:Str×List Tm×Unit)=>true) [(.str [(97:UInt8),(100:UInt8),(100:UInt8)]),(.sl 10 false [enc y6,enc y7])])=true∧(∃ y8:Tm,AV.pv (Zf (fun(x:Str×List Tm×Unit)=>cT x.1 x.2.1) [(.str [(97:UInt8),(100:UInt8),(100:UInt8)]),(.sl 10 false [enc y6,enc y7])])=AV.pv (enc y8)∧((List.all [enc y8,PV.agg [PV.int .i64 2,PV.int .i64 0,PV.str [(105:UInt8),(110:UInt8),(116:UInt8)],PV.int .i64 (-2:Int),PV.str [],PV.sl 0 true [],PV.sl 0 true [],PV.sl 0 true [],PV.sl 0 true [],PV.sl 0 true []]] fun(x:PV)=>List.length (PV.cells x)==10&&PV.cellsOk x)=true∧((Go.Pl.preT (fun(x:Str×List Tm×Unit)=>true) [(.str [(109:UInt8),(117:UInt8),(108:UInt8)]),(.sl 10 false [enc y8,(.agg [(.int .i64 2),(.int .i64 0),(.str [(105:UInt8),(110:UInt8),(116:UInt8)]),(.int .i64 (-2)),(.str []),(.sl 0 true []),(.sl 0 true []),(.sl 0 true []),(.sl 0 true []),(.sl 0 true [])])])])=true∧(∃ y9:Tm,AV.pv (Zf (fun(x:Str×List Tm×Unit)=>cT x.1 x.2.1) [(.str [(109:UInt8),(117:UInt8),(108:UInt8)]),(.sl 10 false [enc y8,(.agg [(.int .i64 2),(.int .i64 0),(.str [(105:UInt8),(110:UInt8),(116:UInt8)]),(.int .i64 (-2)),(.str []),(.sl 0 true []),(.sl 0 true []),(.sl 0 true []),(.sl 0 true []),(.sl 0 true [])])])])=AV.pv (enc y9)∧((Go.Pl.preT (fun(x:Tm×Unit)=>tW x.1) [enc y9])=true∧(∃ y10:Str×Int,AV.pv (Zf (fun(x:Tm×Unit)=>XZ x.1) [enc y9])=AV.pv (enc y10)∧(if (y5.2==0)=true then if (y10.2==0)=true then if (Str.s y5.1==[(97:UInt8),(32:UInt8),(45:UInt8),(32:UInt8),(40:UInt8),(98:UInt8),(32:UInt8),(45:UInt8),(32:UInt8),(45:UInt8),(40:UInt8),(53:UInt8),(41:UInt8),(41:UInt8)])=true then G ((.bool (Str.s y10.1==[(40:UInt8),(97:UInt8),(32:UInt8),(43:UInt8),(32:UInt8),(98:UInt8),(41:UInt8),(32:UInt8),(42:UInt8),(32:UInt8),(45:UInt8),(50:UInt8)])))else(G ((.bool false)))else(G ((.bool false)))else(G ((.bool false))))))))))))))))))))))))):Zc CV 0 (Za JS G) JL [] (Ye 47 []):=Zc.tp (.lit (.abs (Tm) (fun YY=>AV.pv (enc YY)) (.lit (.abs (Tm) (fun YY=>AV.pv (enc YY)) (.lit (.lit (.lit (.abs (Tm) (fun YY=>AV.pv (enc YY)) (.req (.lit (.req (.abs (Tm) (fun YY=>AV.pv (enc YY)) (.req (.lit (.req (.abs (Tm) (fun YY=>AV.pv (enc YY)) (.req (.abs (Str×Int) (fun YY=>AV.pv (enc YY)) (.lit (.abs (Tm) (fun YY=>AV.pv (enc YY)) (.lit (.abs (Tm) (fun YY=>AV.pv (enc YY)) (.req (.lit (.req (.abs (Tm) (fun YY=>AV.pv (enc YY)) (.req (.lit (.req (.abs (Tm) (fun YY=>AV.pv (enc YY)) (.req (.abs (Str×Int) (fun YY=>AV.pv (enc YY)) (.lit (.ask (.lit (.lit (.lit (.ask (.lit (.lit (.lit (.ask (.lit (.lit (.lit (.nil)))) (.lit (.lit (.nil))))))) (.lit (.lit (.lit (.lit (.lit (.nil)))))))))) (.lit (.lit (.lit (.lit (.lit (.lit (.lit (.lit (.nil))))))))))))))))))))))))))))))))))))))))))) h (by kernel_rfl)
def VX:IC:=(.seq (.reg [⟨(some 1),(.box 10 (.t 0)),0,none⟩,⟨(some 2),(.mv (.c (.bool false))),1,none⟩] none) (.seq (.seq (.reg [⟨(some 6),(.call (.c (.fn 5)) []),0,none⟩,⟨(some 7),(.un .not (.t 6)),2,none⟩] none) (.cond (.t 7) (.seq (.reg [⟨(some 2),(.mv (.c (.bool false))),0,none⟩] none) .ret) .skip)) (.seq (.reg [⟨(some 9),(.load true [(.int .i64),(.int .i64),.str,(.int .i64),.str,(.sl 1),(.sl 1),(.sl 2),(.sl 1),(.sl 10)] (.t 1)),0,none⟩,⟨(some 10),(.call (.c (.fn 7)) [(.t 9)]),0,none⟩,⟨(some 8),(.mv (.t 10)),2,none⟩,⟨(some 11),(.extract (.t 8) 0),2,none⟩,⟨(some 12),(.extract (.t 8) 1),2,none⟩,⟨(some 3),(.mv (.t 11)),2,none⟩,⟨(some 4),(.mv (.t 12)),2,none⟩] none) (.seq (.seq (.reg [⟨(some 13),(.load true [(.int .i64),(.int .i64),.str,(.int .i64),.str,(.sl 1),(.sl 1),(.sl 2),(.sl 1),(.sl 10)] (.t 1)),0,none⟩,⟨(some 14),(.call (.c (.fn 6)) [(.t 13),(.c (.int .i64 30))]),0,none⟩,⟨(some 15),(.un .not (.t 14)),2,none⟩,⟨(some 16),(.mv (.t 15)),2,none⟩,⟨(some 17),(.mv (.t 4)),2,(some (16,false))⟩,⟨(some 18),(.bin .num .neq (.t 17) (.c (.int .i64 0))),2,(some (16,false))⟩,⟨(some 19),(.pick (.t 16) (.c (.bool true)) (.t 18)),2,none⟩] none) (.cond (.t 19) (.seq (.reg [⟨(some 2),(.mv (.c (.bool true))),0,none⟩] none) .ret) .skip)) (.seq (.seq (.reg [⟨(some 5),(.mv (.c (.int .i64 0))),0,none⟩] none) (.block 0 (.loop [5,3] (.seq (.seq (.reg [⟨(some 20),(.mv (.t 5)),0,none⟩,⟨(some 21),(.mv (.t 3)),0,none⟩,⟨(some 22),(.len 0 (.t 21)),0,none⟩,⟨(some 23),(.bin .num .lss (.t 20) (.t 22)),0,none⟩] none) (.cond (.t 23) .skip (.exit 0))) (.seq (.block 1 (.seq (.reg [⟨(some 26),(.mv (.t 3)),0,none⟩,⟨(some 27),(.mv (.t 5)),0,none⟩,⟨(some 28),(.index (.t 26) (.t 27)),0,none⟩,⟨(some 29),(.bin .num .lss (.t 28) (.c (.int .u8 32))),0,none⟩,⟨(some 30),(.mv (.t 29)),0,none⟩,⟨(some 31),(.mv (.t 3)),0,(some (30,false))⟩,⟨(some 32),(.mv (.t 5)),0,(some (30,false))⟩,⟨(some 33),(.index (.t 31) (.t 32)),0,(some (30,false))⟩,⟨(some 34),(.bin .num .gtr (.t 33) (.c (.int .u8 126))),0,(some (30,false))⟩,⟨(some 35),(.pick (.t 30) (.c (.bool true)) (.t 34)),0,none⟩,⟨(some 36),(.mv (.t 35)),0,none⟩,⟨(some 37),(.mv (.t 3)),0,(some (36,false))⟩,⟨(some 38),(.mv (.t 5)),0,(some (36,false))⟩,⟨(some 39),(.index (.t 37) (.t 38)),0,(some (36,false))⟩,⟨(some 40),(.bin .num .eql (.t 39) (.c (.int .u8 32))),0,(some (36,false))⟩,⟨(some 41),(.mv (.t 40)),0,(some (36,false))⟩,⟨(some 42),(.mv (.t 5)),0,(some (41,true))⟩,⟨(some 43),(.bin .num .eql (.t 42) (.c (.int .i64 0))),0,(some (41,true))⟩,⟨(some 44),(.mv (.t 43)),0,(some (41,true))⟩,⟨(some 45),(.mv (.t 5)),0,(some (44,false))⟩,⟨(some 46),(.mv (.t 3)),0,(some (44,false))⟩,⟨(some 47),(.len 0 (.t 46)),0,(some (44,false))⟩,⟨(some 48),(.bin .num .sub (.t 47) (.c (.int .i64 1))),0,(some (44,false))⟩,⟨(some 49),(.bin .num .eql (.t 45) (.t 48)),0,(some (44,false))⟩,⟨(some 50),(.pick (.t 44) (.c (.bool true)) (.t 49)),0,(some (41,true))⟩,⟨(some 51),(.mv (.t 50)),0,(some (41,true))⟩,⟨(some 52),(.mv (.t 3)),0,(some (51,false))⟩,⟨(some 53),(.mv (.t 5)),0,(some (51,false))⟩,⟨(some 54),(.bin .num .sub (.t 53) (.c (.int .i64 1))),0,(some (51,false))⟩,⟨(some 55),(.index (.t 52) (.t 54)),0,(some (51,false))⟩,⟨(some 56),(.bin .num .eql (.t 55) (.c (.int .u8 32))),0,(some (51,false))⟩,⟨(some 57),(.pick (.t 51) (.c (.bool true)) (.t 56)),0,(some (41,true))⟩,⟨(some 58),(.pick (.t 41) (.t 57) (.c (.bool false))),0,(some (36,false))⟩,⟨(some 59),(.pick (.t 36) (.c (.bool true)) (.t 58)),0,none⟩] none) (.cond (.t 59) (.seq (.reg [⟨(some 2),(.mv (.c (.bool false))),0,none⟩] none) .ret) .skip))) (.reg [⟨(some 24),(.mv (.t 5)),0,none⟩,⟨(some 25),(.bin .num .add (.t 24) (.c (.int .i64 1))),0,none⟩,⟨(some 5),(.mv (.t 25)),0,none⟩] none)))))) (.seq (.reg [⟨(some 60),(.mv (.t 3)),0,none⟩,⟨(some 61),(.bin .num .neq (.t 60) (.c (.str []))),0,none⟩,⟨(some 2),(.mv (.t 61)),0,none⟩] none) .ret))))))
def VV:List IRes:=[(.tmp 2)]
abbrev b4t:Nat:=62
def Qw:ZC:=Xi [(5,.pure (preT (fun _:Unit=>true)) (Zf (fun _:Unit=>true))),(7,.pure (preT (fun x:Tm×Unit=>tW x.1)) (Zf (fun x:Tm×Unit=>XZ x.1))),(6,.pure (preT (fun x:Tm×Int×Unit=>tW x.1)) (Zf (fun x:Tm×Int×Unit=>KS x.1 x.2.1)))]
theorem b9t{G:PV->Prop}(n:Nd)(ks:List Tm)(h : ∃ y0:Bool,AV.pv (Zf (fun(x:Unit)=>true) [])=AV.pv (enc y0)∧(if (!y0)=true then G ((.bool false))else((Go.Pl.preT (fun(x:Tm×Unit)=>tW x.1) (BZ n ks))=true∧(∃ y1:Str×Int,AV.pv (Zf (fun(x:Tm×Unit)=>XZ x.1) (BZ n ks))=AV.pv (enc y1)∧((Go.Pl.preT (fun(x:Tm×Int×Unit)=>tW x.1) [(.agg [(.int .i64 (Nd.kind n)),(.int .i64 (Nd.line n)),(.str (Str.s (Nd.name n))),(.int .i64 (Nd.num n)),(.str (Str.s (Nd.elem n))),(.sl 1 false (List.map enc (Nd.dims n))),(.sl 1 false (List.map enc (Nd.data n))),(.sl 2 false (List.map enc (Nd.sizes n))),(.sl 1 false (List.map enc (Nd.ranks n))),(.sl 10 false (List.map enc ks))]),(.int .i64 30)])=true∧(∃ y2:Bool,AV.pv (Zf (fun(x:Tm×Int×Unit)=>KS x.1 x.2.1) [(.agg [(.int .i64 (Nd.kind n)),(.int .i64 (Nd.line n)),(.str (Str.s (Nd.name n))),(.int .i64 (Nd.num n)),(.str (Str.s (Nd.elem n))),(.sl 1 false (List.map enc (Nd.dims n))),(.sl 1 false (List.map enc (Nd.data n))),(.sl 2 false (List.map enc (Nd.sizes n))),(.sl 1 false (List.map enc (Nd.ranks n))),(.sl 10 false (List.map enc ks))]),(.int .i64 30)])=AV.pv (enc y2)∧(if (!y2)=true then G ((.bool true))else(if (y1.2 != 0)=true then G ((.bool true))else(At Qw 0 (Za VV G) VX 0 62 [(3,(.pv (.str (Str.s y1.1)))),(5,(.pv (.int .i64 0)))] []))))))))):Zc Qw 0 (Za VV G) VX [] (Ye 62 [.agg [enc n.kind,enc n.line,enc n.name,enc n.num,enc n.elem,enc n.dims,enc n.data,enc n.sizes,enc n.ranks,enc ks]]):=Zc.tp (.lit (.abs (Bool) (fun YY=>AV.pv (enc YY)) (.ask (.nil) (.req (.abs (Str×Int) (fun YY=>AV.pv (enc YY)) (.req (.abs (Bool) (fun YY=>AV.pv (enc YY)) (.ask (.lit (.lit (.lit (.nil)))) (.lit (.lit (.lit (.ask (.nil) (.nil))))))))))))) h (by kernel_rfl)
theorem OO{G:PV->Prop}(n:Nd)(ks:List Tm)(s:List UInt8)(i:Int)(h:if (decide (i<(↑(List.length s):Int)))=true then(decide (0<=i)&&decide (Int.toNat i<List.length s))=true∧(if (decide ((↑(UInt8.toNat (List.getD s (Int.toNat i) (0:UInt8))):Int)<32))=true then G ((.bool false))else((decide (0<=i)&&decide (Int.toNat i<List.length s))=true∧(if (decide ((↑(UInt8.toNat (List.getD s (Int.toNat i) (0:UInt8))):Int)>126))=true then G ((.bool false))else((decide (0<=i)&&decide (Int.toNat i<List.length s))=true∧(if ((↑(UInt8.toNat (List.getD s (Int.toNat i) (0:UInt8))):Int)==32)=true then if (i==0)=true then G ((.bool false))else(if (i==IntKind.wrap IntKind.i64 ((↑(List.length s):Int) - 1))=true then G ((.bool false))else((decide (0<=IntKind.wrap IntKind.i64 (i - 1))&&decide (Int.toNat (IntKind.wrap IntKind.i64 (i - 1))<List.length s))=true∧(if ((↑(UInt8.toNat (List.getD s (Int.toNat (IntKind.wrap IntKind.i64 (i - 1))) (0:UInt8))):Int)==32)=true then G ((.bool false))else(At Qw 0 (Za VV G) VX 0 62 [(3,(.pv (.str s))),(5,(.pv (.int .i64 (IntKind.wrap IntKind.i64 (i+1)))))] []))))else(At Qw 0 (Za VV G) VX 0 62 [(3,(.pv (.str s))),(5,(.pv (.int .i64 (IntKind.wrap IntKind.i64 (i+1)))))] []))))))else(G ((.bool (!s==[]))))):At Qw 0 (Za VV G) VX 0 62 [(3,.pv (.str s)),(5,.pv (.int .i64 i))] []:=At.tp (.lit (.ask (.req (.lit (.ask (.lit (.lit (.lit (.lit (.lit (.lit (.lit (.lit (.lit (.lit (.lit (.lit (.nil))))))))))))) (.lit (.lit (.req (.lit (.lit (.lit (.ask (.lit (.lit (.lit (.lit (.lit (.lit (.lit (.nil)))))))) (.lit (.lit (.req (.lit (.lit (.lit (.ask (.lit (.lit (.lit (.ask (.lit (.lit (.lit (.lit (.lit (.lit (.lit (.lit (.lit (.lit (.lit (.lit (.lit (.lit (.lit (.lit (.lit (.lit (.nil))))))))))))))))))) (.lit (.lit (.lit (.lit (.lit (.lit (.lit (.lit (.lit (.ask (.lit (.lit (.lit (.lit (.lit (.lit (.lit (.lit (.lit (.lit (.nil))))))))))) (.lit (.lit (.lit (.lit (.req (.lit (.lit (.lit (.lit (.lit (.lit (.lit (.ask (.nil) (.lit (.nil))))))))))))))))))))))))))))) (.lit (.lit (.lit (.lit (.lit (.lit (.lit (.lit (.lit (.lit (.nil)))))))))))))))))))))))))))) (.lit (.nil)))) h (by kernel_rfl)
end Go.Pl

namespace Go.Pl
open Go.RowKit
open Enc (enc dec is)
open EncL (encL decL isL)
set_option maxRecDepth 100000
def Qd:IC:=(.seq (.reg [⟨(some 4),(.mv (.c (.str []))),0,none⟩] none) (.seq (.reg [⟨(some 8),(.mv (.t 0)),0,none⟩,⟨(some 9),(.len 1 (.t 8)),0,none⟩,⟨(some 10),(.mksl 9 1 16 (.str []) (.t 9) (.t 9)),0,none⟩,⟨(some 5),(.mv (.t 10)),1,none⟩] none) (.seq (.seq (.reg [⟨(some 11),(.mv (.t 0)),0,none⟩,⟨(some 12),(.len 1 (.t 11)),0,none⟩,⟨(some 13),(.mv (.c (.int .i64 0))),0,none⟩] none) (.block 0 (.loop [13,12,11,5,1] (.seq (.reg [⟨(some 14),(.bin .num .lss (.t 13) (.t 12)),0,none⟩] none) (.seq (.cond (.t 14) .skip (.exit 0)) (.seq (.block 1 (.seq (.reg [⟨(some 15),(.mv (.t 13)),0,none⟩,⟨(some 16),(.iaddr 10 (.t 11) (.t 13)),0,none⟩,⟨(some 17),(.load true [(.int .i64),(.int .i64),.str,(.int .i64),.str,(.sl 1),(.sl 1),(.sl 2),(.sl 1),(.sl 10)] (.t 16)),0,none⟩,⟨(some 7),(.alloc (.agg [(.int .i64 0),(.int .i64 0),(.str []),(.int .i64 0),(.str []),(.sl 0 true []),(.sl 0 true []),(.sl 0 true []),(.sl 0 true []),(.sl 0 true [])])),0,none⟩,⟨(some 6),(.mv (.t 15)),1,none⟩,⟨none,(.store 10 (.t 7) (.t 17)),1,none⟩] none) (.reg [⟨(some 18),(.mv (.t 5)),0,none⟩,⟨(some 19),(.mv (.t 6)),0,none⟩,⟨(some 20),(.mv (.t 1)),0,none⟩,⟨(some 21),(.load true [(.int .i64),(.int .i64),.str,(.int .i64),.str,(.sl 1),(.sl 1),(.sl 2),(.sl 1),(.sl 10)] (.t 7)),0,none⟩,⟨(some 22),(.call (.t 20) [(.t 21)]),0,none⟩,⟨(some 23),(.iaddr 1 (.t 18) (.t 19)),2,none⟩,⟨none,(.store 1 (.t 23) (.t 22)),2,none⟩] none))) (.reg [⟨(some 24),(.bin .num .add (.t 13) (.c (.int .i64 1))),0,none⟩,⟨(some 13),(.mv (.t 24)),0,none⟩] none))))))) (.seq (.reg [⟨(some 25),(.mv (.t 5)),0,none⟩,⟨(some 26),(.call (.c (.fn 28)) [(.t 25)]),0,none⟩,⟨(some 4),(.mv (.t 26)),2,none⟩] none) .ret))))
def UE:List IRes:=[(.tmp 4)]
abbrev b6t:Nat:=27
def KI(N:Nat):ZC:=Xi [(16,.pure (preT (fun x:Tm×Unit=>(tW x.1&&YJ x.1)&&decide (Yb x.1<N))) (Zf (fun x:Tm×Unit=>Zr x.1))),(28,.pure (preT (fun x:List Str×Unit=>Y8 x.1)) (Zf (fun x:List Str×Unit=>Yi x.1)))]
theorem c2i{G:PV->Prop}(N:Nat)(l:List Tm)(h:(decide (0<=(↑(List.length (List.map enc l)):Int))&&(↑(List.length (List.map enc l)):Int)==(↑(List.length (List.map enc l)):Int)&&decide ((↑(List.length (List.map enc l)):Int)*(↑16:Int)<=1099511627776)&&decide ((↑(List.length (List.map enc l)):Int)<=1099511627776))=true∧(At (KI N) 0 (Za UE G) Qd 0 27 [(1,(.pv (.fn 16))),(5,(.row 0 (Int.toNat (↑(List.length (List.map enc l)):Int)) 0 (Int.toNat (↑(List.length (List.map enc l)):Int)))),(11,(.pv (.sl 10 false (List.map enc l)))),(12,(.pv (.int .i64 (↑(List.length (List.map enc l)):Int)))),(13,(.pv (.int .i64 0)))] [(.obj (.row false 9 1 (List.replicate (Int.toNat (↑(List.length (List.map enc l)):Int)) (PV.str []))))])):Zc (KI N) 0 (Za UE G) Qd [] (Ye 27 [enc l,.fn 16]):=Zc.tp (.req (.nil)) h (by kernel_rfl)
theorem FL{G:PV->Prop}(N:Nat)(l:List Tm)(i:Int)(o:List Str)(h:if (decide (i<(↑(List.length l):Int)))=true then(decide (0<=i)&&decide (Int.toNat i<List.length (List.map enc l))&&Enc.sz Tm==10)=true∧(∃ y0:Tm,AV.pv (PV.rptr (PV.cells (List.getD (List.map enc l) (Int.toNat i) default)))=AV.pv (PV.rptr (PV.cells ((enc) y0)))∧(NG y0=true∧((Go.Pl.preT (fun(x:Tm×Unit)=>tW x.1&&YJ x.1&&decide (Yb x.1<N)) (Qg y0))=true∧(∃ y1:Str,AV.pv (Zf (fun(x:Tm×Unit)=>Zr x.1) (Qg y0))=AV.pv (enc y1)∧((decide (0<=i)&&decide (0+Int.toNat i<List.length l)&&List.length (List.map enc o)==List.length l)=true∧((List.length (List.map enc o)==List.length l&&decide (0+Int.toNat i<List.length (List.map enc o))&&List.length (PV.cells (enc y1))==1&&decide (0+1<=List.length (PV.cells (List.getD (List.map enc o) (0+Int.toNat i) default)))&&PV.cellsOk (enc y1))=true∧(At (KI N) 0 (Za UE G) Qd 0 27 [(1,(.pv (.fn 16))),(5,(.row 0 (List.length l) 0 (List.length l))),(11,(.pv (.sl 10 false (List.map enc l)))),(12,(.pv (.int .i64 (↑(List.length l):Int)))),(13,(.pv (.int .i64 (IntKind.wrap IntKind.i64 (i+1)))))] [(.obj (.row false 9 1 (List.set (List.map enc o) (0+Int.toNat i) (PV.withCells (List.getD (List.map enc o) (0+Int.toNat i) default) (splice (PV.cells (List.getD (List.map enc o) (0+Int.toNat i) default)) 0 (PV.cells (enc y1)))))))])))))))else((List.length (List.map enc o)==List.length l)=true∧((Go.Pl.preT (fun(x:List Str×Unit)=>Y8 x.1) [(.sl 1 false (List.drop 0 (List.take (List.length l) (List.map enc o))))])=true∧(∃ y2:Str,AV.pv (Zf (fun(x:List Str×Unit)=>Yi x.1) [(.sl 1 false (List.drop 0 (List.take (List.length l) (List.map enc o))))])=AV.pv (enc y2)∧(G ((.str (Str.s y2)))))))):At (KI N) 0 (Za UE G) Qd 0 27 [(1,.pv (.fn 16)),(5,.row 0 l.length 0 l.length),(11,.pv (enc l)),(12,.pv (.int .i64 l.length)),(13,.pv (.int .i64 i))] [.obj (.row false 9 1 (o.map enc))]:=At.tp (.lit (.ask (.req (.abs (Tm) (fun YY=>AV.pv (PV.rptr (PV.cells ((enc) YY)))) (.req (.req (.abs (Str) (fun YY=>AV.pv (enc YY)) (.req (.keep (.req (.lit (.nil)))))))))) (.req (.req (.abs (Str) (fun YY=>AV.pv (enc YY)) (.nil)))))) h (by kernel_rfl)
def Cr:IC:=(.seq (.reg [⟨(some 1),(.box 10 (.t 0)),0,none⟩,⟨(some 2),(.mv (.c (.str []))),1,none⟩] none) (.seq (.reg [⟨(some 4),(.faddr 2 (.t 1)),0,none⟩,⟨(some 5),(.load false [.str] (.t 4)),0,none⟩,⟨(some 3),(.mv (.t 5)),0,none⟩] none) (.seq (.seq (.reg [⟨(some 6),(.faddr 7 (.t 1)),0,none⟩,⟨(some 7),(.load false [(.sl 2)] (.t 6)),0,none⟩,⟨(some 8),(.len 1 (.t 7)),0,none⟩,⟨(some 9),(.bin .num .gtr (.t 8) (.c (.int .i64 0))),0,none⟩] none) (.cond (.t 9) (.reg [⟨(some 10),(.mv (.t 3)),0,none⟩,⟨(some 11),(.faddr 7 (.t 1)),0,none⟩,⟨(some 12),(.load false [(.sl 2)] (.t 11)),0,none⟩,⟨(some 13),(.call (.c (.fn 53)) [(.t 12),(.c (.fn 29))]),0,none⟩,⟨(some 14),(.bin .num .add (.c (.str [91])) (.t 13)),2,none⟩,⟨(some 15),(.bin .num .add (.t 14) (.c (.str [93]))),2,none⟩,⟨(some 16),(.bin .num .add (.t 10) (.t 15)),2,none⟩,⟨(some 3),(.mv (.t 16)),2,none⟩] none) .skip)) (.seq (.seq (.reg [⟨(some 17),(.faddr 3 (.t 1)),0,none⟩,⟨(some 18),(.load false [(.int .i64)] (.t 17)),0,none⟩,⟨(some 19),(.bin .num .neq (.t 18) (.c (.int .i64 0))),0,none⟩] none) (.cond (.t 19) (.reg [⟨(some 20),(.mv (.t 3)),0,none⟩,⟨(some 21),(.faddr 3 (.t 1)),0,none⟩,⟨(some 22),(.load false [(.int .i64)] (.t 21)),0,none⟩,⟨(some 23),(.call (.c (.fn 51)) [(.t 22)]),0,none⟩,⟨(some 24),(.bin .num .add (.c (.str [123])) (.t 23)),2,none⟩,⟨(some 25),(.bin .num .add (.t 24) (.c (.str [125]))),2,none⟩,⟨(some 26),(.bin .num .add (.t 20) (.t 25)),2,none⟩,⟨(some 3),(.mv (.t 26)),2,none⟩] none) .skip)) (.seq (.seq (.reg [⟨(some 27),(.faddr 8 (.t 1)),0,none⟩,⟨(some 28),(.load false [(.sl 1)] (.t 27)),0,none⟩,⟨(some 29),(.len 1 (.t 28)),0,none⟩,⟨(some 30),(.bin .num .gtr (.t 29) (.c (.int .i64 0))),0,none⟩] none) (.cond (.t 30) (.reg [⟨(some 31),(.mv (.t 3)),0,none⟩,⟨(some 32),(.faddr 8 (.t 1)),0,none⟩,⟨(some 33),(.load false [(.sl 1)] (.t 32)),0,none⟩,⟨(some 34),(.call (.c (.fn 54)) [(.t 33),(.c (.fn 51))]),0,none⟩,⟨(some 35),(.bin .num .add (.c (.str [64,40])) (.t 34)),2,none⟩,⟨(some 36),(.bin .num .add (.t 35) (.c (.str [41]))),2,none⟩,⟨(some 37),(.bin .num .add (.t 31) (.t 36)),2,none⟩,⟨(some 3),(.mv (.t 37)),2,none⟩] none) .skip)) (.seq (.reg [⟨(some 38),(.mv (.t 3)),0,none⟩,⟨(some 39),(.bin .num .add (.t 38) (.c (.str [40]))),0,none⟩,⟨(some 40),(.faddr 9 (.t 1)),0,none⟩,⟨(some 41),(.load false [(.sl 10)] (.t 40)),0,none⟩,⟨(some 42),(.call (.c (.fn 27)) [(.t 41),(.c (.fn 16))]),0,none⟩,⟨(some 43),(.bin .num .add (.t 39) (.t 42)),2,none⟩,⟨(some 44),(.bin .num .add (.t 43) (.c (.str [41]))),2,none⟩,⟨(some 2),(.mv (.t 44)),2,none⟩] none) .ret))))))
def K6:List IRes:=[(.tmp 2)]
abbrev a5f:Nat:=45
def Gy(N:Nat):ZC:=Xi [(53,.pure (preT (fun x:List Lin×FnV 29×Unit=>decide (x.1.length<=1048576)&&x.1.all Zw)) (Zf (fun x:List Lin×FnV 29×Unit=>Yi (x.1.map Yx)))),(51,.pure (preT (fun x:Int×Unit=>decide (-9223372036854775808<=x.1)&&decide (x.1<=9223372036854775807))) (Zf (fun x:Int×Unit=>ZI x.1))),(54,.pure (preT (fun x:List Int×FnV 51×Unit=>decide (x.1.length<=1048576)&&XP x.1)) (Zf (fun x:List Int×FnV 51×Unit=>Yi (x.1.map ZI)))),(27,.pure (preT (fun x:List Tm×FnV 16×Unit=>(NE x.1&&Xc x.1)&&decide (ZP x.1<N))) (Zf (fun x:List Tm×FnV 16×Unit=>Yi (x.1.map Zr))))]
theorem b2b{G:PV->Prop}(N:Nat)(n:Nd)(ks:List Tm)(h:if (decide ((↑(List.length (List.map enc (Nd.sizes n))):Int)>0))=true then(Go.Pl.preT (fun(x:List Lin×FnV 29×Unit)=>decide (List.length x.1<=1048576)&&List.all x.1 Zw) [(.sl 2 false (List.map enc (Nd.sizes n))),(.fn 29)])=true∧(∃ y0:Str,AV.pv (Zf (fun(x:List Lin×FnV 29×Unit)=>Yi (List.map Yx x.1)) [(.sl 2 false (List.map enc (Nd.sizes n))),(.fn 29)])=AV.pv (enc y0)∧((decide (List.length [(91:UInt8)]+List.length (Str.s y0)<=1099511627776))=true∧((decide (List.length ([(91:UInt8)]++Str.s y0)+List.length [(93:UInt8)]<=1099511627776))=true∧((decide (List.length (Str.s (Nd.name n))+List.length ([(91:UInt8)]++Str.s y0++[(93:UInt8)])<=1099511627776))=true∧(if (Nd.num n != 0)=true then(Go.Pl.preT (fun(x:Int×Unit)=>decide ((-9223372036854775808:Int)<=x.1)&&decide (x.1<=9223372036854775807)) [(.int .i64 (Nd.num n))])=true∧(∃ y1:Str,AV.pv (Zf (fun(x:Int×Unit)=>ZI x.1) [(.int .i64 (Nd.num n))])=AV.pv (enc y1)∧((decide (List.length [(123:UInt8)]+List.length (Str.s y1)<=1099511627776))=true∧((decide (List.length ([(123:UInt8)]++Str.s y1)+List.length [(125:UInt8)]<=1099511627776))=true∧((decide (List.length (Str.s (Nd.name n)++([(91:UInt8)]++Str.s y0++[(93:UInt8)]))+List.length ([(123:UInt8)]++Str.s y1++[(125:UInt8)])<=1099511627776))=true∧(if (decide ((↑(List.length (List.map enc (Nd.ranks n))):Int)>0))=true then(Go.Pl.preT (fun(x:List Int×FnV 51×Unit)=>decide (List.length x.1<=1048576)&&XP x.1) [(.sl 1 false (List.map enc (Nd.ranks n))),(.fn 51)])=true∧(∃ y2:Str,AV.pv (Zf (fun(x:List Int×FnV 51×Unit)=>Yi (List.map ZI x.1)) [(.sl 1 false (List.map enc (Nd.ranks n))),(.fn 51)])=AV.pv (enc y2)∧((decide (List.length [(64:UInt8),(40:UInt8)]+List.length (Str.s y2)<=1099511627776))=true∧((decide (List.length ([(64:UInt8),(40:UInt8)]++Str.s y2)+List.length [(41:UInt8)]<=1099511627776))=true∧((decide (List.length (Str.s (Nd.name n)++([(91:UInt8)]++Str.s y0++[(93:UInt8)])++([(123:UInt8)]++Str.s y1++[(125:UInt8)]))+List.length ([(64:UInt8),(40:UInt8)]++Str.s y2++[(41:UInt8)])<=1099511627776))=true∧((decide (List.length (Str.s (Nd.name n)++([(91:UInt8)]++Str.s y0++[(93:UInt8)])++([(123:UInt8)]++Str.s y1++[(125:UInt8)])++([(64:UInt8),(40:UInt8)]++Str.s y2++[(41:UInt8)]))+List.length [(40:UInt8)]<=1099511627776))=true∧((Go.Pl.preT (fun(x:List Tm×FnV 16×Unit)=>NE x.1&&Xc x.1&&decide (ZP x.1<N)) [(.sl 10 false (List.map enc ks)),(.fn 16)])=true∧(∃ y3:Str,AV.pv (Zf (fun(x:List Tm×FnV 16×Unit)=>Yi (List.map Zr x.1)) [(.sl 10 false (List.map enc ks)),(.fn 16)])=AV.pv (enc y3)∧((decide (List.length (Str.s (Nd.name n)++([(91:UInt8)]++Str.s y0++[(93:UInt8)])++([(123:UInt8)]++Str.s y1++[(125:UInt8)])++([(64:UInt8),(40:UInt8)]++Str.s y2++[(41:UInt8)])++[(40:UInt8)])+List.length (Str.s y3)<=1099511627776))=true∧((decide (List.length (Str.s (Nd.name n)++([(91:UInt8)]++Str.s y0++[(93:UInt8)])++([(123:UInt8)]++Str.s y1++[(125:UInt8)])++([(64:UInt8),(40:UInt8)]++Str.s y2++[(41:UInt8)])++[(40:UInt8)]++Str.s y3)+List.length [(41:UInt8)]<=1099511627776))=true∧(G ((.str (Str.s (Nd.name n)++([(91:UInt8)]++Str.s y0++[(93:UInt8)])++([(123:UInt8)]++Str.s y1++[(125:UInt8)])++([(64:UInt8),(40:UInt8)]++Str.s y2++[(41:UInt8)])++[(40:UInt8)]++Str.s y3++[(41:UInt8)])))))))))))))else((decide (List.length (Str.s (Nd.name n)++([(91:UInt8)]++Str.s y0++[(93:UInt8)])++([(123:UInt8)]++Str.s y1++[(125:UInt8)]))+List.length [(40:UInt8)]<=1099511627776))=true∧((Go.Pl.preT (fun(x:List Tm×FnV 16×Unit)=>NE x.1&&Xc x.1&&decide (ZP x.1<N)) [(.sl 10 false (List.map enc ks)),(.fn 16)])=true∧(∃ y4:Str,AV.pv (Zf (fun(x:List Tm×FnV 16×Unit)=>Yi (List.map Zr x.1)) [(.sl 10 false (List.map enc ks)),(.fn 16)])=AV.pv (enc y4)∧((decide (List.length (Str.s (Nd.name n)++([(91:UInt8)]++Str.s y0++[(93:UInt8)])++([(123:UInt8)]++Str.s y1++[(125:UInt8)])++[(40:UInt8)])+List.length (Str.s y4)<=1099511627776))=true∧((decide (List.length (Str.s (Nd.name n)++([(91:UInt8)]++Str.s y0++[(93:UInt8)])++([(123:UInt8)]++Str.s y1++[(125:UInt8)])++[(40:UInt8)]++Str.s y4)+List.length [(41:UInt8)]<=1099511627776))=true∧(G ((.str (Str.s (Nd.name n)++([(91:UInt8)]++Str.s y0++[(93:UInt8)])++([(123:UInt8)]++Str.s y1++[(125:UInt8)])++[(40:UInt8)]++Str.s y4++[(41:UInt8)]))))))))))))))else(if (decide ((↑(List.length (List.map enc (Nd.ranks n))):Int)>0))=true then(Go.Pl.preT (fun(x:List Int×FnV 51×Unit)=>decide (List.length x.1<=1048576)&&XP x.1) [(.sl 1 false (List.map enc (Nd.ranks n))),(.fn 51)])=true∧(∃ y5:Str,AV.pv (Zf (fun(x:List Int×FnV 51×Unit)=>Yi (List.map ZI x.1)) [(.sl 1 false (List.map enc (Nd.ranks n))),(.fn 51)])=AV.pv (enc y5)∧((decide (List.length [(64:UInt8),(40:UInt8)]+List.length (Str.s y5)<=1099511627776))=true∧((decide (List.length ([(64:UInt8),(40:UInt8)]++Str.s y5)+List.length [(41:UInt8)]<=1099511627776))=true∧((decide (List.length (Str.s (Nd.name n)++([(91:UInt8)]++Str.s y0++[(93:UInt8)]))+List.length ([(64:UInt8),(40:UInt8)]++Str.s y5++[(41:UInt8)])<=1099511627776))=true∧((decide (List.length (Str.s (Nd.name n)++([(91:UInt8)]++Str.s y0++[(93:UInt8)])++([(64:UInt8),(40:UInt8)]++Str.s y5++[(41:UInt8)]))+List.length [(40:UInt8)]<=1099511627776))=true∧((Go.Pl.preT (fun(x:List Tm×FnV 16×Unit)=>NE x.1&&Xc x.1&&decide (ZP x.1<N)) [(.sl 10 false (List.map enc ks)),(.fn 16)])=true∧(∃ y6:Str,AV.pv (Zf (fun(x:List Tm×FnV 16×Unit)=>Yi (List.map Zr x.1)) [(.sl 10 false (List.map enc ks)),(.fn 16)])=AV.pv (enc y6)∧((decide (List.length (Str.s (Nd.name n)++([(91:UInt8)]++Str.s y0++[(93:UInt8)])++([(64:UInt8),(40:UInt8)]++Str.s y5++[(41:UInt8)])++[(40:UInt8)])+List.length (Str.s y6)<=1099511627776))=true∧((decide (List.length (Str.s (Nd.name n)++([(91:UInt8)]++Str.s y0++[(93:UInt8)])++([(64:UInt8),(40:UInt8)]++Str.s y5++[(41:UInt8)])++[(40:UInt8)]++Str.s y6)+List.length [(41:UInt8)]<=1099511627776))=true∧(G ((.str (Str.s (Nd.name n)++([(91:UInt8)]++Str.s y0++[(93:UInt8)])++([(64:UInt8),(40:UInt8)]++Str.s y5++[(41:UInt8)])++[(40:UInt8)]++Str.s y6++[(41:UInt8)])))))))))))))else((decide (List.length (Str.s (Nd.name n)++([(91:UInt8)]++Str.s y0++[(93:UInt8)]))+List.length [(40:UInt8)]<=1099511627776))=true∧((Go.Pl.preT (fun(x:List Tm×FnV 16×Unit)=>NE x.1&&Xc x.1&&decide (ZP x.1<N)) [(.sl 10 false (List.map enc ks)),(.fn 16)])=true∧(∃ y7:Str,AV.pv (Zf (fun(x:List Tm×FnV 16×Unit)=>Yi (List.map Zr x.1)) [(.sl 10 false (List.map enc ks)),(.fn 16)])=AV.pv (enc y7)∧((decide (List.length (Str.s (Nd.name n)++([(91:UInt8)]++Str.s y0++[(93:UInt8)])++[(40:UInt8)])+List.length (Str.s y7)<=1099511627776))=true∧((decide (List.length (Str.s (Nd.name n)++([(91:UInt8)]++Str.s y0++[(93:UInt8)])++[(40:UInt8)]++Str.s y7)+List.length [(41:UInt8)]<=1099511627776))=true∧(G ((.str (Str.s (Nd.name n)++([(91:UInt8)]++Str.s y0++[(93:UInt8)])++[(40:UInt8)]++Str.s y7++[(41:UInt8)])))))))))))))))else(if (Nd.num n != 0)=true then(Go.Pl.preT (fun(x:Int×Unit)=>decide ((-9223372036854775808:Int)<=x.1)&&decide (x.1<=9223372036854775807)) [(.int .i64 (Nd.num n))])=true∧(∃ y8:Str,AV.pv (Zf (fun(x:Int×Unit)=>ZI x.1) [(.int .i64 (Nd.num n))])=AV.pv (enc y8)∧((decide (List.length [(123:UInt8)]+List.length (Str.s y8)<=1099511627776))=true∧((decide (List.length ([(123:UInt8)]++Str.s y8)+List.length [(125:UInt8)]<=1099511627776))=true∧((decide (List.length (Str.s (Nd.name n))+List.length ([(123:UInt8)]++Str.s y8++[(125:UInt8)])<=1099511627776))=true∧(if (decide ((↑(List.length (List.map enc (Nd.ranks n))):Int)>0))=true then(Go.Pl.preT (fun(x:List Int×FnV 51×Unit)=>decide (List.length x.1<=1048576)&&XP x.1) [(.sl 1 false (List.map enc (Nd.ranks n))),(.fn 51)])=true∧(∃ y9:Str,AV.pv (Zf (fun(x:List Int×FnV 51×Unit)=>Yi (List.map ZI x.1)) [(.sl 1 false (List.map enc (Nd.ranks n))),(.fn 51)])=AV.pv (enc y9)∧((decide (List.length [(64:UInt8),(40:UInt8)]+List.length (Str.s y9)<=1099511627776))=true∧((decide (List.length ([(64:UInt8),(40:UInt8)]++Str.s y9)+List.length [(41:UInt8)]<=1099511627776))=true∧((decide (List.length (Str.s (Nd.name n)++([(123:UInt8)]++Str.s y8++[(125:UInt8)]))+List.length ([(64:UInt8),(40:UInt8)]++Str.s y9++[(41:UInt8)])<=1099511627776))=true∧((decide (List.length (Str.s (Nd.name n)++([(123:UInt8)]++Str.s y8++[(125:UInt8)])++([(64:UInt8),(40:UInt8)]++Str.s y9++[(41:UInt8)]))+List.length [(40:UInt8)]<=1099511627776))=true∧((Go.Pl.preT (fun(x:List Tm×FnV 16×Unit)=>NE x.1&&Xc x.1&&decide (ZP x.1<N)) [(.sl 10 false (List.map enc ks)),(.fn 16)])=true∧(∃ y10:Str,AV.pv (Zf (fun(x:List Tm×FnV 16×Unit)=>Yi (List.map Zr x.1)) [(.sl 10 false (List.map enc ks)),(.fn 16)])=AV.pv (enc y10)∧((decide (List.length (Str.s (Nd.name n)++([(123:UInt8)]++Str.s y8++[(125:UInt8)])++([(64:UInt8),(40:UInt8)]++Str.s y9++[(41:UInt8)])++[(40:UInt8)])+List.length (Str.s y10)<=1099511627776))=true∧((decide (List.length (Str.s (Nd.name n)++([(123:UInt8)]++Str.s y8++[(125:UInt8)])++([(64:UInt8),(40:UInt8)]++Str.s y9++[(41:UInt8)])++[(40:UInt8)]++Str.s y10)+List.length [(41:UInt8)]<=1099511627776))=true∧(G ((.str (Str.s (Nd.name n)++([(123:UInt8)]++Str.s y8++[(125:UInt8)])++([(64:UInt8),(40:UInt8)]++Str.s y9++[(41:UInt8)])++[(40:UInt8)]++Str.s y10++[(41:UInt8)])))))))))))))else((decide (List.length (Str.s (Nd.name n)++([(123:UInt8)]++Str.s y8++[(125:UInt8)]))+List.length [(40:UInt8)]<=1099511627776))=true∧((Go.Pl.preT (fun(x:List Tm×FnV 16×Unit)=>NE x.1&&Xc x.1&&decide (ZP x.1<N)) [(.sl 10 false (List.map enc ks)),(.fn 16)])=true∧(∃ y11:Str,AV.pv (Zf (fun(x:List Tm×FnV 16×Unit)=>Yi (List.map Zr x.1)) [(.sl 10 false (List.map enc ks)),(.fn 16)])=AV.pv (enc y11)∧((decide (List.length (Str.s (Nd.name n)++([(123:UInt8)]++Str.s y8++[(125:UInt8)])++[(40:UInt8)])+List.length (Str.s y11)<=1099511627776))=true∧((decide (List.length (Str.s (Nd.name n)++([(123:UInt8)]++Str.s y8++[(125:UInt8)])++[(40:UInt8)]++Str.s y11)+List.length [(41:UInt8)]<=1099511627776))=true∧(G ((.str (Str.s (Nd.name n)++([(123:UInt8)]++Str.s y8++[(125:UInt8)])++[(40:UInt8)]++Str.s y11++[(41:UInt8)]))))))))))))))else(if (decide ((↑(List.length (List.map enc (Nd.ranks n))):Int)>0))=true then(Go.Pl.preT (fun(x:List Int×FnV 51×Unit)=>decide (List.length x.1<=1048576)&&XP x.1) [(.sl 1 false (List.map enc (Nd.ranks n))),(.fn 51)])=true∧(∃ y12:Str,AV.pv (Zf (fun(x:List Int×FnV 51×Unit)=>Yi (List.map ZI x.1)) [(.sl 1 false (List.map enc (Nd.ranks n))),(.fn 51)])=AV.pv (enc y12)∧((decide (List.length [(64:UInt8),(40:UInt8)]+List.length (Str.s y12)<=1099511627776))=true∧((decide (List.length ([(64:UInt8),(40:UInt8)]++Str.s y12)+List.length [(41:UInt8)]<=1099511627776))=true∧((decide (List.length (Str.s (Nd.name n))+List.length ([(64:UInt8),(40:UInt8)]++Str.s y12++[(41:UInt8)])<=1099511627776))=true∧((decide (List.length (Str.s (Nd.name n)++([(64:UInt8),(40:UInt8)]++Str.s y12++[(41:UInt8)]))+List.length [(40:UInt8)]<=1099511627776))=true∧((Go.Pl.preT (fun(x:List Tm×FnV 16×Unit)=>NE x.1&&Xc x.1&&decide (ZP x.1<N)) [(.sl 10 false (List.map enc ks)),(.fn 16)])=true∧(∃ y13:Str,AV.pv (Zf (fun(x:List Tm×FnV 16×Unit)=>Yi (List.map Zr x.1)) [(.sl 10 false (List.map enc ks)),(.fn 16)])=AV.pv (enc y13)∧((decide (List.length (Str.s (Nd.name n)++([(64:UInt8),(40:UInt8)]++Str.s y12++[(41:UInt8)])++[(40:UInt8)])+List.length (Str.s y13)<=1099511627776))=true∧((decide (List.length (Str.s (Nd.name n)++([(64:UInt8),(40:UInt8)]++Str.s y12++[(41:UInt8)])++[(40:UInt8)]++Str.s y13)+List.length [(41:UInt8)]<=1099511627776))=true∧(G ((.str (Str.s (Nd.name n)++([(64:UInt8),(40:UInt8)]++Str.s y12++[(41:UInt8)])++[(40:UInt8)]++Str.s y13++[(41:UInt8)])))))))))))))else((decide (List.length (Str.s (Nd.name n))+List.length [(40:UInt8)]<=1099511627776))=true∧((Go.Pl.preT (fun(x:List Tm×FnV 16×Unit)=>NE x.1&&Xc x.1&&decide (ZP x.1<N)) [(.sl 10 false (List.map enc ks)),(.fn 16)])=true∧(∃ y14:Str,AV.pv (Zf (fun(x:List Tm×FnV 16×Unit)=>Yi (List.map Zr x.1)) [(.sl 10 false (List.map enc ks)),(.fn 16)])=AV.pv (enc y14)∧((decide (List.length (Str.s (Nd.name n)++[(40:UInt8)])+List.length (Str.s y14)<=1099511627776))=true∧((decide (List.length (Str.s (Nd.name n)++[(40:UInt8)]++Str.s y14)+List.length [(41:UInt8)]<=1099511627776))=true∧(G ((.str (Str.s (Nd.name n)++[(40:UInt8)]++Str.s y14++[(41:UInt8)])))))))))))):Zc (Gy N) 0 (Za K6 G) Cr [] (Ye 45 [.agg [enc n.kind,enc n.line,enc n.name,enc n.num,enc n.elem,enc n.dims,enc n.data,enc n.sizes,enc n.ranks,enc ks]]):=Zc.tp (.lit (.ask (.req (.abs (Str) (fun YY=>AV.pv (enc YY)) (.req (.req (.req (.lit (.ask (.req (.abs (Str) (fun YY=>AV.pv (enc YY)) (.req (.req (.req (.lit (.ask (.req (.abs (Str) (fun YY=>AV.pv (enc YY)) (.req (.req (.req (.req (.req (.abs (Str) (fun YY=>AV.pv (enc YY)) (.req (.req (.nil))))))))))) (.req (.req (.abs (Str) (fun YY=>AV.pv (enc YY)) (.req (.req (.nil))))))))))))) (.lit (.ask (.req (.abs (Str) (fun YY=>AV.pv (enc YY)) (.req (.req (.req (.req (.req (.abs (Str) (fun YY=>AV.pv (enc YY)) (.req (.req (.nil))))))))))) (.req (.req (.abs (Str) (fun YY=>AV.pv (enc YY)) (.req (.req (.nil))))))))))))))) (.lit (.ask (.req (.abs (Str) (fun YY=>AV.pv (enc YY)) (.req (.req (.req (.lit (.ask (.req (.abs (Str) (fun YY=>AV.pv (enc YY)) (.req (.req (.req (.req (.req (.abs (Str) (fun YY=>AV.pv (enc YY)) (.req (.req (.nil))))))))))) (.req (.req (.abs (Str) (fun YY=>AV.pv (enc YY)) (.req (.req (.nil))))))))))))) (.lit (.ask (.req (.abs (Str) (fun YY=>AV.pv (enc YY)) (.req (.req (.req (.req (.req (.abs (Str) (fun YY=>AV.pv (enc YY)) (.req (.req (.nil))))))))))) (.req (.req (.abs (Str) (fun YY=>AV.pv (enc YY)) (.req (.req (.nil)))))))))))) h (by kernel_rfl)
def TG:IC:=(.seq (.reg [⟨(some 5),(.mv (.c (.str []))),0,none⟩] none) (.seq (.seq (.reg [⟨(some 6),(.mv (.t 1)),0,none⟩] none) (.cond (.t 6) (.seq (.reg [⟨(some 7),(.faddr 9 (.t 2)),0,none⟩,⟨(some 8),(.load false [(.sl 10)] (.t 7)),0,none⟩,⟨(some 9),(.mv (.t 0)),0,none⟩,⟨(some 10),(.iaddr 10 (.t 8) (.t 9)),0,none⟩,⟨(some 11),(.load true [(.int .i64),(.int .i64),.str,(.int .i64),.str,(.sl 1),(.sl 1),(.sl 2),(.sl 1),(.sl 10)] (.t 10)),0,none⟩,⟨(some 12),(.call (.c (.fn 16)) [(.t 11)]),0,none⟩,⟨(some 5),(.mv (.t 12)),2,none⟩] none) .ret) .skip)) (.seq (.reg [⟨(some 13),(.faddr 9 (.t 2)),0,none⟩,⟨(some 14),(.load false [(.sl 10)] (.t 13)),0,none⟩,⟨(some 15),(.mv (.t 0)),0,none⟩,⟨(some 16),(.iaddr 10 (.t 14) (.t 15)),0,none⟩,⟨(some 17),(.load true [(.int .i64),(.int .i64),.str,(.int .i64),.str,(.sl 1),(.sl 1),(.sl 2),(.sl 1),(.sl 10)] (.t 16)),0,none⟩,⟨(some 18),(.call (.c (.fn 16)) [(.t 17)]),0,none⟩,⟨(some 19),(.bin .num .add (.c (.str [40])) (.t 18)),2,none⟩,⟨(some 20),(.bin .num .add (.t 19) (.c (.str [41]))),2,none⟩,⟨(some 5),(.mv (.t 20)),2,none⟩] none) .ret)))
def A9:List IRes:=[(.tmp 5)]
abbrev b6r:Nat:=21
def M3(N:Nat):ZC:=Xi [(16,.pure (preT (fun x:Tm×Unit=>(tW x.1&&YJ x.1)&&decide (Yb x.1<N))) (Zf (fun x:Tm×Unit=>Zr x.1)))]
theorem b9p{G:AV×List AObj×List AObj->Prop}(N:Nat)(n:Nd)(ks:List Tm)(k:Int)(b:Bool)(h:if (b)=true then(decide (0<=k)&&decide (Int.toNat k<List.length (List.map enc ks))&&Enc.sz Tm==10)=true∧(∃ y0:Tm,AV.pv (PV.rptr (PV.cells (List.getD (List.map enc ks) (Int.toNat k) default)))=AV.pv (PV.rptr (PV.cells ((enc) y0)))∧(NG y0=true∧((Go.Pl.preT (fun(x:Tm×Unit)=>tW x.1&&YJ x.1&&decide (Yb x.1<N)) (Qg y0))=true∧(∃ y1:Str,AV.pv (Zf (fun(x:Tm×Unit)=>Zr x.1) (Qg y0))=AV.pv (enc y1)∧(G (((.pv (.str (Str.s y1))),([(.box (ZN n ks))],[]))))))))else((decide (0<=k)&&decide (Int.toNat k<List.length (List.map enc ks))&&Enc.sz Tm==10)=true∧(∃ y2:Tm,AV.pv (PV.rptr (PV.cells (List.getD (List.map enc ks) (Int.toNat k) default)))=AV.pv (PV.rptr (PV.cells ((enc) y2)))∧(NG y2=true∧((Go.Pl.preT (fun(x:Tm×Unit)=>tW x.1&&YJ x.1&&decide (Yb x.1<N)) (Qg y2))=true∧(∃ y3:Str,AV.pv (Zf (fun(x:Tm×Unit)=>Zr x.1) (Qg y2))=AV.pv (enc y3)∧((decide (List.length [(40:UInt8)]+List.length (Str.s y3)<=1099511627776))=true∧((decide (List.length ([(40:UInt8)]++Str.s y3)+List.length [(41:UInt8)]<=1099511627776))=true∧(G (((.pv (.str ([(40:UInt8)]++Str.s y3++[(41:UInt8)]))),([(.box (ZN n ks))],[])))))))))))):Zc (M3 N) 1 (YB 1 A9 G) TG [] (Vb 21 [.pv (.int .i64 k),.pv (.bool b),.ptr 0 0] [.box [.pv (enc n.kind),.pv (enc n.line),.pv (enc n.name),.pv (enc n.num),.pv (enc n.elem),.pv (enc n.dims),.pv (enc n.data),.pv (enc n.sizes),.pv (enc n.ranks),.pv (enc ks)]]):=Zc.to (.ask (.req (.abs (Tm) (fun YY=>AV.pv (PV.rptr (PV.cells ((enc) YY)))) (.req (.req (.abs (Str) (fun YY=>AV.pv (enc YY)) (.nil)))))) (.req (.abs (Tm) (fun YY=>AV.pv (PV.rptr (PV.cells ((enc) YY)))) (.req (.req (.abs (Str) (fun YY=>AV.pv (enc YY)) (.req (.req (.nil))))))))) h (by kernel_rfl)
def De:IC:=(.seq (.reg [⟨(some 1),(.box 10 (.t 0)),0,none⟩,⟨(some 2),(.mv (.c (.str []))),1,none⟩] none) (.seq (.reg [⟨(some 14),(.load true [(.int .i64),(.int .i64),.str,(.int .i64),.str,(.sl 1),(.sl 1),(.sl 2),(.sl 1),(.sl 10)] (.t 1)),0,none⟩,⟨(some 15),(.call (.c (.fn 22)) [(.t 14)]),0,none⟩,⟨(some 13),(.mv (.t 15)),2,none⟩,⟨(some 16),(.extract (.t 13) 0),2,none⟩,⟨(some 17),(.extract (.t 13) 1),2,none⟩,⟨(some 3),(.mv (.t 16)),2,none⟩,⟨(some 4),(.mv (.t 17)),2,none⟩] none) (.seq (.reg [⟨(some 18),(.mkfn 23 [] [(.t 1)]),0,none⟩,⟨(some 5),(.mv (.t 18)),0,none⟩] none) (.seq (.reg [⟨(some 19),(.load true [(.int .i64),(.int .i64),.str,(.int .i64),.str,(.sl 1),(.sl 1),(.sl 2),(.sl 1),(.sl 10)] (.t 1)),0,none⟩,⟨(some 20),(.call (.c (.fn 24)) [(.t 19)]),0,none⟩,⟨(some 6),(.mv (.t 20)),2,none⟩] none) (.seq (.block 0 (.seq (.reg [⟨(some 22),(.mv (.t 4)),0,none⟩,⟨(some 23),(.bin .num .eql (.t 22) (.c (.int .i64 2))),0,none⟩,⟨(some 21),(.mv (.t 23)),0,none⟩] none) (.cond (.t 21) (.seq (.reg [⟨(some 24),(.faddr 9 (.t 1)),0,none⟩,⟨(some 25),(.load false [(.sl 10)] (.t 24)),0,none⟩,⟨(some 26),(.iaddr 10 (.t 25) (.c (.int .i64 0))),0,none⟩,⟨(some 27),(.load true [(.int .i64),(.int .i64),.str,(.int .i64),.str,(.sl 1),(.sl 1),(.sl 2),(.sl 1),(.sl 10)] (.t 26)),0,none⟩,⟨(some 28),(.call (.c (.fn 24)) [(.t 27)]),0,none⟩,⟨(some 29),(.faddr 9 (.t 1)),2,none⟩,⟨(some 30),(.load false [(.sl 10)] (.t 29)),2,none⟩,⟨(some 31),(.iaddr 10 (.t 30) (.c (.int .i64 1))),2,none⟩,⟨(some 32),(.load true [(.int .i64),(.int .i64),.str,(.int .i64),.str,(.sl 1),(.sl 1),(.sl 2),(.sl 1),(.sl 10)] (.t 31)),2,none⟩,⟨(some 33),(.call (.c (.fn 24)) [(.t 32)]),2,none⟩,⟨(some 7),(.mv (.t 28)),4,none⟩,⟨(some 8),(.mv (.t 33)),4,none⟩] (some [[],[0],[1,0],[2,1,0],[3,2,1,0],[],[5],[6,5],[7,6,5],[8,4,7,6,5,3,2,1,0],[4,9,0,1,2,3,8,7,6,5],[9,10,0,1,2,3,4,5,6,7,8]])) (.seq (.reg [⟨(some 34),(.mv (.t 5)),0,none⟩,⟨(some 35),(.mv (.t 7)),0,none⟩,⟨(some 36),(.mv (.t 6)),0,none⟩,⟨(some 37),(.bin .num .geq (.t 35) (.t 36)),0,none⟩,⟨(some 38),(.mv (.t 37)),0,none⟩,⟨(some 39),(.mv (.t 7)),0,(some (38,true))⟩,⟨(some 40),(.bin .num .neq (.t 39) (.c (.int .i64 3))),0,(some (38,true))⟩,⟨(some 41),(.mv (.t 40)),0,(some (38,true))⟩,⟨(some 42),(.mv (.t 6)),0,(some (41,false))⟩,⟨(some 43),(.bin .num .neq (.t 42) (.c (.int .i64 3))),0,(some (41,false))⟩,⟨(some 44),(.pick (.t 41) (.c (.bool true)) (.t 43)),0,(some (38,true))⟩,⟨(some 45),(.pick (.t 38) (.t 44) (.c (.bool false))),0,none⟩,⟨(some 46),(.call (.t 34) [(.c (.int .i64 0)),(.t 45)]),0,none⟩,⟨(some 47),(.bin .num .add (.t 46) (.c (.str [32]))),2,none⟩,⟨(some 48),(.mv (.t 3)),2,none⟩,⟨(some 49),(.bin .num .add (.t 47) (.t 48)),2,none⟩,⟨(some 50),(.bin .num .add (.t 49) (.c (.str [32]))),2,none⟩,⟨(some 51),(.mv (.t 5)),2,none⟩,⟨(some 52),(.mv (.t 8)),2,none⟩,⟨(some 53),(.mv (.t 6)),2,none⟩,⟨(some 54),(.bin .num .gtr (.t 52) (.t 53)),2,none⟩,⟨(some 55),(.call (.t 51) [(.c (.int .i64 1)),(.t 54)]),2,none⟩,⟨(some 56),(.bin .num .add (.t 50) (.t 55)),4,none⟩,⟨(some 2),(.mv (.t 56)),4,none⟩] none) .ret)) (.seq (.reg [⟨(some 58),(.mv (.t 4)),0,none⟩,⟨(some 59),(.bin .num .eql (.t 58) (.c (.int .i64 1))),0,none⟩,⟨(some 57),(.mv (.t 59)),0,none⟩] none) (.cond (.t 57) (.seq (.reg [⟨(some 60),(.faddr 9 (.t 1)),0,none⟩,⟨(some 61),(.load false [(.sl 10)] (.t 60)),0,none⟩,⟨(some 62),(.iaddr 10 (.t 61) (.c (.int .i64 0))),0,none⟩,⟨(some 63),(.load true [(.int .i64),(.int .i64),.str,(.int .i64),.str,(.sl 1),(.sl 1),(.sl 2),(.sl 1),(.sl 10)] (.t 62)),0,none⟩,⟨(some 9),(.alloc (.agg [(.int .i64 0),(.int .i64 0),(.str []),(.int .i64 0),(.str []),(.sl 0 true []),(.sl 0 true []),(.sl 0 true []),(.sl 0 true []),(.sl 0 true [])])),0,none⟩,⟨none,(.store 10 (.t 9) (.t 63)),1,none⟩] none) (.seq (.reg [⟨(some 64),(.faddr 0 (.t 9)),0,none⟩,⟨(some 65),(.load false [(.int .i64)] (.t 64)),0,none⟩,⟨(some 66),(.bin .num .eql (.t 65) (.c (.int .i64 2))),0,none⟩,⟨(some 67),(.mv (.t 66)),0,none⟩,⟨(some 68),(.faddr 2 (.t 9)),0,(some (67,true))⟩,⟨(some 69),(.load false [.str] (.t 68)),0,(some (67,true))⟩,⟨(some 70),(.bin .num .eql (.t 69) (.c (.str [105,110,116]))),0,(some (67,true))⟩,⟨(some 71),(.pick (.t 67) (.t 70) (.c (.bool false))),0,none⟩,⟨(some 72),(.mv (.t 71)),0,none⟩,⟨(some 73),(.faddr 3 (.t 9)),0,(some (72,true))⟩,⟨(some 74),(.load false [(.int .i64)] (.t 73)),0,(some (72,true))⟩,⟨(some 75),(.bin .num .geq (.t 74) (.c (.int .i64 0))),0,(some (72,true))⟩,⟨(some 76),(.pick (.t 72) (.t 75) (.c (.bool false))),0,none⟩,⟨(some 77),(.mv (.t 76)),0,none⟩,⟨(some 78),(.mv (.t 3)),0,(some (77,true))⟩,⟨(some 79),(.bin .num .eql (.t 78) (.c (.str [45]))),0,(some (77,true))⟩,⟨(some 80),(.pick (.t 77) (.t 79) (.c (.bool false))),0,none⟩,⟨(some 10),(.mv (.t 80)),0,none⟩] none) (.seq (.reg [⟨(some 81),(.mv (.t 3)),0,none⟩,⟨(some 82),(.mv (.t 5)),0,none⟩,⟨(some 83),(.load true [(.int .i64),(.int .i64),.str,(.int .i64),.str,(.sl 1),(.sl 1),(.sl 2),(.sl 1),(.sl 10)] (.t 9)),0,none⟩,⟨(some 84),(.call (.c (.fn 24)) [(.t 83)]),0,none⟩,⟨(some 85),(.bin .num .geq (.t 84) (.c (.int .i64 6))),2,none⟩,⟨(some 86),(.mv (.t 85)),2,none⟩,⟨(some 87),(.mv (.t 10)),2,(some (86,true))⟩,⟨(some 88),(.un .not (.t 87)),2,(some (86,true))⟩,⟨(some 89),(.pick (.t 86) (.t 88) (.c (.bool false))),2,none⟩,⟨(some 90),(.call (.t 82) [(.c (.int .i64 0)),(.t 89)]),2,none⟩,⟨(some 91),(.bin .num .add (.t 81) (.t 90)),4,none⟩,⟨(some 2),(.mv (.t 91)),4,none⟩] none) .ret))) .skip))))) (.seq (.seq (.reg [⟨(some 92),(.faddr 0 (.t 1)),0,none⟩,⟨(some 93),(.load false [(.int .i64)] (.t 92)),0,none⟩] none) (.block 1 (.seq (.reg [⟨(some 95),(.bin .num .eql (.t 93) (.c (.int .i64 5))),0,none⟩,⟨(some 94),(.mv (.t 95)),0,none⟩] none) (.cond (.t 94) (.seq (.reg [⟨(some 96),(.faddr 2 (.t 1)),0,none⟩,⟨(some 97),(.load false [.str] (.t 96)),0,none⟩,⟨(some 98),(.bin .num .add (.c (.str [108,101,116,32])) (.t 97)),0,none⟩,⟨(some 99),(.bin .num .add (.t 98) (.c (.str [32,61,32]))),0,none⟩,⟨(some 100),(.faddr 9 (.t 1)),0,none⟩,⟨(some 101),(.load false [(.sl 10)] (.t 100)),0,none⟩,⟨(some 102),(.iaddr 10 (.t 101) (.c (.int .i64 0))),0,none⟩,⟨(some 103),(.load true [(.int .i64),(.int .i64),.str,(.int .i64),.str,(.sl 1),(.sl 1),(.sl 2),(.sl 1),(.sl 10)] (.t 102)),0,none⟩,⟨(some 104),(.call (.c (.fn 16)) [(.t 103)]),0,none⟩,⟨(some 105),(.bin .num .add (.t 99) (.t 104)),2,none⟩,⟨(some 106),(.bin .num .add (.t 105) (.c (.str [32,105,110,32]))),2,none⟩,⟨(some 107),(.faddr 9 (.t 1)),2,none⟩,⟨(some 108),(.load false [(.sl 10)] (.t 107)),2,none⟩,⟨(some 109),(.iaddr 10 (.t 108) (.c (.int .i64 1))),2,none⟩,⟨(some 110),(.load true [(.int .i64),(.int .i64),.str,(.int .i64),.str,(.sl 1),(.sl 1),(.sl 2),(.sl 1),(.sl 10)] (.t 109)),2,none⟩,⟨(some 111),(.call (.c (.fn 16)) [(.t 110)]),2,none⟩,⟨(some 112),(.bin .num .add (.t 106) (.t 111)),4,none⟩,⟨(some 2),(.mv (.t 112)),4,none⟩] (some [[],[0],[1,0],[2,1,0],[],[4],[5,4],[6,5,4],[7,6,5,4],[3,8,2,1,0,7,6,5,4],[9,3,8,2,1,0,7,6,5,4],[],[11],[12,11],[13,12,11],[14,8,13,12,11,7,6,5,4],[10,15,9,3,8,2,1,0,7,6,5,4,14,13,12,11],[16,15,0,1,2,3,4,5,6,7,8,9,10,11,12,13,14]])) .ret) (.seq (.reg [⟨(some 114),(.bin .num .eql (.t 93) (.c (.int .i64 2))),0,none⟩,⟨(some 113),(.mv (.t 114)),0,none⟩] none) (.cond (.t 113) (.seq (.reg [⟨(some 115),(.load true [(.int .i64),(.int .i64),.str,(.int .i64),.str,(.sl 1),(.sl 1),(.sl 2),(.sl 1),(.sl 10)] (.t 1)),0,none⟩,⟨(some 116),(.call (.c (.fn 25)) [(.t 115)]),0,none⟩,⟨(some 2),(.mv (.t 116)),2,none⟩] none) .ret) (.seq (.reg [⟨(some 118),(.bin .num .eql (.t 93) (.c (.int .i64 1))),0,none⟩,⟨(some 117),(.mv (.t 118)),0,none⟩] none) (.cond (.t 117) (.seq (.reg [⟨(some 119),(.faddr 2 (.t 1)),0,none⟩,⟨(some 120),(.load false [.str] (.t 119)),0,none⟩,⟨(some 2),(.mv (.t 120)),0,none⟩] none) .ret) (.seq (.reg [⟨(some 122),(.bin .num .eql (.t 93) (.c (.int .i64 6))),0,none⟩,⟨(some 121),(.mv (.t 122)),0,none⟩] none) (.cond (.t 121) (.seq (.reg [⟨(some 123),(.load true [(.int .i64),(.int .i64),.str,(.int .i64),.str,(.sl 1),(.sl 1),(.sl 2),(.sl 1),(.sl 10)] (.t 1)),0,none⟩,⟨(some 124),(.call (.c (.fn 26)) [(.t 123)]),0,none⟩,⟨(some 2),(.mv (.t 124)),2,none⟩] none) .ret) (.seq (.reg [⟨(some 126),(.bin .num .eql (.t 93) (.c (.int .i64 7))),0,none⟩,⟨(some 125),(.mv (.t 126)),0,none⟩] none) (.cond (.t 125) (.seq (.reg [⟨(some 127),(.faddr 9 (.t 1)),0,none⟩,⟨(some 128),(.load false [(.sl 10)] (.t 127)),0,none⟩,⟨(some 129),(.call (.c (.fn 27)) [(.t 128),(.c (.fn 16))]),0,none⟩,⟨(some 130),(.bin .num .add (.c (.str [91])) (.t 129)),2,none⟩,⟨(some 131),(.bin .num .add (.t 130) (.c (.str [93]))),2,none⟩,⟨(some 2),(.mv (.t 131)),2,none⟩] none) .ret) (.seq (.reg [⟨(some 133),(.bin .num .eql (.t 93) (.c (.int .i64 8))),0,none⟩,⟨(some 132),(.mv (.t 133)),0,none⟩] none) (.cond (.t 132) (.seq (.reg [⟨(some 134),(.faddr 2 (.t 1)),0,none⟩,⟨(some 135),(.load false [.str] (.t 134)),0,none⟩,⟨(some 136),(.faddr 9 (.t 1)),0,none⟩,⟨(some 137),(.load false [(.sl 10)] (.t 136)),0,none⟩,⟨(some 138),(.iaddr 10 (.t 137) (.c (.int .i64 0))),0,none⟩,⟨(some 139),(.load true [(.int .i64),(.int .i64),.str,(.int .i64),.str,(.sl 1),(.sl 1),(.sl 2),(.sl 1),(.sl 10)] (.t 138)),0,none⟩,⟨(some 140),(.call (.c (.fn 16)) [(.t 139)]),0,none⟩,⟨(some 141),(.faddr 9 (.t 1)),2,none⟩,⟨(some 142),(.load false [(.sl 10)] (.t 141)),2,none⟩,⟨(some 143),(.iaddr 10 (.t 142) (.c (.int .i64 1))),2,none⟩,⟨(some 144),(.load true [(.int .i64),(.int .i64),.str,(.int .i64),.str,(.sl 1),(.sl 1),(.sl 2),(.sl 1),(.sl 10)] (.t 143)),2,none⟩,⟨(some 145),(.call (.c (.fn 16)) [(.t 144)]),2,none⟩,⟨(some 146),(.bslice 9 1 3 (.str []) [(0,(.t 135)),(1,(.t 140)),(2,(.t 145))]),4,none⟩,⟨(some 147),(.call (.c (.fn 28)) [(.t 146)]),5,none⟩,⟨(some 148),(.bin .num .add (.c (.str [102,111,108,100,40])) (.t 147)),7,none⟩,⟨(some 149),(.bin .num .add (.t 148) (.c (.str [41]))),7,none⟩,⟨(some 2),(.mv (.t 149)),7,none⟩] (some [[],[0],[],[2],[3,2],[4,3,2],[5,4,3,2],[],[7],[8,7],[9,8,7],[10,6,9,8,7,5,4,3,2],[1,6,11,0,5,4,3,2,10,9,8,7],[12,11,1,6,0,5,4,3,2,10,9,8,7],[13,12,11,1,6,0,5,4,3,2,10,9,8,7],[14,13,12,11,1,6,0,5,4,3,2,10,9,8,7],[15,13,0,1,2,3,4,5,6,7,8,9,10,11,12,14]])) .ret) (.seq (.reg [⟨(some 151),(.bin .num .eql (.t 93) (.c (.int .i64 9))),0,none⟩,⟨(some 150),(.mv (.t 151)),0,none⟩] none) (.cond (.t 150) (.seq (.reg [⟨(some 152),(.faddr 2 (.t 1)),0,none⟩,⟨(some 153),(.load false [.str] (.t 152)),0,none⟩,⟨(some 154),(.faddr 9 (.t 1)),0,none⟩,⟨(some 155),(.load false [(.sl 10)] (.t 154)),0,none⟩,⟨(some 156),(.iaddr 10 (.t 155) (.c (.int .i64 0))),0,none⟩,⟨(some 157),(.load true [(.int .i64),(.int .i64),.str,(.int .i64),.str,(.sl 1),(.sl 1),(.sl 2),(.sl 1),(.sl 10)] (.t 156)),0,none⟩,⟨(some 158),(.call (.c (.fn 16)) [(.t 157)]),0,none⟩,⟨(some 159),(.bslice 9 1 2 (.str []) [(0,(.t 153)),(1,(.t 158))]),2,none⟩,⟨(some 160),(.call (.c (.fn 28)) [(.t 159)]),3,none⟩,⟨(some 161),(.bin .num .add (.c (.str [115,99,97,110,40])) (.t 160)),5,none⟩,⟨(some 162),(.bin .num .add (.t 161) (.c (.str [41]))),5,none⟩,⟨(some 2),(.mv (.t 162)),5,none⟩] (some [[],[0],[],[2],[3,2],[4,3,2],[5,4,3,2],[1,6,0,5,4,3,2],[7,6,1,0,5,4,3,2],[8,7,6,1,0,5,4,3,2],[9,8,7,6,1,0,5,4,3,2],[10,8,0,1,2,3,4,5,6,7,9]])) .ret) (.seq (.reg [⟨(some 164),(.bin .num .eql (.t 93) (.c (.int .i64 4))),0,none⟩,⟨(some 163),(.mv (.t 164)),0,none⟩] none) (.cond (.t 163) (.seq (.reg [⟨(some 165),(.faddr 7 (.t 1)),0,none⟩,⟨(some 166),(.load false [(.sl 2)] (.t 165)),0,none⟩,⟨(some 167),(.iaddr 2 (.t 166) (.c (.int .i64 0))),0,none⟩,⟨(some 168),(.load true [(.int .i64),(.sl 2)] (.t 167)),0,none⟩,⟨(some 169),(.call (.c (.fn 29)) [(.t 168)]),0,none⟩,⟨(some 170),(.bin .num .add (.c (.str [115,105,122,101,91])) (.t 169)),2,none⟩,⟨(some 171),(.bin .num .add (.t 170) (.c (.str [93]))),2,none⟩,⟨(some 2),(.mv (.t 171)),2,none⟩] none) .ret) .skip)))))))))))))))))) (.seq (.reg [⟨(some 173),(.faddr 4 (.t 1)),0,none⟩,⟨(some 174),(.load true [.str,(.sl 1),(.sl 1)] (.t 173)),0,none⟩,⟨(some 175),(.call (.c (.fn 30)) [(.t 174)]),0,none⟩,⟨(some 172),(.mv (.t 175)),2,none⟩,⟨(some 176),(.extract (.t 172) 0),2,none⟩,⟨(some 177),(.extract (.t 172) 1),2,none⟩,⟨(some 11),(.mv (.t 176)),2,none⟩,⟨(some 12),(.mv (.t 177)),2,none⟩] none) (.seq (.reg [⟨(some 178),(.mv (.t 11)),0,none⟩,⟨(some 2),(.mv (.t 178)),0,none⟩] none) .ret))))))))
def Jm:List IRes:=[(.tmp 2)]
abbrev a8f:Nat:=179
def G6(N:Nat):ZC:=Xi [(22,.pure (preT (fun x:Tm×Unit=>tW x.1)) (Zf (fun x:Tm×Unit=>UM x.1))),(24,.pure (preT (fun x:Tm×Unit=>tW x.1)) (Zf (fun x:Tm×Unit=>XV x.1))),(23,.own (YP N) TZ),(16,.pure (preT (fun x:Tm×Unit=>(tW x.1&&YJ x.1)&&decide (Yb x.1<N))) (Zf (fun x:Tm×Unit=>Zr x.1))),(25,.pure (preT (fun x:Tm×Unit=>VO x.1.nd)) (Zf (fun x:Tm×Unit=>P8 x.1.nd))),(26,.pure (preT (fun x:Tm×Unit=>(tW x.1&&YJ x.1&&decide (x.1.nd.kind=6))&&decide (ZP x.1.ks<N))) (Zf (fun x:Tm×Unit=>Ce x.1))),(27,.pure (preT (fun x:List Tm×FnV 16×Unit=>(NE x.1&&Xc x.1)&&decide (ZP x.1<N))) (Zf (fun x:List Tm×FnV 16×Unit=>Yi (x.1.map Zr)))),(28,.pure (preT (fun x:List Str×Unit=>Y8 x.1)) (Zf (fun x:List Str×Unit=>Yi x.1))),(29,.pure (preT (fun x:Lin×Unit=>VN x.1)) (Zf (fun x:Lin×Unit=>(⟨Ym x.1⟩:Str)))),(30,.pure (preT (fun x:Arr×Unit=>Qk x.1&&Ud x.1)) (Zf (fun x:Arr×Unit=>Ri x.1)))]
theorem b4p{G:PV->Prop}(N:Nat)(n:Nd)(ks:List Tm)(h:(Go.Pl.preT (fun(x:Tm×Unit)=>tW x.1) (BZ n ks))=true∧(∃ y0:Str×Int,AV.pv (Zf (fun(x:Tm×Unit)=>UM x.1) (BZ n ks))=AV.pv (enc y0)∧((Go.Pl.preT (fun(x:Tm×Unit)=>tW x.1) (BZ n ks))=true∧(∃ y1:Int,AV.pv (Zf (fun(x:Tm×Unit)=>XV x.1) (BZ n ks))=AV.pv (enc y1)∧(if (y0.2==2)=true then(decide (0<=0)&&decide (Int.toNat 0<List.length (List.map enc ks))&&Enc.sz Tm==10)=true∧(∃ y2:Tm,AV.pv (PV.rptr (PV.cells (List.getD (List.map enc ks) (Int.toNat 0) default)))=AV.pv (PV.rptr (PV.cells ((enc) y2)))∧(NG y2=true∧((Go.Pl.preT (fun(x:Tm×Unit)=>tW x.1) (Qg y2))=true∧(∃ y3:Int,AV.pv (Zf (fun(x:Tm×Unit)=>XV x.1) (Qg y2))=AV.pv (enc y3)∧((decide (0<=1)&&decide (Int.toNat 1<List.length (List.map enc ks))&&Enc.sz Tm==10)=true∧(∃ y4:Tm,AV.pv (PV.rptr (PV.cells (List.getD (List.map enc ks) (Int.toNat 1) default)))=AV.pv (PV.rptr (PV.cells ((enc) y4)))∧(NG y4=true∧((Go.Pl.preT (fun(x:Tm×Unit)=>tW x.1) (Qg y4))=true∧(∃ y5:Int,AV.pv (Zf (fun(x:Tm×Unit)=>XV x.1) (Qg y4))=AV.pv (enc y5)∧(if (decide (y3 ≥ y1))=true then if (y3 != 3)=true then(YP N [(.pv (.int .i64 0)),(.pv (.bool true)),(.ptr 0 0)] [(.box (ZN n ks))])=true∧((decide (List.length (YC (ZN n ks) 0 true)+List.length [(32:UInt8)]<=1099511627776))=true∧((decide (List.length (YC (ZN n ks) 0 true++[(32:UInt8)])+List.length (Str.s y0.1)<=1099511627776))=true∧((decide (List.length (YC (ZN n ks) 0 true++[(32:UInt8)]++Str.s y0.1)+List.length [(32:UInt8)]<=1099511627776))=true∧((YP N [(.pv (.int .i64 1)),(.pv (.bool (decide (y5>y1)))),(.ptr 0 0)] [(.box (ZN n ks))])=true∧((decide (List.length (YC (ZN n ks) 0 true++[(32:UInt8)]++Str.s y0.1++[(32:UInt8)])+List.length (YC (ZN n ks) 1 (decide (y5>y1)))<=1099511627776))=true∧(G ((.str (YC (ZN n ks) 0 true++[(32:UInt8)]++Str.s y0.1++[(32:UInt8)]++YC (ZN n ks) 1 (decide (y5>y1)))))))))))else((YP N [(.pv (.int .i64 0)),(.pv (.bool (y1 != 3))),(.ptr 0 0)] [(.box (ZN n ks))])=true∧((decide (List.length (YC (ZN n ks) 0 (y1 != 3))+List.length [(32:UInt8)]<=1099511627776))=true∧((decide (List.length (YC (ZN n ks) 0 (y1 != 3)++[(32:UInt8)])+List.length (Str.s y0.1)<=1099511627776))=true∧((decide (List.length (YC (ZN n ks) 0 (y1 != 3)++[(32:UInt8)]++Str.s y0.1)+List.length [(32:UInt8)]<=1099511627776))=true∧((YP N [(.pv (.int .i64 1)),(.pv (.bool (decide (y5>y1)))),(.ptr 0 0)] [(.box (ZN n ks))])=true∧((decide (List.length (YC (ZN n ks) 0 (y1 != 3)++[(32:UInt8)]++Str.s y0.1++[(32:UInt8)])+List.length (YC (ZN n ks) 1 (decide (y5>y1)))<=1099511627776))=true∧(G ((.str (YC (ZN n ks) 0 (y1 != 3)++[(32:UInt8)]++Str.s y0.1++[(32:UInt8)]++YC (ZN n ks) 1 (decide (y5>y1))))))))))))else((YP N [(.pv (.int .i64 0)),(.pv (.bool false)),(.ptr 0 0)] [(.box (ZN n ks))])=true∧((decide (List.length (YC (ZN n ks) 0 false)+List.length [(32:UInt8)]<=1099511627776))=true∧((decide (List.length (YC (ZN n ks) 0 false++[(32:UInt8)])+List.length (Str.s y0.1)<=1099511627776))=true∧((decide (List.length (YC (ZN n ks) 0 false++[(32:UInt8)]++Str.s y0.1)+List.length [(32:UInt8)]<=1099511627776))=true∧((YP N [(.pv (.int .i64 1)),(.pv (.bool (decide (y5>y1)))),(.ptr 0 0)] [(.box (ZN n ks))])=true∧((decide (List.length (YC (ZN n ks) 0 false++[(32:UInt8)]++Str.s y0.1++[(32:UInt8)])+List.length (YC (ZN n ks) 1 (decide (y5>y1)))<=1099511627776))=true∧(G ((.str (YC (ZN n ks) 0 false++[(32:UInt8)]++Str.s y0.1++[(32:UInt8)]++YC (ZN n ks) 1 (decide (y5>y1))))))))))))))))))))))else(if (y0.2==1)=true then(decide (0<=0)&&decide (Int.toNat 0<List.length (List.map enc ks))&&Enc.sz Tm==10)=true∧(∃ y6:Tm,AV.pv (PV.rptr (PV.cells (List.getD (List.map enc ks) (Int.toNat 0) default)))=AV.pv (PV.rptr (PV.cells ((enc) y6)))∧(NG y6=true∧(if (PV.asInt (List.getD (PV.cells (enc y6)) 0 default)==2)=true then if (PV.asStr (List.getD (PV.cells (enc y6)) (0+1+1) default)==[(105:UInt8),(110:UInt8),(116:UInt8)])=true then if (decide (PV.asInt (List.getD (PV.cells (enc y6)) (0+1+1+1) default) ≥ 0))=true then(Go.Pl.preT (fun(x:Tm×Unit)=>tW x.1) (Qg y6))=true∧(∃ y7:Int,AV.pv (Zf (fun(x:Tm×Unit)=>XV x.1) (Qg y6))=AV.pv (enc y7)∧(if (decide (y7 ≥ 6))=true then(YP N [(.pv (.int .i64 0)),(.pv (.bool (!Str.s y0.1==[(45:UInt8)]))),(.ptr 0 0)] [(.box (ZN n ks))])=true∧((decide (List.length (Str.s y0.1)+List.length (YC (ZN n ks) 0 !Str.s y0.1==[(45:UInt8)])<=1099511627776))=true∧(G ((.str (Str.s y0.1++YC (ZN n ks) 0 !Str.s y0.1==[(45:UInt8)])))))else((YP N [(.pv (.int .i64 0)),(.pv (.bool false)),(.ptr 0 0)] [(.box (ZN n ks))])=true∧((decide (List.length (Str.s y0.1)+List.length (YC (ZN n ks) 0 false)<=1099511627776))=true∧(G ((.str (Str.s y0.1++YC (ZN n ks) 0 false))))))))else((Go.Pl.preT (fun(x:Tm×Unit)=>tW x.1) (Qg y6))=true∧(∃ y8:Int,AV.pv (Zf (fun(x:Tm×Unit)=>XV x.1) (Qg y6))=AV.pv (enc y8)∧(if (decide (y8 ≥ 6))=true then(YP N [(.pv (.int .i64 0)),(.pv (.bool true)),(.ptr 0 0)] [(.box (ZN n ks))])=true∧((decide (List.length (Str.s y0.1)+List.length (YC (ZN n ks) 0 !false)<=1099511627776))=true∧(G ((.str (Str.s y0.1++YC (ZN n ks) 0 !false)))))else((YP N [(.pv (.int .i64 0)),(.pv (.bool false)),(.ptr 0 0)] [(.box (ZN n ks))])=true∧((decide (List.length (Str.s y0.1)+List.length (YC (ZN n ks) 0 false)<=1099511627776))=true∧(G ((.str (Str.s y0.1++YC (ZN n ks) 0 false)))))))))else((Go.Pl.preT (fun(x:Tm×Unit)=>tW x.1) (Qg y6))=true∧(∃ y9:Int,AV.pv (Zf (fun(x:Tm×Unit)=>XV x.1) (Qg y6))=AV.pv (enc y9)∧(if (decide (y9 ≥ 6))=true then(YP N [(.pv (.int .i64 0)),(.pv (.bool true)),(.ptr 0 0)] [(.box (ZN n ks))])=true∧((decide (List.length (Str.s y0.1)+List.length (YC (ZN n ks) 0 !false)<=1099511627776))=true∧(G ((.str (Str.s y0.1++YC (ZN n ks) 0 !false)))))else((YP N [(.pv (.int .i64 0)),(.pv (.bool false)),(.ptr 0 0)] [(.box (ZN n ks))])=true∧((decide (List.length (Str.s y0.1)+List.length (YC (ZN n ks) 0 false)<=1099511627776))=true∧(G ((.str (Str.s y0.1++YC (ZN n ks) 0 false)))))))))else((Go.Pl.preT (fun(x:Tm×Unit)=>tW x.1) (Qg y6))=true∧(∃ y10:Int,AV.pv (Zf (fun(x:Tm×Unit)=>XV x.1) (Qg y6))=AV.pv (enc y10)∧(if (decide (y10 ≥ 6))=true then(YP N [(.pv (.int .i64 0)),(.pv (.bool true)),(.ptr 0 0)] [(.box (ZN n ks))])=true∧((decide (List.length (Str.s y0.1)+List.length (YC (ZN n ks) 0 !false)<=1099511627776))=true∧(G ((.str (Str.s y0.1++YC (ZN n ks) 0 !false)))))else((YP N [(.pv (.int .i64 0)),(.pv (.bool false)),(.ptr 0 0)] [(.box (ZN n ks))])=true∧((decide (List.length (Str.s y0.1)+List.length (YC (ZN n ks) 0 false)<=1099511627776))=true∧(G ((.str (Str.s y0.1++YC (ZN n ks) 0 false))))))))))))else(if (Nd.kind n==5)=true then(decide (List.length [(108:UInt8),(101:UInt8),(116:UInt8),(32:UInt8)]+List.length (Str.s (Nd.name n))<=1099511627776))=true∧((decide (List.length ([(108:UInt8),(101:UInt8),(116:UInt8),(32:UInt8)]++Str.s (Nd.name n))+List.length [(32:UInt8),(61:UInt8),(32:UInt8)]<=1099511627776))=true∧((decide (0<=0)&&decide (Int.toNat 0<List.length (List.map enc ks))&&Enc.sz Tm==10)=true∧(∃ y11:Tm,AV.pv (PV.rptr (PV.cells (List.getD (List.map enc ks) (Int.toNat 0) default)))=AV.pv (PV.rptr (PV.cells ((enc) y11)))∧(NG y11=true∧((Go.Pl.preT (fun(x:Tm×Unit)=>tW x.1&&YJ x.1&&decide (Yb x.1<N)) (Qg y11))=true∧(∃ y12:Str,AV.pv (Zf (fun(x:Tm×Unit)=>Zr x.1) (Qg y11))=AV.pv (enc y12)∧((decide (List.length ([(108:UInt8),(101:UInt8),(116:UInt8),(32:UInt8)]++Str.s (Nd.name n)++[(32:UInt8),(61:UInt8),(32:UInt8)])+List.length (Str.s y12)<=1099511627776))=true∧((decide (List.length ([(108:UInt8),(101:UInt8),(116:UInt8),(32:UInt8)]++Str.s (Nd.name n)++[(32:UInt8),(61:UInt8),(32:UInt8)]++Str.s y12)+List.length [(32:UInt8),(105:UInt8),(110:UInt8),(32:UInt8)]<=1099511627776))=true∧((decide (0<=1)&&decide (Int.toNat 1<List.length (List.map enc ks))&&Enc.sz Tm==10)=true∧(∃ y13:Tm,AV.pv (PV.rptr (PV.cells (List.getD (List.map enc ks) (Int.toNat 1) default)))=AV.pv (PV.rptr (PV.cells ((enc) y13)))∧(NG y13=true∧((Go.Pl.preT (fun(x:Tm×Unit)=>tW x.1&&YJ x.1&&decide (Yb x.1<N)) (Qg y13))=true∧(∃ y14:Str,AV.pv (Zf (fun(x:Tm×Unit)=>Zr x.1) (Qg y13))=AV.pv (enc y14)∧((decide (List.length ([(108:UInt8),(101:UInt8),(116:UInt8),(32:UInt8)]++Str.s (Nd.name n)++[(32:UInt8),(61:UInt8),(32:UInt8)]++Str.s y12++[(32:UInt8),(105:UInt8),(110:UInt8),(32:UInt8)])+List.length (Str.s y14)<=1099511627776))=true∧(G ((.str ([(108:UInt8),(101:UInt8),(116:UInt8),(32:UInt8)]++Str.s (Nd.name n)++[(32:UInt8),(61:UInt8),(32:UInt8)]++Str.s y12++[(32:UInt8),(105:UInt8),(110:UInt8),(32:UInt8)]++Str.s y14))))))))))))))))))else(if (Nd.kind n==2)=true then(Go.Pl.preT (fun(x:Tm×Unit)=>VO (Tm.nd x.1)) (BZ n ks))=true∧(∃ y15:Str,AV.pv (Zf (fun(x:Tm×Unit)=>P8 (Tm.nd x.1)) (BZ n ks))=AV.pv (enc y15)∧(G ((.str (Str.s y15)))))else(if (Nd.kind n==1)=true then G ((.str (Str.s (Nd.name n))))else(if (Nd.kind n==6)=true then(Go.Pl.preT (fun(x:Tm×Unit)=>tW x.1&&YJ x.1&&decide (Nd.kind (Tm.nd x.1)=6)&&decide (ZP (Tm.ks x.1)<N)) (BZ n ks))=true∧(∃ y16:Str,AV.pv (Zf (fun(x:Tm×Unit)=>Ce x.1) (BZ n ks))=AV.pv (enc y16)∧(G ((.str (Str.s y16)))))else(if (Nd.kind n==7)=true then(Go.Pl.preT (fun(x:List Tm×FnV 16×Unit)=>NE x.1&&Xc x.1&&decide (ZP x.1<N)) [(.sl 10 false (List.map enc ks)),(.fn 16)])=true∧(∃ y17:Str,AV.pv (Zf (fun(x:List Tm×FnV 16×Unit)=>Yi (List.map Zr x.1)) [(.sl 10 false (List.map enc ks)),(.fn 16)])=AV.pv (enc y17)∧((decide (List.length [(91:UInt8)]+List.length (Str.s y17)<=1099511627776))=true∧((decide (List.length ([(91:UInt8)]++Str.s y17)+List.length [(93:UInt8)]<=1099511627776))=true∧(G ((.str ([(91:UInt8)]++Str.s y17++[(93:UInt8)])))))))else(if (Nd.kind n==8)=true then(decide (0<=0)&&decide (Int.toNat 0<List.length (List.map enc ks))&&Enc.sz Tm==10)=true∧(∃ y18:Tm,AV.pv (PV.rptr (PV.cells (List.getD (List.map enc ks) (Int.toNat 0) default)))=AV.pv (PV.rptr (PV.cells ((enc) y18)))∧(NG y18=true∧((Go.Pl.preT (fun(x:Tm×Unit)=>tW x.1&&YJ x.1&&decide (Yb x.1<N)) (Qg y18))=true∧(∃ y19:Str,AV.pv (Zf (fun(x:Tm×Unit)=>Zr x.1) (Qg y18))=AV.pv (enc y19)∧((decide (0<=1)&&decide (Int.toNat 1<List.length (List.map enc ks))&&Enc.sz Tm==10)=true∧(∃ y20:Tm,AV.pv (PV.rptr (PV.cells (List.getD (List.map enc ks) (Int.toNat 1) default)))=AV.pv (PV.rptr (PV.cells ((enc) y20)))∧(NG y20=true∧((Go.Pl.preT (fun(x:Tm×Unit)=>tW x.1&&YJ x.1&&decide (Yb x.1<N)) (Qg y20))=true∧(∃ y21:Str,AV.pv (Zf (fun(x:Tm×Unit)=>Zr x.1) (Qg y20))=AV.pv (enc y21)∧((Go.Pl.preT (fun(x:List Str×Unit)=>Y8 x.1) [(.sl 1 false [(.str (Str.s (Nd.name n))),(.str (Str.s y19)),(.str (Str.s y21))])])=true∧(∃ y22:Str,AV.pv (Zf (fun(x:List Str×Unit)=>Yi x.1) [(.sl 1 false [(.str (Str.s (Nd.name n))),(.str (Str.s y19)),(.str (Str.s y21))])])=AV.pv (enc y22)∧((decide (List.length [(102:UInt8),(111:UInt8),(108:UInt8),(100:UInt8),(40:UInt8)]+List.length (Str.s y22)<=1099511627776))=true∧((decide (List.length ([(102:UInt8),(111:UInt8),(108:UInt8),(100:UInt8),(40:UInt8)]++Str.s y22)+List.length [(41:UInt8)]<=1099511627776))=true∧(G ((.str ([(102:UInt8),(111:UInt8),(108:UInt8),(100:UInt8),(40:UInt8)]++Str.s y22++[(41:UInt8)])))))))))))))))))else(if (Nd.kind n==9)=true then(decide (0<=0)&&decide (Int.toNat 0<List.length (List.map enc ks))&&Enc.sz Tm==10)=true∧(∃ y23:Tm,AV.pv (PV.rptr (PV.cells (List.getD (List.map enc ks) (Int.toNat 0) default)))=AV.pv (PV.rptr (PV.cells ((enc) y23)))∧(NG y23=true∧((Go.Pl.preT (fun(x:Tm×Unit)=>tW x.1&&YJ x.1&&decide (Yb x.1<N)) (Qg y23))=true∧(∃ y24:Str,AV.pv (Zf (fun(x:Tm×Unit)=>Zr x.1) (Qg y23))=AV.pv (enc y24)∧((Go.Pl.preT (fun(x:List Str×Unit)=>Y8 x.1) [(.sl 1 false [(.str (Str.s (Nd.name n))),(.str (Str.s y24))])])=true∧(∃ y25:Str,AV.pv (Zf (fun(x:List Str×Unit)=>Yi x.1) [(.sl 1 false [(.str (Str.s (Nd.name n))),(.str (Str.s y24))])])=AV.pv (enc y25)∧((decide (List.length [(115:UInt8),(99:UInt8),(97:UInt8),(110:UInt8),(40:UInt8)]+List.length (Str.s y25)<=1099511627776))=true∧((decide (List.length ([(115:UInt8),(99:UInt8),(97:UInt8),(110:UInt8),(40:UInt8)]++Str.s y25)+List.length [(41:UInt8)]<=1099511627776))=true∧(G ((.str ([(115:UInt8),(99:UInt8),(97:UInt8),(110:UInt8),(40:UInt8)]++Str.s y25++[(41:UInt8)]))))))))))))else(if (Nd.kind n==4)=true then(decide (0<=0)&&decide (Int.toNat 0<List.length (List.map enc (Nd.sizes n)))&&Enc.sz Lin==2)=true∧(∃ y26:Lin,AV.pv (PV.rptr (PV.cells (List.getD (List.map enc (Nd.sizes n)) (Int.toNat 0) default)))=AV.pv (PV.rptr (PV.cells ((enc) y26)))∧((Go.Pl.preT (fun(x:Lin×Unit)=>VN x.1) [(.agg [(.int .i64 (PV.asInt (List.getD (PV.cells (enc y26)) 0 default))),(.sl 2 false (PV.asXs (List.getD (PV.cells (enc y26)) (0+1) default)))])])=true∧(∃ y27:Str,AV.pv (Zf (fun(x:Lin×Unit)=>Str.mk (Ym x.1)) [(.agg [(.int .i64 (PV.asInt (List.getD (PV.cells (enc y26)) 0 default))),(.sl 2 false (PV.asXs (List.getD (PV.cells (enc y26)) (0+1) default)))])])=AV.pv (enc y27)∧((decide (List.length [(115:UInt8),(105:UInt8),(122:UInt8),(101:UInt8),(91:UInt8)]+List.length (Str.s y27)<=1099511627776))=true∧((decide (List.length ([(115:UInt8),(105:UInt8),(122:UInt8),(101:UInt8),(91:UInt8)]++Str.s y27)+List.length [(93:UInt8)]<=1099511627776))=true∧(G ((.str ([(115:UInt8),(105:UInt8),(122:UInt8),(101:UInt8),(91:UInt8)]++Str.s y27++[(93:UInt8)])))))))))else((Go.Pl.preT (fun(x:Arr×Unit)=>Qk x.1&&Ud x.1) [(.agg [(.str (Str.s (Nd.elem n))),(.sl 1 false (List.map enc (Nd.dims n))),(.sl 1 false (List.map enc (Nd.data n)))])])=true∧(∃ y28:Str×Int,AV.pv (Zf (fun(x:Arr×Unit)=>Ri x.1) [(.agg [(.str (Str.s (Nd.elem n))),(.sl 1 false (List.map enc (Nd.dims n))),(.sl 1 false (List.map enc (Nd.data n)))])])=AV.pv (enc y28)∧(G ((.str (Str.s y28.1)))))))))))))))))))):Zc (G6 N) 0 (Za Jm G) De [] (Ye 179 [.agg [enc n.kind,enc n.line,enc n.name,enc n.num,enc n.elem,enc n.dims,enc n.data,enc n.sizes,enc n.ranks,enc ks]]):=Zc.tp (.req (.abs (Str×Int) (fun YY=>AV.pv (enc YY)) (.req (.abs (Int) (fun YY=>AV.pv (enc YY)) (.lit (.ask (.req (.abs (Tm) (fun YY=>AV.pv (PV.rptr (PV.cells ((enc) YY)))) (.req (.req (.abs (Int) (fun YY=>AV.pv (enc YY)) (.req (.abs (Tm) (fun YY=>AV.pv (PV.rptr (PV.cells ((enc) YY)))) (.req (.req (.abs (Int) (fun YY=>AV.pv (enc YY)) (.lit (.ask (.lit (.lit (.lit (.ask (.lit (.lit (.lit (.lit (.req (.keep (.req (.req (.req (.lit (.req (.keep (.req (.nil)))))))))))))) (.lit (.lit (.lit (.lit (.lit (.req (.keep (.req (.req (.req (.lit (.req (.keep (.req (.nil))))))))))))))))))) (.lit (.lit (.lit (.lit (.req (.keep (.req (.req (.req (.lit (.req (.keep (.req (.nil)))))))))))))))))))))))))) (.lit (.ask (.req (.abs (Tm) (fun YY=>AV.pv (PV.rptr (PV.cells ((enc) YY)))) (.req (.lit (.ask (.lit (.lit (.lit (.lit (.ask (.lit (.lit (.lit (.lit (.ask (.lit (.lit (.lit (.req (.abs (Int) (fun YY=>AV.pv (enc YY)) (.lit (.ask (.lit (.lit (.req (.keep (.req (.nil)))))) (.lit (.lit (.req (.keep (.req (.nil))))))))))))) (.lit (.lit (.req (.abs (Int) (fun YY=>AV.pv (enc YY)) (.lit (.ask (.lit (.lit (.req (.keep (.req (.nil)))))) (.lit (.lit (.req (.keep (.req (.nil))))))))))))))))) (.lit (.lit (.lit (.lit (.lit (.lit (.req (.abs (Int) (fun YY=>AV.pv (enc YY)) (.lit (.ask (.lit (.lit (.req (.keep (.req (.nil)))))) (.lit (.lit (.req (.keep (.req (.nil))))))))))))))))))))) (.lit (.lit (.lit (.lit (.lit (.lit (.lit (.lit (.lit (.lit (.req (.abs (Int) (fun YY=>AV.pv (enc YY)) (.lit (.ask (.lit (.lit (.req (.keep (.req (.nil)))))) (.lit (.lit (.req (.keep (.req (.nil))))))))))))))))))))))))) (.lit (.ask (.req (.req (.req (.abs (Tm) (fun YY=>AV.pv (PV.rptr (PV.cells ((enc) YY)))) (.req (.req (.abs (Str) (fun YY=>AV.pv (enc YY)) (.req (.req (.req (.abs (Tm) (fun YY=>AV.pv (PV.rptr (PV.cells ((enc) YY)))) (.req (.req (.abs (Str) (fun YY=>AV.pv (enc YY)) (.req (.nil)))))))))))))))) (.lit (.ask (.req (.abs (Str) (fun YY=>AV.pv (enc YY)) (.nil))) (.lit (.ask (.nil) (.lit (.ask (.req (.abs (Str) (fun YY=>AV.pv (enc YY)) (.nil))) (.lit (.ask (.req (.abs (Str) (fun YY=>AV.pv (enc YY)) (.req (.req (.nil))))) (.lit (.ask (.req (.abs (Tm) (fun YY=>AV.pv (PV.rptr (PV.cells ((enc) YY)))) (.req (.req (.abs (Str) (fun YY=>AV.pv (enc YY)) (.req (.abs (Tm) (fun YY=>AV.pv (PV.rptr (PV.cells ((enc) YY)))) (.req (.req (.abs (Str) (fun YY=>AV.pv (enc YY)) (.lit (.lit (.req (.abs (Str) (fun YY=>AV.pv (enc YY)) (.req (.req (.nil))))))))))))))))) (.lit (.ask (.req (.abs (Tm) (fun YY=>AV.pv (PV.rptr (PV.cells ((enc) YY)))) (.req (.req (.abs (Str) (fun YY=>AV.pv (enc YY)) (.lit (.lit (.req (.abs (Str) (fun YY=>AV.pv (enc YY)) (.req (.req (.nil)))))))))))) (.lit (.ask (.req (.abs (Lin) (fun YY=>AV.pv (PV.rptr (PV.cells ((enc) YY)))) (.lit (.req (.abs (Str) (fun YY=>AV.pv (enc YY)) (.req (.req (.nil)))))))) (.req (.abs (Str×Int) (fun YY=>AV.pv (enc YY)) (.nil))))))))))))))))))))))))))) h (by kernel_rfl)
end Go.Pl

namespace Go.Pl
open Go.RowKit
open Enc (enc dec is)
open EncL (encL decL isL)
theorem Au{ks:List Tm}{k:Tm}(h:k∈ks):Yb k<=ZP ks:=by
 induction ks with
 | nil=>cases h
 | cons a ks ih=>
  rw[ZP]
  rcases List.mem_cons.1 h with rfl|h
  ·omega
  ·have:=ih h;omega
theorem WV{N:Nat}{t:Tm}(h1:tW t=true)(h2:YJ t=true)(h3:Yb t<N):(fun x:Tm×Unit=>(tW x.1&&YJ x.1)&&decide (Yb x.1<N)) (t,())=true:=by
 show(tW t&&YJ t&&decide (Yb t<N))=true
 rw[h1,h2,decide_eq_true h3];rfl
structure TxP (N:Nat) (ks:List Tm):Prop where
 w:Vp ks<=1048576
 v : ∀ k∈ks,YJ k=true
 d:ZP ks<N
theorem TxP.kid{N:Nat}{ks:List Tm}(h:TxP N ks){k:Tm}(hk:k∈ks):tW k=true∧YJ k=true∧Yb k<N:=
 ⟨decide_eq_true (Nat.le_trans (Pp hk) h.w),h.v k hk,Nat.lt_of_le_of_lt (Au hk) h.d⟩
theorem TxP.pre{N:Nat}{ks:List Tm}(h:TxP N ks):(fun x:List Tm×FnV 16×Unit=>(NE x.1&&Xc x.1)&&decide (ZP x.1<N)) (ks,{},())=true:=by
 show(NE ks&&Xc ks&&decide (ZP ks<N))=true
 rw[show NE ks=true from decide_eq_true h.w,QM,List.all_eq_true.2 h.v,decide_eq_true h.d];rfl
theorem TxP.com{N:Nat}{ks:List Tm}(h:TxP N ks):(Yd (ks.map ZV)).length<=1153433600:=by
 have h1:=Y1 (ks.map ZV)
 have h2:=J3 ks (by rw[QM];exact List.all_eq_true.2 h.v)
 have h3:((ks.map ZV).map fun s=>s.length+2).sum<=((Yw ks).map fun x=>x.2.2.length+4).sum:=by
  rw[VC,Sn,Sn]
  exact Db fun x _=>by show(ZV x).length+2<=(ZV x).length+4;omega
 have:=h.w
 omega
theorem TxP.len{N:Nat}{ks:List Tm}(h:TxP N ks){k:Tm}(hk:k∈ks):(ZV k).length<=1153433592:=MH (h.kid hk).1 (h.kid hk).2.1
theorem TxP.join{N:Nat}{ks:List Tm}(h:TxP N ks):Y8 (ks.map Zr)=true:=by
 have h1:=h.com
 have h2:=Cz ks
 have h3:=h.w
 unfold Y8
 have e:=JF ks
 unfold Yi at e
 rw[decide_eq_true (by rw[List.length_map];omega),Bool.true_and]
 exact decide_eq_true (by rw[show Yd ((ks.map Zr).map (·.s))=Yd (ks.map ZV)from e];omega)
theorem Ef(N:Nat)(l:List Tm)(hl:l.length<=1048576)(hp:TxP N l)(hj:Y8 (l.map Zr)=true): ∀ (d i:Nat),d+i=l.length ->
  At (KI N) 0 (Za UE (Zk (Yi (l.map Zr)))) Qd 0 27 [(1,.pv (.fn 16)),(5,.row 0 l.length 0 l.length),(11,.pv (enc l)),(12,.pv (.int .i64 l.length)),(13,.pv (.int .i64 i))] [.obj (.row false 9 1 ((Gi (l.map Zr) i).map enc))]:=by
 intro d
 induction d with
 | zero=>
  intro i hi
  have hil:i=l.length:=by omega
  subst hil
  have e:Gi (l.map Zr) l.length=l.map Zr:=by have:=TY (l.map Zr);rw[List.length_map]at this;exact this
  rw[e]
  have e2:=MB (m:=l.map Zr)
  rw[List.length_map]at e2
  refine FL N l _ _ (XR (YV (by omega)) ⟨by simp,?_⟩)
  rw[e2]
  exact⟨Ze (l.map Zr,()) rfl hj,Zg (l.map Zr,()) rfl (Zt rfl)⟩
 | succ d ih=>
  intro i hi
  have hlt:i<l.length:=by omega
  have hk:=hp.kid (List.getElem_mem hlt)
  have ho:(Gi (l.map Zr) i).length=l.length:=by rw[AB _ _ (by rw[List.length_map];omega),List.length_map]
  refine FL N l _ _ (XQ (YU hlt) ⟨Yl hlt rfl,Y9 hlt ⟨Ww _,Ze (l[i],()) (Z7 _) (WV hk.1 hk.2.1 hk.2.2),Zg (l[i],()) (Z7 _) ⟨Mt hlt ho,NR hlt ho,?_⟩⟩⟩)
  have e:(Gi (l.map Zr) i).set i (Zr l[i])=Gi (l.map Zr) (i+1):=by
   have:=Tx (m:=l.map Zr) (i:=i) (by rw[List.length_map];exact hlt)
   rw[List.getElem_map]at this
   exact this
  have e2:=LW (o:=Gi (l.map Zr) i) (i:=i) (by omega) (Zr l[i])
  rw[e]at e2
  rw[next (by omega)]
  have h:=ih (i+1) (by omega)
  rw[<- e2]at h
  exact h
theorem a4y(N:Nat): ∀ x:List Tm×FnV 16×Unit,((NE x.1&&Xc x.1)&&decide (ZP x.1<N))=true->Zc (KI N) 0 (Za UE (Zk (Yi (x.1.map Zr)))) Qd [] (Ye b6t (encL x)):=by
 rintro⟨l,g,⟨⟩⟩ h
 have h':=h
 simp only[Bool.and_eq_true,decide_eq_true_eq,QM,List.all_eq_true]at h'
 have hp:TxP N l:=⟨of_decide_eq_true h'.1.1,h'.1.2,h'.2⟩
 have hl:l.length<=1048576:=Nat.le_trans (Cz l) hp.w
 refine c2i N l ⟨by rw[List.length_map];exact b0a _ hl,?_⟩
 have:=Ef N l hl hp hp.join l.length 0 (by omega)
 rw[DI,List.map_replicate,List.length_map]at this
 rw[List.length_map,Int.toNat_natCast]
 exact this
theorem WQ{α:Type}[Enc α]{l:List α}:(((List.length (List.map (enc:α->PV) l):Nat):Int)>0) ↔ l≠[]:=by
 cases l <;> simp
theorem b2h{x y:Int}{P Q:Prop}(h1:x≠y->P)(h2:x=y->Q):if (x != y)=true then P else Q:=by
 by_cases hxy:x=y
 ·rw[if_neg (by simpa using hxy)];exact h2 hxy
 ·rw[if_pos (by simpa using hxy)];exact h1 hxy
theorem ZH{a b:Nat}(h:a+b<=1099511627776):decide (a+b<=1099511627776)=true:=decide_eq_true h
theorem Z5{a b A B:Nat}(ha:a<=A)(hb:b<=B)(h:A+B<=1099511627776):decide (a+b<=1099511627776)=true:=decide_eq_true (by omega)
theorem Yc{a b:List UInt8}{A B:Nat}(ha:a.length<=A)(hb:b.length<=B):(a++b).length<=A+B:=by rw[List.length_append];omega
theorem MF{n:Nd}{k:Nat}(h:Xr n k=true):n.name.s.length<=61∧(n.num.natAbs<=64∧0<=n.num)∧n.sizes.length<=4∧n.ranks.length<=8∧n.sizes.all Zw=true∧XP n.ranks=true:=by
 unfold Xr at h
 simp only[Bool.and_eq_true,decide_eq_true_eq,Bool.or_eq_true]at h
 refine⟨(VF h.1.1.1.1.1.1.1).2.2,⟨by omega,by omega⟩,by omega,?_,h.1.2,h.2⟩
 rcases h.1.1.1.2 with hr|hr
 ·rw[List.isEmpty_iff.1 hr];simp
 ·omega
theorem Ev(N:Nat): ∀ x:Tm×Unit,(((tW x.1&&YJ x.1)&&decide (x.1.nd.kind=6))&&decide (ZP x.1.ks<N))=true->Zc (Gy N) 0 (Za K6 (Zk (Ce x.1))) Cr [] (Ye a5f (encL x)):=by
 rintro⟨⟨n,ks⟩,⟨⟩⟩ h
 have h':=h
 simp only[Bool.and_eq_true,decide_eq_true_eq]at h'
 obtain⟨⟨⟨hw,hv⟩,hk⟩,hd⟩:=h'
 have hk:n.kind=6:=hk
 have hw:tW (.mk n ks)=true:=hw
 have hv:=Qm hv
 have hwk:Vp ks<=1048576:=by have h1:KX (.mk n ks)<=1048576:=of_decide_eq_true hw;rw[KX]at h1;omega
 have hp:TxP N ks:=⟨hwk,hv.2,hd⟩
 have hc:Xr n ks.length=true:=by
  have h1:=hv.1
  unfold Vl Us at h1
  rw[hk]at h1
  simp at h1
  exact h1.2.2
 obtain⟨c1,c2,c3,c4,c5,c6⟩:=MF hc
 have l3:=hp.com
 rw[<- JF]at l3
 have l0:(Yi (n.sizes.map Yx)).s.length<=4008:=by
  rw[BB]
  have h1:=Y1 (n.sizes.map Ym)
  rw[List.map_map]at h1
  have h2:=JU (f:=(fun s:List UInt8=>s.length+2) ∘ Ym) (c:=1002) (l:=n.sizes) fun x _=>by
   have:=Ui x
   show(Ym x).length+2<=_
   omega
  omega
 have l1:(ZI n.num).s.length<=21:=V9 (by omega)
 have l2:(Yi (n.ranks.map ZI)).s.length<=184:=by
  rw[a2h]
  have h1:=Y1 (n.ranks.map UD)
  rw[List.map_map]at h1
  have h2:=JU (f:=(fun s:List UInt8=>s.length+2) ∘ UD) (c:=23) (l:=n.ranks) fun x hx=>by
   have h7:=List.all_eq_true.1 c6 x hx
   simp only[Bool.and_eq_true,decide_eq_true_eq]at h7
   have:=V9 (n:=x) (by omega)
   show(UD x).length+2<=_
   omega
  omega
 have e0:=BB n.sizes
 have e2:=a2h n.ranks
 have e3:=JF ks
 have fin : ∀ s,s=Vj n (ks.map ZV)->Zk (Ce (.mk n ks)) (.str s):=fun s hs=>Zt (x:=(⟨s⟩:Str)) (by rw[hs];rfl)
 have p0:(fun x:List Lin×FnV 29×Unit=>decide (x.1.length<=1048576)&&x.1.all Zw) (n.sizes,{},())=true:=by show(decide (n.sizes.length<=1048576)&&n.sizes.all Zw)=true;rw[c5,decide_eq_true (by omega)];rfl
 have p1:(fun x:Int×Unit=>decide (-9223372036854775808<=x.1)&&decide (x.1<=9223372036854775807)) (n.num,())=true:=by show(decide _&&decide _)=true;rw[decide_eq_true (by omega),decide_eq_true (by omega)];rfl
 have p2:(fun x:List Int×FnV 51×Unit=>decide (x.1.length<=1048576)&&XP x.1) (n.ranks,{},())=true:=by show(decide (n.ranks.length<=1048576)&&XP n.ranks)=true;rw[c6,decide_eq_true (by omega)];rfl
 rw[<- Yy]
 show Zc (Gy N) 0 (Za K6 (Zk (Ce (.mk n ks)))) _ _ _
 have s0:(Yi (List.map Yx ((n.sizes,({}:FnV 29),()):List Lin×FnV 29×Unit).1)).s=(Yi (n.sizes.map Yx)).s:=rfl
 refine b2b N n ks (Yp (fun hs=> ?_) fun hs=> ?_)
 ·rw[WQ]at hs
  refine⟨Ze (n.sizes,{},()) rfl p0,Zg (n.sizes,{},()) rfl ⟨(ZH (by simp only[List.length_append,List.length_cons,List.length_nil];omega)),(ZH (by simp only[List.length_append,List.length_cons,List.length_nil];omega)),(ZH (by simp only[List.length_append,List.length_cons,List.length_nil];omega)),?_⟩⟩
  refine b2h (fun hm=> ?_) fun hm=> ?_
  ·refine⟨Ze (n.num,()) rfl p1,Zg (n.num,()) rfl ⟨(ZH (by simp only[List.length_append,List.length_cons,List.length_nil];omega)),(ZH (by simp only[List.length_append,List.length_cons,List.length_nil];omega)),(ZH (by simp only[List.length_append,List.length_cons,List.length_nil];omega)),?_⟩⟩
   refine Yp (fun hr=> ?_) fun hr=> ?_
   ·rw[WQ]at hr
    refine⟨Ze (n.ranks,{},()) rfl p2,Zg (n.ranks,{},()) rfl ⟨(ZH (by simp only[List.length_append,List.length_cons,List.length_nil];omega)),(ZH (by simp only[List.length_append,List.length_cons,List.length_nil];omega)),(ZH (by simp only[List.length_append,List.length_cons,List.length_nil];omega)),?_⟩⟩
    exact⟨(ZH (by simp only[List.length_append,List.length_cons,List.length_nil];omega)),Ze (ks,{},()) rfl hp.pre,Zg (ks,{},()) rfl ⟨(ZH (by simp only[List.length_append,List.length_cons,List.length_nil];omega)),(ZH (by simp only[List.length_append,List.length_cons,List.length_nil];omega)),fin _ (by simp[Vj,e0,e2,e3,UD,List.append_assoc,hs,hm,hr])⟩⟩
   ·rw[WQ,Classical.not_not]at hr
    exact⟨(ZH (by simp only[List.length_append,List.length_cons,List.length_nil];omega)),Ze (ks,{},()) rfl hp.pre,Zg (ks,{},()) rfl ⟨(ZH (by simp only[List.length_append,List.length_cons,List.length_nil];omega)),(ZH (by simp only[List.length_append,List.length_cons,List.length_nil];omega)),fin _ (by simp[Vj,e0,e2,e3,UD,List.append_assoc,hs,hm,hr])⟩⟩
  ·refine Yp (fun hr=> ?_) fun hr=> ?_
   ·rw[WQ]at hr
    refine⟨Ze (n.ranks,{},()) rfl p2,Zg (n.ranks,{},()) rfl ⟨(ZH (by simp only[List.length_append,List.length_cons,List.length_nil];omega)),(ZH (by simp only[List.length_append,List.length_cons,List.length_nil];omega)),(ZH (by simp only[List.length_append,List.length_cons,List.length_nil];omega)),?_⟩⟩
    exact⟨(ZH (by simp only[List.length_append,List.length_cons,List.length_nil];omega)),Ze (ks,{},()) rfl hp.pre,Zg (ks,{},()) rfl ⟨(ZH (by simp only[List.length_append,List.length_cons,List.length_nil];omega)),(ZH (by simp only[List.length_append,List.length_cons,List.length_nil];omega)),fin _ (by simp[Vj,e0,e2,e3,UD,List.append_assoc,hs,hm,hr])⟩⟩
   ·rw[WQ,Classical.not_not]at hr
    exact⟨(ZH (by simp only[List.length_append,List.length_cons,List.length_nil];omega)),Ze (ks,{},()) rfl hp.pre,Zg (ks,{},()) rfl ⟨(ZH (by simp only[List.length_append,List.length_cons,List.length_nil];omega)),(ZH (by simp only[List.length_append,List.length_cons,List.length_nil];omega)),fin _ (by simp[Vj,e0,e2,e3,UD,List.append_assoc,hs,hm,hr])⟩⟩
 ·rw[WQ,Classical.not_not]at hs
  refine b2h (fun hm=> ?_) fun hm=> ?_
  ·refine⟨Ze (n.num,()) rfl p1,Zg (n.num,()) rfl ⟨(ZH (by simp only[List.length_append,List.length_cons,List.length_nil];omega)),(ZH (by simp only[List.length_append,List.length_cons,List.length_nil];omega)),(ZH (by simp only[List.length_append,List.length_cons,List.length_nil];omega)),?_⟩⟩
   refine Yp (fun hr=> ?_) fun hr=> ?_
   ·rw[WQ]at hr
    refine⟨Ze (n.ranks,{},()) rfl p2,Zg (n.ranks,{},()) rfl ⟨(ZH (by simp only[List.length_append,List.length_cons,List.length_nil];omega)),(ZH (by simp only[List.length_append,List.length_cons,List.length_nil];omega)),(ZH (by simp only[List.length_append,List.length_cons,List.length_nil];omega)),?_⟩⟩
    exact⟨(ZH (by simp only[List.length_append,List.length_cons,List.length_nil];omega)),Ze (ks,{},()) rfl hp.pre,Zg (ks,{},()) rfl ⟨(ZH (by simp only[List.length_append,List.length_cons,List.length_nil];omega)),(ZH (by simp only[List.length_append,List.length_cons,List.length_nil];omega)),fin _ (by simp[Vj,e0,e2,e3,UD,List.append_assoc,hs,hm,hr])⟩⟩
   ·rw[WQ,Classical.not_not]at hr
    exact⟨(ZH (by simp only[List.length_append,List.length_cons,List.length_nil];omega)),Ze (ks,{},()) rfl hp.pre,Zg (ks,{},()) rfl ⟨(ZH (by simp only[List.length_append,List.length_cons,List.length_nil];omega)),(ZH (by simp only[List.length_append,List.length_cons,List.length_nil];omega)),fin _ (by simp[Vj,e0,e2,e3,UD,List.append_assoc,hs,hm,hr])⟩⟩
  ·refine Yp (fun hr=> ?_) fun hr=> ?_
   ·rw[WQ]at hr
    refine⟨Ze (n.ranks,{},()) rfl p2,Zg (n.ranks,{},()) rfl ⟨(ZH (by simp only[List.length_append,List.length_cons,List.length_nil];omega)),(ZH (by simp only[List.length_append,List.length_cons,List.length_nil];omega)),(ZH (by simp only[List.length_append,List.length_cons,List.length_nil];omega)),?_⟩⟩
    exact⟨(ZH (by simp only[List.length_append,List.length_cons,List.length_nil];omega)),Ze (ks,{},()) rfl hp.pre,Zg (ks,{},()) rfl ⟨(ZH (by simp only[List.length_append,List.length_cons,List.length_nil];omega)),(ZH (by simp only[List.length_append,List.length_cons,List.length_nil];omega)),fin _ (by simp[Vj,e0,e2,e3,UD,List.append_assoc,hs,hm,hr])⟩⟩
   ·rw[WQ,Classical.not_not]at hr
    exact⟨(ZH (by simp only[List.length_append,List.length_cons,List.length_nil];omega)),Ze (ks,{},()) rfl hp.pre,Zg (ks,{},()) rfl ⟨(ZH (by simp only[List.length_append,List.length_cons,List.length_nil];omega)),(ZH (by simp only[List.length_append,List.length_cons,List.length_nil];omega)),fin _ (by simp[Vj,e0,e2,e3,UD,List.append_assoc,hs,hm,hr])⟩⟩
theorem b0v{xs:List AV}{t:Tm}(h:NC xs=some t): ∃ n ks,t = .mk n ks∧xs=ZN n ks:=by
 unfold NC at h
 split at h
 ·split at h
  ·rename_i hc
   obtain⟨⟨n,ks⟩,e⟩:=NK hc
   rw[e,Enc.dec_enc]at h
   cases h
   rw[ZX]at e
   cases e
   exact⟨n,ks,rfl,rfl⟩
  ·cases h
 ·cases h
theorem a4a(N:Nat): ∀ args os,YP N args os=true->Zc (M3 N) os.length (YB os.length A9 fun r=>r=TZ args os) TG [] (Vb b6r args os):=by
 intro args os h
 unfold YP at h
 split at h
 ·rename_i k b xs
  unfold Ck at h
  split at h
  ·rename_i t ht
   obtain⟨n,ks,rfl,rfl⟩:=b0v ht
   simp only[Bool.and_eq_true,decide_eq_true_eq]at h
   obtain⟨⟨⟨⟨hw,hv⟩,hd⟩,h0⟩,hk⟩:=h
   obtain⟨i,rfl⟩:=Int.eq_ofNat_of_zero_le h0
   have hwk:Vp ks<=1048576:=by have h1:KX (.mk n ks)<=1048576:=of_decide_eq_true hw;rw[KX]at h1;omega
   have hp:TxP N ks:=⟨hwk,(Qm hv).2,hd⟩
   have hlt:i<ks.length:=by have hk:(i:Int)<(ks.length:Int):=hk;omega
   have hki:=hp.kid (List.getElem_mem hlt)
   have hl:=hp.len (List.getElem_mem hlt)
   have e : ∀ b:Bool,YC (ZN n ks) (i:Int) b=Vr (!b) (ZV ks[i]):=fun b=>by
    rw[UV,Int.toNat_natCast]
    simp[List.getD,hlt]
   refine b9p N n ks (i:Int) b (WC (fun hb=> ?_) fun hb=> ?_)
   ·refine⟨Yl hlt rfl,Y9 hlt ⟨Ww _,Ze (ks[i],()) (Z7 _) (WV hki.1 hki.2.1 hki.2.2),Zg (ks[i],()) (Z7 _) ?_⟩⟩
    subst hb
    show _=((AV.pv (.str (YC (ZN n ks) (i:Int) true)),[AObj.box (ZN n ks)],[]):AV×List AObj×List AObj)
    rw[e]
    rfl
   ·refine⟨Yl hlt rfl,Y9 hlt ⟨Ww _,Ze (ks[i],()) (Z7 _) (WV hki.1 hki.2.1 hki.2.2),Zg (ks[i],()) (Z7 _) ⟨Z5 (show _<=8 by decide) hl (by omega),Z5 (Yc (show _<=8 by decide) hl) (show _<=8 by decide) (by omega),?_⟩⟩⟩
    subst hb
    show _=((AV.pv (.str (YC (ZN n ks) (i:Int) false)),[AObj.box (ZN n ks)],[]):AV×List AObj×List AObj)
    rw[e]
    rfl
  ·cases h
 ·cases h
theorem EK{n:Nd}{xs:List (Int×Bool×List UInt8)}(h:Bo n xs.length=none):Qo n xs=(if n.kind=1 then n.name.s
  else if n.kind=2 then SI n
  else if n.kind=4 then [115,105,122,101,91]++(match n.sizes with|[]=>[]|l::_=>Ym l)++[93]
  else if n.kind=5 then [108,101,116,32]++n.name.s++[32,61,32]++(match xs with|[a,b]=>a.2.2++[32,105,110,32]++b.2.2|_=>[])
  else if n.kind=6 then Vj n (xs.map (·.2.2))
  else if n.kind=7 then [91]++Yd (xs.map (·.2.2))++[93]
  else if n.kind=8 then [102,111,108,100,40]++Yd (n.name.s::xs.map (·.2.2))++[41]
  else if n.kind=9 then [115,99,97,110,40]++Yd (n.name.s::xs.map (·.2.2))++[41]
  else Bd (Q7 n)):=by
 unfold Qo
 rw[h]
 rfl
theorem c5x(t:Tm):PV.asInt (List.getD (PV.cells (enc t)) 0 default)=t.nd.kind:=by obtain⟨n,ks⟩:=t;rw[ZX];rfl
theorem c5m(t:Tm):PV.asStr (List.getD (PV.cells (enc t)) (0+1+1) default)=t.nd.name.s:=by obtain⟨n,ks⟩:=t;rw[ZX];rfl
theorem c6g(t:Tm):PV.asInt (List.getD (PV.cells (enc t)) (0+1+1+1) default)=t.nd.num:=by obtain⟨n,ks⟩:=t;rw[ZX];rfl
theorem b0h{n:Nd}{k:Nat}{r:OpR}(h:Bo n k=some r):n.kind=6:=by
 unfold Bo at h
 cases hq:Pk n.name.s with
 | none=>simp[hq]at h
 | some q=>
  simp[hq]at h
  exact h.1.1
theorem b4l{n:Nd}{k:Nat}{r:OpR}(h:Bo n k=some r):Nt n k=r.l:=by
 unfold Nt
 rw[if_neg (by rw[b0h h];decide),h]
theorem N7(a b:List UInt8):(a==b)=decide (a=b):=by by_cases h:a=b <;> simp[h]
theorem Oj{α:Type}{l:List α}(h:l.length=2): ∃ a b,l=[a,b]:=by
 match l,h with
 | [a,b],_=>exact⟨a,b,rfl⟩
theorem b5j{n:Nd}{r:OpR}{x y:Int×Bool×List UInt8}(h:Bo n 2=some r):Qo n [x,y]=Vr (decide (x.1<r.l)||(decide (x.1=3)&&decide (r.l=3))) x.2.2++[32]++r.s++[32]++Vr (decide (y.1<=r.l)) y.2.2:=by
 unfold Qo
 rw[show [x,y].length=2 from rfl,h]
theorem b8d{n:Nd}{r:OpR}{x:Int×Bool×List UInt8}(h:Bo n 1=some r):Qo n [x]=r.s++Vr (decide (x.1<6)||(decide (r.s=[45])&&x.2.1)) x.2.2:=by
 unfold Qo
 rw[show [x].length=1 from rfl,h]
theorem EM(N:Nat): ∀ x:Tm×Unit,((tW x.1&&YJ x.1)&&decide (Yb x.1<N+1))=true->Zc (G6 N) 0 (Za Jm (Zk (Zr x.1))) De [] (Ye a8f (encL x)):=by
 rintro⟨⟨n,ks⟩,⟨⟩⟩ h
 simp only[Bool.and_eq_true,decide_eq_true_eq]at h
 obtain⟨⟨hw,hva⟩,hd⟩:=h
 have hw:tW (.mk n ks)=true:=hw
 have hva:YJ (.mk n ks)=true:=hva
 have hd:Yb (.mk n ks)<N+1:=hd
 rw[Yb]at hd
 have hv:=Qm hva
 have hwk:Vp ks<=1048576:=by have h1:KX (.mk n ks)<=1048576:=of_decide_eq_true hw;rw[KX]at h1;omega
 have hp:TxP N ks:=⟨hwk,hv.2,by omega⟩
 have hln:=(ndB hw).name
 have hkb:Us n ks.length=true:=by
  have:=hv.1
  unfold Vl at this
  simp only[Bool.and_eq_true]at this
  exact this.2
 have fin : ∀ s,s=Qo n (Yw ks)->Zk (Zr (.mk n ks)) (.str s):=fun s hs=>Zt (x:=(⟨s⟩:Str)) (by rw[hs,Zr,ZV])
 rw[<- Yy]
 show Zc (G6 N) 0 (Za Jm (Zk (Zr (.mk n ks)))) _ _ _
 refine b4p N n ks ⟨Ze (.mk n ks,()) (Yy n ks) hw,Zg (.mk n ks,()) (Yy n ks) ⟨Ze (.mk n ks,()) (Yy n ks) hw,Zg (.mk n ks,()) (Yy n ks) ?_⟩⟩
 generalize Zk (Zr (.mk n ks))=G at fin ⊢
 have eo0:UM (.mk n ks)=Ra n ks.length:=rfl
 have el0:XV (.mk n ks)=Nt n ks.length:=rfl
 rw[show UM ((Tm.mk n ks,()):Tm×Unit).1=Ra n ks.length from rfl,show XV ((Tm.mk n ks,()):Tm×Unit).1=Nt n ks.length from rfl]
 cases ho:Bo n ks.length with
 | some r=>
  obtain⟨hm,hk⟩:=OH ho
  have hr:=(Rw ho).2
  have eo:Ra n ks.length=((⟨r.s⟩,if r.u then 1 else 2):Str×Int):=by unfold Ra;rw[ho]
  rw[eo,b4l ho]
  cases hu:r.u with
  | false=>
   rw[hu]at hk
   match ks,hk with
   | [a,b],_=>
    have ma:a∈[a,b]:=by simp
    have mb:b∈[a,b]:=by simp
    have ha:=hp.kid ma
    have hb:=hp.kid mb
    have la:=hp.len ma
    have lb:=hp.len mb
    have hV0 : ∀ f,(YC (ZN n [a,b]) 0 f).length<=1153433594:=fun f=>by
     rw[UV];have:=QF (!f) (ZV a);show(Vr (!f) (ZV a)).length<=_;omega
    have hV1 : ∀ f,(YC (ZN n [a,b]) 1 f).length<=1153433594:=fun f=>by
     rw[UV];have:=QF (!f) (ZV b);show(Vr (!f) (ZV b)).length<=_;omega
    have P0:Ck N (ZN n [a,b]) 0=true:=CU hw hva hp.d (by omega) (by simp)
    have P1:Ck N (ZN n [a,b]) 1=true:=CU hw hva hp.d (by omega) (by simp)
    have enod : ∀ f g:Bool,(!f)=(decide (XV a<r.l)||(decide (XV a=3)&&decide (r.l=3)))->g=decide (XV b>r.l)->YC (ZN n [a,b]) 0 f++[32]++r.s++[32]++YC (ZN n [a,b]) 1 g=Qo n (Yw [a,b]):=fun f g hf hg=>by
     rw[UV,UV]
     simp only[Yw]
     rw[b5j ho,hf,hg]
     show Vr _ (ZV a)++[32]++r.s++[32]++Vr (!decide (XV b>r.l)) (ZV b)=Vr _ (ZV a)++[32]++r.s++[32]++Vr (decide (XV b<=r.l)) (ZV b)
     rw[show(!decide (XV b>r.l))=decide (XV b<=r.l)from by rw[<- decide_not];exact decide_eq_decide.2 (by omega)]
    refine XQ rfl ⟨rfl,a,rfl,Ww a,Ze (a,()) (Z7 a) ha.1,Zg (a,()) (Z7 a) ⟨rfl,b,rfl,Ww b,Ze (b,()) (Z7 b) hb.1,Zg (b,()) (Z7 b) (Yp (fun h1=>b2h (fun h2=> ?_) fun h2=> ?_) fun h1=> ?_)⟩⟩
    ·refine⟨P0,Z5 (hV0 _) (show _<=8 by decide) (by omega),Z5 (Yc (hV0 _) (show _<=8 by decide)) hr (by omega),Z5 (Yc (Yc (hV0 _) (show _<=8 by decide)) hr) (show _<=8 by decide) (by omega),P1,Z5 (Yc (Yc (Yc (hV0 _) (show _<=8 by decide)) hr) (show _<=8 by decide)) (hV1 _) (by omega),fin _ (enod _ _ ?_ rfl)⟩
     have h1:XV a ≥ r.l:=h1
     have h2:XV a≠3:=h2
     simp[h2];omega
    ·refine⟨P0,Z5 (hV0 _) (show _<=8 by decide) (by omega),Z5 (Yc (hV0 _) (show _<=8 by decide)) hr (by omega),Z5 (Yc (Yc (hV0 _) (show _<=8 by decide)) hr) (show _<=8 by decide) (by omega),P1,Z5 (Yc (Yc (Yc (hV0 _) (show _<=8 by decide)) hr) (show _<=8 by decide)) (hV1 _) (by omega),fin _ (enod _ _ ?_ rfl)⟩
     have h1:XV a ≥ r.l:=h1
     have h2:XV a=3:=h2
     rw[h2,decide_eq_false (show ¬ (3:Int)<r.l by omega)]
     by_cases h3:r.l=3
     ·rw[h3];rfl
     ·simp[h3]
    ·refine⟨P0,Z5 (hV0 _) (show _<=8 by decide) (by omega),Z5 (Yc (hV0 _) (show _<=8 by decide)) hr (by omega),Z5 (Yc (Yc (hV0 _) (show _<=8 by decide)) hr) (show _<=8 by decide) (by omega),P1,Z5 (Yc (Yc (Yc (hV0 _) (show _<=8 by decide)) hr) (show _<=8 by decide)) (hV1 _) (by omega),fin _ (enod _ _ ?_ rfl)⟩
     have h1 : ¬ XV a ≥ r.l:=h1
     rw[decide_eq_true (show XV a<r.l by omega)];rfl
  | true=>
   rw[hu]at hk
   match ks,hk with
   | [a],_=>
    have ma:a∈[a]:=by simp
    have ha:=hp.kid ma
    have la:=hp.len ma
    have hV0 : ∀ f,(YC (ZN n [a]) 0 f).length<=1153433594:=fun f=>by
     rw[UV];have:=QF (!f) (ZV a);show(Vr (!f) (ZV a)).length<=_;omega
    have P0:Ck N (ZN n [a]) 0=true:=CU hw hva hp.d (by omega) (by simp)
    have enod : ∀ f:Bool,(!f)=(decide (XV a<6)||(decide (r.s=[45])&&Ld a))->r.s++YC (ZN n [a]) 0 f=Qo n (Yw [a]):=fun f hf=>by
     rw[UV]
     simp only[Yw]
     rw[b8d ho,hf]
     rfl
    have e6:XV a ≥ 6->decide (XV a<6)=false:=fun h=>decide_eq_false (by omega)
    have e6' : ¬ XV a ≥ 6->decide (XV a<6)=true:=fun h=>decide_eq_true (by omega)
    refine XR (by simp) (XQ rfl ⟨rfl,a,rfl,Ww a,?_⟩)
    rw[c5x,c5m,c6g]
    have nn : ¬ (a.nd.kind=2∧a.nd.name.s=UA∧a.nd.num ≥ 0)->Ld a=false:=fun h=>by
     unfold Ld
     rw[Bool.and_eq_false_iff,Bool.and_eq_false_iff,decide_eq_false_iff_not,decide_eq_false_iff_not,decide_eq_false_iff_not]
     by_cases q1:a.nd.kind=2
     ·by_cases q2:a.nd.name.s=UA
      ·exact .inr fun q3=>h ⟨q1,q2,q3⟩
      ·exact .inl (.inr q2)
     ·exact .inl (.inl q1)
    refine ZU (fun h2=>ZU (fun h3=>Yp (fun h4=> ?_) fun h4=> ?_) fun h3=> ?_) fun h2=> ?_
    ·have en:Ld a=true:=by unfold Ld;rw[decide_eq_true h2,decide_eq_true (show a.nd.name.s=UA from h3),decide_eq_true h4];rfl
     refine⟨Ze (a,()) (Z7 a) ha.1,Zg (a,()) (Z7 a) (Yp (fun h6=>⟨P0,Z5 hr (hV0 _) (by omega),fin _ (enod _ ?_)⟩) fun h6=>⟨P0,Z5 hr (hV0 _) (by omega),fin _ (enod _ ?_)⟩)⟩
     ·rw[e6 h6,en];simp[N7]
     ·rw[e6' h6];rfl
    ·have en:=nn fun x=>h4 x.2.2
     refine⟨Ze (a,()) (Z7 a) ha.1,Zg (a,()) (Z7 a) (Yp (fun h6=>⟨P0,Z5 hr (hV0 _) (by omega),fin _ (enod _ ?_)⟩) fun h6=>⟨P0,Z5 hr (hV0 _) (by omega),fin _ (enod _ ?_)⟩)⟩
     ·rw[e6 h6,en];simp
     ·rw[e6' h6];rfl
    ·have en:=nn fun x=>h3 x.2.1
     refine⟨Ze (a,()) (Z7 a) ha.1,Zg (a,()) (Z7 a) (Yp (fun h6=>⟨P0,Z5 hr (hV0 _) (by omega),fin _ (enod _ ?_)⟩) fun h6=>⟨P0,Z5 hr (hV0 _) (by omega),fin _ (enod _ ?_)⟩)⟩
     ·rw[e6 h6,en];simp
     ·rw[e6' h6];rfl
    ·have en:=nn fun x=>h2 x.1
     refine⟨Ze (a,()) (Z7 a) ha.1,Zg (a,()) (Z7 a) (Yp (fun h6=>⟨P0,Z5 hr (hV0 _) (by omega),fin _ (enod _ ?_)⟩) fun h6=>⟨P0,Z5 hr (hV0 _) (by omega),fin _ (enod _ ?_)⟩)⟩
     ·rw[e6 h6,en];simp
     ·rw[e6' h6];rfl
 | none=>
  have eo:Ra n ks.length=((⟨[]⟩,0):Str×Int):=by unfold Ra;rw[ho]
  have hn:Qo n (Yw ks)=_:=EK (by rw[VC,List.length_map];exact ho)
  have et:(Yw ks).map (·.2.2)=ks.map ZV:=by rw[VC,List.map_map];rfl
  rw[et]at hn
  rw[hn]at fin
  rw[eo]
  refine XR (by simp) (XR (by simp) (ZU (fun h=> ?_) fun h5=>ZU (fun h=> ?_) fun h2=>ZU (fun h=> ?_) fun h1=>ZU (fun h=> ?_) fun h6=>ZU (fun h=> ?_) fun h7=>ZU (fun h=> ?_) fun h8=>ZU (fun h=> ?_) fun h9=>ZU (fun h=> ?_) fun h4=> ?_))
  ·-- let
   have q:ZZ n.name.s=true∧ks.length=2:=by
    have:=hkb
    unfold Us at this
    simp[h]at this
    exact⟨this.1.1.1.2,this.1.2⟩
   obtain⟨a,b,rfl⟩:=Oj q.2
   ·skip
    have ha:=hp.kid (show a∈[a,b] by simp)
    have hb:=hp.kid (show b∈[a,b] by simp)
    have la:(Zr a).s.length<=_:=hp.len (show a∈[a,b] by simp)
    have lb:(Zr b).s.length<=_:=hp.len (show b∈[a,b] by simp)
    refine⟨Z5 (show _<=8 by decide) hln (by omega),Z5 (Yc (show _<=8 by decide) hln) (show _<=8 by decide) (by omega),rfl,a,rfl,Ww a,Ze (a,()) (Z7 a) (WV ha.1 ha.2.1 ha.2.2),Zg (a,()) (Z7 a) ⟨Z5 (Yc (Yc (show _<=8 by decide) hln) (show _<=8 by decide)) la (by omega),Z5 (Yc (Yc (Yc (show _<=8 by decide) hln) (show _<=8 by decide)) la) (show _<=8 by decide) (by omega),rfl,b,rfl,Ww b,Ze (b,()) (Z7 b) (WV hb.1 hb.2.1 hb.2.2),Zg (b,()) (Z7 b) ⟨Z5 (Yc (Yc (Yc (Yc (show _<=8 by decide) hln) (show _<=8 by decide)) la) (show _<=8 by decide)) lb (by omega),fin _ ?_⟩⟩⟩
    simp[h,Yw,Zr]
  ·-- literals
   have q:VO n=true:=by
    have:=hkb
    unfold Us at this
    simp[h]at this
    exact this.1.1.2
   exact⟨Ze (.mk n ks,()) (Yy n ks) q,Zg (.mk n ks,()) (Yy n ks) (fin _ (by simp[h,P8,Tm.nd]))⟩
  ·exact fin _ (by simp[h])
  ·refine⟨Ze (.mk n ks,()) (Yy n ks) ?_,Zg (.mk n ks,()) (Yy n ks) (fin _ (by simp[h,Ce,Tm.nd,Tm.ks]))⟩
   show(tW (.mk n ks)&&YJ (.mk n ks)&&decide (n.kind=6)&&decide (ZP ks<N))=true
   rw[hw,hva,decide_eq_true h,decide_eq_true hp.d];rfl
  ·have hc:=hp.com
   have e3:=JF ks
   rw[<- e3]at hc
   refine⟨Ze (ks,{},()) rfl hp.pre,Zg (ks,{},()) rfl ⟨Z5 (show _<=8 by decide) hc (by omega),Z5 (Yc (show _<=8 by decide) hc) (show _<=8 by decide) (by omega),fin _ ?_⟩⟩
   simp[h,e3]
  ·-- fold
   have q:RS n.name.s=true∧ks.length=2:=by
    have:=hkb
    unfold Us at this
    simp[h]at this
    exact⟨this.1.1.1.2,this.1.2⟩
   obtain⟨a,b,rfl⟩:=Oj q.2
   ·skip
    have ha:=hp.kid (show a∈[a,b] by simp)
    have hb:=hp.kid (show b∈[a,b] by simp)
    have la:=hp.len (show a∈[a,b] by simp)
    have lb:=hp.len (show b∈[a,b] by simp)
    have hcl:(Yi [n.name,Zr a,Zr b]).s.length<=1099511620000:=Nat.le_trans (Y1 _) (by simp[Zr];omega)
    have hj:Y8 [n.name,Zr a,Zr b]=true:=by
     show(decide (3<=1048576)&&decide ((Yi [n.name,Zr a,Zr b]).s.length<=1099511627776))=true
     rw[decide_eq_true (show(Yi [n.name,Zr a,Zr b]).s.length<=1099511627776 by omega)];rfl
    refine⟨rfl,a,rfl,Ww a,Ze (a,()) (Z7 a) (WV ha.1 ha.2.1 ha.2.2),Zg (a,()) (Z7 a) ⟨rfl,b,rfl,Ww b,Ze (b,()) (Z7 b) (WV hb.1 hb.2.1 hb.2.2),Zg (b,()) (Z7 b) ⟨Ze ([n.name,Zr a,Zr b],()) rfl hj,Zg ([n.name,Zr a,Zr b],()) rfl ⟨Z5 (show _<=8 by decide) hcl (by omega),Z5 (Yc (show _<=8 by decide) hcl) (show _<=8 by decide) (by omega),fin _ ?_⟩⟩⟩⟩
    simp[h,Yi,Zr]
  ·-- scan
   have q:RS n.name.s=true∧ks.length=1:=by
    have:=hkb
    unfold Us at this
    simp[h]at this
    exact⟨this.1.1.1.2,this.1.2⟩
   obtain⟨a,rfl⟩:=List.length_eq_one_iff.1 q.2
   ·skip
    have ha:=hp.kid (show a∈[a] by simp)
    have la:=hp.len (show a∈[a] by simp)
    have hcl:(Yi [n.name,Zr a]).s.length<=1099511620000:=Nat.le_trans (Y1 _) (by simp[Zr];omega)
    have hj:Y8 [n.name,Zr a]=true:=by
     show(decide (2<=1048576)&&decide ((Yi [n.name,Zr a]).s.length<=1099511627776))=true
     rw[decide_eq_true (show(Yi [n.name,Zr a]).s.length<=1099511627776 by omega)];rfl
    refine⟨rfl,a,rfl,Ww a,Ze (a,()) (Z7 a) (WV ha.1 ha.2.1 ha.2.2),Zg (a,()) (Z7 a) ⟨Ze ([n.name,Zr a],()) rfl hj,Zg ([n.name,Zr a],()) rfl ⟨Z5 (show _<=8 by decide) hcl (by omega),Z5 (Yc (show _<=8 by decide) hcl) (show _<=8 by decide) (by omega),fin _ ?_⟩⟩⟩
    simp[h,Yi,Zr]
  ·-- sizes
   have q:n.sizes.length=1∧n.sizes.all Zw=true:=by
    have:=hkb
    unfold Us at this
    simp[h]at this
    exact⟨this.1.1.2,by rw[List.all_eq_true];exact this.1.2⟩
   obtain⟨l,hs⟩:=List.length_eq_one_iff.1 q.1
   have hvl:Zw l=true:=by
    have:=q.2
    rw[hs,List.all_eq_true]at this
    exact this l (by simp)
   have hpl:=Ui l
   refine⟨by rw[hs];rfl,l,by rw[hs];rfl,Ze (l,()) rfl (Ad hvl),Zg (l,()) rfl ⟨Z5 (show _<=8 by decide) (show _<=1000 from hpl) (by omega),Z5 (Yc (show _<=8 by decide) (show _<=1000 from hpl)) (show _<=8 by decide) (by omega),fin _ ?_⟩⟩
   simp[h,hs]
  ·have q:Ud (Q7 n)=true:=by
    have:=hkb
    unfold Us at this
    simp[h1,h2,h4,h5,h6,h7,h8,h9]at this
    exact this.2.2
   refine⟨Ze (Q7 n,()) rfl ?_,Zg (Q7 n,()) rfl (fin _ ?_)⟩
   ·show(Qk (Q7 n)&&Ud (Q7 n))=true
    rw[a6u hw,q];rfl
   ·simp[h1,h2,h4,h5,h6,h7,h8,h9,Ri]
end Go.Pl

