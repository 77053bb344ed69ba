/-
  Texts of mine that belong together (packed by pack.py), for every input: GL1, QL1, QL2, QLi, QLj, QL3, QL4, GL5, QL5, GL7, QL7, TyR, GLr, QRp, QRq, TyP, GLo, QLq, QLr, GLm, GLk, QLk, GLn, QLn, QLo, QLp, QRa, QRb, QRc, TyQ, GLu, GLt, QRs, QRt, QRu, QRv, GLv, QRw, QRx, TyG, TyI, GL9, QL9, TyRa, TyRb, TyRc, GRc, GRa, QGa, GRp, GRb, QGb, QGp, QGd, QRd, QRe, TyWk, TyCm, TyWe, GWl, GWe.
-/
import Derived.Test.YtjfgiaooglnomaaGreatDoorKI2
import Derived.Test.YtjfgiaooglnomaaGreatDoorKI3
import Derived.KernelRfl
import Derived.Lib.Bytealg
import Derived.Lib.Strings
import Derived.Lib.ItoaLen
set_option linter.unusedVariables false
set_option linter.unusedSimpArgs false
namespace Go.Pl
open Go.RowKit
open Enc (enc dec is)
open EncL (encL decL isL)
set_option maxRecDepth 100000
def Tj:IC:=(.seq (.reg [⟨(some 2),(.mv (.c (.bool false))),0,none⟩] none) (.seq (.reg [⟨(some 3),(.mv (.t 0)),0,none⟩,⟨(some 4),(.bin .num .geq (.t 3) (.c (.int .u8 48))),0,none⟩,⟨(some 5),(.mv (.t 4)),0,none⟩,⟨(some 6),(.mv (.t 0)),0,(some (5,true))⟩,⟨(some 7),(.bin .num .leq (.t 6) (.c (.int .u8 57))),0,(some (5,true))⟩,⟨(some 8),(.pick (.t 5) (.t 7) (.c (.bool false))),0,none⟩,⟨(some 2),(.mv (.t 8)),0,none⟩] none) .ret))
def TP:List IRes:=[(.tmp 2)]
abbrev b0v:Nat:=9
def ML:ZH:=XI []
theorem b8k{G:PV->Prop}(c:UInt8)(h:if (decide ((↑(UInt8.toNat c):Int) ≥ 48))=true then G ((.bool (decide ((↑(UInt8.toNat c):Int)<=57))))else(G ((.bool false)))):Zc ML 0 (Za TP G) Tj [] (Z9 9 [enc c]):=Zc.tp (.lit (.ask (.lit (.lit (.lit (.nil)))) (.lit (.lit (.nil))))) h (by kernel_rfl)
def TK:IC:=(.seq (.reg [⟨(some 2),(.mv (.c (.bool false))),0,none⟩] none) (.seq (.reg [⟨(some 3),(.mv (.t 0)),0,none⟩,⟨(some 4),(.bin .num .geq (.t 3) (.c (.int .u8 97))),0,none⟩,⟨(some 5),(.mv (.t 4)),0,none⟩,⟨(some 6),(.mv (.t 0)),0,(some (5,true))⟩,⟨(some 7),(.bin .num .leq (.t 6) (.c (.int .u8 122))),0,(some (5,true))⟩,⟨(some 8),(.pick (.t 5) (.t 7) (.c (.bool false))),0,none⟩,⟨(some 2),(.mv (.t 8)),0,none⟩] none) .ret))
def Tq:List IRes:=[(.tmp 2)]
abbrev b1w:Nat:=9
def Ld:ZH:=XI []
theorem b6k{G:PV->Prop}(c:UInt8)(h:if (decide ((↑(UInt8.toNat c):Int) ≥ 97))=true then G ((.bool (decide ((↑(UInt8.toNat c):Int)<=122))))else(G ((.bool false)))):Zc Ld 0 (Za Tq G) TK [] (Z9 9 [enc c]):=Zc.tp (.lit (.ask (.lit (.lit (.lit (.nil)))) (.lit (.lit (.nil))))) h (by kernel_rfl)
def Ka:IC:=(.seq (.reg [⟨(some 2),(.mv (.c (.bool false))),0,none⟩] none) (.seq (.reg [⟨(some 3),(.mv (.t 0)),0,none⟩,⟨(some 4),(.bin .num .geq (.t 3) (.c (.int .i64 (-1000000)))),0,none⟩,⟨(some 5),(.mv (.t 4)),0,none⟩,⟨(some 6),(.mv (.t 0)),0,(some (5,true))⟩,⟨(some 7),(.bin .num .leq (.t 6) (.c (.int .i64 1000000))),0,(some (5,true))⟩,⟨(some 8),(.pick (.t 5) (.t 7) (.c (.bool false))),0,none⟩,⟨(some 2),(.mv (.t 8)),0,none⟩] none) .ret))
def Ga:List IRes:=[(.tmp 2)]
abbrev Eu:Nat:=9
def Bf:ZH:=XI []
theorem a3a{G:PV->Prop}(n:Int)(h:if (decide (n ≥ (-1000000:Int)))=true then G ((.bool (decide (n<=1000000))))else(G ((.bool false)))):Zc Bf 0 (Za Ga G) Ka [] (Z9 9 [enc n]):=Zc.tp (.lit (.ask (.lit (.lit (.lit (.nil)))) (.lit (.lit (.nil))))) h (by kernel_rfl)
def MF:IC:=Ka
def Mx:List IRes:=[(.tmp 2)]
abbrev b6u:Nat:=9
def a4u:ZH:=XI []
theorem b9t{G:PV->Prop}(n:Int)(h:if (decide (n ≥ (-1000000:Int)))=true then G ((.bool (decide (n<=1000000))))else(G ((.bool false)))):Zc a4u 0 (Za Mx G) MF [] (Z9 9 [enc n]):=Zc.tp (.lit (.ask (.lit (.lit (.lit (.nil)))) (.lit (.lit (.nil))))) h (by kernel_rfl)
def Xe:IC:=(.seq (.reg [⟨(some 2),(.mv (.c (.bool false))),0,none⟩] none) (.seq (.seq (.reg [⟨(some 5),(.mv (.t 0)),0,none⟩,⟨(some 6),(.len 0 (.t 5)),0,none⟩,⟨(some 7),(.bin .num .eql (.t 6) (.c (.int .i64 0))),0,none⟩,⟨(some 8),(.mv (.t 7)),0,none⟩,⟨(some 9),(.mv (.t 0)),0,(some (8,false))⟩,⟨(some 10),(.len 0 (.t 9)),0,(some (8,false))⟩,⟨(some 11),(.bin .num .gtr (.t 10) (.c (.int .i64 30))),0,(some (8,false))⟩,⟨(some 12),(.pick (.t 8) (.c (.bool true)) (.t 11)),0,none⟩] none) (.cond (.t 12) (.seq (.reg [⟨(some 2),(.mv (.c (.bool false))),0,none⟩] none) .ret) .skip)) (.seq (.seq (.reg [⟨(some 13),(.mv (.t 0)),0,none⟩,⟨(some 14),(.index (.t 13) (.c (.int .i64 0))),0,none⟩,⟨(some 15),(.bin .num .eql (.t 14) (.c (.int .u8 95))),0,none⟩] none) (.cond (.t 15) (.seq (.seq (.reg [⟨(some 16),(.mv (.t 0)),0,none⟩,⟨(some 17),(.len 0 (.t 16)),0,none⟩,⟨(some 18),(.bin .num .lss (.t 17) (.c (.int .i64 2))),0,none⟩,⟨(some 19),(.mv (.t 18)),0,none⟩,⟨(some 20),(.mv (.t 0)),0,(some (19,false))⟩,⟨(some 21),(.len 0 (.t 20)),0,(some (19,false))⟩,⟨(some 22),(.bin .num .gtr (.t 21) (.c (.int .i64 10))),0,(some (19,false))⟩,⟨(some 23),(.pick (.t 19) (.c (.bool true)) (.t 22)),0,none⟩,⟨(some 24),(.mv (.t 23)),0,none⟩,⟨(some 25),(.mv (.t 0)),0,(some (24,false))⟩,⟨(some 26),(.index (.t 25) (.c (.int .i64 1))),0,(some (24,false))⟩,⟨(some 27),(.bin .num .eql (.t 26) (.c (.int .u8 48))),0,(some (24,false))⟩,⟨(some 28),(.pick (.t 24) (.c (.bool true)) (.t 27)),0,none⟩] none) (.cond (.t 28) (.seq (.reg [⟨(some 2),(.mv (.c (.bool false))),0,none⟩] none) .ret) .skip)) (.seq (.seq (.reg [⟨(some 3),(.mv (.c (.int .i64 1))),0,none⟩] none) (.block 0 (.loop [3,0] (.seq (.seq (.reg [⟨(some 29),(.mv (.t 3)),0,none⟩,⟨(some 30),(.mv (.t 0)),0,none⟩,⟨(some 31),(.len 0 (.t 30)),0,none⟩,⟨(some 32),(.bin .num .lss (.t 29) (.t 31)),0,none⟩] none) (.cond (.t 32) .skip (.exit 0))) (.seq (.block 1 (.seq (.reg [⟨(some 35),(.mv (.t 0)),0,none⟩,⟨(some 36),(.mv (.t 3)),0,none⟩,⟨(some 37),(.index (.t 35) (.t 36)),0,none⟩,⟨(some 38),(.call (.c (.fn 155)) [(.t 37)]),0,none⟩,⟨(some 39),(.un .not (.t 38)),2,none⟩] none) (.cond (.t 39) (.seq (.reg [⟨(some 2),(.mv (.c (.bool false))),0,none⟩] none) .ret) .skip))) (.reg [⟨(some 33),(.mv (.t 3)),0,none⟩,⟨(some 34),(.bin .num .add (.t 33) (.c (.int .i64 1))),0,none⟩,⟨(some 3),(.mv (.t 34)),0,none⟩] none)))))) (.seq (.reg [⟨(some 2),(.mv (.c (.bool true))),0,none⟩] none) .ret))) .skip)) (.seq (.seq (.reg [⟨(some 4),(.mv (.c (.int .i64 0))),0,none⟩] none) (.block 2 (.loop [4,0] (.seq (.seq (.reg [⟨(some 40),(.mv (.t 4)),0,none⟩,⟨(some 41),(.mv (.t 0)),0,none⟩,⟨(some 42),(.len 0 (.t 41)),0,none⟩,⟨(some 43),(.bin .num .lss (.t 40) (.t 42)),0,none⟩] none) (.cond (.t 43) .skip (.exit 2))) (.seq (.block 3 (.seq (.reg [⟨(some 46),(.mv (.t 0)),0,none⟩,⟨(some 47),(.mv (.t 4)),0,none⟩,⟨(some 48),(.index (.t 46) (.t 47)),0,none⟩,⟨(some 49),(.call (.c (.fn 156)) [(.t 48)]),0,none⟩,⟨(some 50),(.un .not (.t 49)),2,none⟩,⟨(some 51),(.mv (.t 50)),2,none⟩,⟨(some 52),(.mv (.t 4)),2,(some (51,true))⟩,⟨(some 53),(.bin .num .eql (.t 52) (.c (.int .i64 0))),2,(some (51,true))⟩,⟨(some 54),(.mv (.t 53)),2,(some (51,true))⟩,⟨(some 55),(.mv (.t 0)),2,(some (54,false))⟩,⟨(some 56),(.mv (.t 4)),2,(some (54,false))⟩,⟨(some 57),(.index (.t 55) (.t 56)),2,(some (54,false))⟩,⟨(some 58),(.call (.c (.fn 155)) [(.t 57)]),2,(some (54,false))⟩,⟨(some 59),(.un .not (.t 58)),4,(some (54,false))⟩,⟨(some 60),(.pick (.t 54) (.c (.bool true)) (.t 59)),4,(some (51,true))⟩,⟨(some 61),(.pick (.t 51) (.t 60) (.c (.bool false))),4,none⟩] none) (.cond (.t 61) (.seq (.reg [⟨(some 2),(.mv (.c (.bool false))),0,none⟩] none) .ret) .skip))) (.reg [⟨(some 44),(.mv (.t 4)),0,none⟩,⟨(some 45),(.bin .num .add (.t 44) (.c (.int .i64 1))),0,none⟩,⟨(some 4),(.mv (.t 45)),0,none⟩] none)))))) (.seq (.reg [⟨(some 2),(.mv (.c (.bool true))),0,none⟩] none) .ret)))))
def Xf:List IRes:=[(.tmp 2)]
abbrev a9d:Nat:=62
def Wi:ZH:=XI [(155,.pure (preT (fun _:UInt8×Unit=>true)) (Zf (fun x:UInt8×Unit=>digB x.1))),(156,.pure (preT (fun _:UInt8×Unit=>true)) (Zf (fun x:UInt8×Unit=>WA x.1)))]
theorem b2k{G:PV->Prop}(s:List UInt8)(h:if ((↑(List.length s):Int)==0)=true then G ((.bool false))else(if (decide ((↑(List.length s):Int)>30))=true then G ((.bool false))else((decide (0<=0)&&decide (Int.toNat 0<List.length s))=true∧(if ((↑(UInt8.toNat (List.getD s (Int.toNat 0) (0:UInt8))):Int)==95)=true then if (decide ((↑(List.length s):Int)<2))=true then G ((.bool false))else(if (decide ((↑(List.length s):Int)>10))=true then G ((.bool false))else((decide (0<=1)&&decide (Int.toNat 1<List.length s))=true∧(if ((↑(UInt8.toNat (List.getD s (Int.toNat 1) (0:UInt8))):Int)==48)=true then G ((.bool false))else(At Wi 0 (Za Xf G) Xe 0 62 [(0,(.pv (.str s))),(3,(.pv (.int .i64 1)))] []))))else(At Wi 0 (Za Xf G) Xe 1 62 [(0,(.pv (.str s))),(4,(.pv (.int .i64 0)))] []))))):Zc Wi 0 (Za Xf G) Xe [] (Z9 62 [.str s]):=Zc.tp (.lit (.ask (.lit (.lit (.lit (.lit (.nil))))) (.lit (.lit (.lit (.lit (.ask (.nil) (.req (.lit (.ask (.lit (.ask (.lit (.lit (.lit (.lit (.lit (.lit (.lit (.lit (.nil))))))))) (.lit (.lit (.lit (.lit (.ask (.lit (.lit (.lit (.lit (.nil))))) (.lit (.req (.lit (.lit (.lit (.ask (.nil) (.nil)))))))))))))) (.nil))))))))))) h (by kernel_rfl)
theorem Pt{G:PV->Prop}(s:List UInt8)(i:Int)(h:if (decide (i<(↑(List.length s):Int)))=true then(decide (0<=i)&&decide (Int.toNat i<List.length s))=true∧((Go.Pl.preT (fun(x:UInt8×Unit)=>true) [(.int IntKind.u8 (↑(UInt8.toNat (List.getD s (Int.toNat i) (0:UInt8))):Int))])=true∧(∃ y0:Bool,AV.pv (Zf (fun(x:UInt8×Unit)=>digB x.1) [(.int IntKind.u8 (↑(UInt8.toNat (List.getD s (Int.toNat i) (0:UInt8))):Int))])=AV.pv (enc y0)∧(if (!y0)=true then G ((.bool false))else(At Wi 0 (Za Xf G) Xe 0 62 [(0,(.pv (.str s))),(3,(.pv (.int .i64 (IntKind.wrap IntKind.i64 (i+1)))))] []))))else(G ((.bool true)))):At Wi 0 (Za Xf G) Xe 0 62 [(0,.pv (.str s)),(3,.pv (.int .i64 i))] []:=At.tp (.lit (.ask (.req (.req (.abs (Bool) (fun YY=>AV.pv (enc YY)) (.ask (.nil) (.lit (.nil)))))) (.nil))) h (by kernel_rfl)
theorem CU{G:PV->Prop}(s:List UInt8)(i:Int)(h:if (decide (i<(↑(List.length s):Int)))=true then(decide (0<=i)&&decide (Int.toNat i<List.length s))=true∧((Go.Pl.preT (fun(x:UInt8×Unit)=>true) [(.int IntKind.u8 (↑(UInt8.toNat (List.getD s (Int.toNat i) (0:UInt8))):Int))])=true∧(∃ y0:Bool,AV.pv (Zf (fun(x:UInt8×Unit)=>WA x.1) [(.int IntKind.u8 (↑(UInt8.toNat (List.getD s (Int.toNat i) (0:UInt8))):Int))])=AV.pv (enc y0)∧(if (!y0)=true then if (i==0)=true then G ((.bool false))else((decide (0<=i)&&decide (Int.toNat i<List.length s))=true∧((Go.Pl.preT (fun(x:UInt8×Unit)=>true) [(.int IntKind.u8 (↑(UInt8.toNat (List.getD s (Int.toNat i) (0:UInt8))):Int))])=true∧(∃ y1:Bool,AV.pv (Zf (fun(x:UInt8×Unit)=>digB x.1) [(.int IntKind.u8 (↑(UInt8.toNat (List.getD s (Int.toNat i) (0:UInt8))):Int))])=AV.pv (enc y1)∧(if (!y1)=true then G ((.bool false))else(At Wi 0 (Za Xf G) Xe 1 62 [(0,(.pv (.str s))),(4,(.pv (.int .i64 (IntKind.wrap IntKind.i64 (i+1)))))] [])))))else(At Wi 0 (Za Xf G) Xe 1 62 [(0,(.pv (.str s))),(4,(.pv (.int .i64 (IntKind.wrap IntKind.i64 (i+1)))))] []))))else(G ((.bool true)))):At Wi 0 (Za Xf G) Xe 1 62 [(0,.pv (.str s)),(4,.pv (.int .i64 i))] []:=At.tp (.lit (.ask (.req (.req (.abs (Bool) (fun YY=>AV.pv (enc YY)) (.ask (.lit (.lit (.lit (.ask (.lit (.lit (.lit (.lit (.lit (.lit (.lit (.lit (.nil))))))))) (.lit (.lit (.req (.lit (.req (.abs (Bool) (fun YY=>AV.pv (enc YY)) (.lit (.lit (.lit (.lit (.ask (.nil) (.lit (.nil))))))))))))))))) (.lit (.lit (.lit (.lit (.lit (.lit (.nil))))))))))) (.nil))) h (by kernel_rfl)
def XN:IC:=(.seq (.reg [⟨(some 1),(.box 2 (.t 0)),0,none⟩,⟨(some 2),(.mv (.c (.bool false))),1,none⟩] none) (.seq (.seq (.reg [⟨(some 5),(.faddr 0 (.t 1)),0,none⟩,⟨(some 6),(.load false [(.int .i64)] (.t 5)),0,none⟩,⟨(some 7),(.call (.c (.fn 83)) [(.t 6)]),0,none⟩,⟨(some 8),(.un .not (.t 7)),2,none⟩,⟨(some 9),(.mv (.t 8)),2,none⟩,⟨(some 10),(.faddr 1 (.t 1)),2,(some (9,false))⟩,⟨(some 11),(.load false [(.sl 2)] (.t 10)),2,(some (9,false))⟩,⟨(some 12),(.len 1 (.t 11)),2,(some (9,false))⟩,⟨(some 13),(.bin .num .gtr (.t 12) (.c (.int .i64 12))),2,(some (9,false))⟩,⟨(some 14),(.pick (.t 9) (.c (.bool true)) (.t 13)),2,none⟩] none) (.cond (.t 14) (.seq (.reg [⟨(some 2),(.mv (.c (.bool false))),0,none⟩] none) .ret) .skip)) (.seq (.seq (.reg [⟨(some 3),(.mv (.c (.int .i64 0))),0,none⟩] none) (.block 0 (.loop [3,1] (.seq (.seq (.reg [⟨(some 15),(.mv (.t 3)),0,none⟩,⟨(some 16),(.faddr 1 (.t 1)),0,none⟩,⟨(some 17),(.load false [(.sl 2)] (.t 16)),0,none⟩,⟨(some 18),(.len 1 (.t 17)),0,none⟩,⟨(some 19),(.bin .num .lss (.t 15) (.t 18)),0,none⟩] none) (.cond (.t 19) .skip (.exit 0))) (.seq (.block 1 (.seq (.reg [⟨(some 22),(.faddr 1 (.t 1)),0,none⟩,⟨(some 23),(.load false [(.sl 2)] (.t 22)),0,none⟩,⟨(some 24),(.mv (.t 3)),0,none⟩,⟨(some 25),(.iaddr 2 (.t 23) (.t 24)),0,none⟩,⟨(some 26),(.load true [.str,(.int .i64)] (.t 25)),0,none⟩,⟨(some 4),(.alloc (.agg [(.str []),(.int .i64 0)])),0,none⟩,⟨none,(.store 2 (.t 4) (.t 26)),1,none⟩] none) (.seq (.reg [⟨(some 27),(.faddr 0 (.t 4)),0,none⟩,⟨(some 28),(.load false [.str] (.t 27)),0,none⟩,⟨(some 29),(.call (.c (.fn 84)) [(.t 28)]),0,none⟩,⟨(some 30),(.un .not (.t 29)),2,none⟩,⟨(some 31),(.mv (.t 30)),2,none⟩,⟨(some 32),(.faddr 1 (.t 4)),2,(some (31,false))⟩,⟨(some 33),(.load false [(.int .i64)] (.t 32)),2,(some (31,false))⟩,⟨(some 34),(.bin .num .eql (.t 33) (.c (.int .i64 0))),2,(some (31,false))⟩,⟨(some 35),(.pick (.t 31) (.c (.bool true)) (.t 34)),2,none⟩,⟨(some 36),(.mv (.t 35)),2,none⟩,⟨(some 37),(.faddr 1 (.t 4)),2,(some (36,false))⟩,⟨(some 38),(.load false [(.int .i64)] (.t 37)),2,(some (36,false))⟩,⟨(some 39),(.call (.c (.fn 83)) [(.t 38)]),2,(some (36,false))⟩,⟨(some 40),(.un .not (.t 39)),4,(some (36,false))⟩,⟨(some 41),(.pick (.t 36) (.c (.bool true)) (.t 40)),4,none⟩,⟨(some 42),(.mv (.t 41)),4,none⟩,⟨(some 43),(.mv (.t 3)),4,(some (42,false))⟩,⟨(some 44),(.bin .num .gtr (.t 43) (.c (.int .i64 0))),4,(some (42,false))⟩,⟨(some 45),(.mv (.t 44)),4,(some (42,false))⟩,⟨(some 46),(.faddr 1 (.t 1)),4,(some (45,true))⟩,⟨(some 47),(.load false [(.sl 2)] (.t 46)),4,(some (45,true))⟩,⟨(some 48),(.mv (.t 3)),4,(some (45,true))⟩,⟨(some 49),(.bin .num .sub (.t 48) (.c (.int .i64 1))),4,(some (45,true))⟩,⟨(some 50),(.iaddr 2 (.t 47) (.t 49)),4,(some (45,true))⟩,⟨(some 51),(.faddr 0 (.t 50)),4,(some (45,true))⟩,⟨(some 52),(.load false [.str] (.t 51)),4,(some (45,true))⟩,⟨(some 53),(.faddr 0 (.t 4)),4,(some (45,true))⟩,⟨(some 54),(.load false [.str] (.t 53)),4,(some (45,true))⟩,⟨(some 55),(.bin .num .geq (.t 52) (.t 54)),4,(some (45,true))⟩,⟨(some 56),(.pick (.t 45) (.t 55) (.c (.bool false))),4,(some (42,false))⟩,⟨(some 57),(.pick (.t 42) (.c (.bool true)) (.t 56)),4,none⟩] (some [[],[0],[1,0],[2,1,0],[3,2,1,0],[4,3,2,1,0],[5,4,3,2,1,0],[6,4,5,3,2,1,0],[4,7,3,2,1,0,6,5],[8,4,7,3,2,1,0,6,5],[9,8,4,7,3,2,1,0,6,5],[10,9,8,4,7,3,2,1,0,6,5],[11,9,10,8,4,7,3,2,1,0,6,5],[12,9,11,10,8,4,7,3,2,1,0,6,5],[9,13,8,4,7,3,2,1,0,6,5,12,11,10],[14,12,9,13,8,4,7,3,2,1,0,6,5,11,10],[15,14,12,9,13,8,4,7,3,2,1,0,6,5,11,10],[16,15,14,12,9,13,8,4,7,3,2,1,0,6,5,11,10],[17,15,16,14,12,9,13,8,4,7,3,2,1,0,6,5,11,10],[18,17,15,16,14,12,9,13,8,4,7,3,2,1,0,6,5,11,10],[19,18,17,15,16,14,12,9,13,8,4,7,3,2,1,0,6,5,11,10],[18,17,15,16,14,12,9,13,8,4,7,3,2,1,0,6,5,11,10],[21,18,17,15,16,14,12,9,13,8,4,7,3,2,1,0,6,5,11,10],[20,22,18,19,17,15,16,14,12,9,13,8,4,7,3,2,1,0,6,5,11,10,21],[23,18,20,22,19,17,15,16,14,12,9,13,8,4,7,3,2,1,0,6,5,11,10,21],[24,18,23,20,22,19,17,15,16,14,12,9,13,8,4,7,3,2,1,0,6,5,11,10,21],[18,17,15,16,14,12,9,13,8,4,7,3,2,1,0,6,5,11,10],[26,18,17,15,16,14,12,9,13,8,4,7,3,2,1,0,6,5,11,10],[25,27,18,24,23,20,22,19,17,15,16,14,12,9,13,8,4,7,3,2,1,0,6,5,11,10,21,26],[18,28,15,17,16,14,12,9,13,8,4,7,3,2,1,0,6,5,11,10,25,27,24,23,20,22,19,21,26],[15,29,14,12,9,13,8,4,7,3,2,1,0,6,5,11,10,18,28,17,16,25,27,24,23,20,22,19,21,26]])) (.cond (.t 57) (.seq (.reg [⟨(some 2),(.mv (.c (.bool false))),0,none⟩] none) .ret) .skip)))) (.reg [⟨(some 20),(.mv (.t 3)),0,none⟩,⟨(some 21),(.bin .num .add (.t 20) (.c (.int .i64 1))),0,none⟩,⟨(some 3),(.mv (.t 21)),0,none⟩] none)))))) (.seq (.reg [⟨(some 2),(.mv (.c (.bool true))),0,none⟩] none) .ret))))
def XM:List IRes:=[(.tmp 2)]
abbrev Ei:Nat:=58
def Wy:ZH:=XI [(83,.pure (preT (fun _:Int×Unit=>true)) (Zf (fun x:Int×Unit=>Ya x.1))),(84,.pure (preT (fun _:Str×Unit=>true)) (Zf (fun x:Str×Unit=>Yu x.1)))]
theorem a2c{G:PV->Prop}(l:Lin)(h : ∃ y0:Bool,AV.pv (Zf (fun(x:Int×Unit)=>Ya x.1) [(.int .i64 l.k)])=AV.pv (enc y0)∧(if (!y0)=true then G ((.bool false))else(if (decide ((↑(List.length (List.map enc l.t)):Int)>12))=true then G ((.bool false))else(At Wy 0 (Za XM G) XN 0 58 [(1,(.ptr 0 0)),(3,(.pv (.int .i64 0)))] [(.obj (.box [(.pv (.int .i64 l.k)),(.pv (.sl 2 false (List.map enc l.t)))]))])))):Zc Wy 0 (Za XM G) XN [] (Z9 58 [enc l]):=Zc.tp (.lit (.abs (Bool) (fun YY=>AV.pv (enc YY)) (.ask (.lit (.lit (.lit (.lit (.lit (.nil)))))) (.lit (.lit (.lit (.lit (.lit (.ask (.nil) (.nil)))))))))) h (by kernel_rfl)
theorem AU{G:PV->Prop}(l:Lin)(i:Int)(h:if (decide (i<(↑(List.length (List.map enc l.t)):Int)))=true then(decide (0<=i)&&decide (Int.toNat i<List.length (List.map enc l.t))&&Enc.sz Coef==2)=true∧(∃ y0:Coef,AV.pv (PV.rptr (PV.cells (List.getD (List.map enc l.t) (Int.toNat i) default)))=AV.pv (PV.rptr (PV.cells ((enc) y0)))∧(∃ y1:Bool,AV.pv (Zf (fun(x:Str×Unit)=>Yu x.1) [(.str (PV.asStr (List.getD (PV.cells (enc y0)) 0 default)))])=AV.pv (enc y1)∧(if (!y1)=true then G ((.bool false))else(if (PV.asInt (List.getD (PV.cells (enc y0)) (0+1) default)==0)=true then G ((.bool false))else(∃ y2:Bool,AV.pv (Zf (fun(x:Int×Unit)=>Ya x.1) [(.int .i64 (PV.asInt (List.getD (PV.cells (enc y0)) (0+1) default)))])=AV.pv (enc y2)∧(if (!y2)=true then G ((.bool false))else(if (decide (i>0))=true then(decide (0<=IntKind.wrap IntKind.i64 (i - 1))&&decide (Int.toNat (IntKind.wrap IntKind.i64 (i - 1))<List.length (List.map enc l.t))&&Enc.sz Coef==2)=true∧(∃ y3:Coef,AV.pv (PV.rptr (PV.cells (List.getD (List.map enc l.t) (Int.toNat (IntKind.wrap IntKind.i64 (i - 1))) default)))=AV.pv (PV.rptr (PV.cells ((enc) y3)))∧(if (!Op.bytesLess (PV.asStr (List.getD (List.drop 0 (PV.cells (enc y3))) 0 default)) (PV.asStr (List.getD (PV.cells (enc y0)) 0 default)))=true then G ((.bool false))else(At Wy 0 (Za XM G) XN 0 58 [(1,(.ptr 0 0)),(3,(.pv (.int .i64 (IntKind.wrap IntKind.i64 (i+1)))))] [(.obj (.box [(.pv (.int .i64 l.k)),(.pv (.sl 2 false (List.map enc l.t)))]))])))else(At Wy 0 (Za XM G) XN 0 58 [(1,(.ptr 0 0)),(3,(.pv (.int .i64 (IntKind.wrap IntKind.i64 (i+1)))))] [(.obj (.box [(.pv (.int .i64 l.k)),(.pv (.sl 2 false (List.map enc l.t)))]))]))))))))else(G ((.bool true)))):At Wy 0 (Za XM G) XN 0 58 [(1,.ptr 0 0),(3,.pv (.int .i64 i))] [.obj (.box [.pv (.int .i64 l.k),.pv (enc l.t)])]:=At.tp (.lit (.ask (.req (.abs (Coef) (fun YY=>AV.pv (PV.rptr (PV.cells ((enc) YY)))) (.lit (.lit (.abs (Bool) (fun YY=>AV.pv (enc YY)) (.ask (.lit (.lit (.lit (.lit (.lit (.lit (.lit (.lit (.lit (.lit (.lit (.lit (.lit (.lit (.nil))))))))))))))) (.lit (.lit (.lit (.lit (.ask (.lit (.lit (.lit (.lit (.lit (.lit (.lit (.lit (.lit (.lit (.nil))))))))))) (.lit (.lit (.lit (.abs (Bool) (fun YY=>AV.pv (enc YY)) (.lit (.lit (.ask (.lit (.lit (.lit (.lit (.lit (.nil)))))) (.lit (.lit (.lit (.ask (.lit (.lit (.lit (.lit (.lit (.req (.abs (Coef) (fun YY=>AV.pv (PV.rptr (PV.cells ((enc) YY)))) (.lit (.lit (.lit (.lit (.lit (.lit (.lit (.lit (.lit (.lit (.ask (.nil) (.lit (.nil)))))))))))))))))))) (.lit (.lit (.lit (.lit (.lit (.lit (.lit (.lit (.lit (.lit (.lit (.lit (.lit (.lit (.nil))))))))))))))))))))))))))))))))))))) (.nil))) h (by kernel_rfl)
def VW:IC:=(.seq (.reg [⟨(some 1),(.box 5 (.t 0)),0,none⟩,⟨(some 2),(.mv (.c (.int .i64 0))),1,none⟩] none) (.seq (.reg [⟨(some 3),(.mv (.c (.int .i64 1))),0,none⟩] none) (.seq (.seq (.reg [⟨(some 6),(.faddr 4 (.t 1)),0,none⟩,⟨(some 7),(.load false [(.sl 5)] (.t 6)),0,none⟩,⟨(some 8),(.len 1 (.t 7)),0,none⟩,⟨(some 9),(.mv (.c (.int .i64 0))),0,none⟩] none) (.block 0 (.loop [9,8,7,3] (.seq (.reg [⟨(some 10),(.bin .num .lss (.t 9) (.t 8)),0,none⟩] none) (.seq (.cond (.t 10) .skip (.exit 0)) (.seq (.block 1 (.seq (.reg [⟨(some 11),(.iaddr 5 (.t 7) (.t 9)),0,none⟩,⟨(some 12),(.load true [(.int .i64),(.sl 1),(.int .i64),(.sl 2),(.sl 5)] (.t 11)),0,none⟩,⟨(some 5),(.alloc (.agg [(.int .i64 0),(.sl 0 true []),(.int .i64 0),(.sl 0 true []),(.sl 0 true [])])),0,none⟩,⟨none,(.store 5 (.t 5) (.t 12)),1,none⟩] none) (.reg [⟨(some 13),(.mv (.t 3)),0,none⟩,⟨(some 14),(.load true [(.int .i64),(.sl 1),(.int .i64),(.sl 2),(.sl 5)] (.t 5)),0,none⟩,⟨(some 15),(.call (.c (.fn 94)) [(.t 14)]),0,none⟩,⟨(some 16),(.bin .num .add (.t 13) (.t 15)),2,none⟩,⟨(some 3),(.mv (.t 16)),2,none⟩] none))) (.reg [⟨(some 17),(.bin .num .add (.t 9) (.c (.int .i64 1))),0,none⟩,⟨(some 9),(.mv (.t 17)),0,none⟩] none))))))) (.seq (.reg [⟨(some 18),(.mv (.t 3)),0,none⟩,⟨(some 2),(.mv (.t 18)),0,none⟩] none) .ret))))
def Ud:List IRes:=[(.tmp 2)]
abbrev a1x:Nat:=19
def Qj(N:Nat):ZH:=XI [(94,.pure (preT (fun x:Cert×Unit=>UA x.1&&decide (Zt x.1<N))) (Zf (fun x:Cert×Unit=>Z7 x.1)))]
theorem a9q{G:PV->Prop}(N:Nat)(k:Int)(m:List Int)(l:Lin)(ks:List Cert)(h:At (Qj N) 0 (Za Ud G) VW 0 19 [(3,(.pv (.int .i64 1))),(7,(.pv (.sl 5 false (List.map enc ks)))),(8,(.pv (.int .i64 (↑(List.length (List.map enc ks)):Int)))),(9,(.pv (.int .i64 0)))] []):Zc (Qj N) 0 (Za Ud G) VW [] (Z9 19 [.agg [enc k,enc m,enc l.k,enc l.t,enc ks]]):=Zc.tp (.nil) h (by kernel_rfl)
theorem PW{G:PV->Prop}(N:Nat)(k:Int)(m:List Int)(l:Lin)(ks:List Cert)(n i:Int)(h:if (decide (i<(↑(List.length ks):Int)))=true then(decide (0<=i)&&decide (Int.toNat i<List.length (List.map enc ks))&&Enc.sz Cert==5)=true∧(∃ y0:Cert,AV.pv (PV.rptr (PV.cells (List.getD (List.map enc ks) (Int.toNat i) default)))=AV.pv (PV.rptr (PV.cells ((enc) y0)))∧((decide (0+List.length [Sh.int .i64,Sh.sl 1,Sh.int .i64,Sh.sl 2,Sh.sl 5]<=List.length (PV.cells (enc y0)))&&Yk (PV.cells (enc y0)) 0 [Sh.int .i64,Sh.sl 1,Sh.int .i64,Sh.sl 2,Sh.sl 5])=true∧((Go.Pl.preT (fun(x:Cert×Unit)=>UA x.1&&decide (Zt x.1<N)) [(.agg [(.int .i64 (PV.asInt (List.getD (PV.cells (enc y0)) 0 default))),(.sl 1 (PV.asT (List.getD (PV.cells (enc y0)) (0+1) default)) (PV.asXs (List.getD (PV.cells (enc y0)) (0+1) default))),(.int .i64 (PV.asInt (List.getD (PV.cells (enc y0)) (0+1+1) default))),(.sl 2 (PV.asT (List.getD (PV.cells (enc y0)) (0+1+1+1) default)) (PV.asXs (List.getD (PV.cells (enc y0)) (0+1+1+1) default))),(.sl 5 (PV.asT (List.getD (PV.cells (enc y0)) (0+1+1+1+1) default)) (PV.asXs (List.getD (PV.cells (enc y0)) (0+1+1+1+1) default)))])])=true∧(∃ y1:Int,AV.pv (Zf (fun(x:Cert×Unit)=>Z7 x.1) [(.agg [(.int .i64 (PV.asInt (List.getD (PV.cells (enc y0)) 0 default))),(.sl 1 (PV.asT (List.getD (PV.cells (enc y0)) (0+1) default)) (PV.asXs (List.getD (PV.cells (enc y0)) (0+1) default))),(.int .i64 (PV.asInt (List.getD (PV.cells (enc y0)) (0+1+1) default))),(.sl 2 (PV.asT (List.getD (PV.cells (enc y0)) (0+1+1+1) default)) (PV.asXs (List.getD (PV.cells (enc y0)) (0+1+1+1) default))),(.sl 5 (PV.asT (List.getD (PV.cells (enc y0)) (0+1+1+1+1) default)) (PV.asXs (List.getD (PV.cells (enc y0)) (0+1+1+1+1) default)))])])=AV.pv (enc y1)∧(At (Qj N) 0 (Za Ud G) VW 0 19 [(3,(.pv (.int .i64 (IntKind.wrap IntKind.i64 (n+y1))))),(7,(.pv (.sl 5 false (List.map enc ks)))),(8,(.pv (.int .i64 (↑(List.length ks):Int)))),(9,(.pv (.int .i64 (IntKind.wrap IntKind.i64 (i+1)))))] [])))))else(G ((.int .i64 n)))):At (Qj N) 0 (Za Ud G) VW 0 19 [(3,.pv (.int .i64 n)),(7,.pv (enc ks)),(8,.pv (.int .i64 ks.length)),(9,.pv (.int .i64 i))] []:=At.tp (.lit (.ask (.req (.abs (Cert) (fun YY=>AV.pv (PV.rptr (PV.cells ((enc) YY)))) (.req (.req (.abs (Int) (fun YY=>AV.pv (enc YY)) (.lit (.lit (.nil)))))))) (.nil))) h (by kernel_rfl)
def WW:IC:=(.seq (.reg [⟨(some 1),(.box 5 (.t 0)),0,none⟩,⟨(some 2),(.mv (.c (.int .i64 0))),1,none⟩] none) (.seq (.reg [⟨(some 3),(.mv (.c (.int .i64 1))),0,none⟩] none) (.seq (.seq (.reg [⟨(some 4),(.mv (.c (.int .i64 0))),0,none⟩] none) (.block 0 (.loop [4,1,3] (.seq (.seq (.reg [⟨(some 5),(.mv (.t 4)),0,none⟩,⟨(some 6),(.faddr 4 (.t 1)),0,none⟩,⟨(some 7),(.load false [(.sl 5)] (.t 6)),0,none⟩,⟨(some 8),(.len 1 (.t 7)),0,none⟩,⟨(some 9),(.bin .num .lss (.t 5) (.t 8)),0,none⟩] none) (.cond (.t 9) .skip (.exit 0))) (.seq (.block 1 (.reg [⟨(some 12),(.mv (.t 3)),0,none⟩,⟨(some 13),(.faddr 4 (.t 1)),0,none⟩,⟨(some 14),(.load false [(.sl 5)] (.t 13)),0,none⟩,⟨(some 15),(.mv (.t 4)),0,none⟩,⟨(some 16),(.iaddr 5 (.t 14) (.t 15)),0,none⟩,⟨(some 17),(.load true [(.int .i64),(.sl 1),(.int .i64),(.sl 2),(.sl 5)] (.t 16)),0,none⟩,⟨(some 18),(.call (.c (.fn 96)) [(.t 17)]),0,none⟩,⟨(some 19),(.bin .num .add (.t 12) (.t 18)),2,none⟩,⟨(some 3),(.mv (.t 19)),2,none⟩] none)) (.reg [⟨(some 10),(.mv (.t 4)),0,none⟩,⟨(some 11),(.bin .num .add (.t 10) (.c (.int .i64 1))),0,none⟩,⟨(some 4),(.mv (.t 11)),0,none⟩] none)))))) (.seq (.reg [⟨(some 20),(.mv (.t 3)),0,none⟩,⟨(some 2),(.mv (.t 20)),0,none⟩] none) .ret))))
def WP:List IRes:=[(.tmp 2)]
abbrev EL:Nat:=21
def VR(N:Nat):ZH:=XI [(96,.pure (preT (fun x:Cert×Unit=>UA x.1&&decide (Zt x.1<N))) (Zf (fun x:Cert×Unit=>Z7 x.1)))]
theorem a6w{G:PV->Prop}(N:Nat)(k:Int)(m:List Int)(l:Lin)(ks:List Cert)(h:At (VR N) 0 (Za WP G) WW 0 21 [(1,(.ptr 0 0)),(3,(.pv (.int .i64 1))),(4,(.pv (.int .i64 0)))] [(.obj (.box [(.pv (.int .i64 k)),(.pv (.sl 1 false (List.map enc m))),(.pv (.int .i64 l.k)),(.pv (.sl 2 false (List.map enc l.t))),(.pv (.sl 5 false (List.map enc ks)))]))]):Zc (VR N) 0 (Za WP G) WW [] (Z9 21 [.agg [enc k,enc m,enc l.k,enc l.t,enc ks]]):=Zc.tp (.nil) h (by kernel_rfl)
theorem AB{G:PV->Prop}(N:Nat)(k:Int)(m:List Int)(l:Lin)(ks:List Cert)(n i:Int)(h:if (decide (i<(↑(List.length (List.map enc ks)):Int)))=true then(decide (0<=i)&&decide (Int.toNat i<List.length (List.map enc ks))&&Enc.sz Cert==5)=true∧(∃ y0:Cert,AV.pv (PV.rptr (PV.cells (List.getD (List.map enc ks) (Int.toNat i) default)))=AV.pv (PV.rptr (PV.cells ((enc) y0)))∧((decide (0+List.length [Sh.int .i64,Sh.sl 1,Sh.int .i64,Sh.sl 2,Sh.sl 5]<=List.length (PV.cells (enc y0)))&&Yk (PV.cells (enc y0)) 0 [Sh.int .i64,Sh.sl 1,Sh.int .i64,Sh.sl 2,Sh.sl 5])=true∧((Go.Pl.preT (fun(x:Cert×Unit)=>UA x.1&&decide (Zt x.1<N)) [(.agg [(.int .i64 (PV.asInt (List.getD (PV.cells (enc y0)) 0 default))),(.sl 1 (PV.asT (List.getD (PV.cells (enc y0)) (0+1) default)) (PV.asXs (List.getD (PV.cells (enc y0)) (0+1) default))),(.int .i64 (PV.asInt (List.getD (PV.cells (enc y0)) (0+1+1) default))),(.sl 2 (PV.asT (List.getD (PV.cells (enc y0)) (0+1+1+1) default)) (PV.asXs (List.getD (PV.cells (enc y0)) (0+1+1+1) default))),(.sl 5 (PV.asT (List.getD (PV.cells (enc y0)) (0+1+1+1+1) default)) (PV.asXs (List.getD (PV.cells (enc y0)) (0+1+1+1+1) default)))])])=true∧(∃ y1:Int,AV.pv (Zf (fun(x:Cert×Unit)=>Z7 x.1) [(.agg [(.int .i64 (PV.asInt (List.getD (PV.cells (enc y0)) 0 default))),(.sl 1 (PV.asT (List.getD (PV.cells (enc y0)) (0+1) default)) (PV.asXs (List.getD (PV.cells (enc y0)) (0+1) default))),(.int .i64 (PV.asInt (List.getD (PV.cells (enc y0)) (0+1+1) default))),(.sl 2 (PV.asT (List.getD (PV.cells (enc y0)) (0+1+1+1) default)) (PV.asXs (List.getD (PV.cells (enc y0)) (0+1+1+1) default))),(.sl 5 (PV.asT (List.getD (PV.cells (enc y0)) (0+1+1+1+1) default)) (PV.asXs (List.getD (PV.cells (enc y0)) (0+1+1+1+1) default)))])])=AV.pv (enc y1)∧(At (VR N) 0 (Za WP G) WW 0 21 [(1,(.ptr 0 0)),(3,(.pv (.int .i64 (IntKind.wrap IntKind.i64 (n+y1))))),(4,(.pv (.int .i64 (IntKind.wrap IntKind.i64 (i+1)))))] [(.obj (.box [(.pv (.int .i64 k)),(.pv (.sl 1 false (List.map enc m))),(.pv (.int .i64 l.k)),(.pv (.sl 2 false (List.map enc l.t))),(.pv (.sl 5 false (List.map enc ks)))]))])))))else(G ((.int .i64 n)))):At (VR N) 0 (Za WP G) WW 0 21 [(1,.ptr 0 0),(3,.pv (.int .i64 n)),(4,.pv (.int .i64 i))] [.obj (.box [.pv (enc k),.pv (enc m),.pv (enc l.k),.pv (enc l.t),.pv (enc ks)])]:=At.tp (.lit (.ask (.req (.abs (Cert) (fun YY=>AV.pv (PV.rptr (PV.cells ((enc) YY)))) (.req (.req (.abs (Int) (fun YY=>AV.pv (enc YY)) (.lit (.lit (.nil)))))))) (.nil))) h (by kernel_rfl)
def Qn:IC:=(.seq (.reg [⟨(some 2),(.box 2 (.t 0)),0,none⟩,⟨(some 4),(.mv (.c (.bool false))),1,none⟩] none) (.seq (.seq (.reg [⟨(some 5),(.mv (.c (.int .i64 0))),0,none⟩] none) (.block 0 (.loop [5,2,1] (.seq (.seq (.reg [⟨(some 6),(.mv (.t 5)),0,none⟩,⟨(some 7),(.faddr 1 (.t 2)),0,none⟩,⟨(some 8),(.load false [(.sl 2)] (.t 7)),0,none⟩,⟨(some 9),(.len 1 (.t 8)),0,none⟩,⟨(some 10),(.bin .num .lss (.t 6) (.t 9)),0,none⟩] none) (.cond (.t 10) .skip (.exit 0))) (.seq (.block 1 (.seq (.reg [⟨(some 13),(.faddr 1 (.t 2)),0,none⟩,⟨(some 14),(.load false [(.sl 2)] (.t 13)),0,none⟩,⟨(some 15),(.mv (.t 5)),0,none⟩,⟨(some 16),(.iaddr 2 (.t 14) (.t 15)),0,none⟩,⟨(some 17),(.faddr 0 (.t 16)),0,none⟩,⟨(some 18),(.load false [.str] (.t 17)),0,none⟩,⟨(some 19),(.len 0 (.t 18)),0,none⟩,⟨(some 20),(.bin .num .gtr (.t 19) (.c (.int .i64 40))),0,none⟩] none) (.cond (.t 20) (.seq (.reg [⟨(some 4),(.mv (.c (.bool false))),0,none⟩] none) .ret) .skip))) (.reg [⟨(some 11),(.mv (.t 5)),0,none⟩,⟨(some 12),(.bin .num .add (.t 11) (.c (.int .i64 1))),0,none⟩,⟨(some 5),(.mv (.t 12)),0,none⟩] none)))))) (.seq (.reg [⟨(some 21),(.faddr 1 (.t 2)),0,none⟩,⟨(some 22),(.load false [(.sl 2)] (.t 21)),0,none⟩,⟨(some 23),(.len 1 (.t 22)),0,none⟩,⟨(some 24),(.mv (.t 1)),0,none⟩,⟨(some 25),(.bin .num .leq (.t 23) (.t 24)),0,none⟩,⟨(some 4),(.mv (.t 25)),0,none⟩] none) .ret)))
def Qo:List IRes:=[(.tmp 4)]
abbrev b0r:Nat:=26
def KS:ZH:=XI []
theorem b5h{G:PV->Prop}(l:Lin)(n:Int)(h:At KS 0 (Za Qo G) Qn 0 26 [(1,(.pv (.int .i64 n))),(2,(.ptr 0 0)),(5,(.pv (.int .i64 0)))] [(.obj (.box [(.pv (.int .i64 l.k)),(.pv (.sl 2 false (List.map enc l.t)))]))]):Zc KS 0 (Za Qo G) Qn [] (Z9 26 [enc l,enc n]):=Zc.tp (.nil) h (by kernel_rfl)
theorem LZ{G:PV->Prop}(l:Lin)(n:Int)(i:Int)(h:if (decide (i<(↑(List.length (List.map enc l.t)):Int)))=true then(decide (0<=i)&&decide (Int.toNat i<List.length (List.map enc l.t))&&Enc.sz Coef==2)=true∧(∃ y0:Coef,AV.pv (PV.rptr (PV.cells (List.getD (List.map enc l.t) (Int.toNat i) default)))=AV.pv (PV.rptr (PV.cells ((enc) y0)))∧(if (decide ((↑(List.length (PV.asStr (List.getD (List.drop 0 (PV.cells (enc y0))) 0 default))):Int)>40))=true then G ((.bool false))else(At KS 0 (Za Qo G) Qn 0 26 [(1,(.pv (.int .i64 n))),(2,(.ptr 0 0)),(5,(.pv (.int .i64 (IntKind.wrap IntKind.i64 (i+1)))))] [(.obj (.box [(.pv (.int .i64 l.k)),(.pv (.sl 2 false (List.map enc l.t)))]))])))else(G ((.bool (decide ((↑(List.length (List.map enc l.t)):Int)<=n)))))):At KS 0 (Za Qo G) Qn 0 26 [(1,.pv (.int .i64 n)),(2,.ptr 0 0),(5,.pv (.int .i64 i))] [.obj (.box [.pv (.int .i64 l.k),.pv (enc l.t)])]:=At.tp (.lit (.ask (.req (.abs (Coef) (fun YY=>AV.pv (PV.rptr (PV.cells ((enc) YY)))) (.lit (.lit (.ask (.nil) (.lit (.nil))))))) (.lit (.nil)))) h (by kernel_rfl)
def Ue:IC:=(.seq (.reg [⟨(some 4),(.mv (.c (.bool false))),0,none⟩] none) (.seq (.seq (.reg [⟨(some 5),(.mv (.c (.int .i64 0))),0,none⟩] none) (.block 0 (.loop [5,0,1] (.seq (.seq (.reg [⟨(some 6),(.mv (.t 5)),0,none⟩,⟨(some 7),(.mv (.t 0)),0,none⟩,⟨(some 8),(.len 1 (.t 7)),0,none⟩,⟨(some 9),(.bin .num .lss (.t 6) (.t 8)),0,none⟩] none) (.cond (.t 9) .skip (.exit 0))) (.seq (.block 1 (.seq (.reg [⟨(some 12),(.mv (.t 0)),0,none⟩,⟨(some 13),(.mv (.t 5)),0,none⟩,⟨(some 14),(.iaddr 3 (.t 12) (.t 13)),0,none⟩,⟨(some 15),(.faddr 1 (.t 14)),0,none⟩,⟨(some 16),(.load true [(.int .i64),(.sl 2)] (.t 15)),0,none⟩,⟨(some 17),(.call (.c (.fn 16)) [(.t 16),(.c (.int .i64 8))]),0,none⟩,⟨(some 18),(.un .not (.t 17)),2,none⟩] none) (.cond (.t 18) (.seq (.reg [⟨(some 4),(.mv (.c (.bool false))),0,none⟩] none) .ret) .skip))) (.reg [⟨(some 10),(.mv (.t 5)),0,none⟩,⟨(some 11),(.bin .num .add (.t 10) (.c (.int .i64 1))),0,none⟩,⟨(some 5),(.mv (.t 11)),0,none⟩] none)))))) (.seq (.reg [⟨(some 19),(.mv (.t 0)),0,none⟩,⟨(some 20),(.len 1 (.t 19)),0,none⟩,⟨(some 21),(.mv (.t 1)),0,none⟩,⟨(some 22),(.bin .num .leq (.t 20) (.t 21)),0,none⟩,⟨(some 4),(.mv (.t 22)),0,none⟩] none) .ret)))
def VV:List IRes:=[(.tmp 4)]
abbrev a6z:Nat:=23
def Qb:ZH:=XI [(16,.pure (preT (fun x:Lin×Int×Unit=>Zy x.1)) (Zf (fun x:Lin×Int×Unit=>Qt x.1 x.2.1)))]
theorem b0q{G:PV->Prop}(l:List Fact)(n:Int)(h:At Qb 0 (Za VV G) Ue 0 23 [(0,(.pv (.sl 3 false (List.map enc l)))),(1,(.pv (.int .i64 n))),(5,(.pv (.int .i64 0)))] []):Zc Qb 0 (Za VV G) Ue [] (Z9 23 [enc l,enc n]):=Zc.tp (.nil) h (by kernel_rfl)
theorem PX{G:PV->Prop}(l:List Fact)(n:Int)(i:Int)(h:if (decide (i<(↑(List.length (List.map enc l)):Int)))=true then(decide (0<=i)&&decide (Int.toNat i<List.length (List.map enc l))&&Enc.sz Fact==3)=true∧(∃ y0:Fact,AV.pv (PV.rptr (PV.cells (List.getD (List.map enc l) (Int.toNat i) default)))=AV.pv (PV.rptr (PV.cells ((enc) y0)))∧((Go.Pl.preT (fun(x:Lin×Int×Unit)=>Zy x.1) [(.agg [(.int .i64 (PV.asInt (List.getD (List.drop 1 (PV.cells (enc y0))) 0 default))),(.sl 2 false (PV.asXs (List.getD (List.drop 1 (PV.cells (enc y0))) (0+1) default)))]),(.int .i64 8)])=true∧(∃ y1:Bool,AV.pv (Zf (fun(x:Lin×Int×Unit)=>Qt x.1 x.2.1) [(.agg [(.int .i64 (PV.asInt (List.getD (List.drop 1 (PV.cells (enc y0))) 0 default))),(.sl 2 false (PV.asXs (List.getD (List.drop 1 (PV.cells (enc y0))) (0+1) default)))]),(.int .i64 8)])=AV.pv (enc y1)∧(if (!y1)=true then G ((.bool false))else(At Qb 0 (Za VV G) Ue 0 23 [(0,(.pv (.sl 3 false (List.map enc l)))),(1,(.pv (.int .i64 n))),(5,(.pv (.int .i64 (IntKind.wrap IntKind.i64 (i+1)))))] [])))))else(G ((.bool (decide ((↑(List.length (List.map enc l)):Int)<=n)))))):At Qb 0 (Za VV G) Ue 0 23 [(0,.pv (enc l)),(1,.pv (.int .i64 n)),(5,.pv (.int .i64 i))] []:=At.tp (.lit (.ask (.req (.abs (Fact) (fun YY=>AV.pv (PV.rptr (PV.cells ((enc) YY)))) (.lit (.req (.abs (Bool) (fun YY=>AV.pv (enc YY)) (.ask (.nil) (.lit (.nil)))))))) (.lit (.nil)))) h (by kernel_rfl)
-- IMPOSSIBLE
def Sn:IC:=(.seq (.reg [⟨(some 2),(.alloc (.agg [(.int .i64 0),(.sl 0 true [])])),0,none⟩] none) (.seq (.reg [⟨(some 3),(.mv (.t 0)),0,none⟩,⟨(some 4),(.build [(.int .i64 0),(.sl 0 true [])] [(0,(1,(.t 3)))]),0,none⟩,⟨none,(.store 2 (.t 2) (.t 4)),0,none⟩] none) .ret))
def MP:List IRes:=[(.cell true 2 2)]
abbrev b7e:Nat:=5
def a7y:ZH:=XI []
theorem b9m{G:PV->Prop}(n:Int)(h:G ((.agg [(.int .i64 n),(.sl 0 true [])]))):Zc a7y 0 (Za MP G) Sn [] (Z9 5 [enc n]):=Zc.tp (.nil) h (by kernel_rfl)
def Us:IC:=(.seq (.reg [⟨(some 2),(.box 2 (.t 0)),0,none⟩,⟨(some 3),(.box 2 (.t 1)),1,none⟩,⟨(some 4),(.mv (.c (.int .i64 0))),2,none⟩] none) (.seq (.seq (.reg [⟨(some 5),(.mv (.c (.int .i64 0))),0,none⟩] none) (.block 0 (.loop [5,2,3] (.seq (.seq (.reg [⟨(some 8),(.mv (.t 5)),0,none⟩,⟨(some 9),(.faddr 1 (.t 2)),0,none⟩,⟨(some 10),(.load false [(.sl 2)] (.t 9)),0,none⟩,⟨(some 11),(.len 1 (.t 10)),0,none⟩,⟨(some 12),(.bin .num .lss (.t 8) (.t 11)),0,none⟩,⟨(some 13),(.mv (.t 12)),0,none⟩,⟨(some 14),(.mv (.t 5)),0,(some (13,true))⟩,⟨(some 15),(.faddr 1 (.t 3)),0,(some (13,true))⟩,⟨(some 16),(.load false [(.sl 2)] (.t 15)),0,(some (13,true))⟩,⟨(some 17),(.len 1 (.t 16)),0,(some (13,true))⟩,⟨(some 18),(.bin .num .lss (.t 14) (.t 17)),0,(some (13,true))⟩,⟨(some 19),(.pick (.t 13) (.t 18) (.c (.bool false))),0,none⟩] none) (.cond (.t 19) .skip (.exit 0))) (.seq (.block 1 (.seq (.reg [⟨(some 22),(.faddr 1 (.t 2)),0,none⟩,⟨(some 23),(.load false [(.sl 2)] (.t 22)),0,none⟩,⟨(some 24),(.mv (.t 5)),0,none⟩,⟨(some 25),(.iaddr 2 (.t 23) (.t 24)),0,none⟩,⟨(some 26),(.load true [.str,(.int .i64)] (.t 25)),0,none⟩,⟨(some 27),(.faddr 1 (.t 3)),0,none⟩,⟨(some 28),(.load false [(.sl 2)] (.t 27)),0,none⟩,⟨(some 29),(.mv (.t 5)),0,none⟩,⟨(some 30),(.iaddr 2 (.t 28) (.t 29)),0,none⟩,⟨(some 31),(.load true [.str,(.int .i64)] (.t 30)),0,none⟩,⟨(some 6),(.alloc (.agg [(.str []),(.int .i64 0)])),0,none⟩,⟨(some 7),(.alloc (.agg [(.str []),(.int .i64 0)])),1,none⟩,⟨none,(.store 2 (.t 6) (.t 26)),2,none⟩,⟨none,(.store 2 (.t 7) (.t 31)),2,none⟩] (some [[],[0],[],[1,2,0],[3,1,2,0],[],[5],[],[6,7,5],[8,6,7,5],[],[],[10,4,0,1,2,3,11],[11,9,12,0,1,2,3,4,5,6,7,8,10]])) (.block 2 (.seq (.reg [⟨(some 33),(.faddr 0 (.t 6)),0,none⟩,⟨(some 34),(.load false [.str] (.t 33)),0,none⟩,⟨(some 35),(.faddr 0 (.t 7)),0,none⟩,⟨(some 36),(.load false [.str] (.t 35)),0,none⟩,⟨(some 37),(.bin .num .lss (.t 34) (.t 36)),0,none⟩,⟨(some 38),(.mv (.t 37)),0,none⟩,⟨(some 39),(.faddr 0 (.t 6)),0,(some (38,false))⟩,⟨(some 40),(.load false [.str] (.t 39)),0,(some (38,false))⟩,⟨(some 41),(.faddr 0 (.t 7)),0,(some (38,false))⟩,⟨(some 42),(.load false [.str] (.t 41)),0,(some (38,false))⟩,⟨(some 43),(.bin .num .eql (.t 40) (.t 42)),0,(some (38,false))⟩,⟨(some 44),(.mv (.t 43)),0,(some (38,false))⟩,⟨(some 45),(.faddr 1 (.t 6)),0,(some (44,true))⟩,⟨(some 46),(.load false [(.int .i64)] (.t 45)),0,(some (44,true))⟩,⟨(some 47),(.faddr 1 (.t 7)),0,(some (44,true))⟩,⟨(some 48),(.load false [(.int .i64)] (.t 47)),0,(some (44,true))⟩,⟨(some 49),(.bin .num .lss (.t 46) (.t 48)),0,(some (44,true))⟩,⟨(some 50),(.pick (.t 44) (.t 49) (.c (.bool false))),0,(some (38,false))⟩,⟨(some 51),(.pick (.t 38) (.c (.bool true)) (.t 50)),0,none⟩,⟨(some 32),(.mv (.t 51)),0,none⟩] none) (.cond (.t 32) (.seq (.reg [⟨(some 4),(.mv (.c (.int .i64 (-1)))),0,none⟩] none) .ret) (.seq (.reg [⟨(some 53),(.load true [.str,(.int .i64)] (.t 6)),0,none⟩,⟨(some 54),(.load true [.str,(.int .i64)] (.t 7)),0,none⟩,⟨(some 55),(.bin (.agg [1,0]) .neq (.t 53) (.t 54)),0,none⟩,⟨(some 52),(.mv (.t 55)),0,none⟩] none) (.cond (.t 52) (.seq (.reg [⟨(some 4),(.mv (.c (.int .i64 1))),0,none⟩] none) .ret) .skip))))))) (.reg [⟨(some 20),(.mv (.t 5)),0,none⟩,⟨(some 21),(.bin .num .add (.t 20) (.c (.int .i64 1))),0,none⟩,⟨(some 5),(.mv (.t 21)),0,none⟩] none)))))) (.seq (.block 3 (.seq (.reg [⟨(some 57),(.faddr 1 (.t 2)),0,none⟩,⟨(some 58),(.load false [(.sl 2)] (.t 57)),0,none⟩,⟨(some 59),(.len 1 (.t 58)),0,none⟩,⟨(some 60),(.faddr 1 (.t 3)),0,none⟩,⟨(some 61),(.load false [(.sl 2)] (.t 60)),0,none⟩,⟨(some 62),(.len 1 (.t 61)),0,none⟩,⟨(some 63),(.bin .num .lss (.t 59) (.t 62)),0,none⟩,⟨(some 64),(.mv (.t 63)),0,none⟩,⟨(some 65),(.faddr 1 (.t 2)),0,(some (64,false))⟩,⟨(some 66),(.load false [(.sl 2)] (.t 65)),0,(some (64,false))⟩,⟨(some 67),(.len 1 (.t 66)),0,(some (64,false))⟩,⟨(some 68),(.faddr 1 (.t 3)),0,(some (64,false))⟩,⟨(some 69),(.load false [(.sl 2)] (.t 68)),0,(some (64,false))⟩,⟨(some 70),(.len 1 (.t 69)),0,(some (64,false))⟩,⟨(some 71),(.bin .num .eql (.t 67) (.t 70)),0,(some (64,false))⟩,⟨(some 72),(.mv (.t 71)),0,(some (64,false))⟩,⟨(some 73),(.faddr 0 (.t 2)),0,(some (72,true))⟩,⟨(some 74),(.load false [(.int .i64)] (.t 73)),0,(some (72,true))⟩,⟨(some 75),(.faddr 0 (.t 3)),0,(some (72,true))⟩,⟨(some 76),(.load false [(.int .i64)] (.t 75)),0,(some (72,true))⟩,⟨(some 77),(.bin .num .lss (.t 74) (.t 76)),0,(some (72,true))⟩,⟨(some 78),(.pick (.t 72) (.t 77) (.c (.bool false))),0,(some (64,false))⟩,⟨(some 79),(.pick (.t 64) (.c (.bool true)) (.t 78)),0,none⟩,⟨(some 56),(.mv (.t 79)),0,none⟩] none) (.cond (.t 56) (.seq (.reg [⟨(some 4),(.mv (.c (.int .i64 (-1)))),0,none⟩] none) .ret) (.seq (.reg [⟨(some 81),(.faddr 1 (.t 2)),0,none⟩,⟨(some 82),(.load false [(.sl 2)] (.t 81)),0,none⟩,⟨(some 83),(.len 1 (.t 82)),0,none⟩,⟨(some 84),(.faddr 1 (.t 3)),0,none⟩,⟨(some 85),(.load false [(.sl 2)] (.t 84)),0,none⟩,⟨(some 86),(.len 1 (.t 85)),0,none⟩,⟨(some 87),(.bin .num .gtr (.t 83) (.t 86)),0,none⟩,⟨(some 88),(.mv (.t 87)),0,none⟩,⟨(some 89),(.faddr 0 (.t 2)),0,(some (88,false))⟩,⟨(some 90),(.load false [(.int .i64)] (.t 89)),0,(some (88,false))⟩,⟨(some 91),(.faddr 0 (.t 3)),0,(some (88,false))⟩,⟨(some 92),(.load false [(.int .i64)] (.t 91)),0,(some (88,false))⟩,⟨(some 93),(.bin .num .gtr (.t 90) (.t 92)),0,(some (88,false))⟩,⟨(some 94),(.pick (.t 88) (.c (.bool true)) (.t 93)),0,none⟩,⟨(some 80),(.mv (.t 94)),0,none⟩] none) (.cond (.t 80) (.seq (.reg [⟨(some 4),(.mv (.c (.int .i64 1))),0,none⟩] none) .ret) .skip))))) (.seq (.reg [⟨(some 4),(.mv (.c (.int .i64 0))),0,none⟩] none) .ret))))
def Uo:List IRes:=[(.tmp 4)]
abbrev b4f:Nat:=95
def QF:ZH:=XI []
theorem b5a{G:PV->Prop}(a b:Lin)(h:At QF 0 (Za Uo G) Us 0 95 [(2,(.ptr 0 0)),(3,(.ptr 1 0)),(5,(.pv (.int .i64 0)))] [(.obj (.box [(.pv (.int .i64 a.k)),(.pv (.sl 2 false (List.map enc a.t)))])),(.obj (.box [(.pv (.int .i64 b.k)),(.pv (.sl 2 false (List.map enc b.t)))]))]):Zc QF 0 (Za Uo G) Us [] (Z9 95 [enc a,enc b]):=Zc.tp (.nil) h (by kernel_rfl)
theorem Oe{G:PV->Prop}(a b:Lin)(i:Int)(h:if (decide (i<(↑(List.length (List.map enc a.t)):Int)))=true then if (decide (i<(↑(List.length (List.map enc b.t)):Int)))=true then(decide (0<=i)&&decide (Int.toNat i<List.length (List.map enc a.t))&&Enc.sz Coef==2)=true∧(∃ y0:Coef,AV.pv (PV.rptr (PV.cells (List.getD (List.map enc a.t) (Int.toNat i) default)))=AV.pv (PV.rptr (PV.cells ((enc) y0)))∧((decide (0<=i)&&decide (Int.toNat i<List.length (List.map enc b.t))&&Enc.sz Coef==2)=true∧(∃ y1:Coef,AV.pv (PV.rptr (PV.cells (List.getD (List.map enc b.t) (Int.toNat i) default)))=AV.pv (PV.rptr (PV.cells ((enc) y1)))∧(if (Op.bytesLess (PV.asStr (List.getD (PV.cells (enc y0)) 0 default)) (PV.asStr (List.getD (PV.cells (enc y1)) 0 default)))=true then G ((.int .i64 (-1)))else(if (PV.asStr (List.getD (PV.cells (enc y0)) 0 default)==PV.asStr (List.getD (PV.cells (enc y1)) 0 default))=true then if (decide (PV.asInt (List.getD (PV.cells (enc y0)) (0+1) default)<PV.asInt (List.getD (PV.cells (enc y1)) (0+1) default)))=true then G ((.int .i64 (-1)))else(if (!(PV.asStr (List.getD (PV.cells (enc y0)) 0 default)==PV.asStr (List.getD (PV.cells (enc y1)) 0 default)&&(PV.asInt (List.getD (PV.cells (enc y0)) (0+1) default)==PV.asInt (List.getD (PV.cells (enc y1)) (0+1) default)&&true)))=true then G ((.int .i64 1))else(At QF 0 (Za Uo G) Us 0 95 [(2,(.ptr 0 0)),(3,(.ptr 1 0)),(5,(.pv (.int .i64 (IntKind.wrap IntKind.i64 (i+1)))))] [(.obj (.box [(.pv (.int .i64 a.k)),(.pv (.sl 2 false (List.map enc a.t)))])),(.obj (.box [(.pv (.int .i64 b.k)),(.pv (.sl 2 false (List.map enc b.t)))]))]))else(if (!(PV.asStr (List.getD (PV.cells (enc y0)) 0 default)==PV.asStr (List.getD (PV.cells (enc y1)) 0 default)&&(PV.asInt (List.getD (PV.cells (enc y0)) (0+1) default)==PV.asInt (List.getD (PV.cells (enc y1)) (0+1) default)&&true)))=true then G ((.int .i64 1))else(At QF 0 (Za Uo G) Us 0 95 [(2,(.ptr 0 0)),(3,(.ptr 1 0)),(5,(.pv (.int .i64 (IntKind.wrap IntKind.i64 (i+1)))))] [(.obj (.box [(.pv (.int .i64 a.k)),(.pv (.sl 2 false (List.map enc a.t)))])),(.obj (.box [(.pv (.int .i64 b.k)),(.pv (.sl 2 false (List.map enc b.t)))]))])))))))else(if (decide ((↑(List.length (List.map enc a.t)):Int)<(↑(List.length (List.map enc b.t)):Int)))=true then G ((.int .i64 (-1)))else(if ((↑(List.length (List.map enc a.t)):Int)==(↑(List.length (List.map enc b.t)):Int))=true then if (decide (a.k<b.k))=true then G ((.int .i64 (-1)))else(if (decide ((↑(List.length (List.map enc a.t)):Int)>(↑(List.length (List.map enc b.t)):Int)))=true then G ((.int .i64 1))else(if (decide (a.k>b.k))=true then G ((.int .i64 1))else(G ((.int .i64 0)))))else(if (decide ((↑(List.length (List.map enc a.t)):Int)>(↑(List.length (List.map enc b.t)):Int)))=true then G ((.int .i64 1))else(if (decide (a.k>b.k))=true then G ((.int .i64 1))else(G ((.int .i64 0)))))))else(if (decide ((↑(List.length (List.map enc a.t)):Int)<(↑(List.length (List.map enc b.t)):Int)))=true then G ((.int .i64 (-1)))else(if ((↑(List.length (List.map enc a.t)):Int)==(↑(List.length (List.map enc b.t)):Int))=true then if (decide (a.k<b.k))=true then G ((.int .i64 (-1)))else(if (decide ((↑(List.length (List.map enc a.t)):Int)>(↑(List.length (List.map enc b.t)):Int)))=true then G ((.int .i64 1))else(if (decide (a.k>b.k))=true then G ((.int .i64 1))else(G ((.int .i64 0)))))else(if (decide ((↑(List.length (List.map enc a.t)):Int)>(↑(List.length (List.map enc b.t)):Int)))=true then G ((.int .i64 1))else(if (decide (a.k>b.k))=true then G ((.int .i64 1))else(G ((.int .i64 0)))))))):At QF 0 (Za Uo G) Us 0 95 [(2,.ptr 0 0),(3,.ptr 1 0),(5,.pv (.int .i64 i))] [.obj (.box [.pv (.int .i64 a.k),.pv (enc a.t)]),.obj (.box [.pv (.int .i64 b.k),.pv (enc b.t)])]:=At.tp (.lit (.ask (.lit (.lit (.lit (.lit (.lit (.lit (.ask (.req (.abs (Coef) (fun YY=>AV.pv (PV.rptr (PV.cells ((enc) YY)))) (.lit (.req (.abs (Coef) (fun YY=>AV.pv (PV.rptr (PV.cells ((enc) YY)))) (.lit (.lit (.ask (.lit (.lit (.lit (.lit (.lit (.lit (.lit (.lit (.nil))))))))) (.lit (.lit (.lit (.lit (.lit (.lit (.ask (.lit (.lit (.lit (.lit (.lit (.lit (.lit (.lit (.ask (.nil) (.lit (.ask (.nil) (.lit (.nil))))))))))))) (.lit (.lit (.lit (.lit (.lit (.lit (.lit (.lit (.lit (.ask (.nil) (.lit (.nil))))))))))))))))))))))))))) (.lit (.ask (.lit (.lit (.lit (.lit (.lit (.lit (.lit (.lit (.lit (.lit (.nil))))))))))) (.lit (.lit (.lit (.lit (.lit (.lit (.lit (.lit (.ask (.lit (.lit (.lit (.lit (.lit (.lit (.lit (.lit (.ask (.nil) (.lit (.ask (.lit (.lit (.lit (.lit (.lit (.lit (.nil))))))) (.lit (.lit (.lit (.lit (.lit (.lit (.ask (.nil) (.nil))))))))))))))))))) (.lit (.lit (.lit (.lit (.lit (.lit (.lit (.lit (.lit (.ask (.lit (.lit (.lit (.lit (.lit (.lit (.nil))))))) (.lit (.lit (.lit (.lit (.lit (.lit (.ask (.nil) (.nil)))))))))))))))))))))))))))))))))))) (.lit (.lit (.lit (.lit (.lit (.lit (.lit (.ask (.lit (.lit (.lit (.lit (.lit (.lit (.lit (.lit (.lit (.lit (.nil))))))))))) (.lit (.lit (.lit (.lit (.lit (.lit (.lit (.lit (.ask (.lit (.lit (.lit (.lit (.lit (.lit (.lit (.lit (.ask (.nil) (.lit (.ask (.lit (.lit (.lit (.lit (.lit (.lit (.nil))))))) (.lit (.lit (.lit (.lit (.lit (.lit (.ask (.nil) (.nil))))))))))))))))))) (.lit (.lit (.lit (.lit (.lit (.lit (.lit (.lit (.lit (.ask (.lit (.lit (.lit (.lit (.lit (.lit (.nil))))))) (.lit (.lit (.lit (.lit (.lit (.lit (.ask (.nil) (.nil))))))))))))))))))))))))))))))))))))) h (by kernel_rfl)
def Me:IC:=(.seq (.reg [⟨(some 2),(.box 2 (.t 0)),0,none⟩,⟨(some 3),(.box 2 (.t 1)),1,none⟩,⟨(some 4),(.mv (.c (.bool false))),2,none⟩] none) (.seq (.reg [⟨(some 5),(.load true [(.int .i64),(.sl 2)] (.t 2)),0,none⟩,⟨(some 6),(.load true [(.int .i64),(.sl 2)] (.t 3)),0,none⟩,⟨(some 7),(.call (.c (.fn 85)) [(.t 5),(.t 6)]),0,none⟩,⟨(some 8),(.bin .num .eql (.t 7) (.c (.int .i64 0))),2,none⟩,⟨(some 4),(.mv (.t 8)),2,none⟩] none) .ret))
def Mw:List IRes:=[(.tmp 4)]
abbrev b7n:Nat:=9
def a3l:ZH:=XI [(85,.pure (preT (fun x:Lin×Lin×Unit=>Zy x.1)) (Zf (fun x:Lin×Lin×Unit=>BM x.1 x.2.1)))]
theorem b9z{G:PV->Prop}(a b:Lin)(h:(Go.Pl.preT (fun(x:Lin×Lin×Unit)=>Zy x.1) [(.agg [(.int .i64 a.k),(.sl 2 false (List.map enc a.t))]),(.agg [(.int .i64 b.k),(.sl 2 false (List.map enc b.t))])])=true∧(∃ y0:Int,AV.pv (Zf (fun(x:Lin×Lin×Unit)=>BM x.1 x.2.1) [(.agg [(.int .i64 a.k),(.sl 2 false (List.map enc a.t))]),(.agg [(.int .i64 b.k),(.sl 2 false (List.map enc b.t))])])=AV.pv (enc y0)∧(G ((.bool (y0==0)))))):Zc a3l 0 (Za Mw G) Me [] (Z9 9 [enc a,enc b]):=Zc.tp (.req (.abs (Int) (fun YY=>AV.pv (enc YY)) (.lit (.nil)))) h (by kernel_rfl)
end Go.Pl

namespace Go.Pl
open Go.RowKit
open Enc (enc dec is)
open EncL (encL decL isL)
theorem b5i(c:UInt8):digB c=(decide ((c.toNat:Int) ≥ 48)&&decide ((c.toNat:Int)<=57)):=by
 simp only[digB,UInt8.le_iff_toNat_le,ge_iff_le]
 have e1:(48:UInt8).toNat=48:=rfl
 have e2:(57:UInt8).toNat=57:=rfl
 rw[e1,e2]
 congr 1 <;> exact decide_eq_decide.2 (by omega)
theorem b8f(c:UInt8):WA c=(decide ((c.toNat:Int) ≥ 97)&&decide ((c.toNat:Int)<=122)):=by
 simp only[WA,UInt8.le_iff_toNat_le,ge_iff_le]
 have e1:(97:UInt8).toNat=97:=rfl
 have e2:(122:UInt8).toNat=122:=rfl
 rw[e1,e2]
 congr 1 <;> exact decide_eq_decide.2 (by omega)
theorem Sl{a b:Bool}{G:PV->Prop}(h:G (.bool (a&&b))):if a=true then G (.bool b)else G (.bool false):=by cases a <;> simpa using h
theorem a3e: ∀ a:UInt8×Unit,true=true->Zc ML 0 (Za TP (Zv (digB a.1))) Tj [] (Z9 b0v (encL a)):=by
 rintro⟨c,⟨⟩⟩ -
 exact b8k c (Sl (Zz (b5i c).symm))
theorem a5z: ∀ a:UInt8×Unit,true=true->Zc Ld 0 (Za Tq (Zv (WA a.1))) TK [] (Z9 b1w (encL a)):=by
 rintro⟨c,⟨⟩⟩ -
 exact b6k c (Sl (Zz (b8f c).symm))
theorem LF: ∀ a:Int×Unit,true=true->Zc Bf 0 (Za Ga (Zv (Ya a.1))) Ka [] (Z9 Eu (encL a)):=by
 rintro⟨n,⟨⟩⟩ -
 exact a3a n (Sl (Zz rfl))
theorem a9s: ∀ a:Int×Unit,true=true->Zc a4u 0 (Za Mx (Zv (Ya a.1))) MF [] (Z9 b6u (encL a)):=by
 rintro⟨n,⟨⟩⟩ -
 exact b9t n (Sl (Zz rfl))
theorem a5x(s:List UInt8)(hs:s.length<=30): ∀ (j i:Nat),j+i=s.length->At Wi 0 (Za Xf (Zv ((s.drop i).all digB))) Xe 0 62 [(0,.pv (.str s)),(3,.pv (.int .i64 i))] []:=by
 intro j
 induction j with
 | zero=>
  intro i hi
  refine Pt s i ?_
  rw[if_neg (X4 (by omega))]
  exact Zz (by rw[List.drop_of_length_le (by omega)];rfl)
 | succ j ih=>
  intro i hi
  have hlt:i<s.length:=by omega
  refine Pt s i ?_
  rw[if_pos (Xm hlt)]
  have eg:List.getD s (Int.toNat (i:Int)) 0=s[i]:=by simp[List.getD,hlt]
  rw[eg,next (by omega)]
  refine⟨by simp[hlt],Zd (s[i],()) rfl rfl,Ze (s[i],()) rfl ?_⟩
  rw[List.drop_eq_getElem_cons hlt,List.all_cons]
  show if (!digB s[i])=true then _ else _
  cases hd:digB s[i]
  ·exact Zz rfl
  ·rw[if_neg (by simp)]
   simpa using ih (i+1) (by omega)
theorem a7s(s:List UInt8)(hs:s.length<=30): ∀ (j i:Nat),j+i=s.length->0<i->At Wi 0 (Za Xf (Zv ((s.drop i).all fun c=>WA c||digB c))) Xe 1 62 [(0,.pv (.str s)),(4,.pv (.int .i64 i))] []:=by
 intro j
 induction j with
 | zero=>
  intro i hi _
  refine CU s i ?_
  rw[if_neg (X4 (by omega))]
  exact Zz (by rw[List.drop_of_length_le (by omega)];rfl)
 | succ j ih=>
  intro i hi h0
  have hlt:i<s.length:=by omega
  refine CU s i ?_
  rw[if_pos (Xm hlt)]
  have eg:List.getD s (Int.toNat (i:Int)) 0=s[i]:=by simp[List.getD,hlt]
  rw[eg,next (by omega)]
  refine⟨by simp[hlt],Zd (s[i],()) rfl rfl,Ze (s[i],()) rfl ?_⟩
  rw[List.drop_eq_getElem_cons hlt,List.all_cons]
  show if (!WA s[i])=true then _ else _
  cases hd:WA s[i]
  ·rw[b4h,if_neg (by simp;omega)]
   refine⟨by simp[hlt],Zd (s[i],()) rfl rfl,Ze (s[i],()) rfl ?_⟩
   show if (!digB s[i])=true then _ else _
   cases hd:digB s[i]
   ·exact Zz rfl
   ·rw[if_neg (by simp)]
    simpa using ih (i+1) (by omega) (by omega)
  ·rw[if_neg (by simp)]
   simpa using ih (i+1) (by omega) (by omega)
theorem OZ: ∀ a:Str×Unit,true=true->Zc Wi 0 (Za Xf (Zv (Yu a.1))) Xe [] (Z9 a9d (encL a)):=by
 rintro⟨⟨s⟩,⟨⟩⟩ -
 refine b2k s ?_
 cases s with
 | nil=>exact Zz rfl
 | cons c r=>
  rw[if_neg (by simp;omega)]
  by_cases h30:((c::r).length:Int)>30
  ·rw[if_pos (by simpa using h30)]
   refine Zz ?_
   have : ¬ r.length<=29:=by simp at h30;omega
   have h9 : ¬ r.length<=9:=by omega
   simp[Yu,this,h9]
  ·rw[if_neg (by simpa using h30)]
   have hl:(c::r).length<=30:=by omega
   refine⟨by simp,?_⟩
   show if ((c.toNat:Int)==95)=true then _ else _
   by_cases hc:c=95
   ·subst hc
    rw[if_pos (by rfl)]
    simp only[Yu,if_true]
    cases r with
    | nil=>exact Zz rfl
    | cons d r=>
     rw[if_neg (by simp;omega)]
     by_cases h10:((95::d::r:List UInt8).length:Int)>10
     ·rw[if_pos (by simpa using h10)]
      refine Zz ?_
      have:decide ((d::r).length<=9)=false:=decide_eq_false (by simp at h10 ⊢;omega)
      rw[this,Bool.and_false]
     ·rw[if_neg (by simpa using h10)]
      refine⟨by simp,?_⟩
      show if ((d.toNat:Int)==48)=true then _ else _
      by_cases hd:d=48
      ·subst hd
       rw[if_pos (by rfl)]
       exact Zz (by simp)
      ·rw[if_neg (by exact b4n 48 hd (by omega))]
       have h:=a5x (95::d::r) hl (d::r).length 1 (by simp)
       have e:(d::r).length<=9:=by simp at h10 ⊢;omega
       have e2:((d::r).all digB&& !(d::r).isEmpty&&decide ((d::r).head? ≠ some 48)&&decide ((d::r).length<=9))=(d::r).all digB:=by rw[decide_eq_true e,show decide ((d::r).head? ≠ some (48:UInt8))=true by simpa using hd];simp
       rw[e2]
       exact h
   ·rw[if_neg (by exact b4n 95 hc (by omega))]
    refine CU (c::r) 0 ?_
    rw[if_pos (by simp)]
    refine⟨by simp,Zd (c,()) rfl rfl,Ze (c,()) rfl ?_⟩
    show if (!WA c)=true then _ else _
    have en:Yu ⟨c::r⟩=(WA c&&r.all (fun c=>WA c||digB c)):=by
     have:r.length<=29:=by simp at hl;omega
     simp[Yu,hc,this]
    rw[en]
    cases hlow:WA c
    ·rw[b4h,if_pos (by rfl)]
     exact Zz rfl
    ·rw[if_neg (by simp)]
     exact a7s (c::r) hl r.length 1 (by simp) (by omega)
end Go.Pl

namespace Go.Pl
open Go.RowKit
open Enc (enc dec is)
open EncL (encL decL isL)
def Dk(prev:Option (List UInt8)):List Coef->Bool
 | []=>true
 | t::r=>Yu t.v&&decide (t.c≠0)&&Ya t.c&&(match prev with|none=>true|some p=>decide (p<t.v.s))&&Dk (some t.v.s) r
theorem Jr(p:Option (List UInt8))(t:Coef)(r:List Coef):Dk p (t::r)=(Yu t.v&&decide (t.c≠0)&&Ya t.c&&(match p with|none=>true|some p=>decide (p<t.v.s))&&Dk (some t.v.s) r):=by cases p <;> rfl
theorem Ns: ∀ (l:List Coef) (p:List UInt8),Dk (some p) l=(l.all (fun t=>Yu t.v&&decide (t.c≠0)&&Ya t.c)&&(match l with|[]=>true|t::_=>decide (p<t.v.s))&&BI l)
 | [],p=>by simp[Dk,BI]
 | t::r,p=>by
  rw[Jr,Ns r]
  cases r with
  | nil=>simp[BI]
  | cons u r=>
   simp only[List.all_cons,BI]
   ac_rfl
theorem a2p(l:List Coef):Dk none l=(l.all (fun t=>Yu t.v&&decide (t.c≠0)&&Ya t.c)&&BI l):=by
 cases l with
 | nil=>simp[Dk,BI]
 | cons t r=>
  rw[Jr,Ns r]
  cases r with
  | nil=>simp[BI]
  | cons u r=>
   simp only[List.all_cons,BI,Bool.and_true]
   ac_rfl
theorem Ng(l:Lin):Zj l=(Ya l.k&&decide (l.t.length<=12)&&Dk none l.t):=by
 rw[a2p,Zj]
 ac_rfl
def pvS(ts:List Coef):Nat->Option (List UInt8)
 | 0=>none
 | i+1=>(ts[i]?).map (·.v.s)
theorem FE{k:Nat}(h:k<9223372036854775807):IntKind.i64.wrap (((k+1:Nat):Int) - 1)=(k:Int):=by rw[Dm (by omega) (by omega)];omega
theorem Po(l:Lin)(hl:l.t.length<=9223372036854775807): ∀ (j i:Nat),j+i=l.t.length->At Wy 0 (Za XM (Zv (Dk (pvS l.t i) (l.t.drop i)))) XN 0 58 [(1,.ptr 0 0),(3,.pv (.int .i64 i))] [.obj (.box [.pv (.int .i64 l.k),.pv (enc l.t)])]:=by
 intro j
 induction j with
 | zero=>
  intro i hi
  refine AU l i ?_
  rw[if_neg (UF (by omega))]
  exact Zz (by rw[List.drop_of_length_le (by omega)];rfl)
 | succ j ih=>
  intro i hi
  have hlt:i<l.t.length:=by omega
  have h:=ih (i+1) (by omega)
  refine AU l i ?_
  simp only[co1,co2,co3,co4]
  refine Z8 (V5 hlt) ⟨ZN hlt rfl,Yf hlt (Ze (l.t[i].v,()) rfl (Y4 (fun hn=> ?_) fun hn=>XL (fun hc=> ?_) fun hc=>Ze (l.t[i].c,()) rfl (Y4 (fun hk=> ?_) fun hk=> ?_)))⟩
  all_goals rw[List.drop_eq_getElem_cons hlt,Jr]
  ·have hn:Yu l.t[i].v=false:=hn
   exact Zz (by simp[hn])
  ·exact Zz (by simp[hc])
  ·have hk:Ya l.t[i].c=false:=hk
   exact Zz (by simp[hk])
  have hn:Yu l.t[i].v=true:=hn
  have hk:Ya l.t[i].c=true:=hk
  rw[next (by omega),hn,hk,decide_eq_true hc]
  have ep:pvS l.t (i+1)=some l.t[i].v.s:=by simp[pvS,hlt]
  rw[ep]at h
  cases i with
  | zero=>exact Yc (by simp) h
  | succ i=>
   refine Z8 (by simp) ?_
   rw[FE (by omega)]
   refine⟨ZN (by omega) rfl,Yf (by omega) ?_⟩
   have e2:pvS l.t (i+1)=some l.t[i].v.s:=by simp[pvS,show i<l.t.length by omega]
   rw[e2]
   refine Y4 (fun hb=> ?_) fun hb=> ?_
   all_goals
    have hb':=(Yq l.t[i].v.s l.t[i+1].v.s).symm.trans hb
    simp only[hb',Bool.and_true,Bool.true_and,Bool.and_false,Bool.false_and]
   ·exact Zz rfl
   ·exact h
theorem MO: ∀ a:Lin×Unit,Zy a.1=true->Zc Wy 0 (Za XM (Zv (Zj a.1))) XN [] (Z9 Ei (encL a)):=by
 rintro⟨l,⟨⟩⟩ hl
 have hl:l.t.length<=9223372036854775807:=by simpa [Zy]using hl
 refine a2c l (Ze (l.k,()) rfl ?_)
 show if (!Ya l.k)=true then _ else _
 show if (!Ya l.k)=true then Zv (Zj l) _ else if _ then Zv (Zj l) _ else At Wy 0 (Za XM (Zv (Zj l))) XN 0 58 _ _
 rw[Ng]
 cases hk:Ya l.k
 ·exact Zz rfl
 rw[b8w]
 by_cases h12:l.t.length<=12
 ·rw[if_neg (by simp;omega)]
  have h:=Po l hl l.t.length 0 (by omega)
  simp only[h12,decide_true,Bool.true_and]
  exact h
 ·rw[if_pos (by simp;omega)]
  exact Zz (by simp[h12])
theorem N9{k:Int}{m:List Int}{l:Lin}{ks:List Cert}(h:UA (.mk k m l ks)=true):m.length<=9223372036854775807∧l.t.length<=9223372036854775807∧ks.length<=9223372036854775807∧Qy ks=true:=by
 simp only[UA,Zy,Bool.and_eq_true,decide_eq_true_eq]at h
 exact⟨h.1.1.1,h.1.1.2,h.1.2,h.2⟩
theorem VA(k:Int)(m:List Int)(l:Lin)(ks:List Cert):([PV.agg [enc k,enc m,enc l.k,enc l.t,enc ks]]:List PV)=[enc (Cert.mk k m l ks)]:=by rw[Zp]
theorem NI(N:Nat)(k:Int)(m:List Int)(l:Lin)(ks:List Cert)(hN:Yb ks<N)(hlen:ks.length<=9223372036854775807)(hok:Qy ks=true): ∀ (j i:Nat) (n:Int),j+i=ks.length->At (Qj N) 0 (Za Ud (Zv (YZ n (ks.drop i)))) VW 0 19 [(3,.pv (.int .i64 n)),(7,.pv (enc ks)),(8,.pv (.int .i64 ks.length)),(9,.pv (.int .i64 i))] []:=by
 intro j
 induction j with
 | zero=>
  intro i n hi
  exact PW N k m l ks n i (Yc (X4 (by omega)) (XW (by rw[List.drop_of_length_le (by omega),YZ])))
 | succ j ih=>
  intro i n hi
  have hlt:i<ks.length:=by omega
  have h:=ih (i+1) (Ym (n+Z7 ks[i])) (by omega)
  have hd:=YH (List.getElem_mem hlt)
  have ho:=JJ hok (List.getElem_mem hlt)
  refine PW N k m l ks n i (Z8 (Xm hlt) ⟨ZN hlt rfl,Yf hlt ?_⟩)
  rw[List.drop_eq_getElem_cons hlt,YZ,next (by omega)]
  generalize ks[i]=c at h hd ho ⊢
  obtain⟨k',m',l',ks'⟩:=c
  rw[Zp]
  exact⟨rfl,Zd (.mk k' m' l' ks',()) (VA k' m' l' ks') (by show(UA _&&decide _)=true;rw[ho,decide_eq_true (show Zt (Cert.mk k' m' l' ks')<N by omega)];rfl),Ze (.mk k' m' l' ks',()) (VA k' m' l' ks') h⟩
theorem OM(N:Nat): ∀ a:Cert×Unit,(UA a.1&&decide (Zt a.1<N+1))=true->Zc (Qj N) 0 (Za Ud (Zv (Z7 a.1))) VW [] (Z9 a1x (encL a)):=by
 rintro⟨⟨k,m,l,ks⟩,⟨⟩⟩ h
 simp only[Bool.and_eq_true,decide_eq_true_eq]at h
 obtain⟨h1,h2,h3,h4⟩:=N9 h.1
 have h5:Zt (Cert.mk k m l ks)<N+1:=h.2
 rw[Zt]at h5
 have e:(encL ((Cert.mk k m l ks,()):Cert×Unit):List PV)=[PV.agg [enc k,enc m,enc l.k,enc l.t,enc ks]]:=(VA k m l ks).symm
 rw[e]
 refine a9q N k m l ks ?_
 have:=NI N k m l ks (by omega) h3 h4 ks.length 0 1 (by omega)
 rw[List.length_map]
 exact this
theorem Re(N:Nat)(k:Int)(m:List Int)(l:Lin)(ks:List Cert)(hN:Yb ks<N)(hlen:ks.length<=9223372036854775807)(hok:Qy ks=true): ∀ (j i:Nat) (n:Int),j+i=ks.length->At (VR N) 0 (Za WP (Zv (YZ n (ks.drop i)))) WW 0 21 [(1,.ptr 0 0),(3,.pv (.int .i64 n)),(4,.pv (.int .i64 i))] [.obj (.box [.pv (enc k),.pv (enc m),.pv (enc l.k),.pv (enc l.t),.pv (enc ks)])]:=by
 intro j
 induction j with
 | zero=>
  intro i n hi
  exact AB N k m l ks n i (Yc (UF (by omega)) (XW (by rw[List.drop_of_length_le (by omega),YZ])))
 | succ j ih=>
  intro i n hi
  have hlt:i<ks.length:=by omega
  have h:=ih (i+1) (Ym (n+Z7 ks[i])) (by omega)
  have hd:=YH (List.getElem_mem hlt)
  have ho:=JJ hok (List.getElem_mem hlt)
  refine AB N k m l ks n i (Z8 (V5 hlt) ⟨ZN hlt rfl,Yf hlt ?_⟩)
  rw[List.drop_eq_getElem_cons hlt,YZ,next (by omega)]
  generalize ks[i]=c at h hd ho ⊢
  obtain⟨k',m',l',ks'⟩:=c
  rw[Zp]
  exact⟨rfl,Zd (.mk k' m' l' ks',()) (VA k' m' l' ks') (by show(UA _&&decide _)=true;rw[ho,decide_eq_true (show Zt (Cert.mk k' m' l' ks')<N by omega)];rfl),Ze (.mk k' m' l' ks',()) (VA k' m' l' ks') h⟩
theorem Lv(N:Nat): ∀ a:Cert×Unit,(UA a.1&&decide (Zt a.1<N+1))=true->Zc (VR N) 0 (Za WP (Zv (Z7 a.1))) WW [] (Z9 EL (encL a)):=by
 rintro⟨⟨k,m,l,ks⟩,⟨⟩⟩ h
 simp only[Bool.and_eq_true,decide_eq_true_eq]at h
 obtain⟨h1,h2,h3,h4⟩:=N9 h.1
 have h5:Zt (Cert.mk k m l ks)<N+1:=h.2
 rw[Zt]at h5
 have e:(encL ((Cert.mk k m l ks,()):Cert×Unit):List PV)=[PV.agg [enc k,enc m,enc l.k,enc l.t,enc ks]]:=(VA k m l ks).symm
 rw[e]
 refine a6w N k m l ks ?_
 exact Re N k m l ks (by omega) h3 h4 ks.length 0 1 (by omega)
theorem OB(l:Lin)(n:Int)(hl:l.t.length<=9223372036854775807): ∀ (j i:Nat),j+i=l.t.length->At KS 0 (Za Qo (Zv ((l.t.drop i).all (fun t=>decide (t.v.s.length<=40))&&decide ((l.t.length:Int)<=n)))) Qn 0 26 [(1,.pv (.int .i64 n)),(2,.ptr 0 0),(5,.pv (.int .i64 i))] [.obj (.box [.pv (.int .i64 l.k),.pv (enc l.t)])]:=by
 intro j
 induction j with
 | zero=>
  intro i hi
  exact LZ l n i (Yc (UF (by omega)) (Zz (by rw[List.drop_of_length_le (by omega),List.length_map];rfl)))
 | succ j ih=>
  intro i hi
  have hlt:i<l.t.length:=by omega
  have h:=ih (i+1) (by omega)
  refine LZ l n i (Z8 (V5 hlt) ⟨ZN hlt rfl,Yf hlt ?_⟩)
  rw[List.drop_eq_getElem_cons hlt,List.all_cons,next (by omega)]
  refine Yv (fun h40=> ?_) fun h40=> ?_
  ·have h40:(l.t[i].v.s.length:Int)>40:=h40
   exact Zz (by rw[decide_eq_false (show ¬ l.t[i].v.s.length<=40 by omega)];rfl)
  ·have h40 : ¬ (l.t[i].v.s.length:Int)>40:=h40
   rw[decide_eq_true (show l.t[i].v.s.length<=40 by omega),Bool.true_and]
   exact h
theorem a5i: ∀ a:Lin×Int×Unit,Zy a.1=true->Zc KS 0 (Za Qo (Zv (Qt a.1 a.2.1))) Qn [] (Z9 b0r (encL a)):=by
 rintro⟨l,n,⟨⟩⟩ hl
 exact b5h l n (OB l n (by simpa [Zy]using hl) l.t.length 0 (by omega))
theorem Ll(l:List Fact)(n:Int)(hl:l.length<=9223372036854775807)(hk:l.all (fun f=>Zy f.l)=true): ∀ (j i:Nat),j+i=l.length->At Qb 0 (Za VV (Zv ((l.drop i).all (fun f=>Qt f.l 8)&&decide ((l.length:Int)<=n)))) Ue 0 23 [(0,.pv (enc l)),(1,.pv (.int .i64 n)),(5,.pv (.int .i64 i))] []:=by
 intro j
 induction j with
 | zero=>
  intro i hi
  exact PX l n i (Yc (UF (by omega)) (Zz (by rw[List.drop_of_length_le (by omega),List.length_map];rfl)))
 | succ j ih=>
  intro i hi
  have hlt:i<l.length:=by omega
  have h:=ih (i+1) (by omega)
  have ho:Zy l[i].l=true:=by rw[List.all_eq_true]at hk;exact hk _ (List.getElem_mem hlt)
  refine PX l n i (Z8 (V5 hlt) ⟨ZN hlt rfl,Yf hlt ⟨Zd (l[i].l,8,()) rfl ho,Ze (l[i].l,8,()) rfl ?_⟩⟩)
  rw[List.drop_eq_getElem_cons hlt,List.all_cons,next (by omega)]
  refine Y4 (fun hf=> ?_) fun hf=> ?_
  ·have hf:Qt l[i].l 8=false:=hf
   exact Zz (by rw[hf];rfl)
  ·have hf:Qt l[i].l 8=true:=hf
   rw[hf,Bool.true_and]
   exact h
def Gy(l:List Fact)(n:Int):Bool:=l.all (fun f=>Qt f.l 8)&&decide ((l.length:Int)<=n)
def YA(l:List Fact):Bool:=decide (l.length<=9223372036854775807)&&l.all fun f=>Zy f.l
theorem EF: ∀ a:List Fact×Int×Unit,YA a.1=true->Zc Qb 0 (Za VV (Zv (Gy a.1 a.2.1))) Ue [] (Z9 a6z (encL a)):=by
 rintro⟨l,n,⟨⟩⟩ hl
 simp only[YA,Bool.and_eq_true,decide_eq_true_eq]at hl
 exact b0q l n (Ll l n hl.1 hl.2 l.length 0 (by omega))
end Go.Pl

namespace Go.Pl
open Go.RowKit
open Enc (enc dec is)
open EncL (encL decL isL)
theorem ME(l:List Fact)(hl:Zi l=true): ∀ (j i:Nat),j+i=l.length->At Qv 0 (Za VN (Zv (Zq (l.drop i)))) VG 0 17 [(0,.pv (enc l)),(3,.pv (.int .i64 i))] []:=by
 intro j
 induction j with
 | zero=>
  intro i hi
  exact P5 l i (Yc (UF (by omega)) (Zz (by rw[List.drop_of_length_le (by omega)];rfl)))
 | succ j ih=>
  intro i hi
  have hl':=hl
  simp only[Zi,Bool.and_eq_true,decide_eq_true_eq,List.all_eq_true]at hl'
  have hlt:i<l.length:=by omega
  have h:=ih (i+1) (by omega)
  have ho:Zy l[i].l=true:=by
   have:=hl'.2 _ (List.getElem_mem hlt)
   simp only[Zx,Bool.and_eq_true]at this
   exact this.1
  refine P5 l i (Z8 (V5 hlt) ⟨ZN hlt rfl,Yf hlt ⟨Zd (l[i].l,()) rfl ho,Ze (l[i].l,()) rfl ?_⟩⟩)
  rw[List.drop_eq_getElem_cons hlt,Zq,List.all_cons,next (by omega)]
  refine Y4 (fun hf=> ?_) fun hf=> ?_
  ·have hf:Zj l[i].l=false:=hf
   exact Zz (by rw[hf];rfl)
  ·have hf:Zj l[i].l=true:=hf
   rw[hf,Bool.true_and]
   exact h
theorem Ea: ∀ a:List Fact×Unit,Zi a.1=true->Zc Qv 0 (Za VN (Zv (Zq a.1))) VG [] (Z9 a4t (encL a)):=by
 rintro⟨l,⟨⟩⟩ h
 exact b2i l (ME l h l.length 0 rfl)
theorem Tp(N:Nat)(k:Int)(m:List Int)(l:Lin)(ks:List Cert)(hN:Yb ks<N)(hlen:ks.length<=9223372036854775807)(hok:Qy ks=true): ∀ (j i:Nat) (n:Int),j+i=ks.length->At (WY N) 0 (Za Wm (Zv (WC (ks.drop i) n))) Wo 0 51 [(1,.pv (.int .i64 n)),(2,.ptr 0 0),(5,.pv (.int .i64 i))] [.obj (.box [.pv (enc k),.pv (enc m),.pv (enc l.k),.pv (enc l.t),.pv (enc ks)])]:=by
 intro j
 induction j with
 | zero=>
  intro i n hi
  exact Cv N k m l ks n i (Yc (UF (by omega)) (Zz (by rw[List.drop_of_length_le (by omega),WC])))
 | succ j ih=>
  intro i n hi
  have hlt:i<ks.length:=by omega
  have h:=ih (i+1) (Ym (n - Z7 ks[i])) (by omega)
  have hd:=YH (List.getElem_mem hlt)
  have ho:=JJ hok (List.getElem_mem hlt)
  refine Cv N k m l ks n i (Z8 (V5 hlt) ⟨ZN hlt rfl,Yf hlt ⟨Vi _,?_⟩⟩)
  simp only[U0]
  refine⟨Zd (ks[i],Ym (n - 1),()) rfl (by show(UA _&&decide _)=true;rw[ho,decide_eq_true (show Zt ks[i]<N by omega)];rfl),Ze (ks[i],Ym (n - 1),()) rfl ?_⟩
  rw[List.drop_eq_getElem_cons hlt,WC,next (by omega)]
  refine Y4 (fun hf=> ?_) fun hf=> ?_
  ·have hf:Xo ks[i] (Ym (n - 1))=false:=hf
   exact Zz (by rw[hf];rfl)
  ·have hf:Xo ks[i] (Ym (n - 1))=true:=hf
   rw[hf,Bool.true_and]
   refine⟨ZN hlt rfl,Yf hlt ⟨Vi _,?_⟩⟩
   exact⟨Zd (ks[i],()) rfl ho,Ze (ks[i],()) rfl h⟩
theorem RZ(N:Nat): ∀ a:Cert×Int×Unit,(UA a.1&&decide (Zt a.1<N+1))=true->Zc (WY N) 0 (Za Wm (Zv (Xo a.1 a.2.1))) Wo [] (Z9 Ls (encL a)):=by
 rintro⟨⟨k,m,l,ks⟩,n,⟨⟩⟩ h
 simp only[Bool.and_eq_true,decide_eq_true_eq]at h
 obtain⟨h1,h2,h3,h4⟩:=N9 h.1
 have h5:Zt (Cert.mk k m l ks)<N+1:=h.2
 rw[Zt]at h5
 have e:(encL ((Cert.mk k m l ks,n,()):Cert×Int×Unit):List PV)=[PV.agg [enc k,enc m,enc l.k,enc l.t,enc ks],enc n]:=by
  show [enc (Cert.mk k m l ks),enc n]=_
  rw[Zp]
 rw[e]
 have hlo:Zy l=true:=by simpa [Zy]using h2
 refine a0u N k m l ks n ?_
 show if decide (((List.map (enc:Int->PV) m).length:Int)>60)=true then Zv (Xo (.mk k m l ks) n) _ else _
 rw[List.length_map,Xo]
 refine Yv (fun g1=>Zz (by rw[decide_eq_true g1];rfl)) fun g1=>⟨Zd (l,8,()) rfl hlo,Ze (l,8,()) rfl ?_⟩
 rw[decide_eq_false g1]
 refine Y4 (fun g2=> ?_) fun g2=>Yv (fun g3=> ?_) fun g3=> ?_
 ·have g2:Qt l 8=false:=g2
  exact Zz (by rw[g2];rfl)
 ·have g2:Qt l 8=true:=g2
  exact Zz (by rw[g2,decide_eq_true g3];rfl)
 have g2:Qt l 8=true:=g2
 rw[g2,decide_eq_false g3]
 show if decide (((List.map (enc:Cert->PV) ks).length:Int)>n)=true then _ else _
 rw[List.length_map]
 refine Yv (fun g4=>Zz (by rw[decide_eq_true g4];rfl)) fun g4=> ?_
 rw[decide_eq_false g4]
 exact Tp N k m l ks (by omega) h3 h4 ks.length 0 n (by omega)
theorem Mm: ∀ a:Int×Unit,decide (a.1=1)=true->Zc CS 0 (Za Ho (Zv F8)) Ko [] (Z9 EX (encL a)):=by
 rintro⟨n,⟨⟩⟩ h
 obtain rfl:n=1:=by simpa using h
 exact a7f ⟨rfl,rfl⟩
theorem NA: ∀ a:Int×Unit,decide (a.1 = -1)=true->Zc CY 0 (Za Hy (Zv Oa)) Hq [] (Z9 OP (encL a)):=by
 rintro⟨n,⟨⟩⟩ h
 obtain rfl:n = -1:=by simpa using h
 exact a5j (Ze ((1:Int),()) rfl ⟨by decide,rfl,rfl⟩)
theorem RN: ∀ a:Lin×Unit,decide (a.1=exL)=true->Zc WR 0 (Za Wn (Zv Sq)) Wp [] (Z9 M5 (encL a)):=by
 rintro⟨l,⟨⟩⟩ h
 obtain rfl:l=exL:=by simpa using h
 have hv:Zj exL=true:=by decide
 refine a0a (Ze (exL,()) rfl (Y4 (fun hf=> ?_) fun _=> ?_))
 ·have hf:Zj exL=false:=hf
  rw[hv]at hf;cases hf
 exact RB [] ⟨by decide,Rk (Ze ((-1:Int),()) rfl ⟨by decide,rfl,rfl⟩)⟩
theorem a1r: ∀ a:List Int×Unit,true=true->Zc Tx 0 (Za D6 (Zv (Cert.mk 1 a.1 ⟨0,[]⟩ []))) Ba [] (Z9 a5c (encL a)):=by
 rintro⟨m,⟨⟩⟩ -
 refine b2w m ⟨?_,?_⟩
 ·rw[b1u]
  show(true&&is (List Int) (enc m)&&true&&true&&true)=true
  rw[Enc.is_enc];rfl
 ·rw[a7x _ _ _ _ _ rfl]
  show Cert.mk 1 (dec (enc m)) ⟨0,[]⟩ []=_
  rw[Enc.dec_enc]
end Go.Pl

namespace Go.Pl
open Go.RowKit
open Enc (enc dec is)
open EncL (encL decL isL)
def nS:Str:=⟨[110]⟩
def KP:List Fact:=[⟨true,⟨-1,[⟨nS,2⟩]⟩⟩]
def b9s:Lin:=⟨0,[⟨nS,-1⟩]⟩
def UG(m:List Int):Cert:=.mk 1 m ⟨0,[]⟩ []
def b6f:Cert:=.mk 2 [-1,0] ⟨0,[]⟩ [UG [0,1,1]]
def Lt:Cert:=.mk 2 [1] ⟨0,[]⟩ [b6f]
theorem O3(x:List UInt8):YV [x]=[x]:=by simp[YV]
theorem P6(n:Int)(s:Str)(c:Int):BF n [(s,c)]=if Zj ⟨(Kw n (YN [c])).1,[⟨s,Ym (c.tdiv (YN [c]))⟩]⟩then(⟨(Kw n (YN [c])).1,[⟨s,Ym (c.tdiv (YN [c]))⟩]⟩,0)else(⟨0,[]⟩,3):=by
 simp[BF,X6,VP,ZF,O3,VO,Ws]
theorem SX:Yj KP [1]=(exL,0):=by
 have h1:Zq KP=true:=by decide
 have h2:QZ KP [1]=true:=by decide
 have h3:ZQ KP [1]=(-1,[(nS,2)]):=by decide
 have h4:Uf [(nS,2)]=[(nS,2)]:=by decide
 rw[Yj,h1,h2,h3,if_pos rfl,if_pos rfl,h4,P6]
 decide
def a0m:List Fact:=ZM KP exL
theorem b3z:Yj a0m [-1,0]=(b9s,0):=by
 have h1:Zq a0m=true:=by decide
 have h2:QZ a0m [-1,0]=true:=by decide
 have h3:ZQ a0m [-1,0]=(1,[(nS,-2)]):=by decide
 have h4:Uf [(nS,-2)]=[(nS,-2)]:=by decide
 rw[Yj,h1,h2,h3,if_pos rfl,if_pos rfl,h4,P6]
 decide
theorem b6l:YC KP Lt=true:=by
 have h3:Bo (ZM a0m b9s) [0,1,1]=true:=by decide
 have e1:ZM KP (Yj KP [1]).1=a0m:=by rw[SX];rfl
 have b1:Z4 Lt 1 true=true:=by decide
 have b2:Z4 b6f 1 true=true:=by decide
 have b3:Z4 (UG [0,1,1]) 0 true=true:=by decide
 unfold Lt
 rw[Dj,e1]
 unfold b6f
 rw[Dj,b3z]
 unfold UG
 rw[Gh,h3]
 rw[SX]
 decide
theorem b2c:YC KP (UG [1])=false:=by
 unfold UG
 rw[Gh]
 decide
theorem a3m:Yp KP Lt=0:=by
 have h1:Zq KP=true:=by decide
 have h2 : ¬ Z7 Lt>1000:=by decide
 rw[Yp,h1,if_pos rfl,if_neg (by decide),if_neg h2,b6l,if_pos rfl]
theorem OW:Yp KP (UG [1])=18:=by
 have h1:Zq KP=true:=by decide
 have h2 : ¬ Z7 (UG [1])>1000:=by decide
 rw[Yp,h1,if_pos rfl,if_neg (by decide),if_neg h2,b2c]
 rfl
def GH(p:PV):PV:=.agg [.int .i64 2,.sl 1 false [.int .i64 1],.int .i64 0,.sl 0 true [],.sl 5 false [.agg [.int .i64 2,.sl 1 false [.int .i64 (-1),.int .i64 0],.int .i64 0,.sl 0 true [],.sl 5 false [p]]]]
theorem Nk(y:Cert):(dec (GH (enc y)):Cert) = .mk 2 [1] ⟨0,[]⟩ [.mk 2 [-1,0] ⟨0,[]⟩ [y]]:=by
 have h:(dec (GH (enc y)):Cert) = .mk 2 [1] ⟨0,[]⟩ [.mk 2 [-1,0] ⟨0,[]⟩ [KD (UI y)]]:=rfl
 rw[h,TR]
theorem L8(y:Cert):is Cert (GH (enc y))=true:=by
 have h:is Cert (GH (enc y))=((V4 (UI y)&&true)&&true):=rfl
 rw[h,TQ];rfl
theorem NC: ∀ a:Unit,true=true->Zc Bc 0 (Za Gc (Zv true)) Hm [] (Z9 OC (encL a)):=by
 rintro⟨⟩ -
 have ep:Un (⟨-1,[]⟩:Lin) nS 2=⟨-1,[⟨nS,2⟩]⟩:=by decide
 have hf:Zi KP=true:=by decide
 have hc:Vu Lt=true:=by decide
 have hc1:Vu (UG [1])=true:=by decide
 have i1:isL (List Fact×Cert×Unit) [enc KP,GH (enc (UG [0,1,1]))]=true:=by
  show(is (List Fact) (enc KP)&&(is Cert (GH (enc (UG [0,1,1])))&&true))=true
  rw[L8,Enc.is_enc];rfl
 have d1:(decL [enc KP,GH (enc (UG [0,1,1]))]:List Fact×Cert×Unit)=(KP,Lt,()):=by
  show((dec (enc KP):List Fact),(dec (GH (enc (UG [0,1,1]))):Cert),())=_
  rw[Nk,Enc.dec_enc];rfl
 have i2:isL (Cert×Unit) [GH (enc (UG [0,1,1]))]=true:=by
  show(is Cert (GH (enc (UG [0,1,1])))&&true)=true
  rw[L8];rfl
 have d2:(decL [GH (enc (UG [0,1,1]))]:Cert×Unit)=(Lt,()):=by
  show((dec (GH (enc (UG [0,1,1]))):Cert),())=_
  rw[Nk];rfl
 refine a5q (Ze ((-1:Int),()) rfl ⟨Zd (⟨-1,[]⟩,nS,2,()) rfl (by decide),Ze (⟨-1,[]⟩,nS,2,()) rfl (Ze ([0,1,1],()) rfl ⟨?_,?_⟩)⟩)
 ·rfl
 simp only[ep]
 refine⟨Zd (KP,[1],()) rfl (by decide),Ze (KP,[1],()) rfl ?_⟩
 simp only[SX]
 refine⟨Si (KP,Lt,()) i1 d1 (by show(Zi KP&&Vu Lt&&decide (KP.length+Zt Lt<=300))=true;rw[hf,hc];decide),CB (KP,Lt,()) d1 ?_⟩
 simp only[a3m]
 refine Z8 rfl (Ze ([1],()) rfl ⟨Zd (KP,UG [1],()) rfl (by show(Zi KP&&Vu (UG [1])&&decide (KP.length+Zt (UG [1])<=300))=true;rw[hf,hc1];decide),Ze (KP,UG [1],()) rfl ?_⟩)
 simp only[OW]
 refine Z8 rfl ⟨Si (Lt,()) i2 d2 (by decide),CB (Lt,()) d2 ?_⟩
 have hz:Z7 Lt=3:=by decide
 simp only[hz]
 refine Z8 rfl (Z8 rfl ⟨Zd (exL,()) rfl (by decide),Ze (exL,()) rfl (Z8 rfl ⟨Zd (KP,()) rfl hf,Ze (KP,()) rfl (Zz (by decide))⟩)⟩)
end Go.Pl

namespace Go.Pl
open Go.RowKit
open Enc (enc dec is)
open EncL (encL decL isL)
def CZ(x y:List Coef)(a b:Int):Int:=if JM x y≠0 then JM x y else Ug a b
theorem Eh(a b:Lin)(hl:a.t.length<=9223372036854775807): ∀ (m i:Nat),m+i=a.t.length->i<=b.t.length->At QF 0 (Za Uo (Zv (CZ (a.t.drop i) (b.t.drop i) a.k b.k))) Us 0 95 [(2,.ptr 0 0),(3,.ptr 1 0),(5,.pv (.int .i64 i))] [.obj (.box [.pv (.int .i64 a.k),.pv (enc a.t)]),.obj (.box [.pv (.int .i64 b.k),.pv (enc b.t)])]:=by
 intro m
 induction m with
 | zero=>
  intro i hi hb
  refine Oe a b i (Yc (UF (by omega)) ?_)
  rw[List.drop_of_length_le (show a.t.length<=i by omega)]
  refine Yv (fun h1=> ?_) fun h1=> ?_
  ·simp only[List.length_map]at h1
   refine XW ?_
   obtain⟨t,r,e⟩ : ∃ t r,b.t.drop i=t::r:=by
    cases e:b.t.drop i with
    | nil=>have:=List.length_drop (l:=b.t) (i:=i);rw[e]at this;simp at this;omega
    | cons t r=>exact⟨t,r,rfl⟩
   rw[e];rfl
  ·simp only[List.length_map]at h1
   have e:b.t.drop i=[]:=List.drop_of_length_le (by omega)
   rw[e]
   have hlen:(List.length (List.map (enc:Coef->PV) a.t):Int)=(List.length (List.map (enc:Coef->PV) b.t):Int):=by simp;omega
   refine XL (fun _=> ?_) fun h=>absurd hlen h
   have ec:CZ [] [] a.k b.k=Ug a.k b.k:=by simp[CZ,JM]
   rw[ec]
   unfold Ug
   refine Yv (fun h2=>XW (by rw[if_pos h2])) fun h2=>Yv (fun h3=>by simp only[List.length_map]at h3;omega) fun h3=>Yv (fun h4=>XW (by rw[if_neg h2,if_pos h4])) fun h4=>XW (by rw[if_neg h2,if_neg h4])
 | succ m ih=>
  intro i hi hb
  have hlt:i<a.t.length:=by omega
  refine Oe a b i (Z8 (V5 hlt) ?_)
  by_cases hlb:i<b.t.length
  ·have h:=ih (i+1) (by omega) (by omega)
   refine Z8 (V5 hlb) ⟨ZN hlt rfl,Yf hlt ⟨ZN hlb rfl,Yf hlb ?_⟩⟩
   rw[List.drop_eq_getElem_cons hlt,List.drop_eq_getElem_cons hlb,next (by omega)]
   generalize a.t[i]=x at h ⊢
   generalize b.t[i]=y at h ⊢
   obtain⟨⟨xv⟩,xc⟩:=x
   obtain⟨⟨yv⟩,yc⟩:=y
   refine QY (fun h1=> ?_) fun h1=> ?_
   ·have h1:xv<yv:=by have:=(Yq xv yv).symm.trans h1;simpa using this
    exact XW (by simp[CZ,JM,h1])
   have h1 : ¬ xv<yv:=by have:=(Yq xv yv).symm.trans h1;simpa using this
   refine XL (fun h2=> ?_) fun h2=> ?_
   ·have h2:xv=yv:=h2
    subst h2
    refine Yv (fun h3=> ?_) fun h3=> ?_
    ·have h3:xc<yc:=h3
     exact XW (by simp[CZ,JM,h1,h3])
    have h3 : ¬ xc<yc:=h3
    refine Y4 (fun h4=> ?_) fun h4=> ?_
    ·have h4:(xv==xv&&(xc==yc&&true))=false:=h4
     have h4:xc≠yc:=by simpa using h4
     exact XW (by simp[CZ,JM,h1,h3,h4])
    ·have h4:(xv==xv&&(xc==yc&&true))=true:=h4
     have h4:xc=yc:=by simpa using h4
     subst h4
     have e:CZ (⟨⟨xv⟩,xc⟩::a.t.drop (i+1)) (⟨⟨xv⟩,xc⟩::b.t.drop (i+1)) a.k b.k=CZ (a.t.drop (i+1)) (b.t.drop (i+1)) a.k b.k:=by simp[CZ,JM,List.lt_irrefl xv]
     rw[e]
     exact h
   ·have h2 : ¬ xv=yv:=h2
    refine Y4 (fun h4=>XW (by simp[CZ,JM,h1,h2])) fun h4=> ?_
    have h4:(xv==yv&&(xc==yc&&true))=true:=h4
    simp[h2]at h4
  ·refine Yc (UF hlb) ?_
   obtain⟨t,r,e⟩ : ∃ t r,a.t.drop i=t::r:=⟨_,_,List.drop_eq_getElem_cons hlt⟩
   rw[e,List.drop_of_length_le (show b.t.length<=i by omega)]
   refine Yv (fun h1=>by simp only[List.length_map]at h1;omega) fun h1=>XL (fun h2=>by simp only[List.length_map]at h2;omega) fun h2=>Yv (fun h3=>XW (by simp[CZ,JM])) fun h3=>by simp only[List.length_map]at h3;omega
theorem a9b: ∀ a:Lin×Lin×Unit,Zy a.1=true->Zc QF 0 (Za Uo (Zv (BM a.1 a.2.1))) Us [] (Z9 b4f (encL a)):=by
 rintro⟨a,b,⟨⟩⟩ hl
 exact b5a a b (Eh a b (by simpa [Zy]using hl) a.t.length 0 (by omega) (by omega))
def c1g(a b:Lin):Bool:=BM a b==0
theorem b1x: ∀ a:Lin×Lin×Unit,Zy a.1=true->Zc a3l 0 (Za Mw (Zv (c1g a.1 a.2.1))) Me [] (Z9 b7n (encL a)):=by
 rintro⟨a,b,⟨⟩⟩ hl
 exact b9z a b ⟨Zd (a,b,()) rfl hl,Ze (a,b,()) rfl (Zz rfl)⟩
end Go.Pl

namespace Go.Pl
open Go.RowKit
open Enc (enc dec is)
open EncL (encL decL isL)
theorem a5o(ts:List Coef)(j:Nat)(x y:Coef):List.set (List.map enc ts) j (PV.withCells (enc y) (splice (PV.cells (enc y)) 0 (PV.cells (PV.agg (Jw (PV.cells (enc x)) 0 [Sh.str,Sh.int .i64])))))=List.map enc (ts.set j x):=by
 rw[List.map_set]
 rfl
theorem a6j{α:Type}(f:α->PV){l:List α}{k:Nat}(h:k<l.length):(l.map f).getD (0+(k:Int).toNat) default=f l[k]:=by rw[Nat.zero_add];exact JP f h
theorem tri{x y:List UInt8}(h1 : ¬ x<y)(h2:x≠y):y<x:=Decidable.byContradiction fun h=>h2 (List.le_antisymm (List.not_lt.1 h) (List.not_lt.1 h1))
theorem a9e(s:Str)(c:Int)(t:Coef)(r:List Coef):XX s c true (t::r)=(if t.v=s then⟨t.v,Ym (t.c+c)⟩else t)::XX s c true r:=by
 rw[XX];simp only[Bool.not_true,Bool.false_and,Bool.false_eq_true,if_false,Bool.true_or,List.nil_append];split <;> rfl
theorem JW(s:Str)(c:Int)(t:Coef)(r:List Coef):XX s c false (t::r)=if s.s<t.v.s then⟨s,c⟩::t::XX s c true r else if t.v=s then⟨t.v,Ym (t.c+c)⟩::XX s c true r else t::XX s c false r:=by
 rw[XX]
 by_cases h:s.s<t.v.s
 ·have : ¬ t.v=s:=fun e=>by rw[e]at h;exact List.lt_irrefl _ h
  simp[h,this]
 ·simp[h]
theorem Kn{a b:Str}:a=b ↔ a.s=b.s:=⟨fun h=>by rw[h],fun h=>by cases a;cases b;cases h;rfl⟩
theorem b0e: ∀ a:Int×Unit,true=true->Zc a7y 0 (Za MP (Zv (⟨a.1,[]⟩:Lin))) Sn [] (Z9 b7e (encL a)):=by
 rintro⟨n,⟨⟩⟩ -
 exact b9m n ⟨by simp,by simp⟩
end Go.Pl

namespace Go.Pl
open Go.RowKit
open Enc (enc dec is)
open EncL (encL decL isL)
set_option maxRecDepth 100000
def Tv:IC:=(.seq (.reg [⟨(some 2),(.mv (.c (.int .i64 0))),0,none⟩] none) (.seq (.seq (.reg [⟨(some 3),(.mv (.t 0)),0,none⟩,⟨(some 4),(.bin .num .lss (.t 3) (.c (.int .i64 0))),0,none⟩] none) (.cond (.t 4) (.seq (.reg [⟨(some 5),(.mv (.t 0)),0,none⟩,⟨(some 6),(.un .neg (.t 5)),0,none⟩,⟨(some 2),(.mv (.t 6)),0,none⟩] none) .ret) .skip)) (.seq (.reg [⟨(some 7),(.mv (.t 0)),0,none⟩,⟨(some 2),(.mv (.t 7)),0,none⟩] none) .ret)))
def Sd:List IRes:=[(.tmp 2)]
abbrev b0n:Nat:=8
def Ml:ZH:=XI []
theorem b7k{G:PV->Prop}(a:Int)(h:if (decide (a<0))=true then G ((.int .i64 (IntKind.wrap IntKind.i64 (-a))))else(G ((.int .i64 a)))):Zc Ml 0 (Za Sd G) Tv [] (Z9 8 [enc a]):=Zc.tp (.lit (.ask (.nil) (.nil))) h (by kernel_rfl)
def K5:IC:=(.seq (.reg [⟨(some 2),(.mv (.c (.bool false))),0,none⟩] none) (.seq (.seq (.reg [⟨(some 5),(.mv (.t 0)),0,none⟩,⟨(some 6),(.len 1 (.t 5)),0,none⟩,⟨(some 7),(.mv (.c (.int .i64 0))),0,none⟩] none) (.block 0 (.loop [7,6,5] (.seq (.reg [⟨(some 8),(.bin .num .lss (.t 7) (.t 6)),0,none⟩] none) (.seq (.cond (.t 8) .skip (.exit 0)) (.seq (.block 1 (.seq (.reg [⟨(some 9),(.iaddr 1 (.t 5) (.t 7)),0,none⟩,⟨(some 10),(.load false [(.int .i64)] (.t 9)),0,none⟩,⟨(some 4),(.mv (.t 10)),0,none⟩] none) (.seq (.reg [⟨(some 11),(.mv (.t 4)),0,none⟩,⟨(some 12),(.bin .num .lss (.t 11) (.c (.int .i64 (-4611686018427387904)))),0,none⟩,⟨(some 13),(.mv (.t 12)),0,none⟩,⟨(some 14),(.mv (.t 4)),0,(some (13,false))⟩,⟨(some 15),(.bin .num .gtr (.t 14) (.c (.int .i64 4611686018427387904))),0,(some (13,false))⟩,⟨(some 16),(.pick (.t 13) (.c (.bool true)) (.t 15)),0,none⟩] none) (.cond (.t 16) (.seq (.reg [⟨(some 2),(.mv (.c (.bool false))),0,none⟩] none) .ret) .skip)))) (.reg [⟨(some 17),(.bin .num .add (.t 7) (.c (.int .i64 1))),0,none⟩,⟨(some 7),(.mv (.t 17)),0,none⟩] none))))))) (.seq (.reg [⟨(some 2),(.mv (.c (.bool true))),0,none⟩] none) .ret)))
def KX:List IRes:=[(.tmp 2)]
abbrev b6e:Nat:=18
def Cz:ZH:=XI []
theorem b8n{G:PV->Prop}(l:List Int)(h:At Cz 0 (Za KX G) K5 0 18 [(5,(.pv (.sl 1 false (List.map enc l)))),(6,(.pv (.int .i64 (↑(List.length (List.map enc l)):Int)))),(7,(.pv (.int .i64 0)))] []):Zc Cz 0 (Za KX G) K5 [] (Z9 18 [enc l]):=Zc.tp (.nil) h (by kernel_rfl)
theorem a6v{G:PV->Prop}(l:List Int)(i:Int)(h:if (decide (i<(↑(List.length l):Int)))=true then(decide (0<=i)&&decide (Int.toNat i<List.length (List.map enc l))&&Enc.sz Int==1)=true∧(∃ y0:Int,AV.pv (PV.rptr (PV.cells (List.getD (List.map enc l) (Int.toNat i) default)))=AV.pv (PV.rptr (PV.cells ((enc) y0)))∧(if (decide (PV.asInt (List.getD (PV.cells (enc y0)) 0 default)<(-4611686018427387904:Int)))=true then G ((.bool false))else(if (decide (PV.asInt (List.getD (PV.cells (enc y0)) 0 default)>4611686018427387904))=true then G ((.bool false))else(At Cz 0 (Za KX G) K5 0 18 [(5,(.pv (.sl 1 false (List.map enc l)))),(6,(.pv (.int .i64 (↑(List.length l):Int)))),(7,(.pv (.int .i64 (IntKind.wrap IntKind.i64 (i+1)))))] []))))else(G ((.bool true)))):At Cz 0 (Za KX G) K5 0 18 [(5,.pv (enc l)),(6,.pv (.int .i64 l.length)),(7,.pv (.int .i64 i))] []:=At.tp (.lit (.ask (.req (.abs (Int) (fun YY=>AV.pv (PV.rptr (PV.cells ((enc) YY)))) (.lit (.lit (.ask (.lit (.lit (.lit (.nil)))) (.lit (.lit (.lit (.ask (.nil) (.lit (.nil))))))))))) (.nil))) h (by kernel_rfl)
def Ut:IC:=(.seq (.reg [⟨(some 4),(.mv (.c (.int .i64 0))),0,none⟩] none) (.seq (.reg [⟨(some 5),(.mv (.t 0)),0,none⟩,⟨(some 6),(.call (.c (.fn 249)) [(.t 5)]),0,none⟩,⟨(some 7),(.mv (.t 1)),2,none⟩,⟨(some 8),(.call (.c (.fn 249)) [(.t 7)]),2,none⟩,⟨(some 0),(.mv (.t 6)),4,none⟩,⟨(some 1),(.mv (.t 8)),4,none⟩] none) (.seq (.block 0 (.loop [1,0] (.seq (.seq (.reg [⟨(some 9),(.mv (.t 1)),0,none⟩,⟨(some 10),(.bin .num .neq (.t 9) (.c (.int .i64 0))),0,none⟩] none) (.cond (.t 10) .skip (.exit 0))) (.block 1 (.reg [⟨(some 11),(.mv (.t 1)),0,none⟩,⟨(some 12),(.mv (.t 0)),0,none⟩,⟨(some 13),(.mv (.t 1)),0,none⟩,⟨(some 14),(.bin .num .rem (.t 12) (.t 13)),0,none⟩,⟨(some 0),(.mv (.t 11)),0,none⟩,⟨(some 1),(.mv (.t 14)),0,none⟩] (some [[],[],[],[1,2],[0,1],[3,4,0,1,2]])))))) (.seq (.reg [⟨(some 15),(.mv (.t 0)),0,none⟩,⟨(some 4),(.mv (.t 15)),0,none⟩] none) .ret))))
def Qr:List IRes:=[(.tmp 4)]
abbrev b1h:Nat:=16
def QI:ZH:=XI [(249,.pure (preT (fun _:Int×Unit=>true)) (Zf (fun x:Int×Unit=>BB x.1)))]
theorem b5s{G:PV->Prop}(a b:Int)(h : ∃ y0:Int,AV.pv (Zf (fun(x:Int×Unit)=>BB x.1) [(.int .i64 a)])=AV.pv (enc y0)∧(∃ y1:Int,AV.pv (Zf (fun(x:Int×Unit)=>BB x.1) [(.int .i64 b)])=AV.pv (enc y1)∧(At QI 0 (Za Qr G) Ut 0 16 [(0,(.pv (.int .i64 y0))),(1,(.pv (.int .i64 y1)))] []))):Zc QI 0 (Za Qr G) Ut [] (Z9 16 [enc a,enc b]):=Zc.tp (.lit (.abs (Int) (fun YY=>AV.pv (enc YY)) (.lit (.abs (Int) (fun YY=>AV.pv (enc YY)) (.nil))))) h (by kernel_rfl)
theorem b2a{G:PV->Prop}(a b:Int)(x y:Int)(h:if (y != 0)=true then(y != 0)=true∧(At QI 0 (Za Qr G) Ut 0 16 [(0,(.pv (.int .i64 y))),(1,(.pv (.int .i64 (Int.tmod x y))))] [])else(G ((.int .i64 x)))):At QI 0 (Za Qr G) Ut 0 16 [(0,.pv (.int .i64 x)),(1,.pv (.int .i64 y))] []:=At.tp (.lit (.ask (.req (.nil)) (.nil))) h (by kernel_rfl)
def KQ:IC:=(.seq (.reg [⟨(some 4),(.mv (.c (.int .i64 0))),0,none⟩,⟨(some 5),(.mv (.c (.int .i64 0))),0,none⟩] none) (.seq (.reg [⟨(some 8),(.mv (.t 0)),0,none⟩,⟨(some 9),(.mv (.t 1)),0,none⟩,⟨(some 10),(.bin .num .quo (.t 8) (.t 9)),0,none⟩,⟨(some 11),(.mv (.t 0)),0,none⟩,⟨(some 12),(.mv (.t 1)),0,none⟩,⟨(some 13),(.bin .num .rem (.t 11) (.t 12)),0,none⟩,⟨(some 6),(.mv (.t 10)),0,none⟩,⟨(some 7),(.mv (.t 13)),0,none⟩] (some [[],[],[0,1],[],[],[3,4],[2,0,1],[5,6,0,1,2,3,4]])) (.seq (.block 0 (.seq (.reg [⟨(some 15),(.mv (.t 7)),0,none⟩,⟨(some 16),(.bin .num .eql (.t 15) (.c (.int .i64 0))),0,none⟩,⟨(some 14),(.mv (.t 16)),0,none⟩] none) (.cond (.t 14) .skip (.seq (.reg [⟨(some 18),(.mv (.t 7)),0,none⟩,⟨(some 19),(.bin .num .lss (.t 18) (.c (.int .i64 0))),0,none⟩,⟨(some 20),(.mv (.t 1)),0,none⟩,⟨(some 21),(.bin .num .lss (.t 20) (.c (.int .i64 0))),0,none⟩,⟨(some 22),(.bin .bool .neq (.t 19) (.t 21)),0,none⟩,⟨(some 17),(.mv (.t 22)),0,none⟩] none) (.cond (.t 17) (.seq (.reg [⟨(some 23),(.mv (.t 6)),0,none⟩,⟨(some 24),(.bin .num .sub (.t 23) (.c (.int .i64 1))),0,none⟩,⟨(some 25),(.mv (.t 7)),0,none⟩,⟨(some 26),(.mv (.t 1)),0,none⟩,⟨(some 27),(.bin .num .add (.t 25) (.t 26)),0,none⟩,⟨(some 4),(.mv (.t 24)),0,none⟩,⟨(some 5),(.mv (.t 27)),0,none⟩] none) .ret) .skip))))) (.seq (.reg [⟨(some 28),(.mv (.t 6)),0,none⟩,⟨(some 29),(.mv (.t 7)),0,none⟩,⟨(some 4),(.mv (.t 28)),0,none⟩,⟨(some 5),(.mv (.t 29)),0,none⟩] none) .ret))))
def KL:List IRes:=[(.tmp 4),(.tmp 5)]
abbrev Mc:Nat:=30
def H5:ZH:=XI []
theorem OV{G:PV->Prop}(a b:Int)(h:(b != 0)=true∧((b != 0)=true∧(if (Int.tmod a b==0)=true then G ((.tup [(.int .i64 (IntKind.wrap IntKind.i64 (Int.tdiv a b))),(.int .i64 (Int.tmod a b))]))else(if (!decide (Int.tmod a b<0)==decide (b<0))=true then G ((.tup [(.int .i64 (IntKind.wrap IntKind.i64 (IntKind.wrap IntKind.i64 (Int.tdiv a b) - 1))),(.int .i64 (IntKind.wrap IntKind.i64 (Int.tmod a b+b)))]))else(G ((.tup [(.int .i64 (IntKind.wrap IntKind.i64 (Int.tdiv a b))),(.int .i64 (Int.tmod a b))]))))))):Zc H5 0 (Za KL G) KQ [] (Z9 30 [enc a,enc b]):=Zc.tp (.req (.req (.lit (.ask (.nil) (.lit (.lit (.lit (.ask (.lit (.lit (.nil))) (.nil))))))))) h (by kernel_rfl)
def D5:IC:=(.seq (.reg [⟨(some 4),(.mv (.c (.int .i64 0))),0,none⟩] none) (.seq (.block 0 (.seq (.reg [⟨(some 6),(.mv (.t 0)),0,none⟩,⟨(some 7),(.mv (.t 1)),0,none⟩,⟨(some 8),(.bslice 3 1 2 (.int .i64 0) [(0,(.t 6)),(1,(.t 7))]),0,none⟩,⟨(some 9),(.call (.c (.fn 191)) [(.t 8)]),1,none⟩,⟨(some 10),(.un .not (.t 9)),3,none⟩,⟨(some 5),(.mv (.t 10)),3,none⟩] none) (.cond (.t 5) (.seq (.reg [⟨(some 4),(.mv (.c (.int .i64 2))),0,none⟩] none) .ret) (.seq (.reg [⟨(some 12),(.mv (.t 1)),0,none⟩,⟨(some 13),(.bin .num .eql (.t 12) (.c (.int .i64 0))),0,none⟩,⟨(some 11),(.mv (.t 13)),0,none⟩] none) (.cond (.t 11) (.seq (.reg [⟨(some 4),(.mv (.c (.int .i64 1))),0,none⟩] none) .ret) .skip))))) (.seq (.reg [⟨(some 4),(.mv (.c (.int .i64 0))),0,none⟩] none) .ret)))
def Cw:List IRes:=[(.tmp 4)]
abbrev a4j:Nat:=14
def TT:ZH:=XI [(191,.pure (preT (fun x:List Int×Unit=>decide (x.1.length<=9223372036854775807))) (Zf (fun x:List Int×Unit=>x.1.all WJ)))]
theorem b1i{G:PV->Prop}(a b:Int)(h : ∃ y0:Bool,AV.pv (Zf (fun(x:List Int×Unit)=>List.all x.1 WJ) [(.sl 1 false [(.int .i64 a),(.int .i64 b)])])=AV.pv (enc y0)∧(if (!y0)=true then G ((.int .i64 2))else(if (b==0)=true then G ((.int .i64 1))else(G ((.int .i64 0)))))):Zc TT 0 (Za Cw G) D5 [] (Z9 14 [enc a,enc b]):=Zc.tp (.lit (.lit (.lit (.abs (Bool) (fun YY=>AV.pv (enc YY)) (.ask (.nil) (.lit (.ask (.nil) (.nil)))))))) h (by kernel_rfl)
def TN:IC:=(.seq (.reg [⟨(some 4),(.mv (.c (.int .i64 0))),0,none⟩,⟨(some 5),(.mv (.c (.int .i64 0))),0,none⟩] none) (.seq (.seq (.reg [⟨(some 9),(.mv (.t 0)),0,none⟩,⟨(some 10),(.mv (.t 1)),0,none⟩,⟨(some 11),(.call (.c (.fn 225)) [(.t 9),(.t 10)]),0,none⟩,⟨(some 6),(.mv (.t 11)),2,none⟩] none) (.seq (.reg [⟨(some 12),(.mv (.t 6)),0,none⟩,⟨(some 13),(.bin .num .neq (.t 12) (.c (.int .i64 0))),0,none⟩] none) (.cond (.t 13) (.seq (.reg [⟨(some 14),(.mv (.t 6)),0,none⟩,⟨(some 4),(.mv (.c (.int .i64 0))),0,none⟩,⟨(some 5),(.mv (.t 14)),0,none⟩] none) .ret) .skip))) (.seq (.reg [⟨(some 16),(.mv (.t 0)),0,none⟩,⟨(some 17),(.mv (.t 1)),0,none⟩,⟨(some 18),(.call (.c (.fn 226)) [(.t 16),(.t 17)]),0,none⟩,⟨(some 15),(.mv (.t 18)),2,none⟩,⟨(some 19),(.extract (.t 15) 0),2,none⟩,⟨(some 20),(.extract (.t 15) 1),2,none⟩,⟨(some 7),(.mv (.t 19)),2,none⟩,⟨(some 8),(.mv (.t 20)),2,none⟩] none) (.seq (.reg [⟨(some 21),(.mv (.t 7)),0,none⟩,⟨(some 4),(.mv (.t 21)),0,none⟩,⟨(some 5),(.mv (.c (.int .i64 0))),0,none⟩] none) .ret))))
def TJ:List IRes:=[(.tmp 4),(.tmp 5)]
abbrev b2j:Nat:=22
def NH:ZH:=XI [(225,.pure (preT (fun _:Int×Int×Unit=>true)) (Zf (fun x:Int×Int×Unit=>Gx x.1 x.2.1))),(226,.pure (preT (fun x:Int×Int×Unit=>WJ x.1&&WJ x.2.1&&decide (x.2.1≠0))) (Zf (fun x:Int×Int×Unit=>(a1k x.1 x.2.1,a3u x.1 x.2.1))))]
theorem b7h{G:PV->Prop}(a b:Int)(h : ∃ y0:Int,AV.pv (Zf (fun(x:Int×Int×Unit)=>Gx x.1 x.2.1) [(.int .i64 a),(.int .i64 b)])=AV.pv (enc y0)∧(if (y0 != 0)=true then G ((.tup [(.int .i64 0),(.int .i64 y0)]))else((Go.Pl.preT (fun(x:Int×Int×Unit)=>WJ x.1&&WJ x.2.1&&decide (x.2.1≠0)) [(.int .i64 a),(.int .i64 b)])=true∧(∃ y1:Int×Int,AV.pv (Zf (fun(x:Int×Int×Unit)=>(a1k x.1 x.2.1,a3u x.1 x.2.1)) [(.int .i64 a),(.int .i64 b)])=AV.pv (enc y1)∧(G ((.tup [(.int .i64 y1.1),(.int .i64 0)]))))))):Zc NH 0 (Za TJ G) TN [] (Z9 22 [enc a,enc b]):=Zc.tp (.lit (.abs (Int) (fun YY=>AV.pv (enc YY)) (.lit (.ask (.nil) (.req (.abs (Int×Int) (fun YY=>AV.pv (enc YY)) (.nil))))))) h (by kernel_rfl)
def Uc:IC:=(.seq (.reg [⟨(some 2),(.mv (.c (.int .i64 0))),0,none⟩,⟨(some 3),(.mv (.c (.int .i64 0))),0,none⟩] none) (.seq (.reg [⟨(some 4),(.mv (.c (.int .i64 0))),0,none⟩] none) (.seq (.seq (.reg [⟨(some 7),(.mv (.t 0)),0,none⟩,⟨(some 8),(.len 1 (.t 7)),0,none⟩,⟨(some 9),(.mv (.c (.int .i64 0))),0,none⟩] none) (.block 0 (.loop [9,8,7,4] (.seq (.reg [⟨(some 10),(.bin .num .lss (.t 9) (.t 8)),0,none⟩] none) (.seq (.cond (.t 10) .skip (.exit 0)) (.seq (.block 1 (.seq (.reg [⟨(some 11),(.iaddr 1 (.t 7) (.t 9)),0,none⟩,⟨(some 12),(.load false [(.int .i64)] (.t 11)),0,none⟩,⟨(some 6),(.mv (.t 12)),0,none⟩] none) (.seq (.seq (.reg [⟨(some 13),(.mv (.t 6)),0,none⟩,⟨(some 14),(.bslice 3 1 1 (.int .i64 0) [(0,(.t 13))]),0,none⟩,⟨(some 15),(.call (.c (.fn 191)) [(.t 14)]),1,none⟩,⟨(some 16),(.un .not (.t 15)),3,none⟩] none) (.cond (.t 16) (.seq (.reg [⟨(some 2),(.mv (.c (.int .i64 0))),0,none⟩,⟨(some 3),(.mv (.c (.int .i64 2))),0,none⟩] none) .ret) .skip)) (.reg [⟨(some 17),(.mv (.t 4)),0,none⟩,⟨(some 18),(.mv (.t 6)),0,none⟩,⟨(some 19),(.call (.c (.fn 224)) [(.t 17),(.t 18)]),0,none⟩,⟨(some 4),(.mv (.t 19)),2,none⟩] none)))) (.reg [⟨(some 20),(.bin .num .add (.t 9) (.c (.int .i64 1))),0,none⟩,⟨(some 9),(.mv (.t 20)),0,none⟩] none))))))) (.seq (.reg [⟨(some 21),(.mv (.t 4)),0,none⟩,⟨(some 2),(.mv (.t 21)),0,none⟩,⟨(some 3),(.mv (.c (.int .i64 0))),0,none⟩] none) .ret))))
def VQ:List IRes:=[(.tmp 2),(.tmp 3)]
abbrev a6f:Nat:=22
def Ql:ZH:=XI [(191,.pure (preT (fun x:List Int×Unit=>decide (x.1.length<=9223372036854775807))) (Zf (fun x:List Int×Unit=>x.1.all WJ))),(224,.pure (preT (fun x:Int×Int×Unit=>WJ x.1&&WJ x.2.1)) (Zf (fun x:Int×Int×Unit=>(Int.gcd x.1 x.2.1:Int))))]
theorem b0t{G:PV->Prop}(l:List Int)(h:At Ql 0 (Za VQ G) Uc 0 22 [(4,(.pv (.int .i64 0))),(7,(.pv (.sl 1 false (List.map enc l)))),(8,(.pv (.int .i64 (↑(List.length (List.map enc l)):Int)))),(9,(.pv (.int .i64 0)))] []):Zc Ql 0 (Za VQ G) Uc [] (Z9 22 [enc l]):=Zc.tp (.nil) h (by kernel_rfl)
theorem Pk{G:PV->Prop}(l:List Int)(g i:Int)(h:if (decide (i<(↑(List.length l):Int)))=true then(decide (0<=i)&&decide (Int.toNat i<List.length (List.map enc l))&&Enc.sz Int==1)=true∧(∃ y0:Int,AV.pv (PV.rptr (PV.cells (List.getD (List.map enc l) (Int.toNat i) default)))=AV.pv (PV.rptr (PV.cells ((enc) y0)))∧(∃ y1:Bool,AV.pv (Zf (fun(x:List Int×Unit)=>List.all x.1 WJ) [(.sl 1 false [(.int .i64 (PV.asInt (List.getD (PV.cells (enc y0)) 0 default)))])])=AV.pv (enc y1)∧(if (!y1)=true then G ((.tup [(.int .i64 0),(.int .i64 2)]))else((Go.Pl.preT (fun(x:Int×Int×Unit)=>WJ x.1&&WJ x.2.1) [(.int .i64 g),(.int .i64 (PV.asInt (List.getD (PV.cells (enc y0)) 0 default)))])=true∧(∃ y2:Int,AV.pv (Zf (fun(x:Int×Int×Unit)=>(↑(Int.gcd x.1 x.2.1):Int)) [(.int .i64 g),(.int .i64 (PV.asInt (List.getD (PV.cells (enc y0)) 0 default)))])=AV.pv (enc y2)∧(At Ql 0 (Za VQ G) Uc 0 22 [(4,(.pv (.int .i64 y2))),(7,(.pv (.sl 1 false (List.map enc l)))),(8,(.pv (.int .i64 (↑(List.length l):Int)))),(9,(.pv (.int .i64 (IntKind.wrap IntKind.i64 (i+1)))))] []))))))else(G ((.tup [(.int .i64 g),(.int .i64 0)])))):At Ql 0 (Za VQ G) Uc 0 22 [(4,.pv (.int .i64 g)),(7,.pv (enc l)),(8,.pv (.int .i64 l.length)),(9,.pv (.int .i64 i))] []:=At.tp (.lit (.ask (.req (.abs (Int) (fun YY=>AV.pv (PV.rptr (PV.cells ((enc) YY)))) (.lit (.lit (.lit (.lit (.abs (Bool) (fun YY=>AV.pv (enc YY)) (.ask (.nil) (.req (.abs (Int) (fun YY=>AV.pv (enc YY)) (.lit (.nil)))))))))))) (.nil))) h (by kernel_rfl)
end Go.Pl

namespace Go.Pl
open Go.RowKit
open Enc (enc dec is)
open EncL (encL decL isL)
theorem FX{n:Int}:WJ n=true ↔ -4611686018427387904<=n∧n<=4611686018427387904:=by simp[WJ]
theorem FH{n:Int}(h:WJ n=true):BB n=n.natAbs:=by
 rw[FX]at h
 unfold BB
 split
 ·show IntKind.i64.wrap (-n)=_
  rw[Dm (by omega) (by omega)];omega
 ·omega
theorem a1w: ∀ a:Int×Unit,true=true->Zc Ml 0 (Za Sd (Zv (BB a.1))) Tv [] (Z9 b0n (encL a)):=by
 rintro⟨n,⟨⟩⟩ -
 refine b7k n ?_
 unfold BB
 exact Yv (fun h=>XW (by rw[if_pos h])) fun h=>XW (by rw[if_neg h])
theorem a8u(l:List Int)(hl:l.length<=9223372036854775807): ∀ (m i:Nat),m+i=l.length->At Cz 0 (Za KX (Zv ((l.drop i).all WJ))) K5 0 18 [(5,.pv (enc l)),(6,.pv (.int .i64 l.length)),(7,.pv (.int .i64 i))] []:=by
 intro m
 induction m with
 | zero=>
  intro i hi
  exact a6v l i (Yc (X4 (by omega)) (Zz (by rw[List.drop_of_length_le (show l.length<=i by omega)];rfl)))
 | succ m ih=>
  intro i hi
  have hlt:i<l.length:=by omega
  have h:=ih (i+1) (by omega)
  refine a6v l i (Z8 (Xm hlt) ⟨ZN hlt rfl,?_⟩)
  rw[List.drop_eq_getElem_cons hlt,List.all_cons,next (by omega)]
  refine⟨l[i],by rw[JP enc hlt],?_⟩
  refine Yv (fun h1=> ?_) fun h1=>Yv (fun h2=> ?_) fun h2=> ?_
  ·have h1:l[i] < -4611686018427387904:=h1
   exact Zz (by rw[show WJ l[i]=false by simp[WJ];omega];rfl)
  ·have h2:l[i]>4611686018427387904:=h2
   exact Zz (by rw[show WJ l[i]=false by simp[WJ];omega];rfl)
  ·have h1 : ¬ l[i] < -4611686018427387904:=h1
   have h2 : ¬ l[i]>4611686018427387904:=h2
   have:WJ l[i]=true:=by simp[WJ];omega
   rw[this,Bool.true_and]
   exact h
theorem b1z: ∀ a:List Int×Unit,decide (a.1.length<=9223372036854775807)=true->Zc Cz 0 (Za KX (Zv (a.1.all WJ))) K5 [] (Z9 b6e (encL a)):=by
 rintro⟨l,⟨⟩⟩ hl
 refine b8n l ?_
 rw[List.length_map]
 exact a8u l (by simpa using hl) l.length 0 (by omega)
theorem a3x(x y:Nat):Int.tmod (x:Int) (y:Int)=((x % y:Nat):Int):=rfl
theorem a5n(x y:Nat):Nat.gcd x y=Nat.gcd y (x % y):=by rw[Nat.gcd_comm x y,Nat.gcd_rec y x,Nat.gcd_comm]
theorem a1s(a b:Int): ∀ (y x:Nat),At QI 0 (Za Qr (Zv (((Nat.gcd x y:Nat):Int)))) Ut 0 16 [(0,.pv (.int .i64 x)),(1,.pv (.int .i64 y))] []:=by
 intro y
 induction y using Nat.strongRecOn with
 | _ y ih=>
  intro x
  refine b2a a b x y ?_
  by_cases h0:y=0
  ·subst h0
   exact Yc (by simp) (XW (by simp))
  ·refine Z8 (by simp;omega) ⟨by simp;omega,?_⟩
   rw[a3x,a5n]
   exact ih (x % y) (Nat.mod_lt _ (by omega)) y
theorem a4y: ∀ a:Int×Int×Unit,(WJ a.1&&WJ a.2.1)=true->Zc QI 0 (Za Qr (Zv ((Int.gcd a.1 a.2.1:Nat):Int))) Ut [] (Z9 b1h (encL a)):=by
 rintro⟨a,b,⟨⟩⟩ h
 simp only[Bool.and_eq_true]at h
 refine b5s a b (Ze (a,()) rfl (Ze (b,()) rfl ?_))
 show At QI 0 _ Ut 0 16 [(0,.pv (.int .i64 (BB a))),(1,.pv (.int .i64 (BB b)))] []
 rw[FH h.1,FH h.2]
 exact a1s a b b.natAbs a.natAbs
theorem b7l{a b:Int}(h:WJ a=true)(k:WJ b=true):WJ (Int.gcd a b:Int)=true:=by
 rw[FX]at *
 have h1:Int.gcd a b<=a.natAbs∨a=0:=by
  by_cases h0:a=0
  ·exact .inr h0
  ·exact .inl (Nat.le_of_dvd (by omega) (Int.gcd_dvd_natAbs_left a b))
 rcases h1 with h1|rfl
 ·omega
 ·rw[Int.zero_gcd];omega
theorem NT(l:List Int)(hl:l.length<=10000)(hin:l.all WJ=true): ∀ (m i:Nat) (g:Int),m+i=l.length->WJ g=true->At Ql 0 (Za VQ (Zv ((l.drop i).foldl (fun g n=>(Int.gcd g n:Int)) g,(0:Int)))) Uc 0 22 [(4,.pv (.int .i64 g)),(7,.pv (enc l)),(8,.pv (.int .i64 l.length)),(9,.pv (.int .i64 i))] []:=by
 intro m
 induction m with
 | zero=>
  intro i g hi hg
  refine Pk l g i (Yc (X4 (by omega)) ?_)
  rw[List.drop_of_length_le (show l.length<=i by omega)]
  exact⟨rfl,rfl⟩
 | succ m ih=>
  intro i g hi hg
  have hlt:i<l.length:=by omega
  have hn:WJ l[i]=true:=by rw[List.all_eq_true]at hin;exact hin _ (List.getElem_mem hlt)
  have h:=ih (i+1) (Int.gcd g l[i]) (by omega) (b7l hg hn)
  refine Pk l g i (Z8 (Xm hlt) ⟨ZN hlt rfl,l[i],by rw[JP enc hlt],?_⟩)
  rw[List.drop_eq_getElem_cons hlt,List.foldl_cons,next (by omega)]
  refine Ze ([l[i]],()) rfl (Y4 (fun e=> ?_) fun _=>⟨Zd (g,l[i],()) rfl (by simp[hg,hn]),Ze (g,l[i],()) rfl h⟩)
  have e:([l[i]].all WJ)=false:=e
  simp[hn]at e
theorem Ep: ∀ a:List Int×Unit,(decide (a.1.length<=10000)&&a.1.all WJ)=true->Zc Ql 0 (Za VQ (Zv (KE a.1))) Uc [] (Z9 a6f (encL a)):=by
 rintro⟨l,⟨⟩⟩ h
 simp only[Bool.and_eq_true,decide_eq_true_eq]at h
 refine b0t l ?_
 rw[List.length_map]
 exact NT l h.1 h.2 l.length 0 0 (by omega) rfl
theorem a0d{a b:Int}(h:a.tmod b≠0):decide (a.tmod b<0)=decide (a<0):=by
 rcases Int.lt_or_le a 0 with h1|h1
 ·have:=Int.tmod_nonneg b (show 0 <= -a by omega)
  rw[Int.neg_tmod]at this
  rw[decide_eq_true h1,decide_eq_true (show a.tmod b<0 by omega)]
 ·have:=Int.tmod_nonneg b h1
  rw[decide_eq_false (show ¬ a<0 by omega),decide_eq_false (show ¬ a.tmod b<0 by omega)]
theorem PU: ∀ a:Int×Int×Unit,(WJ a.1&&WJ a.2.1&&decide (a.2.1≠0))=true->Zc H5 0 (Za KL (Zv (a1k a.1 a.2.1,a3u a.1 a.2.1))) KQ [] (Z9 Mc (encL a)):=by
 rintro⟨a,b,⟨⟩⟩ h
 simp only[Bool.and_eq_true,decide_eq_true_eq]at h
 have hb:(b != 0)=true:=by simpa using h.2
 refine OV a b ⟨hb,hb,?_⟩
 unfold a1k a3u
 refine XL (fun h1=> ?_) fun h1=> ?_
 ·rw[if_neg (by simp[h1]),if_neg (by simp[h1])]
  exact⟨rfl,rfl⟩
 ·rw[a0d h1]
  refine Y4 (fun h2=> ?_) fun h2=> ?_
  ·rw[if_pos ⟨h1,by simpa using h2⟩,if_pos ⟨h1,by simpa using h2⟩]
   exact⟨rfl,rfl⟩
  ·rw[if_neg (fun e=>e.2 (by simpa using h2)),if_neg (fun e=>e.2 (by simpa using h2))]
   exact⟨rfl,rfl⟩
theorem a1m: ∀ a:Int×Int×Unit,true=true->Zc TT 0 (Za Cw (Zv (Gx a.1 a.2.1))) D5 [] (Z9 a4j (encL a)):=by
 rintro⟨a,b,⟨⟩⟩ -
 refine b1i a b (Ze ([a,b],()) rfl (Y4 (fun e=> ?_) fun e=>XL (fun h=> ?_) fun h=> ?_))
 ·have e:([a,b].all WJ)=false:=e
  refine XW ?_
  unfold Gx
  have:(WJ a&&WJ b)=false:=by simpa using e
  simp[this]
 all_goals
  have e:([a,b].all WJ)=true:=e
  have:(WJ a&&WJ b)=true:=by simpa using e
  refine XW ?_
  unfold Gx
  first|rw[if_pos this,if_pos h]|rw[if_pos this,if_neg h]
theorem b8o{a b:Int}(h:Gx a b=0):WJ a=true∧WJ b=true∧b≠0:=by
 unfold Gx at h
 split at h
 ·rename_i h1
  simp only[Bool.and_eq_true]at h1
  split at h
  ·cases h
  ·exact⟨h1.1,h1.2,‹_›⟩
 ·cases h
theorem a7i: ∀ a:Int×Int×Unit,true=true->Zc NH 0 (Za TJ (Zv (Kw a.1 a.2.1))) TN [] (Z9 b2j (encL a)):=by
 rintro⟨a,b,⟨⟩⟩ -
 refine b7h a b (Ze (a,b,()) rfl ?_)
 show if (Gx a b != 0)=true then Zv (Kw a b) _ else(_∧ ∃ y1:Int×Int,_=AV.pv (enc y1)∧Zv (Kw a b) (.tup [.int .i64 y1.1,.int .i64 0]))
 unfold Kw
 by_cases h:Gx a b=0
 ·obtain⟨h1,h2,h3⟩:=b8o h
  refine Yc (by simp[h]) ⟨Zd (a,b,()) rfl (by simp[h1,h2,h3]),Ze (a,b,()) rfl ?_⟩
  rw[if_neg (by simp[h])]
  exact⟨rfl,rfl⟩
 ·refine Z8 (by simp[h]) ?_
  rw[if_pos h]
  exact⟨rfl,rfl⟩
end Go.Pl

namespace Go.Pl
open Go.RowKit
open Enc (enc dec is)
open EncL (encL decL isL)
set_option maxRecDepth 100000
def Xb:IC:=(.seq (.reg [⟨(some 2),(.mv (.c (.bool false))),0,none⟩] none) (.seq (.seq (.reg [⟨(some 7),(.mv (.t 0)),0,none⟩,⟨(some 8),(.call (.c (.fn 152)) [(.t 7),(.c (.str [95]))]),0,none⟩] none) (.cond (.t 8) (.seq (.reg [⟨(some 10),(.mv (.t 0)),0,none⟩,⟨(some 11),(.strslc (.t 10) (some (.c (.int .i64 1))) none),0,none⟩,⟨(some 12),(.call (.c (.fn 182)) [(.t 11)]),0,none⟩,⟨(some 9),(.mv (.t 12)),2,none⟩,⟨(some 13),(.extract (.t 9) 0),2,none⟩,⟨(some 14),(.extract (.t 9) 1),2,none⟩,⟨(some 3),(.mv (.t 13)),2,none⟩,⟨(some 4),(.mv (.t 14)),2,none⟩] none) (.seq (.reg [⟨(some 15),(.mv (.t 4)),0,none⟩,⟨(some 16),(.bin .ifc .eql (.t 15) (.c .nili)),0,none⟩,⟨(some 17),(.mv (.t 16)),0,none⟩,⟨(some 18),(.mv (.t 3)),0,(some (17,true))⟩,⟨(some 19),(.bin .num .gtr (.t 18) (.c (.int .i64 0))),0,(some (17,true))⟩,⟨(some 20),(.pick (.t 17) (.t 19) (.c (.bool false))),0,none⟩,⟨(some 21),(.mv (.t 20)),0,none⟩,⟨(some 22),(.mv (.t 0)),0,(some (21,true))⟩,⟨(some 23),(.len 0 (.t 22)),0,(some (21,true))⟩,⟨(some 24),(.bin .num .leq (.t 23) (.c (.int .i64 10))),0,(some (21,true))⟩,⟨(some 25),(.pick (.t 21) (.t 24) (.c (.bool false))),0,none⟩,⟨(some 26),(.mv (.t 25)),0,none⟩,⟨(some 27),(.mv (.t 3)),0,(some (26,true))⟩,⟨(some 28),(.call (.c (.fn 76)) [(.t 27)]),0,(some (26,true))⟩,⟨(some 29),(.mv (.t 0)),2,(some (26,true))⟩,⟨(some 30),(.strslc (.t 29) (some (.c (.int .i64 1))) none),2,(some (26,true))⟩,⟨(some 31),(.bin .num .eql (.t 28) (.t 30)),2,(some (26,true))⟩,⟨(some 32),(.pick (.t 26) (.t 31) (.c (.bool false))),2,none⟩,⟨(some 2),(.mv (.t 32)),2,none⟩] (some [[],[0],[1,0],[2,1,0],[3,2,1,0],[2,4,1,0,3],[5,2,4,1,0,3],[6,5,2,4,1,0,3],[7,6,5,2,4,1,0,3],[8,6,7,5,2,4,1,0,3],[6,9,5,2,4,1,0,3,8,7],[10,6,9,5,2,4,1,0,3,8,7],[11,10,6,9,5,2,4,1,0,3,8,7],[12,11,10,6,9,5,2,4,1,0,3,8,7],[11,10,6,9,5,2,4,1,0,3,8,7],[14,11,10,6,9,5,2,4,1,0,3,8,7],[13,15,11,12,10,6,9,5,2,4,1,0,3,8,7,14],[11,16,10,6,9,5,2,4,1,0,3,8,7,13,15,12,14],[17,13,0,1,2,3,4,5,6,7,8,9,10,11,12,14,15,16]])) .ret)) .skip)) (.seq (.seq (.reg [⟨(some 33),(.mv (.t 0)),0,none⟩,⟨(some 34),(.sbytes (.t 33)),0,none⟩,⟨(some 35),(.len 1 (.t 34)),0,none⟩,⟨(some 36),(.mv (.c (.int .i64 0))),0,none⟩] none) (.block 0 (.loop [36,35,34,0] (.seq (.reg [⟨(some 37),(.bin .num .lss (.t 36) (.t 35)),0,none⟩] none) (.seq (.cond (.t 37) .skip (.exit 0)) (.seq (.block 1 (.seq (.reg [⟨(some 38),(.mv (.t 36)),0,none⟩,⟨(some 39),(.iaddr 1 (.t 34) (.t 36)),0,none⟩,⟨(some 40),(.load false [(.int .u8)] (.t 39)),0,none⟩,⟨(some 5),(.mv (.t 38)),0,none⟩,⟨(some 6),(.mv (.t 40)),0,none⟩] none) (.seq (.reg [⟨(some 41),(.mv (.t 6)),0,none⟩,⟨(some 42),(.bin .num .lss (.t 41) (.c (.int .u8 97))),0,none⟩,⟨(some 43),(.mv (.t 42)),0,none⟩,⟨(some 44),(.mv (.t 6)),0,(some (43,false))⟩,⟨(some 45),(.bin .num .gtr (.t 44) (.c (.int .u8 122))),0,(some (43,false))⟩,⟨(some 46),(.pick (.t 43) (.c (.bool true)) (.t 45)),0,none⟩,⟨(some 47),(.mv (.t 46)),0,none⟩,⟨(some 48),(.mv (.t 5)),0,(some (47,true))⟩,⟨(some 49),(.bin .num .eql (.t 48) (.c (.int .i64 0))),0,(some (47,true))⟩,⟨(some 50),(.mv (.t 49)),0,(some (47,true))⟩,⟨(some 51),(.mv (.t 6)),0,(some (50,false))⟩,⟨(some 52),(.bin .num .lss (.t 51) (.c (.int .u8 48))),0,(some (50,false))⟩,⟨(some 53),(.pick (.t 50) (.c (.bool true)) (.t 52)),0,(some (47,true))⟩,⟨(some 54),(.mv (.t 53)),0,(some (47,true))⟩,⟨(some 55),(.mv (.t 6)),0,(some (54,false))⟩,⟨(some 56),(.bin .num .gtr (.t 55) (.c (.int .u8 57))),0,(some (54,false))⟩,⟨(some 57),(.pick (.t 54) (.c (.bool true)) (.t 56)),0,(some (47,true))⟩,⟨(some 58),(.pick (.t 47) (.t 57) (.c (.bool false))),0,none⟩] none) (.cond (.t 58) (.seq (.reg [⟨(some 2),(.mv (.c (.bool false))),0,none⟩] none) .ret) .skip)))) (.reg [⟨(some 59),(.bin .num .add (.t 36) (.c (.int .i64 1))),0,none⟩,⟨(some 36),(.mv (.t 59)),0,none⟩] none))))))) (.seq (.reg [⟨(some 60),(.mv (.t 0)),0,none⟩,⟨(some 61),(.bin .num .neq (.t 60) (.c (.str []))),0,none⟩,⟨(some 62),(.mv (.t 61)),0,none⟩,⟨(some 63),(.mv (.t 0)),0,(some (62,true))⟩,⟨(some 64),(.len 0 (.t 63)),0,(some (62,true))⟩,⟨(some 65),(.bin .num .leq (.t 64) (.c (.int .i64 30))),0,(some (62,true))⟩,⟨(some 66),(.pick (.t 62) (.t 65) (.c (.bool false))),0,none⟩,⟨(some 2),(.mv (.t 66)),0,none⟩] none) .ret))))
def Xh:List IRes:=[(.tmp 2)]
abbrev a5f:Nat:=67
def Wh:ZH:=XI [(152,.pure (preT (fun _:Str×Str×Unit=>true)) (Zf (fun x:Str×Str×Unit=>x.2.1.s.isPrefixOf x.1.s))),(182,.pure (preT (fun x:Str×Unit=>decide (x.1.s.length<=1000000))) (Zf (fun x:Str×Unit=>Y2 x.1))),(76,.pure (preT (fun x:Int×Unit=>decide (-9223372036854775808<=x.1)&&decide (x.1<=9223372036854775807))) (Zf (fun x:Int×Unit=>a5l x.1)))]
theorem b2d{G:PV->Prop}(s:List UInt8)(h : ∃ y0:Bool,AV.pv (Zf (fun(x:Str×Str×Unit)=>List.isPrefixOf (Str.s x.2.1) (Str.s x.1)) [(.str s),(.str [(95:UInt8)])])=AV.pv (enc y0)∧(if (y0)=true then(decide (0<=1)&&true&&decide (Int.toNat 1<=List.length s)&&decide (List.length s<=List.length s))=true∧((Go.Pl.preT (fun(x:Str×Unit)=>decide (List.length (Str.s x.1)<=1000000)) [(.str (List.drop (Int.toNat 1) (List.take (List.length s) s)))])=true∧(∃ y1:Int×Er,AV.pv (Zf (fun(x:Str×Unit)=>Y2 x.1) [(.str (List.drop (Int.toNat 1) (List.take (List.length s) s)))])=AV.pv (enc y1)∧((Rw (enc y1.2)&&Prod.fst (true,PV.bool (QC (enc y1.2))))=true∧(if (QC (enc y1.2))=true then if (decide (y1.1>0))=true then if (decide ((↑(List.length s):Int)<=10))=true then(Go.Pl.preT (fun(x:Int×Unit)=>decide ((-9223372036854775808:Int)<=x.1)&&decide (x.1<=9223372036854775807)) [(.int .i64 y1.1)])=true∧(∃ y2:Str,AV.pv (Zf (fun(x:Int×Unit)=>a5l x.1) [(.int .i64 y1.1)])=AV.pv (enc y2)∧((decide (0<=1)&&true&&decide (Int.toNat 1<=List.length s)&&decide (List.length s<=List.length s))=true∧(G ((.bool (Str.s y2==List.drop (Int.toNat 1) (List.take (List.length s) s)))))))else(G ((.bool false)))else(G ((.bool false)))else(G ((.bool false)))))))else(At Wh 0 (Za Xh G) Xb 0 67 [(0,(.pv (.str s))),(34,(.pv (.sl 1 false (ZP s)))),(35,(.pv (.int .i64 (↑(List.length (ZP s)):Int)))),(36,(.pv (.int .i64 0)))] []))):Zc Wh 0 (Za Xh G) Xb [] (Z9 67 [.str s]):=Zc.tp (.lit (.abs (Bool) (fun YY=>AV.pv (enc YY)) (.ask (.req (.req (.abs (Int×Er) (fun YY=>AV.pv (enc YY)) (.req (.ask (.lit (.lit (.lit (.ask (.lit (.lit (.lit (.lit (.ask (.lit (.req (.abs (Str) (fun YY=>AV.pv (enc YY)) (.lit (.lit (.req (.lit (.lit (.lit (.nil)))))))))) (.lit (.lit (.lit (.lit (.lit (.nil))))))))))) (.lit (.lit (.lit (.lit (.lit (.lit (.lit (.lit (.lit (.nil)))))))))))))) (.lit (.lit (.lit (.lit (.lit (.lit (.lit (.lit (.lit (.lit (.lit (.lit (.nil)))))))))))))))))) (.nil)))) h (by kernel_rfl)
theorem Nn{G:PV->Prop}(s:List UInt8)(i:Int)(h:if (decide (i<(↑(List.length (ZP s)):Int)))=true then(decide (0<=i)&&decide (Int.toNat i<List.length (ZP s))&&1==1)=true∧((decide (0+List.length [Sh.int IntKind.u8]<=List.length (PV.cells (List.getD (ZP s) (Int.toNat i) default)))&&Yk (PV.cells (List.getD (ZP s) (Int.toNat i) default)) 0 [Sh.int IntKind.u8])=true∧(if (decide (PV.asInt (List.getD (PV.cells (List.getD (ZP s) (Int.toNat i) default)) 0 default)<97))=true then if (i==0)=true then G ((.bool false))else(if (decide (PV.asInt (List.getD (PV.cells (List.getD (ZP s) (Int.toNat i) default)) 0 default)<48))=true then G ((.bool false))else(if (decide (PV.asInt (List.getD (PV.cells (List.getD (ZP s) (Int.toNat i) default)) 0 default)>57))=true then G ((.bool false))else(At Wh 0 (Za Xh G) Xb 0 67 [(0,(.pv (.str s))),(34,(.pv (.sl 1 false (ZP s)))),(35,(.pv (.int .i64 (↑(List.length (ZP s)):Int)))),(36,(.pv (.int .i64 (IntKind.wrap IntKind.i64 (i+1)))))] [])))else(if (decide (PV.asInt (List.getD (PV.cells (List.getD (ZP s) (Int.toNat i) default)) 0 default)>122))=true then if (i==0)=true then G ((.bool false))else(if (decide (PV.asInt (List.getD (PV.cells (List.getD (ZP s) (Int.toNat i) default)) 0 default)<48))=true then G ((.bool false))else(if (decide (PV.asInt (List.getD (PV.cells (List.getD (ZP s) (Int.toNat i) default)) 0 default)>57))=true then G ((.bool false))else(At Wh 0 (Za Xh G) Xb 0 67 [(0,(.pv (.str s))),(34,(.pv (.sl 1 false (ZP s)))),(35,(.pv (.int .i64 (↑(List.length (ZP s)):Int)))),(36,(.pv (.int .i64 (IntKind.wrap IntKind.i64 (i+1)))))] [])))else(At Wh 0 (Za Xh G) Xb 0 67 [(0,(.pv (.str s))),(34,(.pv (.sl 1 false (ZP s)))),(35,(.pv (.int .i64 (↑(List.length (ZP s)):Int)))),(36,(.pv (.int .i64 (IntKind.wrap IntKind.i64 (i+1)))))] []))))else(if (!s==[])=true then G ((.bool (decide ((↑(List.length s):Int)<=30))))else(G ((.bool false))))):At Wh 0 (Za Xh G) Xb 0 67 [(0,.pv (.str s)),(34,.pv (.sl 1 false (ZP s))),(35,.pv (.int .i64 (ZP s).length)),(36,.pv (.int .i64 i))] []:=At.tp (.lit (.ask (.req (.keep (.req (.lit (.ask (.lit (.lit (.lit (.lit (.lit (.lit (.ask (.lit (.lit (.lit (.lit (.lit (.lit (.lit (.lit (.lit (.lit (.nil))))))))))) (.lit (.lit (.lit (.lit (.lit (.ask (.lit (.lit (.lit (.lit (.lit (.nil)))))) (.lit (.lit (.lit (.lit (.lit (.ask (.nil) (.lit (.nil))))))))))))))))))))) (.lit (.lit (.lit (.ask (.lit (.lit (.lit (.ask (.lit (.lit (.lit (.lit (.lit (.lit (.lit (.lit (.lit (.lit (.nil))))))))))) (.lit (.lit (.lit (.lit (.lit (.ask (.lit (.lit (.lit (.lit (.lit (.nil)))))) (.lit (.lit (.lit (.lit (.lit (.ask (.nil) (.lit (.nil)))))))))))))))))) (.lit (.lit (.lit (.lit (.lit (.lit (.lit (.lit (.nil)))))))))))))))))) (.lit (.ask (.lit (.lit (.lit (.lit (.nil))))) (.lit (.lit (.lit (.nil)))))))) h (by kernel_rfl)
def XP:IC:=(.seq (.reg [⟨(some 1),(.box 2 (.t 0)),0,none⟩,⟨(some 2),(.mv (.c (.bool false))),1,none⟩] none) (.seq (.seq (.reg [⟨(some 5),(.faddr 1 (.t 1)),0,none⟩,⟨(some 6),(.load false [(.sl 2)] (.t 5)),0,none⟩,⟨(some 7),(.len 1 (.t 6)),0,none⟩,⟨(some 8),(.mv (.c (.int .i64 0))),0,none⟩] none) (.block 0 (.loop [8,7,6,1] (.seq (.reg [⟨(some 9),(.bin .num .lss (.t 8) (.t 7)),0,none⟩] none) (.seq (.cond (.t 9) .skip (.exit 0)) (.seq (.block 1 (.seq (.reg [⟨(some 10),(.mv (.t 8)),0,none⟩,⟨(some 11),(.iaddr 2 (.t 6) (.t 8)),0,none⟩,⟨(some 12),(.load true [.str,(.int .i64)] (.t 11)),0,none⟩,⟨(some 4),(.alloc (.agg [(.str []),(.int .i64 0)])),0,none⟩,⟨(some 3),(.mv (.t 10)),1,none⟩,⟨none,(.store 2 (.t 4) (.t 12)),1,none⟩] none) (.seq (.reg [⟨(some 13),(.faddr 0 (.t 4)),0,none⟩,⟨(some 14),(.load false [.str] (.t 13)),0,none⟩,⟨(some 15),(.call (.c (.fn 119)) [(.t 14)]),0,none⟩,⟨(some 16),(.un .not (.t 15)),2,none⟩,⟨(some 17),(.mv (.t 16)),2,none⟩,⟨(some 18),(.faddr 1 (.t 4)),2,(some (17,false))⟩,⟨(some 19),(.load false [(.int .i64)] (.t 18)),2,(some (17,false))⟩,⟨(some 20),(.bin .num .eql (.t 19) (.c (.int .i64 0))),2,(some (17,false))⟩,⟨(some 21),(.pick (.t 17) (.c (.bool true)) (.t 20)),2,none⟩,⟨(some 22),(.mv (.t 21)),2,none⟩,⟨(some 23),(.faddr 1 (.t 4)),2,(some (22,false))⟩,⟨(some 24),(.load false [(.int .i64)] (.t 23)),2,(some (22,false))⟩,⟨(some 25),(.call (.c (.fn 144)) [(.t 24)]),2,(some (22,false))⟩,⟨(some 26),(.un .not (.t 25)),4,(some (22,false))⟩,⟨(some 27),(.pick (.t 22) (.c (.bool true)) (.t 26)),4,none⟩,⟨(some 28),(.mv (.t 27)),4,none⟩,⟨(some 29),(.mv (.t 3)),4,(some (28,false))⟩,⟨(some 30),(.bin .num .gtr (.t 29) (.c (.int .i64 0))),4,(some (28,false))⟩,⟨(some 31),(.mv (.t 30)),4,(some (28,false))⟩,⟨(some 32),(.faddr 1 (.t 1)),4,(some (31,true))⟩,⟨(some 33),(.load false [(.sl 2)] (.t 32)),4,(some (31,true))⟩,⟨(some 34),(.mv (.t 3)),4,(some (31,true))⟩,⟨(some 35),(.bin .num .sub (.t 34) (.c (.int .i64 1))),4,(some (31,true))⟩,⟨(some 36),(.iaddr 2 (.t 33) (.t 35)),4,(some (31,true))⟩,⟨(some 37),(.faddr 0 (.t 36)),4,(some (31,true))⟩,⟨(some 38),(.load false [.str] (.t 37)),4,(some (31,true))⟩,⟨(some 39),(.faddr 0 (.t 4)),4,(some (31,true))⟩,⟨(some 40),(.load false [.str] (.t 39)),4,(some (31,true))⟩,⟨(some 41),(.bin .num .geq (.t 38) (.t 40)),4,(some (31,true))⟩,⟨(some 42),(.pick (.t 31) (.t 41) (.c (.bool false))),4,(some (28,false))⟩,⟨(some 43),(.pick (.t 28) (.c (.bool true)) (.t 42)),4,none⟩] (some [[],[0],[1,0],[2,1,0],[3,2,1,0],[4,3,2,1,0],[5,4,3,2,1,0],[6,4,5,3,2,1,0],[4,7,3,2,1,0,6,5],[8,4,7,3,2,1,0,6,5],[9,8,4,7,3,2,1,0,6,5],[10,9,8,4,7,3,2,1,0,6,5],[11,9,10,8,4,7,3,2,1,0,6,5],[12,9,11,10,8,4,7,3,2,1,0,6,5],[9,13,8,4,7,3,2,1,0,6,5,12,11,10],[14,12,9,13,8,4,7,3,2,1,0,6,5,11,10],[15,14,12,9,13,8,4,7,3,2,1,0,6,5,11,10],[16,15,14,12,9,13,8,4,7,3,2,1,0,6,5,11,10],[17,15,16,14,12,9,13,8,4,7,3,2,1,0,6,5,11,10],[18,17,15,16,14,12,9,13,8,4,7,3,2,1,0,6,5,11,10],[19,18,17,15,16,14,12,9,13,8,4,7,3,2,1,0,6,5,11,10],[18,17,15,16,14,12,9,13,8,4,7,3,2,1,0,6,5,11,10],[21,18,17,15,16,14,12,9,13,8,4,7,3,2,1,0,6,5,11,10],[20,22,18,19,17,15,16,14,12,9,13,8,4,7,3,2,1,0,6,5,11,10,21],[23,18,20,22,19,17,15,16,14,12,9,13,8,4,7,3,2,1,0,6,5,11,10,21],[24,18,23,20,22,19,17,15,16,14,12,9,13,8,4,7,3,2,1,0,6,5,11,10,21],[18,17,15,16,14,12,9,13,8,4,7,3,2,1,0,6,5,11,10],[26,18,17,15,16,14,12,9,13,8,4,7,3,2,1,0,6,5,11,10],[25,27,18,24,23,20,22,19,17,15,16,14,12,9,13,8,4,7,3,2,1,0,6,5,11,10,21,26],[18,28,15,17,16,14,12,9,13,8,4,7,3,2,1,0,6,5,11,10,25,27,24,23,20,22,19,21,26],[15,29,14,12,9,13,8,4,7,3,2,1,0,6,5,11,10,18,28,17,16,25,27,24,23,20,22,19,21,26]])) (.cond (.t 43) (.seq (.reg [⟨(some 2),(.mv (.c (.bool false))),0,none⟩] none) .ret) .skip)))) (.reg [⟨(some 44),(.bin .num .add (.t 8) (.c (.int .i64 1))),0,none⟩,⟨(some 8),(.mv (.t 44)),0,none⟩] none))))))) (.seq (.reg [⟨(some 45),(.faddr 0 (.t 1)),0,none⟩,⟨(some 46),(.load false [(.int .i64)] (.t 45)),0,none⟩,⟨(some 47),(.call (.c (.fn 144)) [(.t 46)]),0,none⟩,⟨(some 48),(.mv (.t 47)),2,none⟩,⟨(some 49),(.faddr 1 (.t 1)),2,(some (48,true))⟩,⟨(some 50),(.load false [(.sl 2)] (.t 49)),2,(some (48,true))⟩,⟨(some 51),(.len 1 (.t 50)),2,(some (48,true))⟩,⟨(some 52),(.bin .num .leq (.t 51) (.c (.int .i64 12))),2,(some (48,true))⟩,⟨(some 53),(.pick (.t 48) (.t 52) (.c (.bool false))),2,none⟩,⟨(some 2),(.mv (.t 53)),2,none⟩] none) .ret)))
def XQ:List IRes:=[(.tmp 2)]
abbrev a0w:Nat:=54
def WF:ZH:=XI [(144,.pure (preT (fun _:Int×Unit=>true)) (Zf (fun x:Int×Unit=>Ya x.1))),(119,.pure (preT (fun x:Str×Unit=>decide (x.1.s.length<=1000000))) (Zf (fun x:Str×Unit=>Yu x.1)))]
theorem a8g{G:PV->Prop}(l:Lin)(h:At WF 0 (Za XQ G) XP 0 54 [(1,(.ptr 0 0)),(6,(.pv (.sl 2 false (List.map enc l.t)))),(7,(.pv (.int .i64 (↑(List.length (List.map enc l.t)):Int)))),(8,(.pv (.int .i64 0)))] [(.obj (.box [(.pv (.int .i64 l.k)),(.pv (.sl 2 false (List.map enc l.t)))]))]):Zc WF 0 (Za XQ G) XP [] (Z9 54 [enc l]):=Zc.tp (.nil) h (by kernel_rfl)
theorem Ae{G:PV->Prop}(l:Lin)(i:Int)(h:if (decide (i<(↑(List.length l.t):Int)))=true then(decide (0<=i)&&decide (Int.toNat i<List.length (List.map enc l.t))&&Enc.sz Coef==2)=true∧(∃ y0:Coef,AV.pv (PV.rptr (PV.cells (List.getD (List.map enc l.t) (Int.toNat i) default)))=AV.pv (PV.rptr (PV.cells ((enc) y0)))∧((Go.Pl.preT (fun(x:Str×Unit)=>decide (List.length (Str.s x.1)<=1000000)) [(.str (PV.asStr (List.getD (PV.cells (enc y0)) 0 default)))])=true∧(∃ y1:Bool,AV.pv (Zf (fun(x:Str×Unit)=>Yu x.1) [(.str (PV.asStr (List.getD (PV.cells (enc y0)) 0 default)))])=AV.pv (enc y1)∧(if (!y1)=true then G ((.bool false))else(if (PV.asInt (List.getD (PV.cells (enc y0)) (0+1) default)==0)=true then G ((.bool false))else(∃ y2:Bool,AV.pv (Zf (fun(x:Int×Unit)=>Ya x.1) [(.int .i64 (PV.asInt (List.getD (PV.cells (enc y0)) (0+1) default)))])=AV.pv (enc y2)∧(if (!y2)=true then G ((.bool false))else(if (decide (i>0))=true then(decide (0<=IntKind.wrap IntKind.i64 (i - 1))&&decide (Int.toNat (IntKind.wrap IntKind.i64 (i - 1))<List.length (List.map enc l.t))&&Enc.sz Coef==2)=true∧(∃ y3:Coef,AV.pv (PV.rptr (PV.cells (List.getD (List.map enc l.t) (Int.toNat (IntKind.wrap IntKind.i64 (i - 1))) default)))=AV.pv (PV.rptr (PV.cells ((enc) y3)))∧(if (!Op.bytesLess (PV.asStr (List.getD (List.drop 0 (PV.cells (enc y3))) 0 default)) (PV.asStr (List.getD (PV.cells (enc y0)) 0 default)))=true then G ((.bool false))else(At WF 0 (Za XQ G) XP 0 54 [(1,(.ptr 0 0)),(6,(.pv (.sl 2 false (List.map enc l.t)))),(7,(.pv (.int .i64 (↑(List.length l.t):Int)))),(8,(.pv (.int .i64 (IntKind.wrap IntKind.i64 (i+1)))))] [(.obj (.box [(.pv (.int .i64 l.k)),(.pv (.sl 2 false (List.map enc l.t)))]))])))else(At WF 0 (Za XQ G) XP 0 54 [(1,(.ptr 0 0)),(6,(.pv (.sl 2 false (List.map enc l.t)))),(7,(.pv (.int .i64 (↑(List.length l.t):Int)))),(8,(.pv (.int .i64 (IntKind.wrap IntKind.i64 (i+1)))))] [(.obj (.box [(.pv (.int .i64 l.k)),(.pv (.sl 2 false (List.map enc l.t)))]))])))))))))else(∃ y4:Bool,AV.pv (Zf (fun(x:Int×Unit)=>Ya x.1) [(.int .i64 l.k)])=AV.pv (enc y4)∧(if (y4)=true then G ((.bool (decide ((↑(List.length (List.map enc l.t)):Int)<=12))))else(G ((.bool false)))))):At WF 0 (Za XQ G) XP 0 54 [(1,.ptr 0 0),(6,.pv (enc l.t)),(7,.pv (.int .i64 l.t.length)),(8,.pv (.int .i64 i))] [.obj (.box [.pv (.int .i64 l.k),.pv (enc l.t)])]:=At.tp (.lit (.ask (.req (.abs (Coef) (fun YY=>AV.pv (PV.rptr (PV.cells ((enc) YY)))) (.lit (.req (.abs (Bool) (fun YY=>AV.pv (enc YY)) (.ask (.lit (.lit (.lit (.lit (.lit (.lit (.lit (.lit (.lit (.lit (.lit (.lit (.lit (.lit (.nil))))))))))))))) (.lit (.lit (.lit (.lit (.ask (.lit (.lit (.lit (.lit (.lit (.lit (.lit (.lit (.lit (.lit (.nil))))))))))) (.lit (.lit (.lit (.abs (Bool) (fun YY=>AV.pv (enc YY)) (.lit (.lit (.ask (.lit (.lit (.lit (.lit (.lit (.nil)))))) (.lit (.lit (.lit (.ask (.lit (.lit (.lit (.lit (.lit (.req (.abs (Coef) (fun YY=>AV.pv (PV.rptr (PV.cells ((enc) YY)))) (.lit (.lit (.lit (.lit (.lit (.lit (.lit (.lit (.lit (.lit (.ask (.nil) (.lit (.nil)))))))))))))))))))) (.lit (.lit (.lit (.lit (.lit (.lit (.lit (.lit (.lit (.lit (.lit (.lit (.lit (.lit (.nil))))))))))))))))))))))))))))))))))))) (.lit (.abs (Bool) (fun YY=>AV.pv (enc YY)) (.ask (.lit (.lit (.lit (.lit (.lit (.nil)))))) (.lit (.lit (.lit (.lit (.nil)))))))))) h (by kernel_rfl)
def Lu:IC:=Sn
def NR:List IRes:=[(.cell true 2 2)]
abbrev b6p:Nat:=5
def a7p:ZH:=XI []
theorem b8t{G:PV->Prop}(n:Int)(h:G ((.agg [(.int .i64 n),(.sl 0 true [])]))):Zc a7p 0 (Za NR G) Lu [] (Z9 5 [enc n]):=Zc.tp (.nil) h (by kernel_rfl)
def Sr:IC:=(.seq (.reg [⟨(some 3),(.box 5 (.t 0)),0,none⟩,⟨(some 6),(.mv (.c (.bool false))),1,none⟩] none) (.seq (.seq (.reg [⟨(some 7),(.faddr 4 (.t 3)),0,none⟩,⟨(some 8),(.load false [(.sl 5)] (.t 7)),0,none⟩,⟨(some 9),(.len 1 (.t 8)),0,none⟩,⟨(some 10),(.mv (.t 1)),0,none⟩,⟨(some 11),(.bin .num .neq (.t 9) (.t 10)),0,none⟩] none) (.cond (.t 11) (.seq (.reg [⟨(some 6),(.mv (.c (.bool false))),0,none⟩] none) .ret) .skip)) (.seq (.seq (.reg [⟨(some 12),(.mv (.t 2)),0,none⟩] none) (.cond (.t 12) (.seq (.reg [⟨(some 13),(.faddr 2 (.t 3)),0,none⟩,⟨(some 14),(.faddr 1 (.t 13)),0,none⟩,⟨(some 15),(.load false [(.sl 2)] (.t 14)),0,none⟩,⟨(some 16),(.len 1 (.t 15)),0,none⟩,⟨(some 17),(.bin .num .eql (.t 16) (.c (.int .i64 0))),0,none⟩,⟨(some 18),(.mv (.t 17)),0,none⟩,⟨(some 19),(.faddr 2 (.t 3)),0,(some (18,true))⟩,⟨(some 20),(.faddr 0 (.t 19)),0,(some (18,true))⟩,⟨(some 21),(.load false [(.int .i64)] (.t 20)),0,(some (18,true))⟩,⟨(some 22),(.bin .num .eql (.t 21) (.c (.int .i64 0))),0,(some (18,true))⟩,⟨(some 23),(.pick (.t 18) (.t 22) (.c (.bool false))),0,none⟩,⟨(some 6),(.mv (.t 23)),0,none⟩] none) .ret) .skip)) (.seq (.reg [⟨(some 24),(.faddr 1 (.t 3)),0,none⟩,⟨(some 25),(.load false [(.sl 1)] (.t 24)),0,none⟩,⟨(some 26),(.len 1 (.t 25)),0,none⟩,⟨(some 27),(.bin .num .eql (.t 26) (.c (.int .i64 0))),0,none⟩,⟨(some 6),(.mv (.t 27)),0,none⟩] none) .ret))))
def TE:List IRes:=[(.tmp 6)]
abbrev a9o:Nat:=28
def M3:ZH:=XI []
theorem b6d{G:PV->Prop}(k:Int)(m:List Int)(l:Lin)(ks:List Cert)(n:Int)(b:Bool)(h:if ((↑(List.length (List.map enc ks)):Int) != n)=true then G ((.bool false))else(if (b)=true then if ((↑(List.length (List.map enc l.t)):Int)==0)=true then G ((.bool (l.k==0)))else(G ((.bool false)))else(G ((.bool ((↑(List.length (List.map enc m)):Int)==0)))))):Zc M3 0 (Za TE G) Sr [] (Z9 28 [.agg [enc k,enc m,enc l.k,enc l.t,enc ks],enc n,enc b]):=Zc.tp (.lit (.ask (.nil) (.ask (.lit (.ask (.lit (.lit (.lit (.lit (.lit (.nil)))))) (.lit (.lit (.lit (.lit (.nil))))))) (.lit (.nil))))) h (by kernel_rfl)
end Go.Pl

namespace Go.Pl
open Go.RowKit
open Enc (enc dec is)
open EncL (encL decL isL)
theorem a6a{s:List UInt8}{i:Nat}(h:i<s.length):List.getD (ZP s) (Int.toNat (i:Int)) default = .int .u8 (s[i].toNat:Int):=by
 simp[ZP,List.getD,h]
theorem Hw(s:List UInt8):(ZP s).length=s.length:=by simp[ZP]
def Rm(c:UInt8):Bool:=WA c||digB c
theorem Oo{c:UInt8}:WA c=true ↔ 97<=c.toNat∧c.toNat<=122:=by
 simp only[WA,Bool.and_eq_true,decide_eq_true_eq,UInt8.le_iff_toNat_le]
 have e1:(97:UInt8).toNat=97:=rfl
 have e2:(122:UInt8).toNat=122:=rfl
 rw[e1,e2]
theorem BV{c:UInt8}(h : ¬ (97<=c.toNat∧c.toNat<=122)):WA c=false:=by
 cases e:WA c
 ·rfl
 ·exact absurd (Oo.1 e) h
theorem A8{c:UInt8}(h : ¬ (48<=c.toNat∧c.toNat<=57)):digB c=false:=by
 cases e:digB c
 ·rfl
 ·exact absurd (Vk.1 e) h
def WM(s:List UInt8)(i:Nat):Bool:=(match i with|0=>(match s with|[]=>true|c::r=>WA c&&r.all Rm)|i+1=>(s.drop (i+1)).all Rm)&&(!(s==[]))&&decide (s.length<=30)
theorem El{s:List UInt8}{i:Nat}(h:i<s.length)(hb:WA s[i]=true∨(i≠0∧digB s[i]=true)):WM s i=WM s (i+1):=by
 cases i with
 | zero=>
  cases s with
  | nil=>simp at h
  | cons c r=>
   rcases hb with hb|hb
   ·have hb:WA c=true:=hb
    simp[WM,hb]
   ·exact absurd rfl hb.1
 | succ i=>
  unfold WM
  simp only
  rw[List.drop_eq_getElem_cons h,List.all_cons]
  have:Rm s[i+1]=true:=by
   rcases hb with hb|hb
   ·simp[Rm,hb]
   ·simp[Rm,hb.2]
  rw[this,Bool.true_and]
theorem EC{s:List UInt8}{i:Nat}(h:i<s.length)(hb:WA s[i]=false∧(i=0∨digB s[i]=false)):WM s i=false:=by
 cases i with
 | zero=>
  cases s with
  | nil=>simp at h
  | cons c r=>
   have hb:WA c=false:=hb.1
   simp[WM,hb]
 | succ i=>
  unfold WM
  simp only
  rw[List.drop_eq_getElem_cons h,List.all_cons]
  have:Rm s[i+1]=false:=by
   rcases hb.2 with h0|h0
   ·cases h0
   ·simp[Rm,hb.1,h0]
  rw[this];simp
theorem Ms(s:List UInt8)(hs:s.length<=1000000): ∀ (m i:Nat),m+i=s.length->At Wh 0 (Za Xh (Zv (WM s i))) Xb 0 67 [(0,.pv (.str s)),(34,.pv (.sl 1 false (ZP s))),(35,.pv (.int .i64 (ZP s).length)),(36,.pv (.int .i64 i))] []:=by
 intro m
 induction m with
 | zero=>
  intro i hi
  have e:WM s i=(!(s==[])&&decide (s.length<=30)):=by
   unfold WM
   cases i with
   | zero=>cases s with
    | nil=>rfl
    | cons c r=>simp at hi
   | succ i=>simp only;rw[List.drop_of_length_le (show s.length<=i+1 by omega)];simp
  rw[e]
  refine Nn s i (Yc (X4 (by rw[Hw];omega)) (QY (fun h=>Zz ?_) fun h=>Zz ?_))
  ·rw[h,Bool.true_and];exact decide_eq_decide.2 (by omega)
  ·rw[h,Bool.false_and]
 | succ m ih=>
  intro i hi
  have hlt:i<s.length:=by omega
  have h:=ih (i+1) (by omega)
  refine Nn s i ?_
  rw[a6a hlt,next (by omega)]
  have stop:(WA s[i]=false∧(i=0∨digB s[i]=false))->Zv (WM s i) (.bool false):=fun hb=>Zz (EC hlt hb).symm
  have go:(WA s[i]=true∨(i≠0∧digB s[i]=true))->At Wh 0 (Za Xh (Zv (WM s i))) Xb 0 67 [(0,.pv (.str s)),(34,.pv (.sl 1 false (ZP s))),(35,.pv (.int .i64 (ZP s).length)),(36,.pv (.int .i64 ((i+1:Nat):Int)))] []:=fun hb=>by rw[El hlt hb];exact h
  have rest:WA s[i]=false->(if ((i:Int)==0)=true then Zv (WM s i) (.bool false)else if decide ((s[i].toNat:Int)<48)=true then Zv (WM s i) (.bool false)else if decide ((s[i].toNat:Int)>57)=true then Zv (WM s i) (.bool false)else At Wh 0 (Za Xh (Zv (WM s i))) Xb 0 67 [(0,.pv (.str s)),(34,.pv (.sl 1 false (ZP s))),(35,.pv (.int .i64 (ZP s).length)),(36,.pv (.int .i64 ((i+1:Nat):Int)))] []):=by
   intro hl
   refine XL (fun h0=>stop ⟨hl,.inl (by omega)⟩) fun h0=>Yv (fun h1=>stop ⟨hl,.inr (A8 (by omega))⟩) fun h1=>Yv (fun h2=>stop ⟨hl,.inr (A8 (by omega))⟩) fun h2=>go (.inr ⟨by omega,Vk.2 (by omega)⟩)
  refine Z8 (Xm (by rw[Hw];exact hlt)) ⟨by rw[Hw];simp[hlt],by rfl,?_⟩
  refine Yv (fun h1=>rest (BV ?_)) fun h1=>Yv (fun h2=>rest (BV ?_)) fun h2=>go (.inl (Oo.2 ?_))
  ·have h1:(s[i].toNat:Int)<97:=h1
   omega
  ·have h2:(s[i].toNat:Int)>122:=h2
   omega
  ·have h1 : ¬ (s[i].toNat:Int)<97:=h1
   have h2 : ¬ (s[i].toNat:Int)>122:=h2
   omega
theorem OY{s:List UInt8}(h:[95].isPrefixOf s=false):Yu ⟨s⟩=WM s 0:=by
 cases s with
 | nil=>rfl
 | cons c r=>
  have hc : ¬ c=95:=by intro e;subst e;simp at h
  have e:decide ((c::r).length<=30)=decide (r.length<=29):=decide_eq_decide.2 (by simp)
  unfold WM
  rw[e]
  simp only[Yu,if_neg hc]
  show _=(WA c&&r.all Rm&& !((c::r)==[])&&_)
  have e2:((c::r)==[])=false:=rfl
  rw[e2]
  simp only[Bool.not_false,Bool.and_true]
  rfl
theorem Lj(s:Str): -9223372036854775808<=(Y2 s).1∧((Y2 s).1<=9223372036854775807):=by
 unfold Y2
 split
 ·rename_i v hv;exact Lib.atoiAll_bounds hv
 ·have:=Lib.atoiSat_bounds s.s
  exact⟨by show _<=Lib.atoiSat s.s;omega,by show Lib.atoiSat s.s<=_;omega⟩
 ·exact⟨by show(-9223372036854775808:Int)<=0;omega,by show(0:Int)<=_;omega⟩
theorem a0s: ∀ a:Str×Unit,decide (a.1.s.length<=1000000)=true->Zc Wh 0 (Za Xh (Zv (Yu a.1))) Xb [] (Z9 a5f (encL a)):=by
 rintro⟨⟨s⟩,⟨⟩⟩ hl
 have hl:s.length<=1000000:=by simpa using hl
 refine b2d s (Ze (⟨s⟩,⟨[95]⟩,()) rfl (QY (fun h=> ?_) fun h=> ?_))
 ·have h:[95].isPrefixOf s=true:=h
  obtain⟨r,rfl⟩ : ∃ r,s=95::r:=by
   cases s with
   | nil=>simp at h
   | cons c r=>
    have:95=c:=by simpa using h
    exact⟨r,by rw[this]⟩
  have e1:List.drop (Int.toNat 1) (List.take (List.length (95::r)) (95::r))=r:=by rw[List.take_of_length_le (Nat.le_refl _)];rfl
  simp only[e1]
  refine⟨by simp,Zd (⟨r⟩,()) rfl (by simp at hl ⊢;omega),Ze (⟨r⟩,()) rfl ⟨by show(Rw (enc (Y2 ⟨r⟩).2)&&true)=true;rw[b9f];rfl,?_⟩⟩
  show if QC (enc (Y2 ⟨r⟩).2)=true then(if decide ((Y2 ⟨r⟩).1>0)=true then(if _ then _ else Zv (Yu ⟨95::r⟩) _)else Zv (Yu ⟨95::r⟩) _)else Zv (Yu ⟨95::r⟩) _
  rw[a8z]
  by_cases h9:r.length<=9
  ·rw[<- b0x r h9,decide_eq_true h9,Bool.and_true]
   refine QY (fun h1=>QY (fun h2=>Z8 (by simp;omega) ⟨Zd ((Y2 ⟨r⟩).1,()) rfl (by have:=Lj ⟨r⟩;simp;omega),Ze ((Y2 ⟨r⟩).1,()) rfl ⟨by simp,Zz ?_⟩⟩) fun h2=>Zz ?_) fun h1=>Zz ?_
   ·rw[h1,h2];simp only[Bool.true_and,Bool.and_true];rfl
   ·rw[h2];simp
   ·rw[h1];simp
  ·rw[decide_eq_false h9,Bool.and_false]
   refine QY (fun h1=>QY (fun h2=>Yc (by simp;omega) (Zz rfl)) fun h2=>Zz rfl) fun h1=>Zz rfl
 ·have h:[95].isPrefixOf s=false:=h
  show At Wh 0 (Za Xh (Zv (Yu ⟨s⟩))) Xb 0 67 _ _
  rw[OY h]
  exact Ms s hl s.length 0 (by omega)
theorem PQ(l:Lin)(hl:l.t.length<=9223372036854775807)(hs:l.t.all (fun t=>decide (t.v.s.length<=1000000))=true): ∀ (j i:Nat),j+i=l.t.length->At WF 0 (Za XQ (Zv (Dk (pvS l.t i) (l.t.drop i)&&(Ya l.k&&decide (l.t.length<=12))))) XP 0 54 [(1,.ptr 0 0),(6,.pv (enc l.t)),(7,.pv (.int .i64 l.t.length)),(8,.pv (.int .i64 i))] [.obj (.box [.pv (.int .i64 l.k),.pv (enc l.t)])]:=by
 intro j
 induction j with
 | zero=>
  intro i hi
  refine Ae l i (Yc (X4 (by omega)) (Ze (l.k,()) rfl ?_))
  rw[List.drop_of_length_le (show l.t.length<=i by omega)]
  refine QY (fun h=>Zz ?_) fun h=>Zz ?_
  ·have h:Ya l.k=true:=h
   rw[h]
   show _=(true&&(true&&_))
   rw[Bool.true_and,Bool.true_and]
   exact decide_eq_decide.2 (by simp;omega)
  ·have h:Ya l.k=false:=h
   rw[h];simp
 | succ j ih=>
  intro i hi
  have hlt:i<l.t.length:=by omega
  have h:=ih (i+1) (by omega)
  have hsi:l.t[i].v.s.length<=1000000:=by rw[List.all_eq_true]at hs;simpa using hs _ (List.getElem_mem hlt)
  refine Ae l i ?_
  refine Z8 (Xm hlt) ⟨ZN hlt rfl,Yf hlt ⟨Zd (l.t[i].v,()) rfl (by simpa using hsi),Ze (l.t[i].v,()) rfl (Y4 (fun hn=> ?_) fun hn=>XL (fun hc=> ?_) fun hc=>Ze (l.t[i].c,()) rfl (Y4 (fun hk=> ?_) fun hk=> ?_))⟩⟩
  all_goals rw[List.drop_eq_getElem_cons hlt,Jr]
  ·have hn:Yu l.t[i].v=false:=hn
   exact Zz (by simp[hn])
  ·have hc:l.t[i].c=0:=hc
   exact Zz (by simp[hc])
  ·have hk:Ya l.t[i].c=false:=hk
   exact Zz (by simp[hk])
  have hn:Yu l.t[i].v=true:=hn
  have hk:Ya l.t[i].c=true:=hk
  have hc:l.t[i].c≠0:=hc
  rw[next (by omega),hn,hk,decide_eq_true hc]
  have ep:pvS l.t (i+1)=some l.t[i].v.s:=by simp[pvS,hlt]
  rw[ep]at h
  cases i with
  | zero=>exact Yc (by simp) h
  | succ i=>
   refine Z8 (by simp) ?_
   rw[FE (by omega)]
   refine⟨ZN (by omega) rfl,Yf (by omega) ?_⟩
   have e2:pvS l.t (i+1)=some l.t[i].v.s:=by simp[pvS,show i<l.t.length by omega]
   rw[e2]
   refine Y4 (fun hb=> ?_) fun hb=> ?_
   all_goals
    have hb':=(Yq l.t[i].v.s l.t[i+1].v.s).symm.trans hb
    simp only[hb',Bool.and_true,Bool.true_and,Bool.and_false,Bool.false_and]
   ·exact Zz rfl
   ·exact h
theorem Mg: ∀ a:Lin×Unit,Zx a.1=true->Zc WF 0 (Za XQ (Zv (Zj a.1))) XP [] (Z9 a0w (encL a)):=by
 rintro⟨l,⟨⟩⟩ hl
 simp only[Zx,Zy,Bool.and_eq_true,decide_eq_true_eq]at hl
 refine a8g l ?_
 show At WF 0 (Za XQ (Zv (Zj l))) XP 0 54 _ _
 have e:Zj l=(Dk (pvS l.t 0) (l.t.drop 0)&&(Ya l.k&&decide (l.t.length<=12))):=by rw[Ng,Bool.and_comm];rfl
 rw[e,List.length_map]
 exact PQ l hl.1 hl.2 l.t.length 0 (by omega)
theorem b0p: ∀ a:Int×Unit,true=true->Zc a7p 0 (Za NR (Zv (⟨a.1,[]⟩:Lin))) Lu [] (Z9 b6p (encL a)):=by
 rintro⟨n,⟨⟩⟩ -
 exact b8t n ⟨by simp,by simp⟩
theorem a6b: ∀ a:Cert×Int×Bool×Unit,true=true->Zc M3 0 (Za TE (Zv (Z4 a.1 a.2.1 a.2.2.1))) Sr [] (Z9 a9o (encL a)):=by
 rintro⟨⟨k,m,l,ks⟩,n,b,⟨⟩⟩ -
 have e:(encL ((Cert.mk k m l ks,n,b,()):Cert×Int×Bool×Unit):List PV)=[PV.agg [enc k,enc m,enc l.k,enc l.t,enc ks],enc n,enc b]:=by
  show [enc (Cert.mk k m l ks),enc n,enc b]=_
  rw[Zp]
 rw[e]
 refine b6d k m l ks n b ?_
 simp only[Z4,List.length_map]
 by_cases h1:(ks.length:Int)=n
 ·refine Yc (by simp[h1]) (QY (fun h2=> ?_) fun h2=> ?_)
  ·subst h2
   by_cases h3:l.t=[]
   ·refine Z8 (by simp[h3]) (Zz ?_)
    simp only[h1,h3,decide_true,Bool.true_and,List.isEmpty_nil,if_true]
    exact Bool.beq_eq_decide_eq _ _
   ·refine Yc (by simpa using h3) (Zz ?_)
    simp[h3]
  ·subst h2
   refine Zz ?_
   cases m <;> simp[h1];omega
 ·exact Z8 (by simpa using h1) (Zz (by simp[h1]))
end Go.Pl

namespace Go.Pl
open Go.RowKit
open Enc (enc dec is)
open EncL (encL decL isL)
structure LR where
 k:Int
 w:Nat
 ts:List Coef
def LR.view(r:LR):Lin:=⟨r.k,r.ts.take r.w⟩
def LR.av(r:LR)(l:Nat):AV:=.agg [.pv (.int .i64 r.k),.row l r.ts.length 0 r.w]
def LR.ob(r:LR):AObj:=.row false 61 2 (r.ts.map enc)
def QD:Nat->Nat->Nat->List Coef->List Coef×Nat
 | 0,_,j,ts=>(ts,j)
 | m+1,i,j,ts=>if (ts.getD i ⟨⟨[]⟩,0⟩).c=0 then QD m (i+1) j ts else QD m (i+1) (j+1) (ts.set j (ts.getD i ⟨⟨[]⟩,0⟩))
def Ap(k:Int)(o:List Coef):LR:=⟨k,(QD o.length 0 0 o).2,(QD o.length 0 0 o).1⟩
def KA(l:Lin)(s:Str)(c:Int):LR:=Ap l.k (XX s c false l.t)
def Cu(l x:Lin)(k:Int):LR:=x.t.foldl (fun o t=>KA o.view t.v (Ym (k*t.c))) ⟨Ym (l.k+Ym (k*x.k)),l.t.length,l.t⟩
theorem J9(o:List Coef): ∀ (m i j:Nat) (ts:List Coef),m+i=o.length->ts.length=o.length->j<=i->ts.take j=(o.take i).filter (fun t=>decide (t.c≠0))->ts.drop i=o.drop i->(QD m i j ts).1.take (QD m i j ts).2=o.filter fun t=>decide (t.c≠0)
 | 0,i,j,ts,hm,hts,hji,h1,h2=>by
  rw[QD]
  show ts.take j=_
  rw[h1,List.take_of_length_le (by omega)]
 | m+1,i,j,ts,hm,hts,hji,h1,h2=>by
  have hlt:i<o.length:=by omega
  have hi':i<ts.length:=by omega
  have hj':j<ts.length:=by omega
  have ei:ts[i]=o[i]:=by
   have:(ts.drop i)[0]? = (o.drop i)[0]? :=by rw[h2]
   simpa [hi',hlt]using this
  have htk:(o.take (i+1))=o.take i++[o[i]]:=by rw[List.take_add_one,List.getElem?_eq_getElem hlt];rfl
  have eg:ts.getD i ⟨⟨[]⟩,0⟩=ts[i]:=by simp[List.getD,hi']
  rw[QD,eg]
  split
  ·rename_i hz
   refine J9 o m (i+1) j ts (by omega) hts (by omega) ?_ ?_
   ·rw[h1,htk,List.filter_append]
    have:o[i].c=0:=by rw[<- ei];exact hz
    simp[this]
   ·have:=congrArg (List.drop 1) h2
    simpa [List.drop_drop,Nat.add_comm]using this
  ·rename_i hz
   refine J9 o m (i+1) (j+1) (ts.set j ts[i]) (by omega) (by simp[hts]) (by omega) ?_ ?_
   ·rw[htk,List.filter_append,<- h1]
    have:decide (o[i].c≠0)=true:=by rw[<- ei];exact decide_eq_true hz
    simp only[List.filter_cons,this,if_true,List.filter_nil]
    rw[List.take_add_one,List.getElem?_set_self hj',List.take_set_of_le (Nat.le_refl j),ei]
    rfl
   ·rw[List.drop_set_of_lt (by omega)]
    have:=congrArg (List.drop 1) h2
    simpa [List.drop_drop,Nat.add_comm]using this
theorem De(l:Lin)(s:Str)(c:Int):(KA l s c).view=Un l s c:=by
 show(⟨_,_⟩:Lin)=⟨_,_⟩
 congr 1
 exact J9 _ _ 0 0 _ (by omega) rfl (by omega) (by simp) rfl
theorem DL(k:Int): ∀ (x:List Coef) (r:LR),(x.foldl (fun o t=>KA o.view t.v (Ym (k*t.c))) r).view=x.foldl (fun o t=>Un o t.v (Ym (k*t.c))) r.view
 | [],r=>rfl
 | t::x,r=>by rw[List.foldl_cons,List.foldl_cons,DL k x,De]
theorem QL(l x:Lin)(k:Int):(Cu l x k).view=NG l x k:=by
 have:=DL k x.t ⟨Ym (l.k+Ym (k*x.k)),l.t.length,l.t⟩
 have e:LR.view ⟨Ym (l.k+Ym (k*x.k)),l.t.length,l.t⟩=⟨Ym (l.k+Ym (k*x.k)),l.t⟩:=by
  show(⟨_,l.t.take l.t.length⟩:Lin)=_
  rw[List.take_length]
 rw[e]at this
 exact this
def Kv:List AV->List AObj->Bool
 | [.pv l,.pv (.str s),.pv (.int .i64 c)],[]=>can Lin l&&decide ((dec l:Lin).t.length<=1000000)
 | _,_=>false
def CK(r:LR)(l:Nat)(os:List AObj):AV×List AObj×List AObj:=(r.av l,os,[r.ob])
def Kh:List AV->List AObj->AV×List AObj×List AObj
 | [.pv l,.pv (.str s),.pv (.int .i64 c)],_=>CK (KA (dec l) ⟨s⟩ c) 0 []
 | _,_=>UN
def Ky(s:Option LR)(q:Int×Fact):Option LR:=if q.1=0 then s else some (Cu ((s.map LR.view).getD ⟨0,[]⟩) q.2.l q.1)
def b9y(fs:List Fact)(ms:List Int):Option LR:=(ms.zip fs).foldl Ky none
def b9u:PV:=.agg [.int .i64 0,.sl 0 true []]
end Go.Pl

namespace Go.Pl
open Go.RowKit
open Enc (enc dec is)
open EncL (encL decL isL)
set_option maxRecDepth 100000
def ZE:IC:=(.seq (.reg [⟨(some 3),(.box 2 (.t 0)),0,none⟩,⟨(some 6),(.alloc (.agg [(.int .i64 0),(.sl 0 true [])])),1,none⟩] none) (.seq (.reg [⟨(some 13),(.faddr 0 (.t 3)),0,none⟩,⟨(some 14),(.load false [(.int .i64)] (.t 13)),0,none⟩,⟨(some 15),(.build [(.int .i64 0),(.sl 0 true [])] [(0,(1,(.t 14)))]),0,none⟩,⟨(some 7),(.alloc (.agg [(.int .i64 0),(.sl 0 true [])])),0,none⟩,⟨none,(.store 2 (.t 7) (.t 15)),1,none⟩] none) (.seq (.reg [⟨(some 8),(.mv (.c (.bool false))),0,none⟩] none) (.seq (.seq (.reg [⟨(some 9),(.mv (.c (.int .i64 0))),0,none⟩] none) (.block 0 (.loop [9,3,8,1,7,2,6] (.seq (.seq (.reg [⟨(some 16),(.mv (.t 9)),0,none⟩,⟨(some 17),(.faddr 1 (.t 3)),0,none⟩,⟨(some 18),(.load false [(.sl 2)] (.t 17)),0,none⟩,⟨(some 19),(.len 1 (.t 18)),0,none⟩,⟨(some 20),(.bin .num .lss (.t 16) (.t 19)),0,none⟩] none) (.cond (.t 20) .skip (.exit 0))) (.seq (.block 1 (.seq (.reg [⟨(some 23),(.faddr 1 (.t 3)),0,none⟩,⟨(some 24),(.load false [(.sl 2)] (.t 23)),0,none⟩,⟨(some 25),(.mv (.t 9)),0,none⟩,⟨(some 26),(.iaddr 2 (.t 24) (.t 25)),0,none⟩,⟨(some 27),(.load true [.str,(.int .i64)] (.t 26)),0,none⟩,⟨(some 10),(.alloc (.agg [(.str []),(.int .i64 0)])),0,none⟩,⟨none,(.store 2 (.t 10) (.t 27)),1,none⟩] none) (.seq (.seq (.reg [⟨(some 28),(.mv (.t 8)),0,none⟩,⟨(some 29),(.un .not (.t 28)),0,none⟩,⟨(some 30),(.mv (.t 29)),0,none⟩,⟨(some 31),(.faddr 0 (.t 10)),0,(some (30,true))⟩,⟨(some 32),(.load false [.str] (.t 31)),0,(some (30,true))⟩,⟨(some 33),(.mv (.t 1)),0,(some (30,true))⟩,⟨(some 34),(.bin .num .gtr (.t 32) (.t 33)),0,(some (30,true))⟩,⟨(some 35),(.pick (.t 30) (.t 34) (.c (.bool false))),0,none⟩] none) (.cond (.t 35) (.seq (.reg [⟨(some 36),(.faddr 1 (.t 7)),0,none⟩,⟨(some 37),(.load false [(.sl 2)] (.t 36)),0,none⟩,⟨(some 38),(.mv (.t 1)),0,none⟩,⟨(some 39),(.mv (.t 2)),0,none⟩,⟨(some 40),(.build [(.str []),(.int .i64 0)] [(0,(1,(.t 38))),(1,(1,(.t 39)))]),0,none⟩,⟨(some 41),(.bslice 61 2 1 (.agg [(.str []),(.int .i64 0)]) [(0,(.t 40))]),0,none⟩,⟨(some 42),(.append 61 2 24 (.t 37) (.t 41)),1,none⟩,⟨(some 43),(.faddr 1 (.t 7)),2,none⟩,⟨none,(.store 1 (.t 43) (.t 42)),2,none⟩] none) (.reg [⟨(some 8),(.mv (.c (.bool true))),0,none⟩] none)) .skip)) (.seq (.seq (.reg [⟨(some 44),(.faddr 0 (.t 10)),0,none⟩,⟨(some 45),(.load false [.str] (.t 44)),0,none⟩,⟨(some 46),(.mv (.t 1)),0,none⟩,⟨(some 47),(.bin .num .eql (.t 45) (.t 46)),0,none⟩] none) (.cond (.t 47) (.seq (.reg [⟨(some 48),(.faddr 1 (.t 10)),0,none⟩,⟨(some 49),(.load false [(.int .i64)] (.t 48)),0,none⟩,⟨(some 50),(.mv (.t 2)),0,none⟩,⟨(some 51),(.bin .num .add (.t 49) (.t 50)),0,none⟩,⟨(some 52),(.faddr 1 (.t 10)),0,none⟩,⟨none,(.store 1 (.t 52) (.t 51)),0,none⟩] none) (.reg [⟨(some 8),(.mv (.c (.bool true))),0,none⟩] none)) .skip)) (.reg [⟨(some 53),(.faddr 1 (.t 7)),0,none⟩,⟨(some 54),(.load false [(.sl 2)] (.t 53)),0,none⟩,⟨(some 55),(.load true [.str,(.int .i64)] (.t 10)),0,none⟩,⟨(some 56),(.bslice 61 2 1 (.agg [(.str []),(.int .i64 0)]) [(0,(.t 55))]),0,none⟩,⟨(some 57),(.append 61 2 24 (.t 54) (.t 56)),1,none⟩,⟨(some 58),(.faddr 1 (.t 7)),2,none⟩,⟨none,(.store 1 (.t 58) (.t 57)),2,none⟩] none))))) (.reg [⟨(some 21),(.mv (.t 9)),0,none⟩,⟨(some 22),(.bin .num .add (.t 21) (.c (.int .i64 1))),0,none⟩,⟨(some 9),(.mv (.t 22)),0,none⟩] none)))))) (.seq (.seq (.reg [⟨(some 59),(.mv (.t 8)),0,none⟩,⟨(some 60),(.un .not (.t 59)),0,none⟩] none) (.cond (.t 60) (.reg [⟨(some 61),(.faddr 1 (.t 7)),0,none⟩,⟨(some 62),(.load false [(.sl 2)] (.t 61)),0,none⟩,⟨(some 63),(.mv (.t 1)),0,none⟩,⟨(some 64),(.mv (.t 2)),0,none⟩,⟨(some 65),(.build [(.str []),(.int .i64 0)] [(0,(1,(.t 63))),(1,(1,(.t 64)))]),0,none⟩,⟨(some 66),(.bslice 61 2 1 (.agg [(.str []),(.int .i64 0)]) [(0,(.t 65))]),0,none⟩,⟨(some 67),(.append 61 2 24 (.t 62) (.t 66)),1,none⟩,⟨(some 68),(.faddr 1 (.t 7)),2,none⟩,⟨none,(.store 1 (.t 68) (.t 67)),2,none⟩] none) .skip)) (.seq (.reg [⟨(some 11),(.mv (.c (.int .i64 0))),0,none⟩] none) (.seq (.seq (.reg [⟨(some 12),(.mv (.c (.int .i64 0))),0,none⟩] none) (.block 2 (.loop [12,7,11,6] (.seq (.seq (.reg [⟨(some 69),(.mv (.t 12)),0,none⟩,⟨(some 70),(.faddr 1 (.t 7)),0,none⟩,⟨(some 71),(.load false [(.sl 2)] (.t 70)),0,none⟩,⟨(some 72),(.len 1 (.t 71)),0,none⟩,⟨(some 73),(.bin .num .lss (.t 69) (.t 72)),0,none⟩] none) (.cond (.t 73) .skip (.exit 2))) (.seq (.block 3 (.seq (.reg [⟨(some 76),(.faddr 1 (.t 7)),0,none⟩,⟨(some 77),(.load false [(.sl 2)] (.t 76)),0,none⟩,⟨(some 78),(.mv (.t 12)),0,none⟩,⟨(some 79),(.iaddr 2 (.t 77) (.t 78)),0,none⟩,⟨(some 80),(.faddr 1 (.t 79)),0,none⟩,⟨(some 81),(.load false [(.int .i64)] (.t 80)),0,none⟩,⟨(some 82),(.bin .num .neq (.t 81) (.c (.int .i64 0))),0,none⟩] none) (.cond (.t 82) (.seq (.reg [⟨(some 83),(.faddr 1 (.t 7)),0,none⟩,⟨(some 84),(.load false [(.sl 2)] (.t 83)),0,none⟩,⟨(some 85),(.mv (.t 11)),0,none⟩,⟨(some 86),(.faddr 1 (.t 7)),0,none⟩,⟨(some 87),(.load false [(.sl 2)] (.t 86)),0,none⟩,⟨(some 88),(.mv (.t 12)),0,none⟩,⟨(some 89),(.iaddr 2 (.t 87) (.t 88)),0,none⟩,⟨(some 90),(.load true [.str,(.int .i64)] (.t 89)),0,none⟩,⟨(some 91),(.iaddr 2 (.t 84) (.t 85)),0,none⟩,⟨none,(.store 2 (.t 91) (.t 90)),0,none⟩] (some [[],[0],[],[],[3],[],[4,5,3],[6,4,5,3],[1,2,0,3,4,5,6,7],[8,7,0,1,2,3,4,5,6]])) (.reg [⟨(some 92),(.mv (.t 11)),0,none⟩,⟨(some 93),(.bin .num .add (.t 92) (.c (.int .i64 1))),0,none⟩,⟨(some 11),(.mv (.t 93)),0,none⟩] none)) .skip))) (.reg [⟨(some 74),(.mv (.t 12)),0,none⟩,⟨(some 75),(.bin .num .add (.t 74) (.c (.int .i64 1))),0,none⟩,⟨(some 12),(.mv (.t 75)),0,none⟩] none)))))) (.seq (.reg [⟨(some 94),(.faddr 1 (.t 7)),0,none⟩,⟨(some 95),(.load false [(.sl 2)] (.t 94)),0,none⟩,⟨(some 96),(.mv (.t 11)),0,none⟩,⟨(some 97),(.slc 2 (.t 95) none (some (.t 96)) none),0,none⟩,⟨(some 98),(.faddr 1 (.t 7)),0,none⟩,⟨none,(.store 1 (.t 98) (.t 97)),0,none⟩] none) (.seq (.reg [⟨(some 99),(.load true [(.int .i64),(.sl 2)] (.t 7)),0,none⟩,⟨none,(.store 2 (.t 6) (.t 99)),0,none⟩] none) .ret)))))))))
def ZC:List IRes:=[(.cell true 2 6)]
abbrev Rq:Nat:=100
def ZK:ZH:=XI []
theorem a9v{G:AV×List AObj×List AObj->Prop}(l:Lin)(s:List UInt8)(c:Int)(h:At ZK 0 (Zr 0 ZC G) ZE 0 100 [(1,(.pv (.str s))),(2,(.pv (.int .i64 c))),(3,(.ptr 0 0)),(6,(.ptr 1 0)),(7,(.ptr 2 0)),(8,(.pv (.bool false))),(9,(.pv (.int .i64 0)))] [(.obj (.box [(.pv (.int .i64 l.k)),(.pv (.sl 2 false (List.map enc l.t)))])),(.obj (.box [(.pv (.int .i64 0)),(.pv (.sl 0 true []))])),(.obj (.box [(.pv (.int .i64 l.k)),(.pv (.sl 0 true []))]))]):Zc ZK 0 (Zr 0 ZC G) ZE [] (Uh 100 [.pv (enc l),.pv (.str s),.pv (enc c)] []):=Zc.to (.nil) h (by kernel_rfl)
theorem a0n{G:AV×List AObj×List AObj->Prop}(l:Lin)(s:List UInt8)(c:Int)(p:Bool)(i:Int)(h:if (decide (i<(↑(List.length (List.map enc l.t)):Int)))=true then(decide (0<=i)&&decide (Int.toNat i<List.length (List.map enc l.t))&&Enc.sz Coef==2)=true∧(∃ y0:Coef,AV.pv (PV.rptr (PV.cells (List.getD (List.map enc l.t) (Int.toNat i) default)))=AV.pv (PV.rptr (PV.cells ((enc) y0)))∧(if (!p)=true then if (!(Op.bytesLess (PV.asStr (List.getD (PV.cells (enc y0)) 0 default)) s||PV.asStr (List.getD (PV.cells (enc y0)) 0 default)==s))=true then if (PV.asStr (List.getD (PV.cells (enc y0)) 0 default)==s)=true then At ZK 0 (Zr 0 ZC G) ZE 0 100 [(1,(.pv (.str s))),(2,(.pv (.int .i64 c))),(3,(.ptr 0 0)),(6,(.ptr 1 0)),(7,(.ptr 2 0)),(8,(.pv (.bool true))),(9,(.pv (.int .i64 (IntKind.wrap IntKind.i64 (i+1)))))] [(.obj (.box [(.pv (.int .i64 l.k)),(.pv (.sl 2 false (List.map enc l.t)))])),(.obj (.box [(.pv (.int .i64 0)),(.pv (.sl 0 true []))])),(.obj (.box [(.pv (.int .i64 l.k)),(.row 3 2 0 2)])),(.obj (.row false 61 2 [(.agg [(.str s),(.int .i64 c)]),(.agg [(.str (PV.asStr (List.getD (PV.cells (enc y0)) 0 default))),(.int .i64 (IntKind.wrap IntKind.i64 (PV.asInt (List.getD (PV.cells (enc y0)) (0+1) default)+c)))])]))]else(At ZK 0 (Zr 0 ZC G) ZE 0 100 [(1,(.pv (.str s))),(2,(.pv (.int .i64 c))),(3,(.ptr 0 0)),(6,(.ptr 1 0)),(7,(.ptr 2 0)),(8,(.pv (.bool true))),(9,(.pv (.int .i64 (IntKind.wrap IntKind.i64 (i+1)))))] [(.obj (.box [(.pv (.int .i64 l.k)),(.pv (.sl 2 false (List.map enc l.t)))])),(.obj (.box [(.pv (.int .i64 0)),(.pv (.sl 0 true []))])),(.obj (.box [(.pv (.int .i64 l.k)),(.row 3 2 0 2)])),(.obj (.row false 61 2 [(.agg [(.str s),(.int .i64 c)]),(.agg [(.str (PV.asStr (List.getD (PV.cells (enc y0)) 0 default))),(.int .i64 (PV.asInt (List.getD (PV.cells (enc y0)) (0+1) default)))])]))])else(if (PV.asStr (List.getD (PV.cells (enc y0)) 0 default)==s)=true then At ZK 0 (Zr 0 ZC G) ZE 0 100 [(1,(.pv (.str s))),(2,(.pv (.int .i64 c))),(3,(.ptr 0 0)),(6,(.ptr 1 0)),(7,(.ptr 2 0)),(8,(.pv (.bool true))),(9,(.pv (.int .i64 (IntKind.wrap IntKind.i64 (i+1)))))] [(.obj (.box [(.pv (.int .i64 l.k)),(.pv (.sl 2 false (List.map enc l.t)))])),(.obj (.box [(.pv (.int .i64 0)),(.pv (.sl 0 true []))])),(.obj (.box [(.pv (.int .i64 l.k)),(.row 3 1 0 1)])),(.obj (.row false 61 2 [(.agg [(.str (PV.asStr (List.getD (PV.cells (enc y0)) 0 default))),(.int .i64 (IntKind.wrap IntKind.i64 (PV.asInt (List.getD (PV.cells (enc y0)) (0+1) default)+c)))])]))]else(At ZK 0 (Zr 0 ZC G) ZE 0 100 [(1,(.pv (.str s))),(2,(.pv (.int .i64 c))),(3,(.ptr 0 0)),(6,(.ptr 1 0)),(7,(.ptr 2 0)),(8,(.pv (.bool p))),(9,(.pv (.int .i64 (IntKind.wrap IntKind.i64 (i+1)))))] [(.obj (.box [(.pv (.int .i64 l.k)),(.pv (.sl 2 false (List.map enc l.t)))])),(.obj (.box [(.pv (.int .i64 0)),(.pv (.sl 0 true []))])),(.obj (.box [(.pv (.int .i64 l.k)),(.row 3 1 0 1)])),(.obj (.row false 61 2 [(.agg [(.str (PV.asStr (List.getD (PV.cells (enc y0)) 0 default))),(.int .i64 (PV.asInt (List.getD (PV.cells (enc y0)) (0+1) default)))])]))]))else(if (PV.asStr (List.getD (PV.cells (enc y0)) 0 default)==s)=true then At ZK 0 (Zr 0 ZC G) ZE 0 100 [(1,(.pv (.str s))),(2,(.pv (.int .i64 c))),(3,(.ptr 0 0)),(6,(.ptr 1 0)),(7,(.ptr 2 0)),(8,(.pv (.bool true))),(9,(.pv (.int .i64 (IntKind.wrap IntKind.i64 (i+1)))))] [(.obj (.box [(.pv (.int .i64 l.k)),(.pv (.sl 2 false (List.map enc l.t)))])),(.obj (.box [(.pv (.int .i64 0)),(.pv (.sl 0 true []))])),(.obj (.box [(.pv (.int .i64 l.k)),(.row 3 1 0 1)])),(.obj (.row false 61 2 [(.agg [(.str (PV.asStr (List.getD (PV.cells (enc y0)) 0 default))),(.int .i64 (IntKind.wrap IntKind.i64 (PV.asInt (List.getD (PV.cells (enc y0)) (0+1) default)+c)))])]))]else(At ZK 0 (Zr 0 ZC G) ZE 0 100 [(1,(.pv (.str s))),(2,(.pv (.int .i64 c))),(3,(.ptr 0 0)),(6,(.ptr 1 0)),(7,(.ptr 2 0)),(8,(.pv (.bool p))),(9,(.pv (.int .i64 (IntKind.wrap IntKind.i64 (i+1)))))] [(.obj (.box [(.pv (.int .i64 l.k)),(.pv (.sl 2 false (List.map enc l.t)))])),(.obj (.box [(.pv (.int .i64 0)),(.pv (.sl 0 true []))])),(.obj (.box [(.pv (.int .i64 l.k)),(.row 3 1 0 1)])),(.obj (.row false 61 2 [(.agg [(.str (PV.asStr (List.getD (PV.cells (enc y0)) 0 default))),(.int .i64 (PV.asInt (List.getD (PV.cells (enc y0)) (0+1) default)))])]))]))))else(if (!p)=true then At ZK 0 (Zr 0 ZC G) ZE 1 100 [(6,(.ptr 0 0)),(7,(.ptr 1 0)),(11,(.pv (.int .i64 0))),(12,(.pv (.int .i64 0)))] [(.obj (.box [(.pv (.int .i64 0)),(.pv (.sl 0 true []))])),(.obj (.box [(.pv (.int .i64 l.k)),(.row 2 1 0 1)])),(.obj (.row false 61 2 [(.agg [(.str s),(.int .i64 c)])]))]else(At ZK 0 (Zr 0 ZC G) ZE 1 100 [(6,(.ptr 0 0)),(7,(.ptr 1 0)),(11,(.pv (.int .i64 0))),(12,(.pv (.int .i64 0)))] [(.obj (.box [(.pv (.int .i64 0)),(.pv (.sl 0 true []))])),(.obj (.box [(.pv (.int .i64 l.k)),(.pv (.sl 0 true []))]))]))):At ZK 0 (Zr 0 ZC G) ZE 0 100 [(1,.pv (.str s)),(2,.pv (.int .i64 c)),(3,.ptr 0 0),(6,.ptr 1 0),(7,.ptr 2 0),(8,.pv (.bool p)),(9,.pv (.int .i64 i))] [.obj (.box [.pv (.int .i64 l.k),.pv (enc l.t)]),.obj (.box [.pv (.int .i64 0),.pv (.sl 0 true [])]),.obj (.box [.pv (.int .i64 l.k),.pv (.sl 0 true [])])]:=At.to (.lit (.ask (.req (.abs (Coef) (fun YY=>AV.pv (PV.rptr (PV.cells ((enc) YY)))) (.lit (.ask (.lit (.lit (.lit (.lit (.lit (.ask (.lit (.lit (.lit (.lit (.lit (.lit (.ask (.lit (.lit (.lit (.lit (.lit (.nil)))))) (.lit (.lit (.lit (.lit (.nil)))))))))))) (.lit (.ask (.lit (.lit (.lit (.lit (.lit (.lit (.lit (.nil)))))))) (.lit (.lit (.lit (.lit (.lit (.lit (.nil))))))))))))))) (.lit (.lit (.lit (.lit (.lit (.lit (.ask (.lit (.lit (.lit (.lit (.lit (.lit (.lit (.nil)))))))) (.lit (.lit (.lit (.lit (.lit (.lit (.nil)))))))))))))))))) (.ask (.lit (.lit (.lit (.lit (.lit (.nil)))))) (.nil)))) h (by kernel_rfl)
theorem Ar{G:AV×List AObj×List AObj->Prop}(l:Lin)(s:List UInt8)(c:Int)(j i:Int)(q:Nat)(ts:List Coef)(h:if (decide (i<(↑(q - 0):Int)))=true then(decide (0<=i)&&decide (0+Int.toNat i<q)&&List.length (List.map enc ts)==q)=true∧((List.length (List.map enc ts)==q&&decide (0+Int.toNat i<List.length (List.map enc ts)))=true∧((decide (0+1+List.length [Sh.int .i64]<=List.length (PV.cells (List.getD (List.map enc ts) (0+Int.toNat i) default)))&&Yk (PV.cells (List.getD (List.map enc ts) (0+Int.toNat i) default)) (0+1) [Sh.int .i64])=true∧(if (PV.asInt (List.getD (PV.cells (List.getD (List.map enc ts) (0+Int.toNat i) default)) (0+1) default) != 0)=true then(decide (0<=i)&&decide (0+Int.toNat i<q)&&List.length (List.map enc ts)==q)=true∧((List.length (List.map enc ts)==q&&decide (0+Int.toNat i<List.length (List.map enc ts)))=true∧((decide (0+List.length [Sh.str,Sh.int .i64]<=List.length (PV.cells (List.getD (List.map enc ts) (0+Int.toNat i) default)))&&Yk (PV.cells (List.getD (List.map enc ts) (0+Int.toNat i) default)) 0 [Sh.str,Sh.int .i64])=true∧((decide (0<=j)&&decide (0+Int.toNat j<q)&&List.length (List.map enc ts)==q)=true∧((List.length (List.map enc ts)==q&&decide (0+Int.toNat j<List.length (List.map enc ts))&&List.length (PV.cells (PV.agg (Jw (PV.cells (List.getD (List.map enc ts) (0+Int.toNat i) default)) 0 [Sh.str,Sh.int .i64])))==2&&decide (0+2<=List.length (PV.cells (List.getD (List.map enc ts) (0+Int.toNat j) default)))&&PV.cellsOk (PV.agg (Jw (PV.cells (List.getD (List.map enc ts) (0+Int.toNat i) default)) 0 [Sh.str,Sh.int .i64])))=true∧(At ZK 0 (Zr 0 ZC G) ZE 1 100 [(6,(.ptr 0 0)),(7,(.ptr 1 0)),(11,(.pv (.int .i64 (IntKind.wrap IntKind.i64 (j+1))))),(12,(.pv (.int .i64 (IntKind.wrap IntKind.i64 (i+1)))))] [(.obj (.box [(.pv (.int .i64 0)),(.pv (.sl 0 true []))])),(.obj (.box [(.pv (.int .i64 l.k)),(.row 2 q 0 q)])),(.obj (.row false 61 2 (List.set (List.map enc ts) (0+Int.toNat j) (PV.withCells (List.getD (List.map enc ts) (0+Int.toNat j) default) (splice (PV.cells (List.getD (List.map enc ts) (0+Int.toNat j) default)) 0 (PV.cells (PV.agg (Jw (PV.cells (List.getD (List.map enc ts) (0+Int.toNat i) default)) 0 [Sh.str,Sh.int .i64]))))))))])))))else(At ZK 0 (Zr 0 ZC G) ZE 1 100 [(6,(.ptr 0 0)),(7,(.ptr 1 0)),(11,(.pv (.int .i64 j))),(12,(.pv (.int .i64 (IntKind.wrap IntKind.i64 (i+1)))))] [(.obj (.box [(.pv (.int .i64 0)),(.pv (.sl 0 true []))])),(.obj (.box [(.pv (.int .i64 l.k)),(.row 2 q 0 q)])),(.obj (.row false 61 2 (List.map enc ts)))]))))else((true&&decide (0<=j)&&decide (0<=Int.toNat j)&&decide (0+Int.toNat j<=q)&&List.length (List.map enc ts)==q)=true∧(G (((.agg [(.pv (.int .i64 l.k)),(.row 0 q 0 (0+Int.toNat j))]),([],[(.row false 61 2 (List.map enc ts))])))))):At ZK 0 (Zr 0 ZC G) ZE 1 100 [(6,.ptr 0 0),(7,.ptr 1 0),(11,.pv (.int .i64 j)),(12,.pv (.int .i64 i))] [.obj (.box [.pv (.int .i64 0),.pv (.sl 0 true [])]),.obj (.box [.pv (.int .i64 l.k),.row 2 q 0 q]),.obj (.row false 61 2 (ts.map enc))]:=At.to (.lit (.ask (.req (.keep (.req (.req (.lit (.ask (.req (.keep (.req (.req (.req (.keep (.req (.lit (.lit (.nil)))))))))) (.lit (.nil)))))))) (.req (.nil)))) h (by kernel_rfl)
theorem AR{G:AV×List AObj×List AObj->Prop}(l:Lin)(s:List UInt8)(c:Int)(p:Bool)(i:Int)(q:Nat)(ts:List Coef)(h:if (decide (i<(↑(List.length (List.map enc l.t)):Int)))=true then(decide (0<=i)&&decide (Int.toNat i<List.length (List.map enc l.t))&&Enc.sz Coef==2)=true∧(∃ y0:Coef,AV.pv (PV.rptr (PV.cells (List.getD (List.map enc l.t) (Int.toNat i) default)))=AV.pv (PV.rptr (PV.cells ((enc) y0)))∧(if (!p)=true then if (!(Op.bytesLess (PV.asStr (List.getD (PV.cells (enc y0)) 0 default)) s||PV.asStr (List.getD (PV.cells (enc y0)) 0 default)==s))=true then(List.length (List.map enc ts)==q&&q==q&&decide ((q+List.length (List.drop 0 (List.take 1 [PV.agg [PV.str s,PV.int .i64 c]])))*24<=1099511627776)&&decide (q+List.length (List.drop 0 (List.take 1 [PV.agg [PV.str s,PV.int .i64 c]]))<=1099511627776))=true∧(if (PV.asStr (List.getD (PV.cells (enc y0)) 0 default)==s)=true then(List.length (List.map enc ts++List.drop 0 (List.take 1 [PV.agg [PV.str s,PV.int .i64 c]]))==q+List.length (List.drop 0 (List.take 1 [PV.agg [PV.str s,PV.int .i64 c]]))&&q+List.length (List.drop 0 (List.take 1 [PV.agg [PV.str s,PV.int .i64 c]]))==q+List.length (List.drop 0 (List.take 1 [PV.agg [PV.str s,PV.int .i64 c]]))&&decide ((q+List.length (List.drop 0 (List.take 1 [PV.agg [PV.str s,PV.int .i64 c]]))+List.length (List.drop 0 (List.take 1 [PV.agg [Sh.co Sh.str (List.getD (PV.cells (enc y0)) 0 default),PV.int .i64 (IntKind.wrap IntKind.i64 (PV.asInt (List.getD (PV.cells (enc y0)) (0+1) default)+c))]])))*24<=1099511627776)&&decide (q+List.length (List.drop 0 (List.take 1 [PV.agg [PV.str s,PV.int .i64 c]]))+List.length (List.drop 0 (List.take 1 [PV.agg [Sh.co Sh.str (List.getD (PV.cells (enc y0)) 0 default),PV.int .i64 (IntKind.wrap IntKind.i64 (PV.asInt (List.getD (PV.cells (enc y0)) (0+1) default)+c))]]))<=1099511627776))=true∧(At ZK 0 (Zr 0 ZC G) ZE 0 100 [(1,(.pv (.str s))),(2,(.pv (.int .i64 c))),(3,(.ptr 0 0)),(6,(.ptr 1 0)),(7,(.ptr 2 0)),(8,(.pv (.bool true))),(9,(.pv (.int .i64 (IntKind.wrap IntKind.i64 (i+1)))))] [(.obj (.box [(.pv (.int .i64 l.k)),(.pv (.sl 2 false (List.map enc l.t)))])),(.obj (.box [(.pv (.int .i64 0)),(.pv (.sl 0 true []))])),(.obj (.box [(.pv (.int .i64 l.k)),(.row 3 (q+List.length (List.drop 0 (List.take 1 [PV.agg [PV.str s,PV.int .i64 c]]))+List.length (List.drop 0 (List.take 1 [PV.agg [Sh.co Sh.str (List.getD (PV.cells (enc y0)) 0 default),PV.int .i64 (IntKind.wrap IntKind.i64 (PV.asInt (List.getD (PV.cells (enc y0)) (0+1) default)+c))]]))) 0 (q+List.length (List.drop 0 (List.take 1 [PV.agg [PV.str s,PV.int .i64 c]]))+List.length (List.drop 0 (List.take 1 [PV.agg [Sh.co Sh.str (List.getD (PV.cells (enc y0)) 0 default),PV.int .i64 (IntKind.wrap IntKind.i64 (PV.asInt (List.getD (PV.cells (enc y0)) (0+1) default)+c))]]))))])),(.obj (.row false 61 2 (List.map enc ts++List.drop 0 (List.take 1 [PV.agg [PV.str s,PV.int .i64 c]])++List.drop 0 (List.take 1 [PV.agg [Sh.co Sh.str (List.getD (PV.cells (enc y0)) 0 default),PV.int .i64 (IntKind.wrap IntKind.i64 (PV.asInt (List.getD (PV.cells (enc y0)) (0+1) default)+c))]]))))])else((List.length (List.map enc ts++List.drop 0 (List.take 1 [PV.agg [PV.str s,PV.int .i64 c]]))==q+List.length (List.drop 0 (List.take 1 [PV.agg [PV.str s,PV.int .i64 c]]))&&q+List.length (List.drop 0 (List.take 1 [PV.agg [PV.str s,PV.int .i64 c]]))==q+List.length (List.drop 0 (List.take 1 [PV.agg [PV.str s,PV.int .i64 c]]))&&decide ((q+List.length (List.drop 0 (List.take 1 [PV.agg [PV.str s,PV.int .i64 c]]))+List.length (List.drop 0 (List.take 1 [PV.agg [Sh.co Sh.str (List.getD (PV.cells (enc y0)) 0 default),Sh.co (Sh.int .i64) (List.getD (PV.cells (enc y0)) (0+1) default)]])))*24<=1099511627776)&&decide (q+List.length (List.drop 0 (List.take 1 [PV.agg [PV.str s,PV.int .i64 c]]))+List.length (List.drop 0 (List.take 1 [PV.agg [Sh.co Sh.str (List.getD (PV.cells (enc y0)) 0 default),Sh.co (Sh.int .i64) (List.getD (PV.cells (enc y0)) (0+1) default)]]))<=1099511627776))=true∧(At ZK 0 (Zr 0 ZC G) ZE 0 100 [(1,(.pv (.str s))),(2,(.pv (.int .i64 c))),(3,(.ptr 0 0)),(6,(.ptr 1 0)),(7,(.ptr 2 0)),(8,(.pv (.bool true))),(9,(.pv (.int .i64 (IntKind.wrap IntKind.i64 (i+1)))))] [(.obj (.box [(.pv (.int .i64 l.k)),(.pv (.sl 2 false (List.map enc l.t)))])),(.obj (.box [(.pv (.int .i64 0)),(.pv (.sl 0 true []))])),(.obj (.box [(.pv (.int .i64 l.k)),(.row 3 (q+List.length (List.drop 0 (List.take 1 [PV.agg [PV.str s,PV.int .i64 c]]))+List.length (List.drop 0 (List.take 1 [PV.agg [Sh.co Sh.str (List.getD (PV.cells (enc y0)) 0 default),Sh.co (Sh.int .i64) (List.getD (PV.cells (enc y0)) (0+1) default)]]))) 0 (q+List.length (List.drop 0 (List.take 1 [PV.agg [PV.str s,PV.int .i64 c]]))+List.length (List.drop 0 (List.take 1 [PV.agg [Sh.co Sh.str (List.getD (PV.cells (enc y0)) 0 default),Sh.co (Sh.int .i64) (List.getD (PV.cells (enc y0)) (0+1) default)]]))))])),(.obj (.row false 61 2 (List.map enc ts++List.drop 0 (List.take 1 [PV.agg [PV.str s,PV.int .i64 c]])++List.drop 0 (List.take 1 [PV.agg [Sh.co Sh.str (List.getD (PV.cells (enc y0)) 0 default),Sh.co (Sh.int .i64) (List.getD (PV.cells (enc y0)) (0+1) default)]]))))])))else(if (PV.asStr (List.getD (PV.cells (enc y0)) 0 default)==s)=true then(List.length (List.map enc ts)==q&&q==q&&decide ((q+List.length (List.drop 0 (List.take 1 [PV.agg [Sh.co Sh.str (List.getD (PV.cells (enc y0)) 0 default),PV.int .i64 (IntKind.wrap IntKind.i64 (PV.asInt (List.getD (PV.cells (enc y0)) (0+1) default)+c))]])))*24<=1099511627776)&&decide (q+List.length (List.drop 0 (List.take 1 [PV.agg [Sh.co Sh.str (List.getD (PV.cells (enc y0)) 0 default),PV.int .i64 (IntKind.wrap IntKind.i64 (PV.asInt (List.getD (PV.cells (enc y0)) (0+1) default)+c))]]))<=1099511627776))=true∧(At ZK 0 (Zr 0 ZC G) ZE 0 100 [(1,(.pv (.str s))),(2,(.pv (.int .i64 c))),(3,(.ptr 0 0)),(6,(.ptr 1 0)),(7,(.ptr 2 0)),(8,(.pv (.bool true))),(9,(.pv (.int .i64 (IntKind.wrap IntKind.i64 (i+1)))))] [(.obj (.box [(.pv (.int .i64 l.k)),(.pv (.sl 2 false (List.map enc l.t)))])),(.obj (.box [(.pv (.int .i64 0)),(.pv (.sl 0 true []))])),(.obj (.box [(.pv (.int .i64 l.k)),(.row 3 (q+List.length (List.drop 0 (List.take 1 [PV.agg [Sh.co Sh.str (List.getD (PV.cells (enc y0)) 0 default),PV.int .i64 (IntKind.wrap IntKind.i64 (PV.asInt (List.getD (PV.cells (enc y0)) (0+1) default)+c))]]))) 0 (q+List.length (List.drop 0 (List.take 1 [PV.agg [Sh.co Sh.str (List.getD (PV.cells (enc y0)) 0 default),PV.int .i64 (IntKind.wrap IntKind.i64 (PV.asInt (List.getD (PV.cells (enc y0)) (0+1) default)+c))]]))))])),(.obj (.row false 61 2 (List.map enc ts++List.drop 0 (List.take 1 [PV.agg [Sh.co Sh.str (List.getD (PV.cells (enc y0)) 0 default),PV.int .i64 (IntKind.wrap IntKind.i64 (PV.asInt (List.getD (PV.cells (enc y0)) (0+1) default)+c))]]))))])else((List.length (List.map enc ts)==q&&q==q&&decide ((q+List.length (List.drop 0 (List.take 1 [PV.agg [Sh.co Sh.str (List.getD (PV.cells (enc y0)) 0 default),Sh.co (Sh.int .i64) (List.getD (PV.cells (enc y0)) (0+1) default)]])))*24<=1099511627776)&&decide (q+List.length (List.drop 0 (List.take 1 [PV.agg [Sh.co Sh.str (List.getD (PV.cells (enc y0)) 0 default),Sh.co (Sh.int .i64) (List.getD (PV.cells (enc y0)) (0+1) default)]]))<=1099511627776))=true∧(At ZK 0 (Zr 0 ZC G) ZE 0 100 [(1,(.pv (.str s))),(2,(.pv (.int .i64 c))),(3,(.ptr 0 0)),(6,(.ptr 1 0)),(7,(.ptr 2 0)),(8,(.pv (.bool p))),(9,(.pv (.int .i64 (IntKind.wrap IntKind.i64 (i+1)))))] [(.obj (.box [(.pv (.int .i64 l.k)),(.pv (.sl 2 false (List.map enc l.t)))])),(.obj (.box [(.pv (.int .i64 0)),(.pv (.sl 0 true []))])),(.obj (.box [(.pv (.int .i64 l.k)),(.row 3 (q+List.length (List.drop 0 (List.take 1 [PV.agg [Sh.co Sh.str (List.getD (PV.cells (enc y0)) 0 default),Sh.co (Sh.int .i64) (List.getD (PV.cells (enc y0)) (0+1) default)]]))) 0 (q+List.length (List.drop 0 (List.take 1 [PV.agg [Sh.co Sh.str (List.getD (PV.cells (enc y0)) 0 default),Sh.co (Sh.int .i64) (List.getD (PV.cells (enc y0)) (0+1) default)]]))))])),(.obj (.row false 61 2 (List.map enc ts++List.drop 0 (List.take 1 [PV.agg [Sh.co Sh.str (List.getD (PV.cells (enc y0)) 0 default),Sh.co (Sh.int .i64) (List.getD (PV.cells (enc y0)) (0+1) default)]]))))])))else(if (PV.asStr (List.getD (PV.cells (enc y0)) 0 default)==s)=true then(List.length (List.map enc ts)==q&&q==q&&decide ((q+List.length (List.drop 0 (List.take 1 [PV.agg [Sh.co Sh.str (List.getD (PV.cells (enc y0)) 0 default),PV.int .i64 (IntKind.wrap IntKind.i64 (PV.asInt (List.getD (PV.cells (enc y0)) (0+1) default)+c))]])))*24<=1099511627776)&&decide (q+List.length (List.drop 0 (List.take 1 [PV.agg [Sh.co Sh.str (List.getD (PV.cells (enc y0)) 0 default),PV.int .i64 (IntKind.wrap IntKind.i64 (PV.asInt (List.getD (PV.cells (enc y0)) (0+1) default)+c))]]))<=1099511627776))=true∧(At ZK 0 (Zr 0 ZC G) ZE 0 100 [(1,(.pv (.str s))),(2,(.pv (.int .i64 c))),(3,(.ptr 0 0)),(6,(.ptr 1 0)),(7,(.ptr 2 0)),(8,(.pv (.bool true))),(9,(.pv (.int .i64 (IntKind.wrap IntKind.i64 (i+1)))))] [(.obj (.box [(.pv (.int .i64 l.k)),(.pv (.sl 2 false (List.map enc l.t)))])),(.obj (.box [(.pv (.int .i64 0)),(.pv (.sl 0 true []))])),(.obj (.box [(.pv (.int .i64 l.k)),(.row 3 (q+List.length (List.drop 0 (List.take 1 [PV.agg [Sh.co Sh.str (List.getD (PV.cells (enc y0)) 0 default),PV.int .i64 (IntKind.wrap IntKind.i64 (PV.asInt (List.getD (PV.cells (enc y0)) (0+1) default)+c))]]))) 0 (q+List.length (List.drop 0 (List.take 1 [PV.agg [Sh.co Sh.str (List.getD (PV.cells (enc y0)) 0 default),PV.int .i64 (IntKind.wrap IntKind.i64 (PV.asInt (List.getD (PV.cells (enc y0)) (0+1) default)+c))]]))))])),(.obj (.row false 61 2 (List.map enc ts++List.drop 0 (List.take 1 [PV.agg [Sh.co Sh.str (List.getD (PV.cells (enc y0)) 0 default),PV.int .i64 (IntKind.wrap IntKind.i64 (PV.asInt (List.getD (PV.cells (enc y0)) (0+1) default)+c))]]))))])else((List.length (List.map enc ts)==q&&q==q&&decide ((q+List.length (List.drop 0 (List.take 1 [PV.agg [Sh.co Sh.str (List.getD (PV.cells (enc y0)) 0 default),Sh.co (Sh.int .i64) (List.getD (PV.cells (enc y0)) (0+1) default)]])))*24<=1099511627776)&&decide (q+List.length (List.drop 0 (List.take 1 [PV.agg [Sh.co Sh.str (List.getD (PV.cells (enc y0)) 0 default),Sh.co (Sh.int .i64) (List.getD (PV.cells (enc y0)) (0+1) default)]]))<=1099511627776))=true∧(At ZK 0 (Zr 0 ZC G) ZE 0 100 [(1,(.pv (.str s))),(2,(.pv (.int .i64 c))),(3,(.ptr 0 0)),(6,(.ptr 1 0)),(7,(.ptr 2 0)),(8,(.pv (.bool p))),(9,(.pv (.int .i64 (IntKind.wrap IntKind.i64 (i+1)))))] [(.obj (.box [(.pv (.int .i64 l.k)),(.pv (.sl 2 false (List.map enc l.t)))])),(.obj (.box [(.pv (.int .i64 0)),(.pv (.sl 0 true []))])),(.obj (.box [(.pv (.int .i64 l.k)),(.row 3 (q+List.length (List.drop 0 (List.take 1 [PV.agg [Sh.co Sh.str (List.getD (PV.cells (enc y0)) 0 default),Sh.co (Sh.int .i64) (List.getD (PV.cells (enc y0)) (0+1) default)]]))) 0 (q+List.length (List.drop 0 (List.take 1 [PV.agg [Sh.co Sh.str (List.getD (PV.cells (enc y0)) 0 default),Sh.co (Sh.int .i64) (List.getD (PV.cells (enc y0)) (0+1) default)]]))))])),(.obj (.row false 61 2 (List.map enc ts++List.drop 0 (List.take 1 [PV.agg [Sh.co Sh.str (List.getD (PV.cells (enc y0)) 0 default),Sh.co (Sh.int .i64) (List.getD (PV.cells (enc y0)) (0+1) default)]]))))])))))else(if (!p)=true then(List.length (List.map enc ts)==q&&q==q&&decide ((q+List.length (List.drop 0 (List.take 1 [PV.agg [PV.str s,PV.int .i64 c]])))*24<=1099511627776)&&decide (q+List.length (List.drop 0 (List.take 1 [PV.agg [PV.str s,PV.int .i64 c]]))<=1099511627776))=true∧(At ZK 0 (Zr 0 ZC G) ZE 1 100 [(6,(.ptr 0 0)),(7,(.ptr 1 0)),(11,(.pv (.int .i64 0))),(12,(.pv (.int .i64 0)))] [(.obj (.box [(.pv (.int .i64 0)),(.pv (.sl 0 true []))])),(.obj (.box [(.pv (.int .i64 l.k)),(.row 2 (q+List.length (List.drop 0 (List.take 1 [PV.agg [PV.str s,PV.int .i64 c]]))) 0 (q+List.length (List.drop 0 (List.take 1 [PV.agg [PV.str s,PV.int .i64 c]]))))])),(.obj (.row false 61 2 (List.map enc ts++List.drop 0 (List.take 1 [PV.agg [PV.str s,PV.int .i64 c]]))))])else(At ZK 0 (Zr 0 ZC G) ZE 1 100 [(6,(.ptr 0 0)),(7,(.ptr 1 0)),(11,(.pv (.int .i64 0))),(12,(.pv (.int .i64 0)))] [(.obj (.box [(.pv (.int .i64 0)),(.pv (.sl 0 true []))])),(.obj (.box [(.pv (.int .i64 l.k)),(.row 2 q 0 q)])),(.obj (.row false 61 2 (List.map enc ts)))]))):At ZK 0 (Zr 0 ZC G) ZE 0 100 [(1,.pv (.str s)),(2,.pv (.int .i64 c)),(3,.ptr 0 0),(6,.ptr 1 0),(7,.ptr 2 0),(8,.pv (.bool p)),(9,.pv (.int .i64 i))] [.obj (.box [.pv (.int .i64 l.k),.pv (enc l.t)]),.obj (.box [.pv (.int .i64 0),.pv (.sl 0 true [])]),.obj (.box [.pv (.int .i64 l.k),.row 3 q 0 q]),.obj (.row false 61 2 (ts.map enc))]:=At.to (.lit (.ask (.req (.abs (Coef) (fun YY=>AV.pv (PV.rptr (PV.cells ((enc) YY)))) (.lit (.ask (.lit (.lit (.lit (.lit (.lit (.ask (.lit (.lit (.req (.lit (.ask (.lit (.lit (.lit (.req (.lit (.nil)))))) (.lit (.lit (.req (.lit (.nil)))))))))) (.lit (.ask (.lit (.lit (.lit (.req (.lit (.nil)))))) (.lit (.lit (.req (.lit (.nil))))))))))))) (.lit (.lit (.lit (.lit (.lit (.lit (.ask (.lit (.lit (.lit (.req (.lit (.nil)))))) (.lit (.lit (.req (.lit (.nil)))))))))))))))) (.ask (.lit (.lit (.req (.nil)))) (.nil)))) h (by kernel_rfl)
end Go.Pl

namespace Go.Pl
open Go.RowKit
open Enc (enc dec is)
open EncL (encL decL isL)
theorem b4a{ts:List Coef}{i:Nat}(h:i<ts.length):ts.getD i ⟨⟨[]⟩,0⟩=ts[i]:=by simp[List.getD,h]
theorem a8l(l:Lin)(s:List UInt8)(c:Int)(q:Nat)(ho:q<=2000000): ∀ (m i j:Nat) (ts:List Coef),m+i=q->ts.length=q->j<=i ->
  At ZK 0 (Zr 0 ZC (fun r=>r=CK ⟨l.k,(QD m i j ts).2,(QD m i j ts).1⟩ 0 [])) ZE 1 100 [(6,.ptr 0 0),(7,.ptr 1 0),(11,.pv (.int .i64 j)),(12,.pv (.int .i64 i))] [.obj (.box [.pv (.int .i64 0),.pv (.sl 0 true [])]),.obj (.box [.pv (.int .i64 l.k),.row 2 q 0 q]),.obj (.row false 61 2 (ts.map enc))]:=by
 intro m
 induction m with
 | zero=>
  intro i j ts hm hts hji
  refine Ar l s c j i q ts (Yc (by simp;omega) ?_)
  refine⟨by simp[hts];omega,?_⟩
  subst hts
  simp only[Int.toNat_natCast,Nat.zero_add]
  rfl
 | succ m ih=>
  intro i j ts hm hts hji
  have hi':i<ts.length:=by omega
  have hj':j<ts.length:=by omega
  refine Ar l s c j i q ts ?_
  simp only[a6j enc hi',a6j enc hj']
  refine Z8 (by simp;omega) ⟨by simp;omega,by simp;omega,rfl,?_⟩
  rw[QD,b4a hi']
  by_cases hz:ts[i].c=0
  ·refine Yc (by show ¬ (ts[i].c != 0)=true;simp[hz]) ?_
   rw[next (by omega),if_pos hz]
   exact ih (i+1) j ts (by omega) hts (by omega)
  ·refine Z8 (by show(ts[i].c != 0)=true;simp[hz]) ⟨by simp;omega,by simp;omega,rfl,by simp;omega,?_,?_⟩
   ·simp only[List.length_map,hts,beq_self_eq_true,Bool.true_and,Nat.zero_add,Int.toNat_natCast,decide_eq_true (show j<q by omega)]
    rfl
   ·rw[Nat.zero_add,Int.toNat_natCast,a5o,next (by omega),next (by omega),if_neg hz]
    exact ih (i+1) (j+1) (ts.set j ts[i]) (by omega) (by simp[hts]) (by omega)
theorem Hu(l:Lin)(s:List UInt8)(c:Int)(o:List Coef)(ho:o.length<=2000000):
  At ZK 0 (Zr 0 ZC (fun r=>r=CK (Ap l.k o) 0 [])) ZE 1 100 [(6,.ptr 0 0),(7,.ptr 1 0),(11,.pv (.int .i64 0)),(12,.pv (.int .i64 0))] [.obj (.box [.pv (.int .i64 0),.pv (.sl 0 true [])]),.obj (.box [.pv (.int .i64 l.k),.row 2 o.length 0 o.length]),.obj (.row false 61 2 (o.map enc))]:=
 a8l l s c o.length ho o.length 0 0 o (by omega) rfl (by omega)
theorem a8j(l:Lin)(s:List UInt8)(c:Int)(hl:l.t.length<=1000000): ∀ (m i:Nat) (p:Bool) (q:Nat) (ts:List Coef),m+i=l.t.length->q=ts.length->(p=false->ts.length<=i)->ts.length<=i+1 ->
  At ZK 0 (Zr 0 ZC (fun r=>r=CK (Ap l.k (ts++XX ⟨s⟩ c p (l.t.drop i))) 0 [])) ZE 0 100 [(1,.pv (.str s)),(2,.pv (.int .i64 c)),(3,.ptr 0 0),(6,.ptr 1 0),(7,.ptr 2 0),(8,.pv (.bool p)),(9,.pv (.int .i64 i))]
   [.obj (.box [.pv (.int .i64 l.k),.pv (enc l.t)]),.obj (.box [.pv (.int .i64 0),.pv (.sl 0 true [])]),.obj (.box [.pv (.int .i64 l.k),.row 3 q 0 q]),.obj (.row false 61 2 (ts.map enc))]:=by
 intro m
 induction m with
 | zero=>
  intro i p q ts hm hq h1 h2
  refine AR l s c p i q ts (Yc (UF (by omega)) ?_)
  rw[List.drop_of_length_le (show l.t.length<=i by omega)]
  refine Y4 (fun hp=> ?_) fun hp=> ?_
  ·subst hp
   refine⟨by simp[hq];omega,?_⟩
   have h:=Hu l s c (ts++[⟨⟨s⟩,c⟩]) (by simp;omega)
   rw[List.map_append,List.length_append,<- hq]at h
   rw[XX]
   exact h
  ·subst hp
   have h:=Hu l s c ts (by omega)
   rw[<- hq]at h
   rw[XX,if_pos rfl,List.append_nil]
   exact h
 | succ m ih=>
  intro i p q ts hm hq h1 h2
  have hlt:i<l.t.length:=by omega
  refine AR l s c p i q ts (Z8 (V5 hlt) ⟨ZN hlt rfl,Yf hlt ?_⟩)
  rw[List.drop_eq_getElem_cons hlt,next (by omega)]
  have key : ∀ (p':Bool) (add:List Coef),add.length<=2->(p'=false->(ts++add).length<=i+1)->(ts++add).length<=i+2->ts++XX ⟨s⟩ c p (l.t[i]::l.t.drop (i+1))=(ts++add)++XX ⟨s⟩ c p' (l.t.drop (i+1)) ->
    At ZK 0 (Zr 0 ZC (fun r=>r=CK (Ap l.k (ts++XX ⟨s⟩ c p (l.t[i]::l.t.drop (i+1)))) 0 [])) ZE 0 100 [(1,.pv (.str s)),(2,.pv (.int .i64 c)),(3,.ptr 0 0),(6,.ptr 1 0),(7,.ptr 2 0),(8,.pv (.bool p')),(9,.pv (.int .i64 ((i+1:Nat):Int)))]
     [.obj (.box [.pv (.int .i64 l.k),.pv (enc l.t)]),.obj (.box [.pv (.int .i64 0),.pv (.sl 0 true [])]),.obj (.box [.pv (.int .i64 l.k),.row 3 (q+add.length) 0 (q+add.length)]),.obj (.row false 61 2 (ts.map enc++add.map enc))]:=by
   intro p' add h3 h4 h5 h6
   rw[h6,<- List.map_append]
   exact ih (i+1) p' (q+add.length) (ts++add) (by omega) (by simp[hq]) h4 h5
  generalize l.t[i]=y at key ⊢
  obtain⟨⟨yv⟩,yc⟩:=y
  subst hq
  refine Y4 (fun hp=> ?_) fun hp=> ?_
  ·subst hp
   have hle:=h1 rfl
   refine Y4 (fun hb=> ?_) fun hb=> ?_
   ·have hb:(Op.bytesLess yv s||yv==s)=false:=hb
    have hlt2:s<yv:=by
     simp only[Yq,Bool.or_eq_false_iff,decide_eq_false_iff_not,beq_eq_false_iff_ne]at hb
     exact tri hb.1 hb.2
    have hne : ¬ yv=s:=fun e=>by rw[e]at hlt2;exact List.lt_irrefl _ hlt2
    refine⟨by simp;omega,XL (fun h=>absurd h hne) fun _=>⟨by simp;omega,?_⟩⟩
    have:=key true [⟨⟨s⟩,c⟩,⟨⟨yv⟩,yc⟩] (by simp) (fun h=>by cases h) (by simp;omega) (by rw[JW,if_pos hlt2];simp)
    rw[List.append_assoc]
    exact this
   ·have hb:(Op.bytesLess yv s||yv==s)=true:=hb
    have hnl : ¬ s<yv:=by
     simp only[Yq,Bool.or_eq_true,decide_eq_true_eq,beq_iff_eq]at hb
     rcases hb with h|h
     ·exact List.lt_asymm h
     ·rw[h];exact List.lt_irrefl _
    refine XL (fun h=> ?_) fun h=> ?_
    ·have h:yv=s:=h
     subst h
     refine⟨by simp;omega,?_⟩
     exact key true [⟨⟨yv⟩,Ym (yc+c)⟩] (by simp) (fun h=>by cases h) (by simp;omega) (by rw[JW,if_neg hnl,if_pos rfl];simp)
    ·have h:yv≠s:=h
     refine⟨by simp;omega,?_⟩
     exact key false [⟨⟨yv⟩,yc⟩] (by simp) (fun _=>by simp;omega) (by simp;omega) (by rw[JW,if_neg hnl,if_neg (by rw[Kn];exact h)];simp)
  ·subst hp
   refine XL (fun h=> ?_) fun h=> ?_
   ·have h:yv=s:=h
    subst h
    refine⟨by simp;omega,?_⟩
    exact key true [⟨⟨yv⟩,Ym (yc+c)⟩] (by simp) (fun h=>by cases h) (by simp;omega) (by rw[a9e,if_pos rfl];simp)
   ·have h:yv≠s:=h
    refine⟨by simp;omega,?_⟩
    exact key true [⟨⟨yv⟩,yc⟩] (by simp) (fun h=>by cases h) (by simp;omega) (by rw[a9e,if_neg (by rw[Kn];exact h)];simp)
theorem a0i(l:Lin)(s:List UInt8)(c:Int)(hl:l.t.length<=1000000):Zc ZK 0 (Zr 0 ZC (fun r=>r=CK (KA l ⟨s⟩ c) 0 [])) ZE [] (Uh Rq [.pv (enc l),.pv (.str s),.pv (enc c)] []):=by
 refine a9v l s c (a0n l s c false 0 ?_)
 show if _ then _ else(if _ then At ZK 0 (Zr 0 ZC (fun r=>r=CK (Ap l.k (XX ⟨s⟩ c false l.t)) 0 [])) _ _ _ _ _ else _)
 by_cases h0:l.t=[]
 ·refine Yc (by simp[h0]) (Z8 rfl ?_)
  have h:=Hu l s c [⟨⟨s⟩,c⟩] (by simp)
  rw[h0,XX]
  exact h
 ·have hlt:0<l.t.length:=List.length_pos_iff.2 h0
  refine Z8 (by simp;omega) ⟨by simp[Enc.sz];omega,Yf hlt ?_⟩
  have ed:l.t=l.t[0]::l.t.drop 1:=by
   have:=List.drop_eq_getElem_cons hlt
   rwa [List.drop_zero]at this
  have key : ∀ (p':Bool) (add:List Coef),add.length<=2->(p'=false->add.length<=1)->XX ⟨s⟩ c false (l.t[0]::l.t.drop 1)=add++XX ⟨s⟩ c p' (l.t.drop 1) ->
    At ZK 0 (Zr 0 ZC (fun r=>r=CK (Ap l.k (XX ⟨s⟩ c false l.t)) 0 [])) ZE 0 100 [(1,.pv (.str s)),(2,.pv (.int .i64 c)),(3,.ptr 0 0),(6,.ptr 1 0),(7,.ptr 2 0),(8,.pv (.bool p')),(9,.pv (.int .i64 ((0+1:Nat):Int)))]
     [.obj (.box [.pv (.int .i64 l.k),.pv (enc l.t)]),.obj (.box [.pv (.int .i64 0),.pv (.sl 0 true [])]),.obj (.box [.pv (.int .i64 l.k),.row 3 add.length 0 add.length]),.obj (.row false 61 2 (add.map enc))]:=by
   intro p' add h3 h4 h6
   have h7:XX ⟨s⟩ c false l.t=add++XX ⟨s⟩ c p' (l.t.drop 1):=by rw[<- h6,<- ed]
   rw[h7]
   exact a8j l s c hl (l.t.length - 1) (0+1) p' add.length add (by omega) rfl (fun h=>h4 h) (by omega)
  rw[show IntKind.wrap IntKind.i64 (0+1)=((0+1:Nat):Int)from rfl]
  generalize l.t[0]=y at key ⊢
  obtain⟨⟨yv⟩,yc⟩:=y
  refine Z8 rfl ?_
  refine Y4 (fun hb=> ?_) fun hb=> ?_
  ·have hb:(Op.bytesLess yv s||yv==s)=false:=hb
   have hlt2:s<yv:=by
    simp only[Yq,Bool.or_eq_false_iff,decide_eq_false_iff_not,beq_eq_false_iff_ne]at hb
    exact tri hb.1 hb.2
   have hne : ¬ yv=s:=fun e=>by rw[e]at hlt2;exact List.lt_irrefl _ hlt2
   refine XL (fun h=>absurd h hne) fun _=> ?_
   exact key true [⟨⟨s⟩,c⟩,⟨⟨yv⟩,yc⟩] (by simp) (fun h=>by cases h) (by rw[JW,if_pos hlt2];simp)
  ·have hb:(Op.bytesLess yv s||yv==s)=true:=hb
   have hnl : ¬ s<yv:=by
    simp only[Yq,Bool.or_eq_true,decide_eq_true_eq,beq_iff_eq]at hb
    rcases hb with h|h
    ·exact List.lt_asymm h
    ·rw[h];exact List.lt_irrefl _
   refine XL (fun h=> ?_) fun h=> ?_
   ·have h:yv=s:=h
    subst h
    exact key true [⟨⟨yv⟩,Ym (yc+c)⟩] (by simp) (fun h=>by cases h) (by rw[JW,if_neg hnl,if_pos rfl];simp)
   ·have h:yv≠s:=h
    exact key false [⟨⟨yv⟩,yc⟩] (by simp) (fun _=>by simp) (by rw[JW,if_neg hnl,if_neg (by rw[Kn];exact h)];simp)
theorem a1h: ∀ args os,Kv args os=true->Zc ZK os.length (Zr os.length ZC fun r=>r=Kh args os) ZE [] (Uh Rq args os):=by
 intro args os h
 unfold Kv at h
 split at h
 ·rename_i l s c
  simp only[Bool.and_eq_true,decide_eq_true_eq]at h
  obtain⟨hl,h1⟩:=h
  obtain⟨l,rfl⟩:=HY hl
  rw[Enc.dec_enc]at h1
  have ev:Kh [.pv (enc l),.pv (.str s),.pv (.int .i64 c)] []=CK (KA l ⟨s⟩ c) 0 []:=by
   show CK (KA (dec (enc l:PV)) ⟨s⟩ c) 0 []=_
   rw[Enc.dec_enc]
  rw[ev]
  exact a0i l s c h1
 ·cases h
end Go.Pl

namespace Go.Pl
open Go.RowKit
open Enc (enc dec is)
open EncL (encL decL isL)
theorem Uv.rfl(ps:List PV):Uv ps ps:=⟨Eq.refl _,fun j x y hx hy Φ v h=>by rw[hx]at hy;cases hy;exact h⟩
theorem LR.frz_av(r:LR):(frz (r.av 0)).run (Yd [r.ob])=some (enc r.view,[.obj (.row true 61 2 (r.ts.map enc))]):=by
 have:(PV.agg [.int .i64 r.k,.sl 2 false (List.drop 0 (List.take r.w (r.ts.map enc)))])=enc r.view:=by
  rw[List.drop_zero,<- List.map_take];rfl
 rw[<- this]
 simp[frz,U7,HM.bind,HM.run,Yd,LR.av,LR.ob]
theorem Ej{P:Program}{f:Nat}(h:Ye P f Kv Kh):Zl P f (fun x:Lin×Str×Int×Unit=>decide (x.1.t.length<=1000000)) (fun x:Lin×Str×Int×Unit=>Un x.1 x.2.1 x.2.2.1):=Zl.of_own h fun a ha=>by
 obtain⟨l,⟨s⟩,c,⟨⟩⟩:=a
 have ha:l.t.length<=1000000:=by simpa using ha
 refine⟨(KA l ⟨s⟩ c).av 0,[(KA l ⟨s⟩ c).ob],_,_,?_,?_,LR.frz_av _,?_⟩
 ·show(can Lin (enc l)&&decide ((dec (enc l:PV):Lin).t.length<=1000000))=true
  rw[Qp,Enc.dec_enc,decide_eq_true ha];rfl
 ·show CK (KA (dec (enc l:PV)) ⟨s⟩ c) 0 []=_
  rw[Enc.dec_enc];rfl
 ·rw[De];exact .refl _
end Go.Pl

namespace Go.Pl
open Go.RowKit
open Enc (enc dec is)
open EncL (encL decL isL)
end Go.Pl

namespace Go.Pl
open Go.RowKit
open Enc (enc dec is)
open EncL (encL decL isL)
set_option maxRecDepth 100000
-- IMPOSSIBLE
end Go.Pl

namespace Go.Pl
open Go.RowKit
open Enc (enc dec is)
open EncL (encL decL isL)
end Go.Pl

namespace Go.Pl
open Go.RowKit
open Enc (enc dec is)
open EncL (encL decL isL)
end Go.Pl

namespace Go.Pl
open Go.RowKit
open Enc (enc dec is)
open EncL (encL decL isL)
set_option maxRecDepth 100000
end Go.Pl

namespace Go.Pl
open Go.RowKit
open Enc (enc dec is)
open EncL (encL decL isL)
set_option maxRecDepth 100000
end Go.Pl

namespace Go.Pl
open Go.RowKit
open Enc (enc dec is)
open EncL (encL decL isL)
structure Cert2 where
 a:Cert
 b:Cert
instance:Enc Cert2 where
 sz:=10
 enc x:=.agg (PV.cells (enc x.a)++PV.cells (enc x.b))
 dec | .agg [a,b,c,d,e,f,g,h,i,j]=>⟨dec (.agg [a,b,c,d,e]),dec (.agg [f,g,h,i,j])⟩|_=>⟨.mk 0 [] ⟨0,[]⟩ [],.mk 0 [] ⟨0,[]⟩ []⟩
 is | .agg [a,b,c,d,e,f,g,h,i,j]=>is Cert (.agg [a,b,c,d,e])&&is Cert (.agg [f,g,h,i,j])|_=>false
 is_enc v:=by
  obtain⟨⟨k,m,l,ks⟩,⟨k',m',l',ks'⟩⟩:=v
  rw[Zp,Zp]
  show(is Cert (.agg [enc k,enc m,enc l.k,enc l.t,enc ks])&&is Cert (.agg [enc k',enc m',enc l'.k,enc l'.t,enc ks']))=true
  rw[<- Zp,<- Zp,Enc.is_enc,Enc.is_enc];rfl
 dec_enc v:=by
  obtain⟨⟨k,m,l,ks⟩,⟨k',m',l',ks'⟩⟩:=v
  rw[Zp,Zp]
  show(⟨dec (.agg [enc k,enc m,enc l.k,enc l.t,enc ks]),dec (.agg [enc k',enc m',enc l'.k,enc l'.t,enc ks'])⟩:Cert2)=_
  rw[<- Zp,<- Zp,Enc.dec_enc,Enc.dec_enc]
 sub p h:=by
  cases p with
  | agg xs=>
   match xs,h with
   | [a,b,c,d,e,f,g,h',i,j],h=>
    simp only[Bool.and_eq_true]at h
    have h1:=Enc.sub (α:=Cert) _ h.1
    have h2:=Enc.sub (α:=Cert) _ h.2
    exact Uz.agg (h1.1.append h2.1)
  | _=>cases h
theorem b5r{l:Lin}{n:Int}(h:Qt l n=true)(hl:Zy l=true):Zx l=true:=by
 simp only[Qt,Bool.and_eq_true,List.all_eq_true,decide_eq_true_eq]at h
 simp only[Zx,hl,Bool.true_and,List.all_eq_true,decide_eq_true_eq]
 intro t ht
 have:=h.1 t ht
 omega
mutual
theorem b0i: ∀ (c:Cert) (n:Int),n<=12->Xo c n=true->UA c=true->1<=n∧(Zt c:Int)<=n∧1<=Z7 c∧Z7 c<=n∧Vu c=true
 | .mk k m l ks,n,hn,h,ho=>by
  simp only[Xo,Bool.and_eq_true,Bool.not_eq_true',decide_eq_false_iff_not]at h
  obtain⟨h1,h2,h3,h4,h5⟩:=h
  simp only[UA,Bool.and_eq_true,decide_eq_true_eq]at ho
  obtain⟨⟨⟨o1,o2⟩,o3⟩,o4⟩:=ho
  obtain⟨a1,a2,a3,a4⟩:=Pj ks n 1 (by omega) hn (by omega) (by omega) h5 o4
  rw[Zt,Z7]
  refine⟨by omega,by omega,by omega,by omega,?_⟩
  simp only[Vu,b5r h2 o2,a4,decide_eq_true o1,decide_eq_true o3]
  rfl
theorem Pj: ∀ (cs:List Cert) (n s:Int),1<=n->n<=12->1<=s->s<=100 - n->WC cs n=true->Qy cs=true->(Yb cs:Int)<=n - 1∧s<=YZ s cs∧YZ s cs<=s+n - 1∧J2 cs=true
 | [],n,s,h1,h2,h3,h4,_,_=>by
  rw[Yb,YZ]
  exact⟨by omega,by omega,by omega,rfl⟩
 | c::cs,n,s,h1,h2,h3,h4,h,ho=>by
  simp only[WC,Bool.and_eq_true]at h
  simp only[Qy,Bool.and_eq_true]at ho
  rw[V9 (by omega) (by omega)]at h
  obtain⟨b1,b2,b3,b4,b5⟩:=b0i c (n - 1) (by omega) h.1 ho.1
  have h':=h.2
  rw[V9 (by omega) (by omega)]at h'
  obtain⟨a1,a2,a3,a4⟩:=Pj cs (n - Z7 c) (s+Z7 c) (by omega) (by omega) (by omega) (by omega) h' ho.2
  rw[Yb,YZ,V9 (by omega) (by omega)]
  refine⟨by omega,by omega,by omega,?_⟩
  simp only[J2,b5,a4]
  rfl
end
end Go.Pl

namespace Go.Pl
open Go.RowKit
open Enc (enc dec is)
open EncL (encL decL isL)
set_option maxRecDepth 100000
end Go.Pl

namespace Go.Pl
open Go.RowKit
open Enc (enc dec is)
open EncL (encL decL isL)
theorem Qh: ∀ (qs:List (Int×Fact)) (n:Int) (m:List (Str×Int)),(ZF m).Nodup->(ZF (qs.foldl WL (n,m)).2).Nodup
 | [],n,m,h=>h
 | q::qs,n,m,h=>by rw[List.foldl_cons];exact Qh qs _ _ (KF _ _ _ h)
theorem a3w{m:List (Str×Int)}(h:(ZF m).Nodup):(ZF (Uf m)).Nodup:=List.Nodup.sublist (List.Sublist.map _ (List.filter_sublist)) h
theorem Qm: ∀ {m:List (Str×Int)},(ZF m).Nodup-> ∀ p∈m,Ws m p.1.s=p.2
 | q::m,h,p,hp=>by
  simp only[ZF,List.map_cons,List.nodup_cons]at h
  rcases List.mem_cons.1 hp with rfl|hp
  ·simp[Ws]
  ·have:(q.1.s==p.1.s)=false:=by
    simp only[beq_eq_false_iff_ne,ne_eq]
    intro e
    exact h.1 (e▸List.mem_map.2 ⟨p,hp,rfl⟩)
   have ih:=Qm (m:=m) h.2 p hp
   simp only[Ws,List.find?_cons,this]at ih ⊢
   exact ih
end Go.Pl

namespace Go.Pl
open Go.RowKit
open Enc (enc dec is)
open EncL (encL decL isL)
end Go.Pl

namespace Go.Pl
open Go.RowKit
open Enc (enc dec is)
open EncL (encL decL isL)
end Go.Pl

namespace Go.Pl
open Go.RowKit
def XC(ts:List Coef)(s:List UInt8):Int:=((ts.find? fun t=>t.v.s==s).map (·.c)).getD 0
def KN(ts:List Coef):Prop:=ts.Pairwise fun a b=>a.v.s<b.v.s
def nzP(ts:List Coef):Prop:= ∀ t∈ts,t.c≠0
theorem Kr(s:List UInt8):XC [] s=0:=rfl
theorem ZJ(t:Coef)(ts:List Coef)(s:List UInt8):XC (t::ts) s=if t.v.s=s then t.c else XC ts s:=by
 simp only[XC,List.find?_cons]
 by_cases h:t.v.s=s
 ·simp[h]
 ·have:(t.v.s==s)=false:=by simpa using h
  simp[this,h]
theorem V6{s:List UInt8}: ∀ {ts:List Coef},(∀ t∈ts,s<t.v.s)->XC ts s=0
 | [],_=>rfl
 | t::ts,h=>by
  have h1:=h t (by simp)
  rw[ZJ,if_neg (fun e=>by rw[e]at h1;exact List.lt_irrefl _ h1)]
  exact V6 fun u hu=>h u (by simp[hu])
theorem WB{t:Coef}{ts:List Coef}:KN (t::ts) ↔ (∀ u∈ts,t.v.s<u.v.s)∧KN ts:=List.pairwise_cons
theorem Km: ∀ {a b:List Coef},KN a->nzP a->KN b->nzP b->(∀ s,XC a s=XC b s)->a=b
 | [],[],_,_,_,_,_=>rfl
 | [],y::ys,_,_,_,hn,h=>by
  have:=h y.v.s
  rw[Kr,ZJ,if_pos rfl]at this
  exact absurd this.symm (hn y (by simp))
 | x::xs,[],_,hn,_,_,h=>by
  have:=h x.v.s
  rw[Kr,ZJ,if_pos rfl]at this
  exact absurd this (hn x (by simp))
 | x::xs,y::ys,ha,hna,hb,hnb,h=>by
  obtain⟨ha1,ha2⟩:=WB.1 ha
  obtain⟨hb1,hb2⟩:=WB.1 hb
  have hxy:x.v.s=y.v.s:=by
   by_cases h1:x.v.s<y.v.s
   ·have e:=h x.v.s
    rw[ZJ,if_pos rfl,V6 (ts:=y::ys) (fun t ht=>by
     rcases List.mem_cons.1 ht with rfl|ht
     ·exact h1
     ·exact List.lt_trans h1 (hb1 t ht))]at e
    exact absurd e (hna x (by simp))
   ·by_cases h2:x.v.s=y.v.s
    ·exact h2
    ·have h3:=tri h1 h2
     have e:=h y.v.s
     rw[ZJ (t:=y),if_pos rfl,V6 (ts:=x::xs) (fun t ht=>by
      rcases List.mem_cons.1 ht with rfl|ht
      ·exact h3
      ·exact List.lt_trans h3 (ha1 t ht))]at e
     exact absurd e.symm (hnb y (by simp))
  have hc:x.c=y.c:=by
   have e:=h x.v.s
   rwa [ZJ,if_pos rfl,ZJ,if_pos hxy.symm]at e
  have hxe:x=y:=by
   have hv:x.v=y.v:=Kn.2 hxy
   cases x;cases y;simp only at hv hc;rw[hv,hc]
  have ht:xs=ys:=Km ha2 (fun t ht=>hna t (by simp[ht])) hb2 (fun t ht=>hnb t (by simp[ht])) fun s=>by
   by_cases hs:x.v.s=s
   ·rw[V6 (ts:=xs) (fun t ht=>hs▸ha1 t ht),V6 (ts:=ys) (fun t ht=>hs▸hxy▸hb1 t ht)]
   ·have e:=h s
    rwa [ZJ,if_neg hs,ZJ,if_neg (fun e=>hs (hxy.trans e))]at e
  rw[hxe,ht]
theorem V3(s:Str)(c:Int): ∀ {ts:List Coef},(∀ t∈ts,s.s<t.v.s)->XX s c true ts=ts
 | [],_=>by simp[XX]
 | t::ts,h=>by
  have h1:=h t (by simp)
  rw[a9e,if_neg (fun e=>by rw[e]at h1;exact List.lt_irrefl _ h1),V3 s c fun u hu=>h u (by simp[hu])]
theorem FQ(s:Str)(c:Int): ∀ {ts:List Coef},KN ts-> ∀ u∈XX s c false ts,u.v.s=s.s ∨ ∃ t∈ts,t.v.s=u.v.s
 | [],_,u,hu=>by
  simp only[XX,Bool.false_eq_true,if_false,List.mem_singleton]at hu
  exact .inl (by rw[hu])
 | t::ts,h,u,hu=>by
  obtain⟨h1,h2⟩:=WB.1 h
  rw[JW]at hu
  split at hu
  ·rename_i hlt
   rw[V3 s c (fun u hu=>List.lt_trans hlt (h1 u hu))]at hu
   rcases List.mem_cons.1 hu with rfl|hu
   ·exact .inl rfl
   ·exact .inr ⟨u,hu,rfl⟩
  ·split at hu
   ·rename_i he
    rw[V3 s c (fun u hu=>he▸h1 u hu)]at hu
    rcases List.mem_cons.1 hu with rfl|hu
    ·exact .inr ⟨t,by simp,rfl⟩
    ·exact .inr ⟨u,by simp[hu],rfl⟩
   ·rcases List.mem_cons.1 hu with rfl|hu
    ·exact .inr ⟨u,by simp,rfl⟩
    ·rcases FQ s c h2 u hu with h|⟨w,hw,e⟩
     ·exact .inl h
     ·exact .inr ⟨w,by simp[hw],e⟩
theorem SQ(s:Str)(c:Int): ∀ {ts:List Coef},KN ts->KN (XX s c false ts)
 | [],_=>by simp[XX,KN]
 | t::ts,h=>by
  obtain⟨h1,h2⟩:=WB.1 h
  rw[JW]
  split
  ·rename_i hlt
   rw[V3 s c (fun u hu=>List.lt_trans hlt (h1 u hu))]
   exact WB.2 ⟨fun u hu=>by
    rcases List.mem_cons.1 hu with rfl|hu
    ·exact hlt
    ·exact List.lt_trans hlt (h1 u hu),h⟩
  ·rename_i hlt
   split
   ·rename_i he
    rw[V3 s c (fun u hu=>he▸h1 u hu)]
    exact WB.2 ⟨h1,h2⟩
   ·rename_i he
    have hts:t.v.s<s.s:=tri hlt (fun e=>he (Kn.2 e.symm))
    refine WB.2 ⟨fun u hu=> ?_,SQ s c h2⟩
    rcases FQ s c h2 u hu with e|⟨w,hw,e⟩
    ·rw[e];exact hts
    ·rw[<- e];exact h1 w hw
theorem PS(s:Str)(c:Int)(hc:Ym c=c): ∀ {ts:List Coef},KN ts-> ∀ x,XC (XX s c false ts) x=if s.s=x then Ym (XC ts s.s+c)else XC ts x
 | [],_,x=>by
  have e:XX s c false []=[⟨s,c⟩]:=by simp[XX]
  rw[e,ZJ,Kr,Kr,Int.zero_add,hc]
 | t::ts,h,x=>by
  obtain⟨h1,h2⟩:=WB.1 h
  rw[JW]
  split
  ·rename_i hlt
   rw[V3 s c (fun u hu=>List.lt_trans hlt (h1 u hu)),ZJ,V6 (ts:=t::ts) (s:=s.s) (fun u hu=>by
    rcases List.mem_cons.1 hu with rfl|hu
    ·exact hlt
    ·exact List.lt_trans hlt (h1 u hu)),Int.zero_add,hc]
  ·rename_i hlt
   split
   ·rename_i he
    have he':t.v.s=s.s:=by rw[he]
    have e1:XC (t::ts) s.s=t.c:=by rw[ZJ,if_pos he']
    have e2:XC (t::ts) x=if s.s=x then t.c else XC ts x:=by rw[ZJ,he']
    rw[V3 s c (fun u hu=>he▸h1 u hu),ZJ,e1,e2]
    show(if t.v.s=x then Ym (t.c+c)else XC ts x)=_
    rw[he']
    by_cases hx:s.s=x
    ·rw[if_pos hx,if_pos hx]
    ·rw[if_neg hx,if_neg hx,if_neg hx]
   ·rename_i he
    have he' : ¬ t.v.s=s.s:=fun e=>he (Kn.2 e)
    rw[ZJ,PS s c hc h2 x,ZJ (s:=s.s),if_neg he',ZJ (s:=x)]
    by_cases hx:s.s=x
    ·rw[if_pos hx,if_pos hx,if_neg (fun e=>he' (e.trans hx.symm))]
    ·rw[if_neg hx,if_neg hx]
theorem JZ: ∀ {ts:List Coef},KN ts-> ∀ x,XC (ts.filter fun t=>decide (t.c≠0)) x=XC ts x
 | [],_,x=>rfl
 | t::ts,h,x=>by
  obtain⟨h1,h2⟩:=WB.1 h
  rw[List.filter_cons]
  split
  ·rw[ZJ,ZJ,JZ h2 x]
  ·rename_i hz
   have hz0:t.c=0:=by simpa using hz
   rw[ZJ,JZ h2 x]
   by_cases hx:t.v.s=x
   ·rw[if_pos hx,hz0,V6 fun u hu=>hx▸h1 u hu]
   ·rw[if_neg hx]
theorem a7o{l:Lin}(s:Str)(c:Int)(h:KN l.t):KN (Un l s c).t:=(SQ s c h).sublist List.filter_sublist
theorem b2q(l:Lin)(s:Str)(c:Int):nzP (Un l s c).t:=fun t ht=>by simpa using (List.mem_filter.1 ht).2
theorem Ed{l:Lin}(s:Str){c:Int}(hc:Ym c=c)(h:KN l.t)(x:List UInt8):XC (Un l s c).t x=if s.s=x then Ym (XC l.t s.s+c)else XC l.t x:=by
 show XC (List.filter _ _) x=_
 rw[JZ (SQ s c h),PS s c hc h]
theorem Oc(n:Int): -9223372036854775808<=Ym n∧Ym n<=9223372036854775807:=by
 unfold Ym IntKind.wrap
 simp only[IntKind.bits,IntKind.signed]
 simp
 split <;> omega
theorem Kl(n:Int):Ym (Ym n)=Ym n:=V9 (by have:=Oc n;omega) (by have:=Oc n;omega)
theorem J6(s:Str)(c:Int)(x:List UInt8): ∀ m:List (Str×Int),Ws (VH s c m) x=if s.s=x then c else Ws m x
 | []=>by
  rw[VH]
  simp only[Ws,List.find?_cons]
  by_cases h:s.s=x
  ·simp[h]
  ·have:(s.s==x)=false:=by simpa using h
   simp[this,h]
 | p::m=>by
  have ih:=J6 s c x m
  rw[VH]
  split
  ·rename_i he
   simp only[Ws,List.find?_cons]
   by_cases h:s.s=x
   ·simp[h]
   ·have h1:(s.s==x)=false:=by simpa using h
    have h2:(p.1.s==x)=false:=by rw[<- he];exact h1
    simp[h1,h2,h]
  ·rename_i he
   simp only[Ws,List.find?_cons]at ih ⊢
   by_cases h:p.1.s=x
   ·have h2 : ¬ s.s=x:=fun e=>he (e.trans h.symm)
    simp[h,h2]
   ·have h2:(p.1.s==x)=false:=by simpa using h
    rw[h2]
    exact ih
def MX(ts:List Coef)(m:List (Str×Int)):Prop:=KN ts∧ ∀ s,XC ts s=Ws m s
theorem Ah(k:Int): ∀ (x:List Coef) (l:Lin) (m:List (Str×Int)),MX l.t m->MX (x.foldl (fun o t=>Un o t.v (Ym (k*t.c))) l).t (YK k x m)
 | [],l,m,h=>h
 | t::x,l,m,h=>by
  rw[List.foldl_cons,YK]
  refine Ah k x _ _ ⟨a7o _ _ h.1,fun s=> ?_⟩
  rw[Ed _ (Kl _) h.1,J6,h.2,h.2]
theorem F9(k:Int): ∀ (x:List Coef) (l:Lin),nzP l.t->nzP (x.foldl (fun o t=>Un o t.v (Ym (k*t.c))) l).t
 | [],l,h=>h
 | t::x,l,h=>F9 k x _ (b2q _ _ _)
theorem a5h(k:Int): ∀ (x:List Coef) (l:Lin),(x.foldl (fun o t=>Un o t.v (Ym (k*t.c))) l).k=l.k
 | [],l=>rfl
 | t::x,l=>a5h k x _
theorem a9i{l x:Lin}{k:Int}(h:nzP l.t):nzP (NG l x k).t:=F9 k x.t _ h
theorem b1y(l x:Lin)(k:Int):(NG l x k).k=Ym (l.k+Ym (k*x.k)):=a5h k x.t _
theorem Ci{m:List (Str×Int)}{s:List UInt8}(h:s ∉ ZF m):Ws m s=0:=by
 have:(m.find? fun p=>p.1.s==s)=none:=by
  rw[List.find?_eq_none]
  intro p hp e
  exact h (List.mem_map.2 ⟨p,hp,by simpa using e⟩)
 simp[Ws,this]
theorem QW(m:List (Str×Int))(x:List UInt8): ∀ l:List (List UInt8),XC (l.map fun s=>(⟨⟨s⟩,Ws m s⟩:Coef)) x=if x∈l then Ws m x else 0
 | []=>by simp[XC]
 | s::l=>by
  rw[List.map_cons,ZJ,QW m x l]
  by_cases h:s=x
  ·subst h;simp
  ·have : ¬ x=s:=fun e=>h e.symm
   simp[h,this]
theorem a3c{l:List (List UInt8)}(h:l.Nodup):(YV l).Pairwise (· < ·):=by
 have tr : ∀ x y z:List UInt8,decide (x<=y)=true->decide (y<=z)=true->decide (x<=z)=true:=fun x y z h k=>by simp only[decide_eq_true_eq]at *;exact List.le_trans h k
 have to : ∀ x y:List UInt8,(decide (x<=y)||decide (y<=x))=true:=fun x y=>by simp only[Bool.or_eq_true,decide_eq_true_eq];exact List.le_total x y
 have h1:=List.pairwise_mergeSort tr to l
 have h2:(YV l).Nodup:=(List.mergeSort_perm l _).nodup_iff.2 h
 refine(h1.and h2).imp fun {a b} hab=> ?_
 have h3:a<=b:=by simpa using hab.1
 exact Decidable.byContradiction fun hn=>hab.2 (List.le_antisymm h3 (List.not_lt.1 hn))
theorem a1j(m:List (Str×Int)){l:List (List UInt8)}(h:l.Nodup):KN ((YV l).map fun s=>(⟨⟨s⟩,Ws m s⟩:Coef)):=List.Pairwise.map _ (fun a b hab=>hab) (a3c h)
theorem WN{m:List (Str×Int)}(hd:(ZF m).Nodup):MX (YL m) m∧nzP (YL m):=by
 have hd2:((m.filter fun p=>decide (p.2≠0)).map (·.1.s)).Nodup:=hd.sublist (List.filter_sublist.map _)
 refine⟨⟨a1j m hd2,fun s=> ?_⟩,fun t ht=> ?_⟩
 ·rw[YL,QW]
  split
  ·rfl
  ·rename_i hn
   refine(Decidable.byContradiction fun h0=>hn ?_)
   have hk:s∈ZF m:=Decidable.byContradiction fun hk=>h0 (Ci hk).symm
   obtain⟨p,hp,rfl⟩:=List.mem_map.1 hk
   have e:=Qm hd p hp
   refine((List.mergeSort_perm _ _).mem_iff).2 (List.mem_map.2 ⟨p,List.mem_filter.2 ⟨hp,?_⟩,rfl⟩)
   rw[<- e]
   simpa using fun e=>h0 e.symm
 ·obtain⟨s,hs,rfl⟩:=List.mem_map.1 ht
  have hs:=((List.mergeSort_perm _ _).mem_iff).1 hs
  obtain⟨p,hp,rfl⟩:=List.mem_map.1 hs
  obtain⟨hp1,hp2⟩:=List.mem_filter.1 hp
  show Ws m p.1.s≠0
  rw[Qm hd p hp1]
  simpa using hp2
theorem Eb{ts:List Coef}{m:List (Str×Int)}(h:MX ts m)(hn:nzP ts)(hd:(ZF m).Nodup):ts=YL m:=
 Km h.1 hn (WN hd).1.1 (WN hd).2 fun s=>(h.2 s).trans ((WN hd).1.2 s).symm
end Go.Pl

namespace Go.Pl
open Go.RowKit
def wM(m:List (Str×Int)):Prop:= ∀ s,Ym (Ws m s)=Ws m s
theorem a4z(k:Int): ∀ (x:List Coef) (m:List (Str×Int)),wM m->wM (YK k x m)
 | [],m,h=>h
 | t::x,m,h=>by
  rw[YK]
  refine a4z k x _ fun s=> ?_
  rw[J6]
  split
  ·exact Kl _
  ·exact h s
theorem add_zero: ∀ (x:List Coef) (m:List (Str×Int)),wM m-> ∀ s,Ws (YK 0 x m) s=Ws m s
 | [],m,h,s=>rfl
 | t::x,m,h,s=>by
  have e : ∀ y,Ws (VH t.v (IntKind.i64.wrap (Ws m t.v.s+IntKind.i64.wrap (0*t.c))) m) y=Ws m y:=fun y=>by
   rw[J6]
   split
   ·rename_i hy
    have:IntKind.i64.wrap (0*t.c)=0:=by rw[Int.zero_mul];rfl
    rw[this,Int.add_zero,<- hy]
    exact h t.v.s
   ·rfl
  rw[YK,add_zero x _ (fun y=>by rw[e];exact h y),e]
def KC(s:Option LR):Lin:=(s.map LR.view).getD ⟨0,[]⟩
theorem Pp: ∀ (qs:List (Int×Fact)) (s:Option LR) (p:Int×List (Str×Int)),(∀ q∈qs,-1000000<=q.2.l.k∧q.2.l.k<=1000000)->wM p.2->Ym p.1=p.1->MX (KC s).t p.2->nzP (KC s).t->(KC s).k=p.1 ->
  MX (KC (qs.foldl Ky s)).t (qs.foldl WL p).2∧nzP (KC (qs.foldl Ky s)).t∧(KC (qs.foldl Ky s)).k=(qs.foldl WL p).1
 | [],s,p,_,_,_,h1,h2,h3=>⟨h1,h2,h3⟩
 | q::qs,s,p,hk,hw,hp,h1,h2,h3=>by
  have hkq:=hk q (by simp)
  rw[List.foldl_cons,List.foldl_cons]
  refine Pp qs _ _ (fun r hr=>hk r (by simp[hr])) (a4z _ _ _ hw) (Kl _) ?_ ?_ ?_
  ·by_cases h0:q.1=0
   ·rw[Ky,if_pos h0]
    refine⟨h1.1,fun x=> ?_⟩
    rw[h1.2]
    show _=Ws (YK q.1 q.2.l.t p.2) x
    rw[h0,add_zero _ _ hw]
   ·rw[Ky,if_neg h0]
    show MX (LR.view (Cu (KC s) q.2.l q.1)).t _
    rw[QL]
    exact Ah q.1 q.2.l.t _ _ h1
  ·by_cases h0:q.1=0
   ·rw[Ky,if_pos h0];exact h2
   ·rw[Ky,if_neg h0]
    show nzP (LR.view (Cu (KC s) q.2.l q.1)).t
    rw[QL]
    exact a9i h2
  ·by_cases h0:q.1=0
   ·rw[Ky,if_pos h0,h3]
    show _=Ym (p.1+Ym (q.1*q.2.l.k))
    have:Ym (0*q.2.l.k)=0:=by rw[Int.zero_mul];rfl
    rw[h0,this,Int.add_zero,hp]
   ·rw[Ky,if_neg h0]
    show(LR.view (Cu (KC s) q.2.l q.1)).k=Ym (p.1+Ym (q.1*q.2.l.k))
    rw[QL,b1y,h3]
def QM(fs:List Fact)(ms:List Int):Lin:=KC (b9y fs ms)
theorem C8{fs:List Fact}{ms:List Int}(hv:Zq fs=true):(QM fs ms).k=(ZQ fs ms).1∧(QM fs ms).t=YL (ZQ fs ms).2:=by
 have hk : ∀ q∈ms.zip fs,-1000000<=q.2.l.k∧q.2.l.k<=1000000:=fun q hq=>by
  have hm:=(List.of_mem_zip (a:=q.1) (b:=q.2) hq).2
  simp only[Zq,List.all_eq_true]at hv
  exact FT (hv _ hm)
 have h:=Pp (ms.zip fs) none (0,[]) hk (fun s=>rfl) rfl ⟨List.Pairwise.nil,fun s=>rfl⟩ (fun t ht=>by cases ht) rfl
 refine⟨h.2.2,Eb h.1 h.2.1 (Qh _ _ _ (by simp[ZF]))⟩
theorem a4i(m:List (Str×Int))(hd:(ZF m).Nodup):YL (Uf m)=YL m:=by
 have hn:=a3w hd
 have h1:=WN hd
 have h2:=WN hn
 refine Km h2.1.1 h2.2 h1.1.1 h1.2 fun s=> ?_
 rw[h2.1.2,h1.1.2]
 by_cases hk:s∈ZF (Uf m)
 ·obtain⟨p,hp,rfl⟩:=List.mem_map.1 hk
  rw[Qm hn p hp,Qm hd p (List.mem_filter.1 hp).1]
 ·rw[Ci hk]
  refine Decidable.byContradiction fun h0=>hk ?_
  have hk2:s∈ZF m:=Decidable.byContradiction fun hk2=>h0 (Ci hk2).symm
  obtain⟨p,hp,rfl⟩:=List.mem_map.1 hk2
  rw[Qm hd p hp]at h0
  exact List.mem_map.2 ⟨p,List.mem_filter.2 ⟨hp,by simpa using fun e:p.2=0=>h0 e.symm⟩,rfl⟩
theorem QH(m:List (Str×Int)):YL m=(VP (Uf m)).map fun s=>⟨⟨s⟩,Ws m s⟩:=rfl
theorem Kt{m:List (Str×Int)}:YL m=[] ↔ Uf m=[]:=by
 rw[QH,List.map_eq_nil_iff]
 have h:(VP (Uf m)).length=(Uf m).length:=by
  rw[VP]
  exact((List.mergeSort_perm _ _).length_eq).trans (by simp[ZF])
 rw[<- List.length_eq_zero_iff,<- List.length_eq_zero_iff,h]
def a8a(fs:List Fact)(ms:List Int):Lin×Int:=
 if Zq fs then(if QZ fs ms then(if (QM fs ms).t=[]then(⟨0,[]⟩,18)else
  if Zj ⟨(Kw (QM fs ms).k (YN ((QM fs ms).t.map (·.c)))).1,(QM fs ms).t.map fun t=>⟨t.v,Ym (t.c.tdiv (YN ((QM fs ms).t.map (·.c))))⟩⟩then(⟨(Kw (QM fs ms).k (YN ((QM fs ms).t.map (·.c)))).1,(QM fs ms).t.map fun t=>⟨t.v,Ym (t.c.tdiv (YN ((QM fs ms).t.map (·.c))))⟩⟩,0)else(⟨0,[]⟩,3))else(⟨0,[]⟩,18))else(⟨0,[]⟩,1)
theorem LD{m:List (Str×Int)}(hd:(ZF m).Nodup):YN ((YL m).map (·.c))=YN (X6 (Uf m)):=by
 refine Ad ?_
 rw[QH,List.map_map]
 refine((List.mergeSort_perm _ _).map _).trans ?_
 rw[ZF,List.map_map]
 have:(Uf m).map (((fun t:Coef=>t.c) ∘ fun s=>(⟨⟨s⟩,Ws m s⟩:Coef)) ∘ fun p=>p.1.s)=X6 (Uf m):=by
  apply List.map_congr_left
  intro p hp
  exact Qm hd p (List.mem_filter.1 hp).1
 exact List.Perm.of_eq this
theorem Fe(fs:List Fact)(ms:List Int):a8a fs ms=Yj fs ms:=by
 unfold a8a Yj
 cases hv:Zq fs
 ·rfl
 rw[if_pos rfl,if_pos rfl]
 cases ho:QZ fs ms
 ·rfl
 rw[if_pos rfl,if_pos rfl]
 obtain⟨e1,e2⟩:=C8 (ms:=ms) hv
 have hd:(ZF (ZQ fs ms).2).Nodup:=Qh _ _ _ (by simp[ZF])
 rw[e1,e2,LD hd]
 unfold BF
 have e3:VO (Uf (ZQ fs ms).2) (YN (X6 (Uf (ZQ fs ms).2))) (VP (Uf (ZQ fs ms).2))=(YL (ZQ fs ms).2).map fun t=>⟨t.v,Ym (t.c.tdiv (YN (X6 (Uf (ZQ fs ms).2))))⟩:=by
  rw[VO,<- a4i _ hd,QH,List.map_map]
  rw[show Uf (Uf (ZQ fs ms).2)=Uf (ZQ fs ms).2 by unfold Uf;rw[List.filter_filter];simp only[Bool.and_self]]
  rfl
 rw[e3]
 by_cases h:Uf (ZQ fs ms).2=[]
 ·rw[if_pos h,if_pos (Kt.2 h)]
 ·rw[if_neg h,if_neg (fun h2=>h (Kt.1 h2))]
end Go.Pl

namespace Go.Pl
open Go.RowKit
end Go.Pl

namespace Go.Pl
open Go.RowKit
open Enc (enc dec is)
open EncL (encL decL isL)
end Go.Pl

namespace Go.Pl
open Go.RowKit
open Enc (enc dec is)
open EncL (encL decL isL)
set_option maxRecDepth 100000
end Go.Pl

namespace Go.Pl
open Go.RowKit
open Enc (enc dec is)
open EncL (encL decL isL)
set_option maxRecDepth 100000
end Go.Pl

namespace Go.Pl
open Go.RowKit
open Enc (enc dec is)
open EncL (encL decL isL)
end Go.Pl

namespace Go.Pl
open Go.RowKit
open Enc (enc dec is)
open EncL (encL decL isL)
end Go.Pl

namespace Go.Pl
open Go.RowKit
open Enc (enc dec is)
open EncL (encL decL isL)
end Go.Pl

namespace Go.Pl
open Go.RowKit
open Enc (enc dec is)
open EncL (encL decL isL)
theorem one_of{α:Type}: ∀ {ks:List α},ks.length=1-> ∃ a,ks=[a]
 | [a],_=>⟨a,rfl⟩
end Go.Pl

namespace Go.Pl
open Go.RowKit
open Enc (enc dec is)
open EncL (encL decL isL)
set_option maxRecDepth 100000
end Go.Pl

namespace Go.Pl
open Go.RowKit
open Enc (enc dec is)
open EncL (encL decL isL)
end Go.Pl

namespace Go.Pl
open Go.RowKit
open Enc (enc dec is)
open EncL (encL decL isL)
theorem sub_zero(b:Bool):Sub (.tup [b9u,.bool b]) (enc (((⟨0,[]⟩:Lin),b):Lin×Bool)):=Sub.pair (Sub.agg_cons (.refl _) (Sub.agg_cons (.sl0 _ _ _) Sub.agg_nil)) (.refl _)
end Go.Pl

namespace Go.Pl
open Go.RowKit
open Enc (enc dec is)
open EncL (encL decL isL)
end Go.Pl

namespace Go.Pl
open Go.RowKit
open Enc (enc dec is)
open EncL (encL decL isL)
def QP(x y:Coef):Int:=if Lib.compareBytes x.v.s y.v.s≠0 then Lib.compareBytes x.v.s y.v.s else Ug x.c y.c
def Xy:List Coef->List Coef->Int
 | [],[]=>0
 | [],_::_=> -1
 | _::_,[]=>1
 | x::l,y::m=>if QP x y≠0 then QP x y else Xy l m
def WV(a b:Lin):Int:=if Xy a.t b.t≠0 then Xy a.t b.t else Ug a.k b.k
end Go.Pl

namespace Go.Pl
open Go.RowKit
open Enc (enc dec is)
open EncL (encL decL isL)
set_option maxRecDepth 100000
def Hf:IC:=(.seq (.reg [⟨(some 4),(.mv (.c (.int .i64 0))),0,none⟩] none) (.seq (.block 0 (.seq (.reg [⟨(some 6),(.mv (.t 0)),0,none⟩,⟨(some 7),(.mv (.t 1)),0,none⟩,⟨(some 8),(.bin .num .lss (.t 6) (.t 7)),0,none⟩,⟨(some 5),(.mv (.t 8)),0,none⟩] none) (.cond (.t 5) (.seq (.reg [⟨(some 4),(.mv (.c (.int .i64 (-1)))),0,none⟩] none) .ret) (.seq (.reg [⟨(some 10),(.mv (.t 0)),0,none⟩,⟨(some 11),(.mv (.t 1)),0,none⟩,⟨(some 12),(.bin .num .gtr (.t 10) (.t 11)),0,none⟩,⟨(some 9),(.mv (.t 12)),0,none⟩] none) (.cond (.t 9) (.seq (.reg [⟨(some 4),(.mv (.c (.int .i64 1))),0,none⟩] none) .ret) .skip))))) (.seq (.reg [⟨(some 4),(.mv (.c (.int .i64 0))),0,none⟩] none) .ret)))
def Q3:List IRes:=[(.tmp 4)]
abbrev a0c:Nat:=13
def Jp:ZH:=XI []
theorem a9c{G:PV->Prop}(a b:Int)(h:if (decide (a<b))=true then G ((.int .i64 (-1)))else(if (decide (a>b))=true then G ((.int .i64 1))else(G ((.int .i64 0))))):Zc Jp 0 (Za Q3 G) Hf [] (Z9 13 [enc a,enc b]):=Zc.tp (.lit (.ask (.nil) (.lit (.ask (.nil) (.nil))))) h (by kernel_rfl)
def Ck:IC:=(.seq (.reg [⟨(some 2),(.box 2 (.t 0)),0,none⟩,⟨(some 3),(.box 2 (.t 1)),1,none⟩,⟨(some 4),(.mv (.c (.int .i64 0))),2,none⟩] none) (.seq (.seq (.reg [⟨(some 6),(.faddr 0 (.t 2)),0,none⟩,⟨(some 7),(.load false [.str] (.t 6)),0,none⟩,⟨(some 8),(.faddr 0 (.t 3)),0,none⟩,⟨(some 9),(.load false [.str] (.t 8)),0,none⟩,⟨(some 10),(.call (.c (.fn 212)) [(.t 7),(.t 9)]),0,none⟩,⟨(some 5),(.mv (.t 10)),2,none⟩] none) (.seq (.reg [⟨(some 11),(.mv (.t 5)),0,none⟩,⟨(some 12),(.bin .num .neq (.t 11) (.c (.int .i64 0))),0,none⟩] none) (.cond (.t 12) (.seq (.reg [⟨(some 13),(.mv (.t 5)),0,none⟩,⟨(some 4),(.mv (.t 13)),0,none⟩] none) .ret) .skip))) (.seq (.reg [⟨(some 14),(.faddr 1 (.t 2)),0,none⟩,⟨(some 15),(.load false [(.int .i64)] (.t 14)),0,none⟩,⟨(some 16),(.faddr 1 (.t 3)),0,none⟩,⟨(some 17),(.load false [(.int .i64)] (.t 16)),0,none⟩,⟨(some 18),(.call (.c (.fn 213)) [(.t 15),(.t 17)]),0,none⟩,⟨(some 4),(.mv (.t 18)),2,none⟩] none) .ret)))
def JU:List IRes:=[(.tmp 4)]
abbrev a9h:Nat:=19
def G8:ZH:=XI [(212,.pure (preT (fun _:Str×Str×Unit=>true)) (Zf (fun x:Str×Str×Unit=>Lib.compareBytes x.1.s x.2.1.s))),(213,.pure (preT (fun _:Int×Int×Unit=>true)) (Zf (fun x:Int×Int×Unit=>Ug x.1 x.2.1)))]
theorem b1l{G:PV->Prop}(x y:Coef)(h : ∃ y0:Int,AV.pv (Zf (fun(x:Str×Str×Unit)=>Lib.compareBytes (Str.s x.1) (Str.s x.2.1)) [(.str (Str.s x.v)),(.str (Str.s y.v))])=AV.pv (enc y0)∧(if (y0 != 0)=true then G ((.int .i64 y0))else(∃ y1:Int,AV.pv (Zf (fun(x:Int×Int×Unit)=>Ug x.1 x.2.1) [(.int .i64 x.c),(.int .i64 y.c)])=AV.pv (enc y1)∧(G ((.int .i64 y1)))))):Zc G8 0 (Za JU G) Ck [] (Z9 19 [enc x,enc y]):=Zc.tp (.lit (.abs (Int) (fun YY=>AV.pv (enc YY)) (.lit (.ask (.nil) (.lit (.abs (Int) (fun YY=>AV.pv (enc YY)) (.nil))))))) h (by kernel_rfl)
def VU:IC:=(.seq (.reg [⟨(some 6),(.mv (.c (.int .i64 0))),0,none⟩] none) (.seq (.seq (.reg [⟨(some 11),(.mv (.t 0)),0,none⟩,⟨(some 12),(.len 1 (.t 11)),0,none⟩,⟨(some 13),(.mv (.c (.int .i64 0))),0,none⟩] none) (.block 0 (.loop [13,12,11,1,2,0] (.seq (.reg [⟨(some 14),(.bin .num .lss (.t 13) (.t 12)),0,none⟩] none) (.seq (.cond (.t 14) .skip (.exit 0)) (.seq (.block 1 (.seq (.reg [⟨(some 15),(.mv (.t 13)),0,none⟩,⟨(some 16),(.iaddr 2 (.t 11) (.t 13)),0,none⟩,⟨(some 17),(.load true [.str,(.int .i64)] (.t 16)),0,none⟩,⟨(some 8),(.alloc (.agg [(.str []),(.int .i64 0)])),0,none⟩,⟨(some 7),(.mv (.t 15)),1,none⟩,⟨none,(.store 2 (.t 8) (.t 17)),1,none⟩] none) (.seq (.seq (.reg [⟨(some 18),(.mv (.t 7)),0,none⟩,⟨(some 19),(.mv (.t 1)),0,none⟩,⟨(some 20),(.len 1 (.t 19)),0,none⟩,⟨(some 21),(.bin .num .geq (.t 18) (.t 20)),0,none⟩] none) (.cond (.t 21) (.seq (.reg [⟨(some 6),(.mv (.c (.int .i64 1))),0,none⟩] none) .ret) .skip)) (.seq (.reg [⟨(some 22),(.mv (.t 1)),0,none⟩,⟨(some 23),(.mv (.t 7)),0,none⟩,⟨(some 24),(.iaddr 2 (.t 22) (.t 23)),0,none⟩,⟨(some 25),(.load true [.str,(.int .i64)] (.t 24)),0,none⟩,⟨(some 9),(.alloc (.agg [(.str []),(.int .i64 0)])),0,none⟩,⟨none,(.store 2 (.t 9) (.t 25)),1,none⟩] none) (.seq (.reg [⟨(some 26),(.mv (.t 2)),0,none⟩,⟨(some 27),(.load true [.str,(.int .i64)] (.t 8)),0,none⟩,⟨(some 28),(.load true [.str,(.int .i64)] (.t 9)),0,none⟩,⟨(some 29),(.call (.t 26) [(.t 27),(.t 28)]),0,none⟩,⟨(some 10),(.mv (.t 29)),2,none⟩] none) (.seq (.reg [⟨(some 30),(.mv (.t 10)),0,none⟩,⟨(some 31),(.bin .num .neq (.t 30) (.c (.int .i64 0))),0,none⟩] none) (.cond (.t 31) (.seq (.reg [⟨(some 32),(.mv (.t 10)),0,none⟩,⟨(some 6),(.mv (.t 32)),0,none⟩] none) .ret) .skip))))))) (.reg [⟨(some 33),(.bin .num .add (.t 13) (.c (.int .i64 1))),0,none⟩,⟨(some 13),(.mv (.t 33)),0,none⟩] none))))))) (.seq (.seq (.reg [⟨(some 34),(.mv (.t 0)),0,none⟩,⟨(some 35),(.len 1 (.t 34)),0,none⟩,⟨(some 36),(.mv (.t 1)),0,none⟩,⟨(some 37),(.len 1 (.t 36)),0,none⟩,⟨(some 38),(.bin .num .lss (.t 35) (.t 37)),0,none⟩] none) (.cond (.t 38) (.seq (.reg [⟨(some 6),(.mv (.c (.int .i64 (-1)))),0,none⟩] none) .ret) .skip)) (.seq (.reg [⟨(some 6),(.mv (.c (.int .i64 0))),0,none⟩] none) .ret))))
def V7:List IRes:=[(.tmp 6)]
abbrev a4h:Nat:=39
def Qu:ZH:=XI [(211,.pure (preT (fun _:Coef×Coef×Unit=>true)) (Zf (fun x:Coef×Coef×Unit=>QP x.1 x.2.1)))]
theorem a9u{G:PV->Prop}(a b:List Coef)(h:At Qu 0 (Za V7 G) VU 0 39 [(0,(.pv (.sl 2 false (List.map enc a)))),(1,(.pv (.sl 2 false (List.map enc b)))),(2,(.pv (.fn 211))),(11,(.pv (.sl 2 false (List.map enc a)))),(12,(.pv (.int .i64 (↑(List.length (List.map enc a)):Int)))),(13,(.pv (.int .i64 0)))] []):Zc Qu 0 (Za V7 G) VU [] (Z9 39 [enc a,enc b,.fn 211]):=Zc.tp (.nil) h (by kernel_rfl)
theorem Rt{G:PV->Prop}(a b:List Coef)(i:Int)(h:if (decide (i<(↑(List.length a):Int)))=true then(decide (0<=i)&&decide (Int.toNat i<List.length (List.map enc a))&&Enc.sz Coef==2)=true∧(∃ y0:Coef,AV.pv (PV.rptr (PV.cells (List.getD (List.map enc a) (Int.toNat i) default)))=AV.pv (PV.rptr (PV.cells ((enc) y0)))∧(if (decide (i ≥ (↑(List.length (List.map enc b)):Int)))=true then G ((.int .i64 1))else((decide (0<=i)&&decide (Int.toNat i<List.length (List.map enc b))&&Enc.sz Coef==2)=true∧(∃ y1:Coef,AV.pv (PV.rptr (PV.cells (List.getD (List.map enc b) (Int.toNat i) default)))=AV.pv (PV.rptr (PV.cells ((enc) y1)))∧(∃ y2:Int,AV.pv (Zf (fun(x:Coef×Coef×Unit)=>QP x.1 x.2.1) [(.agg [(.str (PV.asStr (List.getD (PV.cells (enc y0)) 0 default))),(.int .i64 (PV.asInt (List.getD (PV.cells (enc y0)) (0+1) default)))]),(.agg [(.str (PV.asStr (List.getD (PV.cells (enc y1)) 0 default))),(.int .i64 (PV.asInt (List.getD (PV.cells (enc y1)) (0+1) default)))])])=AV.pv (enc y2)∧(if (y2 != 0)=true then G ((.int .i64 y2))else(At Qu 0 (Za V7 G) VU 0 39 [(0,(.pv (.sl 2 false (List.map enc a)))),(1,(.pv (.sl 2 false (List.map enc b)))),(2,(.pv (.fn 211))),(11,(.pv (.sl 2 false (List.map enc a)))),(12,(.pv (.int .i64 (↑(List.length a):Int)))),(13,(.pv (.int .i64 (IntKind.wrap IntKind.i64 (i+1)))))] [])))))))else(if (decide ((↑(List.length (List.map enc a)):Int)<(↑(List.length (List.map enc b)):Int)))=true then G ((.int .i64 (-1)))else(G ((.int .i64 0))))):At Qu 0 (Za V7 G) VU 0 39 [(0,.pv (enc a)),(1,.pv (enc b)),(2,.pv (.fn 211)),(11,.pv (enc a)),(12,.pv (.int .i64 a.length)),(13,.pv (.int .i64 i))] []:=At.tp (.lit (.ask (.req (.abs (Coef) (fun YY=>AV.pv (PV.rptr (PV.cells ((enc) YY)))) (.lit (.lit (.ask (.nil) (.req (.abs (Coef) (fun YY=>AV.pv (PV.rptr (PV.cells ((enc) YY)))) (.lit (.lit (.abs (Int) (fun YY=>AV.pv (enc YY)) (.lit (.ask (.nil) (.lit (.nil)))))))))))))) (.lit (.ask (.nil) (.nil))))) h (by kernel_rfl)
def Sw:IC:=(.seq (.reg [⟨(some 2),(.box 2 (.t 0)),0,none⟩,⟨(some 3),(.box 2 (.t 1)),1,none⟩,⟨(some 4),(.mv (.c (.int .i64 0))),2,none⟩] none) (.seq (.reg [⟨(some 6),(.faddr 1 (.t 2)),0,none⟩,⟨(some 7),(.load false [(.sl 2)] (.t 6)),0,none⟩,⟨(some 8),(.faddr 1 (.t 3)),0,none⟩,⟨(some 9),(.load false [(.sl 2)] (.t 8)),0,none⟩,⟨(some 10),(.call (.c (.fn 210)) [(.t 7),(.t 9),(.c (.fn 211))]),0,none⟩,⟨(some 5),(.mv (.t 10)),2,none⟩] none) (.seq (.seq (.reg [⟨(some 11),(.mv (.t 5)),0,none⟩,⟨(some 12),(.bin .num .neq (.t 11) (.c (.int .i64 0))),0,none⟩] none) (.cond (.t 12) (.seq (.reg [⟨(some 13),(.mv (.t 5)),0,none⟩,⟨(some 4),(.mv (.t 13)),0,none⟩] none) .ret) .skip)) (.seq (.reg [⟨(some 14),(.faddr 0 (.t 2)),0,none⟩,⟨(some 15),(.load false [(.int .i64)] (.t 14)),0,none⟩,⟨(some 16),(.faddr 0 (.t 3)),0,none⟩,⟨(some 17),(.load false [(.int .i64)] (.t 16)),0,none⟩,⟨(some 18),(.call (.c (.fn 213)) [(.t 15),(.t 17)]),0,none⟩,⟨(some 4),(.mv (.t 18)),2,none⟩] none) .ret))))
def Da:List IRes:=[(.tmp 4)]
abbrev b0u:Nat:=19
def Tu:ZH:=XI [(210,.pure (preT (fun x:List Coef×List Coef×FnV 211×Unit=>decide (x.1.length<=9223372036854775807)&&decide (x.2.1.length<=9223372036854775807))) (Zf (fun x:List Coef×List Coef×FnV 211×Unit=>Xy x.1 x.2.1))),(213,.pure (preT (fun _:Int×Int×Unit=>true)) (Zf (fun x:Int×Int×Unit=>Ug x.1 x.2.1)))]
theorem b5d{G:PV->Prop}(a b:Lin)(h:(Go.Pl.preT (fun(x:List Coef×List Coef×FnV 211×Unit)=>decide (List.length x.1<=9223372036854775807)&&decide (List.length x.2.1<=9223372036854775807)) [(.sl 2 false (List.map enc a.t)),(.sl 2 false (List.map enc b.t)),(.fn 211)])=true∧(∃ y0:Int,AV.pv (Zf (fun(x:List Coef×List Coef×FnV 211×Unit)=>Xy x.1 x.2.1) [(.sl 2 false (List.map enc a.t)),(.sl 2 false (List.map enc b.t)),(.fn 211)])=AV.pv (enc y0)∧(if (y0 != 0)=true then G ((.int .i64 y0))else(∃ y1:Int,AV.pv (Zf (fun(x:Int×Int×Unit)=>Ug x.1 x.2.1) [(.int .i64 a.k),(.int .i64 b.k)])=AV.pv (enc y1)∧(G ((.int .i64 y1))))))):Zc Tu 0 (Za Da G) Sw [] (Z9 19 [enc a,enc b]):=Zc.tp (.req (.abs (Int) (fun YY=>AV.pv (enc YY)) (.lit (.ask (.nil) (.lit (.abs (Int) (fun YY=>AV.pv (enc YY)) (.nil))))))) h (by kernel_rfl)
def Mt:IC:=(.seq (.reg [⟨(some 2),(.box 2 (.t 0)),0,none⟩,⟨(some 3),(.box 2 (.t 1)),1,none⟩,⟨(some 4),(.mv (.c (.bool false))),2,none⟩] none) (.seq (.reg [⟨(some 5),(.load true [(.int .i64),(.sl 2)] (.t 2)),0,none⟩,⟨(some 6),(.load true [(.int .i64),(.sl 2)] (.t 3)),0,none⟩,⟨(some 7),(.call (.c (.fn 145)) [(.t 5),(.t 6)]),0,none⟩,⟨(some 8),(.bin .num .eql (.t 7) (.c (.int .i64 0))),2,none⟩,⟨(some 4),(.mv (.t 8)),2,none⟩] none) .ret))
def MG:List IRes:=[(.tmp 4)]
abbrev b7d:Nat:=9
def a8c:ZH:=XI [(145,.pure (preT (fun x:Lin×Lin×Unit=>Zy x.1&&Zy x.2.1)) (Zf (fun x:Lin×Lin×Unit=>WV x.1 x.2.1)))]
theorem b8u{G:PV->Prop}(a b:Lin)(h:(Go.Pl.preT (fun(x:Lin×Lin×Unit)=>Zy x.1&&Zy x.2.1) [(.agg [(.int .i64 a.k),(.sl 2 false (List.map enc a.t))]),(.agg [(.int .i64 b.k),(.sl 2 false (List.map enc b.t))])])=true∧(∃ y0:Int,AV.pv (Zf (fun(x:Lin×Lin×Unit)=>WV x.1 x.2.1) [(.agg [(.int .i64 a.k),(.sl 2 false (List.map enc a.t))]),(.agg [(.int .i64 b.k),(.sl 2 false (List.map enc b.t))])])=AV.pv (enc y0)∧(G ((.bool (y0==0)))))):Zc a8c 0 (Za MG G) Mt [] (Z9 9 [enc a,enc b]):=Zc.tp (.req (.abs (Int) (fun YY=>AV.pv (enc YY)) (.lit (.nil)))) h (by kernel_rfl)
end Go.Pl

namespace Go.Pl
open Go.RowKit
open Enc (enc dec is)
open EncL (encL decL isL)
theorem NQ: ∀ a:Int×Int×Unit,true=true->Zc Jp 0 (Za Q3 (Zv (Ug a.1 a.2.1))) Hf [] (Z9 a0c (encL a)):=by
 rintro⟨a,b,⟨⟩⟩ -
 show Zc Jp 0 (Za Q3 (Zv (Ug a b))) _ _ _
 refine a9c a b (Yv (fun h=> ?_) fun h=>Yv (fun k=> ?_) fun k=> ?_)
 ·exact XW (by simp[Ug,h])
 ·exact XW (by simp[Ug,h,k])
 ·exact XW (by simp[Ug,h,k])
theorem EJ: ∀ a:Coef×Coef×Unit,true=true->Zc G8 0 (Za JU (Zv (QP a.1 a.2.1))) Ck [] (Z9 a9h (encL a)):=by
 rintro⟨x,y,⟨⟩⟩ -
 show Zc G8 0 (Za JU (Zv (QP x y))) _ _ _
 unfold QP
 refine b1l x y (Ze (x.v,y.v,()) rfl (b0b (fun h=> ?_) fun h=>Ze (x.c,y.c,()) rfl ?_))
 ·have h:Lib.compareBytes x.v.s y.v.s≠0:=by simpa using h
  rw[if_pos h]
  exact XW rfl
 ·have h : ¬ Lib.compareBytes x.v.s y.v.s≠0:=by simpa using h
  rw[if_neg h]
  exact XW rfl
theorem Rp(t:Coef):(PV.agg [.str (PV.asStr (List.getD (PV.cells (enc t)) 0 default)),.int .i64 (PV.asInt (List.getD (PV.cells (enc t)) (0+1) default))])=enc t:=rfl
theorem Mh(a b:List Coef)(ha:a.length<=9223372036854775807): ∀ (m i:Nat),m+i=a.length->i<=b.length ->
  At Qu 0 (Za V7 (Zv (Xy (a.drop i) (b.drop i)))) VU 0 39 [(0,.pv (enc a)),(1,.pv (enc b)),(2,.pv (.fn 211)),(11,.pv (enc a)),(12,.pv (.int .i64 a.length)),(13,.pv (.int .i64 i))] []:=by
 intro m
 induction m with
 | zero=>
  intro i hi hb
  have ea:a.drop i=[]:=List.drop_of_length_le (by omega)
  rw[ea]
  refine Rt a b i (Yc (X4 (by omega)) (Yv (fun h=> ?_) fun h=> ?_))
  ·have h:a.length<b.length:=by simpa using h
   have:b.drop i=b[i]::b.drop (i+1):=List.drop_eq_getElem_cons (by omega)
   rw[this]
   exact XW (by rw[Xy])
  ·have h : ¬ a.length<b.length:=by simpa using h
   have:b.drop i=[]:=List.drop_of_length_le (by omega)
   rw[this]
   exact XW (by rw[Xy])
 | succ m ih=>
  intro i hi hb
  have hlt:i<a.length:=by omega
  have ea:a.drop i=a[i]::a.drop (i+1):=List.drop_eq_getElem_cons hlt
  rw[ea]
  refine Rt a b i (Z8 (Xm hlt) ⟨ZN hlt rfl,Yf hlt (Yv (fun h=> ?_) fun h=> ?_)⟩)
  ·have h:b.length<=i:=by
    have:(i:Int) ≥ ((List.map (enc:Coef->PV) b).length:Int):=h
    rw[List.length_map]at this
    omega
   have:b.drop i=[]:=List.drop_of_length_le h
   rw[this]
   exact XW (by rw[Xy])
  ·have h:i<b.length:=by
    have : ¬ (i:Int) ≥ ((List.map (enc:Coef->PV) b).length:Int):=h
    rw[List.length_map]at this
    omega
   have eb:b.drop i=b[i]::b.drop (i+1):=List.drop_eq_getElem_cons h
   rw[eb]
   refine⟨ZN h rfl,Yf h ?_⟩
   rw[Rp,Rp]
   refine Ze (a[i],b[i],()) rfl (b0b (fun hc=> ?_) fun hc=> ?_)
   ·have hc:QP a[i] b[i]≠0:=by simpa using hc
    exact XW (by rw[Xy,if_pos hc])
   ·have hc : ¬ QP a[i] b[i]≠0:=by simpa using hc
    have e:Xy (a[i]::a.drop (i+1)) (b[i]::b.drop (i+1))=Xy (a.drop (i+1)) (b.drop (i+1)):=by rw[Xy,if_neg hc]
    rw[e,next (by omega)]
    exact ih (i+1) (by omega) (by omega)
theorem a1f: ∀ a:List Coef×List Coef×FnV 211×Unit,(decide (a.1.length<=9223372036854775807)&&decide (a.2.1.length<=9223372036854775807))=true->Zc Qu 0 (Za V7 (Zv (Xy a.1 a.2.1))) VU [] (Z9 a4h (encL a)):=by
 rintro⟨a,b,g,⟨⟩⟩ h
 simp only[Bool.and_eq_true,decide_eq_true_eq]at h
 refine a9u a b ?_
 rw[List.length_map]
 exact Mh a b h.1 a.length 0 (by omega) (by omega)
theorem a7k: ∀ a:Lin×Lin×Unit,(Zy a.1&&Zy a.2.1)=true->Zc Tu 0 (Za Da (Zv (WV a.1 a.2.1))) Sw [] (Z9 b0u (encL a)):=by
 rintro⟨a,b,⟨⟩⟩ h
 show Zc Tu 0 (Za Da (Zv (WV a b))) _ _ _
 unfold WV
 refine b5d a b ⟨Zd (a.t,b.t,({}:FnV 211),()) rfl h,Ze (a.t,b.t,({}:FnV 211),()) rfl (b0b (fun hc=> ?_) fun hc=>Ze (a.k,b.k,()) rfl ?_)⟩
 ·have hc:Xy a.t b.t≠0:=by simpa using hc
  rw[if_pos hc]
  exact XW rfl
 ·have hc : ¬ Xy a.t b.t≠0:=by simpa using hc
  rw[if_neg hc]
  exact XW rfl
theorem b0d: ∀ a:Lin×Lin×Unit,(Zy a.1&&Zy a.2.1)=true->Zc a8c 0 (Za MG (Zv (WV a.1 a.2.1==0))) Mt [] (Z9 b7d (encL a)):=by
 rintro⟨a,b,⟨⟩⟩ h
 exact b8u a b ⟨Zd (a,b,()) rfl h,Ze (a,b,()) rfl (Zz rfl)⟩
end Go.Pl

namespace Go.Pl
open Go.RowKit
open Enc (enc dec is)
open EncL (encL decL isL)
structure BoxT where
 v:List Str
 m:Int
 deriving DecidableEq
instance:Enc BoxT where
 sz:=2
 enc x:=.agg [enc x.v,enc x.m]
 dec | .agg [a,b]=>⟨dec a,dec b⟩|_=>⟨[],0⟩
 is | .agg [a,b]=>is (List Str) a&&is Int b|_=>false
 is_enc v:=by simp
 dec_enc v:=by simp
 sub p h:=by
  cases p with
  | agg xs=>
   match xs,h with
   | [a,b],h=>
    simp only[Bool.and_eq_true]at h
    exact .agg (.cons (Enc.sub a h.1).2 (.cons (Enc.sub b h.2).2 .nil))
  | _=>cases h
@[simp] theorem c0m (a b : PV) : is BoxT (.agg [a, b]) = (is (List Str) a && is Int b) := rfl
@[simp] theorem b8p (a b : PV) : (dec (.agg [a, b]) : BoxT) = ⟨dec a, dec b⟩ := rfl
structure Mono where
 c:Int
 v:List Str
 deriving DecidableEq
instance:Enc Mono where
 sz:=2
 enc x:=.agg [enc x.c,enc x.v]
 dec | .agg [a,b]=>⟨dec a,dec b⟩|_=>⟨0,[]⟩
 is | .agg [a,b]=>is Int a&&is (List Str) b|_=>false
 is_enc v:=by simp
 dec_enc v:=by simp
 sub p h:=by
  cases p with
  | agg xs=>
   match xs,h with
   | [a,b],h=>
    simp only[Bool.and_eq_true]at h
    exact .agg (.cons (Enc.sub a h.1).2 (.cons (Enc.sub b h.2).2 .nil))
  | _=>cases h
@[simp] theorem c0p (a b : PV) : is Mono (.agg [a, b]) = (is Int a && is (List Str) b) := rfl
@[simp] theorem b9n (a b : PV) : (dec (.agg [a, b]) : Mono) = ⟨dec a, dec b⟩ := rfl
structure NilS where
 deriving DecidableEq
instance:Enc NilS where
 sz:=1
 enc _:=.sl 0 true []
 dec _:=⟨⟩
 is | .sl 0 true []=>true|_=>false
 is_enc _:=rfl
 dec_enc _:=rfl
 sub p h:=by
  cases p with
  | sl s t xs=>
   cases xs with
   | nil=>cases s with
    | zero=>cases t with
     | true=>exact .refl _
     | false=>cases h
    | succ s=>cases h
   | cons x xs=>cases s <;> cases t <;> cases h
  | _=>cases h
def QT{α:Type}(l:List α):Bool:=decide (l.length<=9223372036854775807)
def UR(m:Int):Nat->List Int->Option (List Int)
 | 0,_=>none
 | k+1,p=>if p.getD k 0=m then UR m k (p.set k 0)else some (p.set k (p.getD k 0+1))
def LK(m:Int)(p:List Int):Option (List Int):=UR m p.length p
end Go.Pl

namespace Go.Pl
open Go.RowKit
open Enc (enc dec is)
open EncL (encL decL isL)
inductive Walk (m:Int):List Int->List (List Int)->Prop
 | last {p}:LK m p=none->Walk m p [p]
 | step {p q l}:LK m p=some q->Walk m q l->Walk m p (p::l)
theorem M4(m x:Int): ∀ (k:Nat) (p:List Int),k<=p.length->UR m (k+1) (x::p) =
  match UR m k p with
  | some q=>some (x::q)
  | none=>if x=m then none else some ((x+1)::(List.replicate k 0++p.drop k)):=by
 intro k
 induction k with
 | zero=>intro p _;simp[UR]
 | succ k ih=>
  intro p hp
  rw[UR]
  have e:(x::p).getD (k+1) 0=p.getD k 0:=by simp[List.getD]
  rw[e]
  by_cases h:p.getD k 0=m
  ·have hn:UR m (k+1) p=UR m k (p.set k 0):=by rw[UR,if_pos h]
   rw[if_pos h,hn]
   have:=ih (p.set k 0) (by simp;omega)
   rw[List.set_cons_succ,this]
   have e2:List.replicate k (0:Int)++(p.set k 0).drop k=List.replicate (k+1) 0++p.drop (k+1):=by
    rw[List.replicate_succ',List.append_assoc]
    congr 1
    rw[List.drop_eq_getElem_cons (show k<(p.set k 0).length by simp;omega),List.drop_set_of_lt (by omega)]
    simp
   rw[e2]
  ·have hn:UR m (k+1) p=some (p.set k (p.getD k 0+1)):=by rw[UR,if_neg h]
   rw[if_neg h,hn]
   simp
theorem KI(m x:Int)(p:List Int):LK m (x::p) =
  match LK m p with
  | some q=>some (x::q)
  | none=>if x=m then none else some ((x+1)::List.replicate p.length 0):=by
 have:=M4 m x p.length p (Nat.le_refl _)
 rw[List.drop_length,List.append_nil]at this
 exact this
theorem EP(m:Int): ∀ (k:Nat) (p q:List Int),UR m k p=some q->q.length=p.length:=by
 intro k
 induction k with
 | zero=>intro p q h;cases h
 | succ k ih=>
  intro p q h
  rw[UR]at h
  split at h
  ·rw[ih _ _ h,List.length_set]
  ·cases h;rw[List.length_set]
theorem Walk.cons{m x:Int}{rest:List (List Int)}{p:List Int}{l:List (List Int)}(h:Walk m p l):(hr:(x=m∧rest=[])∨(x≠m∧Walk m ((x+1)::List.replicate p.length 0) rest))->Walk m (x::p) (l.map (x:: ·)++rest):=by
 induction h with
 | last h=>
  rename_i p
  rintro(⟨rfl,rfl⟩|⟨h1,h2⟩)
  ·refine .last ?_
   rw[KI,h];simp
  ·refine .step ?_ h2
   rw[KI,h];simp[h1]
 | step h _ ih=>
  rename_i p q l _
  intro hr
  refine .step (q:=x::q) ?_ (ih ?_)
  ·rw[KI,h]
  ·rw[EP m _ _ _ h];exact hr
def c0w(m:Nat):List Int:=(List.range (m+1)).map fun(i:Nat)=>(i:Int)
def b5p(m:Nat):Nat->List (List Int)
 | 0=>[[]]
 | n+1=>(c0w m).flatMap fun x=>(b5p m n).map (x:: ·)
theorem Walk.from{m n:Nat}(h:Walk m (List.replicate n 0) (b5p m n)): ∀ (d i:Nat),i+d=m->Walk m ((i:Int)::List.replicate n 0) (((List.range' i (d+1)).map fun(i:Nat)=>(i:Int)).flatMap fun x=>(b5p m n).map (x:: ·)):=by
 intro d
 induction d with
 | zero=>
  intro i hi
  have:=h.cons (x:=(i:Int)) (rest:=[]) (.inl ⟨by omega,rfl⟩)
  simpa using this
 | succ d ih=>
  intro i hi
  have h1:=ih (i+1) (by omega)
  have:=h.cons (x:=(i:Int)) (.inr ⟨by omega,by rw[List.length_replicate];exact_mod_cast h1⟩)
  rw[List.range'_succ,List.map_cons,List.flatMap_cons]
  exact this
def X5:List Int->List Int->Prop
 | x::p,y::q=>x<y∨(x=y∧X5 p q)
 | _,_=>False
end Go.Pl

namespace Go.Pl
open Go.RowKit
open Enc (enc dec is)
open EncL (encL decL isL)
end Go.Pl

namespace Go.Pl
open Go.RowKit
open Enc (enc dec is)
open EncL (encL decL isL)
set_option maxRecDepth 100000
def WX:IC:=(.seq (.reg [⟨(some 4),(.mv (.c (.bool false))),0,none⟩] none) (.seq (.seq (.reg [⟨(some 6),(.mv (.t 0)),0,none⟩,⟨(some 7),(.len 1 (.t 6)),0,none⟩,⟨(some 8),(.mv (.t 1)),0,none⟩,⟨(some 9),(.len 1 (.t 8)),0,none⟩,⟨(some 10),(.bin .num .neq (.t 7) (.t 9)),0,none⟩] none) (.cond (.t 10) (.seq (.reg [⟨(some 4),(.mv (.c (.bool false))),0,none⟩] none) .ret) .skip)) (.seq (.seq (.reg [⟨(some 5),(.mv (.c (.int .i64 0))),0,none⟩] none) (.block 0 (.loop [5,0,1] (.seq (.seq (.reg [⟨(some 11),(.mv (.t 5)),0,none⟩,⟨(some 12),(.mv (.t 0)),0,none⟩,⟨(some 13),(.len 1 (.t 12)),0,none⟩,⟨(some 14),(.bin .num .lss (.t 11) (.t 13)),0,none⟩] none) (.cond (.t 14) .skip (.exit 0))) (.seq (.block 1 (.seq (.reg [⟨(some 17),(.mv (.t 0)),0,none⟩,⟨(some 18),(.mv (.t 5)),0,none⟩,⟨(some 19),(.iaddr 1 (.t 17) (.t 18)),0,none⟩,⟨(some 20),(.load false [(.int .i64)] (.t 19)),0,none⟩,⟨(some 21),(.mv (.t 1)),0,none⟩,⟨(some 22),(.mv (.t 5)),0,none⟩,⟨(some 23),(.iaddr 1 (.t 21) (.t 22)),0,none⟩,⟨(some 24),(.load false [(.int .i64)] (.t 23)),0,none⟩,⟨(some 25),(.bin .num .neq (.t 20) (.t 24)),0,none⟩] (some [[],[],[0,1],[2,0,1],[],[],[4,5],[6,4,5],[3,7,2,0,1,6,4,5]])) (.cond (.t 25) (.seq (.reg [⟨(some 4),(.mv (.c (.bool false))),0,none⟩] none) .ret) .skip))) (.reg [⟨(some 15),(.mv (.t 5)),0,none⟩,⟨(some 16),(.bin .num .add (.t 15) (.c (.int .i64 1))),0,none⟩,⟨(some 5),(.mv (.t 16)),0,none⟩] none)))))) (.seq (.reg [⟨(some 4),(.mv (.c (.bool true))),0,none⟩] none) .ret))))
def WS:List IRes:=[(.tmp 4)]
abbrev a0l:Nat:=26
def VF:ZH:=XI []
theorem a1v{G:PV->Prop}(a b:List Int)(h:if ((↑(List.length (List.map enc a)):Int) != (↑(List.length (List.map enc b)):Int))=true then G ((.bool false))else(At VF 0 (Za WS G) WX 0 26 [(0,(.pv (.sl 1 false (List.map enc a)))),(1,(.pv (.sl 1 false (List.map enc b)))),(5,(.pv (.int .i64 0)))] [])):Zc VF 0 (Za WS G) WX [] (Z9 26 [enc a,enc b]):=Zc.tp (.lit (.ask (.nil) (.nil))) h (by kernel_rfl)
theorem Av{G:PV->Prop}(a b:List Int)(i:Int)(h:if (decide (i<(↑(List.length (List.map enc a)):Int)))=true then(decide (0<=i)&&decide (Int.toNat i<List.length (List.map enc a))&&Enc.sz Int==1)=true∧(∃ y0:Int,AV.pv (PV.rptr (PV.cells (List.getD (List.map enc a) (Int.toNat i) default)))=AV.pv (PV.rptr (PV.cells ((enc) y0)))∧((decide (0<=i)&&decide (Int.toNat i<List.length (List.map enc b))&&Enc.sz Int==1)=true∧(∃ y1:Int,AV.pv (PV.rptr (PV.cells (List.getD (List.map enc b) (Int.toNat i) default)))=AV.pv (PV.rptr (PV.cells ((enc) y1)))∧(if (PV.asInt (List.getD (PV.cells (enc y0)) 0 default) != PV.asInt (List.getD (PV.cells (enc y1)) 0 default))=true then G ((.bool false))else(At VF 0 (Za WS G) WX 0 26 [(0,(.pv (.sl 1 false (List.map enc a)))),(1,(.pv (.sl 1 false (List.map enc b)))),(5,(.pv (.int .i64 (IntKind.wrap IntKind.i64 (i+1)))))] [])))))else(G ((.bool true)))):At VF 0 (Za WS G) WX 0 26 [(0,.pv (enc a)),(1,.pv (enc b)),(5,.pv (.int .i64 i))] []:=At.tp (.lit (.ask (.req (.abs (Int) (fun YY=>AV.pv (PV.rptr (PV.cells ((enc) YY)))) (.lit (.req (.abs (Int) (fun YY=>AV.pv (PV.rptr (PV.cells ((enc) YY)))) (.lit (.lit (.ask (.nil) (.lit (.nil)))))))))) (.nil))) h (by kernel_rfl)
end Go.Pl

namespace Go.Pl
open Go.RowKit
open Enc (enc dec is)
open EncL (encL decL isL)
set_option maxRecDepth 100000
-- IMPOSSIBLE
end Go.Pl

namespace Go.Pl
open Go.RowKit
open Enc (enc dec is)
open EncL (encL decL isL)
theorem E9{α:Type}{l:List α}:QT l=true ↔ l.length<=9223372036854775807:=by simp[QT]
end Go.Pl

namespace Go.Pl
open Go.RowKit
open Enc (enc dec is)
open EncL (encL decL isL)
set_option maxRecDepth 100000
end Go.Pl

namespace Go.Pl
open Go.RowKit
open Enc (enc dec is)
open EncL (encL decL isL)
set_option maxRecDepth 100000
end Go.Pl

namespace Go.Pl
open Go.RowKit
open Enc (enc dec is)
open EncL (encL decL isL)
end Go.Pl

namespace Go.Pl
open Go.RowKit
open Enc (enc dec is)
open EncL (encL decL isL)
end Go.Pl

namespace Go.Pl
open Go.RowKit
open Enc (enc dec is)
open EncL (encL decL isL)
end Go.Pl

namespace Go.Pl
open Go.RowKit
open Enc (enc dec is)
open EncL (encL decL isL)
end Go.Pl

namespace Go.Pl
open Go.RowKit
open Enc (enc dec is)
open EncL (encL decL isL)
theorem a9n{α:Type}[DecidableEq α](x y:α)(a b:List α):decide (x::a=y::b)=(decide (x=y)&&decide (a=b)):=by
 rw[Bool.eq_iff_iff];simp
theorem PE(a b:List Int)(ha:a.length<=9223372036854775807)(hab:a.length=b.length): ∀ (k i:Nat),k+i=a.length ->
  At VF 0 (Za WS (Zv (decide (a.drop i=b.drop i)))) WX 0 26 [(0,.pv (enc a)),(1,.pv (enc b)),(5,.pv (.int .i64 i))] []:=by
 intro k
 induction k with
 | zero=>
  intro i hi
  rw[List.drop_of_length_le (by omega),List.drop_of_length_le (by omega)]
  exact Av a b i (Yc (UF (by omega)) (Zz rfl))
 | succ k ih=>
  intro i hi
  have hlt:i<a.length:=by omega
  have hlt2:i<b.length:=by omega
  have h:=ih (i+1) (by omega)
  rw[List.drop_eq_getElem_cons hlt,List.drop_eq_getElem_cons hlt2,a9n]
  refine Av a b i (Z8 (V5 hlt) ⟨ZN hlt rfl,Yf hlt ⟨ZN hlt2 rfl,Yf hlt2 ?_⟩⟩)
  show if (a[i] != b[i])=true then _ else _
  by_cases e:a[i]=b[i]
  ·rw[if_neg (by simp[e]),next (by omega),decide_eq_true e,Bool.true_and]
   exact h
  ·rw[if_pos (by simp[e]),decide_eq_false e,Bool.false_and]
   exact Zz rfl
theorem NY: ∀ x:List Int×List Int×Unit,QT x.1=true->Zc VF 0 (Za WS (Zv (decide (x.1=x.2.1)))) WX [] (Z9 a0l (encL x)):=by
 rintro⟨a,b,⟨⟩⟩ h
 refine a1v a b ?_
 simp only[List.length_map]
 by_cases e:a.length=b.length
 ·rw[if_neg (by simp[e])]
  exact PE a b (E9.1 h) e a.length 0 (by omega)
 ·rw[if_pos (by simp;omega)]
  exact Zz (by simp;rintro rfl;exact e rfl)
end Go.Pl

namespace Go.Pl
open Go.RowKit
open Enc (enc dec is)
open EncL (encL decL isL)
def Vj(a n:Nat)(m:List Int):List Int:=m.take a++List.replicate n 0++m.drop a
def Xq(k:Int):Bool:=k==1||k==2
mutual
def X0(a n:Int):Cert->Option Cert
 | .mk k m l ks=>if (decide (a<0)||decide (n<0)||decide (n>100)||(Xq k&&decide ((m.length:Int)<a)))=true then none else
  match ZG a n ks with
  | none=>none
  | some ks'=>some (.mk k (if Xq k=true then Vj a.toNat n.toNat m else m) l ks')
def ZG(a n:Int):List Cert->Option (List Cert)
 | []=>some []
 | c::cs=>match X0 a n c with
  | none=>none
  | some c'=>match ZG a n cs with
   | none=>none
   | some cs'=>some (c'::cs')
end
def zC:Cert:=.mk 0 [] ⟨0,[]⟩ []
def b9w:Option Cert->Cert×Int
 | some c=>(c,0)
 | none=>(zC,2)
def Xv(a n:Int)(c:Cert):Cert×Int:=b9w (X0 a n c)
structure C5 where
 k:Int
 m:List Int
 lk:Int
 lt:List Coef
 ks:List Cert
instance:Enc C5 where
 sz:=5
 enc x:=.agg [enc x.k,enc x.m,enc x.lk,enc x.lt,enc x.ks]
 dec | .agg [a,b,c,d,e]=>⟨dec a,dec b,dec c,dec d,dec e⟩|_=>⟨0,[],0,[],[]⟩
 is | .agg [a,b,c,d,e]=>is Int a&&is (List Int) b&&is Int c&&is (List Coef) d&&is (List Cert) e|_=>false
 is_enc v:=by simp
 dec_enc v:=by simp
 sub p h:=by
  cases p with
  | agg xs=>
   match xs,h with
   | [a,b,c,d,e],h=>
    simp only[Bool.and_eq_true]at h
    exact .agg (.cons (Enc.sub a h.1.1.1.1).2 (.cons (Enc.sub b h.1.1.1.2).2 (.cons (Enc.sub c h.1.1.2).2 (.cons (Enc.sub d h.1.2).2 (.cons (Enc.sub e h.2).2 .nil)))))
  | _=>cases h
def c5:Cert->C5
 | .mk k m l ks=>⟨k,m,l.k,l.t,ks⟩
def C5.c(x:C5):Cert:=.mk x.k x.m ⟨x.lk,x.lt⟩ x.ks
theorem QQ(c:Cert):(enc (c5 c):PV)=enc c:=by
 cases c with
 | mk k m l ks=>
  show PV.agg [enc k,enc m,enc l.k,enc l.t,.sl 5 false (ks.map enc)]=PV.agg [enc k,enc m,enc l.k,enc l.t,.sl 5 false (Xp ks)]
  rw[Dl]
  rfl
def Zk(a n:Int)(c:Cert):C5×Int:=(c5 (Xv a n c).1,(Xv a n c).2)
mutual
def cW:Cert->Bool
 | .mk _ m l ks=>decide (m.length<=1000)&&decide (l.t.length<=1000)&&decide (ks.length<=1000)&&KV ks
def KV:List Cert->Bool
 | []=>true
 | c::cs=>cW c&&KV cs
end
theorem XK{c:Cert}: ∀ {cs:List Cert},KV cs=true->c∈cs->cW c=true
 | [],_,h=>by cases h
 | x::xs,hc,h=>by
  simp only[KV,Bool.and_eq_true]at hc
  cases h with
  | head=>exact hc.1
  | tail _ h=>exact XK hc.2 h
end Go.Pl

namespace Go.Pl.Cm
open Go.RowKit
open Enc (enc dec is)
open EncL (encL decL isL)
structure CmpOK {α:Type} (f:α->α->Int):Prop where
 anti : ∀ a b,f b a = - f a b
 zero : ∀ a b,f a b=0 ↔ a=b
 trans : ∀ a b c,f a b<=0->f b c<=0->f a c<=0
 rng : ∀ a b,-1<=f a b∧f a b<=1
theorem CmpOK.strict{α:Type}{f:α->α->Int}(h:CmpOK f){a b c:α}(h1:f a b<0)(h2:f b c<=0):f a c<0:=by
 have h3:=h.trans a b c (by omega) h2
 by_cases h0:f a c=0
 ·obtain rfl:=(h.zero a c).1 h0
  have:=h.anti a b
  omega
 ·omega
def X5{α:Type}(f:α->α->Int):List α->List α->Int
 | [],[]=>0
 | [],_::_=> -1
 | _::_,[]=>1
 | x::l,y::m=>if f x y≠0 then f x y else X5 f l m
theorem Am{α:Type}{f:α->α->Int}(h:CmpOK f): ∀ a b,X5 f b a = - X5 f a b
 | [],[]=>rfl
 | [],_::_=>rfl
 | _::_,[]=>rfl
 | x::l,y::m=>by
  have h1:=h.anti x y
  rw[X5,X5,h1,Am h l m]
  by_cases h0:f x y=0
  ·rw[if_neg (by omega),if_neg (by omega)]
  ·rw[if_pos (by omega),if_pos (by omega)]
theorem Ab{α:Type}{f:α->α->Int}(h:CmpOK f): ∀ a b,X5 f a b=0 ↔ a=b
 | [],[]=>by simp[X5]
 | [],_::_=>by simp[X5]
 | _::_,[]=>by simp[X5]
 | x::l,y::m=>by
  rw[X5,List.cons.injEq,<- h.zero x y,<- Ab h l m]
  by_cases h0:f x y=0
  ·rw[if_neg (by omega)];omega
  ·rw[if_pos (by omega)];omega
theorem P7{α:Type}{f:α->α->Int}(h:CmpOK f): ∀ a b,-1<=X5 f a b∧X5 f a b<=1
 | [],[]=>by simp[X5]
 | [],_::_=>by simp[X5]
 | _::_,[]=>by simp[X5]
 | x::l,y::m=>by
  rw[X5]
  split
  ·exact h.rng x y
  ·exact P7 h l m
theorem Dh{α:Type}{f:α->α->Int}(h:CmpOK f): ∀ a b c,X5 f a b<=0->X5 f b c<=0->X5 f a c<=0
 | [],_,[],_,_=>by simp[X5]
 | [],_,_::_,_,_=>by simp[X5]
 | _::_,[],_,h1,_=>by simp[X5]at h1
 | _::_,_::_,[],_,h2=>by simp[X5]at h2
 | x::l,y::m,z::n,h1,h2=>by
  rw[X5]at h1 h2 ⊢
  by_cases a:f x y=0
  ·obtain rfl:=(h.zero x y).1 a
   rw[if_neg (by omega)]at h1
   by_cases b:f x z=0
   ·rw[if_neg (by omega)]at h2 ⊢
    exact Dh h l m n h1 h2
   ·rw[if_pos b]at h2 ⊢
    exact h2
  ·rw[if_pos a]at h1
   by_cases b:f y z=0
   ·obtain rfl:=(h.zero y z).1 b
    rw[if_pos a]
    exact h1
   ·rw[if_pos b]at h2
    have:=h.strict (show f x y<0 by omega) h2
    rw[if_pos (by omega)]
    omega
theorem Fh{α:Type}{f:α->α->Int}(h:CmpOK f):CmpOK (X5 f):=⟨Am h,Ab h,Dh h,P7 h⟩
theorem Fq{α β γ:Type}{f:β->β->Int}{g:γ->γ->Int}(p:α->β)(q:α->γ)(hpq : ∀ a b,p a=p b->q a=q b->a=b)(hf:CmpOK f)(hg:CmpOK g):CmpOK fun a b:α=>if f (p a) (p b)≠0 then f (p a) (p b)else g (q a) (q b):=by
 refine⟨fun a b=> ?_,fun a b=> ?_,fun a b c h1 h2=> ?_,fun a b=> ?_⟩
 ·have h1:=hf.anti (p a) (p b)
  have h2:=hg.anti (q a) (q b)
  try simp only
  by_cases h0:f (p a) (p b)=0
  ·rw[if_neg (by omega),if_neg (by omega),h2]
  ·rw[if_pos (by omega),if_pos h0,h1]
 ·try simp only
  by_cases h0:f (p a) (p b)=0
  ·rw[if_neg (by omega),hg.zero]
   exact⟨fun h=>hpq a b ((hf.zero _ _).1 h0) h,fun h=>by rw[h]⟩
  ·rw[if_pos h0]
   exact⟨fun h=>absurd h h0,fun h=>absurd ((hf.zero _ _).2 (by rw[h])) h0⟩
 ·try simp only at h1 h2 ⊢
  by_cases x:f (p a) (p b)=0
  ·have e:=(hf.zero _ _).1 x
   rw[if_neg (by omega)]at h1
   rw[e]
   by_cases y:f (p b) (p c)=0
   ·rw[if_neg (by omega)]at h2 ⊢
    exact hg.trans _ _ _ h1 h2
   ·rw[if_pos y]at h2 ⊢
    exact h2
  ·rw[if_pos x]at h1
   by_cases y:f (p b) (p c)=0
   ·have e:=(hf.zero _ _).1 y
    rw[<- e,if_pos x]
    exact h1
   ·rw[if_pos y]at h2
    have:=hf.strict (show f (p a) (p b)<0 by omega) h2
    rw[if_pos (by omega)]
    omega
 ·try simp only
  split
  ·exact hf.rng _ _
  ·exact hg.rng _ _
theorem Kk:CmpOK Ug:=by
 refine⟨fun a b=> ?_,fun a b=> ?_,fun a b c=> ?_,fun a b=> ?_⟩ <;> unfold Ug <;> (repeat' split) <;> omega
def O8(a b:UInt8):Int:=if a<b then -1 else if b<a then 1 else 0
theorem U5(a b:UInt8):O8 a b=Ug a.toNat b.toNat:=by
 unfold O8 Ug
 simp only[UInt8.lt_iff_toNat_lt]
 repeat' split
 all_goals omega
theorem b1o:CmpOK O8:=by
 refine⟨fun a b=> ?_,fun a b=> ?_,fun a b c=> ?_,fun a b=> ?_⟩
 ·rw[U5,U5];exact Kk.anti _ _
 ·rw[U5,Kk.zero]
  exact⟨fun h=>UInt8.toNat_inj.1 (by omega),fun h=>by rw[h]⟩
 ·rw[U5,U5,U5];exact Kk.trans _ _ _
 ·rw[U5];exact Kk.rng _ _
theorem Rj: ∀ a b:List UInt8,Lib.compareBytes a b=X5 O8 a b
 | [],[]=>rfl
 | [],_::_=>rfl
 | _::_,[]=>rfl
 | x::l,y::m=>by
  rw[Lib.compareBytes,X5,Rj l m]
  unfold O8
  by_cases h1:x<y
  ·simp[h1]
  ·by_cases h2:y<x
   ·simp[h1,h2]
   ·simp[h1,h2]
theorem Px:CmpOK Lib.compareBytes:=by
 have:Lib.compareBytes=X5 O8:=by funext a b;exact Rj a b
 rw[this]
 exact Fh b1o
theorem SL:CmpOK QP:=Fq (fun x:Coef=>x.v.s) (fun x:Coef=>x.c) (fun a b h1 h2=>by
 obtain⟨⟨s⟩,c⟩:=a
 obtain⟨⟨s'⟩,c'⟩:=b
 simp only at h1 h2
 rw[h1,h2]) Px Kk
theorem PY: ∀ a b:List Coef,Xy a b=X5 QP a b
 | [],[]=>rfl
 | [],_::_=>rfl
 | _::_,[]=>rfl
 | x::l,y::m=>by rw[Xy,X5,PY l m]
theorem a4r:CmpOK Xy:=by
 have:Xy=X5 QP:=by funext a b;exact PY a b
 rw[this]
 exact Fh SL
theorem Ev:CmpOK WV:=Fq (fun x:Lin=>x.t) (fun x:Lin=>x.k) (fun a b h1 h2=>by
 obtain⟨k,t⟩:=a
 obtain⟨k',t'⟩:=b
 simp only at h1 h2
 rw[h1,h2]) a4r Kk
theorem Rn: ∀ a b:List UInt8,Lib.compareBytes a b<0 ↔ a<b
 | [],[]=>by simp[Lib.compareBytes]
 | [],_::_=>by simp[Lib.compareBytes]
 | _::_,[]=>by simp[Lib.compareBytes]
 | x::l,y::m=>by
  rw[Lib.compareBytes,List.cons_lt_cons_iff,<- Rn l m]
  by_cases h1:x<y
  ·simp[h1]
  ·by_cases h2:y<x
   ·have:x≠y:=fun e=>by subst e;exact h1 h2
    simp[h1,h2,this]
   ·have:x=y:=UInt8.toNat_inj.1 (by simp only[UInt8.lt_iff_toNat_lt]at h1 h2;omega)
    simp[this]
theorem b0a(x y:Coef):QP x y<0 ↔ (x.v.s<y.v.s∨x.v.s=y.v.s∧x.c<y.c):=by
 unfold QP
 rw[<- Rn,<- Px.zero]
 split
 ·omega
 ·have:Ug x.c y.c<0 ↔ x.c<y.c:=by
   unfold Ug
   repeat' split
   all_goals omega
  rw[this]
  omega
theorem FY: ∀ a b:List Coef,JM a b=Xy a b
 | [],[]=>rfl
 | [],_::_=>rfl
 | _::_,[]=>rfl
 | x::l,y::m=>by
  have h1:=b0a x y
  have h2:=SL.zero x y
  have h3:=SL.rng x y
  rw[JM,Xy,FY l m]
  by_cases a:QP x y<0
  ·rw[if_pos (h1.1 a),if_pos (by omega)];omega
  ·rw[if_neg (fun h=>a (h1.2 h))]
   by_cases b:QP x y=0
   ·rw[if_pos (h2.1 b),if_neg (by omega)]
   ·rw[if_neg (fun h=>b (h2.2 h)),if_pos b];omega
theorem EE(a b:Lin):BM a b=WV a b:=by
 unfold BM WV
 rw[FY]
theorem cmpLin_dec(a b:Lin):(WV a b==0)=decide (a=b):=by
 have:=Ev.zero a b
 by_cases h:a=b
 ·rw[this.2 h,decide_eq_true h];rfl
 ·rw[decide_eq_false h]
  exact beq_eq_false_iff_ne.2 fun e=>h (this.1 e)
theorem cmpL_dec(a b:Lin):(BM a b==0)=decide (a=b):=by rw[EE,cmpLin_dec]
end Go.Pl.Cm

namespace Go.Pl
open Go.RowKit
open Enc (enc dec is)
open EncL (encL decL isL)
mutual
def GD:Cert->Cert->Bool
 | .mk k m l ks,.mk k' m' l' ks'=>(k==k')&&(decide (m=m')&&(decide (l=l')&&Qe ks ks'))
def Qe:List Cert->List Cert->Bool
 | [],[]=>true
 | c::cs,d::ds=>GD c d&&Qe cs ds
 | [],_::_=>false
 | _::_,[]=>false
end
mutual
theorem Nb: ∀ c:Cert,GD c c=true
 | .mk k m l ks=>by simp[GD,AQ ks]
theorem AQ: ∀ cs:List Cert,Qe cs cs=true
 | []=>by simp[Qe]
 | c::cs=>by simp[Qe,Nb c,AQ cs]
end
theorem DR: ∀ {cs ds:List Cert},cs.length≠ds.length->Qe cs ds=false
 | [],[],h=>absurd rfl h
 | [],_::_,_=>by simp[Qe]
 | _::_,[],_=>by simp[Qe]
 | c::cs,d::ds,h=>by rw[Qe,DR (cs:=cs) (ds:=ds) (by simpa using h),Bool.and_false]
theorem Df{a n:Int}: ∀ {cs ds:List Cert},ZG a n cs=some ds->ds.length=cs.length
 | [],ds,h=>by rw[ZG]at h;cases h;rfl
 | c::cs,ds,h=>by
  rw[ZG]at h
  cases hc:X0 a n c with
  | none=>rw[hc]at h;cases h
  | some c'=>
   rw[hc]at h
   cases hd:ZG a n cs with
   | none=>rw[hd]at h;cases h
   | some cs'=>
    rw[hd]at h
    cases h
    simp[Df hd]
end Go.Pl

namespace Go.Pl
open Go.RowKit
open Enc (enc dec is)
open EncL (encL decL isL)
set_option maxRecDepth 100000
def XA:IC:=(.seq (.reg [⟨(some 5),(.box 5 (.t 2)),0,none⟩,⟨(some 6),(.mv (.c (.bool false))),1,none⟩] none) (.seq (.seq (.reg [⟨(some 13),(.call (.c (.fn 23)) []),0,none⟩,⟨(some 14),(.un .not (.t 13)),2,none⟩] none) (.cond (.t 14) (.seq (.reg [⟨(some 6),(.mv (.c (.bool false))),0,none⟩] none) .ret) .skip)) (.seq (.seq (.reg [⟨(some 15),(.mv (.t 0)),0,none⟩,⟨(some 16),(.call (.c (.fn 31)) [(.t 15),(.c (.int .i64 8))]),0,none⟩,⟨(some 17),(.un .not (.t 16)),2,none⟩,⟨(some 18),(.mv (.t 17)),2,none⟩,⟨(some 19),(.mv (.t 1)),2,(some (18,false))⟩,⟨(some 20),(.call (.c (.fn 31)) [(.t 19),(.c (.int .i64 4))]),2,(some (18,false))⟩,⟨(some 21),(.un .not (.t 20)),4,(some (18,false))⟩,⟨(some 22),(.pick (.t 18) (.c (.bool true)) (.t 21)),4,none⟩,⟨(some 23),(.mv (.t 22)),4,none⟩,⟨(some 24),(.load true [(.int .i64),(.sl 1),(.int .i64),(.sl 2),(.sl 5)] (.t 5)),4,(some (23,false))⟩,⟨(some 25),(.call (.c (.fn 24)) [(.t 24),(.c (.int .i64 12))]),4,(some (23,false))⟩,⟨(some 26),(.un .not (.t 25)),6,(some (23,false))⟩,⟨(some 27),(.pick (.t 23) (.c (.bool true)) (.t 26)),6,none⟩] none) (.cond (.t 27) (.seq (.reg [⟨(some 6),(.mv (.c (.bool true))),0,none⟩] none) .ret) .skip)) (.seq (.seq (.reg [⟨(some 7),(.mv (.c (.int .i64 (-1)))),0,none⟩] none) (.block 0 (.loop [7,0,5,1] (.seq (.seq (.reg [⟨(some 28),(.mv (.t 7)),0,none⟩,⟨(some 29),(.mv (.t 0)),0,none⟩,⟨(some 30),(.len 1 (.t 29)),0,none⟩,⟨(some 31),(.bin .num .add (.t 30) (.c (.int .i64 1))),0,none⟩,⟨(some 32),(.bin .num .leq (.t 28) (.t 31)),0,none⟩] none) (.cond (.t 32) .skip (.exit 0))) (.seq (.block 1 (.seq (.reg [⟨(some 36),(.load true [(.int .i64),(.sl 1),(.int .i64),(.sl 2),(.sl 5)] (.t 5)),0,none⟩,⟨(some 37),(.mv (.t 7)),0,none⟩,⟨(some 38),(.mv (.t 1)),0,none⟩,⟨(some 39),(.len 1 (.t 38)),0,none⟩,⟨(some 40),(.call (.c (.fn 32)) [(.t 36),(.t 37),(.t 39)]),0,none⟩,⟨(some 35),(.mv (.t 40)),2,none⟩,⟨(some 41),(.extract (.t 35) 0),2,none⟩,⟨(some 42),(.extract (.t 35) 1),2,none⟩,⟨(some 8),(.alloc (.agg [(.int .i64 0),(.sl 0 true []),(.int .i64 0),(.sl 0 true []),(.sl 0 true [])])),2,none⟩,⟨none,(.store 5 (.t 8) (.t 41)),3,none⟩,⟨(some 9),(.mv (.t 42)),3,none⟩] none) (.seq (.reg [⟨(some 44),(.load true [(.int .i64),(.sl 1),(.int .i64),(.sl 2),(.sl 5)] (.t 5)),0,none⟩,⟨(some 45),(.mv (.t 7)),0,none⟩,⟨(some 46),(.mv (.t 1)),0,none⟩,⟨(some 47),(.len 1 (.t 46)),0,none⟩,⟨(some 48),(.call (.c (.fn 33)) [(.t 44),(.t 45),(.t 47)]),0,none⟩,⟨(some 43),(.mv (.t 48)),2,none⟩,⟨(some 49),(.extract (.t 43) 0),2,none⟩,⟨(some 50),(.extract (.t 43) 1),2,none⟩,⟨(some 10),(.alloc (.agg [(.int .i64 0),(.sl 0 true []),(.int .i64 0),(.sl 0 true []),(.sl 0 true [])])),2,none⟩,⟨none,(.store 5 (.t 10) (.t 49)),3,none⟩,⟨(some 11),(.mv (.t 50)),3,none⟩] none) (.seq (.seq (.reg [⟨(some 51),(.load true [(.int .i64),(.sl 1),(.int .i64),(.sl 2),(.sl 5)] (.t 8)),0,none⟩,⟨(some 52),(.load true [(.int .i64),(.sl 1),(.int .i64),(.sl 2),(.sl 5)] (.t 10)),0,none⟩,⟨(some 53),(.call (.c (.fn 30)) [(.t 51),(.t 52)]),0,none⟩,⟨(some 54),(.un .not (.t 53)),2,none⟩,⟨(some 55),(.mv (.t 54)),2,none⟩,⟨(some 56),(.mv (.t 9)),2,(some (55,false))⟩,⟨(some 57),(.mv (.t 11)),2,(some (55,false))⟩,⟨(some 58),(.bin .num .neq (.t 56) (.t 57)),2,(some (55,false))⟩,⟨(some 59),(.pick (.t 55) (.c (.bool true)) (.t 58)),2,none⟩,⟨(some 60),(.mv (.t 59)),2,none⟩,⟨(some 61),(.load true [(.int .i64),(.sl 1),(.int .i64),(.sl 2),(.sl 5)] (.t 8)),2,(some (60,false))⟩,⟨(some 62),(.load true [(.int .i64),(.sl 1),(.int .i64),(.sl 2),(.sl 5)] (.t 5)),2,(some (60,false))⟩,⟨(some 63),(.call (.c (.fn 34)) [(.t 61),(.t 62)]),2,(some (60,false))⟩,⟨(some 64),(.load true [(.int .i64),(.sl 1),(.int .i64),(.sl 2),(.sl 5)] (.t 10)),4,(some (60,false))⟩,⟨(some 65),(.load true [(.int .i64),(.sl 1),(.int .i64),(.sl 2),(.sl 5)] (.t 5)),4,(some (60,false))⟩,⟨(some 66),(.call (.c (.fn 30)) [(.t 64),(.t 65)]),4,(some (60,false))⟩,⟨(some 67),(.bin .bool .neq (.t 63) (.t 66)),6,(some (60,false))⟩,⟨(some 68),(.pick (.t 60) (.c (.bool true)) (.t 67)),6,none⟩] (some [[],[],[0,1],[2,0,1],[3,2,0,1],[4,3,2,0,1],[4,3,2,0,1],[5,6,4,3,2,0,1],[4,7,3,2,0,1,5,6],[8,4,7,3,2,0,1,5,6],[9,8,4,7,3,2,0,1,5,6],[9,8,4,7,3,2,0,1,5,6],[10,11,9,8,4,7,3,2,0,1,5,6],[9,8,4,7,3,2,0,1,5,6],[9,8,4,7,3,2,0,1,5,6],[13,14,12,9,8,4,7,3,2,0,1,5,6,10,11],[12,15,9,10,11,8,4,7,3,2,0,1,5,6,13,14],[9,16,8,4,7,3,2,0,1,5,6,12,15,10,11,13,14]])) (.cond (.t 68) (.seq (.reg [⟨(some 6),(.mv (.c (.bool false))),0,none⟩] none) .ret) .skip)) (.seq (.seq (.reg [⟨(some 69),(.mv (.t 7)),0,none⟩,⟨(some 70),(.bin .num .lss (.t 69) (.c (.int .i64 0))),0,none⟩,⟨(some 71),(.mv (.t 70)),0,none⟩,⟨(some 72),(.mv (.t 7)),0,(some (71,false))⟩,⟨(some 73),(.mv (.t 0)),0,(some (71,false))⟩,⟨(some 74),(.len 1 (.t 73)),0,(some (71,false))⟩,⟨(some 75),(.bin .num .gtr (.t 72) (.t 74)),0,(some (71,false))⟩,⟨(some 76),(.pick (.t 71) (.c (.bool true)) (.t 75)),0,none⟩,⟨(some 77),(.mv (.t 76)),0,none⟩,⟨(some 78),(.mv (.t 1)),0,(some (77,false))⟩,⟨(some 79),(.call (.c (.fn 35)) [(.t 78)]),0,(some (77,false))⟩,⟨(some 80),(.un .not (.t 79)),2,(some (77,false))⟩,⟨(some 81),(.pick (.t 77) (.c (.bool true)) (.t 80)),2,none⟩,⟨(some 82),(.mv (.t 81)),2,none⟩,⟨(some 83),(.mv (.t 0)),2,(some (82,false))⟩,⟨(some 84),(.load true [(.int .i64),(.sl 1),(.int .i64),(.sl 2),(.sl 5)] (.t 5)),2,(some (82,false))⟩,⟨(some 85),(.call (.c (.fn 36)) [(.t 83),(.t 84)]),2,(some (82,false))⟩,⟨(some 86),(.bin .num .neq (.t 85) (.c (.int .i64 0))),4,(some (82,false))⟩,⟨(some 87),(.pick (.t 82) (.c (.bool true)) (.t 86)),4,none⟩] none) (.cond (.t 87) (.exit 1) .skip)) (.seq (.reg [⟨(some 88),(.bslice 100 3 0 (.agg [(.bool false),(.int .i64 0),(.sl 0 true [])]) []),0,none⟩,⟨(some 89),(.mv (.t 0)),1,none⟩,⟨(some 90),(.mv (.t 7)),1,none⟩,⟨(some 91),(.slc 3 (.t 89) none (some (.t 90)) none),1,none⟩,⟨(some 92),(.append 100 3 40 (.t 88) (.t 91)),1,none⟩,⟨(some 93),(.mv (.t 1)),2,none⟩,⟨(some 94),(.append 100 3 40 (.t 92) (.t 93)),2,none⟩,⟨(some 95),(.mv (.t 0)),3,none⟩,⟨(some 96),(.mv (.t 7)),3,none⟩,⟨(some 97),(.slc 3 (.t 95) (some (.t 96)) none none),3,none⟩,⟨(some 98),(.append 100 3 40 (.t 94) (.t 97)),3,none⟩,⟨(some 12),(.mv (.t 98)),4,none⟩] (some [[],[],[],[1,2],[0,3,1,2],[],[4,5,0,3,1,2],[],[],[7,8],[6,9,4,5,0,3,1,2,7,8],[10,0,1,2,3,4,5,6,7,8,9]])) (.seq (.reg [⟨(some 99),(.mv (.t 9)),0,none⟩,⟨(some 100),(.bin .num .neq (.t 99) (.c (.int .i64 0))),0,none⟩,⟨(some 101),(.mv (.t 100)),0,none⟩,⟨(some 102),(.mv (.t 12)),0,(some (101,false))⟩,⟨(some 103),(.load true [(.int .i64),(.sl 1),(.int .i64),(.sl 2),(.sl 5)] (.t 8)),0,(some (101,false))⟩,⟨(some 104),(.call (.c (.fn 36)) [(.t 102),(.t 103)]),0,(some (101,false))⟩,⟨(some 105),(.bin .num .neq (.t 104) (.c (.int .i64 0))),2,(some (101,false))⟩,⟨(some 106),(.pick (.t 101) (.c (.bool true)) (.t 105)),2,none⟩] none) (.cond (.t 106) (.seq (.reg [⟨(some 6),(.mv (.c (.bool false))),0,none⟩] none) .ret) .skip)))))))) (.reg [⟨(some 33),(.mv (.t 7)),0,none⟩,⟨(some 34),(.bin .num .add (.t 33) (.c (.int .i64 1))),0,none⟩,⟨(some 7),(.mv (.t 34)),0,none⟩] none)))))) (.seq (.reg [⟨(some 6),(.mv (.c (.bool true))),0,none⟩] none) .ret)))))
def XB:List IRes:=[(.tmp 6)]
abbrev a5w:Nat:=107
def Ww:ZH:=XI [(23,.pure (preT (fun _:Unit=>true)) (Zf (fun _:Unit=>true))),(31,.pure (preT (fun x:List Fact×Int×Unit=>YA x.1)) (Zf (fun x:List Fact×Int×Unit=>Gy x.1 x.2.1))),(24,.pure (preT (fun x:Cert×Int×Unit=>UA x.1)) (Zf (fun x:Cert×Int×Unit=>Xo x.1 x.2.1))),(32,.pure (preT (fun x:Cert×Int×Int×Unit=>cW x.1&&decide (x.2.1<=1000))) (Zf (fun x:Cert×Int×Int×Unit=>Zk x.2.1 x.2.2.1 x.1))),(33,.pure (preT (fun x:Cert×Int×Int×Unit=>cW x.1&&decide (x.2.1<=1000))) (Zf (fun x:Cert×Int×Int×Unit=>Zk x.2.1 x.2.2.1 x.1))),(30,.pure (preT (fun x:Cert×Cert×Unit=>cW x.1&&cW x.2.1)) (Zf (fun x:Cert×Cert×Unit=>GD x.1 x.2.1))),(34,.pure (preT (fun x:Cert×Cert×Unit=>cW x.1&&cW x.2.1)) (Zf (fun x:Cert×Cert×Unit=>GD x.1 x.2.1))),(35,.pure (preT (fun x:List Fact×Unit=>Zi x.1)) (Zf (fun x:List Fact×Unit=>Zq x.1))),(36,.pure (preT (fun x:List Fact×Cert×Unit=>Zi x.1&&Vu x.2.1&&decide (x.1.length+Zt x.2.1<=300))) (Zf (fun x:List Fact×Cert×Unit=>Yp x.1 x.2.1)))]
theorem b2e{G:PV->Prop}(fs more:List Fact)(k:Int)(m:List Int)(l:Lin)(ks:List Cert)(h : ∃ y0:Bool,AV.pv (Zf (fun(x:Unit)=>true) [])=AV.pv (enc y0)∧(if (!y0)=true then G ((.bool false))else((Go.Pl.preT (fun(x:List Fact×Int×Unit)=>YA x.1) [(.sl 3 false (List.map enc fs)),(.int .i64 8)])=true∧(∃ y1:Bool,AV.pv (Zf (fun(x:List Fact×Int×Unit)=>Gy x.1 x.2.1) [(.sl 3 false (List.map enc fs)),(.int .i64 8)])=AV.pv (enc y1)∧(if (!y1)=true then G ((.bool true))else((Go.Pl.preT (fun(x:List Fact×Int×Unit)=>YA x.1) [(.sl 3 false (List.map enc more)),(.int .i64 4)])=true∧(∃ y2:Bool,AV.pv (Zf (fun(x:List Fact×Int×Unit)=>Gy x.1 x.2.1) [(.sl 3 false (List.map enc more)),(.int .i64 4)])=AV.pv (enc y2)∧(if (!y2)=true then G ((.bool true))else((Go.Pl.preT (fun(x:Cert×Int×Unit)=>UA x.1) [(.agg [(.int .i64 k),(.sl 1 false (List.map enc m)),(.int .i64 l.k),(.sl 2 false (List.map enc l.t)),(.sl 5 false (List.map enc ks))]),(.int .i64 12)])=true∧(∃ y3:Bool,AV.pv (Zf (fun(x:Cert×Int×Unit)=>Xo x.1 x.2.1) [(.agg [(.int .i64 k),(.sl 1 false (List.map enc m)),(.int .i64 l.k),(.sl 2 false (List.map enc l.t)),(.sl 5 false (List.map enc ks))]),(.int .i64 12)])=AV.pv (enc y3)∧(if (!y3)=true then G ((.bool true))else(At Ww 0 (Za XB G) XA 0 107 [(0,(.pv (.sl 3 false (List.map enc fs)))),(1,(.pv (.sl 3 false (List.map enc more)))),(5,(.ptr 0 0)),(7,(.pv (.int .i64 (-1))))] [(.obj (.box [(.pv (.int .i64 k)),(.pv (.sl 1 false (List.map enc m))),(.pv (.int .i64 l.k)),(.pv (.sl 2 false (List.map enc l.t))),(.pv (.sl 5 false (List.map enc ks)))]))])))))))))))):Zc Ww 0 (Za XB G) XA [] (Z9 107 [enc fs,enc more,.agg [enc k,enc m,enc l.k,enc l.t,enc ks]]):=Zc.tp (.lit (.abs (Bool) (fun YY=>AV.pv (enc YY)) (.ask (.nil) (.req (.abs (Bool) (fun YY=>AV.pv (enc YY)) (.ask (.lit (.lit (.lit (.lit (.lit (.lit (.lit (.lit (.nil))))))))) (.lit (.req (.abs (Bool) (fun YY=>AV.pv (enc YY)) (.lit (.lit (.ask (.lit (.lit (.lit (.lit (.nil))))) (.lit (.req (.abs (Bool) (fun YY=>AV.pv (enc YY)) (.lit (.lit (.ask (.nil) (.nil))))))))))))))))))) h (by kernel_rfl)
theorem Ri{G:PV->Prop}(fs more:List Fact)(k:Int)(m:List Int)(l:Lin)(ks:List Cert)(i:Int)(h:if (decide (i<=IntKind.wrap IntKind.i64 ((↑(List.length (List.map enc fs)):Int)+1)))=true then(Go.Pl.preT (fun(x:Cert×Int×Int×Unit)=>cW x.1&&decide (x.2.1<=1000)) [(.agg [(.int .i64 k),(.sl 1 false (List.map enc m)),(.int .i64 l.k),(.sl 2 false (List.map enc l.t)),(.sl 5 false (List.map enc ks))]),(.int .i64 i),(.int .i64 (↑(List.length (List.map enc more)):Int))])=true∧(∃ y0:C5×Int,AV.pv (Zf (fun(x:Cert×Int×Int×Unit)=>Zk x.2.1 x.2.2.1 x.1) [(.agg [(.int .i64 k),(.sl 1 false (List.map enc m)),(.int .i64 l.k),(.sl 2 false (List.map enc l.t)),(.sl 5 false (List.map enc ks))]),(.int .i64 i),(.int .i64 (↑(List.length (List.map enc more)):Int))])=AV.pv (enc y0)∧((Go.Pl.preT (fun(x:Cert×Int×Int×Unit)=>cW x.1&&decide (x.2.1<=1000)) [(.agg [(.int .i64 k),(.sl 1 false (List.map enc m)),(.int .i64 l.k),(.sl 2 false (List.map enc l.t)),(.sl 5 false (List.map enc ks))]),(.int .i64 i),(.int .i64 (↑(List.length (List.map enc more)):Int))])=true∧(∃ y1:C5×Int,AV.pv (Zf (fun(x:Cert×Int×Int×Unit)=>Zk x.2.1 x.2.2.1 x.1) [(.agg [(.int .i64 k),(.sl 1 false (List.map enc m)),(.int .i64 l.k),(.sl 2 false (List.map enc l.t)),(.sl 5 false (List.map enc ks))]),(.int .i64 i),(.int .i64 (↑(List.length (List.map enc more)):Int))])=AV.pv (enc y1)∧((Go.Pl.preT (fun(x:Cert×Cert×Unit)=>cW x.1&&cW x.2.1) [(.agg [(.int .i64 (C5.k y0.1)),(.sl 1 false (List.map enc (C5.m y0.1))),(.int .i64 (C5.lk y0.1)),(.sl 2 false (List.map enc (C5.lt y0.1))),(.sl 5 false (List.map enc (C5.ks y0.1)))]),(.agg [(.int .i64 (C5.k y1.1)),(.sl 1 false (List.map enc (C5.m y1.1))),(.int .i64 (C5.lk y1.1)),(.sl 2 false (List.map enc (C5.lt y1.1))),(.sl 5 false (List.map enc (C5.ks y1.1)))])])=true∧(∃ y2:Bool,AV.pv (Zf (fun(x:Cert×Cert×Unit)=>GD x.1 x.2.1) [(.agg [(.int .i64 (C5.k y0.1)),(.sl 1 false (List.map enc (C5.m y0.1))),(.int .i64 (C5.lk y0.1)),(.sl 2 false (List.map enc (C5.lt y0.1))),(.sl 5 false (List.map enc (C5.ks y0.1)))]),(.agg [(.int .i64 (C5.k y1.1)),(.sl 1 false (List.map enc (C5.m y1.1))),(.int .i64 (C5.lk y1.1)),(.sl 2 false (List.map enc (C5.lt y1.1))),(.sl 5 false (List.map enc (C5.ks y1.1)))])])=AV.pv (enc y2)∧(if (!y2)=true then G ((.bool false))else(if (y0.2 != y1.2)=true then G ((.bool false))else((Go.Pl.preT (fun(x:Cert×Cert×Unit)=>cW x.1&&cW x.2.1) [(.agg [(.int .i64 (C5.k y0.1)),(.sl 1 false (List.map enc (C5.m y0.1))),(.int .i64 (C5.lk y0.1)),(.sl 2 false (List.map enc (C5.lt y0.1))),(.sl 5 false (List.map enc (C5.ks y0.1)))]),(.agg [(.int .i64 k),(.sl 1 false (List.map enc m)),(.int .i64 l.k),(.sl 2 false (List.map enc l.t)),(.sl 5 false (List.map enc ks))])])=true∧(∃ y3:Bool,AV.pv (Zf (fun(x:Cert×Cert×Unit)=>GD x.1 x.2.1) [(.agg [(.int .i64 (C5.k y0.1)),(.sl 1 false (List.map enc (C5.m y0.1))),(.int .i64 (C5.lk y0.1)),(.sl 2 false (List.map enc (C5.lt y0.1))),(.sl 5 false (List.map enc (C5.ks y0.1)))]),(.agg [(.int .i64 k),(.sl 1 false (List.map enc m)),(.int .i64 l.k),(.sl 2 false (List.map enc l.t)),(.sl 5 false (List.map enc ks))])])=AV.pv (enc y3)∧((Go.Pl.preT (fun(x:Cert×Cert×Unit)=>cW x.1&&cW x.2.1) [(.agg [(.int .i64 (C5.k y1.1)),(.sl 1 false (List.map enc (C5.m y1.1))),(.int .i64 (C5.lk y1.1)),(.sl 2 false (List.map enc (C5.lt y1.1))),(.sl 5 false (List.map enc (C5.ks y1.1)))]),(.agg [(.int .i64 k),(.sl 1 false (List.map enc m)),(.int .i64 l.k),(.sl 2 false (List.map enc l.t)),(.sl 5 false (List.map enc ks))])])=true∧(∃ y4:Bool,AV.pv (Zf (fun(x:Cert×Cert×Unit)=>GD x.1 x.2.1) [(.agg [(.int .i64 (C5.k y1.1)),(.sl 1 false (List.map enc (C5.m y1.1))),(.int .i64 (C5.lk y1.1)),(.sl 2 false (List.map enc (C5.lt y1.1))),(.sl 5 false (List.map enc (C5.ks y1.1)))]),(.agg [(.int .i64 k),(.sl 1 false (List.map enc m)),(.int .i64 l.k),(.sl 2 false (List.map enc l.t)),(.sl 5 false (List.map enc ks))])])=AV.pv (enc y4)∧(if (!y3==y4)=true then G ((.bool false))else(if (decide (i<0))=true then At Ww 0 (Za XB G) XA 0 107 [(0,(.pv (.sl 3 false (List.map enc fs)))),(1,(.pv (.sl 3 false (List.map enc more)))),(5,(.ptr 0 0)),(7,(.pv (.int .i64 (IntKind.wrap IntKind.i64 (i+1)))))] [(.obj (.box [(.pv (.int .i64 k)),(.pv (.sl 1 false (List.map enc m))),(.pv (.int .i64 l.k)),(.pv (.sl 2 false (List.map enc l.t))),(.pv (.sl 5 false (List.map enc ks)))]))]else(if (decide (i>(↑(List.length (List.map enc fs)):Int)))=true then At Ww 0 (Za XB G) XA 0 107 [(0,(.pv (.sl 3 false (List.map enc fs)))),(1,(.pv (.sl 3 false (List.map enc more)))),(5,(.ptr 0 0)),(7,(.pv (.int .i64 (IntKind.wrap IntKind.i64 (i+1)))))] [(.obj (.box [(.pv (.int .i64 k)),(.pv (.sl 1 false (List.map enc m))),(.pv (.int .i64 l.k)),(.pv (.sl 2 false (List.map enc l.t))),(.pv (.sl 5 false (List.map enc ks)))]))]else((Go.Pl.preT (fun(x:List Fact×Unit)=>Zi x.1) [(.sl 3 false (List.map enc more))])=true∧(∃ y5:Bool,AV.pv (Zf (fun(x:List Fact×Unit)=>Zq x.1) [(.sl 3 false (List.map enc more))])=AV.pv (enc y5)∧(if (!y5)=true then At Ww 0 (Za XB G) XA 0 107 [(0,(.pv (.sl 3 false (List.map enc fs)))),(1,(.pv (.sl 3 false (List.map enc more)))),(5,(.ptr 0 0)),(7,(.pv (.int .i64 (IntKind.wrap IntKind.i64 (i+1)))))] [(.obj (.box [(.pv (.int .i64 k)),(.pv (.sl 1 false (List.map enc m))),(.pv (.int .i64 l.k)),(.pv (.sl 2 false (List.map enc l.t))),(.pv (.sl 5 false (List.map enc ks)))]))]else((Go.Pl.preT (fun(x:List Fact×Cert×Unit)=>Zi x.1&&Vu x.2.1&&decide (List.length x.1+Zt x.2.1<=300)) [(.sl 3 false (List.map enc fs)),(.agg [(.int .i64 k),(.sl 1 false (List.map enc m)),(.int .i64 l.k),(.sl 2 false (List.map enc l.t)),(.sl 5 false (List.map enc ks))])])=true∧(∃ y6:Int,AV.pv (Zf (fun(x:List Fact×Cert×Unit)=>Yp x.1 x.2.1) [(.sl 3 false (List.map enc fs)),(.agg [(.int .i64 k),(.sl 1 false (List.map enc m)),(.int .i64 l.k),(.sl 2 false (List.map enc l.t)),(.sl 5 false (List.map enc ks))])])=AV.pv (enc y6)∧(if (y6 != 0)=true then At Ww 0 (Za XB G) XA 0 107 [(0,(.pv (.sl 3 false (List.map enc fs)))),(1,(.pv (.sl 3 false (List.map enc more)))),(5,(.ptr 0 0)),(7,(.pv (.int .i64 (IntKind.wrap IntKind.i64 (i+1)))))] [(.obj (.box [(.pv (.int .i64 k)),(.pv (.sl 1 false (List.map enc m))),(.pv (.int .i64 l.k)),(.pv (.sl 2 false (List.map enc l.t))),(.pv (.sl 5 false (List.map enc ks)))]))]else((true&&decide (0<=i)&&(List.isEmpty (List.map enc fs)||Enc.sz Fact==3)&&decide (0<=Int.toNat i)&&decide (Int.toNat i<=List.length (List.map enc fs)))=true∧((List.isEmpty (List.drop 0 (List.take (Int.toNat i) (List.map enc fs)))||Enc.sz Fact==3)=true∧((List.length ([]:List PV)==0&&0==0&&decide ((0+List.length (List.drop 0 (List.take (Int.toNat i) (List.map enc fs))))*40<=1099511627776)&&decide (0+List.length (List.drop 0 (List.take (Int.toNat i) (List.map enc fs)))<=1099511627776))=true∧((List.isEmpty (List.map enc more)||Enc.sz Fact==3)=true∧((List.length (([]:List PV)++List.drop 0 (List.take (Int.toNat i) (List.map enc fs)))==0+List.length (List.drop 0 (List.take (Int.toNat i) (List.map enc fs)))&&0+List.length (List.drop 0 (List.take (Int.toNat i) (List.map enc fs)))==0+List.length (List.drop 0 (List.take (Int.toNat i) (List.map enc fs)))&&decide ((0+List.length (List.drop 0 (List.take (Int.toNat i) (List.map enc fs)))+List.length (List.map enc more))*40<=1099511627776)&&decide (0+List.length (List.drop 0 (List.take (Int.toNat i) (List.map enc fs)))+List.length (List.map enc more)<=1099511627776))=true∧((decide (0<=i)&&true&&(List.isEmpty (List.map enc fs)||Enc.sz Fact==3)&&decide (Int.toNat i<=List.length (List.map enc fs))&&decide (List.length (List.map enc fs)<=List.length (List.map enc fs)))=true∧((List.isEmpty (List.drop (Int.toNat i) (List.take (List.length (List.map enc fs)) (List.map enc fs)))||Enc.sz Fact==3)=true∧((List.length (([]:List PV)++List.drop 0 (List.take (Int.toNat i) (List.map enc fs))++List.map enc more)==0+List.length (List.drop 0 (List.take (Int.toNat i) (List.map enc fs)))+List.length (List.map enc more)&&0+List.length (List.drop 0 (List.take (Int.toNat i) (List.map enc fs)))+List.length (List.map enc more)==0+List.length (List.drop 0 (List.take (Int.toNat i) (List.map enc fs)))+List.length (List.map enc more)&&decide ((0+List.length (List.drop 0 (List.take (Int.toNat i) (List.map enc fs)))+List.length (List.map enc more)+List.length (List.drop (Int.toNat i) (List.take (List.length (List.map enc fs)) (List.map enc fs))))*40<=1099511627776)&&decide (0+List.length (List.drop 0 (List.take (Int.toNat i) (List.map enc fs)))+List.length (List.map enc more)+List.length (List.drop (Int.toNat i) (List.take (List.length (List.map enc fs)) (List.map enc fs)))<=1099511627776))=true∧(if (y0.2 != 0)=true then G ((.bool false))else((List.length (([]:List PV)++List.drop 0 (List.take (Int.toNat i) (List.map enc fs))++List.map enc more++List.drop (Int.toNat i) (List.take (List.length (List.map enc fs)) (List.map enc fs)))==0+List.length (List.drop 0 (List.take (Int.toNat i) (List.map enc fs)))+List.length (List.map enc more)+List.length (List.drop (Int.toNat i) (List.take (List.length (List.map enc fs)) (List.map enc fs))))=true∧((Go.Pl.preT (fun(x:List Fact×Cert×Unit)=>Zi x.1&&Vu x.2.1&&decide (List.length x.1+Zt x.2.1<=300)) [(.sl 3 false (List.drop 0 (List.take (0+List.length (List.drop 0 (List.take (Int.toNat i) (List.map enc fs)))+List.length (List.map enc more)+List.length (List.drop (Int.toNat i) (List.take (List.length (List.map enc fs)) (List.map enc fs)))) (([]:List PV)++List.drop 0 (List.take (Int.toNat i) (List.map enc fs))++List.map enc more++List.drop (Int.toNat i) (List.take (List.length (List.map enc fs)) (List.map enc fs)))))),(.agg [(.int .i64 (C5.k y0.1)),(.sl 1 false (List.map enc (C5.m y0.1))),(.int .i64 (C5.lk y0.1)),(.sl 2 false (List.map enc (C5.lt y0.1))),(.sl 5 false (List.map enc (C5.ks y0.1)))])])=true∧(∃ y7:Int,AV.pv (Zf (fun(x:List Fact×Cert×Unit)=>Yp x.1 x.2.1) [(.sl 3 false (List.drop 0 (List.take (0+List.length (List.drop 0 (List.take (Int.toNat i) (List.map enc fs)))+List.length (List.map enc more)+List.length (List.drop (Int.toNat i) (List.take (List.length (List.map enc fs)) (List.map enc fs)))) (([]:List PV)++List.drop 0 (List.take (Int.toNat i) (List.map enc fs))++List.map enc more++List.drop (Int.toNat i) (List.take (List.length (List.map enc fs)) (List.map enc fs)))))),(.agg [(.int .i64 (C5.k y0.1)),(.sl 1 false (List.map enc (C5.m y0.1))),(.int .i64 (C5.lk y0.1)),(.sl 2 false (List.map enc (C5.lt y0.1))),(.sl 5 false (List.map enc (C5.ks y0.1)))])])=AV.pv (enc y7)∧(if (y7 != 0)=true then G ((.bool false))else(At Ww 0 (Za XB G) XA 0 107 [(0,(.pv (.sl 3 false (List.map enc fs)))),(1,(.pv (.sl 3 false (List.map enc more)))),(5,(.ptr 0 0)),(7,(.pv (.int .i64 (IntKind.wrap IntKind.i64 (i+1)))))] [(.obj (.box [(.pv (.int .i64 k)),(.pv (.sl 1 false (List.map enc m))),(.pv (.int .i64 l.k)),(.pv (.sl 2 false (List.map enc l.t))),(.pv (.sl 5 false (List.map enc ks)))]))]))))))))))))))))))))))))))))))))))else(G ((.bool true)))):At Ww 0 (Za XB G) XA 0 107 [(0,.pv (enc fs)),(1,.pv (enc more)),(5,.ptr 0 0),(7,.pv (.int .i64 i))] [.obj (.box [.pv (enc k),.pv (enc m),.pv (enc l.k),.pv (enc l.t),.pv (enc ks)])]:=At.tp (.lit (.lit (.ask (.req (.abs (C5×Int) (fun YY=>AV.pv (enc YY)) (.req (.abs (C5×Int) (fun YY=>AV.pv (enc YY)) (.req (.abs (Bool) (fun YY=>AV.pv (enc YY)) (.ask (.lit (.lit (.lit (.lit (.lit (.lit (.lit (.lit (.lit (.lit (.lit (.lit (.nil))))))))))))) (.lit (.lit (.lit (.lit (.ask (.lit (.lit (.lit (.lit (.lit (.lit (.lit (.lit (.nil))))))))) (.lit (.lit (.req (.abs (Bool) (fun YY=>AV.pv (enc YY)) (.lit (.lit (.lit (.req (.abs (Bool) (fun YY=>AV.pv (enc YY)) (.lit (.lit (.lit (.ask (.nil) (.lit (.ask (.lit (.lit (.lit (.lit (.lit (.lit (.lit (.lit (.lit (.lit (.lit (.lit (.lit (.lit (.lit (.nil)))))))))))))))) (.lit (.lit (.lit (.lit (.lit (.ask (.lit (.lit (.lit (.lit (.lit (.lit (.lit (.lit (.lit (.lit (.nil))))))))))) (.lit (.req (.abs (Bool) (fun YY=>AV.pv (enc YY)) (.lit (.lit (.ask (.lit (.lit (.lit (.lit (.lit (.lit (.nil))))))) (.lit (.lit (.req (.abs (Int) (fun YY=>AV.pv (enc YY)) (.lit (.lit (.lit (.ask (.lit (.nil)) (.lit (.req (.req (.req (.req (.req (.req (.req (.req (.lit (.ask (.lit (.lit (.lit (.lit (.lit (.nil)))))) (.lit (.lit (.req (.req (.abs (Int) (fun YY=>AV.pv (enc YY)) (.lit (.lit (.lit (.ask (.nil) (.lit (.nil))))))))))))))))))))))))))))))))))))))))))))))))))))))))))))))))))))) (.nil)))) h (by kernel_rfl)
end Go.Pl

namespace Go.Pl
open Go.RowKit
open Enc (enc dec is)
open EncL (encL decL isL)
set_option maxRecDepth 100000
def Qq:IC:=(.seq (.reg [⟨(some 4),(.mv (.c (.bool false))),0,none⟩] none) (.seq (.seq (.reg [⟨(some 6),(.mv (.t 0)),0,none⟩,⟨(some 7),(.len 1 (.t 6)),0,none⟩,⟨(some 8),(.mv (.t 1)),0,none⟩,⟨(some 9),(.len 1 (.t 8)),0,none⟩,⟨(some 10),(.bin .num .neq (.t 7) (.t 9)),0,none⟩] none) (.cond (.t 10) (.seq (.reg [⟨(some 4),(.mv (.c (.bool false))),0,none⟩] none) .ret) .skip)) (.seq (.seq (.reg [⟨(some 11),(.mv (.t 0)),0,none⟩,⟨(some 12),(.len 1 (.t 11)),0,none⟩,⟨(some 13),(.mv (.c (.int .i64 0))),0,none⟩] none) (.block 0 (.loop [13,12,0,1] (.seq (.reg [⟨(some 14),(.bin .num .lss (.t 13) (.t 12)),0,none⟩] none) (.seq (.cond (.t 14) .skip (.exit 0)) (.seq (.block 1 (.seq (.reg [⟨(some 15),(.mv (.t 13)),0,none⟩,⟨(some 5),(.mv (.t 15)),0,none⟩] none) (.seq (.reg [⟨(some 16),(.mv (.t 0)),0,none⟩,⟨(some 17),(.mv (.t 5)),0,none⟩,⟨(some 18),(.iaddr 1 (.t 16) (.t 17)),0,none⟩,⟨(some 19),(.load false [(.int .i64)] (.t 18)),0,none⟩,⟨(some 20),(.mv (.t 1)),0,none⟩,⟨(some 21),(.mv (.t 5)),0,none⟩,⟨(some 22),(.iaddr 1 (.t 20) (.t 21)),0,none⟩,⟨(some 23),(.load false [(.int .i64)] (.t 22)),0,none⟩,⟨(some 24),(.bin .num .neq (.t 19) (.t 23)),0,none⟩] (some [[],[],[0,1],[2,0,1],[],[],[4,5],[6,4,5],[3,7,2,0,1,6,4,5]])) (.cond (.t 24) (.seq (.reg [⟨(some 4),(.mv (.c (.bool false))),0,none⟩] none) .ret) .skip)))) (.reg [⟨(some 25),(.bin .num .add (.t 13) (.c (.int .i64 1))),0,none⟩,⟨(some 13),(.mv (.t 25)),0,none⟩] none))))))) (.seq (.reg [⟨(some 4),(.mv (.c (.bool true))),0,none⟩] none) .ret))))
def U6:List IRes:=[(.tmp 4)]
abbrev b3p:Nat:=26
def K6:ZH:=XI []
theorem b7y{G:PV->Prop}(a b:List Int)(h:if ((↑(List.length (List.map enc a)):Int) != (↑(List.length (List.map enc b)):Int))=true then G ((.bool false))else(At K6 0 (Za U6 G) Qq 0 26 [(0,(.pv (.sl 1 false (List.map enc a)))),(1,(.pv (.sl 1 false (List.map enc b)))),(12,(.pv (.int .i64 (↑(List.length (List.map enc a)):Int)))),(13,(.pv (.int .i64 0)))] [])):Zc K6 0 (Za U6 G) Qq [] (Z9 26 [enc a,enc b]):=Zc.tp (.lit (.ask (.nil) (.nil))) h (by kernel_rfl)
theorem FK{G:PV->Prop}(a b:List Int)(i:Int)(h:if (decide (i<(↑(List.length a):Int)))=true then(decide (0<=i)&&decide (Int.toNat i<List.length (List.map enc a))&&Enc.sz Int==1)=true∧(∃ y0:Int,AV.pv (PV.rptr (PV.cells (List.getD (List.map enc a) (Int.toNat i) default)))=AV.pv (PV.rptr (PV.cells ((enc) y0)))∧((decide (0<=i)&&decide (Int.toNat i<List.length (List.map enc b))&&Enc.sz Int==1)=true∧(∃ y1:Int,AV.pv (PV.rptr (PV.cells (List.getD (List.map enc b) (Int.toNat i) default)))=AV.pv (PV.rptr (PV.cells ((enc) y1)))∧(if (PV.asInt (List.getD (PV.cells (enc y0)) 0 default) != PV.asInt (List.getD (PV.cells (enc y1)) 0 default))=true then G ((.bool false))else(At K6 0 (Za U6 G) Qq 0 26 [(0,(.pv (.sl 1 false (List.map enc a)))),(1,(.pv (.sl 1 false (List.map enc b)))),(12,(.pv (.int .i64 (↑(List.length a):Int)))),(13,(.pv (.int .i64 (IntKind.wrap IntKind.i64 (i+1)))))] [])))))else(G ((.bool true)))):At K6 0 (Za U6 G) Qq 0 26 [(0,.pv (enc a)),(1,.pv (enc b)),(12,.pv (.int .i64 a.length)),(13,.pv (.int .i64 i))] []:=At.tp (.lit (.ask (.req (.abs (Int) (fun YY=>AV.pv (PV.rptr (PV.cells ((enc) YY)))) (.lit (.req (.abs (Int) (fun YY=>AV.pv (PV.rptr (PV.cells ((enc) YY)))) (.lit (.lit (.ask (.nil) (.lit (.nil)))))))))) (.nil))) h (by kernel_rfl)
def KU:IC:=(.seq (.reg [⟨(some 6),(.mv (.c (.bool false))),0,none⟩] none) (.seq (.seq (.reg [⟨(some 10),(.mv (.t 0)),0,none⟩,⟨(some 11),(.len 1 (.t 10)),0,none⟩,⟨(some 12),(.mv (.t 1)),0,none⟩,⟨(some 13),(.len 1 (.t 12)),0,none⟩,⟨(some 14),(.bin .num .neq (.t 11) (.t 13)),0,none⟩] none) (.cond (.t 14) (.seq (.reg [⟨(some 6),(.mv (.c (.bool false))),0,none⟩] none) .ret) .skip)) (.seq (.seq (.reg [⟨(some 15),(.mv (.t 0)),0,none⟩,⟨(some 16),(.len 1 (.t 15)),0,none⟩,⟨(some 17),(.mv (.c (.int .i64 0))),0,none⟩] none) (.block 0 (.loop [17,16,15,1,2] (.seq (.reg [⟨(some 18),(.bin .num .lss (.t 17) (.t 16)),0,none⟩] none) (.seq (.cond (.t 18) .skip (.exit 0)) (.seq (.block 1 (.seq (.reg [⟨(some 19),(.mv (.t 17)),0,none⟩,⟨(some 20),(.iaddr 5 (.t 15) (.t 17)),0,none⟩,⟨(some 21),(.load true [(.int .i64),(.sl 1),(.int .i64),(.sl 2),(.sl 5)] (.t 20)),0,none⟩,⟨(some 8),(.alloc (.agg [(.int .i64 0),(.sl 0 true []),(.int .i64 0),(.sl 0 true []),(.sl 0 true [])])),0,none⟩,⟨(some 7),(.mv (.t 19)),1,none⟩,⟨none,(.store 5 (.t 8) (.t 21)),1,none⟩] none) (.seq (.reg [⟨(some 22),(.mv (.t 1)),0,none⟩,⟨(some 23),(.mv (.t 7)),0,none⟩,⟨(some 24),(.iaddr 5 (.t 22) (.t 23)),0,none⟩,⟨(some 25),(.load true [(.int .i64),(.sl 1),(.int .i64),(.sl 2),(.sl 5)] (.t 24)),0,none⟩,⟨(some 9),(.alloc (.agg [(.int .i64 0),(.sl 0 true []),(.int .i64 0),(.sl 0 true []),(.sl 0 true [])])),0,none⟩,⟨none,(.store 5 (.t 9) (.t 25)),1,none⟩] none) (.seq (.reg [⟨(some 26),(.mv (.t 2)),0,none⟩,⟨(some 27),(.load true [(.int .i64),(.sl 1),(.int .i64),(.sl 2),(.sl 5)] (.t 8)),0,none⟩,⟨(some 28),(.load true [(.int .i64),(.sl 1),(.int .i64),(.sl 2),(.sl 5)] (.t 9)),0,none⟩,⟨(some 29),(.call (.t 26) [(.t 27),(.t 28)]),0,none⟩,⟨(some 30),(.un .not (.t 29)),2,none⟩] none) (.cond (.t 30) (.seq (.reg [⟨(some 6),(.mv (.c (.bool false))),0,none⟩] none) .ret) .skip))))) (.reg [⟨(some 31),(.bin .num .add (.t 17) (.c (.int .i64 1))),0,none⟩,⟨(some 17),(.mv (.t 31)),0,none⟩] none))))))) (.seq (.reg [⟨(some 6),(.mv (.c (.bool true))),0,none⟩] none) .ret))))
def Jc:List IRes:=[(.tmp 6)]
abbrev b5q:Nat:=32
def Dc(N:Nat):ZH:=XI [(34,.pure (preT (fun x:Cert×Cert×Unit=>(cW x.1&&cW x.2.1)&&decide (Zt x.1<N))) (Zf (fun x:Cert×Cert×Unit=>GD x.1 x.2.1)))]
theorem b8m{G:PV->Prop}(N:Nat)(a b:List Cert)(h:if ((↑(List.length (List.map enc a)):Int) != (↑(List.length (List.map enc b)):Int))=true then G ((.bool false))else(At (Dc N) 0 (Za Jc G) KU 0 32 [(1,(.pv (.sl 5 false (List.map enc b)))),(2,(.pv (.fn 34))),(15,(.pv (.sl 5 false (List.map enc a)))),(16,(.pv (.int .i64 (↑(List.length (List.map enc a)):Int)))),(17,(.pv (.int .i64 0)))] [])):Zc (Dc N) 0 (Za Jc G) KU [] (Z9 32 [enc a,enc b,.fn 34]):=Zc.tp (.lit (.ask (.nil) (.nil))) h (by kernel_rfl)
theorem a4p{G:PV->Prop}(N:Nat)(a b:List Cert)(i:Int)(h:if (decide (i<(↑(List.length a):Int)))=true then(decide (0<=i)&&decide (Int.toNat i<List.length (List.map enc a))&&Enc.sz Cert==5)=true∧(∃ y0:Cert,AV.pv (PV.rptr (PV.cells (List.getD (List.map enc a) (Int.toNat i) default)))=AV.pv (PV.rptr (PV.cells ((enc) y0)))∧((decide (0+List.length [Sh.int .i64,Sh.sl 1,Sh.int .i64,Sh.sl 2,Sh.sl 5]<=List.length (PV.cells (enc y0)))&&Yk (PV.cells (enc y0)) 0 [Sh.int .i64,Sh.sl 1,Sh.int .i64,Sh.sl 2,Sh.sl 5])=true∧((decide (0<=i)&&decide (Int.toNat i<List.length (List.map enc b))&&Enc.sz Cert==5)=true∧(∃ y1:Cert,AV.pv (PV.rptr (PV.cells (List.getD (List.map enc b) (Int.toNat i) default)))=AV.pv (PV.rptr (PV.cells ((enc) y1)))∧((decide (0+List.length [Sh.int .i64,Sh.sl 1,Sh.int .i64,Sh.sl 2,Sh.sl 5]<=List.length (PV.cells (enc y1)))&&Yk (PV.cells (enc y1)) 0 [Sh.int .i64,Sh.sl 1,Sh.int .i64,Sh.sl 2,Sh.sl 5])=true∧((Go.Pl.preT (fun(x:Cert×Cert×Unit)=>cW x.1&&cW x.2.1&&decide (Zt x.1<N)) [(.agg [(.int .i64 (PV.asInt (List.getD (PV.cells (enc y0)) 0 default))),(.sl 1 (PV.asT (List.getD (PV.cells (enc y0)) (0+1) default)) (PV.asXs (List.getD (PV.cells (enc y0)) (0+1) default))),(.int .i64 (PV.asInt (List.getD (PV.cells (enc y0)) (0+1+1) default))),(.sl 2 (PV.asT (List.getD (PV.cells (enc y0)) (0+1+1+1) default)) (PV.asXs (List.getD (PV.cells (enc y0)) (0+1+1+1) default))),(.sl 5 (PV.asT (List.getD (PV.cells (enc y0)) (0+1+1+1+1) default)) (PV.asXs (List.getD (PV.cells (enc y0)) (0+1+1+1+1) default)))]),(.agg [(.int .i64 (PV.asInt (List.getD (PV.cells (enc y1)) 0 default))),(.sl 1 (PV.asT (List.getD (PV.cells (enc y1)) (0+1) default)) (PV.asXs (List.getD (PV.cells (enc y1)) (0+1) default))),(.int .i64 (PV.asInt (List.getD (PV.cells (enc y1)) (0+1+1) default))),(.sl 2 (PV.asT (List.getD (PV.cells (enc y1)) (0+1+1+1) default)) (PV.asXs (List.getD (PV.cells (enc y1)) (0+1+1+1) default))),(.sl 5 (PV.asT (List.getD (PV.cells (enc y1)) (0+1+1+1+1) default)) (PV.asXs (List.getD (PV.cells (enc y1)) (0+1+1+1+1) default)))])])=true∧(∃ y2:Bool,AV.pv (Zf (fun(x:Cert×Cert×Unit)=>GD x.1 x.2.1) [(.agg [(.int .i64 (PV.asInt (List.getD (PV.cells (enc y0)) 0 default))),(.sl 1 (PV.asT (List.getD (PV.cells (enc y0)) (0+1) default)) (PV.asXs (List.getD (PV.cells (enc y0)) (0+1) default))),(.int .i64 (PV.asInt (List.getD (PV.cells (enc y0)) (0+1+1) default))),(.sl 2 (PV.asT (List.getD (PV.cells (enc y0)) (0+1+1+1) default)) (PV.asXs (List.getD (PV.cells (enc y0)) (0+1+1+1) default))),(.sl 5 (PV.asT (List.getD (PV.cells (enc y0)) (0+1+1+1+1) default)) (PV.asXs (List.getD (PV.cells (enc y0)) (0+1+1+1+1) default)))]),(.agg [(.int .i64 (PV.asInt (List.getD (PV.cells (enc y1)) 0 default))),(.sl 1 (PV.asT (List.getD (PV.cells (enc y1)) (0+1) default)) (PV.asXs (List.getD (PV.cells (enc y1)) (0+1) default))),(.int .i64 (PV.asInt (List.getD (PV.cells (enc y1)) (0+1+1) default))),(.sl 2 (PV.asT (List.getD (PV.cells (enc y1)) (0+1+1+1) default)) (PV.asXs (List.getD (PV.cells (enc y1)) (0+1+1+1) default))),(.sl 5 (PV.asT (List.getD (PV.cells (enc y1)) (0+1+1+1+1) default)) (PV.asXs (List.getD (PV.cells (enc y1)) (0+1+1+1+1) default)))])])=AV.pv (enc y2)∧(if (!y2)=true then G ((.bool false))else(At (Dc N) 0 (Za Jc G) KU 0 32 [(1,(.pv (.sl 5 false (List.map enc b)))),(2,(.pv (.fn 34))),(15,(.pv (.sl 5 false (List.map enc a)))),(16,(.pv (.int .i64 (↑(List.length a):Int)))),(17,(.pv (.int .i64 (IntKind.wrap IntKind.i64 (i+1)))))] [])))))))))else(G ((.bool true)))):At (Dc N) 0 (Za Jc G) KU 0 32 [(1,.pv (enc b)),(2,.pv (.fn 34)),(15,.pv (enc a)),(16,.pv (.int .i64 a.length)),(17,.pv (.int .i64 i))] []:=At.tp (.lit (.ask (.req (.abs (Cert) (fun YY=>AV.pv (PV.rptr (PV.cells ((enc) YY)))) (.req (.req (.abs (Cert) (fun YY=>AV.pv (PV.rptr (PV.cells ((enc) YY)))) (.req (.req (.abs (Bool) (fun YY=>AV.pv (enc YY)) (.ask (.nil) (.lit (.nil))))))))))) (.nil))) h (by kernel_rfl)
def Ti:IC:=(.seq (.reg [⟨(some 2),(.box 5 (.t 0)),0,none⟩,⟨(some 3),(.box 5 (.t 1)),1,none⟩,⟨(some 4),(.mv (.c (.bool false))),2,none⟩] none) (.seq (.reg [⟨(some 5),(.faddr 0 (.t 2)),0,none⟩,⟨(some 6),(.load false [(.int .i64)] (.t 5)),0,none⟩,⟨(some 7),(.faddr 0 (.t 3)),0,none⟩,⟨(some 8),(.load false [(.int .i64)] (.t 7)),0,none⟩,⟨(some 9),(.bin .num .eql (.t 6) (.t 8)),0,none⟩,⟨(some 10),(.mv (.t 9)),0,none⟩,⟨(some 11),(.faddr 1 (.t 2)),0,(some (10,true))⟩,⟨(some 12),(.load false [(.sl 1)] (.t 11)),0,(some (10,true))⟩,⟨(some 13),(.faddr 1 (.t 3)),0,(some (10,true))⟩,⟨(some 14),(.load false [(.sl 1)] (.t 13)),0,(some (10,true))⟩,⟨(some 15),(.call (.c (.fn 106)) [(.t 12),(.t 14)]),0,(some (10,true))⟩,⟨(some 16),(.pick (.t 10) (.t 15) (.c (.bool false))),2,none⟩,⟨(some 17),(.mv (.t 16)),2,none⟩,⟨(some 18),(.faddr 2 (.t 2)),2,(some (17,true))⟩,⟨(some 19),(.load true [(.int .i64),(.sl 2)] (.t 18)),2,(some (17,true))⟩,⟨(some 20),(.faddr 2 (.t 3)),2,(some (17,true))⟩,⟨(some 21),(.load true [(.int .i64),(.sl 2)] (.t 20)),2,(some (17,true))⟩,⟨(some 22),(.call (.c (.fn 74)) [(.t 19),(.t 21)]),2,(some (17,true))⟩,⟨(some 23),(.pick (.t 17) (.t 22) (.c (.bool false))),4,none⟩,⟨(some 24),(.mv (.t 23)),4,none⟩,⟨(some 25),(.faddr 4 (.t 2)),4,(some (24,true))⟩,⟨(some 26),(.load false [(.sl 5)] (.t 25)),4,(some (24,true))⟩,⟨(some 27),(.faddr 4 (.t 3)),4,(some (24,true))⟩,⟨(some 28),(.load false [(.sl 5)] (.t 27)),4,(some (24,true))⟩,⟨(some 29),(.call (.c (.fn 107)) [(.t 26),(.t 28),(.c (.fn 34))]),4,(some (24,true))⟩,⟨(some 30),(.pick (.t 24) (.t 29) (.c (.bool false))),6,none⟩,⟨(some 4),(.mv (.t 30)),6,none⟩] none) .ret))
def TL:List IRes:=[(.tmp 4)]
abbrev b6r:Nat:=31
def Ot(N:Nat):ZH:=XI [(106,.pure (preT (fun x:List Int×List Int×Unit=>QT x.1)) (Zf (fun x:List Int×List Int×Unit=>decide (x.1=x.2.1)))),(74,.pure (preT (fun x:Lin×Lin×Unit=>Zy x.1&&Zy x.2.1)) (Zf (fun x:Lin×Lin×Unit=>decide (x.1=x.2.1)))),(107,.pure (preT (fun x:List Cert×List Cert×FnV 34×Unit=>(KV x.1&&KV x.2.1&&decide (x.1.length<=1000))&&decide (Yb x.1<N))) (Zf (fun x:List Cert×List Cert×FnV 34×Unit=>Qe x.1 x.2.1)))]
theorem b9o{G:PV->Prop}(N:Nat)(k:Int)(m:List Int)(l:Lin)(ks:List Cert)(k2:Int)(m2:List Int)(l2:Lin)(ks2:List Cert)(h:if (k==k2)=true then(Go.Pl.preT (fun(x:List Int×List Int×Unit)=>QT x.1) [(.sl 1 false (List.map enc m)),(.sl 1 false (List.map enc m2))])=true∧(∃ y0:Bool,AV.pv (Zf (fun(x:List Int×List Int×Unit)=>decide (x.1=x.2.1)) [(.sl 1 false (List.map enc m)),(.sl 1 false (List.map enc m2))])=AV.pv (enc y0)∧(if (y0)=true then(Go.Pl.preT (fun(x:Lin×Lin×Unit)=>Zy x.1&&Zy x.2.1) [(.agg [(.int .i64 l.k),(.sl 2 false (List.map enc l.t))]),(.agg [(.int .i64 l2.k),(.sl 2 false (List.map enc l2.t))])])=true∧(∃ y1:Bool,AV.pv (Zf (fun(x:Lin×Lin×Unit)=>decide (x.1=x.2.1)) [(.agg [(.int .i64 l.k),(.sl 2 false (List.map enc l.t))]),(.agg [(.int .i64 l2.k),(.sl 2 false (List.map enc l2.t))])])=AV.pv (enc y1)∧(if (y1)=true then(Go.Pl.preT (fun(x:List Cert×List Cert×FnV 34×Unit)=>KV x.1&&KV x.2.1&&decide (List.length x.1<=1000)&&decide (Yb x.1<N)) [(.sl 5 false (List.map enc ks)),(.sl 5 false (List.map enc ks2)),(.fn 34)])=true∧(∃ y2:Bool,AV.pv (Zf (fun(x:List Cert×List Cert×FnV 34×Unit)=>Qe x.1 x.2.1) [(.sl 5 false (List.map enc ks)),(.sl 5 false (List.map enc ks2)),(.fn 34)])=AV.pv (enc y2)∧(G ((.bool y2))))else(G ((.bool false)))))else(G ((.bool false)))))else(G ((.bool false)))):Zc (Ot N) 0 (Za TL G) Ti [] (Z9 31 [.agg [enc k,enc m,enc l.k,enc l.t,enc ks],.agg [enc k2,enc m2,enc l2.k,enc l2.t,enc ks2]]):=Zc.tp (.lit (.ask (.lit (.lit (.lit (.lit (.req (.abs (Bool) (fun YY=>AV.pv (enc YY)) (.lit (.ask (.lit (.lit (.lit (.lit (.req (.abs (Bool) (fun YY=>AV.pv (enc YY)) (.lit (.ask (.lit (.lit (.lit (.lit (.req (.abs (Bool) (fun YY=>AV.pv (enc YY)) (.lit (.nil)))))))) (.lit (.lit (.lit (.lit (.lit (.nil)))))))))))))) (.lit (.lit (.lit (.lit (.lit (.lit (.lit (.lit (.lit (.lit (.lit (.nil)))))))))))))))))))) (.lit (.lit (.lit (.lit (.lit (.lit (.lit (.lit (.lit (.lit (.lit (.lit (.lit (.lit (.lit (.lit (.lit (.nil)))))))))))))))))))) h (by kernel_rfl)
def Uj:IC:=(.seq (.reg [⟨(some 2),(.box 5 (.t 0)),0,none⟩,⟨(some 3),(.box 5 (.t 1)),1,none⟩,⟨(some 4),(.mv (.c (.bool false))),2,none⟩] none) (.seq (.seq (.reg [⟨(some 6),(.faddr 0 (.t 2)),0,none⟩,⟨(some 7),(.load false [(.int .i64)] (.t 6)),0,none⟩,⟨(some 8),(.faddr 0 (.t 3)),0,none⟩,⟨(some 9),(.load false [(.int .i64)] (.t 8)),0,none⟩,⟨(some 10),(.bin .num .neq (.t 7) (.t 9)),0,none⟩,⟨(some 11),(.mv (.t 10)),0,none⟩,⟨(some 12),(.faddr 1 (.t 2)),0,(some (11,false))⟩,⟨(some 13),(.load false [(.sl 1)] (.t 12)),0,(some (11,false))⟩,⟨(some 14),(.faddr 1 (.t 3)),0,(some (11,false))⟩,⟨(some 15),(.load false [(.sl 1)] (.t 14)),0,(some (11,false))⟩,⟨(some 16),(.call (.c (.fn 54)) [(.t 13),(.t 15)]),0,(some (11,false))⟩,⟨(some 17),(.un .not (.t 16)),2,(some (11,false))⟩,⟨(some 18),(.pick (.t 11) (.c (.bool true)) (.t 17)),2,none⟩,⟨(some 19),(.mv (.t 18)),2,none⟩,⟨(some 20),(.faddr 2 (.t 2)),2,(some (19,false))⟩,⟨(some 21),(.load true [(.int .i64),(.sl 2)] (.t 20)),2,(some (19,false))⟩,⟨(some 22),(.faddr 2 (.t 3)),2,(some (19,false))⟩,⟨(some 23),(.load true [(.int .i64),(.sl 2)] (.t 22)),2,(some (19,false))⟩,⟨(some 24),(.call (.c (.fn 21)) [(.t 21),(.t 23)]),2,(some (19,false))⟩,⟨(some 25),(.un .not (.t 24)),4,(some (19,false))⟩,⟨(some 26),(.pick (.t 19) (.c (.bool true)) (.t 25)),4,none⟩,⟨(some 27),(.mv (.t 26)),4,none⟩,⟨(some 28),(.faddr 4 (.t 2)),4,(some (27,false))⟩,⟨(some 29),(.load false [(.sl 5)] (.t 28)),4,(some (27,false))⟩,⟨(some 30),(.len 1 (.t 29)),4,(some (27,false))⟩,⟨(some 31),(.faddr 4 (.t 3)),4,(some (27,false))⟩,⟨(some 32),(.load false [(.sl 5)] (.t 31)),4,(some (27,false))⟩,⟨(some 33),(.len 1 (.t 32)),4,(some (27,false))⟩,⟨(some 34),(.bin .num .neq (.t 30) (.t 33)),4,(some (27,false))⟩,⟨(some 35),(.pick (.t 27) (.c (.bool true)) (.t 34)),4,none⟩] none) (.cond (.t 35) (.seq (.reg [⟨(some 4),(.mv (.c (.bool false))),0,none⟩] none) .ret) .skip)) (.seq (.seq (.reg [⟨(some 5),(.mv (.c (.int .i64 0))),0,none⟩] none) (.block 0 (.loop [5,2,3] (.seq (.seq (.reg [⟨(some 36),(.mv (.t 5)),0,none⟩,⟨(some 37),(.faddr 4 (.t 2)),0,none⟩,⟨(some 38),(.load false [(.sl 5)] (.t 37)),0,none⟩,⟨(some 39),(.len 1 (.t 38)),0,none⟩,⟨(some 40),(.bin .num .lss (.t 36) (.t 39)),0,none⟩] none) (.cond (.t 40) .skip (.exit 0))) (.seq (.block 1 (.seq (.reg [⟨(some 43),(.faddr 4 (.t 2)),0,none⟩,⟨(some 44),(.load false [(.sl 5)] (.t 43)),0,none⟩,⟨(some 45),(.mv (.t 5)),0,none⟩,⟨(some 46),(.iaddr 5 (.t 44) (.t 45)),0,none⟩,⟨(some 47),(.load true [(.int .i64),(.sl 1),(.int .i64),(.sl 2),(.sl 5)] (.t 46)),0,none⟩,⟨(some 48),(.faddr 4 (.t 3)),0,none⟩,⟨(some 49),(.load false [(.sl 5)] (.t 48)),0,none⟩,⟨(some 50),(.mv (.t 5)),0,none⟩,⟨(some 51),(.iaddr 5 (.t 49) (.t 50)),0,none⟩,⟨(some 52),(.load true [(.int .i64),(.sl 1),(.int .i64),(.sl 2),(.sl 5)] (.t 51)),0,none⟩,⟨(some 53),(.call (.c (.fn 30)) [(.t 47),(.t 52)]),0,none⟩,⟨(some 54),(.un .not (.t 53)),2,none⟩] (some [[],[0],[],[1,2,0],[3,1,2,0],[],[5],[],[6,7,5],[8,6,7,5],[4,9,3,1,2,0,8,6,7,5],[10,4,9,3,1,2,0,8,6,7,5]])) (.cond (.t 54) (.seq (.reg [⟨(some 4),(.mv (.c (.bool false))),0,none⟩] none) .ret) .skip))) (.reg [⟨(some 41),(.mv (.t 5)),0,none⟩,⟨(some 42),(.bin .num .add (.t 41) (.c (.int .i64 1))),0,none⟩,⟨(some 5),(.mv (.t 42)),0,none⟩] none)))))) (.seq (.reg [⟨(some 4),(.mv (.c (.bool true))),0,none⟩] none) .ret))))
def Ur:List IRes:=[(.tmp 4)]
abbrev b1a:Nat:=55
def QU(N:Nat):ZH:=XI [(54,.pure (preT (fun x:List Int×List Int×Unit=>QT x.1)) (Zf (fun x:List Int×List Int×Unit=>decide (x.1=x.2.1)))),(21,.pure (preT (fun x:Lin×Lin×Unit=>Zy x.1)) (Zf (fun x:Lin×Lin×Unit=>decide (x.1=x.2.1)))),(30,.pure (preT (fun x:Cert×Cert×Unit=>(cW x.1&&cW x.2.1)&&decide (Zt x.1<N))) (Zf (fun x:Cert×Cert×Unit=>GD x.1 x.2.1)))]
theorem a4d{G:PV->Prop}(N:Nat)(k:Int)(m:List Int)(l:Lin)(ks:List Cert)(k2:Int)(m2:List Int)(l2:Lin)(ks2:List Cert)(h:if (k != k2)=true then G ((.bool false))else((Go.Pl.preT (fun(x:List Int×List Int×Unit)=>QT x.1) [(.sl 1 false (List.map enc m)),(.sl 1 false (List.map enc m2))])=true∧(∃ y0:Bool,AV.pv (Zf (fun(x:List Int×List Int×Unit)=>decide (x.1=x.2.1)) [(.sl 1 false (List.map enc m)),(.sl 1 false (List.map enc m2))])=AV.pv (enc y0)∧(if (!y0)=true then G ((.bool false))else((Go.Pl.preT (fun(x:Lin×Lin×Unit)=>Zy x.1) [(.agg [(.int .i64 l.k),(.sl 2 false (List.map enc l.t))]),(.agg [(.int .i64 l2.k),(.sl 2 false (List.map enc l2.t))])])=true∧(∃ y1:Bool,AV.pv (Zf (fun(x:Lin×Lin×Unit)=>decide (x.1=x.2.1)) [(.agg [(.int .i64 l.k),(.sl 2 false (List.map enc l.t))]),(.agg [(.int .i64 l2.k),(.sl 2 false (List.map enc l2.t))])])=AV.pv (enc y1)∧(if (!y1)=true then G ((.bool false))else(if ((↑(List.length (List.map enc ks)):Int) != (↑(List.length (List.map enc ks2)):Int))=true then G ((.bool false))else(At (QU N) 0 (Za Ur G) Uj 0 55 [(2,(.ptr 0 0)),(3,(.ptr 1 0)),(5,(.pv (.int .i64 0)))] [(.obj (.box [(.pv (.int .i64 k)),(.pv (.sl 1 false (List.map enc m))),(.pv (.int .i64 l.k)),(.pv (.sl 2 false (List.map enc l.t))),(.pv (.sl 5 false (List.map enc ks)))])),(.obj (.box [(.pv (.int .i64 k2)),(.pv (.sl 1 false (List.map enc m2))),(.pv (.int .i64 l2.k)),(.pv (.sl 2 false (List.map enc l2.t))),(.pv (.sl 5 false (List.map enc ks2)))]))]))))))))):Zc (QU N) 0 (Za Ur G) Uj [] (Z9 55 [.agg [enc k,enc m,enc l.k,enc l.t,enc ks],.agg [enc k2,enc m2,enc l2.k,enc l2.t,enc ks2]]):=Zc.tp (.lit (.ask (.lit (.lit (.lit (.lit (.lit (.lit (.lit (.lit (.lit (.lit (.lit (.lit (.lit (.lit (.lit (.lit (.lit (.lit (.lit (.lit (.lit (.lit (.nil))))))))))))))))))))))) (.lit (.lit (.lit (.lit (.req (.abs (Bool) (fun YY=>AV.pv (enc YY)) (.lit (.lit (.ask (.lit (.lit (.lit (.lit (.lit (.lit (.lit (.lit (.lit (.lit (.lit (.lit (.lit (.lit (.lit (.nil)))))))))))))))) (.lit (.lit (.lit (.lit (.req (.abs (Bool) (fun YY=>AV.pv (enc YY)) (.lit (.lit (.ask (.lit (.lit (.lit (.lit (.lit (.lit (.lit (.lit (.nil))))))))) (.lit (.lit (.lit (.lit (.lit (.lit (.lit (.lit (.ask (.nil) (.nil)))))))))))))))))))))))))))))) h (by kernel_rfl)
theorem FC{G:PV->Prop}(N:Nat)(k:Int)(m:List Int)(l:Lin)(ks:List Cert)(k2:Int)(m2:List Int)(l2:Lin)(ks2:List Cert)(i:Int)(h:if (decide (i<(↑(List.length (List.map enc ks)):Int)))=true then(decide (0<=i)&&decide (Int.toNat i<List.length (List.map enc ks))&&Enc.sz Cert==5)=true∧(∃ y0:Cert,AV.pv (PV.rptr (PV.cells (List.getD (List.map enc ks) (Int.toNat i) default)))=AV.pv (PV.rptr (PV.cells ((enc) y0)))∧((decide (0+List.length [Sh.int .i64,Sh.sl 1,Sh.int .i64,Sh.sl 2,Sh.sl 5]<=List.length (PV.cells (enc y0)))&&Yk (PV.cells (enc y0)) 0 [Sh.int .i64,Sh.sl 1,Sh.int .i64,Sh.sl 2,Sh.sl 5])=true∧((decide (0<=i)&&decide (Int.toNat i<List.length (List.map enc ks2))&&Enc.sz Cert==5)=true∧(∃ y1:Cert,AV.pv (PV.rptr (PV.cells (List.getD (List.map enc ks2) (Int.toNat i) default)))=AV.pv (PV.rptr (PV.cells ((enc) y1)))∧((decide (0+List.length [Sh.int .i64,Sh.sl 1,Sh.int .i64,Sh.sl 2,Sh.sl 5]<=List.length (PV.cells (enc y1)))&&Yk (PV.cells (enc y1)) 0 [Sh.int .i64,Sh.sl 1,Sh.int .i64,Sh.sl 2,Sh.sl 5])=true∧((Go.Pl.preT (fun(x:Cert×Cert×Unit)=>cW x.1&&cW x.2.1&&decide (Zt x.1<N)) [(.agg [(.int .i64 (PV.asInt (List.getD (PV.cells (enc y0)) 0 default))),(.sl 1 (PV.asT (List.getD (PV.cells (enc y0)) (0+1) default)) (PV.asXs (List.getD (PV.cells (enc y0)) (0+1) default))),(.int .i64 (PV.asInt (List.getD (PV.cells (enc y0)) (0+1+1) default))),(.sl 2 (PV.asT (List.getD (PV.cells (enc y0)) (0+1+1+1) default)) (PV.asXs (List.getD (PV.cells (enc y0)) (0+1+1+1) default))),(.sl 5 (PV.asT (List.getD (PV.cells (enc y0)) (0+1+1+1+1) default)) (PV.asXs (List.getD (PV.cells (enc y0)) (0+1+1+1+1) default)))]),(.agg [(.int .i64 (PV.asInt (List.getD (PV.cells (enc y1)) 0 default))),(.sl 1 (PV.asT (List.getD (PV.cells (enc y1)) (0+1) default)) (PV.asXs (List.getD (PV.cells (enc y1)) (0+1) default))),(.int .i64 (PV.asInt (List.getD (PV.cells (enc y1)) (0+1+1) default))),(.sl 2 (PV.asT (List.getD (PV.cells (enc y1)) (0+1+1+1) default)) (PV.asXs (List.getD (PV.cells (enc y1)) (0+1+1+1) default))),(.sl 5 (PV.asT (List.getD (PV.cells (enc y1)) (0+1+1+1+1) default)) (PV.asXs (List.getD (PV.cells (enc y1)) (0+1+1+1+1) default)))])])=true∧(∃ y2:Bool,AV.pv (Zf (fun(x:Cert×Cert×Unit)=>GD x.1 x.2.1) [(.agg [(.int .i64 (PV.asInt (List.getD (PV.cells (enc y0)) 0 default))),(.sl 1 (PV.asT (List.getD (PV.cells (enc y0)) (0+1) default)) (PV.asXs (List.getD (PV.cells (enc y0)) (0+1) default))),(.int .i64 (PV.asInt (List.getD (PV.cells (enc y0)) (0+1+1) default))),(.sl 2 (PV.asT (List.getD (PV.cells (enc y0)) (0+1+1+1) default)) (PV.asXs (List.getD (PV.cells (enc y0)) (0+1+1+1) default))),(.sl 5 (PV.asT (List.getD (PV.cells (enc y0)) (0+1+1+1+1) default)) (PV.asXs (List.getD (PV.cells (enc y0)) (0+1+1+1+1) default)))]),(.agg [(.int .i64 (PV.asInt (List.getD (PV.cells (enc y1)) 0 default))),(.sl 1 (PV.asT (List.getD (PV.cells (enc y1)) (0+1) default)) (PV.asXs (List.getD (PV.cells (enc y1)) (0+1) default))),(.int .i64 (PV.asInt (List.getD (PV.cells (enc y1)) (0+1+1) default))),(.sl 2 (PV.asT (List.getD (PV.cells (enc y1)) (0+1+1+1) default)) (PV.asXs (List.getD (PV.cells (enc y1)) (0+1+1+1) default))),(.sl 5 (PV.asT (List.getD (PV.cells (enc y1)) (0+1+1+1+1) default)) (PV.asXs (List.getD (PV.cells (enc y1)) (0+1+1+1+1) default)))])])=AV.pv (enc y2)∧(if (!y2)=true then G ((.bool false))else(At (QU N) 0 (Za Ur G) Uj 0 55 [(2,(.ptr 0 0)),(3,(.ptr 1 0)),(5,(.pv (.int .i64 (IntKind.wrap IntKind.i64 (i+1)))))] [(.obj (.box [(.pv (.int .i64 k)),(.pv (.sl 1 false (List.map enc m))),(.pv (.int .i64 l.k)),(.pv (.sl 2 false (List.map enc l.t))),(.pv (.sl 5 false (List.map enc ks)))])),(.obj (.box [(.pv (.int .i64 k2)),(.pv (.sl 1 false (List.map enc m2))),(.pv (.int .i64 l2.k)),(.pv (.sl 2 false (List.map enc l2.t))),(.pv (.sl 5 false (List.map enc ks2)))]))])))))))))else(G ((.bool true)))):At (QU N) 0 (Za Ur G) Uj 0 55 [(2,.ptr 0 0),(3,.ptr 1 0),(5,.pv (.int .i64 i))] [.obj (.box [.pv (enc k),.pv (enc m),.pv (enc l.k),.pv (enc l.t),.pv (enc ks)]),.obj (.box [.pv (enc k2),.pv (enc m2),.pv (enc l2.k),.pv (enc l2.t),.pv (enc ks2)])]:=At.tp (.lit (.ask (.req (.abs (Cert) (fun YY=>AV.pv (PV.rptr (PV.cells ((enc) YY)))) (.req (.req (.abs (Cert) (fun YY=>AV.pv (PV.rptr (PV.cells ((enc) YY)))) (.req (.req (.abs (Bool) (fun YY=>AV.pv (enc YY)) (.ask (.nil) (.lit (.nil))))))))))) (.nil))) h (by kernel_rfl)
end Go.Pl

