/-
  Texts of mine that belong together (packed by pack.py), for every input: GL9, QL9, GL0, QL0, QLi4, QRk, QLs4, TyWi, TyWd, TyWo, GWg, TyWn, GWd, GWi, QWi, QWj, QWd.
-/
import Derived.Test.YtgllkpfiokkdhaaGreatDoorLC2
import Derived.Test.YtgllkpfiokkdhaaGreatDoorLC3
import Derived.KernelRfl
import Derived.Lib.ItoaLen
set_option linter.unusedVariables false
set_option linter.unusedSimpArgs false
namespace Go.Pl
open Go.RowKit
open Enc (enc dec is)
open EncL (encL decL isL)
set_option maxRecDepth 100000
def GD:IC:=(.seq (.reg [⟨(some 4),(.mv (.c (.int .i64 0))),0,none⟩] none) (.seq (.block 0 (.seq (.reg [⟨(some 6),(.mv (.t 0)),0,none⟩,⟨(some 7),(.mv (.t 1)),0,none⟩,⟨(some 8),(.bin .num .lss (.t 6) (.t 7)),0,none⟩,⟨(some 5),(.mv (.t 8)),0,none⟩] none) (.cond (.t 5) (.seq (.reg [⟨(some 4),(.mv (.c (.int .i64 (-1)))),0,none⟩] none) .ret) (.seq (.reg [⟨(some 10),(.mv (.t 0)),0,none⟩,⟨(some 11),(.mv (.t 1)),0,none⟩,⟨(some 12),(.bin .num .gtr (.t 10) (.t 11)),0,none⟩,⟨(some 9),(.mv (.t 12)),0,none⟩] none) (.cond (.t 9) (.seq (.reg [⟨(some 4),(.mv (.c (.int .i64 1))),0,none⟩] none) .ret) .skip))))) (.seq (.reg [⟨(some 4),(.mv (.c (.int .i64 0))),0,none⟩] none) .ret)))
def Kl:List IRes:=[(.tmp 4)]
abbrev EK:Nat:=13
def Jz:ZG:=Xo []
theorem b1n{G:PV->Prop}(a b:Int)(h:if (decide (a<b))=true then G ((.int .i64 (-1)))else(if (decide (a>b))=true then G ((.int .i64 1))else(G ((.int .i64 0))))):Ze Jz 0 (Zg Kl G) GD [] (Y2 13 [enc a,enc b]):=Ze.tp (.lit (.ask (.nil) (.lit (.ask (.nil) (.nil))))) h (by kernel_rfl)
def AB:IC:=(.seq (.reg [⟨(some 2),(.box 2 (.t 0)),0,none⟩,⟨(some 3),(.box 2 (.t 1)),1,none⟩,⟨(some 4),(.mv (.c (.int .i64 0))),2,none⟩] none) (.seq (.seq (.reg [⟨(some 6),(.faddr 0 (.t 2)),0,none⟩,⟨(some 7),(.load false [.str] (.t 6)),0,none⟩,⟨(some 8),(.faddr 0 (.t 3)),0,none⟩,⟨(some 9),(.load false [.str] (.t 8)),0,none⟩,⟨(some 10),(.call (.c (.fn 121)) [(.t 7),(.t 9)]),0,none⟩,⟨(some 5),(.mv (.t 10)),2,none⟩] none) (.seq (.reg [⟨(some 11),(.mv (.t 5)),0,none⟩,⟨(some 12),(.bin .num .neq (.t 11) (.c (.int .i64 0))),0,none⟩] none) (.cond (.t 12) (.seq (.reg [⟨(some 13),(.mv (.t 5)),0,none⟩,⟨(some 4),(.mv (.t 13)),0,none⟩] none) .ret) .skip))) (.seq (.reg [⟨(some 14),(.faddr 1 (.t 2)),0,none⟩,⟨(some 15),(.load false [(.int .i64)] (.t 14)),0,none⟩,⟨(some 16),(.faddr 1 (.t 3)),0,none⟩,⟨(some 17),(.load false [(.int .i64)] (.t 16)),0,none⟩,⟨(some 18),(.call (.c (.fn 122)) [(.t 15),(.t 17)]),0,none⟩,⟨(some 4),(.mv (.t 18)),2,none⟩] none) .ret)))
def JG:List IRes:=[(.tmp 4)]
abbrev a4r:Nat:=19
def Cm:ZG:=Xo [(121,.pure (preT (fun _:Str×Str×Unit=>true)) (Zo (fun x:Str×Str×Unit=>Lib.compareBytes x.1.s x.2.1.s))),(122,.pure (preT (fun _:Int×Int×Unit=>true)) (Zo (fun x:Int×Int×Unit=>QY x.1 x.2.1)))]
theorem b3t{G:PV->Prop}(x y:Coef)(h : ∃ y0:Int,AV.pv (Zo (fun(x:Str×Str×Unit)=>Lib.compareBytes (Str.s x.1) (Str.s x.2.1)) [(.str (Str.s x.v)),(.str (Str.s y.v))])=AV.pv (enc y0)∧(if (y0 != 0)=true then G ((.int .i64 y0))else(∃ y1:Int,AV.pv (Zo (fun(x:Int×Int×Unit)=>QY x.1 x.2.1) [(.int .i64 x.c),(.int .i64 y.c)])=AV.pv (enc y1)∧(G ((.int .i64 y1)))))):Ze Cm 0 (Zg JG G) AB [] (Y2 19 [enc x,enc y]):=Ze.tp (.lit (.abs (Int) (fun YY=>AV.pv (enc YY)) (.lit (.ask (.nil) (.lit (.abs (Int) (fun YY=>AV.pv (enc YY)) (.nil))))))) h (by kernel_rfl)
def Ud:IC:=(.seq (.reg [⟨(some 6),(.mv (.c (.int .i64 0))),0,none⟩] none) (.seq (.seq (.reg [⟨(some 11),(.mv (.t 0)),0,none⟩,⟨(some 12),(.len 1 (.t 11)),0,none⟩,⟨(some 13),(.mv (.c (.int .i64 0))),0,none⟩] none) (.block 0 (.loop [13,12,11,1,2,0] (.seq (.reg [⟨(some 14),(.bin .num .lss (.t 13) (.t 12)),0,none⟩] none) (.seq (.cond (.t 14) .skip (.exit 0)) (.seq (.block 1 (.seq (.reg [⟨(some 15),(.mv (.t 13)),0,none⟩,⟨(some 16),(.iaddr 2 (.t 11) (.t 13)),0,none⟩,⟨(some 17),(.load true [.str,(.int .i64)] (.t 16)),0,none⟩,⟨(some 8),(.alloc (.agg [(.str []),(.int .i64 0)])),0,none⟩,⟨(some 7),(.mv (.t 15)),1,none⟩,⟨none,(.store 2 (.t 8) (.t 17)),1,none⟩] none) (.seq (.seq (.reg [⟨(some 18),(.mv (.t 7)),0,none⟩,⟨(some 19),(.mv (.t 1)),0,none⟩,⟨(some 20),(.len 1 (.t 19)),0,none⟩,⟨(some 21),(.bin .num .geq (.t 18) (.t 20)),0,none⟩] none) (.cond (.t 21) (.seq (.reg [⟨(some 6),(.mv (.c (.int .i64 1))),0,none⟩] none) .ret) .skip)) (.seq (.reg [⟨(some 22),(.mv (.t 1)),0,none⟩,⟨(some 23),(.mv (.t 7)),0,none⟩,⟨(some 24),(.iaddr 2 (.t 22) (.t 23)),0,none⟩,⟨(some 25),(.load true [.str,(.int .i64)] (.t 24)),0,none⟩,⟨(some 9),(.alloc (.agg [(.str []),(.int .i64 0)])),0,none⟩,⟨none,(.store 2 (.t 9) (.t 25)),1,none⟩] none) (.seq (.reg [⟨(some 26),(.mv (.t 2)),0,none⟩,⟨(some 27),(.load true [.str,(.int .i64)] (.t 8)),0,none⟩,⟨(some 28),(.load true [.str,(.int .i64)] (.t 9)),0,none⟩,⟨(some 29),(.call (.t 26) [(.t 27),(.t 28)]),0,none⟩,⟨(some 10),(.mv (.t 29)),2,none⟩] none) (.seq (.reg [⟨(some 30),(.mv (.t 10)),0,none⟩,⟨(some 31),(.bin .num .neq (.t 30) (.c (.int .i64 0))),0,none⟩] none) (.cond (.t 31) (.seq (.reg [⟨(some 32),(.mv (.t 10)),0,none⟩,⟨(some 6),(.mv (.t 32)),0,none⟩] none) .ret) .skip))))))) (.reg [⟨(some 33),(.bin .num .add (.t 13) (.c (.int .i64 1))),0,none⟩,⟨(some 13),(.mv (.t 33)),0,none⟩] none))))))) (.seq (.seq (.reg [⟨(some 34),(.mv (.t 0)),0,none⟩,⟨(some 35),(.len 1 (.t 34)),0,none⟩,⟨(some 36),(.mv (.t 1)),0,none⟩,⟨(some 37),(.len 1 (.t 36)),0,none⟩,⟨(some 38),(.bin .num .lss (.t 35) (.t 37)),0,none⟩] none) (.cond (.t 38) (.seq (.reg [⟨(some 6),(.mv (.c (.int .i64 (-1)))),0,none⟩] none) .ret) .skip)) (.seq (.reg [⟨(some 6),(.mv (.c (.int .i64 0))),0,none⟩] none) .ret))))
def Ua:List IRes:=[(.tmp 6)]
abbrev a9w:Nat:=39
def QH:ZG:=Xo [(120,.pure (preT (fun _:Coef×Coef×Unit=>true)) (Zo (fun x:Coef×Coef×Unit=>Sc x.1 x.2.1)))]
theorem b4b{G:PV->Prop}(a b:List Coef)(h:At QH 0 (Zg Ua G) Ud 0 39 [(0,(.pv (.sl 2 false (List.map enc a)))),(1,(.pv (.sl 2 false (List.map enc b)))),(2,(.pv (.fn 120))),(11,(.pv (.sl 2 false (List.map enc a)))),(12,(.pv (.int .i64 (↑(List.length (List.map enc a)):Int)))),(13,(.pv (.int .i64 0)))] []):Ze QH 0 (Zg Ua G) Ud [] (Y2 39 [enc a,enc b,.fn 120]):=Ze.tp (.nil) h (by kernel_rfl)
theorem MK{G:PV->Prop}(a b:List Coef)(i:Int)(h:if (decide (i<(↑(List.length a):Int)))=true then(decide (0<=i)&&decide (Int.toNat i<List.length (List.map enc a))&&Enc.sz Coef==2)=true∧(∃ y0:Coef,AV.pv (PV.rptr (PV.cells (List.getD (List.map enc a) (Int.toNat i) default)))=AV.pv (PV.rptr (PV.cells ((enc) y0)))∧(if (decide (i ≥ (↑(List.length (List.map enc b)):Int)))=true then G ((.int .i64 1))else((decide (0<=i)&&decide (Int.toNat i<List.length (List.map enc b))&&Enc.sz Coef==2)=true∧(∃ y1:Coef,AV.pv (PV.rptr (PV.cells (List.getD (List.map enc b) (Int.toNat i) default)))=AV.pv (PV.rptr (PV.cells ((enc) y1)))∧(∃ y2:Int,AV.pv (Zo (fun(x:Coef×Coef×Unit)=>Sc x.1 x.2.1) [(.agg [(.str (PV.asStr (List.getD (PV.cells (enc y0)) 0 default))),(.int .i64 (PV.asInt (List.getD (PV.cells (enc y0)) (0+1) default)))]),(.agg [(.str (PV.asStr (List.getD (PV.cells (enc y1)) 0 default))),(.int .i64 (PV.asInt (List.getD (PV.cells (enc y1)) (0+1) default)))])])=AV.pv (enc y2)∧(if (y2 != 0)=true then G ((.int .i64 y2))else(At QH 0 (Zg Ua G) Ud 0 39 [(0,(.pv (.sl 2 false (List.map enc a)))),(1,(.pv (.sl 2 false (List.map enc b)))),(2,(.pv (.fn 120))),(11,(.pv (.sl 2 false (List.map enc a)))),(12,(.pv (.int .i64 (↑(List.length a):Int)))),(13,(.pv (.int .i64 (IntKind.wrap IntKind.i64 (i+1)))))] [])))))))else(if (decide ((↑(List.length (List.map enc a)):Int)<(↑(List.length (List.map enc b)):Int)))=true then G ((.int .i64 (-1)))else(G ((.int .i64 0))))):At QH 0 (Zg Ua G) Ud 0 39 [(0,.pv (enc a)),(1,.pv (enc b)),(2,.pv (.fn 120)),(11,.pv (enc a)),(12,.pv (.int .i64 a.length)),(13,.pv (.int .i64 i))] []:=At.tp (.lit (.ask (.req (.abs (Coef) (fun YY=>AV.pv (PV.rptr (PV.cells ((enc) YY)))) (.lit (.lit (.ask (.nil) (.req (.abs (Coef) (fun YY=>AV.pv (PV.rptr (PV.cells ((enc) YY)))) (.lit (.lit (.abs (Int) (fun YY=>AV.pv (enc YY)) (.lit (.ask (.nil) (.lit (.nil)))))))))))))) (.lit (.ask (.nil) (.nil))))) h (by kernel_rfl)
def Ry:IC:=(.seq (.reg [⟨(some 2),(.box 2 (.t 0)),0,none⟩,⟨(some 3),(.box 2 (.t 1)),1,none⟩,⟨(some 4),(.mv (.c (.int .i64 0))),2,none⟩] none) (.seq (.reg [⟨(some 6),(.faddr 1 (.t 2)),0,none⟩,⟨(some 7),(.load false [(.sl 2)] (.t 6)),0,none⟩,⟨(some 8),(.faddr 1 (.t 3)),0,none⟩,⟨(some 9),(.load false [(.sl 2)] (.t 8)),0,none⟩,⟨(some 10),(.call (.c (.fn 119)) [(.t 7),(.t 9),(.c (.fn 120))]),0,none⟩,⟨(some 5),(.mv (.t 10)),2,none⟩] none) (.seq (.seq (.reg [⟨(some 11),(.mv (.t 5)),0,none⟩,⟨(some 12),(.bin .num .neq (.t 11) (.c (.int .i64 0))),0,none⟩] none) (.cond (.t 12) (.seq (.reg [⟨(some 13),(.mv (.t 5)),0,none⟩,⟨(some 4),(.mv (.t 13)),0,none⟩] none) .ret) .skip)) (.seq (.reg [⟨(some 14),(.faddr 0 (.t 2)),0,none⟩,⟨(some 15),(.load false [(.int .i64)] (.t 14)),0,none⟩,⟨(some 16),(.faddr 0 (.t 3)),0,none⟩,⟨(some 17),(.load false [(.int .i64)] (.t 16)),0,none⟩,⟨(some 18),(.call (.c (.fn 122)) [(.t 15),(.t 17)]),0,none⟩,⟨(some 4),(.mv (.t 18)),2,none⟩] none) .ret))))
def Cg:List IRes:=[(.tmp 4)]
abbrev b2o:Nat:=19
def Rc:ZG:=Xo [(119,.pure (preT (fun x:List Coef×List Coef×FnV 120×Unit=>decide (x.1.length<=9223372036854775807)&&decide (x.2.1.length<=9223372036854775807))) (Zo (fun x:List Coef×List Coef×FnV 120×Unit=>VC x.1 x.2.1))),(122,.pure (preT (fun _:Int×Int×Unit=>true)) (Zo (fun x:Int×Int×Unit=>QY x.1 x.2.1)))]
theorem b9t{G:PV->Prop}(a b:Lin)(h:(Go.Pl.preT (fun(x:List Coef×List Coef×FnV 120×Unit)=>decide (List.length x.1<=9223372036854775807)&&decide (List.length x.2.1<=9223372036854775807)) [(.sl 2 false (List.map enc a.t)),(.sl 2 false (List.map enc b.t)),(.fn 120)])=true∧(∃ y0:Int,AV.pv (Zo (fun(x:List Coef×List Coef×FnV 120×Unit)=>VC x.1 x.2.1) [(.sl 2 false (List.map enc a.t)),(.sl 2 false (List.map enc b.t)),(.fn 120)])=AV.pv (enc y0)∧(if (y0 != 0)=true then G ((.int .i64 y0))else(∃ y1:Int,AV.pv (Zo (fun(x:Int×Int×Unit)=>QY x.1 x.2.1) [(.int .i64 a.k),(.int .i64 b.k)])=AV.pv (enc y1)∧(G ((.int .i64 y1))))))):Ze Rc 0 (Zg Cg G) Ry [] (Y2 19 [enc a,enc b]):=Ze.tp (.req (.abs (Int) (fun YY=>AV.pv (enc YY)) (.lit (.ask (.nil) (.lit (.abs (Int) (fun YY=>AV.pv (enc YY)) (.nil))))))) h (by kernel_rfl)
def F4:IC:=(.seq (.reg [⟨(some 2),(.box 2 (.t 0)),0,none⟩,⟨(some 3),(.box 2 (.t 1)),1,none⟩,⟨(some 4),(.mv (.c (.bool false))),2,none⟩] none) (.seq (.reg [⟨(some 5),(.load true [(.int .i64),(.sl 2)] (.t 2)),0,none⟩,⟨(some 6),(.load true [(.int .i64),(.sl 2)] (.t 3)),0,none⟩,⟨(some 7),(.call (.c (.fn 80)) [(.t 5),(.t 6)]),0,none⟩,⟨(some 8),(.bin .num .eql (.t 7) (.c (.int .i64 0))),2,none⟩,⟨(some 4),(.mv (.t 8)),2,none⟩] none) .ret))
def Fg:List IRes:=[(.tmp 4)]
abbrev b9c:Nat:=9
def a8a:ZG:=Xo [(80,.pure (preT (fun x:Lin×Lin×Unit=>ZL x.1&&ZL x.2.1)) (Zo (fun x:Lin×Lin×Unit=>V8 x.1 x.2.1)))]
theorem c1q{G:PV->Prop}(a b:Lin)(h:(Go.Pl.preT (fun(x:Lin×Lin×Unit)=>ZL x.1&&ZL x.2.1) [(.agg [(.int .i64 a.k),(.sl 2 false (List.map enc a.t))]),(.agg [(.int .i64 b.k),(.sl 2 false (List.map enc b.t))])])=true∧(∃ y0:Int,AV.pv (Zo (fun(x:Lin×Lin×Unit)=>V8 x.1 x.2.1) [(.agg [(.int .i64 a.k),(.sl 2 false (List.map enc a.t))]),(.agg [(.int .i64 b.k),(.sl 2 false (List.map enc b.t))])])=AV.pv (enc y0)∧(G ((.bool (y0==0)))))):Ze a8a 0 (Zg Fg G) F4 [] (Y2 9 [enc a,enc b]):=Ze.tp (.req (.abs (Int) (fun YY=>AV.pv (enc YY)) (.lit (.nil)))) h (by kernel_rfl)
def TJ:IC:=(.seq (.reg [⟨(some 6),(.mv (.t 0)),0,none⟩,⟨(some 7),(.call (.c (.fn 76)) [(.t 6)]),0,none⟩,⟨(some 5),(.mv (.t 7)),2,none⟩] none) (.seq (.seq (.reg [⟨(some 8),(.mv (.t 1)),0,none⟩,⟨(some 9),(.bin .num .neq (.t 8) (.c (.str []))),0,none⟩,⟨(some 10),(.mv (.t 9)),0,none⟩,⟨(some 11),(.mv (.t 0)),0,(some (10,true))⟩,⟨(some 12),(.bin .num .eql (.t 11) (.c (.int .i64 1))),0,(some (10,true))⟩,⟨(some 13),(.mv (.t 12)),0,(some (10,true))⟩,⟨(some 14),(.mv (.t 0)),0,(some (13,false))⟩,⟨(some 15),(.bin .num .eql (.t 14) (.c (.int .i64 (-1)))),0,(some (13,false))⟩,⟨(some 16),(.pick (.t 13) (.c (.bool true)) (.t 15)),0,(some (10,true))⟩,⟨(some 17),(.pick (.t 10) (.t 16) (.c (.bool false))),0,none⟩] none) (.cond (.t 17) (.reg [⟨(some 18),(.mv (.t 5)),0,none⟩,⟨(some 19),(.call (.c (.fn 77)) [(.t 18),(.c (.str [49]))]),0,none⟩,⟨(some 5),(.mv (.t 19)),2,none⟩] none) .skip)) (.seq (.seq (.reg [⟨(some 20),(.mv (.t 0)),0,none⟩,⟨(some 21),(.bin .num .geq (.t 20) (.c (.int .i64 0))),0,none⟩,⟨(some 22),(.mv (.t 21)),0,none⟩,⟨(some 23),(.load false [.str] (.t 2)),0,(some (22,true))⟩,⟨(some 24),(.bin .num .neq (.t 23) (.c (.str []))),0,(some (22,true))⟩,⟨(some 25),(.pick (.t 22) (.t 24) (.c (.bool false))),0,none⟩] none) (.cond (.t 25) (.reg [⟨(some 26),(.load false [.str] (.t 2)),0,none⟩,⟨(some 27),(.bin .num .add (.t 26) (.c (.str [43]))),0,none⟩,⟨none,(.store 1 (.t 2) (.t 27)),0,none⟩] none) .skip)) (.reg [⟨(some 28),(.load false [.str] (.t 2)),0,none⟩,⟨(some 29),(.mv (.t 5)),0,none⟩,⟨(some 30),(.mv (.t 1)),0,none⟩,⟨(some 31),(.bin .num .add (.t 29) (.t 30)),0,none⟩,⟨(some 32),(.bin .num .add (.t 28) (.t 31)),0,none⟩,⟨none,(.store 1 (.t 2) (.t 32)),0,none⟩] none))))
def Ra:List IRes:=[]
abbrev b4v:Nat:=33
def Fe:ZG:=Xo [(76,.pure (preT (fun x:Int×Unit=>decide (-9223372036854775808<=x.1)&&decide (x.1<=9223372036854775807))) (Zo (fun x:Int×Unit=>Xr x.1))),(77,.pure (preT (fun x:Str×Str×Unit=>decide (x.1.s.length<=1000000))) (Zo (fun x:Str×Str×Unit=>(⟨Lib.trimSuffix x.1.s x.2.1.s⟩:Str))))]
theorem b8p{G:AV×List AObj×List AObj->Prop}(n:Int)(s o:List UInt8)(h:(Go.Pl.preT (fun(x:Int×Unit)=>decide ((-9223372036854775808:Int)<=x.1)&&decide (x.1<=9223372036854775807)) [(.int .i64 n)])=true∧(∃ y0:Str,AV.pv (Zo (fun(x:Int×Unit)=>Xr x.1) [(.int .i64 n)])=AV.pv (enc y0)∧(if (!s==[])=true then if (n==1)=true then(Go.Pl.preT (fun(x:Str×Str×Unit)=>decide (List.length (Str.s x.1)<=1000000)) [(.str (Str.s y0)),(.str [(49:UInt8)])])=true∧(∃ y1:Str,AV.pv (Zo (fun(x:Str×Str×Unit)=>Str.mk (Lib.trimSuffix (Str.s x.1) (Str.s x.2.1))) [(.str (Str.s y0)),(.str [(49:UInt8)])])=AV.pv (enc y1)∧(if (decide (n ≥ 0))=true then if (!o==[])=true then(decide (List.length o+List.length [(43:UInt8)]<=1099511627776))=true∧((decide (List.length (Str.s y1)+List.length s<=1099511627776))=true∧((decide (List.length (o++[(43:UInt8)])+List.length (Str.s y1++s)<=1099511627776))=true∧(G (((.tup []),([(.box [(.pv (.str (o++[(43:UInt8)]++(Str.s y1++s))))])],[]))))))else((decide (List.length (Str.s y1)+List.length s<=1099511627776))=true∧((decide (List.length o+List.length (Str.s y1++s)<=1099511627776))=true∧(G (((.tup []),([(.box [(.pv (.str (o++(Str.s y1++s))))])],[]))))))else((decide (List.length (Str.s y1)+List.length s<=1099511627776))=true∧((decide (List.length o+List.length (Str.s y1++s)<=1099511627776))=true∧(G (((.tup []),([(.box [(.pv (.str (o++(Str.s y1++s))))])],[]))))))))else(if (n==(-1:Int))=true then(Go.Pl.preT (fun(x:Str×Str×Unit)=>decide (List.length (Str.s x.1)<=1000000)) [(.str (Str.s y0)),(.str [(49:UInt8)])])=true∧(∃ y2:Str,AV.pv (Zo (fun(x:Str×Str×Unit)=>Str.mk (Lib.trimSuffix (Str.s x.1) (Str.s x.2.1))) [(.str (Str.s y0)),(.str [(49:UInt8)])])=AV.pv (enc y2)∧(if (decide (n ≥ 0))=true then if (!o==[])=true then(decide (List.length o+List.length [(43:UInt8)]<=1099511627776))=true∧((decide (List.length (Str.s y2)+List.length s<=1099511627776))=true∧((decide (List.length (o++[(43:UInt8)])+List.length (Str.s y2++s)<=1099511627776))=true∧(G (((.tup []),([(.box [(.pv (.str (o++[(43:UInt8)]++(Str.s y2++s))))])],[]))))))else((decide (List.length (Str.s y2)+List.length s<=1099511627776))=true∧((decide (List.length o+List.length (Str.s y2++s)<=1099511627776))=true∧(G (((.tup []),([(.box [(.pv (.str (o++(Str.s y2++s))))])],[]))))))else((decide (List.length (Str.s y2)+List.length s<=1099511627776))=true∧((decide (List.length o+List.length (Str.s y2++s)<=1099511627776))=true∧(G (((.tup []),([(.box [(.pv (.str (o++(Str.s y2++s))))])],[]))))))))else(if (decide (n ≥ 0))=true then if (!o==[])=true then(decide (List.length o+List.length [(43:UInt8)]<=1099511627776))=true∧((decide (List.length (Str.s y0)+List.length s<=1099511627776))=true∧((decide (List.length (o++[(43:UInt8)])+List.length (Str.s y0++s)<=1099511627776))=true∧(G (((.tup []),([(.box [(.pv (.str (o++[(43:UInt8)]++(Str.s y0++s))))])],[]))))))else((decide (List.length (Str.s y0)+List.length s<=1099511627776))=true∧((decide (List.length o+List.length (Str.s y0++s)<=1099511627776))=true∧(G (((.tup []),([(.box [(.pv (.str (o++(Str.s y0++s))))])],[]))))))else((decide (List.length (Str.s y0)+List.length s<=1099511627776))=true∧((decide (List.length o+List.length (Str.s y0++s)<=1099511627776))=true∧(G (((.tup []),([(.box [(.pv (.str (o++(Str.s y0++s))))])],[]))))))))else(if (decide (n ≥ 0))=true then if (!o==[])=true then(decide (List.length o+List.length [(43:UInt8)]<=1099511627776))=true∧((decide (List.length (Str.s y0)+List.length s<=1099511627776))=true∧((decide (List.length (o++[(43:UInt8)])+List.length (Str.s y0++s)<=1099511627776))=true∧(G (((.tup []),([(.box [(.pv (.str (o++[(43:UInt8)]++(Str.s y0++s))))])],[]))))))else((decide (List.length (Str.s y0)+List.length s<=1099511627776))=true∧((decide (List.length o+List.length (Str.s y0++s)<=1099511627776))=true∧(G (((.tup []),([(.box [(.pv (.str (o++(Str.s y0++s))))])],[]))))))else((decide (List.length (Str.s y0)+List.length s<=1099511627776))=true∧((decide (List.length o+List.length (Str.s y0++s)<=1099511627776))=true∧(G (((.tup []),([(.box [(.pv (.str (o++(Str.s y0++s))))])],[])))))))))):Ze Fe 1 (Zk 1 Ra G) TJ [] (ZK 33 [.pv (enc n),.pv (.str s),.ptr 0 0] [.box [.pv (.str o)]]):=Ze.to (.req (.abs (Str) (fun YY=>AV.pv (enc YY)) (.lit (.ask (.lit (.lit (.lit (.ask (.lit (.lit (.lit (.lit (.lit (.req (.abs (Str) (fun YY=>AV.pv (enc YY)) (.lit (.ask (.lit (.lit (.lit (.ask (.req (.req (.req (.nil)))) (.req (.req (.nil))))))) (.lit (.lit (.lit (.req (.req (.nil))))))))))))))) (.lit (.lit (.lit (.lit (.lit (.ask (.req (.abs (Str) (fun YY=>AV.pv (enc YY)) (.lit (.ask (.lit (.lit (.lit (.ask (.req (.req (.req (.nil)))) (.req (.req (.nil))))))) (.lit (.lit (.lit (.req (.req (.nil)))))))))) (.lit (.ask (.lit (.lit (.lit (.ask (.req (.req (.req (.nil)))) (.req (.req (.nil))))))) (.lit (.lit (.lit (.req (.req (.nil)))))))))))))))))) (.lit (.lit (.lit (.lit (.lit (.lit (.ask (.lit (.lit (.lit (.ask (.req (.req (.req (.nil)))) (.req (.req (.nil))))))) (.lit (.lit (.lit (.req (.req (.nil))))))))))))))))) h (by kernel_rfl)
def Vi:IC:=(.seq (.reg [⟨(some 1),(.box 2 (.t 0)),0,none⟩,⟨(some 2),(.mv (.c (.str []))),1,none⟩] none) (.seq (.seq (.reg [⟨(some 7),(.load true [(.int .i64),(.sl 2)] (.t 1)),0,none⟩,⟨(some 8),(.call (.c (.fn 41)) [(.t 7)]),0,none⟩,⟨(some 9),(.un .not (.t 8)),2,none⟩] none) (.cond (.t 9) (.seq (.reg [⟨(some 2),(.mv (.c (.str []))),0,none⟩] none) .ret) .skip)) (.seq (.reg [⟨(some 3),(.alloc (.str [])),0,none⟩,⟨none,(.store 1 (.t 3) (.c (.str []))),1,none⟩] none) (.seq (.reg [⟨(some 10),(.mkfn 75 [] [(.t 3)]),0,none⟩,⟨(some 4),(.mv (.t 10)),0,none⟩] none) (.seq (.seq (.reg [⟨(some 11),(.faddr 1 (.t 1)),0,none⟩,⟨(some 12),(.load false [(.sl 2)] (.t 11)),0,none⟩,⟨(some 13),(.len 1 (.t 12)),0,none⟩,⟨(some 14),(.mv (.c (.int .i64 0))),0,none⟩] none) (.block 0 (.loop [14,13,12,4,1,3] (.seq (.reg [⟨(some 15),(.bin .num .lss (.t 14) (.t 13)),0,none⟩] none) (.seq (.cond (.t 15) .skip (.exit 0)) (.seq (.block 1 (.seq (.reg [⟨(some 16),(.iaddr 2 (.t 12) (.t 14)),0,none⟩,⟨(some 17),(.load true [.str,(.int .i64)] (.t 16)),0,none⟩,⟨(some 6),(.alloc (.agg [(.str []),(.int .i64 0)])),0,none⟩,⟨none,(.store 2 (.t 6) (.t 17)),1,none⟩] none) (.reg [⟨(some 18),(.mv (.t 4)),0,none⟩,⟨(some 19),(.faddr 1 (.t 6)),0,none⟩,⟨(some 20),(.load false [(.int .i64)] (.t 19)),0,none⟩,⟨(some 21),(.faddr 0 (.t 6)),0,none⟩,⟨(some 22),(.load false [.str] (.t 21)),0,none⟩,⟨(some 23),(.call (.t 18) [(.t 20),(.t 22)]),0,none⟩] none))) (.reg [⟨(some 24),(.bin .num .add (.t 14) (.c (.int .i64 1))),0,none⟩,⟨(some 14),(.mv (.t 24)),0,none⟩] none))))))) (.seq (.seq (.reg [⟨(some 25),(.faddr 0 (.t 1)),0,none⟩,⟨(some 26),(.load false [(.int .i64)] (.t 25)),0,none⟩,⟨(some 27),(.bin .num .neq (.t 26) (.c (.int .i64 0))),0,none⟩,⟨(some 28),(.mv (.t 27)),0,none⟩,⟨(some 29),(.load false [.str] (.t 3)),0,(some (28,false))⟩,⟨(some 30),(.bin .num .eql (.t 29) (.c (.str []))),0,(some (28,false))⟩,⟨(some 31),(.pick (.t 28) (.c (.bool true)) (.t 30)),0,none⟩] none) (.cond (.t 31) (.reg [⟨(some 32),(.mv (.t 4)),0,none⟩,⟨(some 33),(.faddr 0 (.t 1)),0,none⟩,⟨(some 34),(.load false [(.int .i64)] (.t 33)),0,none⟩,⟨(some 35),(.call (.t 32) [(.t 34),(.c (.str []))]),0,none⟩] none) .skip)) (.seq (.reg [⟨(some 36),(.load false [.str] (.t 3)),0,none⟩,⟨(some 2),(.mv (.t 36)),0,none⟩] none) .ret)))))))
def WE:List IRes:=[(.tmp 2)]
abbrev a2e:Nat:=37
def VD:ZG:=Xo [(41,.pure (preT (fun x:Lin×Unit=>ZJ x.1)) (Zo (fun x:Lin×Unit=>Zm x.1))),(75,.own XR Hd)]
theorem a5h{G:PV->Prop}(l:Lin)(h:(Go.Pl.preT (fun(x:Lin×Unit)=>ZJ x.1) [(.agg [(.int .i64 l.k),(.sl 2 false (List.map enc l.t))])])=true∧(∃ y0:Bool,AV.pv (Zo (fun(x:Lin×Unit)=>Zm x.1) [(.agg [(.int .i64 l.k),(.sl 2 false (List.map enc l.t))])])=AV.pv (enc y0)∧(if (!y0)=true then G ((.str []))else(At VD 0 (Zg WE G) Vi 0 37 [(1,(.ptr 0 0)),(3,(.ptr 1 0)),(4,(.fn 75 [] [(.ptr 1 0)])),(12,(.pv (.sl 2 false (List.map enc l.t)))),(13,(.pv (.int .i64 (↑(List.length (List.map enc l.t)):Int)))),(14,(.pv (.int .i64 0)))] [(.obj (.box [(.pv (.int .i64 l.k)),(.pv (.sl 2 false (List.map enc l.t)))])),(.obj (.box [(.pv (.str []))]))])))):Ze VD 0 (Zg WE G) Vi [] (Y2 37 [enc l]):=Ze.tp (.req (.abs (Bool) (fun YY=>AV.pv (enc YY)) (.ask (.nil) (.nil)))) h (by kernel_rfl)
theorem Ta{G:PV->Prop}(l:Lin)(o:List UInt8)(i:Int)(h:if (decide (i<(↑(List.length l.t):Int)))=true then(decide (0<=i)&&decide (Int.toNat i<List.length (List.map enc l.t))&&Enc.sz Coef==2)=true∧(∃ y0:Coef,AV.pv (PV.rptr (PV.cells (List.getD (List.map enc l.t) (Int.toNat i) default)))=AV.pv (PV.rptr (PV.cells ((enc) y0)))∧((XR [(.pv (.int .i64 (PV.asInt (List.getD (PV.cells (enc y0)) (0+1) default)))),(.pv (.str (PV.asStr (List.getD (PV.cells (enc y0)) 0 default)))),(.ptr 0 0)] [(.box [(.pv (.str o))])])=true∧(At VD 0 (Zg WE G) Vi 0 37 [(1,(.ptr 0 0)),(3,(.ptr 1 0)),(4,(.fn 75 [] [(.ptr 1 0)])),(12,(.pv (.sl 2 false (List.map enc l.t)))),(13,(.pv (.int .i64 (↑(List.length l.t):Int)))),(14,(.pv (.int .i64 (IntKind.wrap IntKind.i64 (i+1)))))] [(.obj (.box [(.pv (.int .i64 l.k)),(.pv (.sl 2 false (List.map enc l.t)))])),(.obj (.box [(.pv (.str (Yr o (PV.asInt (List.getD (PV.cells (enc y0)) (0+1) default)) (PV.asStr (List.getD (PV.cells (enc y0)) 0 default)))))]))])))else(if (l.k != 0)=true then(XR [(.pv (.int .i64 l.k)),(.pv (.str [])),(.ptr 0 0)] [(.box [(.pv (.str o))])])=true∧(G ((.str (Yr o l.k []))))else(if (o==[])=true then(XR [(.pv (.int .i64 l.k)),(.pv (.str [])),(.ptr 0 0)] [(.box [(.pv (.str o))])])=true∧(G ((.str (Yr o l.k []))))else(G ((.str o)))))):At VD 0 (Zg WE G) Vi 0 37 [(1,.ptr 0 0),(3,.ptr 1 0),(4,.fn 75 [] [.ptr 1 0]),(12,.pv (enc l.t)),(13,.pv (.int .i64 l.t.length)),(14,.pv (.int .i64 i))] [.obj (.box [.pv (.int .i64 l.k),.pv (enc l.t)]),.obj (.box [.pv (.str o)])]:=At.tp (.lit (.ask (.req (.abs (Coef) (fun YY=>AV.pv (PV.rptr (PV.cells ((enc) YY)))) (.lit (.req (.keep (.lit (.nil))))))) (.lit (.ask (.lit (.lit (.lit (.req (.keep (.nil)))))) (.lit (.lit (.lit (.ask (.req (.keep (.nil))) (.nil))))))))) h (by kernel_rfl)
end Go.Pl

namespace Go.Pl
open Go.RowKit
open Enc (enc dec is)
open EncL (encL decL isL)
theorem Fx: ∀ a:Int×Int×Unit,true=true->Ze Jz 0 (Zg Kl (ZB (QY a.1 a.2.1))) GD [] (Y2 EK (encL a)):=by
 rintro⟨a,b,⟨⟩⟩ -
 show Ze Jz 0 (Zg Kl (ZB (QY a b))) _ _ _
 refine b1n a b (UT (fun h=> ?_) fun h=>UT (fun k=> ?_) fun k=> ?_)
 ·exact Ur (by simp[QY,h])
 ·exact Ur (by simp[QY,h,k])
 ·exact Ur (by simp[QY,h,k])
theorem EL: ∀ a:Coef×Coef×Unit,true=true->Ze Cm 0 (Zg JG (ZB (Sc a.1 a.2.1))) AB [] (Y2 a4r (encL a)):=by
 rintro⟨x,y,⟨⟩⟩ -
 show Ze Cm 0 (Zg JG (ZB (Sc x y))) _ _ _
 unfold Sc
 refine b3t x y (Zz (x.v,y.v,()) rfl (a0c (fun h=> ?_) fun h=>Zz (x.c,y.c,()) rfl ?_))
 ·have h:Lib.compareBytes x.v.s y.v.s≠0:=by simpa using h
  rw[if_pos h]
  exact Ur rfl
 ·have h : ¬ Lib.compareBytes x.v.s y.v.s≠0:=by simpa using h
  rw[if_neg h]
  exact Ur rfl
theorem NA(t:Coef):(PV.agg [.str (PV.asStr (List.getD (PV.cells (enc t)) 0 default)),.int .i64 (PV.asInt (List.getD (PV.cells (enc t)) (0+1) default))])=enc t:=rfl
theorem Fh(a b:List Coef)(ha:a.length<=9223372036854775807): ∀ (m i:Nat),m+i=a.length->i<=b.length ->
  At QH 0 (Zg Ua (ZB (VC (a.drop i) (b.drop i)))) Ud 0 39 [(0,.pv (enc a)),(1,.pv (enc b)),(2,.pv (.fn 120)),(11,.pv (enc a)),(12,.pv (.int .i64 a.length)),(13,.pv (.int .i64 i))] []:=by
 intro m
 induction m with
 | zero=>
  intro i hi hb
  have ea:a.drop i=[]:=List.drop_of_length_le (by omega)
  rw[ea]
  refine MK a b i (Zy (Kb (by omega)) (UT (fun h=> ?_) fun h=> ?_))
  ·have h:a.length<b.length:=by simpa using h
   have:b.drop i=b[i]::b.drop (i+1):=List.drop_eq_getElem_cons (by omega)
   rw[this]
   exact Ur (by rw[VC])
  ·have h : ¬ a.length<b.length:=by simpa using h
   have:b.drop i=[]:=List.drop_of_length_le (by omega)
   rw[this]
   exact Ur (by rw[VC])
 | succ m ih=>
  intro i hi hb
  have hlt:i<a.length:=by omega
  have ea:a.drop i=a[i]::a.drop (i+1):=List.drop_eq_getElem_cons hlt
  rw[ea]
  refine MK a b i (Zx (QQ hlt) ⟨WS hlt rfl,Ux hlt (UT (fun h=> ?_) fun h=> ?_)⟩)
  ·have h:b.length<=i:=by
    have:(i:Int) ≥ ((List.map (enc:Coef->PV) b).length:Int):=h
    rw[List.length_map]at this
    omega
   have:b.drop i=[]:=List.drop_of_length_le h
   rw[this]
   exact Ur (by rw[VC])
  ·have h:i<b.length:=by
    have : ¬ (i:Int) ≥ ((List.map (enc:Coef->PV) b).length:Int):=h
    rw[List.length_map]at this
    omega
   have eb:b.drop i=b[i]::b.drop (i+1):=List.drop_eq_getElem_cons h
   rw[eb]
   refine⟨WS h rfl,Ux h ?_⟩
   rw[NA,NA]
   refine Zz (a[i],b[i],()) rfl (a0c (fun hc=> ?_) fun hc=> ?_)
   ·have hc:Sc a[i] b[i]≠0:=by simpa using hc
    exact Ur (by rw[VC,if_pos hc])
   ·have hc : ¬ Sc a[i] b[i]≠0:=by simpa using hc
    have e:VC (a[i]::a.drop (i+1)) (b[i]::b.drop (i+1))=VC (a.drop (i+1)) (b.drop (i+1)):=by rw[VC,if_neg hc]
    rw[e,next (by omega)]
    exact ih (i+1) (by omega) (by omega)
theorem a2j: ∀ a:List Coef×List Coef×FnV 120×Unit,(decide (a.1.length<=9223372036854775807)&&decide (a.2.1.length<=9223372036854775807))=true->Ze QH 0 (Zg Ua (ZB (VC a.1 a.2.1))) Ud [] (Y2 a9w (encL a)):=by
 rintro⟨a,b,g,⟨⟩⟩ h
 simp only[Bool.and_eq_true,decide_eq_true_eq]at h
 refine b4b a b ?_
 rw[List.length_map]
 exact Fh a b h.1 a.length 0 (by omega) (by omega)
theorem a3w: ∀ a:Lin×Lin×Unit,(ZL a.1&&ZL a.2.1)=true->Ze Rc 0 (Zg Cg (ZB (V8 a.1 a.2.1))) Ry [] (Y2 b2o (encL a)):=by
 rintro⟨a,b,⟨⟩⟩ h
 show Ze Rc 0 (Zg Cg (ZB (V8 a b))) _ _ _
 unfold V8
 refine b9t a b ⟨Zt (a.t,b.t,({}:FnV 120),()) rfl h,Zz (a.t,b.t,({}:FnV 120),()) rfl (a0c (fun hc=> ?_) fun hc=>Zz (a.k,b.k,()) rfl ?_)⟩
 ·have hc:VC a.t b.t≠0:=by simpa using hc
  rw[if_pos hc]
  exact Ur rfl
 ·have hc : ¬ VC a.t b.t≠0:=by simpa using hc
  rw[if_neg hc]
  exact Ur rfl
theorem b5y: ∀ a:Lin×Lin×Unit,(ZL a.1&&ZL a.2.1)=true->Ze a8a 0 (Zg Fg (ZB (V8 a.1 a.2.1==0))) F4 [] (Y2 b9c (encL a)):=by
 rintro⟨a,b,⟨⟩⟩ h
 exact c1q a b ⟨Zt (a,b,()) rfl h,Zz (a,b,()) rfl (YI rfl)⟩
theorem Nj(s p:List UInt8):(Lib.trimSuffix s p).length<=s.length:=by
 unfold Lib.trimSuffix
 split
 ·rw[List.length_take];omega
 ·exact Nat.le_refl _
theorem a3l: ∀ args os,XR args os=true->Ze Fe os.length (Zk os.length Ra fun r=>r=Hd args os) TJ [] (ZK b4v args os):=by
 intro args os h
 unfold XR at h
 split at h
 ·rename_i n s o
  simp only[Bool.and_eq_true,decide_eq_true_eq]at h
  obtain⟨⟨⟨n1,n2⟩,hs⟩,ho⟩:=h
  have ev:Hd [.pv (.int .i64 n),.pv (.str s),.ptr 0 0] [.box [.pv (.str o)]]=(.tup [],[.box [.pv (.str (Yr o n s))]],[]):=rfl
  rw[ev]
  have hi:=Lib.itoa_length_le n n1 n2
  have hi:(Xr n).s.length<=21:=hi
  have ht:=Nj (Xr n).s [49]
  have fin : ∀ (b:Bool) (x:List UInt8),x.length<=21->(decide (s≠[])&&(decide (n=1)||decide (n = -1)))=b->x=(if b then Lib.trimSuffix (Xr n).s [49]else(Xr n).s) ->
    (if decide (n ≥ 0)=true then(if (!o==[])=true then(decide (o.length+List.length [(43:UInt8)]<=1099511627776)=true∧(decide (x.length+s.length<=1099511627776)=true∧(decide (List.length (o++[(43:UInt8)])+List.length (x++s)<=1099511627776)=true∧((AV.tup [],[AObj.box [.pv (.str (o++[(43:UInt8)]++(x++s)))]],([]:List AObj))=(.tup [],[.box [.pv (.str (Yr o n s))]],[])))))
     else(decide (x.length+s.length<=1099511627776)=true∧(decide (o.length+List.length (x++s)<=1099511627776)=true∧((AV.tup [],[AObj.box [.pv (.str (o++(x++s)))]],([]:List AObj))=(.tup [],[.box [.pv (.str (Yr o n s))]],[])))))
    else(decide (x.length+s.length<=1099511627776)=true∧(decide (o.length+List.length (x++s)<=1099511627776)=true∧((AV.tup [],[AObj.box [.pv (.str (o++(x++s)))]],([]:List AObj))=(.tup [],[.box [.pv (.str (Yr o n s))]],[]))))):=by
   intro b x hx hb hxe
   have hp : ∀ o2:List UInt8,o2=(if decide (n ≥ 0)&&decide (o≠[])then o++[43]else o)->Yr o n s=o2++(x++s):=by
    intro o2 h2
    unfold Yr
    rw[hb,<- h2,<- hxe]
   refine UT (fun h0=>a0c (fun h1=> ?_) fun h1=> ?_) fun h0=> ?_
   ·have h1:o≠[]:=by simpa using h1
    refine⟨by simp;omega,by simp;omega,by simp;omega,?_⟩
    rw[hp (o++[43]) (by simp[h0,h1])]
   ·have h1:o=[]:=by simpa using h1
    refine⟨by simp;omega,by simp;omega,?_⟩
    rw[hp o (by simp[h1])]
   ·refine⟨by simp;omega,by simp;omega,?_⟩
    rw[hp o (by simp[h0])]
  refine b8p n s o ⟨Zt (n,()) rfl (by show(decide (-9223372036854775808<=n)&&decide (n<=9223372036854775807))=true;rw[decide_eq_true n1,decide_eq_true n2];rfl),Zz (n,()) rfl (a0c (fun h1=> ?_) fun h1=> ?_)⟩
  ·have h1:s≠[]:=by simpa using h1
   have htr:decide ((Xr n).s.length<=1000000)=true:=decide_eq_true (by omega)
   refine Gf (fun h2=> ?_) fun h2=>Gf (fun h3=> ?_) fun h3=> ?_
   ·have h2:n=1:=h2
    exact⟨Zt (Xr n,(⟨[49]⟩:Str),()) rfl htr,Zz (Xr n,(⟨[49]⟩:Str),()) rfl (fin true _ (by show(Lib.trimSuffix (Xr n).s [49]).length<=21;omega) (by simp[h1,h2]) rfl)⟩
   ·have h3:n = -1:=h3
    exact⟨Zt (Xr n,(⟨[49]⟩:Str),()) rfl htr,Zz (Xr n,(⟨[49]⟩:Str),()) rfl (fin true _ (by show(Lib.trimSuffix (Xr n).s [49]).length<=21;omega) (by simp[h1,h3]) rfl)⟩
   ·have h2:n≠1:=h2
    have h3:n ≠ -1:=h3
    exact fin false _ hi (by simp[h2,h3]) rfl
  ·have h1:s=[]:=by simpa using h1
   exact fin false _ hi (by simp[h1]) rfl
 ·cases h
theorem b1r(o:List UInt8)(n:Int)(s:List UInt8)(n1 : -9223372036854775808<=n)(n2:n<=9223372036854775807):(Yr o n s).length<=o.length+1+21+s.length:=by
 have hi:=Lib.itoa_length_le n n1 n2
 have hi:(Xr n).s.length<=21:=hi
 have ht:=Nj (Xr n).s [49]
 unfold Yr
 split <;> split <;> simp <;> omega
theorem Mo(l:Lin)(hv:Zm l=true): ∀ (m i:Nat) (o:List UInt8),m+i=l.t.length->o.length<=100*i ->
  At VD 0 (Zg WE (ZB (⟨if decide (l.k≠0)||decide ((l.t.drop i).foldl (fun o t=>Yr o t.c t.v.s) o=[])then Yr ((l.t.drop i).foldl (fun o t=>Yr o t.c t.v.s) o) l.k []else(l.t.drop i).foldl (fun o t=>Yr o t.c t.v.s) o⟩:Str))) Vi 0 37 [(1,.ptr 0 0),(3,.ptr 1 0),(4,.fn 75 [] [.ptr 1 0]),(12,.pv (enc l.t)),(13,.pv (.int .i64 l.t.length)),(14,.pv (.int .i64 i))] [.obj (.box [.pv (.int .i64 l.k),.pv (enc l.t)]),.obj (.box [.pv (.str o)])]:=by
 have hlen:=WF hv
 have hk:=OP hv
 intro m
 induction m with
 | zero=>
  intro i o hi ho
  have ed:l.t.drop i=[]:=List.drop_of_length_le (by omega)
  rw[ed,List.foldl_nil]
  have hp:XR [.pv (.int .i64 l.k),.pv (.str []),.ptr 0 0] [.box [.pv (.str o)]]=true:=by
   simp only[XR,Bool.and_eq_true,decide_eq_true_eq,List.length_nil]
   exact⟨⟨⟨by omega,by omega⟩,by omega⟩,by omega⟩
  refine Ta l o i (Zy (Kb (by omega)) (a0c (fun h1=>⟨hp,?_⟩) fun h1=>Gf (fun h2=>⟨hp,?_⟩) fun h2=> ?_))
  ·have h1:l.k≠0:=by simpa using h1
   rw[if_pos (by simp[h1])]
   exact⟨rfl,rfl⟩
  ·have h2:o=[]:=h2
   rw[if_pos (by simp[h2])]
   exact⟨rfl,rfl⟩
  ·have h1:l.k=0:=by simpa using h1
   have h2:o≠[]:=h2
   rw[if_neg (by simp[h1,h2])]
   exact⟨rfl,rfl⟩
 | succ m ih=>
  intro i o hi ho
  have hlt:i<l.t.length:=by omega
  have ed:l.t.drop i=l.t[i]::l.t.drop (i+1):=List.drop_eq_getElem_cons hlt
  rw[ed,List.foldl_cons]
  obtain⟨c0,c1,c2,c3⟩:=Wv hv (List.getElem_mem hlt)
  have hn:=QN c0
  have hpl:=b1r o l.t[i].c l.t[i].v.s (by omega) (by omega)
  refine Ta l o i (Zx (QQ hlt) ⟨WS hlt rfl,Ux hlt ⟨?_,?_⟩⟩)
  ·have hp:XR [.pv (.int .i64 l.t[i].c),.pv (.str l.t[i].v.s),.ptr 0 0] [.box [.pv (.str o)]]=true:=by
    simp only[XR,Bool.and_eq_true,decide_eq_true_eq]
    exact⟨⟨⟨by omega,by omega⟩,by omega⟩,by omega⟩
   exact hp
  ·rw[next (by omega)]
   exact ih (i+1) (Yr o l.t[i].c l.t[i].v.s) (by omega) (by omega)
theorem F5: ∀ a:Lin×Unit,ZJ a.1=true->Ze VD 0 (Zg WE (ZB (⟨Wt a.1⟩:Str))) Vi [] (Y2 a2e (encL a)):=by
 rintro⟨l,⟨⟩⟩ h
 show Ze VD 0 (Zg WE (ZB (⟨Wt l⟩:Str))) _ _ _
 refine a5h l ⟨Zt (l,()) rfl h,Zz (l,()) rfl (U3 (fun hv=> ?_) fun hv=> ?_)⟩
 ·have hv:Zm l=false:=hv
  unfold Wt
  rw[hv]
  exact⟨rfl,rfl⟩
 ·have hv:Zm l=true:=hv
  unfold Wt
  rw[hv,if_pos rfl,List.length_map]
  exact Mo l hv l.t.length 0 [] (by omega) (by simp)
end Go.Pl

namespace Go.Pl
open Go.RowKit
open Enc (enc dec is)
open EncL (encL decL isL)
set_option maxRecDepth 100000
def RA:IC:=(.seq (.reg [⟨(some 2),(.box 7 (.t 0)),0,none⟩,⟨(some 3),(.mv (.c (.bool false))),1,none⟩] none) (.seq (.reg [⟨(some 4),(.faddr 0 (.t 2)),0,none⟩,⟨(some 5),(.load false [(.int .i64)] (.t 4)),0,none⟩,⟨(some 6),(.bin .num .eql (.t 5) (.c (.int .i64 1))),0,none⟩,⟨(some 7),(.mv (.t 6)),0,none⟩,⟨(some 8),(.faddr 1 (.t 2)),0,(some (7,true))⟩,⟨(some 9),(.load false [.str] (.t 8)),0,(some (7,true))⟩,⟨(some 10),(.faddr 0 (.t 1)),0,(some (7,true))⟩,⟨(some 11),(.load false [.str] (.t 10)),0,(some (7,true))⟩,⟨(some 12),(.bin .num .eql (.t 9) (.t 11)),0,(some (7,true))⟩,⟨(some 13),(.pick (.t 7) (.t 12) (.c (.bool false))),0,none⟩,⟨(some 3),(.mv (.t 13)),0,none⟩] none) .ret))
def TM:List IRes:=[(.tmp 3)]
abbrev b2p:Nat:=14
def FC:ZG:=Xo []
theorem b8x{G:AV×List AObj×List AObj->Prop}(x:Bnd)(v:List UInt8)(c:Int)(h:if (Bnd.kind x==1)=true then G (((.pv (.bool (Str.s (Bnd.v x)==v))),([(.box [(.pv (.str v)),(.pv (.int .i64 c))])],[])))else(G (((.pv (.bool false)),([(.box [(.pv (.str v)),(.pv (.int .i64 c))])],[]))))):Ze FC 1 (Zk 1 TM G) RA [] (ZK 14 [.pv (enc x),.ptr 0 0] [.box [.pv (.str v),.pv (.int .i64 c)]]):=Ze.to (.lit (.ask (.lit (.lit (.lit (.lit (.lit (.lit (.nil))))))) (.lit (.lit (.lit (.lit (.lit (.nil)))))))) h (by kernel_rfl)
def Je:IC:=(.seq (.reg [⟨(some 4),(.mv (.c (.int .i64 0))),0,none⟩] none) (.seq (.seq (.reg [⟨(some 6),(.mv (.t 0)),0,none⟩,⟨(some 7),(.len 1 (.t 6)),0,none⟩,⟨(some 8),(.mv (.c (.int .i64 0))),0,none⟩] none) (.block 0 (.loop [8,7,1,0] (.seq (.reg [⟨(some 9),(.bin .num .lss (.t 8) (.t 7)),0,none⟩] none) (.seq (.cond (.t 9) .skip (.exit 0)) (.seq (.block 1 (.seq (.reg [⟨(some 10),(.mv (.t 8)),0,none⟩,⟨(some 5),(.mv (.t 10)),0,none⟩] none) (.seq (.reg [⟨(some 11),(.mv (.t 1)),0,none⟩,⟨(some 12),(.mv (.t 0)),0,none⟩,⟨(some 13),(.mv (.t 5)),0,none⟩,⟨(some 14),(.iaddr 7 (.t 12) (.t 13)),0,none⟩,⟨(some 15),(.load true [(.int .i64),.str,(.int .i64),(.sl 2),.str,(.sl 2),.str] (.t 14)),0,none⟩,⟨(some 16),(.call (.t 11) [(.t 15)]),0,none⟩] none) (.cond (.t 16) (.seq (.reg [⟨(some 17),(.mv (.t 5)),0,none⟩,⟨(some 4),(.mv (.t 17)),0,none⟩] none) .ret) .skip)))) (.reg [⟨(some 18),(.bin .num .add (.t 8) (.c (.int .i64 1))),0,none⟩,⟨(some 8),(.mv (.t 18)),0,none⟩] none))))))) (.seq (.reg [⟨(some 4),(.mv (.c (.int .i64 (-1)))),0,none⟩] none) .ret)))
def Jm:List IRes:=[(.tmp 4)]
abbrev b9h:Nat:=19
def Ai:ZG:=Xo [(73,.own Cq TF)]
theorem c2m{G:AV×List AObj×List AObj->Prop}(l:List Bnd)(v:List UInt8)(c:Int)(h:At Ai 1 (Zk 1 Jm G) Je 0 19 [(0,(.pv (.sl 7 false (List.map enc l)))),(1,(.fn 73 [] [(.ptr 0 0)])),(7,(.pv (.int .i64 (↑(List.length (List.map enc l)):Int)))),(8,(.pv (.int .i64 0)))] [(.obj (.box [(.pv (.str v)),(.pv (.int .i64 c))]))]):Ze Ai 1 (Zk 1 Jm G) Je [] (ZK 19 [.pv (enc l),.fn 73 [] [.ptr 0 0]] [.box [.pv (.str v),.pv (.int .i64 c)]]):=Ze.to (.nil) h (by kernel_rfl)
theorem a5a{G:AV×List AObj×List AObj->Prop}(l:List Bnd)(v:List UInt8)(c:Int)(i:Int)(h:if (decide (i<(↑(List.length l):Int)))=true then(decide (0<=i)&&decide (Int.toNat i<List.length (List.map enc l))&&Enc.sz Bnd==7)=true∧(∃ y0:Bnd,AV.pv (PV.rptr (PV.cells (List.getD (List.map enc l) (Int.toNat i) default)))=AV.pv (PV.rptr (PV.cells ((enc) y0)))∧((Cq [(.pv (.agg [(.int .i64 (PV.asInt (List.getD (PV.cells (enc y0)) 0 default))),(.str (PV.asStr (List.getD (PV.cells (enc y0)) (0+1) default))),(.int .i64 (PV.asInt (List.getD (PV.cells (enc y0)) (0+1+1) default))),(.sl 2 false (PV.asXs (List.getD (PV.cells (enc y0)) (0+1+1+1) default))),(.str (PV.asStr (List.getD (PV.cells (enc y0)) (0+1+1+1+1) default))),(.sl 2 false (PV.asXs (List.getD (PV.cells (enc y0)) (0+1+1+1+1+1) default))),(.str (PV.asStr (List.getD (PV.cells (enc y0)) (0+1+1+1+1+1+1) default)))])),(.ptr 0 0)] [(.box [(.pv (.str v)),(.pv (.int .i64 c))])])=true∧(if (KQ v (dec (PV.agg (KU (PV.cells (enc y0)) 0 [Sh.int .i64,Sh.str,Sh.int .i64,Sh.sl 2,Sh.str,Sh.sl 2,Sh.str]))))=true then G (((.pv (.int .i64 i)),([(.box [(.pv (.str v)),(.pv (.int .i64 c))])],[])))else(At Ai 1 (Zk 1 Jm G) Je 0 19 [(0,(.pv (.sl 7 false (List.map enc l)))),(1,(.fn 73 [] [(.ptr 0 0)])),(7,(.pv (.int .i64 (↑(List.length l):Int)))),(8,(.pv (.int .i64 (IntKind.wrap IntKind.i64 (i+1)))))] [(.obj (.box [(.pv (.str v)),(.pv (.int .i64 c))]))]))))else(G (((.pv (.int .i64 (-1))),([(.box [(.pv (.str v)),(.pv (.int .i64 c))])],[]))))):At Ai 1 (Zk 1 Jm G) Je 0 19 [(0,.pv (enc l)),(1,.fn 73 [] [.ptr 0 0]),(7,.pv (.int .i64 l.length)),(8,.pv (.int .i64 i))] [.obj (.box [.pv (.str v),.pv (.int .i64 c)])]:=At.to (.lit (.ask (.req (.abs (Bnd) (fun YY=>AV.pv (PV.rptr (PV.cells ((enc) YY)))) (.lit (.req (.keep (.ask (.nil) (.lit (.nil)))))))) (.nil))) h (by kernel_rfl)
def VA:IC:=(.seq (.reg [⟨(some 2),(.box 2 (.t 0)),0,none⟩,⟨(some 4),(.alloc (.agg [(.int .i64 0),(.sl 0 true [])])),1,none⟩,⟨(some 5),(.mv (.c (.int .i64 0))),2,none⟩] none) (.seq (.seq (.reg [⟨(some 10),(.load true [(.int .i64),(.sl 2)] (.t 2)),0,none⟩,⟨(some 11),(.call (.c (.fn 41)) [(.t 10)]),0,none⟩,⟨(some 12),(.un .not (.t 11)),2,none⟩] none) (.cond (.t 12) (.seq (.reg [⟨(some 13),(.build [(.int .i64 0),(.sl 0 true [])] []),0,none⟩,⟨none,(.store 2 (.t 4) (.t 13)),0,none⟩,⟨(some 5),(.mv (.c (.int .i64 1))),0,none⟩] none) .ret) .skip)) (.seq (.reg [⟨(some 14),(.faddr 0 (.t 2)),0,none⟩,⟨(some 15),(.load false [(.int .i64)] (.t 14)),0,none⟩,⟨(some 16),.mkmap,0,none⟩,⟨(some 17),(.build [(.int .i64 0),.nilmap] [(0,(1,(.t 15))),(1,(1,(.t 16)))]),1,none⟩,⟨(some 6),(.alloc (.agg [(.int .i64 0),.nilmap])),1,none⟩,⟨none,(.store 2 (.t 6) (.t 17)),2,none⟩] none) (.seq (.seq (.reg [⟨(some 18),(.faddr 1 (.t 2)),0,none⟩,⟨(some 19),(.load false [(.sl 2)] (.t 18)),0,none⟩,⟨(some 20),(.len 1 (.t 19)),0,none⟩,⟨(some 21),(.mv (.c (.int .i64 0))),0,none⟩] none) (.block 0 (.loop [21,20,19,1,6,4] (.seq (.reg [⟨(some 22),(.bin .num .lss (.t 21) (.t 20)),0,none⟩] none) (.seq (.cond (.t 22) .skip (.exit 0)) (.seq (.block 1 (.seq (.reg [⟨(some 23),(.iaddr 2 (.t 19) (.t 21)),0,none⟩,⟨(some 24),(.load true [.str,(.int .i64)] (.t 23)),0,none⟩,⟨(some 8),(.alloc (.agg [(.str []),(.int .i64 0)])),0,none⟩,⟨none,(.store 2 (.t 8) (.t 24)),1,none⟩] none) (.seq (.reg [⟨(some 25),(.mv (.t 1)),0,none⟩,⟨(some 26),(.mkfn 73 [] [(.t 8)]),0,none⟩,⟨(some 27),(.call (.c (.fn 72)) [(.t 25),(.t 26)]),0,none⟩,⟨(some 9),(.mv (.t 27)),2,none⟩] none) (.block 2 (.seq (.reg [⟨(some 37),(.mv (.t 9)),0,none⟩,⟨(some 38),(.bin .num .lss (.t 37) (.c (.int .i64 0))),0,none⟩,⟨(some 36),(.mv (.t 38)),0,none⟩] none) (.cond (.t 36) (.reg [⟨(some 39),(.faddr 1 (.t 6)),0,none⟩,⟨(some 40),(.load false [.any] (.t 39)),0,none⟩,⟨(some 41),(.faddr 0 (.t 8)),0,none⟩,⟨(some 42),(.load false [.str] (.t 41)),0,none⟩,⟨(some 43),(.lookup true (.int .i64) (.int .i64 0) false (.t 40) (.t 42)),0,none⟩,⟨(some 44),(.faddr 1 (.t 8)),0,none⟩,⟨(some 45),(.load false [(.int .i64)] (.t 44)),0,none⟩,⟨(some 46),(.bin .num .add (.t 43) (.t 45)),0,none⟩,⟨none,(.mapupd true (.t 40) (.t 42) (.t 46)),0,none⟩] none) (.seq (.reg [⟨(some 48),(.mv (.t 1)),0,none⟩,⟨(some 49),(.mv (.t 9)),0,none⟩,⟨(some 50),(.iaddr 7 (.t 48) (.t 49)),0,none⟩,⟨(some 51),(.faddr 2 (.t 50)),0,none⟩,⟨(some 52),(.load true [(.int .i64),(.sl 2)] (.t 51)),0,none⟩,⟨(some 53),(.call (.c (.fn 41)) [(.t 52)]),0,none⟩,⟨(some 54),(.un .not (.t 53)),2,none⟩,⟨(some 47),(.mv (.t 54)),2,none⟩] none) (.cond (.t 47) (.seq (.reg [⟨(some 55),(.build [(.int .i64 0),(.sl 0 true [])] []),0,none⟩,⟨none,(.store 2 (.t 4) (.t 55)),0,none⟩,⟨(some 5),(.mv (.c (.int .i64 1))),0,none⟩] none) .ret) (.reg [⟨(some 28),(.mv (.t 1)),0,none⟩,⟨(some 29),(.mv (.t 9)),0,none⟩,⟨(some 30),(.iaddr 7 (.t 28) (.t 29)),0,none⟩,⟨(some 31),(.faddr 2 (.t 30)),0,none⟩,⟨(some 32),(.load true [(.int .i64),(.sl 2)] (.t 31)),0,none⟩,⟨(some 33),(.faddr 1 (.t 8)),0,none⟩,⟨(some 34),(.load false [(.int .i64)] (.t 33)),0,none⟩,⟨(some 35),(.call (.c (.fn 74)) [(.t 6),(.t 32),(.t 34)]),0,none⟩] (some [[],[],[0,1],[2,0,1],[3,2,0,1],[],[5],[4,6,3,2,0,1,5]])))))))))) (.reg [⟨(some 56),(.bin .num .add (.t 21) (.c (.int .i64 1))),0,none⟩,⟨(some 21),(.mv (.t 56)),0,none⟩] none))))))) (.seq (.reg [⟨(some 57),(.call (.c (.fn 70)) [(.t 6)]),0,none⟩,⟨(some 58),(.extract (.t 57) 0),2,none⟩,⟨(some 59),(.extract (.t 57) 1),2,none⟩,⟨none,(.store 2 (.t 4) (.t 58)),2,none⟩,⟨(some 5),(.mv (.t 59)),2,none⟩] none) .ret)))))
def WU:List IRes:=[(.cell true 2 4),(.tmp 5)]
abbrev b0j:Nat:=60
def VU:ZG:=Xo [(41,.pure (preT (fun x:Lin×Unit=>ZJ x.1)) (Zo (fun x:Lin×Unit=>Zm x.1))),(72,.own (Kz 73) DU),(74,.own Vs H6),(70,.own Y1 JO)]
theorem b5t{G:PV->Prop}(l:Lin)(bs:List Bnd)(h:(Go.Pl.preT (fun(x:Lin×Unit)=>ZJ x.1) [(.agg [(.int .i64 l.k),(.sl 2 false (List.map enc l.t))])])=true∧(∃ y0:Bool,AV.pv (Zo (fun(x:Lin×Unit)=>Zm x.1) [(.agg [(.int .i64 l.k),(.sl 2 false (List.map enc l.t))])])=AV.pv (enc y0)∧(if (!y0)=true then G ((.tup [(.agg [(.int .i64 0),(.sl 0 true [])]),(.int .i64 1)]))else(At VU 0 (Zg WU G) VA 0 60 [(1,(.pv (.sl 7 false (List.map enc bs)))),(4,(.ptr 0 0)),(6,(.ptr 1 0)),(19,(.pv (.sl 2 false (List.map enc l.t)))),(20,(.pv (.int .i64 (↑(List.length (List.map enc l.t)):Int)))),(21,(.pv (.int .i64 0)))] [(.obj (.box [(.pv (.int .i64 0)),(.pv (.sl 0 true []))])),(.obj (.box [(.pv (.int .i64 l.k)),(.map 2)])),(.obj (.map []))])))):Ze VU 0 (Zg WU G) VA [] (Y2 60 [enc l,enc bs]):=Ze.tp (.req (.abs (Bool) (fun YY=>AV.pv (enc YY)) (.ask (.nil) (.nil)))) h (by kernel_rfl)
theorem Nq{G:PV->Prop}(l:Lin)(bs:List Bnd)(n:Int)(m:List (Str×Int))(i:Int)(h:if (decide (i<(↑(List.length l.t):Int)))=true then(decide (0<=i)&&decide (Int.toNat i<List.length (List.map enc l.t))&&Enc.sz Coef==2)=true∧(∃ y0:Coef,AV.pv (PV.rptr (PV.cells (List.getD (List.map enc l.t) (Int.toNat i) default)))=AV.pv (PV.rptr (PV.cells ((enc) y0)))∧((Kz 73 [(.pv (.sl 7 false (List.map enc bs))),(.fn 73 [] [(.ptr 0 0)])] [(.box [(.pv (.str (PV.asStr (List.getD (PV.cells (enc y0)) 0 default)))),(.pv (.int .i64 (PV.asInt (List.getD (PV.cells (enc y0)) (0+1) default))))])])=true∧(if (decide (X8 (KQ (PV.asStr (List.getD (PV.cells (enc y0)) 0 default))) (dec (enc bs))<0))=true then(Va (PV.str (PV.asStr (List.getD (PV.cells (enc y0)) 0 default))) (Zj m)&&Sh.fit (Sh.int .i64) (ZP (PV.str (PV.asStr (List.getD (PV.cells (enc y0)) 0 default))) (PV.int .i64 0) (Zj m)))=true∧((Dl (PV.str (PV.asStr (List.getD (PV.cells (enc y0)) 0 default))) (PV.int .i64 (IntKind.wrap IntKind.i64 (PV.asInt (ZP (PV.str (PV.asStr (List.getD (PV.cells (enc y0)) 0 default))) (PV.int .i64 0) (Zj m))+PV.asInt (List.getD (PV.cells (enc y0)) (0+1) default)))) (Zj m))=true∧(At VU 0 (Zg WU G) VA 0 60 [(1,(.pv (.sl 7 false (List.map enc bs)))),(4,(.ptr 0 0)),(6,(.ptr 1 0)),(19,(.pv (.sl 2 false (List.map enc l.t)))),(20,(.pv (.int .i64 (↑(List.length l.t):Int)))),(21,(.pv (.int .i64 (IntKind.wrap IntKind.i64 (i+1)))))] [(.obj (.box [(.pv (.int .i64 0)),(.pv (.sl 0 true []))])),(.obj (.box [(.pv (.int .i64 n)),(.map 2)])),(.obj (.map (DL (PV.str (PV.asStr (List.getD (PV.cells (enc y0)) 0 default))) (PV.int .i64 (IntKind.wrap IntKind.i64 (PV.asInt (ZP (PV.str (PV.asStr (List.getD (PV.cells (enc y0)) 0 default))) (PV.int .i64 0) (Zj m))+PV.asInt (List.getD (PV.cells (enc y0)) (0+1) default)))) (Zj m))))]))else((decide (0<=X8 (KQ (PV.asStr (List.getD (PV.cells (enc y0)) 0 default))) (dec (enc bs)))&&decide (Int.toNat (X8 (KQ (PV.asStr (List.getD (PV.cells (enc y0)) 0 default))) (dec (enc bs)))<List.length (List.map enc bs))&&Enc.sz Bnd==7)=true∧(∃ y1:Bnd,AV.pv (PV.rptr (PV.cells (List.getD (List.map enc bs) (Int.toNat (X8 (KQ (PV.asStr (List.getD (PV.cells (enc y0)) 0 default))) (dec (enc bs)))) default)))=AV.pv (PV.rptr (PV.cells ((enc) y1)))∧((Go.Pl.preT (fun(x:Lin×Unit)=>ZJ x.1) [(.agg [(.int .i64 (PV.asInt (List.getD (List.drop 2 (PV.cells (enc y1))) 0 default))),(.sl 2 false (PV.asXs (List.getD (List.drop 2 (PV.cells (enc y1))) (0+1) default)))])])=true∧(∃ y2:Bool,AV.pv (Zo (fun(x:Lin×Unit)=>Zm x.1) [(.agg [(.int .i64 (PV.asInt (List.getD (List.drop 2 (PV.cells (enc y1))) 0 default))),(.sl 2 false (PV.asXs (List.getD (List.drop 2 (PV.cells (enc y1))) (0+1) default)))])])=AV.pv (enc y2)∧(if (!y2)=true then G ((.tup [(.agg [(.int .i64 0),(.sl 0 true [])]),(.int .i64 1)]))else((decide (0<=X8 (KQ (PV.asStr (List.getD (PV.cells (enc y0)) 0 default))) (dec (enc bs)))&&decide (Int.toNat (X8 (KQ (PV.asStr (List.getD (PV.cells (enc y0)) 0 default))) (dec (enc bs)))<List.length (List.map enc bs))&&Enc.sz Bnd==7)=true∧(∃ y3:Bnd,AV.pv (PV.rptr (PV.cells (List.getD (List.map enc bs) (Int.toNat (X8 (KQ (PV.asStr (List.getD (PV.cells (enc y0)) 0 default))) (dec (enc bs)))) default)))=AV.pv (PV.rptr (PV.cells ((enc) y3)))∧((Vs [(.ptr 0 0),(.pv (.agg [(.int .i64 (PV.asInt (List.getD (List.drop 2 (PV.cells (enc y3))) 0 default))),(.sl 2 false (PV.asXs (List.getD (List.drop 2 (PV.cells (enc y3))) (0+1) default)))])),(.pv (.int .i64 (PV.asInt (List.getD (PV.cells (enc y0)) (0+1) default))))] [(.box [(.pv (.int .i64 n)),(.map 1)]),(.map (Zj m))])=true∧(At VU 0 (Zg WU G) VA 0 60 [(1,(.pv (.sl 7 false (List.map enc bs)))),(4,(.ptr 0 0)),(6,(.ptr 1 0)),(19,(.pv (.sl 2 false (List.map enc l.t)))),(20,(.pv (.int .i64 (↑(List.length l.t):Int)))),(21,(.pv (.int .i64 (IntKind.wrap IntKind.i64 (i+1)))))] [(.obj (.box [(.pv (.int .i64 0)),(.pv (.sl 0 true []))])),(.obj (.box [(.pv (.int .i64 (Xe (n+Xe (PV.asInt (List.getD (PV.cells (enc y0)) (0+1) default)*Lin.k (dec (PV.agg (KU (List.drop 2 (PV.cells (enc y3))) 0 [Sh.int .i64,Sh.sl 2])))))))),(.map 2)])),(.obj (.map (Zj (Xj (PV.asInt (List.getD (PV.cells (enc y0)) (0+1) default)) (Lin.t (dec (PV.agg (KU (List.drop 2 (PV.cells (enc y3))) 0 [Sh.int .i64,Sh.sl 2])))) (Z4 (Zj m))))))]))))))))))))else((Y1 [(.ptr 0 0)] [(.box [(.pv (.int .i64 n)),(.map 1)]),(.map (Zj m))])=true∧(G ((.tup [(.agg [(.int .i64 (Lin.k (Prod.fst (X9 n (Z4 (Zj m)))))),(.sl 2 false (List.map enc (Lin.t (Prod.fst (X9 n (Z4 (Zj m)))))))]),(.int .i64 (Prod.snd (X9 n (Z4 (Zj m)))))]))))):At VU 0 (Zg WU G) VA 0 60 [(1,.pv (enc bs)),(4,.ptr 0 0),(6,.ptr 1 0),(19,.pv (enc l.t)),(20,.pv (.int .i64 l.t.length)),(21,.pv (.int .i64 i))] [.obj (.box [.pv (.int .i64 0),.pv (.sl 0 true [])]),.obj (.box [.pv (.int .i64 n),.map 2]),.obj (.map (Zj m))]:=At.tp (.lit (.ask (.req (.abs (Coef) (fun YY=>AV.pv (PV.rptr (PV.cells ((enc) YY)))) (.lit (.req (.keep (.lit (.ask (.req (.keep (.lit (.req (.lit (.nil)))))) (.req (.abs (Bnd) (fun YY=>AV.pv (PV.rptr (PV.cells ((enc) YY)))) (.lit (.req (.abs (Bool) (fun YY=>AV.pv (enc YY)) (.ask (.nil) (.req (.abs (Bnd) (fun YY=>AV.pv (PV.rptr (PV.cells ((enc) YY)))) (.lit (.req (.keep (.lit (.nil)))))))))))))))))))) (.req (.keep (.nil))))) h (by kernel_rfl)
end Go.Pl

namespace Go.Pl
open Go.RowKit
open Enc (enc dec is)
open EncL (encL decL isL)
theorem a8p: ∀ args os,Cq args os=true->Ze FC os.length (Zk os.length TM fun r=>r=TF args os) RA [] (ZK b2p args os):=by
 intro args os h
 unfold Cq at h
 split at h
 ·rename_i x v c
  obtain⟨x,rfl⟩:=Vk h
  refine b8x x v c ?_
  simp only[TF,Enc.dec_enc,KQ]
  refine Gf (fun h=> ?_) fun h=> ?_
  ·simp[h]
  ·simp[h]
 ·cases h
theorem a5v(l:List Bnd)(v:List UInt8)(c:Int)(hl:l.length<=9223372036854775807)(H:AV×List AObj×List AObj)(hH:H=(.pv (.int .i64 (X8 (KQ v) l)),[.box [.pv (.str v),.pv (.int .i64 c)]],[])): ∀ (m i:Nat),m+i=l.length->(∀ j (hj:j<l.length),j<i->KQ v l[j]=false) ->
  At Ai 1 (Zk 1 Jm fun r=>r=H) Je 0 19 [(0,.pv (enc l)),(1,.fn 73 [] [.ptr 0 0]),(7,.pv (.int .i64 l.length)),(8,.pv (.int .i64 i))] [.obj (.box [.pv (.str v),.pv (.int .i64 c)])]:=by
 subst hH
 intro m
 induction m with
 | zero=>
  intro i hi hno
  refine a5a l v c i (Zy (Kb (by omega)) ?_)
  rw[b6b _ _ (fun j hj=>hno j hj (by omega))]
 | succ m ih=>
  intro i hi hno
  have hlt:i<l.length:=by omega
  have ed:(dec (PV.agg (KU (PV.cells (enc l[i])) 0 [Sh.int .i64,Sh.str,Sh.int .i64,Sh.sl 2,Sh.str,Sh.sl 2,Sh.str])):Bnd)=l[i]:=Enc.dec_enc l[i]
  refine a5a l v c i (Zx (QQ hlt) ⟨WS hlt rfl,Ux hlt ⟨Xk l[i],?_⟩⟩)
  rw[ed]
  refine K4 (fun hb=> ?_) fun hb=> ?_
  ·rw[b6g (KQ v) l i hlt hno hb]
  ·rw[next (by omega)]
   refine ih (i+1) (by omega) fun j hj hji=> ?_
   by_cases e:j=i
   ·subst e;exact hb
   ·exact hno j hj (by omega)
theorem b4d: ∀ args os,Kz 73 args os=true->Ze Ai os.length (Zk os.length Jm fun r=>r=DU args os) Je [] (ZK b9h args os):=by
 intro args os h
 unfold Kz at h
 split at h
 ·rename_i l g v c
  simp only[Bool.and_eq_true,beq_iff_eq,decide_eq_true_eq]at h
  obtain⟨⟨rfl,hl⟩,h2⟩:=h
  obtain⟨l,rfl⟩:=Vk hl
  rw[Enc.dec_enc]at h2
  refine c2m l v c ?_
  rw[List.length_map]
  exact a5v l v c h2 _ (by simp only[DU,Enc.dec_enc]) l.length 0 (by omega) (fun j hj h=>by omega)
 ·cases h
theorem b6w{α:Type}(p:α->Bool)(l:List α):(X8 p l<0∧l.find? p=none) ∨ ∃ (i:Nat) (hi:i<l.length),X8 p l=i∧l.find? p=some l[i]:=by
 unfold X8
 cases h:l.findIdx? p with
 | none=>
  refine .inl ⟨by decide,?_⟩
  rw[List.findIdx?_eq_none_iff]at h
  rw[List.find?_eq_none]
  intro x hx
  rw[h x hx];simp
 | some i=>
  rw[List.findIdx?_eq_some_iff_getElem]at h
  obtain⟨hi,hp,hno⟩:=h
  refine .inr ⟨i,hi,rfl,?_⟩
  rw[List.find?_eq_some_iff_getElem]
  exact⟨hp,i,hi,rfl,fun j hj=>by simpa using hno j hj⟩
theorem M6(k:Int)(l:Lin)(hl:Zm l=true)(m:List (Str×Int))(hm : ∀ x∈Ya m,x.length<=1000): ∀ x∈Ya (Xj k l.t m),x.length<=1000:=by
 intro x hx
 rcases KC k l.t m x hx with h|⟨t,ht,rfl⟩
 ·exact hm x h
 ·have:=QN (Wv hl ht).1
  omega
theorem FJ(t:Coef):PV.asStr (List.getD (PV.cells (enc t)) 0 default)=t.v.s∧PV.asInt (List.getD (PV.cells (enc t)) (0+1) default)=t.c:=⟨rfl,rfl⟩
theorem F9(l:Lin)(hv:Zm l=true)(bs:List Bnd)(hb:Gz bs=true): ∀ (j i:Nat) (n:Int) (m:List (Str×Int)),j+i=l.t.length->m.length<=12*i->(∀ x∈Ya m,x.length<=1000) ->
  At VU 0 (Zg WU (ZB (match QL bs (l.t.drop i) (n,m)with|none=>((⟨0,[]⟩,1):Lin×Int)|some s=>X9 s.1 s.2))) VA 0 60 [(1,.pv (enc bs)),(4,.ptr 0 0),(6,.ptr 1 0),(19,.pv (enc l.t)),(20,.pv (.int .i64 l.t.length)),(21,.pv (.int .i64 i))] [.obj (.box [.pv (.int .i64 0),.pv (.sl 0 true [])]),.obj (.box [.pv (.int .i64 n),.map 2]),.obj (.map (Zj m))]:=by
 have hlen:=WF hv
 simp only[Gz,Bool.and_eq_true,decide_eq_true_eq,List.all_eq_true]at hb
 obtain⟨hb1,hb2⟩:=hb
 intro j
 induction j with
 | zero=>
  intro i n m hi hm hk
  have ed:l.t.drop i=[]:=List.drop_of_length_le (by omega)
  rw[ed]
  refine Nq l bs n m i (Zy (Kb (by omega)) ?_)
  rw[Yt]
  refine⟨?_,Y7 (x:=X9 n m) rfl⟩
  show(Gq (Zj m)&&KX (Z4 (Zj m)))=true
  rw[U1,Yt]
  simp only[KX,Bool.true_and,Bool.and_eq_true,decide_eq_true_eq,List.all_eq_true]
  exact⟨by omega,fun x hx=>by have:=hk x hx;omega⟩
 | succ j ih=>
  intro i n m hi hm hk
  have hlt:i<l.t.length:=by omega
  have hd:l.t.drop i=l.t[i]::l.t.drop (i+1):=List.drop_eq_getElem_cons hlt
  rw[hd]
  have hnm:=QN (Wv hv (List.getElem_mem hlt)).1
  refine Nq l bs n m i (Zx (QQ hlt) ⟨WS hlt rfl,Ux hlt ?_⟩)
  generalize l.t[i]=t at hnm ⊢
  have edb:(dec (enc bs:PV):List Bnd)=bs:=Enc.dec_enc bs
  have hpre:Kz 73 [.pv (enc bs),.fn 73 [] [.ptr 0 0]] [.box [.pv (.str t.v.s),.pv (.int .i64 t.c)]]=true:=by
   show(_==_&&Jk (List Bnd) (enc bs)&&decide ((dec (enc bs:PV):List Bnd).length<=9223372036854775807))=true
   rw[Xk,edb,decide_eq_true hb1]
   simp
  refine⟨hpre,?_⟩
  rw[(FJ t).1,edb]
  rcases b6w (KQ t.v.s) bs with ⟨h1,h2⟩|⟨k,hk2,h1,h2⟩
  ·have e:QL bs (t::l.t.drop (i+1)) (n,m)=QL bs (l.t.drop (i+1)) (n,VP t.v (Xe (Um m t.v.s+t.c)) m):=by
    show(match M0 bs (n,m) t with|none=>none|some s'=>QL bs (l.t.drop (i+1)) s')=_
    unfold M0
    rw[h2]
   rw[e]
   refine Zx (decide_eq_true h1) ⟨Cf _ _,Ca _ _ _,?_⟩
   rw[DW,next (by omega)]
   exact ih (i+1) n (VP t.v (Xe (Um m t.v.s+t.c)) m) (by omega) (by have:=Ri t.v (Xe (Um m t.v.s+t.c)) m;omega) fun x hx=>by
    rcases U7 t.v (Xe (Um m t.v.s+t.c)) m with e|⟨_,e⟩
    ·rw[e]at hx;exact hk x hx
    ·rw[e,List.mem_append]at hx
     rcases hx with hx|hx
     ·exact hk x hx
     ·rw[List.mem_singleton.1 hx];omega
  ·have hneg : ¬ ((k:Nat):Int)<0:=by omega
   have edm:(dec (PV.agg (KU (List.drop 2 (PV.cells (enc bs[k]))) 0 [Sh.int .i64,Sh.sl 2])):Lin)=bs[k].dim:=Enc.dec_enc bs[k].dim
   rw[h1]
   refine Zy (by simp) ?_
   have hsm:=hb2 _ (List.getElem_mem hk2)
   refine⟨WS hk2 rfl,Ux hk2 ⟨Zt (bs[k].dim,()) rfl hsm,Zz (bs[k].dim,()) rfl (U3 (fun hq=> ?_) fun hq=>⟨WS hk2 rfl,Ux hk2 ⟨?_,?_⟩⟩)⟩⟩
   ·have hq:Zm bs[k].dim=false:=hq
    have e:QL bs (t::l.t.drop (i+1)) (n,m)=none:=by
     show(match M0 bs (n,m) t with|none=>none|some s'=>QL bs (l.t.drop (i+1)) s')=_
     unfold M0
     rw[h2]
     simp only
     rw[hq];rfl
    rw[e]
    exact⟨rfl,rfl⟩
   all_goals have hq:Zm bs[k].dim=true:=hq
   ·have hl:=WF hq
    show(Gq (Zj m)&&Jk Lin (enc bs[k].dim)&&decide ((dec (enc bs[k].dim:PV):Lin).t.length<=1000000))=true
    rw[U1,Xk,Enc.dec_enc,decide_eq_true (by omega)];rfl
   ·have e:QL bs (t::l.t.drop (i+1)) (n,m)=QL bs (l.t.drop (i+1)) (Xe (n+Xe (t.c*bs[k].dim.k)),Xj t.c bs[k].dim.t m):=by
     show(match M0 bs (n,m) t with|none=>none|some s'=>QL bs (l.t.drop (i+1)) s')=_
     unfold M0
     rw[h2]
     simp only
     rw[hq];rfl
    rw[e,edm,Yt,next (by omega)]
    have h3:=HV t.c bs[k].dim.t m
    have hl:=WF hq
    exact ih (i+1) _ _ (by omega) (by omega) (M6 t.c bs[k].dim hq m hk)
theorem E5: ∀ a:Lin×List Bnd×Unit,(ZJ a.1&&Gz a.2.1)=true->Ze VU 0 (Zg WU (ZB (Qj a.1 a.2.1))) VA [] (Y2 b0j (encL a)):=by
 rintro⟨l,bs,⟨⟩⟩ h
 simp only[Bool.and_eq_true]at h
 show Ze VU 0 (Zg WU (ZB (Qj l bs))) _ _ _
 refine b5t l bs ⟨Zt (l,()) rfl h.1,Zz (l,()) rfl (U3 (fun hv=> ?_) fun hv=> ?_)⟩
 ·have hv:Zm l=false:=hv
  unfold Qj
  rw[hv]
  exact⟨rfl,rfl⟩
 ·have hv:Zm l=true:=hv
  unfold Qj
  rw[hv,if_pos rfl,List.length_map]
  exact F9 l hv bs h.2 l.t.length 0 l.k [] (by omega) (by simp) (fun x hx=>by cases hx)
end Go.Pl

namespace Go.Pl
open Go.RowKit
open Enc (enc dec is)
open EncL (encL decL isL)
set_option maxRecDepth 100000
def mS:Str:=⟨[109]⟩
theorem c3u:XH [50,110]=X9 0 [(nS,2)]:=by rfl
theorem c3o:XH [109,32,45,32,49]=X9 (-1) [(mS,1)]:=by rfl
theorem c3p:XH [51,32,42,32,110,32,45,32,110,43,32,50]=X9 2 [(nS,2)]:=by rfl
theorem c4b:XH [110,43,109]=X9 0 [(nS,1),(mS,1)]:=by rfl
theorem c3r:XH [109,43,49]=X9 1 [(mS,1)]:=by rfl
theorem J7(n:Int)(s:Str)(c:Int)(hc:c≠0):X9 n [(s,c)]=EI ⟨n,[⟨s,c⟩]⟩:=by
 have:YX [(s,c)]=[⟨s,c⟩]:=by
  simp[YX,hc,a2y,Um]
 unfold X9 EI
 rw[this]
theorem a1n:YQ [[109],[110]]=[[109],[110]]:=by
 unfold YQ
 exact List.mergeSort_of_pairwise (by decide)
theorem M7:YQ [[110],[109]]=[[109],[110]]:=(NG (List.Perm.swap _ _ _)).trans a1n
theorem b8z(n a b:Int)(ha:a≠0)(hb:b≠0):X9 n [(nS,a),(mS,b)]=EI ⟨n,[⟨mS,b⟩,⟨nS,a⟩]⟩:=by
 have:YX [(nS,a),(mS,b)]=[⟨mS,b⟩,⟨nS,a⟩]:=by
  simp[YX,ha,hb,nS,mS,M7,Um]
 unfold X9 EI
 rw[this]
theorem c3t:XH [50,110]=(⟨0,[⟨nS,2⟩]⟩,0):=by rw[c3u,J7 _ _ _ (by decide)];decide
theorem c3f:XH [109,32,45,32,49]=(⟨-1,[⟨mS,1⟩]⟩,0):=by rw[c3o,J7 _ _ _ (by decide)];decide
theorem c3n:XH [51,32,42,32,110,32,45,32,110,43,32,50]=(⟨2,[⟨nS,2⟩]⟩,0):=by rw[c3p,J7 _ _ _ (by decide)];decide
theorem c3c:XH [110,43,109]=(⟨0,[⟨mS,1⟩,⟨nS,1⟩]⟩,0):=by rw[c4b,b8z _ _ _ (by decide) (by decide)];decide
theorem c3q:XH [109,43,49]=(⟨1,[⟨mS,1⟩]⟩,0):=by rw[c3r,J7 _ _ _ (by decide)];decide
theorem c3b:YP ⟨0,[⟨nS,2⟩]⟩ ⟨-1,[⟨mS,1⟩]⟩ 1=(⟨-1,[⟨mS,1⟩,⟨nS,2⟩]⟩,0):=by
 have h1:Zm ⟨0,[⟨nS,2⟩]⟩=true:=by decide
 have h2:Zm ⟨-1,[⟨mS,1⟩]⟩=true:=by decide
 rw[Sb 1 h1 h2];decide
def b9f:Bnd:=⟨1,nS,⟨1,[⟨mS,1⟩]⟩,⟨[]⟩,[],⟨[]⟩⟩
theorem c3h:Qj ⟨0,[⟨mS,1⟩,⟨nS,1⟩]⟩ [b9f]=(⟨1,[⟨mS,2⟩]⟩,0):=by
 have h1:Zm ⟨0,[⟨mS,1⟩,⟨nS,1⟩]⟩=true:=by decide
 have h2:QL [b9f] [⟨mS,1⟩,⟨nS,1⟩] (0,[])=some (1,[(mS,2)]):=by decide
 unfold Qj
 rw[h1,if_pos rfl]
 simp only[h2]
 rw[J7 _ _ _ (by decide)]
 decide
theorem it1:Lib.itoa 1=[49]:=by simp[Lib.itoa];rw[Lib.decDigits];rfl
theorem it2:Lib.itoa 2=[50]:=by simp[Lib.itoa];rw[Lib.decDigits];rfl
theorem itm:Lib.itoa (-1)=[45,49]:=by simp[Lib.itoa];rw[Lib.decDigits];rfl
theorem c1x(o s:List UInt8)(ho:o=[])(hs:s≠[]):Yr o 1 s=s:=by
 subst ho
 simp only[Yr,Xr,it1]
 simp[hs];rfl
theorem b7e(s:List UInt8):Yr [] 2 s=[50]++s:=by
 simp[Yr,Xr,it2]
theorem a6u(o s:List UInt8)(ho:o≠[]):Yr o 2 s=o++[43]++[50]++s:=by
 simp[Yr,Xr,it2,ho]
theorem c0v(o:List UInt8)(ho:o≠[]):Yr o 1 []=o++[43,49]:=by
 simp[Yr,Xr,it1,ho]
theorem b8n(o:List UInt8):Yr o (-1) []=o++[45,49]:=by
 simp[Yr,Xr,itm]
theorem c3m:Wt ⟨-1,[⟨mS,1⟩,⟨nS,2⟩]⟩=[109,43,50,110,45,49]:=by
 have hv:Zm ⟨-1,[⟨mS,1⟩,⟨nS,2⟩]⟩=true:=by decide
 have e:Gw [⟨mS,1⟩,⟨nS,2⟩]=[109,43,50,110]:=by
  show Yr (Yr [] 1 [109]) 2 [110]=_
  rw[c1x [] [109] rfl (by decide),a6u _ _ (by decide)];rfl
 unfold Wt
 rw[hv,if_pos rfl]
 simp only[e]
 rw[if_pos (by decide),b8n];rfl
theorem c3j:Wt ⟨2,[⟨nS,2⟩]⟩=[50,110,43,50]:=by
 have hv:Zm ⟨2,[⟨nS,2⟩]⟩=true:=by decide
 have e:Gw [⟨nS,2⟩]=[50,110]:=by
  show Yr [] 2 [110]=_
  rw[b7e];rfl
 unfold Wt
 rw[hv,if_pos rfl]
 simp only[e]
 rw[if_pos (by decide),a6u _ _ (by decide)];rfl
theorem c4a:Wt ⟨1,[⟨mS,2⟩]⟩=[50,109,43,49]:=by
 have hv:Zm ⟨1,[⟨mS,2⟩]⟩=true:=by decide
 have e:Gw [⟨mS,2⟩]=[50,109]:=by
  show Yr [] 2 [109]=_
  rw[b7e];rfl
 unfold Wt
 rw[hv,if_pos rfl]
 simp only[e]
 rw[if_pos (by decide),c0v _ (by decide)];rfl
theorem KJ{α β:Type}[EncL α][Enc β]{F:α->β}{ps:List PV}{P:β->Prop}{v:β}(a:α)(h:decL ps=a)(hv:F a=v)(k:P v): ∃ y,AV.pv (Zo F ps)=AV.pv (enc y)∧P y:=QA a h (by rw[hv];exact k)
theorem KF{α β:Type}[EncL α][Enc β]{F:α->β}{ps:List PV}{P:β->Prop}{v:β}(a:α)(h:ps=encL a)(hv:F a=v)(k:P v): ∃ y,AV.pv (Zo F ps)=AV.pv (enc y)∧P y:=Zz a h (by rw[hv];exact k)
def l41:Lin:=⟨0,[⟨nS,2⟩]⟩
def l42:Lin:=⟨-1,[⟨mS,1⟩]⟩
def l43:Lin:=⟨2,[⟨nS,2⟩]⟩
def l44:Lin:=⟨0,[⟨mS,1⟩,⟨nS,1⟩]⟩
def l45:Lin:=⟨1,[⟨mS,1⟩]⟩
def l4s:Lin:=⟨-1,[⟨mS,1⟩,⟨nS,2⟩]⟩
def l4z:Lin:=⟨1,[⟨mS,2⟩]⟩
theorem FI: ∀ a:Unit,true=true->Ze CK 0 (Zg Gn (ZB true)) GI [] (Y2 a2k (encL a)):=by
 rintro⟨⟩ -
 refine b1j ?_
 refine KJ (v:=(l41,0)) ((⟨[50,110]⟩:Str),()) rfl c3t ?_
 refine KJ (v:=(l42,0)) ((⟨[109,32,45,32,49]⟩:Str),()) rfl c3f ?_
 refine⟨Zt (l41,l42,()) rfl (by decide),?_⟩
 refine KF (v:=(l4s,0)) (l41,l42,()) rfl c3b ?_
 refine KJ (v:=(l43,0)) ((⟨[51,32,42,32,110,32,45,32,110,43,32,50]⟩:Str),()) rfl c3n ?_
 refine KJ (v:=(l44,0)) ((⟨[110,43,109]⟩:Str),()) rfl c3c ?_
 refine KJ (v:=(l45,0)) ((⟨[109,43,49]⟩:Str),()) rfl c3q ?_
 refine⟨by rfl,?_⟩
 refine KJ (v:=(l4z,0)) (l44,[b9f],()) rfl c3h ?_
 refine Zx rfl (Zx rfl (Zx rfl (Zx rfl (Zx rfl (Zx rfl (Zx rfl ?_))))))
 refine⟨Zt (l4s,()) rfl (by decide),KF (v:=(⟨[109,43,50,110,45,49]⟩:Str)) (l4s,()) rfl (congrArg Str.mk c3m) (Zx rfl ?_)⟩
 refine⟨Zt (l43,()) rfl (by decide),KF (v:=(⟨[50,110,43,50]⟩:Str)) (l43,()) rfl (congrArg Str.mk c3j) (Zx rfl ?_)⟩
 refine⟨Zt (l4z,()) rfl (by decide),KF (v:=(⟨[50,109,43,49]⟩:Str)) (l4z,()) rfl (congrArg Str.mk c4a) (Zx rfl ?_)⟩
 refine⟨Zt (l4s,()) rfl (by decide),KF (v:=true) (l4s,()) rfl (show Zm l4s=true by decide) (Zx rfl ?_)⟩
 refine⟨Zt (l4s,l4s,()) rfl (by decide),KF (v:=true) (l4s,l4s,()) rfl (show(V8 l4s l4s==0)=true by decide) (YI rfl)⟩
end Go.Pl

namespace Go.Pl
open Go.RowKit
end Go.Pl

namespace Go.Pl
open Go.RowKit
open Enc (enc dec is)
open EncL (encL decL isL)
end Go.Pl

namespace Go.Pl
open Go.RowKit
open Enc (enc dec is)
open EncL (encL decL isL)
structure U64 where
 n:Int
 deriving DecidableEq
instance:Enc U64 where
 sz:=1
 enc x:=.int .u64 x.n
 dec | .int _ n=>⟨n⟩|_=>⟨0⟩
 is | .int .u64 _=>true|_=>false
 is_enc _:=rfl
 dec_enc _:=rfl
 sub p h:=by
  cases p with
  | int k n=>cases k <;> first|exact .refl _|cases h
  | _=>cases h
def byT(t:Bool)(x:Nat):UInt8:=if t=true then 255 - UInt8.ofNat x else UInt8.ofNat x
def YO(t:Bool)(m:Nat):Nat->List UInt8
 | 0=>[]
 | k+1=>byT t (m / 256 ^ k)::YO t m k
def UN(m:Nat):Nat->Nat->Nat
 | 0,k=>k
 | f+1,k=>if k<8∧0<m / 256 ^ k then UN m f (k+1)else k
def ZI(m:Nat):Nat:=UN m 7 1
def YH(n:Int):Nat:=((n - 120) % 18446744073709551616).toNat
def YG(n:Int):Nat:=((-121 - n) % 18446744073709551616).toNat
def encI(n:Int):List UInt8:=
 if n ≥ 120 then UInt8.ofNat (247+ZI (YH n))::YO false (YH n) (ZI (YH n))
 else if n < -120 then UInt8.ofNat (8 - ZI (YG n))::YO true (YG n) (ZI (YG n))
 else [UInt8.ofNat (n+128).toNat]
def encS(s:List UInt8):List UInt8:=encI s.length++s
def XY(t:Coef):List UInt8:=encS t.v.s++encI t.c
def Zd(l:Lin):List UInt8:=encI l.k++(encI l.t.length++l.t.flatMap XY)
def Za(p:PV):List UInt8:=dec p
theorem Zw(x:List UInt8):Za (enc x)=x:=Enc.dec_enc x
abbrev Sd(xs:List PV):Bool:=Jk (List UInt8) (.sl 1 false xs)
def Qz(tb fs ft:Nat):List AV->List AObj->Bool
 | [.row 0 q 0 q',.pv (.int .u64 m),.pv (.int .i64 k),.pv (.fn f)],[.row false ty 1 xs]=>ty==tb&&Sd xs&&xs.length==q&&q'==q&&decide (0<=m)&&decide (m<18446744073709551616)&&decide (0<=k)&&decide (k<=8)&&(f==fs||f==ft)&&decide (q<=10000000)
 | _,_=>false
def Rl(ft:Nat):List AV->List AObj->AV×List AObj×List AObj
 | [.row _ q _ _,.pv (.int _ m),.pv (.int _ k),.pv (.fn f)],[.row fz ty sz xs]=>(.row 0 (q+k.toNat) 0 (q+k.toNat),[.row fz ty sz (xs++(YO (f==ft) m.toNat k.toNat).map enc)],[])
 | _,_=>(.pv .nilp,[],[])
def UE(tb:Nat):List AV->List AObj->Bool
 | [.row 0 q 0 q',.pv (.int .i64 n)],[.row false ty 1 xs]=>ty==tb&&Sd xs&&xs.length==q&&q'==q&&decide (q<=9000000)
 | _,_=>false
def Ha:List AV->List AObj->AV×List AObj×List AObj
 | [.row _ q _ _,.pv (.int _ n)],[.row fz ty sz xs]=>(.row 0 (q+(encI n).length) 0 (q+(encI n).length),[.row fz ty sz (xs++(encI n).map enc)],[])
 | _,_=>(.pv .nilp,[],[])
def UC:List AV->List AObj->Bool
 | [.pv p],[]=>Jk (List UInt8) p&&decide ((Za p).length<=9000000)
 | _,_=>false
def D5(ty:Nat):List AV->List AObj->AV×List AObj×List AObj
 | [.pv p],_=>(.row 0 (Za p).length 0 (Za p).length,[],[.row false ty 1 ((Za p).map enc)])
 | _,_=>(.pv .nilp,[],[])
def JD(tb:Nat):List AV->List AObj->Bool
 | [.row 0 q 0 q',.pv (.str s)],[.row false ty 1 xs]=>ty==tb&&Sd xs&&xs.length==q&&q'==q&&decide (q<=9000000)&&decide (s.length<=9000000)
 | _,_=>false
def Pk:List AV->List AObj->AV×List AObj×List AObj
 | [.row _ q _ _,.pv (.str s)],[.row fz ty sz xs]=>(.row 0 (q+(encS s).length) 0 (q+(encS s).length),[.row fz ty sz (xs++(encS s).map enc)],[])
 | _,_=>(.pv .nilp,[],[])
def XQ:List AV->List AObj->Bool
 | [.pv p,.pv (.int .i64 n)],[]=>Jk (List UInt8) p&&decide ((Za p).length<=9000000)
 | _,_=>false
def XL(ty:Nat):List AV->List AObj->AV×List AObj×List AObj
 | [.pv p,.pv (.int _ n)],_=>(.row 0 (Za p++encI n).length 0 (Za p++encI n).length,[],[.row false ty 1 ((Za p++encI n).map enc)])
 | _,_=>(.pv .nilp,[],[])
def XI(n:Int):Int×U64:=if n ≥ -120∧n<=119 then(0,⟨0⟩)else if n<0 then(ZI (YG n),⟨YG n⟩)else(ZI (YH n),⟨YH n⟩)
end Go.Pl

namespace Go.Pl
open Go.RowKit
open Enc (enc dec is)
open EncL (encL decL isL)
def QM(t:Bool)(c:UInt8):UInt8:=if t=true then 255 - c else c
def Xv(t:Bool):Nat->List UInt8->Nat
 | m,[]=>m
 | m,c::r=>Xv t (m*256+(QM t c).toNat) r
def YT(c:UInt8):Bool:=decide (8<=c.toNat)&&decide (c.toNat<=247)
def Z0(c:UInt8):Bool:=decide (c.toNat<=7)
def WJ(c:UInt8):Nat:=if Z0 c=true then 8 - c.toNat else c.toNat - 247
def ZX:List UInt8->Option (Int×List UInt8)
 | []=>none
 | c::r=>
  if YT c=true then some ((c.toNat:Int) - 128,r)
  else if r.length<WJ c then none
  else if 1<WJ c∧(QM (Z0 c) (r.headD 0))=0 then none
  else
   let m:=Xv (Z0 c) 0 (r.take (WJ c))
   if m<=9223372036854775687 then some (if Z0 c=true then -121 - (m:Int)else(m:Int)+120,r.drop (WJ c))else none
def w3:Option (Int×List UInt8)->R3 Int (List UInt8) Bool
 | none=>⟨0,[],false⟩
 | some (n,r)=>⟨n,r,true⟩
def Zf(lo hi e:Int)(x:List UInt8)(err:Int):Int×List UInt8×Int:=
 if err≠0 then(0,x,err)else match ZX x with
 | none=>(0,x,4)
 | some (n,r)=>if n<lo∨n>hi then(0,x,e)else(n,r,0)
def Wd(most:Int)(x:List UInt8)(err:Int):List UInt8×List UInt8×Int:=
 let a:=Zf 0 most 3 x err
 if a.2.2≠0 then([],a.2.1,a.2.2)else if a.1>a.2.1.length then([],a.2.1,4)else(a.2.1.take a.1.toNat,a.2.1.drop a.1.toNat,0)
def Zi(most:Int)(x:List UInt8)(err:Int):List UInt8×List UInt8×Int:=
 if err≠0 then([],x,err)else
 let a:=Wd most x 0
 if a.2.2≠0 then([],x,a.2.2)else a
def Z5:Nat->List UInt8->Int->List Coef×List UInt8×Int
 | 0,x,e=>([],x,e)
 | n+1,x,e=>if e≠0 then([],x,e)else
  let v:=Zi 30 x 0
  let c:=Zf (-1000000) 1000000 2 v.2.1 v.2.2
  let r:=Z5 n c.2.1 c.2.2
  (⟨⟨v.1⟩,c.1⟩::r.1,r.2)
def Zb(x:List UInt8)(err:Int):Lin×List UInt8×Int:=
 if err≠0 then(⟨0,[]⟩,x,err)else
 let a:=Zf (-1000000) 1000000 2 x 0
 let b:=Zf 0 12 3 a.2.1 a.2.2
 let c:=Z5 b.1.toNat b.2.1 b.2.2
 let e:=if c.2.2=0∧Zm ⟨a.1,c.1⟩=false then 4 else c.2.2
 if e=0 then(⟨a.1,c.1⟩,c.2.1,0)else(⟨0,[]⟩,x,e)
abbrev sB(x:List UInt8)(e:Int):AObj:=.box [.pv (.sl 1 false (x.map enc)),.pv (.int .i64 e)]
abbrev LY(n:Int):AObj:=.box [.pv (.int .i64 n)]
def OT:AV×List AObj×List AObj:=(.pv .nilp,[],[])
def V5(p:PV):Bool:=Jk (List UInt8) p&&decide ((Za p).length<=9000000)
def G6(r:Int×List UInt8×Int)(os:List AObj):AV×List AObj×List AObj:=(.pv (.int .i64 r.1),sB r.2.1 r.2.2::os,[])
def CF(r:List UInt8×List UInt8×Int)(os:List AObj):AV×List AObj×List AObj:=(.pv (.str r.1),sB r.2.1 r.2.2::os,[])
def Wl:List AV->List AObj->Bool
 | [.ptr 0 0,.pv (.int .i64 e)],[.box [.pv p,.pv (.int .i64 err)]]=>Jk (List UInt8) p
 | _,_=>false
def Q7:List AV->List AObj->AV×List AObj×List AObj
 | [_,.pv (.int .i64 e)],[.box [.pv p,.pv (.int .i64 err)]]=>(.tup [],[sB (Za p) (if err=0 then e else err)],[])
 | _,_=>OT
def XJ:List AV->List AObj->Bool
 | [.ptr 0 0,.pv (.int .i64 lo),.pv (.int .i64 hi),.pv (.int .i64 e)],[.box [.pv p,.pv (.int .i64 err)]]=>V5 p
 | _,_=>false
def Vv:List AV->List AObj->AV×List AObj×List AObj
 | [_,.pv (.int .i64 lo),.pv (.int .i64 hi),.pv (.int .i64 e)],[.box [.pv p,.pv (.int .i64 err)]]=>G6 (Zf lo hi e (Za p) err) []
 | _,_=>OT
def Ka:List AV->List AObj->Bool
 | [.ptr 0 0,.ptr 1 0,.ptr 2 0],[.box [.pv p,.pv (.int .i64 err)],.box [.pv (.int .i64 lo)],.box [.pv (.int .i64 hi)]]=>V5 p
 | _,_=>false
def Uo:List AV->List AObj->AV×List AObj×List AObj
 | _,[.box [.pv p,.pv (.int .i64 err)],.box [.pv (.int .i64 lo)],.box [.pv (.int .i64 hi)]]=>G6 (Zf lo hi 2 (Za p) err) [LY lo,LY hi]
 | _,_=>OT
def QU(g:Nat):List AV->List AObj->Bool
 | [.ptr 0 0,.fn g' [] [.ptr 1 0,.ptr 2 0]],[.box [.pv p,.pv (.int .i64 err)],.box [.pv (.int .i64 lo)],.box [.pv (.int .i64 hi)]]=>g'==g&&V5 p
 | _,_=>false
def Yj:List AV->List AObj->Bool
 | [.ptr 0 0,.pv (.int .i64 lo),.pv (.int .i64 hi)],[.box [.pv p,.pv (.int .i64 err)]]=>V5 p
 | _,_=>false
def Uh:List AV->List AObj->AV×List AObj×List AObj
 | [_,.pv (.int .i64 lo),.pv (.int .i64 hi)],[.box [.pv p,.pv (.int .i64 err)]]=>G6 (Zf lo hi 2 (Za p) err) []
 | _,_=>OT
def Yi:List AV->List AObj->Bool
 | [.ptr 0 0,.pv (.int .i64 most)],[.box [.pv p,.pv (.int .i64 err)]]=>V5 p
 | _,_=>false
def JY:List AV->List AObj->AV×List AObj×List AObj
 | [_,.pv (.int .i64 most)],[.box [.pv p,.pv (.int .i64 err)]]=>CF (Wd most (Za p) err) []
 | _,_=>OT
def Vm:List AV->List AObj->AV×List AObj×List AObj
 | [_,.pv (.int .i64 most)],[.box [.pv p,.pv (.int .i64 err)]]=>CF (Zi most (Za p) err) []
 | _,_=>OT
def Q4:List AV->List AObj->Bool
 | [.ptr 0 0,.ptr 1 0],[.box [.pv p,.pv (.int .i64 err)],.box [.pv (.int .i64 most)]]=>V5 p
 | _,_=>false
def Cy:List AV->List AObj->AV×List AObj×List AObj
 | _,[.box [.pv p,.pv (.int .i64 err)],.box [.pv (.int .i64 most)]]=>CF (Wd most (Za p) err) [LY most]
 | _,_=>OT
def Q5(g:Nat):List AV->List AObj->Bool
 | [.ptr 0 0,.fn g' [] [.ptr 1 0]],[.box [.pv p,.pv (.int .i64 err)],.box [.pv (.int .i64 most)]]=>g'==g&&V5 p
 | _,_=>false
def Ju:List AV->List AObj->AV×List AObj×List AObj
 | _,[.box [.pv p,.pv (.int .i64 err)],.box [.pv (.int .i64 most)]]=>CF (Zi most (Za p) err) [LY most]
 | _,_=>OT
def Qb:List AV->List AObj->Bool
 | [.ptr 0 0,.pv q,.pv (.int .i64 e)],[.box [.pv p,.pv (.int .i64 err)]]=>Jk (List UInt8) q&&Jk (List UInt8) p
 | _,_=>false
def KI:List AV->List AObj->AV×List AObj×List AObj
 | [_,.pv q,.pv (.int .i64 e)],_=>(.tup [],[sB (Za q) e],[])
 | _,_=>OT
def VV:List AV->List AObj->Bool
 | [.ptr 0 0,.pv (.int .i64 most)],[.box [.pv p,.pv (.int .i64 err)]]=>V5 p
 | _,_=>false
def KM:List AV->List AObj->AV×List AObj×List AObj
 | [_,.pv (.int .i64 most)],[.box [.pv p,.pv (.int .i64 err)]]=>G6 (Zf 0 most 3 (Za p) err) []
 | _,_=>OT
def Yq:List AV->List AObj->Bool
 | [.ptr 0 0],[.box [.pv p,.pv (.int .i64 err)]]=>V5 p
 | [.pv .nilp],[]=>true
 | _,_=>false
def Yg:List AV->List AObj->AV×List AObj×List AObj
 | [.ptr 0 0],[.box [.pv p,.pv (.int .i64 err)]]=>(.pv (enc (Zb (Za p) err).1),[sB (Zb (Za p) err).2.1 (Zb (Za p) err).2.2],[])
 | [.pv .nilp],[]=>(.pv (enc (⟨0,[]⟩:Lin)),[],[])
 | _,_=>OT
end Go.Pl

namespace Go.Pl
open Go.RowKit
open Enc (enc dec is)
open EncL (encL decL isL)
def WK(tb:Nat):List AV->List AObj->Bool
 | [.pv p,.pv (.int .i64 n)],[]=>Jk (List UInt8) p&&decide ((Za p).length<=9000000)
 | [.row 0 q 0 q',.pv (.int .i64 n)],[.row fz ty 1 xs]=>ty==tb&&Sd xs&&xs.length==q&&q'==q&&decide (q<=9000000)
 | _,_=>false
def Q6(tb:Nat):List AV->List AObj->AV×List AObj×List AObj
 | [.pv p,.pv (.int _ n)],[]=>(.row 0 (Za p++encI n).length 0 (Za p++encI n).length,[],[.row false tb 1 ((Za p++encI n).map enc)])
 | [.row _ q _ _,.pv (.int _ n)],[.row fz ty sz xs]=>(.row 1 (Za (.sl 1 false xs)++encI n).length 0 (Za (.sl 1 false xs)++encI n).length,[.row true ty 1 xs],[.row false tb 1 ((Za (.sl 1 false xs)++encI n).map enc)])
 | _,_=>OT
def JQ:List AV->List AObj->Bool
 | [.pv p,.pv l],[]=>Jk (List UInt8) p&&Jk Lin l&&decide ((Za p++Zd (dec l)).length<=1000000)
 | _,_=>false
def QX(tb:Nat):List AV->List AObj->AV×List AObj×List AObj
 | [.pv p,.pv l],[]=>(.row 0 (Za p++Zd (dec l)).length 0 (Za p++Zd (dec l)).length,[],[.row false tb 1 ((Za p++Zd (dec l)).map enc)])
 | _,_=>OT
def WV:List AV->List AObj->Bool
 | [.pv (.sl 0 true []),.pv l],[]=>is Lin l&&decide ((Zd (dec l)).length<=1000000)
 | _,_=>false
def Jy(tb:Nat):List AV->List AObj->AV×List AObj×List AObj
 | [.pv (.sl 0 true []),.pv l],[]=>(.row 0 (Zd (dec l)).length 0 (Zd (dec l)).length,[],[.row false tb 1 ((Zd (dec l)).map enc)])
 | _,_=>OT
end Go.Pl

namespace Go.Pl
open Go.RowKit
open Enc (enc dec is)
open EncL (encL decL isL)
set_option maxRecDepth 100000
def Ap:IC:=(.seq (.reg [⟨(some 2),(.box 2 (.t 0)),0,none⟩,⟨(some 4),(.mv (.c (.bool false))),1,none⟩] none) (.seq (.seq (.reg [⟨(some 12),(.call (.c (.fn 13)) []),0,none⟩,⟨(some 13),(.un .not (.t 12)),2,none⟩] none) (.cond (.t 13) (.seq (.reg [⟨(some 4),(.mv (.c (.bool false))),0,none⟩] none) .ret) .skip)) (.seq (.seq (.reg [⟨(some 14),(.load true [(.int .i64),(.sl 2)] (.t 2)),0,none⟩,⟨(some 15),(.call (.c (.fn 14)) [(.t 14),(.c (.int .i64 14))]),0,none⟩,⟨(some 16),(.un .not (.t 15)),2,none⟩,⟨(some 17),(.mv (.t 16)),2,none⟩,⟨(some 18),(.mv (.t 1)),2,(some (17,false))⟩,⟨(some 19),(.len 1 (.t 18)),2,(some (17,false))⟩,⟨(some 20),(.bin .num .gtr (.t 19) (.c (.int .i64 150))),2,(some (17,false))⟩,⟨(some 21),(.pick (.t 17) (.c (.bool true)) (.t 20)),2,none⟩] none) (.cond (.t 21) (.seq (.reg [⟨(some 4),(.mv (.c (.bool true))),0,none⟩] none) .ret) .skip)) (.seq (.reg [⟨(some 22),(.load true [(.int .i64),(.sl 2)] (.t 2)),0,none⟩,⟨(some 23),(.call (.c (.fn 15)) [(.c (.sl 0 true [])),(.t 22)]),0,none⟩,⟨(some 5),(.mv (.t 23)),2,none⟩] none) (.seq (.seq (.reg [⟨(some 24),(.mv (.t 5)),0,none⟩,⟨(some 25),(.load true [(.int .i64),(.sl 2)] (.t 2)),0,none⟩,⟨(some 26),(.call (.c (.fn 16)) [(.c (.sl 0 true [])),(.t 25)]),0,none⟩,⟨(some 27),(.call (.c (.fn 8)) [(.t 24),(.t 26)]),2,none⟩,⟨(some 28),(.un .not (.t 27)),4,none⟩] none) (.cond (.t 28) (.seq (.reg [⟨(some 4),(.mv (.c (.bool false))),0,none⟩] none) .ret) .skip)) (.seq (.reg [⟨(some 29),(.bslice 5 1 0 (.int .u8 0) []),0,none⟩,⟨(some 30),(.mv (.t 5)),1,none⟩,⟨(some 31),(.append 5 1 1 (.t 29) (.t 30)),1,none⟩,⟨(some 32),(.mv (.t 1)),2,none⟩,⟨(some 33),(.append 5 1 1 (.t 31) (.t 32)),2,none⟩,⟨(some 34),(.build [(.sl 0 true []),(.int .i64 0)] [(0,(1,(.t 33)))]),3,none⟩,⟨(some 6),(.alloc (.agg [(.sl 0 true []),(.int .i64 0)])),3,none⟩,⟨none,(.store 2 (.t 6) (.t 34)),4,none⟩] none) (.seq (.reg [⟨(some 35),(.call (.c (.fn 17)) [(.t 6)]),0,none⟩,⟨(some 7),(.alloc (.agg [(.int .i64 0),(.sl 0 true [])])),2,none⟩,⟨none,(.store 2 (.t 7) (.t 35)),3,none⟩] none) (.seq (.seq (.reg [⟨(some 36),(.load true [(.int .i64),(.sl 2)] (.t 2)),0,none⟩,⟨(some 37),(.call (.c (.fn 18)) [(.t 36)]),0,none⟩,⟨(some 38),(.mv (.t 37)),2,none⟩,⟨(some 39),(.faddr 1 (.t 6)),2,(some (38,true))⟩,⟨(some 40),(.load false [(.int .i64)] (.t 39)),2,(some (38,true))⟩,⟨(some 41),(.bin .num .neq (.t 40) (.c (.int .i64 0))),2,(some (38,true))⟩,⟨(some 42),(.mv (.t 41)),2,(some (38,true))⟩,⟨(some 43),(.load true [(.int .i64),(.sl 2)] (.t 7)),2,(some (42,false))⟩,⟨(some 44),(.load true [(.int .i64),(.sl 2)] (.t 2)),2,(some (42,false))⟩,⟨(some 45),(.call (.c (.fn 19)) [(.t 43),(.t 44)]),2,(some (42,false))⟩,⟨(some 46),(.un .not (.t 45)),4,(some (42,false))⟩,⟨(some 47),(.pick (.t 42) (.c (.bool true)) (.t 46)),4,(some (38,true))⟩,⟨(some 48),(.mv (.t 47)),4,(some (38,true))⟩,⟨(some 49),(.faddr 0 (.t 6)),4,(some (48,false))⟩,⟨(some 50),(.load false [(.sl 1)] (.t 49)),4,(some (48,false))⟩,⟨(some 51),(.mv (.t 1)),4,(some (48,false))⟩,⟨(some 52),(.call (.c (.fn 8)) [(.t 50),(.t 51)]),4,(some (48,false))⟩,⟨(some 53),(.un .not (.t 52)),6,(some (48,false))⟩,⟨(some 54),(.pick (.t 48) (.c (.bool true)) (.t 53)),6,(some (38,true))⟩,⟨(some 55),(.pick (.t 38) (.t 54) (.c (.bool false))),6,none⟩] none) (.cond (.t 55) (.seq (.reg [⟨(some 4),(.mv (.c (.bool false))),0,none⟩] none) .ret) .skip)) (.seq (.reg [⟨(some 56),(.bslice 5 1 0 (.int .u8 0) []),0,none⟩,⟨(some 57),(.mv (.t 1)),1,none⟩,⟨(some 58),(.append 5 1 1 (.t 56) (.t 57)),1,none⟩,⟨(some 59),(.build [(.sl 0 true []),(.int .i64 0)] [(0,(1,(.t 58)))]),2,none⟩,⟨(some 8),(.alloc (.agg [(.sl 0 true []),(.int .i64 0)])),2,none⟩,⟨none,(.store 2 (.t 8) (.t 59)),3,none⟩] none) (.seq (.reg [⟨(some 60),(.bslice 5 1 0 (.int .u8 0) []),0,none⟩,⟨(some 61),(.mv (.t 1)),1,none⟩,⟨(some 62),(.append 5 1 1 (.t 60) (.t 61)),1,none⟩,⟨(some 63),(.build [(.sl 0 true []),(.int .i64 0)] [(0,(1,(.t 62)))]),2,none⟩,⟨(some 9),(.alloc (.agg [(.sl 0 true []),(.int .i64 0)])),2,none⟩,⟨none,(.store 2 (.t 9) (.t 63)),3,none⟩] none) (.seq (.reg [⟨(some 64),(.call (.c (.fn 17)) [(.t 8)]),0,none⟩,⟨(some 65),(.call (.c (.fn 20)) [(.t 9)]),2,none⟩,⟨(some 10),(.alloc (.agg [(.int .i64 0),(.sl 0 true [])])),4,none⟩,⟨(some 11),(.alloc (.agg [(.int .i64 0),(.sl 0 true [])])),5,none⟩,⟨none,(.store 2 (.t 10) (.t 64)),6,none⟩,⟨none,(.store 2 (.t 11) (.t 65)),6,none⟩] none) (.seq (.seq (.reg [⟨(some 66),(.load true [(.int .i64),(.sl 2)] (.t 10)),0,none⟩,⟨(some 67),(.load true [(.int .i64),(.sl 2)] (.t 11)),0,none⟩,⟨(some 68),(.call (.c (.fn 19)) [(.t 66),(.t 67)]),0,none⟩,⟨(some 69),(.un .not (.t 68)),2,none⟩,⟨(some 70),(.mv (.t 69)),2,none⟩,⟨(some 71),(.faddr 1 (.t 8)),2,(some (70,false))⟩,⟨(some 72),(.load false [(.int .i64)] (.t 71)),2,(some (70,false))⟩,⟨(some 73),(.faddr 1 (.t 9)),2,(some (70,false))⟩,⟨(some 74),(.load false [(.int .i64)] (.t 73)),2,(some (70,false))⟩,⟨(some 75),(.bin .num .neq (.t 72) (.t 74)),2,(some (70,false))⟩,⟨(some 76),(.pick (.t 70) (.c (.bool true)) (.t 75)),2,none⟩,⟨(some 77),(.mv (.t 76)),2,none⟩,⟨(some 78),(.faddr 0 (.t 8)),2,(some (77,false))⟩,⟨(some 79),(.load false [(.sl 1)] (.t 78)),2,(some (77,false))⟩,⟨(some 80),(.faddr 0 (.t 9)),2,(some (77,false))⟩,⟨(some 81),(.load false [(.sl 1)] (.t 80)),2,(some (77,false))⟩,⟨(some 82),(.call (.c (.fn 8)) [(.t 79),(.t 81)]),2,(some (77,false))⟩,⟨(some 83),(.un .not (.t 82)),4,(some (77,false))⟩,⟨(some 84),(.pick (.t 77) (.c (.bool true)) (.t 83)),4,none⟩] none) (.cond (.t 84) (.seq (.reg [⟨(some 4),(.mv (.c (.bool false))),0,none⟩] none) .ret) .skip)) (.seq (.reg [⟨(some 85),(.faddr 1 (.t 8)),0,none⟩,⟨(some 86),(.load false [(.int .i64)] (.t 85)),0,none⟩,⟨(some 87),(.bin .num .neq (.t 86) (.c (.int .i64 0))),0,none⟩,⟨(some 88),(.mv (.t 87)),0,none⟩,⟨(some 89),(.load true [(.int .i64),(.sl 2)] (.t 10)),0,(some (88,false))⟩,⟨(some 90),(.call (.c (.fn 15)) [(.c (.sl 0 true [])),(.t 89)]),0,(some (88,false))⟩,⟨(some 91),(.faddr 0 (.t 8)),2,(some (88,false))⟩,⟨(some 92),(.load false [(.sl 1)] (.t 91)),2,(some (88,false))⟩,⟨(some 93),(.append 5 1 1 (.t 90) (.t 92)),2,(some (88,false))⟩,⟨(some 94),(.mv (.t 1)),3,(some (88,false))⟩,⟨(some 95),(.call (.c (.fn 8)) [(.t 93),(.t 94)]),3,(some (88,false))⟩,⟨(some 96),(.mv (.t 95)),5,(some (88,false))⟩,⟨(some 97),(.call (.c (.fn 17)) [(.c .nilp)]),5,(some (96,true))⟩,⟨(some 98),(.build [(.int .i64 0),(.sl 0 true [])] []),7,(some (96,true))⟩,⟨(some 99),(.call (.c (.fn 19)) [(.t 97),(.t 98)]),7,(some (96,true))⟩,⟨(some 100),(.pick (.t 96) (.t 99) (.c (.bool false))),9,(some (88,false))⟩,⟨(some 101),(.pick (.t 88) (.c (.bool true)) (.t 100)),9,none⟩,⟨(some 4),(.mv (.t 101)),9,none⟩] (some [[],[0],[1,0],[2,1,0],[3,2,1,0],[4,3,2,1,0],[3,2,1,0],[6,3,2,1,0],[5,7,3,4,2,1,0,6],[3,2,1,0],[8,9,3,5,7,4,2,1,0,6],[10,3,8,9,5,7,4,2,1,0,6],[11,10,3,8,9,5,7,4,2,1,0,6],[11,10,3,8,9,5,7,4,2,1,0,6],[12,13,11,10,3,8,9,5,7,4,2,1,0,6],[11,14,3,10,8,9,5,7,4,2,1,0,6,12,13],[3,15,2,1,0,11,14,10,8,9,5,7,4,6,12,13],[16,14,0,1,2,3,4,5,6,7,8,9,10,11,12,13,15]])) .ret)))))))))))))
def CL:List IRes:=[(.tmp 4)]
abbrev a7t:Nat:=102
def Pg:ZG:=Xo [(13,.pure (preT (fun _:Unit=>true)) (Zo (fun _:Unit=>true))),(14,.pure (preT (fun x:Lin×Int×Unit=>ZL x.1)) (Zo (fun x:Lin×Int×Unit=>C8 x.1 x.2.1))),(15,.own WV (Jy 5)),(16,.pure (preT (fun x:List UInt8×Lin×Unit=>decide ((x.1++Zd x.2.1).length<=1000000))) (Zo (fun x:List UInt8×Lin×Unit=>x.1++Zd x.2.1))),(8,.pure (preT (fun x:List UInt8×List UInt8×Unit=>true)) (Zo (fun x:List UInt8×List UInt8×Unit=>decide (x.1=x.2.1)))),(17,.own (Hm Yq Yg) (Rt Yg)),(20,.own (Hm Yq Yg) (Rt Yg)),(18,.pure (preT (fun x:Lin×Unit=>ZL x.1)) (Zo (fun x:Lin×Unit=>Zm x.1))),(19,.pure (preT (fun x:Lin×Lin×Unit=>ZL x.1)) (Zo (fun x:Lin×Lin×Unit=>Qe x.1 x.2.1==0)))]
theorem b7d{G:PV->Prop}(l:Lin)(b:List UInt8)(h : ∃ y0:Bool,AV.pv (Zo (fun(x:Unit)=>true) [])=AV.pv (enc y0)∧(if (!y0)=true then G ((.bool false))else((Go.Pl.preT (fun(x:Lin×Int×Unit)=>ZL x.1) [(.agg [(.int .i64 l.k),(.sl 2 false (List.map enc l.t))]),(.int .i64 14)])=true∧(∃ y1:Bool,AV.pv (Zo (fun(x:Lin×Int×Unit)=>C8 x.1 x.2.1) [(.agg [(.int .i64 l.k),(.sl 2 false (List.map enc l.t))]),(.int .i64 14)])=AV.pv (enc y1)∧(if (!y1)=true then G ((.bool true))else(if (decide ((↑(List.length (List.map enc b)):Int)>150))=true then G ((.bool true))else((WV [(.pv (.sl 0 true [])),(.pv (.agg [(.int .i64 l.k),(.sl 2 false (List.map enc l.t))]))] [])=true∧((Go.Pl.preT (fun(x:List UInt8×Lin×Unit)=>decide (List.length (x.1++Zd x.2.1)<=1000000)) [(.sl 0 true []),(.agg [(.int .i64 l.k),(.sl 2 false (List.map enc l.t))])])=true∧(∃ y2:List UInt8,AV.pv (Zo (fun(x:List UInt8×Lin×Unit)=>x.1++Zd x.2.1) [(.sl 0 true []),(.agg [(.int .i64 l.k),(.sl 2 false (List.map enc l.t))])])=AV.pv (enc y2)∧((List.length (List.map enc (Zd (dec (PV.agg [enc l.k,enc l.t]))))==List.length (Zd (dec (PV.agg [enc l.k,enc l.t]))))=true∧((Go.Pl.preT (fun(x:List UInt8×List UInt8×Unit)=>true) [(.sl 1 false (List.drop 0 (List.take (List.length (Zd (dec (PV.agg [enc l.k,enc l.t])))) (List.map enc (Zd (dec (PV.agg [enc l.k,enc l.t]))))))),(.sl 1 false (List.map enc y2))])=true∧(∃ y3:Bool,AV.pv (Zo (fun(x:List UInt8×List UInt8×Unit)=>decide (x.1=x.2.1)) [(.sl 1 false (List.drop 0 (List.take (List.length (Zd (dec (PV.agg [enc l.k,enc l.t])))) (List.map enc (Zd (dec (PV.agg [enc l.k,enc l.t]))))))),(.sl 1 false (List.map enc y2))])=AV.pv (enc y3)∧(if (!y3)=true then G ((.bool false))else((List.length (List.map enc (Zd (dec (PV.agg [enc l.k,enc l.t]))))==List.length (Zd (dec (PV.agg [enc l.k,enc l.t]))))=true∧((List.length ([]:List PV)==0&&0==0&&decide ((0+List.length (List.drop 0 (List.take (List.length (Zd (dec (PV.agg [enc l.k,enc l.t])))) (List.map enc (Zd (dec (PV.agg [enc l.k,enc l.t])))))))*1<=1099511627776)&&decide (0+List.length (List.drop 0 (List.take (List.length (Zd (dec (PV.agg [enc l.k,enc l.t])))) (List.map enc (Zd (dec (PV.agg [enc l.k,enc l.t]))))))<=1099511627776))=true∧((List.isEmpty (List.map enc b)||Enc.sz UInt8==1)=true∧((List.length (([]:List PV)++List.drop 0 (List.take (List.length (Zd (dec (PV.agg [enc l.k,enc l.t])))) (List.map enc (Zd (dec (PV.agg [enc l.k,enc l.t]))))))==0+List.length (List.drop 0 (List.take (List.length (Zd (dec (PV.agg [enc l.k,enc l.t])))) (List.map enc (Zd (dec (PV.agg [enc l.k,enc l.t]))))))&&0+List.length (List.drop 0 (List.take (List.length (Zd (dec (PV.agg [enc l.k,enc l.t])))) (List.map enc (Zd (dec (PV.agg [enc l.k,enc l.t]))))))==0+List.length (List.drop 0 (List.take (List.length (Zd (dec (PV.agg [enc l.k,enc l.t])))) (List.map enc (Zd (dec (PV.agg [enc l.k,enc l.t]))))))&&decide ((0+List.length (List.drop 0 (List.take (List.length (Zd (dec (PV.agg [enc l.k,enc l.t])))) (List.map enc (Zd (dec (PV.agg [enc l.k,enc l.t]))))))+List.length (List.map enc b))*1<=1099511627776)&&decide (0+List.length (List.drop 0 (List.take (List.length (Zd (dec (PV.agg [enc l.k,enc l.t])))) (List.map enc (Zd (dec (PV.agg [enc l.k,enc l.t]))))))+List.length (List.map enc b)<=1099511627776))=true∧((Hm Yq Yg [(.ptr 0 0)] [(.box [(.row 1 (0+List.length (List.drop 0 (List.take (List.length (Zd (dec (PV.agg [enc l.k,enc l.t])))) (List.map enc (Zd (dec (PV.agg [enc l.k,enc l.t]))))))+List.length (List.map enc b)) 0 (0+List.length (List.drop 0 (List.take (List.length (Zd (dec (PV.agg [enc l.k,enc l.t])))) (List.map enc (Zd (dec (PV.agg [enc l.k,enc l.t]))))))+List.length (List.map enc b))),(.pv (.int .i64 0))]),(.row false 5 1 (([]:List PV)++List.drop 0 (List.take (List.length (Zd (dec (PV.agg [enc l.k,enc l.t])))) (List.map enc (Zd (dec (PV.agg [enc l.k,enc l.t])))))++List.map enc b))])=true∧((Go.Pl.preT (fun(x:Lin×Unit)=>ZL x.1) [(.agg [(.int .i64 l.k),(.sl 2 false (List.map enc l.t))])])=true∧(∃ y4:Bool,AV.pv (Zo (fun(x:Lin×Unit)=>Zm x.1) [(.agg [(.int .i64 l.k),(.sl 2 false (List.map enc l.t))])])=AV.pv (enc y4)∧(if (y4)=true then if (Prod.snd (Prod.snd (Zb (Za (PV.sl 1 false (([]:List PV)++List.drop 0 (List.take (List.length (Zd (dec (PV.agg [enc l.k,enc l.t])))) (List.map enc (Zd (dec (PV.agg [enc l.k,enc l.t])))))++List.map enc b))) 0)) != 0)=true then G ((.bool false))else((Go.Pl.preT (fun(x:Lin×Lin×Unit)=>ZL x.1) [(.agg [(.int .i64 (Lin.k (Prod.fst (Zb (Za (PV.sl 1 false (([]:List PV)++List.drop 0 (List.take (List.length (Zd (dec (PV.agg [enc l.k,enc l.t])))) (List.map enc (Zd (dec (PV.agg [enc l.k,enc l.t])))))++List.map enc b))) 0)))),(.sl 2 false (List.map enc (Lin.t (Prod.fst (Zb (Za (PV.sl 1 false (([]:List PV)++List.drop 0 (List.take (List.length (Zd (dec (PV.agg [enc l.k,enc l.t])))) (List.map enc (Zd (dec (PV.agg [enc l.k,enc l.t])))))++List.map enc b))) 0)))))]),(.agg [(.int .i64 l.k),(.sl 2 false (List.map enc l.t))])])=true∧(∃ y5:Bool,AV.pv (Zo (fun(x:Lin×Lin×Unit)=>Qe x.1 x.2.1==0) [(.agg [(.int .i64 (Lin.k (Prod.fst (Zb (Za (PV.sl 1 false (([]:List PV)++List.drop 0 (List.take (List.length (Zd (dec (PV.agg [enc l.k,enc l.t])))) (List.map enc (Zd (dec (PV.agg [enc l.k,enc l.t])))))++List.map enc b))) 0)))),(.sl 2 false (List.map enc (Lin.t (Prod.fst (Zb (Za (PV.sl 1 false (([]:List PV)++List.drop 0 (List.take (List.length (Zd (dec (PV.agg [enc l.k,enc l.t])))) (List.map enc (Zd (dec (PV.agg [enc l.k,enc l.t])))))++List.map enc b))) 0)))))]),(.agg [(.int .i64 l.k),(.sl 2 false (List.map enc l.t))])])=AV.pv (enc y5)∧(if (!y5)=true then G ((.bool false))else((Go.Pl.preT (fun(x:List UInt8×List UInt8×Unit)=>true) [(.sl 1 false (List.map enc (Prod.fst (Prod.snd (Zb (Za (PV.sl 1 false (([]:List PV)++List.drop 0 (List.take (List.length (Zd (dec (PV.agg [enc l.k,enc l.t])))) (List.map enc (Zd (dec (PV.agg [enc l.k,enc l.t])))))++List.map enc b))) 0))))),(.sl 1 false (List.map enc b))])=true∧(∃ y6:Bool,AV.pv (Zo (fun(x:List UInt8×List UInt8×Unit)=>decide (x.1=x.2.1)) [(.sl 1 false (List.map enc (Prod.fst (Prod.snd (Zb (Za (PV.sl 1 false (([]:List PV)++List.drop 0 (List.take (List.length (Zd (dec (PV.agg [enc l.k,enc l.t])))) (List.map enc (Zd (dec (PV.agg [enc l.k,enc l.t])))))++List.map enc b))) 0))))),(.sl 1 false (List.map enc b))])=AV.pv (enc y6)∧(if (!y6)=true then G ((.bool false))else((List.isEmpty (List.map enc b)||Enc.sz UInt8==1)=true∧((List.length ([]:List PV)==0&&0==0&&decide ((0+List.length (List.map enc b))*1<=1099511627776)&&decide (0+List.length (List.map enc b)<=1099511627776))=true∧((List.isEmpty (List.map enc b)||Enc.sz UInt8==1)=true∧((List.length ([]:List PV)==0&&0==0&&decide ((0+List.length (List.map enc b))*1<=1099511627776)&&decide (0+List.length (List.map enc b)<=1099511627776))=true∧((Hm Yq Yg [(.ptr 0 0)] [(.box [(.row 1 (0+List.length (List.map enc b)) 0 (0+List.length (List.map enc b))),(.pv (.int .i64 0))]),(.row false 5 1 (([]:List PV)++List.map enc b))])=true∧((Hm Yq Yg [(.ptr 0 0)] [(.box [(.row 1 (0+List.length (List.map enc b)) 0 (0+List.length (List.map enc b))),(.pv (.int .i64 0))]),(.row false 5 1 (([]:List PV)++List.map enc b))])=true∧((Go.Pl.preT (fun(x:Lin×Lin×Unit)=>ZL x.1) [(.agg [(.int .i64 (Lin.k (Prod.fst (Zb (Za (PV.sl 1 false (([]:List PV)++List.map enc b))) 0)))),(.sl 2 false (List.map enc (Lin.t (Prod.fst (Zb (Za (PV.sl 1 false (([]:List PV)++List.map enc b))) 0)))))]),(.agg [(.int .i64 (Lin.k (Prod.fst (Zb (Za (PV.sl 1 false (([]:List PV)++List.map enc b))) 0)))),(.sl 2 false (List.map enc (Lin.t (Prod.fst (Zb (Za (PV.sl 1 false (([]:List PV)++List.map enc b))) 0)))))])])=true∧(∃ y7:Bool,AV.pv (Zo (fun(x:Lin×Lin×Unit)=>Qe x.1 x.2.1==0) [(.agg [(.int .i64 (Lin.k (Prod.fst (Zb (Za (PV.sl 1 false (([]:List PV)++List.map enc b))) 0)))),(.sl 2 false (List.map enc (Lin.t (Prod.fst (Zb (Za (PV.sl 1 false (([]:List PV)++List.map enc b))) 0)))))]),(.agg [(.int .i64 (Lin.k (Prod.fst (Zb (Za (PV.sl 1 false (([]:List PV)++List.map enc b))) 0)))),(.sl 2 false (List.map enc (Lin.t (Prod.fst (Zb (Za (PV.sl 1 false (([]:List PV)++List.map enc b))) 0)))))])])=AV.pv (enc y7)∧(if (!y7)=true then G ((.bool false))else(if (Prod.snd (Prod.snd (Zb (Za (PV.sl 1 false (([]:List PV)++List.map enc b))) 0)) != Prod.snd (Prod.snd (Zb (Za (PV.sl 1 false (([]:List PV)++List.map enc b))) 0)))=true then G ((.bool false))else((Go.Pl.preT (fun(x:List UInt8×List UInt8×Unit)=>true) [(.sl 1 false (List.map enc (Prod.fst (Prod.snd (Zb (Za (PV.sl 1 false (([]:List PV)++List.map enc b))) 0))))),(.sl 1 false (List.map enc (Prod.fst (Prod.snd (Zb (Za (PV.sl 1 false (([]:List PV)++List.map enc b))) 0)))))])=true∧(∃ y8:Bool,AV.pv (Zo (fun(x:List UInt8×List UInt8×Unit)=>decide (x.1=x.2.1)) [(.sl 1 false (List.map enc (Prod.fst (Prod.snd (Zb (Za (PV.sl 1 false (([]:List PV)++List.map enc b))) 0))))),(.sl 1 false (List.map enc (Prod.fst (Prod.snd (Zb (Za (PV.sl 1 false (([]:List PV)++List.map enc b))) 0)))))])=AV.pv (enc y8)∧(if (!y8)=true then G ((.bool false))else(if (Prod.snd (Prod.snd (Zb (Za (PV.sl 1 false (([]:List PV)++List.map enc b))) 0)) != 0)=true then G ((.bool true))else((WV [(.pv (.sl 0 true [])),(.pv (.agg [(.int .i64 (Lin.k (Prod.fst (Zb (Za (PV.sl 1 false (([]:List PV)++List.map enc b))) 0)))),(.sl 2 false (List.map enc (Lin.t (Prod.fst (Zb (Za (PV.sl 1 false (([]:List PV)++List.map enc b))) 0)))))]))] [])=true∧((List.isEmpty (List.map enc (Prod.fst (Prod.snd (Zb (Za (PV.sl 1 false (([]:List PV)++List.map enc b))) 0))))||1==1)=true∧((List.length (List.map enc (Zd (dec (PV.agg [enc (Lin.k (Prod.fst (Zb (Za (PV.sl 1 false (([]:List PV)++List.map enc b))) 0))),enc (Lin.t (Prod.fst (Zb (Za (PV.sl 1 false (([]:List PV)++List.map enc b))) 0)))]))))==List.length (Zd (dec (PV.agg [enc (Lin.k (Prod.fst (Zb (Za (PV.sl 1 false (([]:List PV)++List.map enc b))) 0))),enc (Lin.t (Prod.fst (Zb (Za (PV.sl 1 false (([]:List PV)++List.map enc b))) 0)))])))&&List.length (Zd (dec (PV.agg [enc (Lin.k (Prod.fst (Zb (Za (PV.sl 1 false (([]:List PV)++List.map enc b))) 0))),enc (Lin.t (Prod.fst (Zb (Za (PV.sl 1 false (([]:List PV)++List.map enc b))) 0)))])))==List.length (Zd (dec (PV.agg [enc (Lin.k (Prod.fst (Zb (Za (PV.sl 1 false (([]:List PV)++List.map enc b))) 0))),enc (Lin.t (Prod.fst (Zb (Za (PV.sl 1 false (([]:List PV)++List.map enc b))) 0)))])))&&decide ((List.length (Zd (dec (PV.agg [enc (Lin.k (Prod.fst (Zb (Za (PV.sl 1 false (([]:List PV)++List.map enc b))) 0))),enc (Lin.t (Prod.fst (Zb (Za (PV.sl 1 false (([]:List PV)++List.map enc b))) 0)))])))+List.length (List.map enc (Prod.fst (Prod.snd (Zb (Za (PV.sl 1 false (([]:List PV)++List.map enc b))) 0)))))*1<=1099511627776)&&decide (List.length (Zd (dec (PV.agg [enc (Lin.k (Prod.fst (Zb (Za (PV.sl 1 false (([]:List PV)++List.map enc b))) 0))),enc (Lin.t (Prod.fst (Zb (Za (PV.sl 1 false (([]:List PV)++List.map enc b))) 0)))])))+List.length (List.map enc (Prod.fst (Prod.snd (Zb (Za (PV.sl 1 false (([]:List PV)++List.map enc b))) 0))))<=1099511627776))=true∧((List.length (List.map enc (Zd (dec (PV.agg [enc (Lin.k (Prod.fst (Zb (Za (PV.sl 1 false (([]:List PV)++List.map enc b))) 0))),enc (Lin.t (Prod.fst (Zb (Za (PV.sl 1 false (([]:List PV)++List.map enc b))) 0)))])))++List.map enc (Prod.fst (Prod.snd (Zb (Za (PV.sl 1 false (([]:List PV)++List.map enc b))) 0))))==List.length (Zd (dec (PV.agg [enc (Lin.k (Prod.fst (Zb (Za (PV.sl 1 false (([]:List PV)++List.map enc b))) 0))),enc (Lin.t (Prod.fst (Zb (Za (PV.sl 1 false (([]:List PV)++List.map enc b))) 0)))])))+List.length (List.map enc (Prod.fst (Prod.snd (Zb (Za (PV.sl 1 false (([]:List PV)++List.map enc b))) 0)))))=true∧((Go.Pl.preT (fun(x:List UInt8×List UInt8×Unit)=>true) [(.sl 1 false (List.drop 0 (List.take (List.length (Zd (dec (PV.agg [enc (Lin.k (Prod.fst (Zb (Za (PV.sl 1 false (([]:List PV)++List.map enc b))) 0))),enc (Lin.t (Prod.fst (Zb (Za (PV.sl 1 false (([]:List PV)++List.map enc b))) 0)))])))+List.length (List.map enc (Prod.fst (Prod.snd (Zb (Za (PV.sl 1 false (([]:List PV)++List.map enc b))) 0))))) (List.map enc (Zd (dec (PV.agg [enc (Lin.k (Prod.fst (Zb (Za (PV.sl 1 false (([]:List PV)++List.map enc b))) 0))),enc (Lin.t (Prod.fst (Zb (Za (PV.sl 1 false (([]:List PV)++List.map enc b))) 0)))])))++List.map enc (Prod.fst (Prod.snd (Zb (Za (PV.sl 1 false (([]:List PV)++List.map enc b))) 0))))))),(.sl 1 false (List.map enc b))])=true∧(∃ y9:Bool,AV.pv (Zo (fun(x:List UInt8×List UInt8×Unit)=>decide (x.1=x.2.1)) [(.sl 1 false (List.drop 0 (List.take (List.length (Zd (dec (PV.agg [enc (Lin.k (Prod.fst (Zb (Za (PV.sl 1 false (([]:List PV)++List.map enc b))) 0))),enc (Lin.t (Prod.fst (Zb (Za (PV.sl 1 false (([]:List PV)++List.map enc b))) 0)))])))+List.length (List.map enc (Prod.fst (Prod.snd (Zb (Za (PV.sl 1 false (([]:List PV)++List.map enc b))) 0))))) (List.map enc (Zd (dec (PV.agg [enc (Lin.k (Prod.fst (Zb (Za (PV.sl 1 false (([]:List PV)++List.map enc b))) 0))),enc (Lin.t (Prod.fst (Zb (Za (PV.sl 1 false (([]:List PV)++List.map enc b))) 0)))])))++List.map enc (Prod.fst (Prod.snd (Zb (Za (PV.sl 1 false (([]:List PV)++List.map enc b))) 0))))))),(.sl 1 false (List.map enc b))])=AV.pv (enc y9)∧(if (y9)=true then ∃ y10:Bool,AV.pv (Zo (fun(x:Lin×Lin×Unit)=>Qe x.1 x.2.1==0) [(.agg [(.int .i64 0),(.sl 2 false (List.map enc (Lin.t (Lin.mk 0 []))))]),(.agg [(.int .i64 0),(.sl 0 true [])])])=AV.pv (enc y10)∧(G ((.bool y10)))else(G ((.bool false))))))))))))))))))))))))))))))else((List.isEmpty (List.map enc b)||Enc.sz UInt8==1)=true∧((List.length ([]:List PV)==0&&0==0&&decide ((0+List.length (List.map enc b))*1<=1099511627776)&&decide (0+List.length (List.map enc b)<=1099511627776))=true∧((List.isEmpty (List.map enc b)||Enc.sz UInt8==1)=true∧((List.length ([]:List PV)==0&&0==0&&decide ((0+List.length (List.map enc b))*1<=1099511627776)&&decide (0+List.length (List.map enc b)<=1099511627776))=true∧((Hm Yq Yg [(.ptr 0 0)] [(.box [(.row 1 (0+List.length (List.map enc b)) 0 (0+List.length (List.map enc b))),(.pv (.int .i64 0))]),(.row false 5 1 (([]:List PV)++List.map enc b))])=true∧((Hm Yq Yg [(.ptr 0 0)] [(.box [(.row 1 (0+List.length (List.map enc b)) 0 (0+List.length (List.map enc b))),(.pv (.int .i64 0))]),(.row false 5 1 (([]:List PV)++List.map enc b))])=true∧((Go.Pl.preT (fun(x:Lin×Lin×Unit)=>ZL x.1) [(.agg [(.int .i64 (Lin.k (Prod.fst (Zb (Za (PV.sl 1 false (([]:List PV)++List.map enc b))) 0)))),(.sl 2 false (List.map enc (Lin.t (Prod.fst (Zb (Za (PV.sl 1 false (([]:List PV)++List.map enc b))) 0)))))]),(.agg [(.int .i64 (Lin.k (Prod.fst (Zb (Za (PV.sl 1 false (([]:List PV)++List.map enc b))) 0)))),(.sl 2 false (List.map enc (Lin.t (Prod.fst (Zb (Za (PV.sl 1 false (([]:List PV)++List.map enc b))) 0)))))])])=true∧(∃ y11:Bool,AV.pv (Zo (fun(x:Lin×Lin×Unit)=>Qe x.1 x.2.1==0) [(.agg [(.int .i64 (Lin.k (Prod.fst (Zb (Za (PV.sl 1 false (([]:List PV)++List.map enc b))) 0)))),(.sl 2 false (List.map enc (Lin.t (Prod.fst (Zb (Za (PV.sl 1 false (([]:List PV)++List.map enc b))) 0)))))]),(.agg [(.int .i64 (Lin.k (Prod.fst (Zb (Za (PV.sl 1 false (([]:List PV)++List.map enc b))) 0)))),(.sl 2 false (List.map enc (Lin.t (Prod.fst (Zb (Za (PV.sl 1 false (([]:List PV)++List.map enc b))) 0)))))])])=AV.pv (enc y11)∧(if (!y11)=true then G ((.bool false))else(if (Prod.snd (Prod.snd (Zb (Za (PV.sl 1 false (([]:List PV)++List.map enc b))) 0)) != Prod.snd (Prod.snd (Zb (Za (PV.sl 1 false (([]:List PV)++List.map enc b))) 0)))=true then G ((.bool false))else((Go.Pl.preT (fun(x:List UInt8×List UInt8×Unit)=>true) [(.sl 1 false (List.map enc (Prod.fst (Prod.snd (Zb (Za (PV.sl 1 false (([]:List PV)++List.map enc b))) 0))))),(.sl 1 false (List.map enc (Prod.fst (Prod.snd (Zb (Za (PV.sl 1 false (([]:List PV)++List.map enc b))) 0)))))])=true∧(∃ y12:Bool,AV.pv (Zo (fun(x:List UInt8×List UInt8×Unit)=>decide (x.1=x.2.1)) [(.sl 1 false (List.map enc (Prod.fst (Prod.snd (Zb (Za (PV.sl 1 false (([]:List PV)++List.map enc b))) 0))))),(.sl 1 false (List.map enc (Prod.fst (Prod.snd (Zb (Za (PV.sl 1 false (([]:List PV)++List.map enc b))) 0)))))])=AV.pv (enc y12)∧(if (!y12)=true then G ((.bool false))else(if (Prod.snd (Prod.snd (Zb (Za (PV.sl 1 false (([]:List PV)++List.map enc b))) 0)) != 0)=true then G ((.bool true))else((WV [(.pv (.sl 0 true [])),(.pv (.agg [(.int .i64 (Lin.k (Prod.fst (Zb (Za (PV.sl 1 false (([]:List PV)++List.map enc b))) 0)))),(.sl 2 false (List.map enc (Lin.t (Prod.fst (Zb (Za (PV.sl 1 false (([]:List PV)++List.map enc b))) 0)))))]))] [])=true∧((List.isEmpty (List.map enc (Prod.fst (Prod.snd (Zb (Za (PV.sl 1 false (([]:List PV)++List.map enc b))) 0))))||1==1)=true∧((List.length (List.map enc (Zd (dec (PV.agg [enc (Lin.k (Prod.fst (Zb (Za (PV.sl 1 false (([]:List PV)++List.map enc b))) 0))),enc (Lin.t (Prod.fst (Zb (Za (PV.sl 1 false (([]:List PV)++List.map enc b))) 0)))]))))==List.length (Zd (dec (PV.agg [enc (Lin.k (Prod.fst (Zb (Za (PV.sl 1 false (([]:List PV)++List.map enc b))) 0))),enc (Lin.t (Prod.fst (Zb (Za (PV.sl 1 false (([]:List PV)++List.map enc b))) 0)))])))&&List.length (Zd (dec (PV.agg [enc (Lin.k (Prod.fst (Zb (Za (PV.sl 1 false (([]:List PV)++List.map enc b))) 0))),enc (Lin.t (Prod.fst (Zb (Za (PV.sl 1 false (([]:List PV)++List.map enc b))) 0)))])))==List.length (Zd (dec (PV.agg [enc (Lin.k (Prod.fst (Zb (Za (PV.sl 1 false (([]:List PV)++List.map enc b))) 0))),enc (Lin.t (Prod.fst (Zb (Za (PV.sl 1 false (([]:List PV)++List.map enc b))) 0)))])))&&decide ((List.length (Zd (dec (PV.agg [enc (Lin.k (Prod.fst (Zb (Za (PV.sl 1 false (([]:List PV)++List.map enc b))) 0))),enc (Lin.t (Prod.fst (Zb (Za (PV.sl 1 false (([]:List PV)++List.map enc b))) 0)))])))+List.length (List.map enc (Prod.fst (Prod.snd (Zb (Za (PV.sl 1 false (([]:List PV)++List.map enc b))) 0)))))*1<=1099511627776)&&decide (List.length (Zd (dec (PV.agg [enc (Lin.k (Prod.fst (Zb (Za (PV.sl 1 false (([]:List PV)++List.map enc b))) 0))),enc (Lin.t (Prod.fst (Zb (Za (PV.sl 1 false (([]:List PV)++List.map enc b))) 0)))])))+List.length (List.map enc (Prod.fst (Prod.snd (Zb (Za (PV.sl 1 false (([]:List PV)++List.map enc b))) 0))))<=1099511627776))=true∧((List.length (List.map enc (Zd (dec (PV.agg [enc (Lin.k (Prod.fst (Zb (Za (PV.sl 1 false (([]:List PV)++List.map enc b))) 0))),enc (Lin.t (Prod.fst (Zb (Za (PV.sl 1 false (([]:List PV)++List.map enc b))) 0)))])))++List.map enc (Prod.fst (Prod.snd (Zb (Za (PV.sl 1 false (([]:List PV)++List.map enc b))) 0))))==List.length (Zd (dec (PV.agg [enc (Lin.k (Prod.fst (Zb (Za (PV.sl 1 false (([]:List PV)++List.map enc b))) 0))),enc (Lin.t (Prod.fst (Zb (Za (PV.sl 1 false (([]:List PV)++List.map enc b))) 0)))])))+List.length (List.map enc (Prod.fst (Prod.snd (Zb (Za (PV.sl 1 false (([]:List PV)++List.map enc b))) 0)))))=true∧((Go.Pl.preT (fun(x:List UInt8×List UInt8×Unit)=>true) [(.sl 1 false (List.drop 0 (List.take (List.length (Zd (dec (PV.agg [enc (Lin.k (Prod.fst (Zb (Za (PV.sl 1 false (([]:List PV)++List.map enc b))) 0))),enc (Lin.t (Prod.fst (Zb (Za (PV.sl 1 false (([]:List PV)++List.map enc b))) 0)))])))+List.length (List.map enc (Prod.fst (Prod.snd (Zb (Za (PV.sl 1 false (([]:List PV)++List.map enc b))) 0))))) (List.map enc (Zd (dec (PV.agg [enc (Lin.k (Prod.fst (Zb (Za (PV.sl 1 false (([]:List PV)++List.map enc b))) 0))),enc (Lin.t (Prod.fst (Zb (Za (PV.sl 1 false (([]:List PV)++List.map enc b))) 0)))])))++List.map enc (Prod.fst (Prod.snd (Zb (Za (PV.sl 1 false (([]:List PV)++List.map enc b))) 0))))))),(.sl 1 false (List.map enc b))])=true∧(∃ y13:Bool,AV.pv (Zo (fun(x:List UInt8×List UInt8×Unit)=>decide (x.1=x.2.1)) [(.sl 1 false (List.drop 0 (List.take (List.length (Zd (dec (PV.agg [enc (Lin.k (Prod.fst (Zb (Za (PV.sl 1 false (([]:List PV)++List.map enc b))) 0))),enc (Lin.t (Prod.fst (Zb (Za (PV.sl 1 false (([]:List PV)++List.map enc b))) 0)))])))+List.length (List.map enc (Prod.fst (Prod.snd (Zb (Za (PV.sl 1 false (([]:List PV)++List.map enc b))) 0))))) (List.map enc (Zd (dec (PV.agg [enc (Lin.k (Prod.fst (Zb (Za (PV.sl 1 false (([]:List PV)++List.map enc b))) 0))),enc (Lin.t (Prod.fst (Zb (Za (PV.sl 1 false (([]:List PV)++List.map enc b))) 0)))])))++List.map enc (Prod.fst (Prod.snd (Zb (Za (PV.sl 1 false (([]:List PV)++List.map enc b))) 0))))))),(.sl 1 false (List.map enc b))])=AV.pv (enc y13)∧(if (y13)=true then ∃ y14:Bool,AV.pv (Zo (fun(x:Lin×Lin×Unit)=>Qe x.1 x.2.1==0) [(.agg [(.int .i64 0),(.sl 2 false (List.map enc (Lin.t (Lin.mk 0 []))))]),(.agg [(.int .i64 0),(.sl 0 true [])])])=AV.pv (enc y14)∧(G ((.bool y14)))else(G ((.bool false))))))))))))))))))))))))))))))))))))))))))))):Ze Pg 0 (Zg CL G) Ap [] (Y2 102 [enc l,enc b]):=Ze.tp (.lit (.abs (Bool) (fun YY=>AV.pv (enc YY)) (.ask (.nil) (.req (.abs (Bool) (fun YY=>AV.pv (enc YY)) (.ask (.lit (.lit (.lit (.lit (.nil))))) (.lit (.lit (.lit (.lit (.ask (.nil) (.req (.keep (.req (.abs (List UInt8) (fun YY=>AV.pv (enc YY)) (.req (.req (.abs (Bool) (fun YY=>AV.pv (enc YY)) (.ask (.nil) (.lit (.req (.req (.req (.req (.req (.keep (.req (.abs (Bool) (fun YY=>AV.pv (enc YY)) (.ask (.lit (.lit (.lit (.lit (.ask (.lit (.lit (.lit (.lit (.lit (.lit (.lit (.lit (.lit (.lit (.lit (.lit (.lit (.lit (.lit (.nil)))))))))))))))) (.lit (.lit (.req (.abs (Bool) (fun YY=>AV.pv (enc YY)) (.lit (.lit (.lit (.lit (.ask (.lit (.lit (.lit (.lit (.lit (.lit (.lit (.lit (.nil))))))))) (.lit (.lit (.lit (.req (.abs (Bool) (fun YY=>AV.pv (enc YY)) (.lit (.lit (.lit (.lit (.ask (.nil) (.lit (.req (.req (.lit (.req (.req (.req (.keep (.req (.keep (.req (.abs (Bool) (fun YY=>AV.pv (enc YY)) (.ask (.lit (.lit (.lit (.lit (.lit (.lit (.lit (.lit (.lit (.lit (.lit (.lit (.lit (.nil)))))))))))))) (.lit (.lit (.lit (.lit (.lit (.lit (.ask (.lit (.lit (.lit (.lit (.lit (.lit (.lit (.nil)))))))) (.lit (.lit (.lit (.lit (.req (.abs (Bool) (fun YY=>AV.pv (enc YY)) (.lit (.lit (.ask (.nil) (.lit (.ask (.lit (.lit (.lit (.lit (.lit (.lit (.lit (.lit (.lit (.nil)))))))))) (.lit (.req (.keep (.lit (.lit (.lit (.req (.req (.lit (.lit (.req (.req (.abs (Bool) (fun YY=>AV.pv (enc YY)) (.lit (.ask (.lit (.keep (.lit (.lit (.lit (.abs (Bool) (fun YY=>AV.pv (enc YY)) (.lit (.lit (.lit (.nil)))))))))) (.lit (.lit (.lit (.lit (.lit (.nil)))))))))))))))))))))))))))))))))))))))))))))))))))))))))))))))))))))))))))) (.lit (.lit (.lit (.lit (.lit (.lit (.lit (.lit (.lit (.req (.req (.lit (.req (.req (.req (.keep (.req (.keep (.req (.abs (Bool) (fun YY=>AV.pv (enc YY)) (.ask (.lit (.lit (.lit (.lit (.lit (.lit (.lit (.lit (.lit (.lit (.lit (.lit (.lit (.nil)))))))))))))) (.lit (.lit (.lit (.lit (.lit (.lit (.ask (.lit (.lit (.lit (.lit (.lit (.lit (.lit (.nil)))))))) (.lit (.lit (.lit (.lit (.req (.abs (Bool) (fun YY=>AV.pv (enc YY)) (.lit (.lit (.ask (.nil) (.lit (.ask (.lit (.lit (.lit (.lit (.lit (.lit (.lit (.lit (.lit (.nil)))))))))) (.lit (.req (.keep (.lit (.lit (.lit (.req (.req (.lit (.lit (.req (.req (.abs (Bool) (fun YY=>AV.pv (enc YY)) (.lit (.ask (.lit (.keep (.lit (.lit (.lit (.abs (Bool) (fun YY=>AV.pv (enc YY)) (.lit (.lit (.lit (.nil)))))))))) (.lit (.lit (.lit (.lit (.lit (.nil))))))))))))))))))))))))))))))))))))))))))))))))))))))))))))))))))))))))))))))))))))))))) h (by kernel_rfl)
end Go.Pl

namespace Go.Pl
open Go.RowKit
theorem K3{a b:UInt8}(h:a.toNat=b.toNat):a=b:=UInt8.toNat_inj.mp h
theorem SB(c:UInt8):(255 - (255 - c):UInt8)=c:=by
 apply K3
 have:=UInt8.toNat_lt c
 rw[UInt8.toNat_sub,UInt8.toNat_sub]
 simp
 omega
theorem b3d(t:Bool)(x:Nat):QM t (byT t x)=UInt8.ofNat x:=by
 unfold QM byT
 cases t
 ·rfl
 ·exact SB _
theorem b6r(t:Bool)(c:UInt8)(m:Nat):byT t (m*256+(QM t c).toNat)=c:=by
 have h:UInt8.ofNat (m*256+(QM t c).toNat)=QM t c:=by
  apply K3
  have:=UInt8.toNat_lt (QM t c)
  rw[UInt8.toNat_ofNat']
  omega
 unfold byT
 rw[h]
 unfold QM
 cases t
 ·rfl
 ·exact SB _
theorem Cx(t:Bool): ∀ (r:List UInt8) (m:Nat),Xv t m r=m*256 ^ r.length+Xv t 0 r
 | [],m=>by simp[Xv]
 | c::r,m=>by
  rw[Xv,Xv,Cx t r (m*256+(QM t c).toNat),Cx t r (0*256+(QM t c).toNat),List.length_cons,Nat.pow_succ,Nat.add_mul,Nat.mul_assoc,Nat.mul_comm 256]
  simp only[Nat.zero_mul,Nat.zero_add]
  omega
theorem KL(t:Bool)(c:UInt8)(r:List UInt8):Xv t 0 (c::r)=(QM t c).toNat*256 ^ r.length+Xv t 0 r:=by
 rw[Xv,Cx];simp
theorem Ck(t:Bool): ∀ r:List UInt8,Xv t 0 r<256 ^ r.length
 | []=>by simp[Xv]
 | c::r=>by
  rw[KL,List.length_cons,Nat.pow_succ]
  have h1:=Ck t r
  have h2:(QM t c).toNat+1<=256:=UInt8.toNat_lt _
  have h3:=Nat.mul_le_mul_right (256 ^ r.length) h2
  rw[Nat.add_mul]at h3
  omega
theorem SY(t:Bool)(m:Nat): ∀ k,Xv t 0 (YO t m k)=m % 256 ^ k
 | 0=>by simp[YO,Xv,Nat.mod_one]
 | k+1=>by
  have hl : ∀ k,(YO t m k).length=k:=by
   intro k
   induction k with
   | zero=>rfl
   | succ k ih=>rw[YO,List.length_cons,ih]
  have hu:(UInt8.ofNat (m / 256 ^ k)).toNat=m / 256 ^ k % 256:=UInt8.toNat_ofNat'
  rw[YO,KL,SY t m k,b3d,hl,hu,show(256:Nat) ^ (k+1)=256 ^ k*256 from Nat.pow_succ ..,Nat.mod_mul,Nat.mul_comm]
  omega
theorem Tf(t:Bool): ∀ (r:List UInt8) (m:Nat),YO t (m*256 ^ r.length+Xv t 0 r) r.length=r
 | [],m=>rfl
 | c::r,m=>by
  have h1:=Ck t r
  have hp:0<256 ^ r.length:=Nat.pow_pos (by omega)
  have e:m*256 ^ (r.length+1)+Xv t 0 (c::r)=(m*256+(QM t c).toNat)*256 ^ r.length+Xv t 0 r:=by
   rw[KL,Nat.pow_succ,Nat.add_mul,Nat.mul_assoc,Nat.mul_comm 256]
   omega
  rw[List.length_cons,e,YO,Tf t r (m*256+(QM t c).toNat)]
  rw[Nat.mul_comm _ (256 ^ r.length),Nat.mul_add_div hp,Nat.div_eq_of_lt h1,Nat.add_zero,b6r]
theorem b5g(t:Bool)(r:List UInt8):YO t (Xv t 0 r) r.length=r:=by
 have:=Tf t r 0
 simpa using this
theorem b0p{a b:Nat}(h:a<=b):256 ^ a<=256 ^ b:=Nat.pow_le_pow_right (by omega) h
theorem b2i(M:Nat): ∀ (f k j:Nat),k+f=8->k<=j->j<=8->(j=k∨256 ^ (j - 1)<=M)->(j=8∨M<256 ^ j)->UN M f k=j:=by
 intro f
 induction f with
 | zero=>intro k j h h1 h2 h3 h4;rw[UN];omega
 | succ f ih=>
  intro k j h h1 h2 h3 h4
  have hp:0<256 ^ k:=Nat.pow_pos (by omega)
  rw[UN]
  by_cases e:j=k
  ·subst e
   rw[if_neg]
   rintro⟨_,hd⟩
   rcases h4 with h4|h4
   ·omega
   ·rw[Nat.div_eq_of_lt h4]at hd;omega
  ·have h5:256 ^ (j - 1)<=M:=by rcases h3 with h3|h3;omega;exact h3
   have h6:256 ^ k<=M:=Nat.le_trans (b0p (by omega)) h5
   rw[if_pos ⟨by omega,Nat.div_pos h6 hp⟩]
   exact ih (k+1) j (by omega) (by omega) h2 (.inr h5) h4
theorem b4k{M j:Nat}(h1:1<=j)(h2:j<=8)(h3:j=1∨256 ^ (j - 1)<=M)(h4:j=8∨M<256 ^ j):ZI M=j:=b2i M 7 1 j rfl h1 h2 h3 h4
theorem a0z(M:Nat): ∀ (f k:Nat),k+f=8->k<=UN M f k∧UN M f k<=8∧(UN M f k=k∨256 ^ (UN M f k - 1)<=M)∧(UN M f k=8∨M<256 ^ UN M f k):=by
 intro f
 induction f with
 | zero=>intro k h;rw[UN];exact⟨Nat.le_refl _,by omega,.inl rfl,.inl (by omega)⟩
 | succ f ih=>
  intro k h
  have hp:0<256 ^ k:=Nat.pow_pos (by omega)
  rw[UN]
  split
  ·rename_i hc
   obtain⟨a,b,c,d⟩:=ih (k+1) (by omega)
   refine⟨by omega,b,.inr ?_,d⟩
   rcases c with c|c
   ·rw[c,Nat.add_sub_cancel]
    rcases Nat.lt_or_ge M (256 ^ k)with e|e
    ·rw[Nat.div_eq_of_lt e]at hc;omega
    ·exact e
   ·exact c
  ·rename_i hc
   refine⟨Nat.le_refl _,by omega,.inl rfl,.inr ?_⟩
   rcases Nat.lt_or_ge M (256 ^ k)with e|e
   ·exact e
   ·exact absurd ⟨by omega,Nat.div_pos e hp⟩ hc
theorem Ku(M:Nat):1<=ZI M∧ZI M<=8∧(ZI M=1∨256 ^ (ZI M - 1)<=M)∧(ZI M=8∨M<256 ^ ZI M):=a0z M 7 1 rfl
theorem Rf(t:Bool)(r:List UInt8)(k:Nat)(hk:r.length=k)(h1:1<=k)(h8:k<=8):ZI (Xv t 0 r)=k ↔ ¬ (1<k∧QM t (r.headD 0)=0):=by
 have hlt:=Ck t r
 cases r with
 | nil=>simp at hk;omega
 | cons c r=>
  have hr:r.length=k - 1:=by simp at hk;omega
  have hb:Xv t 0 (c::r)=(QM t c).toNat*256 ^ (k - 1)+Xv t 0 r:=by rw[KL,hr]
  have hr':Xv t 0 r<256 ^ (k - 1):=by have:=Ck t r;rwa [hr]at this
  rw[hk]at hlt
  constructor
  ·rintro hw ⟨h2,h3⟩
   have h3:(QM t c).toNat=0:=by rw[show QM t c=0 from h3];rfl
   rw[h3,Nat.zero_mul,Nat.zero_add]at hb
   have:=(Ku (Xv t 0 (c::r))).2.2.1
   rw[hw]at this
   rcases this with h|h <;> omega
  ·intro hc
   refine b4k h1 h8 ?_ (.inr hlt)
   by_cases e:k=1
   ·exact .inl e
   ·right
    have h3:(QM t c).toNat≠0:=by
     intro h
     exact hc ⟨by omega,K3 h⟩
    have h4:1*256 ^ (k - 1)<=(QM t c).toNat*256 ^ (k - 1):=Nat.mul_le_mul_right _ (by omega)
    omega
theorem D6(c:UInt8)(h:YT c=false):1<=WJ c∧WJ c<=8:=by
 have:=UInt8.toNat_lt c
 unfold YT at h
 unfold WJ Z0
 by_cases h7:c.toNat<=7
 ·rw[if_pos (decide_eq_true h7)];omega
 ·rw[if_neg (by simpa using h7)]
  have : ¬ c.toNat<=247:=by
   intro e
   rw[decide_eq_true (show 8<=c.toNat by omega),decide_eq_true e]at h
   cases h
  omega
theorem XU(c:UInt8)(r:List UInt8):ZX (c::r)=if YT c=true then some ((c.toNat:Int) - 128,r)
  else if r.length<WJ c then none
  else if 1<WJ c∧(QM (Z0 c) (r.headD 0))=0 then none
  else if Xv (Z0 c) 0 (r.take (WJ c))<=9223372036854775687 then some (if Z0 c=true then -121 - (Xv (Z0 c) 0 (r.take (WJ c)):Int)else(Xv (Z0 c) 0 (r.take (WJ c)):Int)+120,r.drop (WJ c))else none:=rfl
theorem S9{n:Int}(h1 : -120<=n)(h2:n<120):encI n=[UInt8.ofNat (n+128).toNat]:=by unfold encI;rw[if_neg (by omega),if_neg (by omega)]
theorem b3i{m:Nat}(h:m<=9223372036854775687):YH ((m:Int)+120)=m:=by unfold YH;omega
theorem b6h{m:Nat}(h:m<=9223372036854775687):YG (-121 - (m:Int))=m:=by unfold YG;omega
theorem Gh{m:Nat}(h:m<=9223372036854775687):encI ((m:Int)+120)=UInt8.ofNat (247+ZI m)::YO false m (ZI m):=by
 unfold encI;rw[if_pos (by omega),b3i h]
theorem G7{m:Nat}(h:m<=9223372036854775687):encI (-121 - (m:Int))=UInt8.ofNat (8 - ZI m)::YO true m (ZI m):=by
 unfold encI;rw[if_neg (by omega),if_pos (by omega),b6h h]
theorem Kt(x:List UInt8){k:Nat}(h:1<=k):(x.take k).headD 0=x.headD 0:=by
 obtain⟨k,rfl⟩ : ∃ j,k=j+1:=⟨k - 1,by omega⟩
 cases x <;> rfl
theorem E9(c:UInt8)(hc:YT c=false)(y:List UInt8)(hy:y.length=WJ c)(hm:Xv (Z0 c) 0 y<=9223372036854775687)(hw : ¬ (1<WJ c∧QM (Z0 c) (y.headD 0)=0)):
  encI (if Z0 c=true then -121 - (Xv (Z0 c) 0 y:Int)else(Xv (Z0 c) 0 y:Int)+120)=c::y:=by
 have hk:=D6 c hc
 have hl:=UInt8.toNat_lt c
 have he:=(Rf (Z0 c) y (WJ c) hy hk.1 hk.2).mpr hw
 have hb:=b5g (Z0 c) y
 have hcc:Z0 c=decide (c.toNat<=7):=rfl
 unfold YT at hc
 by_cases h7:c.toNat<=7
 ·have ht:Z0 c=true:=by rw[hcc];exact decide_eq_true h7
  have hn:WJ c=8 - c.toNat:=by unfold WJ;rw[if_pos ht]
  rw[ht]at hm he hb ⊢
  rw[if_pos rfl,G7 hm,he,<- hy,hb,hy,hn]
  exact congrArg (· ::y) (K3 (by rw[UInt8.toNat_ofNat'];omega))
 ·have ht:Z0 c=false:=by rw[hcc];exact decide_eq_false h7
  have hn:WJ c=c.toNat - 247:=by unfold WJ;rw[if_neg (by rw[ht];simp)]
  have h2 : ¬ c.toNat<=247:=by
   intro e
   rw[decide_eq_true (show 8<=c.toNat by omega),decide_eq_true e]at hc
   cases hc
  rw[ht]at hm he hb ⊢
  rw[if_neg (by simp),Gh hm,he,<- hy,hb,hy,hn]
  exact congrArg (· ::y) (K3 (by rw[UInt8.toNat_ofNat'];omega))
theorem GR: ∀ {b:List UInt8} {n:Int} {r:List UInt8},ZX b=some (n,r)->b=encI n++r∧ -9223372036854775808<=n∧n<=9223372036854775807
 | [],n,r,h=>by cases h
 | c::x,n,r,h=>by
  have hl:=UInt8.toNat_lt c
  rw[XU]at h
  by_cases h1:YT c=true
  ·rw[if_pos h1]at h
   obtain⟨rfl,rfl⟩:=Prod.mk.inj (Option.some.inj h)
   unfold YT at h1
   simp only[Bool.and_eq_true,decide_eq_true_eq]at h1
   rw[S9 (by omega) (by omega)]
   refine⟨?_,by omega,by omega⟩
   show c::x=UInt8.ofNat _::x
   congr 1
   apply K3
   rw[UInt8.toNat_ofNat']
   omega
  ·rw[if_neg h1]at h
   have h1:YT c=false:=by simpa using h1
   have hk:=D6 c h1
   split at h
   ·cases h
   ·rename_i hlen
    split at h
    ·cases h
    ·rename_i hz
     split at h
     ·rename_i hm
      obtain⟨rfl,rfl⟩:=Prod.mk.inj (Option.some.inj h)
      have e:=E9 c h1 (x.take (WJ c)) (by rw[List.length_take];omega) hm (by rw[Kt _ hk.1];exact hz)
      rw[e]
      refine⟨?_,?_⟩
      ·rw[List.cons_append,List.take_append_drop]
      ·split <;> omega
     ·cases h
theorem Sq(t:Bool)(m:Nat): ∀ k,(YO t m k).length=k
 | 0=>rfl
 | k+1=>by rw[YO,List.length_cons,Sq t m k]
theorem a2d(n:Int)(b:List UInt8)(h1 : -9223372036854775808<=n)(h2:n<=9223372036854775807):ZX (encI n++b)=some (n,b):=by
 have key : ∀ (t:Bool) (c:UInt8) (m:Nat),YT c=false->Z0 c=t->WJ c=ZI m->m<=9223372036854775687 ->
   ZX (c::(YO t m (ZI m)++b))=some (if t=true then -121 - (m:Int)else(m:Int)+120,b):=by
  intro t c m h1 h2 h3 h4
  obtain⟨w1,w2,w3,w4⟩:=Ku m
  have hl:=Sq t m (ZI m)
  have h256:(256:Nat) ^ 8=18446744073709551616:=by decide
  have hm:m<256 ^ ZI m:=by
   rcases w4 with w4|w4
   ·rw[w4];omega
   ·exact w4
  have hv:Xv t 0 (YO t m (ZI m))=m:=by rw[SY,Nat.mod_eq_of_lt hm]
  have ht:(YO t m (ZI m)++b).take (ZI m)=YO t m (ZI m):=by rw[List.take_append_of_le_length (by omega),List.take_of_length_le (by omega)]
  have hd:(YO t m (ZI m)++b).drop (ZI m)=b:=by rw[List.drop_append_of_le_length (by omega),List.drop_of_length_le (by omega),List.nil_append]
  have hw:=Rf t (YO t m (ZI m)) (ZI m) hl w1 w2
  rw[hv]at hw
  have hh:(YO t m (ZI m)).headD 0=(YO t m (ZI m)++b).headD 0:=by rw[<- ht,Kt _ w1,ht]
  have hz:=hw.mp rfl
  rw[hh]at hz
  rw[XU,if_neg (by rw[h1];simp),if_neg (by rw[List.length_append,h3];omega),h2,h3,if_neg hz,ht,hv,if_pos h4,hd]
 by_cases a:n ≥ 120
 ·obtain⟨m,rfl⟩ : ∃ m:Nat,n=(m:Int)+120:=⟨(n - 120).toNat,by omega⟩
  have hm:m<=9223372036854775687:=by omega
  obtain⟨w1,w2,_⟩:=Ku m
  rw[Gh hm,List.cons_append]
  have hc:(UInt8.ofNat (247+ZI m)).toNat=247+ZI m:=by rw[UInt8.toNat_ofNat'];omega
  have ht:Z0 (UInt8.ofNat (247+ZI m))=false:=by unfold Z0;rw[hc];exact decide_eq_false (by omega)
  refine(key false _ m (by unfold YT;rw[hc,decide_eq_false (show ¬ 247+ZI m<=247 by omega),Bool.and_false]) ht (by unfold WJ;rw[if_neg (by rw[ht];simp),hc];omega) hm).trans (by simp)
 ·by_cases a2:n < -120
  ·obtain⟨m,rfl⟩ : ∃ m:Nat,n = -121 - (m:Int):=⟨(-121 - n).toNat,by omega⟩
   have hm:m<=9223372036854775687:=by omega
   obtain⟨w1,w2,_⟩:=Ku m
   rw[G7 hm,List.cons_append]
   have hc:(UInt8.ofNat (8 - ZI m)).toNat=8 - ZI m:=by rw[UInt8.toNat_ofNat'];omega
   have ht:Z0 (UInt8.ofNat (8 - ZI m))=true:=by unfold Z0;rw[hc];exact decide_eq_true (by omega)
   refine(key true _ m (by unfold YT;rw[hc,decide_eq_false (show ¬ 8<=8 - ZI m by omega),Bool.false_and]) ht (by unfold WJ;rw[if_pos ht,hc];omega) hm).trans (by simp)
  ·rw[S9 (by omega) (by omega)]
   have hc:(UInt8.ofNat (n+128).toNat).toNat=(n+128).toNat:=by rw[UInt8.toNat_ofNat'];omega
   show ZX (_::b)=_
   rw[XU,if_pos (by unfold YT;rw[hc,decide_eq_true (show 8<=(n+128).toNat by omega),decide_eq_true (show(n+128).toNat<=247 by omega)];rfl),hc]
   congr 2
   omega
end Go.Pl

namespace Go.Pl
open Go.RowKit
open Enc (enc dec is)
open EncL (encL decL isL)
set_option maxRecDepth 100000
def Yl:IC:=(.seq (.reg [⟨(some 2),(.mv (.c (.int .i64 0))),0,none⟩,⟨(some 3),(.mv (.c (.sl 0 true []))),0,none⟩,⟨(some 4),(.mv (.c (.bool false))),0,none⟩] none) (.seq (.seq (.reg [⟨(some 12),(.mv (.t 0)),0,none⟩,⟨(some 13),(.len 1 (.t 12)),0,none⟩,⟨(some 14),(.bin .num .eql (.t 13) (.c (.int .i64 0))),0,none⟩] none) (.cond (.t 14) (.seq (.reg [⟨(some 2),(.mv (.c (.int .i64 0))),0,none⟩,⟨(some 3),(.mv (.c (.sl 0 true []))),0,none⟩,⟨(some 4),(.mv (.c (.bool false))),0,none⟩] none) .ret) .skip)) (.seq (.reg [⟨(some 15),(.mv (.t 0)),0,none⟩,⟨(some 16),(.iaddr 1 (.t 15) (.c (.int .i64 0))),0,none⟩,⟨(some 17),(.load false [(.int .u8)] (.t 16)),0,none⟩,⟨(some 18),(.conv .i64 (.t 17)),0,none⟩,⟨(some 5),(.mv (.t 18)),0,none⟩] none) (.seq (.reg [⟨(some 19),(.mv (.t 5)),0,none⟩,⟨(some 20),(.bin .num .sub (.t 19) (.c (.int .i64 247))),0,none⟩,⟨(some 6),(.mv (.c (.fn 104))),0,none⟩,⟨(some 7),(.mv (.t 20)),0,none⟩,⟨(some 8),(.mv (.c (.bool false))),0,none⟩] none) (.seq (.block 0 (.seq (.reg [⟨(some 26),(.mv (.t 5)),0,none⟩,⟨(some 27),(.bin .num .geq (.t 26) (.c (.int .i64 248))),0,none⟩,⟨(some 25),(.mv (.t 27)),0,none⟩] none) (.cond (.t 25) .skip (.seq (.reg [⟨(some 29),(.mv (.t 5)),0,none⟩,⟨(some 30),(.bin .num .leq (.t 29) (.c (.int .i64 7))),0,none⟩,⟨(some 28),(.mv (.t 30)),0,none⟩] none) (.cond (.t 28) (.reg [⟨(some 31),(.mv (.t 5)),0,none⟩,⟨(some 32),(.bin .num .sub (.c (.int .i64 8)) (.t 31)),0,none⟩,⟨(some 6),(.mv (.c (.fn 105))),0,none⟩,⟨(some 7),(.mv (.t 32)),0,none⟩,⟨(some 8),(.mv (.c (.bool true))),0,none⟩] none) (.seq (.reg [⟨(some 21),(.mv (.t 5)),0,none⟩,⟨(some 22),(.bin .num .sub (.t 21) (.c (.int .i64 128))),0,none⟩,⟨(some 23),(.mv (.t 0)),0,none⟩,⟨(some 24),(.slc 1 (.t 23) (some (.c (.int .i64 1))) none none),0,none⟩,⟨(some 2),(.mv (.t 22)),0,none⟩,⟨(some 3),(.mv (.t 24)),0,none⟩,⟨(some 4),(.mv (.c (.bool true))),0,none⟩] (some [[],[0],[],[2],[1,0],[3,4,0,1,2],[5,0,1,2,3,4]])) .ret)))))) (.seq (.seq (.reg [⟨(some 33),(.mv (.t 0)),0,none⟩,⟨(some 34),(.len 1 (.t 33)),0,none⟩,⟨(some 35),(.mv (.t 7)),0,none⟩,⟨(some 36),(.bin .num .add (.c (.int .i64 1)) (.t 35)),0,none⟩,⟨(some 37),(.bin .num .lss (.t 34) (.t 36)),0,none⟩] none) (.cond (.t 37) (.seq (.reg [⟨(some 2),(.mv (.c (.int .i64 0))),0,none⟩,⟨(some 3),(.mv (.c (.sl 0 true []))),0,none⟩,⟨(some 4),(.mv (.c (.bool false))),0,none⟩] none) .ret) .skip)) (.seq (.reg [⟨(some 9),(.mv (.c (.int .u64 0))),0,none⟩] none) (.seq .skip (.seq (.seq (.reg [⟨(some 38),(.mv (.t 0)),0,none⟩,⟨(some 39),(.mv (.t 7)),0,none⟩,⟨(some 40),(.bin .num .add (.c (.int .i64 1)) (.t 39)),0,none⟩,⟨(some 41),(.slc 1 (.t 38) (some (.c (.int .i64 1))) (some (.t 40)) none),0,none⟩,⟨(some 42),(.len 1 (.t 41)),0,none⟩,⟨(some 43),(.mv (.c (.int .i64 0))),0,none⟩] none) (.block 1 (.loop [43,42,41,6,7,8,0,9] (.seq (.reg [⟨(some 44),(.bin .num .lss (.t 43) (.t 42)),0,none⟩] none) (.seq (.cond (.t 44) .skip (.exit 1)) (.seq (.block 2 (.seq (.reg [⟨(some 45),(.mv (.t 43)),0,none⟩,⟨(some 46),(.iaddr 1 (.t 41) (.t 43)),0,none⟩,⟨(some 47),(.load false [(.int .u8)] (.t 46)),0,none⟩,⟨(some 10),(.mv (.t 45)),0,none⟩,⟨(some 11),(.mv (.t 47)),0,none⟩] none) (.seq (.reg [⟨(some 48),(.mv (.t 6)),0,none⟩,⟨(some 49),(.mv (.t 11)),0,none⟩,⟨(some 50),(.call (.t 48) [(.t 49)]),0,none⟩,⟨(some 11),(.mv (.t 50)),2,none⟩] none) (.seq (.seq (.reg [⟨(some 51),(.mv (.t 10)),0,none⟩,⟨(some 52),(.bin .num .eql (.t 51) (.c (.int .i64 0))),0,none⟩,⟨(some 53),(.mv (.t 52)),0,none⟩,⟨(some 54),(.mv (.t 11)),0,(some (53,true))⟩,⟨(some 55),(.bin .num .eql (.t 54) (.c (.int .u8 0))),0,(some (53,true))⟩,⟨(some 56),(.pick (.t 53) (.t 55) (.c (.bool false))),0,none⟩,⟨(some 57),(.mv (.t 56)),0,none⟩,⟨(some 58),(.mv (.t 7)),0,(some (57,true))⟩,⟨(some 59),(.bin .num .gtr (.t 58) (.c (.int .i64 1))),0,(some (57,true))⟩,⟨(some 60),(.pick (.t 57) (.t 59) (.c (.bool false))),0,none⟩] none) (.cond (.t 60) (.seq (.reg [⟨(some 9),(.mv (.c (.int .u64 9223372036854775808))),0,none⟩] none) (.exit 1)) .skip)) (.reg [⟨(some 61),(.mv (.t 9)),0,none⟩,⟨(some 62),(.bin .num .shl (.t 61) (.c (.int .u64 8))),0,none⟩,⟨(some 63),(.mv (.t 11)),0,none⟩,⟨(some 64),(.conv .u64 (.t 63)),0,none⟩,⟨(some 65),(.bin .num .or (.t 62) (.t 64)),0,none⟩,⟨(some 9),(.mv (.t 65)),0,none⟩] none))))) (.reg [⟨(some 66),(.bin .num .add (.t 43) (.c (.int .i64 1))),0,none⟩,⟨(some 43),(.mv (.t 66)),0,none⟩] none))))))) (.seq (.block 3 (.seq (.reg [⟨(some 68),(.mv (.t 8)),0,none⟩,⟨(some 69),(.mv (.t 68)),0,none⟩,⟨(some 70),(.mv (.t 9)),0,(some (69,true))⟩,⟨(some 71),(.bin .num .leq (.t 70) (.c (.int .u64 9223372036854775687))),0,(some (69,true))⟩,⟨(some 72),(.pick (.t 69) (.t 71) (.c (.bool false))),0,none⟩,⟨(some 67),(.mv (.t 72)),0,none⟩] none) (.cond (.t 67) (.seq (.reg [⟨(some 73),(.mv (.t 9)),0,none⟩,⟨(some 74),(.conv .i64 (.t 73)),0,none⟩,⟨(some 75),(.bin .num .sub (.c (.int .i64 (-121))) (.t 74)),0,none⟩,⟨(some 76),(.mv (.t 0)),0,none⟩,⟨(some 77),(.mv (.t 7)),0,none⟩,⟨(some 78),(.bin .num .add (.c (.int .i64 1)) (.t 77)),0,none⟩,⟨(some 79),(.slc 1 (.t 76) (some (.t 78)) none none),0,none⟩,⟨(some 2),(.mv (.t 75)),0,none⟩,⟨(some 3),(.mv (.t 79)),0,none⟩,⟨(some 4),(.mv (.c (.bool true))),0,none⟩] (some [[],[0],[1,0],[],[],[4],[3,5,4],[2,0,1],[6,7,0,1,2,3,4,5],[8,0,1,2,3,4,5,6,7]])) .ret) (.seq (.reg [⟨(some 81),(.mv (.t 8)),0,none⟩,⟨(some 82),(.un .not (.t 81)),0,none⟩,⟨(some 83),(.mv (.t 82)),0,none⟩,⟨(some 84),(.mv (.t 9)),0,(some (83,true))⟩,⟨(some 85),(.bin .num .leq (.t 84) (.c (.int .u64 9223372036854775687))),0,(some (83,true))⟩,⟨(some 86),(.pick (.t 83) (.t 85) (.c (.bool false))),0,none⟩,⟨(some 80),(.mv (.t 86)),0,none⟩] none) (.cond (.t 80) (.seq (.reg [⟨(some 87),(.mv (.t 9)),0,none⟩,⟨(some 88),(.conv .i64 (.t 87)),0,none⟩,⟨(some 89),(.bin .num .add (.t 88) (.c (.int .i64 120))),0,none⟩,⟨(some 90),(.mv (.t 0)),0,none⟩,⟨(some 91),(.mv (.t 7)),0,none⟩,⟨(some 92),(.bin .num .add (.c (.int .i64 1)) (.t 91)),0,none⟩,⟨(some 93),(.slc 1 (.t 90) (some (.t 92)) none none),0,none⟩,⟨(some 2),(.mv (.t 89)),0,none⟩,⟨(some 3),(.mv (.t 93)),0,none⟩,⟨(some 4),(.mv (.c (.bool true))),0,none⟩] (some [[],[0],[1,0],[],[],[4],[3,5,4],[2,0,1],[6,7,0,1,2,3,4,5],[8,0,1,2,3,4,5,6,7]])) .ret) .skip))))) (.seq (.reg [⟨(some 2),(.mv (.c (.int .i64 0))),0,none⟩,⟨(some 3),(.mv (.c (.sl 0 true []))),0,none⟩,⟨(some 4),(.mv (.c (.bool false))),0,none⟩] none) .ret)))))))))))
def Yh:List IRes:=[(.tmp 2),(.tmp 3),(.tmp 4)]
abbrev b0x:Nat:=94
def YE:ZG:=Xo [(104,.pure (preT (fun _:UInt8×Unit=>true)) (Zo (fun x:UInt8×Unit=>x.1))),(105,.pure (preT (fun _:UInt8×Unit=>true)) (Zo (fun x:UInt8×Unit=>(255 - x.1:UInt8))))]
theorem b5c{G:PV->Prop}(c:UInt8)(x:List UInt8)(h : ∃ y0:UInt8,AV.pv (PV.rptr (PV.cells (List.getD (List.map enc (c::x)) (Int.toNat 0) default)))=AV.pv (PV.rptr (PV.cells ((enc) y0)))∧(if (decide (IntKind.wrap IntKind.i64 (PV.asInt (List.getD (PV.cells (enc y0)) 0 default)) ≥ 248))=true then if (decide ((↑(List.length (List.map enc (c::x))):Int)<IntKind.wrap IntKind.i64 (1+IntKind.wrap IntKind.i64 (IntKind.wrap IntKind.i64 (PV.asInt (List.getD (PV.cells (enc y0)) 0 default)) - 247))))=true then G ((.tup [(.int .i64 0),(.sl 0 true []),(.bool false)]))else((decide (0<=1)&&decide (0<=IntKind.wrap IntKind.i64 (1+IntKind.wrap IntKind.i64 (IntKind.wrap IntKind.i64 (PV.asInt (List.getD (PV.cells (enc y0)) 0 default)) - 247)))&&(List.isEmpty (List.map enc (c::x))||Enc.sz UInt8==1)&&decide (Int.toNat 1<=Int.toNat (IntKind.wrap IntKind.i64 (1+IntKind.wrap IntKind.i64 (IntKind.wrap IntKind.i64 (PV.asInt (List.getD (PV.cells (enc y0)) 0 default)) - 247))))&&decide (Int.toNat (IntKind.wrap IntKind.i64 (1+IntKind.wrap IntKind.i64 (IntKind.wrap IntKind.i64 (PV.asInt (List.getD (PV.cells (enc y0)) 0 default)) - 247)))<=List.length (List.map enc (c::x))))=true∧(At YE 0 (Zg Yh G) Yl 0 94 [(0,(.pv (.sl 1 false (List.map enc (c::x))))),(6,(.pv (.fn 104))),(7,(.pv (.int .i64 (IntKind.wrap IntKind.i64 (IntKind.wrap IntKind.i64 (PV.asInt (List.getD (PV.cells (enc y0)) 0 default)) - 247))))),(8,(.pv (.bool false))),(9,(.pv (.int IntKind.u64 0))),(41,(.pv (.sl 1 false (List.drop (Int.toNat 1) (List.take (Int.toNat (IntKind.wrap IntKind.i64 (1+IntKind.wrap IntKind.i64 (IntKind.wrap IntKind.i64 (PV.asInt (List.getD (PV.cells (enc y0)) 0 default)) - 247)))) (List.map enc (c::x))))))),(42,(.pv (.int .i64 (↑(List.length (List.drop (Int.toNat 1) (List.take (Int.toNat (IntKind.wrap IntKind.i64 (1+IntKind.wrap IntKind.i64 (IntKind.wrap IntKind.i64 (PV.asInt (List.getD (PV.cells (enc y0)) 0 default)) - 247)))) (List.map enc (c::x))))):Int)))),(43,(.pv (.int .i64 0)))] []))else(if (decide (IntKind.wrap IntKind.i64 (PV.asInt (List.getD (PV.cells (enc y0)) 0 default))<=7))=true then if (decide ((↑(List.length (List.map enc (c::x))):Int)<IntKind.wrap IntKind.i64 (1+IntKind.wrap IntKind.i64 (8 - IntKind.wrap IntKind.i64 (PV.asInt (List.getD (PV.cells (enc y0)) 0 default))))))=true then G ((.tup [(.int .i64 0),(.sl 0 true []),(.bool false)]))else((decide (0<=1)&&decide (0<=IntKind.wrap IntKind.i64 (1+IntKind.wrap IntKind.i64 (8 - IntKind.wrap IntKind.i64 (PV.asInt (List.getD (PV.cells (enc y0)) 0 default)))))&&(List.isEmpty (List.map enc (c::x))||Enc.sz UInt8==1)&&decide (Int.toNat 1<=Int.toNat (IntKind.wrap IntKind.i64 (1+IntKind.wrap IntKind.i64 (8 - IntKind.wrap IntKind.i64 (PV.asInt (List.getD (PV.cells (enc y0)) 0 default))))))&&decide (Int.toNat (IntKind.wrap IntKind.i64 (1+IntKind.wrap IntKind.i64 (8 - IntKind.wrap IntKind.i64 (PV.asInt (List.getD (PV.cells (enc y0)) 0 default)))))<=List.length (List.map enc (c::x))))=true∧(At YE 0 (Zg Yh G) Yl 0 94 [(0,(.pv (.sl 1 false (List.map enc (c::x))))),(6,(.pv (.fn 105))),(7,(.pv (.int .i64 (IntKind.wrap IntKind.i64 (8 - IntKind.wrap IntKind.i64 (PV.asInt (List.getD (PV.cells (enc y0)) 0 default))))))),(8,(.pv (.bool true))),(9,(.pv (.int IntKind.u64 0))),(41,(.pv (.sl 1 false (List.drop (Int.toNat 1) (List.take (Int.toNat (IntKind.wrap IntKind.i64 (1+IntKind.wrap IntKind.i64 (8 - IntKind.wrap IntKind.i64 (PV.asInt (List.getD (PV.cells (enc y0)) 0 default)))))) (List.map enc (c::x))))))),(42,(.pv (.int .i64 (↑(List.length (List.drop (Int.toNat 1) (List.take (Int.toNat (IntKind.wrap IntKind.i64 (1+IntKind.wrap IntKind.i64 (8 - IntKind.wrap IntKind.i64 (PV.asInt (List.getD (PV.cells (enc y0)) 0 default)))))) (List.map enc (c::x))))):Int)))),(43,(.pv (.int .i64 0)))] []))else((decide (0<=1)&&true&&(List.isEmpty (List.map enc (c::x))||Enc.sz UInt8==1)&&decide (Int.toNat 1<=List.length (List.map enc (c::x)))&&decide (List.length (List.map enc (c::x))<=List.length (List.map enc (c::x))))=true∧(G ((.tup [(.int .i64 (IntKind.wrap IntKind.i64 (IntKind.wrap IntKind.i64 (PV.asInt (List.getD (PV.cells (enc y0)) 0 default)) - 128))),(.sl 1 false (List.drop (Int.toNat 1) (List.take (List.length (List.map enc (c::x))) (List.map enc (c::x))))),(.bool true)]))))))):Ze YE 0 (Zg Yh G) Yl [] (Y2 94 [enc (c::x)]):=Ze.tp (.lit (.lit (.lit (.abs (UInt8) (fun YY=>AV.pv (PV.rptr (PV.cells ((enc) YY)))) (.lit (.lit (.lit (.ask (.lit (.lit (.ask (.nil) (.lit (.req (.nil)))))) (.lit (.ask (.lit (.lit (.lit (.ask (.nil) (.lit (.req (.nil))))))) (.lit (.req (.nil))))))))))))) h (by kernel_rfl)
theorem GV{G:PV->Prop}(c:UInt8)(x:List UInt8)(y:List UInt8)(k m i n:Int)(h:if (decide (i<n))=true then(decide (0<=i)&&decide (Int.toNat i<List.length (List.map enc y))&&Enc.sz UInt8==1)=true∧(∃ y0:UInt8,AV.pv (PV.rptr (PV.cells (List.getD (List.map enc y) (Int.toNat i) default)))=AV.pv (PV.rptr (PV.cells ((enc) y0)))∧((Go.Pl.preT (fun(x:UInt8×Unit)=>true) [(.int IntKind.u8 (PV.asInt (List.getD (PV.cells (enc y0)) 0 default)))])=true∧(∃ y1:UInt8,AV.pv (Zo (fun(x:UInt8×Unit)=>x.1) [(.int IntKind.u8 (PV.asInt (List.getD (PV.cells (enc y0)) 0 default)))])=AV.pv (enc y1)∧(if (i==0)=true then if ((↑(UInt8.toNat y1):Int)==0)=true then if (decide (k>1))=true then G ((.tup [(.int .i64 0),(.sl 0 true []),(.bool false)]))else(At YE 0 (Zg Yh G) Yl 0 94 [(0,(.pv (.sl 1 false (List.map enc (c::x))))),(6,(.pv (.fn 104))),(7,(.pv (.int .i64 k))),(8,(.pv (.bool false))),(9,(.pv (.int IntKind.u64 (IntKind.wrap IntKind.u64 (↑(BitVec.toNat (BitVec.ofInt (IntKind.bits IntKind.u64) (IntKind.wrap IntKind.u64 (m*2 ^ min (Int.toNat 8) (IntKind.bits IntKind.u64))) ||| BitVec.ofInt (IntKind.bits IntKind.u64) (IntKind.wrap IntKind.u64 (↑(UInt8.toNat y1):Int)))):Int))))),(41,(.pv (.sl 1 false (List.map enc y)))),(42,(.pv (.int .i64 n))),(43,(.pv (.int .i64 (IntKind.wrap IntKind.i64 (i+1)))))] [])else(At YE 0 (Zg Yh G) Yl 0 94 [(0,(.pv (.sl 1 false (List.map enc (c::x))))),(6,(.pv (.fn 104))),(7,(.pv (.int .i64 k))),(8,(.pv (.bool false))),(9,(.pv (.int IntKind.u64 (IntKind.wrap IntKind.u64 (↑(BitVec.toNat (BitVec.ofInt (IntKind.bits IntKind.u64) (IntKind.wrap IntKind.u64 (m*2 ^ min (Int.toNat 8) (IntKind.bits IntKind.u64))) ||| BitVec.ofInt (IntKind.bits IntKind.u64) (IntKind.wrap IntKind.u64 (↑(UInt8.toNat y1):Int)))):Int))))),(41,(.pv (.sl 1 false (List.map enc y)))),(42,(.pv (.int .i64 n))),(43,(.pv (.int .i64 (IntKind.wrap IntKind.i64 (i+1)))))] [])else(At YE 0 (Zg Yh G) Yl 0 94 [(0,(.pv (.sl 1 false (List.map enc (c::x))))),(6,(.pv (.fn 104))),(7,(.pv (.int .i64 k))),(8,(.pv (.bool false))),(9,(.pv (.int IntKind.u64 (IntKind.wrap IntKind.u64 (↑(BitVec.toNat (BitVec.ofInt (IntKind.bits IntKind.u64) (IntKind.wrap IntKind.u64 (m*2 ^ min (Int.toNat 8) (IntKind.bits IntKind.u64))) ||| BitVec.ofInt (IntKind.bits IntKind.u64) (IntKind.wrap IntKind.u64 (↑(UInt8.toNat y1):Int)))):Int))))),(41,(.pv (.sl 1 false (List.map enc y)))),(42,(.pv (.int .i64 n))),(43,(.pv (.int .i64 (IntKind.wrap IntKind.i64 (i+1)))))] [])))))else(if (decide (m<=9223372036854775687))=true then(decide (0<=IntKind.wrap IntKind.i64 (1+k))&&true&&(List.isEmpty (List.map enc (c::x))||Enc.sz UInt8==1)&&decide (Int.toNat (IntKind.wrap IntKind.i64 (1+k))<=List.length (List.map enc (c::x)))&&decide (List.length (List.map enc (c::x))<=List.length (List.map enc (c::x))))=true∧(G ((.tup [(.int .i64 (IntKind.wrap IntKind.i64 (IntKind.wrap IntKind.i64 m+120))),(.sl 1 false (List.drop (Int.toNat (IntKind.wrap IntKind.i64 (1+k))) (List.take (List.length (List.map enc (c::x))) (List.map enc (c::x))))),(.bool true)])))else(G ((.tup [(.int .i64 0),(.sl 0 true []),(.bool false)]))))):At YE 0 (Zg Yh G) Yl 0 94 [(0,.pv (enc (c::x))),(6,.pv (.fn 104)),(7,.pv (.int .i64 k)),(8,.pv (.bool false)),(9,.pv (.int .u64 m)),(41,.pv (enc y)),(42,.pv (.int .i64 n)),(43,.pv (.int .i64 i))] []:=At.tp (.lit (.ask (.req (.abs (UInt8) (fun YY=>AV.pv (PV.rptr (PV.cells ((enc) YY)))) (.lit (.req (.abs (UInt8) (fun YY=>AV.pv (enc YY)) (.lit (.ask (.lit (.lit (.lit (.ask (.lit (.lit (.lit (.ask (.lit (.lit (.lit (.lit (.lit (.lit (.lit (.lit (.lit (.nil)))))))))) (.lit (.lit (.lit (.nil)))))))) (.lit (.lit (.lit (.lit (.lit (.lit (.nil))))))))))) (.lit (.lit (.lit (.lit (.lit (.lit (.lit (.lit (.lit (.nil))))))))))))))))) (.lit (.lit (.lit (.lit (.lit (.lit (.lit (.lit (.ask (.lit (.lit (.req (.nil)))) (.nil)))))))))))) h (by kernel_rfl)
theorem G9{G:PV->Prop}(c:UInt8)(x:List UInt8)(y:List UInt8)(k m i n:Int)(h:if (decide (i<n))=true then(decide (0<=i)&&decide (Int.toNat i<List.length (List.map enc y))&&Enc.sz UInt8==1)=true∧(∃ y0:UInt8,AV.pv (PV.rptr (PV.cells (List.getD (List.map enc y) (Int.toNat i) default)))=AV.pv (PV.rptr (PV.cells ((enc) y0)))∧((Go.Pl.preT (fun(x:UInt8×Unit)=>true) [(.int IntKind.u8 (PV.asInt (List.getD (PV.cells (enc y0)) 0 default)))])=true∧(∃ y1:UInt8,AV.pv (Zo (fun(x:UInt8×Unit)=>(255:UInt8) - x.1) [(.int IntKind.u8 (PV.asInt (List.getD (PV.cells (enc y0)) 0 default)))])=AV.pv (enc y1)∧(if (i==0)=true then if ((↑(UInt8.toNat y1):Int)==0)=true then if (decide (k>1))=true then G ((.tup [(.int .i64 0),(.sl 0 true []),(.bool false)]))else(At YE 0 (Zg Yh G) Yl 0 94 [(0,(.pv (.sl 1 false (List.map enc (c::x))))),(6,(.pv (.fn 105))),(7,(.pv (.int .i64 k))),(8,(.pv (.bool true))),(9,(.pv (.int IntKind.u64 (IntKind.wrap IntKind.u64 (↑(BitVec.toNat (BitVec.ofInt (IntKind.bits IntKind.u64) (IntKind.wrap IntKind.u64 (m*2 ^ min (Int.toNat 8) (IntKind.bits IntKind.u64))) ||| BitVec.ofInt (IntKind.bits IntKind.u64) (IntKind.wrap IntKind.u64 (↑(UInt8.toNat y1):Int)))):Int))))),(41,(.pv (.sl 1 false (List.map enc y)))),(42,(.pv (.int .i64 n))),(43,(.pv (.int .i64 (IntKind.wrap IntKind.i64 (i+1)))))] [])else(At YE 0 (Zg Yh G) Yl 0 94 [(0,(.pv (.sl 1 false (List.map enc (c::x))))),(6,(.pv (.fn 105))),(7,(.pv (.int .i64 k))),(8,(.pv (.bool true))),(9,(.pv (.int IntKind.u64 (IntKind.wrap IntKind.u64 (↑(BitVec.toNat (BitVec.ofInt (IntKind.bits IntKind.u64) (IntKind.wrap IntKind.u64 (m*2 ^ min (Int.toNat 8) (IntKind.bits IntKind.u64))) ||| BitVec.ofInt (IntKind.bits IntKind.u64) (IntKind.wrap IntKind.u64 (↑(UInt8.toNat y1):Int)))):Int))))),(41,(.pv (.sl 1 false (List.map enc y)))),(42,(.pv (.int .i64 n))),(43,(.pv (.int .i64 (IntKind.wrap IntKind.i64 (i+1)))))] [])else(At YE 0 (Zg Yh G) Yl 0 94 [(0,(.pv (.sl 1 false (List.map enc (c::x))))),(6,(.pv (.fn 105))),(7,(.pv (.int .i64 k))),(8,(.pv (.bool true))),(9,(.pv (.int IntKind.u64 (IntKind.wrap IntKind.u64 (↑(BitVec.toNat (BitVec.ofInt (IntKind.bits IntKind.u64) (IntKind.wrap IntKind.u64 (m*2 ^ min (Int.toNat 8) (IntKind.bits IntKind.u64))) ||| BitVec.ofInt (IntKind.bits IntKind.u64) (IntKind.wrap IntKind.u64 (↑(UInt8.toNat y1):Int)))):Int))))),(41,(.pv (.sl 1 false (List.map enc y)))),(42,(.pv (.int .i64 n))),(43,(.pv (.int .i64 (IntKind.wrap IntKind.i64 (i+1)))))] [])))))else(if (decide (m<=9223372036854775687))=true then(decide (0<=IntKind.wrap IntKind.i64 (1+k))&&true&&(List.isEmpty (List.map enc (c::x))||Enc.sz UInt8==1)&&decide (Int.toNat (IntKind.wrap IntKind.i64 (1+k))<=List.length (List.map enc (c::x)))&&decide (List.length (List.map enc (c::x))<=List.length (List.map enc (c::x))))=true∧(G ((.tup [(.int .i64 (IntKind.wrap IntKind.i64 ((-121:Int) - IntKind.wrap IntKind.i64 m))),(.sl 1 false (List.drop (Int.toNat (IntKind.wrap IntKind.i64 (1+k))) (List.take (List.length (List.map enc (c::x))) (List.map enc (c::x))))),(.bool true)])))else(G ((.tup [(.int .i64 0),(.sl 0 true []),(.bool false)]))))):At YE 0 (Zg Yh G) Yl 0 94 [(0,.pv (enc (c::x))),(6,.pv (.fn 105)),(7,.pv (.int .i64 k)),(8,.pv (.bool true)),(9,.pv (.int .u64 m)),(41,.pv (enc y)),(42,.pv (.int .i64 n)),(43,.pv (.int .i64 i))] []:=At.tp (.lit (.ask (.req (.abs (UInt8) (fun YY=>AV.pv (PV.rptr (PV.cells ((enc) YY)))) (.lit (.req (.abs (UInt8) (fun YY=>AV.pv (enc YY)) (.lit (.ask (.lit (.lit (.lit (.ask (.lit (.lit (.lit (.ask (.lit (.lit (.lit (.lit (.lit (.lit (.lit (.lit (.lit (.nil)))))))))) (.lit (.lit (.lit (.nil)))))))) (.lit (.lit (.lit (.lit (.lit (.lit (.nil))))))))))) (.lit (.lit (.lit (.lit (.lit (.lit (.lit (.lit (.lit (.nil))))))))))))))))) (.lit (.lit (.lit (.lit (.ask (.lit (.lit (.req (.nil)))) (.lit (.lit (.lit (.lit (.nil)))))))))))) h (by kernel_rfl)
theorem a6z{G:PV->Prop}(h:G ((.tup [(.int .i64 0),(.sl 0 true []),(.bool false)]))):Ze YE 0 (Zg Yh G) Yl [] (Y2 94 [enc ([]:List UInt8)]):=Ze.tp (.lit (.lit (.nil))) h (by kernel_rfl)
def Bg:IC:=(.seq (.reg [⟨(some 4),(.mv (.t 0)),0,none⟩,⟨(some 5),(.nilchk (.t 4)),0,none⟩,⟨(some 6),(.faddr 1 (.t 5)),0,none⟩,⟨(some 7),(.load false [(.int .i64)] (.t 6)),0,none⟩,⟨(some 8),(.bin .num .eql (.t 7) (.c (.int .i64 0))),0,none⟩] none) (.cond (.t 8) (.reg [⟨(some 9),(.mv (.t 0)),0,none⟩,⟨(some 10),(.mv (.t 1)),0,none⟩,⟨(some 11),(.nilchk (.t 9)),0,none⟩,⟨(some 12),(.faddr 1 (.t 11)),0,none⟩,⟨none,(.store 1 (.t 12) (.t 10)),0,none⟩] none) .skip))
def Co:List IRes:=[]
abbrev a7q:Nat:=13
def TG:ZG:=Xo []
theorem b5f{G:AV×List AObj×List AObj->Prop}(x:List UInt8)(err:Int)(e:Int)(h:if (err==0)=true then G (((.tup []),([(.box [(.pv (.sl 1 false (List.map enc x))),(.pv (.int .i64 e))])],[])))else(G (((.tup []),([(.box [(.pv (.sl 1 false (List.map enc x))),(.pv (.int .i64 err))])],[]))))):Ze TG 1 (Zk 1 Co G) Bg [] (ZK 13 [.ptr 0 0,.pv (.int .i64 e)] [.box [.pv (.sl 1 false (x.map enc)),.pv (.int .i64 err)]]):=Ze.to (.lit (.ask (.nil) (.nil))) h (by kernel_rfl)
def Pp:IC:=(.seq (.reg [⟨(some 8),(.mv (.c (.int .i64 0))),0,none⟩] none) (.seq (.seq (.reg [⟨(some 12),(.mv (.t 0)),0,none⟩,⟨(some 13),(.nilchk (.t 12)),0,none⟩,⟨(some 14),(.faddr 1 (.t 13)),0,none⟩,⟨(some 15),(.load false [(.int .i64)] (.t 14)),0,none⟩,⟨(some 16),(.bin .num .neq (.t 15) (.c (.int .i64 0))),0,none⟩] none) (.cond (.t 16) (.seq (.reg [⟨(some 8),(.mv (.c (.int .i64 0))),0,none⟩] none) .ret) .skip)) (.seq (.reg [⟨(some 18),(.mv (.t 0)),0,none⟩,⟨(some 19),(.nilchk (.t 18)),0,none⟩,⟨(some 20),(.faddr 0 (.t 19)),0,none⟩,⟨(some 21),(.load false [(.sl 1)] (.t 20)),0,none⟩,⟨(some 22),(.call (.c (.fn 123)) [(.t 21)]),0,none⟩,⟨(some 17),(.mv (.t 22)),2,none⟩,⟨(some 23),(.extract (.t 17) 0),2,none⟩,⟨(some 24),(.extract (.t 17) 1),2,none⟩,⟨(some 25),(.extract (.t 17) 2),2,none⟩,⟨(some 9),(.mv (.t 23)),2,none⟩,⟨(some 10),(.mv (.t 24)),2,none⟩,⟨(some 11),(.mv (.t 25)),2,none⟩] none) (.seq (.block 0 (.seq (.reg [⟨(some 27),(.mv (.t 11)),0,none⟩,⟨(some 28),(.un .not (.t 27)),0,none⟩,⟨(some 26),(.mv (.t 28)),0,none⟩] none) (.cond (.t 26) (.seq (.reg [⟨(some 29),(.mv (.t 0)),0,none⟩,⟨(some 30),(.call (.c (.fn 124)) [(.t 29),(.c (.int .i64 4))]),0,none⟩] none) (.seq (.reg [⟨(some 8),(.mv (.c (.int .i64 0))),0,none⟩] none) .ret)) (.seq (.reg [⟨(some 32),(.mv (.t 9)),0,none⟩,⟨(some 33),(.mv (.t 1)),0,none⟩,⟨(some 34),(.bin .num .lss (.t 32) (.t 33)),0,none⟩,⟨(some 35),(.mv (.t 34)),0,none⟩,⟨(some 36),(.mv (.t 9)),0,(some (35,false))⟩,⟨(some 37),(.mv (.t 2)),0,(some (35,false))⟩,⟨(some 38),(.bin .num .gtr (.t 36) (.t 37)),0,(some (35,false))⟩,⟨(some 39),(.pick (.t 35) (.c (.bool true)) (.t 38)),0,none⟩,⟨(some 31),(.mv (.t 39)),0,none⟩] none) (.cond (.t 31) (.seq (.reg [⟨(some 40),(.mv (.t 0)),0,none⟩,⟨(some 41),(.mv (.t 3)),0,none⟩,⟨(some 42),(.call (.c (.fn 124)) [(.t 40),(.t 41)]),0,none⟩] none) (.seq (.reg [⟨(some 8),(.mv (.c (.int .i64 0))),0,none⟩] none) .ret)) .skip))))) (.seq (.reg [⟨(some 43),(.mv (.t 0)),0,none⟩,⟨(some 44),(.mv (.t 10)),0,none⟩,⟨(some 45),(.nilchk (.t 43)),0,none⟩,⟨(some 46),(.faddr 0 (.t 45)),0,none⟩,⟨none,(.store 1 (.t 46) (.t 44)),0,none⟩] none) (.seq (.reg [⟨(some 47),(.mv (.t 9)),0,none⟩,⟨(some 8),(.mv (.t 47)),0,none⟩] none) .ret))))))
def Rx:List IRes:=[(.tmp 8)]
abbrev b2y:Nat:=48
def LZ:ZG:=Xo [(123,.pure (preT (fun x:List UInt8×Unit=>decide (x.1.length<=9000000))) (Zo (fun x:List UInt8×Unit=>w3 (ZX x.1)))),(124,.own Wl Q7)]
theorem c0q{G:AV×List AObj×List AObj->Prop}(x:List UInt8)(err:Int)(lo hi e:Int)(h:if (err != 0)=true then G (((.pv (.int .i64 0)),([(.box [(.pv (.sl 1 false (List.map enc x))),(.pv (.int .i64 err))])],[])))else((Go.Pl.preT (fun(x:List UInt8×Unit)=>decide (List.length x.1<=9000000)) [(.sl 1 false (List.map enc x))])=true∧(∃ y0:R3 Int (List UInt8) Bool,AV.pv (Zo (fun(x:List UInt8×Unit)=>w3 (ZX x.1)) [(.sl 1 false (List.map enc x))])=AV.pv (enc y0)∧(if (!R3.c y0)=true then(Wl [(.ptr 0 0),(.pv (.int .i64 4))] [(.box [(.pv (.sl 1 false (List.map enc x))),(.pv (.int .i64 err))])])=true∧(G (((.pv (.int .i64 0)),([(.box [(.pv (.sl 1 false (List.map enc (Za (PV.sl 1 false (List.map enc x)))))),(.pv (.int .i64 (if err=0 then 4 else err)))])],[]))))else(if (decide (R3.a y0<lo))=true then(Wl [(.ptr 0 0),(.pv (.int .i64 e))] [(.box [(.pv (.sl 1 false (List.map enc x))),(.pv (.int .i64 err))])])=true∧(G (((.pv (.int .i64 0)),([(.box [(.pv (.sl 1 false (List.map enc (Za (PV.sl 1 false (List.map enc x)))))),(.pv (.int .i64 (if err=0 then e else err)))])],[]))))else(if (decide (R3.a y0>hi))=true then(Wl [(.ptr 0 0),(.pv (.int .i64 e))] [(.box [(.pv (.sl 1 false (List.map enc x))),(.pv (.int .i64 err))])])=true∧(G (((.pv (.int .i64 0)),([(.box [(.pv (.sl 1 false (List.map enc (Za (PV.sl 1 false (List.map enc x)))))),(.pv (.int .i64 (if err=0 then e else err)))])],[]))))else(G (((.pv (.int .i64 (R3.a y0))),([(.box [(.pv (.sl 1 false (List.map enc (R3.b y0)))),(.pv (.int .i64 err))])],[])))))))))):Ze LZ 1 (Zk 1 Rx G) Pp [] (ZK 48 [.ptr 0 0,.pv (.int .i64 lo),.pv (.int .i64 hi),.pv (.int .i64 e)] [.box [.pv (.sl 1 false (x.map enc)),.pv (.int .i64 err)]]):=Ze.to (.lit (.ask (.nil) (.req (.abs (R3 Int (List UInt8) Bool) (fun YY=>AV.pv (enc YY)) (.ask (.req (.keep (.nil))) (.lit (.ask (.lit (.lit (.lit (.lit (.req (.keep (.nil))))))) (.lit (.lit (.lit (.lit (.ask (.req (.keep (.nil))) (.nil))))))))))))) h (by kernel_rfl)
def Au:IC:=(.seq (.reg [⟨(some 4),(.mv (.c (.int .i64 0))),0,none⟩] none) (.seq (.reg [⟨(some 5),(.mv (.t 0)),0,none⟩,⟨(some 6),(.load false [(.int .i64)] (.t 1)),0,none⟩,⟨(some 7),(.load false [(.int .i64)] (.t 2)),0,none⟩,⟨(some 8),(.call (.c (.fn 84)) [(.t 5),(.t 6),(.t 7),(.c (.int .i64 2))]),0,none⟩,⟨(some 4),(.mv (.t 8)),2,none⟩] none) .ret))
def AL:List IRes:=[(.tmp 4)]
abbrev b0c:Nat:=9
def TQ:ZG:=Xo [(84,.own XJ Vv)]
theorem b5b{G:AV×List AObj×List AObj->Prop}(x:List UInt8)(err:Int)(lo hi:Int)(h:(XJ [(.ptr 0 0),(.pv (.int .i64 lo)),(.pv (.int .i64 hi)),(.pv (.int .i64 2))] [(.box [(.pv (.sl 1 false (List.map enc x))),(.pv (.int .i64 err))])])=true∧(G (((.pv (.int .i64 (Prod.fst (Zf lo hi 2 (Za (PV.sl 1 false (List.map enc x))) err)))),([(.box [(.pv (.sl 1 false (List.map enc (Prod.fst (Prod.snd (Zf lo hi 2 (Za (PV.sl 1 false (List.map enc x))) err)))))),(.pv (.int .i64 (Prod.snd (Prod.snd (Zf lo hi 2 (Za (PV.sl 1 false (List.map enc x))) err)))))]),(.box [(.pv (.int .i64 lo))]),(.box [(.pv (.int .i64 hi))])],[]))))):Ze TQ 3 (Zk 3 AL G) Au [] (ZK 9 [.ptr 0 0,.ptr 1 0,.ptr 2 0] [.box [.pv (.sl 1 false (x.map enc)),.pv (.int .i64 err)],.box [.pv (.int .i64 lo)],.box [.pv (.int .i64 hi)]]):=Ze.to (.req (.keep (.nil))) h (by kernel_rfl)
def Bq:IC:=(.seq (.reg [⟨(some 4),(.mv (.c (.int .i64 0))),0,none⟩] none) (.seq (.reg [⟨(some 5),(.mv (.c (.int .i64 0))),0,none⟩] none) (.seq (.seq (.reg [⟨(some 8),(.mv (.t 0)),0,none⟩,⟨(some 9),(.bin .ptr .eql (.t 8) (.c .nilp)),0,none⟩,⟨(some 10),(.mv (.t 9)),0,none⟩,⟨(some 11),(.mv (.t 0)),0,(some (10,false))⟩,⟨(some 12),(.nilchk (.t 11)),0,(some (10,false))⟩,⟨(some 13),(.faddr 1 (.t 12)),0,(some (10,false))⟩,⟨(some 14),(.load false [(.int .i64)] (.t 13)),0,(some (10,false))⟩,⟨(some 15),(.bin .num .neq (.t 14) (.c (.int .i64 0))),0,(some (10,false))⟩,⟨(some 16),(.pick (.t 10) (.c (.bool true)) (.t 15)),0,none⟩] none) (.cond (.t 16) (.seq (.reg [⟨(some 17),(.mv (.t 5)),0,none⟩,⟨(some 4),(.mv (.t 17)),0,none⟩] none) .ret) .skip)) (.seq (.reg [⟨(some 18),(.mv (.t 0)),0,none⟩,⟨(some 19),(.nilchk (.t 18)),0,none⟩,⟨(some 20),(.faddr 0 (.t 19)),0,none⟩,⟨(some 21),(.load false [(.sl 1)] (.t 20)),0,none⟩,⟨(some 22),(.build [(.sl 0 true []),(.int .i64 0)] [(0,(1,(.t 21)))]),0,none⟩,⟨(some 6),(.alloc (.agg [(.sl 0 true []),(.int .i64 0)])),0,none⟩,⟨none,(.store 2 (.t 6) (.t 22)),1,none⟩] none) (.seq (.reg [⟨(some 23),(.mv (.t 1)),0,none⟩,⟨(some 24),(.call (.t 23) [(.t 6)]),0,none⟩,⟨(some 7),(.mv (.t 24)),2,none⟩] none) (.seq (.seq (.reg [⟨(some 25),(.faddr 1 (.t 6)),0,none⟩,⟨(some 26),(.load false [(.int .i64)] (.t 25)),0,none⟩,⟨(some 27),(.bin .num .neq (.t 26) (.c (.int .i64 0))),0,none⟩] none) (.cond (.t 27) (.seq (.reg [⟨(some 28),(.mv (.t 0)),0,none⟩,⟨(some 29),(.faddr 1 (.t 6)),0,none⟩,⟨(some 30),(.load false [(.int .i64)] (.t 29)),0,none⟩,⟨(some 31),(.nilchk (.t 28)),0,none⟩,⟨(some 32),(.faddr 1 (.t 31)),0,none⟩,⟨none,(.store 1 (.t 32) (.t 30)),0,none⟩] none) (.seq (.reg [⟨(some 33),(.mv (.t 5)),0,none⟩,⟨(some 4),(.mv (.t 33)),0,none⟩] none) .ret)) .skip)) (.seq (.reg [⟨(some 34),(.mv (.t 0)),0,none⟩,⟨(some 35),(.faddr 0 (.t 6)),0,none⟩,⟨(some 36),(.load false [(.sl 1)] (.t 35)),0,none⟩,⟨(some 37),(.nilchk (.t 34)),0,none⟩,⟨(some 38),(.faddr 0 (.t 37)),0,none⟩,⟨none,(.store 1 (.t 38) (.t 36)),0,none⟩] none) (.seq (.reg [⟨(some 39),(.mv (.t 7)),0,none⟩,⟨(some 4),(.mv (.t 39)),0,none⟩] none) .ret))))))))
def Bt:List IRes:=[(.tmp 4)]
abbrev a7i:Nat:=40
def TC:ZG:=Xo [(83,.own Ka Uo)]
theorem b3b{G:AV×List AObj×List AObj->Prop}(x:List UInt8)(err:Int)(lo hi:Int)(h:if (err != 0)=true then G (((.pv (.int .i64 0)),([(.box [(.pv (.sl 1 false (List.map enc x))),(.pv (.int .i64 err))]),(.box [(.pv (.int .i64 lo))]),(.box [(.pv (.int .i64 hi))])],[])))else((Ka [(.ptr 0 0),(.ptr 1 0),(.ptr 2 0)] [(.box [(.pv (.sl 1 false (List.map enc x))),(.pv (.int .i64 0))]),(.box [(.pv (.int .i64 lo))]),(.box [(.pv (.int .i64 hi))])])=true∧(if (Prod.snd (Prod.snd (Zf lo hi 2 (Za (PV.sl 1 false (List.map enc x))) 0)) != 0)=true then G (((.pv (.int .i64 0)),([(.box [(.pv (.sl 1 false (List.map enc x))),(.pv (.int .i64 (Prod.snd (Prod.snd (Zf lo hi 2 (Za (PV.sl 1 false (List.map enc x))) 0)))))]),(.box [(.pv (.int .i64 lo))]),(.box [(.pv (.int .i64 hi))])],[])))else(G (((.pv (.int .i64 (Prod.fst (Zf lo hi 2 (Za (PV.sl 1 false (List.map enc x))) 0)))),([(.box [(.pv (.sl 1 false (List.map enc (Prod.fst (Prod.snd (Zf lo hi 2 (Za (PV.sl 1 false (List.map enc x))) 0)))))),(.pv (.int .i64 err))]),(.box [(.pv (.int .i64 lo))]),(.box [(.pv (.int .i64 hi))])],[]))))))):Ze TC 3 (Zk 3 Bt G) Bq [] (ZK 40 [.ptr 0 0,.fn 83 [] [.ptr 1 0,.ptr 2 0]] [.box [.pv (.sl 1 false (x.map enc)),.pv (.int .i64 err)],.box [.pv (.int .i64 lo)],.box [.pv (.int .i64 hi)]]):=Ze.to (.lit (.lit (.lit (.lit (.lit (.lit (.lit (.lit (.ask (.nil) (.req (.keep (.lit (.ask (.nil) (.nil)))))))))))))) h (by kernel_rfl)
def BL:IC:=(.seq (.reg [⟨(some 4),(.box 1 (.t 1)),0,none⟩,⟨(some 5),(.box 1 (.t 2)),1,none⟩,⟨(some 6),(.mv (.c (.int .i64 0))),2,none⟩] none) (.seq (.reg [⟨(some 7),(.mv (.t 0)),0,none⟩,⟨(some 8),(.mkfn 83 [] [(.t 4),(.t 5)]),0,none⟩,⟨(some 9),(.call (.c (.fn 82)) [(.t 7),(.t 8)]),0,none⟩,⟨(some 6),(.mv (.t 9)),2,none⟩] none) .ret))
def Ba:List IRes:=[(.tmp 6)]
abbrev b1t:Nat:=10
def R4:ZG:=Xo [(82,.own (QU 83) Uo)]
theorem b6m{G:AV×List AObj×List AObj->Prop}(x:List UInt8)(err:Int)(lo hi:Int)(h:(QU 83 [(.ptr 0 0),(.fn 83 [] [(.ptr 1 0),(.ptr 2 0)])] [(.box [(.pv (.sl 1 false (List.map enc x))),(.pv (.int .i64 err))]),(.box [(.pv (.int .i64 lo))]),(.box [(.pv (.int .i64 hi))])])=true∧(G (((.pv (.int .i64 (Prod.fst (Zf lo hi 2 (Za (PV.sl 1 false (List.map enc x))) err)))),([(.box [(.pv (.sl 1 false (List.map enc (Prod.fst (Prod.snd (Zf lo hi 2 (Za (PV.sl 1 false (List.map enc x))) err)))))),(.pv (.int .i64 (Prod.snd (Prod.snd (Zf lo hi 2 (Za (PV.sl 1 false (List.map enc x))) err)))))])],[]))))):Ze R4 1 (Zk 1 Ba G) BL [] (ZK 10 [.ptr 0 0,.pv (.int .i64 lo),.pv (.int .i64 hi)] [.box [.pv (.sl 1 false (x.map enc)),.pv (.int .i64 err)]]):=Ze.to (.req (.keep (.nil))) h (by kernel_rfl)
def Ab:IC:=(.seq (.reg [⟨(some 4),(.mv (.c (.str []))),0,none⟩] none) (.seq (.reg [⟨(some 7),(.mv (.t 0)),0,none⟩,⟨(some 8),(.mv (.t 1)),0,none⟩,⟨(some 9),(.call (.c (.fn 84)) [(.t 7),(.c (.int .i64 0)),(.t 8),(.c (.int .i64 3))]),0,none⟩,⟨(some 5),(.mv (.t 9)),2,none⟩] none) (.seq (.seq (.reg [⟨(some 10),(.mv (.t 0)),0,none⟩,⟨(some 11),(.nilchk (.t 10)),0,none⟩,⟨(some 12),(.faddr 1 (.t 11)),0,none⟩,⟨(some 13),(.load false [(.int .i64)] (.t 12)),0,none⟩,⟨(some 14),(.bin .num .neq (.t 13) (.c (.int .i64 0))),0,none⟩] none) (.cond (.t 14) (.seq (.reg [⟨(some 4),(.mv (.c (.str []))),0,none⟩] none) .ret) .skip)) (.seq (.seq (.reg [⟨(some 15),(.mv (.t 5)),0,none⟩,⟨(some 16),(.mv (.t 0)),0,none⟩,⟨(some 17),(.nilchk (.t 16)),0,none⟩,⟨(some 18),(.faddr 0 (.t 17)),0,none⟩,⟨(some 19),(.load false [(.sl 1)] (.t 18)),0,none⟩,⟨(some 20),(.len 1 (.t 19)),0,none⟩,⟨(some 21),(.bin .num .gtr (.t 15) (.t 20)),0,none⟩] none) (.cond (.t 21) (.seq (.reg [⟨(some 22),(.mv (.t 0)),0,none⟩,⟨(some 23),(.call (.c (.fn 124)) [(.t 22),(.c (.int .i64 4))]),0,none⟩] none) (.seq (.reg [⟨(some 4),(.mv (.c (.str []))),0,none⟩] none) .ret)) .skip)) (.seq (.reg [⟨(some 24),(.mv (.t 0)),0,none⟩,⟨(some 25),(.nilchk (.t 24)),0,none⟩,⟨(some 26),(.faddr 0 (.t 25)),0,none⟩,⟨(some 27),(.load false [(.sl 1)] (.t 26)),0,none⟩,⟨(some 28),(.mv (.t 5)),0,none⟩,⟨(some 29),(.slc 1 (.t 27) none (some (.t 28)) none),0,none⟩,⟨(some 30),(.bstr (.t 29)),0,none⟩,⟨(some 6),(.mv (.t 30)),0,none⟩] none) (.seq (.reg [⟨(some 31),(.mv (.t 0)),0,none⟩,⟨(some 32),(.mv (.t 0)),0,none⟩,⟨(some 33),(.nilchk (.t 32)),0,none⟩,⟨(some 34),(.faddr 0 (.t 33)),0,none⟩,⟨(some 35),(.load false [(.sl 1)] (.t 34)),0,none⟩,⟨(some 36),(.mv (.t 5)),0,none⟩,⟨(some 37),(.slc 1 (.t 35) (some (.t 36)) none none),0,none⟩,⟨(some 38),(.nilchk (.t 31)),0,none⟩,⟨(some 39),(.faddr 0 (.t 38)),0,none⟩,⟨none,(.store 1 (.t 39) (.t 37)),0,none⟩] none) (.seq (.reg [⟨(some 40),(.mv (.t 6)),0,none⟩,⟨(some 4),(.mv (.t 40)),0,none⟩] none) .ret)))))))
def BD:List IRes:=[(.tmp 4)]
abbrev a9r:Nat:=41
def TH:ZG:=Xo [(84,.own XJ Vv),(124,.own Wl Q7)]
theorem b2q{G:AV×List AObj×List AObj->Prop}(x:List UInt8)(err:Int)(most:Int)(h:(XJ [(.ptr 0 0),(.pv (.int .i64 0)),(.pv (.int .i64 most)),(.pv (.int .i64 3))] [(.box [(.pv (.sl 1 false (List.map enc x))),(.pv (.int .i64 err))])])=true∧(if (Prod.snd (Prod.snd (Zf 0 most 3 (Za (PV.sl 1 false (List.map enc x))) err)) != 0)=true then G (((.pv (.str [])),([(.box [(.pv (.sl 1 false (List.map enc (Prod.fst (Prod.snd (Zf 0 most 3 (Za (PV.sl 1 false (List.map enc x))) err)))))),(.pv (.int .i64 (Prod.snd (Prod.snd (Zf 0 most 3 (Za (PV.sl 1 false (List.map enc x))) err)))))])],[])))else(if (decide (Prod.fst (Zf 0 most 3 (Za (PV.sl 1 false (List.map enc x))) err)>(↑(List.length (List.map enc (Prod.fst (Prod.snd (Zf 0 most 3 (Za (PV.sl 1 false (List.map enc x))) err))))):Int)))=true then(Wl [(.ptr 0 0),(.pv (.int .i64 4))] [(.box [(.pv (.sl 1 false (List.map enc (Prod.fst (Prod.snd (Zf 0 most 3 (Za (PV.sl 1 false (List.map enc x))) err)))))),(.pv (.int .i64 (Prod.snd (Prod.snd (Zf 0 most 3 (Za (PV.sl 1 false (List.map enc x))) err)))))])])=true∧(G (((.pv (.str [])),([(.box [(.pv (.sl 1 false (List.map enc (Za (PV.sl 1 false (List.map enc (Prod.fst (Prod.snd (Zf 0 most 3 (Za (PV.sl 1 false (List.map enc x))) err))))))))),(.pv (.int .i64 (if Prod.snd (Prod.snd (Zf 0 most 3 (Za (PV.sl 1 false (List.map enc x))) err))=0 then 4 else Prod.snd (Prod.snd (Zf 0 most 3 (Za (PV.sl 1 false (List.map enc x))) err)))))])],[]))))else((true&&decide (0<=Prod.fst (Zf 0 most 3 (Za (PV.sl 1 false (List.map enc x))) err))&&(List.isEmpty (List.map enc (Prod.fst (Prod.snd (Zf 0 most 3 (Za (PV.sl 1 false (List.map enc x))) err))))||1==1)&&decide (0<=Int.toNat (Prod.fst (Zf 0 most 3 (Za (PV.sl 1 false (List.map enc x))) err)))&&decide (Int.toNat (Prod.fst (Zf 0 most 3 (Za (PV.sl 1 false (List.map enc x))) err))<=List.length (List.map enc (Prod.fst (Prod.snd (Zf 0 most 3 (Za (PV.sl 1 false (List.map enc x))) err))))))=true∧((List.all (List.drop 0 (List.take (Int.toNat (Prod.fst (Zf 0 most 3 (Za (PV.sl 1 false (List.map enc x))) err))) (List.map enc (Prod.fst (Prod.snd (Zf 0 most 3 (Za (PV.sl 1 false (List.map enc x))) err)))))) DC&&(List.isEmpty (List.drop 0 (List.take (Int.toNat (Prod.fst (Zf 0 most 3 (Za (PV.sl 1 false (List.map enc x))) err))) (List.map enc (Prod.fst (Prod.snd (Zf 0 most 3 (Za (PV.sl 1 false (List.map enc x))) err))))))||1==1))=true∧((decide (0<=Prod.fst (Zf 0 most 3 (Za (PV.sl 1 false (List.map enc x))) err))&&true&&(List.isEmpty (List.map enc (Prod.fst (Prod.snd (Zf 0 most 3 (Za (PV.sl 1 false (List.map enc x))) err))))||1==1)&&decide (Int.toNat (Prod.fst (Zf 0 most 3 (Za (PV.sl 1 false (List.map enc x))) err))<=List.length (List.map enc (Prod.fst (Prod.snd (Zf 0 most 3 (Za (PV.sl 1 false (List.map enc x))) err)))))&&decide (List.length (List.map enc (Prod.fst (Prod.snd (Zf 0 most 3 (Za (PV.sl 1 false (List.map enc x))) err))))<=List.length (List.map enc (Prod.fst (Prod.snd (Zf 0 most 3 (Za (PV.sl 1 false (List.map enc x))) err))))))=true∧(G (((.pv (.str (YU (List.drop 0 (List.take (Int.toNat (Prod.fst (Zf 0 most 3 (Za (PV.sl 1 false (List.map enc x))) err))) (List.map enc (Prod.fst (Prod.snd (Zf 0 most 3 (Za (PV.sl 1 false (List.map enc x))) err))))))))),([(.box [(.pv (.sl 1 false (List.drop (Int.toNat (Prod.fst (Zf 0 most 3 (Za (PV.sl 1 false (List.map enc x))) err))) (List.take (List.length (List.map enc (Prod.fst (Prod.snd (Zf 0 most 3 (Za (PV.sl 1 false (List.map enc x))) err))))) (List.map enc (Prod.fst (Prod.snd (Zf 0 most 3 (Za (PV.sl 1 false (List.map enc x))) err)))))))),(.pv (.int .i64 (Prod.snd (Prod.snd (Zf 0 most 3 (Za (PV.sl 1 false (List.map enc x))) err)))))])],[])))))))))):Ze TH 1 (Zk 1 BD G) Ab [] (ZK 41 [.ptr 0 0,.pv (.int .i64 most)] [.box [.pv (.sl 1 false (x.map enc)),.pv (.int .i64 err)]]):=Ze.to (.req (.keep (.lit (.ask (.nil) (.lit (.ask (.req (.keep (.nil))) (.req (.req (.req (.nil)))))))))) h (by kernel_rfl)
def CO:IC:=(.seq (.reg [⟨(some 3),(.mv (.c (.str []))),0,none⟩] none) (.seq (.reg [⟨(some 4),(.mv (.t 0)),0,none⟩,⟨(some 5),(.load false [(.int .i64)] (.t 1)),0,none⟩,⟨(some 6),(.call (.c (.fn 87)) [(.t 4),(.t 5)]),0,none⟩,⟨(some 3),(.mv (.t 6)),2,none⟩] none) .ret))
def Br:List IRes:=[(.tmp 3)]
abbrev b0m:Nat:=7
def TL:ZG:=Xo [(87,.own Yi JY)]
theorem b6o{G:AV×List AObj×List AObj->Prop}(x:List UInt8)(err:Int)(most:Int)(h:(Yi [(.ptr 0 0),(.pv (.int .i64 most))] [(.box [(.pv (.sl 1 false (List.map enc x))),(.pv (.int .i64 err))])])=true∧(G (((.pv (.str (Prod.fst (Wd most (Za (PV.sl 1 false (List.map enc x))) err)))),([(.box [(.pv (.sl 1 false (List.map enc (Prod.fst (Prod.snd (Wd most (Za (PV.sl 1 false (List.map enc x))) err)))))),(.pv (.int .i64 (Prod.snd (Prod.snd (Wd most (Za (PV.sl 1 false (List.map enc x))) err)))))]),(.box [(.pv (.int .i64 most))])],[]))))):Ze TL 2 (Zk 2 Br G) CO [] (ZK 7 [.ptr 0 0,.ptr 1 0] [.box [.pv (.sl 1 false (x.map enc)),.pv (.int .i64 err)],.box [.pv (.int .i64 most)]]):=Ze.to (.req (.keep (.nil))) h (by kernel_rfl)
def BX:IC:=(.seq (.reg [⟨(some 4),(.mv (.c (.str []))),0,none⟩] none) (.seq (.reg [⟨(some 5),(.mv (.c (.str []))),0,none⟩] none) (.seq (.seq (.reg [⟨(some 8),(.mv (.t 0)),0,none⟩,⟨(some 9),(.bin .ptr .eql (.t 8) (.c .nilp)),0,none⟩,⟨(some 10),(.mv (.t 9)),0,none⟩,⟨(some 11),(.mv (.t 0)),0,(some (10,false))⟩,⟨(some 12),(.nilchk (.t 11)),0,(some (10,false))⟩,⟨(some 13),(.faddr 1 (.t 12)),0,(some (10,false))⟩,⟨(some 14),(.load false [(.int .i64)] (.t 13)),0,(some (10,false))⟩,⟨(some 15),(.bin .num .neq (.t 14) (.c (.int .i64 0))),0,(some (10,false))⟩,⟨(some 16),(.pick (.t 10) (.c (.bool true)) (.t 15)),0,none⟩] none) (.cond (.t 16) (.seq (.reg [⟨(some 17),(.mv (.t 5)),0,none⟩,⟨(some 4),(.mv (.t 17)),0,none⟩] none) .ret) .skip)) (.seq (.reg [⟨(some 18),(.mv (.t 0)),0,none⟩,⟨(some 19),(.nilchk (.t 18)),0,none⟩,⟨(some 20),(.faddr 0 (.t 19)),0,none⟩,⟨(some 21),(.load false [(.sl 1)] (.t 20)),0,none⟩,⟨(some 22),(.build [(.sl 0 true []),(.int .i64 0)] [(0,(1,(.t 21)))]),0,none⟩,⟨(some 6),(.alloc (.agg [(.sl 0 true []),(.int .i64 0)])),0,none⟩,⟨none,(.store 2 (.t 6) (.t 22)),1,none⟩] none) (.seq (.reg [⟨(some 23),(.mv (.t 1)),0,none⟩,⟨(some 24),(.call (.t 23) [(.t 6)]),0,none⟩,⟨(some 7),(.mv (.t 24)),2,none⟩] none) (.seq (.seq (.reg [⟨(some 25),(.faddr 1 (.t 6)),0,none⟩,⟨(some 26),(.load false [(.int .i64)] (.t 25)),0,none⟩,⟨(some 27),(.bin .num .neq (.t 26) (.c (.int .i64 0))),0,none⟩] none) (.cond (.t 27) (.seq (.reg [⟨(some 28),(.mv (.t 0)),0,none⟩,⟨(some 29),(.faddr 1 (.t 6)),0,none⟩,⟨(some 30),(.load false [(.int .i64)] (.t 29)),0,none⟩,⟨(some 31),(.nilchk (.t 28)),0,none⟩,⟨(some 32),(.faddr 1 (.t 31)),0,none⟩,⟨none,(.store 1 (.t 32) (.t 30)),0,none⟩] none) (.seq (.reg [⟨(some 33),(.mv (.t 5)),0,none⟩,⟨(some 4),(.mv (.t 33)),0,none⟩] none) .ret)) .skip)) (.seq (.reg [⟨(some 34),(.mv (.t 0)),0,none⟩,⟨(some 35),(.faddr 0 (.t 6)),0,none⟩,⟨(some 36),(.load false [(.sl 1)] (.t 35)),0,none⟩,⟨(some 37),(.nilchk (.t 34)),0,none⟩,⟨(some 38),(.faddr 0 (.t 37)),0,none⟩,⟨none,(.store 1 (.t 38) (.t 36)),0,none⟩] none) (.seq (.reg [⟨(some 39),(.mv (.t 7)),0,none⟩,⟨(some 4),(.mv (.t 39)),0,none⟩] none) .ret))))))))
def Bd:List IRes:=[(.tmp 4)]
abbrev a6m:Nat:=40
def RY:ZG:=Xo [(86,.own Q4 Cy)]
theorem b3r{G:AV×List AObj×List AObj->Prop}(x:List UInt8)(err:Int)(most:Int)(h:if (err != 0)=true then G (((.pv (.str [])),([(.box [(.pv (.sl 1 false (List.map enc x))),(.pv (.int .i64 err))]),(.box [(.pv (.int .i64 most))])],[])))else((Q4 [(.ptr 0 0),(.ptr 1 0)] [(.box [(.pv (.sl 1 false (List.map enc x))),(.pv (.int .i64 0))]),(.box [(.pv (.int .i64 most))])])=true∧(if (Prod.snd (Prod.snd (Wd most (Za (PV.sl 1 false (List.map enc x))) 0)) != 0)=true then G (((.pv (.str [])),([(.box [(.pv (.sl 1 false (List.map enc x))),(.pv (.int .i64 (Prod.snd (Prod.snd (Wd most (Za (PV.sl 1 false (List.map enc x))) 0)))))]),(.box [(.pv (.int .i64 most))])],[])))else(G (((.pv (.str (Prod.fst (Wd most (Za (PV.sl 1 false (List.map enc x))) 0)))),([(.box [(.pv (.sl 1 false (List.map enc (Prod.fst (Prod.snd (Wd most (Za (PV.sl 1 false (List.map enc x))) 0)))))),(.pv (.int .i64 err))]),(.box [(.pv (.int .i64 most))])],[]))))))):Ze RY 2 (Zk 2 Bd G) BX [] (ZK 40 [.ptr 0 0,.fn 86 [] [.ptr 1 0]] [.box [.pv (.sl 1 false (x.map enc)),.pv (.int .i64 err)],.box [.pv (.int .i64 most)]]):=Ze.to (.lit (.lit (.lit (.lit (.lit (.lit (.lit (.lit (.ask (.nil) (.req (.keep (.lit (.ask (.nil) (.nil)))))))))))))) h (by kernel_rfl)
def GJ:IC:=(.seq (.reg [⟨(some 3),(.box 1 (.t 1)),0,none⟩,⟨(some 4),(.mv (.c (.str []))),1,none⟩] none) (.seq (.reg [⟨(some 5),(.mv (.t 0)),0,none⟩,⟨(some 6),(.mkfn 86 [] [(.t 3)]),0,none⟩,⟨(some 7),(.call (.c (.fn 85)) [(.t 5),(.t 6)]),0,none⟩,⟨(some 4),(.mv (.t 7)),2,none⟩] none) .ret))
def G5:List IRes:=[(.tmp 4)]
abbrev Ex:Nat:=8
def BV:ZG:=Xo [(85,.own (Q5 86) Ju)]
theorem b1v{G:AV×List AObj×List AObj->Prop}(x:List UInt8)(err:Int)(most:Int)(h:(Q5 86 [(.ptr 0 0),(.fn 86 [] [(.ptr 1 0)])] [(.box [(.pv (.sl 1 false (List.map enc x))),(.pv (.int .i64 err))]),(.box [(.pv (.int .i64 most))])])=true∧(G (((.pv (.str (Prod.fst (Zi most (Za (PV.sl 1 false (List.map enc x))) err)))),([(.box [(.pv (.sl 1 false (List.map enc (Prod.fst (Prod.snd (Zi most (Za (PV.sl 1 false (List.map enc x))) err)))))),(.pv (.int .i64 (Prod.snd (Prod.snd (Zi most (Za (PV.sl 1 false (List.map enc x))) err)))))])],[]))))):Ze BV 1 (Zk 1 G5 G) GJ [] (ZK 8 [.ptr 0 0,.pv (.int .i64 most)] [.box [.pv (.sl 1 false (x.map enc)),.pv (.int .i64 err)]]):=Ze.to (.req (.keep (.nil))) h (by kernel_rfl)
end Go.Pl

namespace Go.Pl
open Go.RowKit
open Enc (enc dec is)
open EncL (encL decL isL)
set_option maxRecDepth 100000
def CS:IC:=(.seq (.reg [⟨(some 2),(.mv (.c (.int .u8 0))),0,none⟩] none) (.seq (.reg [⟨(some 3),(.mv (.t 0)),0,none⟩,⟨(some 2),(.mv (.t 3)),0,none⟩] none) .ret))
def Ao:List IRes:=[(.tmp 2)]
abbrev a3u:Nat:=4
def Rn:ZG:=Xo []
theorem b3f{G:PV->Prop}(c:UInt8)(h:G ((.int IntKind.u8 (↑(UInt8.toNat c):Int)))):Ze Rn 0 (Zg Ao G) CS [] (Y2 4 [enc c]):=Ze.tp (.nil) h (by kernel_rfl)
def Ct:IC:=(.seq (.reg [⟨(some 2),(.mv (.c (.int .u8 0))),0,none⟩] none) (.seq (.reg [⟨(some 3),(.mv (.t 0)),0,none⟩,⟨(some 4),(.bin .num .sub (.c (.int .u8 255)) (.t 3)),0,none⟩,⟨(some 2),(.mv (.t 4)),0,none⟩] none) .ret))
def Bp:List IRes:=[(.tmp 2)]
abbrev b2a:Nat:=5
def RH:ZG:=Xo []
theorem b4f{G:PV->Prop}(c:UInt8)(h:G ((.int IntKind.u8 (IntKind.wrap IntKind.u8 (255 - (↑(UInt8.toNat c):Int)))))):Ze RH 0 (Zg Bp G) Ct [] (Y2 5 [enc c]):=Ze.tp (.lit (.nil)) h (by kernel_rfl)
def Qp:IC:=(.seq (.reg [⟨(some 2),(.mv (.c (.int .i64 0))),0,none⟩] none) (.seq (.reg [⟨(some 3),(.mv (.c (.int .i64 1))),0,none⟩] none) (.seq (.block 0 (.loop [3,0] (.seq (.seq (.reg [⟨(some 4),(.mv (.t 3)),0,none⟩,⟨(some 5),(.bin .num .lss (.t 4) (.c (.int .i64 8))),0,none⟩,⟨(some 6),(.mv (.t 5)),0,none⟩,⟨(some 7),(.mv (.t 0)),0,(some (6,true))⟩,⟨(some 8),(.mv (.t 3)),0,(some (6,true))⟩,⟨(some 9),(.bin .num .mul (.c (.int .i64 8)) (.t 8)),0,(some (6,true))⟩,⟨(some 10),(.bin .num .shr (.t 7) (.t 9)),0,(some (6,true))⟩,⟨(some 11),(.bin .num .gtr (.t 10) (.c (.int .u64 0))),0,(some (6,true))⟩,⟨(some 12),(.pick (.t 6) (.t 11) (.c (.bool false))),0,none⟩] none) (.cond (.t 12) .skip (.exit 0))) (.block 1 (.reg [⟨(some 13),(.mv (.t 3)),0,none⟩,⟨(some 14),(.bin .num .add (.t 13) (.c (.int .i64 1))),0,none⟩,⟨(some 3),(.mv (.t 14)),0,none⟩] none))))) (.seq (.reg [⟨(some 15),(.mv (.t 3)),0,none⟩,⟨(some 2),(.mv (.t 15)),0,none⟩] none) .ret))))
def Ql:List IRes:=[(.tmp 2)]
abbrev b6j:Nat:=16
def Jf:ZG:=Xo []
theorem b8k{G:PV->Prop}(m:Int)(h:At Jf 0 (Zg Ql G) Qp 0 16 [(0,(.pv (.int IntKind.u64 m))),(3,(.pv (.int .i64 1)))] []):Ze Jf 0 (Zg Ql G) Qp [] (Y2 16 [.int .u64 m]):=Ze.tp (.nil) h (by kernel_rfl)
theorem OI{G:PV->Prop}(m:Int)(k:Int)(h:if (decide (k<8))=true then(decide (0<=IntKind.wrap IntKind.i64 (8*k)))=true∧(if (decide (Int.fdiv m (2 ^ min (Int.toNat (IntKind.wrap IntKind.i64 (8*k))) (IntKind.bits IntKind.u64))>0))=true then At Jf 0 (Zg Ql G) Qp 0 16 [(0,(.pv (.int IntKind.u64 m))),(3,(.pv (.int .i64 (IntKind.wrap IntKind.i64 (k+1)))))] []else(G ((.int .i64 k))))else(G ((.int .i64 k)))):At Jf 0 (Zg Ql G) Qp 0 16 [(0,.pv (.int .u64 m)),(3,.pv (.int .i64 k))] []:=At.tp (.lit (.ask (.lit (.lit (.lit (.lit (.req (.lit (.lit (.lit (.ask (.lit (.nil)) (.nil)))))))))) (.lit (.lit (.lit (.lit (.lit (.lit (.nil))))))))) h (by kernel_rfl)
def WP:IC:=(.seq (.reg [⟨(some 8),(.mv (.c (.sl 0 true []))),0,none⟩] none) (.seq (.seq (.reg [⟨(some 10),(.mv (.t 2)),0,none⟩,⟨(some 11),(.bin .num .sub (.t 10) (.c (.int .i64 1))),0,none⟩,⟨(some 9),(.mv (.t 11)),0,none⟩] none) (.block 0 (.loop [9,0,3,1] (.seq (.seq (.reg [⟨(some 12),(.mv (.t 9)),0,none⟩,⟨(some 13),(.bin .num .geq (.t 12) (.c (.int .i64 0))),0,none⟩] none) (.cond (.t 13) .skip (.exit 0))) (.seq (.block 1 (.reg [⟨(some 16),(.mv (.t 0)),0,none⟩,⟨(some 17),(.mv (.t 3)),0,none⟩,⟨(some 18),(.mv (.t 1)),0,none⟩,⟨(some 19),(.mv (.t 9)),0,none⟩,⟨(some 20),(.bin .num .mul (.c (.int .i64 8)) (.t 19)),0,none⟩,⟨(some 21),(.bin .num .shr (.t 18) (.t 20)),0,none⟩,⟨(some 22),(.conv .u8 (.t 21)),0,none⟩,⟨(some 23),(.call (.t 17) [(.t 22)]),0,none⟩,⟨(some 24),(.bslice 5 1 1 (.int .u8 0) [(0,(.t 23))]),2,none⟩,⟨(some 25),(.append 5 1 1 (.t 16) (.t 24)),3,none⟩,⟨(some 0),(.mv (.t 25)),4,none⟩] none)) (.reg [⟨(some 14),(.mv (.t 9)),0,none⟩,⟨(some 15),(.bin .num .sub (.t 14) (.c (.int .i64 1))),0,none⟩,⟨(some 9),(.mv (.t 15)),0,none⟩] none)))))) (.seq (.reg [⟨(some 26),(.mv (.t 0)),0,none⟩,⟨(some 8),(.mv (.t 26)),0,none⟩] none) .ret)))
def Vb:List IRes:=[(.tmp 8)]
abbrev b2m:Nat:=27
def Uk:ZG:=Xo [(104,.pure (preT (fun _:UInt8×Unit=>true)) (Zo (fun x:UInt8×Unit=>x.1))),(105,.pure (preT (fun _:UInt8×Unit=>true)) (Zo (fun x:UInt8×Unit=>(255 - x.1:UInt8))))]
theorem c0f{G:AV×List AObj×List AObj->Prop}(x:List UInt8)(q:Nat)(m k:Int)(h:At Uk 1 (Zk 1 Vb G) WP 0 27 [(0,(.row 0 q 0 q)),(1,(.pv (.int IntKind.u64 m))),(3,(.pv (.fn 104))),(9,(.pv (.int .i64 (IntKind.wrap IntKind.i64 (k - 1)))))] [(.obj (.row false 5 1 (List.map enc x)))]):Ze Uk 1 (Zk 1 Vb G) WP [] (ZK 27 [.row 0 q 0 q,.pv (.int .u64 m),.pv (.int .i64 k),.pv (.fn 104)] [.row false 5 1 (x.map enc)]):=Ze.to (.lit (.nil)) h (by kernel_rfl)
theorem Oa{G:AV×List AObj×List AObj->Prop}(x:List UInt8)(q:Nat)(m k:Int)(i:Int)(h:if (decide (i ≥ 0))=true then(decide (0<=IntKind.wrap IntKind.i64 (8*i)))=true∧((Go.Pl.preT (fun(x:UInt8×Unit)=>true) [(.int IntKind.u8 (IntKind.wrap IntKind.u8 (Int.fdiv m (2 ^ min (Int.toNat (IntKind.wrap IntKind.i64 (8*i))) (IntKind.bits IntKind.u64)))))])=true∧(∃ y0:UInt8,AV.pv (Zo (fun(x:UInt8×Unit)=>x.1) [(.int IntKind.u8 (IntKind.wrap IntKind.u8 (Int.fdiv m (2 ^ min (Int.toNat (IntKind.wrap IntKind.i64 (8*i))) (IntKind.bits IntKind.u64)))))])=AV.pv (enc y0)∧((List.length (List.map enc x)==q&&q==q&&decide ((q+List.length (List.drop 0 (List.take 1 [enc y0])))*1<=1099511627776)&&decide (q+List.length (List.drop 0 (List.take 1 [enc y0]))<=1099511627776))=true∧(At Uk 1 (Zk 1 Vb G) WP 0 27 [(0,(.row 0 (q+List.length (List.drop 0 (List.take 1 [enc y0]))) 0 (q+List.length (List.drop 0 (List.take 1 [enc y0]))))),(1,(.pv (.int IntKind.u64 m))),(3,(.pv (.fn 104))),(9,(.pv (.int .i64 (IntKind.wrap IntKind.i64 (i - 1)))))] [(.obj (.row false 5 1 (List.map enc x++List.drop 0 (List.take 1 [enc y0]))))]))))else(G (((.row 0 q 0 q),([(.row false 5 1 (List.map enc x))],[]))))):At Uk 1 (Zk 1 Vb G) WP 0 27 [(0,.row 0 q 0 q),(1,.pv (.int .u64 m)),(3,.pv (.fn 104)),(9,.pv (.int .i64 i))] [.obj (.row false 5 1 (x.map enc))]:=At.to (.lit (.ask (.lit (.req (.req (.abs (UInt8) (fun YY=>AV.pv (enc YY)) (.lit (.lit (.req (.lit (.nil))))))))) (.nil))) h (by kernel_rfl)
theorem b8o{G:AV×List AObj×List AObj->Prop}(x:List UInt8)(q:Nat)(m k:Int)(h:At Uk 1 (Zk 1 Vb G) WP 0 27 [(0,(.row 0 q 0 q)),(1,(.pv (.int IntKind.u64 m))),(3,(.pv (.fn 105))),(9,(.pv (.int .i64 (IntKind.wrap IntKind.i64 (k - 1)))))] [(.obj (.row false 5 1 (List.map enc x)))]):Ze Uk 1 (Zk 1 Vb G) WP [] (ZK 27 [.row 0 q 0 q,.pv (.int .u64 m),.pv (.int .i64 k),.pv (.fn 105)] [.row false 5 1 (x.map enc)]):=Ze.to (.lit (.nil)) h (by kernel_rfl)
theorem O4{G:AV×List AObj×List AObj->Prop}(x:List UInt8)(q:Nat)(m k:Int)(i:Int)(h:if (decide (i ≥ 0))=true then(decide (0<=IntKind.wrap IntKind.i64 (8*i)))=true∧((Go.Pl.preT (fun(x:UInt8×Unit)=>true) [(.int IntKind.u8 (IntKind.wrap IntKind.u8 (Int.fdiv m (2 ^ min (Int.toNat (IntKind.wrap IntKind.i64 (8*i))) (IntKind.bits IntKind.u64)))))])=true∧(∃ y0:UInt8,AV.pv (Zo (fun(x:UInt8×Unit)=>(255:UInt8) - x.1) [(.int IntKind.u8 (IntKind.wrap IntKind.u8 (Int.fdiv m (2 ^ min (Int.toNat (IntKind.wrap IntKind.i64 (8*i))) (IntKind.bits IntKind.u64)))))])=AV.pv (enc y0)∧((List.length (List.map enc x)==q&&q==q&&decide ((q+List.length (List.drop 0 (List.take 1 [enc y0])))*1<=1099511627776)&&decide (q+List.length (List.drop 0 (List.take 1 [enc y0]))<=1099511627776))=true∧(At Uk 1 (Zk 1 Vb G) WP 0 27 [(0,(.row 0 (q+List.length (List.drop 0 (List.take 1 [enc y0]))) 0 (q+List.length (List.drop 0 (List.take 1 [enc y0]))))),(1,(.pv (.int IntKind.u64 m))),(3,(.pv (.fn 105))),(9,(.pv (.int .i64 (IntKind.wrap IntKind.i64 (i - 1)))))] [(.obj (.row false 5 1 (List.map enc x++List.drop 0 (List.take 1 [enc y0]))))]))))else(G (((.row 0 q 0 q),([(.row false 5 1 (List.map enc x))],[]))))):At Uk 1 (Zk 1 Vb G) WP 0 27 [(0,.row 0 q 0 q),(1,.pv (.int .u64 m)),(3,.pv (.fn 105)),(9,.pv (.int .i64 i))] [.obj (.row false 5 1 (x.map enc))]:=At.to (.lit (.ask (.lit (.req (.req (.abs (UInt8) (fun YY=>AV.pv (enc YY)) (.lit (.lit (.req (.lit (.nil))))))))) (.nil))) h (by kernel_rfl)
def RJ:IC:=(.seq (.reg [⟨(some 4),(.mv (.c (.sl 0 true []))),0,none⟩] none) (.seq (.block 0 (.seq (.reg [⟨(some 10),(.mv (.t 1)),0,none⟩,⟨(some 11),(.bin .num .geq (.t 10) (.c (.int .i64 120))),0,none⟩,⟨(some 9),(.mv (.t 11)),0,none⟩] none) (.cond (.t 9) (.seq (.reg [⟨(some 12),(.mv (.t 1)),0,none⟩,⟨(some 13),(.bin .num .sub (.t 12) (.c (.int .i64 120))),0,none⟩,⟨(some 14),(.conv .u64 (.t 13)),0,none⟩,⟨(some 5),(.mv (.t 14)),0,none⟩] none) (.seq (.reg [⟨(some 15),(.mv (.t 5)),0,none⟩,⟨(some 16),(.call (.c (.fn 102)) [(.t 15)]),0,none⟩,⟨(some 6),(.mv (.t 16)),2,none⟩] none) (.seq (.reg [⟨(some 17),(.mv (.t 0)),0,none⟩,⟨(some 18),(.mv (.t 6)),0,none⟩,⟨(some 19),(.bin .num .add (.c (.int .i64 247)) (.t 18)),0,none⟩,⟨(some 20),(.conv .u8 (.t 19)),0,none⟩,⟨(some 21),(.bslice 5 1 1 (.int .u8 0) [(0,(.t 20))]),0,none⟩,⟨(some 22),(.append 5 1 1 (.t 17) (.t 21)),1,none⟩,⟨(some 23),(.mv (.t 5)),2,none⟩,⟨(some 24),(.mv (.t 6)),2,none⟩,⟨(some 25),(.call (.c (.fn 103)) [(.t 22),(.t 23),(.t 24),(.c (.fn 104))]),2,none⟩,⟨(some 4),(.mv (.t 25)),4,none⟩] none) .ret))) (.seq (.reg [⟨(some 27),(.mv (.t 1)),0,none⟩,⟨(some 28),(.bin .num .lss (.t 27) (.c (.int .i64 (-120)))),0,none⟩,⟨(some 26),(.mv (.t 28)),0,none⟩] none) (.cond (.t 26) (.seq (.reg [⟨(some 29),(.mv (.t 1)),0,none⟩,⟨(some 30),(.bin .num .add (.t 29) (.c (.int .i64 121))),0,none⟩,⟨(some 31),(.un .neg (.t 30)),0,none⟩,⟨(some 32),(.conv .u64 (.t 31)),0,none⟩,⟨(some 7),(.mv (.t 32)),0,none⟩] none) (.seq (.reg [⟨(some 33),(.mv (.t 7)),0,none⟩,⟨(some 34),(.call (.c (.fn 102)) [(.t 33)]),0,none⟩,⟨(some 8),(.mv (.t 34)),2,none⟩] none) (.seq (.reg [⟨(some 35),(.mv (.t 0)),0,none⟩,⟨(some 36),(.mv (.t 8)),0,none⟩,⟨(some 37),(.bin .num .sub (.c (.int .i64 8)) (.t 36)),0,none⟩,⟨(some 38),(.conv .u8 (.t 37)),0,none⟩,⟨(some 39),(.bslice 5 1 1 (.int .u8 0) [(0,(.t 38))]),0,none⟩,⟨(some 40),(.append 5 1 1 (.t 35) (.t 39)),1,none⟩,⟨(some 41),(.mv (.t 7)),2,none⟩,⟨(some 42),(.mv (.t 8)),2,none⟩,⟨(some 43),(.call (.c (.fn 103)) [(.t 40),(.t 41),(.t 42),(.c (.fn 105))]),2,none⟩,⟨(some 4),(.mv (.t 43)),4,none⟩] none) .ret))) .skip))))) (.seq (.reg [⟨(some 44),(.mv (.t 0)),0,none⟩,⟨(some 45),(.mv (.t 1)),0,none⟩,⟨(some 46),(.bin .num .add (.t 45) (.c (.int .i64 128))),0,none⟩,⟨(some 47),(.conv .u8 (.t 46)),0,none⟩,⟨(some 48),(.bslice 5 1 1 (.int .u8 0) [(0,(.t 47))]),0,none⟩,⟨(some 49),(.append 5 1 1 (.t 44) (.t 48)),1,none⟩,⟨(some 4),(.mv (.t 49)),2,none⟩] none) .ret)))
def Px:List IRes:=[(.tmp 4)]
abbrev b2z:Nat:=50
def FL:ZG:=Xo [(102,.pure (preT (fun x:U64×Unit=>decide (0<=x.1.n)&&decide (x.1.n<18446744073709551616))) (Zo (fun x:U64×Unit=>(ZI x.1.n.toNat:Int)))),(103,.own (Qz 5 104 105) (Rl 105))]
theorem b8s{G:AV×List AObj×List AObj->Prop}(x:List UInt8)(q:Nat)(n:Int)(h:if (decide (n ≥ 120))=true then(Go.Pl.preT (fun(x:U64×Unit)=>decide (0<=U64.n x.1)&&decide (U64.n x.1<18446744073709551616)) [(.int IntKind.u64 (IntKind.wrap IntKind.u64 (IntKind.wrap IntKind.i64 (n - 120))))])=true∧(∃ y0:Int,AV.pv (Zo (fun(x:U64×Unit)=>(↑(ZI (Int.toNat (U64.n x.1))):Int)) [(.int IntKind.u64 (IntKind.wrap IntKind.u64 (IntKind.wrap IntKind.i64 (n - 120))))])=AV.pv (enc y0)∧((List.length (List.map enc x)==q&&q==q&&decide ((q+List.length (List.drop 0 (List.take 1 [PV.int IntKind.u8 (IntKind.wrap IntKind.u8 (IntKind.wrap IntKind.i64 (247+y0)))])))*1<=1099511627776)&&decide (q+List.length (List.drop 0 (List.take 1 [PV.int IntKind.u8 (IntKind.wrap IntKind.u8 (IntKind.wrap IntKind.i64 (247+y0)))]))<=1099511627776))=true∧((Qz 5 104 105 [(.row 0 (q+List.length (List.drop 0 (List.take 1 [PV.int IntKind.u8 (IntKind.wrap IntKind.u8 (IntKind.wrap IntKind.i64 (247+y0)))]))) 0 (q+List.length (List.drop 0 (List.take 1 [PV.int IntKind.u8 (IntKind.wrap IntKind.u8 (IntKind.wrap IntKind.i64 (247+y0)))])))),(.pv (.int IntKind.u64 (IntKind.wrap IntKind.u64 (IntKind.wrap IntKind.i64 (n - 120))))),(.pv (.int .i64 y0)),(.pv (.fn 104))] [(.row false 5 1 (List.map enc x++List.drop 0 (List.take 1 [PV.int IntKind.u8 (IntKind.wrap IntKind.u8 (IntKind.wrap IntKind.i64 (247+y0)))])))])=true∧(G (((.row 0 (q+List.length (List.drop 0 (List.take 1 [PV.int IntKind.u8 (IntKind.wrap IntKind.u8 (IntKind.wrap IntKind.i64 (247+y0)))]))+Int.toNat y0) 0 (q+List.length (List.drop 0 (List.take 1 [PV.int IntKind.u8 (IntKind.wrap IntKind.u8 (IntKind.wrap IntKind.i64 (247+y0)))]))+Int.toNat y0)),([(.row false 5 1 (List.map enc x++List.drop 0 (List.take 1 [PV.int IntKind.u8 (IntKind.wrap IntKind.u8 (IntKind.wrap IntKind.i64 (247+y0)))])++List.map enc (YO (104==105) (Int.toNat (IntKind.wrap IntKind.u64 (IntKind.wrap IntKind.i64 (n - 120)))) (Int.toNat y0))))],[])))))))else(if (decide (n<(-120:Int)))=true then(Go.Pl.preT (fun(x:U64×Unit)=>decide (0<=U64.n x.1)&&decide (U64.n x.1<18446744073709551616)) [(.int IntKind.u64 (IntKind.wrap IntKind.u64 (IntKind.wrap IntKind.i64 (-IntKind.wrap IntKind.i64 (n+121)))))])=true∧(∃ y1:Int,AV.pv (Zo (fun(x:U64×Unit)=>(↑(ZI (Int.toNat (U64.n x.1))):Int)) [(.int IntKind.u64 (IntKind.wrap IntKind.u64 (IntKind.wrap IntKind.i64 (-IntKind.wrap IntKind.i64 (n+121)))))])=AV.pv (enc y1)∧((List.length (List.map enc x)==q&&q==q&&decide ((q+List.length (List.drop 0 (List.take 1 [PV.int IntKind.u8 (IntKind.wrap IntKind.u8 (IntKind.wrap IntKind.i64 (8 - y1)))])))*1<=1099511627776)&&decide (q+List.length (List.drop 0 (List.take 1 [PV.int IntKind.u8 (IntKind.wrap IntKind.u8 (IntKind.wrap IntKind.i64 (8 - y1)))]))<=1099511627776))=true∧((Qz 5 104 105 [(.row 0 (q+List.length (List.drop 0 (List.take 1 [PV.int IntKind.u8 (IntKind.wrap IntKind.u8 (IntKind.wrap IntKind.i64 (8 - y1)))]))) 0 (q+List.length (List.drop 0 (List.take 1 [PV.int IntKind.u8 (IntKind.wrap IntKind.u8 (IntKind.wrap IntKind.i64 (8 - y1)))])))),(.pv (.int IntKind.u64 (IntKind.wrap IntKind.u64 (IntKind.wrap IntKind.i64 (-IntKind.wrap IntKind.i64 (n+121)))))),(.pv (.int .i64 y1)),(.pv (.fn 105))] [(.row false 5 1 (List.map enc x++List.drop 0 (List.take 1 [PV.int IntKind.u8 (IntKind.wrap IntKind.u8 (IntKind.wrap IntKind.i64 (8 - y1)))])))])=true∧(G (((.row 0 (q+List.length (List.drop 0 (List.take 1 [PV.int IntKind.u8 (IntKind.wrap IntKind.u8 (IntKind.wrap IntKind.i64 (8 - y1)))]))+Int.toNat y1) 0 (q+List.length (List.drop 0 (List.take 1 [PV.int IntKind.u8 (IntKind.wrap IntKind.u8 (IntKind.wrap IntKind.i64 (8 - y1)))]))+Int.toNat y1)),([(.row false 5 1 (List.map enc x++List.drop 0 (List.take 1 [PV.int IntKind.u8 (IntKind.wrap IntKind.u8 (IntKind.wrap IntKind.i64 (8 - y1)))])++List.map enc (YO (105==105) (Int.toNat (IntKind.wrap IntKind.u64 (IntKind.wrap IntKind.i64 (-IntKind.wrap IntKind.i64 (n+121))))) (Int.toNat y1))))],[])))))))else((List.length (List.map enc x)==q&&q==q&&decide ((q+List.length (List.drop 0 (List.take 1 [PV.int IntKind.u8 (IntKind.wrap IntKind.u8 (IntKind.wrap IntKind.i64 (n+128)))])))*1<=1099511627776)&&decide (q+List.length (List.drop 0 (List.take 1 [PV.int IntKind.u8 (IntKind.wrap IntKind.u8 (IntKind.wrap IntKind.i64 (n+128)))]))<=1099511627776))=true∧(G (((.row 0 (q+List.length (List.drop 0 (List.take 1 [PV.int IntKind.u8 (IntKind.wrap IntKind.u8 (IntKind.wrap IntKind.i64 (n+128)))]))) 0 (q+List.length (List.drop 0 (List.take 1 [PV.int IntKind.u8 (IntKind.wrap IntKind.u8 (IntKind.wrap IntKind.i64 (n+128)))])))),([(.row false 5 1 (List.map enc x++List.drop 0 (List.take 1 [PV.int IntKind.u8 (IntKind.wrap IntKind.u8 (IntKind.wrap IntKind.i64 (n+128)))])))],[]))))))):Ze FL 1 (Zk 1 Px G) RJ [] (ZK 50 [.row 0 q 0 q,.pv (.int .i64 n)] [.row false 5 1 (x.map enc)]):=Ze.to (.lit (.ask (.lit (.req (.abs (Int) (fun YY=>AV.pv (enc YY)) (.lit (.lit (.lit (.req (.req (.keep (.nil)))))))))) (.lit (.ask (.lit (.req (.abs (Int) (fun YY=>AV.pv (enc YY)) (.lit (.lit (.lit (.req (.req (.keep (.nil)))))))))) (.lit (.lit (.lit (.req (.nil))))))))) h (by kernel_rfl)
def RF:IC:=(.seq (.reg [⟨(some 2),(.mv (.c (.sl 0 true []))),0,none⟩] none) (.seq (.reg [⟨(some 3),(.bslice 5 1 0 (.int .u8 0) []),0,none⟩,⟨(some 4),(.mv (.t 0)),1,none⟩,⟨(some 5),(.append 5 1 1 (.t 3) (.t 4)),1,none⟩,⟨(some 2),(.mv (.t 5)),2,none⟩] none) .ret))
def Pw:List IRes:=[(.tmp 2)]
abbrev b6z:Nat:=6
def Lr:ZG:=Xo []
theorem b9r{G:AV×List AObj×List AObj->Prop}(x:List UInt8)(h:(List.isEmpty (List.map enc x)||Enc.sz UInt8==1)=true∧((List.length ([]:List PV)==0&&0==0&&decide ((0+List.length (List.map enc x))*1<=1099511627776)&&decide (0+List.length (List.map enc x)<=1099511627776))=true∧(G (((.row 0 (0+List.length (List.map enc x)) 0 (0+List.length (List.map enc x))),([],[(.row false 5 1 (([]:List PV)++List.map enc x))])))))):Ze Lr 0 (Zk 0 Pw G) RF [] (ZK 6 [.pv (enc x)] []):=Ze.to (.lit (.req (.req (.nil)))) h (by kernel_rfl)
def R7:IC:=(.seq (.reg [⟨(some 4),(.mv (.c (.sl 0 true []))),0,none⟩] none) (.seq (.reg [⟨(some 5),(.mv (.t 0)),0,none⟩,⟨(some 6),(.call (.c (.fn 62)) [(.t 5)]),0,none⟩,⟨(some 7),(.mv (.t 1)),2,none⟩,⟨(some 8),(.call (.c (.fn 61)) [(.t 6),(.t 7)]),2,none⟩,⟨(some 4),(.mv (.t 8)),4,none⟩] none) .ret))
def RS:List IRes:=[(.tmp 4)]
abbrev b6q:Nat:=9
def M5:ZG:=Xo [(62,.own UC (D5 5)),(61,.own (UE 5) Ha)]
def Pf:IC:=(.seq (.reg [⟨(some 4),(.mv (.c (.sl 0 true []))),0,none⟩] none) (.seq (.reg [⟨(some 5),(.mv (.t 0)),0,none⟩,⟨(some 6),(.mv (.t 1)),0,none⟩,⟨(some 7),(.len 0 (.t 6)),0,none⟩,⟨(some 8),(.call (.c (.fn 61)) [(.t 5),(.t 7)]),0,none⟩,⟨(some 9),(.mv (.t 1)),2,none⟩,⟨(some 10),(.apps 5 1 1 (.t 8) (.t 9)),2,none⟩,⟨(some 4),(.mv (.t 10)),3,none⟩] none) .ret))
def Rb:List IRes:=[(.tmp 4)]
abbrev b4l:Nat:=11
def LG:ZG:=Xo [(61,.own (UE 5) Ha)]
theorem c1d{G:AV×List AObj×List AObj->Prop}(x:List UInt8)(q:Nat)(s:List UInt8)(h:(UE 5 [(.row 0 q 0 q),(.pv (.int .i64 (↑(List.length s):Int)))] [(.row false 5 1 (List.map enc x))])=true∧((List.length (List.map enc x++List.map enc (encI (↑(List.length s):Int)))==q+List.length (encI (↑(List.length s):Int))&&q+List.length (encI (↑(List.length s):Int))==q+List.length (encI (↑(List.length s):Int))&&decide ((q+List.length (encI (↑(List.length s):Int))+List.length (Zr s))*1<=1099511627776)&&decide (q+List.length (encI (↑(List.length s):Int))+List.length (Zr s)<=1099511627776))=true∧(G (((.row 0 (q+List.length (encI (↑(List.length s):Int))+List.length (Zr s)) 0 (q+List.length (encI (↑(List.length s):Int))+List.length (Zr s))),([(.row false 5 1 (List.map enc x++List.map enc (encI (↑(List.length s):Int))++Zr s))],[])))))):Ze LG 1 (Zk 1 Rb G) Pf [] (ZK 11 [.row 0 q 0 q,.pv (.str s)] [.row false 5 1 (x.map enc)]):=Ze.to (.req (.keep (.req (.nil)))) h (by kernel_rfl)
def BZ:IC:=(.seq (.reg [⟨(some 4),(.mv (.c (.sl 0 true []))),0,none⟩] none) (.seq (.reg [⟨(some 5),(.mv (.t 0)),0,none⟩,⟨(some 6),(.call (.c (.fn 62)) [(.t 5)]),0,none⟩,⟨(some 7),(.mv (.t 1)),2,none⟩,⟨(some 8),(.call (.c (.fn 81)) [(.t 6),(.t 7)]),2,none⟩,⟨(some 4),(.mv (.t 8)),4,none⟩] none) .ret))
def CV:List IRes:=[(.tmp 4)]
abbrev a6g:Nat:=9
def PE:ZG:=Xo [(62,.own UC (D5 5)),(81,.own (JD 5) Pk)]
theorem b4p{G:PV->Prop}(x:List UInt8)(s:List UInt8)(h:(UC [(.pv (.sl 1 false (List.map enc x)))] [])=true∧((JD 5 [(.row 0 (List.length (Za (enc x))) 0 (List.length (Za (enc x)))),(.pv (.str s))] [(.row false 5 1 (List.map enc (Za (enc x))))])=true∧((List.length (List.map enc (Za (enc x))++List.map enc (encS s))==List.length (Za (enc x))+List.length (encS s))=true∧(G ((.sl 1 false (List.drop 0 (List.take (List.length (Za (enc x))+List.length (encS s)) (List.map enc (Za (enc x))++List.map enc (encS s)))))))))):Ze PE 0 (Zg CV G) BZ [] (Y2 9 [enc x,.str s]):=Ze.tp (.req (.keep (.req (.keep (.req (.nil)))))) h (by kernel_rfl)
def XD:IC:=(.seq (.reg [⟨(some 2),(.mv (.c (.int .i64 0))),0,none⟩,⟨(some 3),(.mv (.c (.int .u64 0))),0,none⟩] none) (.seq (.seq (.reg [⟨(some 7),(.mv (.t 0)),0,none⟩,⟨(some 8),(.bin .num .geq (.t 7) (.c (.int .i64 (-120)))),0,none⟩,⟨(some 9),(.mv (.t 8)),0,none⟩,⟨(some 10),(.mv (.t 0)),0,(some (9,true))⟩,⟨(some 11),(.bin .num .leq (.t 10) (.c (.int .i64 119))),0,(some (9,true))⟩,⟨(some 12),(.pick (.t 9) (.t 11) (.c (.bool false))),0,none⟩] none) (.cond (.t 12) (.seq (.reg [⟨(some 2),(.mv (.c (.int .i64 0))),0,none⟩,⟨(some 3),(.mv (.c (.int .u64 0))),0,none⟩] none) .ret) .skip)) (.seq (.reg [⟨(some 13),(.mv (.t 0)),0,none⟩,⟨(some 14),(.conv .u64 (.t 13)),0,none⟩,⟨(some 15),(.bin .num .sub (.t 14) (.c (.int .u64 120))),0,none⟩,⟨(some 4),(.mv (.t 15)),0,none⟩] none) (.seq (.seq (.reg [⟨(some 16),(.mv (.t 0)),0,none⟩,⟨(some 17),(.bin .num .lss (.t 16) (.c (.int .i64 0))),0,none⟩] none) (.cond (.t 17) (.reg [⟨(some 18),(.mv (.t 0)),0,none⟩,⟨(some 19),(.bin .num .sub (.c (.int .i64 (-121))) (.t 18)),0,none⟩,⟨(some 20),(.conv .u64 (.t 19)),0,none⟩,⟨(some 4),(.mv (.t 20)),0,none⟩] none) .skip)) (.seq (.reg [⟨(some 5),(.mv (.c (.int .i64 1))),0,none⟩] none) (.seq (.seq (.reg [⟨(some 21),(.mv (.t 4)),0,none⟩,⟨(some 22),(.bin .num .shr (.t 21) (.c (.int .u64 8))),0,none⟩,⟨(some 6),(.mv (.t 22)),0,none⟩] none) (.block 0 (.loop [6,5,4] (.seq (.seq (.reg [⟨(some 23),(.mv (.t 6)),0,none⟩,⟨(some 24),(.bin .num .gtr (.t 23) (.c (.int .u64 0))),0,none⟩] none) (.cond (.t 24) .skip (.exit 0))) (.seq (.block 1 (.reg [⟨(some 27),(.mv (.t 5)),0,none⟩,⟨(some 28),(.bin .num .add (.t 27) (.c (.int .i64 1))),0,none⟩,⟨(some 5),(.mv (.t 28)),0,none⟩] none)) (.reg [⟨(some 25),(.mv (.t 6)),0,none⟩,⟨(some 26),(.bin .num .shr (.t 25) (.c (.int .u64 8))),0,none⟩,⟨(some 6),(.mv (.t 26)),0,none⟩] none)))))) (.seq (.reg [⟨(some 29),(.mv (.t 5)),0,none⟩,⟨(some 30),(.mv (.t 4)),0,none⟩,⟨(some 2),(.mv (.t 29)),0,none⟩,⟨(some 3),(.mv (.t 30)),0,none⟩] none) .ret)))))))
def YK:List IRes:=[(.tmp 2),(.tmp 3)]
abbrev a2z:Nat:=31
def Xx:ZG:=Xo []
theorem b1d{G:PV->Prop}(n:Int)(h:if (decide (n ≥ (-120:Int)))=true then if (decide (n<=119))=true then G ((.tup [(.int .i64 0),(.int IntKind.u64 0)]))else(if (decide (n<0))=true then At Xx 0 (Zg YK G) XD 0 31 [(4,(.pv (.int IntKind.u64 (IntKind.wrap IntKind.u64 (IntKind.wrap IntKind.i64 ((-121:Int) - n)))))),(5,(.pv (.int .i64 1))),(6,(.pv (.int IntKind.u64 (Int.fdiv (IntKind.wrap IntKind.u64 (IntKind.wrap IntKind.i64 ((-121:Int) - n))) (2 ^ min (Int.toNat 8) (IntKind.bits IntKind.u64))))))] []else(At Xx 0 (Zg YK G) XD 0 31 [(4,(.pv (.int IntKind.u64 (IntKind.wrap IntKind.u64 (IntKind.wrap IntKind.u64 n - 120))))),(5,(.pv (.int .i64 1))),(6,(.pv (.int IntKind.u64 (Int.fdiv (IntKind.wrap IntKind.u64 (IntKind.wrap IntKind.u64 n - 120)) (2 ^ min (Int.toNat 8) (IntKind.bits IntKind.u64))))))] []))else(if (decide (n<0))=true then At Xx 0 (Zg YK G) XD 0 31 [(4,(.pv (.int IntKind.u64 (IntKind.wrap IntKind.u64 (IntKind.wrap IntKind.i64 ((-121:Int) - n)))))),(5,(.pv (.int .i64 1))),(6,(.pv (.int IntKind.u64 (Int.fdiv (IntKind.wrap IntKind.u64 (IntKind.wrap IntKind.i64 ((-121:Int) - n))) (2 ^ min (Int.toNat 8) (IntKind.bits IntKind.u64))))))] []else(At Xx 0 (Zg YK G) XD 0 31 [(4,(.pv (.int IntKind.u64 (IntKind.wrap IntKind.u64 (IntKind.wrap IntKind.u64 n - 120))))),(5,(.pv (.int .i64 1))),(6,(.pv (.int IntKind.u64 (Int.fdiv (IntKind.wrap IntKind.u64 (IntKind.wrap IntKind.u64 n - 120)) (2 ^ min (Int.toNat 8) (IntKind.bits IntKind.u64))))))] []))):Ze Xx 0 (Zg YK G) XD [] (Y2 31 [.int .i64 n]):=Ze.tp (.lit (.ask (.lit (.lit (.lit (.ask (.nil) (.lit (.lit (.ask (.lit (.lit (.nil))) (.lit (.nil))))))))) (.lit (.lit (.lit (.lit (.lit (.ask (.lit (.lit (.nil))) (.lit (.nil)))))))))) h (by kernel_rfl)
theorem GY{G:PV->Prop}(n:Int)(m r k:Int)(h:if (decide (r>0))=true then At Xx 0 (Zg YK G) XD 0 31 [(4,(.pv (.int IntKind.u64 m))),(5,(.pv (.int .i64 (IntKind.wrap IntKind.i64 (k+1))))),(6,(.pv (.int IntKind.u64 (Int.fdiv r (2 ^ min (Int.toNat 8) (IntKind.bits IntKind.u64))))))] []else(G ((.tup [(.int .i64 k),(.int IntKind.u64 m)])))):At Xx 0 (Zg YK G) XD 0 31 [(4,.pv (.int .u64 m)),(5,.pv (.int .i64 k)),(6,.pv (.int .u64 r))] []:=At.tp (.lit (.ask (.lit (.lit (.nil))) (.nil))) h (by kernel_rfl)
def VR:IC:=(.seq (.reg [⟨(some 4),(.mv (.c (.sl 0 true []))),0,none⟩] none) (.seq (.reg [⟨(some 10),(.bslice 5 1 0 (.int .u8 0) []),0,none⟩,⟨(some 11),(.mv (.t 0)),1,none⟩,⟨(some 12),(.append 5 1 1 (.t 10) (.t 11)),1,none⟩,⟨(some 5),(.mv (.t 12)),2,none⟩] none) (.seq (.reg [⟨(some 14),(.mv (.t 1)),0,none⟩,⟨(some 15),(.call (.c (.fn 64)) [(.t 14)]),0,none⟩,⟨(some 13),(.mv (.t 15)),2,none⟩,⟨(some 16),(.extract (.t 13) 0),2,none⟩,⟨(some 17),(.extract (.t 13) 1),2,none⟩,⟨(some 6),(.mv (.t 16)),2,none⟩,⟨(some 7),(.mv (.t 17)),2,none⟩] none) (.seq (.seq (.reg [⟨(some 18),(.mv (.t 6)),0,none⟩,⟨(some 19),(.bin .num .eql (.t 18) (.c (.int .i64 0))),0,none⟩] none) (.cond (.t 19) (.seq (.reg [⟨(some 20),(.mv (.t 5)),0,none⟩,⟨(some 21),(.mv (.t 1)),0,none⟩,⟨(some 22),(.bin .num .add (.t 21) (.c (.int .i64 128))),0,none⟩,⟨(some 23),(.conv .u8 (.t 22)),0,none⟩,⟨(some 24),(.bslice 5 1 1 (.int .u8 0) [(0,(.t 23))]),0,none⟩,⟨(some 25),(.append 5 1 1 (.t 20) (.t 24)),1,none⟩,⟨(some 4),(.mv (.t 25)),2,none⟩] none) .ret) .skip)) (.seq (.seq (.reg [⟨(some 26),(.mv (.t 1)),0,none⟩,⟨(some 27),(.bin .num .lss (.t 26) (.c (.int .i64 0))),0,none⟩] none) (.cond (.t 27) (.reg [⟨(some 28),(.mv (.t 5)),0,none⟩,⟨(some 29),(.mv (.t 6)),0,none⟩,⟨(some 30),(.bin .num .sub (.c (.int .i64 8)) (.t 29)),0,none⟩,⟨(some 31),(.conv .u8 (.t 30)),0,none⟩,⟨(some 32),(.bslice 5 1 1 (.int .u8 0) [(0,(.t 31))]),0,none⟩,⟨(some 33),(.append 5 1 1 (.t 28) (.t 32)),1,none⟩,⟨(some 5),(.mv (.t 33)),2,none⟩] none) (.reg [⟨(some 34),(.mv (.t 5)),0,none⟩,⟨(some 35),(.mv (.t 6)),0,none⟩,⟨(some 36),(.bin .num .add (.c (.int .i64 247)) (.t 35)),0,none⟩,⟨(some 37),(.conv .u8 (.t 36)),0,none⟩,⟨(some 38),(.bslice 5 1 1 (.int .u8 0) [(0,(.t 37))]),0,none⟩,⟨(some 39),(.append 5 1 1 (.t 34) (.t 38)),1,none⟩,⟨(some 5),(.mv (.t 39)),2,none⟩] none))) (.seq (.seq (.reg [⟨(some 40),(.mv (.t 6)),0,none⟩,⟨(some 41),(.bin .num .sub (.t 40) (.c (.int .i64 1))),0,none⟩,⟨(some 8),(.mv (.t 41)),0,none⟩] none) (.block 0 (.loop [8,7,1,5] (.seq (.seq (.reg [⟨(some 42),(.mv (.t 8)),0,none⟩,⟨(some 43),(.bin .num .geq (.t 42) (.c (.int .i64 0))),0,none⟩] none) (.cond (.t 43) .skip (.exit 0))) (.seq (.block 1 (.seq (.reg [⟨(some 46),(.mv (.t 7)),0,none⟩,⟨(some 47),(.mv (.t 8)),0,none⟩,⟨(some 48),(.bin .num .mul (.c (.int .i64 8)) (.t 47)),0,none⟩,⟨(some 49),(.bin .num .shr (.t 46) (.t 48)),0,none⟩,⟨(some 50),(.conv .u8 (.t 49)),0,none⟩,⟨(some 9),(.mv (.t 50)),0,none⟩] none) (.seq (.seq (.reg [⟨(some 51),(.mv (.t 1)),0,none⟩,⟨(some 52),(.bin .num .lss (.t 51) (.c (.int .i64 0))),0,none⟩] none) (.cond (.t 52) (.reg [⟨(some 53),(.mv (.t 9)),0,none⟩,⟨(some 54),(.bin .num .sub (.c (.int .u8 255)) (.t 53)),0,none⟩,⟨(some 9),(.mv (.t 54)),0,none⟩] none) .skip)) (.reg [⟨(some 55),(.mv (.t 5)),0,none⟩,⟨(some 56),(.mv (.t 9)),0,none⟩,⟨(some 57),(.bslice 5 1 1 (.int .u8 0) [(0,(.t 56))]),0,none⟩,⟨(some 58),(.append 5 1 1 (.t 55) (.t 57)),1,none⟩,⟨(some 5),(.mv (.t 58)),2,none⟩] none)))) (.reg [⟨(some 44),(.mv (.t 8)),0,none⟩,⟨(some 45),(.bin .num .sub (.t 44) (.c (.int .i64 1))),0,none⟩,⟨(some 8),(.mv (.t 45)),0,none⟩] none)))))) (.seq (.reg [⟨(some 59),(.mv (.t 5)),0,none⟩,⟨(some 4),(.mv (.t 59)),0,none⟩] none) .ret)))))))
def VQ:List IRes:=[(.tmp 4)]
abbrev b4c:Nat:=60
def Qd:ZG:=Xo [(64,.pure (preT (fun x:Int×Unit=>true)) (Zo (fun x:Int×Unit=>XI x.1)))]
theorem c0e{G:AV×List AObj×List AObj->Prop}(x:List UInt8)(n:Int)(h:(List.isEmpty (List.map enc x)||Enc.sz UInt8==1)=true∧((List.length ([]:List PV)==0&&0==0&&decide ((0+List.length (List.map enc x))*1<=1099511627776)&&decide (0+List.length (List.map enc x)<=1099511627776))=true∧(∃ y0:Int×U64,AV.pv (Zo (fun(x:Int×Unit)=>XI x.1) [(.int .i64 n)])=AV.pv (enc y0)∧(if (y0.1==0)=true then(List.length (([]:List PV)++List.map enc x)==0+List.length (List.map enc x)&&0+List.length (List.map enc x)==0+List.length (List.map enc x)&&decide ((0+List.length (List.map enc x)+List.length (List.drop 0 (List.take 1 [PV.int IntKind.u8 (IntKind.wrap IntKind.u8 (IntKind.wrap IntKind.i64 (n+128)))])))*1<=1099511627776)&&decide (0+List.length (List.map enc x)+List.length (List.drop 0 (List.take 1 [PV.int IntKind.u8 (IntKind.wrap IntKind.u8 (IntKind.wrap IntKind.i64 (n+128)))]))<=1099511627776))=true∧(G (((.row 0 (0+List.length (List.map enc x)+List.length (List.drop 0 (List.take 1 [PV.int IntKind.u8 (IntKind.wrap IntKind.u8 (IntKind.wrap IntKind.i64 (n+128)))]))) 0 (0+List.length (List.map enc x)+List.length (List.drop 0 (List.take 1 [PV.int IntKind.u8 (IntKind.wrap IntKind.u8 (IntKind.wrap IntKind.i64 (n+128)))])))),([],[(.row false 5 1 (([]:List PV)++List.map enc x++List.drop 0 (List.take 1 [PV.int IntKind.u8 (IntKind.wrap IntKind.u8 (IntKind.wrap IntKind.i64 (n+128)))])))]))))else(if (decide (n<0))=true then(List.length (([]:List PV)++List.map enc x)==0+List.length (List.map enc x)&&0+List.length (List.map enc x)==0+List.length (List.map enc x)&&decide ((0+List.length (List.map enc x)+List.length (List.drop 0 (List.take 1 [PV.int IntKind.u8 (IntKind.wrap IntKind.u8 (IntKind.wrap IntKind.i64 (8 - y0.1)))])))*1<=1099511627776)&&decide (0+List.length (List.map enc x)+List.length (List.drop 0 (List.take 1 [PV.int IntKind.u8 (IntKind.wrap IntKind.u8 (IntKind.wrap IntKind.i64 (8 - y0.1)))]))<=1099511627776))=true∧(At Qd 0 (Zk 0 VQ G) VR 0 60 [(1,(.pv (.int .i64 n))),(5,(.row 0 (0+List.length (List.map enc x)+List.length (List.drop 0 (List.take 1 [PV.int IntKind.u8 (IntKind.wrap IntKind.u8 (IntKind.wrap IntKind.i64 (8 - y0.1)))]))) 0 (0+List.length (List.map enc x)+List.length (List.drop 0 (List.take 1 [PV.int IntKind.u8 (IntKind.wrap IntKind.u8 (IntKind.wrap IntKind.i64 (8 - y0.1)))]))))),(7,(.pv (.int IntKind.u64 (U64.n y0.2)))),(8,(.pv (.int .i64 (IntKind.wrap IntKind.i64 (y0.1 - 1)))))] [(.obj (.row false 5 1 (([]:List PV)++List.map enc x++List.drop 0 (List.take 1 [PV.int IntKind.u8 (IntKind.wrap IntKind.u8 (IntKind.wrap IntKind.i64 (8 - y0.1)))]))))])else((List.length (([]:List PV)++List.map enc x)==0+List.length (List.map enc x)&&0+List.length (List.map enc x)==0+List.length (List.map enc x)&&decide ((0+List.length (List.map enc x)+List.length (List.drop 0 (List.take 1 [PV.int IntKind.u8 (IntKind.wrap IntKind.u8 (IntKind.wrap IntKind.i64 (247+y0.1)))])))*1<=1099511627776)&&decide (0+List.length (List.map enc x)+List.length (List.drop 0 (List.take 1 [PV.int IntKind.u8 (IntKind.wrap IntKind.u8 (IntKind.wrap IntKind.i64 (247+y0.1)))]))<=1099511627776))=true∧(At Qd 0 (Zk 0 VQ G) VR 0 60 [(1,(.pv (.int .i64 n))),(5,(.row 0 (0+List.length (List.map enc x)+List.length (List.drop 0 (List.take 1 [PV.int IntKind.u8 (IntKind.wrap IntKind.u8 (IntKind.wrap IntKind.i64 (247+y0.1)))]))) 0 (0+List.length (List.map enc x)+List.length (List.drop 0 (List.take 1 [PV.int IntKind.u8 (IntKind.wrap IntKind.u8 (IntKind.wrap IntKind.i64 (247+y0.1)))]))))),(7,(.pv (.int IntKind.u64 (U64.n y0.2)))),(8,(.pv (.int .i64 (IntKind.wrap IntKind.i64 (y0.1 - 1)))))] [(.obj (.row false 5 1 (([]:List PV)++List.map enc x++List.drop 0 (List.take 1 [PV.int IntKind.u8 (IntKind.wrap IntKind.u8 (IntKind.wrap IntKind.i64 (247+y0.1)))]))))]))))))):Ze Qd 0 (Zk 0 VQ G) VR [] (ZK 60 [.pv (enc x),.pv (.int .i64 n)] []):=Ze.to (.lit (.req (.req (.lit (.abs (Int×U64) (fun YY=>AV.pv (enc YY)) (.lit (.ask (.lit (.lit (.lit (.req (.nil))))) (.lit (.ask (.lit (.lit (.lit (.req (.lit (.nil)))))) (.lit (.lit (.lit (.req (.lit (.nil))))))))))))))) h (by kernel_rfl)
theorem Om{G:AV×List AObj×List AObj->Prop}(x:List UInt8)(n:Int)(y:List UInt8)(q:Nat)(m i:Int)(h:if (decide (i ≥ 0))=true then(decide (0<=IntKind.wrap IntKind.i64 (8*i)))=true∧(if (decide (n<0))=true then(List.length (List.map enc y)==q&&q==q&&decide ((q+List.length (List.drop 0 (List.take 1 [PV.int IntKind.u8 (IntKind.wrap IntKind.u8 (255 - IntKind.wrap IntKind.u8 (Int.fdiv m (2 ^ min (Int.toNat (IntKind.wrap IntKind.i64 (8*i))) (IntKind.bits IntKind.u64)))))])))*1<=1099511627776)&&decide (q+List.length (List.drop 0 (List.take 1 [PV.int IntKind.u8 (IntKind.wrap IntKind.u8 (255 - IntKind.wrap IntKind.u8 (Int.fdiv m (2 ^ min (Int.toNat (IntKind.wrap IntKind.i64 (8*i))) (IntKind.bits IntKind.u64)))))]))<=1099511627776))=true∧(At Qd 0 (Zk 0 VQ G) VR 0 60 [(1,(.pv (.int .i64 n))),(5,(.row 0 (q+List.length (List.drop 0 (List.take 1 [PV.int IntKind.u8 (IntKind.wrap IntKind.u8 (255 - IntKind.wrap IntKind.u8 (Int.fdiv m (2 ^ min (Int.toNat (IntKind.wrap IntKind.i64 (8*i))) (IntKind.bits IntKind.u64)))))]))) 0 (q+List.length (List.drop 0 (List.take 1 [PV.int IntKind.u8 (IntKind.wrap IntKind.u8 (255 - IntKind.wrap IntKind.u8 (Int.fdiv m (2 ^ min (Int.toNat (IntKind.wrap IntKind.i64 (8*i))) (IntKind.bits IntKind.u64)))))]))))),(7,(.pv (.int IntKind.u64 m))),(8,(.pv (.int .i64 (IntKind.wrap IntKind.i64 (i - 1)))))] [(.obj (.row false 5 1 (List.map enc y++List.drop 0 (List.take 1 [PV.int IntKind.u8 (IntKind.wrap IntKind.u8 (255 - IntKind.wrap IntKind.u8 (Int.fdiv m (2 ^ min (Int.toNat (IntKind.wrap IntKind.i64 (8*i))) (IntKind.bits IntKind.u64)))))]))))])else((List.length (List.map enc y)==q&&q==q&&decide ((q+List.length (List.drop 0 (List.take 1 [PV.int IntKind.u8 (IntKind.wrap IntKind.u8 (Int.fdiv m (2 ^ min (Int.toNat (IntKind.wrap IntKind.i64 (8*i))) (IntKind.bits IntKind.u64))))])))*1<=1099511627776)&&decide (q+List.length (List.drop 0 (List.take 1 [PV.int IntKind.u8 (IntKind.wrap IntKind.u8 (Int.fdiv m (2 ^ min (Int.toNat (IntKind.wrap IntKind.i64 (8*i))) (IntKind.bits IntKind.u64))))]))<=1099511627776))=true∧(At Qd 0 (Zk 0 VQ G) VR 0 60 [(1,(.pv (.int .i64 n))),(5,(.row 0 (q+List.length (List.drop 0 (List.take 1 [PV.int IntKind.u8 (IntKind.wrap IntKind.u8 (Int.fdiv m (2 ^ min (Int.toNat (IntKind.wrap IntKind.i64 (8*i))) (IntKind.bits IntKind.u64))))]))) 0 (q+List.length (List.drop 0 (List.take 1 [PV.int IntKind.u8 (IntKind.wrap IntKind.u8 (Int.fdiv m (2 ^ min (Int.toNat (IntKind.wrap IntKind.i64 (8*i))) (IntKind.bits IntKind.u64))))]))))),(7,(.pv (.int IntKind.u64 m))),(8,(.pv (.int .i64 (IntKind.wrap IntKind.i64 (i - 1)))))] [(.obj (.row false 5 1 (List.map enc y++List.drop 0 (List.take 1 [PV.int IntKind.u8 (IntKind.wrap IntKind.u8 (Int.fdiv m (2 ^ min (Int.toNat (IntKind.wrap IntKind.i64 (8*i))) (IntKind.bits IntKind.u64))))]))))])))else(G (((.row 0 q 0 q),([],[(.row false 5 1 (List.map enc y))]))))):At Qd 0 (Zk 0 VQ G) VR 0 60 [(1,.pv (.int .i64 n)),(5,.row 0 q 0 q),(7,.pv (.int .u64 m)),(8,.pv (.int .i64 i))] [.obj (.row false 5 1 (y.map enc))]:=At.to (.lit (.ask (.lit (.req (.lit (.ask (.lit (.lit (.lit (.req (.lit (.nil)))))) (.lit (.lit (.req (.lit (.nil))))))))) (.nil))) h (by kernel_rfl)
def Gp:IC:=(.seq (.reg [⟨(some 4),(.mv (.c (.sl 0 true []))),0,none⟩] none) (.seq (.reg [⟨(some 5),(.mv (.t 0)),0,none⟩,⟨(some 6),(.mv (.t 1)),0,none⟩,⟨(some 7),(.len 0 (.t 6)),0,none⟩,⟨(some 8),(.call (.c (.fn 33)) [(.t 5),(.t 7)]),0,none⟩,⟨(some 9),(.mv (.t 1)),2,none⟩,⟨(some 10),(.apps 5 1 1 (.t 8) (.t 9)),2,none⟩,⟨(some 4),(.mv (.t 10)),3,none⟩] none) .ret))
def Gv:List IRes:=[(.tmp 4)]
abbrev a1a:Nat:=11
def Bn:ZG:=Xo [(33,.own XQ (XL 5))]
theorem b1o{G:PV->Prop}(x:List UInt8)(s:List UInt8)(h:(XQ [(.pv (.sl 1 false (List.map enc x))),(.pv (.int .i64 (↑(List.length s):Int)))] [])=true∧((List.length (List.map enc (Za (enc x)++encI (↑(List.length s):Int)))==List.length (Za (enc x)++encI (↑(List.length s):Int))&&List.length (Za (enc x)++encI (↑(List.length s):Int))==List.length (Za (enc x)++encI (↑(List.length s):Int))&&decide ((List.length (Za (enc x)++encI (↑(List.length s):Int))+List.length (Zr s))*1<=1099511627776)&&decide (List.length (Za (enc x)++encI (↑(List.length s):Int))+List.length (Zr s)<=1099511627776))=true∧((List.length (List.map enc (Za (enc x)++encI (↑(List.length s):Int))++Zr s)==List.length (Za (enc x)++encI (↑(List.length s):Int))+List.length (Zr s))=true∧(G ((.sl 1 false (List.drop 0 (List.take (List.length (Za (enc x)++encI (↑(List.length s):Int))+List.length (Zr s)) (List.map enc (Za (enc x)++encI (↑(List.length s):Int))++Zr s))))))))):Ze Bn 0 (Zg Gv G) Gp [] (Y2 11 [enc x,.str s]):=Ze.tp (.req (.keep (.req (.req (.nil))))) h (by kernel_rfl)
def Bb:IC:=(.seq (.reg [⟨(some 4),(.mv (.c (.bool false))),0,none⟩] none) (.seq (.reg [⟨(some 5),(.mv (.t 0)),0,none⟩,⟨(some 6),(.bstr (.t 5)),0,none⟩,⟨(some 7),(.mv (.t 1)),0,none⟩,⟨(some 8),(.bstr (.t 7)),0,none⟩,⟨(some 9),(.bin .num .eql (.t 6) (.t 8)),0,none⟩,⟨(some 4),(.mv (.t 9)),0,none⟩] none) .ret))
def Ah:List IRes:=[(.tmp 4)]
abbrev a3v:Nat:=10
def TR:ZG:=Xo []
theorem b3n{G:PV->Prop}(x y:List UInt8)(h:(List.all (List.map enc x) DC&&(List.isEmpty (List.map enc x)||Enc.sz UInt8==1))=true∧((List.all (List.map enc y) DC&&(List.isEmpty (List.map enc y)||Enc.sz UInt8==1))=true∧(G ((.bool (YU (List.map enc x)==YU (List.map enc y))))))):Ze TR 0 (Zg Ah G) Bb [] (Y2 10 [enc x,enc y]):=Ze.tp (.req (.req (.lit (.nil)))) h (by kernel_rfl)
def Vw:IC:=(.seq (.reg [⟨(some 3),(.box 2 (.t 1)),0,none⟩,⟨(some 4),(.mv (.c (.sl 0 true []))),1,none⟩] none) (.seq (.reg [⟨(some 7),(.mv (.t 0)),0,none⟩,⟨(some 8),(.faddr 0 (.t 3)),0,none⟩,⟨(some 9),(.load false [(.int .i64)] (.t 8)),0,none⟩,⟨(some 10),(.call (.c (.fn 33)) [(.t 7),(.t 9)]),0,none⟩,⟨(some 11),(.faddr 1 (.t 3)),2,none⟩,⟨(some 12),(.load false [(.sl 2)] (.t 11)),2,none⟩,⟨(some 13),(.len 1 (.t 12)),2,none⟩,⟨(some 14),(.call (.c (.fn 33)) [(.t 10),(.t 13)]),2,none⟩,⟨(some 5),(.mv (.t 14)),4,none⟩] (some [[],[],[1],[0,2,1],[],[4],[5,4],[3,6,0,2,1,5,4],[7,0,1,2,3,4,5,6]])) (.seq (.seq (.reg [⟨(some 6),(.mv (.c (.int .i64 0))),0,none⟩] none) (.block 0 (.loop [6,3,5] (.seq (.seq (.reg [⟨(some 15),(.mv (.t 6)),0,none⟩,⟨(some 16),(.faddr 1 (.t 3)),0,none⟩,⟨(some 17),(.load false [(.sl 2)] (.t 16)),0,none⟩,⟨(some 18),(.len 1 (.t 17)),0,none⟩,⟨(some 19),(.bin .num .lss (.t 15) (.t 18)),0,none⟩] none) (.cond (.t 19) .skip (.exit 0))) (.seq (.block 1 (.reg [⟨(some 22),(.mv (.t 5)),0,none⟩,⟨(some 23),(.faddr 1 (.t 3)),0,none⟩,⟨(some 24),(.load false [(.sl 2)] (.t 23)),0,none⟩,⟨(some 25),(.mv (.t 6)),0,none⟩,⟨(some 26),(.iaddr 2 (.t 24) (.t 25)),0,none⟩,⟨(some 27),(.faddr 0 (.t 26)),0,none⟩,⟨(some 28),(.load false [.str] (.t 27)),0,none⟩,⟨(some 29),(.call (.c (.fn 44)) [(.t 22),(.t 28)]),0,none⟩,⟨(some 30),(.faddr 1 (.t 3)),2,none⟩,⟨(some 31),(.load false [(.sl 2)] (.t 30)),2,none⟩,⟨(some 32),(.mv (.t 6)),2,none⟩,⟨(some 33),(.iaddr 2 (.t 31) (.t 32)),2,none⟩,⟨(some 34),(.faddr 1 (.t 33)),2,none⟩,⟨(some 35),(.load false [(.int .i64)] (.t 34)),2,none⟩,⟨(some 36),(.call (.c (.fn 33)) [(.t 29),(.t 35)]),2,none⟩,⟨(some 5),(.mv (.t 36)),4,none⟩] (some [[],[],[1],[],[2,3,1],[4,2,3,1],[5,4,2,3,1],[0,6,5,4,2,3,1],[],[8],[],[9,10,8],[11,9,10,8],[12,11,9,10,8],[7,13,0,6,5,4,2,3,1,12,11,9,10,8],[14,0,1,2,3,4,5,6,7,8,9,10,11,12,13]]))) (.reg [⟨(some 20),(.mv (.t 6)),0,none⟩,⟨(some 21),(.bin .num .add (.t 20) (.c (.int .i64 1))),0,none⟩,⟨(some 6),(.mv (.t 21)),0,none⟩] none)))))) (.seq (.reg [⟨(some 37),(.mv (.t 5)),0,none⟩,⟨(some 4),(.mv (.t 37)),0,none⟩] none) .ret))))
def VE:List IRes:=[(.tmp 4)]
abbrev a5j:Nat:=38
def UF:ZG:=Xo [(33,.pure (preT (fun x:List UInt8×Int×Unit=>decide (x.1.length<=1000000))) (Zo (fun x:List UInt8×Int×Unit=>x.1++encI x.2.1))),(44,.pure (preT (fun x:List UInt8×Str×Unit=>decide (x.1.length<=1000000)&&decide (x.2.1.s.length<=1000000))) (Zo (fun x:List UInt8×Str×Unit=>x.1++encS x.2.1.s)))]
theorem b5p{G:PV->Prop}(x:List UInt8)(l:Lin)(h:(Go.Pl.preT (fun(x:List UInt8×Int×Unit)=>decide (List.length x.1<=1000000)) [(.sl 1 false (List.map enc x)),(.int .i64 l.k)])=true∧(∃ y0:List UInt8,AV.pv (Zo (fun(x:List UInt8×Int×Unit)=>x.1++encI x.2.1) [(.sl 1 false (List.map enc x)),(.int .i64 l.k)])=AV.pv (enc y0)∧((Go.Pl.preT (fun(x:List UInt8×Int×Unit)=>decide (List.length x.1<=1000000)) [(.sl 1 false (List.map enc y0)),(.int .i64 (↑(List.length (List.map enc l.t)):Int))])=true∧(∃ y1:List UInt8,AV.pv (Zo (fun(x:List UInt8×Int×Unit)=>x.1++encI x.2.1) [(.sl 1 false (List.map enc y0)),(.int .i64 (↑(List.length (List.map enc l.t)):Int))])=AV.pv (enc y1)∧(At UF 0 (Zg VE G) Vw 0 38 [(3,(.ptr 0 0)),(5,(.pv (.sl 1 false (List.map enc y1)))),(6,(.pv (.int .i64 0)))] [(.obj (.box [(.pv (.int .i64 l.k)),(.pv (.sl 2 false (List.map enc l.t)))]))]))))):Ze UF 0 (Zg VE G) Vw [] (Y2 38 [enc x,.agg [enc l.k,enc l.t]]):=Ze.tp (.req (.abs (List UInt8) (fun YY=>AV.pv (enc YY)) (.req (.abs (List UInt8) (fun YY=>AV.pv (enc YY)) (.nil))))) h (by kernel_rfl)
theorem Nr{G:PV->Prop}(x:List UInt8)(l:Lin)(y:List UInt8)(i:Int)(h:if (decide (i<(↑(List.length (List.map enc l.t)):Int)))=true then(decide (0<=i)&&decide (Int.toNat i<List.length (List.map enc l.t))&&Enc.sz Coef==2)=true∧(∃ y0:Coef,AV.pv (PV.rptr (PV.cells (List.getD (List.map enc l.t) (Int.toNat i) default)))=AV.pv (PV.rptr (PV.cells ((enc) y0)))∧((Go.Pl.preT (fun(x:List UInt8×Str×Unit)=>decide (List.length x.1<=1000000)&&decide (List.length (Str.s x.2.1)<=1000000)) [(.sl 1 false (List.map enc y)),(.str (PV.asStr (List.getD (List.drop 0 (PV.cells (enc y0))) 0 default)))])=true∧(∃ y1:List UInt8,AV.pv (Zo (fun(x:List UInt8×Str×Unit)=>x.1++encS (Str.s x.2.1)) [(.sl 1 false (List.map enc y)),(.str (PV.asStr (List.getD (List.drop 0 (PV.cells (enc y0))) 0 default)))])=AV.pv (enc y1)∧((decide (0<=i)&&decide (Int.toNat i<List.length (List.map enc l.t))&&Enc.sz Coef==2)=true∧(∃ y2:Coef,AV.pv (PV.rptr (PV.cells (List.getD (List.map enc l.t) (Int.toNat i) default)))=AV.pv (PV.rptr (PV.cells ((enc) y2)))∧((Go.Pl.preT (fun(x:List UInt8×Int×Unit)=>decide (List.length x.1<=1000000)) [(.sl 1 false (List.map enc y1)),(.int .i64 (PV.asInt (List.getD (List.drop 1 (PV.cells (enc y2))) 0 default)))])=true∧(∃ y3:List UInt8,AV.pv (Zo (fun(x:List UInt8×Int×Unit)=>x.1++encI x.2.1) [(.sl 1 false (List.map enc y1)),(.int .i64 (PV.asInt (List.getD (List.drop 1 (PV.cells (enc y2))) 0 default)))])=AV.pv (enc y3)∧(At UF 0 (Zg VE G) Vw 0 38 [(3,(.ptr 0 0)),(5,(.pv (.sl 1 false (List.map enc y3)))),(6,(.pv (.int .i64 (IntKind.wrap IntKind.i64 (i+1)))))] [(.obj (.box [(.pv (.int .i64 l.k)),(.pv (.sl 2 false (List.map enc l.t)))]))]))))))))else(G ((.sl 1 false (List.map enc y))))):At UF 0 (Zg VE G) Vw 0 38 [(3,.ptr 0 0),(5,.pv (enc y)),(6,.pv (.int .i64 i))] [.obj (.box [.pv (enc l.k),.pv (enc l.t)])]:=At.tp (.lit (.ask (.req (.abs (Coef) (fun YY=>AV.pv (PV.rptr (PV.cells ((enc) YY)))) (.lit (.req (.abs (List UInt8) (fun YY=>AV.pv (enc YY)) (.req (.abs (Coef) (fun YY=>AV.pv (PV.rptr (PV.cells ((enc) YY)))) (.lit (.req (.abs (List UInt8) (fun YY=>AV.pv (enc YY)) (.lit (.nil)))))))))))) (.nil))) h (by kernel_rfl)
end Go.Pl

namespace Go.Pl
open Go.RowKit
open Enc (enc dec is)
open EncL (encL decL isL)
theorem YC{α β:Type}[EncL α][Enc β]{F:α->β}{ps:List PV}{P:β->Prop}{v:β}(a:α)(h:ps=encL a)(hv:F a=v)(k:P v): ∃ y,AV.pv (Zo F ps)=AV.pv (enc y)∧P y:=Zz a h (by rw[hv];exact k)
theorem JI(n:Int):IntKind.wrap IntKind.u8 n=n % 256:=by
 unfold IntKind.wrap
 simp[IntKind.bits,IntKind.signed]
theorem UQ(n:Int):IntKind.wrap IntKind.u64 n=n % 18446744073709551616:=by
 unfold IntKind.wrap
 simp[IntKind.bits,IntKind.signed]
theorem Km(X:Nat):PV.int IntKind.u8 (IntKind.wrap IntKind.u8 (X:Int))=enc (UInt8.ofNat X):=by
 show _=PV.int IntKind.u8 (((UInt8.ofNat X).toNat:Nat):Int)
 rw[JI,UInt8.toNat_ofNat']
 congr 1
theorem b3k(j:Nat):(2:Int) ^ (8*j)=((256 ^ j:Nat):Int):=by
 rw[Int.natCast_pow,Int.pow_mul]
 rfl
theorem MB(M K:Nat):Int.fdiv (M:Int) (K:Int)=((M / K:Nat):Int):=by
 rw[Int.fdiv_eq_ediv_of_nonneg _ (by omega),Int.natCast_ediv]
theorem Rp(M j:Nat)(hj:j<=8):Int.fdiv (M:Int) (2 ^ min (Int.toNat (IntKind.wrap IntKind.i64 (8*(j:Int)))) (IntKind.bits IntKind.u64))=((M / 256 ^ j:Nat):Int):=by
 have h1:IntKind.wrap IntKind.i64 (8*(j:Int))=((8*j:Nat):Int):=by rw[Yd (by omega) (by omega)];omega
 have h2:min (8*j) (IntKind.bits IntKind.u64)=8*j:=by
  show min (8*j) 64=8*j
  omega
 rw[h1,Int.toNat_natCast,h2,b3k,MB]
theorem TV(j:Nat)(hj:j<=8):decide (0<=IntKind.wrap IntKind.i64 (8*(j:Int)))=true:=by
 rw[Yd (by omega) (by omega)]
 exact decide_eq_true (by omega)
theorem Es: ∀ x:UInt8×Unit,true=true->Ze Rn 0 (Zg Ao (ZB x.1)) CS [] (Y2 a3u (encL x)):=by
 rintro⟨c,⟨⟩⟩ _
 exact b3f c (Y7 rfl)
theorem a3g: ∀ x:UInt8×Unit,true=true->Ze RH 0 (Zg Bp (ZB (255 - x.1:UInt8))) Ct [] (Y2 b2a (encL x)):=by
 rintro⟨c,⟨⟩⟩ _
 refine b4f c ?_
 have h:IntKind.wrap IntKind.u8 (255 - (c.toNat:Int))=((255 - c:UInt8).toNat:Int):=by
  have:=UInt8.toNat_lt c
  rw[JI,UInt8.toNat_sub]
  simp
  omega
 rw[h]
 exact Y7 (x:=(255 - c:UInt8)) rfl
theorem a0a(M:Nat): ∀ (f k:Nat),f+k=8->1<=k->At Jf 0 (Zg Ql (ZB ((UN M f k:Nat):Int))) Qp 0 16 [(0,.pv (.int .u64 (M:Int))),(3,.pv (.int .i64 (k:Int)))] []:=by
 intro f
 induction f with
 | zero=>
  intro k hk h1
  exact OI M k (Zy (by simp;omega) (Ur rfl))
 | succ f ih=>
  intro k hk h1
  refine OI M k (Zx (by simp;omega) ⟨TV k (by omega),?_⟩)
  rw[Rp M k (by omega),next (by omega),UN]
  by_cases h:0<M / 256 ^ k
  ·rw[if_pos (show k<8∧0<M / 256 ^ k from⟨by omega,h⟩)]
   exact Zx (decide_eq_true (by omega)) (ih (k+1) (by omega) (by omega))
  ·rw[if_neg (show ¬ (k<8∧0<M / 256 ^ k)from fun e=>h e.2)]
   exact Zy (fun e=>h (Int.natCast_pos.mp (of_decide_eq_true e))) (Ur rfl)
theorem a4f: ∀ x:U64×Unit,(decide (0<=x.1.n)&&decide (x.1.n<18446744073709551616))=true->Ze Jf 0 (Zg Ql (ZB (ZI x.1.n.toNat:Int))) Qp [] (Y2 b6j (encL x)):=by
 rintro⟨⟨m⟩,⟨⟩⟩ h
 simp only[Bool.and_eq_true,decide_eq_true_eq]at h
 obtain⟨M,rfl⟩ : ∃ M:Nat,m=(M:Int):=⟨m.toNat,by omega⟩
 exact b8k M (a0a M 7 1 (by omega) (by omega))
theorem Ja{x:List UInt8}{q:Nat}(hq:x.length=q)(h:q<=10000100)(b:PV):((List.map (enc:UInt8->PV) x).length==q&&q==q&&decide ((q+List.length (List.drop 0 (List.take 1 [b])))*1<=1099511627776)&&decide (q+List.length (List.drop 0 (List.take 1 [b]))<=1099511627776))=true:=by
 rw[List.length_map,hq]
 simp
 omega
theorem TA{G:AV×List AObj×List AObj->Prop}(t:Bool)(M:Nat)(k:Int): ∀ (j q:Nat) (x:List UInt8),j<=8->x.length=q->q+j<=10000100 ->
  G (.row 0 (q+j) 0 (q+j),[.row false 5 1 ((x++YO t M j).map enc)],[]) ->
  At Uk 1 (Zk 1 Vb G) WP 0 27
   [(0,.row 0 q 0 q),(1,.pv (.int .u64 (M:Int))),(3,.pv (.fn (bif t then 105 else 104))),(9,.pv (.int .i64 ((j:Int) - 1)))] [.obj (.row false 5 1 (x.map enc))]:=by
 intro j
 induction j with
 | zero=>
  intro q x hj hq h hG
  rw[YO,List.append_nil]at hG
  cases t
  ·exact Oa x q M k _ (Zy (by simp) hG)
  ·exact O4 x q M k _ (Zy (by simp) hG)
 | succ j ih=>
  intro q x hj hq h hG
  have hi:((j+1:Nat):Int) - 1=(j:Int):=by omega
  have hd:IntKind.wrap IntKind.i64 ((j:Int) - 1)=(j:Int) - 1:=Yd (by omega) (by omega)
  have h':=ih (q+1) (x++[byT t (M / 256 ^ j)]) (by omega) (by simp[hq]) (by omega) (by
   rw[List.append_assoc,show [byT t (M / 256 ^ j)]++YO t M j=YO t M (j+1)from rfl,show q+1+j=q+(j+1) by omega]
   exact hG)
  rw[(List.map_append:List.map (enc:UInt8->PV) (x++[byT t (M / 256 ^ j)])=_)]at h'
  rw[hi]
  cases t
  ·refine Oa x q M k _ (Zx (by simp) ⟨TV j (by omega),?_⟩)
   rw[Rp M j (by omega),hd,Km]
   exact⟨Zt (UInt8.ofNat (M / 256 ^ j),()) rfl rfl,Zz (UInt8.ofNat (M / 256 ^ j),()) rfl ⟨Ja hq (by omega) _,h'⟩⟩
  ·refine O4 x q M k _ (Zx (by simp) ⟨TV j (by omega),?_⟩)
   rw[Rp M j (by omega),hd,Km]
   exact⟨Zt (UInt8.ofNat (M / 256 ^ j),()) rfl rfl,Zz (UInt8.ofNat (M / 256 ^ j),()) rfl ⟨Ja hq (by omega) _,h'⟩⟩
theorem Vd(t:Bool)(m:Nat): ∀ k,(YO t m k).length=k
 | 0=>rfl
 | k+1=>by rw[YO,List.length_cons,Vd t m k]
theorem b4r(M:Nat): ∀ f k,k<=UN M f k∧UN M f k<=k+f:=by
 intro f
 induction f with
 | zero=>intro k;rw[UN];omega
 | succ f ih=>
  intro k
  rw[UN]
  split
  ·have:=ih (k+1);omega
  ·omega
theorem Kk(M:Nat):1<=ZI M∧ZI M<=8:=by have:=b4r M 7 1;unfold ZI;omega
theorem Ch{xs:List PV}(h:Sd xs=true): ∃ x:List UInt8,xs=x.map enc:=by
 obtain⟨a,ha⟩:=Vk h
 exact⟨a,(PV.sl.inj (show PV.sl 1 false xs=PV.sl 1 false (a.map enc)from ha)).2.2⟩
theorem BU(x:List UInt8):Sd (x.map enc)=true:=Xk x
theorem a9d: ∀ args os,Qz 5 104 105 args os=true->Ze Uk os.length (Zk os.length Vb fun r=>r=Rl 105 args os) WP [] (ZK b2m args os):=by
 intro args os h
 unfold Qz at h
 split at h
 ·rename_i q q' m k f ty xs
  simp only[Bool.and_eq_true,decide_eq_true_eq,beq_iff_eq,Bool.or_eq_true]at h
  obtain⟨⟨⟨⟨⟨⟨⟨⟨⟨rfl,hc⟩,hl⟩,rfl⟩,h1⟩,h2⟩,h3⟩,h4⟩,h5⟩,h6⟩:=h
  obtain⟨x,rfl⟩:=Ch hc
  rw[List.length_map]at hl
  obtain⟨M,rfl⟩ : ∃ M:Nat,m=(M:Int):=⟨m.toNat,by omega⟩
  obtain⟨j,rfl⟩ : ∃ j:Nat,k=(j:Int):=⟨k.toNat,by omega⟩
  have hd:IntKind.wrap IntKind.i64 ((j:Int) - 1)=(j:Int) - 1:=Yd (by omega) (by omega)
  rcases h5 with rfl|rfl
  ·refine c0f x q' M j ?_
   rw[hd]
   refine TA false M j j q' x (by omega) hl (by omega) ?_
   rw[List.map_append]
   rfl
  ·refine b8o x q' M j ?_
   rw[hd]
   refine TA true M j j q' x (by omega) hl (by omega) ?_
   rw[List.map_append]
   rfl
 ·cases h
theorem TB(a:Int):IntKind.wrap IntKind.u64 (IntKind.wrap IntKind.i64 a)=a % 18446744073709551616:=by
 rw[UQ]
 unfold IntKind.wrap
 simp[IntKind.bits,IntKind.signed,Int.bmod]
 split <;> omega
theorem a8w(n:Int):IntKind.wrap IntKind.u64 (IntKind.wrap IntKind.i64 (n - 120))=(YH n:Int):=by
 rw[TB];unfold YH;omega
theorem b1x(n:Int):IntKind.wrap IntKind.u64 (IntKind.wrap IntKind.i64 (-IntKind.wrap IntKind.i64 (n+121)))=(YG n:Int):=by
 rw[TB]
 unfold YG IntKind.wrap
 simp[IntKind.bits,IntKind.signed,Int.bmod]
 split <;> omega
theorem TS(n:Int):(YH n:Int)<18446744073709551616:=by unfold YH;omega
theorem RI(n:Int):(YG n:Int)<18446744073709551616:=by unfold YG;omega
theorem UY{a:Int}{k:Nat}(h:a=(k:Int))(hk:k<9223372036854775808):PV.int IntKind.u8 (IntKind.wrap IntKind.u8 (IntKind.wrap IntKind.i64 a))=enc (UInt8.ofNat k):=by
 rw[h,Yd (by omega) (by omega),Km]
theorem WM(n:Int):1<=(encI n).length∧(encI n).length<=9:=by
 unfold encI
 have h1:=Kk (YH n)
 have h2:=Kk (YG n)
 split
 ·rw[List.length_cons,Vd];omega
 ·split
  ·rw[List.length_cons,Vd];omega
  ·simp
theorem P6(M:Nat)(h:(M:Int)<18446744073709551616):(decide (0<=(M:Int))&&decide ((M:Int)<18446744073709551616))=true:=by
 simp only[Bool.and_eq_true,decide_eq_true_eq];omega
theorem a6q(f:Nat)(hf:f=104∨f=105){x:List UInt8}{q M k:Nat}{b:UInt8}(hq:x.length=q)(hM:(M:Int)<18446744073709551616)(hk:k<=8)(h:q<=9000100):Qz 5 104 105 [(.row 0 (q+List.length (List.drop 0 (List.take 1 [enc b]))) 0 (q+List.length (List.drop 0 (List.take 1 [enc b])))),(.pv (.int .u64 (M:Int))),(.pv (.int .i64 (k:Int))),(.pv (.fn f))] [(.row false 5 1 (List.map enc x++List.drop 0 (List.take 1 [enc b])))]=true:=by
 have e:List.map enc x++List.drop 0 (List.take 1 [enc b])=(x++[b]).map enc:=by rw[List.map_append];rfl
 rw[e]
 show(_==_&&Sd ((x++[b]).map enc)&&_&&_&&_&&_&&_&&_&&_&&_)=true
 rw[BU]
 simp only[Bool.and_eq_true,decide_eq_true_eq,beq_iff_eq,Bool.or_eq_true,List.length_map,List.length_append,List.length_cons,List.length_nil,List.take,List.drop]
 repeat' apply And.intro
 all_goals first|exact True.intro|omega|exact hf|exact decide_eq_true (by omega)
theorem J8{a b:Nat}{xs ys:List PV}(h:a=b)(hx:xs=ys):(AV.row 0 a 0 a,[AObj.row false 5 1 xs],([]:List AObj))=(AV.row 0 b 0 b,[AObj.row false 5 1 ys],[]):=by rw[h,hx]
theorem Hy{a b:Nat}{xs ys:List PV}(h:a=b)(hx:xs=ys):(AV.row 0 a 0 a,([]:List AObj),[AObj.row false 5 1 xs])=(AV.row 0 b 0 b,[],[AObj.row false 5 1 ys]):=by rw[h,hx]
theorem MP{n:Int}(h:n ≥ 120):encI n=UInt8.ofNat (247+ZI (YH n))::YO false (YH n) (ZI (YH n)):=by unfold encI;rw[if_pos h]
theorem Nb{n:Int}(h:n < -120):encI n=UInt8.ofNat (8 - ZI (YG n))::YO true (YG n) (ZI (YG n)):=by unfold encI;rw[if_neg (show ¬ n ≥ 120 by omega),if_pos h]
theorem Nc{n:Int}(h1 : ¬ n ≥ 120)(h2 : ¬ n < -120):encI n=[UInt8.ofNat (n+128).toNat]:=by unfold encI;rw[if_neg h1,if_neg h2]
theorem Mr{x:List UInt8}{b:UInt8}{y:List UInt8}:List.map (enc:UInt8->PV) x++List.drop 0 (List.take 1 [enc b])++y.map enc=List.map enc x++(b::y).map enc:=by rw[List.append_assoc];rfl
theorem a3o: ∀ args os,UE 5 args os=true->Ze FL os.length (Zk os.length Px fun r=>r=Ha args os) RJ [] (ZK b2z args os):=by
 intro args os h
 unfold UE at h
 split at h
 ·rename_i q q' n ty xs
  simp only[Bool.and_eq_true,decide_eq_true_eq,beq_iff_eq]at h
  obtain⟨⟨⟨⟨rfl,hc⟩,hl⟩,rfl⟩,h6⟩:=h
  obtain⟨x,rfl⟩:=Ch hc
  rw[List.length_map]at hl
  have hv:Ha [AV.row 0 q' 0 q',AV.pv (PV.int IntKind.i64 n)] [AObj.row false 5 1 (List.map enc x)]=(AV.row 0 (q'+(encI n).length) 0 (q'+(encI n).length),[AObj.row false 5 1 (x.map enc++(encI n).map enc)],[]):=rfl
  rw[hv]
  refine b8s x q' n ?_
  rw[a8w,b1x]
  have e1:=Kk (YH n)
  have e2:=Kk (YG n)
  by_cases hp:n ≥ 120
  ·rw[MP hp,List.length_cons,Vd]
   refine Zx (decide_eq_true hp) ⟨Zt (⟨YH n⟩,()) rfl (P6 _ (TS n)),?_⟩
   refine YC (v:=((ZI (YH n):Nat):Int)) (⟨YH n⟩,()) rfl rfl ?_
   rw[UY (k:=247+ZI (YH n)) (by omega) (by omega)]
   refine⟨Ja hl (by omega) _,a6q _ (.inl rfl) hl (TS n) e1.2 (by omega),?_⟩
   rw[Int.toNat_natCast,Int.toNat_natCast]
   exact J8 (by simp only[List.take,List.drop,List.length_cons,List.length_nil];omega) Mr
  ·refine Zy (fun e=>hp (of_decide_eq_true e)) ?_
   by_cases hn:n < -120
   ·rw[Nb hn,List.length_cons,Vd]
    refine Zx (decide_eq_true hn) ⟨Zt (⟨YG n⟩,()) rfl (P6 _ (RI n)),?_⟩
    refine YC (v:=((ZI (YG n):Nat):Int)) (⟨YG n⟩,()) rfl rfl ?_
    rw[UY (k:=8 - ZI (YG n)) (by omega) (by omega)]
    refine⟨Ja hl (by omega) _,a6q _ (.inr rfl) hl (RI n) e2.2 (by omega),?_⟩
    rw[Int.toNat_natCast,Int.toNat_natCast]
    exact J8 (by simp only[List.take,List.drop,List.length_cons,List.length_nil];omega) Mr
   ·rw[Nc hp hn]
    refine Zy (fun e=>hn (of_decide_eq_true e)) ?_
    rw[UY (k:=(n+128).toNat) (by omega) (by omega)]
    exact⟨Ja hl (by omega) _,J8 rfl rfl⟩
 ·cases h
theorem Qq{b:Bool}:(b||Enc.sz UInt8==1)=true:=by cases b <;> rfl
theorem Oj{x:List UInt8}(h:x.length<=9000000):(List.length ([]:List PV)==0&&0==0&&decide ((0+List.length (List.map (enc:UInt8->PV) x))*1<=1099511627776)&&decide (0+List.length (List.map (enc:UInt8->PV) x)<=1099511627776))=true:=by
 rw[List.length_map];simp;omega
theorem a5m: ∀ args os,UC args os=true->Ze Lr os.length (Zk os.length Pw fun r=>r=D5 5 args os) RF [] (ZK b6z args os):=by
 intro args os h
 unfold UC at h
 split at h
 ·rename_i p
  simp only[Bool.and_eq_true,decide_eq_true_eq]at h
  obtain⟨hc,hl⟩:=h
  obtain⟨x,rfl⟩:=Vk hc
  rw[Zw]at hl
  refine b9r x ⟨Qq,Oj hl,?_⟩
  show _=(AV.row 0 (Za (enc x)).length 0 (Za (enc x)).length,_,[AObj.row false 5 1 ((Za (enc x)).map enc)])
  rw[Zw]
  exact Hy (by rw[List.length_map,Nat.zero_add]) rfl
 ·cases h
theorem a5c(x:List UInt8)(h:x.length<=9000000):UC [(.pv (.sl 1 false (List.map enc x)))] []=true:=by
 show(Jk (List UInt8) (enc x)&&decide ((Za (enc x)).length<=9000000))=true
 rw[Xk,Zw]
 exact decide_eq_true h
theorem LU(x:List UInt8)(n:Int){q:Nat}(hq:x.length=q)(h:q<=9000000):UE 5 [.row 0 q 0 q,.pv (.int .i64 n)] [.row false 5 1 (x.map enc)]=true:=by
 show(_==_&&Sd (x.map enc)&&(x.map (enc:UInt8->PV)).length==q&&q==q&&decide (q<=9000000))=true
 rw[BU,List.length_map,hq]
 simp[h]
theorem Aw{x y:List UInt8}:List.drop 0 (List.take (x.length+y.length) (List.map (enc:UInt8->PV) x++List.map enc y))=(x++y).map enc:=by
 rw[List.take_of_length_le (by simp),List.drop_zero,List.map_append]
theorem KO(s:List UInt8):Zr s=s.map enc:=rfl
theorem a6x: ∀ args os,JD 5 args os=true->Ze LG os.length (Zk os.length Rb fun r=>r=Pk args os) Pf [] (ZK b4l args os):=by
 intro args os h
 unfold JD at h
 split at h
 ·rename_i q q' s ty xs
  simp only[Bool.and_eq_true,decide_eq_true_eq,beq_iff_eq]at h
  obtain⟨⟨⟨⟨⟨rfl,hc⟩,hl⟩,rfl⟩,h6⟩,h7⟩:=h
  obtain⟨x,rfl⟩:=Ch hc
  rw[List.length_map]at hl
  have he:=WM s.length
  refine c1d x q' s ⟨LU x _ hl (by omega),?_,?_⟩
  ·rw[KO]
   simp only[List.length_append,List.length_map,Bool.and_eq_true,decide_eq_true_eq,beq_iff_eq]
   exact⟨⟨⟨by omega,trivial⟩,by omega⟩,by omega⟩
  ·show _=(AV.row 0 (q'+(encS s).length) 0 (q'+(encS s).length),[AObj.row false 5 1 (x.map enc++(encS s).map enc)],[])
   unfold encS
   exact J8 (by rw[KO,List.length_map,List.length_append];omega) (by rw[KO,List.map_append,List.append_assoc])
 ·cases h
theorem a0g: ∀ x:List UInt8×Str×Unit,(decide (x.1.length<=1000000)&&decide (x.2.1.s.length<=1000000))=true->Ze PE 0 (Zg CV (ZB (x.1++encS x.2.1.s))) BZ [] (Y2 a6g (encL x)):=by
 rintro⟨x,⟨s⟩,⟨⟩⟩ h
 simp only[Bool.and_eq_true,decide_eq_true_eq]at h
 obtain⟨h1,h2⟩:=h
 refine b4p x s ⟨a5c x (by omega),?_⟩
 rw[Zw]
 refine⟨?_,by simp,?_⟩
 ·show(_==_&&Sd (x.map enc)&&(x.map (enc:UInt8->PV)).length==x.length&&x.length==x.length&&decide (x.length<=9000000)&&decide (s.length<=9000000))=true
  rw[BU,List.length_map]
  simp
  omega
 ·rw[Aw]
  exact Y7 (x:=x++encS s) rfl
end Go.Pl

namespace Go.Pl
open Go.RowKit
open Enc (enc dec is)
open EncL (encL decL isL)
theorem Tn{ts:List Coef}{i:Nat}(h:i<ts.length):(ts.drop i).flatMap XY=XY ts[i]++(ts.drop (i+1)).flatMap XY:=by
 rw[List.drop_eq_getElem_cons h,List.flatMap_cons]
theorem Cw{α:Type}[Enc α]{l:List α}{i:Nat}(h:i<l.length):(l.map (enc:α->PV)).getD i default=enc l[i]:=by
 rw[List.getD_eq_getElem?_getD,List.getElem?_map,List.getElem?_eq_getElem h];rfl
theorem Ff(x:List UInt8)(n:Int)(h:x.length<=1000000):preT (fun(x:List UInt8×Int×Unit)=>decide (List.length (Prod.fst x)<=1000000)) [(.sl 1 false (List.map enc x)),(.int .i64 n)]=true:=
 Zt (x,n,()) rfl (decide_eq_true h)
theorem OO(x s:List UInt8)(h:x.length<=1000000)(hs:s.length<=1000000):preT (fun(x:List UInt8×Str×Unit)=>decide (List.length (Prod.fst x)<=1000000)&&decide (List.length (Str.s (Prod.fst (Prod.snd x)))<=1000000)) [(.sl 1 false (List.map enc x)),(.str s)]=true:=
 Zt (x,(⟨s⟩:Str),()) rfl (by rw[Bool.and_eq_true];exact⟨decide_eq_true h,decide_eq_true hs⟩)
theorem Dc: ∀ (ts:List Coef),ts.length<=(ts.flatMap XY).length
 | []=>Nat.le_refl 0
 | t::ts=>by
  have h:=Dc ts
  have h2:=WM t.c
  rw[List.flatMap_cons,List.length_append,List.length_cons]
  have h4:(XY t).length=(encS t.v.s).length+(encI t.c).length:=by unfold XY;rw[List.length_append]
  omega
theorem Lj(x:List UInt8)(l:Lin): ∀ (n i:Nat) (y:List UInt8),n+i=l.t.length->l.t.length<1000000->(y++(l.t.drop i).flatMap XY).length<=1000000 ->
  At UF 0 (Zg VE (ZB (y++(l.t.drop i).flatMap XY))) Vw 0 38 [(3,(.ptr 0 0)),(5,(.pv (.sl 1 false (List.map enc y)))),(6,(.pv (.int .i64 (i:Int))))] [(.obj (.box [(.pv (.int .i64 (Lin.k l))),(.pv (.sl 2 false (List.map enc (Lin.t l))))]))]:=by
 intro n
 induction n with
 | zero=>
  intro i y hn hl h
  refine Nr x l y i (Zy (by simp;omega) (Y7 (x:=y) ?_))
  rw[List.drop_of_length_le (by omega),List.flatMap_nil,List.append_nil]
 | succ n ih=>
  intro i y hn hl h
  have hi:i<l.t.length:=by omega
  have e:=Tn hi
  rw[e]at h ⊢
  have e1:y++(XY l.t[i]++(l.t.drop (i+1)).flatMap XY)=(y++encS l.t[i].v.s++encI l.t[i].c)++(l.t.drop (i+1)).flatMap XY:=by unfold XY;simp only[List.append_assoc]
  rw[e1]at h ⊢
  have h3:=ih (i+1) _ (by omega) hl h
  simp only[List.length_append]at h
  have hs:l.t[i].v.s.length<=1000000:=by unfold encS at h;simp only[List.length_append]at h;omega
  have hg:(decide (0<=(i:Int))&&decide (Int.toNat i<List.length (List.map enc (Lin.t l)))&&Enc.sz Coef==2)=true:=by simp[hi];rfl
  refine Nr x l y i (Zx (by simp;omega) ⟨hg,?_⟩)
  rw[Int.toNat_natCast,Cw hi,next (by omega)]
  refine⟨l.t[i],rfl,OO y _ (by omega) hs,?_⟩
  refine YC (v:=y++encS l.t[i].v.s) (y,l.t[i].v,()) rfl rfl ⟨by simpa using hg,l.t[i],rfl,Ff _ _ (by rw[List.length_append];omega),?_⟩
  exact YC (v:=y++encS l.t[i].v.s++encI l.t[i].c) (y++encS l.t[i].v.s,l.t[i].c,()) rfl rfl h3
theorem a0f: ∀ x:List UInt8×Lin×Unit,decide ((x.1++Zd x.2.1).length<=1000000)=true->Ze UF 0 (Zg VE (ZB (x.1++Zd x.2.1))) Vw [] (Y2 a5j (encL x)):=by
 rintro⟨x,l,⟨⟩⟩ h
 have h:(x++Zd l).length<=1000000:=of_decide_eq_true h
 have e:x++Zd l=x++encI l.k++encI l.t.length++(l.t.drop 0).flatMap XY:=by unfold Zd;rw[List.drop_zero];simp only[List.append_assoc]
 show Ze UF 0 (Zg VE (ZB (x++Zd l))) Vw [] _
 rw[e]at h ⊢
 have h2:=Dc l.t
 have h3:=Lj x l l.t.length 0 _ rfl (by rw[List.length_append,List.drop_zero]at h;have:=WM l.k;simp only[List.length_append]at h;omega) h
 simp only[List.length_append]at h
 refine b5p x l ⟨Ff x l.k (by omega),YC (v:=x++encI l.k) (x,l.k,()) rfl rfl ⟨?_,?_⟩⟩
 ·exact Ff _ _ (by rw[List.length_append];omega)
 ·rw[List.length_map]
  exact YC (v:=x++encI l.k++encI l.t.length) (x++encI l.k,(l.t.length:Int),()) rfl rfl h3
theorem Rz(R:Nat):Int.fdiv (R:Int) (2 ^ min (Int.toNat 8) (IntKind.bits IntKind.u64))=((R / 256:Nat):Int):=by
 have h:(2:Int) ^ min (Int.toNat 8) (IntKind.bits IntKind.u64)=((256:Nat):Int):=by decide
 rw[h,MB]
theorem Di(n:Int)(M:Nat)(hM:(M:Int)<18446744073709551616): ∀ (f k:Nat),f+k=8->1<=k ->
  At Xx 0 (Zg YK (ZB (((UN M f k:Nat):Int),(⟨M⟩:U64)))) XD 0 31 [(4,(.pv (.int .u64 (M:Int)))),(5,(.pv (.int .i64 (k:Int)))),(6,(.pv (.int .u64 ((M / 256 ^ k:Nat):Int))))] []:=by
 intro f
 induction f with
 | zero=>
  intro k hk h1
  have:M / 256 ^ k=0:=by
   obtain rfl:k=8:=by omega
   have h256:(256:Nat) ^ 8=18446744073709551616:=by decide
   exact Nat.div_eq_of_lt (by omega)
  rw[this]
  exact GY n M _ k (Zy (by simp) (Y7 (x:=(((k:Nat):Int),(⟨M⟩:U64))) rfl))
 | succ f ih=>
  intro k hk h1
  have h2:=ih (k+1) (by omega) (by omega)
  rw[UN]
  by_cases h:0<M / 256 ^ k
  ·rw[if_pos (show k<8∧0<M / 256 ^ k from⟨by omega,h⟩)]
   refine GY n M _ k (Zx (decide_eq_true (Int.natCast_pos.mpr h)) ?_)
   rw[Rz,next (by omega),Nat.div_div_eq_div_mul,<- Nat.pow_succ]
   exact h2
  ·rw[if_neg (show ¬ (k<8∧0<M / 256 ^ k)from fun e=>h e.2)]
   exact GY n M _ k (Zy (fun e=>h (Int.natCast_pos.mp (of_decide_eq_true e))) (Y7 (x:=(((k:Nat):Int),(⟨M⟩:U64))) rfl))
theorem a0k(n:Int):IntKind.wrap IntKind.u64 (IntKind.wrap IntKind.i64 (-121 - n))=(YG n:Int):=by
 rw[TB];unfold YG;omega
theorem EW(n:Int):IntKind.wrap IntKind.u64 (IntKind.wrap IntKind.u64 n - 120)=(YH n:Int):=by
 rw[UQ,UQ];unfold YH;omega
theorem LC: ∀ x:Int×Unit,true=true->Ze Xx 0 (Zg YK (ZB (XI x.1))) XD [] (Y2 a2z (encL x)):=by
 rintro⟨n,⟨⟩⟩ _
 have hp:=Di n (YH n) (TS n) 7 1 (by omega) (by omega)
 have hn:=Di n (YG n) (RI n) 7 1 (by omega) (by omega)
 refine b1d n ?_
 rw[a0k,EW,Rz,Rz]
 show if _ then _ else _
 by_cases h1:n ≥ -120
 ·refine Zx (decide_eq_true h1) ?_
  by_cases h2:n<=119
  ·refine Zx (decide_eq_true h2) (Y7 (x:=((0:Int),(⟨0⟩:U64))) ?_)
   unfold XI
   rw[if_pos ⟨h1,h2⟩]
  ·refine Zy (fun e=>h2 (of_decide_eq_true e)) (Zy (by simp;omega) ?_)
   have e:XI n=((ZI (YH n):Int),⟨YH n⟩):=by unfold XI;rw[if_neg (fun e=>h2 e.2),if_neg (show ¬ n<0 by omega)]
   show At Xx 0 (Zg YK (ZB (XI n))) _ _ _ _ _
   rw[e]
   exact hp
 ·refine Zy (fun e=>h1 (of_decide_eq_true e)) (Zx (by simp;omega) ?_)
  have e:XI n=((ZI (YG n):Int),⟨YG n⟩):=by unfold XI;rw[if_neg (fun e=>h1 e.1),if_pos (show n<0 by omega)]
  show At Xx 0 (Zg YK (ZB (XI n))) _ _ _ _ _
  rw[e]
  exact hn
theorem UD: ∀ (x:List UInt8),YU (x.map enc)=x
 | []=>rfl
 | c::x=>by
  show UInt8.ofNat ((c.toNat:Int)).toNat::YU (x.map enc)=c::x
  rw[UD x,Int.toNat_natCast,UInt8.ofNat_toNat]
theorem R8: ∀ (x:List UInt8),(x.map (enc:UInt8->PV)).all DC=true
 | []=>rfl
 | c::x=>by
  have:=UInt8.toNat_lt c
  rw[List.map_cons,List.all_cons,R8 x,Bool.and_true]
  show(decide (0<=(c.toNat:Int))&&decide ((c.toNat:Int)<256))=true
  simp only[Bool.and_eq_true,decide_eq_true_eq];omega
theorem a3f: ∀ x:List UInt8×List UInt8×Unit,true=true->Ze TR 0 (Zg Ah (ZB (decide (x.1=x.2.1)))) Bb [] (Y2 a3v (encL x)):=by
 rintro⟨x,y,⟨⟩⟩ _
 refine b3n x y ⟨by rw[R8,Bool.true_and];exact Qq,by rw[R8,Bool.true_and];exact Qq,?_⟩
 rw[UD,UD]
 exact Y7 (x:=(x==y)) (by by_cases h:x=y <;> simp[h])
theorem TD{q:Nat}(h:q<=10000100)(b:PV):(q==q&&q==q&&decide ((q+List.length (List.drop 0 (List.take 1 [b])))*1<=1099511627776)&&decide (q+List.length (List.drop 0 (List.take 1 [b]))<=1099511627776))=true:=by
 simp
 omega
theorem a4c(X:Nat):PV.int IntKind.u8 (IntKind.wrap IntKind.u8 (255 - IntKind.wrap IntKind.u8 (X:Int)))=enc (255 - UInt8.ofNat X:UInt8):=by
 show _=PV.int IntKind.u8 (((255 - UInt8.ofNat X:UInt8).toNat:Nat):Int)
 have h1:(UInt8.ofNat X).toNat=X % 256:=UInt8.toNat_ofNat'
 rw[JI,JI,UInt8.toNat_sub,h1]
 congr 1
 simp
 omega
theorem Sy{G:AV×List AObj×List AObj->Prop}(x:List UInt8)(n:Int)(t:Bool)(ht:t=decide (n<0))(M:Nat): ∀ (j q:Nat) (y:List UInt8),j<=8->y.length=q->q+j<=10000100 ->
  G (.row 0 (q+j) 0 (q+j),[],[.row false 5 1 ((y++YO t M j).map enc)]) ->
  At Qd 0 (Zk 0 VQ G) VR 0 60 [(1,(.pv (.int .i64 n))),(5,(.row 0 q 0 q)),(7,(.pv (.int .u64 (M:Int)))),(8,(.pv (.int .i64 ((j:Int) - 1))))] [(.obj (.row false 5 1 (y.map enc)))]:=by
 intro j
 induction j with
 | zero=>
  intro q y hj hq h hG
  rw[YO,List.append_nil]at hG
  exact Om x n y q M _ (Zy (by simp) hG)
 | succ j ih=>
  intro q y hj hq h hG
  have hi:((j+1:Nat):Int) - 1=(j:Int):=by omega
  have hd:IntKind.wrap IntKind.i64 ((j:Int) - 1)=(j:Int) - 1:=Yd (by omega) (by omega)
  have h':=ih (q+1) (y++[byT t (M / 256 ^ j)]) (by omega) (by simp[hq]) (by omega) (by
   rw[List.append_assoc,show [byT t (M / 256 ^ j)]++YO t M j=YO t M (j+1)from rfl,show q+1+j=q+(j+1) by omega]
   exact hG)
  rw[(List.map_append:List.map (enc:UInt8->PV) (y++[byT t (M / 256 ^ j)])=_)]at h'
  rw[hi]
  refine Om x n y q M _ (Zx (by simp) ⟨TV j (by omega),?_⟩)
  rw[Rp M j (by omega),hd,Km,a4c]
  by_cases hn:n<0
  ·obtain rfl:t=true:=by rw[ht];exact decide_eq_true hn
   exact Zx (decide_eq_true hn) ⟨Ja hq (by omega) _,h'⟩
  ·obtain rfl:t=false:=by rw[ht];exact decide_eq_false hn
   exact Zy (fun e=>hn (of_decide_eq_true e)) ⟨Ja hq (by omega) _,h'⟩
theorem a8s: ∀ args os,XQ args os=true->Ze Qd os.length (Zk os.length VQ fun r=>r=XL 5 args os) VR [] (ZK b4c args os):=by
 intro args os h
 unfold XQ at h
 split at h
 ·rename_i p n
  simp only[Bool.and_eq_true,decide_eq_true_eq]at h
  obtain⟨hc,hl⟩:=h
  obtain⟨x,rfl⟩:=Vk hc
  rw[Zw]at hl
  have hv:XL 5 [AV.pv (enc x),AV.pv (PV.int IntKind.i64 n)] []=(.row 0 (x++encI n).length 0 (x++encI n).length,[],[.row false 5 1 ((x++encI n).map enc)]):=by
   show(AV.row 0 (Za (enc x)++encI n).length 0 _,_,_)=_
   rw[Zw]
  rw[hv]
  refine c0e x n ⟨Qq,Oj hl,YC (v:=XI n) (n,()) rfl rfl ?_⟩
  rw[List.nil_append,List.length_map,Nat.zero_add]
  have e1:=Kk (YH n)
  have e2:=Kk (YG n)
  by_cases h1:n ≥ -120∧n<=119
  ·rw[show XI n=((0:Int),(⟨0⟩:U64)) by unfold XI;rw[if_pos h1]]
   rw[UY (k:=(n+128).toNat) (by omega) (by omega)]
   refine Zx rfl ⟨TD (by omega) _,?_⟩
   rw[Nc (by omega) (by omega)]
   exact Hy (by simp) (by rw[List.map_append];rfl)
  ·by_cases h2:n<0
   ·rw[show XI n=((ZI (YG n):Int),(⟨YG n⟩:U64)) by unfold XI;rw[if_neg h1,if_pos h2]]
    rw[UY (a:=8 - (ZI (YG n):Int)) (k:=8 - ZI (YG n)) (by omega) (by omega),show IntKind.wrap IntKind.i64 ((ZI (YG n):Int) - 1)=(ZI (YG n):Int) - 1 from Yd (by omega) (by omega)]
    refine Zy (by simp;omega) (Zx (decide_eq_true h2) ⟨TD (by omega) _,?_⟩)
    rw[Nb (show n < -120 by omega)]
    have hl:=Sy (G:=fun r=>r=(AV.row 0 (x++UInt8.ofNat (8 - ZI (YG n))::YO true (YG n) (ZI (YG n))).length 0 (x++UInt8.ofNat (8 - ZI (YG n))::YO true (YG n) (ZI (YG n))).length,[],[.row false 5 1 ((x++UInt8.ofNat (8 - ZI (YG n))::YO true (YG n) (ZI (YG n))).map enc)])) x n true (by simp[h2]) (YG n) (ZI (YG n)) (x.length+1) (x++[UInt8.ofNat (8 - ZI (YG n))]) (by omega) (by simp) (by omega)
     (Hy (by simp[Vd];omega) (by simp))
    rw[List.map_append (l₁:=x) (l₂:=[UInt8.ofNat (8 - ZI (YG n))])]at hl
    exact hl
   ·rw[show XI n=((ZI (YH n):Int),(⟨YH n⟩:U64)) by unfold XI;rw[if_neg h1,if_neg h2]]
    rw[UY (a:=247+(ZI (YH n):Int)) (k:=247+ZI (YH n)) (by omega) (by omega),show IntKind.wrap IntKind.i64 ((ZI (YH n):Int) - 1)=(ZI (YH n):Int) - 1 from Yd (by omega) (by omega)]
    refine Zy (by simp;omega) (Zy (fun e=>h2 (of_decide_eq_true e)) ⟨TD (by omega) _,?_⟩)
    rw[MP (show n ≥ 120 by omega)]
    have hl:=Sy (G:=fun r=>r=(AV.row 0 (x++UInt8.ofNat (247+ZI (YH n))::YO false (YH n) (ZI (YH n))).length 0 (x++UInt8.ofNat (247+ZI (YH n))::YO false (YH n) (ZI (YH n))).length,[],[.row false 5 1 ((x++UInt8.ofNat (247+ZI (YH n))::YO false (YH n) (ZI (YH n))).map enc)])) x n false (by simp[h2]) (YH n) (ZI (YH n)) (x.length+1) (x++[UInt8.ofNat (247+ZI (YH n))]) (by omega) (by simp) (by omega)
     (Hy (by simp[Vd];omega) (by simp))
    rw[List.map_append (l₁:=x) (l₂:=[UInt8.ofNat (247+ZI (YH n))])]at hl
    exact hl
 ·cases h
theorem b4o{x:List UInt8}:(frz (.row 0 x.length 0 x.length)).run (Yb [.row false 5 1 (x.map enc)])=some (enc x,[.obj (.row true 5 1 (x.map enc))]):=by
 have:(PV.sl 1 false (List.drop 0 (List.take x.length (x.map (enc:UInt8->PV)))))=enc x:=by
  rw[List.take_of_length_le (by simp),List.drop_zero];rfl
 rw[<- this]
 simp[frz,HM.run,Yb]
theorem EP{P:Program}{f:Nat}(h:Zu P f XQ (XL 5)):ZC P f (fun x:List UInt8×Int×Unit=>decide (x.1.length<=1000000)) (fun x:List UInt8×Int×Unit=>x.1++encI x.2.1):=ZC.of_own h fun a ha=>by
 obtain⟨x,n,⟨⟩⟩:=a
 have ha:x.length<=1000000:=by simpa using ha
 refine⟨.row 0 (x++encI n).length 0 (x++encI n).length,[.row false 5 1 ((x++encI n).map enc)],_,_,?_,?_,b4o,.refl _⟩
 ·show(Jk (List UInt8) (enc x)&&decide ((Za (enc x)).length<=9000000))=true
  rw[Xk,Zw,decide_eq_true (by omega)];rfl
 ·show(AV.row 0 (Za (enc x)++encI n).length 0 _,_,_)=_
  rw[Zw]
theorem Lf: ∀ x:List UInt8×Str×Unit,(decide (x.1.length<=1000000)&&decide (x.2.1.s.length<=1000000))=true->Ze Bn 0 (Zg Gv (ZB (x.1++encS x.2.1.s))) Gp [] (Y2 a1a (encL x)):=by
 rintro⟨x,⟨s⟩,⟨⟩⟩ h
 simp only[Bool.and_eq_true,decide_eq_true_eq]at h
 obtain⟨h1,h2⟩:=h
 have he:=WM s.length
 refine b1o x s ⟨?_,?_⟩
 ·show(Jk (List UInt8) (enc x)&&decide ((Za (enc x)).length<=9000000))=true
  rw[Xk,Zw,decide_eq_true (by omega)];rfl
 ·rw[Zw,KO]
  refine⟨?_,by simp;omega,?_⟩
  ·simp only[List.length_append,List.length_map,Bool.and_eq_true,decide_eq_true_eq,beq_iff_eq]
   exact⟨⟨⟨trivial,trivial⟩,by omega⟩,by omega⟩
  ·have e:(x++encI s.length).length+(List.map (enc:UInt8->PV) s).length=(x++encI s.length).length+s.length:=by rw[List.length_map]
   rw[e,Aw]
   exact Y7 (x:=x++encI s.length++s) (by unfold encS;rw[List.append_assoc])
end Go.Pl

namespace Go.Pl
open Go.RowKit
open Enc (enc dec is)
open EncL (encL decL isL)
theorem SC(M:Nat)(c:UInt8)(hM:M<72057594037927936):IntKind.wrap IntKind.u64 (↑(BitVec.toNat (BitVec.ofInt (IntKind.bits IntKind.u64) (IntKind.wrap IntKind.u64 ((M:Int)*2 ^ min (Int.toNat 8) (IntKind.bits IntKind.u64))) ||| BitVec.ofInt (IntKind.bits IntKind.u64) (IntKind.wrap IntKind.u64 (↑(UInt8.toNat c):Int)))):Int)=((M*256+c.toNat:Nat):Int):=by
 have hc:=UInt8.toNat_lt c
 have hp:(2:Int) ^ min (Int.toNat 8) (IntKind.bits IntKind.u64)=256:=by decide
 have h1:IntKind.wrap IntKind.u64 ((M:Int)*256)=((M*256:Nat):Int):=by rw[UQ];omega
 have h2:IntKind.wrap IntKind.u64 (c.toNat:Int)=((c.toNat:Nat):Int):=by rw[UQ];omega
 have h3:((BitVec.ofInt (IntKind.bits IntKind.u64) ((M*256:Nat):Int)) ||| BitVec.ofInt (IntKind.bits IntKind.u64) ((c.toNat:Nat):Int)).toNat=M*256+c.toNat:=by
  have hb:IntKind.bits IntKind.u64=64:=rfl
  rw[hb,BitVec.toNat_or,BitVec.ofInt_natCast,BitVec.ofInt_natCast,BitVec.toNat_ofNat,BitVec.toNat_ofNat,Nat.mod_eq_of_lt (by omega),Nat.mod_eq_of_lt (by omega)]
  have h4:=Nat.shiftLeft_add_eq_or_of_lt (i:=8) (b:=c.toNat) (by omega) M
  rw[Nat.shiftLeft_eq]at h4
  exact h4.symm
 rw[hp,h1,h2,h3,UQ]
 omega
theorem Uq{l:List UInt8}{i:Nat}(h:i<l.length):AV.pv (PV.rptr (PV.cells (List.getD (List.map (enc:UInt8->PV) l) (Int.toNat (i:Int)) default)))=AV.pv (PV.rptr (PV.cells (enc l[i]))):=by
 rw[Int.toNat_natCast,Cw h]
theorem JJ{l:List UInt8}{i:Nat}(h:i<l.length):(decide (0<=(i:Int))&&decide (Int.toNat (i:Int)<List.length (List.map (enc:UInt8->PV) l))&&Enc.sz UInt8==1)=true:=by
 rw[Int.toNat_natCast,List.length_map,decide_eq_true (show(0:Int)<=i by omega),decide_eq_true h];rfl
def b4a(t:Bool)(c:UInt8)(x:List UInt8)(k:Int)(G:PV->Prop)(m:Int):Prop:=if (decide (m<=9223372036854775687))=true then(decide (0<=IntKind.wrap IntKind.i64 (1+k))&&true&&(List.isEmpty (List.map enc (c::x))||Enc.sz UInt8==1)&&decide (Int.toNat (IntKind.wrap IntKind.i64 (1+k))<=List.length (List.map enc (c::x)))&&decide (List.length (List.map enc (c::x))<=List.length (List.map enc (c::x))))=true∧(G ((.tup [(.int .i64 (bif t then IntKind.wrap IntKind.i64 ((-121:Int) - IntKind.wrap IntKind.i64 m)else IntKind.wrap IntKind.i64 (IntKind.wrap IntKind.i64 m+120))),(.sl 1 false (List.drop (Int.toNat (IntKind.wrap IntKind.i64 (1+k))) (List.take (List.length (List.map enc (c::x))) (List.map enc (c::x))))),(.bool true)])))else(G ((.tup [(.int .i64 0),(.sl 0 true []),(.bool false)])))
theorem c1o: ∀ i,i<=7->256 ^ i<=72057594037927936:=fun i h=>Nat.le_trans (b0p h) (by decide)
theorem RG{t:Bool}{y:List UInt8}{M i:Nat}(h:M<256 ^ i)(c:UInt8):M*256+(QM t c).toNat<256 ^ (i+1):=by
 have:=UInt8.toNat_lt (QM t c)
 rw[Nat.pow_succ]
 omega
theorem SX{t:Bool}{y:List UInt8}{M i:Nat}(h:i<y.length):Xv t M (y.drop i)=Xv t (M*256+(QM t y[i]).toNat) (y.drop (i+1)):=by
 rw[List.drop_eq_getElem_cons h];rfl
theorem Fs{G:PV->Prop}(t:Bool)(c:UInt8)(x y:List UInt8)(k:Nat)(hk:k<=8)(hy:y.length=k): ∀ (j i M:Nat),i+j=k->1<=i->M<256 ^ i->b4a t c x k G (Xv t M (y.drop i):Int) ->
  At YE 0 (Zg Yh G) Yl 0 94 [(0,.pv (enc (c::x))),(6,.pv (.fn (bif t then 105 else 104))),(7,.pv (.int .i64 (k:Int))),(8,.pv (.bool t)),(9,.pv (.int .u64 (M:Int))),(41,.pv (enc y)),(42,.pv (.int .i64 (k:Int))),(43,.pv (.int .i64 (i:Int)))] []:=by
 intro j
 induction j with
 | zero=>
  intro i M hj hi hM hE
  rw[List.drop_of_length_le (by omega),Xv]at hE
  cases t
  ·exact GV c x y k M i k (Zy (by simp;omega) hE)
  ·exact G9 c x y k M i k (Zy (by simp;omega) hE)
 | succ j ih=>
  intro i M hj hi hM hE
  have hl:i<y.length:=by omega
  have hi0:((i:Int)==0)≠true:=by simp;omega
  have hb:=Nat.lt_of_lt_of_le hM (c1o i (by omega))
  rw[SX hl]at hE
  have h':=ih (i+1) _ (by omega) (by omega) (RG (t:=t) (y:=y) hM y[i]) hE
  cases t
  ·refine GV c x y k M i k (Zx (by simp;omega) ⟨JJ hl,y[i],Uq hl,Zt (y[i],()) rfl rfl,Zz (y[i],()) rfl (Zy hi0 ?_)⟩)
   rw[SC M _ hb,next (by omega)]
   exact h'
  ·refine G9 c x y k M i k (Zx (by simp;omega) ⟨JJ hl,y[i],Uq hl,Zt (y[i],()) rfl rfl,Zz (y[i],()) rfl (Zy hi0 ?_)⟩)
   rw[SC M _ hb,next (by omega)]
   exact h'
theorem MW{G:PV->Prop}(t:Bool)(c:UInt8)(x y:List UInt8)(k:Nat)(h1:1<=k)(hk:k<=8)(hy:y.length=k)
  (hz:1<k∧QM t (y.headD 0)=0->G ((.tup [(.int .i64 0),(.sl 0 true []),(.bool false)]))) (hE : ¬ (1<k∧QM t (y.headD 0)=0)->b4a t c x k G (Xv t 0 y:Int)) :
  At YE 0 (Zg Yh G) Yl 0 94 [(0,.pv (enc (c::x))),(6,.pv (.fn (bif t then 105 else 104))),(7,.pv (.int .i64 (k:Int))),(8,.pv (.bool t)),(9,.pv (.int .u64 0)),(41,.pv (enc y)),(42,.pv (.int .i64 (k:Int))),(43,.pv (.int .i64 0))] []:=by
 obtain⟨b,r,rfl⟩ : ∃ b r,y=b::r:=by cases y;simp at hy;omega;exact⟨_,_,rfl⟩
 have hn : ¬ (1<k∧QM t b=0)->At YE 0 (Zg Yh G) Yl 0 94 [(0,.pv (enc (c::x))),(6,.pv (.fn (bif t then 105 else 104))),(7,.pv (.int .i64 (k:Int))),(8,.pv (.bool t)),(9,.pv (.int .u64 ((0*256+(QM t b).toNat:Nat):Int))),(41,.pv (enc (b::r))),(42,.pv (.int .i64 (k:Int))),(43,.pv (.int .i64 ((0+1:Nat):Int)))] []:=fun hc=>
  Fs t c x (b::r) k hk hy (k - 1) 1 _ (by omega) (by omega) (RG (t:=t) (y:=[b]) (M:=0) (i:=0) (by decide) b) (hE hc)
 have hl:0<(b::r).length:=by simp
 have h8 : ∀ G':Prop,(1<k∧QM t b=0->G')-> ∀ H:Prop,(¬ (1<k∧QM t b=0)->H)->if (((QM t b).toNat:Int)==0)=true then if (decide ((k:Int)>1))=true then G' else H else H:=by
  intro G' hg H hh
  by_cases e:QM t b=0
  ·refine Zx (by rw[e];rfl) ?_
   by_cases e2:1<k
   ·exact Zx (decide_eq_true (by omega)) (hg ⟨e2,e⟩)
   ·exact Zy (by simp;omega) (hh fun h=>e2 h.1)
  ·refine Zy (fun h=>e (K3 ?_)) (hh fun h=>e h.2)
   have h:=eq_of_beq h
   show(QM t b).toNat=0
   omega
 cases t
 ·refine GV c x (b::r) k (0:Nat) (0:Nat) k (Zx (by simp;omega) ⟨JJ hl,b,Uq hl,Zt (b,()) rfl rfl,Zz (b,()) rfl (Zx rfl ?_)⟩)
  rw[SC 0 _ (by omega),next (by omega)]
  exact h8 _ hz _ hn
 ·refine G9 c x (b::r) k (0:Nat) (0:Nat) k (Zx (by simp;omega) ⟨JJ hl,b,Uq hl,Zt (b,()) rfl rfl,Zz (b,()) rfl (Zx rfl ?_)⟩)
  rw[SC 0 _ (by omega),next (by omega)]
  exact h8 _ hz _ hn
theorem XG:ZB (w3 none) ((.tup [(.int .i64 0),(.sl 0 true []),(.bool false)])):=⟨rfl,rfl⟩
theorem U6(n:Int)(r:List UInt8):ZB (w3 (some (n,r))) ((.tup [(.int .i64 n),(.sl 1 false (r.map enc)),(.bool true)])):=Y7 (x:=w3 (some (n,r))) rfl
theorem R5{c:UInt8}{x:List UInt8}{k:Nat}(h:k<=8):List.drop (Int.toNat (IntKind.wrap IntKind.i64 (1+(k:Int)))) (List.take (List.length (List.map (enc:UInt8->PV) (c::x))) (List.map enc (c::x)))=(x.drop k).map enc:=by
 rw[Yd (by omega) (by omega),show Int.toNat (1+(k:Int))=k+1 by omega,List.take_of_length_le (Nat.le_refl _),List.map_cons,List.drop_succ_cons,List.map_drop]
theorem Lu{c:UInt8}{x:List UInt8}{k:Nat}(h:k<=8)(hx:k<=x.length):(decide (0<=IntKind.wrap IntKind.i64 (1+(k:Int)))&&true&&(List.isEmpty (List.map (enc:UInt8->PV) (c::x))||Enc.sz UInt8==1)&&decide (Int.toNat (IntKind.wrap IntKind.i64 (1+(k:Int)))<=List.length (List.map (enc:UInt8->PV) (c::x)))&&decide (List.length (List.map (enc:UInt8->PV) (c::x))<=List.length (List.map (enc:UInt8->PV) (c::x))))=true:=by
 rw[Yd (by omega) (by omega),Qq]
 simp
 omega
theorem ES(t:Bool)(c:UInt8)(x:List UInt8)(k m:Nat)(hk:k<=8)(hx:k<=x.length):b4a t c x k (ZB (w3 (if m<=9223372036854775687 then some (if t=true then -121 - (m:Int)else(m:Int)+120,x.drop k)else none))) m:=by
 unfold b4a
 by_cases h:m<=9223372036854775687
 ·rw[if_pos h]
  refine Zx (decide_eq_true (by omega)) ⟨Lu hk hx,?_⟩
  rw[R5 hk]
  have e:(bif t then IntKind.wrap IntKind.i64 ((-121:Int) - IntKind.wrap IntKind.i64 (m:Int))else IntKind.wrap IntKind.i64 (IntKind.wrap IntKind.i64 (m:Int)+120))=if t=true then -121 - (m:Int)else(m:Int)+120:=by
   rw[Yd (n:=(m:Int)) (by omega) (by omega)]
   cases t
   ·exact Yd (by omega) (by omega)
   ·exact Yd (by omega) (by omega)
  rw[e]
  exact U6 _ _
 ·rw[if_neg h]
  exact Zy (by simp;omega) XG
theorem Oi(c:UInt8):IntKind.wrap IntKind.i64 (PV.asInt (List.getD (PV.cells (enc c)) 0 default))=(c.toNat:Int):=by
 have:=UInt8.toNat_lt c
 show IntKind.wrap IntKind.i64 (c.toNat:Int)=_
 exact Yd (by omega) (by omega)
theorem a1t{c:UInt8}{x:List UInt8}{k:Nat}(h:k<=8):List.drop (Int.toNat 1) (List.take (Int.toNat (IntKind.wrap IntKind.i64 (1+(k:Int)))) (List.map (enc:UInt8->PV) (c::x)))=(x.take k).map enc:=by
 rw[Yd (by omega) (by omega),show Int.toNat (1+(k:Int))=k+1 by omega,List.map_cons,List.take_succ_cons,List.map_take]
 rfl
theorem b9n{c:UInt8}{x:List UInt8}{k:Nat}(h:k<=8)(hx:k<=x.length):(decide ((0:Int)<=1)&&decide (0<=IntKind.wrap IntKind.i64 (1+(k:Int)))&&(List.isEmpty (List.map (enc:UInt8->PV) (c::x))||Enc.sz UInt8==1)&&decide (Int.toNat 1<=Int.toNat (IntKind.wrap IntKind.i64 (1+(k:Int))))&&decide (Int.toNat (IntKind.wrap IntKind.i64 (1+(k:Int)))<=List.length (List.map (enc:UInt8->PV) (c::x))))=true:=by
 rw[Yd (by omega) (by omega),Qq]
 simp
 omega
theorem a9s{c:UInt8}{x:List UInt8}{k:Nat}(h:k<=8):(decide ((↑(List.length (List.map (enc:UInt8->PV) (c::x))):Int)<IntKind.wrap IntKind.i64 (1+(k:Int))))=decide (x.length<k):=by
 rw[Yd (by omega) (by omega)]
 simp
 omega
theorem SH{G:PV->Prop}(t:Bool)(c:UInt8)(x:List UInt8)(k:Nat)(hk:WJ c=k)(ht:Z0 c=t)(h1:YT c=false)(hx:x.length<=9000000):
  if (decide ((↑(List.length (List.map (enc:UInt8->PV) (c::x))):Int)<IntKind.wrap IntKind.i64 (1+(k:Int))))=true then ZB (w3 (ZX (c::x))) ((.tup [(.int .i64 0),(.sl 0 true []),(.bool false)]))else((decide (0<=1)&&decide (0<=IntKind.wrap IntKind.i64 (1+(k:Int)))&&(List.isEmpty (List.map (enc:UInt8->PV) (c::x))||Enc.sz UInt8==1)&&decide (Int.toNat 1<=Int.toNat (IntKind.wrap IntKind.i64 (1+(k:Int))))&&decide (Int.toNat (IntKind.wrap IntKind.i64 (1+(k:Int)))<=List.length (List.map (enc:UInt8->PV) (c::x))))=true∧At YE 0 (Zg Yh (ZB (w3 (ZX (c::x))))) Yl 0 94 [(0,.pv (enc (c::x))),(6,.pv (.fn (bif t then 105 else 104))),(7,.pv (.int .i64 (k:Int))),(8,.pv (.bool t)),(9,.pv (.int .u64 0)),(41,(.pv (.sl 1 false (List.drop (Int.toNat 1) (List.take (Int.toNat (IntKind.wrap IntKind.i64 (1+(k:Int)))) (List.map (enc:UInt8->PV) (c::x))))))),(42,(.pv (.int .i64 (↑(List.length (List.drop (Int.toNat 1) (List.take (Int.toNat (IntKind.wrap IntKind.i64 (1+(k:Int)))) (List.map (enc:UInt8->PV) (c::x))))):Int)))),(43,.pv (.int .i64 0))] []):=by
 obtain⟨k1,k8⟩:=D6 c h1
 rw[a9s (by omega)]
 have hw:=XU c x
 rw[if_neg (show ¬ YT c=true by rw[h1];simp),hk,ht]at hw
 by_cases hl:x.length<k
 ·rw[if_pos hl]at hw
  rw[hw]
  exact Zx (decide_eq_true hl) XG
 ·rw[if_neg hl]at hw
  refine Zy (fun e=>hl (of_decide_eq_true e)) ⟨b9n (by omega) (by omega),?_⟩
  rw[a1t (by omega)]
  have hlen:(x.take k).length=k:=by rw[List.length_take];omega
  have hh:(x.take k).headD 0=x.headD 0:=Kt x (by omega)
  have:=MW (G:=ZB (w3 (ZX (c::x)))) t c x (x.take k) k (by omega) (by omega) hlen (by
   rw[hh];intro e;rw[hw,if_pos e];exact XG) (by
   rw[hh];intro e;rw[hw,if_neg e];exact ES t c x k _ (by omega) (by omega))
  rw[List.length_map,hlen]
  exact this
theorem a1q: ∀ x:List UInt8×Unit,decide (x.1.length<=9000000)=true->Ze YE 0 (Zg Yh (ZB (w3 (ZX x.1)))) Yl [] (Y2 b0x (encL x)):=by
 rintro⟨l,⟨⟩⟩ h
 have h:l.length<=9000000:=of_decide_eq_true h
 cases l with
 | nil=>exact a6z XG
 | cons c x=>
  have hc:=UInt8.toNat_lt c
  have hx:x.length<=9000000:=by rw[List.length_cons]at h;omega
  refine b5c c x ⟨c,Uq (l:=c::x) (i:=0) (by simp),?_⟩
  rw[Oi]
  have ht:Z0 c=decide (c.toNat<=7):=rfl
  by_cases a:c.toNat ≥ 248
  ·have h1:YT c=false:=by unfold YT;rw[decide_eq_false (show ¬ c.toNat<=247 by omega),Bool.and_false]
   have ht:Z0 c=false:=by rw[ht];exact decide_eq_false (by omega)
   refine Zx (decide_eq_true (by omega)) ?_
   obtain⟨k,hk⟩ : ∃ k,k=c.toNat - 247:=⟨_,rfl⟩
   rw[show IntKind.wrap IntKind.i64 ((c.toNat:Int) - 247)=(k:Int) by rw[Yd (by omega) (by omega)];omega]
   exact SH (G:=ZB (w3 (ZX (c::x)))) false c x k (by rw[hk];unfold WJ;rw[if_neg (by rw[ht];simp)]) ht h1 hx
  ·refine Zy (by simp;omega) ?_
   by_cases b:c.toNat<=7
   ·have h1:YT c=false:=by unfold YT;rw[decide_eq_false (show ¬ 8<=c.toNat by omega),Bool.false_and]
    have ht:Z0 c=true:=by rw[ht];exact decide_eq_true b
    refine Zx (decide_eq_true (by omega)) ?_
    rw[show IntKind.wrap IntKind.i64 (8 - (c.toNat:Int))=((8 - c.toNat:Nat):Int) by rw[Yd (by omega) (by omega)];omega]
    exact SH (G:=ZB (w3 (ZX (c::x)))) true c x (8 - c.toNat) (by unfold WJ;rw[if_pos ht]) ht h1 hx
   ·have h1:YT c=true:=by unfold YT;rw[decide_eq_true (show 8<=c.toNat by omega),decide_eq_true (show c.toNat<=247 by omega)];rfl
    have hw:ZX (c::x)=some ((c.toNat:Int) - 128,x):=by rw[XU,if_pos h1]
    refine Zy (by simp;omega) ⟨by simp,?_⟩
    show ZB (w3 (ZX (c::x))) _
    rw[hw,Yd (by omega) (by omega),List.take_of_length_le (Nat.le_refl _)]
    exact U6 _ _
end Go.Pl

