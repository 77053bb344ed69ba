/-
  Texts of mine that belong together (packed by pack.py), for every input: GLz, GLy, QLy, QLz, QL8, GL9, QL9, GL0, QL0, QLi4, QRk, QLs4, TyD, GTx, QTx, QTy, TyTt, TyTu, QTz.
-/
import Derived.Test.YtjfgiaooglnomaaGreatDoorKX3
import Derived.KernelRfl
import Derived.Lib.ItoaLen
set_option linter.unusedVariables false
set_option linter.unusedSimpArgs false
namespace Go.Pl
open Go.RowKit
open Enc (enc dec is)
open EncL (encL decL isL)
set_option maxRecDepth 100000
def Hd:IC:=(.seq (.reg [⟨(some 4),(.mv (.c (.bool false))),0,none⟩] none) (.seq (.seq (.reg [⟨(some 11),(.mv (.t 0)),0,none⟩,⟨(some 12),(.nilchk (.t 11)),0,none⟩,⟨(some 13),(.faddr 0 (.t 12)),0,none⟩,⟨(some 14),(.load false [.str] (.t 13)),0,none⟩,⟨(some 15),(.bin .num .eql (.t 14) (.c (.str []))),0,none⟩] none) (.cond (.t 15) (.seq (.reg [⟨(some 4),(.mv (.c (.bool false))),0,none⟩] none) .ret) .skip)) (.seq (.seq (.reg [⟨(some 16),(.mv (.t 0)),0,none⟩,⟨(some 17),(.nilchk (.t 16)),0,none⟩,⟨(some 18),(.faddr 0 (.t 17)),0,none⟩,⟨(some 19),(.load false [.str] (.t 18)),0,none⟩,⟨(some 20),(.index (.t 19) (.c (.int .i64 0))),0,none⟩,⟨(some 21),(.call (.c (.fn 148)) [(.t 20)]),0,none⟩,⟨(some 22),(.un .not (.t 21)),2,none⟩] none) (.cond (.t 22) (.seq (.reg [⟨(some 24),(.mv (.t 0)),0,none⟩,⟨(some 25),(.call (.c (.fn 149)) [(.t 24)]),0,none⟩,⟨(some 23),(.mv (.t 25)),2,none⟩,⟨(some 26),(.extract (.t 23) 0),2,none⟩,⟨(some 27),(.extract (.t 23) 1),2,none⟩,⟨(some 5),(.mv (.t 26)),2,none⟩,⟨(some 6),(.mv (.t 27)),2,none⟩] none) (.seq (.reg [⟨(some 28),(.mv (.t 0)),0,none⟩,⟨(some 29),(.nilchk (.t 28)),0,none⟩,⟨(some 30),(.faddr 1 (.t 29)),0,none⟩,⟨(some 31),(.faddr 1 (.t 30)),0,none⟩,⟨(some 32),(.load false [.any] (.t 31)),0,none⟩,⟨(some 33),(.mv (.t 5)),0,none⟩,⟨(some 34),(.lookup true (.int .i64) (.int .i64 0) false (.t 32) (.t 33)),0,none⟩,⟨(some 35),(.mv (.t 1)),0,none⟩,⟨(some 36),(.bin .num .add (.t 34) (.t 35)),0,none⟩,⟨none,(.mapupd true (.t 32) (.t 33) (.t 36)),0,none⟩] none) (.seq (.reg [⟨(some 37),(.mv (.t 6)),0,none⟩,⟨(some 4),(.mv (.t 37)),0,none⟩] none) .ret))) .skip)) (.seq (.reg [⟨(some 39),(.mv (.t 0)),0,none⟩,⟨(some 40),(.call (.c (.fn 150)) [(.t 39)]),0,none⟩,⟨(some 38),(.mv (.t 40)),2,none⟩,⟨(some 41),(.extract (.t 38) 0),2,none⟩,⟨(some 42),(.extract (.t 38) 1),2,none⟩,⟨(some 7),(.mv (.t 41)),2,none⟩,⟨(some 8),(.mv (.t 42)),2,none⟩] none) (.seq (.seq (.reg [⟨(some 43),(.mv (.t 8)),0,none⟩,⟨(some 44),(.un .not (.t 43)),0,none⟩] none) (.cond (.t 44) (.seq (.reg [⟨(some 4),(.mv (.c (.bool false))),0,none⟩] none) .ret) .skip)) (.seq (.reg [⟨(some 45),(.mv (.t 0)),0,none⟩,⟨(some 46),(.nilchk (.t 45)),0,none⟩,⟨(some 47),(.faddr 0 (.t 46)),0,none⟩,⟨(some 48),(.load false [.str] (.t 47)),0,none⟩,⟨(some 49),(.call (.c (.fn 151)) [(.t 48),(.c (.str [32]))]),0,none⟩,⟨(some 9),(.mv (.t 49)),2,none⟩] none) (.seq (.block 0 (.seq (.reg [⟨(some 51),(.mv (.t 9)),0,none⟩,⟨(some 52),(.call (.c (.fn 152)) [(.t 51),(.c (.str [42]))]),0,none⟩,⟨(some 50),(.mv (.t 52)),2,none⟩] none) (.cond (.t 50) (.seq (.reg [⟨(some 53),(.mv (.t 0)),0,none⟩,⟨(some 54),(.mv (.t 9)),0,none⟩,⟨(some 55),(.strslc (.t 54) (some (.c (.int .i64 1))) none),0,none⟩,⟨(some 56),(.nilchk (.t 53)),0,none⟩,⟨(some 57),(.faddr 0 (.t 56)),0,none⟩,⟨none,(.store 1 (.t 57) (.t 55)),0,none⟩] none) (.reg [⟨(some 58),(.mv (.t 0)),0,none⟩,⟨(some 59),(.call (.c (.fn 80)) [(.t 58)]),0,none⟩] none)) (.seq (.reg [⟨(some 61),(.mv (.t 0)),0,none⟩,⟨(some 62),(.nilchk (.t 61)),0,none⟩,⟨(some 63),(.faddr 0 (.t 62)),0,none⟩,⟨(some 64),(.load false [.str] (.t 63)),0,none⟩,⟨(some 65),(.bin .num .eql (.t 64) (.c (.str []))),0,none⟩,⟨(some 66),(.mv (.t 65)),0,none⟩,⟨(some 67),(.mv (.t 0)),0,(some (66,false))⟩,⟨(some 68),(.nilchk (.t 67)),0,(some (66,false))⟩,⟨(some 69),(.faddr 0 (.t 68)),0,(some (66,false))⟩,⟨(some 70),(.load false [.str] (.t 69)),0,(some (66,false))⟩,⟨(some 71),(.index (.t 70) (.c (.int .i64 0))),0,(some (66,false))⟩,⟨(some 72),(.call (.c (.fn 153)) [(.t 71)]),0,(some (66,false))⟩,⟨(some 73),(.un .not (.t 72)),2,(some (66,false))⟩,⟨(some 74),(.pick (.t 66) (.c (.bool true)) (.t 73)),2,none⟩,⟨(some 60),(.mv (.t 74)),2,none⟩] none) (.cond (.t 60) (.seq (.reg [⟨(some 75),(.mv (.t 0)),0,none⟩,⟨(some 76),(.nilchk (.t 75)),0,none⟩,⟨(some 77),(.faddr 1 (.t 76)),0,none⟩,⟨(some 78),(.faddr 0 (.t 77)),0,none⟩,⟨(some 79),(.load false [(.int .i64)] (.t 78)),0,none⟩,⟨(some 80),(.mv (.t 1)),0,none⟩,⟨(some 81),(.mv (.t 7)),0,none⟩,⟨(some 82),(.bin .num .mul (.t 80) (.t 81)),0,none⟩,⟨(some 83),(.bin .num .add (.t 79) (.t 82)),0,none⟩,⟨(some 84),(.nilchk (.t 75)),0,none⟩,⟨(some 85),(.faddr 1 (.t 84)),0,none⟩,⟨(some 86),(.faddr 0 (.t 85)),0,none⟩,⟨none,(.store 1 (.t 86) (.t 83)),0,none⟩] none) (.seq (.reg [⟨(some 4),(.mv (.c (.bool true))),0,none⟩] none) .ret)) .skip))))) (.seq (.reg [⟨(some 88),(.mv (.t 0)),0,none⟩,⟨(some 89),(.call (.c (.fn 149)) [(.t 88)]),0,none⟩,⟨(some 87),(.mv (.t 89)),2,none⟩,⟨(some 90),(.extract (.t 87) 0),2,none⟩,⟨(some 91),(.extract (.t 87) 1),2,none⟩,⟨(some 10),(.mv (.t 90)),2,none⟩,⟨(some 8),(.mv (.t 91)),2,none⟩] none) (.seq (.reg [⟨(some 92),(.mv (.t 0)),0,none⟩,⟨(some 93),(.nilchk (.t 92)),0,none⟩,⟨(some 94),(.faddr 1 (.t 93)),0,none⟩,⟨(some 95),(.faddr 1 (.t 94)),0,none⟩,⟨(some 96),(.load false [.any] (.t 95)),0,none⟩,⟨(some 97),(.mv (.t 10)),0,none⟩,⟨(some 98),(.lookup true (.int .i64) (.int .i64 0) false (.t 96) (.t 97)),0,none⟩,⟨(some 99),(.mv (.t 1)),0,none⟩,⟨(some 100),(.mv (.t 7)),0,none⟩,⟨(some 101),(.bin .num .mul (.t 99) (.t 100)),0,none⟩,⟨(some 102),(.bin .num .add (.t 98) (.t 101)),0,none⟩,⟨none,(.mapupd true (.t 96) (.t 97) (.t 102)),0,none⟩] none) (.seq (.reg [⟨(some 103),(.mv (.t 8)),0,none⟩,⟨(some 4),(.mv (.t 103)),0,none⟩] none) .ret))))))))))
def KM:List IRes:=[(.tmp 4)]
abbrev P6:Nat:=104
def G6:ZI:=WL [(148,.pure (preT (fun _:UInt8×Unit=>true)) (Zj (fun x:UInt8×Unit=>digB x.1))),(149,.own ZN UU),(150,.own ZN Uz),(151,.pure (preT (fun x:Str×Str×Unit=>decide (x.2.1=⟨[32]⟩))) (Zj (fun x:Str×Str×Unit=>(⟨Za x.1.s⟩:Str)))),(152,.pure (preT (fun _:Str×Str×Unit=>true)) (Zj (fun x:Str×Str×Unit=>x.2.1.s.isPrefixOf x.1.s))),(80,.own ZN UW),(153,.pure (preT (fun _:UInt8×Unit=>true)) (Zj (fun x:UInt8×Unit=>Zv x.1)))]
theorem a8z{G:AV×List AObj×List AObj->Prop}(s:List UInt8)(n:Int)(m:List (Str×Int))(g:Int)(h:if (s==[])=true then G (((.pv (.bool false)),([(.box [(.pv (.str s)),(.pv (.int .i64 n)),(.map 1)]),(.map (Zc m))],[])))else((decide (0<=0)&&decide (Int.toNat 0<List.length s))=true∧((Go.Pl.preT (fun(x:UInt8×Unit)=>true) [(.int IntKind.u8 (↑(UInt8.toNat (List.getD s (Int.toNat 0) (0:UInt8))):Int))])=true∧(∃ y0:Bool,AV.pv (Zj (fun(x:UInt8×Unit)=>digB x.1) [(.int IntKind.u8 (↑(UInt8.toNat (List.getD s (Int.toNat 0) (0:UInt8))):Int))])=AV.pv (enc y0)∧(if (!y0)=true then(ZN [(.ptr 0 0)] [(.box [(.pv (.str s)),(.pv (.int .i64 n)),(.map 1)]),(.map (Zc m))])=true∧((Wn (PV.str (List.takeWhile Zv s)) (Zc m)&&Sh.fit (Sh.int .i64) (ZK (PV.str (List.takeWhile Zv s)) (PV.int .i64 0) (Zc m)))=true∧((JP (PV.str (List.takeWhile Zv s)) (PV.int .i64 (IntKind.wrap IntKind.i64 (PV.asInt (ZK (PV.str (List.takeWhile Zv s)) (PV.int .i64 0) (Zc m))+g))) (Zc m))=true∧(G (((.pv (.bool (Zq (Str.mk (List.takeWhile Zv s))))),([(.box [(.pv (.str (List.dropWhile Zv s))),(.pv (.int .i64 n)),(.map 1)]),(.map (J3 (PV.str (List.takeWhile Zv s)) (PV.int .i64 (IntKind.wrap IntKind.i64 (PV.asInt (ZK (PV.str (List.takeWhile Zv s)) (PV.int .i64 0) (Zc m))+g))) (Zc m)))],[]))))))else((ZN [(.ptr 0 0)] [(.box [(.pv (.str s)),(.pv (.int .i64 n)),(.map 1)]),(.map (Zc m))])=true∧(if (!Kk (List.takeWhile digB s))=true then G (((.pv (.bool false)),([(.box [(.pv (.str (List.dropWhile digB s))),(.pv (.int .i64 n)),(.map 1)]),(.map (Zc m))],[])))else(∃ y1:Str,AV.pv (Zj (fun(x:Str×Str×Unit)=>Str.mk (Za (Str.s x.1))) [(.str (List.dropWhile digB s)),(.str [(32:UInt8)])])=AV.pv (enc y1)∧(∃ y2:Bool,AV.pv (Zj (fun(x:Str×Str×Unit)=>List.isPrefixOf (Str.s x.2.1) (Str.s x.1)) [(.str (Str.s y1)),(.str [(42:UInt8)])])=AV.pv (enc y2)∧(if (y2)=true then(decide (0<=1)&&true&&decide (Int.toNat 1<=List.length (Str.s y1))&&decide (List.length (Str.s y1)<=List.length (Str.s y1)))=true∧((ZN [(.ptr 0 0)] [(.box [(.pv (.str (List.drop (Int.toNat 1) (List.take (List.length (Str.s y1)) (Str.s y1))))),(.pv (.int .i64 n)),(.map 1)]),(.map (Zc m))])=true∧((ZN [(.ptr 0 0)] [(.box [(.pv (.str (Za (List.drop (Int.toNat 1) (List.take (List.length (Str.s y1)) (Str.s y1)))))),(.pv (.int .i64 n)),(.map 1)]),(.map (Zc m))])=true∧((Wn (PV.str (List.takeWhile Zv (Za (List.drop (Int.toNat 1) (List.take (List.length (Str.s y1)) (Str.s y1)))))) (Zc m)&&Sh.fit (Sh.int .i64) (ZK (PV.str (List.takeWhile Zv (Za (List.drop (Int.toNat 1) (List.take (List.length (Str.s y1)) (Str.s y1)))))) (PV.int .i64 0) (Zc m)))=true∧((JP (PV.str (List.takeWhile Zv (Za (List.drop (Int.toNat 1) (List.take (List.length (Str.s y1)) (Str.s y1)))))) (PV.int .i64 (IntKind.wrap IntKind.i64 (PV.asInt (ZK (PV.str (List.takeWhile Zv (Za (List.drop (Int.toNat 1) (List.take (List.length (Str.s y1)) (Str.s y1)))))) (PV.int .i64 0) (Zc m))+IntKind.wrap IntKind.i64 (g*Prod.fst (ZR (Str.mk (List.takeWhile digB s))))))) (Zc m))=true∧(G (((.pv (.bool (Zq (Str.mk (List.takeWhile Zv (Za (List.drop (Int.toNat 1) (List.take (List.length (Str.s y1)) (Str.s y1))))))))),([(.box [(.pv (.str (List.dropWhile Zv (Za (List.drop (Int.toNat 1) (List.take (List.length (Str.s y1)) (Str.s y1))))))),(.pv (.int .i64 n)),(.map 1)]),(.map (J3 (PV.str (List.takeWhile Zv (Za (List.drop (Int.toNat 1) (List.take (List.length (Str.s y1)) (Str.s y1)))))) (PV.int .i64 (IntKind.wrap IntKind.i64 (PV.asInt (ZK (PV.str (List.takeWhile Zv (Za (List.drop (Int.toNat 1) (List.take (List.length (Str.s y1)) (Str.s y1)))))) (PV.int .i64 0) (Zc m))+IntKind.wrap IntKind.i64 (g*Prod.fst (ZR (Str.mk (List.takeWhile digB s))))))) (Zc m)))],[]))))))))else(if (List.dropWhile digB s==[])=true then G (((.pv (.bool true)),([(.box [(.pv (.str (List.dropWhile digB s))),(.pv (.int .i64 (IntKind.wrap IntKind.i64 (n+IntKind.wrap IntKind.i64 (g*Prod.fst (ZR (Str.mk (List.takeWhile digB s)))))))),(.map 1)]),(.map (Zc m))],[])))else((decide (0<=0)&&decide (Int.toNat 0<List.length (List.dropWhile digB s)))=true∧((Go.Pl.preT (fun(x:UInt8×Unit)=>true) [(.int IntKind.u8 (↑(UInt8.toNat (List.getD (List.dropWhile digB s) (Int.toNat 0) (0:UInt8))):Int))])=true∧(∃ y3:Bool,AV.pv (Zj (fun(x:UInt8×Unit)=>Zv x.1) [(.int IntKind.u8 (↑(UInt8.toNat (List.getD (List.dropWhile digB s) (Int.toNat 0) (0:UInt8))):Int))])=AV.pv (enc y3)∧(if (!y3)=true then G (((.pv (.bool true)),([(.box [(.pv (.str (List.dropWhile digB s))),(.pv (.int .i64 (IntKind.wrap IntKind.i64 (n+IntKind.wrap IntKind.i64 (g*Prod.fst (ZR (Str.mk (List.takeWhile digB s)))))))),(.map 1)]),(.map (Zc m))],[])))else((ZN [(.ptr 0 0)] [(.box [(.pv (.str (List.dropWhile digB s))),(.pv (.int .i64 n)),(.map 1)]),(.map (Zc m))])=true∧((Wn (PV.str (List.takeWhile Zv (List.dropWhile digB s))) (Zc m)&&Sh.fit (Sh.int .i64) (ZK (PV.str (List.takeWhile Zv (List.dropWhile digB s))) (PV.int .i64 0) (Zc m)))=true∧((JP (PV.str (List.takeWhile Zv (List.dropWhile digB s))) (PV.int .i64 (IntKind.wrap IntKind.i64 (PV.asInt (ZK (PV.str (List.takeWhile Zv (List.dropWhile digB s))) (PV.int .i64 0) (Zc m))+IntKind.wrap IntKind.i64 (g*Prod.fst (ZR (Str.mk (List.takeWhile digB s))))))) (Zc m))=true∧(G (((.pv (.bool (Zq (Str.mk (List.takeWhile Zv (List.dropWhile digB s)))))),([(.box [(.pv (.str (List.dropWhile Zv (List.dropWhile digB s)))),(.pv (.int .i64 n)),(.map 1)]),(.map (J3 (PV.str (List.takeWhile Zv (List.dropWhile digB s))) (PV.int .i64 (IntKind.wrap IntKind.i64 (PV.asInt (ZK (PV.str (List.takeWhile Zv (List.dropWhile digB s))) (PV.int .i64 0) (Zc m))+IntKind.wrap IntKind.i64 (g*Prod.fst (ZR (Str.mk (List.takeWhile digB s))))))) (Zc m)))],[])))))))))))))))))))))):Zi G6 2 (Zd 2 KM G) Hd [] (Yk 104 [.ptr 0 0,.pv (.int .i64 g)] [.box [.pv (.str s),.pv (.int .i64 n),.map 1],.map (Zc m)]):=Zi.to (.lit (.ask (.nil) (.req (.req (.abs (Bool) (fun YY=>AV.pv (enc YY)) (.ask (.req (.keep (.req (.keep (.lit (.req (.nil))))))) (.req (.keep (.ask (.nil) (.lit (.abs (Str) (fun YY=>AV.pv (enc YY)) (.lit (.abs (Bool) (fun YY=>AV.pv (enc YY)) (.ask (.req (.req (.keep (.req (.keep (.req (.keep (.lit (.lit (.req (.nil))))))))))) (.lit (.ask (.lit (.lit (.lit (.lit (.lit (.lit (.lit (.lit (.lit (.lit (.nil))))))))))) (.lit (.lit (.lit (.lit (.req (.lit (.req (.abs (Bool) (fun YY=>AV.pv (enc YY)) (.lit (.lit (.ask (.lit (.lit (.nil))) (.req (.keep (.req (.keep (.lit (.lit (.req (.nil))))))))))))))))))))))))))))))))))) h (by kernel_rfl)
end Go.Pl

namespace Go.Pl
open Go.RowKit
open Enc (enc dec is)
open EncL (encL decL isL)
set_option maxRecDepth 100000
def Jz:IC:=(.seq (.reg [⟨(some 2),(.mv (.c (.bool false))),0,none⟩] none) (.seq (.reg [⟨(some 3),(.mv (.t 0)),0,none⟩,⟨(some 4),(.bin .num .geq (.t 3) (.c (.int .u8 97))),0,none⟩,⟨(some 5),(.mv (.t 4)),0,none⟩,⟨(some 6),(.mv (.t 0)),0,(some (5,true))⟩,⟨(some 7),(.bin .num .leq (.t 6) (.c (.int .u8 122))),0,(some (5,true))⟩,⟨(some 8),(.pick (.t 5) (.t 7) (.c (.bool false))),0,none⟩,⟨(some 9),(.mv (.t 8)),0,none⟩,⟨(some 10),(.mv (.t 0)),0,(some (9,false))⟩,⟨(some 11),(.bin .num .eql (.t 10) (.c (.int .u8 95))),0,(some (9,false))⟩,⟨(some 12),(.pick (.t 9) (.c (.bool true)) (.t 11)),0,none⟩,⟨(some 13),(.mv (.t 12)),0,none⟩,⟨(some 14),(.mv (.t 0)),0,(some (13,false))⟩,⟨(some 15),(.call (.c (.fn 148)) [(.t 14)]),0,(some (13,false))⟩,⟨(some 16),(.pick (.t 13) (.c (.bool true)) (.t 15)),2,none⟩,⟨(some 2),(.mv (.t 16)),2,none⟩] none) .ret))
def Jf:List IRes:=[(.tmp 2)]
abbrev L9:Nat:=17
def HZ:ZI:=WL [(148,.pure (preT (fun _:UInt8×Unit=>true)) (Zj (fun x:UInt8×Unit=>digB x.1)))]
theorem EK{G:PV->Prop}(c:UInt8)(h:if (decide ((↑(UInt8.toNat c):Int) ≥ 97))=true then if (decide ((↑(UInt8.toNat c):Int)<=122))=true then G ((.bool true))else(if ((↑(UInt8.toNat c):Int)==95)=true then G ((.bool true))else((Go.Pl.preT (fun(x:UInt8×Unit)=>true) [(.int IntKind.u8 (↑(UInt8.toNat c):Int))])=true∧(∃ y0:Bool,AV.pv (Zj (fun(x:UInt8×Unit)=>digB x.1) [(.int IntKind.u8 (↑(UInt8.toNat c):Int))])=AV.pv (enc y0)∧(G ((.bool y0))))))else(if ((↑(UInt8.toNat c):Int)==95)=true then G ((.bool true))else((Go.Pl.preT (fun(x:UInt8×Unit)=>true) [(.int IntKind.u8 (↑(UInt8.toNat c):Int))])=true∧(∃ y1:Bool,AV.pv (Zj (fun(x:UInt8×Unit)=>digB x.1) [(.int IntKind.u8 (↑(UInt8.toNat c):Int))])=AV.pv (enc y1)∧(G ((.bool y1))))))):Zi HZ 0 (Ze Jf G) Jz [] (Xw 17 [enc c]):=Zi.tp (.lit (.ask (.lit (.lit (.lit (.ask (.lit (.lit (.lit (.lit (.lit (.nil)))))) (.lit (.lit (.lit (.ask (.lit (.lit (.nil))) (.lit (.req (.abs (Bool) (fun YY=>AV.pv (enc YY)) (.lit (.nil))))))))))))) (.lit (.lit (.lit (.lit (.lit (.lit (.ask (.lit (.lit (.nil))) (.lit (.req (.abs (Bool) (fun YY=>AV.pv (enc YY)) (.lit (.nil)))))))))))))) h (by kernel_rfl)
def Jg:IC:=(.reg [⟨(some 2),(.mv (.t 0)),0,none⟩,⟨(some 3),(.mv (.t 0)),0,none⟩,⟨(some 4),(.nilchk (.t 3)),0,none⟩,⟨(some 5),(.faddr 0 (.t 4)),0,none⟩,⟨(some 6),(.load false [.str] (.t 5)),0,none⟩,⟨(some 7),(.call (.c (.fn 151)) [(.t 6),(.c (.str [32]))]),0,none⟩,⟨(some 8),(.nilchk (.t 2)),2,none⟩,⟨(some 9),(.faddr 0 (.t 8)),2,none⟩,⟨none,(.store 1 (.t 9) (.t 7)),2,none⟩] none)
def Jv:List IRes:=[]
abbrev Lu:Nat:=10
def Dj:ZI:=WL [(151,.pure (preT (fun x:Str×Str×Unit=>decide (x.2.1=⟨[32]⟩))) (Zj (fun x:Str×Str×Unit=>(⟨Za x.1.s⟩:Str))))]
theorem a0c{G:AV×List AObj×List AObj->Prop}(s:List UInt8)(n:Int)(es:List (PV×PV))(h : ∃ y0:Str,AV.pv (Zj (fun(x:Str×Str×Unit)=>Str.mk (Za (Str.s x.1))) [(.str s),(.str [(32:UInt8)])])=AV.pv (enc y0)∧(G (((.tup []),([(.box [(.pv (.str (Str.s y0))),(.pv (.int .i64 n)),(.map 1)]),(.map es)],[]))))):Zi Dj 2 (Zd 2 Jv G) Jg [] (Yk 10 [.ptr 0 0] [.box [.pv (.str s),.pv (.int .i64 n),.map 1],.map es]):=Zi.to (.lit (.abs (Str) (fun YY=>AV.pv (enc YY)) (.nil))) h (by kernel_rfl)
def WS:IC:=(.seq (.reg [⟨(some 4),(.mv (.c (.str []))),0,none⟩] none) (.seq (.reg [⟨(some 5),(.mv (.c (.int .i64 0))),0,none⟩] none) (.seq (.block 0 (.loop [5,0,1] (.seq (.seq (.reg [⟨(some 7),(.mv (.t 5)),0,none⟩,⟨(some 8),(.mv (.t 0)),0,none⟩,⟨(some 9),(.nilchk (.t 8)),0,none⟩,⟨(some 10),(.faddr 0 (.t 9)),0,none⟩,⟨(some 11),(.load false [.str] (.t 10)),0,none⟩,⟨(some 12),(.len 0 (.t 11)),0,none⟩,⟨(some 13),(.bin .num .lss (.t 7) (.t 12)),0,none⟩,⟨(some 14),(.mv (.t 13)),0,none⟩,⟨(some 15),(.mv (.t 1)),0,(some (14,true))⟩,⟨(some 16),(.mv (.t 0)),0,(some (14,true))⟩,⟨(some 17),(.nilchk (.t 16)),0,(some (14,true))⟩,⟨(some 18),(.faddr 0 (.t 17)),0,(some (14,true))⟩,⟨(some 19),(.load false [.str] (.t 18)),0,(some (14,true))⟩,⟨(some 20),(.mv (.t 5)),0,(some (14,true))⟩,⟨(some 21),(.index (.t 19) (.t 20)),0,(some (14,true))⟩,⟨(some 22),(.call (.t 15) [(.t 21)]),0,(some (14,true))⟩,⟨(some 23),(.pick (.t 14) (.t 22) (.c (.bool false))),2,none⟩] none) (.cond (.t 23) .skip (.exit 0))) (.block 1 (.reg [⟨(some 24),(.mv (.t 5)),0,none⟩,⟨(some 25),(.bin .num .add (.t 24) (.c (.int .i64 1))),0,none⟩,⟨(some 5),(.mv (.t 25)),0,none⟩] none))))) (.seq (.reg [⟨(some 26),(.mv (.t 0)),0,none⟩,⟨(some 27),(.nilchk (.t 26)),0,none⟩,⟨(some 28),(.faddr 0 (.t 27)),0,none⟩,⟨(some 29),(.load false [.str] (.t 28)),0,none⟩,⟨(some 30),(.mv (.t 5)),0,none⟩,⟨(some 31),(.strslc (.t 29) none (some (.t 30))),0,none⟩,⟨(some 6),(.mv (.t 31)),0,none⟩] none) (.seq (.reg [⟨(some 32),(.mv (.t 0)),0,none⟩,⟨(some 33),(.mv (.t 0)),0,none⟩,⟨(some 34),(.nilchk (.t 33)),0,none⟩,⟨(some 35),(.faddr 0 (.t 34)),0,none⟩,⟨(some 36),(.load false [.str] (.t 35)),0,none⟩,⟨(some 37),(.mv (.t 5)),0,none⟩,⟨(some 38),(.strslc (.t 36) (some (.t 37)) none),0,none⟩,⟨(some 39),(.nilchk (.t 32)),0,none⟩,⟨(some 40),(.faddr 0 (.t 39)),0,none⟩,⟨none,(.store 1 (.t 40) (.t 38)),0,none⟩] none) (.seq (.reg [⟨(some 41),(.mv (.t 6)),0,none⟩,⟨(some 4),(.mv (.t 41)),0,none⟩] none) .ret))))))
def Vr:List IRes:=[(.tmp 4)]
abbrev a0v:Nat:=42
def Uy:ZI:=WL [(148,.pure (preT (fun _:UInt8×Unit=>true)) (Zj (fun x:UInt8×Unit=>digB x.1)))]
theorem a2l{G:AV×List AObj×List AObj->Prop}(s:List UInt8)(n:Int)(es:List (PV×PV))(h:At Uy 2 (Zd 2 Vr G) WS 0 42 [(0,(.ptr 0 0)),(1,(.pv (.fn 148))),(5,(.pv (.int .i64 0)))] [(.obj (.box [(.pv (.str s)),(.pv (.int .i64 n)),(.map 1)])),(.obj (.map es))]):Zi Uy 2 (Zd 2 Vr G) WS [] (Yk 42 [.ptr 0 0,.pv (.fn 148)] [.box [.pv (.str s),.pv (.int .i64 n),.map 1],.map es]):=Zi.to (.nil) h (by kernel_rfl)
theorem Tx{G:AV×List AObj×List AObj->Prop}(s:List UInt8)(n:Int)(es:List (PV×PV))(i:Int)(h:if (decide (i<(↑(List.length s):Int)))=true then(decide (0<=i)&&decide (Int.toNat i<List.length s))=true∧((Go.Pl.preT (fun(x:UInt8×Unit)=>true) [(.int IntKind.u8 (↑(UInt8.toNat (List.getD s (Int.toNat i) (0:UInt8))):Int))])=true∧(∃ y0:Bool,AV.pv (Zj (fun(x:UInt8×Unit)=>digB x.1) [(.int IntKind.u8 (↑(UInt8.toNat (List.getD s (Int.toNat i) (0:UInt8))):Int))])=AV.pv (enc y0)∧(if (y0)=true then At Uy 2 (Zd 2 Vr G) WS 0 42 [(0,(.ptr 0 0)),(1,(.pv (.fn 148))),(5,(.pv (.int .i64 (IntKind.wrap IntKind.i64 (i+1)))))] [(.obj (.box [(.pv (.str s)),(.pv (.int .i64 n)),(.map 1)])),(.obj (.map es))]else((true&&decide (0<=i)&&decide (0<=Int.toNat i)&&decide (Int.toNat i<=List.length s))=true∧((decide (0<=i)&&true&&decide (Int.toNat i<=List.length s)&&decide (List.length s<=List.length s))=true∧(G (((.pv (.str (List.drop 0 (List.take (Int.toNat i) s)))),([(.box [(.pv (.str (List.drop (Int.toNat i) (List.take (List.length s) s)))),(.pv (.int .i64 n)),(.map 1)]),(.map es)],[])))))))))else((true&&decide (0<=i)&&decide (0<=Int.toNat i)&&decide (Int.toNat i<=List.length s))=true∧((decide (0<=i)&&true&&decide (Int.toNat i<=List.length s)&&decide (List.length s<=List.length s))=true∧(G (((.pv (.str (List.drop 0 (List.take (Int.toNat i) s)))),([(.box [(.pv (.str (List.drop (Int.toNat i) (List.take (List.length s) s)))),(.pv (.int .i64 n)),(.map 1)]),(.map es)],[]))))))):At Uy 2 (Zd 2 Vr G) WS 0 42 [(0,.ptr 0 0),(1,.pv (.fn 148)),(5,.pv (.int .i64 i))] [.obj (.box [.pv (.str s),.pv (.int .i64 n),.map 1]),.obj (.map es)]:=At.to (.lit (.ask (.lit (.lit (.lit (.lit (.lit (.lit (.req (.lit (.req (.abs (Bool) (fun YY=>AV.pv (enc YY)) (.lit (.ask (.lit (.nil)) (.req (.req (.nil))))))))))))))) (.lit (.lit (.lit (.lit (.lit (.lit (.lit (.lit (.lit (.req (.req (.nil)))))))))))))) h (by kernel_rfl)
def VC:IC:=WS
def VA:List IRes:=[(.tmp 4)]
abbrev O3:Nat:=42
def UK:ZI:=WL [(153,.pure (preT (fun _:UInt8×Unit=>true)) (Zj (fun x:UInt8×Unit=>Zv x.1)))]
theorem a3v{G:AV×List AObj×List AObj->Prop}(s:List UInt8)(n:Int)(es:List (PV×PV))(h:At UK 2 (Zd 2 VA G) VC 0 42 [(0,(.ptr 0 0)),(1,(.pv (.fn 153))),(5,(.pv (.int .i64 0)))] [(.obj (.box [(.pv (.str s)),(.pv (.int .i64 n)),(.map 1)])),(.obj (.map es))]):Zi UK 2 (Zd 2 VA G) VC [] (Yk 42 [.ptr 0 0,.pv (.fn 153)] [.box [.pv (.str s),.pv (.int .i64 n),.map 1],.map es]):=Zi.to (.nil) h (by kernel_rfl)
theorem Rb{G:AV×List AObj×List AObj->Prop}(s:List UInt8)(n:Int)(es:List (PV×PV))(i:Int)(h:if (decide (i<(↑(List.length s):Int)))=true then(decide (0<=i)&&decide (Int.toNat i<List.length s))=true∧((Go.Pl.preT (fun(x:UInt8×Unit)=>true) [(.int IntKind.u8 (↑(UInt8.toNat (List.getD s (Int.toNat i) (0:UInt8))):Int))])=true∧(∃ y0:Bool,AV.pv (Zj (fun(x:UInt8×Unit)=>Zv x.1) [(.int IntKind.u8 (↑(UInt8.toNat (List.getD s (Int.toNat i) (0:UInt8))):Int))])=AV.pv (enc y0)∧(if (y0)=true then At UK 2 (Zd 2 VA G) VC 0 42 [(0,(.ptr 0 0)),(1,(.pv (.fn 153))),(5,(.pv (.int .i64 (IntKind.wrap IntKind.i64 (i+1)))))] [(.obj (.box [(.pv (.str s)),(.pv (.int .i64 n)),(.map 1)])),(.obj (.map es))]else((true&&decide (0<=i)&&decide (0<=Int.toNat i)&&decide (Int.toNat i<=List.length s))=true∧((decide (0<=i)&&true&&decide (Int.toNat i<=List.length s)&&decide (List.length s<=List.length s))=true∧(G (((.pv (.str (List.drop 0 (List.take (Int.toNat i) s)))),([(.box [(.pv (.str (List.drop (Int.toNat i) (List.take (List.length s) s)))),(.pv (.int .i64 n)),(.map 1)]),(.map es)],[])))))))))else((true&&decide (0<=i)&&decide (0<=Int.toNat i)&&decide (Int.toNat i<=List.length s))=true∧((decide (0<=i)&&true&&decide (Int.toNat i<=List.length s)&&decide (List.length s<=List.length s))=true∧(G (((.pv (.str (List.drop 0 (List.take (Int.toNat i) s)))),([(.box [(.pv (.str (List.drop (Int.toNat i) (List.take (List.length s) s)))),(.pv (.int .i64 n)),(.map 1)]),(.map es)],[]))))))):At UK 2 (Zd 2 VA G) VC 0 42 [(0,.ptr 0 0),(1,.pv (.fn 153)),(5,.pv (.int .i64 i))] [.obj (.box [.pv (.str s),.pv (.int .i64 n),.map 1]),.obj (.map es)]:=At.to (.lit (.ask (.lit (.lit (.lit (.lit (.lit (.lit (.req (.lit (.req (.abs (Bool) (fun YY=>AV.pv (enc YY)) (.lit (.ask (.lit (.nil)) (.req (.req (.nil))))))))))))))) (.lit (.lit (.lit (.lit (.lit (.lit (.lit (.lit (.lit (.req (.req (.nil)))))))))))))) h (by kernel_rfl)
def Jq:IC:=(.seq (.reg [⟨(some 2),(.mv (.c (.int .i64 0))),0,none⟩,⟨(some 3),(.mv (.c (.bool false))),0,none⟩] none) (.seq (.reg [⟨(some 7),(.mv (.t 0)),0,none⟩,⟨(some 8),(.call (.c (.fn 216)) [(.t 7),(.c (.fn 148))]),0,none⟩,⟨(some 4),(.mv (.t 8)),2,none⟩] none) (.seq (.reg [⟨(some 10),(.mv (.t 4)),0,none⟩,⟨(some 11),(.call (.c (.fn 182)) [(.t 10)]),0,none⟩,⟨(some 9),(.mv (.t 11)),2,none⟩,⟨(some 12),(.extract (.t 9) 0),2,none⟩,⟨(some 13),(.extract (.t 9) 1),2,none⟩,⟨(some 5),(.mv (.t 12)),2,none⟩,⟨(some 6),(.mv (.t 13)),2,none⟩] none) (.seq (.reg [⟨(some 14),(.mv (.t 5)),0,none⟩,⟨(some 15),(.mv (.t 6)),0,none⟩,⟨(some 16),(.bin .ifc .eql (.t 15) (.c .nili)),0,none⟩,⟨(some 17),(.mv (.t 16)),0,none⟩,⟨(some 18),(.mv (.t 4)),0,(some (17,true))⟩,⟨(some 19),(.len 0 (.t 18)),0,(some (17,true))⟩,⟨(some 20),(.bin .num .leq (.t 19) (.c (.int .i64 7))),0,(some (17,true))⟩,⟨(some 21),(.pick (.t 17) (.t 20) (.c (.bool false))),0,none⟩,⟨(some 22),(.mv (.t 21)),0,none⟩,⟨(some 23),(.mv (.t 4)),0,(some (22,true))⟩,⟨(some 24),(.index (.t 23) (.c (.int .i64 0))),0,(some (22,true))⟩,⟨(some 25),(.bin .num .neq (.t 24) (.c (.int .u8 48))),0,(some (22,true))⟩,⟨(some 26),(.mv (.t 25)),0,(some (22,true))⟩,⟨(some 27),(.mv (.t 4)),0,(some (26,false))⟩,⟨(some 28),(.bin .num .eql (.t 27) (.c (.str [48]))),0,(some (26,false))⟩,⟨(some 29),(.pick (.t 26) (.c (.bool true)) (.t 28)),0,(some (22,true))⟩,⟨(some 30),(.pick (.t 22) (.t 29) (.c (.bool false))),0,none⟩,⟨(some 2),(.mv (.t 14)),0,none⟩,⟨(some 3),(.mv (.t 30)),0,none⟩] none) .ret))))
def Ja:List IRes:=[(.tmp 2),(.tmp 3)]
abbrev LD:Nat:=31
def GR:ZI:=WL [(216,.own (Y6 148) (Cg digB)),(182,.pure (preT (fun x:Str×Unit=>decide (x.1.s.length<=1000000))) (Zj (fun x:Str×Unit=>ZR x.1)))]
theorem OJ{G:AV×List AObj×List AObj->Prop}(s:List UInt8)(n:Int)(es:List (PV×PV))(h:(Y6 148 [(.ptr 0 0),(.pv (.fn 148))] [(.box [(.pv (.str s)),(.pv (.int .i64 n)),(.map 1)]),(.map es)])=true∧((Go.Pl.preT (fun(x:Str×Unit)=>decide (List.length (Str.s x.1)<=1000000)) [(.str (List.takeWhile digB s))])=true∧(∃ y0:Int×Er,AV.pv (Zj (fun(x:Str×Unit)=>ZR x.1) [(.str (List.takeWhile digB s))])=AV.pv (enc y0)∧((JF (enc y0.2)&&Prod.fst (true,PV.bool (WW (enc y0.2))))=true∧(if (WW (enc y0.2))=true then if (decide ((↑(List.length (List.takeWhile digB s)):Int)<=7))=true then(decide (0<=0)&&decide (Int.toNat 0<List.length (List.takeWhile digB s)))=true∧(if ((↑(UInt8.toNat (List.getD (List.takeWhile digB s) (Int.toNat 0) (0:UInt8))):Int) != 48)=true then G (((.tup [(.pv (.int .i64 y0.1)),(.pv (.bool true))]),([(.box [(.pv (.str (List.dropWhile digB s))),(.pv (.int .i64 n)),(.map 1)]),(.map es)],[])))else(G (((.tup [(.pv (.int .i64 y0.1)),(.pv (.bool (List.takeWhile digB s==[(48:UInt8)])))]),([(.box [(.pv (.str (List.dropWhile digB s))),(.pv (.int .i64 n)),(.map 1)]),(.map es)],[])))))else(G (((.tup [(.pv (.int .i64 y0.1)),(.pv (.bool false))]),([(.box [(.pv (.str (List.dropWhile digB s))),(.pv (.int .i64 n)),(.map 1)]),(.map es)],[]))))else(G (((.tup [(.pv (.int .i64 y0.1)),(.pv (.bool false))]),([(.box [(.pv (.str (List.dropWhile digB s))),(.pv (.int .i64 n)),(.map 1)]),(.map es)],[]))))))))):Zi GR 2 (Zd 2 Ja G) Jq [] (Yk 31 [.ptr 0 0] [.box [.pv (.str s),.pv (.int .i64 n),.map 1],.map es]):=Zi.to (.req (.keep (.req (.abs (Int×Er) (fun YY=>AV.pv (enc YY)) (.req (.ask (.lit (.lit (.lit (.lit (.ask (.lit (.req (.lit (.lit (.lit (.ask (.lit (.lit (.lit (.lit (.nil))))) (.lit (.lit (.lit (.lit (.lit (.nil)))))))))))) (.lit (.lit (.lit (.lit (.lit (.nil))))))))))) (.lit (.lit (.lit (.lit (.lit (.lit (.lit (.lit (.lit (.nil)))))))))))))))) h (by kernel_rfl)
def Qc:IC:=(.seq (.reg [⟨(some 2),(.mv (.c (.str []))),0,none⟩,⟨(some 3),(.mv (.c (.bool false))),0,none⟩] none) (.seq (.reg [⟨(some 5),(.mv (.t 0)),0,none⟩,⟨(some 6),(.call (.c (.fn 216)) [(.t 5),(.c (.fn 153))]),0,none⟩,⟨(some 4),(.mv (.t 6)),2,none⟩] none) (.seq (.reg [⟨(some 7),(.mv (.t 4)),0,none⟩,⟨(some 8),(.mv (.t 4)),0,none⟩,⟨(some 9),(.call (.c (.fn 119)) [(.t 8)]),0,none⟩,⟨(some 2),(.mv (.t 7)),2,none⟩,⟨(some 3),(.mv (.t 9)),2,none⟩] none) .ret)))
def Qa:List IRes:=[(.tmp 2),(.tmp 3)]
abbrev SN:Nat:=10
def Q3:ZI:=WL [(216,.own (Y6 153) (Cg Zv)),(119,.pure (preT (fun x:Str×Unit=>decide (x.1.s.length<=1000000))) (Zj (fun x:Str×Unit=>Zq x.1)))]
theorem PT{G:AV×List AObj×List AObj->Prop}(s:List UInt8)(n:Int)(es:List (PV×PV))(h:(Y6 153 [(.ptr 0 0),(.pv (.fn 153))] [(.box [(.pv (.str s)),(.pv (.int .i64 n)),(.map 1)]),(.map es)])=true∧((Go.Pl.preT (fun(x:Str×Unit)=>decide (List.length (Str.s x.1)<=1000000)) [(.str (List.takeWhile Zv s))])=true∧(∃ y0:Bool,AV.pv (Zj (fun(x:Str×Unit)=>Zq x.1) [(.str (List.takeWhile Zv s))])=AV.pv (enc y0)∧(G (((.tup [(.pv (.str (List.takeWhile Zv s))),(.pv (.bool y0))]),([(.box [(.pv (.str (List.dropWhile Zv s))),(.pv (.int .i64 n)),(.map 1)]),(.map es)],[]))))))):Zi Q3 2 (Zd 2 Qa G) Qc [] (Yk 10 [.ptr 0 0] [.box [.pv (.str s),.pv (.int .i64 n),.map 1],.map es]):=Zi.to (.req (.keep (.req (.abs (Bool) (fun YY=>AV.pv (enc YY)) (.nil))))) h (by kernel_rfl)
def Vk:IC:=(.seq (.reg [⟨(some 2),(.mv (.c (.int .i64 0))),0,none⟩,⟨(some 3),(.mv (.c (.bool false))),0,none⟩] none) (.seq (.seq (.reg [⟨(some 6),(.build [(.str []),(.str [])] [(0,(1,(.c (.str [43])))),(1,(1,(.c (.str [45]))))]),0,none⟩,⟨(some 7),(.mv (.c (.int .i64 0))),0,none⟩] none) (.block 0 (.loop [7,6,0] (.seq (.reg [⟨(some 8),(.bin .num .lss (.t 7) (.c (.int .i64 2))),0,none⟩] none) (.seq (.cond (.t 8) .skip (.exit 0)) (.seq (.block 1 (.seq (.reg [⟨(some 9),(.mv (.t 7)),0,none⟩,⟨(some 10),(.indexA 2 1 (.t 6) (.t 7)),0,none⟩,⟨(some 4),(.mv (.t 9)),0,none⟩,⟨(some 5),(.mv (.t 10)),0,none⟩] none) (.seq (.reg [⟨(some 11),(.mv (.t 0)),0,none⟩,⟨(some 12),(.nilchk (.t 11)),0,none⟩,⟨(some 13),(.faddr 0 (.t 12)),0,none⟩,⟨(some 14),(.load false [.str] (.t 13)),0,none⟩,⟨(some 15),(.mv (.t 5)),0,none⟩,⟨(some 16),(.call (.c (.fn 152)) [(.t 14),(.t 15)]),0,none⟩] none) (.cond (.t 16) (.seq (.reg [⟨(some 17),(.mv (.t 0)),0,none⟩,⟨(some 18),(.mv (.t 0)),0,none⟩,⟨(some 19),(.nilchk (.t 18)),0,none⟩,⟨(some 20),(.faddr 0 (.t 19)),0,none⟩,⟨(some 21),(.load false [.str] (.t 20)),0,none⟩,⟨(some 22),(.strslc (.t 21) (some (.c (.int .i64 1))) none),0,none⟩,⟨(some 23),(.nilchk (.t 17)),0,none⟩,⟨(some 24),(.faddr 0 (.t 23)),0,none⟩,⟨none,(.store 1 (.t 24) (.t 22)),0,none⟩] none) (.seq (.reg [⟨(some 25),(.mv (.t 4)),0,none⟩,⟨(some 26),(.bin .num .mul (.c (.int .i64 2)) (.t 25)),0,none⟩,⟨(some 27),(.bin .num .sub (.c (.int .i64 1)) (.t 26)),0,none⟩,⟨(some 2),(.mv (.t 27)),0,none⟩,⟨(some 3),(.mv (.c (.bool true))),0,none⟩] none) .ret)) .skip)))) (.reg [⟨(some 28),(.bin .num .add (.t 7) (.c (.int .i64 1))),0,none⟩,⟨(some 7),(.mv (.t 28)),0,none⟩] none))))))) (.seq (.reg [⟨(some 2),(.mv (.c (.int .i64 1))),0,none⟩,⟨(some 3),(.mv (.c (.bool false))),0,none⟩] none) .ret)))
def Vg:List IRes:=[(.tmp 2),(.tmp 3)]
abbrev a2q:Nat:=29
def UC:ZI:=WL [(152,.pure (preT (fun _:Str×Str×Unit=>true)) (Zj (fun x:Str×Str×Unit=>x.2.1.s.isPrefixOf x.1.s)))]
theorem a7p{G:AV×List AObj×List AObj->Prop}(s:List UInt8)(n:Int)(es:List (PV×PV))(h:At UC 2 (Zd 2 Vg G) Vk 0 29 [(0,(.ptr 0 0)),(6,(.pv (.agg [(.str [(43:UInt8)]),(.str [(45:UInt8)])]))),(7,(.pv (.int .i64 0)))] [(.obj (.box [(.pv (.str s)),(.pv (.int .i64 n)),(.map 1)])),(.obj (.map es))]):Zi UC 2 (Zd 2 Vg G) Vk [] (Yk 29 [.ptr 0 0] [.box [.pv (.str s),.pv (.int .i64 n),.map 1],.map es]):=Zi.to (.nil) h (by kernel_rfl)
theorem EI{G:AV×List AObj×List AObj->Prop}(s:List UInt8)(n:Int)(es:List (PV×PV))(h : ∃ y0:Bool,AV.pv (Zj (fun(x:Str×Str×Unit)=>List.isPrefixOf (Str.s x.2.1) (Str.s x.1)) [(.str s),(.str [(43:UInt8)])])=AV.pv (enc y0)∧(if (y0)=true then(decide (0<=1)&&true&&decide (Int.toNat 1<=List.length s)&&decide (List.length s<=List.length s))=true∧(G (((.tup [(.pv (.int .i64 1)),(.pv (.bool true))]),([(.box [(.pv (.str (List.drop (Int.toNat 1) (List.take (List.length s) s)))),(.pv (.int .i64 n)),(.map 1)]),(.map es)],[]))))else(At UC 2 (Zd 2 Vg G) Vk 0 29 [(0,(.ptr 0 0)),(6,(.pv (.agg [(.str [(43:UInt8)]),(.str [(45:UInt8)])]))),(7,(.pv (.int .i64 1)))] [(.obj (.box [(.pv (.str s)),(.pv (.int .i64 n)),(.map 1)])),(.obj (.map es))]))):At UC 2 (Zd 2 Vg G) Vk 0 29 [(0,.ptr 0 0),(6,.pv (.agg [(.str [(43:UInt8)]),(.str [(45:UInt8)])])),(7,.pv (.int .i64 0))] [.obj (.box [.pv (.str s),.pv (.int .i64 n),.map 1]),.obj (.map es)]:=At.to (.lit (.lit (.lit (.lit (.abs (Bool) (fun YY=>AV.pv (enc YY)) (.ask (.req (.lit (.lit (.nil)))) (.lit (.nil)))))))) h (by kernel_rfl)
theorem a0y{G:AV×List AObj×List AObj->Prop}(s:List UInt8)(n:Int)(es:List (PV×PV))(h : ∃ y0:Bool,AV.pv (Zj (fun(x:Str×Str×Unit)=>List.isPrefixOf (Str.s x.2.1) (Str.s x.1)) [(.str s),(.str [(45:UInt8)])])=AV.pv (enc y0)∧(if (y0)=true then(decide (0<=1)&&true&&decide (Int.toNat 1<=List.length s)&&decide (List.length s<=List.length s))=true∧(G (((.tup [(.pv (.int .i64 (-1))),(.pv (.bool true))]),([(.box [(.pv (.str (List.drop (Int.toNat 1) (List.take (List.length s) s)))),(.pv (.int .i64 n)),(.map 1)]),(.map es)],[]))))else(At UC 2 (Zd 2 Vg G) Vk 0 29 [(0,(.ptr 0 0)),(6,(.pv (.agg [(.str [(43:UInt8)]),(.str [(45:UInt8)])]))),(7,(.pv (.int .i64 2)))] [(.obj (.box [(.pv (.str s)),(.pv (.int .i64 n)),(.map 1)])),(.obj (.map es))]))):At UC 2 (Zd 2 Vg G) Vk 0 29 [(0,.ptr 0 0),(6,.pv (.agg [(.str [(43:UInt8)]),(.str [(45:UInt8)])])),(7,.pv (.int .i64 1))] [.obj (.box [.pv (.str s),.pv (.int .i64 n),.map 1]),.obj (.map es)]:=At.to (.lit (.lit (.lit (.lit (.abs (Bool) (fun YY=>AV.pv (enc YY)) (.ask (.req (.lit (.lit (.nil)))) (.lit (.nil)))))))) h (by kernel_rfl)
theorem O7{G:AV×List AObj×List AObj->Prop}(s:List UInt8)(n:Int)(es:List (PV×PV))(h:G (((.tup [(.pv (.int .i64 1)),(.pv (.bool false))]),([(.box [(.pv (.str s)),(.pv (.int .i64 n)),(.map 1)]),(.map es)],[])))):At UC 2 (Zd 2 Vg G) Vk 0 29 [(0,.ptr 0 0),(6,.pv (.agg [(.str [(43:UInt8)]),(.str [(45:UInt8)])])),(7,.pv (.int .i64 2))] [.obj (.box [.pv (.str s),.pv (.int .i64 n),.map 1]),.obj (.map es)]:=At.to (.lit (.lit (.nil))) h (by kernel_rfl)
end Go.Pl

namespace Go.Pl
open Go.RowKit
open Enc (enc dec is)
open EncL (encL decL isL)
theorem a5v(c:UInt8)(k:Nat)(hk:k<256):(((c.toNat:Int))==(k:Int))=(c==UInt8.ofNat k):=by
 rw[Bool.eq_iff_iff,beq_iff_eq,beq_iff_eq]
 constructor
 ·intro h
  have h:c.toNat=k:=by omega
  rw[<- h,UInt8.ofNat_toNat]
 ·intro h
  rw[h,UInt8.toNat_ofNat_of_lt' (by show k<2 ^ 8;omega)]
theorem Pz: ∀ a:UInt8×Unit,true=true->Zi HZ 0 (Ze Jf (ZH (Zv a.1))) Jz [] (Xw L9 (encL a)):=by
 rintro⟨c,⟨⟩⟩ -
 have e95:(((c.toNat:Int))==95)=(c==95):=a5v c 95 (by omega)
 have el:=EH c
 refine EK c ?_
 show if decide ((c.toNat:Int) ≥ 97)=true then(if decide ((c.toNat:Int)<=122)=true then ZH (Zv c) (.bool true)else if ((c.toNat:Int)==95)=true then ZH (Zv c) (.bool true)else _)else if ((c.toNat:Int)==95)=true then ZH (Zv c) (.bool true)else _
 rw[e95]
 have rest:lowB c=false->(if (c==95)=true then ZH (Zv c) (.bool true)else preT (fun _:UInt8×Unit=>true) [enc c]=true∧ ∃ y0:Bool,AV.pv (Zj (fun x:UInt8×Unit=>digB x.1) [enc c])=AV.pv (enc y0)∧ZH (Zv c) (.bool y0)):=by
  intro hl
  refine Vi (fun h=>Yi ?_) fun h=>⟨Zn (c,()) rfl rfl,Zl (c,()) rfl (Yi ?_)⟩
  ·unfold Zv;rw[h];simp
  ·unfold Zv;rw[hl,h];rfl
 refine XP (fun h1=>XP (fun h2=>Yi ?_) fun h2=>rest ?_) fun h1=>rest ?_
 ·have:lowB c=true:=by rw[el];simp[h1,h2]
  unfold Zv;rw[this];rfl
 ·rw[el];simp[h2]
 ·rw[el];simp[h1]
theorem Pn: ∀ args os,ZN args os=true->Zi Dj os.length (Zd os.length Jv fun r=>r=UW args os) Jg [] (Yk Lu args os):=by
 intro args os h
 unfold ZN at h
 split at h
 ·rename_i s n es
  exact a0c s n es (Zl ((⟨s⟩:Str),(⟨[32]⟩:Str),()) rfl rfl)
 ·cases h
theorem KA(p:UInt8->Bool): ∀ (s:List UInt8) (i:Nat),i<=s.length->(∀ j (h:j<s.length),j<i->p s[j]=true)->(∀ h:i<s.length,p s[i]=false)->s.takeWhile p=s.take i∧s.dropWhile p=s.drop i
 | [],i,hi,h1,h2=>by
  have:i=0:=by simpa using hi
  subst this
  exact⟨rfl,rfl⟩
 | c::s,0,hi,h1,h2=>by
  have:=h2 (by simp)
  simp only[List.getElem_cons_zero]at this
  simp[List.takeWhile_cons,List.dropWhile_cons,this]
 | c::s,i+1,hi,h1,h2=>by
  have hc:p c=true:=h1 0 (by simp) (by omega)
  have ih:=KA p s i (by simpa using hi) (fun j h hj=>h1 (j+1) (by simp;omega) (by omega)) fun h=>h2 (by simp;omega)
  simp[List.takeWhile_cons,List.dropWhile_cons,hc,ih.1,ih.2]
theorem a9r{s:List UInt8}{i:Nat}(h:i<s.length):((UInt8.toNat (List.getD s (Int.toNat (i:Int)) (0:UInt8)):Nat):Int)=((s[i].toNat:Nat):Int):=by simp[List.getD,h]
theorem Pq(s:List UInt8)(n:Int)(es:List (PV×PV))(hs:s.length<=1000000): ∀ (m i:Nat),m+i=s.length->(∀ j (h:j<s.length),j<i->digB s[j]=true) ->
  At Uy 2 (Zd 2 Vr fun r=>r=(.pv (.str (s.takeWhile digB)),Lb (s.dropWhile digB) n es,[])) WS 0 42 [(0,.ptr 0 0),(1,.pv (.fn 148)),(5,.pv (.int .i64 i))] [.obj (.box [.pv (.str s),.pv (.int .i64 n),.map 1]),.obj (.map es)]:=by
 intro m
 induction m with
 | zero=>
  intro i hi h
  obtain⟨e1,e2⟩:=KA digB s i (by omega) h (fun hlt=>by omega)
  refine Tx s n es i (XG (by simp;omega) ⟨by simp;omega,by simp;omega,?_⟩)
  rw[e1,e2,Int.toNat_natCast,List.drop_zero,List.take_length];rfl
 | succ m ih=>
  intro i hi h
  have hlt:i<s.length:=by omega
  refine Tx s n es i ?_
  rw[a9r hlt]
  refine YD (by simp;omega) ⟨by simp;omega,Zn (s[i],()) rfl rfl,Zl (s[i],()) rfl (Vi (fun hc=> ?_) fun hc=>⟨by simp;omega,by simp;omega,?_⟩)⟩
  ·rw[next (by omega)]
   exact ih (i+1) (by omega) fun j hj hji=>if e:j=i then by subst e;exact hc else h j hj (by omega)
  ·obtain⟨e1,e2⟩:=KA digB s i (by omega) h (fun _=>hc)
   rw[e1,e2,Int.toNat_natCast,List.drop_zero,List.take_length];rfl
theorem RI(s:List UInt8)(n:Int)(es:List (PV×PV))(hs:s.length<=1000000): ∀ (m i:Nat),m+i=s.length->(∀ j (h:j<s.length),j<i->Zv s[j]=true) ->
  At UK 2 (Zd 2 VA fun r=>r=(.pv (.str (s.takeWhile Zv)),Lb (s.dropWhile Zv) n es,[])) VC 0 42 [(0,.ptr 0 0),(1,.pv (.fn 153)),(5,.pv (.int .i64 i))] [.obj (.box [.pv (.str s),.pv (.int .i64 n),.map 1]),.obj (.map es)]:=by
 intro m
 induction m with
 | zero=>
  intro i hi h
  obtain⟨e1,e2⟩:=KA Zv s i (by omega) h (fun hlt=>by omega)
  refine Rb s n es i (XG (by simp;omega) ⟨by simp;omega,by simp;omega,?_⟩)
  rw[e1,e2,Int.toNat_natCast,List.drop_zero,List.take_length];rfl
 | succ m ih=>
  intro i hi h
  have hlt:i<s.length:=by omega
  refine Rb s n es i ?_
  rw[a9r hlt]
  refine YD (by simp;omega) ⟨by simp;omega,Zn (s[i],()) rfl rfl,Zl (s[i],()) rfl (Vi (fun hc=> ?_) fun hc=>⟨by simp;omega,by simp;omega,?_⟩)⟩
  ·rw[next (by omega)]
   exact ih (i+1) (by omega) fun j hj hji=>if e:j=i then by subst e;exact hc else h j hj (by omega)
  ·obtain⟨e1,e2⟩:=KA Zv s i (by omega) h (fun _=>hc)
   rw[e1,e2,Int.toNat_natCast,List.drop_zero,List.take_length];rfl
theorem Fu: ∀ args os,Y6 148 args os=true->Zi Uy os.length (Zd os.length Vr fun r=>r=Cg digB args os) WS [] (Yk a0v args os):=by
 intro args os h
 unfold Y6 at h
 split at h
 ·rename_i g s n es
  simp only[Bool.and_eq_true,beq_iff_eq,decide_eq_true_eq]at h
  obtain⟨rfl,h⟩:=h
  exact a2l s n es (Pq s n es h s.length 0 (by omega) fun j _ hj=>by omega)
 ·cases h
theorem MP: ∀ args os,Y6 153 args os=true->Zi UK os.length (Zd os.length VA fun r=>r=Cg Zv args os) VC [] (Yk O3 args os):=by
 intro args os h
 unfold Y6 at h
 split at h
 ·rename_i g s n es
  simp only[Bool.and_eq_true,beq_iff_eq,decide_eq_true_eq]at h
  obtain⟨rfl,h⟩:=h
  exact a3v s n es (RI s n es h s.length 0 (by omega) fun j _ hj=>by omega)
 ·cases h
theorem Gc(p:UInt8->Bool)(s:List UInt8):(s.takeWhile p).length<=s.length:=(List.takeWhile_sublist p).length_le
theorem Oe{d:List UInt8}(h:(ZR ⟨d⟩).2.b=false):0<d.length:=by
 cases d with
 | nil=>exact absurd h (by decide)
 | cons c d=>simp
theorem a8i(e:Er):WW (enc e) = !e.b:=by obtain⟨b⟩:=e;cases b <;> rfl
theorem a7r(e:Er):JF (enc e)=true:=by obtain⟨b⟩:=e;cases b <;> rfl
theorem Po: ∀ args os,ZN args os=true->Zi GR os.length (Zd os.length Ja fun r=>r=Uz args os) Jq [] (Yk LD args os):=by
 intro args os h
 unfold ZN at h
 split at h
 ·rename_i s n es
  have h:s.length<=1000000:=by simpa using h
  have hl:=Gc digB s
  refine OJ s n es ⟨by simp[Y6,h],?_⟩
  have ev:Uz [.ptr 0 0] [.box [.pv (.str s),.pv (.int .i64 n),.map 1],.map es]=(.tup [.pv (.int .i64 (ZR ⟨s.takeWhile digB⟩).1),.pv (.bool (Kk (s.takeWhile digB)))],Lb (s.dropWhile digB) n es,[]):=rfl
  rw[ev]
  generalize s.takeWhile digB=d at hl ⊢
  refine⟨Zn ((⟨d⟩:Str),()) rfl (decide_eq_true (by show d.length<=_;omega)),Zl ((⟨d⟩:Str),()) rfl ⟨?_,?_⟩⟩
  ·show(JF (enc (ZR ⟨d⟩).2)&&true)=true
   rw[a7r];rfl
  show if WW (enc (ZR ⟨d⟩).2)=true then _ else _
  rw[a8i]
  unfold Kk
  refine Wv (fun hb=> ?_) fun hb=> ?_
  ·have hp:=Oe hb
   rw[hb]
   refine XP (fun h7=> ?_) fun h7=> ?_
   ·have h7:d.length<=7:=by omega
    cases d with
    | nil=>simp at hp
    | cons c r=>
     refine⟨by simp,?_⟩
     rw[decide_eq_true h7]
     have e:((UInt8.toNat (List.getD (c::r) (Int.toNat 0) (0:UInt8)):Int) != 48) = !(c==48):=by
      show(!((c.toNat:Int)==((48:Nat):Int)))=_
      rw[a5v c 48 (by omega)];rfl
     rw[e]
     refine Wv (fun hc=> ?_) fun hc=> ?_
     ·have hc:c≠48:=by simpa using hc
      simp[hc];rfl
     ·have hc:c=48:=by simpa using hc
      subst hc
      have e:((48::r:List UInt8)==[48])=(!false&&true&&(decide (((48:UInt8)::r).head? ≠ some 48)||decide ((48::r:List UInt8)=[48]))):=by cases r <;> simp
      rw[<- e];rfl
   ·have h7 : ¬ d.length<=7:=by omega
    simp[h7];rfl
  ·rw[hb];rfl
 ·cases h
theorem BH: ∀ args os,ZN args os=true->Zi Q3 os.length (Zd os.length Qa fun r=>r=UU args os) Qc [] (Yk SN args os):=by
 intro args os h
 unfold ZN at h
 split at h
 ·rename_i s n es
  have h:s.length<=1000000:=by simpa using h
  have hl:=Gc Zv s
  exact PT s n es ⟨by simp[Y6,h],Zn ((⟨s.takeWhile Zv⟩:Str),()) rfl (decide_eq_true (by show(s.takeWhile Zv).length<=_;omega)),Zl ((⟨s.takeWhile Zv⟩:Str),()) rfl rfl⟩
 ·cases h
theorem OO: ∀ args os,ZN args os=true->Zi UC os.length (Zd os.length Vg fun r=>r=KI args os) Vk [] (Yk a2q args os):=by
 intro args os h
 unfold ZN at h
 split at h
 ·rename_i s n es
  have h:s.length<=1000000:=by simpa using h
  have ev:KI [.ptr 0 0] [.box [.pv (.str s),.pv (.int .i64 n),.map 1],.map es]=(.tup [.pv (.int .i64 (ZM s).1.1),.pv (.bool (ZM s).1.2)],Lb (ZM s).2 n es,[]):=rfl
  rw[ev]
  refine a7p s n es (EI s n es (Zl ((⟨s⟩:Str),(⟨[43]⟩:Str),()) rfl (Vi (fun h1=> ?_) fun h1=>a0y s n es (Zl ((⟨s⟩:Str),(⟨[45]⟩:Str),()) rfl (Vi (fun h2=> ?_) fun h2=>O7 s n es ?_)))))
  ·cases s with
   | nil=>cases h1
   | cons c r=>
    have hc:c=43:=by
     have:([43]:List UInt8).isPrefixOf (c::r)=true:=h1
     exact(by simpa [List.isPrefixOf]using this:43=c).symm
    subst hc
    refine⟨by simp,?_⟩
    simp[ZM,Lb]
  ·cases s with
   | nil=>cases h2
   | cons c r=>
    have hc:c=45:=by
     have:([45]:List UInt8).isPrefixOf (c::r)=true:=h2
     exact(by simpa [List.isPrefixOf]using this:45=c).symm
    subst hc
    refine⟨by simp,?_⟩
    simp[ZM,Lb]
  ·cases s with
   | nil=>rfl
   | cons c r=>
    have hc1:c≠43:=by
     intro e;subst e
     have:([43]:List UInt8).isPrefixOf (43::r)=false:=h1
     simp[List.isPrefixOf]at this
    have hc2:c≠45:=by
     intro e;subst e
     have:([45]:List UInt8).isPrefixOf (45::r)=false:=h2
     simp[List.isPrefixOf]at this
    simp[ZM,hc1,hc2,Lb]
 ·cases h
end Go.Pl

namespace Go.Pl
open Go.RowKit
open Enc (enc dec is)
open EncL (encL decL isL)
theorem J6(v:List UInt8)(m:List (Str×Int)):(Wn (PV.str v) (Zc m)&&Sh.fit (Sh.int .i64) (ZK (PV.str v) (PV.int .i64 0) (Zc m)))=true:=by rw[WB,Wz];rfl
theorem Hl(v:List UInt8)(c:Int)(m:List (Str×Int)):JP (PV.str v) (PV.int .i64 c) (Zc m)=true:=by
 unfold JP
 rw[Hw ⟨v⟩ c m];rfl
theorem Hq(v:List UInt8)(k:Int)(m:List (Str×Int)):J3 (PV.str v) (PV.int .i64 (IntKind.i64.wrap (PV.asInt (ZK (PV.str v) (PV.int .i64 0) (Zc m))+k))) (Zc m)=Zc (WY ⟨v⟩ (Yb (Vh m v+k)) m):=by
 rw[Wz]
 unfold J3
 rw[Hw ⟨v⟩ _ m];rfl
theorem VZ(s:List UInt8)(n:Int)(m:List (Str×Int))(h:s.length<=1000000):ZN [.ptr 0 0] [.box [.pv (.str s),.pv (.int .i64 n),.map 1],.map (Zc m)]=true:=decide_eq_true h
theorem Ub(p:UInt8->Bool)(s:List UInt8):(s.dropWhile p).length<=s.length:=(List.dropWhile_sublist p).length_le
theorem Em(r:RdS)(g:Int)(hs:r.s.length<=1000000):Zi G6 2 (Zd 2 KM fun z=>z=TW (ZO r g)) Hd [] (Yk P6 [.ptr 0 0,.pv (.int .i64 g)] [.box [.pv (.str r.s),.pv (.int .i64 r.n),.map 1],.map (Zc r.m)]):=by
 obtain⟨s,n,m⟩:=r
 have hs:s.length<=1000000:=hs
 show Zi G6 2 (Zd 2 KM fun z=>z=TW (ZO ⟨s,n,m⟩ g)) _ _ _
 refine a8z s n m g (Wu (fun h0=> ?_) fun h0=> ?_)
 ·have h0:s=[]:=h0
  subst h0
  rfl
 have h0:s≠[]:=h0
 have hp:0<s.length:=List.length_pos_iff.2 h0
 have hg:((UInt8.toNat (List.getD s (Int.toNat 0) (0:UInt8)):Nat):Int)=(((s.headD 0).toNat:Nat):Int):=by
  cases s with
  | nil=>exact absurd rfl h0
  | cons c s=>rfl
 rw[hg]
 refine⟨by simp;omega,Zn (s.headD 0,()) rfl rfl,Zl (s.headD 0,()) rfl (Wv (fun hd=> ?_) fun hd=> ?_)⟩
 ·have hd:digB (s.headD 0)=false:=hd
  have e:ZO ⟨s,n,m⟩ g=Gg s n m g:=by
   unfold ZO
   rw[if_neg h0,if_pos hd]
  rw[e]
  refine⟨VZ s n m hs,J6 _ _,Hl _ _ _,?_⟩
  rw[Hq];rfl
 have hd:digB (s.headD 0)=true:=hd
 refine⟨VZ s n m hs,Wv (fun hn=> ?_) fun hn=> ?_⟩
 ·have e:ZO ⟨s,n,m⟩ g=(false,⟨s.dropWhile digB,n,m⟩):=by
   unfold ZO
   rw[if_neg h0,if_neg (by rw[hd];simp),if_pos hn]
  rw[e];rfl
 have e:ZO ⟨s,n,m⟩ g=Vs (s.dropWhile digB) n m (Yb (g*(ZR ⟨s.takeWhile digB⟩).1)):=by
  unfold ZO
  rw[if_neg h0,if_neg (by rw[hd];simp),if_neg (by rw[hn];simp)]
 rw[e]
 have hl:=Ub digB s
 generalize (ZR ⟨s.takeWhile digB⟩).1=k
 generalize s.dropWhile digB=t at hl ⊢
 have hb:=Ub (fun c=>c==32) t
 have hb:(Za t).length<=t.length:=hb
 refine Zl ((⟨t⟩:Str),(⟨[32]⟩:Str),()) rfl (Zl ((⟨Za t⟩:Str),(⟨[42]⟩:Str),()) rfl (Vi (fun hx=> ?_) fun hx=> ?_))
 ·have hx:([42]:List UInt8).isPrefixOf (Za t)=true:=hx
  have ed:List.drop (Int.toNat 1) (List.take (List.length (Za t)) (Za t))=(Za t).drop 1:=by rw[List.take_length];rfl
  have hpos:1<=(Za t).length:=by
   cases h:Za t with
   | nil=>rw[h]at hx;cases hx
   | cons c r=>simp
  have e2:Vs t n m (Yb (g*k))=Gg (Za ((Za t).drop 1)) n m (Yb (g*k)):=by unfold Vs;rw[if_pos hx]
  rw[e2]
  show _∧_
  refine⟨by simp;omega,?_⟩
  show ZN [.ptr 0 0] [.box [.pv (.str (List.drop (Int.toNat 1) (List.take (List.length (Za t)) (Za t)))),.pv (.int .i64 n),.map 1],.map (Zc m)]=true∧_
  rw[ed]
  have hl2:((Za t).drop 1).length<=1000000:=by simp;omega
  generalize (Za t).drop 1=u at hl2 ⊢
  have hl3:(Za u).length<=u.length:=Ub (fun c=>c==32) u
  refine⟨VZ u n m hl2,VZ (Za u) n m (by omega),J6 _ _,Hl _ _ _,?_⟩
  rw[Hq];rfl
 ·have hx:([42]:List UInt8).isPrefixOf (Za t)=false:=hx
  have e2:Vs t n m (Yb (g*k))=if t=[]∨Zv (t.headD 0)=false then(true,⟨t,Yb (n+Yb (g*k)),m⟩)else Gg t n m (Yb (g*k)):=by unfold Vs;rw[if_neg (by rw[hx];simp)]
  rw[e2]
  refine Wu (fun ht=> ?_) fun ht=> ?_
  ·have ht:t=[]:=ht
   rw[if_pos (.inl ht)];rfl
  have ht:t≠[]:=ht
  have htp:0<t.length:=List.length_pos_iff.2 ht
  have hg2:((UInt8.toNat (List.getD t (Int.toNat 0) (0:UInt8)):Nat):Int)=(((t.headD 0).toNat:Nat):Int):=by
   cases t with
   | nil=>exact absurd rfl ht
   | cons c s=>rfl
  rw[hg2]
  refine⟨by simp;omega,Zn (t.headD 0,()) rfl rfl,Zl (t.headD 0,()) rfl (Wv (fun hc=> ?_) fun hc=> ?_)⟩
  ·have hc:Zv (t.headD 0)=false:=hc
   rw[if_pos (.inr hc)];rfl
  ·have hc:Zv (t.headD 0)=true:=hc
   rw[if_neg (by rintro(h|h);exact ht h;rw[hc]at h;cases h)]
   refine⟨VZ t n m (by omega),J6 _ _,Hl _ _ _,?_⟩
   rw[Hq];rfl
theorem EJ: ∀ args os,Qz args os=true->Zi G6 os.length (Zd os.length KM fun r=>r=Kt args os) Hd [] (Yk P6 args os):=by
 intro args os h
 unfold Qz at h
 split at h
 ·rename_i g s n es
  simp only[Bool.and_eq_true,decide_eq_true_eq]at h
  obtain⟨h1,h2⟩:=h
  obtain⟨m,rfl⟩:=UA h1
  have ev:Kt [.ptr 0 0,.pv (.int .i64 g)] [.box [.pv (.str s),.pv (.int .i64 n),.map 1],.map (Zc m)]=TW (ZO ⟨s,n,m⟩ g):=by
   show TW (ZO ⟨s,n,ZX (Zc m)⟩ g)=_
   rw[Yh]
  rw[ev]
  exact Em ⟨s,n,m⟩ g h2
 ·cases h
end Go.Pl

namespace Go.Pl
open Go.RowKit
open Enc (enc dec is)
open EncL (encL decL isL)
theorem Ty(u:List UInt8):(ZM u).2.length<=u.length∧((ZM u).1.2=true->(ZM u).2.length<u.length):=by
 cases u with
 | nil=>exact⟨Nat.le_refl _,fun h=>by cases h⟩
 | cons c r=>
  have e:ZM (c::r)=if c=43 then((1,true),r)else if c=45 then((-1,true),r)else((1,false),c::r):=rfl
  rw[e]
  by_cases h1:c=43
  ·rw[if_pos h1];exact⟨by simp,fun _=>by simp⟩
  ·rw[if_neg h1]
   by_cases h2:c=45
   ·rw[if_pos h2];exact⟨by simp,fun _=>by simp⟩
   ·rw[if_neg h2];exact⟨Nat.le_refl _,fun h=>by cases h⟩
theorem Vx(s:List UInt8):(Za s).length<=s.length:=Ub _ s
theorem MS(s:Str)(c:Int)(m:List (Str×Int))(x:List UInt8)(h:x∈ZQ (WY s c m)):x∈ZQ m∨x=s.s:=by
 rcases Ui s c m with e|⟨_,e⟩
 ·rw[e]at h;exact .inl h
 ·rw[e,List.mem_append]at h
  rcases h with h|h
  ·exact .inl h
  ·exact .inr (List.mem_singleton.1 h)
def okR(r:RdS)(z:Bool×RdS):Prop:=z.2.s.length<=r.s.length∧z.2.m.length<=r.m.length+1∧ ∀ x∈ZQ z.2.m,x∈ZQ r.m∨x.length<=r.s.length
theorem BG(s:List UInt8)(n n':Int)(m:List (Str×Int))(k:Int)(t:List UInt8)(h:s.length<=t.length):okR ⟨t,n',m⟩ (Gg s n m k):=by
 have h1:=Ub Zv s
 have h2:=Gc Zv s
 refine⟨by show(s.dropWhile Zv).length<=t.length;omega,Ae _ _ _,fun x hx=> ?_⟩
 rcases MS _ _ _ x hx with h|rfl
 ·exact .inl h
 ·exact .inr (by show(s.takeWhile Zv).length<=t.length;omega)
theorem OY(r:RdS)(g:Int):okR r (ZO r g):=by
 obtain⟨s,n,m⟩:=r
 have self : ∀ (b:Bool) (t:List UInt8) (n':Int),t.length<=s.length->okR ⟨s,n,m⟩ (b,⟨t,n',m⟩):=fun b t n' h=>⟨h,Nat.le_succ _,fun x hx=>.inl hx⟩
 have h1:=Ub digB s
 unfold ZO
 split
 ·exact self _ _ _ (Nat.le_refl _)
 ·split
  ·exact BG _ _ _ _ _ _ (Nat.le_refl _)
  ·split
   ·exact self _ _ _ h1
   ·simp only
    generalize s.dropWhile digB=t at h1 ⊢
    have hb:=Vx t
    unfold Vs
    split
    ·have hc:=Vx ((Za t).drop 1)
     have hd:((Za t).drop 1).length<=(Za t).length:=by rw[List.length_drop];omega
     exact BG _ _ _ _ _ _ (by omega)
    ·split
     ·exact self _ _ _ h1
     ·exact BG _ _ _ _ _ _ h1
theorem a7d(s:List UInt8)(n:Int)(m:List (Str×Int))(g:Int)(h:s.length<=1000000):Qz [.ptr 0 0,.pv (.int .i64 g)] [.box [.pv (.str s),.pv (.int .i64 n),.map 1],.map (Zc m)]=true:=by
 show(Jl (Zc m)&&decide (s.length<=1000000))=true
 rw[Us,decide_eq_true h];rfl
theorem R4(s:List UInt8): ∀ (f:Nat) (t:List UInt8) (n:Int) (m:List (Str×Int)) (g:Int),t.length<f->t.length+m.length<=500000->(∀ x∈ZQ m,x.length<=500000) ->
  At UI 0 (Ze Vo (ZH (Q4 f t n m g))) VE 0 51 [(2,.ptr 0 0),(4,.ptr 1 0),(5,.fn 79 [.ptr 1 0] []),(6,.pv (.int .i64 g))] [.obj (.box [.pv (.int .i64 0),.pv (.sl 0 true [])]),.obj (.box [.pv (.str t),.pv (.int .i64 n),.map 2]),.obj (.map (Zc m))]:=by
 intro f
 induction f with
 | zero=>intro t n m g h;omega
 | succ f ih=>
  intro t n m g hf hl hk
  have hbl:=Vx t
  refine Ea s t n m g ⟨VZ t n m (by omega),a7d _ n m g (by omega),?_⟩
  rw[Yh]
  have ho:=OY ⟨Za t,n,m⟩ g
  unfold Q4
  generalize ZO ⟨Za t,n,m⟩ g=z at ho ⊢
  obtain⟨b,u,n',m'⟩:=z
  obtain⟨o1,o2,o3⟩:=ho
  have o1:u.length<=(Za t).length:=o1
  have o2:m'.length<=m.length+1:=o2
  have o3 : ∀ x∈ZQ m',x∈ZQ m∨x.length<=(Za t).length:=o3
  have hk' : ∀ x∈ZQ m',x.length<=500000:=fun x hx=>(o3 x hx).elim (hk x) fun h=>by omega
  have hub:=Vx u
  simp only
  generalize hV:(if b=false then((⟨0,[]⟩,6):Lin×Int)else if Za u=[]then Xo n' m' else if (ZM (Za u)).1.2=false then(⟨0,[]⟩,6)else Q4 f (ZM (Za u)).2 n' m' (ZM (Za u)).1.1)=V
  refine Wv (fun hb=> ?_) fun hb=> ?_
  ·have hv:V=(⟨0,[]⟩,6):=by rw[<- hV,if_pos hb]
   rw[hv]
   exact⟨rfl,rfl⟩
  have hb' : ¬ b=false:=by
   have:b=true:=hb
   rw[this];simp
  rw[if_neg hb']at hV
  refine⟨VZ u n' m' (by omega),Wu (fun he=> ?_) fun he=> ?_⟩
  ·have hv:V=Xo n' m':=by rw[<- hV,if_pos he]
   rw[hv,Yh]
   refine⟨?_,Yv (x:=Xo n' m') rfl⟩
   show(Jl (Zc m')&&QP (ZX (Zc m')))=true
   rw[Us,Yh]
   simp only[QP,Bool.true_and,Bool.and_eq_true,decide_eq_true_eq,List.all_eq_true]
   exact⟨by omega,fun x hx=>by have:=hk' x hx;omega⟩
  ·rw[if_neg he]at hV
   obtain⟨s1,s2⟩:=Ty (Za u)
   refine⟨VZ (Za u) n' m' (by omega),Wv (fun hs=> ?_) fun hs=> ?_⟩
   ·have hv:V=(⟨0,[]⟩,6):=by rw[<- hV,if_pos hs]
    rw[hv]
    exact⟨rfl,rfl⟩
   ·have hs' : ¬ (ZM (Za u)).1.2=false:=by
     have:(ZM (Za u)).1.2=true:=hs
     rw[this];simp
    rw[if_neg hs']at hV
    have:=s2 hs
    rw[<- hV]
    exact ih (ZM (Za u)).2 n' m' (ZM (Za u)).1.1 (by omega) (by omega) hk'
theorem Mw: ∀ a:Str×Unit,decide (a.1.s.length<=400000)=true->Zi UI 0 (Ze Vo (ZH (Zm a.1.s))) VE [] (Xw OI (encL a)):=by
 rintro⟨⟨s⟩,⟨⟩⟩ h
 have h:s.length<=400000:=by simpa using h
 have h1:=Vx s
 have h2:=(Ty (Za s)).1
 refine a2g s ⟨VZ s 0 [] (by omega),VZ (Za s) 0 [] (by omega),?_⟩
 exact R4 s (s.length+1) (ZM (Za s)).2 0 [] (ZM (Za s)).1.1 (by omega) (by simp;omega) (fun x hx=>by cases hx)
end Go.Pl

namespace Go.Pl
open Go.RowKit
open Enc (enc dec is)
open EncL (encL decL isL)
set_option maxRecDepth 100000
def Jp:IC:=(.seq (.reg [⟨(some 4),(.mv (.c (.int .i64 0))),0,none⟩] none) (.seq (.block 0 (.seq (.reg [⟨(some 6),(.mv (.t 0)),0,none⟩,⟨(some 7),(.mv (.t 1)),0,none⟩,⟨(some 8),(.bin .num .lss (.t 6) (.t 7)),0,none⟩,⟨(some 5),(.mv (.t 8)),0,none⟩] none) (.cond (.t 5) (.seq (.reg [⟨(some 4),(.mv (.c (.int .i64 (-1)))),0,none⟩] none) .ret) (.seq (.reg [⟨(some 10),(.mv (.t 0)),0,none⟩,⟨(some 11),(.mv (.t 1)),0,none⟩,⟨(some 12),(.bin .num .gtr (.t 10) (.t 11)),0,none⟩,⟨(some 9),(.mv (.t 12)),0,none⟩] none) (.cond (.t 9) (.seq (.reg [⟨(some 4),(.mv (.c (.int .i64 1))),0,none⟩] none) .ret) .skip))))) (.seq (.reg [⟨(some 4),(.mv (.c (.int .i64 0))),0,none⟩] none) .ret)))
def Qo:List IRes:=[(.tmp 4)]
abbrev M6:Nat:=13
def Ku:ZI:=WL []
theorem El{G:PV->Prop}(a b:Int)(h:if (decide (a<b))=true then G ((.int .i64 (-1)))else(if (decide (a>b))=true then G ((.int .i64 1))else(G ((.int .i64 0))))):Zi Ku 0 (Ze Qo G) Jp [] (Xw 13 [enc a,enc b]):=Zi.tp (.lit (.ask (.nil) (.lit (.ask (.nil) (.nil))))) h (by kernel_rfl)
def Dv:IC:=(.seq (.reg [⟨(some 2),(.box 2 (.t 0)),0,none⟩,⟨(some 3),(.box 2 (.t 1)),1,none⟩,⟨(some 4),(.mv (.c (.int .i64 0))),2,none⟩] none) (.seq (.seq (.reg [⟨(some 6),(.faddr 0 (.t 2)),0,none⟩,⟨(some 7),(.load false [.str] (.t 6)),0,none⟩,⟨(some 8),(.faddr 0 (.t 3)),0,none⟩,⟨(some 9),(.load false [.str] (.t 8)),0,none⟩,⟨(some 10),(.call (.c (.fn 212)) [(.t 7),(.t 9)]),0,none⟩,⟨(some 5),(.mv (.t 10)),2,none⟩] none) (.seq (.reg [⟨(some 11),(.mv (.t 5)),0,none⟩,⟨(some 12),(.bin .num .neq (.t 11) (.c (.int .i64 0))),0,none⟩] none) (.cond (.t 12) (.seq (.reg [⟨(some 13),(.mv (.t 5)),0,none⟩,⟨(some 4),(.mv (.t 13)),0,none⟩] none) .ret) .skip))) (.seq (.reg [⟨(some 14),(.faddr 1 (.t 2)),0,none⟩,⟨(some 15),(.load false [(.int .i64)] (.t 14)),0,none⟩,⟨(some 16),(.faddr 1 (.t 3)),0,none⟩,⟨(some 17),(.load false [(.int .i64)] (.t 16)),0,none⟩,⟨(some 18),(.call (.c (.fn 213)) [(.t 15),(.t 17)]),0,none⟩,⟨(some 4),(.mv (.t 18)),2,none⟩] none) .ret)))
def Kl:List IRes:=[(.tmp 4)]
abbrev EF:Nat:=19
def J4:ZI:=WL [(212,.pure (preT (fun _:Str×Str×Unit=>true)) (Zj (fun x:Str×Str×Unit=>Lib.compareBytes x.1.s x.2.1.s))),(213,.pure (preT (fun _:Int×Int×Unit=>true)) (Zj (fun x:Int×Int×Unit=>U3 x.1 x.2.1)))]
theorem a4e{G:PV->Prop}(x y:Coef)(h : ∃ y0:Int,AV.pv (Zj (fun(x:Str×Str×Unit)=>Lib.compareBytes (Str.s x.1) (Str.s x.2.1)) [(.str (Str.s x.v)),(.str (Str.s y.v))])=AV.pv (enc y0)∧(if (y0 != 0)=true then G ((.int .i64 y0))else(∃ y1:Int,AV.pv (Zj (fun(x:Int×Int×Unit)=>U3 x.1 x.2.1) [(.int .i64 x.c),(.int .i64 y.c)])=AV.pv (enc y1)∧(G ((.int .i64 y1)))))):Zi J4 0 (Ze Kl G) Dv [] (Xw 19 [enc x,enc y]):=Zi.tp (.lit (.abs (Int) (fun YY=>AV.pv (enc YY)) (.lit (.ask (.nil) (.lit (.abs (Int) (fun YY=>AV.pv (enc YY)) (.nil))))))) h (by kernel_rfl)
def Vt:IC:=(.seq (.reg [⟨(some 6),(.mv (.c (.int .i64 0))),0,none⟩] none) (.seq (.seq (.reg [⟨(some 11),(.mv (.t 0)),0,none⟩,⟨(some 12),(.len 1 (.t 11)),0,none⟩,⟨(some 13),(.mv (.c (.int .i64 0))),0,none⟩] none) (.block 0 (.loop [13,12,11,1,2,0] (.seq (.reg [⟨(some 14),(.bin .num .lss (.t 13) (.t 12)),0,none⟩] none) (.seq (.cond (.t 14) .skip (.exit 0)) (.seq (.block 1 (.seq (.reg [⟨(some 15),(.mv (.t 13)),0,none⟩,⟨(some 16),(.iaddr 2 (.t 11) (.t 13)),0,none⟩,⟨(some 17),(.load true [.str,(.int .i64)] (.t 16)),0,none⟩,⟨(some 8),(.alloc (.agg [(.str []),(.int .i64 0)])),0,none⟩,⟨(some 7),(.mv (.t 15)),1,none⟩,⟨none,(.store 2 (.t 8) (.t 17)),1,none⟩] none) (.seq (.seq (.reg [⟨(some 18),(.mv (.t 7)),0,none⟩,⟨(some 19),(.mv (.t 1)),0,none⟩,⟨(some 20),(.len 1 (.t 19)),0,none⟩,⟨(some 21),(.bin .num .geq (.t 18) (.t 20)),0,none⟩] none) (.cond (.t 21) (.seq (.reg [⟨(some 6),(.mv (.c (.int .i64 1))),0,none⟩] none) .ret) .skip)) (.seq (.reg [⟨(some 22),(.mv (.t 1)),0,none⟩,⟨(some 23),(.mv (.t 7)),0,none⟩,⟨(some 24),(.iaddr 2 (.t 22) (.t 23)),0,none⟩,⟨(some 25),(.load true [.str,(.int .i64)] (.t 24)),0,none⟩,⟨(some 9),(.alloc (.agg [(.str []),(.int .i64 0)])),0,none⟩,⟨none,(.store 2 (.t 9) (.t 25)),1,none⟩] none) (.seq (.reg [⟨(some 26),(.mv (.t 2)),0,none⟩,⟨(some 27),(.load true [.str,(.int .i64)] (.t 8)),0,none⟩,⟨(some 28),(.load true [.str,(.int .i64)] (.t 9)),0,none⟩,⟨(some 29),(.call (.t 26) [(.t 27),(.t 28)]),0,none⟩,⟨(some 10),(.mv (.t 29)),2,none⟩] none) (.seq (.reg [⟨(some 30),(.mv (.t 10)),0,none⟩,⟨(some 31),(.bin .num .neq (.t 30) (.c (.int .i64 0))),0,none⟩] none) (.cond (.t 31) (.seq (.reg [⟨(some 32),(.mv (.t 10)),0,none⟩,⟨(some 6),(.mv (.t 32)),0,none⟩] none) .ret) .skip))))))) (.reg [⟨(some 33),(.bin .num .add (.t 13) (.c (.int .i64 1))),0,none⟩,⟨(some 13),(.mv (.t 33)),0,none⟩] none))))))) (.seq (.seq (.reg [⟨(some 34),(.mv (.t 0)),0,none⟩,⟨(some 35),(.len 1 (.t 34)),0,none⟩,⟨(some 36),(.mv (.t 1)),0,none⟩,⟨(some 37),(.len 1 (.t 36)),0,none⟩,⟨(some 38),(.bin .num .lss (.t 35) (.t 37)),0,none⟩] none) (.cond (.t 38) (.seq (.reg [⟨(some 6),(.mv (.c (.int .i64 (-1)))),0,none⟩] none) .ret) .skip)) (.seq (.reg [⟨(some 6),(.mv (.c (.int .i64 0))),0,none⟩] none) .ret))))
def Vv:List IRes:=[(.tmp 6)]
abbrev a1g:Nat:=39
def UM:ZI:=WL [(211,.pure (preT (fun _:Coef×Coef×Unit=>true)) (Zj (fun x:Coef×Coef×Unit=>DR x.1 x.2.1)))]
theorem a4j{G:PV->Prop}(a b:List Coef)(h:At UM 0 (Ze Vv G) Vt 0 39 [(0,(.pv (.sl 2 false (List.map enc a)))),(1,(.pv (.sl 2 false (List.map enc b)))),(2,(.pv (.fn 211))),(11,(.pv (.sl 2 false (List.map enc a)))),(12,(.pv (.int .i64 (↑(List.length (List.map enc a)):Int)))),(13,(.pv (.int .i64 0)))] []):Zi UM 0 (Ze Vv G) Vt [] (Xw 39 [enc a,enc b,.fn 211]):=Zi.tp (.nil) h (by kernel_rfl)
theorem TP{G:PV->Prop}(a b:List Coef)(i:Int)(h:if (decide (i<(↑(List.length a):Int)))=true then(decide (0<=i)&&decide (Int.toNat i<List.length (List.map enc a))&&Enc.sz Coef==2)=true∧(∃ y0:Coef,AV.pv (PV.rptr (PV.cells (List.getD (List.map enc a) (Int.toNat i) default)))=AV.pv (PV.rptr (PV.cells ((enc) y0)))∧(if (decide (i ≥ (↑(List.length (List.map enc b)):Int)))=true then G ((.int .i64 1))else((decide (0<=i)&&decide (Int.toNat i<List.length (List.map enc b))&&Enc.sz Coef==2)=true∧(∃ y1:Coef,AV.pv (PV.rptr (PV.cells (List.getD (List.map enc b) (Int.toNat i) default)))=AV.pv (PV.rptr (PV.cells ((enc) y1)))∧(∃ y2:Int,AV.pv (Zj (fun(x:Coef×Coef×Unit)=>DR x.1 x.2.1) [(.agg [(.str (PV.asStr (List.getD (PV.cells (enc y0)) 0 default))),(.int .i64 (PV.asInt (List.getD (PV.cells (enc y0)) (0+1) default)))]),(.agg [(.str (PV.asStr (List.getD (PV.cells (enc y1)) 0 default))),(.int .i64 (PV.asInt (List.getD (PV.cells (enc y1)) (0+1) default)))])])=AV.pv (enc y2)∧(if (y2 != 0)=true then G ((.int .i64 y2))else(At UM 0 (Ze Vv G) Vt 0 39 [(0,(.pv (.sl 2 false (List.map enc a)))),(1,(.pv (.sl 2 false (List.map enc b)))),(2,(.pv (.fn 211))),(11,(.pv (.sl 2 false (List.map enc a)))),(12,(.pv (.int .i64 (↑(List.length a):Int)))),(13,(.pv (.int .i64 (IntKind.wrap IntKind.i64 (i+1)))))] [])))))))else(if (decide ((↑(List.length (List.map enc a)):Int)<(↑(List.length (List.map enc b)):Int)))=true then G ((.int .i64 (-1)))else(G ((.int .i64 0))))):At UM 0 (Ze Vv G) Vt 0 39 [(0,.pv (enc a)),(1,.pv (enc b)),(2,.pv (.fn 211)),(11,.pv (enc a)),(12,.pv (.int .i64 a.length)),(13,.pv (.int .i64 i))] []:=At.tp (.lit (.ask (.req (.abs (Coef) (fun YY=>AV.pv (PV.rptr (PV.cells ((enc) YY)))) (.lit (.lit (.ask (.nil) (.req (.abs (Coef) (fun YY=>AV.pv (PV.rptr (PV.cells ((enc) YY)))) (.lit (.lit (.abs (Int) (fun YY=>AV.pv (enc YY)) (.lit (.ask (.nil) (.lit (.nil)))))))))))))) (.lit (.ask (.nil) (.nil))))) h (by kernel_rfl)
def BF:IC:=(.seq (.reg [⟨(some 2),(.box 2 (.t 0)),0,none⟩,⟨(some 3),(.box 2 (.t 1)),1,none⟩,⟨(some 4),(.mv (.c (.int .i64 0))),2,none⟩] none) (.seq (.reg [⟨(some 6),(.faddr 1 (.t 2)),0,none⟩,⟨(some 7),(.load false [(.sl 2)] (.t 6)),0,none⟩,⟨(some 8),(.faddr 1 (.t 3)),0,none⟩,⟨(some 9),(.load false [(.sl 2)] (.t 8)),0,none⟩,⟨(some 10),(.call (.c (.fn 210)) [(.t 7),(.t 9),(.c (.fn 211))]),0,none⟩,⟨(some 5),(.mv (.t 10)),2,none⟩] none) (.seq (.seq (.reg [⟨(some 11),(.mv (.t 5)),0,none⟩,⟨(some 12),(.bin .num .neq (.t 11) (.c (.int .i64 0))),0,none⟩] none) (.cond (.t 12) (.seq (.reg [⟨(some 13),(.mv (.t 5)),0,none⟩,⟨(some 4),(.mv (.t 13)),0,none⟩] none) .ret) .skip)) (.seq (.reg [⟨(some 14),(.faddr 0 (.t 2)),0,none⟩,⟨(some 15),(.load false [(.int .i64)] (.t 14)),0,none⟩,⟨(some 16),(.faddr 0 (.t 3)),0,none⟩,⟨(some 17),(.load false [(.int .i64)] (.t 16)),0,none⟩,⟨(some 18),(.call (.c (.fn 213)) [(.t 15),(.t 17)]),0,none⟩,⟨(some 4),(.mv (.t 18)),2,none⟩] none) .ret))))
def Hm:List IRes:=[(.tmp 4)]
abbrev a4m:Nat:=19
def Aj:ZI:=WL [(210,.pure (preT (fun x:List Coef×List Coef×FnV 211×Unit=>decide (x.1.length<=9223372036854775807)&&decide (x.2.1.length<=9223372036854775807))) (Zj (fun x:List Coef×List Coef×FnV 211×Unit=>WU x.1 x.2.1))),(213,.pure (preT (fun _:Int×Int×Unit=>true)) (Zj (fun x:Int×Int×Unit=>U3 x.1 x.2.1)))]
theorem a8q{G:PV->Prop}(a b:Lin)(h:(Go.Pl.preT (fun(x:List Coef×List Coef×FnV 211×Unit)=>decide (List.length x.1<=9223372036854775807)&&decide (List.length x.2.1<=9223372036854775807)) [(.sl 2 false (List.map enc a.t)),(.sl 2 false (List.map enc b.t)),(.fn 211)])=true∧(∃ y0:Int,AV.pv (Zj (fun(x:List Coef×List Coef×FnV 211×Unit)=>WU x.1 x.2.1) [(.sl 2 false (List.map enc a.t)),(.sl 2 false (List.map enc b.t)),(.fn 211)])=AV.pv (enc y0)∧(if (y0 != 0)=true then G ((.int .i64 y0))else(∃ y1:Int,AV.pv (Zj (fun(x:Int×Int×Unit)=>U3 x.1 x.2.1) [(.int .i64 a.k),(.int .i64 b.k)])=AV.pv (enc y1)∧(G ((.int .i64 y1))))))):Zi Aj 0 (Ze Hm G) BF [] (Xw 19 [enc a,enc b]):=Zi.tp (.req (.abs (Int) (fun YY=>AV.pv (enc YY)) (.lit (.ask (.nil) (.lit (.abs (Int) (fun YY=>AV.pv (enc YY)) (.nil))))))) h (by kernel_rfl)
def Px:IC:=(.seq (.reg [⟨(some 2),(.box 2 (.t 0)),0,none⟩,⟨(some 3),(.box 2 (.t 1)),1,none⟩,⟨(some 4),(.mv (.c (.bool false))),2,none⟩] none) (.seq (.reg [⟨(some 5),(.load true [(.int .i64),(.sl 2)] (.t 2)),0,none⟩,⟨(some 6),(.load true [(.int .i64),(.sl 2)] (.t 3)),0,none⟩,⟨(some 7),(.call (.c (.fn 145)) [(.t 5),(.t 6)]),0,none⟩,⟨(some 8),(.bin .num .eql (.t 7) (.c (.int .i64 0))),2,none⟩,⟨(some 4),(.mv (.t 8)),2,none⟩] none) .ret))
def RJ:List IRes:=[(.tmp 4)]
abbrev a6s:Nat:=9
def a1f:ZI:=WL [(145,.pure (preT (fun x:Lin×Lin×Unit=>Zy x.1&&Zy x.2.1)) (Zj (fun x:Lin×Lin×Unit=>VG x.1 x.2.1)))]
theorem a9e{G:PV->Prop}(a b:Lin)(h:(Go.Pl.preT (fun(x:Lin×Lin×Unit)=>Zy x.1&&Zy x.2.1) [(.agg [(.int .i64 a.k),(.sl 2 false (List.map enc a.t))]),(.agg [(.int .i64 b.k),(.sl 2 false (List.map enc b.t))])])=true∧(∃ y0:Int,AV.pv (Zj (fun(x:Lin×Lin×Unit)=>VG x.1 x.2.1) [(.agg [(.int .i64 a.k),(.sl 2 false (List.map enc a.t))]),(.agg [(.int .i64 b.k),(.sl 2 false (List.map enc b.t))])])=AV.pv (enc y0)∧(G ((.bool (y0==0)))))):Zi a1f 0 (Ze RJ G) Px [] (Xw 9 [enc a,enc b]):=Zi.tp (.req (.abs (Int) (fun YY=>AV.pv (enc YY)) (.lit (.nil)))) h (by kernel_rfl)
def Be:IC:=(.seq (.reg [⟨(some 6),(.mv (.t 0)),0,none⟩,⟨(some 7),(.call (.c (.fn 76)) [(.t 6)]),0,none⟩,⟨(some 5),(.mv (.t 7)),2,none⟩] none) (.seq (.seq (.reg [⟨(some 8),(.mv (.t 1)),0,none⟩,⟨(some 9),(.bin .num .neq (.t 8) (.c (.str []))),0,none⟩,⟨(some 10),(.mv (.t 9)),0,none⟩,⟨(some 11),(.mv (.t 0)),0,(some (10,true))⟩,⟨(some 12),(.bin .num .eql (.t 11) (.c (.int .i64 1))),0,(some (10,true))⟩,⟨(some 13),(.mv (.t 12)),0,(some (10,true))⟩,⟨(some 14),(.mv (.t 0)),0,(some (13,false))⟩,⟨(some 15),(.bin .num .eql (.t 14) (.c (.int .i64 (-1)))),0,(some (13,false))⟩,⟨(some 16),(.pick (.t 13) (.c (.bool true)) (.t 15)),0,(some (10,true))⟩,⟨(some 17),(.pick (.t 10) (.t 16) (.c (.bool false))),0,none⟩] none) (.cond (.t 17) (.reg [⟨(some 18),(.mv (.t 5)),0,none⟩,⟨(some 19),(.call (.c (.fn 77)) [(.t 18),(.c (.str [49]))]),0,none⟩,⟨(some 5),(.mv (.t 19)),2,none⟩] none) .skip)) (.seq (.seq (.reg [⟨(some 20),(.mv (.t 0)),0,none⟩,⟨(some 21),(.bin .num .geq (.t 20) (.c (.int .i64 0))),0,none⟩,⟨(some 22),(.mv (.t 21)),0,none⟩,⟨(some 23),(.load false [.str] (.t 2)),0,(some (22,true))⟩,⟨(some 24),(.bin .num .neq (.t 23) (.c (.str []))),0,(some (22,true))⟩,⟨(some 25),(.pick (.t 22) (.t 24) (.c (.bool false))),0,none⟩] none) (.cond (.t 25) (.reg [⟨(some 26),(.load false [.str] (.t 2)),0,none⟩,⟨(some 27),(.bin .num .add (.t 26) (.c (.str [43]))),0,none⟩,⟨none,(.store 1 (.t 2) (.t 27)),0,none⟩] none) .skip)) (.reg [⟨(some 28),(.load false [.str] (.t 2)),0,none⟩,⟨(some 29),(.mv (.t 5)),0,none⟩,⟨(some 30),(.mv (.t 1)),0,none⟩,⟨(some 31),(.bin .num .add (.t 29) (.t 30)),0,none⟩,⟨(some 32),(.bin .num .add (.t 28) (.t 31)),0,none⟩,⟨none,(.store 1 (.t 2) (.t 32)),0,none⟩] none))))
def Bu:List IRes:=[]
abbrev a5i:Nat:=33
def Pm:ZI:=WL [(76,.pure (preT (fun x:Int×Unit=>decide (-9223372036854775808<=x.1)&&decide (x.1<=9223372036854775807))) (Zj (fun x:Int×Unit=>ZB x.1))),(77,.pure (preT (fun x:Str×Str×Unit=>decide (x.1.s.length<=1000000))) (Zj (fun x:Str×Str×Unit=>(⟨Lib.trimSuffix x.1.s x.2.1.s⟩:Str))))]
theorem a7u{G:AV×List AObj×List AObj->Prop}(n:Int)(s o:List UInt8)(h:(Go.Pl.preT (fun(x:Int×Unit)=>decide ((-9223372036854775808:Int)<=x.1)&&decide (x.1<=9223372036854775807)) [(.int .i64 n)])=true∧(∃ y0:Str,AV.pv (Zj (fun(x:Int×Unit)=>ZB x.1) [(.int .i64 n)])=AV.pv (enc y0)∧(if (!s==[])=true then if (n==1)=true then(Go.Pl.preT (fun(x:Str×Str×Unit)=>decide (List.length (Str.s x.1)<=1000000)) [(.str (Str.s y0)),(.str [(49:UInt8)])])=true∧(∃ y1:Str,AV.pv (Zj (fun(x:Str×Str×Unit)=>Str.mk (Lib.trimSuffix (Str.s x.1) (Str.s x.2.1))) [(.str (Str.s y0)),(.str [(49:UInt8)])])=AV.pv (enc y1)∧(if (decide (n ≥ 0))=true then if (!o==[])=true then(decide (List.length o+List.length [(43:UInt8)]<=1099511627776))=true∧((decide (List.length (Str.s y1)+List.length s<=1099511627776))=true∧((decide (List.length (o++[(43:UInt8)])+List.length (Str.s y1++s)<=1099511627776))=true∧(G (((.tup []),([(.box [(.pv (.str (o++[(43:UInt8)]++(Str.s y1++s))))])],[]))))))else((decide (List.length (Str.s y1)+List.length s<=1099511627776))=true∧((decide (List.length o+List.length (Str.s y1++s)<=1099511627776))=true∧(G (((.tup []),([(.box [(.pv (.str (o++(Str.s y1++s))))])],[]))))))else((decide (List.length (Str.s y1)+List.length s<=1099511627776))=true∧((decide (List.length o+List.length (Str.s y1++s)<=1099511627776))=true∧(G (((.tup []),([(.box [(.pv (.str (o++(Str.s y1++s))))])],[]))))))))else(if (n==(-1:Int))=true then(Go.Pl.preT (fun(x:Str×Str×Unit)=>decide (List.length (Str.s x.1)<=1000000)) [(.str (Str.s y0)),(.str [(49:UInt8)])])=true∧(∃ y2:Str,AV.pv (Zj (fun(x:Str×Str×Unit)=>Str.mk (Lib.trimSuffix (Str.s x.1) (Str.s x.2.1))) [(.str (Str.s y0)),(.str [(49:UInt8)])])=AV.pv (enc y2)∧(if (decide (n ≥ 0))=true then if (!o==[])=true then(decide (List.length o+List.length [(43:UInt8)]<=1099511627776))=true∧((decide (List.length (Str.s y2)+List.length s<=1099511627776))=true∧((decide (List.length (o++[(43:UInt8)])+List.length (Str.s y2++s)<=1099511627776))=true∧(G (((.tup []),([(.box [(.pv (.str (o++[(43:UInt8)]++(Str.s y2++s))))])],[]))))))else((decide (List.length (Str.s y2)+List.length s<=1099511627776))=true∧((decide (List.length o+List.length (Str.s y2++s)<=1099511627776))=true∧(G (((.tup []),([(.box [(.pv (.str (o++(Str.s y2++s))))])],[]))))))else((decide (List.length (Str.s y2)+List.length s<=1099511627776))=true∧((decide (List.length o+List.length (Str.s y2++s)<=1099511627776))=true∧(G (((.tup []),([(.box [(.pv (.str (o++(Str.s y2++s))))])],[]))))))))else(if (decide (n ≥ 0))=true then if (!o==[])=true then(decide (List.length o+List.length [(43:UInt8)]<=1099511627776))=true∧((decide (List.length (Str.s y0)+List.length s<=1099511627776))=true∧((decide (List.length (o++[(43:UInt8)])+List.length (Str.s y0++s)<=1099511627776))=true∧(G (((.tup []),([(.box [(.pv (.str (o++[(43:UInt8)]++(Str.s y0++s))))])],[]))))))else((decide (List.length (Str.s y0)+List.length s<=1099511627776))=true∧((decide (List.length o+List.length (Str.s y0++s)<=1099511627776))=true∧(G (((.tup []),([(.box [(.pv (.str (o++(Str.s y0++s))))])],[]))))))else((decide (List.length (Str.s y0)+List.length s<=1099511627776))=true∧((decide (List.length o+List.length (Str.s y0++s)<=1099511627776))=true∧(G (((.tup []),([(.box [(.pv (.str (o++(Str.s y0++s))))])],[]))))))))else(if (decide (n ≥ 0))=true then if (!o==[])=true then(decide (List.length o+List.length [(43:UInt8)]<=1099511627776))=true∧((decide (List.length (Str.s y0)+List.length s<=1099511627776))=true∧((decide (List.length (o++[(43:UInt8)])+List.length (Str.s y0++s)<=1099511627776))=true∧(G (((.tup []),([(.box [(.pv (.str (o++[(43:UInt8)]++(Str.s y0++s))))])],[]))))))else((decide (List.length (Str.s y0)+List.length s<=1099511627776))=true∧((decide (List.length o+List.length (Str.s y0++s)<=1099511627776))=true∧(G (((.tup []),([(.box [(.pv (.str (o++(Str.s y0++s))))])],[]))))))else((decide (List.length (Str.s y0)+List.length s<=1099511627776))=true∧((decide (List.length o+List.length (Str.s y0++s)<=1099511627776))=true∧(G (((.tup []),([(.box [(.pv (.str (o++(Str.s y0++s))))])],[])))))))))):Zi Pm 1 (Zd 1 Bu G) Be [] (Yk 33 [.pv (enc n),.pv (.str s),.ptr 0 0] [.box [.pv (.str o)]]):=Zi.to (.req (.abs (Str) (fun YY=>AV.pv (enc YY)) (.lit (.ask (.lit (.lit (.lit (.ask (.lit (.lit (.lit (.lit (.lit (.req (.abs (Str) (fun YY=>AV.pv (enc YY)) (.lit (.ask (.lit (.lit (.lit (.ask (.req (.req (.req (.nil)))) (.req (.req (.nil))))))) (.lit (.lit (.lit (.req (.req (.nil))))))))))))))) (.lit (.lit (.lit (.lit (.lit (.ask (.req (.abs (Str) (fun YY=>AV.pv (enc YY)) (.lit (.ask (.lit (.lit (.lit (.ask (.req (.req (.req (.nil)))) (.req (.req (.nil))))))) (.lit (.lit (.lit (.req (.req (.nil)))))))))) (.lit (.ask (.lit (.lit (.lit (.ask (.req (.req (.req (.nil)))) (.req (.req (.nil))))))) (.lit (.lit (.lit (.req (.req (.nil)))))))))))))))))) (.lit (.lit (.lit (.lit (.lit (.lit (.ask (.lit (.lit (.lit (.ask (.req (.req (.req (.nil)))) (.req (.req (.nil))))))) (.lit (.lit (.lit (.req (.req (.nil))))))))))))))))) h (by kernel_rfl)
def WC:IC:=(.seq (.reg [⟨(some 1),(.box 2 (.t 0)),0,none⟩,⟨(some 2),(.mv (.c (.str []))),1,none⟩] none) (.seq (.seq (.reg [⟨(some 7),(.load true [(.int .i64),(.sl 2)] (.t 1)),0,none⟩,⟨(some 8),(.call (.c (.fn 73)) [(.t 7)]),0,none⟩,⟨(some 9),(.un .not (.t 8)),2,none⟩] none) (.cond (.t 9) (.seq (.reg [⟨(some 2),(.mv (.c (.str []))),0,none⟩] none) .ret) .skip)) (.seq (.reg [⟨(some 3),(.alloc (.str [])),0,none⟩,⟨none,(.store 1 (.t 3) (.c (.str []))),1,none⟩] none) (.seq (.reg [⟨(some 10),(.mkfn 75 [] [(.t 3)]),0,none⟩,⟨(some 4),(.mv (.t 10)),0,none⟩] none) (.seq (.seq (.reg [⟨(some 11),(.faddr 1 (.t 1)),0,none⟩,⟨(some 12),(.load false [(.sl 2)] (.t 11)),0,none⟩,⟨(some 13),(.len 1 (.t 12)),0,none⟩,⟨(some 14),(.mv (.c (.int .i64 0))),0,none⟩] none) (.block 0 (.loop [14,13,12,4,1,3] (.seq (.reg [⟨(some 15),(.bin .num .lss (.t 14) (.t 13)),0,none⟩] none) (.seq (.cond (.t 15) .skip (.exit 0)) (.seq (.block 1 (.seq (.reg [⟨(some 16),(.iaddr 2 (.t 12) (.t 14)),0,none⟩,⟨(some 17),(.load true [.str,(.int .i64)] (.t 16)),0,none⟩,⟨(some 6),(.alloc (.agg [(.str []),(.int .i64 0)])),0,none⟩,⟨none,(.store 2 (.t 6) (.t 17)),1,none⟩] none) (.reg [⟨(some 18),(.mv (.t 4)),0,none⟩,⟨(some 19),(.faddr 1 (.t 6)),0,none⟩,⟨(some 20),(.load false [(.int .i64)] (.t 19)),0,none⟩,⟨(some 21),(.faddr 0 (.t 6)),0,none⟩,⟨(some 22),(.load false [.str] (.t 21)),0,none⟩,⟨(some 23),(.call (.t 18) [(.t 20),(.t 22)]),0,none⟩] none))) (.reg [⟨(some 24),(.bin .num .add (.t 14) (.c (.int .i64 1))),0,none⟩,⟨(some 14),(.mv (.t 24)),0,none⟩] none))))))) (.seq (.seq (.reg [⟨(some 25),(.faddr 0 (.t 1)),0,none⟩,⟨(some 26),(.load false [(.int .i64)] (.t 25)),0,none⟩,⟨(some 27),(.bin .num .neq (.t 26) (.c (.int .i64 0))),0,none⟩,⟨(some 28),(.mv (.t 27)),0,none⟩,⟨(some 29),(.load false [.str] (.t 3)),0,(some (28,false))⟩,⟨(some 30),(.bin .num .eql (.t 29) (.c (.str []))),0,(some (28,false))⟩,⟨(some 31),(.pick (.t 28) (.c (.bool true)) (.t 30)),0,none⟩] none) (.cond (.t 31) (.reg [⟨(some 32),(.mv (.t 4)),0,none⟩,⟨(some 33),(.faddr 0 (.t 1)),0,none⟩,⟨(some 34),(.load false [(.int .i64)] (.t 33)),0,none⟩,⟨(some 35),(.call (.t 32) [(.t 34),(.c (.str []))]),0,none⟩] none) .skip)) (.seq (.reg [⟨(some 36),(.load false [.str] (.t 3)),0,none⟩,⟨(some 2),(.mv (.t 36)),0,none⟩] none) .ret)))))))
def XZ:List IRes:=[(.tmp 2)]
abbrev MU:Nat:=37
def WQ:ZI:=WL [(73,.pure (preT (fun x:Lin×Unit=>Zt x.1)) (Zj (fun x:Lin×Unit=>Zh x.1))),(75,.own Xj Kv)]
theorem a1d{G:PV->Prop}(l:Lin)(h:(Go.Pl.preT (fun(x:Lin×Unit)=>Zt x.1) [(.agg [(.int .i64 l.k),(.sl 2 false (List.map enc l.t))])])=true∧(∃ y0:Bool,AV.pv (Zj (fun(x:Lin×Unit)=>Zh x.1) [(.agg [(.int .i64 l.k),(.sl 2 false (List.map enc l.t))])])=AV.pv (enc y0)∧(if (!y0)=true then G ((.str []))else(At WQ 0 (Ze XZ G) WC 0 37 [(1,(.ptr 0 0)),(3,(.ptr 1 0)),(4,(.fn 75 [] [(.ptr 1 0)])),(12,(.pv (.sl 2 false (List.map enc l.t)))),(13,(.pv (.int .i64 (↑(List.length (List.map enc l.t)):Int)))),(14,(.pv (.int .i64 0)))] [(.obj (.box [(.pv (.int .i64 l.k)),(.pv (.sl 2 false (List.map enc l.t)))])),(.obj (.box [(.pv (.str []))]))])))):Zi WQ 0 (Ze XZ G) WC [] (Xw 37 [enc l]):=Zi.tp (.req (.abs (Bool) (fun YY=>AV.pv (enc YY)) (.ask (.nil) (.nil)))) h (by kernel_rfl)
theorem D9{G:PV->Prop}(l:Lin)(o:List UInt8)(i:Int)(h:if (decide (i<(↑(List.length l.t):Int)))=true then(decide (0<=i)&&decide (Int.toNat i<List.length (List.map enc l.t))&&Enc.sz Coef==2)=true∧(∃ y0:Coef,AV.pv (PV.rptr (PV.cells (List.getD (List.map enc l.t) (Int.toNat i) default)))=AV.pv (PV.rptr (PV.cells ((enc) y0)))∧((Xj [(.pv (.int .i64 (PV.asInt (List.getD (PV.cells (enc y0)) (0+1) default)))),(.pv (.str (PV.asStr (List.getD (PV.cells (enc y0)) 0 default)))),(.ptr 0 0)] [(.box [(.pv (.str o))])])=true∧(At WQ 0 (Ze XZ G) WC 0 37 [(1,(.ptr 0 0)),(3,(.ptr 1 0)),(4,(.fn 75 [] [(.ptr 1 0)])),(12,(.pv (.sl 2 false (List.map enc l.t)))),(13,(.pv (.int .i64 (↑(List.length l.t):Int)))),(14,(.pv (.int .i64 (IntKind.wrap IntKind.i64 (i+1)))))] [(.obj (.box [(.pv (.int .i64 l.k)),(.pv (.sl 2 false (List.map enc l.t)))])),(.obj (.box [(.pv (.str (ZZ o (PV.asInt (List.getD (PV.cells (enc y0)) (0+1) default)) (PV.asStr (List.getD (PV.cells (enc y0)) 0 default)))))]))])))else(if (l.k != 0)=true then(Xj [(.pv (.int .i64 l.k)),(.pv (.str [])),(.ptr 0 0)] [(.box [(.pv (.str o))])])=true∧(G ((.str (ZZ o l.k []))))else(if (o==[])=true then(Xj [(.pv (.int .i64 l.k)),(.pv (.str [])),(.ptr 0 0)] [(.box [(.pv (.str o))])])=true∧(G ((.str (ZZ o l.k []))))else(G ((.str o)))))):At WQ 0 (Ze XZ G) WC 0 37 [(1,.ptr 0 0),(3,.ptr 1 0),(4,.fn 75 [] [.ptr 1 0]),(12,.pv (enc l.t)),(13,.pv (.int .i64 l.t.length)),(14,.pv (.int .i64 i))] [.obj (.box [.pv (.int .i64 l.k),.pv (enc l.t)]),.obj (.box [.pv (.str o)])]:=At.tp (.lit (.ask (.req (.abs (Coef) (fun YY=>AV.pv (PV.rptr (PV.cells ((enc) YY)))) (.lit (.req (.keep (.lit (.nil))))))) (.lit (.ask (.lit (.lit (.lit (.req (.keep (.nil)))))) (.lit (.lit (.lit (.ask (.req (.keep (.nil))) (.nil))))))))) h (by kernel_rfl)
end Go.Pl

namespace Go.Pl
open Go.RowKit
open Enc (enc dec is)
open EncL (encL decL isL)
theorem Pb: ∀ a:Int×Int×Unit,true=true->Zi Ku 0 (Ze Qo (ZH (U3 a.1 a.2.1))) Jp [] (Xw M6 (encL a)):=by
 rintro⟨a,b,⟨⟩⟩ -
 show Zi Ku 0 (Ze Qo (ZH (U3 a b))) _ _ _
 refine El a b (XP (fun h=> ?_) fun h=>XP (fun k=> ?_) fun k=> ?_)
 ·exact Ur (by simp[U3,h])
 ·exact Ur (by simp[U3,h,k])
 ·exact Ur (by simp[U3,h,k])
theorem MJ: ∀ a:Coef×Coef×Unit,true=true->Zi J4 0 (Ze Kl (ZH (DR a.1 a.2.1))) Dv [] (Xw EF (encL a)):=by
 rintro⟨x,y,⟨⟩⟩ -
 show Zi J4 0 (Ze Kl (ZH (DR x y))) _ _ _
 unfold DR
 refine a4e x y (Zl (x.v,y.v,()) rfl (DN (fun h=> ?_) fun h=>Zl (x.c,y.c,()) rfl ?_))
 ·have h:Lib.compareBytes x.v.s y.v.s≠0:=by simpa using h
  rw[if_pos h]
  exact Ur rfl
 ·have h : ¬ Lib.compareBytes x.v.s y.v.s≠0:=by simpa using h
  rw[if_neg h]
  exact Ur rfl
theorem Tt(t:Coef):(PV.agg [.str (PV.asStr (List.getD (PV.cells (enc t)) 0 default)),.int .i64 (PV.asInt (List.getD (PV.cells (enc t)) (0+1) default))])=enc t:=rfl
theorem RX(a b:List Coef)(ha:a.length<=9223372036854775807): ∀ (m i:Nat),m+i=a.length->i<=b.length ->
  At UM 0 (Ze Vv (ZH (WU (a.drop i) (b.drop i)))) Vt 0 39 [(0,.pv (enc a)),(1,.pv (enc b)),(2,.pv (.fn 211)),(11,.pv (enc a)),(12,.pv (.int .i64 a.length)),(13,.pv (.int .i64 i))] []:=by
 intro m
 induction m with
 | zero=>
  intro i hi hb
  have ea:a.drop i=[]:=List.drop_of_length_le (by omega)
  rw[ea]
  refine TP a b i (XG (X9 (by omega)) (XP (fun h=> ?_) fun h=> ?_))
  ·have h:a.length<b.length:=by simpa using h
   have:b.drop i=b[i]::b.drop (i+1):=List.drop_eq_getElem_cons (by omega)
   rw[this]
   exact Ur (by rw[WU])
  ·have h : ¬ a.length<b.length:=by simpa using h
   have:b.drop i=[]:=List.drop_of_length_le (by omega)
   rw[this]
   exact Ur (by rw[WU])
 | succ m ih=>
  intro i hi hb
  have hlt:i<a.length:=by omega
  have ea:a.drop i=a[i]::a.drop (i+1):=List.drop_eq_getElem_cons hlt
  rw[ea]
  refine TP a b i (YD (Wq hlt) ⟨Xy hlt rfl,WP hlt (XP (fun h=> ?_) fun h=> ?_)⟩)
  ·have h:b.length<=i:=by
    have:(i:Int) ≥ ((List.map (enc:Coef->PV) b).length:Int):=h
    rw[List.length_map]at this
    omega
   have:b.drop i=[]:=List.drop_of_length_le h
   rw[this]
   exact Ur (by rw[WU])
  ·have h:i<b.length:=by
    have : ¬ (i:Int) ≥ ((List.map (enc:Coef->PV) b).length:Int):=h
    rw[List.length_map]at this
    omega
   have eb:b.drop i=b[i]::b.drop (i+1):=List.drop_eq_getElem_cons h
   rw[eb]
   refine⟨Xy h rfl,WP h ?_⟩
   rw[Tt,Tt]
   refine Zl (a[i],b[i],()) rfl (DN (fun hc=> ?_) fun hc=> ?_)
   ·have hc:DR a[i] b[i]≠0:=by simpa using hc
    exact Ur (by rw[WU,if_pos hc])
   ·have hc : ¬ DR a[i] b[i]≠0:=by simpa using hc
    have e:WU (a[i]::a.drop (i+1)) (b[i]::b.drop (i+1))=WU (a.drop (i+1)) (b.drop (i+1)):=by rw[WU,if_neg hc]
    rw[e,next (by omega)]
    exact ih (i+1) (by omega) (by omega)
theorem M8: ∀ a:List Coef×List Coef×FnV 211×Unit,(decide (a.1.length<=9223372036854775807)&&decide (a.2.1.length<=9223372036854775807))=true->Zi UM 0 (Ze Vv (ZH (WU a.1 a.2.1))) Vt [] (Xw a1g (encL a)):=by
 rintro⟨a,b,g,⟨⟩⟩ h
 simp only[Bool.and_eq_true,decide_eq_true_eq]at h
 refine a4j a b ?_
 rw[List.length_map]
 exact RX a b h.1 a.length 0 (by omega) (by omega)
theorem EQ: ∀ a:Lin×Lin×Unit,(Zy a.1&&Zy a.2.1)=true->Zi Aj 0 (Ze Hm (ZH (VG a.1 a.2.1))) BF [] (Xw a4m (encL a)):=by
 rintro⟨a,b,⟨⟩⟩ h
 show Zi Aj 0 (Ze Hm (ZH (VG a b))) _ _ _
 unfold VG
 refine a8q a b ⟨Zn (a.t,b.t,({}:FnV 211),()) rfl h,Zl (a.t,b.t,({}:FnV 211),()) rfl (DN (fun hc=> ?_) fun hc=>Zl (a.k,b.k,()) rfl ?_)⟩
 ·have hc:WU a.t b.t≠0:=by simpa using hc
  rw[if_pos hc]
  exact Ur rfl
 ·have hc : ¬ WU a.t b.t≠0:=by simpa using hc
  rw[if_neg hc]
  exact Ur rfl
theorem a3s: ∀ a:Lin×Lin×Unit,(Zy a.1&&Zy a.2.1)=true->Zi a1f 0 (Ze RJ (ZH (VG a.1 a.2.1==0))) Px [] (Xw a6s (encL a)):=by
 rintro⟨a,b,⟨⟩⟩ h
 exact a9e a b ⟨Zn (a,b,()) rfl h,Zl (a,b,()) rfl (Yi rfl)⟩
theorem Tz(s p:List UInt8):(Lib.trimSuffix s p).length<=s.length:=by
 unfold Lib.trimSuffix
 split
 ·rw[List.length_take];omega
 ·exact Nat.le_refl _
theorem a1b: ∀ args os,Xj args os=true->Zi Pm os.length (Zd os.length Bu fun r=>r=Kv args os) Be [] (Yk a5i args os):=by
 intro args os h
 unfold Xj at h
 split at h
 ·rename_i n s o
  simp only[Bool.and_eq_true,decide_eq_true_eq]at h
  obtain⟨⟨⟨n1,n2⟩,hs⟩,ho⟩:=h
  have ev:Kv [.pv (.int .i64 n),.pv (.str s),.ptr 0 0] [.box [.pv (.str o)]]=(.tup [],[.box [.pv (.str (ZZ o n s))]],[]):=rfl
  rw[ev]
  have hi:=Lib.itoa_length_le n n1 n2
  have hi:(ZB n).s.length<=21:=hi
  have ht:=Tz (ZB n).s [49]
  have fin : ∀ (b:Bool) (x:List UInt8),x.length<=21->(decide (s≠[])&&(decide (n=1)||decide (n = -1)))=b->x=(if b then Lib.trimSuffix (ZB n).s [49]else(ZB n).s) ->
    (if decide (n ≥ 0)=true then(if (!o==[])=true then(decide (o.length+List.length [(43:UInt8)]<=1099511627776)=true∧(decide (x.length+s.length<=1099511627776)=true∧(decide (List.length (o++[(43:UInt8)])+List.length (x++s)<=1099511627776)=true∧((AV.tup [],[AObj.box [.pv (.str (o++[(43:UInt8)]++(x++s)))]],([]:List AObj))=(.tup [],[.box [.pv (.str (ZZ o n s))]],[])))))
     else(decide (x.length+s.length<=1099511627776)=true∧(decide (o.length+List.length (x++s)<=1099511627776)=true∧((AV.tup [],[AObj.box [.pv (.str (o++(x++s)))]],([]:List AObj))=(.tup [],[.box [.pv (.str (ZZ o n s))]],[])))))
    else(decide (x.length+s.length<=1099511627776)=true∧(decide (o.length+List.length (x++s)<=1099511627776)=true∧((AV.tup [],[AObj.box [.pv (.str (o++(x++s)))]],([]:List AObj))=(.tup [],[.box [.pv (.str (ZZ o n s))]],[]))))):=by
   intro b x hx hb hxe
   have hp : ∀ o2:List UInt8,o2=(if decide (n ≥ 0)&&decide (o≠[])then o++[43]else o)->ZZ o n s=o2++(x++s):=by
    intro o2 h2
    unfold ZZ
    rw[hb,<- h2,<- hxe]
   refine XP (fun h0=>DN (fun h1=> ?_) fun h1=> ?_) fun h0=> ?_
   ·have h1:o≠[]:=by simpa using h1
    refine⟨by simp;omega,by simp;omega,by simp;omega,?_⟩
    rw[hp (o++[43]) (by simp[h0,h1])]
   ·have h1:o=[]:=by simpa using h1
    refine⟨by simp;omega,by simp;omega,?_⟩
    rw[hp o (by simp[h1])]
   ·refine⟨by simp;omega,by simp;omega,?_⟩
    rw[hp o (by simp[h0])]
  refine a7u n s o ⟨Zn (n,()) rfl (by show(decide (-9223372036854775808<=n)&&decide (n<=9223372036854775807))=true;rw[decide_eq_true n1,decide_eq_true n2];rfl),Zl (n,()) rfl (DN (fun h1=> ?_) fun h1=> ?_)⟩
  ·have h1:s≠[]:=by simpa using h1
   have htr:decide ((ZB n).s.length<=1000000)=true:=decide_eq_true (by omega)
   refine Wu (fun h2=> ?_) fun h2=>Wu (fun h3=> ?_) fun h3=> ?_
   ·have h2:n=1:=h2
    exact⟨Zn (ZB n,(⟨[49]⟩:Str),()) rfl htr,Zl (ZB n,(⟨[49]⟩:Str),()) rfl (fin true _ (by show(Lib.trimSuffix (ZB n).s [49]).length<=21;omega) (by simp[h1,h2]) rfl)⟩
   ·have h3:n = -1:=h3
    exact⟨Zn (ZB n,(⟨[49]⟩:Str),()) rfl htr,Zl (ZB n,(⟨[49]⟩:Str),()) rfl (fin true _ (by show(Lib.trimSuffix (ZB n).s [49]).length<=21;omega) (by simp[h1,h3]) rfl)⟩
   ·have h2:n≠1:=h2
    have h3:n ≠ -1:=h3
    exact fin false _ hi (by simp[h2,h3]) rfl
  ·have h1:s=[]:=by simpa using h1
   exact fin false _ hi (by simp[h1]) rfl
 ·cases h
theorem EG(o:List UInt8)(n:Int)(s:List UInt8)(n1 : -9223372036854775808<=n)(n2:n<=9223372036854775807):(ZZ o n s).length<=o.length+1+21+s.length:=by
 have hi:=Lib.itoa_length_le n n1 n2
 have hi:(ZB n).s.length<=21:=hi
 have ht:=Tz (ZB n).s [49]
 unfold ZZ
 split <;> split <;> simp <;> omega
theorem TG(l:Lin)(hv:Zh l=true): ∀ (m i:Nat) (o:List UInt8),m+i=l.t.length->o.length<=100*i ->
  At WQ 0 (Ze XZ (ZH (⟨if decide (l.k≠0)||decide ((l.t.drop i).foldl (fun o t=>ZZ o t.c t.v.s) o=[])then ZZ ((l.t.drop i).foldl (fun o t=>ZZ o t.c t.v.s) o) l.k []else(l.t.drop i).foldl (fun o t=>ZZ o t.c t.v.s) o⟩:Str))) WC 0 37 [(1,.ptr 0 0),(3,.ptr 1 0),(4,.fn 75 [] [.ptr 1 0]),(12,.pv (enc l.t)),(13,.pv (.int .i64 l.t.length)),(14,.pv (.int .i64 i))] [.obj (.box [.pv (.int .i64 l.k),.pv (enc l.t)]),.obj (.box [.pv (.str o)])]:=by
 have hlen:=YK hv
 have hk:=KV hv
 intro m
 induction m with
 | zero=>
  intro i o hi ho
  have ed:l.t.drop i=[]:=List.drop_of_length_le (by omega)
  rw[ed,List.foldl_nil]
  have hp:Xj [.pv (.int .i64 l.k),.pv (.str []),.ptr 0 0] [.box [.pv (.str o)]]=true:=by
   simp only[Xj,Bool.and_eq_true,decide_eq_true_eq,List.length_nil]
   exact⟨⟨⟨by omega,by omega⟩,by omega⟩,by omega⟩
  refine D9 l o i (XG (X9 (by omega)) (DN (fun h1=>⟨hp,?_⟩) fun h1=>Wu (fun h2=>⟨hp,?_⟩) fun h2=> ?_))
  ·have h1:l.k≠0:=by simpa using h1
   rw[if_pos (by simp[h1])]
   exact⟨rfl,rfl⟩
  ·have h2:o=[]:=h2
   rw[if_pos (by simp[h2])]
   exact⟨rfl,rfl⟩
  ·have h1:l.k=0:=by simpa using h1
   have h2:o≠[]:=h2
   rw[if_neg (by simp[h1,h2])]
   exact⟨rfl,rfl⟩
 | succ m ih=>
  intro i o hi ho
  have hlt:i<l.t.length:=by omega
  have ed:l.t.drop i=l.t[i]::l.t.drop (i+1):=List.drop_eq_getElem_cons hlt
  rw[ed,List.foldl_cons]
  obtain⟨c0,c1,c2,c3⟩:=Yf hv (List.getElem_mem hlt)
  have hn:=Wl c0
  have hpl:=EG o l.t[i].c l.t[i].v.s (by omega) (by omega)
  refine D9 l o i (YD (Wq hlt) ⟨Xy hlt rfl,WP hlt ⟨?_,?_⟩⟩)
  ·have hp:Xj [.pv (.int .i64 l.t[i].c),.pv (.str l.t[i].v.s),.ptr 0 0] [.box [.pv (.str o)]]=true:=by
    simp only[Xj,Bool.and_eq_true,decide_eq_true_eq]
    exact⟨⟨⟨by omega,by omega⟩,by omega⟩,by omega⟩
   exact hp
  ·rw[next (by omega)]
   exact ih (i+1) (ZZ o l.t[i].c l.t[i].v.s) (by omega) (by omega)
theorem Pd: ∀ a:Lin×Unit,Zt a.1=true->Zi WQ 0 (Ze XZ (ZH (⟨Zw a.1⟩:Str))) WC [] (Xw MU (encL a)):=by
 rintro⟨l,⟨⟩⟩ h
 show Zi WQ 0 (Ze XZ (ZH (⟨Zw l⟩:Str))) _ _ _
 refine a1d l ⟨Zn (l,()) rfl h,Zl (l,()) rfl (Wv (fun hv=> ?_) fun hv=> ?_)⟩
 ·have hv:Zh l=false:=hv
  unfold Zw
  rw[hv]
  exact⟨rfl,rfl⟩
 ·have hv:Zh l=true:=hv
  unfold Zw
  rw[hv,if_pos rfl,List.length_map]
  exact TG l hv l.t.length 0 [] (by omega) (by simp)
end Go.Pl

namespace Go.Pl
open Go.RowKit
open Enc (enc dec is)
open EncL (encL decL isL)
set_option maxRecDepth 100000
def Bw:IC:=(.seq (.reg [⟨(some 2),(.box 7 (.t 0)),0,none⟩,⟨(some 3),(.mv (.c (.bool false))),1,none⟩] none) (.seq (.reg [⟨(some 4),(.faddr 0 (.t 2)),0,none⟩,⟨(some 5),(.load false [(.int .i64)] (.t 4)),0,none⟩,⟨(some 6),(.bin .num .eql (.t 5) (.c (.int .i64 1))),0,none⟩,⟨(some 7),(.mv (.t 6)),0,none⟩,⟨(some 8),(.faddr 1 (.t 2)),0,(some (7,true))⟩,⟨(some 9),(.load false [.str] (.t 8)),0,(some (7,true))⟩,⟨(some 10),(.faddr 0 (.t 1)),0,(some (7,true))⟩,⟨(some 11),(.load false [.str] (.t 10)),0,(some (7,true))⟩,⟨(some 12),(.bin .num .eql (.t 9) (.t 11)),0,(some (7,true))⟩,⟨(some 13),(.pick (.t 7) (.t 12) (.c (.bool false))),0,none⟩,⟨(some 3),(.mv (.t 13)),0,none⟩] none) .ret))
def Ay:List IRes:=[(.tmp 3)]
abbrev a3y:Nat:=14
def RV:ZI:=WL []
theorem a8w{G:AV×List AObj×List AObj->Prop}(x:Bnd)(v:List UInt8)(c:Int)(h:if (Bnd.kind x==1)=true then G (((.pv (.bool (Str.s (Bnd.v x)==v))),([(.box [(.pv (.str v)),(.pv (.int .i64 c))])],[])))else(G (((.pv (.bool false)),([(.box [(.pv (.str v)),(.pv (.int .i64 c))])],[]))))):Zi RV 1 (Zd 1 Ay G) Bw [] (Yk 14 [.pv (enc x),.ptr 0 0] [.box [.pv (.str v),.pv (.int .i64 c)]]):=Zi.to (.lit (.ask (.lit (.lit (.lit (.lit (.lit (.lit (.nil))))))) (.lit (.lit (.lit (.lit (.lit (.nil)))))))) h (by kernel_rfl)
def Q7:IC:=(.seq (.reg [⟨(some 4),(.mv (.c (.int .i64 0))),0,none⟩] none) (.seq (.seq (.reg [⟨(some 6),(.mv (.t 0)),0,none⟩,⟨(some 7),(.len 1 (.t 6)),0,none⟩,⟨(some 8),(.mv (.c (.int .i64 0))),0,none⟩] none) (.block 0 (.loop [8,7,1,0] (.seq (.reg [⟨(some 9),(.bin .num .lss (.t 8) (.t 7)),0,none⟩] none) (.seq (.cond (.t 9) .skip (.exit 0)) (.seq (.block 1 (.seq (.reg [⟨(some 10),(.mv (.t 8)),0,none⟩,⟨(some 5),(.mv (.t 10)),0,none⟩] none) (.seq (.reg [⟨(some 11),(.mv (.t 1)),0,none⟩,⟨(some 12),(.mv (.t 0)),0,none⟩,⟨(some 13),(.mv (.t 5)),0,none⟩,⟨(some 14),(.iaddr 7 (.t 12) (.t 13)),0,none⟩,⟨(some 15),(.load true [(.int .i64),.str,(.int .i64),(.sl 2),.str,(.sl 2),.str] (.t 14)),0,none⟩,⟨(some 16),(.call (.t 11) [(.t 15)]),0,none⟩] none) (.cond (.t 16) (.seq (.reg [⟨(some 17),(.mv (.t 5)),0,none⟩,⟨(some 4),(.mv (.t 17)),0,none⟩] none) .ret) .skip)))) (.reg [⟨(some 18),(.bin .num .add (.t 8) (.c (.int .i64 1))),0,none⟩,⟨(some 8),(.mv (.t 18)),0,none⟩] none))))))) (.seq (.reg [⟨(some 4),(.mv (.c (.int .i64 (-1)))),0,none⟩] none) .ret)))
def QU:List IRes:=[(.tmp 4)]
abbrev a6w:Nat:=19
def Gx:ZI:=WL [(113,.own GI Ai)]
theorem a9v{G:AV×List AObj×List AObj->Prop}(l:List Bnd)(v:List UInt8)(c:Int)(h:At Gx 1 (Zd 1 QU G) Q7 0 19 [(0,(.pv (.sl 7 false (List.map enc l)))),(1,(.fn 113 [] [(.ptr 0 0)])),(7,(.pv (.int .i64 (↑(List.length (List.map enc l)):Int)))),(8,(.pv (.int .i64 0)))] [(.obj (.box [(.pv (.str v)),(.pv (.int .i64 c))]))]):Zi Gx 1 (Zd 1 QU G) Q7 [] (Yk 19 [.pv (enc l),.fn 113 [] [.ptr 0 0]] [.box [.pv (.str v),.pv (.int .i64 c)]]):=Zi.to (.nil) h (by kernel_rfl)
theorem Ed{G:AV×List AObj×List AObj->Prop}(l:List Bnd)(v:List UInt8)(c:Int)(i:Int)(h:if (decide (i<(↑(List.length l):Int)))=true then(decide (0<=i)&&decide (Int.toNat i<List.length (List.map enc l))&&Enc.sz Bnd==7)=true∧(∃ y0:Bnd,AV.pv (PV.rptr (PV.cells (List.getD (List.map enc l) (Int.toNat i) default)))=AV.pv (PV.rptr (PV.cells ((enc) y0)))∧((GI [(.pv (.agg [(.int .i64 (PV.asInt (List.getD (PV.cells (enc y0)) 0 default))),(.str (PV.asStr (List.getD (PV.cells (enc y0)) (0+1) default))),(.int .i64 (PV.asInt (List.getD (PV.cells (enc y0)) (0+1+1) default))),(.sl 2 false (PV.asXs (List.getD (PV.cells (enc y0)) (0+1+1+1) default))),(.str (PV.asStr (List.getD (PV.cells (enc y0)) (0+1+1+1+1) default))),(.sl 2 false (PV.asXs (List.getD (PV.cells (enc y0)) (0+1+1+1+1+1) default))),(.str (PV.asStr (List.getD (PV.cells (enc y0)) (0+1+1+1+1+1+1) default)))])),(.ptr 0 0)] [(.box [(.pv (.str v)),(.pv (.int .i64 c))])])=true∧(if (QL v (dec (PV.agg (VK (PV.cells (enc y0)) 0 [Sh.int .i64,Sh.str,Sh.int .i64,Sh.sl 2,Sh.str,Sh.sl 2,Sh.str]))))=true then G (((.pv (.int .i64 i)),([(.box [(.pv (.str v)),(.pv (.int .i64 c))])],[])))else(At Gx 1 (Zd 1 QU G) Q7 0 19 [(0,(.pv (.sl 7 false (List.map enc l)))),(1,(.fn 113 [] [(.ptr 0 0)])),(7,(.pv (.int .i64 (↑(List.length l):Int)))),(8,(.pv (.int .i64 (IntKind.wrap IntKind.i64 (i+1)))))] [(.obj (.box [(.pv (.str v)),(.pv (.int .i64 c))]))]))))else(G (((.pv (.int .i64 (-1))),([(.box [(.pv (.str v)),(.pv (.int .i64 c))])],[]))))):At Gx 1 (Zd 1 QU G) Q7 0 19 [(0,.pv (enc l)),(1,.fn 113 [] [.ptr 0 0]),(7,.pv (.int .i64 l.length)),(8,.pv (.int .i64 i))] [.obj (.box [.pv (.str v),.pv (.int .i64 c)])]:=At.to (.lit (.ask (.req (.abs (Bnd) (fun YY=>AV.pv (PV.rptr (PV.cells ((enc) YY)))) (.lit (.req (.keep (.ask (.nil) (.lit (.nil)))))))) (.nil))) h (by kernel_rfl)
def WT:IC:=(.seq (.reg [⟨(some 2),(.box 2 (.t 0)),0,none⟩,⟨(some 4),(.alloc (.agg [(.int .i64 0),(.sl 0 true [])])),1,none⟩,⟨(some 5),(.mv (.c (.int .i64 0))),2,none⟩] none) (.seq (.seq (.reg [⟨(some 10),(.load true [(.int .i64),(.sl 2)] (.t 2)),0,none⟩,⟨(some 11),(.call (.c (.fn 73)) [(.t 10)]),0,none⟩,⟨(some 12),(.un .not (.t 11)),2,none⟩] none) (.cond (.t 12) (.seq (.reg [⟨(some 13),(.build [(.int .i64 0),(.sl 0 true [])] []),0,none⟩,⟨none,(.store 2 (.t 4) (.t 13)),0,none⟩,⟨(some 5),(.mv (.c (.int .i64 1))),0,none⟩] none) .ret) .skip)) (.seq (.reg [⟨(some 14),(.faddr 0 (.t 2)),0,none⟩,⟨(some 15),(.load false [(.int .i64)] (.t 14)),0,none⟩,⟨(some 16),.mkmap,0,none⟩,⟨(some 17),(.build [(.int .i64 0),.nilmap] [(0,(1,(.t 15))),(1,(1,(.t 16)))]),1,none⟩,⟨(some 6),(.alloc (.agg [(.int .i64 0),.nilmap])),1,none⟩,⟨none,(.store 2 (.t 6) (.t 17)),2,none⟩] none) (.seq (.seq (.reg [⟨(some 18),(.faddr 1 (.t 2)),0,none⟩,⟨(some 19),(.load false [(.sl 2)] (.t 18)),0,none⟩,⟨(some 20),(.len 1 (.t 19)),0,none⟩,⟨(some 21),(.mv (.c (.int .i64 0))),0,none⟩] none) (.block 0 (.loop [21,20,19,1,6,4] (.seq (.reg [⟨(some 22),(.bin .num .lss (.t 21) (.t 20)),0,none⟩] none) (.seq (.cond (.t 22) .skip (.exit 0)) (.seq (.block 1 (.seq (.reg [⟨(some 23),(.iaddr 2 (.t 19) (.t 21)),0,none⟩,⟨(some 24),(.load true [.str,(.int .i64)] (.t 23)),0,none⟩,⟨(some 8),(.alloc (.agg [(.str []),(.int .i64 0)])),0,none⟩,⟨none,(.store 2 (.t 8) (.t 24)),1,none⟩] none) (.seq (.reg [⟨(some 25),(.mv (.t 1)),0,none⟩,⟨(some 26),(.mkfn 113 [] [(.t 8)]),0,none⟩,⟨(some 27),(.call (.c (.fn 112)) [(.t 25),(.t 26)]),0,none⟩,⟨(some 9),(.mv (.t 27)),2,none⟩] none) (.block 2 (.seq (.reg [⟨(some 37),(.mv (.t 9)),0,none⟩,⟨(some 38),(.bin .num .lss (.t 37) (.c (.int .i64 0))),0,none⟩,⟨(some 36),(.mv (.t 38)),0,none⟩] none) (.cond (.t 36) (.reg [⟨(some 39),(.faddr 1 (.t 6)),0,none⟩,⟨(some 40),(.load false [.any] (.t 39)),0,none⟩,⟨(some 41),(.faddr 0 (.t 8)),0,none⟩,⟨(some 42),(.load false [.str] (.t 41)),0,none⟩,⟨(some 43),(.lookup true (.int .i64) (.int .i64 0) false (.t 40) (.t 42)),0,none⟩,⟨(some 44),(.faddr 1 (.t 8)),0,none⟩,⟨(some 45),(.load false [(.int .i64)] (.t 44)),0,none⟩,⟨(some 46),(.bin .num .add (.t 43) (.t 45)),0,none⟩,⟨none,(.mapupd true (.t 40) (.t 42) (.t 46)),0,none⟩] none) (.seq (.reg [⟨(some 48),(.mv (.t 1)),0,none⟩,⟨(some 49),(.mv (.t 9)),0,none⟩,⟨(some 50),(.iaddr 7 (.t 48) (.t 49)),0,none⟩,⟨(some 51),(.faddr 2 (.t 50)),0,none⟩,⟨(some 52),(.load true [(.int .i64),(.sl 2)] (.t 51)),0,none⟩,⟨(some 53),(.call (.c (.fn 73)) [(.t 52)]),0,none⟩,⟨(some 54),(.un .not (.t 53)),2,none⟩,⟨(some 47),(.mv (.t 54)),2,none⟩] none) (.cond (.t 47) (.seq (.reg [⟨(some 55),(.build [(.int .i64 0),(.sl 0 true [])] []),0,none⟩,⟨none,(.store 2 (.t 4) (.t 55)),0,none⟩,⟨(some 5),(.mv (.c (.int .i64 1))),0,none⟩] none) .ret) (.reg [⟨(some 28),(.mv (.t 1)),0,none⟩,⟨(some 29),(.mv (.t 9)),0,none⟩,⟨(some 30),(.iaddr 7 (.t 28) (.t 29)),0,none⟩,⟨(some 31),(.faddr 2 (.t 30)),0,none⟩,⟨(some 32),(.load true [(.int .i64),(.sl 2)] (.t 31)),0,none⟩,⟨(some 33),(.faddr 1 (.t 8)),0,none⟩,⟨(some 34),(.load false [(.int .i64)] (.t 33)),0,none⟩,⟨(some 35),(.call (.c (.fn 114)) [(.t 6),(.t 32),(.t 34)]),0,none⟩] (some [[],[],[0,1],[2,0,1],[3,2,0,1],[],[5],[4,6,3,2,0,1,5]])))))))))) (.reg [⟨(some 56),(.bin .num .add (.t 21) (.c (.int .i64 1))),0,none⟩,⟨(some 21),(.mv (.t 56)),0,none⟩] none))))))) (.seq (.reg [⟨(some 57),(.call (.c (.fn 82)) [(.t 6)]),0,none⟩,⟨(some 58),(.extract (.t 57) 0),2,none⟩,⟨(some 59),(.extract (.t 57) 1),2,none⟩,⟨none,(.store 2 (.t 4) (.t 58)),2,none⟩,⟨(some 5),(.mv (.t 59)),2,none⟩] none) .ret)))))
def Wi:List IRes:=[(.cell true 2 4),(.tmp 5)]
abbrev OE:Nat:=60
def Vf:ZI:=WL [(73,.pure (preT (fun x:Lin×Unit=>Zt x.1)) (Zj (fun x:Lin×Unit=>Zh x.1))),(112,.own (Qx 113) Hf),(114,.own WJ KN),(82,.own YI KZ)]
theorem a2h{G:PV->Prop}(l:Lin)(bs:List Bnd)(h:(Go.Pl.preT (fun(x:Lin×Unit)=>Zt x.1) [(.agg [(.int .i64 l.k),(.sl 2 false (List.map enc l.t))])])=true∧(∃ y0:Bool,AV.pv (Zj (fun(x:Lin×Unit)=>Zh x.1) [(.agg [(.int .i64 l.k),(.sl 2 false (List.map enc l.t))])])=AV.pv (enc y0)∧(if (!y0)=true then G ((.tup [(.agg [(.int .i64 0),(.sl 0 true [])]),(.int .i64 1)]))else(At Vf 0 (Ze Wi G) WT 0 60 [(1,(.pv (.sl 7 false (List.map enc bs)))),(4,(.ptr 0 0)),(6,(.ptr 1 0)),(19,(.pv (.sl 2 false (List.map enc l.t)))),(20,(.pv (.int .i64 (↑(List.length (List.map enc l.t)):Int)))),(21,(.pv (.int .i64 0)))] [(.obj (.box [(.pv (.int .i64 0)),(.pv (.sl 0 true []))])),(.obj (.box [(.pv (.int .i64 l.k)),(.map 2)])),(.obj (.map []))])))):Zi Vf 0 (Ze Wi G) WT [] (Xw 60 [enc l,enc bs]):=Zi.tp (.req (.abs (Bool) (fun YY=>AV.pv (enc YY)) (.ask (.nil) (.nil)))) h (by kernel_rfl)
theorem Ti{G:PV->Prop}(l:Lin)(bs:List Bnd)(n:Int)(m:List (Str×Int))(i:Int)(h:if (decide (i<(↑(List.length l.t):Int)))=true then(decide (0<=i)&&decide (Int.toNat i<List.length (List.map enc l.t))&&Enc.sz Coef==2)=true∧(∃ y0:Coef,AV.pv (PV.rptr (PV.cells (List.getD (List.map enc l.t) (Int.toNat i) default)))=AV.pv (PV.rptr (PV.cells ((enc) y0)))∧((Qx 113 [(.pv (.sl 7 false (List.map enc bs))),(.fn 113 [] [(.ptr 0 0)])] [(.box [(.pv (.str (PV.asStr (List.getD (PV.cells (enc y0)) 0 default)))),(.pv (.int .i64 (PV.asInt (List.getD (PV.cells (enc y0)) (0+1) default))))])])=true∧(if (decide (Xz (QL (PV.asStr (List.getD (PV.cells (enc y0)) 0 default))) (dec (enc bs))<0))=true then(Wn (PV.str (PV.asStr (List.getD (PV.cells (enc y0)) 0 default))) (Zc m)&&Sh.fit (Sh.int .i64) (ZK (PV.str (PV.asStr (List.getD (PV.cells (enc y0)) 0 default))) (PV.int .i64 0) (Zc m)))=true∧((JP (PV.str (PV.asStr (List.getD (PV.cells (enc y0)) 0 default))) (PV.int .i64 (IntKind.wrap IntKind.i64 (PV.asInt (ZK (PV.str (PV.asStr (List.getD (PV.cells (enc y0)) 0 default))) (PV.int .i64 0) (Zc m))+PV.asInt (List.getD (PV.cells (enc y0)) (0+1) default)))) (Zc m))=true∧(At Vf 0 (Ze Wi G) WT 0 60 [(1,(.pv (.sl 7 false (List.map enc bs)))),(4,(.ptr 0 0)),(6,(.ptr 1 0)),(19,(.pv (.sl 2 false (List.map enc l.t)))),(20,(.pv (.int .i64 (↑(List.length l.t):Int)))),(21,(.pv (.int .i64 (IntKind.wrap IntKind.i64 (i+1)))))] [(.obj (.box [(.pv (.int .i64 0)),(.pv (.sl 0 true []))])),(.obj (.box [(.pv (.int .i64 n)),(.map 2)])),(.obj (.map (J3 (PV.str (PV.asStr (List.getD (PV.cells (enc y0)) 0 default))) (PV.int .i64 (IntKind.wrap IntKind.i64 (PV.asInt (ZK (PV.str (PV.asStr (List.getD (PV.cells (enc y0)) 0 default))) (PV.int .i64 0) (Zc m))+PV.asInt (List.getD (PV.cells (enc y0)) (0+1) default)))) (Zc m))))]))else((decide (0<=Xz (QL (PV.asStr (List.getD (PV.cells (enc y0)) 0 default))) (dec (enc bs)))&&decide (Int.toNat (Xz (QL (PV.asStr (List.getD (PV.cells (enc y0)) 0 default))) (dec (enc bs)))<List.length (List.map enc bs))&&Enc.sz Bnd==7)=true∧(∃ y1:Bnd,AV.pv (PV.rptr (PV.cells (List.getD (List.map enc bs) (Int.toNat (Xz (QL (PV.asStr (List.getD (PV.cells (enc y0)) 0 default))) (dec (enc bs)))) default)))=AV.pv (PV.rptr (PV.cells ((enc) y1)))∧((Go.Pl.preT (fun(x:Lin×Unit)=>Zt x.1) [(.agg [(.int .i64 (PV.asInt (List.getD (List.drop 2 (PV.cells (enc y1))) 0 default))),(.sl 2 false (PV.asXs (List.getD (List.drop 2 (PV.cells (enc y1))) (0+1) default)))])])=true∧(∃ y2:Bool,AV.pv (Zj (fun(x:Lin×Unit)=>Zh x.1) [(.agg [(.int .i64 (PV.asInt (List.getD (List.drop 2 (PV.cells (enc y1))) 0 default))),(.sl 2 false (PV.asXs (List.getD (List.drop 2 (PV.cells (enc y1))) (0+1) default)))])])=AV.pv (enc y2)∧(if (!y2)=true then G ((.tup [(.agg [(.int .i64 0),(.sl 0 true [])]),(.int .i64 1)]))else((decide (0<=Xz (QL (PV.asStr (List.getD (PV.cells (enc y0)) 0 default))) (dec (enc bs)))&&decide (Int.toNat (Xz (QL (PV.asStr (List.getD (PV.cells (enc y0)) 0 default))) (dec (enc bs)))<List.length (List.map enc bs))&&Enc.sz Bnd==7)=true∧(∃ y3:Bnd,AV.pv (PV.rptr (PV.cells (List.getD (List.map enc bs) (Int.toNat (Xz (QL (PV.asStr (List.getD (PV.cells (enc y0)) 0 default))) (dec (enc bs)))) default)))=AV.pv (PV.rptr (PV.cells ((enc) y3)))∧((WJ [(.ptr 0 0),(.pv (.agg [(.int .i64 (PV.asInt (List.getD (List.drop 2 (PV.cells (enc y3))) 0 default))),(.sl 2 false (PV.asXs (List.getD (List.drop 2 (PV.cells (enc y3))) (0+1) default)))])),(.pv (.int .i64 (PV.asInt (List.getD (PV.cells (enc y0)) (0+1) default))))] [(.box [(.pv (.int .i64 n)),(.map 1)]),(.map (Zc m))])=true∧(At Vf 0 (Ze Wi G) WT 0 60 [(1,(.pv (.sl 7 false (List.map enc bs)))),(4,(.ptr 0 0)),(6,(.ptr 1 0)),(19,(.pv (.sl 2 false (List.map enc l.t)))),(20,(.pv (.int .i64 (↑(List.length l.t):Int)))),(21,(.pv (.int .i64 (IntKind.wrap IntKind.i64 (i+1)))))] [(.obj (.box [(.pv (.int .i64 0)),(.pv (.sl 0 true []))])),(.obj (.box [(.pv (.int .i64 (Yb (n+Yb (PV.asInt (List.getD (PV.cells (enc y0)) (0+1) default)*Lin.k (dec (PV.agg (VK (List.drop 2 (PV.cells (enc y3))) 0 [Sh.int .i64,Sh.sl 2])))))))),(.map 2)])),(.obj (.map (Zc (Y0 (PV.asInt (List.getD (PV.cells (enc y0)) (0+1) default)) (Lin.t (dec (PV.agg (VK (List.drop 2 (PV.cells (enc y3))) 0 [Sh.int .i64,Sh.sl 2])))) (ZX (Zc m))))))]))))))))))))else((YI [(.ptr 0 0)] [(.box [(.pv (.int .i64 n)),(.map 1)]),(.map (Zc m))])=true∧(G ((.tup [(.agg [(.int .i64 (Lin.k (Prod.fst (Xo n (ZX (Zc m)))))),(.sl 2 false (List.map enc (Lin.t (Prod.fst (Xo n (ZX (Zc m)))))))]),(.int .i64 (Prod.snd (Xo n (ZX (Zc m)))))]))))):At Vf 0 (Ze Wi G) WT 0 60 [(1,.pv (enc bs)),(4,.ptr 0 0),(6,.ptr 1 0),(19,.pv (enc l.t)),(20,.pv (.int .i64 l.t.length)),(21,.pv (.int .i64 i))] [.obj (.box [.pv (.int .i64 0),.pv (.sl 0 true [])]),.obj (.box [.pv (.int .i64 n),.map 2]),.obj (.map (Zc m))]:=At.tp (.lit (.ask (.req (.abs (Coef) (fun YY=>AV.pv (PV.rptr (PV.cells ((enc) YY)))) (.lit (.req (.keep (.lit (.ask (.req (.keep (.lit (.req (.lit (.nil)))))) (.req (.abs (Bnd) (fun YY=>AV.pv (PV.rptr (PV.cells ((enc) YY)))) (.lit (.req (.abs (Bool) (fun YY=>AV.pv (enc YY)) (.ask (.nil) (.req (.abs (Bnd) (fun YY=>AV.pv (PV.rptr (PV.cells ((enc) YY)))) (.lit (.req (.keep (.lit (.nil)))))))))))))))))))) (.req (.keep (.nil))))) h (by kernel_rfl)
end Go.Pl

namespace Go.Pl
open Go.RowKit
open Enc (enc dec is)
open EncL (encL decL isL)
theorem O6: ∀ args os,GI args os=true->Zi RV os.length (Zd os.length Ay fun r=>r=Ai args os) Bw [] (Yk a3y args os):=by
 intro args os h
 unfold GI at h
 split at h
 ·rename_i x v c
  obtain⟨x,rfl⟩:=Af h
  refine a8w x v c ?_
  simp only[Ai,Enc.dec_enc,QL]
  refine Wu (fun h=> ?_) fun h=> ?_
  ·simp[h]
  ·simp[h]
 ·cases h
theorem Eg(l:List Bnd)(v:List UInt8)(c:Int)(hl:l.length<=9223372036854775807)(H:AV×List AObj×List AObj)(hH:H=(.pv (.int .i64 (Xz (QL v) l)),[.box [.pv (.str v),.pv (.int .i64 c)]],[])): ∀ (m i:Nat),m+i=l.length->(∀ j (hj:j<l.length),j<i->QL v l[j]=false) ->
  At Gx 1 (Zd 1 QU fun r=>r=H) Q7 0 19 [(0,.pv (enc l)),(1,.fn 113 [] [.ptr 0 0]),(7,.pv (.int .i64 l.length)),(8,.pv (.int .i64 i))] [.obj (.box [.pv (.str v),.pv (.int .i64 c)])]:=by
 subst hH
 intro m
 induction m with
 | zero=>
  intro i hi hno
  refine Ed l v c i (XG (X9 (by omega)) ?_)
  rw[a4g _ _ (fun j hj=>hno j hj (by omega))]
 | succ m ih=>
  intro i hi hno
  have hlt:i<l.length:=by omega
  have ed:(dec (PV.agg (VK (PV.cells (enc l[i])) 0 [Sh.int .i64,Sh.str,Sh.int .i64,Sh.sl 2,Sh.str,Sh.sl 2,Sh.str])):Bnd)=l[i]:=Enc.dec_enc l[i]
  refine Ed l v c i (YD (Wq hlt) ⟨Xy hlt rfl,WP hlt ⟨Qq l[i],?_⟩⟩)
  rw[ed]
  refine Vi (fun hb=> ?_) fun hb=> ?_
  ·rw[a3x (QL v) l i hlt hno hb]
  ·rw[next (by omega)]
   refine ih (i+1) (by omega) fun j hj hji=> ?_
   by_cases e:j=i
   ·subst e;exact hb
   ·exact hno j hj (by omega)
theorem a4d: ∀ args os,Qx 113 args os=true->Zi Gx os.length (Zd os.length QU fun r=>r=Hf args os) Q7 [] (Yk a6w args os):=by
 intro args os h
 unfold Qx at h
 split at h
 ·rename_i l g v c
  simp only[Bool.and_eq_true,beq_iff_eq,decide_eq_true_eq]at h
  obtain⟨⟨rfl,hl⟩,h2⟩:=h
  obtain⟨l,rfl⟩:=Af hl
  rw[Enc.dec_enc]at h2
  refine a9v l v c ?_
  rw[List.length_map]
  exact Eg l v c h2 _ (by simp only[Hf,Enc.dec_enc]) l.length 0 (by omega) (fun j hj h=>by omega)
 ·cases h
theorem a3o{α:Type}(p:α->Bool)(l:List α):(Xz p l<0∧l.find? p=none) ∨ ∃ (i:Nat) (hi:i<l.length),Xz p l=i∧l.find? p=some l[i]:=by
 unfold Xz
 cases h:l.findIdx? p with
 | none=>
  refine .inl ⟨by decide,?_⟩
  rw[List.findIdx?_eq_none_iff]at h
  rw[List.find?_eq_none]
  intro x hx
  rw[h x hx];simp
 | some i=>
  rw[List.findIdx?_eq_some_iff_getElem]at h
  obtain⟨hi,hp,hno⟩:=h
  refine .inr ⟨i,hi,rfl,?_⟩
  rw[List.find?_eq_some_iff_getElem]
  exact⟨hp,i,hi,rfl,fun j hj=>by simpa using hno j hj⟩
theorem R6(k:Int)(l:Lin)(hl:Zh l=true)(m:List (Str×Int))(hm : ∀ x∈ZQ m,x.length<=1000): ∀ x∈ZQ (Y0 k l.t m),x.length<=1000:=by
 intro x hx
 rcases QA k l.t m x hx with h|⟨t,ht,rfl⟩
 ·exact hm x h
 ·have:=Wl (Yf hl ht).1
  omega
theorem RH(t:Coef):PV.asStr (List.getD (PV.cells (enc t)) 0 default)=t.v.s∧PV.asInt (List.getD (PV.cells (enc t)) (0+1) default)=t.c:=⟨rfl,rfl⟩
theorem RG(l:Lin)(hv:Zh l=true)(bs:List Bnd)(hb:Jn bs=true): ∀ (j i:Nat) (n:Int) (m:List (Str×Int)),j+i=l.t.length->m.length<=12*i->(∀ x∈ZQ m,x.length<=1000) ->
  At Vf 0 (Ze Wi (ZH (match UZ bs (l.t.drop i) (n,m)with|none=>((⟨0,[]⟩,1):Lin×Int)|some s=>Xo s.1 s.2))) WT 0 60 [(1,.pv (enc bs)),(4,.ptr 0 0),(6,.ptr 1 0),(19,.pv (enc l.t)),(20,.pv (.int .i64 l.t.length)),(21,.pv (.int .i64 i))] [.obj (.box [.pv (.int .i64 0),.pv (.sl 0 true [])]),.obj (.box [.pv (.int .i64 n),.map 2]),.obj (.map (Zc m))]:=by
 have hlen:=YK hv
 simp only[Jn,Bool.and_eq_true,decide_eq_true_eq,List.all_eq_true]at hb
 obtain⟨hb1,hb2⟩:=hb
 intro j
 induction j with
 | zero=>
  intro i n m hi hm hk
  have ed:l.t.drop i=[]:=List.drop_of_length_le (by omega)
  rw[ed]
  refine Ti l bs n m i (XG (X9 (by omega)) ?_)
  rw[Yh]
  refine⟨?_,Yv (x:=Xo n m) rfl⟩
  show(Jl (Zc m)&&QP (ZX (Zc m)))=true
  rw[Us,Yh]
  simp only[QP,Bool.true_and,Bool.and_eq_true,decide_eq_true_eq,List.all_eq_true]
  exact⟨by omega,fun x hx=>by have:=hk x hx;omega⟩
 | succ j ih=>
  intro i n m hi hm hk
  have hlt:i<l.t.length:=by omega
  have hd:l.t.drop i=l.t[i]::l.t.drop (i+1):=List.drop_eq_getElem_cons hlt
  rw[hd]
  have hnm:=Wl (Yf hv (List.getElem_mem hlt)).1
  refine Ti l bs n m i (YD (Wq hlt) ⟨Xy hlt rfl,WP hlt ?_⟩)
  generalize l.t[i]=t at hnm ⊢
  have edb:(dec (enc bs:PV):List Bnd)=bs:=Enc.dec_enc bs
  have hpre:Qx 113 [.pv (enc bs),.fn 113 [] [.ptr 0 0]] [.box [.pv (.str t.v.s),.pv (.int .i64 t.c)]]=true:=by
   show(_==_&&FE (List Bnd) (enc bs)&&decide ((dec (enc bs:PV):List Bnd).length<=9223372036854775807))=true
   rw[Qq,edb,decide_eq_true hb1]
   simp
  refine⟨hpre,?_⟩
  rw[(RH t).1,edb]
  rcases a3o (QL t.v.s) bs with ⟨h1,h2⟩|⟨k,hk2,h1,h2⟩
  ·have e:UZ bs (t::l.t.drop (i+1)) (n,m)=UZ bs (l.t.drop (i+1)) (n,WY t.v (Yb (Vh m t.v.s+t.c)) m):=by
    show(match Rt bs (n,m) t with|none=>none|some s'=>UZ bs (l.t.drop (i+1)) s')=_
    unfold Rt
    rw[h2]
   rw[e]
   refine YD (decide_eq_true h1) ⟨J6 _ _,Hl _ _ _,?_⟩
   rw[Hq,next (by omega)]
   exact ih (i+1) n (WY t.v (Yb (Vh m t.v.s+t.c)) m) (by omega) (by have:=Ae t.v (Yb (Vh m t.v.s+t.c)) m;omega) fun x hx=>by
    rcases Ui t.v (Yb (Vh m t.v.s+t.c)) m with e|⟨_,e⟩
    ·rw[e]at hx;exact hk x hx
    ·rw[e,List.mem_append]at hx
     rcases hx with hx|hx
     ·exact hk x hx
     ·rw[List.mem_singleton.1 hx];omega
  ·have hneg : ¬ ((k:Nat):Int)<0:=by omega
   have edm:(dec (PV.agg (VK (List.drop 2 (PV.cells (enc bs[k]))) 0 [Sh.int .i64,Sh.sl 2])):Lin)=bs[k].dim:=Enc.dec_enc bs[k].dim
   rw[h1]
   refine XG (by simp) ?_
   have hsm:=hb2 _ (List.getElem_mem hk2)
   refine⟨Xy hk2 rfl,WP hk2 ⟨Zn (bs[k].dim,()) rfl hsm,Zl (bs[k].dim,()) rfl (Wv (fun hq=> ?_) fun hq=>⟨Xy hk2 rfl,WP hk2 ⟨?_,?_⟩⟩)⟩⟩
   ·have hq:Zh bs[k].dim=false:=hq
    have e:UZ bs (t::l.t.drop (i+1)) (n,m)=none:=by
     show(match Rt bs (n,m) t with|none=>none|some s'=>UZ bs (l.t.drop (i+1)) s')=_
     unfold Rt
     rw[h2]
     simp only
     rw[hq];rfl
    rw[e]
    exact⟨rfl,rfl⟩
   all_goals have hq:Zh bs[k].dim=true:=hq
   ·have hl:=YK hq
    show(Jl (Zc m)&&FE Lin (enc bs[k].dim)&&decide ((dec (enc bs[k].dim:PV):Lin).t.length<=1000000))=true
    rw[Us,Qq,Enc.dec_enc,decide_eq_true (by omega)];rfl
   ·have e:UZ bs (t::l.t.drop (i+1)) (n,m)=UZ bs (l.t.drop (i+1)) (Yb (n+Yb (t.c*bs[k].dim.k)),Y0 t.c bs[k].dim.t m):=by
     show(match Rt bs (n,m) t with|none=>none|some s'=>UZ bs (l.t.drop (i+1)) s')=_
     unfold Rt
     rw[h2]
     simp only
     rw[hq];rfl
    rw[e,edm,Yh,next (by omega)]
    have h3:=KF t.c bs[k].dim.t m
    have hl:=YK hq
    exact ih (i+1) _ _ (by omega) (by omega) (R6 t.c bs[k].dim hq m hk)
theorem LZ: ∀ a:Lin×List Bnd×Unit,(Zt a.1&&Jn a.2.1)=true->Zi Vf 0 (Ze Wi (ZH (UR a.1 a.2.1))) WT [] (Xw OE (encL a)):=by
 rintro⟨l,bs,⟨⟩⟩ h
 simp only[Bool.and_eq_true]at h
 show Zi Vf 0 (Ze Wi (ZH (UR l bs))) _ _ _
 refine a2h l bs ⟨Zn (l,()) rfl h.1,Zl (l,()) rfl (Wv (fun hv=> ?_) fun hv=> ?_)⟩
 ·have hv:Zh l=false:=hv
  unfold UR
  rw[hv]
  exact⟨rfl,rfl⟩
 ·have hv:Zh l=true:=hv
  unfold UR
  rw[hv,if_pos rfl,List.length_map]
  exact RG l hv bs h.2 l.t.length 0 l.k [] (by omega) (by simp) (fun x hx=>by cases hx)
end Go.Pl

namespace Go.Pl
open Go.RowKit
open Enc (enc dec is)
open EncL (encL decL isL)
set_option maxRecDepth 100000
def mS:Str:=⟨[109]⟩
theorem b1m:Zm [50,110]=Xo 0 [(nS,2)]:=by rfl
theorem b1j:Zm [109,32,45,32,49]=Xo (-1) [(mS,1)]:=by rfl
theorem b1b:Zm [51,32,42,32,110,32,45,32,110,43,32,50]=Xo 2 [(nS,2)]:=by rfl
theorem b1l:Zm [110,43,109]=Xo 0 [(nS,1),(mS,1)]:=by rfl
theorem b0x:Zm [109,43,49]=Xo 1 [(mS,1)]:=by rfl
theorem KH(n:Int)(s:Str)(c:Int)(hc:c≠0):Xo n [(s,c)]=VI ⟨n,[⟨s,c⟩]⟩:=by
 have:YC [(s,c)]=[⟨s,c⟩]:=by
  simp[YC,hc,LA,Vh]
 unfold Xo VI
 rw[this]
theorem Fq:Yu [[109],[110]]=[[109],[110]]:=by
 unfold Yu
 exact List.mergeSort_of_pairwise (by decide)
theorem PS:Yu [[110],[109]]=[[109],[110]]:=(T9 (List.Perm.swap _ _ _)).trans Fq
theorem a8y(n a b:Int)(ha:a≠0)(hb:b≠0):Xo n [(nS,a),(mS,b)]=VI ⟨n,[⟨mS,b⟩,⟨nS,a⟩]⟩:=by
 have:YC [(nS,a),(mS,b)]=[⟨mS,b⟩,⟨nS,a⟩]:=by
  simp[YC,ha,hb,nS,mS,PS,Vh]
 unfold Xo VI
 rw[this]
theorem b1t:Zm [50,110]=(⟨0,[⟨nS,2⟩]⟩,0):=by rw[b1m,KH _ _ _ (by decide)];decide
theorem b1d:Zm [109,32,45,32,49]=(⟨-1,[⟨mS,1⟩]⟩,0):=by rw[b1j,KH _ _ _ (by decide)];decide
theorem b1w:Zm [51,32,42,32,110,32,45,32,110,43,32,50]=(⟨2,[⟨nS,2⟩]⟩,0):=by rw[b1b,KH _ _ _ (by decide)];decide
theorem b0z:Zm [110,43,109]=(⟨0,[⟨mS,1⟩,⟨nS,1⟩]⟩,0):=by rw[b1l,a8y _ _ _ (by decide) (by decide)];decide
theorem b1u:Zm [109,43,49]=(⟨1,[⟨mS,1⟩]⟩,0):=by rw[b0x,KH _ _ _ (by decide)];decide
theorem b1n:Yw ⟨0,[⟨nS,2⟩]⟩ ⟨-1,[⟨mS,1⟩]⟩ 1=(⟨-1,[⟨mS,1⟩,⟨nS,2⟩]⟩,0):=by
 have h1:Zh ⟨0,[⟨nS,2⟩]⟩=true:=by decide
 have h2:Zh ⟨-1,[⟨mS,1⟩]⟩=true:=by decide
 rw[DX 1 h1 h2];decide
def a8h:Bnd:=⟨1,nS,⟨1,[⟨mS,1⟩]⟩,⟨[]⟩,[],⟨[]⟩⟩
theorem b1i:UR ⟨0,[⟨mS,1⟩,⟨nS,1⟩]⟩ [a8h]=(⟨1,[⟨mS,2⟩]⟩,0):=by
 have h1:Zh ⟨0,[⟨mS,1⟩,⟨nS,1⟩]⟩=true:=by decide
 have h2:UZ [a8h] [⟨mS,1⟩,⟨nS,1⟩] (0,[])=some (1,[(mS,2)]):=by decide
 unfold UR
 rw[h1,if_pos rfl]
 simp only[h2]
 rw[KH _ _ _ (by decide)]
 decide
theorem it1:Lib.itoa 1=[49]:=by simp[Lib.itoa];rw[Lib.decDigits];rfl
theorem it2:Lib.itoa 2=[50]:=by simp[Lib.itoa];rw[Lib.decDigits];rfl
theorem itm:Lib.itoa (-1)=[45,49]:=by simp[Lib.itoa];rw[Lib.decDigits];rfl
theorem b0i(o s:List UInt8)(ho:o=[])(hs:s≠[]):ZZ o 1 s=s:=by
 subst ho
 simp only[ZZ,ZB,it1]
 simp[hs];rfl
theorem a5u(s:List UInt8):ZZ [] 2 s=[50]++s:=by
 simp[ZZ,ZB,it2]
theorem a1l(o s:List UInt8)(ho:o≠[]):ZZ o 2 s=o++[43]++[50]++s:=by
 simp[ZZ,ZB,it2,ho]
theorem a7c(o:List UInt8)(ho:o≠[]):ZZ o 1 []=o++[43,49]:=by
 simp[ZZ,ZB,it1,ho]
theorem a8d(o:List UInt8):ZZ o (-1) []=o++[45,49]:=by
 simp[ZZ,ZB,itm]
theorem b1h:Zw ⟨-1,[⟨mS,1⟩,⟨nS,2⟩]⟩=[109,43,50,110,45,49]:=by
 have hv:Zh ⟨-1,[⟨mS,1⟩,⟨nS,2⟩]⟩=true:=by decide
 have e:UE [⟨mS,1⟩,⟨nS,2⟩]=[109,43,50,110]:=by
  show ZZ (ZZ [] 1 [109]) 2 [110]=_
  rw[b0i [] [109] rfl (by decide),a1l _ _ (by decide)];rfl
 unfold Zw
 rw[hv,if_pos rfl]
 simp only[e]
 rw[if_pos (by decide),a8d];rfl
theorem b1g:Zw ⟨2,[⟨nS,2⟩]⟩=[50,110,43,50]:=by
 have hv:Zh ⟨2,[⟨nS,2⟩]⟩=true:=by decide
 have e:UE [⟨nS,2⟩]=[50,110]:=by
  show ZZ [] 2 [110]=_
  rw[a5u];rfl
 unfold Zw
 rw[hv,if_pos rfl]
 simp only[e]
 rw[if_pos (by decide),a1l _ _ (by decide)];rfl
theorem b1c:Zw ⟨1,[⟨mS,2⟩]⟩=[50,109,43,49]:=by
 have hv:Zh ⟨1,[⟨mS,2⟩]⟩=true:=by decide
 have e:UE [⟨mS,2⟩]=[50,109]:=by
  show ZZ [] 2 [109]=_
  rw[a5u];rfl
 unfold Zw
 rw[hv,if_pos rfl]
 simp only[e]
 rw[if_pos (by decide),a7c _ (by decide)];rfl
theorem QF{α β:Type}[EncL α][Enc β]{F:α->β}{ps:List PV}{P:β->Prop}{v:β}(a:α)(h:decL ps=a)(hv:F a=v)(k:P v): ∃ y,AV.pv (Zj F ps)=AV.pv (enc y)∧P y:=Jc a h (by rw[hv];exact k)
theorem QD{α β:Type}[EncL α][Enc β]{F:α->β}{ps:List PV}{P:β->Prop}{v:β}(a:α)(h:ps=encL a)(hv:F a=v)(k:P v): ∃ y,AV.pv (Zj F ps)=AV.pv (enc y)∧P y:=Zl a h (by rw[hv];exact k)
def l41:Lin:=⟨0,[⟨nS,2⟩]⟩
def l42:Lin:=⟨-1,[⟨mS,1⟩]⟩
def l43:Lin:=⟨2,[⟨nS,2⟩]⟩
def l44:Lin:=⟨0,[⟨mS,1⟩,⟨nS,1⟩]⟩
def l45:Lin:=⟨1,[⟨mS,1⟩]⟩
def FC:Lin:=⟨-1,[⟨mS,1⟩,⟨nS,2⟩]⟩
def l4z:Lin:=⟨1,[⟨mS,2⟩]⟩
theorem PP: ∀ a:Unit,true=true->Zi H5 0 (Ze K5 (ZH true)) K8 [] (Xw M0 (encL a)):=by
 rintro⟨⟩ -
 refine OC ?_
 refine QF (v:=(l41,0)) ((⟨[50,110]⟩:Str),()) rfl b1t ?_
 refine QF (v:=(l42,0)) ((⟨[109,32,45,32,49]⟩:Str),()) rfl b1d ?_
 refine⟨Zn (l41,l42,()) rfl (by decide),?_⟩
 refine QD (v:=(FC,0)) (l41,l42,()) rfl b1n ?_
 refine QF (v:=(l43,0)) ((⟨[51,32,42,32,110,32,45,32,110,43,32,50]⟩:Str),()) rfl b1w ?_
 refine QF (v:=(l44,0)) ((⟨[110,43,109]⟩:Str),()) rfl b0z ?_
 refine QF (v:=(l45,0)) ((⟨[109,43,49]⟩:Str),()) rfl b1u ?_
 refine⟨by rfl,?_⟩
 refine QF (v:=(l4z,0)) (l44,[a8h],()) rfl b1i ?_
 refine YD rfl (YD rfl (YD rfl (YD rfl (YD rfl (YD rfl (YD rfl ?_))))))
 refine⟨Zn (FC,()) rfl (by decide),QD (v:=(⟨[109,43,50,110,45,49]⟩:Str)) (FC,()) rfl (congrArg Str.mk b1h) (YD rfl ?_)⟩
 refine⟨Zn (l43,()) rfl (by decide),QD (v:=(⟨[50,110,43,50]⟩:Str)) (l43,()) rfl (congrArg Str.mk b1g) (YD rfl ?_)⟩
 refine⟨Zn (l4z,()) rfl (by decide),QD (v:=(⟨[50,109,43,49]⟩:Str)) (l4z,()) rfl (congrArg Str.mk b1c) (YD rfl ?_)⟩
 refine⟨Zn (FC,()) rfl (by decide),QD (v:=true) (FC,()) rfl (show Zh FC=true by decide) (YD rfl ?_)⟩
 refine⟨Zn (FC,FC,()) rfl (by decide),QD (v:=true) (FC,FC,()) rfl (show(VG FC FC==0)=true by decide) (Yi rfl)⟩
theorem Bo: ∀ a:Lin×Unit,Zy a.1=true->Zi UB 0 (Ze VJ (ZH (VI a.1))) Qf [] (Xw TC (encL a)):=by
 rintro⟨l,⟨⟩⟩ h
 show Zi UB 0 (Ze VJ (ZH (VI l))) _ _ _
 unfold VI
 refine PR l ⟨Zn (l,()) rfl h,Zl (l,()) rfl (Wv (fun hv=> ?_) fun hv=> ?_)⟩
 ·have hv:Zh l=false:=hv
  rw[hv]
  exact⟨rfl,rfl⟩
 ·have hv:Zh l=true:=hv
  rw[hv]
  exact Yv (x:=((l,0):Lin×Int)) rfl
end Go.Pl

namespace Go.Pl
open Go.RowKit
end Go.Pl

namespace Go.Pl
open Go.RowKit
open Enc (enc dec is)
open EncL (encL decL isL)
end Go.Pl

namespace Go.Pl
open Go.RowKit
open Enc (enc dec is)
open EncL (encL decL isL)
def Bn(s r:List UInt8):Int:=(s.length:Int) - r.length
def atR(s:List UInt8)(n:Int):List UInt8:=s.drop n.toNat
def AA(c:UInt8):Bool:=digB c||lowB c
def Kb:Bool->List UInt8->List UInt8
 | false,r=>r.takeWhile digB
 | true,[]=>[]
 | true,c::r=>if digB c||(lowB c||c==95)then c::r.takeWhile AA else []
def bB(s:List UInt8)(n:Int):Int:=Bn s (Za (atR s n))
def J7(c:Int)(s:List UInt8)(n:Int):Bool:=match atR s n with|[]=>false|x::_=>decide ((x.toNat:Int)=c)
def Y3(c:Int)(s:List UInt8)(n:Int):Int:=if J7 c s n then n+1 else n
def Q9(b:Bool)(s:List UInt8)(n:Int):List UInt8:=Kb b (atR s n)
def C9(b:Bool)(s:List UInt8)(n:Int):Int:=n+(Kb b (atR s n)).length
def Xi(d:List UInt8):Int:=d.foldl (fun n c=>10*n+((c.toNat:Int) - 48)) 0
def UN(k:Int)(r:List UInt8):(Int×List UInt8×Bool)×List UInt8:=((k,Kb true r,Zq ⟨Kb true r⟩),r.drop (Kb true r).length)
def XN(k:Int)(q:List UInt8):(Int×List UInt8×Bool)×List UInt8:=
 match Za q with
 | []=>((k,[],true),q)
 | c::t=>if c=42 then(if digB ((Za t).headD 0)then((0,[],false),Za t)else UN k (Za t))else((k,[],true),q)
def Z4(r:List UInt8):(Int×List UInt8×Bool)×List UInt8:=
 if (r.takeWhile digB).length>7∨(r.takeWhile digB).length>1∧(r.takeWhile digB).headD 0=48 then((0,[],false),r.dropWhile digB)
 else if r.takeWhile digB=[]then UN 1 (r.dropWhile digB)
 else if lowB ((r.dropWhile digB).headD 0)||(r.dropWhile digB).headD 0==95 then UN (Xi (r.takeWhile digB)) (r.dropWhile digB)
 else XN (Xi (r.takeWhile digB)) (r.dropWhile digB)
def itK(s:List UInt8)(n:Int):Int:=(Z4 (atR s n)).1.1
def itV(s:List UInt8)(n:Int):List UInt8:=(Z4 (atR s n)).1.2.1
def itO(s:List UInt8)(n:Int):Bool:=(Z4 (atR s n)).1.2.2
def BK(s:List UInt8)(n:Int):Int:=Bn s (Z4 (atR s n)).2
def sV(s:List UInt8)(n:Int):List AObj:=[.box [.pv (.str s),.pv (.int .i64 n)]]
def Da(s:List UInt8)(n:Int):Bool:=decide (0<=n)&&decide (n<=s.length)&&decide (s.length<=1000000)
def Ya:List AV->List AObj->Bool
 | [.ptr 0 0],[.box [.pv (.str s),.pv (.int .i64 n)]]=>Da s n
 | _,_=>false
def Yy:List AV->List AObj->Bool
 | [.ptr 0 0,.pv (.int .u8 c)],[.box [.pv (.str s),.pv (.int .i64 n)]]=>Da s n
 | _,_=>false
def YF:List AV->List AObj->Bool
 | [.ptr 0 0,.pv (.bool b)],[.box [.pv (.str s),.pv (.int .i64 n)]]=>Da s n
 | _,_=>false
def VN:List AV->List AObj->AV×List AObj×List AObj
 | _,[.box [.pv (.str s),.pv (.int .i64 n)]]=>(.tup [],sV s (bB s n),[])
 | _,_=>Wm
def Hg:List AV->List AObj->AV×List AObj×List AObj
 | [_,.pv (.int .u8 c)],[.box [.pv (.str s),.pv (.int .i64 n)]]=>(.pv (.bool (J7 c s n)),sV s (Y3 c s n),[])
 | _,_=>Wm
def Km:List AV->List AObj->AV×List AObj×List AObj
 | [_,.pv (.bool b)],[.box [.pv (.str s),.pv (.int .i64 n)]]=>(.pv (.str (Q9 b s n)),sV s (C9 b s n),[])
 | _,_=>Wm
def Qr:List AV->List AObj->AV×List AObj×List AObj
 | _,[.box [.pv (.str s),.pv (.int .i64 n)]]=>(.tup [.pv (.int .i64 (itK s n)),.pv (.str (itV s n)),.pv (.bool (itO s n))],sV s (BK s n),[])
 | _,_=>Wm
def PY(n:Int):Nat:=2*n.natAbs+(if n<0 then 1 else 0)
end Go.Pl

namespace Go.Pl
open Go.RowKit
open Enc (enc dec is)
open EncL (encL decL isL)
set_option maxRecDepth 100000
def GJ:IC:=(.seq (.reg [⟨(some 2),(.mv (.c (.str []))),0,none⟩] none) (.seq (.seq (.reg [⟨(some 3),(.mv (.t 0)),0,none⟩,⟨(some 4),(.bin .num .lss (.t 3) (.c (.int .i64 0))),0,none⟩] none) (.cond (.t 4) (.seq (.reg [⟨(some 5),(.mv (.t 0)),0,none⟩,⟨(some 6),(.un .neg (.t 5)),0,none⟩,⟨(some 7),(.call (.c (.fn 78)) [(.t 6)]),0,none⟩,⟨(some 8),(.bin .num .add (.c (.str [45])) (.t 7)),2,none⟩,⟨(some 2),(.mv (.t 8)),2,none⟩] none) .ret) .skip)) (.seq (.seq (.reg [⟨(some 9),(.mv (.t 0)),0,none⟩,⟨(some 10),(.bin .num .lss (.t 9) (.c (.int .i64 10))),0,none⟩] none) (.cond (.t 10) (.seq (.reg [⟨(some 11),(.mv (.t 0)),0,none⟩,⟨(some 12),(.mv (.t 0)),0,none⟩,⟨(some 13),(.bin .num .add (.t 12) (.c (.int .i64 1))),0,none⟩,⟨(some 14),(.strslc (.c (.str [48,49,50,51,52,53,54,55,56,57])) (some (.t 11)) (some (.t 13))),0,none⟩,⟨(some 2),(.mv (.t 14)),0,none⟩] none) .ret) .skip)) (.seq (.reg [⟨(some 15),(.mv (.t 0)),0,none⟩,⟨(some 16),(.bin .num .quo (.t 15) (.c (.int .i64 10))),0,none⟩,⟨(some 17),(.call (.c (.fn 78)) [(.t 16)]),0,none⟩,⟨(some 18),(.mv (.t 0)),2,none⟩,⟨(some 19),(.bin .num .rem (.t 18) (.c (.int .i64 10))),2,none⟩,⟨(some 20),(.call (.c (.fn 78)) [(.t 19)]),2,none⟩,⟨(some 21),(.bin .num .add (.t 17) (.t 20)),4,none⟩,⟨(some 2),(.mv (.t 21)),4,none⟩] none) .ret))))
def Dq:List IRes:=[(.tmp 2)]
abbrev a0a:Nat:=22
def Av(N:Nat):ZI:=WL [(78,.pure (preT (fun x:Int×Unit=>(decide (-1000000000<=x.1)&&decide (x.1<=1000000000))&&decide (PY x.1<N))) (Zj (fun x:Int×Unit=>ZB x.1)))]
theorem a2t{G:PV->Prop}(N:Nat)(n:Int)(h:if (decide (n<0))=true then(Go.Pl.preT (fun(x:Int×Unit)=>decide ((-1000000000:Int)<=x.1)&&decide (x.1<=1000000000)&&decide (PY x.1<N)) [(.int .i64 (IntKind.wrap IntKind.i64 (-n)))])=true∧(∃ y0:Str,AV.pv (Zj (fun(x:Int×Unit)=>ZB x.1) [(.int .i64 (IntKind.wrap IntKind.i64 (-n)))])=AV.pv (enc y0)∧((decide (List.length [(45:UInt8)]+List.length (Str.s y0)<=1099511627776))=true∧(G ((.str ([(45:UInt8)]++Str.s y0))))))else(if (decide (n<10))=true then(decide (0<=n)&&decide (0<=IntKind.wrap IntKind.i64 (n+1))&&decide (Int.toNat n<=Int.toNat (IntKind.wrap IntKind.i64 (n+1)))&&decide (Int.toNat (IntKind.wrap IntKind.i64 (n+1))<=List.length [(48:UInt8),(49:UInt8),(50:UInt8),(51:UInt8),(52:UInt8),(53:UInt8),(54:UInt8),(55:UInt8),(56:UInt8),(57:UInt8)]))=true∧(G ((.str (List.drop (Int.toNat n) (List.take (Int.toNat (IntKind.wrap IntKind.i64 (n+1))) [(48:UInt8),(49:UInt8),(50:UInt8),(51:UInt8),(52:UInt8),(53:UInt8),(54:UInt8),(55:UInt8),(56:UInt8),(57:UInt8)])))))else((Go.Pl.preT (fun(x:Int×Unit)=>decide ((-1000000000:Int)<=x.1)&&decide (x.1<=1000000000)&&decide (PY x.1<N)) [(.int .i64 (IntKind.wrap IntKind.i64 (Int.tdiv n 10)))])=true∧(∃ y1:Str,AV.pv (Zj (fun(x:Int×Unit)=>ZB x.1) [(.int .i64 (IntKind.wrap IntKind.i64 (Int.tdiv n 10)))])=AV.pv (enc y1)∧((Go.Pl.preT (fun(x:Int×Unit)=>decide ((-1000000000:Int)<=x.1)&&decide (x.1<=1000000000)&&decide (PY x.1<N)) [(.int .i64 (Int.tmod n 10))])=true∧(∃ y2:Str,AV.pv (Zj (fun(x:Int×Unit)=>ZB x.1) [(.int .i64 (Int.tmod n 10))])=AV.pv (enc y2)∧((decide (List.length (Str.s y1)+List.length (Str.s y2)<=1099511627776))=true∧(G ((.str (Str.s y1++Str.s y2))))))))))):Zi (Av N) 0 (Ze Dq G) GJ [] (Xw 22 [enc n]):=Zi.tp (.lit (.ask (.req (.abs (Str) (fun YY=>AV.pv (enc YY)) (.req (.nil)))) (.lit (.ask (.lit (.req (.nil))) (.lit (.req (.abs (Str) (fun YY=>AV.pv (enc YY)) (.lit (.req (.abs (Str) (fun YY=>AV.pv (enc YY)) (.req (.nil)))))))))))) h (by kernel_rfl)
def XO:IC:=(.block 0 (.loop [0] (.seq (.seq (.reg [⟨(some 2),(.mv (.t 0)),0,none⟩,⟨(some 3),(.nilchk (.t 2)),0,none⟩,⟨(some 4),(.faddr 1 (.t 3)),0,none⟩,⟨(some 5),(.load false [(.int .i64)] (.t 4)),0,none⟩,⟨(some 6),(.mv (.t 0)),0,none⟩,⟨(some 7),(.nilchk (.t 6)),0,none⟩,⟨(some 8),(.faddr 0 (.t 7)),0,none⟩,⟨(some 9),(.load false [.str] (.t 8)),0,none⟩,⟨(some 10),(.len 0 (.t 9)),0,none⟩,⟨(some 11),(.bin .num .lss (.t 5) (.t 10)),0,none⟩,⟨(some 12),(.mv (.t 11)),0,none⟩,⟨(some 13),(.mv (.t 0)),0,(some (12,true))⟩,⟨(some 14),(.nilchk (.t 13)),0,(some (12,true))⟩,⟨(some 15),(.faddr 0 (.t 14)),0,(some (12,true))⟩,⟨(some 16),(.load false [.str] (.t 15)),0,(some (12,true))⟩,⟨(some 17),(.mv (.t 0)),0,(some (12,true))⟩,⟨(some 18),(.nilchk (.t 17)),0,(some (12,true))⟩,⟨(some 19),(.faddr 1 (.t 18)),0,(some (12,true))⟩,⟨(some 20),(.load false [(.int .i64)] (.t 19)),0,(some (12,true))⟩,⟨(some 21),(.index (.t 16) (.t 20)),0,(some (12,true))⟩,⟨(some 22),(.bin .num .eql (.t 21) (.c (.int .u8 32))),0,(some (12,true))⟩,⟨(some 23),(.pick (.t 12) (.t 22) (.c (.bool false))),0,none⟩] (some [[],[0],[1,0],[2,1,0],[],[4],[5,4],[6,5,4],[7,6,5,4],[3,8,2,1,0,7,6,5,4],[9,3,8,2,1,0,7,6,5,4],[10,9,3,8,2,1,0,7,6,5,4],[11,10,9,3,8,2,1,0,7,6,5,4],[12,10,11,9,3,8,2,1,0,7,6,5,4],[13,10,12,11,9,3,8,2,1,0,7,6,5,4],[10,9,3,8,2,1,0,7,6,5,4],[15,10,9,3,8,2,1,0,7,6,5,4],[16,10,15,9,3,8,2,1,0,7,6,5,4],[17,10,16,15,9,3,8,2,1,0,7,6,5,4],[14,18,10,13,12,11,9,3,8,2,1,0,7,6,5,4,17,16,15],[19,10,14,18,13,12,11,9,3,8,2,1,0,7,6,5,4,17,16,15],[10,20,9,3,8,2,1,0,7,6,5,4,19,14,18,13,12,11,17,16,15]])) (.cond (.t 23) .skip (.exit 0))) (.block 1 (.reg [⟨(some 24),(.mv (.t 0)),0,none⟩,⟨(some 25),(.nilchk (.t 24)),0,none⟩,⟨(some 26),(.faddr 1 (.t 25)),0,none⟩,⟨(some 27),(.load false [(.int .i64)] (.t 26)),0,none⟩,⟨(some 28),(.bin .num .add (.t 27) (.c (.int .i64 1))),0,none⟩,⟨(some 29),(.nilchk (.t 24)),0,none⟩,⟨(some 30),(.faddr 1 (.t 29)),0,none⟩,⟨none,(.store 1 (.t 30) (.t 28)),0,none⟩] none)))))
def XQ:List IRes:=[]
abbrev Ry:Nat:=31
def Wy:ZI:=WL []
theorem ME{G:AV×List AObj×List AObj->Prop}(s:List UInt8)(n:Int)(h:At Wy 1 (Zd 1 XQ G) XO 0 31 [(0,(.ptr 0 0))] [(.obj (.box [(.pv (.str s)),(.pv (.int .i64 n))]))]):Zi Wy 1 (Zd 1 XQ G) XO [] (Yk 31 [.ptr 0 0] [.box [.pv (.str s),.pv (.int .i64 n)]]):=Zi.to (.nil) h (by kernel_rfl)
theorem Gt{G:AV×List AObj×List AObj->Prop}(s:List UInt8)(n:Int)(h:if (decide (n<(↑(List.length s):Int)))=true then(decide (0<=n)&&decide (Int.toNat n<List.length s))=true∧(if ((↑(UInt8.toNat (List.getD s (Int.toNat n) (0:UInt8))):Int)==32)=true then At Wy 1 (Zd 1 XQ G) XO 0 31 [(0,(.ptr 0 0))] [(.obj (.box [(.pv (.str s)),(.pv (.int .i64 (IntKind.wrap IntKind.i64 (n+1))))]))]else(G (((.tup []),([(.box [(.pv (.str s)),(.pv (.int .i64 n))])],[])))))else(G (((.tup []),([(.box [(.pv (.str s)),(.pv (.int .i64 n))])],[]))))):At Wy 1 (Zd 1 XQ G) XO 0 31 [(0,.ptr 0 0)] [.obj (.box [.pv (.str s),.pv (.int .i64 n)])]:=At.to (.lit (.ask (.lit (.lit (.lit (.lit (.lit (.lit (.lit (.lit (.req (.lit (.lit (.lit (.ask (.lit (.nil)) (.nil)))))))))))))) (.lit (.lit (.lit (.lit (.lit (.lit (.lit (.lit (.lit (.lit (.lit (.nil)))))))))))))) h (by kernel_rfl)
def Pj:IC:=(.seq (.reg [⟨(some 4),(.mv (.c (.bool false))),0,none⟩] none) (.seq (.seq (.reg [⟨(some 5),(.mv (.t 0)),0,none⟩,⟨(some 6),(.nilchk (.t 5)),0,none⟩,⟨(some 7),(.faddr 1 (.t 6)),0,none⟩,⟨(some 8),(.load false [(.int .i64)] (.t 7)),0,none⟩,⟨(some 9),(.mv (.t 0)),0,none⟩,⟨(some 10),(.nilchk (.t 9)),0,none⟩,⟨(some 11),(.faddr 0 (.t 10)),0,none⟩,⟨(some 12),(.load false [.str] (.t 11)),0,none⟩,⟨(some 13),(.len 0 (.t 12)),0,none⟩,⟨(some 14),(.bin .num .lss (.t 8) (.t 13)),0,none⟩,⟨(some 15),(.mv (.t 14)),0,none⟩,⟨(some 16),(.mv (.t 0)),0,(some (15,true))⟩,⟨(some 17),(.nilchk (.t 16)),0,(some (15,true))⟩,⟨(some 18),(.faddr 0 (.t 17)),0,(some (15,true))⟩,⟨(some 19),(.load false [.str] (.t 18)),0,(some (15,true))⟩,⟨(some 20),(.mv (.t 0)),0,(some (15,true))⟩,⟨(some 21),(.nilchk (.t 20)),0,(some (15,true))⟩,⟨(some 22),(.faddr 1 (.t 21)),0,(some (15,true))⟩,⟨(some 23),(.load false [(.int .i64)] (.t 22)),0,(some (15,true))⟩,⟨(some 24),(.index (.t 19) (.t 23)),0,(some (15,true))⟩,⟨(some 25),(.mv (.t 1)),0,(some (15,true))⟩,⟨(some 26),(.bin .num .eql (.t 24) (.t 25)),0,(some (15,true))⟩,⟨(some 27),(.pick (.t 15) (.t 26) (.c (.bool false))),0,none⟩] (some [[],[0],[1,0],[2,1,0],[],[4],[5,4],[6,5,4],[7,6,5,4],[3,8,2,1,0,7,6,5,4],[9,3,8,2,1,0,7,6,5,4],[10,9,3,8,2,1,0,7,6,5,4],[11,10,9,3,8,2,1,0,7,6,5,4],[12,10,11,9,3,8,2,1,0,7,6,5,4],[13,10,12,11,9,3,8,2,1,0,7,6,5,4],[10,9,3,8,2,1,0,7,6,5,4],[15,10,9,3,8,2,1,0,7,6,5,4],[16,10,15,9,3,8,2,1,0,7,6,5,4],[17,10,16,15,9,3,8,2,1,0,7,6,5,4],[14,18,10,13,12,11,9,3,8,2,1,0,7,6,5,4,17,16,15],[10,9,3,8,2,1,0,7,6,5,4],[19,20,10,14,18,13,12,11,9,3,8,2,1,0,7,6,5,4,17,16,15],[10,21,9,3,8,2,1,0,7,6,5,4,19,20,14,18,13,12,11,17,16,15]])) (.cond (.t 27) (.seq (.reg [⟨(some 28),(.mv (.t 0)),0,none⟩,⟨(some 29),(.nilchk (.t 28)),0,none⟩,⟨(some 30),(.faddr 1 (.t 29)),0,none⟩,⟨(some 31),(.load false [(.int .i64)] (.t 30)),0,none⟩,⟨(some 32),(.bin .num .add (.t 31) (.c (.int .i64 1))),0,none⟩,⟨(some 33),(.nilchk (.t 28)),0,none⟩,⟨(some 34),(.faddr 1 (.t 33)),0,none⟩,⟨none,(.store 1 (.t 34) (.t 32)),0,none⟩] none) (.seq (.reg [⟨(some 4),(.mv (.c (.bool true))),0,none⟩] none) .ret)) .skip)) (.seq (.reg [⟨(some 4),(.mv (.c (.bool false))),0,none⟩] none) .ret)))
def Ru:List IRes:=[(.tmp 4)]
abbrev a8e:Nat:=35
def a0n:ZI:=WL []
theorem a9s{G:AV×List AObj×List AObj->Prop}(c:Int)(s:List UInt8)(n:Int)(h:if (decide (n<(↑(List.length s):Int)))=true then(decide (0<=n)&&decide (Int.toNat n<List.length s))=true∧(if ((↑(UInt8.toNat (List.getD s (Int.toNat n) (0:UInt8))):Int)==c)=true then G (((.pv (.bool true)),([(.box [(.pv (.str s)),(.pv (.int .i64 (IntKind.wrap IntKind.i64 (n+1))))])],[])))else(G (((.pv (.bool false)),([(.box [(.pv (.str s)),(.pv (.int .i64 n))])],[])))))else(G (((.pv (.bool false)),([(.box [(.pv (.str s)),(.pv (.int .i64 n))])],[]))))):Zi a0n 1 (Zd 1 Ru G) Pj [] (Yk 35 [.ptr 0 0,.pv (.int .u8 c)] [.box [.pv (.str s),.pv (.int .i64 n)]]):=Zi.to (.lit (.ask (.lit (.lit (.lit (.lit (.lit (.lit (.lit (.lit (.req (.lit (.lit (.lit (.lit (.ask (.lit (.nil)) (.nil))))))))))))))) (.lit (.lit (.lit (.lit (.lit (.lit (.lit (.lit (.lit (.lit (.lit (.lit (.nil))))))))))))))) h (by kernel_rfl)
def WF:IC:=(.seq (.reg [⟨(some 4),(.mv (.c (.str []))),0,none⟩] none) (.seq (.reg [⟨(some 6),(.mv (.t 0)),0,none⟩,⟨(some 7),(.nilchk (.t 6)),0,none⟩,⟨(some 8),(.faddr 1 (.t 7)),0,none⟩,⟨(some 9),(.load false [(.int .i64)] (.t 8)),0,none⟩,⟨(some 5),(.mv (.t 9)),0,none⟩] none) (.seq (.block 0 (.loop [0,1,5] (.seq (.seq (.reg [⟨(some 10),(.mv (.t 0)),0,none⟩,⟨(some 11),(.nilchk (.t 10)),0,none⟩,⟨(some 12),(.faddr 1 (.t 11)),0,none⟩,⟨(some 13),(.load false [(.int .i64)] (.t 12)),0,none⟩,⟨(some 14),(.mv (.t 0)),0,none⟩,⟨(some 15),(.nilchk (.t 14)),0,none⟩,⟨(some 16),(.faddr 0 (.t 15)),0,none⟩,⟨(some 17),(.load false [.str] (.t 16)),0,none⟩,⟨(some 18),(.len 0 (.t 17)),0,none⟩,⟨(some 19),(.bin .num .lss (.t 13) (.t 18)),0,none⟩,⟨(some 20),(.mv (.t 19)),0,none⟩,⟨(some 21),(.mv (.t 0)),0,(some (20,true))⟩,⟨(some 22),(.nilchk (.t 21)),0,(some (20,true))⟩,⟨(some 23),(.faddr 0 (.t 22)),0,(some (20,true))⟩,⟨(some 24),(.load false [.str] (.t 23)),0,(some (20,true))⟩,⟨(some 25),(.mv (.t 0)),0,(some (20,true))⟩,⟨(some 26),(.nilchk (.t 25)),0,(some (20,true))⟩,⟨(some 27),(.faddr 1 (.t 26)),0,(some (20,true))⟩,⟨(some 28),(.load false [(.int .i64)] (.t 27)),0,(some (20,true))⟩,⟨(some 29),(.index (.t 24) (.t 28)),0,(some (20,true))⟩,⟨(some 30),(.call (.c (.fn 155)) [(.t 29)]),0,(some (20,true))⟩,⟨(some 31),(.mv (.t 30)),2,(some (20,true))⟩,⟨(some 32),(.mv (.t 1)),2,(some (31,false))⟩,⟨(some 33),(.mv (.t 32)),2,(some (31,false))⟩,⟨(some 34),(.mv (.t 0)),2,(some (33,true))⟩,⟨(some 35),(.nilchk (.t 34)),2,(some (33,true))⟩,⟨(some 36),(.faddr 0 (.t 35)),2,(some (33,true))⟩,⟨(some 37),(.load false [.str] (.t 36)),2,(some (33,true))⟩,⟨(some 38),(.mv (.t 0)),2,(some (33,true))⟩,⟨(some 39),(.nilchk (.t 38)),2,(some (33,true))⟩,⟨(some 40),(.faddr 1 (.t 39)),2,(some (33,true))⟩,⟨(some 41),(.load false [(.int .i64)] (.t 40)),2,(some (33,true))⟩,⟨(some 42),(.index (.t 37) (.t 41)),2,(some (33,true))⟩,⟨(some 43),(.call (.c (.fn 156)) [(.t 42)]),2,(some (33,true))⟩,⟨(some 44),(.mv (.t 43)),4,(some (33,true))⟩,⟨(some 45),(.mv (.t 0)),4,(some (44,false))⟩,⟨(some 46),(.nilchk (.t 45)),4,(some (44,false))⟩,⟨(some 47),(.faddr 0 (.t 46)),4,(some (44,false))⟩,⟨(some 48),(.load false [.str] (.t 47)),4,(some (44,false))⟩,⟨(some 49),(.mv (.t 0)),4,(some (44,false))⟩,⟨(some 50),(.nilchk (.t 49)),4,(some (44,false))⟩,⟨(some 51),(.faddr 1 (.t 50)),4,(some (44,false))⟩,⟨(some 52),(.load false [(.int .i64)] (.t 51)),4,(some (44,false))⟩,⟨(some 53),(.index (.t 48) (.t 52)),4,(some (44,false))⟩,⟨(some 54),(.bin .num .eql (.t 53) (.c (.int .u8 95))),4,(some (44,false))⟩,⟨(some 55),(.mv (.t 54)),4,(some (44,false))⟩,⟨(some 56),(.mv (.t 0)),4,(some (55,true))⟩,⟨(some 57),(.nilchk (.t 56)),4,(some (55,true))⟩,⟨(some 58),(.faddr 1 (.t 57)),4,(some (55,true))⟩,⟨(some 59),(.load false [(.int .i64)] (.t 58)),4,(some (55,true))⟩,⟨(some 60),(.mv (.t 5)),4,(some (55,true))⟩,⟨(some 61),(.bin .num .eql (.t 59) (.t 60)),4,(some (55,true))⟩,⟨(some 62),(.pick (.t 55) (.t 61) (.c (.bool false))),4,(some (44,false))⟩,⟨(some 63),(.pick (.t 44) (.c (.bool true)) (.t 62)),4,(some (33,true))⟩,⟨(some 64),(.pick (.t 33) (.t 63) (.c (.bool false))),4,(some (31,false))⟩,⟨(some 65),(.pick (.t 31) (.c (.bool true)) (.t 64)),4,(some (20,true))⟩,⟨(some 66),(.pick (.t 20) (.t 65) (.c (.bool false))),4,none⟩] (some [[],[0],[1,0],[2,1,0],[],[4],[5,4],[6,5,4],[7,6,5,4],[3,8,2,1,0,7,6,5,4],[9,3,8,2,1,0,7,6,5,4],[10,9,3,8,2,1,0,7,6,5,4],[11,10,9,3,8,2,1,0,7,6,5,4],[12,10,11,9,3,8,2,1,0,7,6,5,4],[13,10,12,11,9,3,8,2,1,0,7,6,5,4],[10,9,3,8,2,1,0,7,6,5,4],[15,10,9,3,8,2,1,0,7,6,5,4],[16,10,15,9,3,8,2,1,0,7,6,5,4],[17,10,16,15,9,3,8,2,1,0,7,6,5,4],[14,18,10,13,12,11,9,3,8,2,1,0,7,6,5,4,17,16,15],[19,10,14,18,13,12,11,9,3,8,2,1,0,7,6,5,4,17,16,15],[20,10,19,14,18,13,12,11,9,3,8,2,1,0,7,6,5,4,17,16,15],[21,20,10,19,14,18,13,12,11,9,3,8,2,1,0,7,6,5,4,17,16,15],[22,21,20,10,19,14,18,13,12,11,9,3,8,2,1,0,7,6,5,4,17,16,15],[23,22,21,20,10,19,14,18,13,12,11,9,3,8,2,1,0,7,6,5,4,17,16,15],[24,23,22,21,20,10,19,14,18,13,12,11,9,3,8,2,1,0,7,6,5,4,17,16,15],[25,23,24,22,21,20,10,19,14,18,13,12,11,9,3,8,2,1,0,7,6,5,4,17,16,15],[26,23,25,24,22,21,20,10,19,14,18,13,12,11,9,3,8,2,1,0,7,6,5,4,17,16,15],[23,22,21,20,10,19,14,18,13,12,11,9,3,8,2,1,0,7,6,5,4,17,16,15],[28,23,22,21,20,10,19,14,18,13,12,11,9,3,8,2,1,0,7,6,5,4,17,16,15],[29,23,28,22,21,20,10,19,14,18,13,12,11,9,3,8,2,1,0,7,6,5,4,17,16,15],[30,23,29,28,22,21,20,10,19,14,18,13,12,11,9,3,8,2,1,0,7,6,5,4,17,16,15],[27,31,23,26,25,24,22,21,20,10,19,14,18,13,12,11,9,3,8,2,1,0,7,6,5,4,17,16,15,30,29,28],[32,23,27,31,26,25,24,22,21,20,10,19,14,18,13,12,11,9,3,8,2,1,0,7,6,5,4,17,16,15,30,29,28],[33,23,32,27,31,26,25,24,22,21,20,10,19,14,18,13,12,11,9,3,8,2,1,0,7,6,5,4,17,16,15,30,29,28],[34,33,23,32,27,31,26,25,24,22,21,20,10,19,14,18,13,12,11,9,3,8,2,1,0,7,6,5,4,17,16,15,30,29,28],[35,34,33,23,32,27,31,26,25,24,22,21,20,10,19,14,18,13,12,11,9,3,8,2,1,0,7,6,5,4,17,16,15,30,29,28],[36,34,35,33,23,32,27,31,26,25,24,22,21,20,10,19,14,18,13,12,11,9,3,8,2,1,0,7,6,5,4,17,16,15,30,29,28],[37,34,36,35,33,23,32,27,31,26,25,24,22,21,20,10,19,14,18,13,12,11,9,3,8,2,1,0,7,6,5,4,17,16,15,30,29,28],[34,33,23,32,27,31,26,25,24,22,21,20,10,19,14,18,13,12,11,9,3,8,2,1,0,7,6,5,4,17,16,15,30,29,28],[39,34,33,23,32,27,31,26,25,24,22,21,20,10,19,14,18,13,12,11,9,3,8,2,1,0,7,6,5,4,17,16,15,30,29,28],[40,34,39,33,23,32,27,31,26,25,24,22,21,20,10,19,14,18,13,12,11,9,3,8,2,1,0,7,6,5,4,17,16,15,30,29,28],[41,34,40,39,33,23,32,27,31,26,25,24,22,21,20,10,19,14,18,13,12,11,9,3,8,2,1,0,7,6,5,4,17,16,15,30,29,28],[38,42,34,37,36,35,33,23,32,27,31,26,25,24,22,21,20,10,19,14,18,13,12,11,9,3,8,2,1,0,7,6,5,4,17,16,15,30,29,28,41,40,39],[43,34,38,42,37,36,35,33,23,32,27,31,26,25,24,22,21,20,10,19,14,18,13,12,11,9,3,8,2,1,0,7,6,5,4,17,16,15,30,29,28,41,40,39],[44,34,43,38,42,37,36,35,33,23,32,27,31,26,25,24,22,21,20,10,19,14,18,13,12,11,9,3,8,2,1,0,7,6,5,4,17,16,15,30,29,28,41,40,39],[45,44,34,43,38,42,37,36,35,33,23,32,27,31,26,25,24,22,21,20,10,19,14,18,13,12,11,9,3,8,2,1,0,7,6,5,4,17,16,15,30,29,28,41,40,39],[46,45,44,34,43,38,42,37,36,35,33,23,32,27,31,26,25,24,22,21,20,10,19,14,18,13,12,11,9,3,8,2,1,0,7,6,5,4,17,16,15,30,29,28,41,40,39],[47,45,46,44,34,43,38,42,37,36,35,33,23,32,27,31,26,25,24,22,21,20,10,19,14,18,13,12,11,9,3,8,2,1,0,7,6,5,4,17,16,15,30,29,28,41,40,39],[48,45,47,46,44,34,43,38,42,37,36,35,33,23,32,27,31,26,25,24,22,21,20,10,19,14,18,13,12,11,9,3,8,2,1,0,7,6,5,4,17,16,15,30,29,28,41,40,39],[45,44,34,43,38,42,37,36,35,33,23,32,27,31,26,25,24,22,21,20,10,19,14,18,13,12,11,9,3,8,2,1,0,7,6,5,4,17,16,15,30,29,28,41,40,39],[49,50,45,48,47,46,44,34,43,38,42,37,36,35,33,23,32,27,31,26,25,24,22,21,20,10,19,14,18,13,12,11,9,3,8,2,1,0,7,6,5,4,17,16,15,30,29,28,41,40,39],[45,51,34,44,43,38,42,37,36,35,33,23,32,27,31,26,25,24,22,21,20,10,19,14,18,13,12,11,9,3,8,2,1,0,7,6,5,4,17,16,15,30,29,28,41,40,39,49,50,48,47,46],[34,52,23,33,32,27,31,26,25,24,22,21,20,10,19,14,18,13,12,11,9,3,8,2,1,0,7,6,5,4,17,16,15,30,29,28,45,51,44,43,38,42,37,36,35,41,40,39,49,50,48,47,46],[23,53,21,22,20,10,19,14,18,13,12,11,9,3,8,2,1,0,7,6,5,4,17,16,15,34,52,33,32,27,31,26,25,24,30,29,28,45,51,44,43,38,42,37,36,35,41,40,39,49,50,48,47,46],[21,54,10,20,19,14,18,13,12,11,9,3,8,2,1,0,7,6,5,4,17,16,15,23,53,22,34,52,33,32,27,31,26,25,24,30,29,28,45,51,44,43,38,42,37,36,35,41,40,39,49,50,48,47,46],[10,55,9,3,8,2,1,0,7,6,5,4,21,54,20,19,14,18,13,12,11,17,16,15,23,53,22,34,52,33,32,27,31,26,25,24,30,29,28,45,51,44,43,38,42,37,36,35,41,40,39,49,50,48,47,46]])) (.cond (.t 66) .skip (.exit 0))) (.block 1 (.reg [⟨(some 67),(.mv (.t 0)),0,none⟩,⟨(some 68),(.nilchk (.t 67)),0,none⟩,⟨(some 69),(.faddr 1 (.t 68)),0,none⟩,⟨(some 70),(.load false [(.int .i64)] (.t 69)),0,none⟩,⟨(some 71),(.bin .num .add (.t 70) (.c (.int .i64 1))),0,none⟩,⟨(some 72),(.nilchk (.t 67)),0,none⟩,⟨(some 73),(.faddr 1 (.t 72)),0,none⟩,⟨none,(.store 1 (.t 73) (.t 71)),0,none⟩] none))))) (.seq (.reg [⟨(some 74),(.mv (.t 0)),0,none⟩,⟨(some 75),(.nilchk (.t 74)),0,none⟩,⟨(some 76),(.faddr 0 (.t 75)),0,none⟩,⟨(some 77),(.load false [.str] (.t 76)),0,none⟩,⟨(some 78),(.mv (.t 5)),0,none⟩,⟨(some 79),(.mv (.t 0)),0,none⟩,⟨(some 80),(.nilchk (.t 79)),0,none⟩,⟨(some 81),(.faddr 1 (.t 80)),0,none⟩,⟨(some 82),(.load false [(.int .i64)] (.t 81)),0,none⟩,⟨(some 83),(.strslc (.t 77) (some (.t 78)) (some (.t 82))),0,none⟩,⟨(some 4),(.mv (.t 83)),0,none⟩] (some [[],[0],[1,0],[2,1,0],[],[],[5],[6,5],[7,6,5],[3,4,8,2,1,0,7,6,5],[9,0,1,2,3,4,5,6,7,8]])) .ret))))
def WK:List IRes:=[(.tmp 4)]
abbrev a5b:Nat:=84
def VV:ZI:=WL [(155,.pure (preT (fun _:UInt8×Unit=>true)) (Zj (fun x:UInt8×Unit=>digB x.1))),(156,.pure (preT (fun _:UInt8×Unit=>true)) (Zj (fun x:UInt8×Unit=>lowB x.1)))]
theorem a7z{G:AV×List AObj×List AObj->Prop}(b:Bool)(s:List UInt8)(n:Int)(h:At VV 1 (Zd 1 WK G) WF 0 84 [(0,(.ptr 0 0)),(1,(.pv (.bool b))),(5,(.pv (.int .i64 n)))] [(.obj (.box [(.pv (.str s)),(.pv (.int .i64 n))]))]):Zi VV 1 (Zd 1 WK G) WF [] (Yk 84 [.ptr 0 0,.pv (.bool b)] [.box [.pv (.str s),.pv (.int .i64 n)]]):=Zi.to (.nil) h (by kernel_rfl)
theorem NF{G:AV×List AObj×List AObj->Prop}(b:Bool)(s:List UInt8)(n:Int)(m:Int)(h:if (decide (n<(↑(List.length s):Int)))=true then(decide (0<=n)&&decide (Int.toNat n<List.length s))=true∧((Go.Pl.preT (fun(x:UInt8×Unit)=>true) [(.int IntKind.u8 (↑(UInt8.toNat (List.getD s (Int.toNat n) (0:UInt8))):Int))])=true∧(∃ y0:Bool,AV.pv (Zj (fun(x:UInt8×Unit)=>digB x.1) [(.int IntKind.u8 (↑(UInt8.toNat (List.getD s (Int.toNat n) (0:UInt8))):Int))])=AV.pv (enc y0)∧(if (y0)=true then At VV 1 (Zd 1 WK G) WF 0 84 [(0,(.ptr 0 0)),(1,(.pv (.bool b))),(5,(.pv (.int .i64 m)))] [(.obj (.box [(.pv (.str s)),(.pv (.int .i64 (IntKind.wrap IntKind.i64 (n+1))))]))]else(if (b)=true then(decide (0<=n)&&decide (Int.toNat n<List.length s))=true∧((Go.Pl.preT (fun(x:UInt8×Unit)=>true) [(.int IntKind.u8 (↑(UInt8.toNat (List.getD s (Int.toNat n) (0:UInt8))):Int))])=true∧(∃ y1:Bool,AV.pv (Zj (fun(x:UInt8×Unit)=>lowB x.1) [(.int IntKind.u8 (↑(UInt8.toNat (List.getD s (Int.toNat n) (0:UInt8))):Int))])=AV.pv (enc y1)∧(if (y1)=true then At VV 1 (Zd 1 WK G) WF 0 84 [(0,(.ptr 0 0)),(1,(.pv (.bool b))),(5,(.pv (.int .i64 m)))] [(.obj (.box [(.pv (.str s)),(.pv (.int .i64 (IntKind.wrap IntKind.i64 (n+1))))]))]else((decide (0<=n)&&decide (Int.toNat n<List.length s))=true∧(if ((↑(UInt8.toNat (List.getD s (Int.toNat n) (0:UInt8))):Int)==95)=true then if (n==m)=true then At VV 1 (Zd 1 WK G) WF 0 84 [(0,(.ptr 0 0)),(1,(.pv (.bool b))),(5,(.pv (.int .i64 m)))] [(.obj (.box [(.pv (.str s)),(.pv (.int .i64 (IntKind.wrap IntKind.i64 (n+1))))]))]else((decide (0<=m)&&decide (0<=n)&&decide (Int.toNat m<=Int.toNat n)&&decide (Int.toNat n<=List.length s))=true∧(G (((.pv (.str (List.drop (Int.toNat m) (List.take (Int.toNat n) s)))),([(.box [(.pv (.str s)),(.pv (.int .i64 n))])],[])))))else((decide (0<=m)&&decide (0<=n)&&decide (Int.toNat m<=Int.toNat n)&&decide (Int.toNat n<=List.length s))=true∧(G (((.pv (.str (List.drop (Int.toNat m) (List.take (Int.toNat n) s)))),([(.box [(.pv (.str s)),(.pv (.int .i64 n))])],[]))))))))))else((decide (0<=m)&&decide (0<=n)&&decide (Int.toNat m<=Int.toNat n)&&decide (Int.toNat n<=List.length s))=true∧(G (((.pv (.str (List.drop (Int.toNat m) (List.take (Int.toNat n) s)))),([(.box [(.pv (.str s)),(.pv (.int .i64 n))])],[])))))))))else((decide (0<=m)&&decide (0<=n)&&decide (Int.toNat m<=Int.toNat n)&&decide (Int.toNat n<=List.length s))=true∧(G (((.pv (.str (List.drop (Int.toNat m) (List.take (Int.toNat n) s)))),([(.box [(.pv (.str s)),(.pv (.int .i64 n))])],[])))))):At VV 1 (Zd 1 WK G) WF 0 84 [(0,.ptr 0 0),(1,.pv (.bool b)),(5,.pv (.int .i64 m))] [.obj (.box [.pv (.str s),.pv (.int .i64 n)])]:=At.to (.lit (.ask (.lit (.lit (.lit (.lit (.lit (.lit (.lit (.lit (.req (.lit (.req (.abs (Bool) (fun YY=>AV.pv (enc YY)) (.lit (.ask (.lit (.lit (.lit (.lit (.lit (.lit (.lit (.nil)))))))) (.lit (.ask (.lit (.lit (.lit (.lit (.lit (.lit (.lit (.lit (.req (.lit (.req (.abs (Bool) (fun YY=>AV.pv (enc YY)) (.lit (.ask (.lit (.lit (.lit (.lit (.lit (.lit (.lit (.lit (.lit (.lit (.lit (.lit (.lit (.lit (.lit (.lit (.lit (.lit (.lit (.lit (.nil))))))))))))))))))))) (.lit (.lit (.lit (.lit (.lit (.lit (.lit (.lit (.req (.lit (.lit (.lit (.ask (.lit (.lit (.lit (.lit (.lit (.lit (.lit (.lit (.lit (.lit (.lit (.lit (.lit (.lit (.lit (.ask (.lit (.nil)) (.req (.nil)))))))))))))))))) (.lit (.lit (.lit (.lit (.lit (.lit (.lit (.lit (.lit (.lit (.lit (.lit (.lit (.lit (.lit (.req (.nil)))))))))))))))))))))))))))))))))))))))))))) (.lit (.lit (.lit (.lit (.lit (.lit (.lit (.lit (.lit (.lit (.lit (.lit (.lit (.lit (.lit (.lit (.lit (.req (.nil))))))))))))))))))))))))))))))))))) (.lit (.lit (.lit (.lit (.lit (.lit (.lit (.lit (.lit (.lit (.lit (.lit (.lit (.req (.nil))))))))))))))))) h (by kernel_rfl)
def X5:IC:=(.seq (.reg [⟨(some 2),(.mv (.c (.int .i64 0))),0,none⟩,⟨(some 3),(.mv (.c (.str []))),0,none⟩,⟨(some 4),(.mv (.c (.bool false))),0,none⟩] none) (.seq (.reg [⟨(some 12),(.mv (.t 0)),0,none⟩,⟨(some 13),(.call (.c (.fn 157)) [(.t 12),(.c (.bool false))]),0,none⟩,⟨(some 5),(.mv (.t 13)),2,none⟩] none) (.seq (.seq (.reg [⟨(some 14),(.mv (.t 5)),0,none⟩,⟨(some 15),(.len 0 (.t 14)),0,none⟩,⟨(some 16),(.bin .num .gtr (.t 15) (.c (.int .i64 7))),0,none⟩,⟨(some 17),(.mv (.t 16)),0,none⟩,⟨(some 18),(.mv (.t 5)),0,(some (17,false))⟩,⟨(some 19),(.len 0 (.t 18)),0,(some (17,false))⟩,⟨(some 20),(.bin .num .gtr (.t 19) (.c (.int .i64 1))),0,(some (17,false))⟩,⟨(some 21),(.mv (.t 20)),0,(some (17,false))⟩,⟨(some 22),(.mv (.t 5)),0,(some (21,true))⟩,⟨(some 23),(.index (.t 22) (.c (.int .i64 0))),0,(some (21,true))⟩,⟨(some 24),(.bin .num .eql (.t 23) (.c (.int .u8 48))),0,(some (21,true))⟩,⟨(some 25),(.pick (.t 21) (.t 24) (.c (.bool false))),0,(some (17,false))⟩,⟨(some 26),(.pick (.t 17) (.c (.bool true)) (.t 25)),0,none⟩] none) (.cond (.t 26) (.seq (.reg [⟨(some 2),(.mv (.c (.int .i64 0))),0,none⟩,⟨(some 3),(.mv (.c (.str []))),0,none⟩,⟨(some 4),(.mv (.c (.bool false))),0,none⟩] none) .ret) .skip)) (.seq (.reg [⟨(some 6),(.mv (.c (.int .i64 0))),0,none⟩] none) (.seq (.seq (.reg [⟨(some 7),(.mv (.c (.int .i64 0))),0,none⟩] none) (.block 0 (.loop [7,5,6,0] (.seq (.seq (.reg [⟨(some 27),(.mv (.t 7)),0,none⟩,⟨(some 28),(.mv (.t 5)),0,none⟩,⟨(some 29),(.len 0 (.t 28)),0,none⟩,⟨(some 30),(.bin .num .lss (.t 27) (.t 29)),0,none⟩] none) (.cond (.t 30) .skip (.exit 0))) (.seq (.block 1 (.reg [⟨(some 33),(.mv (.t 6)),0,none⟩,⟨(some 34),(.bin .num .mul (.c (.int .i64 10)) (.t 33)),0,none⟩,⟨(some 35),(.mv (.t 5)),0,none⟩,⟨(some 36),(.mv (.t 7)),0,none⟩,⟨(some 37),(.index (.t 35) (.t 36)),0,none⟩,⟨(some 38),(.bin .num .sub (.t 37) (.c (.int .u8 48))),0,none⟩,⟨(some 39),(.conv .i64 (.t 38)),0,none⟩,⟨(some 40),(.bin .num .add (.t 34) (.t 39)),0,none⟩,⟨(some 6),(.mv (.t 40)),0,none⟩] none)) (.reg [⟨(some 31),(.mv (.t 7)),0,none⟩,⟨(some 32),(.bin .num .add (.t 31) (.c (.int .i64 1))),0,none⟩,⟨(some 7),(.mv (.t 32)),0,none⟩] none)))))) (.seq (.seq (.reg [⟨(some 41),(.mv (.t 5)),0,none⟩,⟨(some 42),(.bin .num .eql (.t 41) (.c (.str []))),0,none⟩] none) (.cond (.t 42) (.seq (.reg [⟨(some 43),(.mv (.t 0)),0,none⟩,⟨(some 44),(.call (.c (.fn 157)) [(.t 43),(.c (.bool true))]),0,none⟩,⟨(some 8),(.mv (.t 44)),2,none⟩] none) (.seq (.reg [⟨(some 45),(.mv (.t 8)),0,none⟩,⟨(some 46),(.mv (.t 8)),0,none⟩,⟨(some 47),(.call (.c (.fn 84)) [(.t 46)]),0,none⟩,⟨(some 2),(.mv (.c (.int .i64 1))),2,none⟩,⟨(some 3),(.mv (.t 45)),2,none⟩,⟨(some 4),(.mv (.t 47)),2,none⟩] none) .ret)) .skip)) (.seq (.seq (.reg [⟨(some 48),(.mv (.t 0)),0,none⟩,⟨(some 49),(.nilchk (.t 48)),0,none⟩,⟨(some 50),(.faddr 1 (.t 49)),0,none⟩,⟨(some 51),(.load false [(.int .i64)] (.t 50)),0,none⟩,⟨(some 52),(.mv (.t 0)),0,none⟩,⟨(some 53),(.nilchk (.t 52)),0,none⟩,⟨(some 54),(.faddr 0 (.t 53)),0,none⟩,⟨(some 55),(.load false [.str] (.t 54)),0,none⟩,⟨(some 56),(.len 0 (.t 55)),0,none⟩,⟨(some 57),(.bin .num .lss (.t 51) (.t 56)),0,none⟩,⟨(some 58),(.mv (.t 57)),0,none⟩,⟨(some 59),(.mv (.t 0)),0,(some (58,true))⟩,⟨(some 60),(.nilchk (.t 59)),0,(some (58,true))⟩,⟨(some 61),(.faddr 0 (.t 60)),0,(some (58,true))⟩,⟨(some 62),(.load false [.str] (.t 61)),0,(some (58,true))⟩,⟨(some 63),(.mv (.t 0)),0,(some (58,true))⟩,⟨(some 64),(.nilchk (.t 63)),0,(some (58,true))⟩,⟨(some 65),(.faddr 1 (.t 64)),0,(some (58,true))⟩,⟨(some 66),(.load false [(.int .i64)] (.t 65)),0,(some (58,true))⟩,⟨(some 67),(.index (.t 62) (.t 66)),0,(some (58,true))⟩,⟨(some 68),(.call (.c (.fn 156)) [(.t 67)]),0,(some (58,true))⟩,⟨(some 69),(.mv (.t 68)),2,(some (58,true))⟩,⟨(some 70),(.mv (.t 0)),2,(some (69,false))⟩,⟨(some 71),(.nilchk (.t 70)),2,(some (69,false))⟩,⟨(some 72),(.faddr 0 (.t 71)),2,(some (69,false))⟩,⟨(some 73),(.load false [.str] (.t 72)),2,(some (69,false))⟩,⟨(some 74),(.mv (.t 0)),2,(some (69,false))⟩,⟨(some 75),(.nilchk (.t 74)),2,(some (69,false))⟩,⟨(some 76),(.faddr 1 (.t 75)),2,(some (69,false))⟩,⟨(some 77),(.load false [(.int .i64)] (.t 76)),2,(some (69,false))⟩,⟨(some 78),(.index (.t 73) (.t 77)),2,(some (69,false))⟩,⟨(some 79),(.bin .num .eql (.t 78) (.c (.int .u8 95))),2,(some (69,false))⟩,⟨(some 80),(.pick (.t 69) (.c (.bool true)) (.t 79)),2,(some (58,true))⟩,⟨(some 81),(.pick (.t 58) (.t 80) (.c (.bool false))),2,none⟩] (some [[],[0],[1,0],[2,1,0],[],[4],[5,4],[6,5,4],[7,6,5,4],[3,8,2,1,0,7,6,5,4],[9,3,8,2,1,0,7,6,5,4],[10,9,3,8,2,1,0,7,6,5,4],[11,10,9,3,8,2,1,0,7,6,5,4],[12,10,11,9,3,8,2,1,0,7,6,5,4],[13,10,12,11,9,3,8,2,1,0,7,6,5,4],[10,9,3,8,2,1,0,7,6,5,4],[15,10,9,3,8,2,1,0,7,6,5,4],[16,10,15,9,3,8,2,1,0,7,6,5,4],[17,10,16,15,9,3,8,2,1,0,7,6,5,4],[14,18,10,13,12,11,9,3,8,2,1,0,7,6,5,4,17,16,15],[19,10,14,18,13,12,11,9,3,8,2,1,0,7,6,5,4,17,16,15],[20,10,19,14,18,13,12,11,9,3,8,2,1,0,7,6,5,4,17,16,15],[21,20,10,19,14,18,13,12,11,9,3,8,2,1,0,7,6,5,4,17,16,15],[22,21,20,10,19,14,18,13,12,11,9,3,8,2,1,0,7,6,5,4,17,16,15],[23,21,22,20,10,19,14,18,13,12,11,9,3,8,2,1,0,7,6,5,4,17,16,15],[24,21,23,22,20,10,19,14,18,13,12,11,9,3,8,2,1,0,7,6,5,4,17,16,15],[21,20,10,19,14,18,13,12,11,9,3,8,2,1,0,7,6,5,4,17,16,15],[26,21,20,10,19,14,18,13,12,11,9,3,8,2,1,0,7,6,5,4,17,16,15],[27,21,26,20,10,19,14,18,13,12,11,9,3,8,2,1,0,7,6,5,4,17,16,15],[28,21,27,26,20,10,19,14,18,13,12,11,9,3,8,2,1,0,7,6,5,4,17,16,15],[25,29,21,24,23,22,20,10,19,14,18,13,12,11,9,3,8,2,1,0,7,6,5,4,17,16,15,28,27,26],[30,21,25,29,24,23,22,20,10,19,14,18,13,12,11,9,3,8,2,1,0,7,6,5,4,17,16,15,28,27,26],[21,31,10,20,19,14,18,13,12,11,9,3,8,2,1,0,7,6,5,4,17,16,15,30,25,29,24,23,22,28,27,26],[10,32,9,3,8,2,1,0,7,6,5,4,21,31,20,19,14,18,13,12,11,17,16,15,30,25,29,24,23,22,28,27,26]])) (.cond (.t 81) (.seq (.reg [⟨(some 82),(.mv (.t 0)),0,none⟩,⟨(some 83),(.call (.c (.fn 157)) [(.t 82),(.c (.bool true))]),0,none⟩,⟨(some 9),(.mv (.t 83)),2,none⟩] none) (.seq (.reg [⟨(some 84),(.mv (.t 6)),0,none⟩,⟨(some 85),(.mv (.t 9)),0,none⟩,⟨(some 86),(.mv (.t 9)),0,none⟩,⟨(some 87),(.call (.c (.fn 84)) [(.t 86)]),0,none⟩,⟨(some 2),(.mv (.t 84)),2,none⟩,⟨(some 3),(.mv (.t 85)),2,none⟩,⟨(some 4),(.mv (.t 87)),2,none⟩] none) .ret)) .skip)) (.seq (.reg [⟨(some 88),(.mv (.t 0)),0,none⟩,⟨(some 89),(.nilchk (.t 88)),0,none⟩,⟨(some 90),(.faddr 1 (.t 89)),0,none⟩,⟨(some 91),(.load false [(.int .i64)] (.t 90)),0,none⟩,⟨(some 10),(.mv (.t 91)),0,none⟩] none) (.seq (.reg [⟨(some 92),(.mv (.t 0)),0,none⟩,⟨(some 93),(.call (.c (.fn 86)) [(.t 92)]),0,none⟩] none) (.seq (.seq (.reg [⟨(some 94),(.mv (.t 0)),0,none⟩,⟨(some 95),(.call (.c (.fn 87)) [(.t 94),(.c (.int .u8 42))]),0,none⟩,⟨(some 96),(.un .not (.t 95)),2,none⟩] none) (.cond (.t 96) (.seq (.reg [⟨(some 97),(.mv (.t 0)),0,none⟩,⟨(some 98),(.mv (.t 10)),0,none⟩,⟨(some 99),(.nilchk (.t 97)),0,none⟩,⟨(some 100),(.faddr 1 (.t 99)),0,none⟩,⟨none,(.store 1 (.t 100) (.t 98)),0,none⟩] none) (.seq (.reg [⟨(some 101),(.mv (.t 6)),0,none⟩,⟨(some 2),(.mv (.t 101)),0,none⟩,⟨(some 3),(.mv (.c (.str []))),0,none⟩,⟨(some 4),(.mv (.c (.bool true))),0,none⟩] none) .ret)) .skip)) (.seq (.reg [⟨(some 102),(.mv (.t 0)),0,none⟩,⟨(some 103),(.call (.c (.fn 86)) [(.t 102)]),0,none⟩] none) (.seq (.seq (.reg [⟨(some 104),(.mv (.t 0)),0,none⟩,⟨(some 105),(.nilchk (.t 104)),0,none⟩,⟨(some 106),(.faddr 1 (.t 105)),0,none⟩,⟨(some 107),(.load false [(.int .i64)] (.t 106)),0,none⟩,⟨(some 108),(.mv (.t 0)),0,none⟩,⟨(some 109),(.nilchk (.t 108)),0,none⟩,⟨(some 110),(.faddr 0 (.t 109)),0,none⟩,⟨(some 111),(.load false [.str] (.t 110)),0,none⟩,⟨(some 112),(.len 0 (.t 111)),0,none⟩,⟨(some 113),(.bin .num .lss (.t 107) (.t 112)),0,none⟩,⟨(some 114),(.mv (.t 113)),0,none⟩,⟨(some 115),(.mv (.t 0)),0,(some (114,true))⟩,⟨(some 116),(.nilchk (.t 115)),0,(some (114,true))⟩,⟨(some 117),(.faddr 0 (.t 116)),0,(some (114,true))⟩,⟨(some 118),(.load false [.str] (.t 117)),0,(some (114,true))⟩,⟨(some 119),(.mv (.t 0)),0,(some (114,true))⟩,⟨(some 120),(.nilchk (.t 119)),0,(some (114,true))⟩,⟨(some 121),(.faddr 1 (.t 120)),0,(some (114,true))⟩,⟨(some 122),(.load false [(.int .i64)] (.t 121)),0,(some (114,true))⟩,⟨(some 123),(.index (.t 118) (.t 122)),0,(some (114,true))⟩,⟨(some 124),(.call (.c (.fn 155)) [(.t 123)]),0,(some (114,true))⟩,⟨(some 125),(.pick (.t 114) (.t 124) (.c (.bool false))),2,none⟩] (some [[],[0],[1,0],[2,1,0],[],[4],[5,4],[6,5,4],[7,6,5,4],[3,8,2,1,0,7,6,5,4],[9,3,8,2,1,0,7,6,5,4],[10,9,3,8,2,1,0,7,6,5,4],[11,10,9,3,8,2,1,0,7,6,5,4],[12,10,11,9,3,8,2,1,0,7,6,5,4],[13,10,12,11,9,3,8,2,1,0,7,6,5,4],[10,9,3,8,2,1,0,7,6,5,4],[15,10,9,3,8,2,1,0,7,6,5,4],[16,10,15,9,3,8,2,1,0,7,6,5,4],[17,10,16,15,9,3,8,2,1,0,7,6,5,4],[14,18,10,13,12,11,9,3,8,2,1,0,7,6,5,4,17,16,15],[19,10,14,18,13,12,11,9,3,8,2,1,0,7,6,5,4,17,16,15],[10,20,9,3,8,2,1,0,7,6,5,4,19,14,18,13,12,11,17,16,15]])) (.cond (.t 125) (.seq (.reg [⟨(some 2),(.mv (.c (.int .i64 0))),0,none⟩,⟨(some 3),(.mv (.c (.str []))),0,none⟩,⟨(some 4),(.mv (.c (.bool false))),0,none⟩] none) .ret) .skip)) (.seq (.reg [⟨(some 126),(.mv (.t 0)),0,none⟩,⟨(some 127),(.call (.c (.fn 157)) [(.t 126),(.c (.bool true))]),0,none⟩,⟨(some 11),(.mv (.t 127)),2,none⟩] none) (.seq (.reg [⟨(some 128),(.mv (.t 6)),0,none⟩,⟨(some 129),(.mv (.t 11)),0,none⟩,⟨(some 130),(.mv (.t 11)),0,none⟩,⟨(some 131),(.call (.c (.fn 84)) [(.t 130)]),0,none⟩,⟨(some 2),(.mv (.t 128)),2,none⟩,⟨(some 3),(.mv (.t 129)),2,none⟩,⟨(some 4),(.mv (.t 131)),2,none⟩] none) .ret))))))))))))))
def X6:List IRes:=[(.tmp 2),(.tmp 3),(.tmp 4)]
abbrev a0b:Nat:=132
def Vd:ZI:=WL [(157,.own YF Km),(84,.pure (preT (fun _:Str×Unit=>true)) (Zj (fun x:Str×Unit=>Zq x.1))),(156,.pure (preT (fun _:UInt8×Unit=>true)) (Zj (fun x:UInt8×Unit=>lowB x.1))),(155,.pure (preT (fun _:UInt8×Unit=>true)) (Zj (fun x:UInt8×Unit=>digB x.1))),(86,.own Ya VN),(87,.own Yy Hg)]
theorem a2o{G:AV×List AObj×List AObj->Prop}(s:List UInt8)(n:Int)(h:(YF [(.ptr 0 0),(.pv (.bool false))] [(.box [(.pv (.str s)),(.pv (.int .i64 n))])])=true∧(if (decide ((↑(List.length (Q9 false s n)):Int)>7))=true then G (((.tup [(.pv (.int .i64 0)),(.pv (.str [])),(.pv (.bool false))]),([(.box [(.pv (.str s)),(.pv (.int .i64 (C9 false s n)))])],[])))else(if (decide ((↑(List.length (Q9 false s n)):Int)>1))=true then(decide (0<=0)&&decide (Int.toNat 0<List.length (Q9 false s n)))=true∧(if ((↑(UInt8.toNat (List.getD (Q9 false s n) (Int.toNat 0) (0:UInt8))):Int)==48)=true then G (((.tup [(.pv (.int .i64 0)),(.pv (.str [])),(.pv (.bool false))]),([(.box [(.pv (.str s)),(.pv (.int .i64 (C9 false s n)))])],[])))else(At Vd 1 (Zd 1 X6 G) X5 0 132 [(0,(.ptr 0 0)),(5,(.pv (.str (Q9 false s n)))),(6,(.pv (.int .i64 0))),(7,(.pv (.int .i64 0)))] [(.obj (.box [(.pv (.str s)),(.pv (.int .i64 (C9 false s n)))]))]))else(At Vd 1 (Zd 1 X6 G) X5 0 132 [(0,(.ptr 0 0)),(5,(.pv (.str (Q9 false s n)))),(6,(.pv (.int .i64 0))),(7,(.pv (.int .i64 0)))] [(.obj (.box [(.pv (.str s)),(.pv (.int .i64 (C9 false s n)))]))])))):Zi Vd 1 (Zd 1 X6 G) X5 [] (Yk 132 [.ptr 0 0] [.box [.pv (.str s),.pv (.int .i64 n)]]):=Zi.to (.req (.keep (.lit (.ask (.lit (.lit (.lit (.lit (.lit (.lit (.nil))))))) (.lit (.lit (.lit (.lit (.ask (.lit (.req (.lit (.lit (.lit (.lit (.lit (.ask (.nil) (.nil))))))))) (.lit (.lit (.lit (.lit (.lit (.lit (.nil)))))))))))))))) h (by kernel_rfl)
theorem AY{G:AV×List AObj×List AObj->Prop}(s:List UInt8)(n:Int)(d:List UInt8)(k i:Int)(h:if (decide (i<(↑(List.length d):Int)))=true then(decide (0<=i)&&decide (Int.toNat i<List.length d))=true∧(At Vd 1 (Zd 1 X6 G) X5 0 132 [(0,(.ptr 0 0)),(5,(.pv (.str d))),(6,(.pv (.int .i64 (IntKind.wrap IntKind.i64 (IntKind.wrap IntKind.i64 (10*k)+IntKind.wrap IntKind.i64 (IntKind.wrap IntKind.u8 ((↑(UInt8.toNat (List.getD d (Int.toNat i) (0:UInt8))):Int) - 48))))))),(7,(.pv (.int .i64 (IntKind.wrap IntKind.i64 (i+1)))))] [(.obj (.box [(.pv (.str s)),(.pv (.int .i64 n))]))])else(if (d==[])=true then(YF [(.ptr 0 0),(.pv (.bool true))] [(.box [(.pv (.str s)),(.pv (.int .i64 n))])])=true∧(∃ y0:Bool,AV.pv (Zj (fun(x:Str×Unit)=>Zq x.1) [(.str (Q9 true s n))])=AV.pv (enc y0)∧(G (((.tup [(.pv (.int .i64 1)),(.pv (.str (Q9 true s n))),(.pv (.bool y0))]),([(.box [(.pv (.str s)),(.pv (.int .i64 (C9 true s n)))])],[])))))else(if (decide (n<(↑(List.length s):Int)))=true then(decide (0<=n)&&decide (Int.toNat n<List.length s))=true∧((Go.Pl.preT (fun(x:UInt8×Unit)=>true) [(.int IntKind.u8 (↑(UInt8.toNat (List.getD s (Int.toNat n) (0:UInt8))):Int))])=true∧(∃ y1:Bool,AV.pv (Zj (fun(x:UInt8×Unit)=>lowB x.1) [(.int IntKind.u8 (↑(UInt8.toNat (List.getD s (Int.toNat n) (0:UInt8))):Int))])=AV.pv (enc y1)∧(if (y1)=true then(YF [(.ptr 0 0),(.pv (.bool true))] [(.box [(.pv (.str s)),(.pv (.int .i64 n))])])=true∧(∃ y2:Bool,AV.pv (Zj (fun(x:Str×Unit)=>Zq x.1) [(.str (Q9 true s n))])=AV.pv (enc y2)∧(G (((.tup [(.pv (.int .i64 k)),(.pv (.str (Q9 true s n))),(.pv (.bool y2))]),([(.box [(.pv (.str s)),(.pv (.int .i64 (C9 true s n)))])],[])))))else((decide (0<=n)&&decide (Int.toNat n<List.length s))=true∧(if ((↑(UInt8.toNat (List.getD s (Int.toNat n) (0:UInt8))):Int)==95)=true then(YF [(.ptr 0 0),(.pv (.bool true))] [(.box [(.pv (.str s)),(.pv (.int .i64 n))])])=true∧(∃ y3:Bool,AV.pv (Zj (fun(x:Str×Unit)=>Zq x.1) [(.str (Q9 true s n))])=AV.pv (enc y3)∧(G (((.tup [(.pv (.int .i64 k)),(.pv (.str (Q9 true s n))),(.pv (.bool y3))]),([(.box [(.pv (.str s)),(.pv (.int .i64 (C9 true s n)))])],[])))))else((Ya [(.ptr 0 0)] [(.box [(.pv (.str s)),(.pv (.int .i64 n))])])=true∧((Yy [(.ptr 0 0),(.pv (.int IntKind.u8 42))] [(.box [(.pv (.str s)),(.pv (.int .i64 (bB s n)))])])=true∧(if (!J7 42 s (bB s n))=true then G (((.tup [(.pv (.int .i64 k)),(.pv (.str [])),(.pv (.bool true))]),([(.box [(.pv (.str s)),(.pv (.int .i64 n))])],[])))else((Ya [(.ptr 0 0)] [(.box [(.pv (.str s)),(.pv (.int .i64 (Y3 42 s (bB s n))))])])=true∧(if (decide (bB s (Y3 42 s (bB s n))<(↑(List.length s):Int)))=true then(decide (0<=bB s (Y3 42 s (bB s n)))&&decide (Int.toNat (bB s (Y3 42 s (bB s n)))<List.length s))=true∧((Go.Pl.preT (fun(x:UInt8×Unit)=>true) [(.int IntKind.u8 (↑(UInt8.toNat (List.getD s (Int.toNat (bB s (Y3 42 s (bB s n)))) (0:UInt8))):Int))])=true∧(∃ y4:Bool,AV.pv (Zj (fun(x:UInt8×Unit)=>digB x.1) [(.int IntKind.u8 (↑(UInt8.toNat (List.getD s (Int.toNat (bB s (Y3 42 s (bB s n)))) (0:UInt8))):Int))])=AV.pv (enc y4)∧(if (y4)=true then G (((.tup [(.pv (.int .i64 0)),(.pv (.str [])),(.pv (.bool false))]),([(.box [(.pv (.str s)),(.pv (.int .i64 (bB s (Y3 42 s (bB s n)))))])],[])))else((YF [(.ptr 0 0),(.pv (.bool true))] [(.box [(.pv (.str s)),(.pv (.int .i64 (bB s (Y3 42 s (bB s n)))))])])=true∧(∃ y5:Bool,AV.pv (Zj (fun(x:Str×Unit)=>Zq x.1) [(.str (Q9 true s (bB s (Y3 42 s (bB s n)))))])=AV.pv (enc y5)∧(G (((.tup [(.pv (.int .i64 k)),(.pv (.str (Q9 true s (bB s (Y3 42 s (bB s n)))))),(.pv (.bool y5))]),([(.box [(.pv (.str s)),(.pv (.int .i64 (C9 true s (bB s (Y3 42 s (bB s n))))))])],[])))))))))else((YF [(.ptr 0 0),(.pv (.bool true))] [(.box [(.pv (.str s)),(.pv (.int .i64 (bB s (Y3 42 s (bB s n)))))])])=true∧(∃ y6:Bool,AV.pv (Zj (fun(x:Str×Unit)=>Zq x.1) [(.str (Q9 true s (bB s (Y3 42 s (bB s n)))))])=AV.pv (enc y6)∧(G (((.tup [(.pv (.int .i64 k)),(.pv (.str (Q9 true s (bB s (Y3 42 s (bB s n)))))),(.pv (.bool y6))]),([(.box [(.pv (.str s)),(.pv (.int .i64 (C9 true s (bB s (Y3 42 s (bB s n))))))])],[]))))))))))))))))else((Ya [(.ptr 0 0)] [(.box [(.pv (.str s)),(.pv (.int .i64 n))])])=true∧((Yy [(.ptr 0 0),(.pv (.int IntKind.u8 42))] [(.box [(.pv (.str s)),(.pv (.int .i64 (bB s n)))])])=true∧(if (!J7 42 s (bB s n))=true then G (((.tup [(.pv (.int .i64 k)),(.pv (.str [])),(.pv (.bool true))]),([(.box [(.pv (.str s)),(.pv (.int .i64 n))])],[])))else((Ya [(.ptr 0 0)] [(.box [(.pv (.str s)),(.pv (.int .i64 (Y3 42 s (bB s n))))])])=true∧(if (decide (bB s (Y3 42 s (bB s n))<(↑(List.length s):Int)))=true then(decide (0<=bB s (Y3 42 s (bB s n)))&&decide (Int.toNat (bB s (Y3 42 s (bB s n)))<List.length s))=true∧((Go.Pl.preT (fun(x:UInt8×Unit)=>true) [(.int IntKind.u8 (↑(UInt8.toNat (List.getD s (Int.toNat (bB s (Y3 42 s (bB s n)))) (0:UInt8))):Int))])=true∧(∃ y7:Bool,AV.pv (Zj (fun(x:UInt8×Unit)=>digB x.1) [(.int IntKind.u8 (↑(UInt8.toNat (List.getD s (Int.toNat (bB s (Y3 42 s (bB s n)))) (0:UInt8))):Int))])=AV.pv (enc y7)∧(if (y7)=true then G (((.tup [(.pv (.int .i64 0)),(.pv (.str [])),(.pv (.bool false))]),([(.box [(.pv (.str s)),(.pv (.int .i64 (bB s (Y3 42 s (bB s n)))))])],[])))else((YF [(.ptr 0 0),(.pv (.bool true))] [(.box [(.pv (.str s)),(.pv (.int .i64 (bB s (Y3 42 s (bB s n)))))])])=true∧(∃ y8:Bool,AV.pv (Zj (fun(x:Str×Unit)=>Zq x.1) [(.str (Q9 true s (bB s (Y3 42 s (bB s n)))))])=AV.pv (enc y8)∧(G (((.tup [(.pv (.int .i64 k)),(.pv (.str (Q9 true s (bB s (Y3 42 s (bB s n)))))),(.pv (.bool y8))]),([(.box [(.pv (.str s)),(.pv (.int .i64 (C9 true s (bB s (Y3 42 s (bB s n))))))])],[])))))))))else((YF [(.ptr 0 0),(.pv (.bool true))] [(.box [(.pv (.str s)),(.pv (.int .i64 (bB s (Y3 42 s (bB s n)))))])])=true∧(∃ y9:Bool,AV.pv (Zj (fun(x:Str×Unit)=>Zq x.1) [(.str (Q9 true s (bB s (Y3 42 s (bB s n)))))])=AV.pv (enc y9)∧(G (((.tup [(.pv (.int .i64 k)),(.pv (.str (Q9 true s (bB s (Y3 42 s (bB s n)))))),(.pv (.bool y9))]),([(.box [(.pv (.str s)),(.pv (.int .i64 (C9 true s (bB s (Y3 42 s (bB s n))))))])],[])))))))))))))):At Vd 1 (Zd 1 X6 G) X5 0 132 [(0,.ptr 0 0),(5,.pv (.str d)),(6,.pv (.int .i64 k)),(7,.pv (.int .i64 i))] [.obj (.box [.pv (.str s),.pv (.int .i64 n)])]:=At.to (.lit (.ask (.lit (.req (.lit (.lit (.lit (.nil)))))) (.lit (.ask (.req (.keep (.lit (.abs (Bool) (fun YY=>AV.pv (enc YY)) (.nil))))) (.lit (.ask (.lit (.lit (.lit (.lit (.lit (.lit (.lit (.lit (.req (.lit (.req (.abs (Bool) (fun YY=>AV.pv (enc YY)) (.lit (.ask (.lit (.lit (.lit (.lit (.lit (.lit (.lit (.lit (.lit (.lit (.lit (.lit (.lit (.req (.keep (.lit (.abs (Bool) (fun YY=>AV.pv (enc YY)) (.nil)))))))))))))))))) (.lit (.lit (.lit (.lit (.lit (.lit (.lit (.lit (.req (.lit (.lit (.lit (.lit (.lit (.ask (.req (.keep (.lit (.abs (Bool) (fun YY=>AV.pv (enc YY)) (.nil))))) (.req (.keep (.req (.keep (.ask (.nil) (.req (.keep (.lit (.ask (.lit (.lit (.lit (.lit (.lit (.lit (.lit (.lit (.req (.lit (.req (.abs (Bool) (fun YY=>AV.pv (enc YY)) (.lit (.ask (.nil) (.req (.keep (.lit (.abs (Bool) (fun YY=>AV.pv (enc YY)) (.nil))))))))))))))))))) (.lit (.lit (.lit (.lit (.lit (.lit (.lit (.lit (.lit (.lit (.lit (.req (.keep (.lit (.abs (Bool) (fun YY=>AV.pv (enc YY)) (.nil)))))))))))))))))))))))))))))))))))))))))))))))))))))) (.lit (.lit (.lit (.lit (.lit (.lit (.lit (.lit (.lit (.lit (.lit (.lit (.lit (.req (.keep (.req (.keep (.ask (.nil) (.req (.keep (.lit (.ask (.lit (.lit (.lit (.lit (.lit (.lit (.lit (.lit (.req (.lit (.req (.abs (Bool) (fun YY=>AV.pv (enc YY)) (.lit (.ask (.nil) (.req (.keep (.lit (.abs (Bool) (fun YY=>AV.pv (enc YY)) (.nil))))))))))))))))))) (.lit (.lit (.lit (.lit (.lit (.lit (.lit (.lit (.lit (.lit (.lit (.req (.keep (.lit (.abs (Bool) (fun YY=>AV.pv (enc YY)) (.nil)))))))))))))))))))))))))))))))))))))))))))) h (by kernel_rfl)
def Z9:IC:=(.seq (.reg [⟨(some 2),(.alloc (.agg [(.int .i64 0),(.sl 0 true [])])),0,none⟩,⟨(some 3),(.mv (.c (.int .i64 0))),1,none⟩] none) (.seq (.reg [⟨(some 10),(.mv (.t 0)),0,none⟩,⟨(some 11),(.build [(.str []),(.int .i64 0)] [(0,(1,(.t 10)))]),0,none⟩,⟨(some 12),(.box 2 (.t 11)),0,none⟩,⟨(some 4),(.mv (.t 12)),1,none⟩] none) (.seq (.reg [⟨(some 5),(.alloc (.agg [(.int .i64 0),(.sl 0 true [])])),0,none⟩] none) (.seq (.reg [⟨(some 13),(.mv (.t 4)),0,none⟩,⟨(some 14),(.call (.c (.fn 86)) [(.t 13)]),0,none⟩] none) (.seq (.reg [⟨(some 6),(.mv (.c (.int .i64 1))),0,none⟩] none) (.seq (.seq (.reg [⟨(some 15),(.mv (.t 4)),0,none⟩,⟨(some 16),(.call (.c (.fn 87)) [(.t 15),(.c (.int .u8 45))]),0,none⟩] none) (.cond (.t 16) (.reg [⟨(some 6),(.mv (.c (.int .i64 (-1)))),0,none⟩] none) (.reg [⟨(some 17),(.mv (.t 4)),0,none⟩,⟨(some 18),(.call (.c (.fn 87)) [(.t 17),(.c (.int .u8 43))]),0,none⟩] none))) (.block 0 (.loop [4,2,5,6] (.block 1 (.seq (.reg [⟨(some 19),(.mv (.t 4)),0,none⟩,⟨(some 20),(.call (.c (.fn 86)) [(.t 19)]),0,none⟩] none) (.seq (.reg [⟨(some 22),(.mv (.t 4)),0,none⟩,⟨(some 23),(.call (.c (.fn 88)) [(.t 22)]),0,none⟩,⟨(some 21),(.mv (.t 23)),2,none⟩,⟨(some 24),(.extract (.t 21) 0),2,none⟩,⟨(some 25),(.extract (.t 21) 1),2,none⟩,⟨(some 26),(.extract (.t 21) 2),2,none⟩,⟨(some 7),(.mv (.t 24)),2,none⟩,⟨(some 8),(.mv (.t 25)),2,none⟩,⟨(some 9),(.mv (.t 26)),2,none⟩] none) (.seq (.seq (.reg [⟨(some 27),(.mv (.t 9)),0,none⟩,⟨(some 28),(.un .not (.t 27)),0,none⟩] none) (.cond (.t 28) (.seq (.reg [⟨(some 29),(.build [(.int .i64 0),(.sl 0 true [])] []),0,none⟩,⟨none,(.store 2 (.t 2) (.t 29)),0,none⟩,⟨(some 3),(.mv (.c (.int .i64 6))),0,none⟩] none) .ret) .skip)) (.seq (.seq (.reg [⟨(some 30),(.mv (.t 8)),0,none⟩,⟨(some 31),(.bin .num .eql (.t 30) (.c (.str []))),0,none⟩] none) (.cond (.t 31) (.reg [⟨(some 32),(.faddr 0 (.t 5)),0,none⟩,⟨(some 33),(.load false [(.int .i64)] (.t 32)),0,none⟩,⟨(some 34),(.mv (.t 6)),0,none⟩,⟨(some 35),(.mv (.t 7)),0,none⟩,⟨(some 36),(.bin .num .mul (.t 34) (.t 35)),0,none⟩,⟨(some 37),(.bin .num .add (.t 33) (.t 36)),0,none⟩,⟨(some 38),(.faddr 0 (.t 5)),0,none⟩,⟨none,(.store 1 (.t 38) (.t 37)),0,none⟩] none) (.reg [⟨(some 39),(.load true [(.int .i64),(.sl 2)] (.t 5)),0,none⟩,⟨(some 40),(.mv (.t 8)),0,none⟩,⟨(some 41),(.mv (.t 6)),0,none⟩,⟨(some 42),(.mv (.t 7)),0,none⟩,⟨(some 43),(.bin .num .mul (.t 41) (.t 42)),0,none⟩,⟨(some 44),(.call (.c (.fn 89)) [(.t 39),(.t 40),(.t 43)]),0,none⟩,⟨none,(.store 2 (.t 5) (.t 44)),2,none⟩] none))) (.seq (.reg [⟨(some 45),(.mv (.t 4)),0,none⟩,⟨(some 46),(.call (.c (.fn 86)) [(.t 45)]),0,none⟩] none) (.block 2 (.seq (.reg [⟨(some 49),(.mv (.t 4)),0,none⟩,⟨(some 50),(.nilchk (.t 49)),0,none⟩,⟨(some 51),(.faddr 1 (.t 50)),0,none⟩,⟨(some 52),(.load false [(.int .i64)] (.t 51)),0,none⟩,⟨(some 53),(.mv (.t 4)),0,none⟩,⟨(some 54),(.nilchk (.t 53)),0,none⟩,⟨(some 55),(.faddr 0 (.t 54)),0,none⟩,⟨(some 56),(.load false [.str] (.t 55)),0,none⟩,⟨(some 57),(.len 0 (.t 56)),0,none⟩,⟨(some 58),(.bin .num .eql (.t 52) (.t 57)),0,none⟩,⟨(some 48),(.mv (.t 58)),0,none⟩] (some [[],[0],[1,0],[2,1,0],[],[4],[5,4],[6,5,4],[7,6,5,4],[3,8,2,1,0,7,6,5,4],[9,3,8,2,1,0,7,6,5,4]])) (.cond (.t 48) (.seq (.reg [⟨(some 59),(.load true [(.int .i64),(.sl 2)] (.t 5)),0,none⟩,⟨(some 60),(.call (.c (.fn 90)) [(.t 59)]),0,none⟩,⟨(some 61),(.extract (.t 60) 0),2,none⟩,⟨(some 62),(.extract (.t 60) 1),2,none⟩,⟨none,(.store 2 (.t 2) (.t 61)),2,none⟩,⟨(some 3),(.mv (.t 62)),2,none⟩] none) .ret) (.seq (.reg [⟨(some 64),(.mv (.t 4)),0,none⟩,⟨(some 65),(.call (.c (.fn 87)) [(.t 64),(.c (.int .u8 45))]),0,none⟩,⟨(some 63),(.mv (.t 65)),2,none⟩] none) (.cond (.t 63) (.reg [⟨(some 6),(.mv (.c (.int .i64 (-1)))),0,none⟩] none) (.seq (.reg [⟨(some 67),(.mv (.t 4)),0,none⟩,⟨(some 68),(.call (.c (.fn 87)) [(.t 67),(.c (.int .u8 43))]),0,none⟩,⟨(some 66),(.mv (.t 68)),2,none⟩] none) (.cond (.t 66) (.reg [⟨(some 6),(.mv (.c (.int .i64 1))),0,none⟩] none) (.seq (.reg [⟨(some 47),(.build [(.int .i64 0),(.sl 0 true [])] []),0,none⟩,⟨none,(.store 2 (.t 2) (.t 47)),0,none⟩,⟨(some 3),(.mv (.c (.int .i64 6))),0,none⟩] none) .ret))))))))))))))))))))))
def Z8:List IRes:=[(.cell true 2 2),(.tmp 3)]
abbrev CU:Nat:=69
def Yq:ZI:=WL [(86,.own Ya VN),(87,.own Yy Hg),(88,.own Ya Qr),(89,.pure (preT (fun x:Lin×Str×Int×Unit=>decide (x.1.t.length<=1000000))) (Zj (fun x:Lin×Str×Int×Unit=>Wh x.1 x.2.1 x.2.2.1))),(90,.pure (preT (fun x:Lin×Unit=>Zy x.1)) (Zj (fun x:Lin×Unit=>VI x.1)))]
theorem Oc{G:PV->Prop}(s:List UInt8)(h:(Ya [(.ptr 0 0)] [(.box [(.pv (.str s)),(.pv (.int .i64 0))])])=true∧((Yy [(.ptr 0 0),(.pv (.int IntKind.u8 45))] [(.box [(.pv (.str s)),(.pv (.int .i64 (bB s 0)))])])=true∧(if (J7 45 s (bB s 0))=true then At Yq 0 (Ze Z8 G) Z9 0 69 [(2,(.ptr 0 0)),(4,(.ptr 1 0)),(5,(.ptr 2 0)),(6,(.pv (.int .i64 (-1))))] [(.obj (.box [(.pv (.int .i64 0)),(.pv (.sl 0 true []))])),(.obj (.box [(.pv (.str s)),(.pv (.int .i64 (Y3 45 s (bB s 0))))])),(.obj (.box [(.pv (.int .i64 0)),(.pv (.sl 0 true []))]))]else((Yy [(.ptr 0 0),(.pv (.int IntKind.u8 43))] [(.box [(.pv (.str s)),(.pv (.int .i64 (Y3 45 s (bB s 0))))])])=true∧(At Yq 0 (Ze Z8 G) Z9 0 69 [(2,(.ptr 0 0)),(4,(.ptr 1 0)),(5,(.ptr 2 0)),(6,(.pv (.int .i64 1)))] [(.obj (.box [(.pv (.int .i64 0)),(.pv (.sl 0 true []))])),(.obj (.box [(.pv (.str s)),(.pv (.int .i64 (Y3 43 s (Y3 45 s (bB s 0)))))])),(.obj (.box [(.pv (.int .i64 0)),(.pv (.sl 0 true []))]))]))))):Zi Yq 0 (Ze Z8 G) Z9 [] (Xw 69 [.str s]):=Zi.tp (.req (.keep (.req (.keep (.ask (.nil) (.req (.keep (.nil)))))))) h (by kernel_rfl)
theorem Fs{G:PV->Prop}(s:List UInt8)(n:Int)(k:Int)(p:PV)(g:Int)(h:(Ya [(.ptr 0 0)] [(.box [(.pv (.str s)),(.pv (.int .i64 n))])])=true∧((Ya [(.ptr 0 0)] [(.box [(.pv (.str s)),(.pv (.int .i64 (bB s n)))])])=true∧(if (!itO s (bB s n))=true then G ((.tup [(.agg [(.int .i64 0),(.sl 0 true [])]),(.int .i64 6)]))else(if (itV s (bB s n)==[])=true then(Ya [(.ptr 0 0)] [(.box [(.pv (.str s)),(.pv (.int .i64 (BK s (bB s n))))])])=true∧(if (bB s (BK s (bB s n))==(↑(List.length s):Int))=true then(Go.Pl.preT (fun(x:Lin×Unit)=>Zy x.1) [(.agg [(.int .i64 (IntKind.wrap IntKind.i64 (k+IntKind.wrap IntKind.i64 (g*itK s (bB s n))))),p])])=true∧(∃ y0:Lin×Int,AV.pv (Zj (fun(x:Lin×Unit)=>VI x.1) [(.agg [(.int .i64 (IntKind.wrap IntKind.i64 (k+IntKind.wrap IntKind.i64 (g*itK s (bB s n))))),p])])=AV.pv (enc y0)∧(G ((.tup [(.agg [(.int .i64 y0.1.k),(.sl 2 false (List.map enc y0.1.t))]),(.int .i64 y0.2)]))))else((Yy [(.ptr 0 0),(.pv (.int IntKind.u8 45))] [(.box [(.pv (.str s)),(.pv (.int .i64 (bB s (BK s (bB s n)))))])])=true∧(if (J7 45 s (bB s (BK s (bB s n))))=true then At Yq 0 (Ze Z8 G) Z9 0 69 [(2,(.ptr 0 0)),(4,(.ptr 1 0)),(5,(.ptr 2 0)),(6,(.pv (.int .i64 (-1))))] [(.obj (.box [(.pv (.int .i64 0)),(.pv (.sl 0 true []))])),(.obj (.box [(.pv (.str s)),(.pv (.int .i64 (Y3 45 s (bB s (BK s (bB s n))))))])),(.obj (.box [(.pv (.int .i64 (IntKind.wrap IntKind.i64 (k+IntKind.wrap IntKind.i64 (g*itK s (bB s n)))))),(.pv p)]))]else((Yy [(.ptr 0 0),(.pv (.int IntKind.u8 43))] [(.box [(.pv (.str s)),(.pv (.int .i64 (Y3 45 s (bB s (BK s (bB s n))))))])])=true∧(if (J7 43 s (Y3 45 s (bB s (BK s (bB s n)))))=true then At Yq 0 (Ze Z8 G) Z9 0 69 [(2,(.ptr 0 0)),(4,(.ptr 1 0)),(5,(.ptr 2 0)),(6,(.pv (.int .i64 1)))] [(.obj (.box [(.pv (.int .i64 0)),(.pv (.sl 0 true []))])),(.obj (.box [(.pv (.str s)),(.pv (.int .i64 (Y3 43 s (Y3 45 s (bB s (BK s (bB s n)))))))])),(.obj (.box [(.pv (.int .i64 (IntKind.wrap IntKind.i64 (k+IntKind.wrap IntKind.i64 (g*itK s (bB s n)))))),(.pv p)]))]else(G ((.tup [(.agg [(.int .i64 0),(.sl 0 true [])]),(.int .i64 6)]))))))))else((Go.Pl.preT (fun(x:Lin×Str×Int×Unit)=>decide (List.length x.1.t<=1000000)) [(.agg [(.int .i64 k),p]),(.str (itV s (bB s n))),(.int .i64 (IntKind.wrap IntKind.i64 (g*itK s (bB s n))))])=true∧(∃ y1:Lin,AV.pv (Zj (fun(x:Lin×Str×Int×Unit)=>Wh x.1 x.2.1 x.2.2.1) [(.agg [(.int .i64 k),p]),(.str (itV s (bB s n))),(.int .i64 (IntKind.wrap IntKind.i64 (g*itK s (bB s n))))])=AV.pv (enc y1)∧((Ya [(.ptr 0 0)] [(.box [(.pv (.str s)),(.pv (.int .i64 (BK s (bB s n))))])])=true∧(if (bB s (BK s (bB s n))==(↑(List.length s):Int))=true then(Go.Pl.preT (fun(x:Lin×Unit)=>Zy x.1) [(.agg [(.int .i64 y1.k),(.sl 2 false (List.map enc y1.t))])])=true∧(∃ y2:Lin×Int,AV.pv (Zj (fun(x:Lin×Unit)=>VI x.1) [(.agg [(.int .i64 y1.k),(.sl 2 false (List.map enc y1.t))])])=AV.pv (enc y2)∧(G ((.tup [(.agg [(.int .i64 y2.1.k),(.sl 2 false (List.map enc y2.1.t))]),(.int .i64 y2.2)]))))else((Yy [(.ptr 0 0),(.pv (.int IntKind.u8 45))] [(.box [(.pv (.str s)),(.pv (.int .i64 (bB s (BK s (bB s n)))))])])=true∧(if (J7 45 s (bB s (BK s (bB s n))))=true then At Yq 0 (Ze Z8 G) Z9 0 69 [(2,(.ptr 0 0)),(4,(.ptr 1 0)),(5,(.ptr 2 0)),(6,(.pv (.int .i64 (-1))))] [(.obj (.box [(.pv (.int .i64 0)),(.pv (.sl 0 true []))])),(.obj (.box [(.pv (.str s)),(.pv (.int .i64 (Y3 45 s (bB s (BK s (bB s n))))))])),(.obj (.box [(.pv (.int .i64 y1.k)),(.pv (.sl 2 false (List.map enc y1.t)))]))]else((Yy [(.ptr 0 0),(.pv (.int IntKind.u8 43))] [(.box [(.pv (.str s)),(.pv (.int .i64 (Y3 45 s (bB s (BK s (bB s n))))))])])=true∧(if (J7 43 s (Y3 45 s (bB s (BK s (bB s n)))))=true then At Yq 0 (Ze Z8 G) Z9 0 69 [(2,(.ptr 0 0)),(4,(.ptr 1 0)),(5,(.ptr 2 0)),(6,(.pv (.int .i64 1)))] [(.obj (.box [(.pv (.int .i64 0)),(.pv (.sl 0 true []))])),(.obj (.box [(.pv (.str s)),(.pv (.int .i64 (Y3 43 s (Y3 45 s (bB s (BK s (bB s n)))))))])),(.obj (.box [(.pv (.int .i64 y1.k)),(.pv (.sl 2 false (List.map enc y1.t)))]))]else(G ((.tup [(.agg [(.int .i64 0),(.sl 0 true [])]),(.int .i64 6)]))))))))))))))):At Yq 0 (Ze Z8 G) Z9 0 69 [(2,.ptr 0 0),(4,.ptr 1 0),(5,.ptr 2 0),(6,.pv (.int .i64 g))] [.obj (.box [.pv (.int .i64 0),.pv (.sl 0 true [])]),.obj (.box [.pv (.str s),.pv (.int .i64 n)]),.obj (.box [.pv (.int .i64 k),.pv p])]:=At.tp (.req (.keep (.req (.keep (.ask (.nil) (.lit (.ask (.lit (.lit (.req (.keep (.lit (.ask (.req (.abs (Lin×Int) (fun YY=>AV.pv (enc YY)) (.nil))) (.req (.keep (.ask (.nil) (.req (.keep (.ask (.nil) (.nil))))))))))))) (.lit (.req (.abs (Lin) (fun YY=>AV.pv (enc YY)) (.req (.keep (.lit (.ask (.req (.abs (Lin×Int) (fun YY=>AV.pv (enc YY)) (.nil))) (.req (.keep (.ask (.nil) (.req (.keep (.ask (.nil) (.nil))))))))))))))))))))) h (by kernel_rfl)
def Ym:IC:=(.seq (.reg [⟨(some 1),(.box 2 (.t 0)),0,none⟩,⟨(some 2),(.mv (.c (.str []))),1,none⟩] none) (.seq (.seq (.reg [⟨(some 6),(.load true [(.int .i64),(.sl 2)] (.t 1)),0,none⟩,⟨(some 7),(.call (.c (.fn 20)) [(.t 6)]),0,none⟩,⟨(some 8),(.un .not (.t 7)),2,none⟩] none) (.cond (.t 8) (.seq (.reg [⟨(some 2),(.mv (.c (.str []))),0,none⟩] none) .ret) .skip)) (.seq (.reg [⟨(some 3),(.mv (.c (.str []))),0,none⟩] none) (.seq (.seq (.reg [⟨(some 4),(.mv (.c (.int .i64 0))),0,none⟩] none) (.block 0 (.loop [4,1,3] (.seq (.seq (.reg [⟨(some 9),(.mv (.t 4)),0,none⟩,⟨(some 10),(.faddr 1 (.t 1)),0,none⟩,⟨(some 11),(.load false [(.sl 2)] (.t 10)),0,none⟩,⟨(some 12),(.len 1 (.t 11)),0,none⟩,⟨(some 13),(.bin .num .lss (.t 9) (.t 12)),0,none⟩] none) (.cond (.t 13) .skip (.exit 0))) (.seq (.block 1 (.seq (.reg [⟨(some 16),(.faddr 1 (.t 1)),0,none⟩,⟨(some 17),(.load false [(.sl 2)] (.t 16)),0,none⟩,⟨(some 18),(.mv (.t 4)),0,none⟩,⟨(some 19),(.iaddr 2 (.t 17) (.t 18)),0,none⟩,⟨(some 20),(.load true [.str,(.int .i64)] (.t 19)),0,none⟩,⟨(some 5),(.alloc (.agg [(.str []),(.int .i64 0)])),0,none⟩,⟨none,(.store 2 (.t 5) (.t 20)),1,none⟩] none) (.seq (.block 2 (.seq (.reg [⟨(some 22),(.faddr 1 (.t 5)),0,none⟩,⟨(some 23),(.load false [(.int .i64)] (.t 22)),0,none⟩,⟨(some 24),(.bin .num .lss (.t 23) (.c (.int .i64 0))),0,none⟩,⟨(some 21),(.mv (.t 24)),0,none⟩] none) (.cond (.t 21) (.seq (.reg [⟨(some 25),(.mv (.t 3)),0,none⟩,⟨(some 26),(.bin .num .add (.t 25) (.c (.str [45]))),0,none⟩,⟨(some 3),(.mv (.t 26)),0,none⟩] none) (.reg [⟨(some 27),(.faddr 1 (.t 5)),0,none⟩,⟨(some 28),(.load false [(.int .i64)] (.t 27)),0,none⟩,⟨(some 29),(.un .neg (.t 28)),0,none⟩,⟨(some 30),(.faddr 1 (.t 5)),0,none⟩,⟨none,(.store 1 (.t 30) (.t 29)),0,none⟩] none)) (.seq (.reg [⟨(some 32),(.mv (.t 4)),0,none⟩,⟨(some 33),(.bin .num .gtr (.t 32) (.c (.int .i64 0))),0,none⟩,⟨(some 31),(.mv (.t 33)),0,none⟩] none) (.cond (.t 31) (.reg [⟨(some 34),(.mv (.t 3)),0,none⟩,⟨(some 35),(.bin .num .add (.t 34) (.c (.str [43]))),0,none⟩,⟨(some 3),(.mv (.t 35)),0,none⟩] none) .skip))))) (.seq (.seq (.reg [⟨(some 36),(.faddr 1 (.t 5)),0,none⟩,⟨(some 37),(.load false [(.int .i64)] (.t 36)),0,none⟩,⟨(some 38),(.bin .num .gtr (.t 37) (.c (.int .i64 1))),0,none⟩] none) (.cond (.t 38) (.reg [⟨(some 39),(.mv (.t 3)),0,none⟩,⟨(some 40),(.faddr 1 (.t 5)),0,none⟩,⟨(some 41),(.load false [(.int .i64)] (.t 40)),0,none⟩,⟨(some 42),(.call (.c (.fn 78)) [(.t 41)]),0,none⟩,⟨(some 43),(.bin .num .add (.t 39) (.t 42)),2,none⟩,⟨(some 3),(.mv (.t 43)),2,none⟩] none) .skip)) (.reg [⟨(some 44),(.mv (.t 3)),0,none⟩,⟨(some 45),(.faddr 0 (.t 5)),0,none⟩,⟨(some 46),(.load false [.str] (.t 45)),0,none⟩,⟨(some 47),(.bin .num .add (.t 44) (.t 46)),0,none⟩,⟨(some 3),(.mv (.t 47)),0,none⟩] none))))) (.reg [⟨(some 14),(.mv (.t 4)),0,none⟩,⟨(some 15),(.bin .num .add (.t 14) (.c (.int .i64 1))),0,none⟩,⟨(some 4),(.mv (.t 15)),0,none⟩] none)))))) (.seq (.seq (.reg [⟨(some 48),(.faddr 1 (.t 1)),0,none⟩,⟨(some 49),(.load false [(.sl 2)] (.t 48)),0,none⟩,⟨(some 50),(.len 1 (.t 49)),0,none⟩,⟨(some 51),(.bin .num .eql (.t 50) (.c (.int .i64 0))),0,none⟩] none) (.cond (.t 51) (.seq (.reg [⟨(some 52),(.faddr 0 (.t 1)),0,none⟩,⟨(some 53),(.load false [(.int .i64)] (.t 52)),0,none⟩,⟨(some 54),(.call (.c (.fn 78)) [(.t 53)]),0,none⟩,⟨(some 2),(.mv (.t 54)),2,none⟩] none) .ret) .skip)) (.seq (.seq (.reg [⟨(some 55),(.faddr 0 (.t 1)),0,none⟩,⟨(some 56),(.load false [(.int .i64)] (.t 55)),0,none⟩,⟨(some 57),(.bin .num .gtr (.t 56) (.c (.int .i64 0))),0,none⟩] none) (.cond (.t 57) (.reg [⟨(some 58),(.mv (.t 3)),0,none⟩,⟨(some 59),(.bin .num .add (.t 58) (.c (.str [43]))),0,none⟩,⟨(some 3),(.mv (.t 59)),0,none⟩] none) .skip)) (.seq (.seq (.reg [⟨(some 60),(.faddr 0 (.t 1)),0,none⟩,⟨(some 61),(.load false [(.int .i64)] (.t 60)),0,none⟩,⟨(some 62),(.bin .num .neq (.t 61) (.c (.int .i64 0))),0,none⟩] none) (.cond (.t 62) (.reg [⟨(some 63),(.mv (.t 3)),0,none⟩,⟨(some 64),(.faddr 0 (.t 1)),0,none⟩,⟨(some 65),(.load false [(.int .i64)] (.t 64)),0,none⟩,⟨(some 66),(.call (.c (.fn 78)) [(.t 65)]),0,none⟩,⟨(some 67),(.bin .num .add (.t 63) (.t 66)),2,none⟩,⟨(some 3),(.mv (.t 67)),2,none⟩] none) .skip)) (.seq (.reg [⟨(some 68),(.mv (.t 3)),0,none⟩,⟨(some 2),(.mv (.t 68)),0,none⟩] none) .ret))))))))
def Yl:List IRes:=[(.tmp 2)]
abbrev Le:Nat:=69
def YM:ZI:=WL [(20,.pure (preT (fun x:Lin×Unit=>Zy x.1)) (Zj (fun x:Lin×Unit=>Zh x.1))),(78,.pure (preT (fun x:Int×Unit=>decide (-1000000000<=x.1)&&decide (x.1<=1000000000))) (Zj (fun x:Int×Unit=>ZB x.1)))]
theorem Oz{G:PV->Prop}(l:Lin)(h:(Go.Pl.preT (fun(x:Lin×Unit)=>Zy x.1) [(.agg [(.int .i64 l.k),(.sl 2 false (List.map enc l.t))])])=true∧(∃ y0:Bool,AV.pv (Zj (fun(x:Lin×Unit)=>Zh x.1) [(.agg [(.int .i64 l.k),(.sl 2 false (List.map enc l.t))])])=AV.pv (enc y0)∧(if (!y0)=true then G ((.str []))else(At YM 0 (Ze Yl G) Ym 0 69 [(1,(.ptr 0 0)),(3,(.pv (.str []))),(4,(.pv (.int .i64 0)))] [(.obj (.box [(.pv (.int .i64 l.k)),(.pv (.sl 2 false (List.map enc l.t)))]))])))):Zi YM 0 (Ze Yl G) Ym [] (Xw 69 [enc l]):=Zi.tp (.req (.abs (Bool) (fun YY=>AV.pv (enc YY)) (.ask (.nil) (.nil)))) h (by kernel_rfl)
theorem CQ{G:PV->Prop}(l:Lin)(o:List UInt8)(i:Int)(h:if (decide (i<(↑(List.length (List.map enc l.t)):Int)))=true then(decide (0<=i)&&decide (Int.toNat i<List.length (List.map enc l.t))&&Enc.sz Coef==2)=true∧(∃ y0:Coef,AV.pv (PV.rptr (PV.cells (List.getD (List.map enc l.t) (Int.toNat i) default)))=AV.pv (PV.rptr (PV.cells ((enc) y0)))∧(if (decide (PV.asInt (List.getD (PV.cells (enc y0)) (0+1) default)<0))=true then(decide (List.length o+List.length [(45:UInt8)]<=1099511627776))=true∧(if (decide (IntKind.wrap IntKind.i64 (-PV.asInt (List.getD (PV.cells (enc y0)) (0+1) default))>1))=true then(Go.Pl.preT (fun(x:Int×Unit)=>decide ((-1000000000:Int)<=x.1)&&decide (x.1<=1000000000)) [(.int .i64 (IntKind.wrap IntKind.i64 (-PV.asInt (List.getD (PV.cells (enc y0)) (0+1) default))))])=true∧(∃ y1:Str,AV.pv (Zj (fun(x:Int×Unit)=>ZB x.1) [(.int .i64 (IntKind.wrap IntKind.i64 (-PV.asInt (List.getD (PV.cells (enc y0)) (0+1) default))))])=AV.pv (enc y1)∧((decide (List.length (o++[(45:UInt8)])+List.length (Str.s y1)<=1099511627776))=true∧((decide (List.length (o++[(45:UInt8)]++Str.s y1)+List.length (PV.asStr (List.getD (PV.cells (enc y0)) 0 default))<=1099511627776))=true∧(At YM 0 (Ze Yl G) Ym 0 69 [(1,(.ptr 0 0)),(3,(.pv (.str (o++[(45:UInt8)]++Str.s y1++PV.asStr (List.getD (PV.cells (enc y0)) 0 default))))),(4,(.pv (.int .i64 (IntKind.wrap IntKind.i64 (i+1)))))] [(.obj (.box [(.pv (.int .i64 l.k)),(.pv (.sl 2 false (List.map enc l.t)))]))]))))else((decide (List.length (o++[(45:UInt8)])+List.length (PV.asStr (List.getD (PV.cells (enc y0)) 0 default))<=1099511627776))=true∧(At YM 0 (Ze Yl G) Ym 0 69 [(1,(.ptr 0 0)),(3,(.pv (.str (o++[(45:UInt8)]++PV.asStr (List.getD (PV.cells (enc y0)) 0 default))))),(4,(.pv (.int .i64 (IntKind.wrap IntKind.i64 (i+1)))))] [(.obj (.box [(.pv (.int .i64 l.k)),(.pv (.sl 2 false (List.map enc l.t)))]))])))else(if (decide (i>0))=true then(decide (List.length o+List.length [(43:UInt8)]<=1099511627776))=true∧(if (decide (PV.asInt (List.getD (PV.cells (enc y0)) (0+1) default)>1))=true then(Go.Pl.preT (fun(x:Int×Unit)=>decide ((-1000000000:Int)<=x.1)&&decide (x.1<=1000000000)) [(.int .i64 (PV.asInt (List.getD (PV.cells (enc y0)) (0+1) default)))])=true∧(∃ y2:Str,AV.pv (Zj (fun(x:Int×Unit)=>ZB x.1) [(.int .i64 (PV.asInt (List.getD (PV.cells (enc y0)) (0+1) default)))])=AV.pv (enc y2)∧((decide (List.length (o++[(43:UInt8)])+List.length (Str.s y2)<=1099511627776))=true∧((decide (List.length (o++[(43:UInt8)]++Str.s y2)+List.length (PV.asStr (List.getD (PV.cells (enc y0)) 0 default))<=1099511627776))=true∧(At YM 0 (Ze Yl G) Ym 0 69 [(1,(.ptr 0 0)),(3,(.pv (.str (o++[(43:UInt8)]++Str.s y2++PV.asStr (List.getD (PV.cells (enc y0)) 0 default))))),(4,(.pv (.int .i64 (IntKind.wrap IntKind.i64 (i+1)))))] [(.obj (.box [(.pv (.int .i64 l.k)),(.pv (.sl 2 false (List.map enc l.t)))]))]))))else((decide (List.length (o++[(43:UInt8)])+List.length (PV.asStr (List.getD (PV.cells (enc y0)) 0 default))<=1099511627776))=true∧(At YM 0 (Ze Yl G) Ym 0 69 [(1,(.ptr 0 0)),(3,(.pv (.str (o++[(43:UInt8)]++PV.asStr (List.getD (PV.cells (enc y0)) 0 default))))),(4,(.pv (.int .i64 (IntKind.wrap IntKind.i64 (i+1)))))] [(.obj (.box [(.pv (.int .i64 l.k)),(.pv (.sl 2 false (List.map enc l.t)))]))])))else(if (decide (PV.asInt (List.getD (PV.cells (enc y0)) (0+1) default)>1))=true then(Go.Pl.preT (fun(x:Int×Unit)=>decide ((-1000000000:Int)<=x.1)&&decide (x.1<=1000000000)) [(.int .i64 (PV.asInt (List.getD (PV.cells (enc y0)) (0+1) default)))])=true∧(∃ y3:Str,AV.pv (Zj (fun(x:Int×Unit)=>ZB x.1) [(.int .i64 (PV.asInt (List.getD (PV.cells (enc y0)) (0+1) default)))])=AV.pv (enc y3)∧((decide (List.length o+List.length (Str.s y3)<=1099511627776))=true∧((decide (List.length (o++Str.s y3)+List.length (PV.asStr (List.getD (PV.cells (enc y0)) 0 default))<=1099511627776))=true∧(At YM 0 (Ze Yl G) Ym 0 69 [(1,(.ptr 0 0)),(3,(.pv (.str (o++Str.s y3++PV.asStr (List.getD (PV.cells (enc y0)) 0 default))))),(4,(.pv (.int .i64 (IntKind.wrap IntKind.i64 (i+1)))))] [(.obj (.box [(.pv (.int .i64 l.k)),(.pv (.sl 2 false (List.map enc l.t)))]))]))))else((decide (List.length o+List.length (PV.asStr (List.getD (PV.cells (enc y0)) 0 default))<=1099511627776))=true∧(At YM 0 (Ze Yl G) Ym 0 69 [(1,(.ptr 0 0)),(3,(.pv (.str (o++PV.asStr (List.getD (PV.cells (enc y0)) 0 default))))),(4,(.pv (.int .i64 (IntKind.wrap IntKind.i64 (i+1)))))] [(.obj (.box [(.pv (.int .i64 l.k)),(.pv (.sl 2 false (List.map enc l.t)))]))]))))))else(if ((↑(List.length (List.map enc l.t)):Int)==0)=true then(Go.Pl.preT (fun(x:Int×Unit)=>decide ((-1000000000:Int)<=x.1)&&decide (x.1<=1000000000)) [(.int .i64 l.k)])=true∧(∃ y4:Str,AV.pv (Zj (fun(x:Int×Unit)=>ZB x.1) [(.int .i64 l.k)])=AV.pv (enc y4)∧(G ((.str (Str.s y4)))))else(if (decide (l.k>0))=true then(decide (List.length o+List.length [(43:UInt8)]<=1099511627776))=true∧(if (l.k != 0)=true then(Go.Pl.preT (fun(x:Int×Unit)=>decide ((-1000000000:Int)<=x.1)&&decide (x.1<=1000000000)) [(.int .i64 l.k)])=true∧(∃ y5:Str,AV.pv (Zj (fun(x:Int×Unit)=>ZB x.1) [(.int .i64 l.k)])=AV.pv (enc y5)∧((decide (List.length (o++[(43:UInt8)])+List.length (Str.s y5)<=1099511627776))=true∧(G ((.str (o++[(43:UInt8)]++Str.s y5))))))else(G ((.str (o++[(43:UInt8)])))))else(if (l.k != 0)=true then(Go.Pl.preT (fun(x:Int×Unit)=>decide ((-1000000000:Int)<=x.1)&&decide (x.1<=1000000000)) [(.int .i64 l.k)])=true∧(∃ y6:Str,AV.pv (Zj (fun(x:Int×Unit)=>ZB x.1) [(.int .i64 l.k)])=AV.pv (enc y6)∧((decide (List.length o+List.length (Str.s y6)<=1099511627776))=true∧(G ((.str (o++Str.s y6))))))else(G ((.str o))))))):At YM 0 (Ze Yl G) Ym 0 69 [(1,.ptr 0 0),(3,.pv (.str o)),(4,.pv (.int .i64 i))] [.obj (.box [.pv (.int .i64 l.k),.pv (enc l.t)])]:=At.tp (.lit (.ask (.req (.abs (Coef) (fun YY=>AV.pv (PV.rptr (PV.cells ((enc) YY)))) (.lit (.lit (.ask (.req (.lit (.ask (.req (.abs (Str) (fun YY=>AV.pv (enc YY)) (.req (.req (.lit (.nil)))))) (.req (.lit (.nil)))))) (.lit (.ask (.req (.lit (.ask (.req (.abs (Str) (fun YY=>AV.pv (enc YY)) (.req (.req (.lit (.nil)))))) (.req (.lit (.nil)))))) (.lit (.ask (.req (.abs (Str) (fun YY=>AV.pv (enc YY)) (.req (.req (.lit (.nil)))))) (.req (.lit (.nil)))))))))))) (.lit (.ask (.req (.abs (Str) (fun YY=>AV.pv (enc YY)) (.nil))) (.lit (.ask (.req (.lit (.ask (.req (.abs (Str) (fun YY=>AV.pv (enc YY)) (.req (.nil)))) (.nil)))) (.lit (.ask (.req (.abs (Str) (fun YY=>AV.pv (enc YY)) (.req (.nil)))) (.nil))))))))) h (by kernel_rfl)
def Ki:IC:=(.seq (.reg [⟨(some 2),(.box 2 (.t 0)),0,none⟩,⟨(some 4),(.mv (.c (.bool false))),1,none⟩] none) (.seq (.seq (.reg [⟨(some 14),(.call (.c (.fn 15)) []),0,none⟩,⟨(some 15),(.un .not (.t 14)),2,none⟩] none) (.cond (.t 15) (.seq (.reg [⟨(some 4),(.mv (.c (.bool false))),0,none⟩] none) .ret) .skip)) (.seq (.seq (.reg [⟨(some 16),(.load true [(.int .i64),(.sl 2)] (.t 2)),0,none⟩,⟨(some 17),(.call (.c (.fn 16)) [(.t 16),(.c (.int .i64 14))]),0,none⟩,⟨(some 18),(.un .not (.t 17)),2,none⟩,⟨(some 19),(.mv (.t 18)),2,none⟩,⟨(some 20),(.mv (.t 1)),2,(some (19,false))⟩,⟨(some 21),(.len 0 (.t 20)),2,(some (19,false))⟩,⟨(some 22),(.bin .num .gtr (.t 21) (.c (.int .i64 100))),2,(some (19,false))⟩,⟨(some 23),(.pick (.t 19) (.c (.bool true)) (.t 22)),2,none⟩] none) (.cond (.t 23) (.seq (.reg [⟨(some 4),(.mv (.c (.bool true))),0,none⟩] none) .ret) .skip)) (.seq (.reg [⟨(some 24),(.load true [(.int .i64),(.sl 2)] (.t 2)),0,none⟩,⟨(some 25),(.call (.c (.fn 17)) [(.t 24)]),0,none⟩,⟨(some 5),(.mv (.t 25)),2,none⟩] none) (.seq (.seq (.reg [⟨(some 26),(.mv (.t 5)),0,none⟩,⟨(some 27),(.load true [(.int .i64),(.sl 2)] (.t 2)),0,none⟩,⟨(some 28),(.call (.c (.fn 18)) [(.t 27)]),0,none⟩,⟨(some 29),(.bin .num .neq (.t 26) (.t 28)),2,none⟩] none) (.cond (.t 29) (.seq (.reg [⟨(some 4),(.mv (.c (.bool false))),0,none⟩] none) .ret) .skip)) (.seq (.seq (.reg [⟨(some 31),(.mv (.t 5)),0,none⟩,⟨(some 32),(.call (.c (.fn 19)) [(.t 31)]),0,none⟩,⟨(some 30),(.mv (.t 32)),2,none⟩,⟨(some 33),(.extract (.t 30) 0),2,none⟩,⟨(some 34),(.extract (.t 30) 1),2,none⟩,⟨(some 6),(.alloc (.agg [(.int .i64 0),(.sl 0 true [])])),2,none⟩,⟨none,(.store 2 (.t 6) (.t 33)),3,none⟩,⟨(some 7),(.mv (.t 34)),3,none⟩] none) (.seq (.reg [⟨(some 35),(.load true [(.int .i64),(.sl 2)] (.t 2)),0,none⟩,⟨(some 36),(.call (.c (.fn 20)) [(.t 35)]),0,none⟩,⟨(some 37),(.mv (.t 36)),2,none⟩,⟨(some 38),(.mv (.t 7)),2,(some (37,true))⟩,⟨(some 39),(.bin .num .neq (.t 38) (.c (.int .i64 0))),2,(some (37,true))⟩,⟨(some 40),(.mv (.t 39)),2,(some (37,true))⟩,⟨(some 41),(.load true [(.int .i64),(.sl 2)] (.t 6)),2,(some (40,false))⟩,⟨(some 42),(.load true [(.int .i64),(.sl 2)] (.t 2)),2,(some (40,false))⟩,⟨(some 43),(.call (.c (.fn 21)) [(.t 41),(.t 42)]),2,(some (40,false))⟩,⟨(some 44),(.un .not (.t 43)),4,(some (40,false))⟩,⟨(some 45),(.pick (.t 40) (.c (.bool true)) (.t 44)),4,(some (37,true))⟩,⟨(some 46),(.pick (.t 37) (.t 45) (.c (.bool false))),4,none⟩] none) (.cond (.t 46) (.seq (.reg [⟨(some 4),(.mv (.c (.bool false))),0,none⟩] none) .ret) .skip))) (.seq (.reg [⟨(some 48),(.mv (.t 1)),0,none⟩,⟨(some 49),(.call (.c (.fn 19)) [(.t 48)]),0,none⟩,⟨(some 47),(.mv (.t 49)),2,none⟩,⟨(some 50),(.extract (.t 47) 0),2,none⟩,⟨(some 51),(.extract (.t 47) 1),2,none⟩,⟨(some 8),(.alloc (.agg [(.int .i64 0),(.sl 0 true [])])),2,none⟩,⟨none,(.store 2 (.t 8) (.t 50)),3,none⟩,⟨(some 9),(.mv (.t 51)),3,none⟩] none) (.seq (.reg [⟨(some 53),(.mv (.t 1)),0,none⟩,⟨(some 54),(.call (.c (.fn 22)) [(.t 53)]),0,none⟩,⟨(some 52),(.mv (.t 54)),2,none⟩,⟨(some 55),(.extract (.t 52) 0),2,none⟩,⟨(some 56),(.extract (.t 52) 1),2,none⟩,⟨(some 10),(.alloc (.agg [(.int .i64 0),(.sl 0 true [])])),2,none⟩,⟨none,(.store 2 (.t 10) (.t 55)),3,none⟩,⟨(some 11),(.mv (.t 56)),3,none⟩] none) (.seq (.seq (.reg [⟨(some 57),(.load true [(.int .i64),(.sl 2)] (.t 8)),0,none⟩,⟨(some 58),(.load true [(.int .i64),(.sl 2)] (.t 10)),0,none⟩,⟨(some 59),(.call (.c (.fn 21)) [(.t 57),(.t 58)]),0,none⟩,⟨(some 60),(.un .not (.t 59)),2,none⟩,⟨(some 61),(.mv (.t 60)),2,none⟩,⟨(some 62),(.mv (.t 9)),2,(some (61,false))⟩,⟨(some 63),(.mv (.t 11)),2,(some (61,false))⟩,⟨(some 64),(.bin .num .neq (.t 62) (.t 63)),2,(some (61,false))⟩,⟨(some 65),(.pick (.t 61) (.c (.bool true)) (.t 64)),2,none⟩] none) (.cond (.t 65) (.seq (.reg [⟨(some 4),(.mv (.c (.bool false))),0,none⟩] none) .ret) .skip)) (.seq (.reg [⟨(some 67),(.load true [(.int .i64),(.sl 2)] (.t 8)),0,none⟩,⟨(some 68),(.call (.c (.fn 17)) [(.t 67)]),0,none⟩,⟨(some 69),(.call (.c (.fn 19)) [(.t 68)]),2,none⟩,⟨(some 66),(.mv (.t 69)),4,none⟩,⟨(some 70),(.extract (.t 66) 0),4,none⟩,⟨(some 71),(.extract (.t 66) 1),4,none⟩,⟨(some 12),(.alloc (.agg [(.int .i64 0),(.sl 0 true [])])),4,none⟩,⟨none,(.store 2 (.t 12) (.t 70)),5,none⟩,⟨(some 13),(.mv (.t 71)),5,none⟩] none) (.seq (.reg [⟨(some 72),(.mv (.t 9)),0,none⟩,⟨(some 73),(.bin .num .neq (.t 72) (.c (.int .i64 0))),0,none⟩,⟨(some 74),(.mv (.t 73)),0,none⟩,⟨(some 75),(.mv (.t 13)),0,(some (74,false))⟩,⟨(some 76),(.bin .num .eql (.t 75) (.c (.int .i64 0))),0,(some (74,false))⟩,⟨(some 77),(.mv (.t 76)),0,(some (74,false))⟩,⟨(some 78),(.load true [(.int .i64),(.sl 2)] (.t 12)),0,(some (77,true))⟩,⟨(some 79),(.load true [(.int .i64),(.sl 2)] (.t 8)),0,(some (77,true))⟩,⟨(some 80),(.call (.c (.fn 21)) [(.t 78),(.t 79)]),0,(some (77,true))⟩,⟨(some 81),(.pick (.t 77) (.t 80) (.c (.bool false))),2,(some (74,false))⟩,⟨(some 82),(.pick (.t 74) (.c (.bool true)) (.t 81)),2,none⟩,⟨(some 4),(.mv (.t 82)),2,none⟩] none) .ret)))))))))))
def KY:List IRes:=[(.tmp 4)]
abbrev Tw:Nat:=83
def Ho:ZI:=WL [(15,.pure (preT (fun _:Unit=>true)) (Zj (fun _:Unit=>true))),(16,.pure (preT (fun x:Lin×Int×Unit=>Zy x.1)) (Zj (fun x:Lin×Int×Unit=>Al x.1 x.2.1))),(17,.pure (preT (fun x:Lin×Unit=>Zt x.1)) (Zj (fun x:Lin×Unit=>(⟨Zw x.1⟩:Str)))),(18,.pure (preT (fun x:Lin×Unit=>Zt x.1)) (Zj (fun x:Lin×Unit=>(⟨Zw x.1⟩:Str)))),(19,.pure (preT (fun x:Str×Unit=>decide (x.1.s.length<=400000))) (Zj (fun x:Str×Unit=>Zm x.1.s))),(20,.pure (preT (fun x:Lin×Unit=>Zy x.1)) (Zj (fun x:Lin×Unit=>Zh x.1))),(21,.pure (preT (fun x:Lin×Lin×Unit=>Zy x.1)) (Zj (fun x:Lin×Lin×Unit=>UQ x.1 x.2.1==0))),(22,.pure (preT (fun x:Str×Unit=>decide (x.1.s.length<=400000))) (Zj (fun x:Str×Unit=>Zm x.1.s)))]
theorem a5o{G:PV->Prop}(l:Lin)(s:List UInt8)(h : ∃ y0:Bool,AV.pv (Zj (fun(x:Unit)=>true) [])=AV.pv (enc y0)∧(if (!y0)=true then G ((.bool false))else((Go.Pl.preT (fun(x:Lin×Int×Unit)=>Zy x.1) [(.agg [(.int .i64 l.k),(.sl 2 false (List.map enc l.t))]),(.int .i64 14)])=true∧(∃ y1:Bool,AV.pv (Zj (fun(x:Lin×Int×Unit)=>Al x.1 x.2.1) [(.agg [(.int .i64 l.k),(.sl 2 false (List.map enc l.t))]),(.int .i64 14)])=AV.pv (enc y1)∧(if (!y1)=true then G ((.bool true))else(if (decide ((↑(List.length s):Int)>100))=true then G ((.bool true))else((Go.Pl.preT (fun(x:Lin×Unit)=>Zt x.1) [(.agg [(.int .i64 l.k),(.sl 2 false (List.map enc l.t))])])=true∧(∃ y2:Str,AV.pv (Zj (fun(x:Lin×Unit)=>Str.mk (Zw x.1)) [(.agg [(.int .i64 l.k),(.sl 2 false (List.map enc l.t))])])=AV.pv (enc y2)∧((Go.Pl.preT (fun(x:Lin×Unit)=>Zt x.1) [(.agg [(.int .i64 l.k),(.sl 2 false (List.map enc l.t))])])=true∧(∃ y3:Str,AV.pv (Zj (fun(x:Lin×Unit)=>Str.mk (Zw x.1)) [(.agg [(.int .i64 l.k),(.sl 2 false (List.map enc l.t))])])=AV.pv (enc y3)∧(if (!Str.s y2==Str.s y3)=true then G ((.bool false))else((Go.Pl.preT (fun(x:Str×Unit)=>decide (List.length (Str.s x.1)<=400000)) [(.str (Str.s y2))])=true∧(∃ y4:Lin×Int,AV.pv (Zj (fun(x:Str×Unit)=>Zm (Str.s x.1)) [(.str (Str.s y2))])=AV.pv (enc y4)∧((Go.Pl.preT (fun(x:Lin×Unit)=>Zy x.1) [(.agg [(.int .i64 l.k),(.sl 2 false (List.map enc l.t))])])=true∧(∃ y5:Bool,AV.pv (Zj (fun(x:Lin×Unit)=>Zh x.1) [(.agg [(.int .i64 l.k),(.sl 2 false (List.map enc l.t))])])=AV.pv (enc y5)∧(if (y5)=true then if (y4.2 != 0)=true then G ((.bool false))else((Go.Pl.preT (fun(x:Lin×Lin×Unit)=>Zy x.1) [(.agg [(.int .i64 y4.1.k),(.sl 2 false (List.map enc y4.1.t))]),(.agg [(.int .i64 l.k),(.sl 2 false (List.map enc l.t))])])=true∧(∃ y6:Bool,AV.pv (Zj (fun(x:Lin×Lin×Unit)=>UQ x.1 x.2.1==0) [(.agg [(.int .i64 y4.1.k),(.sl 2 false (List.map enc y4.1.t))]),(.agg [(.int .i64 l.k),(.sl 2 false (List.map enc l.t))])])=AV.pv (enc y6)∧(if (!y6)=true then G ((.bool false))else((Go.Pl.preT (fun(x:Str×Unit)=>decide (List.length (Str.s x.1)<=400000)) [(.str s)])=true∧(∃ y7:Lin×Int,AV.pv (Zj (fun(x:Str×Unit)=>Zm (Str.s x.1)) [(.str s)])=AV.pv (enc y7)∧((Go.Pl.preT (fun(x:Str×Unit)=>decide (List.length (Str.s x.1)<=400000)) [(.str s)])=true∧(∃ y8:Lin×Int,AV.pv (Zj (fun(x:Str×Unit)=>Zm (Str.s x.1)) [(.str s)])=AV.pv (enc y8)∧((Go.Pl.preT (fun(x:Lin×Lin×Unit)=>Zy x.1) [(.agg [(.int .i64 y7.1.k),(.sl 2 false (List.map enc y7.1.t))]),(.agg [(.int .i64 y8.1.k),(.sl 2 false (List.map enc y8.1.t))])])=true∧(∃ y9:Bool,AV.pv (Zj (fun(x:Lin×Lin×Unit)=>UQ x.1 x.2.1==0) [(.agg [(.int .i64 y7.1.k),(.sl 2 false (List.map enc y7.1.t))]),(.agg [(.int .i64 y8.1.k),(.sl 2 false (List.map enc y8.1.t))])])=AV.pv (enc y9)∧(if (!y9)=true then G ((.bool false))else(if (y7.2 != y8.2)=true then G ((.bool false))else((Go.Pl.preT (fun(x:Lin×Unit)=>Zt x.1) [(.agg [(.int .i64 y7.1.k),(.sl 2 false (List.map enc y7.1.t))])])=true∧(∃ y10:Str,AV.pv (Zj (fun(x:Lin×Unit)=>Str.mk (Zw x.1)) [(.agg [(.int .i64 y7.1.k),(.sl 2 false (List.map enc y7.1.t))])])=AV.pv (enc y10)∧((Go.Pl.preT (fun(x:Str×Unit)=>decide (List.length (Str.s x.1)<=400000)) [(.str (Str.s y10))])=true∧(∃ y11:Lin×Int,AV.pv (Zj (fun(x:Str×Unit)=>Zm (Str.s x.1)) [(.str (Str.s y10))])=AV.pv (enc y11)∧(if (y7.2 != 0)=true then G ((.bool true))else(if (y11.2==0)=true then(Go.Pl.preT (fun(x:Lin×Lin×Unit)=>Zy x.1) [(.agg [(.int .i64 y11.1.k),(.sl 2 false (List.map enc y11.1.t))]),(.agg [(.int .i64 y7.1.k),(.sl 2 false (List.map enc y7.1.t))])])=true∧(∃ y12:Bool,AV.pv (Zj (fun(x:Lin×Lin×Unit)=>UQ x.1 x.2.1==0) [(.agg [(.int .i64 y11.1.k),(.sl 2 false (List.map enc y11.1.t))]),(.agg [(.int .i64 y7.1.k),(.sl 2 false (List.map enc y7.1.t))])])=AV.pv (enc y12)∧(G ((.bool y12))))else(G ((.bool false))))))))))))))))))))else((Go.Pl.preT (fun(x:Str×Unit)=>decide (List.length (Str.s x.1)<=400000)) [(.str s)])=true∧(∃ y13:Lin×Int,AV.pv (Zj (fun(x:Str×Unit)=>Zm (Str.s x.1)) [(.str s)])=AV.pv (enc y13)∧((Go.Pl.preT (fun(x:Str×Unit)=>decide (List.length (Str.s x.1)<=400000)) [(.str s)])=true∧(∃ y14:Lin×Int,AV.pv (Zj (fun(x:Str×Unit)=>Zm (Str.s x.1)) [(.str s)])=AV.pv (enc y14)∧((Go.Pl.preT (fun(x:Lin×Lin×Unit)=>Zy x.1) [(.agg [(.int .i64 y13.1.k),(.sl 2 false (List.map enc y13.1.t))]),(.agg [(.int .i64 y14.1.k),(.sl 2 false (List.map enc y14.1.t))])])=true∧(∃ y15:Bool,AV.pv (Zj (fun(x:Lin×Lin×Unit)=>UQ x.1 x.2.1==0) [(.agg [(.int .i64 y13.1.k),(.sl 2 false (List.map enc y13.1.t))]),(.agg [(.int .i64 y14.1.k),(.sl 2 false (List.map enc y14.1.t))])])=AV.pv (enc y15)∧(if (!y15)=true then G ((.bool false))else(if (y13.2 != y14.2)=true then G ((.bool false))else((Go.Pl.preT (fun(x:Lin×Unit)=>Zt x.1) [(.agg [(.int .i64 y13.1.k),(.sl 2 false (List.map enc y13.1.t))])])=true∧(∃ y16:Str,AV.pv (Zj (fun(x:Lin×Unit)=>Str.mk (Zw x.1)) [(.agg [(.int .i64 y13.1.k),(.sl 2 false (List.map enc y13.1.t))])])=AV.pv (enc y16)∧((Go.Pl.preT (fun(x:Str×Unit)=>decide (List.length (Str.s x.1)<=400000)) [(.str (Str.s y16))])=true∧(∃ y17:Lin×Int,AV.pv (Zj (fun(x:Str×Unit)=>Zm (Str.s x.1)) [(.str (Str.s y16))])=AV.pv (enc y17)∧(if (y13.2 != 0)=true then G ((.bool true))else(if (y17.2==0)=true then(Go.Pl.preT (fun(x:Lin×Lin×Unit)=>Zy x.1) [(.agg [(.int .i64 y17.1.k),(.sl 2 false (List.map enc y17.1.t))]),(.agg [(.int .i64 y13.1.k),(.sl 2 false (List.map enc y13.1.t))])])=true∧(∃ y18:Bool,AV.pv (Zj (fun(x:Lin×Lin×Unit)=>UQ x.1 x.2.1==0) [(.agg [(.int .i64 y17.1.k),(.sl 2 false (List.map enc y17.1.t))]),(.agg [(.int .i64 y13.1.k),(.sl 2 false (List.map enc y13.1.t))])])=AV.pv (enc y18)∧(G ((.bool y18))))else(G ((.bool false))))))))))))))))))))))))))))))))):Zi Ho 0 (Ze KY G) Ki [] (Xw 83 [enc l,.str s]):=Zi.tp (.lit (.abs (Bool) (fun YY=>AV.pv (enc YY)) (.ask (.nil) (.req (.abs (Bool) (fun YY=>AV.pv (enc YY)) (.ask (.lit (.lit (.lit (.lit (.nil))))) (.lit (.lit (.lit (.lit (.ask (.nil) (.req (.abs (Str) (fun YY=>AV.pv (enc YY)) (.req (.abs (Str) (fun YY=>AV.pv (enc YY)) (.lit (.ask (.nil) (.req (.abs (Lin×Int) (fun YY=>AV.pv (enc YY)) (.req (.abs (Bool) (fun YY=>AV.pv (enc YY)) (.ask (.lit (.lit (.lit (.ask (.lit (.lit (.lit (.lit (.lit (.lit (.lit (.nil)))))))) (.lit (.lit (.req (.abs (Bool) (fun YY=>AV.pv (enc YY)) (.lit (.lit (.lit (.lit (.ask (.nil) (.req (.abs (Lin×Int) (fun YY=>AV.pv (enc YY)) (.req (.abs (Lin×Int) (fun YY=>AV.pv (enc YY)) (.req (.abs (Bool) (fun YY=>AV.pv (enc YY)) (.ask (.lit (.lit (.lit (.lit (.nil))))) (.lit (.lit (.lit (.lit (.ask (.nil) (.req (.abs (Str) (fun YY=>AV.pv (enc YY)) (.req (.abs (Lin×Int) (fun YY=>AV.pv (enc YY)) (.lit (.ask (.lit (.lit (.lit (.lit (.nil))))) (.lit (.lit (.lit (.ask (.lit (.lit (.req (.abs (Bool) (fun YY=>AV.pv (enc YY)) (.lit (.lit (.lit (.nil)))))))) (.lit (.lit (.lit (.lit (.lit (.nil))))))))))))))))))))))))))))))))))))))))) (.lit (.lit (.lit (.lit (.lit (.req (.abs (Lin×Int) (fun YY=>AV.pv (enc YY)) (.req (.abs (Lin×Int) (fun YY=>AV.pv (enc YY)) (.req (.abs (Bool) (fun YY=>AV.pv (enc YY)) (.ask (.lit (.lit (.lit (.lit (.nil))))) (.lit (.lit (.lit (.lit (.ask (.nil) (.req (.abs (Str) (fun YY=>AV.pv (enc YY)) (.req (.abs (Lin×Int) (fun YY=>AV.pv (enc YY)) (.lit (.ask (.lit (.lit (.lit (.lit (.nil))))) (.lit (.lit (.lit (.ask (.lit (.lit (.req (.abs (Bool) (fun YY=>AV.pv (enc YY)) (.lit (.lit (.lit (.nil)))))))) (.lit (.lit (.lit (.lit (.lit (.nil))))))))))))))))))))))))))))))))))))))))))))))))))))))) h (by kernel_rfl)
end Go.Pl

namespace Go.Pl
open Go.RowKit
open Enc (enc dec is)
open EncL (encL decL isL)
theorem VP(s:List UInt8)(i:Nat):atR s (i:Int)=s.drop i:=rfl
theorem Vn{s:List UInt8}{i:Nat}(h:i<=s.length):Bn s (s.drop i)=(i:Int):=by unfold Bn;rw[List.length_drop];omega
theorem XR{s:List UInt8}{n:Int}:Da s n=true ↔ ∃ i:Nat,n=i∧i<=s.length∧s.length<=1000000:=by
 unfold Da
 simp only[Bool.and_eq_true,decide_eq_true_eq]
 constructor
 ·rintro⟨⟨h1,h2⟩,h3⟩;exact⟨n.toNat,by omega,by omega,h3⟩
 ·rintro⟨i,rfl,h1,h2⟩;exact⟨⟨by omega,by omega⟩,h2⟩
theorem Qy{s:List UInt8}{i:Nat}(h:i<s.length):List.getD s (Int.toNat (i:Int)) (0:UInt8)=s[i]:=by simp[List.getD,h]
theorem Ve{s:List UInt8}{i:Nat}(h:i<s.length):(decide (0<=(i:Int))&&decide (Int.toNat (i:Int)<List.length s))=true:=by simp[h]
theorem WH{s:List UInt8}{i:Nat}(h:i<s.length):s.drop i=s[i]::s.drop (i+1):=List.drop_eq_getElem_cons h
theorem N9{s:List UInt8}{i:Nat}(h:i<=s.length)(hs : ∀ hl:i<s.length,s[i]≠32):bB s i=i:=by
 unfold bB
 rw[VP]
 by_cases hl:i<s.length
 ·rw[WH hl]
  unfold Za
  rw[List.dropWhile_cons,if_neg (by simpa using hs hl),<- WH hl,Vn h]
 ·rw[List.drop_of_length_le (by omega)]
  show Bn s []=_
  unfold Bn;simp;omega
theorem a4a{s:List UInt8}{i:Nat}(hl:i<s.length)(hs:s[i]=32):bB s i=bB s ((i+1:Nat):Int):=by
 unfold bB
 rw[VP,VP,WH hl]
 unfold Za
 rw[List.dropWhile_cons,if_pos (by simp[hs])]
theorem BS(s:List UInt8)(hs:s.length<=1000000): ∀ (k i:Nat),k+i=s.length ->
  At Wy 1 (Zd 1 XQ fun r=>r=(.tup [],sV s (bB s i),[])) XO 0 31 [(0,.ptr 0 0)] [.obj (.box [.pv (.str s),.pv (.int .i64 i)])]:=by
 intro k
 induction k with
 | zero=>
  intro i hi
  refine Gt s i (XG (X9 (by omega)) ?_)
  rw[N9 (by omega) (fun h=>by omega)]
  rfl
 | succ k ih=>
  intro i hi
  have hl:i<s.length:=by omega
  refine Gt s i (YD (Wq hl) ⟨Ve hl,?_⟩)
  rw[Qy hl]
  refine Wu (fun h=> ?_) fun h=> ?_
  ·have h:s[i]=32:=UInt8.toNat_inj.1 (by have:(s[i].toNat:Int)=32:=h;show s[i].toNat=32;omega)
   have:=ih (i+1) (by omega)
   rw[a4a hl h,next (by omega)]
   exact this
  ·rw[N9 (by omega) (fun _ e=>h (by rw[e];rfl))]
   rfl
theorem AZ: ∀ args os,Ya args os=true->Zi Wy os.length (Zd os.length XQ fun r=>r=VN args os) XO [] (Yk Ry args os):=by
 intro args os h
 unfold Ya at h
 split at h
 ·rename_i s n
  obtain⟨i,rfl,h1,h2⟩:=XR.1 h
  exact ME s i (BS s h2 (s.length - i) i (by omega))
 ·cases h
theorem Ah{s:List UInt8}{c:Int}{i:Nat}(h : ¬ i<s.length):J7 c s i=false:=by
 unfold J7;rw[VP,List.drop_of_length_le (by omega)]
theorem Gh{s:List UInt8}{c:Int}{i:Nat}(h:i<s.length):J7 c s i=decide ((s[i].toNat:Int)=c):=by
 unfold J7;rw[VP,WH h]
theorem a3g: ∀ args os,Yy args os=true->Zi a0n os.length (Zd os.length Ru fun r=>r=Hg args os) Pj [] (Yk a8e args os):=by
 intro args os h
 unfold Yy at h
 split at h
 ·rename_i c s n
  obtain⟨i,rfl,h1,h2⟩:=XR.1 h
  refine a9s c s i ?_
  by_cases hl:i<s.length
  ·refine YD (Wq hl) ⟨Ve hl,?_⟩
   rw[Qy hl]
   have e:=Gh (c:=c) hl
   refine Wu (fun h=> ?_) fun h=> ?_
   ·rw[decide_eq_true h]at e
    show(AV.pv (.bool true),[_],[])=(AV.pv (.bool (J7 c s i)),sV s (Y3 c s i),[])
    rw[next (by omega),Y3,e,if_pos rfl];rfl
   ·rw[decide_eq_false h]at e
    show(AV.pv (.bool false),[_],[])=(AV.pv (.bool (J7 c s i)),sV s (Y3 c s i),[])
    rw[Y3,e,if_neg (by simp)];rfl
  ·refine XG (X9 hl) ?_
   have e:=Ah (c:=c) hl
   show(AV.pv (.bool false),[_],[])=(AV.pv (.bool (J7 c s i)),sV s (Y3 c s i),[])
   rw[Y3,e,if_neg (by simp)];rfl
 ·cases h
def NZ(b:Bool)(first:Bool)(r:List UInt8):Nat:=match b,first with
 | false,_=>(r.takeWhile digB).length
 | true,true=>(Kb true r).length
 | true,false=>(r.takeWhile AA).length
def ruC(b first:Bool)(c:UInt8):Bool:=digB c||b&&(lowB c||c==95&&first)
theorem Nj(b f:Bool):NZ b f []=0:=by cases b <;> cases f <;> rfl
theorem GQ(b f:Bool)(c:UInt8)(r:List UInt8):NZ b f (c::r)=if ruC b f c=true then NZ b false r+1 else 0:=by
 unfold ruC NZ
 cases b
 ·simp only[Bool.false_and,Bool.or_false,List.takeWhile_cons]
  split <;> simp
 ·cases f
  ·simp only[Bool.true_and,Bool.and_false,Bool.or_false,List.takeWhile_cons]
   show(if AA c=true then _ else _:List UInt8).length=_
   unfold AA
   split <;> simp
  ·simp only[Bool.true_and,Bool.and_true,Kb]
   split <;> simp
theorem a6p(b f:Bool)(r:List UInt8):NZ b f r<=r.length:=by
 induction r generalizing f with
 | nil=>rw[Nj];exact Nat.zero_le _
 | cons c r ih=>rw[GQ];split;have:=ih false;simp;omega;omega
theorem CW(b:Bool)(r:List UInt8):NZ b true r=(Kb b r).length:=by cases b <;> rfl
theorem FU(b:Bool)(r:List UInt8):r.take (Kb b r).length=Kb b r:=by
 have tk : ∀ (p:UInt8->Bool) (l:List UInt8),l.take (l.takeWhile p).length=l.takeWhile p:=by
  intro p l
  induction l with
  | nil=>rfl
  | cons c l ih=>rw[List.takeWhile_cons];split <;> simp[ih]
 cases b
 ·exact tk _ _
 ·cases r with
  | nil=>rfl
  | cons c r=>
   simp only[Kb]
   split
   ·simp[tk]
   ·rfl
theorem L8(b:Bool)(s:List UInt8)(hs:s.length<=1000000)(m:Nat): ∀ (k i:Nat),k+i=s.length->m<=i ->
  At VV 1 (Zd 1 WK fun r=>r=(.pv (.str ((s.drop m).take (i+NZ b (decide (i=m)) (s.drop i) - m))),sV s ((i+NZ b (decide (i=m)) (s.drop i):Nat):Int),[])) WF 0 84 [(0,.ptr 0 0),(1,.pv (.bool b)),(5,.pv (.int .i64 m))] [.obj (.box [.pv (.str s),.pv (.int .i64 i)])]:=by
 intro k
 induction k with
 | zero=>
  intro i hi hm
  obtain rfl:i=s.length:=by omega
  refine NF b s s.length m (XG (X9 (by omega)) ⟨by simp;omega,?_⟩)
  rw[List.drop_length,Nj,Int.toNat_natCast,Int.toNat_natCast,List.take_length,Nat.add_zero,List.take_of_length_le (by simp)]
  rfl
 | succ k ih=>
  intro i hi hm
  have hl:i<s.length:=by omega
  have h1:=ih (i+1) (by omega) (by omega)
  rw[decide_eq_false (by omega : ¬ i+1=m)]at h1
  have hcut:(decide (0<=(m:Int))&&decide (0<=(i:Int))&&decide (Int.toNat (m:Int)<=Int.toNat (i:Int))&&decide (Int.toNat (i:Int)<=List.length s))=true:=by simp;omega
  have go:ruC b (decide (i=m)) s[i]=true->At VV 1 (Zd 1 WK fun r=>r=(.pv (.str ((s.drop m).take (i+NZ b (decide (i=m)) (s.drop i) - m))),sV s ((i+NZ b (decide (i=m)) (s.drop i):Nat):Int),[])) WF 0 84 [(0,.ptr 0 0),(1,.pv (.bool b)),(5,.pv (.int .i64 m))] [.obj (.box [.pv (.str s),.pv (.int .i64 (IntKind.i64.wrap ((i:Int)+1)))])]:=by
   intro hb
   rw[next (by omega),WH hl,GQ,if_pos hb,show i+(NZ b false (s.drop (i+1))+1)=i+1+NZ b false (s.drop (i+1)) by omega]
   exact h1
  have stop:ruC b (decide (i=m)) s[i]=false->((.pv (.str ((s.take (Int.toNat (i:Int))).drop (Int.toNat (m:Int)))),[.box [.pv (.str s),.pv (.int .i64 i)]],[]):AV×List AObj×List AObj)=(.pv (.str ((s.drop m).take (i+NZ b (decide (i=m)) (s.drop i) - m))),sV s ((i+NZ b (decide (i=m)) (s.drop i):Nat):Int),[]):=by
   intro hb
   rw[WH hl,GQ,if_neg (by simp[hb]),Nat.add_zero,Int.toNat_natCast,Int.toNat_natCast,List.drop_take]
   rfl
  refine NF b s i m (YD (Wq hl) ⟨Ve hl,?_⟩)
  simp only[Qy hl]
  refine⟨Zn (s[i],()) rfl rfl,Zl (s[i],()) rfl ?_⟩
  refine Vi (fun hd=>go ?_) fun hd=>Vi (fun hb=>⟨Ve hl,Zn (s[i],()) rfl rfl,Zl (s[i],()) rfl (Vi (fun hw=>go ?_) fun hw=>⟨Ve hl,?_⟩)⟩) fun hb=>⟨hcut,stop ?_⟩
  ·have hd:digB s[i]=true:=hd
   simp[ruC,hd]
  ·have hw:lowB s[i]=true:=hw
   simp[ruC,hb,hw]
  ·have hd:digB s[i]=false:=hd
   have hw:lowB s[i]=false:=hw
   refine Wu (fun h9=>Wu (fun hm2=>go ?_) fun hm2=>⟨hcut,stop ?_⟩) fun h9=>⟨hcut,stop ?_⟩
   ·have e95:s[i]=95:=UInt8.toNat_inj.1 (by have:(s[i].toNat:Int)=95:=h9;show s[i].toNat=95;omega)
    have em:i=m:=by omega
    unfold ruC
    rw[hb,e95,decide_eq_true em]
    decide
   ·have : ¬ i=m:=by omega
    simp[ruC,hd,hw,this]
   ·have : ¬ s[i]=95:=fun e=>h9 (by rw[e];rfl)
    simp[ruC,hd,hw,this]
  ·have hd:digB s[i]=false:=hd
   simp[ruC,hd,hb]
theorem Ej: ∀ args os,YF args os=true->Zi VV os.length (Zd os.length WK fun r=>r=Km args os) WF [] (Yk a5b args os):=by
 intro args os h
 unfold YF at h
 split at h
 ·rename_i b s n
  obtain⟨i,rfl,h1,h2⟩:=XR.1 h
  have ev:Km [.ptr 0 0,.pv (.bool b)] [.box [.pv (.str s),.pv (.int .i64 i)]]=(.pv (.str (Kb b (s.drop i))),sV s ((i+(Kb b (s.drop i)).length:Nat):Int),[]):=by
   show(AV.pv (.str (Kb b (s.drop i))),sV s ((i:Int)+((Kb b (s.drop i)).length:Nat)),[])=_
   rw[<- Int.natCast_add]
  rw[ev]
  refine a7z b s i ?_
  have:=L8 b s h2 i (s.length - i) i (by omega) (Nat.le_refl _)
  rw[decide_eq_true rfl,CW,Nat.add_sub_cancel_left,FU]at this
  exact this
 ·cases h
end Go.Pl

namespace Go.Pl
open Go.RowKit
open Enc (enc dec is)
open EncL (encL decL isL)
theorem WX(p:UInt8->Bool)(l:List UInt8):l.drop (l.takeWhile p).length=l.dropWhile p:=by
 induction l with
 | nil=>rfl
 | cons c l ih=>rw[List.takeWhile_cons,List.dropWhile_cons];split <;> simp[ih]
theorem Uc(s:List UInt8){j:Nat}(hj:j<=s.length): ∃ p:Nat,bB s j=p∧j<=p∧p<=s.length∧s.drop p=Za (s.drop j):=by
 have hs : ∃ p:Nat,j<=p∧p<=s.length∧s.drop p=Za (s.drop j):=by
  have hd:(s.drop j).takeWhile (fun c=>c==32)++Za (s.drop j)=s.drop j:=List.takeWhile_append_dropWhile
  have hl:=congrArg List.length hd
  rw[List.length_append,List.length_drop]at hl
  refine⟨j+((s.drop j).takeWhile (fun c=>c==32)).length,by omega,by omega,?_⟩
  rw[<- List.drop_drop]
  exact WX _ _
 obtain⟨p,h1,h2,h3⟩:=hs
 refine⟨p,?_,h1,h2,h3⟩
 unfold bB
 rw[VP,<- h3,Vn h2]
theorem EY(b:Bool)(r:List UInt8):(Kb b r).length<=r.length:=by rw[<- CW];exact a6p _ _ _
def Dn(s:List UInt8)(z:(Int×List UInt8×Bool)×List UInt8):AV×List AObj×List AObj:=(.tup [.pv (.int .i64 z.1.1),.pv (.str z.1.2.1),.pv (.bool z.1.2.2)],sV s (Bn s z.2),[])
theorem a3e(s:List UInt8)(i:Nat):Qr [.ptr 0 0] [.box [.pv (.str s),.pv (.int .i64 i)]]=Dn s (Z4 (s.drop i)):=rfl
theorem a3f{s:List UInt8}{j:Nat}{k:Int}(hj:j<=s.length):((.tup [.pv (.int .i64 k),.pv (.str (Q9 true s j)),.pv (.bool (Zq ⟨Q9 true s j⟩))],[.box [.pv (.str s),.pv (.int .i64 (C9 true s j))]],[]):AV×List AObj×List AObj)=Dn s (UN k (s.drop j)):=by
 have e:Bn s ((s.drop j).drop (Kb true (s.drop j)).length)=C9 true s j:=by
  have:=EY true (s.drop j)
  rw[List.length_drop]at this
  rw[List.drop_drop,Vn (by omega)]
  unfold C9
  rw[VP]
  omega
 unfold Dn UN
 rw[e]
 rfl
theorem NU{s:List UInt8}{b:Bool}{j:Nat}(hj:j<=s.length)(hs:s.length<=1000000):YF [.ptr 0 0,.pv (.bool b)] [.box [.pv (.str s),.pv (.int .i64 j)]]=true:=XR.2 ⟨j,rfl,hj,hs⟩
theorem Ko{s:List UInt8}{c:Int}{j:Nat}(hj:j<=s.length)(hs:s.length<=1000000):Yy [.ptr 0 0,.pv (.int .u8 c)] [.box [.pv (.str s),.pv (.int .i64 j)]]=true:=XR.2 ⟨j,rfl,hj,hs⟩
theorem UT{s:List UInt8}{j:Nat}(hj:j<=s.length)(hs:s.length<=1000000):Ya [.ptr 0 0] [.box [.pv (.str s),.pv (.int .i64 j)]]=true:=XR.2 ⟨j,rfl,hj,hs⟩
theorem Cm{s:List UInt8}{j:Nat}(h:j<s.length):(s.drop j).headD 0=s[j]:=by rw[WH h];rfl
theorem Mr{d:List UInt8}{i:Nat}(hl:i<d.length)(hd : ∀ c∈d,digB c=true)(h7:d.length<=7)(hn:0<=Xi (d.take i)∧Xi (d.take i)<10 ^ i):
  IntKind.i64.wrap (IntKind.i64.wrap (10*Xi (d.take i))+IntKind.i64.wrap (IntKind.u8.wrap ((d[i].toNat:Int) - 48)))=Xi (d.take (i+1))∧0<=Xi (d.take (i+1))∧Xi (d.take (i+1))<10 ^ (i+1):=by
 have hc:=YO.1 (hd _ (List.getElem_mem hl))
 have e:Xi (d.take (i+1))=10*Xi (d.take i)+((d[i].toNat:Int) - 48):=by
  unfold Xi
  rw[List.take_succ_eq_append_getElem hl,List.foldl_append]
  rfl
 have hp:(10:Int) ^ i<=10 ^ 6:=by
  have:(10:Nat) ^ i<=10 ^ 6:=Nat.pow_le_pow_right (by decide) (by omega)
  exact_mod_cast this
 have e2:(10:Int) ^ (i+1)=10 ^ i*10:=Int.pow_succ ..
 have hu:IntKind.u8.wrap ((d[i].toNat:Int) - 48)=(d[i].toNat:Int) - 48:=by
  show((d[i].toNat:Int) - 48) % 256=_
  omega
 generalize (10:Int) ^ i=t at *
 rw[hu]
 show Yb (Yb (10*Xi (d.take i))+Yb ((d[i].toNat:Int) - 48))=_∧_
 rw[Vz (n:=(d[i].toNat:Int) - 48) (by omega) (by omega),Vz (n:=10*Xi (d.take i)) (by omega) (by omega),Vz (by omega) (by omega),e]
 omega
theorem LC (s : List UInt8) (i : Nat) (hs : s.length <= 1000000) (d : List UInt8) (hd : d = (s.drop i).takeWhile digB) (hi : i <= s.length) (hq : ¬ (d.length > 7 ∨ d.length > 1 ∧ d.headD 0 = 48)) :
    At Vd 1 (Zd 1 X6 fun r=>r=Dn s (Z4 (s.drop i))) X5 0 132 [(0,.ptr 0 0),(5,.pv (.str d)),(6,.pv (.int .i64 (Xi d))),(7,.pv (.int .i64 (d.length:Nat)))] [.obj (.box [.pv (.str s),.pv (.int .i64 ((i+d.length:Nat):Int))])]:=by
  have hdl:i+d.length<=s.length:=by
    have:=EY false (s.drop i)
    rw[List.length_drop]at this
    have e:(Kb false (s.drop i)).length=d.length:=by rw[hd];rfl
    omega
  have hit:Z4 (s.drop i)=if d=[]then UN 1 (s.drop (i+d.length))else if lowB ((s.drop (i+d.length)).headD 0)||(s.drop (i+d.length)).headD 0==95 then UN (Xi d) (s.drop (i+d.length))else XN (Xi d) (s.drop (i+d.length)):=by
    have e:(s.drop i).dropWhile digB=s.drop (i+d.length):=by rw[<- WX,<- hd,List.drop_drop]
    unfold Z4
    rw[<- hd,if_neg hq,e]
  rw[hit]
  generalize i+d.length=j at hdl ⊢
  -- a name from a place on
  have hvar : ∀ (k : Int) (p : Nat), p <= s.length -> ∀ Q : AV × List AObj × List AObj -> Prop, Q (Dn s (UN k (s.drop p))) -> YF [.ptr 0 0, .pv (.bool true)] [.box [.pv (.str s), .pv (.int .i64 (p : Nat))]] = true ∧
      (∃ y:Bool,AV.pv (Zj (fun(x:Str×Unit)=>Zq (Prod.fst x)) [(.str (Q9 true s p))])=AV.pv (enc y)∧Q ((.tup [.pv (.int .i64 k),.pv (.str (Q9 true s p)),.pv (.bool y)]),([(.box [(.pv (.str s)),(.pv (.int .i64 (C9 true s p)))])],[]))):=by
    intro k p hp Q hQ
    refine⟨NU hp hs,Zl (⟨Q9 true s p⟩,()) rfl ?_⟩
    show Q (_,[AObj.box [.pv (.str s),.pv (.int .i64 (C9 true s p))]],[])
    rw[a3f hp]
    exact hQ
  -- behind blanks
  have haft : ∀ Q : AV × List AObj × List AObj -> Prop, Q (Dn s (XN (Xi d) (s.drop j))) ->
      Ya [.ptr 0 0] [.box [.pv (.str s),.pv (.int .i64 (j:Nat))]]=true∧Yy [.ptr 0 0,.pv (.int .u8 42)] [.box [.pv (.str s),.pv (.int .i64 (bB s j))]]=true ∧
      (if (!J7 42 s (bB s j))=true then Q ((.tup [.pv (.int .i64 (Xi d)),.pv (.str []),.pv (.bool true)]),([(.box [(.pv (.str s)),(.pv (.int .i64 (j:Nat)))])],[]))
       else Ya [.ptr 0 0] [.box [.pv (.str s),.pv (.int .i64 (Y3 42 s (bB s j)))]]=true ∧
        (if (decide (bB s (Y3 42 s (bB s j))<(↑(List.length s):Int)))=true then(decide (0<=bB s (Y3 42 s (bB s j)))&&decide (Int.toNat (bB s (Y3 42 s (bB s j)))<List.length s))=true ∧
          Go.Pl.preT (fun(x:UInt8×Unit)=>true) [(.int IntKind.u8 (↑(UInt8.toNat (List.getD s (Int.toNat (bB s (Y3 42 s (bB s j)))) (0:UInt8))):Int))]=true ∧
          (∃ y:Bool,AV.pv (Zj (fun(x:UInt8×Unit)=>digB (Prod.fst x)) [(.int IntKind.u8 (↑(UInt8.toNat (List.getD s (Int.toNat (bB s (Y3 42 s (bB s j)))) (0:UInt8))):Int))])=AV.pv (enc y) ∧
            (if y=true then Q ((.tup [.pv (.int .i64 0),.pv (.str []),.pv (.bool false)]),([(.box [(.pv (.str s)),(.pv (.int .i64 (bB s (Y3 42 s (bB s j)))))])],[]))
             else YF [.ptr 0 0,.pv (.bool true)] [.box [.pv (.str s),.pv (.int .i64 (bB s (Y3 42 s (bB s j))))]]=true ∧
              (∃ y:Bool,AV.pv (Zj (fun(x:Str×Unit)=>Zq (Prod.fst x)) [(.str (Q9 true s (bB s (Y3 42 s (bB s j)))))])=AV.pv (enc y)∧Q ((.tup [.pv (.int .i64 (Xi d)),.pv (.str (Q9 true s (bB s (Y3 42 s (bB s j))))),.pv (.bool y)]),([(.box [(.pv (.str s)),(.pv (.int .i64 (C9 true s (bB s (Y3 42 s (bB s j))))))])],[])))))
         else YF [.ptr 0 0, .pv (.bool true)] [.box [.pv (.str s), .pv (.int .i64 (bB s (Y3 42 s (bB s j))))]] = true ∧
              (∃ y:Bool,AV.pv (Zj (fun(x:Str×Unit)=>Zq (Prod.fst x)) [(.str (Q9 true s (bB s (Y3 42 s (bB s j)))))])=AV.pv (enc y)∧Q ((.tup [.pv (.int .i64 (Xi d)),.pv (.str (Q9 true s (bB s (Y3 42 s (bB s j))))),.pv (.bool y)]),([(.box [(.pv (.str s)),(.pv (.int .i64 (C9 true s (bB s (Y3 42 s (bB s j))))))])],[]))))):=by
    intro Q hQ
    obtain⟨p,e1,p1,p2,p3⟩:=Uc s hdl
    rw[e1]
    refine⟨UT hdl hs,Ko p2 hs,?_⟩
    have hno:(XN (Xi d) (s.drop j))=((Xi d,[],true),s.drop j)->Q ((.tup [.pv (.int .i64 (Xi d)),.pv (.str []),.pv (.bool true)]),([(.box [(.pv (.str s)),(.pv (.int .i64 (j:Nat)))])],[])):=by
      intro e
      rw[e]at hQ
      have:=hQ
      unfold Dn at this
      rw[Vn hdl]at this
      exact this
    by_cases hp:p<s.length
    · rw[Gh hp]
      by_cases h42:(s[p].toNat:Int)=42
      · rw[Y3,Gh hp,decide_eq_true h42,if_pos rfl,Bool.not_true,if_neg (by simp)]
        obtain⟨q,e2,q1,q2,q3⟩:=Uc s (j:=p+1) (by omega)
        have e2':bB s ((p:Int)+1)=q:=e2
        have ea:XN (Xi d) (s.drop j)=if digB ((s.drop q).headD 0)then((0,[],false),s.drop q)else UN (Xi d) (s.drop q):=by
          unfold XN
          rw[<- p3,WH hp,q3]
          have:s[p]=42:=UInt8.toNat_inj.1 (by show s[p].toNat=42;omega)
          rw[this]
          rfl
        rw[ea]at hQ
        rw[e2']
        refine⟨UT (j:=p+1) (by omega) hs,?_⟩
        by_cases hq2:q<s.length
        · refine YD (Wq hq2) ⟨Ve hq2,?_⟩
          rw[Qy hq2]
          refine⟨Zn (s[q],()) rfl rfl,Zl (s[q],()) rfl ?_⟩
          rw[Cm hq2]at hQ
          refine Vi (fun h=> ?_) fun h=> ?_
          · have h:digB s[q]=true:=h
            rw[if_pos h]at hQ
            unfold Dn at hQ
            rw[Vn q2]at hQ
            exact hQ
          · have h:digB s[q]=false:=h
            rw[if_neg (by simp[h])]at hQ
            exact hvar _ q q2 Q hQ
        · refine XG (X9 hq2) ?_
          rw[List.drop_of_length_le (show s.length<=q by omega)]at hQ
          rw[if_neg (by decide)]at hQ
          have e:s.drop q=[]:=List.drop_of_length_le (by omega)
          rw[<- e]at hQ
          exact hvar _ q q2 Q hQ
      · rw[decide_eq_false h42]
        refine YD rfl (hno ?_)
        unfold XN
        rw[<- p3,WH hp]
        have : ¬ s[p]=42:=fun e=>h42 (by rw[e];rfl)
        simp only[if_neg this]
    · rw[Ah hp]
      refine YD rfl (hno ?_)
      unfold XN
      rw[<- p3,List.drop_of_length_le (by omega)]
  refine AY s j d (Xi d) (d.length:Nat) (XG (X9 (by omega)) (Wu (fun h0=> ?_) fun h0=> ?_))
  · subst h0
    exact hvar 1 j hdl (fun r=>r=_) rfl
  · rw[if_neg h0]
    by_cases hl:j<s.length
    · refine YD (Wq hl) ⟨Ve hl,?_⟩
      rw[Qy hl,Cm hl]
      refine⟨Zn (s[j],()) rfl rfl,Zl (s[j],()) rfl (Vi (fun h=> ?_) fun h=>⟨Ve hl,Wu (fun h9=> ?_) fun h9=> ?_⟩)⟩
      · have h:lowB s[j]=true:=h
        have e3 : ∀ A B:(Int×List UInt8×Bool)×List UInt8,(if (lowB s[j]||s[j]==95)=true then A else B)=A:=fun A B=>if_pos (by rw[h];rfl)
        rw[e3]
        exact hvar _ j hdl (fun r=>r=_) rfl
      · have:s[j]=95:=UInt8.toNat_inj.1 (by have:(s[j].toNat:Int)=95:=h9;show s[j].toNat=95;omega)
        have e3 : ∀ A B:(Int×List UInt8×Bool)×List UInt8,(if (lowB s[j]||s[j]==95)=true then A else B)=A:=fun A B=>if_pos (by rw[this];decide)
        rw[e3]
        exact hvar _ j hdl (fun r=>r=_) rfl
      · have h:lowB s[j]=false:=h
        have:(s[j]==95)=false:=by
          have : ¬ s[j]=95:=fun e=>h9 (by rw[e];rfl)
          simpa using this
        have e3 : ∀ A B:(Int×List UInt8×Bool)×List UInt8,(if (lowB s[j]||s[j]==95)=true then A else B)=B:=fun A B=>if_neg (by rw[h,this];decide)
        rw[e3]
        exact haft (fun r=>r=_) rfl
    · refine XG (X9 hl) ?_
      have e:s.drop j=[]:=List.drop_of_length_le (by omega)
      have e2:(lowB ((s.drop j).headD 0)||(s.drop j).headD 0==95)=false:=by rw[e];decide
      have e3 : ∀ A B:(Int×List UInt8×Bool)×List UInt8,(if (lowB ((s.drop j).headD 0)||(s.drop j).headD 0==95)=true then A else B)=B:=fun A B=>if_neg (by rw[e2];decide)
      rw[e3]
      exact haft (fun r=>r=_) rfl
theorem F9{p:UInt8->Bool}{c:UInt8}: ∀ {l:List UInt8},c∈l.takeWhile p->p c=true
 | [],h=>by cases h
 | x::l,h=>by
  rw[List.takeWhile_cons]at h
  split at h
  ·rcases List.mem_cons.1 h with rfl|h
   ·assumption
   ·exact F9 h
  ·cases h
theorem Rx(s:List UInt8)(i:Nat)(hs:s.length<=1000000)(d:List UInt8)(hd:d=(s.drop i).takeWhile digB)(hi:i<=s.length)(hq : ¬ (d.length>7∨d.length>1∧d.headD 0=48)):
  ∀ (k m:Nat),k+m=d.length->0<=Xi (d.take m)∧Xi (d.take m)<10 ^ m ->
  At Vd 1 (Zd 1 X6 fun r=>r=Dn s (Z4 (s.drop i))) X5 0 132 [(0,.ptr 0 0),(5,.pv (.str d)),(6,.pv (.int .i64 (Xi (d.take m)))),(7,.pv (.int .i64 m))] [.obj (.box [.pv (.str s),.pv (.int .i64 ((i+d.length:Nat):Int))])]:=by
 intro k
 induction k with
 | zero=>
  intro m hm hn
  obtain rfl:m=d.length:=by omega
  rw[List.take_length]
  exact LC s i hs d hd hi hq
 | succ k ih=>
  intro m hm hn
  have hl:m<d.length:=by omega
  have hdg : ∀ c∈d,digB c=true:=fun c hc=>by rw[hd]at hc;exact F9 hc
  obtain⟨e1,e2⟩:=Mr hl hdg (by omega) hn
  refine AY s _ d (Xi (d.take m)) m (YD (Wq hl) ⟨Ve hl,?_⟩)
  rw[Qy hl,e1,next (by omega)]
  exact ih (m+1) (by omega) e2
theorem Fa: ∀ args os,Ya args os=true->Zi Vd os.length (Zd os.length X6 fun r=>r=Qr args os) X5 [] (Yk a0b args os):=by
 intro args os h
 unfold Ya at h
 split at h
 ·rename_i s n
  obtain⟨i,rfl,h1,h2⟩:=XR.1 h
  rw[a3e]
  have ed:Q9 false s i=(s.drop i).takeWhile digB:=rfl
  have en:C9 false s i=((i+((s.drop i).takeWhile digB).length:Nat):Int):=rfl
  have hdl:i+((s.drop i).takeWhile digB).length<=s.length:=by
   have:=EY false (s.drop i)
   rw[List.length_drop]at this
   have e:(Kb false (s.drop i)).length=((s.drop i).takeWhile digB).length:=rfl
   omega
  have eq:(s.drop i).dropWhile digB=s.drop (i+((s.drop i).takeWhile digB).length):=by rw[<- WX,List.drop_drop]
  refine a2o s i ⟨NU h1 h2,?_⟩
  rw[ed,en]
  have hloop : ¬ (((s.drop i).takeWhile digB).length>7∨((s.drop i).takeWhile digB).length>1∧((s.drop i).takeWhile digB).headD 0=48)->_:=fun hq=>Rx s i h2 _ rfl h1 hq ((s.drop i).takeWhile digB).length 0 (by omega) (by rw[List.take_zero];decide)
  have hbad:(((s.drop i).takeWhile digB).length>7∨((s.drop i).takeWhile digB).length>1∧((s.drop i).takeWhile digB).headD 0=48)->((.tup [.pv (.int .i64 0),.pv (.str []),.pv (.bool false)],[.box [.pv (.str s),.pv (.int .i64 ((i+((s.drop i).takeWhile digB).length:Nat):Int))]],[]):AV×List AObj×List AObj)=Dn s (Z4 (s.drop i)):=by
   intro hq
   unfold Z4
   rw[if_pos hq,eq]
   unfold Dn
   rw[Vn hdl]
   rfl
  generalize hdd:(s.drop i).takeWhile digB=d at hloop hbad ⊢
  refine XP (fun h7=>hbad (.inl (by omega))) fun h7=>XP (fun h8=>⟨by simp;omega,Wu (fun h48=>hbad (.inr ⟨by omega,?_⟩)) fun h48=>hloop ?_⟩) fun h8=>hloop (by omega)
  ·cases d with
   | nil=>simp at h8
   | cons c d=>
    have h48:(c.toNat:Int)=48:=h48
    exact UInt8.toNat_inj.1 (by show c.toNat=48;omega)
  ·rintro(h|⟨_,h⟩)
   ·omega
   ·cases d with
    | nil=>simp at h8
    | cons c d=>
     have h:c=48:=h
     exact h48 (by rw[h];rfl)
 ·cases h
end Go.Pl

namespace Go.Pl
open Go.RowKit
open Enc (enc dec is)
open EncL (encL decL isL)
def Vp(l:Lin)(z:(Int×List UInt8×Bool)×List UInt8)(g:Int):Lin:=if z.1.2.1=[]then⟨Yb (l.k+Yb (g*z.1.1)),l.t⟩else Wh l ⟨z.1.2.1⟩ (Yb (g*z.1.1))
def XA:Nat->List UInt8->Lin->Int->Lin×Int
 | 0,_,_,_=>(⟨0,[]⟩,6)
 | f+1,t,l,g=>
  if (Z4 (Za t)).1.2.2=false then(⟨0,[]⟩,6)
  else if Za (Z4 (Za t)).2=[]then VI (Vp l (Z4 (Za t)) g)
  else if (ZM (Za (Z4 (Za t)).2)).1.2=false then(⟨0,[]⟩,6)
  else XA f (ZM (Za (Z4 (Za t)).2)).2 (Vp l (Z4 (Za t)) g) (ZM (Za (Z4 (Za t)).2)).1.1
theorem Kg{c:UInt8}(h:digB c=true):c≠95:=by
 rintro rfl
 revert h;decide
theorem M7{c:UInt8}{r:List UInt8}(h:digB c=true):Zq ⟨c::r⟩=false:=by
 have hl:lowB c=false:=by
  rw[YO]at h
  unfold lowB
  rw[Bool.and_eq_false_iff]
  left
  rw[decide_eq_false_iff_not,UInt8.le_iff_toNat_le]
  have:(97:UInt8).toNat=97:=rfl
  omega
 show(if c=95 then _ else _)=false
 rw[if_neg (Kg h),hl];rfl
theorem OZ{c:UInt8}{r:List UInt8}(h:(95:UInt8)∈r):Zq ⟨c::r⟩=false:=by
 cases hb:Zq ⟨c::r⟩with
 | false=>rfl
 | true=>
  exfalso
  unfold Zq at hb
  simp only at hb
  by_cases h95:c=95
  ·rw[if_pos h95]at hb
   simp only[Bool.and_eq_true,List.all_eq_true]at hb
   exact Kg (hb.1.1.1 _ h) rfl
  ·rw[if_neg h95]at hb
   simp only[Bool.and_eq_true,List.all_eq_true]at hb
   have:=hb.1.2 _ h
   revert this;decide
theorem a4l(c:UInt8):Zv c=(AA c||c==95):=by unfold Zv AA;cases lowB c <;> cases digB c <;> cases (c==95) <;> rfl
theorem Cn: ∀ r:List UInt8,r.takeWhile Zv=r.takeWhile AA∧r.dropWhile Zv=r.dropWhile AA∨((95:UInt8)∈r.takeWhile Zv∧ ∃ y,r.dropWhile AA=95::y)
 | []=>.inl ⟨rfl,rfl⟩
 | c::r=>by
  rw[List.takeWhile_cons,List.takeWhile_cons,List.dropWhile_cons,List.dropWhile_cons,a4l]
  by_cases h:AA c=true
  ·rw[h,Bool.true_or]
   simp only[if_true]
   rcases Cn r with ⟨h1,h2⟩|⟨h1,h2⟩
   ·exact .inl ⟨by rw[h1],h2⟩
   ·exact .inr ⟨List.mem_cons_of_mem _ h1,h2⟩
  ·have h:AA c=false:=by simpa using h
   rw[h,Bool.false_or]
   by_cases h95:c=95
   ·subst h95
    exact .inr ⟨by simp,r,by simp⟩
   ·have:(c==95)=false:=by simpa using h95
    rw[this]
    exact .inl ⟨rfl,rfl⟩
theorem Mc(c:UInt8)(r:List UInt8)(h:Zv c=true):Kb true (c::r)=c::r.takeWhile AA∧(c::r).drop (Kb true (c::r)).length=r.dropWhile AA:=by
 have e:Kb true (c::r)=c::r.takeWhile AA:=by
  show(if digB c||(lowB c||c==95)then _ else _)=_
  unfold Zv at h
  rw[if_pos (by revert h;cases digB c <;> cases lowB c <;> cases (c==95) <;> simp)]
 refine⟨e,?_⟩
 rw[e,List.length_cons,List.drop_succ_cons]
 induction r with
 | nil=>rfl
 | cons x r ih=>
  rw[List.takeWhile_cons,List.dropWhile_cons]
  split
  ·rw[List.length_cons,List.drop_succ_cons]
   exact ih (by
    show(if digB c||(lowB c||c==95)then _ else _)=_
    unfold Zv at h
    rw[if_pos (by revert h;cases digB c <;> cases lowB c <;> cases (c==95) <;> simp)])
  ·rfl
theorem a4k{r:List UInt8}(h:Zv (r.headD 0)=false):Kb true r=[]:=by
 cases r with
 | nil=>rfl
 | cons c r=>
  show(if digB c||(lowB c||c==95)then _ else _)=_
  have h:Zv c=false:=h
  unfold Zv at h
  rw[if_neg (by revert h;cases digB c <;> cases lowB c <;> cases (c==95) <;> simp)]
def JA(l:Lin)(g:Int)(A:Bool×RdS)(z:(Int×List UInt8×Bool)×List UInt8):Prop:=
 (A.1=true∧z.1.2.2=true∧A.2.s=z.2∧A.2.n=(Vp l z g).k∧Dl (Vp l z g).t A.2.m∧SY (Vp l z g).t∧(ZQ A.2.m).Nodup) ∨
 (A.1=false∧(z.1.2.2=false ∨ ∃ y,z.2=95::y))
theorem Gs{l:Lin}{m:List (Str×Int)}{g k k':Int}(r:List UInt8)(hk:Yb (g*k')=k)(hr:Dl l.t m)(hn:SY l.t)(hd:(ZQ m).Nodup):JA l g (Gg r l.k m k) (UN k' r):=by
 cases r with
 | nil=>exact .inr ⟨rfl,.inl rfl⟩
 | cons c r=>
  by_cases hc:Zv c=true
  ·obtain⟨e1,e2⟩:=Mc c r hc
   have t1:(c::r).takeWhile Zv=c::r.takeWhile Zv:=by rw[List.takeWhile_cons,if_pos hc]
   have t2:(c::r).dropWhile Zv=r.dropWhile Zv:=by rw[List.dropWhile_cons,if_pos hc]
   rcases Cn r with ⟨h1,h2⟩|⟨h1,y,h2⟩
   ·have et:(c::r).takeWhile Zv=Kb true (c::r):=by rw[t1,e1,h1]
    cases hb:Zq ⟨Kb true (c::r)⟩with
    | false=>exact .inr ⟨by unfold Gg;rw[et];exact hb,.inl hb⟩
    | true=>
     have e0:Vp l (UN k' (c::r)) g=Wh l ⟨Kb true (c::r)⟩ k:=by
      unfold Vp UN
      rw[if_neg (by show ¬ Kb true (c::r)=[];rw[e1];simp)]
      show Wh l ⟨Kb true (c::r)⟩ (Yb (g*k'))=_
      rw[hk]
     have hkk:Yb k=k:=by rw[<- hk];exact K4 _
     refine .inl ⟨by unfold Gg;rw[et];exact hb,hb,?_,?_,?_,?_,?_⟩
     ·show(c::r).dropWhile Zv=(c::r).drop (Kb true (c::r)).length
      rw[t2,e2,h2]
     ·rw[e0];rfl
     ·rw[e0]
      refine⟨TE _ _ hr.1,fun s=> ?_⟩
      show _=Vh (WY ⟨(c::r).takeWhile Zv⟩ (Yb (Vh m ((c::r).takeWhile Zv)+k)) m) s
      rw[Cq _ hkk hr.1,GY,hr.2,hr.2,et]
     ·rw[e0];exact P8 _ _ _
     ·exact CL hd
   ·refine .inr ⟨?_,.inr ⟨y,?_⟩⟩
    ·show Zq ⟨(c::r).takeWhile Zv⟩=false
     rw[t1];exact OZ h1
    ·show(c::r).drop (Kb true (c::r)).length=_
     rw[e2,h2]
  ·have hc:Zv c=false:=by simpa using hc
   refine .inr ⟨?_,.inl ?_⟩
   ·show Zq ⟨(c::r).takeWhile Zv⟩=false
    rw[List.takeWhile_cons,if_neg (by simp[hc])];rfl
   ·show Zq ⟨Kb true (c::r)⟩=false
    rw[a4k (r:=c::r) hc];rfl
theorem YZ{c:UInt8}{r:List UInt8}(h:c≠32):Za (c::r)=c::r:=by
 unfold Za
 rw[List.dropWhile_cons,if_neg (by simpa using h)]
theorem a5z(r:List UInt8):([42]:List UInt8).isPrefixOf r=decide (r.head? = some 42):=by
 cases r with
 | nil=>rfl
 | cons c r=>
  show(42==c&&true)=_
  rw[Bool.and_true,Bool.eq_iff_iff,beq_iff_eq,decide_eq_true_eq]
  simp[eq_comm]
theorem GL{l:Lin}{m:List (Str×Int)}{g k k':Int}(r:List UInt8)(hk:Yb (g*k')=k)(hr:Dl l.t m)(hn:SY l.t)(hd:(ZQ m).Nodup):
  JA l g (true,⟨r,Yb (l.k+k),m⟩) ((k',[],true),r):=by
 have e0:Vp l ((k',[],true),r) g=⟨Yb (l.k+k),l.t⟩:=by
  unfold Vp
  rw[if_pos rfl]
  show(⟨Yb (l.k+Yb (g*k')),l.t⟩:Lin)=_
  rw[hk]
 exact .inl ⟨rfl,rfl,rfl,by rw[e0],by rw[e0];exact hr,by rw[e0];exact hn,hd⟩
theorem FK{l:Lin}{m:List (Str×Int)}{g k k':Int}(r:List UInt8)(hd0:digB (r.headD 0)=false)(hk:Yb (g*k')=k)(hr:Dl l.t m)(hn:SY l.t)(hd:(ZQ m).Nodup):
  JA l g (Vs r l.k m k) (if lowB (r.headD 0)||r.headD 0==95 then UN k' r else XN k' r):=by
 cases r with
 | nil=>
  have e1:Vs [] l.k m k=(true,⟨[],Yb (l.k+k),m⟩):=rfl
  have e2:(if lowB (([]:List UInt8).headD 0)||([]:List UInt8).headD 0==95 then UN k' []else XN k' [])=((k',[],true),[]):=rfl
  rw[e1,e2]
  exact GL [] hk hr hn hd
 | cons c r=>
  have hd0:digB c=false:=hd0
  show JA l g (Vs (c::r) l.k m k) (if lowB c||c==95 then UN k' (c::r)else XN k' (c::r))
  have hlet:Zv c=(lowB c||c==95):=by unfold Zv;rw[hd0,Bool.or_false]
  unfold Vs
  by_cases hl:(lowB c||c==95)=true
  ·have h32:c≠32:=by rintro rfl;revert hl;decide
   have h42:c≠42:=by rintro rfl;revert hl;decide
   rw[if_pos hl,a5z,YZ h32,decide_eq_false (by simpa using h42)]
   rw[if_neg (by simp),if_neg (by
    rintro(h|h)
    ·cases h
    ·have h:Zv c=false:=h
     rw[hlet,hl]at h;cases h)]
   exact Gs _ hk hr hn hd
  ·have hl:(lowB c||c==95)=false:=by simpa using hl
   rw[hl]
   simp only[Bool.false_eq_true,if_false]
   unfold XN
   rw[a5z]
   have hnum : ∀ A B:Bool×RdS,(if (c::r)=[]∨Zv ((c::r).headD 0)=false then A else B)=A:=fun A B=>if_pos (.inr (by show Zv c=false;rw[hlet,hl]))
   rw[hnum]
   cases hb:Za (c::r)with
   | nil=>
    have e : ∀ A B:Bool×RdS,(if decide (([]:List UInt8).head? = some 42)=true then A else B)=B:=fun A B=>if_neg (by simp)
    rw[e]
    exact GL _ hk hr hn hd
   | cons x t=>
    by_cases hx:x=42
    ·subst hx
     have e : ∀ A B:Bool×RdS,(if decide (((42:UInt8)::t).head? = some 42)=true then A else B)=A:=fun A B=>if_pos (by simp)
     rw[e]
     show JA l g (Gg (Za t) l.k m k) (if (42:UInt8)=42 then(if digB ((Za t).headD 0)then((0,[],false),Za t)else UN k' (Za t))else((k',[],true),42::r))
     rw[if_pos rfl]
     by_cases hg:digB ((Za t).headD 0)=true
     ·rw[if_pos hg]
      cases hbt:Za t with
      | nil=>rw[hbt]at hg;exact absurd hg (by decide)
      | cons y u=>
       rw[hbt]at hg
       have hg:digB y=true:=hg
       refine .inr ⟨?_,.inl rfl⟩
       show Zq ⟨(y::u).takeWhile Zv⟩=false
       rw[List.takeWhile_cons,if_pos (by unfold Zv;rw[hg,Bool.or_true])]
       exact M7 hg
     ·rw[if_neg hg]
      exact Gs _ hk hr hn hd
    ·have e : ∀ A B:Bool×RdS,(if decide ((x::t).head? = some 42)=true then A else B)=B:=fun A B=>if_neg (by simpa using hx)
     rw[e]
     show JA l g _ (if x=42 then _ else((k',[],true),c::r))
     rw[if_neg hx]
     exact GL _ hk hr hn hd
theorem Tc(d:List UInt8)(c:UInt8):Xi (d++[c])=10*Xi d+((c.toNat:Int) - 48):=by unfold Xi;rw[List.foldl_append];rfl
theorem F3(d:List UInt8)(c:UInt8)(a:Nat):Uf a (d++[c])=Uf a d*10+(c.toNat - 48):=by unfold Uf;rw[List.foldl_append];rfl
theorem E5: ∀ (n:Nat) (d:List UInt8),d.length=n->d.all digB=true->Xi d=(Uf 0 d:Int):=by
 intro n
 induction n with
 | zero=>
  intro d hl _
  have:d=[]:=List.eq_nil_of_length_eq_zero hl
  subst this
  rw[U6];rfl
 | succ n ih=>
  intro d hl hd
  rcases List.eq_nil_or_concat d with h|⟨e,c,h⟩
  ·subst h;cases hl
  ·rw[List.concat_eq_append]at h
   subst h
   rw[List.all_append,Bool.and_eq_true]at hd
   have hc:digB c=true:=by simpa using hd.2
   rw[YO]at hc
   rw[Tc,F3,ih e (by simpa using hl) hd.1]
   omega
theorem M3{d:List UInt8}(h0:d≠[])(hd:d.all digB=true)(hl:d.length<=9):ZR ⟨d⟩=(Xi d,⟨false⟩):=by
 cases d with
 | nil=>exact absurd rfl h0
 | cons c r=>
  have h1:=hd
  simp only[List.all_cons,Bool.and_eq_true,YO]at h1
  have hv:=Bh (c::r) 0 hd
  have hp:10 ^ (c::r).length<=10 ^ 9:=Nat.pow_le_pow_right (by omega) hl
  have hpm:=Jh (c::r) 0 hd (by omega)
  have hat:Lib.atoiAll (c::r) = .ok (Uf 0 (c::r):Int):=by
   have e1 : ¬ (c.toNat=43∨c.toNat=45):=by omega
   have e2 : ¬ c.toNat=45:=by omega
   simp only[Lib.atoiAll,if_neg e1,Lib.parseMag,if_neg (show ¬ (c::r=[]) by simp),hpm]
   rw[if_neg (by omega),if_neg (fun e=>e2 e.1),if_neg e2]
  simp only[ZR,hat]
  rw[E5 _ _ rfl hd]
theorem a1u(p:UInt8->Bool): ∀ r:List UInt8,(r.takeWhile p).all p=true
 | []=>rfl
 | c::r=>by
  rw[List.takeWhile_cons]
  split
  ·rename_i h;rw[List.all_cons,h,a1u p r];rfl
  ·rfl
theorem Nr(p:UInt8->Bool)(h0:p 0=false): ∀ r:List UInt8,p ((r.dropWhile p).headD 0)=false
 | []=>h0
 | c::r=>by
  rw[List.dropWhile_cons]
  split
  ·exact Nr p h0 r
  ·rename_i h;simpa using h
theorem La{l:Lin}{m:List (Str×Int)}{g:Int}(hg:g=1∨g = -1)(r:List UInt8)(hr:Dl l.t m)(hn:SY l.t)(hd:(ZQ m).Nodup):JA l g (ZO ⟨r,l.k,m⟩ g) (Z4 r):=by
 have hg1:Yb (g*1)=g:=by rcases hg with rfl|rfl <;> decide
 unfold ZO Z4
 simp only
 cases r with
 | nil=>exact .inr ⟨rfl,.inl rfl⟩
 | cons c r=>
  rw[if_neg (by simp)]
  show JA l g (if digB c=false then _ else _) _
  by_cases hc:digB c=true
  ·have e1:(c::r).takeWhile digB=c::r.takeWhile digB:=by rw[List.takeWhile_cons,if_pos hc]
   have e2:(c::r).dropWhile digB=r.dropWhile digB:=by rw[List.dropWhile_cons,if_pos hc]
   have hall:(c::r.takeWhile digB).all digB=true:=by rw[List.all_cons,hc,a1u];rfl
   rw[if_neg (by simp[hc]),e1,e2]
   generalize r.takeWhile digB=d at hall ⊢
   have hhead:=Nr digB (by decide) r
   generalize r.dropWhile digB=e at hhead ⊢
   have h0:(c::d)≠[]:=by simp
   by_cases hb:(c::d).length>7∨(c::d).length>1∧(c::d).headD 0=48
   ·rw[if_pos hb]
    have:Kk (c::d)=false:=by
     unfold Kk
     rcases hb with h|⟨h1,h2⟩
     ·rw[decide_eq_false (by omega)];simp
     ·have h2:c=48:=h2
      have hd0:d≠[]:=by rintro rfl;simp at h1
      subst h2
      rw[decide_eq_false (show ¬ ((48:UInt8)::d).head? ≠ some 48 by simp),decide_eq_false (show ¬ ((48:UInt8)::d)=[48] by simpa using hd0)]
      simp
    rw[if_pos this]
    exact .inr ⟨rfl,.inl rfl⟩
   ·rw[if_neg hb,if_neg h0]
    have ha:=M3 h0 hall (by omega)
    have:Kk (c::d)=true:=by
     unfold Kk
     rw[ha,decide_eq_true (show(c::d).length<=7 by omega)]
     by_cases h48:c=48
     ·have:d=[]:=by
       cases d with
       | nil=>rfl
       | cons x d=>exact absurd (.inr ⟨by simp,h48⟩) hb
      subst this;subst h48
      rfl
     ·rw[decide_eq_true (show(c::d).head? ≠ some 48 by simpa using h48)];rfl
    rw[if_neg (by simp[this]),ha]
    exact FK e hhead rfl hr hn hd
  ·have hc:digB c=false:=by simpa using hc
   have e1:(c::r).takeWhile digB=[]:=by rw[List.takeWhile_cons,if_neg (by simp[hc])]
   have e2:(c::r).dropWhile digB=c::r:=by rw[List.dropWhile_cons,if_neg (by simp[hc])]
   rw[if_pos hc,e1,e2]
   have : ¬ (([]:List UInt8).length>7∨([]:List UInt8).length>1∧([]:List UInt8).headD 0=48):=by simp
   rw[if_neg this,if_pos rfl]
   exact Gs _ hg1 hr hn hd
theorem ES: ∀ r:List UInt8,(ZM r).1.1=1∨(ZM r).1.1 = -1
 | []=>.inl rfl
 | c::r=>by
  by_cases h1:c=43
  ·subst h1;exact .inl rfl
  ·by_cases h2:c=45
   ·subst h2;exact .inr rfl
   ·have:ZM (c::r)=((1,false),c::r):=by
     show(if c=43 then _ else if c=45 then _ else _)=_
     rw[if_neg h1,if_neg h2]
    rw[this];exact .inl rfl
theorem Gf: ∀ (f:Nat) (t:List UInt8) (l:Lin) (m:List (Str×Int)) (g:Int),(g=1∨g = -1)->Dl l.t m->SY l.t->(ZQ m).Nodup->XA f t l g=Q4 f t l.k m g
 | 0,_,_,_,_,_,_,_,_=>rfl
 | f+1,t,l,m,g,hg,hr,hn,hd=>by
  rw[XA,Q4]
  rcases La hg (Za t) hr hn hd with ⟨a1,a2,a3,a4,a5,a6,a7⟩|⟨a1,a2⟩
  ·rw[if_neg (show ¬ (Z4 (Za t)).1.2.2=false by simp[a2]),if_neg (show ¬ (ZO ⟨Za t,l.k,m⟩ g).1=false by simp[a1]),a3]
   by_cases h1:Za (Z4 (Za t)).2=[]
   ·rw[if_pos h1,if_pos h1]
    unfold VI Xo
    have e:=Ch a5 a6 a7
    rw[<- e,a4]
   ·rw[if_neg h1,if_neg h1]
    by_cases h2:(ZM (Za (Z4 (Za t)).2)).1.2=false
    ·rw[if_pos h2,if_pos h2]
    ·rw[if_neg h2,if_neg h2,a4]
     exact Gf f _ _ _ _ (ES _) a5 a6 a7
  ·rw[if_pos (show(ZO ⟨Za t,l.k,m⟩ g).1=false from a1)]
   rcases a2 with a2|⟨y,a2⟩
   ·rw[if_pos a2]
   ·by_cases h:(Z4 (Za t)).1.2.2=false
    ·rw[if_pos h]
    ·have h1:Za (Z4 (Za t)).2=95::y:=by rw[a2];exact YZ (by decide)
     rw[if_neg h,h1,if_neg (show ¬ (95::y:List UInt8)=[] by simp),if_pos (show(ZM (95::y)).1.2=false from rfl)]
theorem Kn(s:List UInt8):XA (s.length+1) (ZM (Za s)).2 ⟨0,[]⟩ (ZM (Za s)).1.1=Zm s:=
 Gf _ _ _ [] _ (ES _) ⟨.nil,fun _=>rfl⟩ (fun t ht=>by cases ht) .nil
end Go.Pl

namespace Go.Pl
open Go.RowKit
open Enc (enc dec is)
open EncL (encL decL isL)
theorem XW{u:Nat}(h:u<10):Lib.decDigits u=[UInt8.ofNat (48+u)]:=by rw[Lib.decDigits,dif_pos h]
theorem Ak{u:Nat}(h : ¬ u<10):Lib.decDigits u=Lib.decDigits (u / 10)++[UInt8.ofNat (48+u % 10)]:=by rw[Lib.decDigits,dif_neg h]
theorem J5: ∀ (k u:Nat),u<10 ^ (k+1)->(Lib.decDigits u).length<=k+1
 | 0,u,h=>by rw[XW (by simpa using h)];simp
 | k+1,u,h=>by
  by_cases hu:u<10
  ·rw[XW hu];simp
  ·rw[Ak hu,List.length_append,List.length_singleton]
   have:=J5 k (u / 10) (by rw[Nat.pow_succ]at h;omega)
   omega
theorem a3p: ∀ u:Nat,Xi (Lib.decDigits u)=u:=by
 intro u
 induction u using Nat.strongRecOn with
 | _ u ih=>
  by_cases hu:u<10
  ·rw[XW hu]
   show(10*0+(((UInt8.ofNat (48+u)).toNat:Int) - 48))=_
   rw[Tm (by omega)];omega
  ·rw[Ak hu,Tc,ih _ (by omega),Tm (by omega)];omega
theorem Ma(u:Nat):(Lib.decDigits u).all digB=true∧Lib.decDigits u≠[]∧((Lib.decDigits u).length>1->(Lib.decDigits u).headD 0≠48):=by
 by_cases h:1<=u
 ·obtain⟨a,b,c⟩:=Dt u h
  refine⟨a,c,fun _ e=>b ?_⟩
  cases hd:Lib.decDigits u with
  | nil=>exact absurd hd c
  | cons x r=>rw[hd]at e;rw[List.head?_cons];exact congrArg some e
 ·obtain rfl:u=0:=by omega
  rw[XW (by omega)]
  exact⟨by decide,by simp,by simp⟩
def Yd(n:Nat)(v:List UInt8):List UInt8:=(if v=[]then Lib.decDigits n else if n>1 then Lib.decDigits n else [])++v
theorem Bd{p:UInt8->Bool}{d x:List UInt8}(hd:d.all p=true)(hx:x=[]∨p (x.headD 0)=false):(d++x).takeWhile p=d∧(d++x).dropWhile p=x:=by
 induction d with
 | nil=>
  cases x with
  | nil=>exact⟨rfl,rfl⟩
  | cons c x=>
   have:p c=false:=by
    rcases hx with h|h
    ·cases h
    ·exact h
   rw[List.nil_append,List.takeWhile_cons,List.dropWhile_cons,this]
   exact⟨rfl,rfl⟩
 | cons c d ih=>
  rw[List.all_cons,Bool.and_eq_true]at hd
  rw[List.cons_append,List.takeWhile_cons,List.dropWhile_cons,hd.1]
  exact⟨by rw[if_pos rfl,(ih hd.2).1],by rw[if_pos rfl,(ih hd.2).2]⟩
theorem QV{v:List UInt8}(h:Zq ⟨v⟩=true): ∃ c w,v=c::w∧(lowB c||c==95)=true∧w.all AA=true∧v.length<=30:=by
 cases v with
 | nil=>cases h
 | cons c w=>
  have hl:=Wl h
  refine⟨c,w,rfl,?_,?_,hl⟩
  ·unfold Zq at h
   simp only at h
   by_cases h95:c=95
   ·subst h95;decide
   ·rw[if_neg h95]at h
    simp only[Bool.and_eq_true]at h
    rw[h.1.1];rfl
  ·unfold Zq at h
   simp only at h
   by_cases h95:c=95
   ·rw[if_pos h95]at h
    simp only[Bool.and_eq_true]at h
    have:=h.1.1.1
    rw[List.all_eq_true]at this ⊢
    intro x hx
    unfold AA
    rw[this x hx];rfl
   ·rw[if_neg h95]at h
    simp only[Bool.and_eq_true]at h
    have:=h.1.2
    rw[List.all_eq_true]at this ⊢
    intro x hx
    have:=this x hx
    unfold AA
    rw[Bool.or_comm];exact this
theorem Br{c:UInt8}(h:(lowB c||c==95)=true):digB c=false∧Zv c=true∧c≠32∧c≠43∧c≠45:=by
 have hd:digB c=false:=by
  cases hd:digB c with
  | false=>rfl
  | true=>
   have h2:=Kg hd
   rw[YO]at hd
   have:lowB c=false:=by
    unfold lowB
    rw[Bool.and_eq_false_iff]
    left
    rw[decide_eq_false_iff_not,UInt8.le_iff_toNat_le]
    have:(97:UInt8).toNat=97:=rfl
    omega
   rw[this,Bool.false_or]at h
   exact absurd (eq_of_beq h) h2
 refine⟨hd,by unfold Zv;rw[h];rfl,?_,?_,?_⟩ <;> (rintro rfl;revert h;decide)
def a3m(x:List UInt8):Prop:=x=[]∨x.headD 0=43∨x.headD 0=45
theorem Pv{x:List UInt8}{p:UInt8->Bool}(h:a3m x)(h1:p 43=false)(h2:p 45=false):x=[]∨p (x.headD 0)=false:=by
 rcases h with h|h|h
 ·exact .inl h
 ·exact .inr (by rw[h];exact h1)
 ·exact .inr (by rw[h];exact h2)
theorem SS{v x:List UInt8}(k:Int)(h:Zq ⟨v⟩=true)(hx:a3m x):UN k (v++x)=((k,v,true),x):=by
 obtain⟨c,w,rfl,hc,hw,_⟩:=QV h
 obtain⟨e1,e2⟩:=Mc c (w++x) (Br hc).2.1
 obtain⟨t1,t2⟩:=Bd hw (Pv (p:=AA) hx (by decide) (by decide))
 have e3:(c::(w++x)).drop (c::w).length=x:=by simp
 unfold UN
 rw[List.cons_append,e1,t1,h,e3]
theorem LQ{n:Nat}{v x:List UInt8}(hn:n<=1000000)(hv:v=[]∨Zq ⟨v⟩=true∧1<=n)(hx:a3m x):Z4 (Yd n v++x)=(((n:Int),v,true),x):=by
 obtain⟨d1,d2,d3⟩:=Ma n
 have dl:=J5 6 n (by omega)
 have dn:=a3p n
 have hb : ¬ ((Lib.decDigits n).length>7∨(Lib.decDigits n).length>1∧(Lib.decDigits n).headD 0=48):=by
  rintro(h|⟨h1,h2⟩)
  ·omega
  ·exact d3 h1 h2
 rcases hv with rfl|⟨hv,h1⟩
 ·have hbody:Yd n []=Lib.decDigits n:=by unfold Yd;rw[if_pos rfl,List.append_nil]
  rw[hbody]
  obtain⟨t1,t2⟩:=Bd d1 (Pv (p:=digB) hx (by decide) (by decide))
  unfold Z4
  rw[t1,t2,if_neg hb,if_neg d2,dn]
  have hl:(lowB (x.headD 0)||x.headD 0==95)=false:=by
   rcases Pv (p:=fun c=>lowB c||c==95) hx (by decide) (by decide)with h|h
   ·rw[h];decide
   ·exact h
  rw[if_neg (by rw[hl];decide)]
  unfold XN
  rcases hx with rfl|hx
  ·rfl
  ·cases x with
   | nil=>rfl
   | cons c x=>
    have hx:c=43∨c=45:=hx
    rw[YZ (by rcases hx with rfl|rfl <;> decide)]
    simp only
    rw[if_neg (by rcases hx with rfl|rfl <;> decide)]
 ·obtain⟨c,w,rfl,hc,hw,_⟩:=QV hv
  have hcd:=(Br hc).1
  unfold Yd
  rw[if_neg (by simp),List.append_assoc]
  by_cases hn1:n>1
  ·rw[if_pos hn1]
   obtain⟨t1,t2⟩:=Bd (x:=c::w++x) d1 (.inr hcd)
   unfold Z4
   rw[t1,t2,if_neg hb,if_neg d2,dn,if_pos (show(lowB ((c::w++x).headD 0)||(c::w++x).headD 0==95)=true from hc)]
   exact SS _ hv hx
  ·obtain rfl:n=1:=by omega
   rw[if_neg hn1,List.nil_append]
   obtain⟨t1,t2⟩:=Bd (d:=[]) (x:=c::w++x) rfl (.inr hcd)
   rw[List.nil_append]at t1 t2
   unfold Z4
   rw[t1,t2,if_neg (by simp),if_pos rfl]
   exact SS _ hv hx
theorem Ji{n:Nat}{v:List UInt8}(hv:v=[]∨Zq ⟨v⟩=true): ∃ c w,Yd n v=c::w∧c≠32∧c≠43∧c≠45:=by
 have hdec : ∃ c w,Lib.decDigits n=c::w∧c≠32∧c≠43∧c≠45:=by
  obtain⟨d1,d2,_⟩:=Ma n
  cases hd:Lib.decDigits n with
  | nil=>exact absurd hd d2
  | cons c w=>
   rw[hd,List.all_cons,Bool.and_eq_true]at d1
   refine⟨c,w,rfl,?_,?_,?_⟩ <;> (rintro rfl;exact absurd d1.1 (by decide))
 obtain⟨c,w,hd,h⟩:=hdec
 unfold Yd
 rcases hv with rfl|hv
 ·exact⟨c,w,by rw[if_pos rfl,List.append_nil,hd],h⟩
 ·obtain⟨x,y,rfl,hc,_,_⟩:=QV hv
  rw[if_neg (by simp)]
  by_cases hn:n>1
  ·rw[if_pos hn]
   exact⟨c,w++x::y,by rw[hd];rfl,h⟩
  ·rw[if_neg hn]
   exact⟨x,y,rfl,(Br hc).2.2⟩
def sgI(c:Int):Int:=if c<0 then -1 else 1
def AB(c:Int):List UInt8:=if c<0 then [45]else [43]
def Yc:List (Int×List UInt8)->List UInt8
 | []=>[]
 | q::r=>AB q.1++(Yd q.1.natAbs q.2++Yc r)
def QN:List (Int×List UInt8)->List UInt8
 | []=>[]
 | q::r=>(if q.1<0 then [45]else [])++(Yd q.1.natAbs q.2++Yc r)
def PX(q:Int×List UInt8):Prop:=q.1.natAbs<=1000000∧(q.2=[]∨Zq ⟨q.2⟩=true∧1<=q.1.natAbs)
def QX(l:Lin)(q:Int×List UInt8):Lin:=if q.2=[]then⟨Yb (l.k+Yb q.1),l.t⟩else Wh l ⟨q.2⟩ (Yb q.1)
theorem MN(r:List (Int×List UInt8)):a3m (Yc r):=by
 cases r with
 | nil=>exact .inl rfl
 | cons q r=>
  refine .inr ?_
  show((AB q.1++_).headD 0=43)∨_
  unfold Yc AB
  split
  ·exact .inr rfl
  ·exact .inl rfl
theorem a7t(c:Int):sgI c*(c.natAbs:Int)=c:=by unfold sgI;split <;> omega
theorem Mi{q:Int×List UInt8}(h:PX q):q.2=[]∨Zq ⟨q.2⟩=true:=by
 rcases h.2 with h|h
 ·exact .inl h
 ·exact .inr h.1
theorem a5h(c:Int)(x:List UInt8):ZM (AB c++x)=((sgI c,true),x):=by
 unfold AB sgI
 split
 ·rfl
 ·rfl
theorem JC: ∀ (r:List (Int×List UInt8)) (q:Int×List UInt8) (l:Lin) (f:Nat),r.length<f->PX q->(∀ p∈r,PX p)->XA f (Yd q.1.natAbs q.2++Yc r) l (sgI q.1)=VI (r.foldl QX (QX l q))
 | r,q,l,0,hf,_,_=>by omega
 | r,q,l,f+1,hf,hq,hr=>by
  obtain⟨c,w,hb,h32,_,_⟩:=Ji (n:=q.1.natAbs) (Mi hq)
  have hbl:Za (Yd q.1.natAbs q.2++Yc r)=Yd q.1.natAbs q.2++Yc r:=by rw[hb,List.cons_append,YZ h32]
  have hadd:Vp l (((q.1.natAbs:Int),q.2,true),Yc r) (sgI q.1)=QX l q:=by
   unfold Vp QX
   simp only
   rw[a7t]
  rw[XA,hbl,LQ hq.1 hq.2 (MN r)]
  simp only
  rw[hadd,if_neg (by simp)]
  cases r with
  | nil=>rw[if_pos (show Za (Yc [])=[]from rfl)];rfl
  | cons p r=>
   have hp:=hr p (by simp)
   have ht:Za (Yc (p::r))=Yc (p::r):=by
    unfold Yc AB
    split
    ·exact YZ (by decide)
    ·exact YZ (by decide)
   rw[ht,if_neg (by unfold Yc AB;split <;> simp)]
   show(if (ZM (AB p.1++(Yd p.1.natAbs p.2++Yc r))).1.2=false then _ else XA f (ZM (AB p.1++(Yd p.1.natAbs p.2++Yc r))).2 _ (ZM (AB p.1++(Yd p.1.natAbs p.2++Yc r))).1.1)=_
   rw[a5h,if_neg (by simp)]
   rw[List.length_cons]at hf
   exact JC r p (QX l q) f (by omega) hp fun x hx=>hr x (by simp[hx])
theorem AC: ∀ r:List (Int×List UInt8),r.length<=(Yc r).length
 | []=>Nat.le_refl _
 | q::r=>by
  have:=AC r
  have h1:(AB q.1).length=1:=by unfold AB;split <;> rfl
  rw[Yc,List.length_append,List.length_append,List.length_cons,h1]
  omega
theorem RB{q:Int×List UInt8}{r:List (Int×List UInt8)}(hq:PX q)(hr : ∀ p∈r,PX p):Zm (QN (q::r))=VI (r.foldl QX (QX ⟨0,[]⟩ q)):=by
 obtain⟨c,w,hb,h32,h43,h45⟩:=Ji (n:=q.1.natAbs) (Mi hq)
 have hs:(ZM (Za (QN (q::r))))=((sgI q.1,decide (q.1<0)),Yd q.1.natAbs q.2++Yc r):=by
  show ZM (Za ((if q.1<0 then [45]else [])++(Yd q.1.natAbs q.2++Yc r)))=_
  unfold sgI
  by_cases hn:q.1<0
  ·rw[if_pos hn,if_pos hn,List.singleton_append,YZ (by decide),decide_eq_true hn]
   rfl
  ·rw[if_neg hn,if_neg hn,List.nil_append,hb,List.cons_append,YZ h32,decide_eq_false hn]
   show(if c=43 then _ else if c=45 then _ else _)=_
   rw[if_neg h43,if_neg h45]
 rw[<- Kn,hs]
 refine JC r q _ _ ?_ hq hr
 have:=AC r
 unfold QN
 rw[List.length_append,List.length_append]
 omega
theorem Np(s:Str)(c:Int): ∀ {ts:List Coef},(∀ t∈ts,t.v.s<s.s)->YL s c false ts=ts++[⟨s,c⟩]
 | [],_=>rfl
 | t::r,h=>by
  have ht:=h t (by simp)
  have h1 : ¬ s.s<t.v.s:=fun h'=>List.lt_irrefl _ (List.lt_trans h' ht)
  have h2:t.v≠s:=fun e=>by rw[e]at ht;exact List.lt_irrefl _ ht
  rw[YL,decide_eq_false h1,if_neg h2]
  show([]:List Coef)++t::YL s c false r=_
  rw[Np s c fun u hu=>h u (by simp[hu])]
  rfl
theorem Dk: ∀ (x pre:List Coef) (k:Int),Uk (pre++x)->SY (pre++x)->(∀ t∈x,Yb t.c=t.c∧t.v.s≠[])->(x.map fun t=>(t.c,t.v.s)).foldl QX ⟨k,pre⟩=⟨k,pre++x⟩
 | [],pre,k,_,_,_=>by simp
 | t::x,pre,k,ha,hn,hw=>by
  obtain⟨w1,w2⟩:=hw t (by simp)
  have e:QX ⟨k,pre⟩ (t.c,t.v.s)=⟨k,pre++[t]⟩:=by
   unfold QX
   simp only
   rw[if_neg w2,w1]
   unfold Wh
   simp only
   rw[Np ⟨t.v.s⟩ t.c (fun u hu=>(List.pairwise_append.1 ha).2.2 u hu t (by simp))]
   have:(pre++[(⟨⟨t.v.s⟩,t.c⟩:Coef)]).filter (fun t=>decide (t.c≠0))=pre++[⟨⟨t.v.s⟩,t.c⟩]:=by
    refine List.filter_eq_self.2 fun u hu=>decide_eq_true ?_
    rcases List.mem_append.1 hu with hu|hu
    ·exact hn u (by simp[hu])
    ·have:u=⟨⟨t.v.s⟩,t.c⟩:=by simpa using hu
     subst this
     exact hn t (by simp)
   rw[this]
  rw[List.map_cons,List.foldl_cons,e,Dk x (pre++[t]) k (by rw[List.append_assoc];exact ha) (by rw[List.append_assoc];exact hn) (fun u hu=>hw u (by simp[hu])),List.append_assoc]
  rfl
theorem Sk:Lib.trimSuffix [49] [49]=[]∧Lib.trimSuffix [45,49] [49]=[45]:=by constructor <;> decide
theorem U8{n:Int}(h:n<0):(ZB n).s=45::Lib.decDigits n.natAbs:=by
 show Lib.itoa n=_
 unfold Lib.itoa;rw[if_pos h]
theorem Y5{n:Int}(h : ¬ n<0):(ZB n).s=Lib.decDigits n.natAbs:=by
 show Lib.itoa n=_
 unfold Lib.itoa
 rw[if_neg h]
 congr 1
 omega
theorem Hz{o s:List UInt8}{n:Int}(hs:s≠[])(hn:n≠0):ZZ o n s=o++((if n<0 then [45]else if o=[]then []else [43])++Yd n.natAbs s):=by
 unfold ZZ Yd
 rw[if_neg hs,decide_eq_true hs,Bool.true_and]
 by_cases h:n<0
 ·rw[decide_eq_false (show ¬ n ≥ 0 by omega),Bool.false_and,if_neg (by simp),if_pos h,U8 h]
  by_cases h1:n = -1
  ·subst h1
   rw[if_pos (by decide),if_neg (by decide),show(-1:Int).natAbs=1 from rfl,XW (by omega)]
   show o++(Lib.trimSuffix [45,49] [49]++s)=_
   rw[Sk.2];rfl
  ·rw[decide_eq_false h1,decide_eq_false (show ¬ n=1 by omega),if_neg (by simp),if_pos (by omega)]
   simp
 ·rw[decide_eq_true (show n ≥ 0 by omega),Bool.true_and,if_neg h,Y5 h]
  have e:(if decide (o≠[])=true then o++[43]else o)=o++(if o=[]then []else [43]):=by
   by_cases ho:o=[]
   ·rw[if_neg (by simpa using ho),if_pos ho,List.append_nil]
   ·rw[if_pos (by simpa using ho),if_neg ho]
  rw[e]
  generalize (if o=[]then []else [43]:List UInt8)=z
  by_cases h1:n=1
  ·subst h1
   rw[if_pos (show(decide ((1:Int)=1)||decide ((1:Int) = -1))=true by decide),if_neg (show ¬ (1:Int).natAbs>1 by decide),show(1:Int).natAbs=1 from rfl,XW (by omega)]
   show o++z++(Lib.trimSuffix [49] [49]++s)=_
   rw[Sk.1];simp
  ·rw[decide_eq_false h1,decide_eq_false (show ¬ n = -1 by omega),if_neg (show ¬ ((false||false)=true) by simp),if_pos (show n.natAbs>1 by omega)]
   simp
theorem Bz(o:List UInt8)(n:Int):ZZ o n []=o++((if n<0 then [45]else if o=[]then []else [43])++Yd n.natAbs []):=by
 unfold ZZ Yd
 rw[if_pos rfl,decide_eq_false (show ¬ ([]:List UInt8)≠[] by simp),Bool.false_and,if_neg (show ¬ (false=true) by simp)]
 by_cases h:n<0
 ·rw[decide_eq_false (show ¬ n ≥ 0 by omega),Bool.false_and,if_neg (show ¬ (false=true) by simp),if_pos h,U8 h]
  simp
 ·rw[decide_eq_true (show n ≥ 0 by omega),Bool.true_and,if_neg h,Y5 h]
  have e:(if decide (o≠[])=true then o++[43]else o)=o++(if o=[]then []else [43]):=by
   by_cases ho:o=[]
   ·rw[if_neg (by simpa using ho),if_pos ho,List.append_nil]
   ·rw[if_pos (by simpa using ho),if_neg ho]
  rw[e];simp
theorem Dh: ∀ (x:List Coef) (o:List UInt8),o≠[]->(∀ t∈x,t.c≠0∧t.v.s≠[])->x.foldl (fun o t=>ZZ o t.c t.v.s) o=o++Yc (x.map fun t=>(t.c,t.v.s))
 | [],o,_,_=>by simp[Yc]
 | t::x,o,ho,h=>by
  obtain⟨h1,h2⟩:=h t (by simp)
  rw[List.foldl_cons,Hz h2 h1,if_neg ho]
  have:(if t.c<0 then [45]else [43]:List UInt8)=AB t.c:=rfl
  rw[this,Dh x _ (by simp[ho]) fun u hu=>h u (by simp[hu]),List.map_cons,Yc]
  simp
theorem OX(a b:List (Int×List UInt8)):Yc (a++b)=Yc a++Yc b:=by
 induction a with
 | nil=>rfl
 | cons q a ih=>rw[List.cons_append,Yc,Yc,ih];simp
def Wd(l:Lin):List (Int×List UInt8):=(l.t.map fun t=>(t.c,t.v.s))++if decide (l.k≠0)||l.t.isEmpty then [(l.k,[])]else []
theorem GA{l:Lin}(h:Zh l=true): ∀ t∈l.t,t.c≠0∧t.v.s≠[]:=fun t ht=>by
 obtain⟨a,b,_⟩:=Yf h ht
 refine⟨b,fun e=> ?_⟩
 have:t.v=⟨[]⟩:=by cases hv:t.v;rw[hv]at e;simp at e;rw[e]
 rw[this]at a;cases a
theorem Na{n:Nat}{v:List UInt8}(hv:v=[]∨Zq ⟨v⟩=true):Yd n v≠[]:=by
 obtain⟨c,w,h,_⟩:=Ji (n:=n) hv
 rw[h];simp
theorem H8{l:Lin}(h:Zh l=true):Zw l=QN (Wd l):=by
 have hn:=GA h
 unfold Zw Wd UE
 rw[if_pos h]
 cases ht:l.t with
 | nil=>
  rw[List.foldl_nil,decide_eq_true (show([]:List UInt8)=[]from rfl),Bool.or_true,if_pos rfl,Bz]
  show _=QN (([]:List (Int×List UInt8))++if (decide (l.k≠0)||true)=true then [(l.k,[])]else [])
  rw[Bool.or_true,if_pos rfl]
  show _=(if l.k<0 then [45]else [])++(Yd l.k.natAbs []++[])
  rw[List.append_nil,List.nil_append]
 | cons t x=>
  rw[ht]at hn
  have h1:=hn t (by simp)
  have hv:Zq t.v=true:=(Yf h (by rw[ht];simp)).1
  rw[List.foldl_cons,Hz h1.2 h1.1,List.nil_append,if_pos rfl]
  have hne:((if t.c<0 then [45]else [])++Yd t.c.natAbs t.v.s:List UInt8)≠[]:=by
   intro e
   exact Na (.inr hv) (List.append_eq_nil_iff.1 e).2
  rw[Dh x _ hne fun u hu=>hn u (by simp[hu])]
  have hne2 : ¬ ((if t.c<0 then [45]else [])++Yd t.c.natAbs t.v.s++Yc (x.map fun t=>(t.c,t.v.s)):List UInt8)=[]:=fun e=>hne (List.append_eq_nil_iff.1 e).1
  rw[decide_eq_false hne2,Bool.or_false]
  show _=QN (((t.c,t.v.s)::x.map fun t=>(t.c,t.v.s))++if (decide (l.k≠0)||false)=true then [(l.k,[])]else [])
  rw[Bool.or_false]
  by_cases hk:l.k=0
  ·rw[decide_eq_false (show ¬ l.k≠0 from fun h=>h hk),if_neg (show ¬ (false=true) by simp),if_neg (show ¬ (false=true) by simp),List.append_nil,QN,List.append_assoc]
  ·rw[decide_eq_true hk,if_pos (show true=true from rfl),if_pos (show true=true from rfl),Bz,if_neg hne2,List.cons_append,QN,OX]
   have:(if l.k<0 then [45]else [43]:List UInt8)=AB l.k:=rfl
   rw[this]
   simp[Yc]
theorem Sb{l:Lin}(h:Zh l=true): ∀ q∈Wd l,PX q:=by
 intro q hq
 unfold Wd at hq
 rcases List.mem_append.1 hq with hq|hq
 ·obtain⟨t,ht,rfl⟩:=List.mem_map.1 hq
  obtain⟨a,b,c,d⟩:=Yf h ht
  exact⟨by show t.c.natAbs<=_;omega,.inr ⟨a,by show 1<=t.c.natAbs;omega⟩⟩
 ·have hk:=KV h
  split at hq
  ·have:q=(l.k,[]):=by simpa using hq
   subst this
   exact⟨by show l.k.natAbs<=_;omega,.inl rfl⟩
  ·cases hq
theorem PU{l:Lin}(h:Zh l=true):(Wd l).foldl QX ⟨0,[]⟩=l:=by
 have hk:=KV h
 have ht:=Dk l.t [] 0 (Js h) (Tg h) fun t ht=>⟨ER h t ht,(GA h t ht).2⟩
 rw[List.nil_append]at ht
 unfold Wd
 rw[List.foldl_append,ht]
 by_cases h0:l.k=0
 ·by_cases he:l.t.isEmpty=true
  ·rw[he,Bool.or_true,if_pos rfl]
   show QX ⟨0,l.t⟩ (l.k,[])=l
   unfold QX
   rw[if_pos rfl,h0]
   cases l
   simp only at h0 ⊢
   rw[h0];rfl
  ·rw[decide_eq_false (by simpa using h0),Bool.false_or,if_neg he]
   cases l
   simp only at h0 ⊢
   rw[h0];rfl
 ·rw[decide_eq_true h0,Bool.true_or,if_pos rfl]
  show QX ⟨0,l.t⟩ (l.k,[])=l
  unfold QX
  rw[if_pos rfl]
  show(⟨Yb (0+Yb l.k),l.t⟩:Lin)=l
  rw[Int.zero_add,K4,Vz (by omega) (by omega)]
theorem Qe{l:Lin}(h:Zh l=true):Zm (Zw l)=(l,0):=by
 rw[H8 h]
 have hok:=Sb h
 have hf:=PU h
 cases hi:Wd l with
 | nil=>
  exfalso
  have : ∃ q,q∈Wd l:=by
   unfold Wd
   cases ht:l.t with
   | nil=>exact⟨(l.k,[]),by simp⟩
   | cons t x=>exact⟨(t.c,t.v.s),by simp⟩
  obtain⟨q,hq⟩:=this
  rw[hi]at hq;cases hq
 | cons q r=>
  rw[hi]at hok hf
  rw[RB (hok q (by simp)) fun p hp=>hok p (by simp[hp])]
  rw[List.foldl_cons]at hf
  rw[hf]
  unfold VI
  rw[if_pos h]
theorem HY{n:Nat}{v:List UInt8}(hn:n<=1000000)(hv:v.length<=30):(Yd n v).length<=37:=by
 have:=J5 6 n (by omega)
 unfold Yd
 rw[List.length_append]
 split
 ·omega
 ·split
  ·omega
  ·rw[List.length_nil];omega
theorem CK: ∀ r:List (Int×List UInt8),(∀ q∈r,PX q)->(Yc r).length<=r.length*38
 | [],_=>by simp[Yc]
 | q::r,h=>by
  have h1:=CK r fun p hp=>h p (by simp[hp])
  have hq:=h q (by simp)
  have hl:q.2.length<=30:=by
   rcases hq.2 with e|⟨e,_⟩
   ·rw[e];simp
   ·exact Wl e
  have h2:=HY hq.1 hl
  have h3:(AB q.1).length=1:=by unfold AB;split <;> rfl
  rw[Yc,List.length_append,List.length_append,h3,List.length_cons]
  omega
theorem CP(l:Lin):(Zw l).length<=1000:=by
 by_cases h:Zh l=true
 ·rw[H8 h]
  have hok:=Sb h
  have hv:=YK h
  have hl:(Wd l).length<=13:=by
   unfold Wd
   rw[List.length_append,List.length_map]
   split
   ·simp;omega
   ·simp;omega
  have ht:=CK _ hok
  have:(QN (Wd l)).length<=(Yc (Wd l)).length:=by
   cases Wd l with
   | nil=>exact Nat.le_refl _
   | cons q r=>
    rw[QN,Yc]
    simp only[List.length_append]
    have:(if q.1<0 then [45]else []:List UInt8).length<=(AB q.1).length:=by unfold AB;split <;> simp
    omega
  omega
 ·unfold Zw
  rw[if_neg h];simp
end Go.Pl

namespace Go.Pl
open Go.RowKit
open Enc (enc dec is)
open EncL (encL decL isL)
theorem Qd{n:Int}(h:n.natAbs<=1000000000):(ZB n).s.length<=11:=by
 have:=J5 9 n.natAbs (by omega)
 by_cases hn:n<0
 ·rw[U8 hn,List.length_cons];omega
 ·rw[Y5 hn];omega
theorem EZ{m:Nat}(h:m<10):List.drop m (List.take (m+1) [(48:UInt8),(49:UInt8),(50:UInt8),(51:UInt8),(52:UInt8),(53:UInt8),(54:UInt8),(55:UInt8),(56:UInt8),(57:UInt8)])=[UInt8.ofNat (48+m)]:=by
 revert h
 revert m
 decide
theorem LX(N:Nat): ∀ a:Int×Unit,((decide ((-1000000000:Int)<=a.1)&&decide (a.1<=1000000000))&&decide (PY a.1<N+1))=true->Zi (Av N) 0 (Ze Dq (ZH (ZB a.1))) GJ [] (Xw a0a (encL a)):=by
 rintro⟨n,⟨⟩⟩ h
 simp only[Bool.and_eq_true,decide_eq_true_eq]at h
 obtain⟨⟨h1,h2⟩,h3⟩:=h
 unfold PY at h3
 have hpre : ∀ k:Int,-1000000000<=k->k<=1000000000->PY k<N->Go.Pl.preT (fun(x:Int×Unit)=>decide ((-1000000000:Int)<=Prod.fst x)&&decide (Prod.fst x<=1000000000)&&decide (PY (Prod.fst x)<N)) [(.int .i64 k)]=true:=fun k a b c=>Zn (k,()) rfl (by rw[decide_eq_true a,decide_eq_true b,decide_eq_true c];rfl)
 refine a2t N n (XP (fun hn=> ?_) fun hn=>XP (fun h10=> ?_) fun h10=> ?_)
 ·rw[QR (by omega) (by omega)]
  refine⟨hpre _ (by omega) (by omega) (by unfold PY;rw[if_pos hn]at h3;rw[if_neg (by omega)];omega),Zl (-n,()) rfl ⟨?_,?_⟩⟩
  ·have:=Qd (n:= -n) (by omega)
   exact decide_eq_true (by simp only[List.length_singleton];omega)
  ·refine Yv (x:=(⟨[(45:UInt8)]++(ZB (-n)).s⟩:Str)) ?_
   show(⟨[(45:UInt8)]++(ZB (-n)).s⟩:Str)=⟨(ZB n).s⟩
   rw[Y5 (n:= -n) (by omega),U8 hn,Int.natAbs_neg];rfl
 ·obtain⟨m,rfl⟩ : ∃ m:Nat,n=m:=⟨n.toNat,by omega⟩
  have hm:m<10:=by omega
  rw[QR (by omega) (by omega)]
  have e1:((m:Int)+1).toNat=m+1:=by omega
  refine⟨?_,?_⟩
  ·rw[e1,Int.toNat_natCast,decide_eq_true (show(0:Int)<=m by omega),decide_eq_true (show(0:Int)<=(m:Int)+1 by omega),decide_eq_true (show m<=m+1 by omega)]
   exact decide_eq_true (by simp only[List.length_cons,List.length_nil];omega)
  ·rw[e1,Int.toNat_natCast,EZ hm]
   refine Yv (x:=(⟨[UInt8.ofNat (48+m)]⟩:Str)) ?_
   show(⟨[UInt8.ofNat (48+m)]⟩:Str)=⟨(ZB (m:Int)).s⟩
   rw[Y5 (by omega),Int.natAbs_natCast,XW hm]
 ·obtain⟨m,rfl⟩ : ∃ m:Nat,n=m:=⟨n.toNat,by omega⟩
  have e1:Int.tdiv (m:Int) 10=((m / 10:Nat):Int):=by rw[Int.tdiv_eq_ediv_of_nonneg (by omega)];omega
  have e2:Int.tmod (m:Int) 10=((m % 10:Nat):Int):=by rw[Int.tmod_eq_emod_of_nonneg (by omega)];omega
  rw[e1,e2,QR (by omega) (by omega)]
  rw[if_neg (by omega)]at h3
  have i1:PY ((m / 10:Nat):Int)<N:=by unfold PY;rw[if_neg (by omega)];omega
  have i2:PY ((m % 10:Nat):Int)<N:=by unfold PY;rw[if_neg (by omega)];omega
  have l1:=Qd (n:=((m / 10:Nat):Int)) (by omega)
  have l2:=Qd (n:=((m % 10:Nat):Int)) (by omega)
  refine⟨hpre _ (by omega) (by omega) i1,Zl (((m / 10:Nat):Int),()) rfl ⟨hpre _ (by omega) (by omega) i2,Zl (((m % 10:Nat):Int),()) rfl ⟨decide_eq_true (by dsimp only;omega),?_⟩⟩⟩
  refine Yv (x:=(⟨(ZB ((m / 10:Nat):Int)).s++(ZB ((m % 10:Nat):Int)).s⟩:Str)) ?_
  show(⟨(ZB ((m / 10:Nat):Int)).s++(ZB ((m % 10:Nat):Int)).s⟩:Str)=⟨(ZB (m:Int)).s⟩
  rw[Y5 (by omega),Y5 (by omega),Y5 (by omega),Int.natAbs_natCast,Int.natAbs_natCast,Int.natAbs_natCast,Ak (u:=m) (by omega),XW (u:=m % 10) (by omega)]
theorem Ff{o s:List UInt8}{n:Int}(hs:s≠[])(hn:n≠0)(h1:n.natAbs<=1000000)(h2:s.length<=30):(ZZ o n s).length<=o.length+40:=by
 have:=HY (v:=s) h1 h2
 rw[Hz hs hn,List.length_append,List.length_append]
 have:(if n<0 then [45]else if o=[]then []else [43]:List UInt8).length<=1:=by split;exact Nat.le_refl _;split <;> simp
 omega
theorem A9(l:Lin)(hv:Zh l=true): ∀ (d i:Nat) (o:List UInt8),d+i=l.t.length->o=UE (l.t.take i)->o.length<=40*i->(o=[] ↔ i=0) ->
  At YM 0 (Ze Yl (ZH (⟨Zw l⟩:Str))) Ym 0 69 [(1,.ptr 0 0),(3,.pv (.str o)),(4,.pv (.int .i64 i))] [.obj (.box [.pv (.int .i64 l.k),.pv (enc l.t)])]:=by
 have hk:=KV hv
 have hlen:=YK hv
 intro d
 induction d with
 | zero=>
  intro i o hi ho hl h0
  have hi:i=l.t.length:=by omega
  rw[List.take_of_length_le (by omega)]at ho
  have hpk : ∀ k:Int,k=l.k->Go.Pl.preT (fun(x:Int×Unit)=>decide ((-1000000000:Int)<=Prod.fst x)&&decide (Prod.fst x<=1000000000)) [(.int .i64 k)]=true:=fun k e=>Zn (k,()) rfl (by rw[decide_eq_true (show(-1000000000:Int)<=k by omega),decide_eq_true (show k<=1000000000 by omega)];rfl)
  have hil:=Qd (n:=l.k) (by omega)
  have hR:Zw l=if decide (l.k≠0)||decide (o=[])then ZZ o l.k []else o:=by
   unfold Zw
   rw[if_pos hv,<- ho]
  refine CQ l o i (XG (Co (by omega)) (DN (fun hz=> ?_) fun hz=> ?_))
  ·have hz:i=0:=by
    simp only[List.length_map,beq_iff_eq]at hz
    omega
   have ho0:=h0.2 hz
   refine⟨hpk _ rfl,Zl (l.k,()) rfl (Yv (x:=ZB l.k) ?_)⟩
   show(⟨(ZB l.k).s⟩:Str)=⟨Zw l⟩
   rw[hR,decide_eq_true ho0,Bool.or_true,if_pos rfl,ho0]
   congr 1
   unfold ZZ
   rw[decide_eq_false (show ¬ ([]:List UInt8)≠[] by simp),Bool.and_false,Bool.false_and,if_neg (by simp),if_neg (by simp)]
   simp
  ·have hi0:i≠0:=by
    simp only[List.length_map,beq_iff_eq]at hz
    omega
   have ho0:o≠[]:=fun e=>hi0 (h0.1 e)
   rw[decide_eq_false ho0,Bool.or_false]at hR
   have hlo:o.length<=40*12:=by omega
   refine XP (fun hp=>⟨decide_eq_true (by simp only[List.length_singleton];omega),DN (fun hn=> ?_) fun hn=> ?_⟩) fun hp=>DN (fun hn=> ?_) fun hn=> ?_
   ·refine⟨hpk _ rfl,Zl (l.k,()) rfl ⟨decide_eq_true (by simp only[List.length_append,List.length_singleton];omega),?_⟩⟩
    refine Yv (x:=(⟨o++[(43:UInt8)]++(ZB l.k).s⟩:Str)) ?_
    rw[hR,decide_eq_true (by omega),if_pos rfl,Bz,if_neg (by omega),if_neg ho0,Y5 (by omega)]
    unfold Yd
    rw[if_pos rfl];simp
   ·have hz0:l.k=0:=by simpa using hn
    exact absurd hp (by omega)
   ·have hn:l.k≠0:=by simpa using hn
    refine⟨hpk _ rfl,Zl (l.k,()) rfl ⟨decide_eq_true (by dsimp only;omega),?_⟩⟩
    refine Yv (x:=(⟨o++(ZB l.k).s⟩:Str)) ?_
    rw[hR,decide_eq_true hn,if_pos rfl,Bz,if_pos (by omega),U8 (by omega)]
    unfold Yd
    rw[if_pos rfl];simp
   ·have hn:l.k=0:=by simpa using hn
    refine Yv (x:=(⟨o⟩:Str)) ?_
    rw[hR,decide_eq_false (by simpa using hn),if_neg (by simp)]
 | succ d ih=>
  intro i o hi ho hl h0
  have hlt:i<l.t.length:=by omega
  have hm:=List.getElem_mem hlt
  obtain⟨v1,v2,v3,v4⟩:=Yf hv hm
  have hs:=(GA hv _ hm).2
  have hsl:l.t[i].v.s.length<=30:=Wl v1
  have hpl:=Ff (o:=o) hs v2 (by omega) hsl
  have hpe:=Hz (o:=o) hs v2
  have nxt : ∀ o',o'=ZZ o l.t[i].c l.t[i].v.s->At YM 0 (Ze Yl (ZH (⟨Zw l⟩:Str))) Ym 0 69 [(1,.ptr 0 0),(3,.pv (.str o')),(4,.pv (.int .i64 (IntKind.i64.wrap ((i:Int)+1))))] [.obj (.box [.pv (.int .i64 l.k),.pv (enc l.t)])]:=by
   intro o' e
   rw[next (by omega)]
   refine ih (i+1) o' (by omega) ?_ (by rw[e];omega) ⟨fun h=> ?_,fun h=>by omega⟩
   ·rw[e,ho,List.take_succ_eq_append_getElem hlt]
    unfold UE
    rw[List.foldl_append];rfl
   ·rw[e,hpe]at h
    exact absurd (List.append_eq_nil_iff.1 (List.append_eq_nil_iff.1 h).2).2 (Na (.inr v1))
  have hcn:=HY (v:=l.t[i].v.s) (n:=l.t[i].c.natAbs) (by omega) hsl
  have hpk : ∀ k:Int,k.natAbs<=1000000->Go.Pl.preT (fun(x:Int×Unit)=>decide ((-1000000000:Int)<=Prod.fst x)&&decide (Prod.fst x<=1000000000)) [(.int .i64 k)]=true:=fun k e=>Zn (k,()) rfl (by rw[decide_eq_true (show(-1000000000:Int)<=k by omega),decide_eq_true (show k<=1000000000 by omega)];rfl)
  have hil : ∀ k:Int,k.natAbs<=1000000->(ZB k).s.length<=11:=fun k e=>Qd (by omega)
  refine CQ l o i (YD (Ct hlt) ⟨Xy hlt rfl,WP hlt ?_⟩)
  refine XP (fun hn=> ?_) fun hn=> ?_
  ·have hn:l.t[i].c<0:=hn
   have hw:IntKind.i64.wrap (-l.t[i].c) = -l.t[i].c:=QR (by omega) (by omega)
   refine⟨decide_eq_true (by simp only[List.length_singleton];omega),?_⟩
   show if decide (IntKind.i64.wrap (-l.t[i].c)>1)=true then _ else _
   refine XP (fun h1=> ?_) fun h1=> ?_
   ·rw[hw]at h1
    show Go.Pl.preT _ [(.int .i64 (IntKind.i64.wrap (-l.t[i].c)))]=true∧(∃ y1:Str,AV.pv (Zj _ [(.int .i64 (IntKind.i64.wrap (-l.t[i].c)))])=AV.pv (enc y1)∧_)
    rw[hw]
    have hi1:=hil (-l.t[i].c) (by omega)
    refine⟨hpk _ (by omega),Zl (-l.t[i].c,()) rfl ⟨decide_eq_true (by simp only[List.length_append,List.length_singleton];omega),decide_eq_true ?_,nxt _ ?_⟩⟩
    ·show(o++[(45:UInt8)]++(ZB (-l.t[i].c)).s).length+l.t[i].v.s.length<=_
     simp only[List.length_append,List.length_singleton];omega
    ·show o++[(45:UInt8)]++(ZB (-l.t[i].c)).s++l.t[i].v.s=_
     rw[hpe,if_pos hn,Y5 (by omega),Int.natAbs_neg]
     unfold Yd
     rw[if_neg hs,if_pos (by omega)];simp
   ·rw[hw]at h1
    refine⟨decide_eq_true ?_,nxt _ ?_⟩
    ·show(o++[(45:UInt8)]).length+l.t[i].v.s.length<=_
     simp only[List.length_append,List.length_singleton];omega
    ·show o++[(45:UInt8)]++l.t[i].v.s=_
     rw[hpe,if_pos hn]
     unfold Yd
     rw[if_neg hs,if_neg (by omega)];simp
  ·have hn : ¬ l.t[i].c<0:=hn
   refine XP (fun hi0=>⟨decide_eq_true (by simp only[List.length_singleton];omega),?_⟩) fun hi0=> ?_
   ·have ho0:o≠[]:=fun e=>by have:=h0.1 e;omega
    show if decide (l.t[i].c>1)=true then _ else _
    refine XP (fun h1=> ?_) fun h1=> ?_
    ·have hi1:=hil l.t[i].c (by omega)
     refine⟨hpk l.t[i].c (by omega),Zl (l.t[i].c,()) rfl ⟨decide_eq_true (by simp only[List.length_append,List.length_singleton];omega),decide_eq_true ?_,nxt _ ?_⟩⟩
     ·show(o++[(43:UInt8)]++(ZB l.t[i].c).s).length+l.t[i].v.s.length<=_
      simp only[List.length_append,List.length_singleton];omega
     ·show o++[(43:UInt8)]++(ZB l.t[i].c).s++l.t[i].v.s=_
      rw[hpe,if_neg hn,if_neg ho0,Y5 (by omega)]
      unfold Yd
      rw[if_neg hs,if_pos (by omega)];simp
    ·refine⟨decide_eq_true ?_,nxt _ ?_⟩
     ·show(o++[(43:UInt8)]).length+l.t[i].v.s.length<=_
      simp only[List.length_append,List.length_singleton];omega
     ·show o++[(43:UInt8)]++l.t[i].v.s=_
      rw[hpe,if_neg hn,if_neg ho0]
      unfold Yd
      rw[if_neg hs,if_neg (by omega)];simp
   ·have ho0:o=[]:=h0.2 (by omega)
    show if decide (l.t[i].c>1)=true then _ else _
    refine XP (fun h1=> ?_) fun h1=> ?_
    ·have hi1:=hil l.t[i].c (by omega)
     refine⟨hpk l.t[i].c (by omega),Zl (l.t[i].c,()) rfl ⟨decide_eq_true (by dsimp only;omega),decide_eq_true ?_,nxt _ ?_⟩⟩
     ·show(o++(ZB l.t[i].c).s).length+l.t[i].v.s.length<=_
      simp only[List.length_append];omega
     ·show o++(ZB l.t[i].c).s++l.t[i].v.s=_
      rw[hpe,if_neg hn,if_pos ho0,Y5 (by omega)]
      unfold Yd
      rw[if_neg hs,if_pos (by omega)];simp
    ·refine⟨decide_eq_true ?_,nxt _ ?_⟩
     ·show o.length+l.t[i].v.s.length<=_
      omega
     ·show o++l.t[i].v.s=_
      rw[hpe,if_neg hn,if_pos ho0]
      unfold Yd
      rw[if_neg hs,if_neg (by omega)];simp
theorem Rv: ∀ x:Lin×Unit,Zt x.1=true->Zi YM 0 (Ze Yl (ZH (⟨Zw x.1⟩:Str))) Ym [] (Xw Le (encL x)):=by
 rintro⟨l,⟨⟩⟩ h
 have hok:Zy l=true:=by
  unfold Zt at h
  rw[Bool.and_eq_true]at h;exact h.1
 refine Oz l ⟨Zn (l,()) rfl hok,Zl (l,()) rfl (Wv (fun hv=> ?_) fun hv=> ?_)⟩
 ·refine Yv (x:=(⟨[]⟩:Str)) ?_
  have hv:Zh l=false:=hv
  show(⟨[]⟩:Str)=⟨Zw l⟩
  unfold Zw
  rw[if_neg (by simp[hv])]
 ·exact A9 l hv l.t.length 0 [] rfl rfl (by simp) (by simp)
theorem OT{s r:List UInt8}(h:r <:+ s):s.drop (s.length - r.length)=r:=(List.suffix_iff_eq_drop.1 h).symm
theorem Ad(k:Int)(r:List UInt8):(UN k r).2 <:+ r:=List.drop_suffix _ _
theorem EC(r:List UInt8):(Z4 r).2 <:+ r:=by
 have h1:r.dropWhile digB <:+ r:=List.dropWhile_suffix _
 have h2 : ∀ (k:Int) (q:List UInt8),(XN k q).2 <:+ q:=by
  intro k q
  unfold XN
  have hb:Za q <:+ q:=List.dropWhile_suffix _
  cases he:Za q with
  | nil=>exact List.suffix_refl _
  | cons c t=>
   simp only
   rw[he]at hb
   have ht:Za t <:+ q:=(List.dropWhile_suffix _).trans ((List.suffix_cons c t).trans hb)
   split
   ·split
    ·exact ht
    ·exact(Ad _ _).trans ht
   ·exact List.suffix_refl _
 unfold Z4
 split
 ·exact h1
 ·split
  ·exact(Ad _ _).trans h1
  ·split
   ·exact(Ad _ _).trans h1
   ·exact(h2 _ _).trans h1
theorem a5n(s:List UInt8){q:Nat}(hq:q<=s.length): ∃ j:Nat,BK s q=j∧q<=j∧j<=s.length∧s.drop j=(Z4 (s.drop q)).2:=by
 have h:=EC (s.drop q)
 have h2:(Z4 (s.drop q)).2 <:+ s:=h.trans (List.drop_suffix _ _)
 have hl:=h.length_le
 rw[List.length_drop]at hl
 refine⟨s.length - (Z4 (s.drop q)).2.length,?_,by omega,by omega,OT h2⟩
 unfold BK Bn
 rw[VP]
 omega
theorem Nf(s:List UInt8){q:Nat}(hq:q<=s.length):
  (J7 45 s q=true->ZM (s.drop q)=((-1,true),s.drop (q+1))∧q+1<=s.length∧Y3 45 s q=((q+1:Nat):Int)) ∧
  (J7 45 s q=false->Y3 45 s q=q∧(J7 43 s q=true->ZM (s.drop q)=((1,true),s.drop (q+1))∧q+1<=s.length∧Y3 43 s q=((q+1:Nat):Int))∧(J7 43 s q=false->ZM (s.drop q)=((1,false),s.drop q)∧Y3 43 s q=q)):=by
 by_cases hl:q<s.length
 ·have hc : ∀ {k:Nat} {c:UInt8},c.toNat=k->((s[q].toNat:Int)=k ↔ s[q]=c):=by
   intro k c hk
   rw[<- UInt8.toNat_inj]
   omega
  rw[WH hl]
  unfold Y3
  rw[Gh hl,Gh hl]
  have h45:((s[q].toNat:Int)=45 ↔ s[q]=45):=hc (c:=45) rfl
  have h43:((s[q].toNat:Int)=43 ↔ s[q]=43):=hc (c:=43) rfl
  refine⟨fun h=> ?_,fun h=>⟨by rw[if_neg (by rw[h];simp)],fun h2=> ?_,fun h2=> ?_⟩⟩
  ·have e:=h45.1 (of_decide_eq_true h)
   rw[if_pos h]
   refine⟨?_,by omega,by omega⟩
   show(if s[q]=43 then _ else if s[q]=45 then _ else _)=_
   rw[if_neg (by rw[e];decide),if_pos e]
  ·have e:=h43.1 (of_decide_eq_true h2)
   rw[if_pos h2]
   refine⟨?_,by omega,by omega⟩
   show(if s[q]=43 then _ else if s[q]=45 then _ else _)=_
   rw[if_pos e]
  ·rw[if_neg (by rw[h2];simp)]
   refine⟨?_,rfl⟩
   show(if s[q]=43 then _ else if s[q]=45 then _ else _)=_
   rw[if_neg fun e=>(of_decide_eq_false h2) (h43.2 e),if_neg fun e=>(of_decide_eq_false h) (h45.2 e)]
 ·unfold Y3
  rw[Ah hl,Ah hl,List.drop_of_length_le (by omega)]
  exact⟨fun h=>(by cases h),fun _=>⟨rfl,fun h=>(by cases h),fun _=>⟨rfl,rfl⟩⟩⟩
theorem a1v(l:Lin)(z:(Int×List UInt8×Bool)×List UInt8)(g:Int):(Vp l z g).t.length<=l.t.length+1:=by
 unfold Vp
 split
 ·show l.t.length<=_;omega
 ·exact FH _ _ _
theorem Sy (s : List UInt8) (hs : s.length <= 400000) : ∀ (f i : Nat) (l : Lin) (p : PV) (g : Int), s.length < f + i -> i <= s.length -> is (List Coef) p = true -> (dec p : List Coef) = l.t -> l.t.length <= i -> ∀ R, R = XA f (s.drop i) l g ->
    At Yq 0 (Ze Z8 (ZH R)) Z9 0 69 [(2,.ptr 0 0),(4,.ptr 1 0),(5,.ptr 2 0),(6,.pv (.int .i64 g))] [.obj (.box [.pv (.int .i64 0),.pv (.sl 0 true [])]),.obj (.box [.pv (.str s),.pv (.int .i64 i)]),.obj (.box [.pv (.int .i64 l.k),.pv p])]:=by
  intro f
  induction f with
  | zero=>intro i l p g h1 h2;omega
  | succ f ih=>
    intro i l p g h1 h2 hp1 hp2 hll R hR
    obtain⟨q,e1,q1,q2,q3⟩:=Uc s h2
    obtain⟨j,e2,j1,j2,j3⟩:=a5n s q2
    obtain⟨b,e3,b1,b2,b3⟩:=Uc s j2
    have hz:Z4 (Za (s.drop i))=Z4 (s.drop q):=by rw[q3]
    rw[XA,hz,<- j3,<- b3]at hR
    have hO:itO s q=(Z4 (s.drop q)).1.2.2:=rfl
    have hV:itV s q=(Z4 (s.drop q)).1.2.1:=rfl
    have hK:itK s q=(Z4 (s.drop q)).1.1:=rfl
    have hal:=a1v l (Z4 (s.drop q)) g
    refine Fs s i l.k p g ⟨UT h2 (by omega),?_⟩
    rw[e1,e2,e3,hO,hV,hK]
    generalize hzz:Z4 (s.drop q)=z at hR hal
    refine⟨UT q2 (by omega),Wv (fun hok=> ?_) fun hok=> ?_⟩
    · rw[if_pos hok]at hR
      rw[hR]
      exact Yv (x:=((⟨0,[]⟩:Lin),(6:Int))) rfl
    · rw[if_neg (by rw[hok];simp)]at hR
      -- the sign that follows
      have hsgn : ∀ (L' : Lin) (p' : PV), L' = Vp l z g -> is (List Coef) p' = true -> (dec p' : List Coef) = L'.t -> ¬ s.drop b = [] ->
          Yy [(.ptr 0 0),(.pv (.int .u8 45))] [(.box [(.pv (.str s)),(.pv (.int .i64 (b:Nat)))])]=true ∧
          (if J7 45 s b=true then At Yq 0 (Ze Z8 (ZH R)) Z9 0 69 [(2,.ptr 0 0),(4,.ptr 1 0),(5,.ptr 2 0),(6,.pv (.int .i64 (-1)))] [.obj (.box [.pv (.int .i64 0),.pv (.sl 0 true [])]),.obj (.box [.pv (.str s),.pv (.int .i64 (Y3 45 s b))]),.obj (.box [.pv (.int .i64 L'.k),.pv p'])]
           else Yy [(.ptr 0 0),(.pv (.int .u8 43))] [(.box [(.pv (.str s)),(.pv (.int .i64 (Y3 45 s b)))])]=true ∧
            (if J7 43 s (Y3 45 s b)=true then At Yq 0 (Ze Z8 (ZH R)) Z9 0 69 [(2,.ptr 0 0),(4,.ptr 1 0),(5,.ptr 2 0),(6,.pv (.int .i64 1))] [.obj (.box [.pv (.int .i64 0),.pv (.sl 0 true [])]),.obj (.box [.pv (.str s),.pv (.int .i64 (Y3 43 s (Y3 45 s b)))]),.obj (.box [.pv (.int .i64 L'.k),.pv p'])]
             else ZH R (.tup [(.agg [(.int .i64 0),(.sl 0 true [])]),(.int .i64 6)]))):=by
        intro L' p' hL hq1 hq2 hne
        obtain⟨s1,s2⟩:=Nf s b2
        rw[if_neg hne]at hR
        rw[<- hL]at hR hal
        refine⟨Ko b2 (by omega),Vi (fun h45=> ?_) fun h45=> ?_⟩
        · obtain⟨a1,a2,a3⟩:=s1 h45
          rw[a1,if_neg (by simp)]at hR
          rw[a3]
          exact ih (b+1) L' p' (-1) (by omega) a2 hq1 hq2 (by omega) R hR
        · obtain⟨c1,c2,c3⟩:=s2 h45
          rw[c1]
          refine⟨Ko b2 (by omega),Vi (fun h43=> ?_) fun h43=> ?_⟩
          · obtain⟨a1,a2,a3⟩:=c2 h43
            rw[a1,if_neg (by simp)]at hR
            rw[a3]
            exact ih (b+1) L' p' 1 (by omega) a2 hq1 hq2 (by omega) R hR
          · obtain⟨a1,a2⟩:=c3 h43
            rw[a1,if_pos rfl]at hR
            rw[hR]
            exact Yv (x:=((⟨0,[]⟩:Lin),(6:Int))) rfl
      have hend:(b:Int)=(s.length:Int) ↔ s.drop b=[]:=by
        rw[List.drop_eq_nil_iff];omega
      refine Wu (fun hv=> ?_) fun hv=> ?_
      · have hL:(⟨IntKind.i64.wrap (l.k+IntKind.i64.wrap (g*z.1.1)),l.t⟩:Lin)=Vp l z g:=by unfold Vp;rw[if_pos hv]
        refine⟨UT j2 (by omega),Wu (fun hb=> ?_) fun hb=> ?_⟩
        · rw[if_pos (hend.1 hb),<- hL]at hR
          have i1:isL (Lin×Unit) [.agg [.int .i64 (IntKind.i64.wrap (l.k+IntKind.i64.wrap (g*z.1.1))),p]]=true:=by
            show((true&&is (List Coef) p)&&true)=true
            rw[hp1];rfl
          have d1:(decL [.agg [.int .i64 (IntKind.i64.wrap (l.k+IntKind.i64.wrap (g*z.1.1))),p]]:Lin×Unit)=(⟨IntKind.i64.wrap (l.k+IntKind.i64.wrap (g*z.1.1)),l.t⟩,()):=by
            show((⟨IntKind.i64.wrap (l.k+IntKind.i64.wrap (g*z.1.1)),dec p⟩:Lin),())=_
            rw[hp2]
          refine⟨Mh _ i1 d1 (decide_eq_true (by show l.t.length<=_;omega)),Jc _ d1 ?_⟩
          rw[hR]
          exact Yv (x:=VI ⟨IntKind.i64.wrap (l.k+IntKind.i64.wrap (g*z.1.1)),l.t⟩) rfl
        · exact hsgn ⟨_,l.t⟩ p hL hp1 hp2 fun e=>hb (hend.2 e)
      · have hL:Wh l ⟨z.1.2.1⟩ (IntKind.i64.wrap (g*z.1.1))=Vp l z g:=by unfold Vp;rw[if_neg hv]
        have i1:isL (Lin×Str×Int×Unit) [.agg [.int .i64 l.k,p],.str z.1.2.1,.int .i64 (IntKind.i64.wrap (g*z.1.1))]=true:=by
          show((true&&is (List Coef) p)&&(true&&(true&&true)))=true
          rw[hp1];rfl
        have d1:(decL [.agg [.int .i64 l.k,p],.str z.1.2.1,.int .i64 (IntKind.i64.wrap (g*z.1.1))]:Lin×Str×Int×Unit)=(l,⟨z.1.2.1⟩,IntKind.i64.wrap (g*z.1.1),()):=by
          show((⟨l.k,dec p⟩:Lin),(⟨z.1.2.1⟩:Str),IntKind.i64.wrap (g*z.1.1),())=_
          rw[hp2]
        refine⟨Mh _ i1 d1 (decide_eq_true (by show l.t.length<=_;omega)),Jc _ d1 ?_⟩
        simp only[hL]
        refine⟨UT j2 (by omega),Wu (fun hb=> ?_) fun hb=> ?_⟩
        · rw[if_pos (hend.1 hb)]at hR
          refine⟨Zn (Vp l z g,()) rfl (decide_eq_true (by dsimp only;omega)),Zl (Vp l z g,()) rfl ?_⟩
          rw[hR]
          exact Yv (x:=VI (Vp l z g)) rfl
        · exact hsgn (Vp l z g) (enc (Vp l z g).t) rfl (Enc.is_enc _) (Enc.dec_enc _) fun e=>hb (hend.2 e)
theorem RF: ∀ x:Str×Unit,decide (x.1.s.length<=400000)=true->Zi Yq 0 (Ze Z8 (ZH (Zm x.1.s))) Z9 [] (Xw CU (encL x)):=by
 rintro⟨⟨s⟩,⟨⟩⟩ h
 have h:s.length<=400000:=by simpa using h
 show Zi Yq 0 (Ze Z8 (ZH (Zm s))) Z9 [] (Xw CU [.str s])
 obtain⟨q,e1,q1,q2,q3⟩:=Uc s (Nat.zero_le s.length)
 have e1:bB s 0=q:=e1
 have q3:s.drop q=Za s:=q3
 obtain⟨s1,s2⟩:=Nf s q2
 have hl : ∀ (i:Nat) (g:Int),i<=s.length->Zm s=XA (s.length+1) (s.drop i) ⟨0,[]⟩ g->At Yq 0 (Ze Z8 (ZH (Zm s))) Z9 0 69 [(2,.ptr 0 0),(4,.ptr 1 0),(5,.ptr 2 0),(6,.pv (.int .i64 g))] [.obj (.box [.pv (.int .i64 0),.pv (.sl 0 true [])]),.obj (.box [.pv (.str s),.pv (.int .i64 i)]),.obj (.box [.pv (.int .i64 0),.pv (.sl 0 true [])])]:=fun i g hi hR=>Sy s h (s.length+1) i ⟨0,[]⟩ (.sl 0 true []) g (by omega) hi rfl rfl (Nat.zero_le _) _ hR
 have hR:=(Kn s).symm
 rw[<- q3]at hR
 refine Oc s ⟨UT (j:=0) (Nat.zero_le _) (by omega),?_⟩
 rw[e1]
 refine⟨Ko q2 (by omega),Vi (fun h45=> ?_) fun h45=> ?_⟩
 ·obtain⟨a1,a2,a3⟩:=s1 h45
  rw[a1]at hR
  rw[a3]
  exact hl (q+1) (-1) a2 hR
 ·obtain⟨c1,c2,c3⟩:=s2 h45
  rw[c1]
  refine⟨Ko q2 (by omega),?_⟩
  cases h43:J7 43 s q with
  | true=>
   obtain⟨a1,a2,a3⟩:=c2 h43
   rw[a1]at hR
   rw[a3]
   exact hl (q+1) 1 a2 hR
  | false=>
   obtain⟨a1,a2⟩:=c3 h43
   rw[a1]at hR
   rw[a2]
   exact hl q 1 q2 hR
theorem Gp: ∀ l:List Coef,Ky l l=0
 | []=>rfl
 | x::l=>by
  have h1 : ¬ x.v.s<x.v.s:=List.lt_irrefl _
  have h2 : ¬ x.c<x.c:=by omega
  rw[Ky,if_neg (by rintro(h|⟨_,h⟩);exact h1 h;exact h2 h),if_pos rfl,Gp l]
theorem FB(l:Lin):(UQ l l==0)=true:=by
 have:UQ l l=0:=by
  simp[UQ,Gp,U3]
 rw[this];rfl
theorem a3z{l:Lin}{n:Int}(h:Al l n=true)(hn:n<=1000):Zt l=true∧(l.t.length:Int)<=n:=by
 unfold Al at h
 simp only[Bool.and_eq_true,decide_eq_true_eq]at h
 refine⟨?_,h.2⟩
 unfold Zt Zy
 rw[Bool.and_eq_true]
 refine⟨decide_eq_true (by omega),List.all_eq_true.2 fun t ht=> ?_⟩
 have:=List.all_eq_true.1 h.1 t ht
 have:=of_decide_eq_true this
 exact decide_eq_true (by omega)
theorem TM{s:List UInt8}(h:(Zm s).2=0):Zh (Zm s).1=true:=by
 have : ∀ (f:Nat) (t:List UInt8) (l:Lin) (g:Int),(XA f t l g).2=0->Zh (XA f t l g).1=true:=by
  intro f
  induction f with
  | zero=>intro t l g h;cases h
  | succ f ih=>
   intro t l g h
   rw[XA]at h ⊢
   split at h
   ·cases h
   ·rename_i h1
    rw[if_neg h1]
    split at h
    ·rename_i h2
     rw[if_pos h2]
     unfold VI at h ⊢
     split at h
     ·rename_i h3;rw[if_pos h3];exact h3
     ·cases h
    ·rename_i h2
     rw[if_neg h2]
     split at h
     ·cases h
     ·rename_i h3
      rw[if_neg h3]
      exact ih _ _ _ h
 rw[<- Kn]at h ⊢
 exact this _ _ _ _ h
theorem Tn(s:List UInt8):Zt (Zm s).1=true:=by
 by_cases h:(Zm s).2=0
 ·exact Oa (TM h)
 ·have : ∀ (f:Nat) (t:List UInt8) (l:Lin) (g:Int),(XA f t l g).2≠0->(XA f t l g).1=⟨0,[]⟩:=by
   intro f
   induction f with
   | zero=>intro t l g h;rfl
   | succ f ih=>
    intro t l g h
    rw[XA]at h ⊢
    split at h
    ·rename_i h1;rw[if_pos h1]
    ·rename_i h1
     rw[if_neg h1]
     split at h
     ·rename_i h2
      rw[if_pos h2]
      unfold VI at h ⊢
      split at h
      ·exact absurd rfl h
      ·rename_i h3;rw[if_neg h3]
     ·rename_i h2
      rw[if_neg h2]
      split at h
      ·rename_i h3;rw[if_pos h3]
      ·rename_i h3
       rw[if_neg h3]
       exact ih _ _ _ h
  rw[<- Kn]at h ⊢
  rw[this _ _ _ _ h]
  decide
theorem MB: ∀ x:Lin×Str×Unit,Zy x.1=true->Zi Ho 0 (Ze KY (ZH true)) Ki [] (Xw Tw (encL x)):=by
 rintro⟨l,⟨s⟩,⟨⟩⟩ hp
 have hp:Zy l=true:=hp
 show Zi Ho 0 (Ze KY (ZH true)) Ki [] (Xw Tw [enc l,.str s])
 refine a5o l s (Zl () rfl (XG (by simp) ⟨Zn (l,(14:Int),()) rfl hp,Zl (l,(14:Int),()) rfl ?_⟩))
 refine Wv (fun _=>Yi rfl) fun hf=>XP (fun _=>Yi rfl) fun h100=> ?_
 have hsm:Zt l=true:=(a3z (n:=14) hf (by decide)).1
 have hpl:=CP l
 have h100:s.length<=100:=by omega
 have hps:decide (s.length<=400000)=true:=decide_eq_true (by omega)
 have hpt : ∀ x:Lin,decide ((Zw x).length<=400000)=true:=fun x=>decide_eq_true (by have:=CP x;omega)
 have hlin : ∀ x:List UInt8,Zy (Zm x).1=true:=fun x=>by
  have:=Tn x
  unfold Zt at this
  rw[Bool.and_eq_true]at this;exact this.1
 have hcmp : ∀ x:Lin,(UQ x x==0)=true:=fun x=>FB x
 have hlast:(Zm s).2=0->Zm (Zw (Zm s).1)=((Zm s).1,0):=fun h=>Qe (TM h)
 refine⟨Zn (l,()) rfl hsm,Zl (l,()) rfl ⟨Zn (l,()) rfl hsm,Zl (l,()) rfl (XG (by simp) ⟨Zn (⟨Zw l⟩,()) rfl (hpt l),Zl (⟨Zw l⟩,()) rfl ⟨Zn (l,()) rfl hp,Zl (l,()) rfl ?_⟩⟩)⟩⟩
 have hend:Go.Pl.preT (fun(x:Str×Unit)=>decide (List.length (Str.s (Prod.fst x))<=400000)) [(.str s)]=true:=Zn (⟨s⟩,()) rfl hps
 refine Vi (fun hv=>XG ?_ ⟨Zn ((Zm (Zw l)).1,l,()) rfl (hlin _),Zl ((Zm (Zw l)).1,l,()) rfl (XG ?_ ?_)⟩) fun hv=> ?_
 ·show ¬ ((Zm (Zw l)).2 != 0)=true
  rw[Qe hv];simp
 ·show ¬ (!(UQ (Zm (Zw l)).1 l==0))=true
  rw[Qe hv,hcmp];simp
 all_goals
  refine⟨hend,Zl (⟨s⟩,()) rfl ⟨hend,Zl (⟨s⟩,()) rfl ⟨Zn ((Zm s).1,(Zm s).1,()) rfl (hlin _),Zl ((Zm s).1,(Zm s).1,()) rfl (XG ?_ (XG ?_ ⟨Zn ((Zm s).1,()) rfl (Tn s),Zl ((Zm s).1,()) rfl ⟨Zn (⟨Zw (Zm s).1⟩,()) rfl (hpt _),Zl (⟨Zw (Zm s).1⟩,()) rfl (DN (fun _=>Yi rfl) fun h0=> ?_)⟩⟩))⟩⟩⟩
  ·show ¬ (!(UQ (Zm s).1 (Zm s).1==0))=true
   rw[hcmp];simp
  ·show ¬ ((Zm s).2 != (Zm s).2)=true
   simp
  ·have h0:(Zm s).2=0:=by simpa using h0
   have e:=hlast h0
   refine YD ?_ ⟨Zn ((Zm (Zw (Zm s).1)).1,(Zm s).1,()) rfl (hlin _),Zl ((Zm (Zw (Zm s).1)).1,(Zm s).1,()) rfl (Yi ?_)⟩
   ·show((Zm (Zw (Zm s).1)).2==0)=true
    rw[e];rfl
   ·show(UQ (Zm (Zw (Zm s).1)).1 (Zm s).1==0)=true
    rw[e];exact hcmp _
end Go.Pl

