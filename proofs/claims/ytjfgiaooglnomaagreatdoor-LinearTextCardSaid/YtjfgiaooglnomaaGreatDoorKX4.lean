/-
  Texts of mine that belong together (packed by pack.py), for every input: GLz, GLy, QLy, QLz, QL8, GL9, QL9, GL0, QL0, QLi4, QRk, QLs4, TyD, GTx, QTx, QTy, TyTt, TyTu, QTz.
-/
import Derived.Test.YtjfgiaooglnomaaGreatDoorKX3
import Derived.KernelRfl
import Derived.Lib.ItoaLen
set_option linter.unusedVariables false
set_option linter.unusedSimpArgs false
namespace Go.Pl
open Go.RowKit
open Enc (enc dec is)
open EncL (encL decL isL)
set_option maxRecDepth 100000
def Hd:IC:=(.seq (.reg [⟨(some 4),(.mv (.c (.bool false))),0,none⟩] none) (.seq (.seq (.reg [⟨(some 11),(.mv (.t 0)),0,none⟩,⟨(some 12),(.nilchk (.t 11)),0,none⟩,⟨(some 13),(.faddr 0 (.t 12)),0,none⟩,⟨(some 14),(.load false [.str] (.t 13)),0,none⟩,⟨(some 15),(.bin .num .eql (.t 14) (.c (.str []))),0,none⟩] none) (.cond (.t 15) (.seq (.reg [⟨(some 4),(.mv (.c (.bool false))),0,none⟩] none) .ret) .skip)) (.seq (.seq (.reg [⟨(some 16),(.mv (.t 0)),0,none⟩,⟨(some 17),(.nilchk (.t 16)),0,none⟩,⟨(some 18),(.faddr 0 (.t 17)),0,none⟩,⟨(some 19),(.load false [.str] (.t 18)),0,none⟩,⟨(some 20),(.index (.t 19) (.c (.int .i64 0))),0,none⟩,⟨(some 21),(.call (.c (.fn 148)) [(.t 20)]),0,none⟩,⟨(some 22),(.un .not (.t 21)),2,none⟩] none) (.cond (.t 22) (.seq (.reg [⟨(some 24),(.mv (.t 0)),0,none⟩,⟨(some 25),(.call (.c (.fn 149)) [(.t 24)]),0,none⟩,⟨(some 23),(.mv (.t 25)),2,none⟩,⟨(some 26),(.extract (.t 23) 0),2,none⟩,⟨(some 27),(.extract (.t 23) 1),2,none⟩,⟨(some 5),(.mv (.t 26)),2,none⟩,⟨(some 6),(.mv (.t 27)),2,none⟩] none) (.seq (.reg [⟨(some 28),(.mv (.t 0)),0,none⟩,⟨(some 29),(.nilchk (.t 28)),0,none⟩,⟨(some 30),(.faddr 1 (.t 29)),0,none⟩,⟨(some 31),(.faddr 1 (.t 30)),0,none⟩,⟨(some 32),(.load false [.any] (.t 31)),0,none⟩,⟨(some 33),(.mv (.t 5)),0,none⟩,⟨(some 34),(.lookup true (.int .i64) (.int .i64 0) false (.t 32) (.t 33)),0,none⟩,⟨(some 35),(.mv (.t 1)),0,none⟩,⟨(some 36),(.bin .num .add (.t 34) (.t 35)),0,none⟩,⟨none,(.mapupd true (.t 32) (.t 33) (.t 36)),0,none⟩] none) (.seq (.reg [⟨(some 37),(.mv (.t 6)),0,none⟩,⟨(some 4),(.mv (.t 37)),0,none⟩] none) .ret))) .skip)) (.seq (.reg [⟨(some 39),(.mv (.t 0)),0,none⟩,⟨(some 40),(.call (.c (.fn 150)) [(.t 39)]),0,none⟩,⟨(some 38),(.mv (.t 40)),2,none⟩,⟨(some 41),(.extract (.t 38) 0),2,none⟩,⟨(some 42),(.extract (.t 38) 1),2,none⟩,⟨(some 7),(.mv (.t 41)),2,none⟩,⟨(some 8),(.mv (.t 42)),2,none⟩] none) (.seq (.seq (.reg [⟨(some 43),(.mv (.t 8)),0,none⟩,⟨(some 44),(.un .not (.t 43)),0,none⟩] none) (.cond (.t 44) (.seq (.reg [⟨(some 4),(.mv (.c (.bool false))),0,none⟩] none) .ret) .skip)) (.seq (.reg [⟨(some 45),(.mv (.t 0)),0,none⟩,⟨(some 46),(.nilchk (.t 45)),0,none⟩,⟨(some 47),(.faddr 0 (.t 46)),0,none⟩,⟨(some 48),(.load false [.str] (.t 47)),0,none⟩,⟨(some 49),(.call (.c (.fn 151)) [(.t 48),(.c (.str [32]))]),0,none⟩,⟨(some 9),(.mv (.t 49)),2,none⟩] none) (.seq (.block 0 (.seq (.reg [⟨(some 51),(.mv (.t 9)),0,none⟩,⟨(some 52),(.call (.c (.fn 152)) [(.t 51),(.c (.str [42]))]),0,none⟩,⟨(some 50),(.mv (.t 52)),2,none⟩] none) (.cond (.t 50) (.seq (.reg [⟨(some 53),(.mv (.t 0)),0,none⟩,⟨(some 54),(.mv (.t 9)),0,none⟩,⟨(some 55),(.strslc (.t 54) (some (.c (.int .i64 1))) none),0,none⟩,⟨(some 56),(.nilchk (.t 53)),0,none⟩,⟨(some 57),(.faddr 0 (.t 56)),0,none⟩,⟨none,(.store 1 (.t 57) (.t 55)),0,none⟩] none) (.reg [⟨(some 58),(.mv (.t 0)),0,none⟩,⟨(some 59),(.call (.c (.fn 80)) [(.t 58)]),0,none⟩] none)) (.seq (.reg [⟨(some 61),(.mv (.t 0)),0,none⟩,⟨(some 62),(.nilchk (.t 61)),0,none⟩,⟨(some 63),(.faddr 0 (.t 62)),0,none⟩,⟨(some 64),(.load false [.str] (.t 63)),0,none⟩,⟨(some 65),(.bin .num .eql (.t 64) (.c (.str []))),0,none⟩,⟨(some 66),(.mv (.t 65)),0,none⟩,⟨(some 67),(.mv (.t 0)),0,(some (66,false))⟩,⟨(some 68),(.nilchk (.t 67)),0,(some (66,false))⟩,⟨(some 69),(.faddr 0 (.t 68)),0,(some (66,false))⟩,⟨(some 70),(.load false [.str] (.t 69)),0,(some (66,false))⟩,⟨(some 71),(.index (.t 70) (.c (.int .i64 0))),0,(some (66,false))⟩,⟨(some 72),(.call (.c (.fn 153)) [(.t 71)]),0,(some (66,false))⟩,⟨(some 73),(.un .not (.t 72)),2,(some (66,false))⟩,⟨(some 74),(.pick (.t 66) (.c (.bool true)) (.t 73)),2,none⟩,⟨(some 60),(.mv (.t 74)),2,none⟩] none) (.cond (.t 60) (.seq (.reg [⟨(some 75),(.mv (.t 0)),0,none⟩,⟨(some 76),(.nilchk (.t 75)),0,none⟩,⟨(some 77),(.faddr 1 (.t 76)),0,none⟩,⟨(some 78),(.faddr 0 (.t 77)),0,none⟩,⟨(some 79),(.load false [(.int .i64)] (.t 78)),0,none⟩,⟨(some 80),(.mv (.t 1)),0,none⟩,⟨(some 81),(.mv (.t 7)),0,none⟩,⟨(some 82),(.bin .num .mul (.t 80) (.t 81)),0,none⟩,⟨(some 83),(.bin .num .add (.t 79) (.t 82)),0,none⟩,⟨(some 84),(.nilchk (.t 75)),0,none⟩,⟨(some 85),(.faddr 1 (.t 84)),0,none⟩,⟨(some 86),(.faddr 0 (.t 85)),0,none⟩,⟨none,(.store 1 (.t 86) (.t 83)),0,none⟩] none) (.seq (.reg [⟨(some 4),(.mv (.c (.bool true))),0,none⟩] none) .ret)) .skip))))) (.seq (.reg [⟨(some 88),(.mv (.t 0)),0,none⟩,⟨(some 89),(.call (.c (.fn 149)) [(.t 88)]),0,none⟩,⟨(some 87),(.mv (.t 89)),2,none⟩,⟨(some 90),(.extract (.t 87) 0),2,none⟩,⟨(some 91),(.extract (.t 87) 1),2,none⟩,⟨(some 10),(.mv (.t 90)),2,none⟩,⟨(some 8),(.mv (.t 91)),2,none⟩] none) (.seq (.reg [⟨(some 92),(.mv (.t 0)),0,none⟩,⟨(some 93),(.nilchk (.t 92)),0,none⟩,⟨(some 94),(.faddr 1 (.t 93)),0,none⟩,⟨(some 95),(.faddr 1 (.t 94)),0,none⟩,⟨(some 96),(.load false [.any] (.t 95)),0,none⟩,⟨(some 97),(.mv (.t 10)),0,none⟩,⟨(some 98),(.lookup true (.int .i64) (.int .i64 0) false (.t 96) (.t 97)),0,none⟩,⟨(some 99),(.mv (.t 1)),0,none⟩,⟨(some 100),(.mv (.t 7)),0,none⟩,⟨(some 101),(.bin .num .mul (.t 99) (.t 100)),0,none⟩,⟨(some 102),(.bin .num .add (.t 98) (.t 101)),0,none⟩,⟨none,(.mapupd true (.t 96) (.t 97) (.t 102)),0,none⟩] none) (.seq (.reg [⟨(some 103),(.mv (.t 8)),0,none⟩,⟨(some 4),(.mv (.t 103)),0,none⟩] none) .ret))))))))))
def KP:List IRes:=[(.tmp 4)]
abbrev NF:Nat:=104
def Dc:ZJ:=WI [(148,.pure (preT (fun _:UInt8×Unit=>true)) (Zk (fun x:UInt8×Unit=>Zj x.1))),(149,.own ZO UU),(150,.own ZO Uy),(151,.pure (preT (fun x:Str×Str×Unit=>decide (x.2.1=⟨[32]⟩))) (Zk (fun x:Str×Str×Unit=>(⟨Za x.1.s⟩:Str)))),(152,.pure (preT (fun _:Str×Str×Unit=>true)) (Zk (fun x:Str×Str×Unit=>x.2.1.s.isPrefixOf x.1.s))),(80,.own ZO UT),(153,.pure (preT (fun _:UInt8×Unit=>true)) (Zk (fun x:UInt8×Unit=>Zv x.1)))]
theorem a7z{G:AV×List AObj×List AObj->Prop}(s:List UInt8)(n:Int)(m:List (Str×Int))(g:Int)(h:if (s==[])=true then G (((.pv (.bool false)),([(.box [(.pv (.str s)),(.pv (.int .i64 n)),(.map 1)]),(.map (Zc m))],[])))else((decide (0<=0)&&decide (Int.toNat 0<List.length s))=true∧((Go.Pl.preT (fun(x:UInt8×Unit)=>true) [(.int IntKind.u8 (↑(UInt8.toNat (List.getD s (Int.toNat 0) (0:UInt8))):Int))])=true∧(∃ y0:Bool,AV.pv (Zk (fun(x:UInt8×Unit)=>Zj x.1) [(.int IntKind.u8 (↑(UInt8.toNat (List.getD s (Int.toNat 0) (0:UInt8))):Int))])=AV.pv (enc y0)∧(if (!y0)=true then(ZO [(.ptr 0 0)] [(.box [(.pv (.str s)),(.pv (.int .i64 n)),(.map 1)]),(.map (Zc m))])=true∧((Wu (PV.str (List.takeWhile Zv s)) (Zc m)&&Sh.fit (Sh.int .i64) (ZL (PV.str (List.takeWhile Zv s)) (PV.int .i64 0) (Zc m)))=true∧((JW (PV.str (List.takeWhile Zv s)) (PV.int .i64 (IntKind.wrap IntKind.i64 (PV.asInt (ZL (PV.str (List.takeWhile Zv s)) (PV.int .i64 0) (Zc m))+g))) (Zc m))=true∧(G (((.pv (.bool (Zr (Str.mk (List.takeWhile Zv s))))),([(.box [(.pv (.str (List.dropWhile Zv s))),(.pv (.int .i64 n)),(.map 1)]),(.map (JY (PV.str (List.takeWhile Zv s)) (PV.int .i64 (IntKind.wrap IntKind.i64 (PV.asInt (ZL (PV.str (List.takeWhile Zv s)) (PV.int .i64 0) (Zc m))+g))) (Zc m)))],[]))))))else((ZO [(.ptr 0 0)] [(.box [(.pv (.str s)),(.pv (.int .i64 n)),(.map 1)]),(.map (Zc m))])=true∧(if (!KL (List.takeWhile Zj s))=true then G (((.pv (.bool false)),([(.box [(.pv (.str (List.dropWhile Zj s))),(.pv (.int .i64 n)),(.map 1)]),(.map (Zc m))],[])))else(∃ y1:Str,AV.pv (Zk (fun(x:Str×Str×Unit)=>Str.mk (Za (Str.s x.1))) [(.str (List.dropWhile Zj s)),(.str [(32:UInt8)])])=AV.pv (enc y1)∧(∃ y2:Bool,AV.pv (Zk (fun(x:Str×Str×Unit)=>List.isPrefixOf (Str.s x.2.1) (Str.s x.1)) [(.str (Str.s y1)),(.str [(42:UInt8)])])=AV.pv (enc y2)∧(if (y2)=true then(decide (0<=1)&&true&&decide (Int.toNat 1<=List.length (Str.s y1))&&decide (List.length (Str.s y1)<=List.length (Str.s y1)))=true∧((ZO [(.ptr 0 0)] [(.box [(.pv (.str (List.drop (Int.toNat 1) (List.take (List.length (Str.s y1)) (Str.s y1))))),(.pv (.int .i64 n)),(.map 1)]),(.map (Zc m))])=true∧((ZO [(.ptr 0 0)] [(.box [(.pv (.str (Za (List.drop (Int.toNat 1) (List.take (List.length (Str.s y1)) (Str.s y1)))))),(.pv (.int .i64 n)),(.map 1)]),(.map (Zc m))])=true∧((Wu (PV.str (List.takeWhile Zv (Za (List.drop (Int.toNat 1) (List.take (List.length (Str.s y1)) (Str.s y1)))))) (Zc m)&&Sh.fit (Sh.int .i64) (ZL (PV.str (List.takeWhile Zv (Za (List.drop (Int.toNat 1) (List.take (List.length (Str.s y1)) (Str.s y1)))))) (PV.int .i64 0) (Zc m)))=true∧((JW (PV.str (List.takeWhile Zv (Za (List.drop (Int.toNat 1) (List.take (List.length (Str.s y1)) (Str.s y1)))))) (PV.int .i64 (IntKind.wrap IntKind.i64 (PV.asInt (ZL (PV.str (List.takeWhile Zv (Za (List.drop (Int.toNat 1) (List.take (List.length (Str.s y1)) (Str.s y1)))))) (PV.int .i64 0) (Zc m))+IntKind.wrap IntKind.i64 (g*Prod.fst (ZU (Str.mk (List.takeWhile Zj s))))))) (Zc m))=true∧(G (((.pv (.bool (Zr (Str.mk (List.takeWhile Zv (Za (List.drop (Int.toNat 1) (List.take (List.length (Str.s y1)) (Str.s y1))))))))),([(.box [(.pv (.str (List.dropWhile Zv (Za (List.drop (Int.toNat 1) (List.take (List.length (Str.s y1)) (Str.s y1))))))),(.pv (.int .i64 n)),(.map 1)]),(.map (JY (PV.str (List.takeWhile Zv (Za (List.drop (Int.toNat 1) (List.take (List.length (Str.s y1)) (Str.s y1)))))) (PV.int .i64 (IntKind.wrap IntKind.i64 (PV.asInt (ZL (PV.str (List.takeWhile Zv (Za (List.drop (Int.toNat 1) (List.take (List.length (Str.s y1)) (Str.s y1)))))) (PV.int .i64 0) (Zc m))+IntKind.wrap IntKind.i64 (g*Prod.fst (ZU (Str.mk (List.takeWhile Zj s))))))) (Zc m)))],[]))))))))else(if (List.dropWhile Zj s==[])=true then G (((.pv (.bool true)),([(.box [(.pv (.str (List.dropWhile Zj s))),(.pv (.int .i64 (IntKind.wrap IntKind.i64 (n+IntKind.wrap IntKind.i64 (g*Prod.fst (ZU (Str.mk (List.takeWhile Zj s)))))))),(.map 1)]),(.map (Zc m))],[])))else((decide (0<=0)&&decide (Int.toNat 0<List.length (List.dropWhile Zj s)))=true∧((Go.Pl.preT (fun(x:UInt8×Unit)=>true) [(.int IntKind.u8 (↑(UInt8.toNat (List.getD (List.dropWhile Zj s) (Int.toNat 0) (0:UInt8))):Int))])=true∧(∃ y3:Bool,AV.pv (Zk (fun(x:UInt8×Unit)=>Zv x.1) [(.int IntKind.u8 (↑(UInt8.toNat (List.getD (List.dropWhile Zj s) (Int.toNat 0) (0:UInt8))):Int))])=AV.pv (enc y3)∧(if (!y3)=true then G (((.pv (.bool true)),([(.box [(.pv (.str (List.dropWhile Zj s))),(.pv (.int .i64 (IntKind.wrap IntKind.i64 (n+IntKind.wrap IntKind.i64 (g*Prod.fst (ZU (Str.mk (List.takeWhile Zj s)))))))),(.map 1)]),(.map (Zc m))],[])))else((ZO [(.ptr 0 0)] [(.box [(.pv (.str (List.dropWhile Zj s))),(.pv (.int .i64 n)),(.map 1)]),(.map (Zc m))])=true∧((Wu (PV.str (List.takeWhile Zv (List.dropWhile Zj s))) (Zc m)&&Sh.fit (Sh.int .i64) (ZL (PV.str (List.takeWhile Zv (List.dropWhile Zj s))) (PV.int .i64 0) (Zc m)))=true∧((JW (PV.str (List.takeWhile Zv (List.dropWhile Zj s))) (PV.int .i64 (IntKind.wrap IntKind.i64 (PV.asInt (ZL (PV.str (List.takeWhile Zv (List.dropWhile Zj s))) (PV.int .i64 0) (Zc m))+IntKind.wrap IntKind.i64 (g*Prod.fst (ZU (Str.mk (List.takeWhile Zj s))))))) (Zc m))=true∧(G (((.pv (.bool (Zr (Str.mk (List.takeWhile Zv (List.dropWhile Zj s)))))),([(.box [(.pv (.str (List.dropWhile Zv (List.dropWhile Zj s)))),(.pv (.int .i64 n)),(.map 1)]),(.map (JY (PV.str (List.takeWhile Zv (List.dropWhile Zj s))) (PV.int .i64 (IntKind.wrap IntKind.i64 (PV.asInt (ZL (PV.str (List.takeWhile Zv (List.dropWhile Zj s))) (PV.int .i64 0) (Zc m))+IntKind.wrap IntKind.i64 (g*Prod.fst (ZU (Str.mk (List.takeWhile Zj s))))))) (Zc m)))],[])))))))))))))))))))))):Zi Dc 2 (Zd 2 KP G) Hd [] (Ym 104 [.ptr 0 0,.pv (.int .i64 g)] [.box [.pv (.str s),.pv (.int .i64 n),.map 1],.map (Zc m)]):=Zi.to (.lit (.ask (.nil) (.req (.req (.abs (Bool) (fun YY=>AV.pv (enc YY)) (.ask (.req (.keep (.req (.keep (.lit (.req (.nil))))))) (.req (.keep (.ask (.nil) (.lit (.abs (Str) (fun YY=>AV.pv (enc YY)) (.lit (.abs (Bool) (fun YY=>AV.pv (enc YY)) (.ask (.req (.req (.keep (.req (.keep (.req (.keep (.lit (.lit (.req (.nil))))))))))) (.lit (.ask (.lit (.lit (.lit (.lit (.lit (.lit (.lit (.lit (.lit (.lit (.nil))))))))))) (.lit (.lit (.lit (.lit (.req (.lit (.req (.abs (Bool) (fun YY=>AV.pv (enc YY)) (.lit (.lit (.ask (.lit (.lit (.nil))) (.req (.keep (.req (.keep (.lit (.lit (.req (.nil))))))))))))))))))))))))))))))))))) h (by kernel_rfl)
end Go.Pl

namespace Go.Pl
open Go.RowKit
open Enc (enc dec is)
open EncL (encL decL isL)
set_option maxRecDepth 100000
def Jo:IC:=(.seq (.reg [⟨(some 2),(.mv (.c (.bool false))),0,none⟩] none) (.seq (.reg [⟨(some 3),(.mv (.t 0)),0,none⟩,⟨(some 4),(.bin .num .geq (.t 3) (.c (.int .u8 97))),0,none⟩,⟨(some 5),(.mv (.t 4)),0,none⟩,⟨(some 6),(.mv (.t 0)),0,(some (5,true))⟩,⟨(some 7),(.bin .num .leq (.t 6) (.c (.int .u8 122))),0,(some (5,true))⟩,⟨(some 8),(.pick (.t 5) (.t 7) (.c (.bool false))),0,none⟩,⟨(some 9),(.mv (.t 8)),0,none⟩,⟨(some 10),(.mv (.t 0)),0,(some (9,false))⟩,⟨(some 11),(.bin .num .eql (.t 10) (.c (.int .u8 95))),0,(some (9,false))⟩,⟨(some 12),(.pick (.t 9) (.c (.bool true)) (.t 11)),0,none⟩,⟨(some 13),(.mv (.t 12)),0,none⟩,⟨(some 14),(.mv (.t 0)),0,(some (13,false))⟩,⟨(some 15),(.call (.c (.fn 148)) [(.t 14)]),0,(some (13,false))⟩,⟨(some 16),(.pick (.t 13) (.c (.bool true)) (.t 15)),2,none⟩,⟨(some 2),(.mv (.t 16)),2,none⟩] none) .ret))
def Jl:List IRes:=[(.tmp 2)]
abbrev Lu:Nat:=17
def Dn:ZJ:=WI [(148,.pure (preT (fun _:UInt8×Unit=>true)) (Zk (fun x:UInt8×Unit=>Zj x.1)))]
theorem EK{G:PV->Prop}(c:UInt8)(h:if (decide ((↑(UInt8.toNat c):Int) ≥ 97))=true then if (decide ((↑(UInt8.toNat c):Int)<=122))=true then G ((.bool true))else(if ((↑(UInt8.toNat c):Int)==95)=true then G ((.bool true))else((Go.Pl.preT (fun(x:UInt8×Unit)=>true) [(.int IntKind.u8 (↑(UInt8.toNat c):Int))])=true∧(∃ y0:Bool,AV.pv (Zk (fun(x:UInt8×Unit)=>Zj x.1) [(.int IntKind.u8 (↑(UInt8.toNat c):Int))])=AV.pv (enc y0)∧(G ((.bool y0))))))else(if ((↑(UInt8.toNat c):Int)==95)=true then G ((.bool true))else((Go.Pl.preT (fun(x:UInt8×Unit)=>true) [(.int IntKind.u8 (↑(UInt8.toNat c):Int))])=true∧(∃ y1:Bool,AV.pv (Zk (fun(x:UInt8×Unit)=>Zj x.1) [(.int IntKind.u8 (↑(UInt8.toNat c):Int))])=AV.pv (enc y1)∧(G ((.bool y1))))))):Zi Dn 0 (Ze Jl G) Jo [] (Xz 17 [enc c]):=Zi.tp (.lit (.ask (.lit (.lit (.lit (.ask (.lit (.lit (.lit (.lit (.lit (.nil)))))) (.lit (.lit (.lit (.ask (.lit (.lit (.nil))) (.lit (.req (.abs (Bool) (fun YY=>AV.pv (enc YY)) (.lit (.nil))))))))))))) (.lit (.lit (.lit (.lit (.lit (.lit (.ask (.lit (.lit (.nil))) (.lit (.req (.abs (Bool) (fun YY=>AV.pv (enc YY)) (.lit (.nil)))))))))))))) h (by kernel_rfl)
def K6:IC:=(.reg [⟨(some 2),(.mv (.t 0)),0,none⟩,⟨(some 3),(.mv (.t 0)),0,none⟩,⟨(some 4),(.nilchk (.t 3)),0,none⟩,⟨(some 5),(.faddr 0 (.t 4)),0,none⟩,⟨(some 6),(.load false [.str] (.t 5)),0,none⟩,⟨(some 7),(.call (.c (.fn 151)) [(.t 6),(.c (.str [32]))]),0,none⟩,⟨(some 8),(.nilchk (.t 2)),2,none⟩,⟨(some 9),(.faddr 0 (.t 8)),2,none⟩,⟨none,(.store 1 (.t 9) (.t 7)),2,none⟩] none)
def Jq:List IRes:=[]
abbrev MK:Nat:=10
def Dq:ZJ:=WI [(151,.pure (preT (fun x:Str×Str×Unit=>decide (x.2.1=⟨[32]⟩))) (Zk (fun x:Str×Str×Unit=>(⟨Za x.1.s⟩:Str))))]
theorem OA{G:AV×List AObj×List AObj->Prop}(s:List UInt8)(n:Int)(es:List (PV×PV))(h : ∃ y0:Str,AV.pv (Zk (fun(x:Str×Str×Unit)=>Str.mk (Za (Str.s x.1))) [(.str s),(.str [(32:UInt8)])])=AV.pv (enc y0)∧(G (((.tup []),([(.box [(.pv (.str (Str.s y0))),(.pv (.int .i64 n)),(.map 1)]),(.map es)],[]))))):Zi Dq 2 (Zd 2 Jq G) K6 [] (Ym 10 [.ptr 0 0] [.box [.pv (.str s),.pv (.int .i64 n),.map 1],.map es]):=Zi.to (.lit (.abs (Str) (fun YY=>AV.pv (enc YY)) (.nil))) h (by kernel_rfl)
def WR:IC:=(.seq (.reg [⟨(some 4),(.mv (.c (.str []))),0,none⟩] none) (.seq (.reg [⟨(some 5),(.mv (.c (.int .i64 0))),0,none⟩] none) (.seq (.block 0 (.loop [5,0,1] (.seq (.seq (.reg [⟨(some 7),(.mv (.t 5)),0,none⟩,⟨(some 8),(.mv (.t 0)),0,none⟩,⟨(some 9),(.nilchk (.t 8)),0,none⟩,⟨(some 10),(.faddr 0 (.t 9)),0,none⟩,⟨(some 11),(.load false [.str] (.t 10)),0,none⟩,⟨(some 12),(.len 0 (.t 11)),0,none⟩,⟨(some 13),(.bin .num .lss (.t 7) (.t 12)),0,none⟩,⟨(some 14),(.mv (.t 13)),0,none⟩,⟨(some 15),(.mv (.t 1)),0,(some (14,true))⟩,⟨(some 16),(.mv (.t 0)),0,(some (14,true))⟩,⟨(some 17),(.nilchk (.t 16)),0,(some (14,true))⟩,⟨(some 18),(.faddr 0 (.t 17)),0,(some (14,true))⟩,⟨(some 19),(.load false [.str] (.t 18)),0,(some (14,true))⟩,⟨(some 20),(.mv (.t 5)),0,(some (14,true))⟩,⟨(some 21),(.index (.t 19) (.t 20)),0,(some (14,true))⟩,⟨(some 22),(.call (.t 15) [(.t 21)]),0,(some (14,true))⟩,⟨(some 23),(.pick (.t 14) (.t 22) (.c (.bool false))),2,none⟩] none) (.cond (.t 23) .skip (.exit 0))) (.block 1 (.reg [⟨(some 24),(.mv (.t 5)),0,none⟩,⟨(some 25),(.bin .num .add (.t 24) (.c (.int .i64 1))),0,none⟩,⟨(some 5),(.mv (.t 25)),0,none⟩] none))))) (.seq (.reg [⟨(some 26),(.mv (.t 0)),0,none⟩,⟨(some 27),(.nilchk (.t 26)),0,none⟩,⟨(some 28),(.faddr 0 (.t 27)),0,none⟩,⟨(some 29),(.load false [.str] (.t 28)),0,none⟩,⟨(some 30),(.mv (.t 5)),0,none⟩,⟨(some 31),(.strslc (.t 29) none (some (.t 30))),0,none⟩,⟨(some 6),(.mv (.t 31)),0,none⟩] none) (.seq (.reg [⟨(some 32),(.mv (.t 0)),0,none⟩,⟨(some 33),(.mv (.t 0)),0,none⟩,⟨(some 34),(.nilchk (.t 33)),0,none⟩,⟨(some 35),(.faddr 0 (.t 34)),0,none⟩,⟨(some 36),(.load false [.str] (.t 35)),0,none⟩,⟨(some 37),(.mv (.t 5)),0,none⟩,⟨(some 38),(.strslc (.t 36) (some (.t 37)) none),0,none⟩,⟨(some 39),(.nilchk (.t 32)),0,none⟩,⟨(some 40),(.faddr 0 (.t 39)),0,none⟩,⟨none,(.store 1 (.t 40) (.t 38)),0,none⟩] none) (.seq (.reg [⟨(some 41),(.mv (.t 6)),0,none⟩,⟨(some 4),(.mv (.t 41)),0,none⟩] none) .ret))))))
def Vt:List IRes:=[(.tmp 4)]
abbrev a1g:Nat:=42
def UW:ZJ:=WI [(148,.pure (preT (fun _:UInt8×Unit=>true)) (Zk (fun x:UInt8×Unit=>Zj x.1)))]
theorem a2k{G:AV×List AObj×List AObj->Prop}(s:List UInt8)(n:Int)(es:List (PV×PV))(h:At UW 2 (Zd 2 Vt G) WR 0 42 [(0,(.ptr 0 0)),(1,(.pv (.fn 148))),(5,(.pv (.int .i64 0)))] [(.obj (.box [(.pv (.str s)),(.pv (.int .i64 n)),(.map 1)])),(.obj (.map es))]):Zi UW 2 (Zd 2 Vt G) WR [] (Ym 42 [.ptr 0 0,.pv (.fn 148)] [.box [.pv (.str s),.pv (.int .i64 n),.map 1],.map es]):=Zi.to (.nil) h (by kernel_rfl)
theorem Rl{G:AV×List AObj×List AObj->Prop}(s:List UInt8)(n:Int)(es:List (PV×PV))(i:Int)(h:if (decide (i<(↑(List.length s):Int)))=true then(decide (0<=i)&&decide (Int.toNat i<List.length s))=true∧((Go.Pl.preT (fun(x:UInt8×Unit)=>true) [(.int IntKind.u8 (↑(UInt8.toNat (List.getD s (Int.toNat i) (0:UInt8))):Int))])=true∧(∃ y0:Bool,AV.pv (Zk (fun(x:UInt8×Unit)=>Zj x.1) [(.int IntKind.u8 (↑(UInt8.toNat (List.getD s (Int.toNat i) (0:UInt8))):Int))])=AV.pv (enc y0)∧(if (y0)=true then At UW 2 (Zd 2 Vt G) WR 0 42 [(0,(.ptr 0 0)),(1,(.pv (.fn 148))),(5,(.pv (.int .i64 (IntKind.wrap IntKind.i64 (i+1)))))] [(.obj (.box [(.pv (.str s)),(.pv (.int .i64 n)),(.map 1)])),(.obj (.map es))]else((true&&decide (0<=i)&&decide (0<=Int.toNat i)&&decide (Int.toNat i<=List.length s))=true∧((decide (0<=i)&&true&&decide (Int.toNat i<=List.length s)&&decide (List.length s<=List.length s))=true∧(G (((.pv (.str (List.drop 0 (List.take (Int.toNat i) s)))),([(.box [(.pv (.str (List.drop (Int.toNat i) (List.take (List.length s) s)))),(.pv (.int .i64 n)),(.map 1)]),(.map es)],[])))))))))else((true&&decide (0<=i)&&decide (0<=Int.toNat i)&&decide (Int.toNat i<=List.length s))=true∧((decide (0<=i)&&true&&decide (Int.toNat i<=List.length s)&&decide (List.length s<=List.length s))=true∧(G (((.pv (.str (List.drop 0 (List.take (Int.toNat i) s)))),([(.box [(.pv (.str (List.drop (Int.toNat i) (List.take (List.length s) s)))),(.pv (.int .i64 n)),(.map 1)]),(.map es)],[]))))))):At UW 2 (Zd 2 Vt G) WR 0 42 [(0,.ptr 0 0),(1,.pv (.fn 148)),(5,.pv (.int .i64 i))] [.obj (.box [.pv (.str s),.pv (.int .i64 n),.map 1]),.obj (.map es)]:=At.to (.lit (.ask (.lit (.lit (.lit (.lit (.lit (.lit (.req (.lit (.req (.abs (Bool) (fun YY=>AV.pv (enc YY)) (.lit (.ask (.lit (.nil)) (.req (.req (.nil))))))))))))))) (.lit (.lit (.lit (.lit (.lit (.lit (.lit (.lit (.lit (.req (.req (.nil)))))))))))))) h (by kernel_rfl)
def VB:IC:=WR
def VJ:List IRes:=[(.tmp 4)]
abbrev O5:Nat:=42
def UO:ZJ:=WI [(153,.pure (preT (fun _:UInt8×Unit=>true)) (Zk (fun x:UInt8×Unit=>Zv x.1)))]
theorem a3l{G:AV×List AObj×List AObj->Prop}(s:List UInt8)(n:Int)(es:List (PV×PV))(h:At UO 2 (Zd 2 VJ G) VB 0 42 [(0,(.ptr 0 0)),(1,(.pv (.fn 153))),(5,(.pv (.int .i64 0)))] [(.obj (.box [(.pv (.str s)),(.pv (.int .i64 n)),(.map 1)])),(.obj (.map es))]):Zi UO 2 (Zd 2 VJ G) VB [] (Ym 42 [.ptr 0 0,.pv (.fn 153)] [.box [.pv (.str s),.pv (.int .i64 n),.map 1],.map es]):=Zi.to (.nil) h (by kernel_rfl)
theorem Sj{G:AV×List AObj×List AObj->Prop}(s:List UInt8)(n:Int)(es:List (PV×PV))(i:Int)(h:if (decide (i<(↑(List.length s):Int)))=true then(decide (0<=i)&&decide (Int.toNat i<List.length s))=true∧((Go.Pl.preT (fun(x:UInt8×Unit)=>true) [(.int IntKind.u8 (↑(UInt8.toNat (List.getD s (Int.toNat i) (0:UInt8))):Int))])=true∧(∃ y0:Bool,AV.pv (Zk (fun(x:UInt8×Unit)=>Zv x.1) [(.int IntKind.u8 (↑(UInt8.toNat (List.getD s (Int.toNat i) (0:UInt8))):Int))])=AV.pv (enc y0)∧(if (y0)=true then At UO 2 (Zd 2 VJ G) VB 0 42 [(0,(.ptr 0 0)),(1,(.pv (.fn 153))),(5,(.pv (.int .i64 (IntKind.wrap IntKind.i64 (i+1)))))] [(.obj (.box [(.pv (.str s)),(.pv (.int .i64 n)),(.map 1)])),(.obj (.map es))]else((true&&decide (0<=i)&&decide (0<=Int.toNat i)&&decide (Int.toNat i<=List.length s))=true∧((decide (0<=i)&&true&&decide (Int.toNat i<=List.length s)&&decide (List.length s<=List.length s))=true∧(G (((.pv (.str (List.drop 0 (List.take (Int.toNat i) s)))),([(.box [(.pv (.str (List.drop (Int.toNat i) (List.take (List.length s) s)))),(.pv (.int .i64 n)),(.map 1)]),(.map es)],[])))))))))else((true&&decide (0<=i)&&decide (0<=Int.toNat i)&&decide (Int.toNat i<=List.length s))=true∧((decide (0<=i)&&true&&decide (Int.toNat i<=List.length s)&&decide (List.length s<=List.length s))=true∧(G (((.pv (.str (List.drop 0 (List.take (Int.toNat i) s)))),([(.box [(.pv (.str (List.drop (Int.toNat i) (List.take (List.length s) s)))),(.pv (.int .i64 n)),(.map 1)]),(.map es)],[]))))))):At UO 2 (Zd 2 VJ G) VB 0 42 [(0,.ptr 0 0),(1,.pv (.fn 153)),(5,.pv (.int .i64 i))] [.obj (.box [.pv (.str s),.pv (.int .i64 n),.map 1]),.obj (.map es)]:=At.to (.lit (.ask (.lit (.lit (.lit (.lit (.lit (.lit (.req (.lit (.req (.abs (Bool) (fun YY=>AV.pv (enc YY)) (.lit (.ask (.lit (.nil)) (.req (.req (.nil))))))))))))))) (.lit (.lit (.lit (.lit (.lit (.lit (.lit (.lit (.lit (.req (.req (.nil)))))))))))))) h (by kernel_rfl)
def Jj:IC:=(.seq (.reg [⟨(some 2),(.mv (.c (.int .i64 0))),0,none⟩,⟨(some 3),(.mv (.c (.bool false))),0,none⟩] none) (.seq (.reg [⟨(some 7),(.mv (.t 0)),0,none⟩,⟨(some 8),(.call (.c (.fn 216)) [(.t 7),(.c (.fn 148))]),0,none⟩,⟨(some 4),(.mv (.t 8)),2,none⟩] none) (.seq (.reg [⟨(some 10),(.mv (.t 4)),0,none⟩,⟨(some 11),(.call (.c (.fn 182)) [(.t 10)]),0,none⟩,⟨(some 9),(.mv (.t 11)),2,none⟩,⟨(some 12),(.extract (.t 9) 0),2,none⟩,⟨(some 13),(.extract (.t 9) 1),2,none⟩,⟨(some 5),(.mv (.t 12)),2,none⟩,⟨(some 6),(.mv (.t 13)),2,none⟩] none) (.seq (.reg [⟨(some 14),(.mv (.t 5)),0,none⟩,⟨(some 15),(.mv (.t 6)),0,none⟩,⟨(some 16),(.bin .ifc .eql (.t 15) (.c .nili)),0,none⟩,⟨(some 17),(.mv (.t 16)),0,none⟩,⟨(some 18),(.mv (.t 4)),0,(some (17,true))⟩,⟨(some 19),(.len 0 (.t 18)),0,(some (17,true))⟩,⟨(some 20),(.bin .num .leq (.t 19) (.c (.int .i64 7))),0,(some (17,true))⟩,⟨(some 21),(.pick (.t 17) (.t 20) (.c (.bool false))),0,none⟩,⟨(some 22),(.mv (.t 21)),0,none⟩,⟨(some 23),(.mv (.t 4)),0,(some (22,true))⟩,⟨(some 24),(.index (.t 23) (.c (.int .i64 0))),0,(some (22,true))⟩,⟨(some 25),(.bin .num .neq (.t 24) (.c (.int .u8 48))),0,(some (22,true))⟩,⟨(some 26),(.mv (.t 25)),0,(some (22,true))⟩,⟨(some 27),(.mv (.t 4)),0,(some (26,false))⟩,⟨(some 28),(.bin .num .eql (.t 27) (.c (.str [48]))),0,(some (26,false))⟩,⟨(some 29),(.pick (.t 26) (.c (.bool true)) (.t 28)),0,(some (22,true))⟩,⟨(some 30),(.pick (.t 22) (.t 29) (.c (.bool false))),0,none⟩,⟨(some 2),(.mv (.t 14)),0,none⟩,⟨(some 3),(.mv (.t 30)),0,none⟩] none) .ret))))
def Jy:List IRes:=[(.tmp 2),(.tmp 3)]
abbrev M0:Nat:=31
def Gn:ZJ:=WI [(216,.own (Xb 148) (C8 Zj)),(182,.pure (preT (fun x:Str×Unit=>decide (x.1.s.length<=1000000))) (Zk (fun x:Str×Unit=>ZU x.1)))]
theorem ET{G:AV×List AObj×List AObj->Prop}(s:List UInt8)(n:Int)(es:List (PV×PV))(h:(Xb 148 [(.ptr 0 0),(.pv (.fn 148))] [(.box [(.pv (.str s)),(.pv (.int .i64 n)),(.map 1)]),(.map es)])=true∧((Go.Pl.preT (fun(x:Str×Unit)=>decide (List.length (Str.s x.1)<=1000000)) [(.str (List.takeWhile Zj s))])=true∧(∃ y0:Int×Er,AV.pv (Zk (fun(x:Str×Unit)=>ZU x.1) [(.str (List.takeWhile Zj s))])=AV.pv (enc y0)∧((JN (enc y0.2)&&Prod.fst (true,PV.bool (Vb (enc y0.2))))=true∧(if (Vb (enc y0.2))=true then if (decide ((↑(List.length (List.takeWhile Zj s)):Int)<=7))=true then(decide (0<=0)&&decide (Int.toNat 0<List.length (List.takeWhile Zj s)))=true∧(if ((↑(UInt8.toNat (List.getD (List.takeWhile Zj s) (Int.toNat 0) (0:UInt8))):Int) != 48)=true then G (((.tup [(.pv (.int .i64 y0.1)),(.pv (.bool true))]),([(.box [(.pv (.str (List.dropWhile Zj s))),(.pv (.int .i64 n)),(.map 1)]),(.map es)],[])))else(G (((.tup [(.pv (.int .i64 y0.1)),(.pv (.bool (List.takeWhile Zj s==[(48:UInt8)])))]),([(.box [(.pv (.str (List.dropWhile Zj s))),(.pv (.int .i64 n)),(.map 1)]),(.map es)],[])))))else(G (((.tup [(.pv (.int .i64 y0.1)),(.pv (.bool false))]),([(.box [(.pv (.str (List.dropWhile Zj s))),(.pv (.int .i64 n)),(.map 1)]),(.map es)],[]))))else(G (((.tup [(.pv (.int .i64 y0.1)),(.pv (.bool false))]),([(.box [(.pv (.str (List.dropWhile Zj s))),(.pv (.int .i64 n)),(.map 1)]),(.map es)],[]))))))))):Zi Gn 2 (Zd 2 Jy G) Jj [] (Ym 31 [.ptr 0 0] [.box [.pv (.str s),.pv (.int .i64 n),.map 1],.map es]):=Zi.to (.req (.keep (.req (.abs (Int×Er) (fun YY=>AV.pv (enc YY)) (.req (.ask (.lit (.lit (.lit (.lit (.ask (.lit (.req (.lit (.lit (.lit (.ask (.lit (.lit (.lit (.lit (.nil))))) (.lit (.lit (.lit (.lit (.lit (.nil)))))))))))) (.lit (.lit (.lit (.lit (.lit (.nil))))))))))) (.lit (.lit (.lit (.lit (.lit (.lit (.lit (.lit (.lit (.nil)))))))))))))))) h (by kernel_rfl)
def U8:IC:=(.seq (.reg [⟨(some 2),(.mv (.c (.str []))),0,none⟩,⟨(some 3),(.mv (.c (.bool false))),0,none⟩] none) (.seq (.reg [⟨(some 5),(.mv (.t 0)),0,none⟩,⟨(some 6),(.call (.c (.fn 216)) [(.t 5),(.c (.fn 153))]),0,none⟩,⟨(some 4),(.mv (.t 6)),2,none⟩] none) (.seq (.reg [⟨(some 7),(.mv (.t 4)),0,none⟩,⟨(some 8),(.mv (.t 4)),0,none⟩,⟨(some 9),(.call (.c (.fn 119)) [(.t 8)]),0,none⟩,⟨(some 2),(.mv (.t 7)),2,none⟩,⟨(some 3),(.mv (.t 9)),2,none⟩] none) .ret)))
def U5:List IRes:=[(.tmp 2),(.tmp 3)]
abbrev Tc:Nat:=10
def QX:ZJ:=WI [(216,.own (Xb 153) (C8 Zv)),(119,.pure (preT (fun x:Str×Unit=>decide (x.1.s.length<=1000000))) (Zk (fun x:Str×Unit=>Zr x.1)))]
theorem Py{G:AV×List AObj×List AObj->Prop}(s:List UInt8)(n:Int)(es:List (PV×PV))(h:(Xb 153 [(.ptr 0 0),(.pv (.fn 153))] [(.box [(.pv (.str s)),(.pv (.int .i64 n)),(.map 1)]),(.map es)])=true∧((Go.Pl.preT (fun(x:Str×Unit)=>decide (List.length (Str.s x.1)<=1000000)) [(.str (List.takeWhile Zv s))])=true∧(∃ y0:Bool,AV.pv (Zk (fun(x:Str×Unit)=>Zr x.1) [(.str (List.takeWhile Zv s))])=AV.pv (enc y0)∧(G (((.tup [(.pv (.str (List.takeWhile Zv s))),(.pv (.bool y0))]),([(.box [(.pv (.str (List.dropWhile Zv s))),(.pv (.int .i64 n)),(.map 1)]),(.map es)],[]))))))):Zi QX 2 (Zd 2 U5 G) U8 [] (Ym 10 [.ptr 0 0] [.box [.pv (.str s),.pv (.int .i64 n),.map 1],.map es]):=Zi.to (.req (.keep (.req (.abs (Bool) (fun YY=>AV.pv (enc YY)) (.nil))))) h (by kernel_rfl)
def Vl:IC:=(.seq (.reg [⟨(some 2),(.mv (.c (.int .i64 0))),0,none⟩,⟨(some 3),(.mv (.c (.bool false))),0,none⟩] none) (.seq (.seq (.reg [⟨(some 6),(.build [(.str []),(.str [])] [(0,(1,(.c (.str [43])))),(1,(1,(.c (.str [45]))))]),0,none⟩,⟨(some 7),(.mv (.c (.int .i64 0))),0,none⟩] none) (.block 0 (.loop [7,6,0] (.seq (.reg [⟨(some 8),(.bin .num .lss (.t 7) (.c (.int .i64 2))),0,none⟩] none) (.seq (.cond (.t 8) .skip (.exit 0)) (.seq (.block 1 (.seq (.reg [⟨(some 9),(.mv (.t 7)),0,none⟩,⟨(some 10),(.indexA 2 1 (.t 6) (.t 7)),0,none⟩,⟨(some 4),(.mv (.t 9)),0,none⟩,⟨(some 5),(.mv (.t 10)),0,none⟩] none) (.seq (.reg [⟨(some 11),(.mv (.t 0)),0,none⟩,⟨(some 12),(.nilchk (.t 11)),0,none⟩,⟨(some 13),(.faddr 0 (.t 12)),0,none⟩,⟨(some 14),(.load false [.str] (.t 13)),0,none⟩,⟨(some 15),(.mv (.t 5)),0,none⟩,⟨(some 16),(.call (.c (.fn 152)) [(.t 14),(.t 15)]),0,none⟩] none) (.cond (.t 16) (.seq (.reg [⟨(some 17),(.mv (.t 0)),0,none⟩,⟨(some 18),(.mv (.t 0)),0,none⟩,⟨(some 19),(.nilchk (.t 18)),0,none⟩,⟨(some 20),(.faddr 0 (.t 19)),0,none⟩,⟨(some 21),(.load false [.str] (.t 20)),0,none⟩,⟨(some 22),(.strslc (.t 21) (some (.c (.int .i64 1))) none),0,none⟩,⟨(some 23),(.nilchk (.t 17)),0,none⟩,⟨(some 24),(.faddr 0 (.t 23)),0,none⟩,⟨none,(.store 1 (.t 24) (.t 22)),0,none⟩] none) (.seq (.reg [⟨(some 25),(.mv (.t 4)),0,none⟩,⟨(some 26),(.bin .num .mul (.c (.int .i64 2)) (.t 25)),0,none⟩,⟨(some 27),(.bin .num .sub (.c (.int .i64 1)) (.t 26)),0,none⟩,⟨(some 2),(.mv (.t 27)),0,none⟩,⟨(some 3),(.mv (.c (.bool true))),0,none⟩] none) .ret)) .skip)))) (.reg [⟨(some 28),(.bin .num .add (.t 7) (.c (.int .i64 1))),0,none⟩,⟨(some 7),(.mv (.t 28)),0,none⟩] none))))))) (.seq (.reg [⟨(some 2),(.mv (.c (.int .i64 1))),0,none⟩,⟨(some 3),(.mv (.c (.bool false))),0,none⟩] none) .ret)))
def Vk:List IRes:=[(.tmp 2),(.tmp 3)]
abbrev a2p:Nat:=29
def Uz:ZJ:=WI [(152,.pure (preT (fun _:Str×Str×Unit=>true)) (Zk (fun x:Str×Str×Unit=>x.2.1.s.isPrefixOf x.1.s)))]
theorem a8q{G:AV×List AObj×List AObj->Prop}(s:List UInt8)(n:Int)(es:List (PV×PV))(h:At Uz 2 (Zd 2 Vk G) Vl 0 29 [(0,(.ptr 0 0)),(6,(.pv (.agg [(.str [(43:UInt8)]),(.str [(45:UInt8)])]))),(7,(.pv (.int .i64 0)))] [(.obj (.box [(.pv (.str s)),(.pv (.int .i64 n)),(.map 1)])),(.obj (.map es))]):Zi Uz 2 (Zd 2 Vk G) Vl [] (Ym 29 [.ptr 0 0] [.box [.pv (.str s),.pv (.int .i64 n),.map 1],.map es]):=Zi.to (.nil) h (by kernel_rfl)
theorem a2b{G:AV×List AObj×List AObj->Prop}(s:List UInt8)(n:Int)(es:List (PV×PV))(h : ∃ y0:Bool,AV.pv (Zk (fun(x:Str×Str×Unit)=>List.isPrefixOf (Str.s x.2.1) (Str.s x.1)) [(.str s),(.str [(43:UInt8)])])=AV.pv (enc y0)∧(if (y0)=true then(decide (0<=1)&&true&&decide (Int.toNat 1<=List.length s)&&decide (List.length s<=List.length s))=true∧(G (((.tup [(.pv (.int .i64 1)),(.pv (.bool true))]),([(.box [(.pv (.str (List.drop (Int.toNat 1) (List.take (List.length s) s)))),(.pv (.int .i64 n)),(.map 1)]),(.map es)],[]))))else(At Uz 2 (Zd 2 Vk G) Vl 0 29 [(0,(.ptr 0 0)),(6,(.pv (.agg [(.str [(43:UInt8)]),(.str [(45:UInt8)])]))),(7,(.pv (.int .i64 1)))] [(.obj (.box [(.pv (.str s)),(.pv (.int .i64 n)),(.map 1)])),(.obj (.map es))]))):At Uz 2 (Zd 2 Vk G) Vl 0 29 [(0,.ptr 0 0),(6,.pv (.agg [(.str [(43:UInt8)]),(.str [(45:UInt8)])])),(7,.pv (.int .i64 0))] [.obj (.box [.pv (.str s),.pv (.int .i64 n),.map 1]),.obj (.map es)]:=At.to (.lit (.lit (.lit (.lit (.abs (Bool) (fun YY=>AV.pv (enc YY)) (.ask (.req (.lit (.lit (.nil)))) (.lit (.nil)))))))) h (by kernel_rfl)
theorem a0y{G:AV×List AObj×List AObj->Prop}(s:List UInt8)(n:Int)(es:List (PV×PV))(h : ∃ y0:Bool,AV.pv (Zk (fun(x:Str×Str×Unit)=>List.isPrefixOf (Str.s x.2.1) (Str.s x.1)) [(.str s),(.str [(45:UInt8)])])=AV.pv (enc y0)∧(if (y0)=true then(decide (0<=1)&&true&&decide (Int.toNat 1<=List.length s)&&decide (List.length s<=List.length s))=true∧(G (((.tup [(.pv (.int .i64 (-1))),(.pv (.bool true))]),([(.box [(.pv (.str (List.drop (Int.toNat 1) (List.take (List.length s) s)))),(.pv (.int .i64 n)),(.map 1)]),(.map es)],[]))))else(At Uz 2 (Zd 2 Vk G) Vl 0 29 [(0,(.ptr 0 0)),(6,(.pv (.agg [(.str [(43:UInt8)]),(.str [(45:UInt8)])]))),(7,(.pv (.int .i64 2)))] [(.obj (.box [(.pv (.str s)),(.pv (.int .i64 n)),(.map 1)])),(.obj (.map es))]))):At Uz 2 (Zd 2 Vk G) Vl 0 29 [(0,.ptr 0 0),(6,.pv (.agg [(.str [(43:UInt8)]),(.str [(45:UInt8)])])),(7,.pv (.int .i64 1))] [.obj (.box [.pv (.str s),.pv (.int .i64 n),.map 1]),.obj (.map es)]:=At.to (.lit (.lit (.lit (.lit (.abs (Bool) (fun YY=>AV.pv (enc YY)) (.ask (.req (.lit (.lit (.nil)))) (.lit (.nil)))))))) h (by kernel_rfl)
theorem a0r{G:AV×List AObj×List AObj->Prop}(s:List UInt8)(n:Int)(es:List (PV×PV))(h:G (((.tup [(.pv (.int .i64 1)),(.pv (.bool false))]),([(.box [(.pv (.str s)),(.pv (.int .i64 n)),(.map 1)]),(.map es)],[])))):At Uz 2 (Zd 2 Vk G) Vl 0 29 [(0,.ptr 0 0),(6,.pv (.agg [(.str [(43:UInt8)]),(.str [(45:UInt8)])])),(7,.pv (.int .i64 2))] [.obj (.box [.pv (.str s),.pv (.int .i64 n),.map 1]),.obj (.map es)]:=At.to (.lit (.lit (.nil))) h (by kernel_rfl)
end Go.Pl

namespace Go.Pl
open Go.RowKit
open Enc (enc dec is)
open EncL (encL decL isL)
theorem a6e(c:UInt8)(k:Nat)(hk:k<256):(((c.toNat:Int))==(k:Int))=(c==UInt8.ofNat k):=by
 rw[Bool.eq_iff_iff,beq_iff_eq,beq_iff_eq]
 constructor
 ·intro h
  have h:c.toNat=k:=by omega
  rw[<- h,UInt8.ofNat_toNat]
 ·intro h
  rw[h,UInt8.toNat_ofNat_of_lt' (by show k<2 ^ 8;omega)]
theorem R9: ∀ a:UInt8×Unit,true=true->Zi Dn 0 (Ze Jl (ZI (Zv a.1))) Jo [] (Xz Lu (encL a)):=by
 rintro⟨c,⟨⟩⟩ -
 have e95:(((c.toNat:Int))==95)=(c==95):=a6e c 95 (by omega)
 have el:=a1z c
 refine EK c ?_
 show if decide ((c.toNat:Int) ≥ 97)=true then(if decide ((c.toNat:Int)<=122)=true then ZI (Zv c) (.bool true)else if ((c.toNat:Int)==95)=true then ZI (Zv c) (.bool true)else _)else if ((c.toNat:Int)==95)=true then ZI (Zv c) (.bool true)else _
 rw[e95]
 have rest:ZT c=false->(if (c==95)=true then ZI (Zv c) (.bool true)else preT (fun _:UInt8×Unit=>true) [enc c]=true∧ ∃ y0:Bool,AV.pv (Zk (fun x:UInt8×Unit=>Zj x.1) [enc c])=AV.pv (enc y0)∧ZI (Zv c) (.bool y0)):=by
  intro hl
  refine Vf (fun h=>Yl ?_) fun h=>⟨Zo (c,()) rfl rfl,Zl (c,()) rfl (Yl ?_)⟩
  ·unfold Zv;rw[h];simp
  ·unfold Zv;rw[hl,h];rfl
 refine XR (fun h1=>XR (fun h2=>Yl ?_) fun h2=>rest ?_) fun h1=>rest ?_
 ·have:ZT c=true:=by rw[el];simp[h1,h2]
  unfold Zv;rw[this];rfl
 ·rw[el];simp[h2]
 ·rw[el];simp[h1]
theorem Pe: ∀ args os,ZO args os=true->Zi Dq os.length (Zd os.length Jq fun r=>r=UT args os) K6 [] (Ym MK args os):=by
 intro args os h
 unfold ZO at h
 split at h
 ·rename_i s n es
  exact OA s n es (Zl ((⟨s⟩:Str),(⟨[32]⟩:Str),()) rfl rfl)
 ·cases h
theorem Km(p:UInt8->Bool): ∀ (s:List UInt8) (i:Nat),i<=s.length->(∀ j (h:j<s.length),j<i->p s[j]=true)->(∀ h:i<s.length,p s[i]=false)->s.takeWhile p=s.take i∧s.dropWhile p=s.drop i
 | [],i,hi,h1,h2=>by
  have:i=0:=by simpa using hi
  subst this
  exact⟨rfl,rfl⟩
 | c::s,0,hi,h1,h2=>by
  have:=h2 (by simp)
  simp only[List.getElem_cons_zero]at this
  simp[List.takeWhile_cons,List.dropWhile_cons,this]
 | c::s,i+1,hi,h1,h2=>by
  have hc:p c=true:=h1 0 (by simp) (by omega)
  have ih:=Km p s i (by simpa using hi) (fun j h hj=>h1 (j+1) (by simp;omega) (by omega)) fun h=>h2 (by simp;omega)
  simp[List.takeWhile_cons,List.dropWhile_cons,hc,ih.1,ih.2]
theorem a9x{s:List UInt8}{i:Nat}(h:i<s.length):((UInt8.toNat (List.getD s (Int.toNat (i:Int)) (0:UInt8)):Nat):Int)=((s[i].toNat:Nat):Int):=by simp[List.getD,h]
theorem Ph(s:List UInt8)(n:Int)(es:List (PV×PV))(hs:s.length<=1000000): ∀ (m i:Nat),m+i=s.length->(∀ j (h:j<s.length),j<i->Zj s[j]=true) ->
  At UW 2 (Zd 2 Vt fun r=>r=(.pv (.str (s.takeWhile Zj)),ME (s.dropWhile Zj) n es,[])) WR 0 42 [(0,.ptr 0 0),(1,.pv (.fn 148)),(5,.pv (.int .i64 i))] [.obj (.box [.pv (.str s),.pv (.int .i64 n),.map 1]),.obj (.map es)]:=by
 intro m
 induction m with
 | zero=>
  intro i hi h
  obtain⟨e1,e2⟩:=Km Zj s i (by omega) h (fun hlt=>by omega)
  refine Rl s n es i (XI (by simp;omega) ⟨by simp;omega,by simp;omega,?_⟩)
  rw[e1,e2,Int.toNat_natCast,List.drop_zero,List.take_length];rfl
 | succ m ih=>
  intro i hi h
  have hlt:i<s.length:=by omega
  refine Rl s n es i ?_
  rw[a9x hlt]
  refine YF (by simp;omega) ⟨by simp;omega,Zo (s[i],()) rfl rfl,Zl (s[i],()) rfl (Vf (fun hc=> ?_) fun hc=>⟨by simp;omega,by simp;omega,?_⟩)⟩
  ·rw[next (by omega)]
   exact ih (i+1) (by omega) fun j hj hji=>if e:j=i then by subst e;exact hc else h j hj (by omega)
  ·obtain⟨e1,e2⟩:=Km Zj s i (by omega) h (fun _=>hc)
   rw[e1,e2,Int.toNat_natCast,List.drop_zero,List.take_length];rfl
theorem PU(s:List UInt8)(n:Int)(es:List (PV×PV))(hs:s.length<=1000000): ∀ (m i:Nat),m+i=s.length->(∀ j (h:j<s.length),j<i->Zv s[j]=true) ->
  At UO 2 (Zd 2 VJ fun r=>r=(.pv (.str (s.takeWhile Zv)),ME (s.dropWhile Zv) n es,[])) VB 0 42 [(0,.ptr 0 0),(1,.pv (.fn 153)),(5,.pv (.int .i64 i))] [.obj (.box [.pv (.str s),.pv (.int .i64 n),.map 1]),.obj (.map es)]:=by
 intro m
 induction m with
 | zero=>
  intro i hi h
  obtain⟨e1,e2⟩:=Km Zv s i (by omega) h (fun hlt=>by omega)
  refine Sj s n es i (XI (by simp;omega) ⟨by simp;omega,by simp;omega,?_⟩)
  rw[e1,e2,Int.toNat_natCast,List.drop_zero,List.take_length];rfl
 | succ m ih=>
  intro i hi h
  have hlt:i<s.length:=by omega
  refine Sj s n es i ?_
  rw[a9x hlt]
  refine YF (by simp;omega) ⟨by simp;omega,Zo (s[i],()) rfl rfl,Zl (s[i],()) rfl (Vf (fun hc=> ?_) fun hc=>⟨by simp;omega,by simp;omega,?_⟩)⟩
  ·rw[next (by omega)]
   exact ih (i+1) (by omega) fun j hj hji=>if e:j=i then by subst e;exact hc else h j hj (by omega)
  ·obtain⟨e1,e2⟩:=Km Zv s i (by omega) h (fun _=>hc)
   rw[e1,e2,Int.toNat_natCast,List.drop_zero,List.take_length];rfl
theorem M5: ∀ args os,Xb 148 args os=true->Zi UW os.length (Zd os.length Vt fun r=>r=C8 Zj args os) WR [] (Ym a1g args os):=by
 intro args os h
 unfold Xb at h
 split at h
 ·rename_i g s n es
  simp only[Bool.and_eq_true,beq_iff_eq,decide_eq_true_eq]at h
  obtain⟨rfl,h⟩:=h
  exact a2k s n es (Ph s n es h s.length 0 (by omega) fun j _ hj=>by omega)
 ·cases h
theorem LF: ∀ args os,Xb 153 args os=true->Zi UO os.length (Zd os.length VJ fun r=>r=C8 Zv args os) VB [] (Ym O5 args os):=by
 intro args os h
 unfold Xb at h
 split at h
 ·rename_i g s n es
  simp only[Bool.and_eq_true,beq_iff_eq,decide_eq_true_eq]at h
  obtain⟨rfl,h⟩:=h
  exact a3l s n es (PU s n es h s.length 0 (by omega) fun j _ hj=>by omega)
 ·cases h
theorem DI(p:UInt8->Bool)(s:List UInt8):(s.takeWhile p).length<=s.length:=(List.takeWhile_sublist p).length_le
theorem a1u{d:List UInt8}(h:(ZU ⟨d⟩).2.b=false):0<d.length:=by
 cases d with
 | nil=>exact absurd h (by decide)
 | cons c d=>simp
theorem a7i(e:Er):Vb (enc e) = !e.b:=by obtain⟨b⟩:=e;cases b <;> rfl
theorem a6x(e:Er):JN (enc e)=true:=by obtain⟨b⟩:=e;cases b <;> rfl
theorem RH: ∀ args os,ZO args os=true->Zi Gn os.length (Zd os.length Jy fun r=>r=Uy args os) Jj [] (Ym M0 args os):=by
 intro args os h
 unfold ZO at h
 split at h
 ·rename_i s n es
  have h:s.length<=1000000:=by simpa using h
  have hl:=DI Zj s
  refine ET s n es ⟨by simp[Xb,h],?_⟩
  have ev:Uy [.ptr 0 0] [.box [.pv (.str s),.pv (.int .i64 n),.map 1],.map es]=(.tup [.pv (.int .i64 (ZU ⟨s.takeWhile Zj⟩).1),.pv (.bool (KL (s.takeWhile Zj)))],ME (s.dropWhile Zj) n es,[]):=rfl
  rw[ev]
  generalize s.takeWhile Zj=d at hl ⊢
  refine⟨Zo ((⟨d⟩:Str),()) rfl (decide_eq_true (by show d.length<=_;omega)),Zl ((⟨d⟩:Str),()) rfl ⟨?_,?_⟩⟩
  ·show(JN (enc (ZU ⟨d⟩).2)&&true)=true
   rw[a6x];rfl
  show if Vb (enc (ZU ⟨d⟩).2)=true then _ else _
  rw[a7i]
  unfold KL
  refine Ww (fun hb=> ?_) fun hb=> ?_
  ·have hp:=a1u hb
   rw[hb]
   refine XR (fun h7=> ?_) fun h7=> ?_
   ·have h7:d.length<=7:=by omega
    cases d with
    | nil=>simp at hp
    | cons c r=>
     refine⟨by simp,?_⟩
     rw[decide_eq_true h7]
     have e:((UInt8.toNat (List.getD (c::r) (Int.toNat 0) (0:UInt8)):Int) != 48) = !(c==48):=by
      show(!((c.toNat:Int)==((48:Nat):Int)))=_
      rw[a6e c 48 (by omega)];rfl
     rw[e]
     refine Ww (fun hc=> ?_) fun hc=> ?_
     ·have hc:c≠48:=by simpa using hc
      simp[hc];rfl
     ·have hc:c=48:=by simpa using hc
      subst hc
      have e:((48::r:List UInt8)==[48])=(!false&&true&&(decide (((48:UInt8)::r).head? ≠ some 48)||decide ((48::r:List UInt8)=[48]))):=by cases r <;> simp
      rw[<- e];rfl
   ·have h7 : ¬ d.length<=7:=by omega
    simp[h7];rfl
  ·rw[hb];rfl
 ·cases h
theorem Bu: ∀ args os,ZO args os=true->Zi QX os.length (Zd os.length U5 fun r=>r=UU args os) U8 [] (Ym Tc args os):=by
 intro args os h
 unfold ZO at h
 split at h
 ·rename_i s n es
  have h:s.length<=1000000:=by simpa using h
  have hl:=DI Zv s
  exact Py s n es ⟨by simp[Xb,h],Zo ((⟨s.takeWhile Zv⟩:Str),()) rfl (decide_eq_true (by show(s.takeWhile Zv).length<=_;omega)),Zl ((⟨s.takeWhile Zv⟩:Str),()) rfl rfl⟩
 ·cases h
theorem Ea: ∀ args os,ZO args os=true->Zi Uz os.length (Zd os.length Vk fun r=>r=KD args os) Vl [] (Ym a2p args os):=by
 intro args os h
 unfold ZO at h
 split at h
 ·rename_i s n es
  have h:s.length<=1000000:=by simpa using h
  have ev:KD [.ptr 0 0] [.box [.pv (.str s),.pv (.int .i64 n),.map 1],.map es]=(.tup [.pv (.int .i64 (ZN s).1.1),.pv (.bool (ZN s).1.2)],ME (ZN s).2 n es,[]):=rfl
  rw[ev]
  refine a8q s n es (a2b s n es (Zl ((⟨s⟩:Str),(⟨[43]⟩:Str),()) rfl (Vf (fun h1=> ?_) fun h1=>a0y s n es (Zl ((⟨s⟩:Str),(⟨[45]⟩:Str),()) rfl (Vf (fun h2=> ?_) fun h2=>a0r s n es ?_)))))
  ·cases s with
   | nil=>cases h1
   | cons c r=>
    have hc:c=43:=by
     have:([43]:List UInt8).isPrefixOf (c::r)=true:=h1
     exact(by simpa [List.isPrefixOf]using this:43=c).symm
    subst hc
    refine⟨by simp,?_⟩
    simp[ZN,ME]
  ·cases s with
   | nil=>cases h2
   | cons c r=>
    have hc:c=45:=by
     have:([45]:List UInt8).isPrefixOf (c::r)=true:=h2
     exact(by simpa [List.isPrefixOf]using this:45=c).symm
    subst hc
    refine⟨by simp,?_⟩
    simp[ZN,ME]
  ·cases s with
   | nil=>rfl
   | cons c r=>
    have hc1:c≠43:=by
     intro e;subst e
     have:([43]:List UInt8).isPrefixOf (43::r)=false:=h1
     simp[List.isPrefixOf]at this
    have hc2:c≠45:=by
     intro e;subst e
     have:([45]:List UInt8).isPrefixOf (45::r)=false:=h2
     simp[List.isPrefixOf]at this
    simp[ZN,hc1,hc2,ME]
 ·cases h
end Go.Pl

namespace Go.Pl
open Go.RowKit
open Enc (enc dec is)
open EncL (encL decL isL)
theorem Hq(v:List UInt8)(m:List (Str×Int)):(Wu (PV.str v) (Zc m)&&Sh.fit (Sh.int .i64) (ZL (PV.str v) (PV.int .i64 0) (Zc m)))=true:=by rw[WC,WF];rfl
theorem Ht(v:List UInt8)(c:Int)(m:List (Str×Int)):JW (PV.str v) (PV.int .i64 c) (Zc m)=true:=by
 unfold JW
 rw[Hg ⟨v⟩ c m];rfl
theorem Ha(v:List UInt8)(k:Int)(m:List (Str×Int)):JY (PV.str v) (PV.int .i64 (IntKind.i64.wrap (PV.asInt (ZL (PV.str v) (PV.int .i64 0) (Zc m))+k))) (Zc m)=Zc (Va ⟨v⟩ (Yd (Vj m v+k)) m):=by
 rw[WF]
 unfold JY
 rw[Hg ⟨v⟩ _ m];rfl
theorem VZ(s:List UInt8)(n:Int)(m:List (Str×Int))(h:s.length<=1000000):ZO [.ptr 0 0] [.box [.pv (.str s),.pv (.int .i64 n),.map 1],.map (Zc m)]=true:=decide_eq_true h
theorem Uf(p:UInt8->Bool)(s:List UInt8):(s.dropWhile p).length<=s.length:=(List.dropWhile_sublist p).length_le
theorem a2a(r:RdS)(g:Int)(hs:r.s.length<=1000000):Zi Dc 2 (Zd 2 KP fun z=>z=TR (ZQ r g)) Hd [] (Ym NF [.ptr 0 0,.pv (.int .i64 g)] [.box [.pv (.str r.s),.pv (.int .i64 r.n),.map 1],.map (Zc r.m)]):=by
 obtain⟨s,n,m⟩:=r
 have hs:s.length<=1000000:=hs
 show Zi Dc 2 (Zd 2 KP fun z=>z=TR (ZQ ⟨s,n,m⟩ g)) _ _ _
 refine a7z s n m g (Wx (fun h0=> ?_) fun h0=> ?_)
 ·have h0:s=[]:=h0
  subst h0
  rfl
 have h0:s≠[]:=h0
 have hp:0<s.length:=List.length_pos_iff.2 h0
 have hg:((UInt8.toNat (List.getD s (Int.toNat 0) (0:UInt8)):Nat):Int)=(((s.headD 0).toNat:Nat):Int):=by
  cases s with
  | nil=>exact absurd rfl h0
  | cons c s=>rfl
 rw[hg]
 refine⟨by simp;omega,Zo (s.headD 0,()) rfl rfl,Zl (s.headD 0,()) rfl (Ww (fun hd=> ?_) fun hd=> ?_)⟩
 ·have hd:Zj (s.headD 0)=false:=hd
  have e:ZQ ⟨s,n,m⟩ g=DJ s n m g:=by
   unfold ZQ
   rw[if_neg h0,if_pos hd]
  rw[e]
  refine⟨VZ s n m hs,Hq _ _,Ht _ _ _,?_⟩
  rw[Ha];rfl
 have hd:Zj (s.headD 0)=true:=hd
 refine⟨VZ s n m hs,Ww (fun hn=> ?_) fun hn=> ?_⟩
 ·have e:ZQ ⟨s,n,m⟩ g=(false,⟨s.dropWhile Zj,n,m⟩):=by
   unfold ZQ
   rw[if_neg h0,if_neg (by rw[hd];simp),if_pos hn]
  rw[e];rfl
 have e:ZQ ⟨s,n,m⟩ g=Vw (s.dropWhile Zj) n m (Yd (g*(ZU ⟨s.takeWhile Zj⟩).1)):=by
  unfold ZQ
  rw[if_neg h0,if_neg (by rw[hd];simp),if_neg (by rw[hn];simp)]
 rw[e]
 have hl:=Uf Zj s
 generalize (ZU ⟨s.takeWhile Zj⟩).1=k
 generalize s.dropWhile Zj=t at hl ⊢
 have hb:=Uf (fun c=>c==32) t
 have hb:(Za t).length<=t.length:=hb
 refine Zl ((⟨t⟩:Str),(⟨[32]⟩:Str),()) rfl (Zl ((⟨Za t⟩:Str),(⟨[42]⟩:Str),()) rfl (Vf (fun hx=> ?_) fun hx=> ?_))
 ·have hx:([42]:List UInt8).isPrefixOf (Za t)=true:=hx
  have ed:List.drop (Int.toNat 1) (List.take (List.length (Za t)) (Za t))=(Za t).drop 1:=by rw[List.take_length];rfl
  have hpos:1<=(Za t).length:=by
   cases h:Za t with
   | nil=>rw[h]at hx;cases hx
   | cons c r=>simp
  have e2:Vw t n m (Yd (g*k))=DJ (Za ((Za t).drop 1)) n m (Yd (g*k)):=by unfold Vw;rw[if_pos hx]
  rw[e2]
  show _∧_
  refine⟨by simp;omega,?_⟩
  show ZO [.ptr 0 0] [.box [.pv (.str (List.drop (Int.toNat 1) (List.take (List.length (Za t)) (Za t)))),.pv (.int .i64 n),.map 1],.map (Zc m)]=true∧_
  rw[ed]
  have hl2:((Za t).drop 1).length<=1000000:=by simp;omega
  generalize (Za t).drop 1=u at hl2 ⊢
  have hl3:(Za u).length<=u.length:=Uf (fun c=>c==32) u
  refine⟨VZ u n m hl2,VZ (Za u) n m (by omega),Hq _ _,Ht _ _ _,?_⟩
  rw[Ha];rfl
 ·have hx:([42]:List UInt8).isPrefixOf (Za t)=false:=hx
  have e2:Vw t n m (Yd (g*k))=if t=[]∨Zv (t.headD 0)=false then(true,⟨t,Yd (n+Yd (g*k)),m⟩)else DJ t n m (Yd (g*k)):=by unfold Vw;rw[if_neg (by rw[hx];simp)]
  rw[e2]
  refine Wx (fun ht=> ?_) fun ht=> ?_
  ·have ht:t=[]:=ht
   rw[if_pos (.inl ht)];rfl
  have ht:t≠[]:=ht
  have htp:0<t.length:=List.length_pos_iff.2 ht
  have hg2:((UInt8.toNat (List.getD t (Int.toNat 0) (0:UInt8)):Nat):Int)=(((t.headD 0).toNat:Nat):Int):=by
   cases t with
   | nil=>exact absurd rfl ht
   | cons c s=>rfl
  rw[hg2]
  refine⟨by simp;omega,Zo (t.headD 0,()) rfl rfl,Zl (t.headD 0,()) rfl (Ww (fun hc=> ?_) fun hc=> ?_)⟩
  ·have hc:Zv (t.headD 0)=false:=hc
   rw[if_pos (.inr hc)];rfl
  ·have hc:Zv (t.headD 0)=true:=hc
   rw[if_neg (by rintro(h|h);exact ht h;rw[hc]at h;cases h)]
   refine⟨VZ t n m (by omega),Hq _ _,Ht _ _ _,?_⟩
   rw[Ha];rfl
theorem OE: ∀ args os,QD args os=true->Zi Dc os.length (Zd os.length KP fun r=>r=KQ args os) Hd [] (Ym NF args os):=by
 intro args os h
 unfold QD at h
 split at h
 ·rename_i g s n es
  simp only[Bool.and_eq_true,decide_eq_true_eq]at h
  obtain⟨h1,h2⟩:=h
  obtain⟨m,rfl⟩:=UR h1
  have ev:KQ [.ptr 0 0,.pv (.int .i64 g)] [.box [.pv (.str s),.pv (.int .i64 n),.map 1],.map (Zc m)]=TR (ZQ ⟨s,n,m⟩ g):=by
   show TR (ZQ ⟨s,n,ZZ (Zc m)⟩ g)=_
   rw[Yj]
  rw[ev]
  exact a2a ⟨s,n,m⟩ g h2
 ·cases h
end Go.Pl

namespace Go.Pl
open Go.RowKit
open Enc (enc dec is)
open EncL (encL decL isL)
theorem Tn(u:List UInt8):(ZN u).2.length<=u.length∧((ZN u).1.2=true->(ZN u).2.length<u.length):=by
 cases u with
 | nil=>exact⟨Nat.le_refl _,fun h=>by cases h⟩
 | cons c r=>
  have e:ZN (c::r)=if c=43 then((1,true),r)else if c=45 then((-1,true),r)else((1,false),c::r):=rfl
  rw[e]
  by_cases h1:c=43
  ·rw[if_pos h1];exact⟨by simp,fun _=>by simp⟩
  ·rw[if_neg h1]
   by_cases h2:c=45
   ·rw[if_pos h2];exact⟨by simp,fun _=>by simp⟩
   ·rw[if_neg h2];exact⟨Nat.le_refl _,fun h=>by cases h⟩
theorem Vr(s:List UInt8):(Za s).length<=s.length:=Uf _ s
theorem MO(s:Str)(c:Int)(m:List (Str×Int))(x:List UInt8)(h:x∈ZR (Va s c m)):x∈ZR m∨x=s.s:=by
 rcases Us s c m with e|⟨_,e⟩
 ·rw[e]at h;exact .inl h
 ·rw[e,List.mem_append]at h
  rcases h with h|h
  ·exact .inl h
  ·exact .inr (List.mem_singleton.1 h)
def okR(r:RdS)(z:Bool×RdS):Prop:=z.2.s.length<=r.s.length∧z.2.m.length<=r.m.length+1∧ ∀ x∈ZR z.2.m,x∈ZR r.m∨x.length<=r.s.length
theorem BS(s:List UInt8)(n n':Int)(m:List (Str×Int))(k:Int)(t:List UInt8)(h:s.length<=t.length):okR ⟨t,n',m⟩ (DJ s n m k):=by
 have h1:=Uf Zv s
 have h2:=DI Zv s
 refine⟨by show(s.dropWhile Zv).length<=t.length;omega,Bd _ _ _,fun x hx=> ?_⟩
 rcases MO _ _ _ x hx with h|rfl
 ·exact .inl h
 ·exact .inr (by show(s.takeWhile Zv).length<=t.length;omega)
theorem Ep(r:RdS)(g:Int):okR r (ZQ r g):=by
 obtain⟨s,n,m⟩:=r
 have self : ∀ (b:Bool) (t:List UInt8) (n':Int),t.length<=s.length->okR ⟨s,n,m⟩ (b,⟨t,n',m⟩):=fun b t n' h=>⟨h,Nat.le_succ _,fun x hx=>.inl hx⟩
 have h1:=Uf Zj s
 unfold ZQ
 split
 ·exact self _ _ _ (Nat.le_refl _)
 ·split
  ·exact BS _ _ _ _ _ _ (Nat.le_refl _)
  ·split
   ·exact self _ _ _ h1
   ·simp only
    generalize s.dropWhile Zj=t at h1 ⊢
    have hb:=Vr t
    unfold Vw
    split
    ·have hc:=Vr ((Za t).drop 1)
     have hd:((Za t).drop 1).length<=(Za t).length:=by rw[List.length_drop];omega
     exact BS _ _ _ _ _ _ (by omega)
    ·split
     ·exact self _ _ _ h1
     ·exact BS _ _ _ _ _ _ h1
theorem a9h(s:List UInt8)(n:Int)(m:List (Str×Int))(g:Int)(h:s.length<=1000000):QD [.ptr 0 0,.pv (.int .i64 g)] [.box [.pv (.str s),.pv (.int .i64 n),.map 1],.map (Zc m)]=true:=by
 show(K8 (Zc m)&&decide (s.length<=1000000))=true
 rw[Ui,decide_eq_true h];rfl
theorem PN(s:List UInt8): ∀ (f:Nat) (t:List UInt8) (n:Int) (m:List (Str×Int)) (g:Int),t.length<f->t.length+m.length<=500000->(∀ x∈ZR m,x.length<=500000) ->
  At UZ 0 (Ze VE (ZI (Q8 f t n m g))) VC 0 51 [(2,.ptr 0 0),(4,.ptr 1 0),(5,.fn 79 [.ptr 1 0] []),(6,.pv (.int .i64 g))] [.obj (.box [.pv (.int .i64 0),.pv (.sl 0 true [])]),.obj (.box [.pv (.str t),.pv (.int .i64 n),.map 2]),.obj (.map (Zc m))]:=by
 intro f
 induction f with
 | zero=>intro t n m g h;omega
 | succ f ih=>
  intro t n m g hf hl hk
  have hbl:=Vr t
  refine OC s t n m g ⟨VZ t n m (by omega),a9h _ n m g (by omega),?_⟩
  rw[Yj]
  have ho:=Ep ⟨Za t,n,m⟩ g
  unfold Q8
  generalize ZQ ⟨Za t,n,m⟩ g=z at ho ⊢
  obtain⟨b,u,n',m'⟩:=z
  obtain⟨o1,o2,o3⟩:=ho
  have o1:u.length<=(Za t).length:=o1
  have o2:m'.length<=m.length+1:=o2
  have o3 : ∀ x∈ZR m',x∈ZR m∨x.length<=(Za t).length:=o3
  have hk' : ∀ x∈ZR m',x.length<=500000:=fun x hx=>(o3 x hx).elim (hk x) fun h=>by omega
  have hub:=Vr u
  simp only
  generalize hV:(if b=false then((⟨0,[]⟩,6):Lin×Int)else if Za u=[]then Xr n' m' else if (ZN (Za u)).1.2=false then(⟨0,[]⟩,6)else Q8 f (ZN (Za u)).2 n' m' (ZN (Za u)).1.1)=V
  refine Ww (fun hb=> ?_) fun hb=> ?_
  ·have hv:V=(⟨0,[]⟩,6):=by rw[<- hV,if_pos hb]
   rw[hv]
   exact⟨rfl,rfl⟩
  have hb' : ¬ b=false:=by
   have:b=true:=hb
   rw[this];simp
  rw[if_neg hb']at hV
  refine⟨VZ u n' m' (by omega),Wx (fun he=> ?_) fun he=> ?_⟩
  ·have hv:V=Xr n' m':=by rw[<- hV,if_pos he]
   rw[hv,Yj]
   refine⟨?_,Yx (x:=Xr n' m') rfl⟩
   show(K8 (Zc m')&&QR (ZZ (Zc m')))=true
   rw[Ui,Yj]
   simp only[QR,Bool.true_and,Bool.and_eq_true,decide_eq_true_eq,List.all_eq_true]
   exact⟨by omega,fun x hx=>by have:=hk' x hx;omega⟩
  ·rw[if_neg he]at hV
   obtain⟨s1,s2⟩:=Tn (Za u)
   refine⟨VZ (Za u) n' m' (by omega),Ww (fun hs=> ?_) fun hs=> ?_⟩
   ·have hv:V=(⟨0,[]⟩,6):=by rw[<- hV,if_pos hs]
    rw[hv]
    exact⟨rfl,rfl⟩
   ·have hs' : ¬ (ZN (Za u)).1.2=false:=by
     have:(ZN (Za u)).1.2=true:=hs
     rw[this];simp
    rw[if_neg hs']at hV
    have:=s2 hs
    rw[<- hV]
    exact ih (ZN (Za u)).2 n' m' (ZN (Za u)).1.1 (by omega) (by omega) hk'
theorem MP: ∀ a:Str×Unit,decide (a.1.s.length<=400000)=true->Zi UZ 0 (Ze VE (ZI (Zn a.1.s))) VC [] (Xz a2g (encL a)):=by
 rintro⟨⟨s⟩,⟨⟩⟩ h
 have h:s.length<=400000:=by simpa using h
 have h1:=Vr s
 have h2:=(Tn (Za s)).1
 refine a2h s ⟨VZ s 0 [] (by omega),VZ (Za s) 0 [] (by omega),?_⟩
 exact PN s (s.length+1) (ZN (Za s)).2 0 [] (ZN (Za s)).1.1 (by omega) (by simp;omega) (fun x hx=>by cases hx)
end Go.Pl

namespace Go.Pl
open Go.RowKit
open Enc (enc dec is)
open EncL (encL decL isL)
set_option maxRecDepth 100000
def Jw:IC:=(.seq (.reg [⟨(some 4),(.mv (.c (.int .i64 0))),0,none⟩] none) (.seq (.block 0 (.seq (.reg [⟨(some 6),(.mv (.t 0)),0,none⟩,⟨(some 7),(.mv (.t 1)),0,none⟩,⟨(some 8),(.bin .num .lss (.t 6) (.t 7)),0,none⟩,⟨(some 5),(.mv (.t 8)),0,none⟩] none) (.cond (.t 5) (.seq (.reg [⟨(some 4),(.mv (.c (.int .i64 (-1)))),0,none⟩] none) .ret) (.seq (.reg [⟨(some 10),(.mv (.t 0)),0,none⟩,⟨(some 11),(.mv (.t 1)),0,none⟩,⟨(some 12),(.bin .num .gtr (.t 10) (.t 11)),0,none⟩,⟨(some 9),(.mv (.t 12)),0,none⟩] none) (.cond (.t 9) (.seq (.reg [⟨(some 4),(.mv (.c (.int .i64 1))),0,none⟩] none) .ret) .skip))))) (.seq (.reg [⟨(some 4),(.mv (.c (.int .i64 0))),0,none⟩] none) .ret)))
def QC:List IRes:=[(.tmp 4)]
abbrev MU:Nat:=13
def KZ:ZJ:=WI []
theorem Oq{G:PV->Prop}(a b:Int)(h:if (decide (a<b))=true then G ((.int .i64 (-1)))else(if (decide (a>b))=true then G ((.int .i64 1))else(G ((.int .i64 0))))):Zi KZ 0 (Ze QC G) Jw [] (Xz 13 [enc a,enc b]):=Zi.tp (.lit (.ask (.nil) (.lit (.ask (.nil) (.nil))))) h (by kernel_rfl)
def Du:IC:=(.seq (.reg [⟨(some 2),(.box 2 (.t 0)),0,none⟩,⟨(some 3),(.box 2 (.t 1)),1,none⟩,⟨(some 4),(.mv (.c (.int .i64 0))),2,none⟩] none) (.seq (.seq (.reg [⟨(some 6),(.faddr 0 (.t 2)),0,none⟩,⟨(some 7),(.load false [.str] (.t 6)),0,none⟩,⟨(some 8),(.faddr 0 (.t 3)),0,none⟩,⟨(some 9),(.load false [.str] (.t 8)),0,none⟩,⟨(some 10),(.call (.c (.fn 212)) [(.t 7),(.t 9)]),0,none⟩,⟨(some 5),(.mv (.t 10)),2,none⟩] none) (.seq (.reg [⟨(some 11),(.mv (.t 5)),0,none⟩,⟨(some 12),(.bin .num .neq (.t 11) (.c (.int .i64 0))),0,none⟩] none) (.cond (.t 12) (.seq (.reg [⟨(some 13),(.mv (.t 5)),0,none⟩,⟨(some 4),(.mv (.t 13)),0,none⟩] none) .ret) .skip))) (.seq (.reg [⟨(some 14),(.faddr 1 (.t 2)),0,none⟩,⟨(some 15),(.load false [(.int .i64)] (.t 14)),0,none⟩,⟨(some 16),(.faddr 1 (.t 3)),0,none⟩,⟨(some 17),(.load false [(.int .i64)] (.t 16)),0,none⟩,⟨(some 18),(.call (.c (.fn 213)) [(.t 15),(.t 17)]),0,none⟩,⟨(some 4),(.mv (.t 18)),2,none⟩] none) .ret)))
def KR:List IRes:=[(.tmp 4)]
abbrev Ox:Nat:=19
def HY:ZJ:=WI [(212,.pure (preT (fun _:Str×Str×Unit=>true)) (Zk (fun x:Str×Str×Unit=>Lib.compareBytes x.1.s x.2.1.s))),(213,.pure (preT (fun _:Int×Int×Unit=>true)) (Zk (fun x:Int×Int×Unit=>Qm x.1 x.2.1)))]
theorem a5d{G:PV->Prop}(x y:Coef)(h : ∃ y0:Int,AV.pv (Zk (fun(x:Str×Str×Unit)=>Lib.compareBytes (Str.s x.1) (Str.s x.2.1)) [(.str (Str.s x.v)),(.str (Str.s y.v))])=AV.pv (enc y0)∧(if (y0 != 0)=true then G ((.int .i64 y0))else(∃ y1:Int,AV.pv (Zk (fun(x:Int×Int×Unit)=>Qm x.1 x.2.1) [(.int .i64 x.c),(.int .i64 y.c)])=AV.pv (enc y1)∧(G ((.int .i64 y1)))))):Zi HY 0 (Ze KR G) Du [] (Xz 19 [enc x,enc y]):=Zi.tp (.lit (.abs (Int) (fun YY=>AV.pv (enc YY)) (.lit (.ask (.nil) (.lit (.abs (Int) (fun YY=>AV.pv (enc YY)) (.nil))))))) h (by kernel_rfl)
def VI:IC:=(.seq (.reg [⟨(some 6),(.mv (.c (.int .i64 0))),0,none⟩] none) (.seq (.seq (.reg [⟨(some 11),(.mv (.t 0)),0,none⟩,⟨(some 12),(.len 1 (.t 11)),0,none⟩,⟨(some 13),(.mv (.c (.int .i64 0))),0,none⟩] none) (.block 0 (.loop [13,12,11,1,2,0] (.seq (.reg [⟨(some 14),(.bin .num .lss (.t 13) (.t 12)),0,none⟩] none) (.seq (.cond (.t 14) .skip (.exit 0)) (.seq (.block 1 (.seq (.reg [⟨(some 15),(.mv (.t 13)),0,none⟩,⟨(some 16),(.iaddr 2 (.t 11) (.t 13)),0,none⟩,⟨(some 17),(.load true [.str,(.int .i64)] (.t 16)),0,none⟩,⟨(some 8),(.alloc (.agg [(.str []),(.int .i64 0)])),0,none⟩,⟨(some 7),(.mv (.t 15)),1,none⟩,⟨none,(.store 2 (.t 8) (.t 17)),1,none⟩] none) (.seq (.seq (.reg [⟨(some 18),(.mv (.t 7)),0,none⟩,⟨(some 19),(.mv (.t 1)),0,none⟩,⟨(some 20),(.len 1 (.t 19)),0,none⟩,⟨(some 21),(.bin .num .geq (.t 18) (.t 20)),0,none⟩] none) (.cond (.t 21) (.seq (.reg [⟨(some 6),(.mv (.c (.int .i64 1))),0,none⟩] none) .ret) .skip)) (.seq (.reg [⟨(some 22),(.mv (.t 1)),0,none⟩,⟨(some 23),(.mv (.t 7)),0,none⟩,⟨(some 24),(.iaddr 2 (.t 22) (.t 23)),0,none⟩,⟨(some 25),(.load true [.str,(.int .i64)] (.t 24)),0,none⟩,⟨(some 9),(.alloc (.agg [(.str []),(.int .i64 0)])),0,none⟩,⟨none,(.store 2 (.t 9) (.t 25)),1,none⟩] none) (.seq (.reg [⟨(some 26),(.mv (.t 2)),0,none⟩,⟨(some 27),(.load true [.str,(.int .i64)] (.t 8)),0,none⟩,⟨(some 28),(.load true [.str,(.int .i64)] (.t 9)),0,none⟩,⟨(some 29),(.call (.t 26) [(.t 27),(.t 28)]),0,none⟩,⟨(some 10),(.mv (.t 29)),2,none⟩] none) (.seq (.reg [⟨(some 30),(.mv (.t 10)),0,none⟩,⟨(some 31),(.bin .num .neq (.t 30) (.c (.int .i64 0))),0,none⟩] none) (.cond (.t 31) (.seq (.reg [⟨(some 32),(.mv (.t 10)),0,none⟩,⟨(some 6),(.mv (.t 32)),0,none⟩] none) .ret) .skip))))))) (.reg [⟨(some 33),(.bin .num .add (.t 13) (.c (.int .i64 1))),0,none⟩,⟨(some 13),(.mv (.t 33)),0,none⟩] none))))))) (.seq (.seq (.reg [⟨(some 34),(.mv (.t 0)),0,none⟩,⟨(some 35),(.len 1 (.t 34)),0,none⟩,⟨(some 36),(.mv (.t 1)),0,none⟩,⟨(some 37),(.len 1 (.t 36)),0,none⟩,⟨(some 38),(.bin .num .lss (.t 35) (.t 37)),0,none⟩] none) (.cond (.t 38) (.seq (.reg [⟨(some 6),(.mv (.c (.int .i64 (-1)))),0,none⟩] none) .ret) .skip)) (.seq (.reg [⟨(some 6),(.mv (.c (.int .i64 0))),0,none⟩] none) .ret))))
def Vq:List IRes:=[(.tmp 6)]
abbrev OI:Nat:=39
def UQ:ZJ:=WI [(211,.pure (preT (fun _:Coef×Coef×Unit=>true)) (Zk (fun x:Coef×Coef×Unit=>DZ x.1 x.2.1)))]
theorem a3n{G:PV->Prop}(a b:List Coef)(h:At UQ 0 (Ze Vq G) VI 0 39 [(0,(.pv (.sl 2 false (List.map enc a)))),(1,(.pv (.sl 2 false (List.map enc b)))),(2,(.pv (.fn 211))),(11,(.pv (.sl 2 false (List.map enc a)))),(12,(.pv (.int .i64 (↑(List.length (List.map enc a)):Int)))),(13,(.pv (.int .i64 0)))] []):Zi UQ 0 (Ze Vq G) VI [] (Xz 39 [enc a,enc b,.fn 211]):=Zi.tp (.nil) h (by kernel_rfl)
theorem Tu{G:PV->Prop}(a b:List Coef)(i:Int)(h:if (decide (i<(↑(List.length a):Int)))=true then(decide (0<=i)&&decide (Int.toNat i<List.length (List.map enc a))&&Enc.sz Coef==2)=true∧(∃ y0:Coef,AV.pv (PV.rptr (PV.cells (List.getD (List.map enc a) (Int.toNat i) default)))=AV.pv (PV.rptr (PV.cells ((enc) y0)))∧(if (decide (i ≥ (↑(List.length (List.map enc b)):Int)))=true then G ((.int .i64 1))else((decide (0<=i)&&decide (Int.toNat i<List.length (List.map enc b))&&Enc.sz Coef==2)=true∧(∃ y1:Coef,AV.pv (PV.rptr (PV.cells (List.getD (List.map enc b) (Int.toNat i) default)))=AV.pv (PV.rptr (PV.cells ((enc) y1)))∧(∃ y2:Int,AV.pv (Zk (fun(x:Coef×Coef×Unit)=>DZ x.1 x.2.1) [(.agg [(.str (PV.asStr (List.getD (PV.cells (enc y0)) 0 default))),(.int .i64 (PV.asInt (List.getD (PV.cells (enc y0)) (0+1) default)))]),(.agg [(.str (PV.asStr (List.getD (PV.cells (enc y1)) 0 default))),(.int .i64 (PV.asInt (List.getD (PV.cells (enc y1)) (0+1) default)))])])=AV.pv (enc y2)∧(if (y2 != 0)=true then G ((.int .i64 y2))else(At UQ 0 (Ze Vq G) VI 0 39 [(0,(.pv (.sl 2 false (List.map enc a)))),(1,(.pv (.sl 2 false (List.map enc b)))),(2,(.pv (.fn 211))),(11,(.pv (.sl 2 false (List.map enc a)))),(12,(.pv (.int .i64 (↑(List.length a):Int)))),(13,(.pv (.int .i64 (IntKind.wrap IntKind.i64 (i+1)))))] [])))))))else(if (decide ((↑(List.length (List.map enc a)):Int)<(↑(List.length (List.map enc b)):Int)))=true then G ((.int .i64 (-1)))else(G ((.int .i64 0))))):At UQ 0 (Ze Vq G) VI 0 39 [(0,.pv (enc a)),(1,.pv (enc b)),(2,.pv (.fn 211)),(11,.pv (enc a)),(12,.pv (.int .i64 a.length)),(13,.pv (.int .i64 i))] []:=At.tp (.lit (.ask (.req (.abs (Coef) (fun YY=>AV.pv (PV.rptr (PV.cells ((enc) YY)))) (.lit (.lit (.ask (.nil) (.req (.abs (Coef) (fun YY=>AV.pv (PV.rptr (PV.cells ((enc) YY)))) (.lit (.lit (.abs (Int) (fun YY=>AV.pv (enc YY)) (.lit (.ask (.nil) (.lit (.nil)))))))))))))) (.lit (.ask (.nil) (.nil))))) h (by kernel_rfl)
def Ah:IC:=(.seq (.reg [⟨(some 2),(.box 2 (.t 0)),0,none⟩,⟨(some 3),(.box 2 (.t 1)),1,none⟩,⟨(some 4),(.mv (.c (.int .i64 0))),2,none⟩] none) (.seq (.reg [⟨(some 6),(.faddr 1 (.t 2)),0,none⟩,⟨(some 7),(.load false [(.sl 2)] (.t 6)),0,none⟩,⟨(some 8),(.faddr 1 (.t 3)),0,none⟩,⟨(some 9),(.load false [(.sl 2)] (.t 8)),0,none⟩,⟨(some 10),(.call (.c (.fn 210)) [(.t 7),(.t 9),(.c (.fn 211))]),0,none⟩,⟨(some 5),(.mv (.t 10)),2,none⟩] none) (.seq (.seq (.reg [⟨(some 11),(.mv (.t 5)),0,none⟩,⟨(some 12),(.bin .num .neq (.t 11) (.c (.int .i64 0))),0,none⟩] none) (.cond (.t 12) (.seq (.reg [⟨(some 13),(.mv (.t 5)),0,none⟩,⟨(some 4),(.mv (.t 13)),0,none⟩] none) .ret) .skip)) (.seq (.reg [⟨(some 14),(.faddr 0 (.t 2)),0,none⟩,⟨(some 15),(.load false [(.int .i64)] (.t 14)),0,none⟩,⟨(some 16),(.faddr 0 (.t 3)),0,none⟩,⟨(some 17),(.load false [(.int .i64)] (.t 16)),0,none⟩,⟨(some 18),(.call (.c (.fn 213)) [(.t 15),(.t 17)]),0,none⟩,⟨(some 4),(.mv (.t 18)),2,none⟩] none) .ret))))
def He:List IRes:=[(.tmp 4)]
abbrev a4d:Nat:=19
def AA:ZJ:=WI [(210,.pure (preT (fun x:List Coef×List Coef×FnV 211×Unit=>decide (x.1.length<=9223372036854775807)&&decide (x.2.1.length<=9223372036854775807))) (Zk (fun x:List Coef×List Coef×FnV 211×Unit=>WS x.1 x.2.1))),(213,.pure (preT (fun _:Int×Int×Unit=>true)) (Zk (fun x:Int×Int×Unit=>Qm x.1 x.2.1)))]
theorem a7s{G:PV->Prop}(a b:Lin)(h:(Go.Pl.preT (fun(x:List Coef×List Coef×FnV 211×Unit)=>decide (List.length x.1<=9223372036854775807)&&decide (List.length x.2.1<=9223372036854775807)) [(.sl 2 false (List.map enc a.t)),(.sl 2 false (List.map enc b.t)),(.fn 211)])=true∧(∃ y0:Int,AV.pv (Zk (fun(x:List Coef×List Coef×FnV 211×Unit)=>WS x.1 x.2.1) [(.sl 2 false (List.map enc a.t)),(.sl 2 false (List.map enc b.t)),(.fn 211)])=AV.pv (enc y0)∧(if (y0 != 0)=true then G ((.int .i64 y0))else(∃ y1:Int,AV.pv (Zk (fun(x:Int×Int×Unit)=>Qm x.1 x.2.1) [(.int .i64 a.k),(.int .i64 b.k)])=AV.pv (enc y1)∧(G ((.int .i64 y1))))))):Zi AA 0 (Ze He G) Ah [] (Xz 19 [enc a,enc b]):=Zi.tp (.req (.abs (Int) (fun YY=>AV.pv (enc YY)) (.lit (.ask (.nil) (.lit (.abs (Int) (fun YY=>AV.pv (enc YY)) (.nil))))))) h (by kernel_rfl)
def Ry:IC:=(.seq (.reg [⟨(some 2),(.box 2 (.t 0)),0,none⟩,⟨(some 3),(.box 2 (.t 1)),1,none⟩,⟨(some 4),(.mv (.c (.bool false))),2,none⟩] none) (.seq (.reg [⟨(some 5),(.load true [(.int .i64),(.sl 2)] (.t 2)),0,none⟩,⟨(some 6),(.load true [(.int .i64),(.sl 2)] (.t 3)),0,none⟩,⟨(some 7),(.call (.c (.fn 145)) [(.t 5),(.t 6)]),0,none⟩,⟨(some 8),(.bin .num .eql (.t 7) (.c (.int .i64 0))),2,none⟩,⟨(some 4),(.mv (.t 8)),2,none⟩] none) .ret))
def R8:List IRes:=[(.tmp 4)]
abbrev a6t:Nat:=9
def a1w:ZJ:=WI [(145,.pure (preT (fun x:Lin×Lin×Unit=>Zz x.1&&Zz x.2.1)) (Zk (fun x:Lin×Lin×Unit=>VA x.1 x.2.1)))]
theorem a9w{G:PV->Prop}(a b:Lin)(h:(Go.Pl.preT (fun(x:Lin×Lin×Unit)=>Zz x.1&&Zz x.2.1) [(.agg [(.int .i64 a.k),(.sl 2 false (List.map enc a.t))]),(.agg [(.int .i64 b.k),(.sl 2 false (List.map enc b.t))])])=true∧(∃ y0:Int,AV.pv (Zk (fun(x:Lin×Lin×Unit)=>VA x.1 x.2.1) [(.agg [(.int .i64 a.k),(.sl 2 false (List.map enc a.t))]),(.agg [(.int .i64 b.k),(.sl 2 false (List.map enc b.t))])])=AV.pv (enc y0)∧(G ((.bool (y0==0)))))):Zi a1w 0 (Ze R8 G) Ry [] (Xz 9 [enc a,enc b]):=Zi.tp (.req (.abs (Int) (fun YY=>AV.pv (enc YY)) (.lit (.nil)))) h (by kernel_rfl)
def Bz:IC:=(.seq (.reg [⟨(some 6),(.mv (.t 0)),0,none⟩,⟨(some 7),(.call (.c (.fn 76)) [(.t 6)]),0,none⟩,⟨(some 5),(.mv (.t 7)),2,none⟩] none) (.seq (.seq (.reg [⟨(some 8),(.mv (.t 1)),0,none⟩,⟨(some 9),(.bin .num .neq (.t 8) (.c (.str []))),0,none⟩,⟨(some 10),(.mv (.t 9)),0,none⟩,⟨(some 11),(.mv (.t 0)),0,(some (10,true))⟩,⟨(some 12),(.bin .num .eql (.t 11) (.c (.int .i64 1))),0,(some (10,true))⟩,⟨(some 13),(.mv (.t 12)),0,(some (10,true))⟩,⟨(some 14),(.mv (.t 0)),0,(some (13,false))⟩,⟨(some 15),(.bin .num .eql (.t 14) (.c (.int .i64 (-1)))),0,(some (13,false))⟩,⟨(some 16),(.pick (.t 13) (.c (.bool true)) (.t 15)),0,(some (10,true))⟩,⟨(some 17),(.pick (.t 10) (.t 16) (.c (.bool false))),0,none⟩] none) (.cond (.t 17) (.reg [⟨(some 18),(.mv (.t 5)),0,none⟩,⟨(some 19),(.call (.c (.fn 77)) [(.t 18),(.c (.str [49]))]),0,none⟩,⟨(some 5),(.mv (.t 19)),2,none⟩] none) .skip)) (.seq (.seq (.reg [⟨(some 20),(.mv (.t 0)),0,none⟩,⟨(some 21),(.bin .num .geq (.t 20) (.c (.int .i64 0))),0,none⟩,⟨(some 22),(.mv (.t 21)),0,none⟩,⟨(some 23),(.load false [.str] (.t 2)),0,(some (22,true))⟩,⟨(some 24),(.bin .num .neq (.t 23) (.c (.str []))),0,(some (22,true))⟩,⟨(some 25),(.pick (.t 22) (.t 24) (.c (.bool false))),0,none⟩] none) (.cond (.t 25) (.reg [⟨(some 26),(.load false [.str] (.t 2)),0,none⟩,⟨(some 27),(.bin .num .add (.t 26) (.c (.str [43]))),0,none⟩,⟨none,(.store 1 (.t 2) (.t 27)),0,none⟩] none) .skip)) (.reg [⟨(some 28),(.load false [.str] (.t 2)),0,none⟩,⟨(some 29),(.mv (.t 5)),0,none⟩,⟨(some 30),(.mv (.t 1)),0,none⟩,⟨(some 31),(.bin .num .add (.t 29) (.t 30)),0,none⟩,⟨(some 32),(.bin .num .add (.t 28) (.t 31)),0,none⟩,⟨none,(.store 1 (.t 2) (.t 32)),0,none⟩] none))))
def BO:List IRes:=[]
abbrev a5w:Nat:=33
def Pj:ZJ:=WI [(76,.pure (preT (fun x:Int×Unit=>decide (-9223372036854775808<=x.1)&&decide (x.1<=9223372036854775807))) (Zk (fun x:Int×Unit=>ZC x.1))),(77,.pure (preT (fun x:Str×Str×Unit=>decide (x.1.s.length<=1000000))) (Zk (fun x:Str×Str×Unit=>(⟨Lib.trimSuffix x.1.s x.2.1.s⟩:Str))))]
theorem a8c{G:AV×List AObj×List AObj->Prop}(n:Int)(s o:List UInt8)(h:(Go.Pl.preT (fun(x:Int×Unit)=>decide ((-9223372036854775808:Int)<=x.1)&&decide (x.1<=9223372036854775807)) [(.int .i64 n)])=true∧(∃ y0:Str,AV.pv (Zk (fun(x:Int×Unit)=>ZC x.1) [(.int .i64 n)])=AV.pv (enc y0)∧(if (!s==[])=true then if (n==1)=true then(Go.Pl.preT (fun(x:Str×Str×Unit)=>decide (List.length (Str.s x.1)<=1000000)) [(.str (Str.s y0)),(.str [(49:UInt8)])])=true∧(∃ y1:Str,AV.pv (Zk (fun(x:Str×Str×Unit)=>Str.mk (Lib.trimSuffix (Str.s x.1) (Str.s x.2.1))) [(.str (Str.s y0)),(.str [(49:UInt8)])])=AV.pv (enc y1)∧(if (decide (n ≥ 0))=true then if (!o==[])=true then(decide (List.length o+List.length [(43:UInt8)]<=1099511627776))=true∧((decide (List.length (Str.s y1)+List.length s<=1099511627776))=true∧((decide (List.length (o++[(43:UInt8)])+List.length (Str.s y1++s)<=1099511627776))=true∧(G (((.tup []),([(.box [(.pv (.str (o++[(43:UInt8)]++(Str.s y1++s))))])],[]))))))else((decide (List.length (Str.s y1)+List.length s<=1099511627776))=true∧((decide (List.length o+List.length (Str.s y1++s)<=1099511627776))=true∧(G (((.tup []),([(.box [(.pv (.str (o++(Str.s y1++s))))])],[]))))))else((decide (List.length (Str.s y1)+List.length s<=1099511627776))=true∧((decide (List.length o+List.length (Str.s y1++s)<=1099511627776))=true∧(G (((.tup []),([(.box [(.pv (.str (o++(Str.s y1++s))))])],[]))))))))else(if (n==(-1:Int))=true then(Go.Pl.preT (fun(x:Str×Str×Unit)=>decide (List.length (Str.s x.1)<=1000000)) [(.str (Str.s y0)),(.str [(49:UInt8)])])=true∧(∃ y2:Str,AV.pv (Zk (fun(x:Str×Str×Unit)=>Str.mk (Lib.trimSuffix (Str.s x.1) (Str.s x.2.1))) [(.str (Str.s y0)),(.str [(49:UInt8)])])=AV.pv (enc y2)∧(if (decide (n ≥ 0))=true then if (!o==[])=true then(decide (List.length o+List.length [(43:UInt8)]<=1099511627776))=true∧((decide (List.length (Str.s y2)+List.length s<=1099511627776))=true∧((decide (List.length (o++[(43:UInt8)])+List.length (Str.s y2++s)<=1099511627776))=true∧(G (((.tup []),([(.box [(.pv (.str (o++[(43:UInt8)]++(Str.s y2++s))))])],[]))))))else((decide (List.length (Str.s y2)+List.length s<=1099511627776))=true∧((decide (List.length o+List.length (Str.s y2++s)<=1099511627776))=true∧(G (((.tup []),([(.box [(.pv (.str (o++(Str.s y2++s))))])],[]))))))else((decide (List.length (Str.s y2)+List.length s<=1099511627776))=true∧((decide (List.length o+List.length (Str.s y2++s)<=1099511627776))=true∧(G (((.tup []),([(.box [(.pv (.str (o++(Str.s y2++s))))])],[]))))))))else(if (decide (n ≥ 0))=true then if (!o==[])=true then(decide (List.length o+List.length [(43:UInt8)]<=1099511627776))=true∧((decide (List.length (Str.s y0)+List.length s<=1099511627776))=true∧((decide (List.length (o++[(43:UInt8)])+List.length (Str.s y0++s)<=1099511627776))=true∧(G (((.tup []),([(.box [(.pv (.str (o++[(43:UInt8)]++(Str.s y0++s))))])],[]))))))else((decide (List.length (Str.s y0)+List.length s<=1099511627776))=true∧((decide (List.length o+List.length (Str.s y0++s)<=1099511627776))=true∧(G (((.tup []),([(.box [(.pv (.str (o++(Str.s y0++s))))])],[]))))))else((decide (List.length (Str.s y0)+List.length s<=1099511627776))=true∧((decide (List.length o+List.length (Str.s y0++s)<=1099511627776))=true∧(G (((.tup []),([(.box [(.pv (.str (o++(Str.s y0++s))))])],[]))))))))else(if (decide (n ≥ 0))=true then if (!o==[])=true then(decide (List.length o+List.length [(43:UInt8)]<=1099511627776))=true∧((decide (List.length (Str.s y0)+List.length s<=1099511627776))=true∧((decide (List.length (o++[(43:UInt8)])+List.length (Str.s y0++s)<=1099511627776))=true∧(G (((.tup []),([(.box [(.pv (.str (o++[(43:UInt8)]++(Str.s y0++s))))])],[]))))))else((decide (List.length (Str.s y0)+List.length s<=1099511627776))=true∧((decide (List.length o+List.length (Str.s y0++s)<=1099511627776))=true∧(G (((.tup []),([(.box [(.pv (.str (o++(Str.s y0++s))))])],[]))))))else((decide (List.length (Str.s y0)+List.length s<=1099511627776))=true∧((decide (List.length o+List.length (Str.s y0++s)<=1099511627776))=true∧(G (((.tup []),([(.box [(.pv (.str (o++(Str.s y0++s))))])],[])))))))))):Zi Pj 1 (Zd 1 BO G) Bz [] (Ym 33 [.pv (enc n),.pv (.str s),.ptr 0 0] [.box [.pv (.str o)]]):=Zi.to (.req (.abs (Str) (fun YY=>AV.pv (enc YY)) (.lit (.ask (.lit (.lit (.lit (.ask (.lit (.lit (.lit (.lit (.lit (.req (.abs (Str) (fun YY=>AV.pv (enc YY)) (.lit (.ask (.lit (.lit (.lit (.ask (.req (.req (.req (.nil)))) (.req (.req (.nil))))))) (.lit (.lit (.lit (.req (.req (.nil))))))))))))))) (.lit (.lit (.lit (.lit (.lit (.ask (.req (.abs (Str) (fun YY=>AV.pv (enc YY)) (.lit (.ask (.lit (.lit (.lit (.ask (.req (.req (.req (.nil)))) (.req (.req (.nil))))))) (.lit (.lit (.lit (.req (.req (.nil)))))))))) (.lit (.ask (.lit (.lit (.lit (.ask (.req (.req (.req (.nil)))) (.req (.req (.nil))))))) (.lit (.lit (.lit (.req (.req (.nil)))))))))))))))))) (.lit (.lit (.lit (.lit (.lit (.lit (.ask (.lit (.lit (.lit (.ask (.req (.req (.req (.nil)))) (.req (.req (.nil))))))) (.lit (.lit (.lit (.req (.req (.nil))))))))))))))))) h (by kernel_rfl)
def WE:IC:=(.seq (.reg [⟨(some 1),(.box 2 (.t 0)),0,none⟩,⟨(some 2),(.mv (.c (.str []))),1,none⟩] none) (.seq (.seq (.reg [⟨(some 7),(.load true [(.int .i64),(.sl 2)] (.t 1)),0,none⟩,⟨(some 8),(.call (.c (.fn 73)) [(.t 7)]),0,none⟩,⟨(some 9),(.un .not (.t 8)),2,none⟩] none) (.cond (.t 9) (.seq (.reg [⟨(some 2),(.mv (.c (.str []))),0,none⟩] none) .ret) .skip)) (.seq (.reg [⟨(some 3),(.alloc (.str [])),0,none⟩,⟨none,(.store 1 (.t 3) (.c (.str []))),1,none⟩] none) (.seq (.reg [⟨(some 10),(.mkfn 75 [] [(.t 3)]),0,none⟩,⟨(some 4),(.mv (.t 10)),0,none⟩] none) (.seq (.seq (.reg [⟨(some 11),(.faddr 1 (.t 1)),0,none⟩,⟨(some 12),(.load false [(.sl 2)] (.t 11)),0,none⟩,⟨(some 13),(.len 1 (.t 12)),0,none⟩,⟨(some 14),(.mv (.c (.int .i64 0))),0,none⟩] none) (.block 0 (.loop [14,13,12,4,1,3] (.seq (.reg [⟨(some 15),(.bin .num .lss (.t 14) (.t 13)),0,none⟩] none) (.seq (.cond (.t 15) .skip (.exit 0)) (.seq (.block 1 (.seq (.reg [⟨(some 16),(.iaddr 2 (.t 12) (.t 14)),0,none⟩,⟨(some 17),(.load true [.str,(.int .i64)] (.t 16)),0,none⟩,⟨(some 6),(.alloc (.agg [(.str []),(.int .i64 0)])),0,none⟩,⟨none,(.store 2 (.t 6) (.t 17)),1,none⟩] none) (.reg [⟨(some 18),(.mv (.t 4)),0,none⟩,⟨(some 19),(.faddr 1 (.t 6)),0,none⟩,⟨(some 20),(.load false [(.int .i64)] (.t 19)),0,none⟩,⟨(some 21),(.faddr 0 (.t 6)),0,none⟩,⟨(some 22),(.load false [.str] (.t 21)),0,none⟩,⟨(some 23),(.call (.t 18) [(.t 20),(.t 22)]),0,none⟩] none))) (.reg [⟨(some 24),(.bin .num .add (.t 14) (.c (.int .i64 1))),0,none⟩,⟨(some 14),(.mv (.t 24)),0,none⟩] none))))))) (.seq (.seq (.reg [⟨(some 25),(.faddr 0 (.t 1)),0,none⟩,⟨(some 26),(.load false [(.int .i64)] (.t 25)),0,none⟩,⟨(some 27),(.bin .num .neq (.t 26) (.c (.int .i64 0))),0,none⟩,⟨(some 28),(.mv (.t 27)),0,none⟩,⟨(some 29),(.load false [.str] (.t 3)),0,(some (28,false))⟩,⟨(some 30),(.bin .num .eql (.t 29) (.c (.str []))),0,(some (28,false))⟩,⟨(some 31),(.pick (.t 28) (.c (.bool true)) (.t 30)),0,none⟩] none) (.cond (.t 31) (.reg [⟨(some 32),(.mv (.t 4)),0,none⟩,⟨(some 33),(.faddr 0 (.t 1)),0,none⟩,⟨(some 34),(.load false [(.int .i64)] (.t 33)),0,none⟩,⟨(some 35),(.call (.t 32) [(.t 34),(.c (.str []))]),0,none⟩] none) .skip)) (.seq (.reg [⟨(some 36),(.load false [.str] (.t 3)),0,none⟩,⟨(some 2),(.mv (.t 36)),0,none⟩] none) .ret)))))))
def XZ:List IRes:=[(.tmp 2)]
abbrev MG:Nat:=37
def WU:ZJ:=WI [(73,.pure (preT (fun x:Lin×Unit=>Zu x.1)) (Zk (fun x:Lin×Unit=>Zh x.1))),(75,.own Xm KH)]
theorem FL{G:PV->Prop}(l:Lin)(h:(Go.Pl.preT (fun(x:Lin×Unit)=>Zu x.1) [(.agg [(.int .i64 l.k),(.sl 2 false (List.map enc l.t))])])=true∧(∃ y0:Bool,AV.pv (Zk (fun(x:Lin×Unit)=>Zh x.1) [(.agg [(.int .i64 l.k),(.sl 2 false (List.map enc l.t))])])=AV.pv (enc y0)∧(if (!y0)=true then G ((.str []))else(At WU 0 (Ze XZ G) WE 0 37 [(1,(.ptr 0 0)),(3,(.ptr 1 0)),(4,(.fn 75 [] [(.ptr 1 0)])),(12,(.pv (.sl 2 false (List.map enc l.t)))),(13,(.pv (.int .i64 (↑(List.length (List.map enc l.t)):Int)))),(14,(.pv (.int .i64 0)))] [(.obj (.box [(.pv (.int .i64 l.k)),(.pv (.sl 2 false (List.map enc l.t)))])),(.obj (.box [(.pv (.str []))]))])))):Zi WU 0 (Ze XZ G) WE [] (Xz 37 [enc l]):=Zi.tp (.req (.abs (Bool) (fun YY=>AV.pv (enc YY)) (.ask (.nil) (.nil)))) h (by kernel_rfl)
theorem Ce{G:PV->Prop}(l:Lin)(o:List UInt8)(i:Int)(h:if (decide (i<(↑(List.length l.t):Int)))=true then(decide (0<=i)&&decide (Int.toNat i<List.length (List.map enc l.t))&&Enc.sz Coef==2)=true∧(∃ y0:Coef,AV.pv (PV.rptr (PV.cells (List.getD (List.map enc l.t) (Int.toNat i) default)))=AV.pv (PV.rptr (PV.cells ((enc) y0)))∧((Xm [(.pv (.int .i64 (PV.asInt (List.getD (PV.cells (enc y0)) (0+1) default)))),(.pv (.str (PV.asStr (List.getD (PV.cells (enc y0)) 0 default)))),(.ptr 0 0)] [(.box [(.pv (.str o))])])=true∧(At WU 0 (Ze XZ G) WE 0 37 [(1,(.ptr 0 0)),(3,(.ptr 1 0)),(4,(.fn 75 [] [(.ptr 1 0)])),(12,(.pv (.sl 2 false (List.map enc l.t)))),(13,(.pv (.int .i64 (↑(List.length l.t):Int)))),(14,(.pv (.int .i64 (IntKind.wrap IntKind.i64 (i+1)))))] [(.obj (.box [(.pv (.int .i64 l.k)),(.pv (.sl 2 false (List.map enc l.t)))])),(.obj (.box [(.pv (.str (Z4 o (PV.asInt (List.getD (PV.cells (enc y0)) (0+1) default)) (PV.asStr (List.getD (PV.cells (enc y0)) 0 default)))))]))])))else(if (l.k != 0)=true then(Xm [(.pv (.int .i64 l.k)),(.pv (.str [])),(.ptr 0 0)] [(.box [(.pv (.str o))])])=true∧(G ((.str (Z4 o l.k []))))else(if (o==[])=true then(Xm [(.pv (.int .i64 l.k)),(.pv (.str [])),(.ptr 0 0)] [(.box [(.pv (.str o))])])=true∧(G ((.str (Z4 o l.k []))))else(G ((.str o)))))):At WU 0 (Ze XZ G) WE 0 37 [(1,.ptr 0 0),(3,.ptr 1 0),(4,.fn 75 [] [.ptr 1 0]),(12,.pv (enc l.t)),(13,.pv (.int .i64 l.t.length)),(14,.pv (.int .i64 i))] [.obj (.box [.pv (.int .i64 l.k),.pv (enc l.t)]),.obj (.box [.pv (.str o)])]:=At.tp (.lit (.ask (.req (.abs (Coef) (fun YY=>AV.pv (PV.rptr (PV.cells ((enc) YY)))) (.lit (.req (.keep (.lit (.nil))))))) (.lit (.ask (.lit (.lit (.lit (.req (.keep (.nil)))))) (.lit (.lit (.lit (.ask (.req (.keep (.nil))) (.nil))))))))) h (by kernel_rfl)
end Go.Pl

namespace Go.Pl
open Go.RowKit
open Enc (enc dec is)
open EncL (encL decL isL)
theorem Rx: ∀ a:Int×Int×Unit,true=true->Zi KZ 0 (Ze QC (ZI (Qm a.1 a.2.1))) Jw [] (Xz MU (encL a)):=by
 rintro⟨a,b,⟨⟩⟩ -
 show Zi KZ 0 (Ze QC (ZI (Qm a b))) _ _ _
 refine Oq a b (XR (fun h=> ?_) fun h=>XR (fun k=> ?_) fun k=> ?_)
 ·exact Ue (by simp[Qm,h])
 ·exact Ue (by simp[Qm,h,k])
 ·exact Ue (by simp[Qm,h,k])
theorem LH: ∀ a:Coef×Coef×Unit,true=true->Zi HY 0 (Ze KR (ZI (DZ a.1 a.2.1))) Du [] (Xz Ox (encL a)):=by
 rintro⟨x,y,⟨⟩⟩ -
 show Zi HY 0 (Ze KR (ZI (DZ x y))) _ _ _
 unfold DZ
 refine a5d x y (Zl (x.v,y.v,()) rfl (D9 (fun h=> ?_) fun h=>Zl (x.c,y.c,()) rfl ?_))
 ·have h:Lib.compareBytes x.v.s y.v.s≠0:=by simpa using h
  rw[if_pos h]
  exact Ue rfl
 ·have h : ¬ Lib.compareBytes x.v.s y.v.s≠0:=by simpa using h
  rw[if_neg h]
  exact Ue rfl
theorem Td(t:Coef):(PV.agg [.str (PV.asStr (List.getD (PV.cells (enc t)) 0 default)),.int .i64 (PV.asInt (List.getD (PV.cells (enc t)) (0+1) default))])=enc t:=rfl
theorem Pk(a b:List Coef)(ha:a.length<=9223372036854775807): ∀ (m i:Nat),m+i=a.length->i<=b.length ->
  At UQ 0 (Ze Vq (ZI (WS (a.drop i) (b.drop i)))) VI 0 39 [(0,.pv (enc a)),(1,.pv (enc b)),(2,.pv (.fn 211)),(11,.pv (enc a)),(12,.pv (.int .i64 a.length)),(13,.pv (.int .i64 i))] []:=by
 intro m
 induction m with
 | zero=>
  intro i hi hb
  have ea:a.drop i=[]:=List.drop_of_length_le (by omega)
  rw[ea]
  refine Tu a b i (XI (Wj (by omega)) (XR (fun h=> ?_) fun h=> ?_))
  ·have h:a.length<b.length:=by simpa using h
   have:b.drop i=b[i]::b.drop (i+1):=List.drop_eq_getElem_cons (by omega)
   rw[this]
   exact Ue (by rw[WS])
  ·have h : ¬ a.length<b.length:=by simpa using h
   have:b.drop i=[]:=List.drop_of_length_le (by omega)
   rw[this]
   exact Ue (by rw[WS])
 | succ m ih=>
  intro i hi hb
  have hlt:i<a.length:=by omega
  have ea:a.drop i=a[i]::a.drop (i+1):=List.drop_eq_getElem_cons hlt
  rw[ea]
  refine Tu a b i (YF (Wv hlt) ⟨XD hlt rfl,WT hlt (XR (fun h=> ?_) fun h=> ?_)⟩)
  ·have h:b.length<=i:=by
    have:(i:Int) ≥ ((List.map (enc:Coef->PV) b).length:Int):=h
    rw[List.length_map]at this
    omega
   have:b.drop i=[]:=List.drop_of_length_le h
   rw[this]
   exact Ue (by rw[WS])
  ·have h:i<b.length:=by
    have : ¬ (i:Int) ≥ ((List.map (enc:Coef->PV) b).length:Int):=h
    rw[List.length_map]at this
    omega
   have eb:b.drop i=b[i]::b.drop (i+1):=List.drop_eq_getElem_cons h
   rw[eb]
   refine⟨XD h rfl,WT h ?_⟩
   rw[Td,Td]
   refine Zl (a[i],b[i],()) rfl (D9 (fun hc=> ?_) fun hc=> ?_)
   ·have hc:DZ a[i] b[i]≠0:=by simpa using hc
    exact Ue (by rw[WS,if_pos hc])
   ·have hc : ¬ DZ a[i] b[i]≠0:=by simpa using hc
    have e:WS (a[i]::a.drop (i+1)) (b[i]::b.drop (i+1))=WS (a.drop (i+1)) (b.drop (i+1)):=by rw[WS,if_neg hc]
    rw[e,next (by omega)]
    exact ih (i+1) (by omega) (by omega)
theorem L6: ∀ a:List Coef×List Coef×FnV 211×Unit,(decide (a.1.length<=9223372036854775807)&&decide (a.2.1.length<=9223372036854775807))=true->Zi UQ 0 (Ze Vq (ZI (WS a.1 a.2.1))) VI [] (Xz OI (encL a)):=by
 rintro⟨a,b,g,⟨⟩⟩ h
 simp only[Bool.and_eq_true,decide_eq_true_eq]at h
 refine a3n a b ?_
 rw[List.length_map]
 exact Pk a b h.1 a.length 0 (by omega) (by omega)
theorem EF: ∀ a:Lin×Lin×Unit,(Zz a.1&&Zz a.2.1)=true->Zi AA 0 (Ze He (ZI (VA a.1 a.2.1))) Ah [] (Xz a4d (encL a)):=by
 rintro⟨a,b,⟨⟩⟩ h
 show Zi AA 0 (Ze He (ZI (VA a b))) _ _ _
 unfold VA
 refine a7s a b ⟨Zo (a.t,b.t,({}:FnV 211),()) rfl h,Zl (a.t,b.t,({}:FnV 211),()) rfl (D9 (fun hc=> ?_) fun hc=>Zl (a.k,b.k,()) rfl ?_)⟩
 ·have hc:WS a.t b.t≠0:=by simpa using hc
  rw[if_pos hc]
  exact Ue rfl
 ·have hc : ¬ WS a.t b.t≠0:=by simpa using hc
  rw[if_neg hc]
  exact Ue rfl
theorem a4u: ∀ a:Lin×Lin×Unit,(Zz a.1&&Zz a.2.1)=true->Zi a1w 0 (Ze R8 (ZI (VA a.1 a.2.1==0))) Ry [] (Xz a6t (encL a)):=by
 rintro⟨a,b,⟨⟩⟩ h
 exact a9w a b ⟨Zo (a,b,()) rfl h,Zl (a,b,()) rfl (Yl rfl)⟩
theorem SX(s p:List UInt8):(Lib.trimSuffix s p).length<=s.length:=by
 unfold Lib.trimSuffix
 split
 ·rw[List.length_take];omega
 ·exact Nat.le_refl _
theorem Od: ∀ args os,Xm args os=true->Zi Pj os.length (Zd os.length BO fun r=>r=KH args os) Bz [] (Ym a5w args os):=by
 intro args os h
 unfold Xm at h
 split at h
 ·rename_i n s o
  simp only[Bool.and_eq_true,decide_eq_true_eq]at h
  obtain⟨⟨⟨n1,n2⟩,hs⟩,ho⟩:=h
  have ev:KH [.pv (.int .i64 n),.pv (.str s),.ptr 0 0] [.box [.pv (.str o)]]=(.tup [],[.box [.pv (.str (Z4 o n s))]],[]):=rfl
  rw[ev]
  have hi:=Lib.itoa_length_le n n1 n2
  have hi:(ZC n).s.length<=21:=hi
  have ht:=SX (ZC n).s [49]
  have fin : ∀ (b:Bool) (x:List UInt8),x.length<=21->(decide (s≠[])&&(decide (n=1)||decide (n = -1)))=b->x=(if b then Lib.trimSuffix (ZC n).s [49]else(ZC n).s) ->
    (if decide (n ≥ 0)=true then(if (!o==[])=true then(decide (o.length+List.length [(43:UInt8)]<=1099511627776)=true∧(decide (x.length+s.length<=1099511627776)=true∧(decide (List.length (o++[(43:UInt8)])+List.length (x++s)<=1099511627776)=true∧((AV.tup [],[AObj.box [.pv (.str (o++[(43:UInt8)]++(x++s)))]],([]:List AObj))=(.tup [],[.box [.pv (.str (Z4 o n s))]],[])))))
     else(decide (x.length+s.length<=1099511627776)=true∧(decide (o.length+List.length (x++s)<=1099511627776)=true∧((AV.tup [],[AObj.box [.pv (.str (o++(x++s)))]],([]:List AObj))=(.tup [],[.box [.pv (.str (Z4 o n s))]],[])))))
    else(decide (x.length+s.length<=1099511627776)=true∧(decide (o.length+List.length (x++s)<=1099511627776)=true∧((AV.tup [],[AObj.box [.pv (.str (o++(x++s)))]],([]:List AObj))=(.tup [],[.box [.pv (.str (Z4 o n s))]],[]))))):=by
   intro b x hx hb hxe
   have hp : ∀ o2:List UInt8,o2=(if decide (n ≥ 0)&&decide (o≠[])then o++[43]else o)->Z4 o n s=o2++(x++s):=by
    intro o2 h2
    unfold Z4
    rw[hb,<- h2,<- hxe]
   refine XR (fun h0=>D9 (fun h1=> ?_) fun h1=> ?_) fun h0=> ?_
   ·have h1:o≠[]:=by simpa using h1
    refine⟨by simp;omega,by simp;omega,by simp;omega,?_⟩
    rw[hp (o++[43]) (by simp[h0,h1])]
   ·have h1:o=[]:=by simpa using h1
    refine⟨by simp;omega,by simp;omega,?_⟩
    rw[hp o (by simp[h1])]
   ·refine⟨by simp;omega,by simp;omega,?_⟩
    rw[hp o (by simp[h0])]
  refine a8c n s o ⟨Zo (n,()) rfl (by show(decide (-9223372036854775808<=n)&&decide (n<=9223372036854775807))=true;rw[decide_eq_true n1,decide_eq_true n2];rfl),Zl (n,()) rfl (D9 (fun h1=> ?_) fun h1=> ?_)⟩
  ·have h1:s≠[]:=by simpa using h1
   have htr:decide ((ZC n).s.length<=1000000)=true:=decide_eq_true (by omega)
   refine Wx (fun h2=> ?_) fun h2=>Wx (fun h3=> ?_) fun h3=> ?_
   ·have h2:n=1:=h2
    exact⟨Zo (ZC n,(⟨[49]⟩:Str),()) rfl htr,Zl (ZC n,(⟨[49]⟩:Str),()) rfl (fin true _ (by show(Lib.trimSuffix (ZC n).s [49]).length<=21;omega) (by simp[h1,h2]) rfl)⟩
   ·have h3:n = -1:=h3
    exact⟨Zo (ZC n,(⟨[49]⟩:Str),()) rfl htr,Zl (ZC n,(⟨[49]⟩:Str),()) rfl (fin true _ (by show(Lib.trimSuffix (ZC n).s [49]).length<=21;omega) (by simp[h1,h3]) rfl)⟩
   ·have h2:n≠1:=h2
    have h3:n ≠ -1:=h3
    exact fin false _ hi (by simp[h2,h3]) rfl
  ·have h1:s=[]:=by simpa using h1
   exact fin false _ hi (by simp[h1]) rfl
 ·cases h
theorem OM(o:List UInt8)(n:Int)(s:List UInt8)(n1 : -9223372036854775808<=n)(n2:n<=9223372036854775807):(Z4 o n s).length<=o.length+1+21+s.length:=by
 have hi:=Lib.itoa_length_le n n1 n2
 have hi:(ZC n).s.length<=21:=hi
 have ht:=SX (ZC n).s [49]
 unfold Z4
 split <;> split <;> simp <;> omega
theorem Sb(l:Lin)(hv:Zh l=true): ∀ (m i:Nat) (o:List UInt8),m+i=l.t.length->o.length<=100*i ->
  At WU 0 (Ze XZ (ZI (⟨if decide (l.k≠0)||decide ((l.t.drop i).foldl (fun o t=>Z4 o t.c t.v.s) o=[])then Z4 ((l.t.drop i).foldl (fun o t=>Z4 o t.c t.v.s) o) l.k []else(l.t.drop i).foldl (fun o t=>Z4 o t.c t.v.s) o⟩:Str))) WE 0 37 [(1,.ptr 0 0),(3,.ptr 1 0),(4,.fn 75 [] [.ptr 1 0]),(12,.pv (enc l.t)),(13,.pv (.int .i64 l.t.length)),(14,.pv (.int .i64 i))] [.obj (.box [.pv (.int .i64 l.k),.pv (enc l.t)]),.obj (.box [.pv (.str o)])]:=by
 have hlen:=YR hv
 have hk:=Kr hv
 intro m
 induction m with
 | zero=>
  intro i o hi ho
  have ed:l.t.drop i=[]:=List.drop_of_length_le (by omega)
  rw[ed,List.foldl_nil]
  have hp:Xm [.pv (.int .i64 l.k),.pv (.str []),.ptr 0 0] [.box [.pv (.str o)]]=true:=by
   simp only[Xm,Bool.and_eq_true,decide_eq_true_eq,List.length_nil]
   exact⟨⟨⟨by omega,by omega⟩,by omega⟩,by omega⟩
  refine Ce l o i (XI (Wj (by omega)) (D9 (fun h1=>⟨hp,?_⟩) fun h1=>Wx (fun h2=>⟨hp,?_⟩) fun h2=> ?_))
  ·have h1:l.k≠0:=by simpa using h1
   rw[if_pos (by simp[h1])]
   exact⟨rfl,rfl⟩
  ·have h2:o=[]:=h2
   rw[if_pos (by simp[h2])]
   exact⟨rfl,rfl⟩
  ·have h1:l.k=0:=by simpa using h1
   have h2:o≠[]:=h2
   rw[if_neg (by simp[h1,h2])]
   exact⟨rfl,rfl⟩
 | succ m ih=>
  intro i o hi ho
  have hlt:i<l.t.length:=by omega
  have ed:l.t.drop i=l.t[i]::l.t.drop (i+1):=List.drop_eq_getElem_cons hlt
  rw[ed,List.foldl_cons]
  obtain⟨c0,c1,c2,c3⟩:=Yh hv (List.getElem_mem hlt)
  have hn:=Ws c0
  have hpl:=OM o l.t[i].c l.t[i].v.s (by omega) (by omega)
  refine Ce l o i (YF (Wv hlt) ⟨XD hlt rfl,WT hlt ⟨?_,?_⟩⟩)
  ·have hp:Xm [.pv (.int .i64 l.t[i].c),.pv (.str l.t[i].v.s),.ptr 0 0] [.box [.pv (.str o)]]=true:=by
    simp only[Xm,Bool.and_eq_true,decide_eq_true_eq]
    exact⟨⟨⟨by omega,by omega⟩,by omega⟩,by omega⟩
   exact hp
  ·rw[next (by omega)]
   exact ih (i+1) (Z4 o l.t[i].c l.t[i].v.s) (by omega) (by omega)
theorem Pv: ∀ a:Lin×Unit,Zu a.1=true->Zi WU 0 (Ze XZ (ZI (⟨Zx a.1⟩:Str))) WE [] (Xz MG (encL a)):=by
 rintro⟨l,⟨⟩⟩ h
 show Zi WU 0 (Ze XZ (ZI (⟨Zx l⟩:Str))) _ _ _
 refine FL l ⟨Zo (l,()) rfl h,Zl (l,()) rfl (Ww (fun hv=> ?_) fun hv=> ?_)⟩
 ·have hv:Zh l=false:=hv
  unfold Zx
  rw[hv]
  exact⟨rfl,rfl⟩
 ·have hv:Zh l=true:=hv
  unfold Zx
  rw[hv,if_pos rfl,List.length_map]
  exact Sb l hv l.t.length 0 [] (by omega) (by simp)
end Go.Pl

namespace Go.Pl
open Go.RowKit
open Enc (enc dec is)
open EncL (encL decL isL)
set_option maxRecDepth 100000
def BK:IC:=(.seq (.reg [⟨(some 2),(.box 7 (.t 0)),0,none⟩,⟨(some 3),(.mv (.c (.bool false))),1,none⟩] none) (.seq (.reg [⟨(some 4),(.faddr 0 (.t 2)),0,none⟩,⟨(some 5),(.load false [(.int .i64)] (.t 4)),0,none⟩,⟨(some 6),(.bin .num .eql (.t 5) (.c (.int .i64 1))),0,none⟩,⟨(some 7),(.mv (.t 6)),0,none⟩,⟨(some 8),(.faddr 1 (.t 2)),0,(some (7,true))⟩,⟨(some 9),(.load false [.str] (.t 8)),0,(some (7,true))⟩,⟨(some 10),(.faddr 0 (.t 1)),0,(some (7,true))⟩,⟨(some 11),(.load false [.str] (.t 10)),0,(some (7,true))⟩,⟨(some 12),(.bin .num .eql (.t 9) (.t 11)),0,(some (7,true))⟩,⟨(some 13),(.pick (.t 7) (.t 12) (.c (.bool false))),0,none⟩,⟨(some 3),(.mv (.t 13)),0,none⟩] none) .ret))
def AB:List IRes:=[(.tmp 3)]
abbrev a5n:Nat:=14
def PG:ZJ:=WI []
theorem a8o{G:AV×List AObj×List AObj->Prop}(x:Bnd)(v:List UInt8)(c:Int)(h:if (Bnd.kind x==1)=true then G (((.pv (.bool (Str.s (Bnd.v x)==v))),([(.box [(.pv (.str v)),(.pv (.int .i64 c))])],[])))else(G (((.pv (.bool false)),([(.box [(.pv (.str v)),(.pv (.int .i64 c))])],[]))))):Zi PG 1 (Zd 1 AB G) BK [] (Ym 14 [.pv (enc x),.ptr 0 0] [.box [.pv (.str v),.pv (.int .i64 c)]]):=Zi.to (.lit (.ask (.lit (.lit (.lit (.lit (.lit (.lit (.nil))))))) (.lit (.lit (.lit (.lit (.lit (.nil)))))))) h (by kernel_rfl)
def Kg:IC:=(.seq (.reg [⟨(some 4),(.mv (.c (.int .i64 0))),0,none⟩] none) (.seq (.seq (.reg [⟨(some 6),(.mv (.t 0)),0,none⟩,⟨(some 7),(.len 1 (.t 6)),0,none⟩,⟨(some 8),(.mv (.c (.int .i64 0))),0,none⟩] none) (.block 0 (.loop [8,7,1,0] (.seq (.reg [⟨(some 9),(.bin .num .lss (.t 8) (.t 7)),0,none⟩] none) (.seq (.cond (.t 9) .skip (.exit 0)) (.seq (.block 1 (.seq (.reg [⟨(some 10),(.mv (.t 8)),0,none⟩,⟨(some 5),(.mv (.t 10)),0,none⟩] none) (.seq (.reg [⟨(some 11),(.mv (.t 1)),0,none⟩,⟨(some 12),(.mv (.t 0)),0,none⟩,⟨(some 13),(.mv (.t 5)),0,none⟩,⟨(some 14),(.iaddr 7 (.t 12) (.t 13)),0,none⟩,⟨(some 15),(.load true [(.int .i64),.str,(.int .i64),(.sl 2),.str,(.sl 2),.str] (.t 14)),0,none⟩,⟨(some 16),(.call (.t 11) [(.t 15)]),0,none⟩] none) (.cond (.t 16) (.seq (.reg [⟨(some 17),(.mv (.t 5)),0,none⟩,⟨(some 4),(.mv (.t 17)),0,none⟩] none) .ret) .skip)))) (.reg [⟨(some 18),(.bin .num .add (.t 8) (.c (.int .i64 1))),0,none⟩,⟨(some 8),(.mv (.t 18)),0,none⟩] none))))))) (.seq (.reg [⟨(some 4),(.mv (.c (.int .i64 (-1)))),0,none⟩] none) .ret)))
def Kb:List IRes:=[(.tmp 4)]
abbrev a7l:Nat:=19
def GX:ZJ:=WI [(113,.own Gg Aq)]
theorem b0a{G:AV×List AObj×List AObj->Prop}(l:List Bnd)(v:List UInt8)(c:Int)(h:At GX 1 (Zd 1 Kb G) Kg 0 19 [(0,(.pv (.sl 7 false (List.map enc l)))),(1,(.fn 113 [] [(.ptr 0 0)])),(7,(.pv (.int .i64 (↑(List.length (List.map enc l)):Int)))),(8,(.pv (.int .i64 0)))] [(.obj (.box [(.pv (.str v)),(.pv (.int .i64 c))]))]):Zi GX 1 (Zd 1 Kb G) Kg [] (Ym 19 [.pv (enc l),.fn 113 [] [.ptr 0 0]] [.box [.pv (.str v),.pv (.int .i64 c)]]):=Zi.to (.nil) h (by kernel_rfl)
theorem O1{G:AV×List AObj×List AObj->Prop}(l:List Bnd)(v:List UInt8)(c:Int)(i:Int)(h:if (decide (i<(↑(List.length l):Int)))=true then(decide (0<=i)&&decide (Int.toNat i<List.length (List.map enc l))&&Enc.sz Bnd==7)=true∧(∃ y0:Bnd,AV.pv (PV.rptr (PV.cells (List.getD (List.map enc l) (Int.toNat i) default)))=AV.pv (PV.rptr (PV.cells ((enc) y0)))∧((Gg [(.pv (.agg [(.int .i64 (PV.asInt (List.getD (PV.cells (enc y0)) 0 default))),(.str (PV.asStr (List.getD (PV.cells (enc y0)) (0+1) default))),(.int .i64 (PV.asInt (List.getD (PV.cells (enc y0)) (0+1+1) default))),(.sl 2 false (PV.asXs (List.getD (PV.cells (enc y0)) (0+1+1+1) default))),(.str (PV.asStr (List.getD (PV.cells (enc y0)) (0+1+1+1+1) default))),(.sl 2 false (PV.asXs (List.getD (PV.cells (enc y0)) (0+1+1+1+1+1) default))),(.str (PV.asStr (List.getD (PV.cells (enc y0)) (0+1+1+1+1+1+1) default)))])),(.ptr 0 0)] [(.box [(.pv (.str v)),(.pv (.int .i64 c))])])=true∧(if (QO v (dec (PV.agg (VT (PV.cells (enc y0)) 0 [Sh.int .i64,Sh.str,Sh.int .i64,Sh.sl 2,Sh.str,Sh.sl 2,Sh.str]))))=true then G (((.pv (.int .i64 i)),([(.box [(.pv (.str v)),(.pv (.int .i64 c))])],[])))else(At GX 1 (Zd 1 Kb G) Kg 0 19 [(0,(.pv (.sl 7 false (List.map enc l)))),(1,(.fn 113 [] [(.ptr 0 0)])),(7,(.pv (.int .i64 (↑(List.length l):Int)))),(8,(.pv (.int .i64 (IntKind.wrap IntKind.i64 (i+1)))))] [(.obj (.box [(.pv (.str v)),(.pv (.int .i64 c))]))]))))else(G (((.pv (.int .i64 (-1))),([(.box [(.pv (.str v)),(.pv (.int .i64 c))])],[]))))):At GX 1 (Zd 1 Kb G) Kg 0 19 [(0,.pv (enc l)),(1,.fn 113 [] [.ptr 0 0]),(7,.pv (.int .i64 l.length)),(8,.pv (.int .i64 i))] [.obj (.box [.pv (.str v),.pv (.int .i64 c)])]:=At.to (.lit (.ask (.req (.abs (Bnd) (fun YY=>AV.pv (PV.rptr (PV.cells ((enc) YY)))) (.lit (.req (.keep (.ask (.nil) (.lit (.nil)))))))) (.nil))) h (by kernel_rfl)
def WW:IC:=(.seq (.reg [⟨(some 2),(.box 2 (.t 0)),0,none⟩,⟨(some 4),(.alloc (.agg [(.int .i64 0),(.sl 0 true [])])),1,none⟩,⟨(some 5),(.mv (.c (.int .i64 0))),2,none⟩] none) (.seq (.seq (.reg [⟨(some 10),(.load true [(.int .i64),(.sl 2)] (.t 2)),0,none⟩,⟨(some 11),(.call (.c (.fn 73)) [(.t 10)]),0,none⟩,⟨(some 12),(.un .not (.t 11)),2,none⟩] none) (.cond (.t 12) (.seq (.reg [⟨(some 13),(.build [(.int .i64 0),(.sl 0 true [])] []),0,none⟩,⟨none,(.store 2 (.t 4) (.t 13)),0,none⟩,⟨(some 5),(.mv (.c (.int .i64 1))),0,none⟩] none) .ret) .skip)) (.seq (.reg [⟨(some 14),(.faddr 0 (.t 2)),0,none⟩,⟨(some 15),(.load false [(.int .i64)] (.t 14)),0,none⟩,⟨(some 16),.mkmap,0,none⟩,⟨(some 17),(.build [(.int .i64 0),.nilmap] [(0,(1,(.t 15))),(1,(1,(.t 16)))]),1,none⟩,⟨(some 6),(.alloc (.agg [(.int .i64 0),.nilmap])),1,none⟩,⟨none,(.store 2 (.t 6) (.t 17)),2,none⟩] none) (.seq (.seq (.reg [⟨(some 18),(.faddr 1 (.t 2)),0,none⟩,⟨(some 19),(.load false [(.sl 2)] (.t 18)),0,none⟩,⟨(some 20),(.len 1 (.t 19)),0,none⟩,⟨(some 21),(.mv (.c (.int .i64 0))),0,none⟩] none) (.block 0 (.loop [21,20,19,1,6,4] (.seq (.reg [⟨(some 22),(.bin .num .lss (.t 21) (.t 20)),0,none⟩] none) (.seq (.cond (.t 22) .skip (.exit 0)) (.seq (.block 1 (.seq (.reg [⟨(some 23),(.iaddr 2 (.t 19) (.t 21)),0,none⟩,⟨(some 24),(.load true [.str,(.int .i64)] (.t 23)),0,none⟩,⟨(some 8),(.alloc (.agg [(.str []),(.int .i64 0)])),0,none⟩,⟨none,(.store 2 (.t 8) (.t 24)),1,none⟩] none) (.seq (.reg [⟨(some 25),(.mv (.t 1)),0,none⟩,⟨(some 26),(.mkfn 113 [] [(.t 8)]),0,none⟩,⟨(some 27),(.call (.c (.fn 112)) [(.t 25),(.t 26)]),0,none⟩,⟨(some 9),(.mv (.t 27)),2,none⟩] none) (.block 2 (.seq (.reg [⟨(some 37),(.mv (.t 9)),0,none⟩,⟨(some 38),(.bin .num .lss (.t 37) (.c (.int .i64 0))),0,none⟩,⟨(some 36),(.mv (.t 38)),0,none⟩] none) (.cond (.t 36) (.reg [⟨(some 39),(.faddr 1 (.t 6)),0,none⟩,⟨(some 40),(.load false [.any] (.t 39)),0,none⟩,⟨(some 41),(.faddr 0 (.t 8)),0,none⟩,⟨(some 42),(.load false [.str] (.t 41)),0,none⟩,⟨(some 43),(.lookup true (.int .i64) (.int .i64 0) false (.t 40) (.t 42)),0,none⟩,⟨(some 44),(.faddr 1 (.t 8)),0,none⟩,⟨(some 45),(.load false [(.int .i64)] (.t 44)),0,none⟩,⟨(some 46),(.bin .num .add (.t 43) (.t 45)),0,none⟩,⟨none,(.mapupd true (.t 40) (.t 42) (.t 46)),0,none⟩] none) (.seq (.reg [⟨(some 48),(.mv (.t 1)),0,none⟩,⟨(some 49),(.mv (.t 9)),0,none⟩,⟨(some 50),(.iaddr 7 (.t 48) (.t 49)),0,none⟩,⟨(some 51),(.faddr 2 (.t 50)),0,none⟩,⟨(some 52),(.load true [(.int .i64),(.sl 2)] (.t 51)),0,none⟩,⟨(some 53),(.call (.c (.fn 73)) [(.t 52)]),0,none⟩,⟨(some 54),(.un .not (.t 53)),2,none⟩,⟨(some 47),(.mv (.t 54)),2,none⟩] none) (.cond (.t 47) (.seq (.reg [⟨(some 55),(.build [(.int .i64 0),(.sl 0 true [])] []),0,none⟩,⟨none,(.store 2 (.t 4) (.t 55)),0,none⟩,⟨(some 5),(.mv (.c (.int .i64 1))),0,none⟩] none) .ret) (.reg [⟨(some 28),(.mv (.t 1)),0,none⟩,⟨(some 29),(.mv (.t 9)),0,none⟩,⟨(some 30),(.iaddr 7 (.t 28) (.t 29)),0,none⟩,⟨(some 31),(.faddr 2 (.t 30)),0,none⟩,⟨(some 32),(.load true [(.int .i64),(.sl 2)] (.t 31)),0,none⟩,⟨(some 33),(.faddr 1 (.t 8)),0,none⟩,⟨(some 34),(.load false [(.int .i64)] (.t 33)),0,none⟩,⟨(some 35),(.call (.c (.fn 114)) [(.t 6),(.t 32),(.t 34)]),0,none⟩] (some [[],[],[0,1],[2,0,1],[3,2,0,1],[],[5],[4,6,3,2,0,1,5]])))))))))) (.reg [⟨(some 56),(.bin .num .add (.t 21) (.c (.int .i64 1))),0,none⟩,⟨(some 21),(.mv (.t 56)),0,none⟩] none))))))) (.seq (.reg [⟨(some 57),(.call (.c (.fn 82)) [(.t 6)]),0,none⟩,⟨(some 58),(.extract (.t 57) 0),2,none⟩,⟨(some 59),(.extract (.t 57) 1),2,none⟩,⟨none,(.store 2 (.t 4) (.t 58)),2,none⟩,⟨(some 5),(.mv (.t 59)),2,none⟩] none) .ret)))))
def X7:List IRes:=[(.cell true 2 4),(.tmp 5)]
abbrev a1d:Nat:=60
def Vm:ZJ:=WI [(73,.pure (preT (fun x:Lin×Unit=>Zu x.1)) (Zk (fun x:Lin×Unit=>Zh x.1))),(112,.own (QH 113) Hz),(114,.own WQ KX),(82,.own YH KC)]
theorem a5m{G:PV->Prop}(l:Lin)(bs:List Bnd)(h:(Go.Pl.preT (fun(x:Lin×Unit)=>Zu x.1) [(.agg [(.int .i64 l.k),(.sl 2 false (List.map enc l.t))])])=true∧(∃ y0:Bool,AV.pv (Zk (fun(x:Lin×Unit)=>Zh x.1) [(.agg [(.int .i64 l.k),(.sl 2 false (List.map enc l.t))])])=AV.pv (enc y0)∧(if (!y0)=true then G ((.tup [(.agg [(.int .i64 0),(.sl 0 true [])]),(.int .i64 1)]))else(At Vm 0 (Ze X7 G) WW 0 60 [(1,(.pv (.sl 7 false (List.map enc bs)))),(4,(.ptr 0 0)),(6,(.ptr 1 0)),(19,(.pv (.sl 2 false (List.map enc l.t)))),(20,(.pv (.int .i64 (↑(List.length (List.map enc l.t)):Int)))),(21,(.pv (.int .i64 0)))] [(.obj (.box [(.pv (.int .i64 0)),(.pv (.sl 0 true []))])),(.obj (.box [(.pv (.int .i64 l.k)),(.map 2)])),(.obj (.map []))])))):Zi Vm 0 (Ze X7 G) WW [] (Xz 60 [enc l,enc bs]):=Zi.tp (.req (.abs (Bool) (fun YY=>AV.pv (enc YY)) (.ask (.nil) (.nil)))) h (by kernel_rfl)
theorem Rf{G:PV->Prop}(l:Lin)(bs:List Bnd)(n:Int)(m:List (Str×Int))(i:Int)(h:if (decide (i<(↑(List.length l.t):Int)))=true then(decide (0<=i)&&decide (Int.toNat i<List.length (List.map enc l.t))&&Enc.sz Coef==2)=true∧(∃ y0:Coef,AV.pv (PV.rptr (PV.cells (List.getD (List.map enc l.t) (Int.toNat i) default)))=AV.pv (PV.rptr (PV.cells ((enc) y0)))∧((QH 113 [(.pv (.sl 7 false (List.map enc bs))),(.fn 113 [] [(.ptr 0 0)])] [(.box [(.pv (.str (PV.asStr (List.getD (PV.cells (enc y0)) 0 default)))),(.pv (.int .i64 (PV.asInt (List.getD (PV.cells (enc y0)) (0+1) default))))])])=true∧(if (decide (XA (QO (PV.asStr (List.getD (PV.cells (enc y0)) 0 default))) (dec (enc bs))<0))=true then(Wu (PV.str (PV.asStr (List.getD (PV.cells (enc y0)) 0 default))) (Zc m)&&Sh.fit (Sh.int .i64) (ZL (PV.str (PV.asStr (List.getD (PV.cells (enc y0)) 0 default))) (PV.int .i64 0) (Zc m)))=true∧((JW (PV.str (PV.asStr (List.getD (PV.cells (enc y0)) 0 default))) (PV.int .i64 (IntKind.wrap IntKind.i64 (PV.asInt (ZL (PV.str (PV.asStr (List.getD (PV.cells (enc y0)) 0 default))) (PV.int .i64 0) (Zc m))+PV.asInt (List.getD (PV.cells (enc y0)) (0+1) default)))) (Zc m))=true∧(At Vm 0 (Ze X7 G) WW 0 60 [(1,(.pv (.sl 7 false (List.map enc bs)))),(4,(.ptr 0 0)),(6,(.ptr 1 0)),(19,(.pv (.sl 2 false (List.map enc l.t)))),(20,(.pv (.int .i64 (↑(List.length l.t):Int)))),(21,(.pv (.int .i64 (IntKind.wrap IntKind.i64 (i+1)))))] [(.obj (.box [(.pv (.int .i64 0)),(.pv (.sl 0 true []))])),(.obj (.box [(.pv (.int .i64 n)),(.map 2)])),(.obj (.map (JY (PV.str (PV.asStr (List.getD (PV.cells (enc y0)) 0 default))) (PV.int .i64 (IntKind.wrap IntKind.i64 (PV.asInt (ZL (PV.str (PV.asStr (List.getD (PV.cells (enc y0)) 0 default))) (PV.int .i64 0) (Zc m))+PV.asInt (List.getD (PV.cells (enc y0)) (0+1) default)))) (Zc m))))]))else((decide (0<=XA (QO (PV.asStr (List.getD (PV.cells (enc y0)) 0 default))) (dec (enc bs)))&&decide (Int.toNat (XA (QO (PV.asStr (List.getD (PV.cells (enc y0)) 0 default))) (dec (enc bs)))<List.length (List.map enc bs))&&Enc.sz Bnd==7)=true∧(∃ y1:Bnd,AV.pv (PV.rptr (PV.cells (List.getD (List.map enc bs) (Int.toNat (XA (QO (PV.asStr (List.getD (PV.cells (enc y0)) 0 default))) (dec (enc bs)))) default)))=AV.pv (PV.rptr (PV.cells ((enc) y1)))∧((Go.Pl.preT (fun(x:Lin×Unit)=>Zu x.1) [(.agg [(.int .i64 (PV.asInt (List.getD (List.drop 2 (PV.cells (enc y1))) 0 default))),(.sl 2 false (PV.asXs (List.getD (List.drop 2 (PV.cells (enc y1))) (0+1) default)))])])=true∧(∃ y2:Bool,AV.pv (Zk (fun(x:Lin×Unit)=>Zh x.1) [(.agg [(.int .i64 (PV.asInt (List.getD (List.drop 2 (PV.cells (enc y1))) 0 default))),(.sl 2 false (PV.asXs (List.getD (List.drop 2 (PV.cells (enc y1))) (0+1) default)))])])=AV.pv (enc y2)∧(if (!y2)=true then G ((.tup [(.agg [(.int .i64 0),(.sl 0 true [])]),(.int .i64 1)]))else((decide (0<=XA (QO (PV.asStr (List.getD (PV.cells (enc y0)) 0 default))) (dec (enc bs)))&&decide (Int.toNat (XA (QO (PV.asStr (List.getD (PV.cells (enc y0)) 0 default))) (dec (enc bs)))<List.length (List.map enc bs))&&Enc.sz Bnd==7)=true∧(∃ y3:Bnd,AV.pv (PV.rptr (PV.cells (List.getD (List.map enc bs) (Int.toNat (XA (QO (PV.asStr (List.getD (PV.cells (enc y0)) 0 default))) (dec (enc bs)))) default)))=AV.pv (PV.rptr (PV.cells ((enc) y3)))∧((WQ [(.ptr 0 0),(.pv (.agg [(.int .i64 (PV.asInt (List.getD (List.drop 2 (PV.cells (enc y3))) 0 default))),(.sl 2 false (PV.asXs (List.getD (List.drop 2 (PV.cells (enc y3))) (0+1) default)))])),(.pv (.int .i64 (PV.asInt (List.getD (PV.cells (enc y0)) (0+1) default))))] [(.box [(.pv (.int .i64 n)),(.map 1)]),(.map (Zc m))])=true∧(At Vm 0 (Ze X7 G) WW 0 60 [(1,(.pv (.sl 7 false (List.map enc bs)))),(4,(.ptr 0 0)),(6,(.ptr 1 0)),(19,(.pv (.sl 2 false (List.map enc l.t)))),(20,(.pv (.int .i64 (↑(List.length l.t):Int)))),(21,(.pv (.int .i64 (IntKind.wrap IntKind.i64 (i+1)))))] [(.obj (.box [(.pv (.int .i64 0)),(.pv (.sl 0 true []))])),(.obj (.box [(.pv (.int .i64 (Yd (n+Yd (PV.asInt (List.getD (PV.cells (enc y0)) (0+1) default)*Lin.k (dec (PV.agg (VT (List.drop 2 (PV.cells (enc y3))) 0 [Sh.int .i64,Sh.sl 2])))))))),(.map 2)])),(.obj (.map (Zc (Y4 (PV.asInt (List.getD (PV.cells (enc y0)) (0+1) default)) (Lin.t (dec (PV.agg (VT (List.drop 2 (PV.cells (enc y3))) 0 [Sh.int .i64,Sh.sl 2])))) (ZZ (Zc m))))))]))))))))))))else((YH [(.ptr 0 0)] [(.box [(.pv (.int .i64 n)),(.map 1)]),(.map (Zc m))])=true∧(G ((.tup [(.agg [(.int .i64 (Lin.k (Prod.fst (Xr n (ZZ (Zc m)))))),(.sl 2 false (List.map enc (Lin.t (Prod.fst (Xr n (ZZ (Zc m)))))))]),(.int .i64 (Prod.snd (Xr n (ZZ (Zc m)))))]))))):At Vm 0 (Ze X7 G) WW 0 60 [(1,.pv (enc bs)),(4,.ptr 0 0),(6,.ptr 1 0),(19,.pv (enc l.t)),(20,.pv (.int .i64 l.t.length)),(21,.pv (.int .i64 i))] [.obj (.box [.pv (.int .i64 0),.pv (.sl 0 true [])]),.obj (.box [.pv (.int .i64 n),.map 2]),.obj (.map (Zc m))]:=At.tp (.lit (.ask (.req (.abs (Coef) (fun YY=>AV.pv (PV.rptr (PV.cells ((enc) YY)))) (.lit (.req (.keep (.lit (.ask (.req (.keep (.lit (.req (.lit (.nil)))))) (.req (.abs (Bnd) (fun YY=>AV.pv (PV.rptr (PV.cells ((enc) YY)))) (.lit (.req (.abs (Bool) (fun YY=>AV.pv (enc YY)) (.ask (.nil) (.req (.abs (Bnd) (fun YY=>AV.pv (PV.rptr (PV.cells ((enc) YY)))) (.lit (.req (.keep (.lit (.nil)))))))))))))))))))) (.req (.keep (.nil))))) h (by kernel_rfl)
end Go.Pl

namespace Go.Pl
open Go.RowKit
open Enc (enc dec is)
open EncL (encL decL isL)
theorem a0v: ∀ args os,Gg args os=true->Zi PG os.length (Zd os.length AB fun r=>r=Aq args os) BK [] (Ym a5n args os):=by
 intro args os h
 unfold Gg at h
 split at h
 ·rename_i x v c
  obtain⟨x,rfl⟩:=Bo h
  refine a8o x v c ?_
  simp only[Aq,Enc.dec_enc,QO]
  refine Wx (fun h=> ?_) fun h=> ?_
  ·simp[h]
  ·simp[h]
 ·cases h
theorem a0o(l:List Bnd)(v:List UInt8)(c:Int)(hl:l.length<=9223372036854775807)(H:AV×List AObj×List AObj)(hH:H=(.pv (.int .i64 (XA (QO v) l)),[.box [.pv (.str v),.pv (.int .i64 c)]],[])): ∀ (m i:Nat),m+i=l.length->(∀ j (hj:j<l.length),j<i->QO v l[j]=false) ->
  At GX 1 (Zd 1 Kb fun r=>r=H) Kg 0 19 [(0,.pv (enc l)),(1,.fn 113 [] [.ptr 0 0]),(7,.pv (.int .i64 l.length)),(8,.pv (.int .i64 i))] [.obj (.box [.pv (.str v),.pv (.int .i64 c)])]:=by
 subst hH
 intro m
 induction m with
 | zero=>
  intro i hi hno
  refine O1 l v c i (XI (Wj (by omega)) ?_)
  rw[a4b _ _ (fun j hj=>hno j hj (by omega))]
 | succ m ih=>
  intro i hi hno
  have hlt:i<l.length:=by omega
  have ed:(dec (PV.agg (VT (PV.cells (enc l[i])) 0 [Sh.int .i64,Sh.str,Sh.int .i64,Sh.sl 2,Sh.str,Sh.sl 2,Sh.str])):Bnd)=l[i]:=Enc.dec_enc l[i]
  refine O1 l v c i (YF (Wv hlt) ⟨XD hlt rfl,WT hlt ⟨QG l[i],?_⟩⟩)
  rw[ed]
  refine Vf (fun hb=> ?_) fun hb=> ?_
  ·rw[a4c (QO v) l i hlt hno hb]
  ·rw[next (by omega)]
   refine ih (i+1) (by omega) fun j hj hji=> ?_
   by_cases e:j=i
   ·subst e;exact hb
   ·exact hno j hj (by omega)
theorem a2j: ∀ args os,QH 113 args os=true->Zi GX os.length (Zd os.length Kb fun r=>r=Hz args os) Kg [] (Ym a7l args os):=by
 intro args os h
 unfold QH at h
 split at h
 ·rename_i l g v c
  simp only[Bool.and_eq_true,beq_iff_eq,decide_eq_true_eq]at h
  obtain⟨⟨rfl,hl⟩,h2⟩:=h
  obtain⟨l,rfl⟩:=Bo hl
  rw[Enc.dec_enc]at h2
  refine b0a l v c ?_
  rw[List.length_map]
  exact a0o l v c h2 _ (by simp only[Hz,Enc.dec_enc]) l.length 0 (by omega) (fun j hj h=>by omega)
 ·cases h
theorem a2v{α:Type}(p:α->Bool)(l:List α):(XA p l<0∧l.find? p=none) ∨ ∃ (i:Nat) (hi:i<l.length),XA p l=i∧l.find? p=some l[i]:=by
 unfold XA
 cases h:l.findIdx? p with
 | none=>
  refine .inl ⟨by decide,?_⟩
  rw[List.findIdx?_eq_none_iff]at h
  rw[List.find?_eq_none]
  intro x hx
  rw[h x hx];simp
 | some i=>
  rw[List.findIdx?_eq_some_iff_getElem]at h
  obtain⟨hi,hp,hno⟩:=h
  refine .inr ⟨i,hi,rfl,?_⟩
  rw[List.find?_eq_some_iff_getElem]
  exact⟨hp,i,hi,rfl,fun j hj=>by simpa using hno j hj⟩
theorem Pg(k:Int)(l:Lin)(hl:Zh l=true)(m:List (Str×Int))(hm : ∀ x∈ZR m,x.length<=1000): ∀ x∈ZR (Y4 k l.t m),x.length<=1000:=by
 intro x hx
 rcases QE k l.t m x hx with h|⟨t,ht,rfl⟩
 ·exact hm x h
 ·have:=Ws (Yh hl ht).1
  omega
theorem Pi(t:Coef):PV.asStr (List.getD (PV.cells (enc t)) 0 default)=t.v.s∧PV.asInt (List.getD (PV.cells (enc t)) (0+1) default)=t.c:=⟨rfl,rfl⟩
theorem Rv(l:Lin)(hv:Zh l=true)(bs:List Bnd)(hb:Jm bs=true): ∀ (j i:Nat) (n:Int) (m:List (Str×Int)),j+i=l.t.length->m.length<=12*i->(∀ x∈ZR m,x.length<=1000) ->
  At Vm 0 (Ze X7 (ZI (match U1 bs (l.t.drop i) (n,m)with|none=>((⟨0,[]⟩,1):Lin×Int)|some s=>Xr s.1 s.2))) WW 0 60 [(1,.pv (enc bs)),(4,.ptr 0 0),(6,.ptr 1 0),(19,.pv (enc l.t)),(20,.pv (.int .i64 l.t.length)),(21,.pv (.int .i64 i))] [.obj (.box [.pv (.int .i64 0),.pv (.sl 0 true [])]),.obj (.box [.pv (.int .i64 n),.map 2]),.obj (.map (Zc m))]:=by
 have hlen:=YR hv
 simp only[Jm,Bool.and_eq_true,decide_eq_true_eq,List.all_eq_true]at hb
 obtain⟨hb1,hb2⟩:=hb
 intro j
 induction j with
 | zero=>
  intro i n m hi hm hk
  have ed:l.t.drop i=[]:=List.drop_of_length_le (by omega)
  rw[ed]
  refine Rf l bs n m i (XI (Wj (by omega)) ?_)
  rw[Yj]
  refine⟨?_,Yx (x:=Xr n m) rfl⟩
  show(K8 (Zc m)&&QR (ZZ (Zc m)))=true
  rw[Ui,Yj]
  simp only[QR,Bool.true_and,Bool.and_eq_true,decide_eq_true_eq,List.all_eq_true]
  exact⟨by omega,fun x hx=>by have:=hk x hx;omega⟩
 | succ j ih=>
  intro i n m hi hm hk
  have hlt:i<l.t.length:=by omega
  have hd:l.t.drop i=l.t[i]::l.t.drop (i+1):=List.drop_eq_getElem_cons hlt
  rw[hd]
  have hnm:=Ws (Yh hv (List.getElem_mem hlt)).1
  refine Rf l bs n m i (YF (Wv hlt) ⟨XD hlt rfl,WT hlt ?_⟩)
  generalize l.t[i]=t at hnm ⊢
  have edb:(dec (enc bs:PV):List Bnd)=bs:=Enc.dec_enc bs
  have hpre:QH 113 [.pv (enc bs),.fn 113 [] [.ptr 0 0]] [.box [.pv (.str t.v.s),.pv (.int .i64 t.c)]]=true:=by
   show(_==_&&FI (List Bnd) (enc bs)&&decide ((dec (enc bs:PV):List Bnd).length<=9223372036854775807))=true
   rw[QG,edb,decide_eq_true hb1]
   simp
  refine⟨hpre,?_⟩
  rw[(Pi t).1,edb]
  rcases a2v (QO t.v.s) bs with ⟨h1,h2⟩|⟨k,hk2,h1,h2⟩
  ·have e:U1 bs (t::l.t.drop (i+1)) (n,m)=U1 bs (l.t.drop (i+1)) (n,Va t.v (Yd (Vj m t.v.s+t.c)) m):=by
    show(match RO bs (n,m) t with|none=>none|some s'=>U1 bs (l.t.drop (i+1)) s')=_
    unfold RO
    rw[h2]
   rw[e]
   refine YF (decide_eq_true h1) ⟨Hq _ _,Ht _ _ _,?_⟩
   rw[Ha,next (by omega)]
   exact ih (i+1) n (Va t.v (Yd (Vj m t.v.s+t.c)) m) (by omega) (by have:=Bd t.v (Yd (Vj m t.v.s+t.c)) m;omega) fun x hx=>by
    rcases Us t.v (Yd (Vj m t.v.s+t.c)) m with e|⟨_,e⟩
    ·rw[e]at hx;exact hk x hx
    ·rw[e,List.mem_append]at hx
     rcases hx with hx|hx
     ·exact hk x hx
     ·rw[List.mem_singleton.1 hx];omega
  ·have hneg : ¬ ((k:Nat):Int)<0:=by omega
   have edm:(dec (PV.agg (VT (List.drop 2 (PV.cells (enc bs[k]))) 0 [Sh.int .i64,Sh.sl 2])):Lin)=bs[k].dim:=Enc.dec_enc bs[k].dim
   rw[h1]
   refine XI (by simp) ?_
   have hsm:=hb2 _ (List.getElem_mem hk2)
   refine⟨XD hk2 rfl,WT hk2 ⟨Zo (bs[k].dim,()) rfl hsm,Zl (bs[k].dim,()) rfl (Ww (fun hq=> ?_) fun hq=>⟨XD hk2 rfl,WT hk2 ⟨?_,?_⟩⟩)⟩⟩
   ·have hq:Zh bs[k].dim=false:=hq
    have e:U1 bs (t::l.t.drop (i+1)) (n,m)=none:=by
     show(match RO bs (n,m) t with|none=>none|some s'=>U1 bs (l.t.drop (i+1)) s')=_
     unfold RO
     rw[h2]
     simp only
     rw[hq];rfl
    rw[e]
    exact⟨rfl,rfl⟩
   all_goals have hq:Zh bs[k].dim=true:=hq
   ·have hl:=YR hq
    show(K8 (Zc m)&&FI Lin (enc bs[k].dim)&&decide ((dec (enc bs[k].dim:PV):Lin).t.length<=1000000))=true
    rw[Ui,QG,Enc.dec_enc,decide_eq_true (by omega)];rfl
   ·have e:U1 bs (t::l.t.drop (i+1)) (n,m)=U1 bs (l.t.drop (i+1)) (Yd (n+Yd (t.c*bs[k].dim.k)),Y4 t.c bs[k].dim.t m):=by
     show(match RO bs (n,m) t with|none=>none|some s'=>U1 bs (l.t.drop (i+1)) s')=_
     unfold RO
     rw[h2]
     simp only
     rw[hq];rfl
    rw[e,edm,Yj,next (by omega)]
    have h3:=KY t.c bs[k].dim.t m
    have hl:=YR hq
    exact ih (i+1) _ _ (by omega) (by omega) (Pg t.c bs[k].dim hq m hk)
theorem MW: ∀ a:Lin×List Bnd×Unit,(Zu a.1&&Jm a.2.1)=true->Zi Vm 0 (Ze X7 (ZI (UY a.1 a.2.1))) WW [] (Xz a1d (encL a)):=by
 rintro⟨l,bs,⟨⟩⟩ h
 simp only[Bool.and_eq_true]at h
 show Zi Vm 0 (Ze X7 (ZI (UY l bs))) _ _ _
 refine a5m l bs ⟨Zo (l,()) rfl h.1,Zl (l,()) rfl (Ww (fun hv=> ?_) fun hv=> ?_)⟩
 ·have hv:Zh l=false:=hv
  unfold UY
  rw[hv]
  exact⟨rfl,rfl⟩
 ·have hv:Zh l=true:=hv
  unfold UY
  rw[hv,if_pos rfl,List.length_map]
  exact Rv l hv bs h.2 l.t.length 0 l.k [] (by omega) (by simp) (fun x hx=>by cases hx)
end Go.Pl

namespace Go.Pl
open Go.RowKit
open Enc (enc dec is)
open EncL (encL decL isL)
set_option maxRecDepth 100000
def mS:Str:=⟨[109]⟩
theorem b1c:Zn [50,110]=Xr 0 [(nS,2)]:=by rfl
theorem b1v:Zn [109,32,45,32,49]=Xr (-1) [(mS,1)]:=by rfl
theorem b1h:Zn [51,32,42,32,110,32,45,32,110,43,32,50]=Xr 2 [(nS,2)]:=by rfl
theorem b1s:Zn [110,43,109]=Xr 0 [(nS,1),(mS,1)]:=by rfl
theorem b1o:Zn [109,43,49]=Xr 1 [(mS,1)]:=by rfl
theorem Kl(n:Int)(s:Str)(c:Int)(hc:c≠0):Xr n [(s,c)]=VK ⟨n,[⟨s,c⟩]⟩:=by
 have:YE [(s,c)]=[⟨s,c⟩]:=by
  simp[YE,hc,MV,Vj]
 unfold Xr VK
 rw[this]
theorem LA:Yw [[109],[110]]=[[109],[110]]:=by
 unfold Yw
 exact List.mergeSort_of_pairwise (by decide)
theorem RJ:Yw [[110],[109]]=[[109],[110]]:=(TK (List.Perm.swap _ _ _)).trans LA
theorem a8j(n a b:Int)(ha:a≠0)(hb:b≠0):Xr n [(nS,a),(mS,b)]=VK ⟨n,[⟨mS,b⟩,⟨nS,a⟩]⟩:=by
 have:YE [(nS,a),(mS,b)]=[⟨mS,b⟩,⟨nS,a⟩]:=by
  simp[YE,ha,hb,nS,mS,RJ,Vj]
 unfold Xr VK
 rw[this]
theorem b1g:Zn [50,110]=(⟨0,[⟨nS,2⟩]⟩,0):=by rw[b1c,Kl _ _ _ (by decide)];decide
theorem b1r:Zn [109,32,45,32,49]=(⟨-1,[⟨mS,1⟩]⟩,0):=by rw[b1v,Kl _ _ _ (by decide)];decide
theorem b1t:Zn [51,32,42,32,110,32,45,32,110,43,32,50]=(⟨2,[⟨nS,2⟩]⟩,0):=by rw[b1h,Kl _ _ _ (by decide)];decide
theorem b1d:Zn [110,43,109]=(⟨0,[⟨mS,1⟩,⟨nS,1⟩]⟩,0):=by rw[b1s,a8j _ _ _ (by decide) (by decide)];decide
theorem b1j:Zn [109,43,49]=(⟨1,[⟨mS,1⟩]⟩,0):=by rw[b1o,Kl _ _ _ (by decide)];decide
theorem b1b:YB ⟨0,[⟨nS,2⟩]⟩ ⟨-1,[⟨mS,1⟩]⟩ 1=(⟨-1,[⟨mS,1⟩,⟨nS,2⟩]⟩,0):=by
 have h1:Zh ⟨0,[⟨nS,2⟩]⟩=true:=by decide
 have h2:Zh ⟨-1,[⟨mS,1⟩]⟩=true:=by decide
 rw[D6 1 h1 h2];decide
def a8m:Bnd:=⟨1,nS,⟨1,[⟨mS,1⟩]⟩,⟨[]⟩,[],⟨[]⟩⟩
theorem b1n:UY ⟨0,[⟨mS,1⟩,⟨nS,1⟩]⟩ [a8m]=(⟨1,[⟨mS,2⟩]⟩,0):=by
 have h1:Zh ⟨0,[⟨mS,1⟩,⟨nS,1⟩]⟩=true:=by decide
 have h2:U1 [a8m] [⟨mS,1⟩,⟨nS,1⟩] (0,[])=some (1,[(mS,2)]):=by decide
 unfold UY
 rw[h1,if_pos rfl]
 simp only[h2]
 rw[Kl _ _ _ (by decide)]
 decide
theorem it1:Lib.itoa 1=[49]:=by simp[Lib.itoa];rw[Lib.decDigits];rfl
theorem it2:Lib.itoa 2=[50]:=by simp[Lib.itoa];rw[Lib.decDigits];rfl
theorem itm:Lib.itoa (-1)=[45,49]:=by simp[Lib.itoa];rw[Lib.decDigits];rfl
theorem a9p(o s:List UInt8)(ho:o=[])(hs:s≠[]):Z4 o 1 s=s:=by
 subst ho
 simp only[Z4,ZC,it1]
 simp[hs];rfl
theorem a6d(s:List UInt8):Z4 [] 2 s=[50]++s:=by
 simp[Z4,ZC,it2]
theorem OO(o s:List UInt8)(ho:o≠[]):Z4 o 2 s=o++[43]++[50]++s:=by
 simp[Z4,ZC,it2,ho]
theorem a6z(o:List UInt8)(ho:o≠[]):Z4 o 1 []=o++[43,49]:=by
 simp[Z4,ZC,it1,ho]
theorem a8t(o:List UInt8):Z4 o (-1) []=o++[45,49]:=by
 simp[Z4,ZC,itm]
theorem b1p:Zx ⟨-1,[⟨mS,1⟩,⟨nS,2⟩]⟩=[109,43,50,110,45,49]:=by
 have hv:Zh ⟨-1,[⟨mS,1⟩,⟨nS,2⟩]⟩=true:=by decide
 have e:UD [⟨mS,1⟩,⟨nS,2⟩]=[109,43,50,110]:=by
  show Z4 (Z4 [] 1 [109]) 2 [110]=_
  rw[a9p [] [109] rfl (by decide),OO _ _ (by decide)];rfl
 unfold Zx
 rw[hv,if_pos rfl]
 simp only[e]
 rw[if_pos (by decide),a8t];rfl
theorem b2a:Zx ⟨2,[⟨nS,2⟩]⟩=[50,110,43,50]:=by
 have hv:Zh ⟨2,[⟨nS,2⟩]⟩=true:=by decide
 have e:UD [⟨nS,2⟩]=[50,110]:=by
  show Z4 [] 2 [110]=_
  rw[a6d];rfl
 unfold Zx
 rw[hv,if_pos rfl]
 simp only[e]
 rw[if_pos (by decide),OO _ _ (by decide)];rfl
theorem b1k:Zx ⟨1,[⟨mS,2⟩]⟩=[50,109,43,49]:=by
 have hv:Zh ⟨1,[⟨mS,2⟩]⟩=true:=by decide
 have e:UD [⟨mS,2⟩]=[50,109]:=by
  show Z4 [] 2 [109]=_
  rw[a6d];rfl
 unfold Zx
 rw[hv,if_pos rfl]
 simp only[e]
 rw[if_pos (by decide),a6z _ (by decide)];rfl
theorem QM{α β:Type}[EncL α][Enc β]{F:α->β}{ps:List PV}{P:β->Prop}{v:β}(a:α)(h:decL ps=a)(hv:F a=v)(k:P v): ∃ y,AV.pv (Zk F ps)=AV.pv (enc y)∧P y:=Jg a h (by rw[hv];exact k)
theorem Qs{α β:Type}[EncL α][Enc β]{F:α->β}{ps:List PV}{P:β->Prop}{v:β}(a:α)(h:ps=encL a)(hv:F a=v)(k:P v): ∃ y,AV.pv (Zk F ps)=AV.pv (enc y)∧P y:=Zl a h (by rw[hv];exact k)
def l41:Lin:=⟨0,[⟨nS,2⟩]⟩
def l42:Lin:=⟨-1,[⟨mS,1⟩]⟩
def l43:Lin:=⟨2,[⟨nS,2⟩]⟩
def l44:Lin:=⟨0,[⟨mS,1⟩,⟨nS,1⟩]⟩
def l45:Lin:=⟨1,[⟨mS,1⟩]⟩
def FH:Lin:=⟨-1,[⟨mS,1⟩,⟨nS,2⟩]⟩
def l4z:Lin:=⟨1,[⟨mS,2⟩]⟩
theorem R6: ∀ a:Unit,true=true->Zi GD 0 (Ze JC (ZI true)) Jc [] (Xz Fh (encL a)):=by
 rintro⟨⟩ -
 refine Ob ?_
 refine QM (v:=(l41,0)) ((⟨[50,110]⟩:Str),()) rfl b1g ?_
 refine QM (v:=(l42,0)) ((⟨[109,32,45,32,49]⟩:Str),()) rfl b1r ?_
 refine⟨Zo (l41,l42,()) rfl (by decide),?_⟩
 refine Qs (v:=(FH,0)) (l41,l42,()) rfl b1b ?_
 refine QM (v:=(l43,0)) ((⟨[51,32,42,32,110,32,45,32,110,43,32,50]⟩:Str),()) rfl b1t ?_
 refine QM (v:=(l44,0)) ((⟨[110,43,109]⟩:Str),()) rfl b1d ?_
 refine QM (v:=(l45,0)) ((⟨[109,43,49]⟩:Str),()) rfl b1j ?_
 refine⟨by rfl,?_⟩
 refine QM (v:=(l4z,0)) (l44,[a8m],()) rfl b1n ?_
 refine YF rfl (YF rfl (YF rfl (YF rfl (YF rfl (YF rfl (YF rfl ?_))))))
 refine⟨Zo (FH,()) rfl (by decide),Qs (v:=(⟨[109,43,50,110,45,49]⟩:Str)) (FH,()) rfl (congrArg Str.mk b1p) (YF rfl ?_)⟩
 refine⟨Zo (l43,()) rfl (by decide),Qs (v:=(⟨[50,110,43,50]⟩:Str)) (l43,()) rfl (congrArg Str.mk b2a) (YF rfl ?_)⟩
 refine⟨Zo (l4z,()) rfl (by decide),Qs (v:=(⟨[50,109,43,49]⟩:Str)) (l4z,()) rfl (congrArg Str.mk b1k) (YF rfl ?_)⟩
 refine⟨Zo (FH,()) rfl (by decide),Qs (v:=true) (FH,()) rfl (show Zh FH=true by decide) (YF rfl ?_)⟩
 refine⟨Zo (FH,FH,()) rfl (by decide),Qs (v:=true) (FH,FH,()) rfl (show(VA FH FH==0)=true by decide) (Yl rfl)⟩
theorem BC: ∀ a:Lin×Unit,Zz a.1=true->Zi UJ 0 (Ze VL (ZI (VK a.1))) U6 [] (Xz Ti (encL a)):=by
 rintro⟨l,⟨⟩⟩ h
 show Zi UJ 0 (Ze VL (ZI (VK l))) _ _ _
 unfold VK
 refine RV l ⟨Zo (l,()) rfl h,Zl (l,()) rfl (Ww (fun hv=> ?_) fun hv=> ?_)⟩
 ·have hv:Zh l=false:=hv
  rw[hv]
  exact⟨rfl,rfl⟩
 ·have hv:Zh l=true:=hv
  rw[hv]
  exact Yx (x:=((l,0):Lin×Int)) rfl
end Go.Pl

namespace Go.Pl
open Go.RowKit
end Go.Pl

namespace Go.Pl
open Go.RowKit
open Enc (enc dec is)
open EncL (encL decL isL)
end Go.Pl

namespace Go.Pl
open Go.RowKit
open Enc (enc dec is)
open EncL (encL decL isL)
def BA(s r:List UInt8):Int:=(s.length:Int) - r.length
def atR(s:List UInt8)(n:Int):List UInt8:=s.drop n.toNat
def AL(c:UInt8):Bool:=Zj c||ZT c
def Kk:Bool->List UInt8->List UInt8
 | false,r=>r.takeWhile Zj
 | true,[]=>[]
 | true,c::r=>if Zj c||(ZT c||c==95)then c::r.takeWhile AL else []
def bB(s:List UInt8)(n:Int):Int:=BA s (Za (atR s n))
def HZ(c:Int)(s:List UInt8)(n:Int):Bool:=match atR s n with|[]=>false|x::_=>decide ((x.toNat:Int)=c)
def Y5(c:Int)(s:List UInt8)(n:Int):Int:=if HZ c s n then n+1 else n
def QW(b:Bool)(s:List UInt8)(n:Int):List UInt8:=Kk b (atR s n)
def Ba(b:Bool)(s:List UInt8)(n:Int):Int:=n+(Kk b (atR s n)).length
def Xk(d:List UInt8):Int:=d.foldl (fun n c=>10*n+((c.toNat:Int) - 48)) 0
def Ux(k:Int)(r:List UInt8):(Int×List UInt8×Bool)×List UInt8:=((k,Kk true r,Zr ⟨Kk true r⟩),r.drop (Kk true r).length)
def XT(k:Int)(q:List UInt8):(Int×List UInt8×Bool)×List UInt8:=
 match Za q with
 | []=>((k,[],true),q)
 | c::t=>if c=42 then(if Zj ((Za t).headD 0)then((0,[],false),Za t)else Ux k (Za t))else((k,[],true),q)
def Z6(r:List UInt8):(Int×List UInt8×Bool)×List UInt8:=
 if (r.takeWhile Zj).length>7∨(r.takeWhile Zj).length>1∧(r.takeWhile Zj).headD 0=48 then((0,[],false),r.dropWhile Zj)
 else if r.takeWhile Zj=[]then Ux 1 (r.dropWhile Zj)
 else if ZT ((r.dropWhile Zj).headD 0)||(r.dropWhile Zj).headD 0==95 then Ux (Xk (r.takeWhile Zj)) (r.dropWhile Zj)
 else XT (Xk (r.takeWhile Zj)) (r.dropWhile Zj)
def itK(s:List UInt8)(n:Int):Int:=(Z6 (atR s n)).1.1
def itV(s:List UInt8)(n:Int):List UInt8:=(Z6 (atR s n)).1.2.1
def itO(s:List UInt8)(n:Int):Bool:=(Z6 (atR s n)).1.2.2
def Av(s:List UInt8)(n:Int):Int:=BA s (Z6 (atR s n)).2
def sV(s:List UInt8)(n:Int):List AObj:=[.box [.pv (.str s),.pv (.int .i64 n)]]
def H7(s:List UInt8)(n:Int):Bool:=decide (0<=n)&&decide (n<=s.length)&&decide (s.length<=1000000)
def Yc:List AV->List AObj->Bool
 | [.ptr 0 0],[.box [.pv (.str s),.pv (.int .i64 n)]]=>H7 s n
 | _,_=>false
def YA:List AV->List AObj->Bool
 | [.ptr 0 0,.pv (.int .u8 c)],[.box [.pv (.str s),.pv (.int .i64 n)]]=>H7 s n
 | _,_=>false
def YI:List AV->List AObj->Bool
 | [.ptr 0 0,.pv (.bool b)],[.box [.pv (.str s),.pv (.int .i64 n)]]=>H7 s n
 | _,_=>false
def VN:List AV->List AObj->AV×List AObj×List AObj
 | _,[.box [.pv (.str s),.pv (.int .i64 n)]]=>(.tup [],sV s (bB s n),[])
 | _,_=>Wp
def J7:List AV->List AObj->AV×List AObj×List AObj
 | [_,.pv (.int .u8 c)],[.box [.pv (.str s),.pv (.int .i64 n)]]=>(.pv (.bool (HZ c s n)),sV s (Y5 c s n),[])
 | _,_=>Wp
def KU:List AV->List AObj->AV×List AObj×List AObj
 | [_,.pv (.bool b)],[.box [.pv (.str s),.pv (.int .i64 n)]]=>(.pv (.str (QW b s n)),sV s (Ba b s n),[])
 | _,_=>Wp
def Qz:List AV->List AObj->AV×List AObj×List AObj
 | _,[.box [.pv (.str s),.pv (.int .i64 n)]]=>(.tup [.pv (.int .i64 (itK s n)),.pv (.str (itV s n)),.pv (.bool (itO s n))],sV s (Av s n),[])
 | _,_=>Wp
def Na(n:Int):Nat:=2*n.natAbs+(if n<0 then 1 else 0)
end Go.Pl

namespace Go.Pl
open Go.RowKit
open Enc (enc dec is)
open EncL (encL decL isL)
set_option maxRecDepth 100000
def Dx:IC:=(.seq (.reg [⟨(some 2),(.mv (.c (.str []))),0,none⟩] none) (.seq (.seq (.reg [⟨(some 3),(.mv (.t 0)),0,none⟩,⟨(some 4),(.bin .num .lss (.t 3) (.c (.int .i64 0))),0,none⟩] none) (.cond (.t 4) (.seq (.reg [⟨(some 5),(.mv (.t 0)),0,none⟩,⟨(some 6),(.un .neg (.t 5)),0,none⟩,⟨(some 7),(.call (.c (.fn 78)) [(.t 6)]),0,none⟩,⟨(some 8),(.bin .num .add (.c (.str [45])) (.t 7)),2,none⟩,⟨(some 2),(.mv (.t 8)),2,none⟩] none) .ret) .skip)) (.seq (.seq (.reg [⟨(some 9),(.mv (.t 0)),0,none⟩,⟨(some 10),(.bin .num .lss (.t 9) (.c (.int .i64 10))),0,none⟩] none) (.cond (.t 10) (.seq (.reg [⟨(some 11),(.mv (.t 0)),0,none⟩,⟨(some 12),(.mv (.t 0)),0,none⟩,⟨(some 13),(.bin .num .add (.t 12) (.c (.int .i64 1))),0,none⟩,⟨(some 14),(.strslc (.c (.str [48,49,50,51,52,53,54,55,56,57])) (some (.t 11)) (some (.t 13))),0,none⟩,⟨(some 2),(.mv (.t 14)),0,none⟩] none) .ret) .skip)) (.seq (.reg [⟨(some 15),(.mv (.t 0)),0,none⟩,⟨(some 16),(.bin .num .quo (.t 15) (.c (.int .i64 10))),0,none⟩,⟨(some 17),(.call (.c (.fn 78)) [(.t 16)]),0,none⟩,⟨(some 18),(.mv (.t 0)),2,none⟩,⟨(some 19),(.bin .num .rem (.t 18) (.c (.int .i64 10))),2,none⟩,⟨(some 20),(.call (.c (.fn 78)) [(.t 19)]),2,none⟩,⟨(some 21),(.bin .num .add (.t 17) (.t 20)),4,none⟩,⟨(some 2),(.mv (.t 21)),4,none⟩] none) .ret))))
def GR:List IRes:=[(.tmp 2)]
abbrev Eh:Nat:=22
def Bg(N:Nat):ZJ:=WI [(78,.pure (preT (fun x:Int×Unit=>(decide (-1000000000<=x.1)&&decide (x.1<=1000000000))&&decide (Na x.1<N))) (Zk (fun x:Int×Unit=>ZC x.1)))]
theorem a3i{G:PV->Prop}(N:Nat)(n:Int)(h:if (decide (n<0))=true then(Go.Pl.preT (fun(x:Int×Unit)=>decide ((-1000000000:Int)<=x.1)&&decide (x.1<=1000000000)&&decide (Na x.1<N)) [(.int .i64 (IntKind.wrap IntKind.i64 (-n)))])=true∧(∃ y0:Str,AV.pv (Zk (fun(x:Int×Unit)=>ZC x.1) [(.int .i64 (IntKind.wrap IntKind.i64 (-n)))])=AV.pv (enc y0)∧((decide (List.length [(45:UInt8)]+List.length (Str.s y0)<=1099511627776))=true∧(G ((.str ([(45:UInt8)]++Str.s y0))))))else(if (decide (n<10))=true then(decide (0<=n)&&decide (0<=IntKind.wrap IntKind.i64 (n+1))&&decide (Int.toNat n<=Int.toNat (IntKind.wrap IntKind.i64 (n+1)))&&decide (Int.toNat (IntKind.wrap IntKind.i64 (n+1))<=List.length [(48:UInt8),(49:UInt8),(50:UInt8),(51:UInt8),(52:UInt8),(53:UInt8),(54:UInt8),(55:UInt8),(56:UInt8),(57:UInt8)]))=true∧(G ((.str (List.drop (Int.toNat n) (List.take (Int.toNat (IntKind.wrap IntKind.i64 (n+1))) [(48:UInt8),(49:UInt8),(50:UInt8),(51:UInt8),(52:UInt8),(53:UInt8),(54:UInt8),(55:UInt8),(56:UInt8),(57:UInt8)])))))else((Go.Pl.preT (fun(x:Int×Unit)=>decide ((-1000000000:Int)<=x.1)&&decide (x.1<=1000000000)&&decide (Na x.1<N)) [(.int .i64 (IntKind.wrap IntKind.i64 (Int.tdiv n 10)))])=true∧(∃ y1:Str,AV.pv (Zk (fun(x:Int×Unit)=>ZC x.1) [(.int .i64 (IntKind.wrap IntKind.i64 (Int.tdiv n 10)))])=AV.pv (enc y1)∧((Go.Pl.preT (fun(x:Int×Unit)=>decide ((-1000000000:Int)<=x.1)&&decide (x.1<=1000000000)&&decide (Na x.1<N)) [(.int .i64 (Int.tmod n 10))])=true∧(∃ y2:Str,AV.pv (Zk (fun(x:Int×Unit)=>ZC x.1) [(.int .i64 (Int.tmod n 10))])=AV.pv (enc y2)∧((decide (List.length (Str.s y1)+List.length (Str.s y2)<=1099511627776))=true∧(G ((.str (Str.s y1++Str.s y2))))))))))):Zi (Bg N) 0 (Ze GR G) Dx [] (Xz 22 [enc n]):=Zi.tp (.lit (.ask (.req (.abs (Str) (fun YY=>AV.pv (enc YY)) (.req (.nil)))) (.lit (.ask (.lit (.req (.nil))) (.lit (.req (.abs (Str) (fun YY=>AV.pv (enc YY)) (.lit (.req (.abs (Str) (fun YY=>AV.pv (enc YY)) (.req (.nil)))))))))))) h (by kernel_rfl)
def XO:IC:=(.block 0 (.loop [0] (.seq (.seq (.reg [⟨(some 2),(.mv (.t 0)),0,none⟩,⟨(some 3),(.nilchk (.t 2)),0,none⟩,⟨(some 4),(.faddr 1 (.t 3)),0,none⟩,⟨(some 5),(.load false [(.int .i64)] (.t 4)),0,none⟩,⟨(some 6),(.mv (.t 0)),0,none⟩,⟨(some 7),(.nilchk (.t 6)),0,none⟩,⟨(some 8),(.faddr 0 (.t 7)),0,none⟩,⟨(some 9),(.load false [.str] (.t 8)),0,none⟩,⟨(some 10),(.len 0 (.t 9)),0,none⟩,⟨(some 11),(.bin .num .lss (.t 5) (.t 10)),0,none⟩,⟨(some 12),(.mv (.t 11)),0,none⟩,⟨(some 13),(.mv (.t 0)),0,(some (12,true))⟩,⟨(some 14),(.nilchk (.t 13)),0,(some (12,true))⟩,⟨(some 15),(.faddr 0 (.t 14)),0,(some (12,true))⟩,⟨(some 16),(.load false [.str] (.t 15)),0,(some (12,true))⟩,⟨(some 17),(.mv (.t 0)),0,(some (12,true))⟩,⟨(some 18),(.nilchk (.t 17)),0,(some (12,true))⟩,⟨(some 19),(.faddr 1 (.t 18)),0,(some (12,true))⟩,⟨(some 20),(.load false [(.int .i64)] (.t 19)),0,(some (12,true))⟩,⟨(some 21),(.index (.t 16) (.t 20)),0,(some (12,true))⟩,⟨(some 22),(.bin .num .eql (.t 21) (.c (.int .u8 32))),0,(some (12,true))⟩,⟨(some 23),(.pick (.t 12) (.t 22) (.c (.bool false))),0,none⟩] (some [[],[0],[1,0],[2,1,0],[],[4],[5,4],[6,5,4],[7,6,5,4],[3,8,2,1,0,7,6,5,4],[9,3,8,2,1,0,7,6,5,4],[10,9,3,8,2,1,0,7,6,5,4],[11,10,9,3,8,2,1,0,7,6,5,4],[12,10,11,9,3,8,2,1,0,7,6,5,4],[13,10,12,11,9,3,8,2,1,0,7,6,5,4],[10,9,3,8,2,1,0,7,6,5,4],[15,10,9,3,8,2,1,0,7,6,5,4],[16,10,15,9,3,8,2,1,0,7,6,5,4],[17,10,16,15,9,3,8,2,1,0,7,6,5,4],[14,18,10,13,12,11,9,3,8,2,1,0,7,6,5,4,17,16,15],[19,10,14,18,13,12,11,9,3,8,2,1,0,7,6,5,4,17,16,15],[10,20,9,3,8,2,1,0,7,6,5,4,19,14,18,13,12,11,17,16,15]])) (.cond (.t 23) .skip (.exit 0))) (.block 1 (.reg [⟨(some 24),(.mv (.t 0)),0,none⟩,⟨(some 25),(.nilchk (.t 24)),0,none⟩,⟨(some 26),(.faddr 1 (.t 25)),0,none⟩,⟨(some 27),(.load false [(.int .i64)] (.t 26)),0,none⟩,⟨(some 28),(.bin .num .add (.t 27) (.c (.int .i64 1))),0,none⟩,⟨(some 29),(.nilchk (.t 24)),0,none⟩,⟨(some 30),(.faddr 1 (.t 29)),0,none⟩,⟨none,(.store 1 (.t 30) (.t 28)),0,none⟩] none)))))
def XU:List IRes:=[]
abbrev Pd:Nat:=31
def WB:ZJ:=WI []
theorem Mt{G:AV×List AObj×List AObj->Prop}(s:List UInt8)(n:Int)(h:At WB 1 (Zd 1 XU G) XO 0 31 [(0,(.ptr 0 0))] [(.obj (.box [(.pv (.str s)),(.pv (.int .i64 n))]))]):Zi WB 1 (Zd 1 XU G) XO [] (Ym 31 [.ptr 0 0] [.box [.pv (.str s),.pv (.int .i64 n)]]):=Zi.to (.nil) h (by kernel_rfl)
theorem Dt{G:AV×List AObj×List AObj->Prop}(s:List UInt8)(n:Int)(h:if (decide (n<(↑(List.length s):Int)))=true then(decide (0<=n)&&decide (Int.toNat n<List.length s))=true∧(if ((↑(UInt8.toNat (List.getD s (Int.toNat n) (0:UInt8))):Int)==32)=true then At WB 1 (Zd 1 XU G) XO 0 31 [(0,(.ptr 0 0))] [(.obj (.box [(.pv (.str s)),(.pv (.int .i64 (IntKind.wrap IntKind.i64 (n+1))))]))]else(G (((.tup []),([(.box [(.pv (.str s)),(.pv (.int .i64 n))])],[])))))else(G (((.tup []),([(.box [(.pv (.str s)),(.pv (.int .i64 n))])],[]))))):At WB 1 (Zd 1 XU G) XO 0 31 [(0,.ptr 0 0)] [.obj (.box [.pv (.str s),.pv (.int .i64 n)])]:=At.to (.lit (.ask (.lit (.lit (.lit (.lit (.lit (.lit (.lit (.lit (.req (.lit (.lit (.lit (.ask (.lit (.nil)) (.nil)))))))))))))) (.lit (.lit (.lit (.lit (.lit (.lit (.lit (.lit (.lit (.lit (.lit (.nil)))))))))))))) h (by kernel_rfl)
def Pm:IC:=(.seq (.reg [⟨(some 4),(.mv (.c (.bool false))),0,none⟩] none) (.seq (.seq (.reg [⟨(some 5),(.mv (.t 0)),0,none⟩,⟨(some 6),(.nilchk (.t 5)),0,none⟩,⟨(some 7),(.faddr 1 (.t 6)),0,none⟩,⟨(some 8),(.load false [(.int .i64)] (.t 7)),0,none⟩,⟨(some 9),(.mv (.t 0)),0,none⟩,⟨(some 10),(.nilchk (.t 9)),0,none⟩,⟨(some 11),(.faddr 0 (.t 10)),0,none⟩,⟨(some 12),(.load false [.str] (.t 11)),0,none⟩,⟨(some 13),(.len 0 (.t 12)),0,none⟩,⟨(some 14),(.bin .num .lss (.t 8) (.t 13)),0,none⟩,⟨(some 15),(.mv (.t 14)),0,none⟩,⟨(some 16),(.mv (.t 0)),0,(some (15,true))⟩,⟨(some 17),(.nilchk (.t 16)),0,(some (15,true))⟩,⟨(some 18),(.faddr 0 (.t 17)),0,(some (15,true))⟩,⟨(some 19),(.load false [.str] (.t 18)),0,(some (15,true))⟩,⟨(some 20),(.mv (.t 0)),0,(some (15,true))⟩,⟨(some 21),(.nilchk (.t 20)),0,(some (15,true))⟩,⟨(some 22),(.faddr 1 (.t 21)),0,(some (15,true))⟩,⟨(some 23),(.load false [(.int .i64)] (.t 22)),0,(some (15,true))⟩,⟨(some 24),(.index (.t 19) (.t 23)),0,(some (15,true))⟩,⟨(some 25),(.mv (.t 1)),0,(some (15,true))⟩,⟨(some 26),(.bin .num .eql (.t 24) (.t 25)),0,(some (15,true))⟩,⟨(some 27),(.pick (.t 15) (.t 26) (.c (.bool false))),0,none⟩] (some [[],[0],[1,0],[2,1,0],[],[4],[5,4],[6,5,4],[7,6,5,4],[3,8,2,1,0,7,6,5,4],[9,3,8,2,1,0,7,6,5,4],[10,9,3,8,2,1,0,7,6,5,4],[11,10,9,3,8,2,1,0,7,6,5,4],[12,10,11,9,3,8,2,1,0,7,6,5,4],[13,10,12,11,9,3,8,2,1,0,7,6,5,4],[10,9,3,8,2,1,0,7,6,5,4],[15,10,9,3,8,2,1,0,7,6,5,4],[16,10,15,9,3,8,2,1,0,7,6,5,4],[17,10,16,15,9,3,8,2,1,0,7,6,5,4],[14,18,10,13,12,11,9,3,8,2,1,0,7,6,5,4,17,16,15],[10,9,3,8,2,1,0,7,6,5,4],[19,20,10,14,18,13,12,11,9,3,8,2,1,0,7,6,5,4,17,16,15],[10,21,9,3,8,2,1,0,7,6,5,4,19,20,14,18,13,12,11,17,16,15]])) (.cond (.t 27) (.seq (.reg [⟨(some 28),(.mv (.t 0)),0,none⟩,⟨(some 29),(.nilchk (.t 28)),0,none⟩,⟨(some 30),(.faddr 1 (.t 29)),0,none⟩,⟨(some 31),(.load false [(.int .i64)] (.t 30)),0,none⟩,⟨(some 32),(.bin .num .add (.t 31) (.c (.int .i64 1))),0,none⟩,⟨(some 33),(.nilchk (.t 28)),0,none⟩,⟨(some 34),(.faddr 1 (.t 33)),0,none⟩,⟨none,(.store 1 (.t 34) (.t 32)),0,none⟩] none) (.seq (.reg [⟨(some 4),(.mv (.c (.bool true))),0,none⟩] none) .ret)) .skip)) (.seq (.reg [⟨(some 4),(.mv (.c (.bool false))),0,none⟩] none) .ret)))
def Rs:List IRes:=[(.tmp 4)]
abbrev a7y:Nat:=35
def a1v:ZJ:=WI []
theorem b0g{G:AV×List AObj×List AObj->Prop}(c:Int)(s:List UInt8)(n:Int)(h:if (decide (n<(↑(List.length s):Int)))=true then(decide (0<=n)&&decide (Int.toNat n<List.length s))=true∧(if ((↑(UInt8.toNat (List.getD s (Int.toNat n) (0:UInt8))):Int)==c)=true then G (((.pv (.bool true)),([(.box [(.pv (.str s)),(.pv (.int .i64 (IntKind.wrap IntKind.i64 (n+1))))])],[])))else(G (((.pv (.bool false)),([(.box [(.pv (.str s)),(.pv (.int .i64 n))])],[])))))else(G (((.pv (.bool false)),([(.box [(.pv (.str s)),(.pv (.int .i64 n))])],[]))))):Zi a1v 1 (Zd 1 Rs G) Pm [] (Ym 35 [.ptr 0 0,.pv (.int .u8 c)] [.box [.pv (.str s),.pv (.int .i64 n)]]):=Zi.to (.lit (.ask (.lit (.lit (.lit (.lit (.lit (.lit (.lit (.lit (.req (.lit (.lit (.lit (.lit (.ask (.lit (.nil)) (.nil))))))))))))))) (.lit (.lit (.lit (.lit (.lit (.lit (.lit (.lit (.lit (.lit (.lit (.lit (.nil))))))))))))))) h (by kernel_rfl)
def WH:IC:=(.seq (.reg [⟨(some 4),(.mv (.c (.str []))),0,none⟩] none) (.seq (.reg [⟨(some 6),(.mv (.t 0)),0,none⟩,⟨(some 7),(.nilchk (.t 6)),0,none⟩,⟨(some 8),(.faddr 1 (.t 7)),0,none⟩,⟨(some 9),(.load false [(.int .i64)] (.t 8)),0,none⟩,⟨(some 5),(.mv (.t 9)),0,none⟩] none) (.seq (.block 0 (.loop [0,1,5] (.seq (.seq (.reg [⟨(some 10),(.mv (.t 0)),0,none⟩,⟨(some 11),(.nilchk (.t 10)),0,none⟩,⟨(some 12),(.faddr 1 (.t 11)),0,none⟩,⟨(some 13),(.load false [(.int .i64)] (.t 12)),0,none⟩,⟨(some 14),(.mv (.t 0)),0,none⟩,⟨(some 15),(.nilchk (.t 14)),0,none⟩,⟨(some 16),(.faddr 0 (.t 15)),0,none⟩,⟨(some 17),(.load false [.str] (.t 16)),0,none⟩,⟨(some 18),(.len 0 (.t 17)),0,none⟩,⟨(some 19),(.bin .num .lss (.t 13) (.t 18)),0,none⟩,⟨(some 20),(.mv (.t 19)),0,none⟩,⟨(some 21),(.mv (.t 0)),0,(some (20,true))⟩,⟨(some 22),(.nilchk (.t 21)),0,(some (20,true))⟩,⟨(some 23),(.faddr 0 (.t 22)),0,(some (20,true))⟩,⟨(some 24),(.load false [.str] (.t 23)),0,(some (20,true))⟩,⟨(some 25),(.mv (.t 0)),0,(some (20,true))⟩,⟨(some 26),(.nilchk (.t 25)),0,(some (20,true))⟩,⟨(some 27),(.faddr 1 (.t 26)),0,(some (20,true))⟩,⟨(some 28),(.load false [(.int .i64)] (.t 27)),0,(some (20,true))⟩,⟨(some 29),(.index (.t 24) (.t 28)),0,(some (20,true))⟩,⟨(some 30),(.call (.c (.fn 155)) [(.t 29)]),0,(some (20,true))⟩,⟨(some 31),(.mv (.t 30)),2,(some (20,true))⟩,⟨(some 32),(.mv (.t 1)),2,(some (31,false))⟩,⟨(some 33),(.mv (.t 32)),2,(some (31,false))⟩,⟨(some 34),(.mv (.t 0)),2,(some (33,true))⟩,⟨(some 35),(.nilchk (.t 34)),2,(some (33,true))⟩,⟨(some 36),(.faddr 0 (.t 35)),2,(some (33,true))⟩,⟨(some 37),(.load false [.str] (.t 36)),2,(some (33,true))⟩,⟨(some 38),(.mv (.t 0)),2,(some (33,true))⟩,⟨(some 39),(.nilchk (.t 38)),2,(some (33,true))⟩,⟨(some 40),(.faddr 1 (.t 39)),2,(some (33,true))⟩,⟨(some 41),(.load false [(.int .i64)] (.t 40)),2,(some (33,true))⟩,⟨(some 42),(.index (.t 37) (.t 41)),2,(some (33,true))⟩,⟨(some 43),(.call (.c (.fn 156)) [(.t 42)]),2,(some (33,true))⟩,⟨(some 44),(.mv (.t 43)),4,(some (33,true))⟩,⟨(some 45),(.mv (.t 0)),4,(some (44,false))⟩,⟨(some 46),(.nilchk (.t 45)),4,(some (44,false))⟩,⟨(some 47),(.faddr 0 (.t 46)),4,(some (44,false))⟩,⟨(some 48),(.load false [.str] (.t 47)),4,(some (44,false))⟩,⟨(some 49),(.mv (.t 0)),4,(some (44,false))⟩,⟨(some 50),(.nilchk (.t 49)),4,(some (44,false))⟩,⟨(some 51),(.faddr 1 (.t 50)),4,(some (44,false))⟩,⟨(some 52),(.load false [(.int .i64)] (.t 51)),4,(some (44,false))⟩,⟨(some 53),(.index (.t 48) (.t 52)),4,(some (44,false))⟩,⟨(some 54),(.bin .num .eql (.t 53) (.c (.int .u8 95))),4,(some (44,false))⟩,⟨(some 55),(.mv (.t 54)),4,(some (44,false))⟩,⟨(some 56),(.mv (.t 0)),4,(some (55,true))⟩,⟨(some 57),(.nilchk (.t 56)),4,(some (55,true))⟩,⟨(some 58),(.faddr 1 (.t 57)),4,(some (55,true))⟩,⟨(some 59),(.load false [(.int .i64)] (.t 58)),4,(some (55,true))⟩,⟨(some 60),(.mv (.t 5)),4,(some (55,true))⟩,⟨(some 61),(.bin .num .eql (.t 59) (.t 60)),4,(some (55,true))⟩,⟨(some 62),(.pick (.t 55) (.t 61) (.c (.bool false))),4,(some (44,false))⟩,⟨(some 63),(.pick (.t 44) (.c (.bool true)) (.t 62)),4,(some (33,true))⟩,⟨(some 64),(.pick (.t 33) (.t 63) (.c (.bool false))),4,(some (31,false))⟩,⟨(some 65),(.pick (.t 31) (.c (.bool true)) (.t 64)),4,(some (20,true))⟩,⟨(some 66),(.pick (.t 20) (.t 65) (.c (.bool false))),4,none⟩] (some [[],[0],[1,0],[2,1,0],[],[4],[5,4],[6,5,4],[7,6,5,4],[3,8,2,1,0,7,6,5,4],[9,3,8,2,1,0,7,6,5,4],[10,9,3,8,2,1,0,7,6,5,4],[11,10,9,3,8,2,1,0,7,6,5,4],[12,10,11,9,3,8,2,1,0,7,6,5,4],[13,10,12,11,9,3,8,2,1,0,7,6,5,4],[10,9,3,8,2,1,0,7,6,5,4],[15,10,9,3,8,2,1,0,7,6,5,4],[16,10,15,9,3,8,2,1,0,7,6,5,4],[17,10,16,15,9,3,8,2,1,0,7,6,5,4],[14,18,10,13,12,11,9,3,8,2,1,0,7,6,5,4,17,16,15],[19,10,14,18,13,12,11,9,3,8,2,1,0,7,6,5,4,17,16,15],[20,10,19,14,18,13,12,11,9,3,8,2,1,0,7,6,5,4,17,16,15],[21,20,10,19,14,18,13,12,11,9,3,8,2,1,0,7,6,5,4,17,16,15],[22,21,20,10,19,14,18,13,12,11,9,3,8,2,1,0,7,6,5,4,17,16,15],[23,22,21,20,10,19,14,18,13,12,11,9,3,8,2,1,0,7,6,5,4,17,16,15],[24,23,22,21,20,10,19,14,18,13,12,11,9,3,8,2,1,0,7,6,5,4,17,16,15],[25,23,24,22,21,20,10,19,14,18,13,12,11,9,3,8,2,1,0,7,6,5,4,17,16,15],[26,23,25,24,22,21,20,10,19,14,18,13,12,11,9,3,8,2,1,0,7,6,5,4,17,16,15],[23,22,21,20,10,19,14,18,13,12,11,9,3,8,2,1,0,7,6,5,4,17,16,15],[28,23,22,21,20,10,19,14,18,13,12,11,9,3,8,2,1,0,7,6,5,4,17,16,15],[29,23,28,22,21,20,10,19,14,18,13,12,11,9,3,8,2,1,0,7,6,5,4,17,16,15],[30,23,29,28,22,21,20,10,19,14,18,13,12,11,9,3,8,2,1,0,7,6,5,4,17,16,15],[27,31,23,26,25,24,22,21,20,10,19,14,18,13,12,11,9,3,8,2,1,0,7,6,5,4,17,16,15,30,29,28],[32,23,27,31,26,25,24,22,21,20,10,19,14,18,13,12,11,9,3,8,2,1,0,7,6,5,4,17,16,15,30,29,28],[33,23,32,27,31,26,25,24,22,21,20,10,19,14,18,13,12,11,9,3,8,2,1,0,7,6,5,4,17,16,15,30,29,28],[34,33,23,32,27,31,26,25,24,22,21,20,10,19,14,18,13,12,11,9,3,8,2,1,0,7,6,5,4,17,16,15,30,29,28],[35,34,33,23,32,27,31,26,25,24,22,21,20,10,19,14,18,13,12,11,9,3,8,2,1,0,7,6,5,4,17,16,15,30,29,28],[36,34,35,33,23,32,27,31,26,25,24,22,21,20,10,19,14,18,13,12,11,9,3,8,2,1,0,7,6,5,4,17,16,15,30,29,28],[37,34,36,35,33,23,32,27,31,26,25,24,22,21,20,10,19,14,18,13,12,11,9,3,8,2,1,0,7,6,5,4,17,16,15,30,29,28],[34,33,23,32,27,31,26,25,24,22,21,20,10,19,14,18,13,12,11,9,3,8,2,1,0,7,6,5,4,17,16,15,30,29,28],[39,34,33,23,32,27,31,26,25,24,22,21,20,10,19,14,18,13,12,11,9,3,8,2,1,0,7,6,5,4,17,16,15,30,29,28],[40,34,39,33,23,32,27,31,26,25,24,22,21,20,10,19,14,18,13,12,11,9,3,8,2,1,0,7,6,5,4,17,16,15,30,29,28],[41,34,40,39,33,23,32,27,31,26,25,24,22,21,20,10,19,14,18,13,12,11,9,3,8,2,1,0,7,6,5,4,17,16,15,30,29,28],[38,42,34,37,36,35,33,23,32,27,31,26,25,24,22,21,20,10,19,14,18,13,12,11,9,3,8,2,1,0,7,6,5,4,17,16,15,30,29,28,41,40,39],[43,34,38,42,37,36,35,33,23,32,27,31,26,25,24,22,21,20,10,19,14,18,13,12,11,9,3,8,2,1,0,7,6,5,4,17,16,15,30,29,28,41,40,39],[44,34,43,38,42,37,36,35,33,23,32,27,31,26,25,24,22,21,20,10,19,14,18,13,12,11,9,3,8,2,1,0,7,6,5,4,17,16,15,30,29,28,41,40,39],[45,44,34,43,38,42,37,36,35,33,23,32,27,31,26,25,24,22,21,20,10,19,14,18,13,12,11,9,3,8,2,1,0,7,6,5,4,17,16,15,30,29,28,41,40,39],[46,45,44,34,43,38,42,37,36,35,33,23,32,27,31,26,25,24,22,21,20,10,19,14,18,13,12,11,9,3,8,2,1,0,7,6,5,4,17,16,15,30,29,28,41,40,39],[47,45,46,44,34,43,38,42,37,36,35,33,23,32,27,31,26,25,24,22,21,20,10,19,14,18,13,12,11,9,3,8,2,1,0,7,6,5,4,17,16,15,30,29,28,41,40,39],[48,45,47,46,44,34,43,38,42,37,36,35,33,23,32,27,31,26,25,24,22,21,20,10,19,14,18,13,12,11,9,3,8,2,1,0,7,6,5,4,17,16,15,30,29,28,41,40,39],[45,44,34,43,38,42,37,36,35,33,23,32,27,31,26,25,24,22,21,20,10,19,14,18,13,12,11,9,3,8,2,1,0,7,6,5,4,17,16,15,30,29,28,41,40,39],[49,50,45,48,47,46,44,34,43,38,42,37,36,35,33,23,32,27,31,26,25,24,22,21,20,10,19,14,18,13,12,11,9,3,8,2,1,0,7,6,5,4,17,16,15,30,29,28,41,40,39],[45,51,34,44,43,38,42,37,36,35,33,23,32,27,31,26,25,24,22,21,20,10,19,14,18,13,12,11,9,3,8,2,1,0,7,6,5,4,17,16,15,30,29,28,41,40,39,49,50,48,47,46],[34,52,23,33,32,27,31,26,25,24,22,21,20,10,19,14,18,13,12,11,9,3,8,2,1,0,7,6,5,4,17,16,15,30,29,28,45,51,44,43,38,42,37,36,35,41,40,39,49,50,48,47,46],[23,53,21,22,20,10,19,14,18,13,12,11,9,3,8,2,1,0,7,6,5,4,17,16,15,34,52,33,32,27,31,26,25,24,30,29,28,45,51,44,43,38,42,37,36,35,41,40,39,49,50,48,47,46],[21,54,10,20,19,14,18,13,12,11,9,3,8,2,1,0,7,6,5,4,17,16,15,23,53,22,34,52,33,32,27,31,26,25,24,30,29,28,45,51,44,43,38,42,37,36,35,41,40,39,49,50,48,47,46],[10,55,9,3,8,2,1,0,7,6,5,4,21,54,20,19,14,18,13,12,11,17,16,15,23,53,22,34,52,33,32,27,31,26,25,24,30,29,28,45,51,44,43,38,42,37,36,35,41,40,39,49,50,48,47,46]])) (.cond (.t 66) .skip (.exit 0))) (.block 1 (.reg [⟨(some 67),(.mv (.t 0)),0,none⟩,⟨(some 68),(.nilchk (.t 67)),0,none⟩,⟨(some 69),(.faddr 1 (.t 68)),0,none⟩,⟨(some 70),(.load false [(.int .i64)] (.t 69)),0,none⟩,⟨(some 71),(.bin .num .add (.t 70) (.c (.int .i64 1))),0,none⟩,⟨(some 72),(.nilchk (.t 67)),0,none⟩,⟨(some 73),(.faddr 1 (.t 72)),0,none⟩,⟨none,(.store 1 (.t 73) (.t 71)),0,none⟩] none))))) (.seq (.reg [⟨(some 74),(.mv (.t 0)),0,none⟩,⟨(some 75),(.nilchk (.t 74)),0,none⟩,⟨(some 76),(.faddr 0 (.t 75)),0,none⟩,⟨(some 77),(.load false [.str] (.t 76)),0,none⟩,⟨(some 78),(.mv (.t 5)),0,none⟩,⟨(some 79),(.mv (.t 0)),0,none⟩,⟨(some 80),(.nilchk (.t 79)),0,none⟩,⟨(some 81),(.faddr 1 (.t 80)),0,none⟩,⟨(some 82),(.load false [(.int .i64)] (.t 81)),0,none⟩,⟨(some 83),(.strslc (.t 77) (some (.t 78)) (some (.t 82))),0,none⟩,⟨(some 4),(.mv (.t 83)),0,none⟩] (some [[],[0],[1,0],[2,1,0],[],[],[5],[6,5],[7,6,5],[3,4,8,2,1,0,7,6,5],[9,0,1,2,3,4,5,6,7,8]])) .ret))))
def WJ:List IRes:=[(.tmp 4)]
abbrev a5x:Nat:=84
def VY:ZJ:=WI [(155,.pure (preT (fun _:UInt8×Unit=>true)) (Zk (fun x:UInt8×Unit=>Zj x.1))),(156,.pure (preT (fun _:UInt8×Unit=>true)) (Zk (fun x:UInt8×Unit=>ZT x.1)))]
theorem a7t{G:AV×List AObj×List AObj->Prop}(b:Bool)(s:List UInt8)(n:Int)(h:At VY 1 (Zd 1 WJ G) WH 0 84 [(0,(.ptr 0 0)),(1,(.pv (.bool b))),(5,(.pv (.int .i64 n)))] [(.obj (.box [(.pv (.str s)),(.pv (.int .i64 n))]))]):Zi VY 1 (Zd 1 WJ G) WH [] (Ym 84 [.ptr 0 0,.pv (.bool b)] [.box [.pv (.str s),.pv (.int .i64 n)]]):=Zi.to (.nil) h (by kernel_rfl)
theorem N8{G:AV×List AObj×List AObj->Prop}(b:Bool)(s:List UInt8)(n:Int)(m:Int)(h:if (decide (n<(↑(List.length s):Int)))=true then(decide (0<=n)&&decide (Int.toNat n<List.length s))=true∧((Go.Pl.preT (fun(x:UInt8×Unit)=>true) [(.int IntKind.u8 (↑(UInt8.toNat (List.getD s (Int.toNat n) (0:UInt8))):Int))])=true∧(∃ y0:Bool,AV.pv (Zk (fun(x:UInt8×Unit)=>Zj x.1) [(.int IntKind.u8 (↑(UInt8.toNat (List.getD s (Int.toNat n) (0:UInt8))):Int))])=AV.pv (enc y0)∧(if (y0)=true then At VY 1 (Zd 1 WJ G) WH 0 84 [(0,(.ptr 0 0)),(1,(.pv (.bool b))),(5,(.pv (.int .i64 m)))] [(.obj (.box [(.pv (.str s)),(.pv (.int .i64 (IntKind.wrap IntKind.i64 (n+1))))]))]else(if (b)=true then(decide (0<=n)&&decide (Int.toNat n<List.length s))=true∧((Go.Pl.preT (fun(x:UInt8×Unit)=>true) [(.int IntKind.u8 (↑(UInt8.toNat (List.getD s (Int.toNat n) (0:UInt8))):Int))])=true∧(∃ y1:Bool,AV.pv (Zk (fun(x:UInt8×Unit)=>ZT x.1) [(.int IntKind.u8 (↑(UInt8.toNat (List.getD s (Int.toNat n) (0:UInt8))):Int))])=AV.pv (enc y1)∧(if (y1)=true then At VY 1 (Zd 1 WJ G) WH 0 84 [(0,(.ptr 0 0)),(1,(.pv (.bool b))),(5,(.pv (.int .i64 m)))] [(.obj (.box [(.pv (.str s)),(.pv (.int .i64 (IntKind.wrap IntKind.i64 (n+1))))]))]else((decide (0<=n)&&decide (Int.toNat n<List.length s))=true∧(if ((↑(UInt8.toNat (List.getD s (Int.toNat n) (0:UInt8))):Int)==95)=true then if (n==m)=true then At VY 1 (Zd 1 WJ G) WH 0 84 [(0,(.ptr 0 0)),(1,(.pv (.bool b))),(5,(.pv (.int .i64 m)))] [(.obj (.box [(.pv (.str s)),(.pv (.int .i64 (IntKind.wrap IntKind.i64 (n+1))))]))]else((decide (0<=m)&&decide (0<=n)&&decide (Int.toNat m<=Int.toNat n)&&decide (Int.toNat n<=List.length s))=true∧(G (((.pv (.str (List.drop (Int.toNat m) (List.take (Int.toNat n) s)))),([(.box [(.pv (.str s)),(.pv (.int .i64 n))])],[])))))else((decide (0<=m)&&decide (0<=n)&&decide (Int.toNat m<=Int.toNat n)&&decide (Int.toNat n<=List.length s))=true∧(G (((.pv (.str (List.drop (Int.toNat m) (List.take (Int.toNat n) s)))),([(.box [(.pv (.str s)),(.pv (.int .i64 n))])],[]))))))))))else((decide (0<=m)&&decide (0<=n)&&decide (Int.toNat m<=Int.toNat n)&&decide (Int.toNat n<=List.length s))=true∧(G (((.pv (.str (List.drop (Int.toNat m) (List.take (Int.toNat n) s)))),([(.box [(.pv (.str s)),(.pv (.int .i64 n))])],[])))))))))else((decide (0<=m)&&decide (0<=n)&&decide (Int.toNat m<=Int.toNat n)&&decide (Int.toNat n<=List.length s))=true∧(G (((.pv (.str (List.drop (Int.toNat m) (List.take (Int.toNat n) s)))),([(.box [(.pv (.str s)),(.pv (.int .i64 n))])],[])))))):At VY 1 (Zd 1 WJ G) WH 0 84 [(0,.ptr 0 0),(1,.pv (.bool b)),(5,.pv (.int .i64 m))] [.obj (.box [.pv (.str s),.pv (.int .i64 n)])]:=At.to (.lit (.ask (.lit (.lit (.lit (.lit (.lit (.lit (.lit (.lit (.req (.lit (.req (.abs (Bool) (fun YY=>AV.pv (enc YY)) (.lit (.ask (.lit (.lit (.lit (.lit (.lit (.lit (.lit (.nil)))))))) (.lit (.ask (.lit (.lit (.lit (.lit (.lit (.lit (.lit (.lit (.req (.lit (.req (.abs (Bool) (fun YY=>AV.pv (enc YY)) (.lit (.ask (.lit (.lit (.lit (.lit (.lit (.lit (.lit (.lit (.lit (.lit (.lit (.lit (.lit (.lit (.lit (.lit (.lit (.lit (.lit (.lit (.nil))))))))))))))))))))) (.lit (.lit (.lit (.lit (.lit (.lit (.lit (.lit (.req (.lit (.lit (.lit (.ask (.lit (.lit (.lit (.lit (.lit (.lit (.lit (.lit (.lit (.lit (.lit (.lit (.lit (.lit (.lit (.ask (.lit (.nil)) (.req (.nil)))))))))))))))))) (.lit (.lit (.lit (.lit (.lit (.lit (.lit (.lit (.lit (.lit (.lit (.lit (.lit (.lit (.lit (.req (.nil)))))))))))))))))))))))))))))))))))))))))))) (.lit (.lit (.lit (.lit (.lit (.lit (.lit (.lit (.lit (.lit (.lit (.lit (.lit (.lit (.lit (.lit (.lit (.req (.nil))))))))))))))))))))))))))))))))))) (.lit (.lit (.lit (.lit (.lit (.lit (.lit (.lit (.lit (.lit (.lit (.lit (.lit (.req (.nil))))))))))))))))) h (by kernel_rfl)
def Wd:IC:=(.seq (.reg [⟨(some 2),(.mv (.c (.int .i64 0))),0,none⟩,⟨(some 3),(.mv (.c (.str []))),0,none⟩,⟨(some 4),(.mv (.c (.bool false))),0,none⟩] none) (.seq (.reg [⟨(some 12),(.mv (.t 0)),0,none⟩,⟨(some 13),(.call (.c (.fn 157)) [(.t 12),(.c (.bool false))]),0,none⟩,⟨(some 5),(.mv (.t 13)),2,none⟩] none) (.seq (.seq (.reg [⟨(some 14),(.mv (.t 5)),0,none⟩,⟨(some 15),(.len 0 (.t 14)),0,none⟩,⟨(some 16),(.bin .num .gtr (.t 15) (.c (.int .i64 7))),0,none⟩,⟨(some 17),(.mv (.t 16)),0,none⟩,⟨(some 18),(.mv (.t 5)),0,(some (17,false))⟩,⟨(some 19),(.len 0 (.t 18)),0,(some (17,false))⟩,⟨(some 20),(.bin .num .gtr (.t 19) (.c (.int .i64 1))),0,(some (17,false))⟩,⟨(some 21),(.mv (.t 20)),0,(some (17,false))⟩,⟨(some 22),(.mv (.t 5)),0,(some (21,true))⟩,⟨(some 23),(.index (.t 22) (.c (.int .i64 0))),0,(some (21,true))⟩,⟨(some 24),(.bin .num .eql (.t 23) (.c (.int .u8 48))),0,(some (21,true))⟩,⟨(some 25),(.pick (.t 21) (.t 24) (.c (.bool false))),0,(some (17,false))⟩,⟨(some 26),(.pick (.t 17) (.c (.bool true)) (.t 25)),0,none⟩] none) (.cond (.t 26) (.seq (.reg [⟨(some 2),(.mv (.c (.int .i64 0))),0,none⟩,⟨(some 3),(.mv (.c (.str []))),0,none⟩,⟨(some 4),(.mv (.c (.bool false))),0,none⟩] none) .ret) .skip)) (.seq (.reg [⟨(some 6),(.mv (.c (.int .i64 0))),0,none⟩] none) (.seq (.seq (.reg [⟨(some 7),(.mv (.c (.int .i64 0))),0,none⟩] none) (.block 0 (.loop [7,5,6,0] (.seq (.seq (.reg [⟨(some 27),(.mv (.t 7)),0,none⟩,⟨(some 28),(.mv (.t 5)),0,none⟩,⟨(some 29),(.len 0 (.t 28)),0,none⟩,⟨(some 30),(.bin .num .lss (.t 27) (.t 29)),0,none⟩] none) (.cond (.t 30) .skip (.exit 0))) (.seq (.block 1 (.reg [⟨(some 33),(.mv (.t 6)),0,none⟩,⟨(some 34),(.bin .num .mul (.c (.int .i64 10)) (.t 33)),0,none⟩,⟨(some 35),(.mv (.t 5)),0,none⟩,⟨(some 36),(.mv (.t 7)),0,none⟩,⟨(some 37),(.index (.t 35) (.t 36)),0,none⟩,⟨(some 38),(.bin .num .sub (.t 37) (.c (.int .u8 48))),0,none⟩,⟨(some 39),(.conv .i64 (.t 38)),0,none⟩,⟨(some 40),(.bin .num .add (.t 34) (.t 39)),0,none⟩,⟨(some 6),(.mv (.t 40)),0,none⟩] none)) (.reg [⟨(some 31),(.mv (.t 7)),0,none⟩,⟨(some 32),(.bin .num .add (.t 31) (.c (.int .i64 1))),0,none⟩,⟨(some 7),(.mv (.t 32)),0,none⟩] none)))))) (.seq (.seq (.reg [⟨(some 41),(.mv (.t 5)),0,none⟩,⟨(some 42),(.bin .num .eql (.t 41) (.c (.str []))),0,none⟩] none) (.cond (.t 42) (.seq (.reg [⟨(some 43),(.mv (.t 0)),0,none⟩,⟨(some 44),(.call (.c (.fn 157)) [(.t 43),(.c (.bool true))]),0,none⟩,⟨(some 8),(.mv (.t 44)),2,none⟩] none) (.seq (.reg [⟨(some 45),(.mv (.t 8)),0,none⟩,⟨(some 46),(.mv (.t 8)),0,none⟩,⟨(some 47),(.call (.c (.fn 84)) [(.t 46)]),0,none⟩,⟨(some 2),(.mv (.c (.int .i64 1))),2,none⟩,⟨(some 3),(.mv (.t 45)),2,none⟩,⟨(some 4),(.mv (.t 47)),2,none⟩] none) .ret)) .skip)) (.seq (.seq (.reg [⟨(some 48),(.mv (.t 0)),0,none⟩,⟨(some 49),(.nilchk (.t 48)),0,none⟩,⟨(some 50),(.faddr 1 (.t 49)),0,none⟩,⟨(some 51),(.load false [(.int .i64)] (.t 50)),0,none⟩,⟨(some 52),(.mv (.t 0)),0,none⟩,⟨(some 53),(.nilchk (.t 52)),0,none⟩,⟨(some 54),(.faddr 0 (.t 53)),0,none⟩,⟨(some 55),(.load false [.str] (.t 54)),0,none⟩,⟨(some 56),(.len 0 (.t 55)),0,none⟩,⟨(some 57),(.bin .num .lss (.t 51) (.t 56)),0,none⟩,⟨(some 58),(.mv (.t 57)),0,none⟩,⟨(some 59),(.mv (.t 0)),0,(some (58,true))⟩,⟨(some 60),(.nilchk (.t 59)),0,(some (58,true))⟩,⟨(some 61),(.faddr 0 (.t 60)),0,(some (58,true))⟩,⟨(some 62),(.load false [.str] (.t 61)),0,(some (58,true))⟩,⟨(some 63),(.mv (.t 0)),0,(some (58,true))⟩,⟨(some 64),(.nilchk (.t 63)),0,(some (58,true))⟩,⟨(some 65),(.faddr 1 (.t 64)),0,(some (58,true))⟩,⟨(some 66),(.load false [(.int .i64)] (.t 65)),0,(some (58,true))⟩,⟨(some 67),(.index (.t 62) (.t 66)),0,(some (58,true))⟩,⟨(some 68),(.call (.c (.fn 156)) [(.t 67)]),0,(some (58,true))⟩,⟨(some 69),(.mv (.t 68)),2,(some (58,true))⟩,⟨(some 70),(.mv (.t 0)),2,(some (69,false))⟩,⟨(some 71),(.nilchk (.t 70)),2,(some (69,false))⟩,⟨(some 72),(.faddr 0 (.t 71)),2,(some (69,false))⟩,⟨(some 73),(.load false [.str] (.t 72)),2,(some (69,false))⟩,⟨(some 74),(.mv (.t 0)),2,(some (69,false))⟩,⟨(some 75),(.nilchk (.t 74)),2,(some (69,false))⟩,⟨(some 76),(.faddr 1 (.t 75)),2,(some (69,false))⟩,⟨(some 77),(.load false [(.int .i64)] (.t 76)),2,(some (69,false))⟩,⟨(some 78),(.index (.t 73) (.t 77)),2,(some (69,false))⟩,⟨(some 79),(.bin .num .eql (.t 78) (.c (.int .u8 95))),2,(some (69,false))⟩,⟨(some 80),(.pick (.t 69) (.c (.bool true)) (.t 79)),2,(some (58,true))⟩,⟨(some 81),(.pick (.t 58) (.t 80) (.c (.bool false))),2,none⟩] (some [[],[0],[1,0],[2,1,0],[],[4],[5,4],[6,5,4],[7,6,5,4],[3,8,2,1,0,7,6,5,4],[9,3,8,2,1,0,7,6,5,4],[10,9,3,8,2,1,0,7,6,5,4],[11,10,9,3,8,2,1,0,7,6,5,4],[12,10,11,9,3,8,2,1,0,7,6,5,4],[13,10,12,11,9,3,8,2,1,0,7,6,5,4],[10,9,3,8,2,1,0,7,6,5,4],[15,10,9,3,8,2,1,0,7,6,5,4],[16,10,15,9,3,8,2,1,0,7,6,5,4],[17,10,16,15,9,3,8,2,1,0,7,6,5,4],[14,18,10,13,12,11,9,3,8,2,1,0,7,6,5,4,17,16,15],[19,10,14,18,13,12,11,9,3,8,2,1,0,7,6,5,4,17,16,15],[20,10,19,14,18,13,12,11,9,3,8,2,1,0,7,6,5,4,17,16,15],[21,20,10,19,14,18,13,12,11,9,3,8,2,1,0,7,6,5,4,17,16,15],[22,21,20,10,19,14,18,13,12,11,9,3,8,2,1,0,7,6,5,4,17,16,15],[23,21,22,20,10,19,14,18,13,12,11,9,3,8,2,1,0,7,6,5,4,17,16,15],[24,21,23,22,20,10,19,14,18,13,12,11,9,3,8,2,1,0,7,6,5,4,17,16,15],[21,20,10,19,14,18,13,12,11,9,3,8,2,1,0,7,6,5,4,17,16,15],[26,21,20,10,19,14,18,13,12,11,9,3,8,2,1,0,7,6,5,4,17,16,15],[27,21,26,20,10,19,14,18,13,12,11,9,3,8,2,1,0,7,6,5,4,17,16,15],[28,21,27,26,20,10,19,14,18,13,12,11,9,3,8,2,1,0,7,6,5,4,17,16,15],[25,29,21,24,23,22,20,10,19,14,18,13,12,11,9,3,8,2,1,0,7,6,5,4,17,16,15,28,27,26],[30,21,25,29,24,23,22,20,10,19,14,18,13,12,11,9,3,8,2,1,0,7,6,5,4,17,16,15,28,27,26],[21,31,10,20,19,14,18,13,12,11,9,3,8,2,1,0,7,6,5,4,17,16,15,30,25,29,24,23,22,28,27,26],[10,32,9,3,8,2,1,0,7,6,5,4,21,31,20,19,14,18,13,12,11,17,16,15,30,25,29,24,23,22,28,27,26]])) (.cond (.t 81) (.seq (.reg [⟨(some 82),(.mv (.t 0)),0,none⟩,⟨(some 83),(.call (.c (.fn 157)) [(.t 82),(.c (.bool true))]),0,none⟩,⟨(some 9),(.mv (.t 83)),2,none⟩] none) (.seq (.reg [⟨(some 84),(.mv (.t 6)),0,none⟩,⟨(some 85),(.mv (.t 9)),0,none⟩,⟨(some 86),(.mv (.t 9)),0,none⟩,⟨(some 87),(.call (.c (.fn 84)) [(.t 86)]),0,none⟩,⟨(some 2),(.mv (.t 84)),2,none⟩,⟨(some 3),(.mv (.t 85)),2,none⟩,⟨(some 4),(.mv (.t 87)),2,none⟩] none) .ret)) .skip)) (.seq (.reg [⟨(some 88),(.mv (.t 0)),0,none⟩,⟨(some 89),(.nilchk (.t 88)),0,none⟩,⟨(some 90),(.faddr 1 (.t 89)),0,none⟩,⟨(some 91),(.load false [(.int .i64)] (.t 90)),0,none⟩,⟨(some 10),(.mv (.t 91)),0,none⟩] none) (.seq (.reg [⟨(some 92),(.mv (.t 0)),0,none⟩,⟨(some 93),(.call (.c (.fn 86)) [(.t 92)]),0,none⟩] none) (.seq (.seq (.reg [⟨(some 94),(.mv (.t 0)),0,none⟩,⟨(some 95),(.call (.c (.fn 87)) [(.t 94),(.c (.int .u8 42))]),0,none⟩,⟨(some 96),(.un .not (.t 95)),2,none⟩] none) (.cond (.t 96) (.seq (.reg [⟨(some 97),(.mv (.t 0)),0,none⟩,⟨(some 98),(.mv (.t 10)),0,none⟩,⟨(some 99),(.nilchk (.t 97)),0,none⟩,⟨(some 100),(.faddr 1 (.t 99)),0,none⟩,⟨none,(.store 1 (.t 100) (.t 98)),0,none⟩] none) (.seq (.reg [⟨(some 101),(.mv (.t 6)),0,none⟩,⟨(some 2),(.mv (.t 101)),0,none⟩,⟨(some 3),(.mv (.c (.str []))),0,none⟩,⟨(some 4),(.mv (.c (.bool true))),0,none⟩] none) .ret)) .skip)) (.seq (.reg [⟨(some 102),(.mv (.t 0)),0,none⟩,⟨(some 103),(.call (.c (.fn 86)) [(.t 102)]),0,none⟩] none) (.seq (.seq (.reg [⟨(some 104),(.mv (.t 0)),0,none⟩,⟨(some 105),(.nilchk (.t 104)),0,none⟩,⟨(some 106),(.faddr 1 (.t 105)),0,none⟩,⟨(some 107),(.load false [(.int .i64)] (.t 106)),0,none⟩,⟨(some 108),(.mv (.t 0)),0,none⟩,⟨(some 109),(.nilchk (.t 108)),0,none⟩,⟨(some 110),(.faddr 0 (.t 109)),0,none⟩,⟨(some 111),(.load false [.str] (.t 110)),0,none⟩,⟨(some 112),(.len 0 (.t 111)),0,none⟩,⟨(some 113),(.bin .num .lss (.t 107) (.t 112)),0,none⟩,⟨(some 114),(.mv (.t 113)),0,none⟩,⟨(some 115),(.mv (.t 0)),0,(some (114,true))⟩,⟨(some 116),(.nilchk (.t 115)),0,(some (114,true))⟩,⟨(some 117),(.faddr 0 (.t 116)),0,(some (114,true))⟩,⟨(some 118),(.load false [.str] (.t 117)),0,(some (114,true))⟩,⟨(some 119),(.mv (.t 0)),0,(some (114,true))⟩,⟨(some 120),(.nilchk (.t 119)),0,(some (114,true))⟩,⟨(some 121),(.faddr 1 (.t 120)),0,(some (114,true))⟩,⟨(some 122),(.load false [(.int .i64)] (.t 121)),0,(some (114,true))⟩,⟨(some 123),(.index (.t 118) (.t 122)),0,(some (114,true))⟩,⟨(some 124),(.call (.c (.fn 155)) [(.t 123)]),0,(some (114,true))⟩,⟨(some 125),(.pick (.t 114) (.t 124) (.c (.bool false))),2,none⟩] (some [[],[0],[1,0],[2,1,0],[],[4],[5,4],[6,5,4],[7,6,5,4],[3,8,2,1,0,7,6,5,4],[9,3,8,2,1,0,7,6,5,4],[10,9,3,8,2,1,0,7,6,5,4],[11,10,9,3,8,2,1,0,7,6,5,4],[12,10,11,9,3,8,2,1,0,7,6,5,4],[13,10,12,11,9,3,8,2,1,0,7,6,5,4],[10,9,3,8,2,1,0,7,6,5,4],[15,10,9,3,8,2,1,0,7,6,5,4],[16,10,15,9,3,8,2,1,0,7,6,5,4],[17,10,16,15,9,3,8,2,1,0,7,6,5,4],[14,18,10,13,12,11,9,3,8,2,1,0,7,6,5,4,17,16,15],[19,10,14,18,13,12,11,9,3,8,2,1,0,7,6,5,4,17,16,15],[10,20,9,3,8,2,1,0,7,6,5,4,19,14,18,13,12,11,17,16,15]])) (.cond (.t 125) (.seq (.reg [⟨(some 2),(.mv (.c (.int .i64 0))),0,none⟩,⟨(some 3),(.mv (.c (.str []))),0,none⟩,⟨(some 4),(.mv (.c (.bool false))),0,none⟩] none) .ret) .skip)) (.seq (.reg [⟨(some 126),(.mv (.t 0)),0,none⟩,⟨(some 127),(.call (.c (.fn 157)) [(.t 126),(.c (.bool true))]),0,none⟩,⟨(some 11),(.mv (.t 127)),2,none⟩] none) (.seq (.reg [⟨(some 128),(.mv (.t 6)),0,none⟩,⟨(some 129),(.mv (.t 11)),0,none⟩,⟨(some 130),(.mv (.t 11)),0,none⟩,⟨(some 131),(.call (.c (.fn 84)) [(.t 130)]),0,none⟩,⟨(some 2),(.mv (.t 128)),2,none⟩,⟨(some 3),(.mv (.t 129)),2,none⟩,⟨(some 4),(.mv (.t 131)),2,none⟩] none) .ret))))))))))))))
def Wq:List IRes:=[(.tmp 2),(.tmp 3),(.tmp 4)]
abbrev F9:Nat:=132
def Vg:ZJ:=WI [(157,.own YI KU),(84,.pure (preT (fun _:Str×Unit=>true)) (Zk (fun x:Str×Unit=>Zr x.1))),(156,.pure (preT (fun _:UInt8×Unit=>true)) (Zk (fun x:UInt8×Unit=>ZT x.1))),(155,.pure (preT (fun _:UInt8×Unit=>true)) (Zk (fun x:UInt8×Unit=>Zj x.1))),(86,.own Yc VN),(87,.own YA J7)]
theorem a4n{G:AV×List AObj×List AObj->Prop}(s:List UInt8)(n:Int)(h:(YI [(.ptr 0 0),(.pv (.bool false))] [(.box [(.pv (.str s)),(.pv (.int .i64 n))])])=true∧(if (decide ((↑(List.length (QW false s n)):Int)>7))=true then G (((.tup [(.pv (.int .i64 0)),(.pv (.str [])),(.pv (.bool false))]),([(.box [(.pv (.str s)),(.pv (.int .i64 (Ba false s n)))])],[])))else(if (decide ((↑(List.length (QW false s n)):Int)>1))=true then(decide (0<=0)&&decide (Int.toNat 0<List.length (QW false s n)))=true∧(if ((↑(UInt8.toNat (List.getD (QW false s n) (Int.toNat 0) (0:UInt8))):Int)==48)=true then G (((.tup [(.pv (.int .i64 0)),(.pv (.str [])),(.pv (.bool false))]),([(.box [(.pv (.str s)),(.pv (.int .i64 (Ba false s n)))])],[])))else(At Vg 1 (Zd 1 Wq G) Wd 0 132 [(0,(.ptr 0 0)),(5,(.pv (.str (QW false s n)))),(6,(.pv (.int .i64 0))),(7,(.pv (.int .i64 0)))] [(.obj (.box [(.pv (.str s)),(.pv (.int .i64 (Ba false s n)))]))]))else(At Vg 1 (Zd 1 Wq G) Wd 0 132 [(0,(.ptr 0 0)),(5,(.pv (.str (QW false s n)))),(6,(.pv (.int .i64 0))),(7,(.pv (.int .i64 0)))] [(.obj (.box [(.pv (.str s)),(.pv (.int .i64 (Ba false s n)))]))])))):Zi Vg 1 (Zd 1 Wq G) Wd [] (Ym 132 [.ptr 0 0] [.box [.pv (.str s),.pv (.int .i64 n)]]):=Zi.to (.req (.keep (.lit (.ask (.lit (.lit (.lit (.lit (.lit (.lit (.nil))))))) (.lit (.lit (.lit (.lit (.ask (.lit (.req (.lit (.lit (.lit (.lit (.lit (.ask (.nil) (.nil))))))))) (.lit (.lit (.lit (.lit (.lit (.lit (.nil)))))))))))))))) h (by kernel_rfl)
theorem Sl{G:AV×List AObj×List AObj->Prop}(s:List UInt8)(n:Int)(d:List UInt8)(k i:Int)(h:if (decide (i<(↑(List.length d):Int)))=true then(decide (0<=i)&&decide (Int.toNat i<List.length d))=true∧(At Vg 1 (Zd 1 Wq G) Wd 0 132 [(0,(.ptr 0 0)),(5,(.pv (.str d))),(6,(.pv (.int .i64 (IntKind.wrap IntKind.i64 (IntKind.wrap IntKind.i64 (10*k)+IntKind.wrap IntKind.i64 (IntKind.wrap IntKind.u8 ((↑(UInt8.toNat (List.getD d (Int.toNat i) (0:UInt8))):Int) - 48))))))),(7,(.pv (.int .i64 (IntKind.wrap IntKind.i64 (i+1)))))] [(.obj (.box [(.pv (.str s)),(.pv (.int .i64 n))]))])else(if (d==[])=true then(YI [(.ptr 0 0),(.pv (.bool true))] [(.box [(.pv (.str s)),(.pv (.int .i64 n))])])=true∧(∃ y0:Bool,AV.pv (Zk (fun(x:Str×Unit)=>Zr x.1) [(.str (QW true s n))])=AV.pv (enc y0)∧(G (((.tup [(.pv (.int .i64 1)),(.pv (.str (QW true s n))),(.pv (.bool y0))]),([(.box [(.pv (.str s)),(.pv (.int .i64 (Ba true s n)))])],[])))))else(if (decide (n<(↑(List.length s):Int)))=true then(decide (0<=n)&&decide (Int.toNat n<List.length s))=true∧((Go.Pl.preT (fun(x:UInt8×Unit)=>true) [(.int IntKind.u8 (↑(UInt8.toNat (List.getD s (Int.toNat n) (0:UInt8))):Int))])=true∧(∃ y1:Bool,AV.pv (Zk (fun(x:UInt8×Unit)=>ZT x.1) [(.int IntKind.u8 (↑(UInt8.toNat (List.getD s (Int.toNat n) (0:UInt8))):Int))])=AV.pv (enc y1)∧(if (y1)=true then(YI [(.ptr 0 0),(.pv (.bool true))] [(.box [(.pv (.str s)),(.pv (.int .i64 n))])])=true∧(∃ y2:Bool,AV.pv (Zk (fun(x:Str×Unit)=>Zr x.1) [(.str (QW true s n))])=AV.pv (enc y2)∧(G (((.tup [(.pv (.int .i64 k)),(.pv (.str (QW true s n))),(.pv (.bool y2))]),([(.box [(.pv (.str s)),(.pv (.int .i64 (Ba true s n)))])],[])))))else((decide (0<=n)&&decide (Int.toNat n<List.length s))=true∧(if ((↑(UInt8.toNat (List.getD s (Int.toNat n) (0:UInt8))):Int)==95)=true then(YI [(.ptr 0 0),(.pv (.bool true))] [(.box [(.pv (.str s)),(.pv (.int .i64 n))])])=true∧(∃ y3:Bool,AV.pv (Zk (fun(x:Str×Unit)=>Zr x.1) [(.str (QW true s n))])=AV.pv (enc y3)∧(G (((.tup [(.pv (.int .i64 k)),(.pv (.str (QW true s n))),(.pv (.bool y3))]),([(.box [(.pv (.str s)),(.pv (.int .i64 (Ba true s n)))])],[])))))else((Yc [(.ptr 0 0)] [(.box [(.pv (.str s)),(.pv (.int .i64 n))])])=true∧((YA [(.ptr 0 0),(.pv (.int IntKind.u8 42))] [(.box [(.pv (.str s)),(.pv (.int .i64 (bB s n)))])])=true∧(if (!HZ 42 s (bB s n))=true then G (((.tup [(.pv (.int .i64 k)),(.pv (.str [])),(.pv (.bool true))]),([(.box [(.pv (.str s)),(.pv (.int .i64 n))])],[])))else((Yc [(.ptr 0 0)] [(.box [(.pv (.str s)),(.pv (.int .i64 (Y5 42 s (bB s n))))])])=true∧(if (decide (bB s (Y5 42 s (bB s n))<(↑(List.length s):Int)))=true then(decide (0<=bB s (Y5 42 s (bB s n)))&&decide (Int.toNat (bB s (Y5 42 s (bB s n)))<List.length s))=true∧((Go.Pl.preT (fun(x:UInt8×Unit)=>true) [(.int IntKind.u8 (↑(UInt8.toNat (List.getD s (Int.toNat (bB s (Y5 42 s (bB s n)))) (0:UInt8))):Int))])=true∧(∃ y4:Bool,AV.pv (Zk (fun(x:UInt8×Unit)=>Zj x.1) [(.int IntKind.u8 (↑(UInt8.toNat (List.getD s (Int.toNat (bB s (Y5 42 s (bB s n)))) (0:UInt8))):Int))])=AV.pv (enc y4)∧(if (y4)=true then G (((.tup [(.pv (.int .i64 0)),(.pv (.str [])),(.pv (.bool false))]),([(.box [(.pv (.str s)),(.pv (.int .i64 (bB s (Y5 42 s (bB s n)))))])],[])))else((YI [(.ptr 0 0),(.pv (.bool true))] [(.box [(.pv (.str s)),(.pv (.int .i64 (bB s (Y5 42 s (bB s n)))))])])=true∧(∃ y5:Bool,AV.pv (Zk (fun(x:Str×Unit)=>Zr x.1) [(.str (QW true s (bB s (Y5 42 s (bB s n)))))])=AV.pv (enc y5)∧(G (((.tup [(.pv (.int .i64 k)),(.pv (.str (QW true s (bB s (Y5 42 s (bB s n)))))),(.pv (.bool y5))]),([(.box [(.pv (.str s)),(.pv (.int .i64 (Ba true s (bB s (Y5 42 s (bB s n))))))])],[])))))))))else((YI [(.ptr 0 0),(.pv (.bool true))] [(.box [(.pv (.str s)),(.pv (.int .i64 (bB s (Y5 42 s (bB s n)))))])])=true∧(∃ y6:Bool,AV.pv (Zk (fun(x:Str×Unit)=>Zr x.1) [(.str (QW true s (bB s (Y5 42 s (bB s n)))))])=AV.pv (enc y6)∧(G (((.tup [(.pv (.int .i64 k)),(.pv (.str (QW true s (bB s (Y5 42 s (bB s n)))))),(.pv (.bool y6))]),([(.box [(.pv (.str s)),(.pv (.int .i64 (Ba true s (bB s (Y5 42 s (bB s n))))))])],[]))))))))))))))))else((Yc [(.ptr 0 0)] [(.box [(.pv (.str s)),(.pv (.int .i64 n))])])=true∧((YA [(.ptr 0 0),(.pv (.int IntKind.u8 42))] [(.box [(.pv (.str s)),(.pv (.int .i64 (bB s n)))])])=true∧(if (!HZ 42 s (bB s n))=true then G (((.tup [(.pv (.int .i64 k)),(.pv (.str [])),(.pv (.bool true))]),([(.box [(.pv (.str s)),(.pv (.int .i64 n))])],[])))else((Yc [(.ptr 0 0)] [(.box [(.pv (.str s)),(.pv (.int .i64 (Y5 42 s (bB s n))))])])=true∧(if (decide (bB s (Y5 42 s (bB s n))<(↑(List.length s):Int)))=true then(decide (0<=bB s (Y5 42 s (bB s n)))&&decide (Int.toNat (bB s (Y5 42 s (bB s n)))<List.length s))=true∧((Go.Pl.preT (fun(x:UInt8×Unit)=>true) [(.int IntKind.u8 (↑(UInt8.toNat (List.getD s (Int.toNat (bB s (Y5 42 s (bB s n)))) (0:UInt8))):Int))])=true∧(∃ y7:Bool,AV.pv (Zk (fun(x:UInt8×Unit)=>Zj x.1) [(.int IntKind.u8 (↑(UInt8.toNat (List.getD s (Int.toNat (bB s (Y5 42 s (bB s n)))) (0:UInt8))):Int))])=AV.pv (enc y7)∧(if (y7)=true then G (((.tup [(.pv (.int .i64 0)),(.pv (.str [])),(.pv (.bool false))]),([(.box [(.pv (.str s)),(.pv (.int .i64 (bB s (Y5 42 s (bB s n)))))])],[])))else((YI [(.ptr 0 0),(.pv (.bool true))] [(.box [(.pv (.str s)),(.pv (.int .i64 (bB s (Y5 42 s (bB s n)))))])])=true∧(∃ y8:Bool,AV.pv (Zk (fun(x:Str×Unit)=>Zr x.1) [(.str (QW true s (bB s (Y5 42 s (bB s n)))))])=AV.pv (enc y8)∧(G (((.tup [(.pv (.int .i64 k)),(.pv (.str (QW true s (bB s (Y5 42 s (bB s n)))))),(.pv (.bool y8))]),([(.box [(.pv (.str s)),(.pv (.int .i64 (Ba true s (bB s (Y5 42 s (bB s n))))))])],[])))))))))else((YI [(.ptr 0 0),(.pv (.bool true))] [(.box [(.pv (.str s)),(.pv (.int .i64 (bB s (Y5 42 s (bB s n)))))])])=true∧(∃ y9:Bool,AV.pv (Zk (fun(x:Str×Unit)=>Zr x.1) [(.str (QW true s (bB s (Y5 42 s (bB s n)))))])=AV.pv (enc y9)∧(G (((.tup [(.pv (.int .i64 k)),(.pv (.str (QW true s (bB s (Y5 42 s (bB s n)))))),(.pv (.bool y9))]),([(.box [(.pv (.str s)),(.pv (.int .i64 (Ba true s (bB s (Y5 42 s (bB s n))))))])],[])))))))))))))):At Vg 1 (Zd 1 Wq G) Wd 0 132 [(0,.ptr 0 0),(5,.pv (.str d)),(6,.pv (.int .i64 k)),(7,.pv (.int .i64 i))] [.obj (.box [.pv (.str s),.pv (.int .i64 n)])]:=At.to (.lit (.ask (.lit (.req (.lit (.lit (.lit (.nil)))))) (.lit (.ask (.req (.keep (.lit (.abs (Bool) (fun YY=>AV.pv (enc YY)) (.nil))))) (.lit (.ask (.lit (.lit (.lit (.lit (.lit (.lit (.lit (.lit (.req (.lit (.req (.abs (Bool) (fun YY=>AV.pv (enc YY)) (.lit (.ask (.lit (.lit (.lit (.lit (.lit (.lit (.lit (.lit (.lit (.lit (.lit (.lit (.lit (.req (.keep (.lit (.abs (Bool) (fun YY=>AV.pv (enc YY)) (.nil)))))))))))))))))) (.lit (.lit (.lit (.lit (.lit (.lit (.lit (.lit (.req (.lit (.lit (.lit (.lit (.lit (.ask (.req (.keep (.lit (.abs (Bool) (fun YY=>AV.pv (enc YY)) (.nil))))) (.req (.keep (.req (.keep (.ask (.nil) (.req (.keep (.lit (.ask (.lit (.lit (.lit (.lit (.lit (.lit (.lit (.lit (.req (.lit (.req (.abs (Bool) (fun YY=>AV.pv (enc YY)) (.lit (.ask (.nil) (.req (.keep (.lit (.abs (Bool) (fun YY=>AV.pv (enc YY)) (.nil))))))))))))))))))) (.lit (.lit (.lit (.lit (.lit (.lit (.lit (.lit (.lit (.lit (.lit (.req (.keep (.lit (.abs (Bool) (fun YY=>AV.pv (enc YY)) (.nil)))))))))))))))))))))))))))))))))))))))))))))))))))))) (.lit (.lit (.lit (.lit (.lit (.lit (.lit (.lit (.lit (.lit (.lit (.lit (.lit (.req (.keep (.req (.keep (.ask (.nil) (.req (.keep (.lit (.ask (.lit (.lit (.lit (.lit (.lit (.lit (.lit (.lit (.req (.lit (.req (.abs (Bool) (fun YY=>AV.pv (enc YY)) (.lit (.ask (.nil) (.req (.keep (.lit (.abs (Bool) (fun YY=>AV.pv (enc YY)) (.nil))))))))))))))))))) (.lit (.lit (.lit (.lit (.lit (.lit (.lit (.lit (.lit (.lit (.lit (.req (.keep (.lit (.abs (Bool) (fun YY=>AV.pv (enc YY)) (.nil)))))))))))))))))))))))))))))))))))))))))))) h (by kernel_rfl)
def Yb:IC:=(.seq (.reg [⟨(some 2),(.alloc (.agg [(.int .i64 0),(.sl 0 true [])])),0,none⟩,⟨(some 3),(.mv (.c (.int .i64 0))),1,none⟩] none) (.seq (.reg [⟨(some 10),(.mv (.t 0)),0,none⟩,⟨(some 11),(.build [(.str []),(.int .i64 0)] [(0,(1,(.t 10)))]),0,none⟩,⟨(some 12),(.box 2 (.t 11)),0,none⟩,⟨(some 4),(.mv (.t 12)),1,none⟩] none) (.seq (.reg [⟨(some 5),(.alloc (.agg [(.int .i64 0),(.sl 0 true [])])),0,none⟩] none) (.seq (.reg [⟨(some 13),(.mv (.t 4)),0,none⟩,⟨(some 14),(.call (.c (.fn 86)) [(.t 13)]),0,none⟩] none) (.seq (.reg [⟨(some 6),(.mv (.c (.int .i64 1))),0,none⟩] none) (.seq (.seq (.reg [⟨(some 15),(.mv (.t 4)),0,none⟩,⟨(some 16),(.call (.c (.fn 87)) [(.t 15),(.c (.int .u8 45))]),0,none⟩] none) (.cond (.t 16) (.reg [⟨(some 6),(.mv (.c (.int .i64 (-1)))),0,none⟩] none) (.reg [⟨(some 17),(.mv (.t 4)),0,none⟩,⟨(some 18),(.call (.c (.fn 87)) [(.t 17),(.c (.int .u8 43))]),0,none⟩] none))) (.block 0 (.loop [4,2,5,6] (.block 1 (.seq (.reg [⟨(some 19),(.mv (.t 4)),0,none⟩,⟨(some 20),(.call (.c (.fn 86)) [(.t 19)]),0,none⟩] none) (.seq (.reg [⟨(some 22),(.mv (.t 4)),0,none⟩,⟨(some 23),(.call (.c (.fn 88)) [(.t 22)]),0,none⟩,⟨(some 21),(.mv (.t 23)),2,none⟩,⟨(some 24),(.extract (.t 21) 0),2,none⟩,⟨(some 25),(.extract (.t 21) 1),2,none⟩,⟨(some 26),(.extract (.t 21) 2),2,none⟩,⟨(some 7),(.mv (.t 24)),2,none⟩,⟨(some 8),(.mv (.t 25)),2,none⟩,⟨(some 9),(.mv (.t 26)),2,none⟩] none) (.seq (.seq (.reg [⟨(some 27),(.mv (.t 9)),0,none⟩,⟨(some 28),(.un .not (.t 27)),0,none⟩] none) (.cond (.t 28) (.seq (.reg [⟨(some 29),(.build [(.int .i64 0),(.sl 0 true [])] []),0,none⟩,⟨none,(.store 2 (.t 2) (.t 29)),0,none⟩,⟨(some 3),(.mv (.c (.int .i64 6))),0,none⟩] none) .ret) .skip)) (.seq (.seq (.reg [⟨(some 30),(.mv (.t 8)),0,none⟩,⟨(some 31),(.bin .num .eql (.t 30) (.c (.str []))),0,none⟩] none) (.cond (.t 31) (.reg [⟨(some 32),(.faddr 0 (.t 5)),0,none⟩,⟨(some 33),(.load false [(.int .i64)] (.t 32)),0,none⟩,⟨(some 34),(.mv (.t 6)),0,none⟩,⟨(some 35),(.mv (.t 7)),0,none⟩,⟨(some 36),(.bin .num .mul (.t 34) (.t 35)),0,none⟩,⟨(some 37),(.bin .num .add (.t 33) (.t 36)),0,none⟩,⟨(some 38),(.faddr 0 (.t 5)),0,none⟩,⟨none,(.store 1 (.t 38) (.t 37)),0,none⟩] none) (.reg [⟨(some 39),(.load true [(.int .i64),(.sl 2)] (.t 5)),0,none⟩,⟨(some 40),(.mv (.t 8)),0,none⟩,⟨(some 41),(.mv (.t 6)),0,none⟩,⟨(some 42),(.mv (.t 7)),0,none⟩,⟨(some 43),(.bin .num .mul (.t 41) (.t 42)),0,none⟩,⟨(some 44),(.call (.c (.fn 89)) [(.t 39),(.t 40),(.t 43)]),0,none⟩,⟨none,(.store 2 (.t 5) (.t 44)),2,none⟩] none))) (.seq (.reg [⟨(some 45),(.mv (.t 4)),0,none⟩,⟨(some 46),(.call (.c (.fn 86)) [(.t 45)]),0,none⟩] none) (.block 2 (.seq (.reg [⟨(some 49),(.mv (.t 4)),0,none⟩,⟨(some 50),(.nilchk (.t 49)),0,none⟩,⟨(some 51),(.faddr 1 (.t 50)),0,none⟩,⟨(some 52),(.load false [(.int .i64)] (.t 51)),0,none⟩,⟨(some 53),(.mv (.t 4)),0,none⟩,⟨(some 54),(.nilchk (.t 53)),0,none⟩,⟨(some 55),(.faddr 0 (.t 54)),0,none⟩,⟨(some 56),(.load false [.str] (.t 55)),0,none⟩,⟨(some 57),(.len 0 (.t 56)),0,none⟩,⟨(some 58),(.bin .num .eql (.t 52) (.t 57)),0,none⟩,⟨(some 48),(.mv (.t 58)),0,none⟩] (some [[],[0],[1,0],[2,1,0],[],[4],[5,4],[6,5,4],[7,6,5,4],[3,8,2,1,0,7,6,5,4],[9,3,8,2,1,0,7,6,5,4]])) (.cond (.t 48) (.seq (.reg [⟨(some 59),(.load true [(.int .i64),(.sl 2)] (.t 5)),0,none⟩,⟨(some 60),(.call (.c (.fn 90)) [(.t 59)]),0,none⟩,⟨(some 61),(.extract (.t 60) 0),2,none⟩,⟨(some 62),(.extract (.t 60) 1),2,none⟩,⟨none,(.store 2 (.t 2) (.t 61)),2,none⟩,⟨(some 3),(.mv (.t 62)),2,none⟩] none) .ret) (.seq (.reg [⟨(some 64),(.mv (.t 4)),0,none⟩,⟨(some 65),(.call (.c (.fn 87)) [(.t 64),(.c (.int .u8 45))]),0,none⟩,⟨(some 63),(.mv (.t 65)),2,none⟩] none) (.cond (.t 63) (.reg [⟨(some 6),(.mv (.c (.int .i64 (-1)))),0,none⟩] none) (.seq (.reg [⟨(some 67),(.mv (.t 4)),0,none⟩,⟨(some 68),(.call (.c (.fn 87)) [(.t 67),(.c (.int .u8 43))]),0,none⟩,⟨(some 66),(.mv (.t 68)),2,none⟩] none) (.cond (.t 66) (.reg [⟨(some 6),(.mv (.c (.int .i64 1))),0,none⟩] none) (.seq (.reg [⟨(some 47),(.build [(.int .i64 0),(.sl 0 true [])] []),0,none⟩,⟨none,(.store 2 (.t 2) (.t 47)),0,none⟩,⟨(some 3),(.mv (.c (.int .i64 6))),0,none⟩] none) .ret))))))))))))))))))))))
def Ya:List IRes:=[(.cell true 2 2),(.tmp 3)]
abbrev CE:Nat:=69
def Yq:ZJ:=WI [(86,.own Yc VN),(87,.own YA J7),(88,.own Yc Qz),(89,.pure (preT (fun x:Lin×Str×Int×Unit=>decide (x.1.t.length<=1000000))) (Zk (fun x:Lin×Str×Int×Unit=>Wn x.1 x.2.1 x.2.2.1))),(90,.pure (preT (fun x:Lin×Unit=>Zz x.1)) (Zk (fun x:Lin×Unit=>VK x.1)))]
theorem Ec{G:PV->Prop}(s:List UInt8)(h:(Yc [(.ptr 0 0)] [(.box [(.pv (.str s)),(.pv (.int .i64 0))])])=true∧((YA [(.ptr 0 0),(.pv (.int IntKind.u8 45))] [(.box [(.pv (.str s)),(.pv (.int .i64 (bB s 0)))])])=true∧(if (HZ 45 s (bB s 0))=true then At Yq 0 (Ze Ya G) Yb 0 69 [(2,(.ptr 0 0)),(4,(.ptr 1 0)),(5,(.ptr 2 0)),(6,(.pv (.int .i64 (-1))))] [(.obj (.box [(.pv (.int .i64 0)),(.pv (.sl 0 true []))])),(.obj (.box [(.pv (.str s)),(.pv (.int .i64 (Y5 45 s (bB s 0))))])),(.obj (.box [(.pv (.int .i64 0)),(.pv (.sl 0 true []))]))]else((YA [(.ptr 0 0),(.pv (.int IntKind.u8 43))] [(.box [(.pv (.str s)),(.pv (.int .i64 (Y5 45 s (bB s 0))))])])=true∧(At Yq 0 (Ze Ya G) Yb 0 69 [(2,(.ptr 0 0)),(4,(.ptr 1 0)),(5,(.ptr 2 0)),(6,(.pv (.int .i64 1)))] [(.obj (.box [(.pv (.int .i64 0)),(.pv (.sl 0 true []))])),(.obj (.box [(.pv (.str s)),(.pv (.int .i64 (Y5 43 s (Y5 45 s (bB s 0)))))])),(.obj (.box [(.pv (.int .i64 0)),(.pv (.sl 0 true []))]))]))))):Zi Yq 0 (Ze Ya G) Yb [] (Xz 69 [.str s]):=Zi.tp (.req (.keep (.req (.keep (.ask (.nil) (.req (.keep (.nil)))))))) h (by kernel_rfl)
theorem Fe{G:PV->Prop}(s:List UInt8)(n:Int)(k:Int)(p:PV)(g:Int)(h:(Yc [(.ptr 0 0)] [(.box [(.pv (.str s)),(.pv (.int .i64 n))])])=true∧((Yc [(.ptr 0 0)] [(.box [(.pv (.str s)),(.pv (.int .i64 (bB s n)))])])=true∧(if (!itO s (bB s n))=true then G ((.tup [(.agg [(.int .i64 0),(.sl 0 true [])]),(.int .i64 6)]))else(if (itV s (bB s n)==[])=true then(Yc [(.ptr 0 0)] [(.box [(.pv (.str s)),(.pv (.int .i64 (Av s (bB s n))))])])=true∧(if (bB s (Av s (bB s n))==(↑(List.length s):Int))=true then(Go.Pl.preT (fun(x:Lin×Unit)=>Zz x.1) [(.agg [(.int .i64 (IntKind.wrap IntKind.i64 (k+IntKind.wrap IntKind.i64 (g*itK s (bB s n))))),p])])=true∧(∃ y0:Lin×Int,AV.pv (Zk (fun(x:Lin×Unit)=>VK x.1) [(.agg [(.int .i64 (IntKind.wrap IntKind.i64 (k+IntKind.wrap IntKind.i64 (g*itK s (bB s n))))),p])])=AV.pv (enc y0)∧(G ((.tup [(.agg [(.int .i64 y0.1.k),(.sl 2 false (List.map enc y0.1.t))]),(.int .i64 y0.2)]))))else((YA [(.ptr 0 0),(.pv (.int IntKind.u8 45))] [(.box [(.pv (.str s)),(.pv (.int .i64 (bB s (Av s (bB s n)))))])])=true∧(if (HZ 45 s (bB s (Av s (bB s n))))=true then At Yq 0 (Ze Ya G) Yb 0 69 [(2,(.ptr 0 0)),(4,(.ptr 1 0)),(5,(.ptr 2 0)),(6,(.pv (.int .i64 (-1))))] [(.obj (.box [(.pv (.int .i64 0)),(.pv (.sl 0 true []))])),(.obj (.box [(.pv (.str s)),(.pv (.int .i64 (Y5 45 s (bB s (Av s (bB s n))))))])),(.obj (.box [(.pv (.int .i64 (IntKind.wrap IntKind.i64 (k+IntKind.wrap IntKind.i64 (g*itK s (bB s n)))))),(.pv p)]))]else((YA [(.ptr 0 0),(.pv (.int IntKind.u8 43))] [(.box [(.pv (.str s)),(.pv (.int .i64 (Y5 45 s (bB s (Av s (bB s n))))))])])=true∧(if (HZ 43 s (Y5 45 s (bB s (Av s (bB s n)))))=true then At Yq 0 (Ze Ya G) Yb 0 69 [(2,(.ptr 0 0)),(4,(.ptr 1 0)),(5,(.ptr 2 0)),(6,(.pv (.int .i64 1)))] [(.obj (.box [(.pv (.int .i64 0)),(.pv (.sl 0 true []))])),(.obj (.box [(.pv (.str s)),(.pv (.int .i64 (Y5 43 s (Y5 45 s (bB s (Av s (bB s n)))))))])),(.obj (.box [(.pv (.int .i64 (IntKind.wrap IntKind.i64 (k+IntKind.wrap IntKind.i64 (g*itK s (bB s n)))))),(.pv p)]))]else(G ((.tup [(.agg [(.int .i64 0),(.sl 0 true [])]),(.int .i64 6)]))))))))else((Go.Pl.preT (fun(x:Lin×Str×Int×Unit)=>decide (List.length x.1.t<=1000000)) [(.agg [(.int .i64 k),p]),(.str (itV s (bB s n))),(.int .i64 (IntKind.wrap IntKind.i64 (g*itK s (bB s n))))])=true∧(∃ y1:Lin,AV.pv (Zk (fun(x:Lin×Str×Int×Unit)=>Wn x.1 x.2.1 x.2.2.1) [(.agg [(.int .i64 k),p]),(.str (itV s (bB s n))),(.int .i64 (IntKind.wrap IntKind.i64 (g*itK s (bB s n))))])=AV.pv (enc y1)∧((Yc [(.ptr 0 0)] [(.box [(.pv (.str s)),(.pv (.int .i64 (Av s (bB s n))))])])=true∧(if (bB s (Av s (bB s n))==(↑(List.length s):Int))=true then(Go.Pl.preT (fun(x:Lin×Unit)=>Zz x.1) [(.agg [(.int .i64 y1.k),(.sl 2 false (List.map enc y1.t))])])=true∧(∃ y2:Lin×Int,AV.pv (Zk (fun(x:Lin×Unit)=>VK x.1) [(.agg [(.int .i64 y1.k),(.sl 2 false (List.map enc y1.t))])])=AV.pv (enc y2)∧(G ((.tup [(.agg [(.int .i64 y2.1.k),(.sl 2 false (List.map enc y2.1.t))]),(.int .i64 y2.2)]))))else((YA [(.ptr 0 0),(.pv (.int IntKind.u8 45))] [(.box [(.pv (.str s)),(.pv (.int .i64 (bB s (Av s (bB s n)))))])])=true∧(if (HZ 45 s (bB s (Av s (bB s n))))=true then At Yq 0 (Ze Ya G) Yb 0 69 [(2,(.ptr 0 0)),(4,(.ptr 1 0)),(5,(.ptr 2 0)),(6,(.pv (.int .i64 (-1))))] [(.obj (.box [(.pv (.int .i64 0)),(.pv (.sl 0 true []))])),(.obj (.box [(.pv (.str s)),(.pv (.int .i64 (Y5 45 s (bB s (Av s (bB s n))))))])),(.obj (.box [(.pv (.int .i64 y1.k)),(.pv (.sl 2 false (List.map enc y1.t)))]))]else((YA [(.ptr 0 0),(.pv (.int IntKind.u8 43))] [(.box [(.pv (.str s)),(.pv (.int .i64 (Y5 45 s (bB s (Av s (bB s n))))))])])=true∧(if (HZ 43 s (Y5 45 s (bB s (Av s (bB s n)))))=true then At Yq 0 (Ze Ya G) Yb 0 69 [(2,(.ptr 0 0)),(4,(.ptr 1 0)),(5,(.ptr 2 0)),(6,(.pv (.int .i64 1)))] [(.obj (.box [(.pv (.int .i64 0)),(.pv (.sl 0 true []))])),(.obj (.box [(.pv (.str s)),(.pv (.int .i64 (Y5 43 s (Y5 45 s (bB s (Av s (bB s n)))))))])),(.obj (.box [(.pv (.int .i64 y1.k)),(.pv (.sl 2 false (List.map enc y1.t)))]))]else(G ((.tup [(.agg [(.int .i64 0),(.sl 0 true [])]),(.int .i64 6)]))))))))))))))):At Yq 0 (Ze Ya G) Yb 0 69 [(2,.ptr 0 0),(4,.ptr 1 0),(5,.ptr 2 0),(6,.pv (.int .i64 g))] [.obj (.box [.pv (.int .i64 0),.pv (.sl 0 true [])]),.obj (.box [.pv (.str s),.pv (.int .i64 n)]),.obj (.box [.pv (.int .i64 k),.pv p])]:=At.tp (.req (.keep (.req (.keep (.ask (.nil) (.lit (.ask (.lit (.lit (.req (.keep (.lit (.ask (.req (.abs (Lin×Int) (fun YY=>AV.pv (enc YY)) (.nil))) (.req (.keep (.ask (.nil) (.req (.keep (.ask (.nil) (.nil))))))))))))) (.lit (.req (.abs (Lin) (fun YY=>AV.pv (enc YY)) (.req (.keep (.lit (.ask (.req (.abs (Lin×Int) (fun YY=>AV.pv (enc YY)) (.nil))) (.req (.keep (.ask (.nil) (.req (.keep (.ask (.nil) (.nil))))))))))))))))))))) h (by kernel_rfl)
def Yn:IC:=(.seq (.reg [⟨(some 1),(.box 2 (.t 0)),0,none⟩,⟨(some 2),(.mv (.c (.str []))),1,none⟩] none) (.seq (.seq (.reg [⟨(some 6),(.load true [(.int .i64),(.sl 2)] (.t 1)),0,none⟩,⟨(some 7),(.call (.c (.fn 20)) [(.t 6)]),0,none⟩,⟨(some 8),(.un .not (.t 7)),2,none⟩] none) (.cond (.t 8) (.seq (.reg [⟨(some 2),(.mv (.c (.str []))),0,none⟩] none) .ret) .skip)) (.seq (.reg [⟨(some 3),(.mv (.c (.str []))),0,none⟩] none) (.seq (.seq (.reg [⟨(some 4),(.mv (.c (.int .i64 0))),0,none⟩] none) (.block 0 (.loop [4,1,3] (.seq (.seq (.reg [⟨(some 9),(.mv (.t 4)),0,none⟩,⟨(some 10),(.faddr 1 (.t 1)),0,none⟩,⟨(some 11),(.load false [(.sl 2)] (.t 10)),0,none⟩,⟨(some 12),(.len 1 (.t 11)),0,none⟩,⟨(some 13),(.bin .num .lss (.t 9) (.t 12)),0,none⟩] none) (.cond (.t 13) .skip (.exit 0))) (.seq (.block 1 (.seq (.reg [⟨(some 16),(.faddr 1 (.t 1)),0,none⟩,⟨(some 17),(.load false [(.sl 2)] (.t 16)),0,none⟩,⟨(some 18),(.mv (.t 4)),0,none⟩,⟨(some 19),(.iaddr 2 (.t 17) (.t 18)),0,none⟩,⟨(some 20),(.load true [.str,(.int .i64)] (.t 19)),0,none⟩,⟨(some 5),(.alloc (.agg [(.str []),(.int .i64 0)])),0,none⟩,⟨none,(.store 2 (.t 5) (.t 20)),1,none⟩] none) (.seq (.block 2 (.seq (.reg [⟨(some 22),(.faddr 1 (.t 5)),0,none⟩,⟨(some 23),(.load false [(.int .i64)] (.t 22)),0,none⟩,⟨(some 24),(.bin .num .lss (.t 23) (.c (.int .i64 0))),0,none⟩,⟨(some 21),(.mv (.t 24)),0,none⟩] none) (.cond (.t 21) (.seq (.reg [⟨(some 25),(.mv (.t 3)),0,none⟩,⟨(some 26),(.bin .num .add (.t 25) (.c (.str [45]))),0,none⟩,⟨(some 3),(.mv (.t 26)),0,none⟩] none) (.reg [⟨(some 27),(.faddr 1 (.t 5)),0,none⟩,⟨(some 28),(.load false [(.int .i64)] (.t 27)),0,none⟩,⟨(some 29),(.un .neg (.t 28)),0,none⟩,⟨(some 30),(.faddr 1 (.t 5)),0,none⟩,⟨none,(.store 1 (.t 30) (.t 29)),0,none⟩] none)) (.seq (.reg [⟨(some 32),(.mv (.t 4)),0,none⟩,⟨(some 33),(.bin .num .gtr (.t 32) (.c (.int .i64 0))),0,none⟩,⟨(some 31),(.mv (.t 33)),0,none⟩] none) (.cond (.t 31) (.reg [⟨(some 34),(.mv (.t 3)),0,none⟩,⟨(some 35),(.bin .num .add (.t 34) (.c (.str [43]))),0,none⟩,⟨(some 3),(.mv (.t 35)),0,none⟩] none) .skip))))) (.seq (.seq (.reg [⟨(some 36),(.faddr 1 (.t 5)),0,none⟩,⟨(some 37),(.load false [(.int .i64)] (.t 36)),0,none⟩,⟨(some 38),(.bin .num .gtr (.t 37) (.c (.int .i64 1))),0,none⟩] none) (.cond (.t 38) (.reg [⟨(some 39),(.mv (.t 3)),0,none⟩,⟨(some 40),(.faddr 1 (.t 5)),0,none⟩,⟨(some 41),(.load false [(.int .i64)] (.t 40)),0,none⟩,⟨(some 42),(.call (.c (.fn 78)) [(.t 41)]),0,none⟩,⟨(some 43),(.bin .num .add (.t 39) (.t 42)),2,none⟩,⟨(some 3),(.mv (.t 43)),2,none⟩] none) .skip)) (.reg [⟨(some 44),(.mv (.t 3)),0,none⟩,⟨(some 45),(.faddr 0 (.t 5)),0,none⟩,⟨(some 46),(.load false [.str] (.t 45)),0,none⟩,⟨(some 47),(.bin .num .add (.t 44) (.t 46)),0,none⟩,⟨(some 3),(.mv (.t 47)),0,none⟩] none))))) (.reg [⟨(some 14),(.mv (.t 4)),0,none⟩,⟨(some 15),(.bin .num .add (.t 14) (.c (.int .i64 1))),0,none⟩,⟨(some 4),(.mv (.t 15)),0,none⟩] none)))))) (.seq (.seq (.reg [⟨(some 48),(.faddr 1 (.t 1)),0,none⟩,⟨(some 49),(.load false [(.sl 2)] (.t 48)),0,none⟩,⟨(some 50),(.len 1 (.t 49)),0,none⟩,⟨(some 51),(.bin .num .eql (.t 50) (.c (.int .i64 0))),0,none⟩] none) (.cond (.t 51) (.seq (.reg [⟨(some 52),(.faddr 0 (.t 1)),0,none⟩,⟨(some 53),(.load false [(.int .i64)] (.t 52)),0,none⟩,⟨(some 54),(.call (.c (.fn 78)) [(.t 53)]),0,none⟩,⟨(some 2),(.mv (.t 54)),2,none⟩] none) .ret) .skip)) (.seq (.seq (.reg [⟨(some 55),(.faddr 0 (.t 1)),0,none⟩,⟨(some 56),(.load false [(.int .i64)] (.t 55)),0,none⟩,⟨(some 57),(.bin .num .gtr (.t 56) (.c (.int .i64 0))),0,none⟩] none) (.cond (.t 57) (.reg [⟨(some 58),(.mv (.t 3)),0,none⟩,⟨(some 59),(.bin .num .add (.t 58) (.c (.str [43]))),0,none⟩,⟨(some 3),(.mv (.t 59)),0,none⟩] none) .skip)) (.seq (.seq (.reg [⟨(some 60),(.faddr 0 (.t 1)),0,none⟩,⟨(some 61),(.load false [(.int .i64)] (.t 60)),0,none⟩,⟨(some 62),(.bin .num .neq (.t 61) (.c (.int .i64 0))),0,none⟩] none) (.cond (.t 62) (.reg [⟨(some 63),(.mv (.t 3)),0,none⟩,⟨(some 64),(.faddr 0 (.t 1)),0,none⟩,⟨(some 65),(.load false [(.int .i64)] (.t 64)),0,none⟩,⟨(some 66),(.call (.c (.fn 78)) [(.t 65)]),0,none⟩,⟨(some 67),(.bin .num .add (.t 63) (.t 66)),2,none⟩,⟨(some 3),(.mv (.t 67)),2,none⟩] none) .skip)) (.seq (.reg [⟨(some 68),(.mv (.t 3)),0,none⟩,⟨(some 2),(.mv (.t 68)),0,none⟩] none) .ret))))))))
def Yo:List IRes:=[(.tmp 2)]
abbrev Lh:Nat:=69
def YW:ZJ:=WI [(20,.pure (preT (fun x:Lin×Unit=>Zz x.1)) (Zk (fun x:Lin×Unit=>Zh x.1))),(78,.pure (preT (fun x:Int×Unit=>decide (-1000000000<=x.1)&&decide (x.1<=1000000000))) (Zk (fun x:Int×Unit=>ZC x.1)))]
theorem Es{G:PV->Prop}(l:Lin)(h:(Go.Pl.preT (fun(x:Lin×Unit)=>Zz x.1) [(.agg [(.int .i64 l.k),(.sl 2 false (List.map enc l.t))])])=true∧(∃ y0:Bool,AV.pv (Zk (fun(x:Lin×Unit)=>Zh x.1) [(.agg [(.int .i64 l.k),(.sl 2 false (List.map enc l.t))])])=AV.pv (enc y0)∧(if (!y0)=true then G ((.str []))else(At YW 0 (Ze Yo G) Yn 0 69 [(1,(.ptr 0 0)),(3,(.pv (.str []))),(4,(.pv (.int .i64 0)))] [(.obj (.box [(.pv (.int .i64 l.k)),(.pv (.sl 2 false (List.map enc l.t)))]))])))):Zi YW 0 (Ze Yo G) Yn [] (Xz 69 [enc l]):=Zi.tp (.req (.abs (Bool) (fun YY=>AV.pv (enc YY)) (.ask (.nil) (.nil)))) h (by kernel_rfl)
theorem Ck{G:PV->Prop}(l:Lin)(o:List UInt8)(i:Int)(h:if (decide (i<(↑(List.length (List.map enc l.t)):Int)))=true then(decide (0<=i)&&decide (Int.toNat i<List.length (List.map enc l.t))&&Enc.sz Coef==2)=true∧(∃ y0:Coef,AV.pv (PV.rptr (PV.cells (List.getD (List.map enc l.t) (Int.toNat i) default)))=AV.pv (PV.rptr (PV.cells ((enc) y0)))∧(if (decide (PV.asInt (List.getD (PV.cells (enc y0)) (0+1) default)<0))=true then(decide (List.length o+List.length [(45:UInt8)]<=1099511627776))=true∧(if (decide (IntKind.wrap IntKind.i64 (-PV.asInt (List.getD (PV.cells (enc y0)) (0+1) default))>1))=true then(Go.Pl.preT (fun(x:Int×Unit)=>decide ((-1000000000:Int)<=x.1)&&decide (x.1<=1000000000)) [(.int .i64 (IntKind.wrap IntKind.i64 (-PV.asInt (List.getD (PV.cells (enc y0)) (0+1) default))))])=true∧(∃ y1:Str,AV.pv (Zk (fun(x:Int×Unit)=>ZC x.1) [(.int .i64 (IntKind.wrap IntKind.i64 (-PV.asInt (List.getD (PV.cells (enc y0)) (0+1) default))))])=AV.pv (enc y1)∧((decide (List.length (o++[(45:UInt8)])+List.length (Str.s y1)<=1099511627776))=true∧((decide (List.length (o++[(45:UInt8)]++Str.s y1)+List.length (PV.asStr (List.getD (PV.cells (enc y0)) 0 default))<=1099511627776))=true∧(At YW 0 (Ze Yo G) Yn 0 69 [(1,(.ptr 0 0)),(3,(.pv (.str (o++[(45:UInt8)]++Str.s y1++PV.asStr (List.getD (PV.cells (enc y0)) 0 default))))),(4,(.pv (.int .i64 (IntKind.wrap IntKind.i64 (i+1)))))] [(.obj (.box [(.pv (.int .i64 l.k)),(.pv (.sl 2 false (List.map enc l.t)))]))]))))else((decide (List.length (o++[(45:UInt8)])+List.length (PV.asStr (List.getD (PV.cells (enc y0)) 0 default))<=1099511627776))=true∧(At YW 0 (Ze Yo G) Yn 0 69 [(1,(.ptr 0 0)),(3,(.pv (.str (o++[(45:UInt8)]++PV.asStr (List.getD (PV.cells (enc y0)) 0 default))))),(4,(.pv (.int .i64 (IntKind.wrap IntKind.i64 (i+1)))))] [(.obj (.box [(.pv (.int .i64 l.k)),(.pv (.sl 2 false (List.map enc l.t)))]))])))else(if (decide (i>0))=true then(decide (List.length o+List.length [(43:UInt8)]<=1099511627776))=true∧(if (decide (PV.asInt (List.getD (PV.cells (enc y0)) (0+1) default)>1))=true then(Go.Pl.preT (fun(x:Int×Unit)=>decide ((-1000000000:Int)<=x.1)&&decide (x.1<=1000000000)) [(.int .i64 (PV.asInt (List.getD (PV.cells (enc y0)) (0+1) default)))])=true∧(∃ y2:Str,AV.pv (Zk (fun(x:Int×Unit)=>ZC x.1) [(.int .i64 (PV.asInt (List.getD (PV.cells (enc y0)) (0+1) default)))])=AV.pv (enc y2)∧((decide (List.length (o++[(43:UInt8)])+List.length (Str.s y2)<=1099511627776))=true∧((decide (List.length (o++[(43:UInt8)]++Str.s y2)+List.length (PV.asStr (List.getD (PV.cells (enc y0)) 0 default))<=1099511627776))=true∧(At YW 0 (Ze Yo G) Yn 0 69 [(1,(.ptr 0 0)),(3,(.pv (.str (o++[(43:UInt8)]++Str.s y2++PV.asStr (List.getD (PV.cells (enc y0)) 0 default))))),(4,(.pv (.int .i64 (IntKind.wrap IntKind.i64 (i+1)))))] [(.obj (.box [(.pv (.int .i64 l.k)),(.pv (.sl 2 false (List.map enc l.t)))]))]))))else((decide (List.length (o++[(43:UInt8)])+List.length (PV.asStr (List.getD (PV.cells (enc y0)) 0 default))<=1099511627776))=true∧(At YW 0 (Ze Yo G) Yn 0 69 [(1,(.ptr 0 0)),(3,(.pv (.str (o++[(43:UInt8)]++PV.asStr (List.getD (PV.cells (enc y0)) 0 default))))),(4,(.pv (.int .i64 (IntKind.wrap IntKind.i64 (i+1)))))] [(.obj (.box [(.pv (.int .i64 l.k)),(.pv (.sl 2 false (List.map enc l.t)))]))])))else(if (decide (PV.asInt (List.getD (PV.cells (enc y0)) (0+1) default)>1))=true then(Go.Pl.preT (fun(x:Int×Unit)=>decide ((-1000000000:Int)<=x.1)&&decide (x.1<=1000000000)) [(.int .i64 (PV.asInt (List.getD (PV.cells (enc y0)) (0+1) default)))])=true∧(∃ y3:Str,AV.pv (Zk (fun(x:Int×Unit)=>ZC x.1) [(.int .i64 (PV.asInt (List.getD (PV.cells (enc y0)) (0+1) default)))])=AV.pv (enc y3)∧((decide (List.length o+List.length (Str.s y3)<=1099511627776))=true∧((decide (List.length (o++Str.s y3)+List.length (PV.asStr (List.getD (PV.cells (enc y0)) 0 default))<=1099511627776))=true∧(At YW 0 (Ze Yo G) Yn 0 69 [(1,(.ptr 0 0)),(3,(.pv (.str (o++Str.s y3++PV.asStr (List.getD (PV.cells (enc y0)) 0 default))))),(4,(.pv (.int .i64 (IntKind.wrap IntKind.i64 (i+1)))))] [(.obj (.box [(.pv (.int .i64 l.k)),(.pv (.sl 2 false (List.map enc l.t)))]))]))))else((decide (List.length o+List.length (PV.asStr (List.getD (PV.cells (enc y0)) 0 default))<=1099511627776))=true∧(At YW 0 (Ze Yo G) Yn 0 69 [(1,(.ptr 0 0)),(3,(.pv (.str (o++PV.asStr (List.getD (PV.cells (enc y0)) 0 default))))),(4,(.pv (.int .i64 (IntKind.wrap IntKind.i64 (i+1)))))] [(.obj (.box [(.pv (.int .i64 l.k)),(.pv (.sl 2 false (List.map enc l.t)))]))]))))))else(if ((↑(List.length (List.map enc l.t)):Int)==0)=true then(Go.Pl.preT (fun(x:Int×Unit)=>decide ((-1000000000:Int)<=x.1)&&decide (x.1<=1000000000)) [(.int .i64 l.k)])=true∧(∃ y4:Str,AV.pv (Zk (fun(x:Int×Unit)=>ZC x.1) [(.int .i64 l.k)])=AV.pv (enc y4)∧(G ((.str (Str.s y4)))))else(if (decide (l.k>0))=true then(decide (List.length o+List.length [(43:UInt8)]<=1099511627776))=true∧(if (l.k != 0)=true then(Go.Pl.preT (fun(x:Int×Unit)=>decide ((-1000000000:Int)<=x.1)&&decide (x.1<=1000000000)) [(.int .i64 l.k)])=true∧(∃ y5:Str,AV.pv (Zk (fun(x:Int×Unit)=>ZC x.1) [(.int .i64 l.k)])=AV.pv (enc y5)∧((decide (List.length (o++[(43:UInt8)])+List.length (Str.s y5)<=1099511627776))=true∧(G ((.str (o++[(43:UInt8)]++Str.s y5))))))else(G ((.str (o++[(43:UInt8)])))))else(if (l.k != 0)=true then(Go.Pl.preT (fun(x:Int×Unit)=>decide ((-1000000000:Int)<=x.1)&&decide (x.1<=1000000000)) [(.int .i64 l.k)])=true∧(∃ y6:Str,AV.pv (Zk (fun(x:Int×Unit)=>ZC x.1) [(.int .i64 l.k)])=AV.pv (enc y6)∧((decide (List.length o+List.length (Str.s y6)<=1099511627776))=true∧(G ((.str (o++Str.s y6))))))else(G ((.str o))))))):At YW 0 (Ze Yo G) Yn 0 69 [(1,.ptr 0 0),(3,.pv (.str o)),(4,.pv (.int .i64 i))] [.obj (.box [.pv (.int .i64 l.k),.pv (enc l.t)])]:=At.tp (.lit (.ask (.req (.abs (Coef) (fun YY=>AV.pv (PV.rptr (PV.cells ((enc) YY)))) (.lit (.lit (.ask (.req (.lit (.ask (.req (.abs (Str) (fun YY=>AV.pv (enc YY)) (.req (.req (.lit (.nil)))))) (.req (.lit (.nil)))))) (.lit (.ask (.req (.lit (.ask (.req (.abs (Str) (fun YY=>AV.pv (enc YY)) (.req (.req (.lit (.nil)))))) (.req (.lit (.nil)))))) (.lit (.ask (.req (.abs (Str) (fun YY=>AV.pv (enc YY)) (.req (.req (.lit (.nil)))))) (.req (.lit (.nil)))))))))))) (.lit (.ask (.req (.abs (Str) (fun YY=>AV.pv (enc YY)) (.nil))) (.lit (.ask (.req (.lit (.ask (.req (.abs (Str) (fun YY=>AV.pv (enc YY)) (.req (.nil)))) (.nil)))) (.lit (.ask (.req (.abs (Str) (fun YY=>AV.pv (enc YY)) (.req (.nil)))) (.nil))))))))) h (by kernel_rfl)
def KJ:IC:=(.seq (.reg [⟨(some 2),(.box 2 (.t 0)),0,none⟩,⟨(some 4),(.mv (.c (.bool false))),1,none⟩] none) (.seq (.seq (.reg [⟨(some 14),(.call (.c (.fn 15)) []),0,none⟩,⟨(some 15),(.un .not (.t 14)),2,none⟩] none) (.cond (.t 15) (.seq (.reg [⟨(some 4),(.mv (.c (.bool false))),0,none⟩] none) .ret) .skip)) (.seq (.seq (.reg [⟨(some 16),(.load true [(.int .i64),(.sl 2)] (.t 2)),0,none⟩,⟨(some 17),(.call (.c (.fn 16)) [(.t 16),(.c (.int .i64 14))]),0,none⟩,⟨(some 18),(.un .not (.t 17)),2,none⟩,⟨(some 19),(.mv (.t 18)),2,none⟩,⟨(some 20),(.mv (.t 1)),2,(some (19,false))⟩,⟨(some 21),(.len 0 (.t 20)),2,(some (19,false))⟩,⟨(some 22),(.bin .num .gtr (.t 21) (.c (.int .i64 100))),2,(some (19,false))⟩,⟨(some 23),(.pick (.t 19) (.c (.bool true)) (.t 22)),2,none⟩] none) (.cond (.t 23) (.seq (.reg [⟨(some 4),(.mv (.c (.bool true))),0,none⟩] none) .ret) .skip)) (.seq (.reg [⟨(some 24),(.load true [(.int .i64),(.sl 2)] (.t 2)),0,none⟩,⟨(some 25),(.call (.c (.fn 17)) [(.t 24)]),0,none⟩,⟨(some 5),(.mv (.t 25)),2,none⟩] none) (.seq (.seq (.reg [⟨(some 26),(.mv (.t 5)),0,none⟩,⟨(some 27),(.load true [(.int .i64),(.sl 2)] (.t 2)),0,none⟩,⟨(some 28),(.call (.c (.fn 18)) [(.t 27)]),0,none⟩,⟨(some 29),(.bin .num .neq (.t 26) (.t 28)),2,none⟩] none) (.cond (.t 29) (.seq (.reg [⟨(some 4),(.mv (.c (.bool false))),0,none⟩] none) .ret) .skip)) (.seq (.seq (.reg [⟨(some 31),(.mv (.t 5)),0,none⟩,⟨(some 32),(.call (.c (.fn 19)) [(.t 31)]),0,none⟩,⟨(some 30),(.mv (.t 32)),2,none⟩,⟨(some 33),(.extract (.t 30) 0),2,none⟩,⟨(some 34),(.extract (.t 30) 1),2,none⟩,⟨(some 6),(.alloc (.agg [(.int .i64 0),(.sl 0 true [])])),2,none⟩,⟨none,(.store 2 (.t 6) (.t 33)),3,none⟩,⟨(some 7),(.mv (.t 34)),3,none⟩] none) (.seq (.reg [⟨(some 35),(.load true [(.int .i64),(.sl 2)] (.t 2)),0,none⟩,⟨(some 36),(.call (.c (.fn 20)) [(.t 35)]),0,none⟩,⟨(some 37),(.mv (.t 36)),2,none⟩,⟨(some 38),(.mv (.t 7)),2,(some (37,true))⟩,⟨(some 39),(.bin .num .neq (.t 38) (.c (.int .i64 0))),2,(some (37,true))⟩,⟨(some 40),(.mv (.t 39)),2,(some (37,true))⟩,⟨(some 41),(.load true [(.int .i64),(.sl 2)] (.t 6)),2,(some (40,false))⟩,⟨(some 42),(.load true [(.int .i64),(.sl 2)] (.t 2)),2,(some (40,false))⟩,⟨(some 43),(.call (.c (.fn 21)) [(.t 41),(.t 42)]),2,(some (40,false))⟩,⟨(some 44),(.un .not (.t 43)),4,(some (40,false))⟩,⟨(some 45),(.pick (.t 40) (.c (.bool true)) (.t 44)),4,(some (37,true))⟩,⟨(some 46),(.pick (.t 37) (.t 45) (.c (.bool false))),4,none⟩] none) (.cond (.t 46) (.seq (.reg [⟨(some 4),(.mv (.c (.bool false))),0,none⟩] none) .ret) .skip))) (.seq (.reg [⟨(some 48),(.mv (.t 1)),0,none⟩,⟨(some 49),(.call (.c (.fn 19)) [(.t 48)]),0,none⟩,⟨(some 47),(.mv (.t 49)),2,none⟩,⟨(some 50),(.extract (.t 47) 0),2,none⟩,⟨(some 51),(.extract (.t 47) 1),2,none⟩,⟨(some 8),(.alloc (.agg [(.int .i64 0),(.sl 0 true [])])),2,none⟩,⟨none,(.store 2 (.t 8) (.t 50)),3,none⟩,⟨(some 9),(.mv (.t 51)),3,none⟩] none) (.seq (.reg [⟨(some 53),(.mv (.t 1)),0,none⟩,⟨(some 54),(.call (.c (.fn 22)) [(.t 53)]),0,none⟩,⟨(some 52),(.mv (.t 54)),2,none⟩,⟨(some 55),(.extract (.t 52) 0),2,none⟩,⟨(some 56),(.extract (.t 52) 1),2,none⟩,⟨(some 10),(.alloc (.agg [(.int .i64 0),(.sl 0 true [])])),2,none⟩,⟨none,(.store 2 (.t 10) (.t 55)),3,none⟩,⟨(some 11),(.mv (.t 56)),3,none⟩] none) (.seq (.seq (.reg [⟨(some 57),(.load true [(.int .i64),(.sl 2)] (.t 8)),0,none⟩,⟨(some 58),(.load true [(.int .i64),(.sl 2)] (.t 10)),0,none⟩,⟨(some 59),(.call (.c (.fn 21)) [(.t 57),(.t 58)]),0,none⟩,⟨(some 60),(.un .not (.t 59)),2,none⟩,⟨(some 61),(.mv (.t 60)),2,none⟩,⟨(some 62),(.mv (.t 9)),2,(some (61,false))⟩,⟨(some 63),(.mv (.t 11)),2,(some (61,false))⟩,⟨(some 64),(.bin .num .neq (.t 62) (.t 63)),2,(some (61,false))⟩,⟨(some 65),(.pick (.t 61) (.c (.bool true)) (.t 64)),2,none⟩] none) (.cond (.t 65) (.seq (.reg [⟨(some 4),(.mv (.c (.bool false))),0,none⟩] none) .ret) .skip)) (.seq (.reg [⟨(some 67),(.load true [(.int .i64),(.sl 2)] (.t 8)),0,none⟩,⟨(some 68),(.call (.c (.fn 17)) [(.t 67)]),0,none⟩,⟨(some 69),(.call (.c (.fn 19)) [(.t 68)]),2,none⟩,⟨(some 66),(.mv (.t 69)),4,none⟩,⟨(some 70),(.extract (.t 66) 0),4,none⟩,⟨(some 71),(.extract (.t 66) 1),4,none⟩,⟨(some 12),(.alloc (.agg [(.int .i64 0),(.sl 0 true [])])),4,none⟩,⟨none,(.store 2 (.t 12) (.t 70)),5,none⟩,⟨(some 13),(.mv (.t 71)),5,none⟩] none) (.seq (.reg [⟨(some 72),(.mv (.t 9)),0,none⟩,⟨(some 73),(.bin .num .neq (.t 72) (.c (.int .i64 0))),0,none⟩,⟨(some 74),(.mv (.t 73)),0,none⟩,⟨(some 75),(.mv (.t 13)),0,(some (74,false))⟩,⟨(some 76),(.bin .num .eql (.t 75) (.c (.int .i64 0))),0,(some (74,false))⟩,⟨(some 77),(.mv (.t 76)),0,(some (74,false))⟩,⟨(some 78),(.load true [(.int .i64),(.sl 2)] (.t 12)),0,(some (77,true))⟩,⟨(some 79),(.load true [(.int .i64),(.sl 2)] (.t 8)),0,(some (77,true))⟩,⟨(some 80),(.call (.c (.fn 21)) [(.t 78),(.t 79)]),0,(some (77,true))⟩,⟨(some 81),(.pick (.t 77) (.t 80) (.c (.bool false))),2,(some (74,false))⟩,⟨(some 82),(.pick (.t 74) (.c (.bool true)) (.t 81)),2,none⟩,⟨(some 4),(.mv (.t 82)),2,none⟩] none) .ret)))))))))))
def KF:List IRes:=[(.tmp 4)]
abbrev Tx:Nat:=83
def Hu:ZJ:=WI [(15,.pure (preT (fun _:Unit=>true)) (Zk (fun _:Unit=>true))),(16,.pure (preT (fun x:Lin×Int×Unit=>Zz x.1)) (Zk (fun x:Lin×Int×Unit=>BV x.1 x.2.1))),(17,.pure (preT (fun x:Lin×Unit=>Zu x.1)) (Zk (fun x:Lin×Unit=>(⟨Zx x.1⟩:Str)))),(18,.pure (preT (fun x:Lin×Unit=>Zu x.1)) (Zk (fun x:Lin×Unit=>(⟨Zx x.1⟩:Str)))),(19,.pure (preT (fun x:Str×Unit=>decide (x.1.s.length<=400000))) (Zk (fun x:Str×Unit=>Zn x.1.s))),(20,.pure (preT (fun x:Lin×Unit=>Zz x.1)) (Zk (fun x:Lin×Unit=>Zh x.1))),(21,.pure (preT (fun x:Lin×Lin×Unit=>Zz x.1)) (Zk (fun x:Lin×Lin×Unit=>UC x.1 x.2.1==0))),(22,.pure (preT (fun x:Str×Unit=>decide (x.1.s.length<=400000))) (Zk (fun x:Str×Unit=>Zn x.1.s)))]
theorem a3e{G:PV->Prop}(l:Lin)(s:List UInt8)(h : ∃ y0:Bool,AV.pv (Zk (fun(x:Unit)=>true) [])=AV.pv (enc y0)∧(if (!y0)=true then G ((.bool false))else((Go.Pl.preT (fun(x:Lin×Int×Unit)=>Zz x.1) [(.agg [(.int .i64 l.k),(.sl 2 false (List.map enc l.t))]),(.int .i64 14)])=true∧(∃ y1:Bool,AV.pv (Zk (fun(x:Lin×Int×Unit)=>BV x.1 x.2.1) [(.agg [(.int .i64 l.k),(.sl 2 false (List.map enc l.t))]),(.int .i64 14)])=AV.pv (enc y1)∧(if (!y1)=true then G ((.bool true))else(if (decide ((↑(List.length s):Int)>100))=true then G ((.bool true))else((Go.Pl.preT (fun(x:Lin×Unit)=>Zu x.1) [(.agg [(.int .i64 l.k),(.sl 2 false (List.map enc l.t))])])=true∧(∃ y2:Str,AV.pv (Zk (fun(x:Lin×Unit)=>Str.mk (Zx x.1)) [(.agg [(.int .i64 l.k),(.sl 2 false (List.map enc l.t))])])=AV.pv (enc y2)∧((Go.Pl.preT (fun(x:Lin×Unit)=>Zu x.1) [(.agg [(.int .i64 l.k),(.sl 2 false (List.map enc l.t))])])=true∧(∃ y3:Str,AV.pv (Zk (fun(x:Lin×Unit)=>Str.mk (Zx x.1)) [(.agg [(.int .i64 l.k),(.sl 2 false (List.map enc l.t))])])=AV.pv (enc y3)∧(if (!Str.s y2==Str.s y3)=true then G ((.bool false))else((Go.Pl.preT (fun(x:Str×Unit)=>decide (List.length (Str.s x.1)<=400000)) [(.str (Str.s y2))])=true∧(∃ y4:Lin×Int,AV.pv (Zk (fun(x:Str×Unit)=>Zn (Str.s x.1)) [(.str (Str.s y2))])=AV.pv (enc y4)∧((Go.Pl.preT (fun(x:Lin×Unit)=>Zz x.1) [(.agg [(.int .i64 l.k),(.sl 2 false (List.map enc l.t))])])=true∧(∃ y5:Bool,AV.pv (Zk (fun(x:Lin×Unit)=>Zh x.1) [(.agg [(.int .i64 l.k),(.sl 2 false (List.map enc l.t))])])=AV.pv (enc y5)∧(if (y5)=true then if (y4.2 != 0)=true then G ((.bool false))else((Go.Pl.preT (fun(x:Lin×Lin×Unit)=>Zz x.1) [(.agg [(.int .i64 y4.1.k),(.sl 2 false (List.map enc y4.1.t))]),(.agg [(.int .i64 l.k),(.sl 2 false (List.map enc l.t))])])=true∧(∃ y6:Bool,AV.pv (Zk (fun(x:Lin×Lin×Unit)=>UC x.1 x.2.1==0) [(.agg [(.int .i64 y4.1.k),(.sl 2 false (List.map enc y4.1.t))]),(.agg [(.int .i64 l.k),(.sl 2 false (List.map enc l.t))])])=AV.pv (enc y6)∧(if (!y6)=true then G ((.bool false))else((Go.Pl.preT (fun(x:Str×Unit)=>decide (List.length (Str.s x.1)<=400000)) [(.str s)])=true∧(∃ y7:Lin×Int,AV.pv (Zk (fun(x:Str×Unit)=>Zn (Str.s x.1)) [(.str s)])=AV.pv (enc y7)∧((Go.Pl.preT (fun(x:Str×Unit)=>decide (List.length (Str.s x.1)<=400000)) [(.str s)])=true∧(∃ y8:Lin×Int,AV.pv (Zk (fun(x:Str×Unit)=>Zn (Str.s x.1)) [(.str s)])=AV.pv (enc y8)∧((Go.Pl.preT (fun(x:Lin×Lin×Unit)=>Zz x.1) [(.agg [(.int .i64 y7.1.k),(.sl 2 false (List.map enc y7.1.t))]),(.agg [(.int .i64 y8.1.k),(.sl 2 false (List.map enc y8.1.t))])])=true∧(∃ y9:Bool,AV.pv (Zk (fun(x:Lin×Lin×Unit)=>UC x.1 x.2.1==0) [(.agg [(.int .i64 y7.1.k),(.sl 2 false (List.map enc y7.1.t))]),(.agg [(.int .i64 y8.1.k),(.sl 2 false (List.map enc y8.1.t))])])=AV.pv (enc y9)∧(if (!y9)=true then G ((.bool false))else(if (y7.2 != y8.2)=true then G ((.bool false))else((Go.Pl.preT (fun(x:Lin×Unit)=>Zu x.1) [(.agg [(.int .i64 y7.1.k),(.sl 2 false (List.map enc y7.1.t))])])=true∧(∃ y10:Str,AV.pv (Zk (fun(x:Lin×Unit)=>Str.mk (Zx x.1)) [(.agg [(.int .i64 y7.1.k),(.sl 2 false (List.map enc y7.1.t))])])=AV.pv (enc y10)∧((Go.Pl.preT (fun(x:Str×Unit)=>decide (List.length (Str.s x.1)<=400000)) [(.str (Str.s y10))])=true∧(∃ y11:Lin×Int,AV.pv (Zk (fun(x:Str×Unit)=>Zn (Str.s x.1)) [(.str (Str.s y10))])=AV.pv (enc y11)∧(if (y7.2 != 0)=true then G ((.bool true))else(if (y11.2==0)=true then(Go.Pl.preT (fun(x:Lin×Lin×Unit)=>Zz x.1) [(.agg [(.int .i64 y11.1.k),(.sl 2 false (List.map enc y11.1.t))]),(.agg [(.int .i64 y7.1.k),(.sl 2 false (List.map enc y7.1.t))])])=true∧(∃ y12:Bool,AV.pv (Zk (fun(x:Lin×Lin×Unit)=>UC x.1 x.2.1==0) [(.agg [(.int .i64 y11.1.k),(.sl 2 false (List.map enc y11.1.t))]),(.agg [(.int .i64 y7.1.k),(.sl 2 false (List.map enc y7.1.t))])])=AV.pv (enc y12)∧(G ((.bool y12))))else(G ((.bool false))))))))))))))))))))else((Go.Pl.preT (fun(x:Str×Unit)=>decide (List.length (Str.s x.1)<=400000)) [(.str s)])=true∧(∃ y13:Lin×Int,AV.pv (Zk (fun(x:Str×Unit)=>Zn (Str.s x.1)) [(.str s)])=AV.pv (enc y13)∧((Go.Pl.preT (fun(x:Str×Unit)=>decide (List.length (Str.s x.1)<=400000)) [(.str s)])=true∧(∃ y14:Lin×Int,AV.pv (Zk (fun(x:Str×Unit)=>Zn (Str.s x.1)) [(.str s)])=AV.pv (enc y14)∧((Go.Pl.preT (fun(x:Lin×Lin×Unit)=>Zz x.1) [(.agg [(.int .i64 y13.1.k),(.sl 2 false (List.map enc y13.1.t))]),(.agg [(.int .i64 y14.1.k),(.sl 2 false (List.map enc y14.1.t))])])=true∧(∃ y15:Bool,AV.pv (Zk (fun(x:Lin×Lin×Unit)=>UC x.1 x.2.1==0) [(.agg [(.int .i64 y13.1.k),(.sl 2 false (List.map enc y13.1.t))]),(.agg [(.int .i64 y14.1.k),(.sl 2 false (List.map enc y14.1.t))])])=AV.pv (enc y15)∧(if (!y15)=true then G ((.bool false))else(if (y13.2 != y14.2)=true then G ((.bool false))else((Go.Pl.preT (fun(x:Lin×Unit)=>Zu x.1) [(.agg [(.int .i64 y13.1.k),(.sl 2 false (List.map enc y13.1.t))])])=true∧(∃ y16:Str,AV.pv (Zk (fun(x:Lin×Unit)=>Str.mk (Zx x.1)) [(.agg [(.int .i64 y13.1.k),(.sl 2 false (List.map enc y13.1.t))])])=AV.pv (enc y16)∧((Go.Pl.preT (fun(x:Str×Unit)=>decide (List.length (Str.s x.1)<=400000)) [(.str (Str.s y16))])=true∧(∃ y17:Lin×Int,AV.pv (Zk (fun(x:Str×Unit)=>Zn (Str.s x.1)) [(.str (Str.s y16))])=AV.pv (enc y17)∧(if (y13.2 != 0)=true then G ((.bool true))else(if (y17.2==0)=true then(Go.Pl.preT (fun(x:Lin×Lin×Unit)=>Zz x.1) [(.agg [(.int .i64 y17.1.k),(.sl 2 false (List.map enc y17.1.t))]),(.agg [(.int .i64 y13.1.k),(.sl 2 false (List.map enc y13.1.t))])])=true∧(∃ y18:Bool,AV.pv (Zk (fun(x:Lin×Lin×Unit)=>UC x.1 x.2.1==0) [(.agg [(.int .i64 y17.1.k),(.sl 2 false (List.map enc y17.1.t))]),(.agg [(.int .i64 y13.1.k),(.sl 2 false (List.map enc y13.1.t))])])=AV.pv (enc y18)∧(G ((.bool y18))))else(G ((.bool false))))))))))))))))))))))))))))))))):Zi Hu 0 (Ze KF G) KJ [] (Xz 83 [enc l,.str s]):=Zi.tp (.lit (.abs (Bool) (fun YY=>AV.pv (enc YY)) (.ask (.nil) (.req (.abs (Bool) (fun YY=>AV.pv (enc YY)) (.ask (.lit (.lit (.lit (.lit (.nil))))) (.lit (.lit (.lit (.lit (.ask (.nil) (.req (.abs (Str) (fun YY=>AV.pv (enc YY)) (.req (.abs (Str) (fun YY=>AV.pv (enc YY)) (.lit (.ask (.nil) (.req (.abs (Lin×Int) (fun YY=>AV.pv (enc YY)) (.req (.abs (Bool) (fun YY=>AV.pv (enc YY)) (.ask (.lit (.lit (.lit (.ask (.lit (.lit (.lit (.lit (.lit (.lit (.lit (.nil)))))))) (.lit (.lit (.req (.abs (Bool) (fun YY=>AV.pv (enc YY)) (.lit (.lit (.lit (.lit (.ask (.nil) (.req (.abs (Lin×Int) (fun YY=>AV.pv (enc YY)) (.req (.abs (Lin×Int) (fun YY=>AV.pv (enc YY)) (.req (.abs (Bool) (fun YY=>AV.pv (enc YY)) (.ask (.lit (.lit (.lit (.lit (.nil))))) (.lit (.lit (.lit (.lit (.ask (.nil) (.req (.abs (Str) (fun YY=>AV.pv (enc YY)) (.req (.abs (Lin×Int) (fun YY=>AV.pv (enc YY)) (.lit (.ask (.lit (.lit (.lit (.lit (.nil))))) (.lit (.lit (.lit (.ask (.lit (.lit (.req (.abs (Bool) (fun YY=>AV.pv (enc YY)) (.lit (.lit (.lit (.nil)))))))) (.lit (.lit (.lit (.lit (.lit (.nil))))))))))))))))))))))))))))))))))))))))) (.lit (.lit (.lit (.lit (.lit (.req (.abs (Lin×Int) (fun YY=>AV.pv (enc YY)) (.req (.abs (Lin×Int) (fun YY=>AV.pv (enc YY)) (.req (.abs (Bool) (fun YY=>AV.pv (enc YY)) (.ask (.lit (.lit (.lit (.lit (.nil))))) (.lit (.lit (.lit (.lit (.ask (.nil) (.req (.abs (Str) (fun YY=>AV.pv (enc YY)) (.req (.abs (Lin×Int) (fun YY=>AV.pv (enc YY)) (.lit (.ask (.lit (.lit (.lit (.lit (.nil))))) (.lit (.lit (.lit (.ask (.lit (.lit (.req (.abs (Bool) (fun YY=>AV.pv (enc YY)) (.lit (.lit (.lit (.nil)))))))) (.lit (.lit (.lit (.lit (.lit (.nil))))))))))))))))))))))))))))))))))))))))))))))))))))))) h (by kernel_rfl)
end Go.Pl

namespace Go.Pl
open Go.RowKit
open Enc (enc dec is)
open EncL (encL decL isL)
theorem VR(s:List UInt8)(i:Nat):atR s (i:Int)=s.drop i:=rfl
theorem Vo{s:List UInt8}{i:Nat}(h:i<=s.length):BA s (s.drop i)=(i:Int):=by unfold BA;rw[List.length_drop];omega
theorem XQ{s:List UInt8}{n:Int}:H7 s n=true ↔ ∃ i:Nat,n=i∧i<=s.length∧s.length<=1000000:=by
 unfold H7
 simp only[Bool.and_eq_true,decide_eq_true_eq]
 constructor
 ·rintro⟨⟨h1,h2⟩,h3⟩;exact⟨n.toNat,by omega,by omega,h3⟩
 ·rintro⟨i,rfl,h1,h2⟩;exact⟨⟨by omega,by omega⟩,h2⟩
theorem QB{s:List UInt8}{i:Nat}(h:i<s.length):List.getD s (Int.toNat (i:Int)) (0:UInt8)=s[i]:=by simp[List.getD,h]
theorem Vh{s:List UInt8}{i:Nat}(h:i<s.length):(decide (0<=(i:Int))&&decide (Int.toNat (i:Int)<List.length s))=true:=by simp[h]
theorem WK{s:List UInt8}{i:Nat}(h:i<s.length):s.drop i=s[i]::s.drop (i+1):=List.drop_eq_getElem_cons h
theorem NG{s:List UInt8}{i:Nat}(h:i<=s.length)(hs : ∀ hl:i<s.length,s[i]≠32):bB s i=i:=by
 unfold bB
 rw[VR]
 by_cases hl:i<s.length
 ·rw[WK hl]
  unfold Za
  rw[List.dropWhile_cons,if_neg (by simpa using hs hl),<- WK hl,Vo h]
 ·rw[List.drop_of_length_le (by omega)]
  show BA s []=_
  unfold BA;simp;omega
theorem a5t{s:List UInt8}{i:Nat}(hl:i<s.length)(hs:s[i]=32):bB s i=bB s ((i+1:Nat):Int):=by
 unfold bB
 rw[VR,VR,WK hl]
 unfold Za
 rw[List.dropWhile_cons,if_pos (by simp[hs])]
theorem Bq(s:List UInt8)(hs:s.length<=1000000): ∀ (k i:Nat),k+i=s.length ->
  At WB 1 (Zd 1 XU fun r=>r=(.tup [],sV s (bB s i),[])) XO 0 31 [(0,.ptr 0 0)] [.obj (.box [.pv (.str s),.pv (.int .i64 i)])]:=by
 intro k
 induction k with
 | zero=>
  intro i hi
  refine Dt s i (XI (Wj (by omega)) ?_)
  rw[NG (by omega) (fun h=>by omega)]
  rfl
 | succ k ih=>
  intro i hi
  have hl:i<s.length:=by omega
  refine Dt s i (YF (Wv hl) ⟨Vh hl,?_⟩)
  rw[QB hl]
  refine Wx (fun h=> ?_) fun h=> ?_
  ·have h:s[i]=32:=UInt8.toNat_inj.1 (by have:(s[i].toNat:Int)=32:=h;show s[i].toNat=32;omega)
   have:=ih (i+1) (by omega)
   rw[a5t hl h,next (by omega)]
   exact this
  ·rw[NG (by omega) (fun _ e=>h (by rw[e];rfl))]
   rfl
theorem SE: ∀ args os,Yc args os=true->Zi WB os.length (Zd os.length XU fun r=>r=VN args os) XO [] (Ym Pd args os):=by
 intro args os h
 unfold Yc at h
 split at h
 ·rename_i s n
  obtain⟨i,rfl,h1,h2⟩:=XQ.1 h
  exact Mt s i (Bq s h2 (s.length - i) i (by omega))
 ·cases h
theorem Ai{s:List UInt8}{c:Int}{i:Nat}(h : ¬ i<s.length):HZ c s i=false:=by
 unfold HZ;rw[VR,List.drop_of_length_le (by omega)]
theorem GZ{s:List UInt8}{c:Int}{i:Nat}(h:i<s.length):HZ c s i=decide ((s[i].toNat:Int)=c):=by
 unfold HZ;rw[VR,WK h]
theorem a5q: ∀ args os,YA args os=true->Zi a1v os.length (Zd os.length Rs fun r=>r=J7 args os) Pm [] (Ym a7y args os):=by
 intro args os h
 unfold YA at h
 split at h
 ·rename_i c s n
  obtain⟨i,rfl,h1,h2⟩:=XQ.1 h
  refine b0g c s i ?_
  by_cases hl:i<s.length
  ·refine YF (Wv hl) ⟨Vh hl,?_⟩
   rw[QB hl]
   have e:=GZ (c:=c) hl
   refine Wx (fun h=> ?_) fun h=> ?_
   ·rw[decide_eq_true h]at e
    show(AV.pv (.bool true),[_],[])=(AV.pv (.bool (HZ c s i)),sV s (Y5 c s i),[])
    rw[next (by omega),Y5,e,if_pos rfl];rfl
   ·rw[decide_eq_false h]at e
    show(AV.pv (.bool false),[_],[])=(AV.pv (.bool (HZ c s i)),sV s (Y5 c s i),[])
    rw[Y5,e,if_neg (by simp)];rfl
  ·refine XI (Wj hl) ?_
   have e:=Ai (c:=c) hl
   show(AV.pv (.bool false),[_],[])=(AV.pv (.bool (HZ c s i)),sV s (Y5 c s i),[])
   rw[Y5,e,if_neg (by simp)];rfl
 ·cases h
def Ny(b:Bool)(first:Bool)(r:List UInt8):Nat:=match b,first with
 | false,_=>(r.takeWhile Zj).length
 | true,true=>(Kk true r).length
 | true,false=>(r.takeWhile AL).length
def ruC(b first:Bool)(c:UInt8):Bool:=Zj c||b&&(ZT c||c==95&&first)
theorem P6(b f:Bool):Ny b f []=0:=by cases b <;> cases f <;> rfl
theorem GI(b f:Bool)(c:UInt8)(r:List UInt8):Ny b f (c::r)=if ruC b f c=true then Ny b false r+1 else 0:=by
 unfold ruC Ny
 cases b
 ·simp only[Bool.false_and,Bool.or_false,List.takeWhile_cons]
  split <;> simp
 ·cases f
  ·simp only[Bool.true_and,Bool.and_false,Bool.or_false,List.takeWhile_cons]
   show(if AL c=true then _ else _:List UInt8).length=_
   unfold AL
   split <;> simp
  ·simp only[Bool.true_and,Bool.and_true,Kk]
   split <;> simp
theorem a9f(b f:Bool)(r:List UInt8):Ny b f r<=r.length:=by
 induction r generalizing f with
 | nil=>rw[P6];exact Nat.zero_le _
 | cons c r ih=>rw[GI];split;have:=ih false;simp;omega;omega
theorem CX(b:Bool)(r:List UInt8):Ny b true r=(Kk b r).length:=by cases b <;> rfl
theorem Oh(b:Bool)(r:List UInt8):r.take (Kk b r).length=Kk b r:=by
 have tk : ∀ (p:UInt8->Bool) (l:List UInt8),l.take (l.takeWhile p).length=l.takeWhile p:=by
  intro p l
  induction l with
  | nil=>rfl
  | cons c l ih=>rw[List.takeWhile_cons];split <;> simp[ih]
 cases b
 ·exact tk _ _
 ·cases r with
  | nil=>rfl
  | cons c r=>
   simp only[Kk]
   split
   ·simp[tk]
   ·rfl
theorem LD(b:Bool)(s:List UInt8)(hs:s.length<=1000000)(m:Nat): ∀ (k i:Nat),k+i=s.length->m<=i ->
  At VY 1 (Zd 1 WJ fun r=>r=(.pv (.str ((s.drop m).take (i+Ny b (decide (i=m)) (s.drop i) - m))),sV s ((i+Ny b (decide (i=m)) (s.drop i):Nat):Int),[])) WH 0 84 [(0,.ptr 0 0),(1,.pv (.bool b)),(5,.pv (.int .i64 m))] [.obj (.box [.pv (.str s),.pv (.int .i64 i)])]:=by
 intro k
 induction k with
 | zero=>
  intro i hi hm
  obtain rfl:i=s.length:=by omega
  refine N8 b s s.length m (XI (Wj (by omega)) ⟨by simp;omega,?_⟩)
  rw[List.drop_length,P6,Int.toNat_natCast,Int.toNat_natCast,List.take_length,Nat.add_zero,List.take_of_length_le (by simp)]
  rfl
 | succ k ih=>
  intro i hi hm
  have hl:i<s.length:=by omega
  have h1:=ih (i+1) (by omega) (by omega)
  rw[decide_eq_false (by omega : ¬ i+1=m)]at h1
  have hcut:(decide (0<=(m:Int))&&decide (0<=(i:Int))&&decide (Int.toNat (m:Int)<=Int.toNat (i:Int))&&decide (Int.toNat (i:Int)<=List.length s))=true:=by simp;omega
  have go:ruC b (decide (i=m)) s[i]=true->At VY 1 (Zd 1 WJ fun r=>r=(.pv (.str ((s.drop m).take (i+Ny b (decide (i=m)) (s.drop i) - m))),sV s ((i+Ny b (decide (i=m)) (s.drop i):Nat):Int),[])) WH 0 84 [(0,.ptr 0 0),(1,.pv (.bool b)),(5,.pv (.int .i64 m))] [.obj (.box [.pv (.str s),.pv (.int .i64 (IntKind.i64.wrap ((i:Int)+1)))])]:=by
   intro hb
   rw[next (by omega),WK hl,GI,if_pos hb,show i+(Ny b false (s.drop (i+1))+1)=i+1+Ny b false (s.drop (i+1)) by omega]
   exact h1
  have stop:ruC b (decide (i=m)) s[i]=false->((.pv (.str ((s.take (Int.toNat (i:Int))).drop (Int.toNat (m:Int)))),[.box [.pv (.str s),.pv (.int .i64 i)]],[]):AV×List AObj×List AObj)=(.pv (.str ((s.drop m).take (i+Ny b (decide (i=m)) (s.drop i) - m))),sV s ((i+Ny b (decide (i=m)) (s.drop i):Nat):Int),[]):=by
   intro hb
   rw[WK hl,GI,if_neg (by simp[hb]),Nat.add_zero,Int.toNat_natCast,Int.toNat_natCast,List.drop_take]
   rfl
  refine N8 b s i m (YF (Wv hl) ⟨Vh hl,?_⟩)
  simp only[QB hl]
  refine⟨Zo (s[i],()) rfl rfl,Zl (s[i],()) rfl ?_⟩
  refine Vf (fun hd=>go ?_) fun hd=>Vf (fun hb=>⟨Vh hl,Zo (s[i],()) rfl rfl,Zl (s[i],()) rfl (Vf (fun hw=>go ?_) fun hw=>⟨Vh hl,?_⟩)⟩) fun hb=>⟨hcut,stop ?_⟩
  ·have hd:Zj s[i]=true:=hd
   simp[ruC,hd]
  ·have hw:ZT s[i]=true:=hw
   simp[ruC,hb,hw]
  ·have hd:Zj s[i]=false:=hd
   have hw:ZT s[i]=false:=hw
   refine Wx (fun h9=>Wx (fun hm2=>go ?_) fun hm2=>⟨hcut,stop ?_⟩) fun h9=>⟨hcut,stop ?_⟩
   ·have e95:s[i]=95:=UInt8.toNat_inj.1 (by have:(s[i].toNat:Int)=95:=h9;show s[i].toNat=95;omega)
    have em:i=m:=by omega
    unfold ruC
    rw[hb,e95,decide_eq_true em]
    decide
   ·have : ¬ i=m:=by omega
    simp[ruC,hd,hw,this]
   ·have : ¬ s[i]=95:=fun e=>h9 (by rw[e];rfl)
    simp[ruC,hd,hw,this]
  ·have hd:Zj s[i]=false:=hd
   simp[ruC,hd,hb]
theorem Ei: ∀ args os,YI args os=true->Zi VY os.length (Zd os.length WJ fun r=>r=KU args os) WH [] (Ym a5x args os):=by
 intro args os h
 unfold YI at h
 split at h
 ·rename_i b s n
  obtain⟨i,rfl,h1,h2⟩:=XQ.1 h
  have ev:KU [.ptr 0 0,.pv (.bool b)] [.box [.pv (.str s),.pv (.int .i64 i)]]=(.pv (.str (Kk b (s.drop i))),sV s ((i+(Kk b (s.drop i)).length:Nat):Int),[]):=by
   show(AV.pv (.str (Kk b (s.drop i))),sV s ((i:Int)+((Kk b (s.drop i)).length:Nat)),[])=_
   rw[<- Int.natCast_add]
  rw[ev]
  refine a7t b s i ?_
  have:=LD b s h2 i (s.length - i) i (by omega) (Nat.le_refl _)
  rw[decide_eq_true rfl,CX,Nat.add_sub_cancel_left,Oh]at this
  exact this
 ·cases h
end Go.Pl

namespace Go.Pl
open Go.RowKit
open Enc (enc dec is)
open EncL (encL decL isL)
theorem WX(p:UInt8->Bool)(l:List UInt8):l.drop (l.takeWhile p).length=l.dropWhile p:=by
 induction l with
 | nil=>rfl
 | cons c l ih=>rw[List.takeWhile_cons,List.dropWhile_cons];split <;> simp[ih]
theorem Uh(s:List UInt8){j:Nat}(hj:j<=s.length): ∃ p:Nat,bB s j=p∧j<=p∧p<=s.length∧s.drop p=Za (s.drop j):=by
 have hs : ∃ p:Nat,j<=p∧p<=s.length∧s.drop p=Za (s.drop j):=by
  have hd:(s.drop j).takeWhile (fun c=>c==32)++Za (s.drop j)=s.drop j:=List.takeWhile_append_dropWhile
  have hl:=congrArg List.length hd
  rw[List.length_append,List.length_drop]at hl
  refine⟨j+((s.drop j).takeWhile (fun c=>c==32)).length,by omega,by omega,?_⟩
  rw[<- List.drop_drop]
  exact WX _ _
 obtain⟨p,h1,h2,h3⟩:=hs
 refine⟨p,?_,h1,h2,h3⟩
 unfold bB
 rw[VR,<- h3,Vo h2]
theorem OV(b:Bool)(r:List UInt8):(Kk b r).length<=r.length:=by rw[<- CX];exact a9f _ _ _
def GK(s:List UInt8)(z:(Int×List UInt8×Bool)×List UInt8):AV×List AObj×List AObj:=(.tup [.pv (.int .i64 z.1.1),.pv (.str z.1.2.1),.pv (.bool z.1.2.2)],sV s (BA s z.2),[])
theorem a4s(s:List UInt8)(i:Nat):Qz [.ptr 0 0] [.box [.pv (.str s),.pv (.int .i64 i)]]=GK s (Z6 (s.drop i)):=rfl
theorem a5g{s:List UInt8}{j:Nat}{k:Int}(hj:j<=s.length):((.tup [.pv (.int .i64 k),.pv (.str (QW true s j)),.pv (.bool (Zr ⟨QW true s j⟩))],[.box [.pv (.str s),.pv (.int .i64 (Ba true s j))]],[]):AV×List AObj×List AObj)=GK s (Ux k (s.drop j)):=by
 have e:BA s ((s.drop j).drop (Kk true (s.drop j)).length)=Ba true s j:=by
  have:=OV true (s.drop j)
  rw[List.length_drop]at this
  rw[List.drop_drop,Vo (by omega)]
  unfold Ba
  rw[VR]
  omega
 unfold GK Ux
 rw[e]
 rfl
theorem Nb{s:List UInt8}{b:Bool}{j:Nat}(hj:j<=s.length)(hs:s.length<=1000000):YI [.ptr 0 0,.pv (.bool b)] [.box [.pv (.str s),.pv (.int .i64 j)]]=true:=XQ.2 ⟨j,rfl,hj,hs⟩
theorem KO{s:List UInt8}{c:Int}{j:Nat}(hj:j<=s.length)(hs:s.length<=1000000):YA [.ptr 0 0,.pv (.int .u8 c)] [.box [.pv (.str s),.pv (.int .i64 j)]]=true:=XQ.2 ⟨j,rfl,hj,hs⟩
theorem UN{s:List UInt8}{j:Nat}(hj:j<=s.length)(hs:s.length<=1000000):Yc [.ptr 0 0] [.box [.pv (.str s),.pv (.int .i64 j)]]=true:=XQ.2 ⟨j,rfl,hj,hs⟩
theorem CW{s:List UInt8}{j:Nat}(h:j<s.length):(s.drop j).headD 0=s[j]:=by rw[WK h];rfl
theorem Le{d:List UInt8}{i:Nat}(hl:i<d.length)(hd : ∀ c∈d,Zj c=true)(h7:d.length<=7)(hn:0<=Xk (d.take i)∧Xk (d.take i)<10 ^ i):
  IntKind.i64.wrap (IntKind.i64.wrap (10*Xk (d.take i))+IntKind.i64.wrap (IntKind.u8.wrap ((d[i].toNat:Int) - 48)))=Xk (d.take (i+1))∧0<=Xk (d.take (i+1))∧Xk (d.take (i+1))<10 ^ (i+1):=by
 have hc:=YQ.1 (hd _ (List.getElem_mem hl))
 have e:Xk (d.take (i+1))=10*Xk (d.take i)+((d[i].toNat:Int) - 48):=by
  unfold Xk
  rw[List.take_succ_eq_append_getElem hl,List.foldl_append]
  rfl
 have hp:(10:Int) ^ i<=10 ^ 6:=by
  have:(10:Nat) ^ i<=10 ^ 6:=Nat.pow_le_pow_right (by decide) (by omega)
  exact_mod_cast this
 have e2:(10:Int) ^ (i+1)=10 ^ i*10:=Int.pow_succ ..
 have hu:IntKind.u8.wrap ((d[i].toNat:Int) - 48)=(d[i].toNat:Int) - 48:=by
  show((d[i].toNat:Int) - 48) % 256=_
  omega
 generalize (10:Int) ^ i=t at *
 rw[hu]
 show Yd (Yd (10*Xk (d.take i))+Yd ((d[i].toNat:Int) - 48))=_∧_
 rw[VD (n:=(d[i].toNat:Int) - 48) (by omega) (by omega),VD (n:=10*Xk (d.take i)) (by omega) (by omega),VD (by omega) (by omega),e]
 omega
theorem LK (s : List UInt8) (i : Nat) (hs : s.length <= 1000000) (d : List UInt8) (hd : d = (s.drop i).takeWhile Zj) (hi : i <= s.length) (hq : ¬ (d.length > 7 ∨ d.length > 1 ∧ d.headD 0 = 48)) :
    At Vg 1 (Zd 1 Wq fun r=>r=GK s (Z6 (s.drop i))) Wd 0 132 [(0,.ptr 0 0),(5,.pv (.str d)),(6,.pv (.int .i64 (Xk d))),(7,.pv (.int .i64 (d.length:Nat)))] [.obj (.box [.pv (.str s),.pv (.int .i64 ((i+d.length:Nat):Int))])]:=by
  have hdl:i+d.length<=s.length:=by
    have:=OV false (s.drop i)
    rw[List.length_drop]at this
    have e:(Kk false (s.drop i)).length=d.length:=by rw[hd];rfl
    omega
  have hit:Z6 (s.drop i)=if d=[]then Ux 1 (s.drop (i+d.length))else if ZT ((s.drop (i+d.length)).headD 0)||(s.drop (i+d.length)).headD 0==95 then Ux (Xk d) (s.drop (i+d.length))else XT (Xk d) (s.drop (i+d.length)):=by
    have e:(s.drop i).dropWhile Zj=s.drop (i+d.length):=by rw[<- WX,<- hd,List.drop_drop]
    unfold Z6
    rw[<- hd,if_neg hq,e]
  rw[hit]
  generalize i+d.length=j at hdl ⊢
  -- a name from a place on
  have hvar : ∀ (k : Int) (p : Nat), p <= s.length -> ∀ Q : AV × List AObj × List AObj -> Prop, Q (GK s (Ux k (s.drop p))) -> YI [.ptr 0 0, .pv (.bool true)] [.box [.pv (.str s), .pv (.int .i64 (p : Nat))]] = true ∧
      (∃ y:Bool,AV.pv (Zk (fun(x:Str×Unit)=>Zr (Prod.fst x)) [(.str (QW true s p))])=AV.pv (enc y)∧Q ((.tup [.pv (.int .i64 k),.pv (.str (QW true s p)),.pv (.bool y)]),([(.box [(.pv (.str s)),(.pv (.int .i64 (Ba true s p)))])],[]))):=by
    intro k p hp Q hQ
    refine⟨Nb hp hs,Zl (⟨QW true s p⟩,()) rfl ?_⟩
    show Q (_,[AObj.box [.pv (.str s),.pv (.int .i64 (Ba true s p))]],[])
    rw[a5g hp]
    exact hQ
  -- behind blanks
  have haft : ∀ Q : AV × List AObj × List AObj -> Prop, Q (GK s (XT (Xk d) (s.drop j))) ->
      Yc [.ptr 0 0] [.box [.pv (.str s),.pv (.int .i64 (j:Nat))]]=true∧YA [.ptr 0 0,.pv (.int .u8 42)] [.box [.pv (.str s),.pv (.int .i64 (bB s j))]]=true ∧
      (if (!HZ 42 s (bB s j))=true then Q ((.tup [.pv (.int .i64 (Xk d)),.pv (.str []),.pv (.bool true)]),([(.box [(.pv (.str s)),(.pv (.int .i64 (j:Nat)))])],[]))
       else Yc [.ptr 0 0] [.box [.pv (.str s),.pv (.int .i64 (Y5 42 s (bB s j)))]]=true ∧
        (if (decide (bB s (Y5 42 s (bB s j))<(↑(List.length s):Int)))=true then(decide (0<=bB s (Y5 42 s (bB s j)))&&decide (Int.toNat (bB s (Y5 42 s (bB s j)))<List.length s))=true ∧
          Go.Pl.preT (fun(x:UInt8×Unit)=>true) [(.int IntKind.u8 (↑(UInt8.toNat (List.getD s (Int.toNat (bB s (Y5 42 s (bB s j)))) (0:UInt8))):Int))]=true ∧
          (∃ y:Bool,AV.pv (Zk (fun(x:UInt8×Unit)=>Zj (Prod.fst x)) [(.int IntKind.u8 (↑(UInt8.toNat (List.getD s (Int.toNat (bB s (Y5 42 s (bB s j)))) (0:UInt8))):Int))])=AV.pv (enc y) ∧
            (if y=true then Q ((.tup [.pv (.int .i64 0),.pv (.str []),.pv (.bool false)]),([(.box [(.pv (.str s)),(.pv (.int .i64 (bB s (Y5 42 s (bB s j)))))])],[]))
             else YI [.ptr 0 0,.pv (.bool true)] [.box [.pv (.str s),.pv (.int .i64 (bB s (Y5 42 s (bB s j))))]]=true ∧
              (∃ y:Bool,AV.pv (Zk (fun(x:Str×Unit)=>Zr (Prod.fst x)) [(.str (QW true s (bB s (Y5 42 s (bB s j)))))])=AV.pv (enc y)∧Q ((.tup [.pv (.int .i64 (Xk d)),.pv (.str (QW true s (bB s (Y5 42 s (bB s j))))),.pv (.bool y)]),([(.box [(.pv (.str s)),(.pv (.int .i64 (Ba true s (bB s (Y5 42 s (bB s j))))))])],[])))))
         else YI [.ptr 0 0, .pv (.bool true)] [.box [.pv (.str s), .pv (.int .i64 (bB s (Y5 42 s (bB s j))))]] = true ∧
              (∃ y:Bool,AV.pv (Zk (fun(x:Str×Unit)=>Zr (Prod.fst x)) [(.str (QW true s (bB s (Y5 42 s (bB s j)))))])=AV.pv (enc y)∧Q ((.tup [.pv (.int .i64 (Xk d)),.pv (.str (QW true s (bB s (Y5 42 s (bB s j))))),.pv (.bool y)]),([(.box [(.pv (.str s)),(.pv (.int .i64 (Ba true s (bB s (Y5 42 s (bB s j))))))])],[]))))):=by
    intro Q hQ
    obtain⟨p,e1,p1,p2,p3⟩:=Uh s hdl
    rw[e1]
    refine⟨UN hdl hs,KO p2 hs,?_⟩
    have hno:(XT (Xk d) (s.drop j))=((Xk d,[],true),s.drop j)->Q ((.tup [.pv (.int .i64 (Xk d)),.pv (.str []),.pv (.bool true)]),([(.box [(.pv (.str s)),(.pv (.int .i64 (j:Nat)))])],[])):=by
      intro e
      rw[e]at hQ
      have:=hQ
      unfold GK at this
      rw[Vo hdl]at this
      exact this
    by_cases hp:p<s.length
    · rw[GZ hp]
      by_cases h42:(s[p].toNat:Int)=42
      · rw[Y5,GZ hp,decide_eq_true h42,if_pos rfl,Bool.not_true,if_neg (by simp)]
        obtain⟨q,e2,q1,q2,q3⟩:=Uh s (j:=p+1) (by omega)
        have e2':bB s ((p:Int)+1)=q:=e2
        have ea:XT (Xk d) (s.drop j)=if Zj ((s.drop q).headD 0)then((0,[],false),s.drop q)else Ux (Xk d) (s.drop q):=by
          unfold XT
          rw[<- p3,WK hp,q3]
          have:s[p]=42:=UInt8.toNat_inj.1 (by show s[p].toNat=42;omega)
          rw[this]
          rfl
        rw[ea]at hQ
        rw[e2']
        refine⟨UN (j:=p+1) (by omega) hs,?_⟩
        by_cases hq2:q<s.length
        · refine YF (Wv hq2) ⟨Vh hq2,?_⟩
          rw[QB hq2]
          refine⟨Zo (s[q],()) rfl rfl,Zl (s[q],()) rfl ?_⟩
          rw[CW hq2]at hQ
          refine Vf (fun h=> ?_) fun h=> ?_
          · have h:Zj s[q]=true:=h
            rw[if_pos h]at hQ
            unfold GK at hQ
            rw[Vo q2]at hQ
            exact hQ
          · have h:Zj s[q]=false:=h
            rw[if_neg (by simp[h])]at hQ
            exact hvar _ q q2 Q hQ
        · refine XI (Wj hq2) ?_
          rw[List.drop_of_length_le (show s.length<=q by omega)]at hQ
          rw[if_neg (by decide)]at hQ
          have e:s.drop q=[]:=List.drop_of_length_le (by omega)
          rw[<- e]at hQ
          exact hvar _ q q2 Q hQ
      · rw[decide_eq_false h42]
        refine YF rfl (hno ?_)
        unfold XT
        rw[<- p3,WK hp]
        have : ¬ s[p]=42:=fun e=>h42 (by rw[e];rfl)
        simp only[if_neg this]
    · rw[Ai hp]
      refine YF rfl (hno ?_)
      unfold XT
      rw[<- p3,List.drop_of_length_le (by omega)]
  refine Sl s j d (Xk d) (d.length:Nat) (XI (Wj (by omega)) (Wx (fun h0=> ?_) fun h0=> ?_))
  · subst h0
    exact hvar 1 j hdl (fun r=>r=_) rfl
  · rw[if_neg h0]
    by_cases hl:j<s.length
    · refine YF (Wv hl) ⟨Vh hl,?_⟩
      rw[QB hl,CW hl]
      refine⟨Zo (s[j],()) rfl rfl,Zl (s[j],()) rfl (Vf (fun h=> ?_) fun h=>⟨Vh hl,Wx (fun h9=> ?_) fun h9=> ?_⟩)⟩
      · have h:ZT s[j]=true:=h
        have e3 : ∀ A B:(Int×List UInt8×Bool)×List UInt8,(if (ZT s[j]||s[j]==95)=true then A else B)=A:=fun A B=>if_pos (by rw[h];rfl)
        rw[e3]
        exact hvar _ j hdl (fun r=>r=_) rfl
      · have:s[j]=95:=UInt8.toNat_inj.1 (by have:(s[j].toNat:Int)=95:=h9;show s[j].toNat=95;omega)
        have e3 : ∀ A B:(Int×List UInt8×Bool)×List UInt8,(if (ZT s[j]||s[j]==95)=true then A else B)=A:=fun A B=>if_pos (by rw[this];decide)
        rw[e3]
        exact hvar _ j hdl (fun r=>r=_) rfl
      · have h:ZT s[j]=false:=h
        have:(s[j]==95)=false:=by
          have : ¬ s[j]=95:=fun e=>h9 (by rw[e];rfl)
          simpa using this
        have e3 : ∀ A B:(Int×List UInt8×Bool)×List UInt8,(if (ZT s[j]||s[j]==95)=true then A else B)=B:=fun A B=>if_neg (by rw[h,this];decide)
        rw[e3]
        exact haft (fun r=>r=_) rfl
    · refine XI (Wj hl) ?_
      have e:s.drop j=[]:=List.drop_of_length_le (by omega)
      have e2:(ZT ((s.drop j).headD 0)||(s.drop j).headD 0==95)=false:=by rw[e];decide
      have e3 : ∀ A B:(Int×List UInt8×Bool)×List UInt8,(if (ZT ((s.drop j).headD 0)||(s.drop j).headD 0==95)=true then A else B)=B:=fun A B=>if_neg (by rw[e2];decide)
      rw[e3]
      exact haft (fun r=>r=_) rfl
theorem EM{p:UInt8->Bool}{c:UInt8}: ∀ {l:List UInt8},c∈l.takeWhile p->p c=true
 | [],h=>by cases h
 | x::l,h=>by
  rw[List.takeWhile_cons]at h
  split at h
  ·rcases List.mem_cons.1 h with rfl|h
   ·assumption
   ·exact EM h
  ·cases h
theorem Ps(s:List UInt8)(i:Nat)(hs:s.length<=1000000)(d:List UInt8)(hd:d=(s.drop i).takeWhile Zj)(hi:i<=s.length)(hq : ¬ (d.length>7∨d.length>1∧d.headD 0=48)):
  ∀ (k m:Nat),k+m=d.length->0<=Xk (d.take m)∧Xk (d.take m)<10 ^ m ->
  At Vg 1 (Zd 1 Wq fun r=>r=GK s (Z6 (s.drop i))) Wd 0 132 [(0,.ptr 0 0),(5,.pv (.str d)),(6,.pv (.int .i64 (Xk (d.take m)))),(7,.pv (.int .i64 m))] [.obj (.box [.pv (.str s),.pv (.int .i64 ((i+d.length:Nat):Int))])]:=by
 intro k
 induction k with
 | zero=>
  intro m hm hn
  obtain rfl:m=d.length:=by omega
  rw[List.take_length]
  exact LK s i hs d hd hi hq
 | succ k ih=>
  intro m hm hn
  have hl:m<d.length:=by omega
  have hdg : ∀ c∈d,Zj c=true:=fun c hc=>by rw[hd]at hc;exact EM hc
  obtain⟨e1,e2⟩:=Le hl hdg (by omega) hn
  refine Sl s _ d (Xk (d.take m)) m (YF (Wv hl) ⟨Vh hl,?_⟩)
  rw[QB hl,e1,next (by omega)]
  exact ih (m+1) (by omega) e2
theorem Lx: ∀ args os,Yc args os=true->Zi Vg os.length (Zd os.length Wq fun r=>r=Qz args os) Wd [] (Ym F9 args os):=by
 intro args os h
 unfold Yc at h
 split at h
 ·rename_i s n
  obtain⟨i,rfl,h1,h2⟩:=XQ.1 h
  rw[a4s]
  have ed:QW false s i=(s.drop i).takeWhile Zj:=rfl
  have en:Ba false s i=((i+((s.drop i).takeWhile Zj).length:Nat):Int):=rfl
  have hdl:i+((s.drop i).takeWhile Zj).length<=s.length:=by
   have:=OV false (s.drop i)
   rw[List.length_drop]at this
   have e:(Kk false (s.drop i)).length=((s.drop i).takeWhile Zj).length:=rfl
   omega
  have eq:(s.drop i).dropWhile Zj=s.drop (i+((s.drop i).takeWhile Zj).length):=by rw[<- WX,List.drop_drop]
  refine a4n s i ⟨Nb h1 h2,?_⟩
  rw[ed,en]
  have hloop : ¬ (((s.drop i).takeWhile Zj).length>7∨((s.drop i).takeWhile Zj).length>1∧((s.drop i).takeWhile Zj).headD 0=48)->_:=fun hq=>Ps s i h2 _ rfl h1 hq ((s.drop i).takeWhile Zj).length 0 (by omega) (by rw[List.take_zero];decide)
  have hbad:(((s.drop i).takeWhile Zj).length>7∨((s.drop i).takeWhile Zj).length>1∧((s.drop i).takeWhile Zj).headD 0=48)->((.tup [.pv (.int .i64 0),.pv (.str []),.pv (.bool false)],[.box [.pv (.str s),.pv (.int .i64 ((i+((s.drop i).takeWhile Zj).length:Nat):Int))]],[]):AV×List AObj×List AObj)=GK s (Z6 (s.drop i)):=by
   intro hq
   unfold Z6
   rw[if_pos hq,eq]
   unfold GK
   rw[Vo hdl]
   rfl
  generalize hdd:(s.drop i).takeWhile Zj=d at hloop hbad ⊢
  refine XR (fun h7=>hbad (.inl (by omega))) fun h7=>XR (fun h8=>⟨by simp;omega,Wx (fun h48=>hbad (.inr ⟨by omega,?_⟩)) fun h48=>hloop ?_⟩) fun h8=>hloop (by omega)
  ·cases d with
   | nil=>simp at h8
   | cons c d=>
    have h48:(c.toNat:Int)=48:=h48
    exact UInt8.toNat_inj.1 (by show c.toNat=48;omega)
  ·rintro(h|⟨_,h⟩)
   ·omega
   ·cases d with
    | nil=>simp at h8
    | cons c d=>
     have h:c=48:=h
     exact h48 (by rw[h];rfl)
 ·cases h
end Go.Pl

namespace Go.Pl
open Go.RowKit
open Enc (enc dec is)
open EncL (encL decL isL)
def Vs(l:Lin)(z:(Int×List UInt8×Bool)×List UInt8)(g:Int):Lin:=if z.1.2.1=[]then⟨Yd (l.k+Yd (g*z.1.1)),l.t⟩else Wn l ⟨z.1.2.1⟩ (Yd (g*z.1.1))
def XC:Nat->List UInt8->Lin->Int->Lin×Int
 | 0,_,_,_=>(⟨0,[]⟩,6)
 | f+1,t,l,g=>
  if (Z6 (Za t)).1.2.2=false then(⟨0,[]⟩,6)
  else if Za (Z6 (Za t)).2=[]then VK (Vs l (Z6 (Za t)) g)
  else if (ZN (Za (Z6 (Za t)).2)).1.2=false then(⟨0,[]⟩,6)
  else XC f (ZN (Za (Z6 (Za t)).2)).2 (Vs l (Z6 (Za t)) g) (ZN (Za (Z6 (Za t)).2)).1.1
theorem Kj{c:UInt8}(h:Zj c=true):c≠95:=by
 rintro rfl
 revert h;decide
theorem Lb{c:UInt8}{r:List UInt8}(h:Zj c=true):Zr ⟨c::r⟩=false:=by
 have hl:ZT c=false:=by
  rw[YQ]at h
  unfold ZT
  rw[Bool.and_eq_false_iff]
  left
  rw[decide_eq_false_iff_not,UInt8.le_iff_toNat_le]
  have:(97:UInt8).toNat=97:=rfl
  omega
 show(if c=95 then _ else _)=false
 rw[if_neg (Kj h),hl];rfl
theorem a1t{c:UInt8}{r:List UInt8}(h:(95:UInt8)∈r):Zr ⟨c::r⟩=false:=by
 cases hb:Zr ⟨c::r⟩with
 | false=>rfl
 | true=>
  exfalso
  unfold Zr at hb
  simp only at hb
  by_cases h95:c=95
  ·rw[if_pos h95]at hb
   simp only[Bool.and_eq_true,List.all_eq_true]at hb
   exact Kj (hb.1.1.1 _ h) rfl
  ·rw[if_neg h95]at hb
   simp only[Bool.and_eq_true,List.all_eq_true]at hb
   have:=hb.1.2 _ h
   revert this;decide
theorem a3v(c:UInt8):Zv c=(AL c||c==95):=by unfold Zv AL;cases ZT c <;> cases Zj c <;> cases (c==95) <;> rfl
theorem Cw: ∀ r:List UInt8,r.takeWhile Zv=r.takeWhile AL∧r.dropWhile Zv=r.dropWhile AL∨((95:UInt8)∈r.takeWhile Zv∧ ∃ y,r.dropWhile AL=95::y)
 | []=>.inl ⟨rfl,rfl⟩
 | c::r=>by
  rw[List.takeWhile_cons,List.takeWhile_cons,List.dropWhile_cons,List.dropWhile_cons,a3v]
  by_cases h:AL c=true
  ·rw[h,Bool.true_or]
   simp only[if_true]
   rcases Cw r with ⟨h1,h2⟩|⟨h1,h2⟩
   ·exact .inl ⟨by rw[h1],h2⟩
   ·exact .inr ⟨List.mem_cons_of_mem _ h1,h2⟩
  ·have h:AL c=false:=by simpa using h
   rw[h,Bool.false_or]
   by_cases h95:c=95
   ·subst h95
    exact .inr ⟨by simp,r,by simp⟩
   ·have:(c==95)=false:=by simpa using h95
    rw[this]
    exact .inl ⟨rfl,rfl⟩
theorem Ns(c:UInt8)(r:List UInt8)(h:Zv c=true):Kk true (c::r)=c::r.takeWhile AL∧(c::r).drop (Kk true (c::r)).length=r.dropWhile AL:=by
 have e:Kk true (c::r)=c::r.takeWhile AL:=by
  show(if Zj c||(ZT c||c==95)then _ else _)=_
  unfold Zv at h
  rw[if_pos (by revert h;cases Zj c <;> cases ZT c <;> cases (c==95) <;> simp)]
 refine⟨e,?_⟩
 rw[e,List.length_cons,List.drop_succ_cons]
 induction r with
 | nil=>rfl
 | cons x r ih=>
  rw[List.takeWhile_cons,List.dropWhile_cons]
  split
  ·rw[List.length_cons,List.drop_succ_cons]
   exact ih (by
    show(if Zj c||(ZT c||c==95)then _ else _)=_
    unfold Zv at h
    rw[if_pos (by revert h;cases Zj c <;> cases ZT c <;> cases (c==95) <;> simp)])
  ·rfl
theorem a4l{r:List UInt8}(h:Zv (r.headD 0)=false):Kk true r=[]:=by
 cases r with
 | nil=>rfl
 | cons c r=>
  show(if Zj c||(ZT c||c==95)then _ else _)=_
  have h:Zv c=false:=h
  unfold Zv at h
  rw[if_neg (by revert h;cases Zj c <;> cases ZT c <;> cases (c==95) <;> simp)]
def JH(l:Lin)(g:Int)(A:Bool×RdS)(z:(Int×List UInt8×Bool)×List UInt8):Prop:=
 (A.1=true∧z.1.2.2=true∧A.2.s=z.2∧A.2.n=(Vs l z g).k∧G8 (Vs l z g).t A.2.m∧SC (Vs l z g).t∧(ZR A.2.m).Nodup) ∨
 (A.1=false∧(z.1.2.2=false ∨ ∃ y,z.2=95::y))
theorem Ga{l:Lin}{m:List (Str×Int)}{g k k':Int}(r:List UInt8)(hk:Yd (g*k')=k)(hr:G8 l.t m)(hn:SC l.t)(hd:(ZR m).Nodup):JH l g (DJ r l.k m k) (Ux k' r):=by
 cases r with
 | nil=>exact .inr ⟨rfl,.inl rfl⟩
 | cons c r=>
  by_cases hc:Zv c=true
  ·obtain⟨e1,e2⟩:=Ns c r hc
   have t1:(c::r).takeWhile Zv=c::r.takeWhile Zv:=by rw[List.takeWhile_cons,if_pos hc]
   have t2:(c::r).dropWhile Zv=r.dropWhile Zv:=by rw[List.dropWhile_cons,if_pos hc]
   rcases Cw r with ⟨h1,h2⟩|⟨h1,y,h2⟩
   ·have et:(c::r).takeWhile Zv=Kk true (c::r):=by rw[t1,e1,h1]
    cases hb:Zr ⟨Kk true (c::r)⟩with
    | false=>exact .inr ⟨by unfold DJ;rw[et];exact hb,.inl hb⟩
    | true=>
     have e0:Vs l (Ux k' (c::r)) g=Wn l ⟨Kk true (c::r)⟩ k:=by
      unfold Vs Ux
      rw[if_neg (by show ¬ Kk true (c::r)=[];rw[e1];simp)]
      show Wn l ⟨Kk true (c::r)⟩ (Yd (g*k'))=_
      rw[hk]
     have hkk:Yd k=k:=by rw[<- hk];exact Js _
     refine .inl ⟨by unfold DJ;rw[et];exact hb,hb,?_,?_,?_,?_,?_⟩
     ·show(c::r).dropWhile Zv=(c::r).drop (Kk true (c::r)).length
      rw[t2,e2,h2]
     ·rw[e0];rfl
     ·rw[e0]
      refine⟨AZ _ _ hr.1,fun s=> ?_⟩
      show _=Vj (Va ⟨(c::r).takeWhile Zv⟩ (Yd (Vj m ((c::r).takeWhile Zv)+k)) m) s
      rw[CQ _ hkk hr.1,H9,hr.2,hr.2,et]
     ·rw[e0];exact Mg _ _ _
     ·exact CY hd
   ·refine .inr ⟨?_,.inr ⟨y,?_⟩⟩
    ·show Zr ⟨(c::r).takeWhile Zv⟩=false
     rw[t1];exact a1t h1
    ·show(c::r).drop (Kk true (c::r)).length=_
     rw[e2,h2]
  ·have hc:Zv c=false:=by simpa using hc
   refine .inr ⟨?_,.inl ?_⟩
   ·show Zr ⟨(c::r).takeWhile Zv⟩=false
    rw[List.takeWhile_cons,if_neg (by simp[hc])];rfl
   ·show Zr ⟨Kk true (c::r)⟩=false
    rw[a4l (r:=c::r) hc];rfl
theorem Y0{c:UInt8}{r:List UInt8}(h:c≠32):Za (c::r)=c::r:=by
 unfold Za
 rw[List.dropWhile_cons,if_neg (by simpa using h)]
theorem a6l(r:List UInt8):([42]:List UInt8).isPrefixOf r=decide (r.head? = some 42):=by
 cases r with
 | nil=>rfl
 | cons c r=>
  show(42==c&&true)=_
  rw[Bool.and_true,Bool.eq_iff_iff,beq_iff_eq,decide_eq_true_eq]
  simp[eq_comm]
theorem Dl{l:Lin}{m:List (Str×Int)}{g k k':Int}(r:List UInt8)(hk:Yd (g*k')=k)(hr:G8 l.t m)(hn:SC l.t)(hd:(ZR m).Nodup):
  JH l g (true,⟨r,Yd (l.k+k),m⟩) ((k',[],true),r):=by
 have e0:Vs l ((k',[],true),r) g=⟨Yd (l.k+k),l.t⟩:=by
  unfold Vs
  rw[if_pos rfl]
  show(⟨Yd (l.k+Yd (g*k')),l.t⟩:Lin)=_
  rw[hk]
 exact .inl ⟨rfl,rfl,rfl,by rw[e0],by rw[e0];exact hr,by rw[e0];exact hn,hd⟩
theorem Eb{l:Lin}{m:List (Str×Int)}{g k k':Int}(r:List UInt8)(hd0:Zj (r.headD 0)=false)(hk:Yd (g*k')=k)(hr:G8 l.t m)(hn:SC l.t)(hd:(ZR m).Nodup):
  JH l g (Vw r l.k m k) (if ZT (r.headD 0)||r.headD 0==95 then Ux k' r else XT k' r):=by
 cases r with
 | nil=>
  have e1:Vw [] l.k m k=(true,⟨[],Yd (l.k+k),m⟩):=rfl
  have e2:(if ZT (([]:List UInt8).headD 0)||([]:List UInt8).headD 0==95 then Ux k' []else XT k' [])=((k',[],true),[]):=rfl
  rw[e1,e2]
  exact Dl [] hk hr hn hd
 | cons c r=>
  have hd0:Zj c=false:=hd0
  show JH l g (Vw (c::r) l.k m k) (if ZT c||c==95 then Ux k' (c::r)else XT k' (c::r))
  have hlet:Zv c=(ZT c||c==95):=by unfold Zv;rw[hd0,Bool.or_false]
  unfold Vw
  by_cases hl:(ZT c||c==95)=true
  ·have h32:c≠32:=by rintro rfl;revert hl;decide
   have h42:c≠42:=by rintro rfl;revert hl;decide
   rw[if_pos hl,a6l,Y0 h32,decide_eq_false (by simpa using h42)]
   rw[if_neg (by simp),if_neg (by
    rintro(h|h)
    ·cases h
    ·have h:Zv c=false:=h
     rw[hlet,hl]at h;cases h)]
   exact Ga _ hk hr hn hd
  ·have hl:(ZT c||c==95)=false:=by simpa using hl
   rw[hl]
   simp only[Bool.false_eq_true,if_false]
   unfold XT
   rw[a6l]
   have hnum : ∀ A B:Bool×RdS,(if (c::r)=[]∨Zv ((c::r).headD 0)=false then A else B)=A:=fun A B=>if_pos (.inr (by show Zv c=false;rw[hlet,hl]))
   rw[hnum]
   cases hb:Za (c::r)with
   | nil=>
    have e : ∀ A B:Bool×RdS,(if decide (([]:List UInt8).head? = some 42)=true then A else B)=B:=fun A B=>if_neg (by simp)
    rw[e]
    exact Dl _ hk hr hn hd
   | cons x t=>
    by_cases hx:x=42
    ·subst hx
     have e : ∀ A B:Bool×RdS,(if decide (((42:UInt8)::t).head? = some 42)=true then A else B)=A:=fun A B=>if_pos (by simp)
     rw[e]
     show JH l g (DJ (Za t) l.k m k) (if (42:UInt8)=42 then(if Zj ((Za t).headD 0)then((0,[],false),Za t)else Ux k' (Za t))else((k',[],true),42::r))
     rw[if_pos rfl]
     by_cases hg:Zj ((Za t).headD 0)=true
     ·rw[if_pos hg]
      cases hbt:Za t with
      | nil=>rw[hbt]at hg;exact absurd hg (by decide)
      | cons y u=>
       rw[hbt]at hg
       have hg:Zj y=true:=hg
       refine .inr ⟨?_,.inl rfl⟩
       show Zr ⟨(y::u).takeWhile Zv⟩=false
       rw[List.takeWhile_cons,if_pos (by unfold Zv;rw[hg,Bool.or_true])]
       exact Lb hg
     ·rw[if_neg hg]
      exact Ga _ hk hr hn hd
    ·have e : ∀ A B:Bool×RdS,(if decide ((x::t).head? = some 42)=true then A else B)=B:=fun A B=>if_neg (by simpa using hx)
     rw[e]
     show JH l g _ (if x=42 then _ else((k',[],true),c::r))
     rw[if_neg hx]
     exact Dl _ hk hr hn hd
theorem Tj(d:List UInt8)(c:UInt8):Xk (d++[c])=10*Xk d+((c.toNat:Int) - 48):=by unfold Xk;rw[List.foldl_append];rfl
theorem Om(d:List UInt8)(c:UInt8)(a:Nat):Ua a (d++[c])=Ua a d*10+(c.toNat - 48):=by unfold Ua;rw[List.foldl_append];rfl
theorem EZ: ∀ (n:Nat) (d:List UInt8),d.length=n->d.all Zj=true->Xk d=(Ua 0 d:Int):=by
 intro n
 induction n with
 | zero=>
  intro d hl _
  have:d=[]:=List.eq_nil_of_length_eq_zero hl
  subst this
  rw[Qc];rfl
 | succ n ih=>
  intro d hl hd
  rcases List.eq_nil_or_concat d with h|⟨e,c,h⟩
  ·subst h;cases hl
  ·rw[List.concat_eq_append]at h
   subst h
   rw[List.all_append,Bool.and_eq_true]at hd
   have hc:Zj c=true:=by simpa using hd.2
   rw[YQ]at hc
   rw[Tj,Om,ih e (by simpa using hl) hd.1]
   omega
theorem FB{d:List UInt8}(h0:d≠[])(hd:d.all Zj=true)(hl:d.length<=9):ZU ⟨d⟩=(Xk d,⟨false⟩):=by
 cases d with
 | nil=>exact absurd rfl h0
 | cons c r=>
  have h1:=hd
  simp only[List.all_cons,Bool.and_eq_true,YQ]at h1
  have hv:=BJ (c::r) 0 hd
  have hp:10 ^ (c::r).length<=10 ^ 9:=Nat.pow_le_pow_right (by omega) hl
  have hpm:=Jb (c::r) 0 hd (by omega)
  have hat:Lib.atoiAll (c::r) = .ok (Ua 0 (c::r):Int):=by
   have e1 : ¬ (c.toNat=43∨c.toNat=45):=by omega
   have e2 : ¬ c.toNat=45:=by omega
   simp only[Lib.atoiAll,if_neg e1,Lib.parseMag,if_neg (show ¬ (c::r=[]) by simp),hpm]
   rw[if_neg (by omega),if_neg (fun e=>e2 e.1),if_neg e2]
  simp only[ZU,hat]
  rw[EZ _ _ rfl hd]
theorem Ez(p:UInt8->Bool): ∀ r:List UInt8,(r.takeWhile p).all p=true
 | []=>rfl
 | c::r=>by
  rw[List.takeWhile_cons]
  split
  ·rename_i h;rw[List.all_cons,h,Ez p r];rfl
  ·rfl
theorem Mh(p:UInt8->Bool)(h0:p 0=false): ∀ r:List UInt8,p ((r.dropWhile p).headD 0)=false
 | []=>h0
 | c::r=>by
  rw[List.dropWhile_cons]
  split
  ·exact Mh p h0 r
  ·rename_i h;simpa using h
theorem Mx{l:Lin}{m:List (Str×Int)}{g:Int}(hg:g=1∨g = -1)(r:List UInt8)(hr:G8 l.t m)(hn:SC l.t)(hd:(ZR m).Nodup):JH l g (ZQ ⟨r,l.k,m⟩ g) (Z6 r):=by
 have hg1:Yd (g*1)=g:=by rcases hg with rfl|rfl <;> decide
 unfold ZQ Z6
 simp only
 cases r with
 | nil=>exact .inr ⟨rfl,.inl rfl⟩
 | cons c r=>
  rw[if_neg (by simp)]
  show JH l g (if Zj c=false then _ else _) _
  by_cases hc:Zj c=true
  ·have e1:(c::r).takeWhile Zj=c::r.takeWhile Zj:=by rw[List.takeWhile_cons,if_pos hc]
   have e2:(c::r).dropWhile Zj=r.dropWhile Zj:=by rw[List.dropWhile_cons,if_pos hc]
   have hall:(c::r.takeWhile Zj).all Zj=true:=by rw[List.all_cons,hc,Ez];rfl
   rw[if_neg (by simp[hc]),e1,e2]
   generalize r.takeWhile Zj=d at hall ⊢
   have hhead:=Mh Zj (by decide) r
   generalize r.dropWhile Zj=e at hhead ⊢
   have h0:(c::d)≠[]:=by simp
   by_cases hb:(c::d).length>7∨(c::d).length>1∧(c::d).headD 0=48
   ·rw[if_pos hb]
    have:KL (c::d)=false:=by
     unfold KL
     rcases hb with h|⟨h1,h2⟩
     ·rw[decide_eq_false (by omega)];simp
     ·have h2:c=48:=h2
      have hd0:d≠[]:=by rintro rfl;simp at h1
      subst h2
      rw[decide_eq_false (show ¬ ((48:UInt8)::d).head? ≠ some 48 by simp),decide_eq_false (show ¬ ((48:UInt8)::d)=[48] by simpa using hd0)]
      simp
    rw[if_pos this]
    exact .inr ⟨rfl,.inl rfl⟩
   ·rw[if_neg hb,if_neg h0]
    have ha:=FB h0 hall (by omega)
    have:KL (c::d)=true:=by
     unfold KL
     rw[ha,decide_eq_true (show(c::d).length<=7 by omega)]
     by_cases h48:c=48
     ·have:d=[]:=by
       cases d with
       | nil=>rfl
       | cons x d=>exact absurd (.inr ⟨by simp,h48⟩) hb
      subst this;subst h48
      rfl
     ·rw[decide_eq_true (show(c::d).head? ≠ some 48 by simpa using h48)];rfl
    rw[if_neg (by simp[this]),ha]
    exact Eb e hhead rfl hr hn hd
  ·have hc:Zj c=false:=by simpa using hc
   have e1:(c::r).takeWhile Zj=[]:=by rw[List.takeWhile_cons,if_neg (by simp[hc])]
   have e2:(c::r).dropWhile Zj=c::r:=by rw[List.dropWhile_cons,if_neg (by simp[hc])]
   rw[if_pos hc,e1,e2]
   have : ¬ (([]:List UInt8).length>7∨([]:List UInt8).length>1∧([]:List UInt8).headD 0=48):=by simp
   rw[if_neg this,if_pos rfl]
   exact Ga _ hg1 hr hn hd
theorem a1s: ∀ r:List UInt8,(ZN r).1.1=1∨(ZN r).1.1 = -1
 | []=>.inl rfl
 | c::r=>by
  by_cases h1:c=43
  ·subst h1;exact .inl rfl
  ·by_cases h2:c=45
   ·subst h2;exact .inr rfl
   ·have:ZN (c::r)=((1,false),c::r):=by
     show(if c=43 then _ else if c=45 then _ else _)=_
     rw[if_neg h1,if_neg h2]
    rw[this];exact .inl rfl
theorem Gp: ∀ (f:Nat) (t:List UInt8) (l:Lin) (m:List (Str×Int)) (g:Int),(g=1∨g = -1)->G8 l.t m->SC l.t->(ZR m).Nodup->XC f t l g=Q8 f t l.k m g
 | 0,_,_,_,_,_,_,_,_=>rfl
 | f+1,t,l,m,g,hg,hr,hn,hd=>by
  rw[XC,Q8]
  rcases Mx hg (Za t) hr hn hd with ⟨a1,a2,a3,a4,a5,a6,a7⟩|⟨a1,a2⟩
  ·rw[if_neg (show ¬ (Z6 (Za t)).1.2.2=false by simp[a2]),if_neg (show ¬ (ZQ ⟨Za t,l.k,m⟩ g).1=false by simp[a1]),a3]
   by_cases h1:Za (Z6 (Za t)).2=[]
   ·rw[if_pos h1,if_pos h1]
    unfold VK Xr
    have e:=Bc a5 a6 a7
    rw[<- e,a4]
   ·rw[if_neg h1,if_neg h1]
    by_cases h2:(ZN (Za (Z6 (Za t)).2)).1.2=false
    ·rw[if_pos h2,if_pos h2]
    ·rw[if_neg h2,if_neg h2,a4]
     exact Gp f _ _ _ _ (a1s _) a5 a6 a7
  ·rw[if_pos (show(ZQ ⟨Za t,l.k,m⟩ g).1=false from a1)]
   rcases a2 with a2|⟨y,a2⟩
   ·rw[if_pos a2]
   ·by_cases h:(Z6 (Za t)).1.2.2=false
    ·rw[if_pos h]
    ·have h1:Za (Z6 (Za t)).2=95::y:=by rw[a2];exact Y0 (by decide)
     rw[if_neg h,h1,if_neg (show ¬ (95::y:List UInt8)=[] by simp),if_pos (show(ZN (95::y)).1.2=false from rfl)]
theorem Kn(s:List UInt8):XC (s.length+1) (ZN (Za s)).2 ⟨0,[]⟩ (ZN (Za s)).1.1=Zn s:=
 Gp _ _ _ [] _ (a1s _) ⟨.nil,fun _=>rfl⟩ (fun t ht=>by cases ht) .nil
end Go.Pl

namespace Go.Pl
open Go.RowKit
open Enc (enc dec is)
open EncL (encL decL isL)
theorem XV{u:Nat}(h:u<10):Lib.decDigits u=[UInt8.ofNat (48+u)]:=by rw[Lib.decDigits,dif_pos h]
theorem BZ{u:Nat}(h : ¬ u<10):Lib.decDigits u=Lib.decDigits (u / 10)++[UInt8.ofNat (48+u % 10)]:=by rw[Lib.decDigits,dif_neg h]
theorem Hy: ∀ (k u:Nat),u<10 ^ (k+1)->(Lib.decDigits u).length<=k+1
 | 0,u,h=>by rw[XV (by simpa using h)];simp
 | k+1,u,h=>by
  by_cases hu:u<10
  ·rw[XV hu];simp
  ·rw[BZ hu,List.length_append,List.length_singleton]
   have:=Hy k (u / 10) (by rw[Nat.pow_succ]at h;omega)
   omega
theorem a4e: ∀ u:Nat,Xk (Lib.decDigits u)=u:=by
 intro u
 induction u using Nat.strongRecOn with
 | _ u ih=>
  by_cases hu:u<10
  ·rw[XV hu]
   show(10*0+(((UInt8.ofNat (48+u)).toNat:Int) - 48))=_
   rw[Rn (by omega)];omega
  ·rw[BZ hu,Tj,ih _ (by omega),Rn (by omega)];omega
theorem P8(u:Nat):(Lib.decDigits u).all Zj=true∧Lib.decDigits u≠[]∧((Lib.decDigits u).length>1->(Lib.decDigits u).headD 0≠48):=by
 by_cases h:1<=u
 ·obtain⟨a,b,c⟩:=DD u h
  refine⟨a,c,fun _ e=>b ?_⟩
  cases hd:Lib.decDigits u with
  | nil=>exact absurd hd c
  | cons x r=>rw[hd]at e;rw[List.head?_cons];exact congrArg some e
 ·obtain rfl:u=0:=by omega
  rw[XV (by omega)]
  exact⟨by decide,by simp,by simp⟩
def Yf(n:Nat)(v:List UInt8):List UInt8:=(if v=[]then Lib.decDigits n else if n>1 then Lib.decDigits n else [])++v
theorem BN{p:UInt8->Bool}{d x:List UInt8}(hd:d.all p=true)(hx:x=[]∨p (x.headD 0)=false):(d++x).takeWhile p=d∧(d++x).dropWhile p=x:=by
 induction d with
 | nil=>
  cases x with
  | nil=>exact⟨rfl,rfl⟩
  | cons c x=>
   have:p c=false:=by
    rcases hx with h|h
    ·cases h
    ·exact h
   rw[List.nil_append,List.takeWhile_cons,List.dropWhile_cons,this]
   exact⟨rfl,rfl⟩
 | cons c d ih=>
  rw[List.all_cons,Bool.and_eq_true]at hd
  rw[List.cons_append,List.takeWhile_cons,List.dropWhile_cons,hd.1]
  exact⟨by rw[if_pos rfl,(ih hd.2).1],by rw[if_pos rfl,(ih hd.2).2]⟩
theorem QU{v:List UInt8}(h:Zr ⟨v⟩=true): ∃ c w,v=c::w∧(ZT c||c==95)=true∧w.all AL=true∧v.length<=30:=by
 cases v with
 | nil=>cases h
 | cons c w=>
  have hl:=Ws h
  refine⟨c,w,rfl,?_,?_,hl⟩
  ·unfold Zr at h
   simp only at h
   by_cases h95:c=95
   ·subst h95;decide
   ·rw[if_neg h95]at h
    simp only[Bool.and_eq_true]at h
    rw[h.1.1];rfl
  ·unfold Zr at h
   simp only at h
   by_cases h95:c=95
   ·rw[if_pos h95]at h
    simp only[Bool.and_eq_true]at h
    have:=h.1.1.1
    rw[List.all_eq_true]at this ⊢
    intro x hx
    unfold AL
    rw[this x hx];rfl
   ·rw[if_neg h95]at h
    simp only[Bool.and_eq_true]at h
    have:=h.1.2
    rw[List.all_eq_true]at this ⊢
    intro x hx
    have:=this x hx
    unfold AL
    rw[Bool.or_comm];exact this
theorem Au{c:UInt8}(h:(ZT c||c==95)=true):Zj c=false∧Zv c=true∧c≠32∧c≠43∧c≠45:=by
 have hd:Zj c=false:=by
  cases hd:Zj c with
  | false=>rfl
  | true=>
   have h2:=Kj hd
   rw[YQ]at hd
   have:ZT c=false:=by
    unfold ZT
    rw[Bool.and_eq_false_iff]
    left
    rw[decide_eq_false_iff_not,UInt8.le_iff_toNat_le]
    have:(97:UInt8).toNat=97:=rfl
    omega
   rw[this,Bool.false_or]at h
   exact absurd (eq_of_beq h) h2
 refine⟨hd,by unfold Zv;rw[h];rfl,?_,?_,?_⟩ <;> (rintro rfl;revert h;decide)
def a4g(x:List UInt8):Prop:=x=[]∨x.headD 0=43∨x.headD 0=45
theorem PR{x:List UInt8}{p:UInt8->Bool}(h:a4g x)(h1:p 43=false)(h2:p 45=false):x=[]∨p (x.headD 0)=false:=by
 rcases h with h|h|h
 ·exact .inl h
 ·exact .inr (by rw[h];exact h1)
 ·exact .inr (by rw[h];exact h2)
theorem SY{v x:List UInt8}(k:Int)(h:Zr ⟨v⟩=true)(hx:a4g x):Ux k (v++x)=((k,v,true),x):=by
 obtain⟨c,w,rfl,hc,hw,_⟩:=QU h
 obtain⟨e1,e2⟩:=Ns c (w++x) (Au hc).2.1
 obtain⟨t1,t2⟩:=BN hw (PR (p:=AL) hx (by decide) (by decide))
 have e3:(c::(w++x)).drop (c::w).length=x:=by simp
 unfold Ux
 rw[List.cons_append,e1,t1,h,e3]
theorem Fw{n:Nat}{v x:List UInt8}(hn:n<=1000000)(hv:v=[]∨Zr ⟨v⟩=true∧1<=n)(hx:a4g x):Z6 (Yf n v++x)=(((n:Int),v,true),x):=by
 obtain⟨d1,d2,d3⟩:=P8 n
 have dl:=Hy 6 n (by omega)
 have dn:=a4e n
 have hb : ¬ ((Lib.decDigits n).length>7∨(Lib.decDigits n).length>1∧(Lib.decDigits n).headD 0=48):=by
  rintro(h|⟨h1,h2⟩)
  ·omega
  ·exact d3 h1 h2
 rcases hv with rfl|⟨hv,h1⟩
 ·have hbody:Yf n []=Lib.decDigits n:=by unfold Yf;rw[if_pos rfl,List.append_nil]
  rw[hbody]
  obtain⟨t1,t2⟩:=BN d1 (PR (p:=Zj) hx (by decide) (by decide))
  unfold Z6
  rw[t1,t2,if_neg hb,if_neg d2,dn]
  have hl:(ZT (x.headD 0)||x.headD 0==95)=false:=by
   rcases PR (p:=fun c=>ZT c||c==95) hx (by decide) (by decide)with h|h
   ·rw[h];decide
   ·exact h
  rw[if_neg (by rw[hl];decide)]
  unfold XT
  rcases hx with rfl|hx
  ·rfl
  ·cases x with
   | nil=>rfl
   | cons c x=>
    have hx:c=43∨c=45:=hx
    rw[Y0 (by rcases hx with rfl|rfl <;> decide)]
    simp only
    rw[if_neg (by rcases hx with rfl|rfl <;> decide)]
 ·obtain⟨c,w,rfl,hc,hw,_⟩:=QU hv
  have hcd:=(Au hc).1
  unfold Yf
  rw[if_neg (by simp),List.append_assoc]
  by_cases hn1:n>1
  ·rw[if_pos hn1]
   obtain⟨t1,t2⟩:=BN (x:=c::w++x) d1 (.inr hcd)
   unfold Z6
   rw[t1,t2,if_neg hb,if_neg d2,dn,if_pos (show(ZT ((c::w++x).headD 0)||(c::w++x).headD 0==95)=true from hc)]
   exact SY _ hv hx
  ·obtain rfl:n=1:=by omega
   rw[if_neg hn1,List.nil_append]
   obtain⟨t1,t2⟩:=BN (d:=[]) (x:=c::w++x) rfl (.inr hcd)
   rw[List.nil_append]at t1 t2
   unfold Z6
   rw[t1,t2,if_neg (by simp),if_pos rfl]
   exact SY _ hv hx
theorem Ji{n:Nat}{v:List UInt8}(hv:v=[]∨Zr ⟨v⟩=true): ∃ c w,Yf n v=c::w∧c≠32∧c≠43∧c≠45:=by
 have hdec : ∃ c w,Lib.decDigits n=c::w∧c≠32∧c≠43∧c≠45:=by
  obtain⟨d1,d2,_⟩:=P8 n
  cases hd:Lib.decDigits n with
  | nil=>exact absurd hd d2
  | cons c w=>
   rw[hd,List.all_cons,Bool.and_eq_true]at d1
   refine⟨c,w,rfl,?_,?_,?_⟩ <;> (rintro rfl;exact absurd d1.1 (by decide))
 obtain⟨c,w,hd,h⟩:=hdec
 unfold Yf
 rcases hv with rfl|hv
 ·exact⟨c,w,by rw[if_pos rfl,List.append_nil,hd],h⟩
 ·obtain⟨x,y,rfl,hc,_,_⟩:=QU hv
  rw[if_neg (by simp)]
  by_cases hn:n>1
  ·rw[if_pos hn]
   exact⟨c,w++x::y,by rw[hd];rfl,h⟩
  ·rw[if_neg hn]
   exact⟨x,y,rfl,(Au hc).2.2⟩
def sgI(c:Int):Int:=if c<0 then -1 else 1
def AC(c:Int):List UInt8:=if c<0 then [45]else [43]
def Ye:List (Int×List UInt8)->List UInt8
 | []=>[]
 | q::r=>AC q.1++(Yf q.1.natAbs q.2++Ye r)
def QQ:List (Int×List UInt8)->List UInt8
 | []=>[]
 | q::r=>(if q.1<0 then [45]else [])++(Yf q.1.natAbs q.2++Ye r)
def Rp(q:Int×List UInt8):Prop:=q.1.natAbs<=1000000∧(q.2=[]∨Zr ⟨q.2⟩=true∧1<=q.1.natAbs)
def QY(l:Lin)(q:Int×List UInt8):Lin:=if q.2=[]then⟨Yd (l.k+Yd q.1),l.t⟩else Wn l ⟨q.2⟩ (Yd q.1)
theorem MQ(r:List (Int×List UInt8)):a4g (Ye r):=by
 cases r with
 | nil=>exact .inl rfl
 | cons q r=>
  refine .inr ?_
  show((AC q.1++_).headD 0=43)∨_
  unfold Ye AC
  split
  ·exact .inr rfl
  ·exact .inl rfl
theorem a8e(c:Int):sgI c*(c.natAbs:Int)=c:=by unfold sgI;split <;> omega
theorem NW{q:Int×List UInt8}(h:Rp q):q.2=[]∨Zr ⟨q.2⟩=true:=by
 rcases h.2 with h|h
 ·exact .inl h
 ·exact .inr h.1
theorem a3c(c:Int)(x:List UInt8):ZN (AC c++x)=((sgI c,true),x):=by
 unfold AC sgI
 split
 ·rfl
 ·rfl
theorem JX: ∀ (r:List (Int×List UInt8)) (q:Int×List UInt8) (l:Lin) (f:Nat),r.length<f->Rp q->(∀ p∈r,Rp p)->XC f (Yf q.1.natAbs q.2++Ye r) l (sgI q.1)=VK (r.foldl QY (QY l q))
 | r,q,l,0,hf,_,_=>by omega
 | r,q,l,f+1,hf,hq,hr=>by
  obtain⟨c,w,hb,h32,_,_⟩:=Ji (n:=q.1.natAbs) (NW hq)
  have hbl:Za (Yf q.1.natAbs q.2++Ye r)=Yf q.1.natAbs q.2++Ye r:=by rw[hb,List.cons_append,Y0 h32]
  have hadd:Vs l (((q.1.natAbs:Int),q.2,true),Ye r) (sgI q.1)=QY l q:=by
   unfold Vs QY
   simp only
   rw[a8e]
  rw[XC,hbl,Fw hq.1 hq.2 (MQ r)]
  simp only
  rw[hadd,if_neg (by simp)]
  cases r with
  | nil=>rw[if_pos (show Za (Ye [])=[]from rfl)];rfl
  | cons p r=>
   have hp:=hr p (by simp)
   have ht:Za (Ye (p::r))=Ye (p::r):=by
    unfold Ye AC
    split
    ·exact Y0 (by decide)
    ·exact Y0 (by decide)
   rw[ht,if_neg (by unfold Ye AC;split <;> simp)]
   show(if (ZN (AC p.1++(Yf p.1.natAbs p.2++Ye r))).1.2=false then _ else XC f (ZN (AC p.1++(Yf p.1.natAbs p.2++Ye r))).2 _ (ZN (AC p.1++(Yf p.1.natAbs p.2++Ye r))).1.1)=_
   rw[a3c,if_neg (by simp)]
   rw[List.length_cons]at hf
   exact JX r p (QY l q) f (by omega) hp fun x hx=>hr x (by simp[hx])
theorem Si: ∀ r:List (Int×List UInt8),r.length<=(Ye r).length
 | []=>Nat.le_refl _
 | q::r=>by
  have:=Si r
  have h1:(AC q.1).length=1:=by unfold AC;split <;> rfl
  rw[Ye,List.length_append,List.length_append,List.length_cons,h1]
  omega
theorem Rw{q:Int×List UInt8}{r:List (Int×List UInt8)}(hq:Rp q)(hr : ∀ p∈r,Rp p):Zn (QQ (q::r))=VK (r.foldl QY (QY ⟨0,[]⟩ q)):=by
 obtain⟨c,w,hb,h32,h43,h45⟩:=Ji (n:=q.1.natAbs) (NW hq)
 have hs:(ZN (Za (QQ (q::r))))=((sgI q.1,decide (q.1<0)),Yf q.1.natAbs q.2++Ye r):=by
  show ZN (Za ((if q.1<0 then [45]else [])++(Yf q.1.natAbs q.2++Ye r)))=_
  unfold sgI
  by_cases hn:q.1<0
  ·rw[if_pos hn,if_pos hn,List.singleton_append,Y0 (by decide),decide_eq_true hn]
   rfl
  ·rw[if_neg hn,if_neg hn,List.nil_append,hb,List.cons_append,Y0 h32,decide_eq_false hn]
   show(if c=43 then _ else if c=45 then _ else _)=_
   rw[if_neg h43,if_neg h45]
 rw[<- Kn,hs]
 refine JX r q _ _ ?_ hq hr
 have:=Si r
 unfold QQ
 rw[List.length_append,List.length_append]
 omega
theorem NP(s:Str)(c:Int): ∀ {ts:List Coef},(∀ t∈ts,t.v.s<s.s)->YX s c false ts=ts++[⟨s,c⟩]
 | [],_=>rfl
 | t::r,h=>by
  have ht:=h t (by simp)
  have h1 : ¬ s.s<t.v.s:=fun h'=>List.lt_irrefl _ (List.lt_trans h' ht)
  have h2:t.v≠s:=fun e=>by rw[e]at ht;exact List.lt_irrefl _ ht
  rw[YX,decide_eq_false h1,if_neg h2]
  show([]:List Coef)++t::YX s c false r=_
  rw[NP s c fun u hu=>h u (by simp[hu])]
  rfl
theorem G7: ∀ (x pre:List Coef) (k:Int),Uu (pre++x)->SC (pre++x)->(∀ t∈x,Yd t.c=t.c∧t.v.s≠[])->(x.map fun t=>(t.c,t.v.s)).foldl QY ⟨k,pre⟩=⟨k,pre++x⟩
 | [],pre,k,_,_,_=>by simp
 | t::x,pre,k,ha,hn,hw=>by
  obtain⟨w1,w2⟩:=hw t (by simp)
  have e:QY ⟨k,pre⟩ (t.c,t.v.s)=⟨k,pre++[t]⟩:=by
   unfold QY
   simp only
   rw[if_neg w2,w1]
   unfold Wn
   simp only
   rw[NP ⟨t.v.s⟩ t.c (fun u hu=>(List.pairwise_append.1 ha).2.2 u hu t (by simp))]
   have:(pre++[(⟨⟨t.v.s⟩,t.c⟩:Coef)]).filter (fun t=>decide (t.c≠0))=pre++[⟨⟨t.v.s⟩,t.c⟩]:=by
    refine List.filter_eq_self.2 fun u hu=>decide_eq_true ?_
    rcases List.mem_append.1 hu with hu|hu
    ·exact hn u (by simp[hu])
    ·have:u=⟨⟨t.v.s⟩,t.c⟩:=by simpa using hu
     subst this
     exact hn t (by simp)
   rw[this]
  rw[List.map_cons,List.foldl_cons,e,G7 x (pre++[t]) k (by rw[List.append_assoc];exact ha) (by rw[List.append_assoc];exact hn) (fun u hu=>hw u (by simp[hu])),List.append_assoc]
  rfl
theorem Rh:Lib.trimSuffix [49] [49]=[]∧Lib.trimSuffix [45,49] [49]=[45]:=by constructor <;> decide
theorem Qi{n:Int}(h:n<0):(ZC n).s=45::Lib.decDigits n.natAbs:=by
 show Lib.itoa n=_
 unfold Lib.itoa;rw[if_pos h]
theorem Y7{n:Int}(h : ¬ n<0):(ZC n).s=Lib.decDigits n.natAbs:=by
 show Lib.itoa n=_
 unfold Lib.itoa
 rw[if_neg h]
 congr 1
 omega
theorem Hw{o s:List UInt8}{n:Int}(hs:s≠[])(hn:n≠0):Z4 o n s=o++((if n<0 then [45]else if o=[]then []else [43])++Yf n.natAbs s):=by
 unfold Z4 Yf
 rw[if_neg hs,decide_eq_true hs,Bool.true_and]
 by_cases h:n<0
 ·rw[decide_eq_false (show ¬ n ≥ 0 by omega),Bool.false_and,if_neg (by simp),if_pos h,Qi h]
  by_cases h1:n = -1
  ·subst h1
   rw[if_pos (by decide),if_neg (by decide),show(-1:Int).natAbs=1 from rfl,XV (by omega)]
   show o++(Lib.trimSuffix [45,49] [49]++s)=_
   rw[Rh.2];rfl
  ·rw[decide_eq_false h1,decide_eq_false (show ¬ n=1 by omega),if_neg (by simp),if_pos (by omega)]
   simp
 ·rw[decide_eq_true (show n ≥ 0 by omega),Bool.true_and,if_neg h,Y7 h]
  have e:(if decide (o≠[])=true then o++[43]else o)=o++(if o=[]then []else [43]):=by
   by_cases ho:o=[]
   ·rw[if_neg (by simpa using ho),if_pos ho,List.append_nil]
   ·rw[if_pos (by simpa using ho),if_neg ho]
  rw[e]
  generalize (if o=[]then []else [43]:List UInt8)=z
  by_cases h1:n=1
  ·subst h1
   rw[if_pos (show(decide ((1:Int)=1)||decide ((1:Int) = -1))=true by decide),if_neg (show ¬ (1:Int).natAbs>1 by decide),show(1:Int).natAbs=1 from rfl,XV (by omega)]
   show o++z++(Lib.trimSuffix [49] [49]++s)=_
   rw[Rh.1];simp
  ·rw[decide_eq_false h1,decide_eq_false (show ¬ n = -1 by omega),if_neg (show ¬ ((false||false)=true) by simp),if_pos (show n.natAbs>1 by omega)]
   simp
theorem Af(o:List UInt8)(n:Int):Z4 o n []=o++((if n<0 then [45]else if o=[]then []else [43])++Yf n.natAbs []):=by
 unfold Z4 Yf
 rw[if_pos rfl,decide_eq_false (show ¬ ([]:List UInt8)≠[] by simp),Bool.false_and,if_neg (show ¬ (false=true) by simp)]
 by_cases h:n<0
 ·rw[decide_eq_false (show ¬ n ≥ 0 by omega),Bool.false_and,if_neg (show ¬ (false=true) by simp),if_pos h,Qi h]
  simp
 ·rw[decide_eq_true (show n ≥ 0 by omega),Bool.true_and,if_neg h,Y7 h]
  have e:(if decide (o≠[])=true then o++[43]else o)=o++(if o=[]then []else [43]):=by
   by_cases ho:o=[]
   ·rw[if_neg (by simpa using ho),if_pos ho,List.append_nil]
   ·rw[if_pos (by simpa using ho),if_neg ho]
  rw[e];simp
theorem H6: ∀ (x:List Coef) (o:List UInt8),o≠[]->(∀ t∈x,t.c≠0∧t.v.s≠[])->x.foldl (fun o t=>Z4 o t.c t.v.s) o=o++Ye (x.map fun t=>(t.c,t.v.s))
 | [],o,_,_=>by simp[Ye]
 | t::x,o,ho,h=>by
  obtain⟨h1,h2⟩:=h t (by simp)
  rw[List.foldl_cons,Hw h2 h1,if_neg ho]
  have:(if t.c<0 then [45]else [43]:List UInt8)=AC t.c:=rfl
  rw[this,H6 x _ (by simp[ho]) fun u hu=>h u (by simp[hu]),List.map_cons,Ye]
  simp
theorem ED(a b:List (Int×List UInt8)):Ye (a++b)=Ye a++Ye b:=by
 induction a with
 | nil=>rfl
 | cons q a ih=>rw[List.cons_append,Ye,Ye,ih];simp
def Wh(l:Lin):List (Int×List UInt8):=(l.t.map fun t=>(t.c,t.v.s))++if decide (l.k≠0)||l.t.isEmpty then [(l.k,[])]else []
theorem G6{l:Lin}(h:Zh l=true): ∀ t∈l.t,t.c≠0∧t.v.s≠[]:=fun t ht=>by
 obtain⟨a,b,_⟩:=Yh h ht
 refine⟨b,fun e=> ?_⟩
 have:t.v=⟨[]⟩:=by cases hv:t.v;rw[hv]at e;simp at e;rw[e]
 rw[this]at a;cases a
theorem Mo{n:Nat}{v:List UInt8}(hv:v=[]∨Zr ⟨v⟩=true):Yf n v≠[]:=by
 obtain⟨c,w,h,_⟩:=Ji (n:=n) hv
 rw[h];simp
theorem G9{l:Lin}(h:Zh l=true):Zx l=QQ (Wh l):=by
 have hn:=G6 h
 unfold Zx Wh UD
 rw[if_pos h]
 cases ht:l.t with
 | nil=>
  rw[List.foldl_nil,decide_eq_true (show([]:List UInt8)=[]from rfl),Bool.or_true,if_pos rfl,Af]
  show _=QQ (([]:List (Int×List UInt8))++if (decide (l.k≠0)||true)=true then [(l.k,[])]else [])
  rw[Bool.or_true,if_pos rfl]
  show _=(if l.k<0 then [45]else [])++(Yf l.k.natAbs []++[])
  rw[List.append_nil,List.nil_append]
 | cons t x=>
  rw[ht]at hn
  have h1:=hn t (by simp)
  have hv:Zr t.v=true:=(Yh h (by rw[ht];simp)).1
  rw[List.foldl_cons,Hw h1.2 h1.1,List.nil_append,if_pos rfl]
  have hne:((if t.c<0 then [45]else [])++Yf t.c.natAbs t.v.s:List UInt8)≠[]:=by
   intro e
   exact Mo (.inr hv) (List.append_eq_nil_iff.1 e).2
  rw[H6 x _ hne fun u hu=>hn u (by simp[hu])]
  have hne2 : ¬ ((if t.c<0 then [45]else [])++Yf t.c.natAbs t.v.s++Ye (x.map fun t=>(t.c,t.v.s)):List UInt8)=[]:=fun e=>hne (List.append_eq_nil_iff.1 e).1
  rw[decide_eq_false hne2,Bool.or_false]
  show _=QQ (((t.c,t.v.s)::x.map fun t=>(t.c,t.v.s))++if (decide (l.k≠0)||false)=true then [(l.k,[])]else [])
  rw[Bool.or_false]
  by_cases hk:l.k=0
  ·rw[decide_eq_false (show ¬ l.k≠0 from fun h=>h hk),if_neg (show ¬ (false=true) by simp),if_neg (show ¬ (false=true) by simp),List.append_nil,QQ,List.append_assoc]
  ·rw[decide_eq_true hk,if_pos (show true=true from rfl),if_pos (show true=true from rfl),Af,if_neg hne2,List.cons_append,QQ,ED]
   have:(if l.k<0 then [45]else [43]:List UInt8)=AC l.k:=rfl
   rw[this]
   simp[Ye]
theorem Sd{l:Lin}(h:Zh l=true): ∀ q∈Wh l,Rp q:=by
 intro q hq
 unfold Wh at hq
 rcases List.mem_append.1 hq with hq|hq
 ·obtain⟨t,ht,rfl⟩:=List.mem_map.1 hq
  obtain⟨a,b,c,d⟩:=Yh h ht
  exact⟨by show t.c.natAbs<=_;omega,.inr ⟨a,by show 1<=t.c.natAbs;omega⟩⟩
 ·have hk:=Kr h
  split at hq
  ·have:q=(l.k,[]):=by simpa using hq
   subst this
   exact⟨by show l.k.natAbs<=_;omega,.inl rfl⟩
  ·cases hq
theorem Ru{l:Lin}(h:Zh l=true):(Wh l).foldl QY ⟨0,[]⟩=l:=by
 have hk:=Kr h
 have ht:=G7 l.t [] 0 (Jn h) (TG h) fun t ht=>⟨OH h t ht,(G6 h t ht).2⟩
 rw[List.nil_append]at ht
 unfold Wh
 rw[List.foldl_append,ht]
 by_cases h0:l.k=0
 ·by_cases he:l.t.isEmpty=true
  ·rw[he,Bool.or_true,if_pos rfl]
   show QY ⟨0,l.t⟩ (l.k,[])=l
   unfold QY
   rw[if_pos rfl,h0]
   cases l
   simp only at h0 ⊢
   rw[h0];rfl
  ·rw[decide_eq_false (by simpa using h0),Bool.false_or,if_neg he]
   cases l
   simp only at h0 ⊢
   rw[h0];rfl
 ·rw[decide_eq_true h0,Bool.true_or,if_pos rfl]
  show QY ⟨0,l.t⟩ (l.k,[])=l
  unfold QY
  rw[if_pos rfl]
  show(⟨Yd (0+Yd l.k),l.t⟩:Lin)=l
  rw[Int.zero_add,Js,VD (by omega) (by omega)]
theorem Qb{l:Lin}(h:Zh l=true):Zn (Zx l)=(l,0):=by
 rw[G9 h]
 have hok:=Sd h
 have hf:=Ru h
 cases hi:Wh l with
 | nil=>
  exfalso
  have : ∃ q,q∈Wh l:=by
   unfold Wh
   cases ht:l.t with
   | nil=>exact⟨(l.k,[]),by simp⟩
   | cons t x=>exact⟨(t.c,t.v.s),by simp⟩
  obtain⟨q,hq⟩:=this
  rw[hi]at hq;cases hq
 | cons q r=>
  rw[hi]at hok hf
  rw[Rw (hok q (by simp)) fun p hp=>hok p (by simp[hp])]
  rw[List.foldl_cons]at hf
  rw[hf]
  unfold VK
  rw[if_pos h]
theorem GJ{n:Nat}{v:List UInt8}(hn:n<=1000000)(hv:v.length<=30):(Yf n v).length<=37:=by
 have:=Hy 6 n (by omega)
 unfold Yf
 rw[List.length_append]
 split
 ·omega
 ·split
  ·omega
  ·rw[List.length_nil];omega
theorem Cc: ∀ r:List (Int×List UInt8),(∀ q∈r,Rp q)->(Ye r).length<=r.length*38
 | [],_=>by simp[Ye]
 | q::r,h=>by
  have h1:=Cc r fun p hp=>h p (by simp[hp])
  have hq:=h q (by simp)
  have hl:q.2.length<=30:=by
   rcases hq.2 with e|⟨e,_⟩
   ·rw[e];simp
   ·exact Ws e
  have h2:=GJ hq.1 hl
  have h3:(AC q.1).length=1:=by unfold AC;split <;> rfl
  rw[Ye,List.length_append,List.length_append,h3,List.length_cons]
  omega
theorem CJ(l:Lin):(Zx l).length<=1000:=by
 by_cases h:Zh l=true
 ·rw[G9 h]
  have hok:=Sd h
  have hv:=YR h
  have hl:(Wh l).length<=13:=by
   unfold Wh
   rw[List.length_append,List.length_map]
   split
   ·simp;omega
   ·simp;omega
  have ht:=Cc _ hok
  have:(QQ (Wh l)).length<=(Ye (Wh l)).length:=by
   cases Wh l with
   | nil=>exact Nat.le_refl _
   | cons q r=>
    rw[QQ,Ye]
    simp only[List.length_append]
    have:(if q.1<0 then [45]else []:List UInt8).length<=(AC q.1).length:=by unfold AC;split <;> simp
    omega
  omega
 ·unfold Zx
  rw[if_neg h];simp
end Go.Pl

namespace Go.Pl
open Go.RowKit
open Enc (enc dec is)
open EncL (encL decL isL)
theorem U9{n:Int}(h:n.natAbs<=1000000000):(ZC n).s.length<=11:=by
 have:=Hy 9 n.natAbs (by omega)
 by_cases hn:n<0
 ·rw[Qi hn,List.length_cons];omega
 ·rw[Y7 hn];omega
theorem EX{m:Nat}(h:m<10):List.drop m (List.take (m+1) [(48:UInt8),(49:UInt8),(50:UInt8),(51:UInt8),(52:UInt8),(53:UInt8),(54:UInt8),(55:UInt8),(56:UInt8),(57:UInt8)])=[UInt8.ofNat (48+m)]:=by
 revert h
 revert m
 decide
theorem Fp(N:Nat): ∀ a:Int×Unit,((decide ((-1000000000:Int)<=a.1)&&decide (a.1<=1000000000))&&decide (Na a.1<N+1))=true->Zi (Bg N) 0 (Ze GR (ZI (ZC a.1))) Dx [] (Xz Eh (encL a)):=by
 rintro⟨n,⟨⟩⟩ h
 simp only[Bool.and_eq_true,decide_eq_true_eq]at h
 obtain⟨⟨h1,h2⟩,h3⟩:=h
 unfold Na at h3
 have hpre : ∀ k:Int,-1000000000<=k->k<=1000000000->Na k<N->Go.Pl.preT (fun(x:Int×Unit)=>decide ((-1000000000:Int)<=Prod.fst x)&&decide (Prod.fst x<=1000000000)&&decide (Na (Prod.fst x)<N)) [(.int .i64 k)]=true:=fun k a b c=>Zo (k,()) rfl (by rw[decide_eq_true a,decide_eq_true b,decide_eq_true c];rfl)
 refine a3i N n (XR (fun hn=> ?_) fun hn=>XR (fun h10=> ?_) fun h10=> ?_)
 ·rw[Q6 (by omega) (by omega)]
  refine⟨hpre _ (by omega) (by omega) (by unfold Na;rw[if_pos hn]at h3;rw[if_neg (by omega)];omega),Zl (-n,()) rfl ⟨?_,?_⟩⟩
  ·have:=U9 (n:= -n) (by omega)
   exact decide_eq_true (by simp only[List.length_singleton];omega)
  ·refine Yx (x:=(⟨[(45:UInt8)]++(ZC (-n)).s⟩:Str)) ?_
   show(⟨[(45:UInt8)]++(ZC (-n)).s⟩:Str)=⟨(ZC n).s⟩
   rw[Y7 (n:= -n) (by omega),Qi hn,Int.natAbs_neg];rfl
 ·obtain⟨m,rfl⟩ : ∃ m:Nat,n=m:=⟨n.toNat,by omega⟩
  have hm:m<10:=by omega
  rw[Q6 (by omega) (by omega)]
  have e1:((m:Int)+1).toNat=m+1:=by omega
  refine⟨?_,?_⟩
  ·rw[e1,Int.toNat_natCast,decide_eq_true (show(0:Int)<=m by omega),decide_eq_true (show(0:Int)<=(m:Int)+1 by omega),decide_eq_true (show m<=m+1 by omega)]
   exact decide_eq_true (by simp only[List.length_cons,List.length_nil];omega)
  ·rw[e1,Int.toNat_natCast,EX hm]
   refine Yx (x:=(⟨[UInt8.ofNat (48+m)]⟩:Str)) ?_
   show(⟨[UInt8.ofNat (48+m)]⟩:Str)=⟨(ZC (m:Int)).s⟩
   rw[Y7 (by omega),Int.natAbs_natCast,XV hm]
 ·obtain⟨m,rfl⟩ : ∃ m:Nat,n=m:=⟨n.toNat,by omega⟩
  have e1:Int.tdiv (m:Int) 10=((m / 10:Nat):Int):=by rw[Int.tdiv_eq_ediv_of_nonneg (by omega)];omega
  have e2:Int.tmod (m:Int) 10=((m % 10:Nat):Int):=by rw[Int.tmod_eq_emod_of_nonneg (by omega)];omega
  rw[e1,e2,Q6 (by omega) (by omega)]
  rw[if_neg (by omega)]at h3
  have i1:Na ((m / 10:Nat):Int)<N:=by unfold Na;rw[if_neg (by omega)];omega
  have i2:Na ((m % 10:Nat):Int)<N:=by unfold Na;rw[if_neg (by omega)];omega
  have l1:=U9 (n:=((m / 10:Nat):Int)) (by omega)
  have l2:=U9 (n:=((m % 10:Nat):Int)) (by omega)
  refine⟨hpre _ (by omega) (by omega) i1,Zl (((m / 10:Nat):Int),()) rfl ⟨hpre _ (by omega) (by omega) i2,Zl (((m % 10:Nat):Int),()) rfl ⟨decide_eq_true (by dsimp only;omega),?_⟩⟩⟩
  refine Yx (x:=(⟨(ZC ((m / 10:Nat):Int)).s++(ZC ((m % 10:Nat):Int)).s⟩:Str)) ?_
  show(⟨(ZC ((m / 10:Nat):Int)).s++(ZC ((m % 10:Nat):Int)).s⟩:Str)=⟨(ZC (m:Int)).s⟩
  rw[Y7 (by omega),Y7 (by omega),Y7 (by omega),Int.natAbs_natCast,Int.natAbs_natCast,Int.natAbs_natCast,BZ (u:=m) (by omega),XV (u:=m % 10) (by omega)]
theorem LJ{o s:List UInt8}{n:Int}(hs:s≠[])(hn:n≠0)(h1:n.natAbs<=1000000)(h2:s.length<=30):(Z4 o n s).length<=o.length+40:=by
 have:=GJ (v:=s) h1 h2
 rw[Hw hs hn,List.length_append,List.length_append]
 have:(if n<0 then [45]else if o=[]then []else [43]:List UInt8).length<=1:=by split;exact Nat.le_refl _;split <;> simp
 omega
theorem TD(l:Lin)(hv:Zh l=true): ∀ (d i:Nat) (o:List UInt8),d+i=l.t.length->o=UD (l.t.take i)->o.length<=40*i->(o=[] ↔ i=0) ->
  At YW 0 (Ze Yo (ZI (⟨Zx l⟩:Str))) Yn 0 69 [(1,.ptr 0 0),(3,.pv (.str o)),(4,.pv (.int .i64 i))] [.obj (.box [.pv (.int .i64 l.k),.pv (enc l.t)])]:=by
 have hk:=Kr hv
 have hlen:=YR hv
 intro d
 induction d with
 | zero=>
  intro i o hi ho hl h0
  have hi:i=l.t.length:=by omega
  rw[List.take_of_length_le (by omega)]at ho
  have hpk : ∀ k:Int,k=l.k->Go.Pl.preT (fun(x:Int×Unit)=>decide ((-1000000000:Int)<=Prod.fst x)&&decide (Prod.fst x<=1000000000)) [(.int .i64 k)]=true:=fun k e=>Zo (k,()) rfl (by rw[decide_eq_true (show(-1000000000:Int)<=k by omega),decide_eq_true (show k<=1000000000 by omega)];rfl)
  have hil:=U9 (n:=l.k) (by omega)
  have hR:Zx l=if decide (l.k≠0)||decide (o=[])then Z4 o l.k []else o:=by
   unfold Zx
   rw[if_pos hv,<- ho]
  refine Ck l o i (XI (Cz (by omega)) (D9 (fun hz=> ?_) fun hz=> ?_))
  ·have hz:i=0:=by
    simp only[List.length_map,beq_iff_eq]at hz
    omega
   have ho0:=h0.2 hz
   refine⟨hpk _ rfl,Zl (l.k,()) rfl (Yx (x:=ZC l.k) ?_)⟩
   show(⟨(ZC l.k).s⟩:Str)=⟨Zx l⟩
   rw[hR,decide_eq_true ho0,Bool.or_true,if_pos rfl,ho0]
   congr 1
   unfold Z4
   rw[decide_eq_false (show ¬ ([]:List UInt8)≠[] by simp),Bool.and_false,Bool.false_and,if_neg (by simp),if_neg (by simp)]
   simp
  ·have hi0:i≠0:=by
    simp only[List.length_map,beq_iff_eq]at hz
    omega
   have ho0:o≠[]:=fun e=>hi0 (h0.1 e)
   rw[decide_eq_false ho0,Bool.or_false]at hR
   have hlo:o.length<=40*12:=by omega
   refine XR (fun hp=>⟨decide_eq_true (by simp only[List.length_singleton];omega),D9 (fun hn=> ?_) fun hn=> ?_⟩) fun hp=>D9 (fun hn=> ?_) fun hn=> ?_
   ·refine⟨hpk _ rfl,Zl (l.k,()) rfl ⟨decide_eq_true (by simp only[List.length_append,List.length_singleton];omega),?_⟩⟩
    refine Yx (x:=(⟨o++[(43:UInt8)]++(ZC l.k).s⟩:Str)) ?_
    rw[hR,decide_eq_true (by omega),if_pos rfl,Af,if_neg (by omega),if_neg ho0,Y7 (by omega)]
    unfold Yf
    rw[if_pos rfl];simp
   ·exact absurd hp (by have : l.k = 0 := by simpa using hn
              omega)
   ·have hn:l.k≠0:=by simpa using hn
    refine⟨hpk _ rfl,Zl (l.k,()) rfl ⟨decide_eq_true (by dsimp only;omega),?_⟩⟩
    refine Yx (x:=(⟨o++(ZC l.k).s⟩:Str)) ?_
    rw[hR,decide_eq_true hn,if_pos rfl,Af,if_pos (by omega),Qi (by omega)]
    unfold Yf
    rw[if_pos rfl];simp
   ·have hn:l.k=0:=by simpa using hn
    refine Yx (x:=(⟨o⟩:Str)) ?_
    rw[hR,decide_eq_false (by simpa using hn),if_neg (by simp)]
 | succ d ih=>
  intro i o hi ho hl h0
  have hlt:i<l.t.length:=by omega
  have hm:=List.getElem_mem hlt
  obtain⟨v1,v2,v3,v4⟩:=Yh hv hm
  have hs:=(G6 hv _ hm).2
  have hsl:l.t[i].v.s.length<=30:=Ws v1
  have hpl:=LJ (o:=o) hs v2 (by omega) hsl
  have hpe:=Hw (o:=o) hs v2
  have nxt : ∀ o',o'=Z4 o l.t[i].c l.t[i].v.s->At YW 0 (Ze Yo (ZI (⟨Zx l⟩:Str))) Yn 0 69 [(1,.ptr 0 0),(3,.pv (.str o')),(4,.pv (.int .i64 (IntKind.i64.wrap ((i:Int)+1))))] [.obj (.box [.pv (.int .i64 l.k),.pv (enc l.t)])]:=by
   intro o' e
   rw[next (by omega)]
   refine ih (i+1) o' (by omega) ?_ (by rw[e];omega) ⟨fun h=> ?_,fun h=>by omega⟩
   ·rw[e,ho,List.take_succ_eq_append_getElem hlt]
    unfold UD
    rw[List.foldl_append];rfl
   ·rw[e,hpe]at h
    exact absurd (List.append_eq_nil_iff.1 (List.append_eq_nil_iff.1 h).2).2 (Mo (.inr v1))
  have hcn:=GJ (v:=l.t[i].v.s) (n:=l.t[i].c.natAbs) (by omega) hsl
  have hpk : ∀ k:Int,k.natAbs<=1000000->Go.Pl.preT (fun(x:Int×Unit)=>decide ((-1000000000:Int)<=Prod.fst x)&&decide (Prod.fst x<=1000000000)) [(.int .i64 k)]=true:=fun k e=>Zo (k,()) rfl (by rw[decide_eq_true (show(-1000000000:Int)<=k by omega),decide_eq_true (show k<=1000000000 by omega)];rfl)
  have hil : ∀ k:Int,k.natAbs<=1000000->(ZC k).s.length<=11:=fun k e=>U9 (by omega)
  refine Ck l o i (YF (Cn hlt) ⟨XD hlt rfl,WT hlt ?_⟩)
  refine XR (fun hn=> ?_) fun hn=> ?_
  ·have hn:l.t[i].c<0:=hn
   have hw:IntKind.i64.wrap (-l.t[i].c) = -l.t[i].c:=Q6 (by omega) (by omega)
   refine⟨decide_eq_true (by simp only[List.length_singleton];omega),?_⟩
   show if decide (IntKind.i64.wrap (-l.t[i].c)>1)=true then _ else _
   refine XR (fun h1=> ?_) fun h1=> ?_
   ·rw[hw]at h1
    show Go.Pl.preT _ [(.int .i64 (IntKind.i64.wrap (-l.t[i].c)))]=true∧(∃ y1:Str,AV.pv (Zk _ [(.int .i64 (IntKind.i64.wrap (-l.t[i].c)))])=AV.pv (enc y1)∧_)
    rw[hw]
    have hi1:=hil (-l.t[i].c) (by omega)
    refine⟨hpk _ (by omega),Zl (-l.t[i].c,()) rfl ⟨decide_eq_true (by simp only[List.length_append,List.length_singleton];omega),decide_eq_true ?_,nxt _ ?_⟩⟩
    ·show(o++[(45:UInt8)]++(ZC (-l.t[i].c)).s).length+l.t[i].v.s.length<=_
     simp only[List.length_append,List.length_singleton];omega
    ·show o++[(45:UInt8)]++(ZC (-l.t[i].c)).s++l.t[i].v.s=_
     rw[hpe,if_pos hn,Y7 (by omega),Int.natAbs_neg]
     unfold Yf
     rw[if_neg hs,if_pos (by omega)];simp
   ·rw[hw]at h1
    refine⟨decide_eq_true ?_,nxt _ ?_⟩
    ·show(o++[(45:UInt8)]).length+l.t[i].v.s.length<=_
     simp only[List.length_append,List.length_singleton];omega
    ·show o++[(45:UInt8)]++l.t[i].v.s=_
     rw[hpe,if_pos hn]
     unfold Yf
     rw[if_neg hs,if_neg (by omega)];simp
  ·have hn : ¬ l.t[i].c<0:=hn
   refine XR (fun hi0=>⟨decide_eq_true (by simp only[List.length_singleton];omega),?_⟩) fun hi0=> ?_
   ·have ho0:o≠[]:=fun e=>by have:=h0.1 e;omega
    show if decide (l.t[i].c>1)=true then _ else _
    refine XR (fun h1=> ?_) fun h1=> ?_
    ·have hi1:=hil l.t[i].c (by omega)
     refine⟨hpk l.t[i].c (by omega),Zl (l.t[i].c,()) rfl ⟨decide_eq_true (by simp only[List.length_append,List.length_singleton];omega),decide_eq_true ?_,nxt _ ?_⟩⟩
     ·show(o++[(43:UInt8)]++(ZC l.t[i].c).s).length+l.t[i].v.s.length<=_
      simp only[List.length_append,List.length_singleton];omega
     ·show o++[(43:UInt8)]++(ZC l.t[i].c).s++l.t[i].v.s=_
      rw[hpe,if_neg hn,if_neg ho0,Y7 (by omega)]
      unfold Yf
      rw[if_neg hs,if_pos (by omega)];simp
    ·refine⟨decide_eq_true ?_,nxt _ ?_⟩
     ·show(o++[(43:UInt8)]).length+l.t[i].v.s.length<=_
      simp only[List.length_append,List.length_singleton];omega
     ·show o++[(43:UInt8)]++l.t[i].v.s=_
      rw[hpe,if_neg hn,if_neg ho0]
      unfold Yf
      rw[if_neg hs,if_neg (by omega)];simp
   ·have ho0:o=[]:=h0.2 (by omega)
    show if decide (l.t[i].c>1)=true then _ else _
    refine XR (fun h1=> ?_) fun h1=> ?_
    ·have hi1:=hil l.t[i].c (by omega)
     refine⟨hpk l.t[i].c (by omega),Zl (l.t[i].c,()) rfl ⟨decide_eq_true (by dsimp only;omega),decide_eq_true ?_,nxt _ ?_⟩⟩
     ·show(o++(ZC l.t[i].c).s).length+l.t[i].v.s.length<=_
      simp only[List.length_append];omega
     ·show o++(ZC l.t[i].c).s++l.t[i].v.s=_
      rw[hpe,if_neg hn,if_pos ho0,Y7 (by omega)]
      unfold Yf
      rw[if_neg hs,if_pos (by omega)];simp
    ·refine⟨decide_eq_true ?_,nxt _ ?_⟩
     ·show o.length+l.t[i].v.s.length<=_
      omega
     ·show o++l.t[i].v.s=_
      rw[hpe,if_neg hn,if_pos ho0]
      unfold Yf
      rw[if_neg hs,if_neg (by omega)];simp
theorem RN: ∀ x:Lin×Unit,Zu x.1=true->Zi YW 0 (Ze Yo (ZI (⟨Zx x.1⟩:Str))) Yn [] (Xz Lh (encL x)):=by
 rintro⟨l,⟨⟩⟩ h
 have hok:Zz l=true:=by
  unfold Zu at h
  rw[Bool.and_eq_true]at h;exact h.1
 refine Es l ⟨Zo (l,()) rfl hok,Zl (l,()) rfl (Ww (fun hv=> ?_) fun hv=> ?_)⟩
 ·refine Yx (x:=(⟨[]⟩:Str)) ?_
  have hv:Zh l=false:=hv
  show(⟨[]⟩:Str)=⟨Zx l⟩
  unfold Zx
  rw[if_neg (by simp[hv])]
 ·exact TD l hv l.t.length 0 [] rfl rfl (by simp) (by simp)
theorem FW{s r:List UInt8}(h:r <:+ s):s.drop (s.length - r.length)=r:=(List.suffix_iff_eq_drop.1 h).symm
theorem BU(k:Int)(r:List UInt8):(Ux k r).2 <:+ r:=List.drop_suffix _ _
theorem a0k(r:List UInt8):(Z6 r).2 <:+ r:=by
 have h1:r.dropWhile Zj <:+ r:=List.dropWhile_suffix _
 have h2 : ∀ (k:Int) (q:List UInt8),(XT k q).2 <:+ q:=by
  intro k q
  unfold XT
  have hb:Za q <:+ q:=List.dropWhile_suffix _
  cases he:Za q with
  | nil=>exact List.suffix_refl _
  | cons c t=>
   simp only
   rw[he]at hb
   have ht:Za t <:+ q:=(List.dropWhile_suffix _).trans ((List.suffix_cons c t).trans hb)
   split
   ·split
    ·exact ht
    ·exact(BU _ _).trans ht
   ·exact List.suffix_refl _
 unfold Z6
 split
 ·exact h1
 ·split
  ·exact(BU _ _).trans h1
  ·split
   ·exact(BU _ _).trans h1
   ·exact(h2 _ _).trans h1
theorem a3f(s:List UInt8){q:Nat}(hq:q<=s.length): ∃ j:Nat,Av s q=j∧q<=j∧j<=s.length∧s.drop j=(Z6 (s.drop q)).2:=by
 have h:=a0k (s.drop q)
 have h2:(Z6 (s.drop q)).2 <:+ s:=h.trans (List.drop_suffix _ _)
 have hl:=h.length_le
 rw[List.length_drop]at hl
 refine⟨s.length - (Z6 (s.drop q)).2.length,?_,by omega,by omega,FW h2⟩
 unfold Av BA
 rw[VR]
 omega
theorem NR(s:List UInt8){q:Nat}(hq:q<=s.length):
  (HZ 45 s q=true->ZN (s.drop q)=((-1,true),s.drop (q+1))∧q+1<=s.length∧Y5 45 s q=((q+1:Nat):Int)) ∧
  (HZ 45 s q=false->Y5 45 s q=q∧(HZ 43 s q=true->ZN (s.drop q)=((1,true),s.drop (q+1))∧q+1<=s.length∧Y5 43 s q=((q+1:Nat):Int))∧(HZ 43 s q=false->ZN (s.drop q)=((1,false),s.drop q)∧Y5 43 s q=q)):=by
 by_cases hl:q<s.length
 ·have hc : ∀ {k:Nat} {c:UInt8},c.toNat=k->((s[q].toNat:Int)=k ↔ s[q]=c):=by
   intro k c hk
   rw[<- UInt8.toNat_inj]
   omega
  rw[WK hl]
  unfold Y5
  rw[GZ hl,GZ hl]
  have h45:((s[q].toNat:Int)=45 ↔ s[q]=45):=hc (c:=45) rfl
  have h43:((s[q].toNat:Int)=43 ↔ s[q]=43):=hc (c:=43) rfl
  refine⟨fun h=> ?_,fun h=>⟨by rw[if_neg (by rw[h];simp)],fun h2=> ?_,fun h2=> ?_⟩⟩
  ·have e:=h45.1 (of_decide_eq_true h)
   rw[if_pos h]
   refine⟨?_,by omega,by omega⟩
   show(if s[q]=43 then _ else if s[q]=45 then _ else _)=_
   rw[if_neg (by rw[e];decide),if_pos e]
  ·have e:=h43.1 (of_decide_eq_true h2)
   rw[if_pos h2]
   refine⟨?_,by omega,by omega⟩
   show(if s[q]=43 then _ else if s[q]=45 then _ else _)=_
   rw[if_pos e]
  ·rw[if_neg (by rw[h2];simp)]
   refine⟨?_,rfl⟩
   show(if s[q]=43 then _ else if s[q]=45 then _ else _)=_
   rw[if_neg fun e=>(of_decide_eq_false h2) (h43.2 e),if_neg fun e=>(of_decide_eq_false h) (h45.2 e)]
 ·unfold Y5
  rw[Ai hl,Ai hl,List.drop_of_length_le (by omega)]
  exact⟨fun h=>(by cases h),fun _=>⟨rfl,fun h=>(by cases h),fun _=>⟨rfl,rfl⟩⟩⟩
theorem FY(l:Lin)(z:(Int×List UInt8×Bool)×List UInt8)(g:Int):(Vs l z g).t.length<=l.t.length+1:=by
 unfold Vs
 split
 ·show l.t.length<=_;omega
 ·exact Ev _ _ _
theorem Re (s : List UInt8) (hs : s.length <= 400000) : ∀ (f i : Nat) (l : Lin) (p : PV) (g : Int), s.length < f + i -> i <= s.length -> is (List Coef) p = true -> (dec p : List Coef) = l.t -> l.t.length <= i -> ∀ R, R = XC f (s.drop i) l g ->
    At Yq 0 (Ze Ya (ZI R)) Yb 0 69 [(2,.ptr 0 0),(4,.ptr 1 0),(5,.ptr 2 0),(6,.pv (.int .i64 g))] [.obj (.box [.pv (.int .i64 0),.pv (.sl 0 true [])]),.obj (.box [.pv (.str s),.pv (.int .i64 i)]),.obj (.box [.pv (.int .i64 l.k),.pv p])]:=by
  intro f
  induction f with
  | zero=>intro i l p g h1 h2;omega
  | succ f ih=>
    intro i l p g h1 h2 hp1 hp2 hll R hR
    obtain⟨q,e1,q1,q2,q3⟩:=Uh s h2
    obtain⟨j,e2,j1,j2,j3⟩:=a3f s q2
    obtain⟨b,e3,b1,b2,b3⟩:=Uh s j2
    have hz:Z6 (Za (s.drop i))=Z6 (s.drop q):=by rw[q3]
    rw[XC,hz,<- j3,<- b3]at hR
    have hO:itO s q=(Z6 (s.drop q)).1.2.2:=rfl
    have hV:itV s q=(Z6 (s.drop q)).1.2.1:=rfl
    have hK:itK s q=(Z6 (s.drop q)).1.1:=rfl
    have hal:=FY l (Z6 (s.drop q)) g
    refine Fe s i l.k p g ⟨UN h2 (by omega),?_⟩
    rw[e1,e2,e3,hO,hV,hK]
    generalize hzz:Z6 (s.drop q)=z at hR hal
    refine⟨UN q2 (by omega),Ww (fun hok=> ?_) fun hok=> ?_⟩
    · rw[if_pos hok]at hR
      rw[hR]
      exact Yx (x:=((⟨0,[]⟩:Lin),(6:Int))) rfl
    · rw[if_neg (by rw[hok];simp)]at hR
      -- the sign that follows
      have hsgn : ∀ (L' : Lin) (p' : PV), L' = Vs l z g -> is (List Coef) p' = true -> (dec p' : List Coef) = L'.t -> ¬ s.drop b = [] ->
          YA [(.ptr 0 0),(.pv (.int .u8 45))] [(.box [(.pv (.str s)),(.pv (.int .i64 (b:Nat)))])]=true ∧
          (if HZ 45 s b=true then At Yq 0 (Ze Ya (ZI R)) Yb 0 69 [(2,.ptr 0 0),(4,.ptr 1 0),(5,.ptr 2 0),(6,.pv (.int .i64 (-1)))] [.obj (.box [.pv (.int .i64 0),.pv (.sl 0 true [])]),.obj (.box [.pv (.str s),.pv (.int .i64 (Y5 45 s b))]),.obj (.box [.pv (.int .i64 L'.k),.pv p'])]
           else YA [(.ptr 0 0),(.pv (.int .u8 43))] [(.box [(.pv (.str s)),(.pv (.int .i64 (Y5 45 s b)))])]=true ∧
            (if HZ 43 s (Y5 45 s b)=true then At Yq 0 (Ze Ya (ZI R)) Yb 0 69 [(2,.ptr 0 0),(4,.ptr 1 0),(5,.ptr 2 0),(6,.pv (.int .i64 1))] [.obj (.box [.pv (.int .i64 0),.pv (.sl 0 true [])]),.obj (.box [.pv (.str s),.pv (.int .i64 (Y5 43 s (Y5 45 s b)))]),.obj (.box [.pv (.int .i64 L'.k),.pv p'])]
             else ZI R (.tup [(.agg [(.int .i64 0),(.sl 0 true [])]),(.int .i64 6)]))):=by
        intro L' p' hL hq1 hq2 hne
        obtain⟨s1,s2⟩:=NR s b2
        rw[if_neg hne]at hR
        rw[<- hL]at hR hal
        refine⟨KO b2 (by omega),Vf (fun h45=> ?_) fun h45=> ?_⟩
        · obtain⟨a1,a2,a3⟩:=s1 h45
          rw[a1,if_neg (by simp)]at hR
          rw[a3]
          exact ih (b+1) L' p' (-1) (by omega) a2 hq1 hq2 (by omega) R hR
        · obtain⟨c1,c2,c3⟩:=s2 h45
          rw[c1]
          refine⟨KO b2 (by omega),Vf (fun h43=> ?_) fun h43=> ?_⟩
          · obtain⟨a1,a2,a3⟩:=c2 h43
            rw[a1,if_neg (by simp)]at hR
            rw[a3]
            exact ih (b+1) L' p' 1 (by omega) a2 hq1 hq2 (by omega) R hR
          · obtain⟨a1,a2⟩:=c3 h43
            rw[a1,if_pos rfl]at hR
            rw[hR]
            exact Yx (x:=((⟨0,[]⟩:Lin),(6:Int))) rfl
      have hend:(b:Int)=(s.length:Int) ↔ s.drop b=[]:=by
        rw[List.drop_eq_nil_iff];omega
      refine Wx (fun hv=> ?_) fun hv=> ?_
      · have hL:(⟨IntKind.i64.wrap (l.k+IntKind.i64.wrap (g*z.1.1)),l.t⟩:Lin)=Vs l z g:=by unfold Vs;rw[if_pos hv]
        refine⟨UN j2 (by omega),Wx (fun hb=> ?_) fun hb=> ?_⟩
        · rw[if_pos (hend.1 hb),<- hL]at hR
          have i1:isL (Lin×Unit) [.agg [.int .i64 (IntKind.i64.wrap (l.k+IntKind.i64.wrap (g*z.1.1))),p]]=true:=by
            show((true&&is (List Coef) p)&&true)=true
            rw[hp1];rfl
          have d1:(decL [.agg [.int .i64 (IntKind.i64.wrap (l.k+IntKind.i64.wrap (g*z.1.1))),p]]:Lin×Unit)=(⟨IntKind.i64.wrap (l.k+IntKind.i64.wrap (g*z.1.1)),l.t⟩,()):=by
            show((⟨IntKind.i64.wrap (l.k+IntKind.i64.wrap (g*z.1.1)),dec p⟩:Lin),())=_
            rw[hp2]
          refine⟨NU _ i1 d1 (decide_eq_true (by show l.t.length<=_;omega)),Jg _ d1 ?_⟩
          rw[hR]
          exact Yx (x:=VK ⟨IntKind.i64.wrap (l.k+IntKind.i64.wrap (g*z.1.1)),l.t⟩) rfl
        · exact hsgn ⟨_,l.t⟩ p hL hp1 hp2 fun e=>hb (hend.2 e)
      · have hL:Wn l ⟨z.1.2.1⟩ (IntKind.i64.wrap (g*z.1.1))=Vs l z g:=by unfold Vs;rw[if_neg hv]
        have i1:isL (Lin×Str×Int×Unit) [.agg [.int .i64 l.k,p],.str z.1.2.1,.int .i64 (IntKind.i64.wrap (g*z.1.1))]=true:=by
          show((true&&is (List Coef) p)&&(true&&(true&&true)))=true
          rw[hp1];rfl
        have d1:(decL [.agg [.int .i64 l.k,p],.str z.1.2.1,.int .i64 (IntKind.i64.wrap (g*z.1.1))]:Lin×Str×Int×Unit)=(l,⟨z.1.2.1⟩,IntKind.i64.wrap (g*z.1.1),()):=by
          show((⟨l.k,dec p⟩:Lin),(⟨z.1.2.1⟩:Str),IntKind.i64.wrap (g*z.1.1),())=_
          rw[hp2]
        refine⟨NU _ i1 d1 (decide_eq_true (by show l.t.length<=_;omega)),Jg _ d1 ?_⟩
        simp only[hL]
        refine⟨UN j2 (by omega),Wx (fun hb=> ?_) fun hb=> ?_⟩
        · rw[if_pos (hend.1 hb)]at hR
          refine⟨Zo (Vs l z g,()) rfl (decide_eq_true (by dsimp only;omega)),Zl (Vs l z g,()) rfl ?_⟩
          rw[hR]
          exact Yx (x:=VK (Vs l z g)) rfl
        · exact hsgn (Vs l z g) (enc (Vs l z g).t) rfl (Enc.is_enc _) (Enc.dec_enc _) fun e=>hb (hend.2 e)
theorem PT: ∀ x:Str×Unit,decide (x.1.s.length<=400000)=true->Zi Yq 0 (Ze Ya (ZI (Zn x.1.s))) Yb [] (Xz CE (encL x)):=by
 rintro⟨⟨s⟩,⟨⟩⟩ h
 have h:s.length<=400000:=by simpa using h
 show Zi Yq 0 (Ze Ya (ZI (Zn s))) Yb [] (Xz CE [.str s])
 obtain⟨q,e1,q1,q2,q3⟩:=Uh s (Nat.zero_le s.length)
 have e1:bB s 0=q:=e1
 have q3:s.drop q=Za s:=q3
 obtain⟨s1,s2⟩:=NR s q2
 have hl : ∀ (i:Nat) (g:Int),i<=s.length->Zn s=XC (s.length+1) (s.drop i) ⟨0,[]⟩ g->At Yq 0 (Ze Ya (ZI (Zn s))) Yb 0 69 [(2,.ptr 0 0),(4,.ptr 1 0),(5,.ptr 2 0),(6,.pv (.int .i64 g))] [.obj (.box [.pv (.int .i64 0),.pv (.sl 0 true [])]),.obj (.box [.pv (.str s),.pv (.int .i64 i)]),.obj (.box [.pv (.int .i64 0),.pv (.sl 0 true [])])]:=fun i g hi hR=>Re s h (s.length+1) i ⟨0,[]⟩ (.sl 0 true []) g (by omega) hi rfl rfl (Nat.zero_le _) _ hR
 have hR:=(Kn s).symm
 rw[<- q3]at hR
 refine Ec s ⟨UN (j:=0) (Nat.zero_le _) (by omega),?_⟩
 rw[e1]
 refine⟨KO q2 (by omega),Vf (fun h45=> ?_) fun h45=> ?_⟩
 ·obtain⟨a1,a2,a3⟩:=s1 h45
  rw[a1]at hR
  rw[a3]
  exact hl (q+1) (-1) a2 hR
 ·obtain⟨c1,c2,c3⟩:=s2 h45
  rw[c1]
  refine⟨KO q2 (by omega),?_⟩
  cases h43:HZ 43 s q with
  | true=>
   obtain⟨a1,a2,a3⟩:=c2 h43
   rw[a1]at hR
   rw[a3]
   exact hl (q+1) 1 a2 hR
  | false=>
   obtain⟨a1,a2⟩:=c3 h43
   rw[a1]at hR
   rw[a2]
   exact hl q 1 q2 hR
theorem Gd: ∀ l:List Coef,Kz l l=0
 | []=>rfl
 | x::l=>by
  have h1 : ¬ x.v.s<x.v.s:=List.lt_irrefl _
  have h2 : ¬ x.c<x.c:=by omega
  rw[Kz,if_neg (by rintro(h|⟨_,h⟩);exact h1 h;exact h2 h),if_pos rfl,Gd l]
theorem Lv(l:Lin):(UC l l==0)=true:=by
 have:UC l l=0:=by
  simp[UC,Gd,Qm]
 rw[this];rfl
theorem a3a{l:Lin}{n:Int}(h:BV l n=true)(hn:n<=1000):Zu l=true∧(l.t.length:Int)<=n:=by
 unfold BV at h
 simp only[Bool.and_eq_true,decide_eq_true_eq]at h
 refine⟨?_,h.2⟩
 unfold Zu Zz
 rw[Bool.and_eq_true]
 refine⟨decide_eq_true (by omega),List.all_eq_true.2 fun t ht=> ?_⟩
 have:=List.all_eq_true.1 h.1 t ht
 have:=of_decide_eq_true this
 exact decide_eq_true (by omega)
theorem SN{s:List UInt8}(h:(Zn s).2=0):Zh (Zn s).1=true:=by
 have : ∀ (f:Nat) (t:List UInt8) (l:Lin) (g:Int),(XC f t l g).2=0->Zh (XC f t l g).1=true:=by
  intro f
  induction f with
  | zero=>intro t l g h;cases h
  | succ f ih=>
   intro t l g h
   rw[XC]at h ⊢
   split at h
   ·cases h
   ·rename_i h1
    rw[if_neg h1]
    split at h
    ·rename_i h2
     rw[if_pos h2]
     unfold VK at h ⊢
     split at h
     ·rename_i h3;rw[if_pos h3];exact h3
     ·cases h
    ·rename_i h2
     rw[if_neg h2]
     split at h
     ·cases h
     ·rename_i h3
      rw[if_neg h3]
      exact ih _ _ _ h
 rw[<- Kn]at h ⊢
 exact this _ _ _ _ h
theorem SA(s:List UInt8):Zu (Zn s).1=true:=by
 by_cases h:(Zn s).2=0
 ·exact F7 (SN h)
 ·have : ∀ (f:Nat) (t:List UInt8) (l:Lin) (g:Int),(XC f t l g).2≠0->(XC f t l g).1=⟨0,[]⟩:=by
   intro f
   induction f with
   | zero=>intro t l g h;rfl
   | succ f ih=>
    intro t l g h
    rw[XC]at h ⊢
    split at h
    ·rename_i h1;rw[if_pos h1]
    ·rename_i h1
     rw[if_neg h1]
     split at h
     ·rename_i h2
      rw[if_pos h2]
      unfold VK at h ⊢
      split at h
      ·exact absurd rfl h
      ·rename_i h3;rw[if_neg h3]
     ·rename_i h2
      rw[if_neg h2]
      split at h
      ·rename_i h3;rw[if_pos h3]
      ·rename_i h3
       rw[if_neg h3]
       exact ih _ _ _ h
  rw[<- Kn]at h ⊢
  rw[this _ _ _ _ h]
  decide
theorem Fb: ∀ x:Lin×Str×Unit,Zz x.1=true->Zi Hu 0 (Ze KF (ZI true)) KJ [] (Xz Tx (encL x)):=by
 rintro⟨l,⟨s⟩,⟨⟩⟩ hp
 have hp:Zz l=true:=hp
 show Zi Hu 0 (Ze KF (ZI true)) KJ [] (Xz Tx [enc l,.str s])
 refine a3e l s (Zl () rfl (XI (by simp) ⟨Zo (l,(14:Int),()) rfl hp,Zl (l,(14:Int),()) rfl ?_⟩))
 refine Ww (fun _=>Yl rfl) fun hf=>XR (fun _=>Yl rfl) fun h100=> ?_
 have hsm:Zu l=true:=(a3a (n:=14) hf (by decide)).1
 have hpl:=CJ l
 have h100:s.length<=100:=by omega
 have hps:decide (s.length<=400000)=true:=decide_eq_true (by omega)
 have hpt : ∀ x:Lin,decide ((Zx x).length<=400000)=true:=fun x=>decide_eq_true (by have:=CJ x;omega)
 have hlin : ∀ x:List UInt8,Zz (Zn x).1=true:=fun x=>by
  have:=SA x
  unfold Zu at this
  rw[Bool.and_eq_true]at this;exact this.1
 have hcmp : ∀ x:Lin,(UC x x==0)=true:=fun x=>Lv x
 have hlast:(Zn s).2=0->Zn (Zx (Zn s).1)=((Zn s).1,0):=fun h=>Qb (SN h)
 refine⟨Zo (l,()) rfl hsm,Zl (l,()) rfl ⟨Zo (l,()) rfl hsm,Zl (l,()) rfl (XI (by simp) ⟨Zo (⟨Zx l⟩,()) rfl (hpt l),Zl (⟨Zx l⟩,()) rfl ⟨Zo (l,()) rfl hp,Zl (l,()) rfl ?_⟩⟩)⟩⟩
 have hend:Go.Pl.preT (fun(x:Str×Unit)=>decide (List.length (Str.s (Prod.fst x))<=400000)) [(.str s)]=true:=Zo (⟨s⟩,()) rfl hps
 refine Vf (fun hv=>XI ?_ ⟨Zo ((Zn (Zx l)).1,l,()) rfl (hlin _),Zl ((Zn (Zx l)).1,l,()) rfl (XI ?_ ?_)⟩) fun hv=> ?_
 ·show ¬ ((Zn (Zx l)).2 != 0)=true
  rw[Qb hv];simp
 ·show ¬ (!(UC (Zn (Zx l)).1 l==0))=true
  rw[Qb hv,hcmp];simp
 all_goals
  refine⟨hend,Zl (⟨s⟩,()) rfl ⟨hend,Zl (⟨s⟩,()) rfl ⟨Zo ((Zn s).1,(Zn s).1,()) rfl (hlin _),Zl ((Zn s).1,(Zn s).1,()) rfl (XI ?_ (XI ?_ ⟨Zo ((Zn s).1,()) rfl (SA s),Zl ((Zn s).1,()) rfl ⟨Zo (⟨Zx (Zn s).1⟩,()) rfl (hpt _),Zl (⟨Zx (Zn s).1⟩,()) rfl (D9 (fun _=>Yl rfl) fun h0=> ?_)⟩⟩))⟩⟩⟩
  ·show ¬ (!(UC (Zn s).1 (Zn s).1==0))=true
   rw[hcmp];simp
  ·show ¬ ((Zn s).2 != (Zn s).2)=true
   simp
  ·have h0:(Zn s).2=0:=by simpa using h0
   have e:=hlast h0
   refine YF ?_ ⟨Zo ((Zn (Zx (Zn s).1)).1,(Zn s).1,()) rfl (hlin _),Zl ((Zn (Zx (Zn s).1)).1,(Zn s).1,()) rfl (Yl ?_)⟩
   ·show((Zn (Zx (Zn s).1)).2==0)=true
    rw[e];rfl
   ·show(UC (Zn (Zx (Zn s).1)).1 (Zn s).1==0)=true
    rw[e];exact hcmp _
end Go.Pl

