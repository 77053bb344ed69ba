/-
  Texts of mine that belong together (packed by pack.py), for every input: GWf, QWf, QWg, QWh, TyWl, GWo, QWo, TyD, GTx, QTx, QTy, TyTt, TyTu, QTz, QWp.
-/
import Derived.Test.YtgllkpfiokkdhaaGreatDoorLC2
import Derived.Test.YtgllkpfiokkdhaaGreatDoorLC3
import Derived.Test.YtgllkpfiokkdhaaGreatDoorLC4
import Derived.KernelRfl
set_option linter.unusedVariables false
set_option linter.unusedSimpArgs false
namespace Go.Pl
open Go.RowKit
open Enc (enc dec is)
open EncL (encL decL isL)
set_option maxRecDepth 100000
def Yx:IC:=(.seq (.reg [⟨(some 2),(.mv (.c (.int .i64 0))),0,none⟩,⟨(some 3),(.mv (.c (.sl 0 true []))),0,none⟩,⟨(some 4),(.mv (.c (.bool false))),0,none⟩] none) (.seq (.seq (.reg [⟨(some 12),(.mv (.t 0)),0,none⟩,⟨(some 13),(.len 1 (.t 12)),0,none⟩,⟨(some 14),(.bin .num .eql (.t 13) (.c (.int .i64 0))),0,none⟩] none) (.cond (.t 14) (.seq (.reg [⟨(some 2),(.mv (.c (.int .i64 0))),0,none⟩,⟨(some 3),(.mv (.c (.sl 0 true []))),0,none⟩,⟨(some 4),(.mv (.c (.bool false))),0,none⟩] none) .ret) .skip)) (.seq (.reg [⟨(some 15),(.mv (.t 0)),0,none⟩,⟨(some 16),(.iaddr 1 (.t 15) (.c (.int .i64 0))),0,none⟩,⟨(some 17),(.load false [(.int .u8)] (.t 16)),0,none⟩,⟨(some 18),(.conv .i64 (.t 17)),0,none⟩,⟨(some 5),(.mv (.t 18)),0,none⟩] none) (.seq (.seq (.reg [⟨(some 19),(.mv (.t 5)),0,none⟩,⟨(some 20),(.bin .num .geq (.t 19) (.c (.int .i64 8))),0,none⟩,⟨(some 21),(.mv (.t 20)),0,none⟩,⟨(some 22),(.mv (.t 5)),0,(some (21,true))⟩,⟨(some 23),(.bin .num .leq (.t 22) (.c (.int .i64 247))),0,(some (21,true))⟩,⟨(some 24),(.pick (.t 21) (.t 23) (.c (.bool false))),0,none⟩] none) (.cond (.t 24) (.seq (.reg [⟨(some 25),(.mv (.t 5)),0,none⟩,⟨(some 26),(.bin .num .sub (.t 25) (.c (.int .i64 128))),0,none⟩,⟨(some 27),(.mv (.t 0)),0,none⟩,⟨(some 28),(.slc 1 (.t 27) (some (.c (.int .i64 1))) none none),0,none⟩,⟨(some 2),(.mv (.t 26)),0,none⟩,⟨(some 3),(.mv (.t 28)),0,none⟩,⟨(some 4),(.mv (.c (.bool true))),0,none⟩] (some [[],[0],[],[2],[1,0],[3,4,0,1,2],[5,0,1,2,3,4]])) .ret) .skip)) (.seq (.reg [⟨(some 29),(.mv (.t 5)),0,none⟩,⟨(some 30),(.bin .num .sub (.t 29) (.c (.int .i64 247))),0,none⟩,⟨(some 6),(.mv (.t 30)),0,none⟩] none) (.seq (.seq (.reg [⟨(some 31),(.mv (.t 5)),0,none⟩,⟨(some 32),(.bin .num .lss (.t 31) (.c (.int .i64 8))),0,none⟩] none) (.cond (.t 32) (.reg [⟨(some 33),(.mv (.t 5)),0,none⟩,⟨(some 34),(.bin .num .sub (.c (.int .i64 8)) (.t 33)),0,none⟩,⟨(some 6),(.mv (.t 34)),0,none⟩] none) .skip)) (.seq (.seq (.reg [⟨(some 35),(.mv (.t 0)),0,none⟩,⟨(some 36),(.len 1 (.t 35)),0,none⟩,⟨(some 37),(.mv (.t 6)),0,none⟩,⟨(some 38),(.bin .num .add (.c (.int .i64 1)) (.t 37)),0,none⟩,⟨(some 39),(.bin .num .lss (.t 36) (.t 38)),0,none⟩] none) (.cond (.t 39) (.seq (.reg [⟨(some 2),(.mv (.c (.int .i64 0))),0,none⟩,⟨(some 3),(.mv (.c (.sl 0 true []))),0,none⟩,⟨(some 4),(.mv (.c (.bool false))),0,none⟩] none) .ret) .skip)) (.seq (.reg [⟨(some 7),(.mv (.c (.int .u64 0))),0,none⟩] none) (.seq (.seq (.reg [⟨(some 8),(.mv (.c (.int .i64 1))),0,none⟩] none) (.block 0 (.loop [8,6,0,5,7] (.seq (.seq (.reg [⟨(some 40),(.mv (.t 8)),0,none⟩,⟨(some 41),(.mv (.t 6)),0,none⟩,⟨(some 42),(.bin .num .leq (.t 40) (.t 41)),0,none⟩] none) (.cond (.t 42) .skip (.exit 0))) (.seq (.block 1 (.seq (.reg [⟨(some 45),(.mv (.t 0)),0,none⟩,⟨(some 46),(.mv (.t 8)),0,none⟩,⟨(some 47),(.iaddr 1 (.t 45) (.t 46)),0,none⟩,⟨(some 48),(.load false [(.int .u8)] (.t 47)),0,none⟩,⟨(some 9),(.mv (.t 48)),0,none⟩] none) (.seq (.seq (.reg [⟨(some 49),(.mv (.t 5)),0,none⟩,⟨(some 50),(.bin .num .lss (.t 49) (.c (.int .i64 8))),0,none⟩] none) (.cond (.t 50) (.reg [⟨(some 51),(.mv (.t 9)),0,none⟩,⟨(some 52),(.bin .num .sub (.c (.int .u8 255)) (.t 51)),0,none⟩,⟨(some 9),(.mv (.t 52)),0,none⟩] none) .skip)) (.reg [⟨(some 53),(.mv (.t 7)),0,none⟩,⟨(some 54),(.bin .num .shl (.t 53) (.c (.int .u64 8))),0,none⟩,⟨(some 55),(.mv (.t 9)),0,none⟩,⟨(some 56),(.conv .u64 (.t 55)),0,none⟩,⟨(some 57),(.bin .num .or (.t 54) (.t 56)),0,none⟩,⟨(some 7),(.mv (.t 57)),0,none⟩] none)))) (.reg [⟨(some 43),(.mv (.t 8)),0,none⟩,⟨(some 44),(.bin .num .add (.t 43) (.c (.int .i64 1))),0,none⟩,⟨(some 8),(.mv (.t 44)),0,none⟩] none)))))) (.seq (.reg [⟨(some 10),(.mv (.c (.int .i64 0))),0,none⟩] none) (.seq (.seq (.reg [⟨(some 58),(.mv (.t 5)),0,none⟩,⟨(some 59),(.bin .num .lss (.t 58) (.c (.int .i64 8))),0,none⟩] none) (.cond (.t 59) (.seq (.seq (.reg [⟨(some 60),(.mv (.t 7)),0,none⟩,⟨(some 61),(.bin .num .gtr (.t 60) (.c (.int .u64 9223372036854775687))),0,none⟩] none) (.cond (.t 61) (.seq (.reg [⟨(some 2),(.mv (.c (.int .i64 0))),0,none⟩,⟨(some 3),(.mv (.c (.sl 0 true []))),0,none⟩,⟨(some 4),(.mv (.c (.bool false))),0,none⟩] none) .ret) .skip)) (.reg [⟨(some 62),(.mv (.t 7)),0,none⟩,⟨(some 63),(.conv .i64 (.t 62)),0,none⟩,⟨(some 64),(.bin .num .sub (.c (.int .i64 (-121))) (.t 63)),0,none⟩,⟨(some 10),(.mv (.t 64)),0,none⟩] none)) (.seq (.seq (.reg [⟨(some 65),(.mv (.t 7)),0,none⟩,⟨(some 66),(.bin .num .gtr (.t 65) (.c (.int .u64 9223372036854775687))),0,none⟩] none) (.cond (.t 66) (.seq (.reg [⟨(some 2),(.mv (.c (.int .i64 0))),0,none⟩,⟨(some 3),(.mv (.c (.sl 0 true []))),0,none⟩,⟨(some 4),(.mv (.c (.bool false))),0,none⟩] none) .ret) .skip)) (.reg [⟨(some 67),(.mv (.t 7)),0,none⟩,⟨(some 68),(.conv .i64 (.t 67)),0,none⟩,⟨(some 69),(.bin .num .add (.t 68) (.c (.int .i64 120))),0,none⟩,⟨(some 10),(.mv (.t 69)),0,none⟩] none)))) (.seq (.reg [⟨(some 70),(.mv (.t 10)),0,none⟩,⟨(some 71),(.call (.c (.fn 33)) [(.c (.sl 0 true [])),(.t 70)]),0,none⟩,⟨(some 11),(.mv (.t 71)),2,none⟩] none) (.seq (.seq (.reg [⟨(some 72),(.mv (.t 11)),0,none⟩,⟨(some 73),(.len 1 (.t 72)),0,none⟩,⟨(some 74),(.mv (.t 6)),0,none⟩,⟨(some 75),(.bin .num .add (.c (.int .i64 1)) (.t 74)),0,none⟩,⟨(some 76),(.bin .num .neq (.t 73) (.t 75)),0,none⟩] none) (.cond (.t 76) (.seq (.reg [⟨(some 2),(.mv (.c (.int .i64 0))),0,none⟩,⟨(some 3),(.mv (.c (.sl 0 true []))),0,none⟩,⟨(some 4),(.mv (.c (.bool false))),0,none⟩] none) .ret) .skip)) (.seq (.reg [⟨(some 77),(.mv (.t 10)),0,none⟩,⟨(some 78),(.mv (.t 0)),0,none⟩,⟨(some 79),(.mv (.t 6)),0,none⟩,⟨(some 80),(.bin .num .add (.c (.int .i64 1)) (.t 79)),0,none⟩,⟨(some 81),(.slc 1 (.t 78) (some (.t 80)) none none),0,none⟩,⟨(some 2),(.mv (.t 77)),0,none⟩,⟨(some 3),(.mv (.t 81)),0,none⟩,⟨(some 4),(.mv (.c (.bool true))),0,none⟩] (some [[],[],[],[2],[1,3,2],[0],[4,5,0,1,2,3],[6,0,1,2,3,4,5]])) .ret))))))))))))))
def Yw:List IRes:=[(.tmp 2),(.tmp 3),(.tmp 4)]
abbrev EF:Nat:=82
def Y9:ZG:=Xo [(33,.pure (preT (fun x:List UInt8×Int×Unit=>decide (x.1.length<=1000000))) (Zo (fun x:List UInt8×Int×Unit=>x.1++encI x.2.1)))]
theorem a9u{G:PV->Prop}(c:UInt8)(x:List UInt8)(h : ∃ y0:UInt8,AV.pv (PV.rptr (PV.cells (List.getD (List.map enc (c::x)) (Int.toNat 0) default)))=AV.pv (PV.rptr (PV.cells ((enc) y0)))∧(if (decide (IntKind.wrap IntKind.i64 (PV.asInt (List.getD (PV.cells (enc y0)) 0 default)) ≥ 8))=true then if (decide (IntKind.wrap IntKind.i64 (PV.asInt (List.getD (PV.cells (enc y0)) 0 default))<=247))=true then(decide (0<=1)&&true&&(List.isEmpty (List.map enc (c::x))||Enc.sz UInt8==1)&&decide (Int.toNat 1<=List.length (List.map enc (c::x)))&&decide (List.length (List.map enc (c::x))<=List.length (List.map enc (c::x))))=true∧(G ((.tup [(.int .i64 (IntKind.wrap IntKind.i64 (IntKind.wrap IntKind.i64 (PV.asInt (List.getD (PV.cells (enc y0)) 0 default)) - 128))),(.sl 1 false (List.drop (Int.toNat 1) (List.take (List.length (List.map enc (c::x))) (List.map enc (c::x))))),(.bool true)])))else(if (decide (IntKind.wrap IntKind.i64 (PV.asInt (List.getD (PV.cells (enc y0)) 0 default))<8))=true then if (decide ((↑(List.length (List.map enc (c::x))):Int)<IntKind.wrap IntKind.i64 (1+IntKind.wrap IntKind.i64 (8 - IntKind.wrap IntKind.i64 (PV.asInt (List.getD (PV.cells (enc y0)) 0 default))))))=true then G ((.tup [(.int .i64 0),(.sl 0 true []),(.bool false)]))else(At Y9 0 (Zg Yw G) Yx 0 82 [(0,(.pv (.sl 1 false (List.map enc (c::x))))),(5,(.pv (.int .i64 (IntKind.wrap IntKind.i64 (PV.asInt (List.getD (PV.cells (enc y0)) 0 default)))))),(6,(.pv (.int .i64 (IntKind.wrap IntKind.i64 (8 - IntKind.wrap IntKind.i64 (PV.asInt (List.getD (PV.cells (enc y0)) 0 default))))))),(7,(.pv (.int IntKind.u64 0))),(8,(.pv (.int .i64 1)))] [])else(if (decide ((↑(List.length (List.map enc (c::x))):Int)<IntKind.wrap IntKind.i64 (1+IntKind.wrap IntKind.i64 (IntKind.wrap IntKind.i64 (PV.asInt (List.getD (PV.cells (enc y0)) 0 default)) - 247))))=true then G ((.tup [(.int .i64 0),(.sl 0 true []),(.bool false)]))else(At Y9 0 (Zg Yw G) Yx 0 82 [(0,(.pv (.sl 1 false (List.map enc (c::x))))),(5,(.pv (.int .i64 (IntKind.wrap IntKind.i64 (PV.asInt (List.getD (PV.cells (enc y0)) 0 default)))))),(6,(.pv (.int .i64 (IntKind.wrap IntKind.i64 (IntKind.wrap IntKind.i64 (PV.asInt (List.getD (PV.cells (enc y0)) 0 default)) - 247))))),(7,(.pv (.int IntKind.u64 0))),(8,(.pv (.int .i64 1)))] [])))else(if (decide (IntKind.wrap IntKind.i64 (PV.asInt (List.getD (PV.cells (enc y0)) 0 default))<8))=true then if (decide ((↑(List.length (List.map enc (c::x))):Int)<IntKind.wrap IntKind.i64 (1+IntKind.wrap IntKind.i64 (8 - IntKind.wrap IntKind.i64 (PV.asInt (List.getD (PV.cells (enc y0)) 0 default))))))=true then G ((.tup [(.int .i64 0),(.sl 0 true []),(.bool false)]))else(At Y9 0 (Zg Yw G) Yx 0 82 [(0,(.pv (.sl 1 false (List.map enc (c::x))))),(5,(.pv (.int .i64 (IntKind.wrap IntKind.i64 (PV.asInt (List.getD (PV.cells (enc y0)) 0 default)))))),(6,(.pv (.int .i64 (IntKind.wrap IntKind.i64 (8 - IntKind.wrap IntKind.i64 (PV.asInt (List.getD (PV.cells (enc y0)) 0 default))))))),(7,(.pv (.int IntKind.u64 0))),(8,(.pv (.int .i64 1)))] [])else(if (decide ((↑(List.length (List.map enc (c::x))):Int)<IntKind.wrap IntKind.i64 (1+IntKind.wrap IntKind.i64 (IntKind.wrap IntKind.i64 (PV.asInt (List.getD (PV.cells (enc y0)) 0 default)) - 247))))=true then G ((.tup [(.int .i64 0),(.sl 0 true []),(.bool false)]))else(At Y9 0 (Zg Yw G) Yx 0 82 [(0,(.pv (.sl 1 false (List.map enc (c::x))))),(5,(.pv (.int .i64 (IntKind.wrap IntKind.i64 (PV.asInt (List.getD (PV.cells (enc y0)) 0 default)))))),(6,(.pv (.int .i64 (IntKind.wrap IntKind.i64 (IntKind.wrap IntKind.i64 (PV.asInt (List.getD (PV.cells (enc y0)) 0 default)) - 247))))),(7,(.pv (.int IntKind.u64 0))),(8,(.pv (.int .i64 1)))] []))))):Ze Y9 0 (Zg Yw G) Yx [] (Y2 82 [enc (c::x)]):=Ze.tp (.lit (.lit (.lit (.abs (UInt8) (fun YY=>AV.pv (PV.rptr (PV.cells ((enc) YY)))) (.lit (.lit (.ask (.lit (.lit (.lit (.ask (.lit (.req (.nil))) (.lit (.lit (.ask (.lit (.lit (.lit (.ask (.nil) (.nil))))) (.lit (.lit (.ask (.nil) (.nil))))))))))) (.lit (.lit (.lit (.lit (.lit (.ask (.lit (.lit (.lit (.ask (.nil) (.nil))))) (.lit (.lit (.ask (.nil) (.nil))))))))))))))))) h (by kernel_rfl)
theorem Sn{G:PV->Prop}(c:UInt8)(x:List UInt8)(k m i c0:Int)(h:if (decide (i<=k))=true then(decide (0<=i)&&decide (Int.toNat i<List.length (List.map enc (c::x)))&&Enc.sz UInt8==1)=true∧(∃ y0:UInt8,AV.pv (PV.rptr (PV.cells (List.getD (List.map enc (c::x)) (Int.toNat i) default)))=AV.pv (PV.rptr (PV.cells ((enc) y0)))∧(if (decide (c0<8))=true then At Y9 0 (Zg Yw G) Yx 0 82 [(0,(.pv (.sl 1 false (List.map enc (c::x))))),(5,(.pv (.int .i64 c0))),(6,(.pv (.int .i64 k))),(7,(.pv (.int IntKind.u64 (IntKind.wrap IntKind.u64 (↑(BitVec.toNat (BitVec.ofInt (IntKind.bits IntKind.u64) (IntKind.wrap IntKind.u64 (m*2 ^ min (Int.toNat 8) (IntKind.bits IntKind.u64))) ||| BitVec.ofInt (IntKind.bits IntKind.u64) (IntKind.wrap IntKind.u64 (IntKind.wrap IntKind.u8 (255 - PV.asInt (List.getD (PV.cells (enc y0)) 0 default)))))):Int))))),(8,(.pv (.int .i64 (IntKind.wrap IntKind.i64 (i+1)))))] []else(At Y9 0 (Zg Yw G) Yx 0 82 [(0,(.pv (.sl 1 false (List.map enc (c::x))))),(5,(.pv (.int .i64 c0))),(6,(.pv (.int .i64 k))),(7,(.pv (.int IntKind.u64 (IntKind.wrap IntKind.u64 (↑(BitVec.toNat (BitVec.ofInt (IntKind.bits IntKind.u64) (IntKind.wrap IntKind.u64 (m*2 ^ min (Int.toNat 8) (IntKind.bits IntKind.u64))) ||| BitVec.ofInt (IntKind.bits IntKind.u64) (IntKind.wrap IntKind.u64 (PV.asInt (List.getD (PV.cells (enc y0)) 0 default))))):Int))))),(8,(.pv (.int .i64 (IntKind.wrap IntKind.i64 (i+1)))))] [])))else(if (decide (c0<8))=true then if (decide (m>9223372036854775687))=true then G ((.tup [(.int .i64 0),(.sl 0 true []),(.bool false)]))else(∃ y1:List UInt8,AV.pv (Zo (fun(x:List UInt8×Int×Unit)=>x.1++encI x.2.1) [(.sl 0 true []),(.int .i64 (IntKind.wrap IntKind.i64 ((-121:Int) - IntKind.wrap IntKind.i64 m)))])=AV.pv (enc y1)∧(if ((↑(List.length (List.map enc y1)):Int) != IntKind.wrap IntKind.i64 (1+k))=true then G ((.tup [(.int .i64 0),(.sl 0 true []),(.bool false)]))else((decide (0<=IntKind.wrap IntKind.i64 (1+k))&&true&&(List.isEmpty (List.map enc (c::x))||Enc.sz UInt8==1)&&decide (Int.toNat (IntKind.wrap IntKind.i64 (1+k))<=List.length (List.map enc (c::x)))&&decide (List.length (List.map enc (c::x))<=List.length (List.map enc (c::x))))=true∧(G ((.tup [(.int .i64 (IntKind.wrap IntKind.i64 ((-121:Int) - IntKind.wrap IntKind.i64 m))),(.sl 1 false (List.drop (Int.toNat (IntKind.wrap IntKind.i64 (1+k))) (List.take (List.length (List.map enc (c::x))) (List.map enc (c::x))))),(.bool true)]))))))else(if (decide (m>9223372036854775687))=true then G ((.tup [(.int .i64 0),(.sl 0 true []),(.bool false)]))else(∃ y2:List UInt8,AV.pv (Zo (fun(x:List UInt8×Int×Unit)=>x.1++encI x.2.1) [(.sl 0 true []),(.int .i64 (IntKind.wrap IntKind.i64 (IntKind.wrap IntKind.i64 m+120)))])=AV.pv (enc y2)∧(if ((↑(List.length (List.map enc y2)):Int) != IntKind.wrap IntKind.i64 (1+k))=true then G ((.tup [(.int .i64 0),(.sl 0 true []),(.bool false)]))else((decide (0<=IntKind.wrap IntKind.i64 (1+k))&&true&&(List.isEmpty (List.map enc (c::x))||Enc.sz UInt8==1)&&decide (Int.toNat (IntKind.wrap IntKind.i64 (1+k))<=List.length (List.map enc (c::x)))&&decide (List.length (List.map enc (c::x))<=List.length (List.map enc (c::x))))=true∧(G ((.tup [(.int .i64 (IntKind.wrap IntKind.i64 (IntKind.wrap IntKind.i64 m+120))),(.sl 1 false (List.drop (Int.toNat (IntKind.wrap IntKind.i64 (1+k))) (List.take (List.length (List.map enc (c::x))) (List.map enc (c::x))))),(.bool true)]))))))))):At Y9 0 (Zg Yw G) Yx 0 82 [(0,.pv (enc (c::x))),(5,.pv (.int .i64 c0)),(6,.pv (.int .i64 k)),(7,.pv (.int .u64 m)),(8,.pv (.int .i64 i))] []:=At.tp (.lit (.ask (.req (.abs (UInt8) (fun YY=>AV.pv (PV.rptr (PV.cells ((enc) YY)))) (.lit (.lit (.ask (.lit (.lit (.lit (.lit (.nil))))) (.lit (.lit (.lit (.nil))))))))) (.lit (.ask (.lit (.ask (.nil) (.lit (.lit (.abs (List UInt8) (fun YY=>AV.pv (enc YY)) (.lit (.lit (.ask (.nil) (.lit (.req (.nil))))))))))) (.lit (.ask (.nil) (.lit (.lit (.abs (List UInt8) (fun YY=>AV.pv (enc YY)) (.lit (.lit (.ask (.nil) (.lit (.req (.nil))))))))))))))) h (by kernel_rfl)
theorem a0b{G:PV->Prop}(h:G ((.tup [(.int .i64 0),(.sl 0 true []),(.bool false)]))):Ze Y9 0 (Zg Yw G) Yx [] (Y2 82 [enc ([]:List UInt8)]):=Ze.tp (.lit (.lit (.nil))) h (by kernel_rfl)
def Gc:IC:=(.reg [⟨(some 6),(.mv (.t 0)),0,none⟩,⟨(some 7),(.mv (.t 0)),0,none⟩,⟨(some 8),(.mv (.t 1)),0,none⟩,⟨(some 9),(.mv (.t 2)),0,none⟩,⟨(some 10),(.nilchk (.t 6)),0,none⟩,⟨(some 11),(.faddr 0 (.t 10)),0,none⟩,⟨none,(.store 1 (.t 11) (.t 8)),0,none⟩,⟨(some 12),(.nilchk (.t 7)),0,none⟩,⟨(some 13),(.faddr 1 (.t 12)),0,none⟩,⟨none,(.store 1 (.t 13) (.t 9)),0,none⟩] none)
def GQ:List IRes:=[]
abbrev EH:Nat:=14
def BK:ZG:=Xo []
theorem b0k{G:AV×List AObj×List AObj->Prop}(x:List UInt8)(err:Int)(y:List UInt8)(e:Int)(h:G (((.tup []),([(.box [(.pv (.sl 1 false (List.map enc y))),(.pv (.int .i64 e))])],[])))):Ze BK 1 (Zk 1 GQ G) Gc [] (ZK 14 [.ptr 0 0,.pv (.sl 1 false (y.map enc)),.pv (.int .i64 e)] [.box [.pv (.sl 1 false (x.map enc)),.pv (.int .i64 err)]]):=Ze.to (.nil) h (by kernel_rfl)
def Rv:IC:=(.seq (.reg [⟨(some 8),(.mv (.c (.int .i64 0))),0,none⟩] none) (.seq (.seq (.reg [⟨(some 12),(.mv (.t 0)),0,none⟩,⟨(some 13),(.bin .ptr .eql (.t 12) (.c .nilp)),0,none⟩,⟨(some 14),(.mv (.t 13)),0,none⟩,⟨(some 15),(.mv (.t 0)),0,(some (14,false))⟩,⟨(some 16),(.nilchk (.t 15)),0,(some (14,false))⟩,⟨(some 17),(.faddr 1 (.t 16)),0,(some (14,false))⟩,⟨(some 18),(.load false [(.int .i64)] (.t 17)),0,(some (14,false))⟩,⟨(some 19),(.bin .num .neq (.t 18) (.c (.int .i64 0))),0,(some (14,false))⟩,⟨(some 20),(.pick (.t 14) (.c (.bool true)) (.t 19)),0,none⟩] none) (.cond (.t 20) (.seq (.reg [⟨(some 8),(.mv (.c (.int .i64 0))),0,none⟩] none) .ret) .skip)) (.seq (.reg [⟨(some 22),(.mv (.t 0)),0,none⟩,⟨(some 23),(.nilchk (.t 22)),0,none⟩,⟨(some 24),(.faddr 0 (.t 23)),0,none⟩,⟨(some 25),(.load false [(.sl 1)] (.t 24)),0,none⟩,⟨(some 26),(.call (.c (.fn 125)) [(.t 25)]),0,none⟩,⟨(some 21),(.mv (.t 26)),2,none⟩,⟨(some 27),(.extract (.t 21) 0),2,none⟩,⟨(some 28),(.extract (.t 21) 1),2,none⟩,⟨(some 29),(.extract (.t 21) 2),2,none⟩,⟨(some 9),(.mv (.t 27)),2,none⟩,⟨(some 10),(.mv (.t 28)),2,none⟩,⟨(some 11),(.mv (.t 29)),2,none⟩] none) (.seq (.seq (.reg [⟨(some 30),(.mv (.t 11)),0,none⟩,⟨(some 31),(.un .not (.t 30)),0,none⟩] none) (.cond (.t 31) (.seq (.reg [⟨(some 32),(.mv (.t 0)),0,none⟩,⟨(some 33),(.nilchk (.t 32)),0,none⟩,⟨(some 34),(.faddr 1 (.t 33)),0,none⟩,⟨none,(.store 1 (.t 34) (.c (.int .i64 4))),0,none⟩] none) (.seq (.reg [⟨(some 8),(.mv (.c (.int .i64 0))),0,none⟩] none) .ret)) .skip)) (.seq (.seq (.reg [⟨(some 35),(.mv (.t 9)),0,none⟩,⟨(some 36),(.mv (.t 1)),0,none⟩,⟨(some 37),(.bin .num .lss (.t 35) (.t 36)),0,none⟩,⟨(some 38),(.mv (.t 37)),0,none⟩,⟨(some 39),(.mv (.t 9)),0,(some (38,false))⟩,⟨(some 40),(.mv (.t 2)),0,(some (38,false))⟩,⟨(some 41),(.bin .num .gtr (.t 39) (.t 40)),0,(some (38,false))⟩,⟨(some 42),(.pick (.t 38) (.c (.bool true)) (.t 41)),0,none⟩] none) (.cond (.t 42) (.seq (.reg [⟨(some 43),(.mv (.t 0)),0,none⟩,⟨(some 44),(.mv (.t 3)),0,none⟩,⟨(some 45),(.nilchk (.t 43)),0,none⟩,⟨(some 46),(.faddr 1 (.t 45)),0,none⟩,⟨none,(.store 1 (.t 46) (.t 44)),0,none⟩] none) (.seq (.reg [⟨(some 8),(.mv (.c (.int .i64 0))),0,none⟩] none) .ret)) .skip)) (.seq (.reg [⟨(some 47),(.mv (.t 0)),0,none⟩,⟨(some 48),(.mv (.t 10)),0,none⟩,⟨(some 49),(.nilchk (.t 47)),0,none⟩,⟨(some 50),(.faddr 0 (.t 49)),0,none⟩,⟨none,(.store 1 (.t 50) (.t 48)),0,none⟩] none) (.seq (.reg [⟨(some 51),(.mv (.t 9)),0,none⟩,⟨(some 8),(.mv (.t 51)),0,none⟩] none) .ret)))))))
def Rk:List IRes:=[(.tmp 8)]
abbrev b2w:Nat:=52
def FR:ZG:=Xo [(125,.pure (preT (fun x:List UInt8×Unit=>decide (x.1.length<=9000000))) (Zo (fun x:List UInt8×Unit=>w3 (ZX x.1))))]
theorem b9i{G:AV×List AObj×List AObj->Prop}(x:List UInt8)(err:Int)(lo hi e:Int)(h:if (err != 0)=true then G (((.pv (.int .i64 0)),([(.box [(.pv (.sl 1 false (List.map enc x))),(.pv (.int .i64 err))])],[])))else((Go.Pl.preT (fun(x:List UInt8×Unit)=>decide (List.length x.1<=9000000)) [(.sl 1 false (List.map enc x))])=true∧(∃ y0:R3 Int (List UInt8) Bool,AV.pv (Zo (fun(x:List UInt8×Unit)=>w3 (ZX x.1)) [(.sl 1 false (List.map enc x))])=AV.pv (enc y0)∧(if (!R3.c y0)=true then G (((.pv (.int .i64 0)),([(.box [(.pv (.sl 1 false (List.map enc x))),(.pv (.int .i64 4))])],[])))else(if (decide (R3.a y0<lo))=true then G (((.pv (.int .i64 0)),([(.box [(.pv (.sl 1 false (List.map enc x))),(.pv (.int .i64 e))])],[])))else(if (decide (R3.a y0>hi))=true then G (((.pv (.int .i64 0)),([(.box [(.pv (.sl 1 false (List.map enc x))),(.pv (.int .i64 e))])],[])))else(G (((.pv (.int .i64 (R3.a y0))),([(.box [(.pv (.sl 1 false (List.map enc (R3.b y0)))),(.pv (.int .i64 err))])],[])))))))))):Ze FR 1 (Zk 1 Rk G) Rv [] (ZK 52 [.ptr 0 0,.pv (.int .i64 lo),.pv (.int .i64 hi),.pv (.int .i64 e)] [.box [.pv (.sl 1 false (x.map enc)),.pv (.int .i64 err)]]):=Ze.to (.lit (.lit (.lit (.lit (.lit (.lit (.lit (.lit (.ask (.nil) (.req (.abs (R3 Int (List UInt8) Bool) (fun YY=>AV.pv (enc YY)) (.ask (.nil) (.lit (.ask (.lit (.lit (.lit (.lit (.nil))))) (.lit (.lit (.lit (.lit (.ask (.nil) (.nil)))))))))))))))))))) h (by kernel_rfl)
def AR:IC:=(.seq (.reg [⟨(some 6),(.mv (.c (.int .i64 0))),0,none⟩] none) (.seq (.reg [⟨(some 7),(.mv (.t 0)),0,none⟩,⟨(some 8),(.mv (.t 1)),0,none⟩,⟨(some 9),(.mv (.t 2)),0,none⟩,⟨(some 10),(.call (.c (.fn 90)) [(.t 7),(.t 8),(.t 9),(.c (.int .i64 2))]),0,none⟩,⟨(some 6),(.mv (.t 10)),2,none⟩] none) .ret))
def CY:List IRes:=[(.tmp 6)]
abbrev b0h:Nat:=11
def TT:ZG:=Xo [(90,.own XJ Vv)]
theorem b2g{G:AV×List AObj×List AObj->Prop}(x:List UInt8)(err:Int)(lo hi:Int)(h:(XJ [(.ptr 0 0),(.pv (.int .i64 lo)),(.pv (.int .i64 hi)),(.pv (.int .i64 2))] [(.box [(.pv (.sl 1 false (List.map enc x))),(.pv (.int .i64 err))])])=true∧(G (((.pv (.int .i64 (Prod.fst (Zf lo hi 2 (Za (PV.sl 1 false (List.map enc x))) err)))),([(.box [(.pv (.sl 1 false (List.map enc (Prod.fst (Prod.snd (Zf lo hi 2 (Za (PV.sl 1 false (List.map enc x))) err)))))),(.pv (.int .i64 (Prod.snd (Prod.snd (Zf lo hi 2 (Za (PV.sl 1 false (List.map enc x))) err)))))])],[]))))):Ze TT 1 (Zk 1 CY G) AR [] (ZK 11 [.ptr 0 0,.pv (.int .i64 lo),.pv (.int .i64 hi)] [.box [.pv (.sl 1 false (x.map enc)),.pv (.int .i64 err)]]):=Ze.to (.req (.keep (.nil))) h (by kernel_rfl)
def GH:IC:=(.seq (.reg [⟨(some 4),(.mv (.c (.str []))),0,none⟩] none) (.seq (.seq (.reg [⟨(some 8),(.mv (.t 0)),0,none⟩,⟨(some 9),(.bin .ptr .eql (.t 8) (.c .nilp)),0,none⟩,⟨(some 10),(.mv (.t 9)),0,none⟩,⟨(some 11),(.mv (.t 0)),0,(some (10,false))⟩,⟨(some 12),(.nilchk (.t 11)),0,(some (10,false))⟩,⟨(some 13),(.faddr 1 (.t 12)),0,(some (10,false))⟩,⟨(some 14),(.load false [(.int .i64)] (.t 13)),0,(some (10,false))⟩,⟨(some 15),(.bin .num .neq (.t 14) (.c (.int .i64 0))),0,(some (10,false))⟩,⟨(some 16),(.pick (.t 10) (.c (.bool true)) (.t 15)),0,none⟩] none) (.cond (.t 16) (.seq (.reg [⟨(some 4),(.mv (.c (.str []))),0,none⟩] none) .ret) .skip)) (.seq (.reg [⟨(some 17),(.mv (.t 0)),0,none⟩,⟨(some 18),(.nilchk (.t 17)),0,none⟩,⟨(some 19),(.faddr 0 (.t 18)),0,none⟩,⟨(some 20),(.load false [(.sl 1)] (.t 19)),0,none⟩,⟨(some 5),(.mv (.t 20)),0,none⟩] none) (.seq (.reg [⟨(some 21),(.mv (.t 0)),0,none⟩,⟨(some 22),(.mv (.t 1)),0,none⟩,⟨(some 23),(.call (.c (.fn 90)) [(.t 21),(.c (.int .i64 0)),(.t 22),(.c (.int .i64 3))]),0,none⟩,⟨(some 6),(.mv (.t 23)),2,none⟩] none) (.seq (.seq (.reg [⟨(some 24),(.mv (.t 0)),0,none⟩,⟨(some 25),(.nilchk (.t 24)),0,none⟩,⟨(some 26),(.faddr 1 (.t 25)),0,none⟩,⟨(some 27),(.load false [(.int .i64)] (.t 26)),0,none⟩,⟨(some 28),(.bin .num .neq (.t 27) (.c (.int .i64 0))),0,none⟩] none) (.cond (.t 28) (.seq (.reg [⟨(some 4),(.mv (.c (.str []))),0,none⟩] none) .ret) .skip)) (.seq (.seq (.reg [⟨(some 29),(.mv (.t 6)),0,none⟩,⟨(some 30),(.mv (.t 0)),0,none⟩,⟨(some 31),(.nilchk (.t 30)),0,none⟩,⟨(some 32),(.faddr 0 (.t 31)),0,none⟩,⟨(some 33),(.load false [(.sl 1)] (.t 32)),0,none⟩,⟨(some 34),(.len 1 (.t 33)),0,none⟩,⟨(some 35),(.bin .num .gtr (.t 29) (.t 34)),0,none⟩] none) (.cond (.t 35) (.seq (.reg [⟨(some 36),(.mv (.t 0)),0,none⟩,⟨(some 37),(.mv (.t 5)),0,none⟩,⟨(some 38),(.call (.c (.fn 91)) [(.t 36),(.t 37),(.c (.int .i64 4))]),0,none⟩] none) (.seq (.reg [⟨(some 4),(.mv (.c (.str []))),0,none⟩] none) .ret)) .skip)) (.seq (.reg [⟨(some 39),(.mv (.t 0)),0,none⟩,⟨(some 40),(.nilchk (.t 39)),0,none⟩,⟨(some 41),(.faddr 0 (.t 40)),0,none⟩,⟨(some 42),(.load false [(.sl 1)] (.t 41)),0,none⟩,⟨(some 43),(.mv (.t 6)),0,none⟩,⟨(some 44),(.slc 1 (.t 42) none (some (.t 43)) none),0,none⟩,⟨(some 45),(.bstr (.t 44)),0,none⟩,⟨(some 7),(.mv (.t 45)),0,none⟩] none) (.seq (.reg [⟨(some 46),(.mv (.t 0)),0,none⟩,⟨(some 47),(.mv (.t 0)),0,none⟩,⟨(some 48),(.nilchk (.t 47)),0,none⟩,⟨(some 49),(.faddr 0 (.t 48)),0,none⟩,⟨(some 50),(.load false [(.sl 1)] (.t 49)),0,none⟩,⟨(some 51),(.mv (.t 6)),0,none⟩,⟨(some 52),(.slc 1 (.t 50) (some (.t 51)) none none),0,none⟩,⟨(some 53),(.nilchk (.t 46)),0,none⟩,⟨(some 54),(.faddr 0 (.t 53)),0,none⟩,⟨none,(.store 1 (.t 54) (.t 52)),0,none⟩] none) (.seq (.reg [⟨(some 55),(.mv (.t 7)),0,none⟩,⟨(some 4),(.mv (.t 55)),0,none⟩] none) .ret)))))))))
def GL:List IRes:=[(.tmp 4)]
abbrev EE:Nat:=56
def AQ:ZG:=Xo [(90,.own XJ Vv),(91,.own Qb KI)]
theorem a4n{G:AV×List AObj×List AObj->Prop}(x:List UInt8)(err:Int)(most:Int)(h:if (err != 0)=true then G (((.pv (.str [])),([(.box [(.pv (.sl 1 false (List.map enc x))),(.pv (.int .i64 err))])],[])))else((XJ [(.ptr 0 0),(.pv (.int .i64 0)),(.pv (.int .i64 most)),(.pv (.int .i64 3))] [(.box [(.pv (.sl 1 false (List.map enc x))),(.pv (.int .i64 err))])])=true∧(if (Prod.snd (Prod.snd (Zf 0 most 3 (Za (PV.sl 1 false (List.map enc x))) err)) != 0)=true then G (((.pv (.str [])),([(.box [(.pv (.sl 1 false (List.map enc (Prod.fst (Prod.snd (Zf 0 most 3 (Za (PV.sl 1 false (List.map enc x))) err)))))),(.pv (.int .i64 (Prod.snd (Prod.snd (Zf 0 most 3 (Za (PV.sl 1 false (List.map enc x))) err)))))])],[])))else(if (decide (Prod.fst (Zf 0 most 3 (Za (PV.sl 1 false (List.map enc x))) err)>(↑(List.length (List.map enc (Prod.fst (Prod.snd (Zf 0 most 3 (Za (PV.sl 1 false (List.map enc x))) err))))):Int)))=true then(Qb [(.ptr 0 0),(.pv (.sl 1 false (List.map enc x))),(.pv (.int .i64 4))] [(.box [(.pv (.sl 1 false (List.map enc (Prod.fst (Prod.snd (Zf 0 most 3 (Za (PV.sl 1 false (List.map enc x))) err)))))),(.pv (.int .i64 (Prod.snd (Prod.snd (Zf 0 most 3 (Za (PV.sl 1 false (List.map enc x))) err)))))])])=true∧(G (((.pv (.str [])),([(.box [(.pv (.sl 1 false (List.map enc (Za (PV.sl 1 false (List.map enc x)))))),(.pv (.int .i64 4))])],[]))))else((true&&decide (0<=Prod.fst (Zf 0 most 3 (Za (PV.sl 1 false (List.map enc x))) err))&&(List.isEmpty (List.map enc (Prod.fst (Prod.snd (Zf 0 most 3 (Za (PV.sl 1 false (List.map enc x))) err))))||1==1)&&decide (0<=Int.toNat (Prod.fst (Zf 0 most 3 (Za (PV.sl 1 false (List.map enc x))) err)))&&decide (Int.toNat (Prod.fst (Zf 0 most 3 (Za (PV.sl 1 false (List.map enc x))) err))<=List.length (List.map enc (Prod.fst (Prod.snd (Zf 0 most 3 (Za (PV.sl 1 false (List.map enc x))) err))))))=true∧((List.all (List.drop 0 (List.take (Int.toNat (Prod.fst (Zf 0 most 3 (Za (PV.sl 1 false (List.map enc x))) err))) (List.map enc (Prod.fst (Prod.snd (Zf 0 most 3 (Za (PV.sl 1 false (List.map enc x))) err)))))) DC&&(List.isEmpty (List.drop 0 (List.take (Int.toNat (Prod.fst (Zf 0 most 3 (Za (PV.sl 1 false (List.map enc x))) err))) (List.map enc (Prod.fst (Prod.snd (Zf 0 most 3 (Za (PV.sl 1 false (List.map enc x))) err))))))||1==1))=true∧((decide (0<=Prod.fst (Zf 0 most 3 (Za (PV.sl 1 false (List.map enc x))) err))&&true&&(List.isEmpty (List.map enc (Prod.fst (Prod.snd (Zf 0 most 3 (Za (PV.sl 1 false (List.map enc x))) err))))||1==1)&&decide (Int.toNat (Prod.fst (Zf 0 most 3 (Za (PV.sl 1 false (List.map enc x))) err))<=List.length (List.map enc (Prod.fst (Prod.snd (Zf 0 most 3 (Za (PV.sl 1 false (List.map enc x))) err)))))&&decide (List.length (List.map enc (Prod.fst (Prod.snd (Zf 0 most 3 (Za (PV.sl 1 false (List.map enc x))) err))))<=List.length (List.map enc (Prod.fst (Prod.snd (Zf 0 most 3 (Za (PV.sl 1 false (List.map enc x))) err))))))=true∧(G (((.pv (.str (YU (List.drop 0 (List.take (Int.toNat (Prod.fst (Zf 0 most 3 (Za (PV.sl 1 false (List.map enc x))) err))) (List.map enc (Prod.fst (Prod.snd (Zf 0 most 3 (Za (PV.sl 1 false (List.map enc x))) err))))))))),([(.box [(.pv (.sl 1 false (List.drop (Int.toNat (Prod.fst (Zf 0 most 3 (Za (PV.sl 1 false (List.map enc x))) err))) (List.take (List.length (List.map enc (Prod.fst (Prod.snd (Zf 0 most 3 (Za (PV.sl 1 false (List.map enc x))) err))))) (List.map enc (Prod.fst (Prod.snd (Zf 0 most 3 (Za (PV.sl 1 false (List.map enc x))) err)))))))),(.pv (.int .i64 (Prod.snd (Prod.snd (Zf 0 most 3 (Za (PV.sl 1 false (List.map enc x))) err)))))])],[]))))))))))):Ze AQ 1 (Zk 1 GL G) GH [] (ZK 56 [.ptr 0 0,.pv (.int .i64 most)] [.box [.pv (.sl 1 false (x.map enc)),.pv (.int .i64 err)]]):=Ze.to (.lit (.lit (.lit (.lit (.lit (.lit (.lit (.lit (.ask (.nil) (.req (.keep (.lit (.ask (.nil) (.lit (.ask (.req (.keep (.nil))) (.req (.req (.req (.nil))))))))))))))))))) h (by kernel_rfl)
def Ga:IC:=(.seq (.reg [⟨(some 4),(.mv (.c (.int .i64 0))),0,none⟩] none) (.seq (.seq (.reg [⟨(some 6),(.mv (.t 0)),0,none⟩,⟨(some 7),(.nilchk (.t 6)),0,none⟩,⟨(some 8),(.faddr 1 (.t 7)),0,none⟩,⟨(some 9),(.load false [(.int .i64)] (.t 8)),0,none⟩,⟨(some 10),(.bin .num .neq (.t 9) (.c (.int .i64 0))),0,none⟩] none) (.cond (.t 10) (.seq (.reg [⟨(some 4),(.mv (.c (.int .i64 0))),0,none⟩] none) .ret) .skip)) (.seq (.reg [⟨(some 11),(.mv (.t 0)),0,none⟩,⟨(some 12),(.mv (.t 1)),0,none⟩,⟨(some 13),(.call (.c (.fn 50)) [(.t 11),(.c (.int .i64 0)),(.t 12)]),0,none⟩,⟨(some 5),(.mv (.t 13)),2,none⟩] none) (.seq (.seq (.reg [⟨(some 14),(.mv (.t 0)),0,none⟩,⟨(some 15),(.nilchk (.t 14)),0,none⟩,⟨(some 16),(.faddr 1 (.t 15)),0,none⟩,⟨(some 17),(.load false [(.int .i64)] (.t 16)),0,none⟩,⟨(some 18),(.bin .num .eql (.t 17) (.c (.int .i64 2))),0,none⟩] none) (.cond (.t 18) (.reg [⟨(some 19),(.mv (.t 0)),0,none⟩,⟨(some 20),(.nilchk (.t 19)),0,none⟩,⟨(some 21),(.faddr 1 (.t 20)),0,none⟩,⟨none,(.store 1 (.t 21) (.c (.int .i64 3))),0,none⟩] none) .skip)) (.seq (.reg [⟨(some 22),(.mv (.t 5)),0,none⟩,⟨(some 4),(.mv (.t 22)),0,none⟩] none) .ret)))))
def Da:List IRes:=[(.tmp 4)]
abbrev EA:Nat:=23
def AA:ZG:=Xo [(50,.own Yj Uh)]
theorem a7v{G:AV×List AObj×List AObj->Prop}(x:List UInt8)(err:Int)(most:Int)(h:if (err != 0)=true then G (((.pv (.int .i64 0)),([(.box [(.pv (.sl 1 false (List.map enc x))),(.pv (.int .i64 err))])],[])))else((Yj [(.ptr 0 0),(.pv (.int .i64 0)),(.pv (.int .i64 most))] [(.box [(.pv (.sl 1 false (List.map enc x))),(.pv (.int .i64 err))])])=true∧(if (Prod.snd (Prod.snd (Zf 0 most 2 (Za (PV.sl 1 false (List.map enc x))) err))==2)=true then G (((.pv (.int .i64 (Prod.fst (Zf 0 most 2 (Za (PV.sl 1 false (List.map enc x))) err)))),([(.box [(.pv (.sl 1 false (List.map enc (Prod.fst (Prod.snd (Zf 0 most 2 (Za (PV.sl 1 false (List.map enc x))) err)))))),(.pv (.int .i64 3))])],[])))else(G (((.pv (.int .i64 (Prod.fst (Zf 0 most 2 (Za (PV.sl 1 false (List.map enc x))) err)))),([(.box [(.pv (.sl 1 false (List.map enc (Prod.fst (Prod.snd (Zf 0 most 2 (Za (PV.sl 1 false (List.map enc x))) err)))))),(.pv (.int .i64 (Prod.snd (Prod.snd (Zf 0 most 2 (Za (PV.sl 1 false (List.map enc x))) err)))))])],[]))))))):Ze AA 1 (Zk 1 Da G) Ga [] (ZK 23 [.ptr 0 0,.pv (.int .i64 most)] [.box [.pv (.sl 1 false (x.map enc)),.pv (.int .i64 err)]]):=Ze.to (.lit (.ask (.nil) (.req (.keep (.lit (.ask (.nil) (.nil))))))) h (by kernel_rfl)
def Xh:IC:=(.seq (.reg [⟨(some 2),(.alloc (.agg [(.int .i64 0),(.sl 0 true [])])),0,none⟩] none) (.seq (.seq (.reg [⟨(some 8),(.mv (.t 0)),0,none⟩,⟨(some 9),(.bin .ptr .eql (.t 8) (.c .nilp)),0,none⟩,⟨(some 10),(.mv (.t 9)),0,none⟩,⟨(some 11),(.mv (.t 0)),0,(some (10,false))⟩,⟨(some 12),(.nilchk (.t 11)),0,(some (10,false))⟩,⟨(some 13),(.faddr 1 (.t 12)),0,(some (10,false))⟩,⟨(some 14),(.load false [(.int .i64)] (.t 13)),0,(some (10,false))⟩,⟨(some 15),(.bin .num .neq (.t 14) (.c (.int .i64 0))),0,(some (10,false))⟩,⟨(some 16),(.pick (.t 10) (.c (.bool true)) (.t 15)),0,none⟩] none) (.cond (.t 16) (.seq (.reg [⟨(some 17),(.build [(.int .i64 0),(.sl 0 true [])] []),0,none⟩,⟨none,(.store 2 (.t 2) (.t 17)),0,none⟩] none) .ret) .skip)) (.seq (.reg [⟨(some 18),(.mv (.t 0)),0,none⟩,⟨(some 19),(.nilchk (.t 18)),0,none⟩,⟨(some 20),(.faddr 0 (.t 19)),0,none⟩,⟨(some 21),(.load false [(.sl 1)] (.t 20)),0,none⟩,⟨(some 22),(.build [(.sl 0 true []),(.int .i64 0)] [(0,(1,(.t 21)))]),0,none⟩,⟨(some 23),(.box 2 (.t 22)),0,none⟩,⟨(some 3),(.mv (.t 23)),1,none⟩] none) (.seq (.reg [⟨(some 24),(.mv (.t 3)),0,none⟩,⟨(some 25),(.call (.c (.fn 45)) [(.t 24),(.c (.int .i64 (-1000000))),(.c (.int .i64 1000000))]),0,none⟩,⟨(some 26),(.build [(.int .i64 0),(.sl 0 true [])] [(0,(1,(.t 25)))]),2,none⟩,⟨(some 4),(.alloc (.agg [(.int .i64 0),(.sl 0 true [])])),2,none⟩,⟨none,(.store 2 (.t 4) (.t 26)),3,none⟩] none) (.seq (.reg [⟨(some 27),(.mv (.t 3)),0,none⟩,⟨(some 28),(.call (.c (.fn 45)) [(.t 27),(.c (.int .i64 (-9223372036854775808))),(.c (.int .i64 9223372036854775807))]),0,none⟩,⟨(some 5),(.mv (.t 28)),2,none⟩] none) (.seq (.seq (.reg [⟨(some 29),(.mv (.t 3)),0,none⟩,⟨(some 30),(.nilchk (.t 29)),0,none⟩,⟨(some 31),(.faddr 1 (.t 30)),0,none⟩,⟨(some 32),(.load false [(.int .i64)] (.t 31)),0,none⟩,⟨(some 33),(.bin .num .eql (.t 32) (.c (.int .i64 0))),0,none⟩,⟨(some 34),(.mv (.t 33)),0,none⟩,⟨(some 35),(.mv (.t 5)),0,(some (34,true))⟩,⟨(some 36),(.bin .num .lss (.t 35) (.c (.int .i64 0))),0,(some (34,true))⟩,⟨(some 37),(.mv (.t 36)),0,(some (34,true))⟩,⟨(some 38),(.mv (.t 5)),0,(some (37,false))⟩,⟨(some 39),(.bin .num .gtr (.t 38) (.c (.int .i64 12))),0,(some (37,false))⟩,⟨(some 40),(.pick (.t 37) (.c (.bool true)) (.t 39)),0,(some (34,true))⟩,⟨(some 41),(.pick (.t 34) (.t 40) (.c (.bool false))),0,none⟩] none) (.cond (.t 41) (.reg [⟨(some 42),(.mv (.t 3)),0,none⟩,⟨(some 43),(.nilchk (.t 42)),0,none⟩,⟨(some 44),(.faddr 1 (.t 43)),0,none⟩,⟨none,(.store 1 (.t 44) (.c (.int .i64 3))),0,none⟩] none) .skip)) (.seq (.seq (.reg [⟨(some 6),(.mv (.c (.int .i64 0))),0,none⟩] none) (.block 0 (.loop [6,5,3,4,0,2] (.seq (.seq (.reg [⟨(some 45),(.mv (.t 6)),0,none⟩,⟨(some 46),(.mv (.t 5)),0,none⟩,⟨(some 47),(.bin .num .lss (.t 45) (.t 46)),0,none⟩,⟨(some 48),(.mv (.t 47)),0,none⟩,⟨(some 49),(.mv (.t 3)),0,(some (48,true))⟩,⟨(some 50),(.nilchk (.t 49)),0,(some (48,true))⟩,⟨(some 51),(.faddr 1 (.t 50)),0,(some (48,true))⟩,⟨(some 52),(.load false [(.int .i64)] (.t 51)),0,(some (48,true))⟩,⟨(some 53),(.bin .num .eql (.t 52) (.c (.int .i64 0))),0,(some (48,true))⟩,⟨(some 54),(.pick (.t 48) (.t 53) (.c (.bool false))),0,none⟩] none) (.cond (.t 54) .skip (.exit 0))) (.seq (.block 1 (.seq (.reg [⟨(some 57),(.mv (.t 3)),0,none⟩,⟨(some 58),(.call (.c (.fn 46)) [(.t 57),(.c (.int .i64 30))]),0,none⟩,⟨(some 7),(.mv (.t 58)),2,none⟩] none) (.reg [⟨(some 59),(.faddr 1 (.t 4)),0,none⟩,⟨(some 60),(.load false [(.sl 2)] (.t 59)),0,none⟩,⟨(some 61),(.mv (.t 7)),0,none⟩,⟨(some 62),(.mv (.t 3)),0,none⟩,⟨(some 63),(.call (.c (.fn 45)) [(.t 62),(.c (.int .i64 (-1000000))),(.c (.int .i64 1000000))]),0,none⟩,⟨(some 64),(.build [(.str []),(.int .i64 0)] [(0,(1,(.t 61))),(1,(1,(.t 63)))]),2,none⟩,⟨(some 65),(.bslice 80 2 1 (.agg [(.str []),(.int .i64 0)]) [(0,(.t 64))]),2,none⟩,⟨(some 66),(.append 80 2 24 (.t 60) (.t 65)),3,none⟩,⟨(some 67),(.faddr 1 (.t 4)),4,none⟩,⟨none,(.store 1 (.t 67) (.t 66)),4,none⟩] (some [[],[0],[],[],[3],[2,4,3],[5,2,4,3],[1,6,4,0,5,2,3],[0,1,2,3,4,5,6,7],[8,7,0,1,2,3,4,5,6]])))) (.reg [⟨(some 55),(.mv (.t 6)),0,none⟩,⟨(some 56),(.bin .num .add (.t 55) (.c (.int .i64 1))),0,none⟩,⟨(some 6),(.mv (.t 56)),0,none⟩] none)))))) (.seq (.seq (.reg [⟨(some 68),(.mv (.t 3)),0,none⟩,⟨(some 69),(.nilchk (.t 68)),0,none⟩,⟨(some 70),(.faddr 1 (.t 69)),0,none⟩,⟨(some 71),(.load false [(.int .i64)] (.t 70)),0,none⟩,⟨(some 72),(.bin .num .eql (.t 71) (.c (.int .i64 0))),0,none⟩,⟨(some 73),(.mv (.t 72)),0,none⟩,⟨(some 74),(.load true [(.int .i64),(.sl 2)] (.t 4)),0,(some (73,true))⟩,⟨(some 75),(.call (.c (.fn 41)) [(.t 74)]),0,(some (73,true))⟩,⟨(some 76),(.un .not (.t 75)),2,(some (73,true))⟩,⟨(some 77),(.pick (.t 73) (.t 76) (.c (.bool false))),2,none⟩] none) (.cond (.t 77) (.reg [⟨(some 78),(.mv (.t 3)),0,none⟩,⟨(some 79),(.nilchk (.t 78)),0,none⟩,⟨(some 80),(.faddr 1 (.t 79)),0,none⟩,⟨none,(.store 1 (.t 80) (.c (.int .i64 4))),0,none⟩] none) .skip)) (.seq (.seq (.reg [⟨(some 81),(.mv (.t 0)),0,none⟩,⟨(some 82),(.mv (.t 3)),0,none⟩,⟨(some 83),(.nilchk (.t 82)),0,none⟩,⟨(some 84),(.faddr 1 (.t 83)),0,none⟩,⟨(some 85),(.load false [(.int .i64)] (.t 84)),0,none⟩,⟨(some 86),(.nilchk (.t 81)),0,none⟩,⟨(some 87),(.faddr 1 (.t 86)),0,none⟩,⟨none,(.store 1 (.t 87) (.t 85)),0,none⟩] none) (.seq (.reg [⟨(some 88),(.mv (.t 0)),0,none⟩,⟨(some 89),(.nilchk (.t 88)),0,none⟩,⟨(some 90),(.faddr 1 (.t 89)),0,none⟩,⟨(some 91),(.load false [(.int .i64)] (.t 90)),0,none⟩,⟨(some 92),(.bin .num .neq (.t 91) (.c (.int .i64 0))),0,none⟩] none) (.cond (.t 92) (.seq (.reg [⟨(some 93),(.build [(.int .i64 0),(.sl 0 true [])] []),0,none⟩,⟨none,(.store 2 (.t 2) (.t 93)),0,none⟩] none) .ret) .skip))) (.seq (.reg [⟨(some 94),(.mv (.t 0)),0,none⟩,⟨(some 95),(.mv (.t 3)),0,none⟩,⟨(some 96),(.nilchk (.t 95)),0,none⟩,⟨(some 97),(.faddr 0 (.t 96)),0,none⟩,⟨(some 98),(.load false [(.sl 1)] (.t 97)),0,none⟩,⟨(some 99),(.nilchk (.t 94)),0,none⟩,⟨(some 100),(.faddr 0 (.t 99)),0,none⟩,⟨none,(.store 1 (.t 100) (.t 98)),0,none⟩] none) (.seq (.reg [⟨(some 101),(.load true [(.int .i64),(.sl 2)] (.t 4)),0,none⟩,⟨none,(.store 2 (.t 2) (.t 101)),0,none⟩] none) .ret)))))))))))
def Xl:List IRes:=[(.cell true 2 2)]
abbrev b6f:Nat:=102
def Wy:ZG:=Xo [(45,.own Yj Uh),(46,.own Yi Vm),(41,.pure (preT (fun x:Lin×Unit=>ZJ x.1)) (Zo (fun x:Lin×Unit=>Zm x.1)))]
theorem c0m{G:AV×List AObj×List AObj->Prop}(x:List UInt8)(err:Int)(h:if (err != 0)=true then G (((.pv (.agg [(.int .i64 0),(.sl 0 true [])])),([(.box [(.pv (.sl 1 false (List.map enc x))),(.pv (.int .i64 err))])],[])))else((Yj [(.ptr 0 0),(.pv (.int .i64 (-1000000))),(.pv (.int .i64 1000000))] [(.box [(.pv (.sl 1 false (List.map enc x))),(.pv (.int .i64 0))])])=true∧((Yj [(.ptr 0 0),(.pv (.int .i64 (-9223372036854775808))),(.pv (.int .i64 9223372036854775807))] [(.box [(.pv (.sl 1 false (List.map enc (Prod.fst (Prod.snd (Zf (-1000000:Int) 1000000 2 (Za (PV.sl 1 false (List.map enc x))) 0)))))),(.pv (.int .i64 (Prod.snd (Prod.snd (Zf (-1000000:Int) 1000000 2 (Za (PV.sl 1 false (List.map enc x))) 0)))))])])=true∧(if (Prod.snd (Prod.snd (Zf (-9223372036854775808:Int) 9223372036854775807 2 (Za (PV.sl 1 false (List.map enc (Prod.fst (Prod.snd (Zf (-1000000:Int) 1000000 2 (Za (PV.sl 1 false (List.map enc x))) 0)))))) (Prod.snd (Prod.snd (Zf (-1000000:Int) 1000000 2 (Za (PV.sl 1 false (List.map enc x))) 0)))))==0)=true then if (decide (Prod.fst (Zf (-9223372036854775808:Int) 9223372036854775807 2 (Za (PV.sl 1 false (List.map enc (Prod.fst (Prod.snd (Zf (-1000000:Int) 1000000 2 (Za (PV.sl 1 false (List.map enc x))) 0)))))) (Prod.snd (Prod.snd (Zf (-1000000:Int) 1000000 2 (Za (PV.sl 1 false (List.map enc x))) 0))))<0))=true then At Wy 1 (YA 1 Xl G) Xh 0 102 [(0,(.ptr 0 0)),(2,(.ptr 1 0)),(3,(.ptr 2 0)),(4,(.ptr 3 0)),(5,(.pv (.int .i64 (Prod.fst (Zf (-9223372036854775808:Int) 9223372036854775807 2 (Za (PV.sl 1 false (List.map enc (Prod.fst (Prod.snd (Zf (-1000000:Int) 1000000 2 (Za (PV.sl 1 false (List.map enc x))) 0)))))) (Prod.snd (Prod.snd (Zf (-1000000:Int) 1000000 2 (Za (PV.sl 1 false (List.map enc x))) 0)))))))),(6,(.pv (.int .i64 0)))] [(.obj (.box [(.pv (.sl 1 false (List.map enc x))),(.pv (.int .i64 err))])),(.obj (.box [(.pv (.int .i64 0)),(.pv (.sl 0 true []))])),(.obj (.box [(.pv (.sl 1 false (List.map enc (Prod.fst (Prod.snd (Zf (-9223372036854775808:Int) 9223372036854775807 2 (Za (PV.sl 1 false (List.map enc (Prod.fst (Prod.snd (Zf (-1000000:Int) 1000000 2 (Za (PV.sl 1 false (List.map enc x))) 0)))))) (Prod.snd (Prod.snd (Zf (-1000000:Int) 1000000 2 (Za (PV.sl 1 false (List.map enc x))) 0))))))))),(.pv (.int .i64 3))])),(.obj (.box [(.pv (.int .i64 (Prod.fst (Zf (-1000000:Int) 1000000 2 (Za (PV.sl 1 false (List.map enc x))) 0)))),(.pv (.sl 0 true []))]))]else(if (decide (Prod.fst (Zf (-9223372036854775808:Int) 9223372036854775807 2 (Za (PV.sl 1 false (List.map enc (Prod.fst (Prod.snd (Zf (-1000000:Int) 1000000 2 (Za (PV.sl 1 false (List.map enc x))) 0)))))) (Prod.snd (Prod.snd (Zf (-1000000:Int) 1000000 2 (Za (PV.sl 1 false (List.map enc x))) 0))))>12))=true then At Wy 1 (YA 1 Xl G) Xh 0 102 [(0,(.ptr 0 0)),(2,(.ptr 1 0)),(3,(.ptr 2 0)),(4,(.ptr 3 0)),(5,(.pv (.int .i64 (Prod.fst (Zf (-9223372036854775808:Int) 9223372036854775807 2 (Za (PV.sl 1 false (List.map enc (Prod.fst (Prod.snd (Zf (-1000000:Int) 1000000 2 (Za (PV.sl 1 false (List.map enc x))) 0)))))) (Prod.snd (Prod.snd (Zf (-1000000:Int) 1000000 2 (Za (PV.sl 1 false (List.map enc x))) 0)))))))),(6,(.pv (.int .i64 0)))] [(.obj (.box [(.pv (.sl 1 false (List.map enc x))),(.pv (.int .i64 err))])),(.obj (.box [(.pv (.int .i64 0)),(.pv (.sl 0 true []))])),(.obj (.box [(.pv (.sl 1 false (List.map enc (Prod.fst (Prod.snd (Zf (-9223372036854775808:Int) 9223372036854775807 2 (Za (PV.sl 1 false (List.map enc (Prod.fst (Prod.snd (Zf (-1000000:Int) 1000000 2 (Za (PV.sl 1 false (List.map enc x))) 0)))))) (Prod.snd (Prod.snd (Zf (-1000000:Int) 1000000 2 (Za (PV.sl 1 false (List.map enc x))) 0))))))))),(.pv (.int .i64 3))])),(.obj (.box [(.pv (.int .i64 (Prod.fst (Zf (-1000000:Int) 1000000 2 (Za (PV.sl 1 false (List.map enc x))) 0)))),(.pv (.sl 0 true []))]))]else(At Wy 1 (YA 1 Xl G) Xh 0 102 [(0,(.ptr 0 0)),(2,(.ptr 1 0)),(3,(.ptr 2 0)),(4,(.ptr 3 0)),(5,(.pv (.int .i64 (Prod.fst (Zf (-9223372036854775808:Int) 9223372036854775807 2 (Za (PV.sl 1 false (List.map enc (Prod.fst (Prod.snd (Zf (-1000000:Int) 1000000 2 (Za (PV.sl 1 false (List.map enc x))) 0)))))) (Prod.snd (Prod.snd (Zf (-1000000:Int) 1000000 2 (Za (PV.sl 1 false (List.map enc x))) 0)))))))),(6,(.pv (.int .i64 0)))] [(.obj (.box [(.pv (.sl 1 false (List.map enc x))),(.pv (.int .i64 err))])),(.obj (.box [(.pv (.int .i64 0)),(.pv (.sl 0 true []))])),(.obj (.box [(.pv (.sl 1 false (List.map enc (Prod.fst (Prod.snd (Zf (-9223372036854775808:Int) 9223372036854775807 2 (Za (PV.sl 1 false (List.map enc (Prod.fst (Prod.snd (Zf (-1000000:Int) 1000000 2 (Za (PV.sl 1 false (List.map enc x))) 0)))))) (Prod.snd (Prod.snd (Zf (-1000000:Int) 1000000 2 (Za (PV.sl 1 false (List.map enc x))) 0))))))))),(.pv (.int .i64 (Prod.snd (Prod.snd (Zf (-9223372036854775808:Int) 9223372036854775807 2 (Za (PV.sl 1 false (List.map enc (Prod.fst (Prod.snd (Zf (-1000000:Int) 1000000 2 (Za (PV.sl 1 false (List.map enc x))) 0)))))) (Prod.snd (Prod.snd (Zf (-1000000:Int) 1000000 2 (Za (PV.sl 1 false (List.map enc x))) 0))))))))])),(.obj (.box [(.pv (.int .i64 (Prod.fst (Zf (-1000000:Int) 1000000 2 (Za (PV.sl 1 false (List.map enc x))) 0)))),(.pv (.sl 0 true []))]))]))else(At Wy 1 (YA 1 Xl G) Xh 0 102 [(0,(.ptr 0 0)),(2,(.ptr 1 0)),(3,(.ptr 2 0)),(4,(.ptr 3 0)),(5,(.pv (.int .i64 (Prod.fst (Zf (-9223372036854775808:Int) 9223372036854775807 2 (Za (PV.sl 1 false (List.map enc (Prod.fst (Prod.snd (Zf (-1000000:Int) 1000000 2 (Za (PV.sl 1 false (List.map enc x))) 0)))))) (Prod.snd (Prod.snd (Zf (-1000000:Int) 1000000 2 (Za (PV.sl 1 false (List.map enc x))) 0)))))))),(6,(.pv (.int .i64 0)))] [(.obj (.box [(.pv (.sl 1 false (List.map enc x))),(.pv (.int .i64 err))])),(.obj (.box [(.pv (.int .i64 0)),(.pv (.sl 0 true []))])),(.obj (.box [(.pv (.sl 1 false (List.map enc (Prod.fst (Prod.snd (Zf (-9223372036854775808:Int) 9223372036854775807 2 (Za (PV.sl 1 false (List.map enc (Prod.fst (Prod.snd (Zf (-1000000:Int) 1000000 2 (Za (PV.sl 1 false (List.map enc x))) 0)))))) (Prod.snd (Prod.snd (Zf (-1000000:Int) 1000000 2 (Za (PV.sl 1 false (List.map enc x))) 0))))))))),(.pv (.int .i64 (Prod.snd (Prod.snd (Zf (-9223372036854775808:Int) 9223372036854775807 2 (Za (PV.sl 1 false (List.map enc (Prod.fst (Prod.snd (Zf (-1000000:Int) 1000000 2 (Za (PV.sl 1 false (List.map enc x))) 0)))))) (Prod.snd (Prod.snd (Zf (-1000000:Int) 1000000 2 (Za (PV.sl 1 false (List.map enc x))) 0))))))))])),(.obj (.box [(.pv (.int .i64 (Prod.fst (Zf (-1000000:Int) 1000000 2 (Za (PV.sl 1 false (List.map enc x))) 0)))),(.pv (.sl 0 true []))]))]))))):Ze Wy 1 (YA 1 Xl G) Xh [] (ZK 102 [.ptr 0 0] [.box [.pv (.sl 1 false (x.map enc)),.pv (.int .i64 err)]]):=Ze.tf (.lit (.lit (.lit (.lit (.lit (.lit (.lit (.lit (.ask (.nil) (.req (.keep (.req (.keep (.lit (.ask (.lit (.lit (.lit (.ask (.lit (.lit (.lit (.lit (.lit (.nil)))))) (.lit (.lit (.lit (.lit (.lit (.ask (.nil) (.nil))))))))))) (.lit (.lit (.lit (.lit (.lit (.nil))))))))))))))))))))) h (by kernel_rfl)
theorem PQ{G:AV×List AObj×List AObj->Prop}(x:List UInt8)(err:Int)(z:List UInt8)(e k n i:Int)(h:if (decide (i<n))=true then if (e==0)=true then(Yi [(.ptr 0 0),(.pv (.int .i64 30))] [(.box [(.pv (.sl 1 false (List.map enc z))),(.pv (.int .i64 e))])])=true∧((Yj [(.ptr 0 0),(.pv (.int .i64 (-1000000))),(.pv (.int .i64 1000000))] [(.box [(.pv (.sl 1 false (List.map enc (Prod.fst (Prod.snd (Zi 30 (Za (PV.sl 1 false (List.map enc z))) e)))))),(.pv (.int .i64 (Prod.snd (Prod.snd (Zi 30 (Za (PV.sl 1 false (List.map enc z))) e)))))])])=true∧(At Wy 1 (YA 1 Xl G) Xh 0 102 [(0,(.ptr 0 0)),(2,(.ptr 1 0)),(3,(.ptr 2 0)),(4,(.ptr 3 0)),(5,(.pv (.int .i64 n))),(6,(.pv (.int .i64 (IntKind.wrap IntKind.i64 (i+1)))))] [(.obj (.box [(.pv (.sl 1 false (List.map enc x))),(.pv (.int .i64 err))])),(.obj (.box [(.pv (.int .i64 0)),(.pv (.sl 0 true []))])),(.obj (.box [(.pv (.sl 1 false (List.map enc (Prod.fst (Prod.snd (Zf (-1000000:Int) 1000000 2 (Za (PV.sl 1 false (List.map enc (Prod.fst (Prod.snd (Zi 30 (Za (PV.sl 1 false (List.map enc z))) e)))))) (Prod.snd (Prod.snd (Zi 30 (Za (PV.sl 1 false (List.map enc z))) e))))))))),(.pv (.int .i64 (Prod.snd (Prod.snd (Zf (-1000000:Int) 1000000 2 (Za (PV.sl 1 false (List.map enc (Prod.fst (Prod.snd (Zi 30 (Za (PV.sl 1 false (List.map enc z))) e)))))) (Prod.snd (Prod.snd (Zi 30 (Za (PV.sl 1 false (List.map enc z))) e))))))))])),(.obj (.box [(.pv (.int .i64 k)),(.row 4 1 0 1)])),(.obj (.row false 80 2 [(.agg [(.str (Prod.fst (Zi 30 (Za (PV.sl 1 false (List.map enc z))) e))),(.int .i64 (Prod.fst (Zf (-1000000:Int) 1000000 2 (Za (PV.sl 1 false (List.map enc (Prod.fst (Prod.snd (Zi 30 (Za (PV.sl 1 false (List.map enc z))) e)))))) (Prod.snd (Prod.snd (Zi 30 (Za (PV.sl 1 false (List.map enc z))) e))))))])]))]))else(if (e==0)=true then ∃ y0:Bool,AV.pv (Zo (fun(x:Lin×Unit)=>Zm x.1) [(.agg [(.int .i64 k),(.sl 0 true [])])])=AV.pv (enc y0)∧(if (!y0)=true then G (((.pv (.agg [(.int .i64 0),(.sl 0 true [])])),([(.box [(.pv (.sl 1 false (List.map enc x))),(.pv (.int .i64 4))])],[])))else(if (e != 0)=true then G (((.pv (.agg [(.int .i64 0),(.sl 0 true [])])),([(.box [(.pv (.sl 1 false (List.map enc x))),(.pv (.int .i64 e))])],[])))else(G (((.pv (.agg [(.int .i64 k),(.sl 0 true [])])),([(.box [(.pv (.sl 1 false (List.map enc z))),(.pv (.int .i64 e))])],[]))))))else(if (e != 0)=true then G (((.pv (.agg [(.int .i64 0),(.sl 0 true [])])),([(.box [(.pv (.sl 1 false (List.map enc x))),(.pv (.int .i64 e))])],[])))else(G (((.pv (.agg [(.int .i64 k),(.sl 0 true [])])),([(.box [(.pv (.sl 1 false (List.map enc z))),(.pv (.int .i64 e))])],[]))))))else(if (e==0)=true then ∃ y1:Bool,AV.pv (Zo (fun(x:Lin×Unit)=>Zm x.1) [(.agg [(.int .i64 k),(.sl 0 true [])])])=AV.pv (enc y1)∧(if (!y1)=true then G (((.pv (.agg [(.int .i64 0),(.sl 0 true [])])),([(.box [(.pv (.sl 1 false (List.map enc x))),(.pv (.int .i64 4))])],[])))else(if (e != 0)=true then G (((.pv (.agg [(.int .i64 0),(.sl 0 true [])])),([(.box [(.pv (.sl 1 false (List.map enc x))),(.pv (.int .i64 e))])],[])))else(G (((.pv (.agg [(.int .i64 k),(.sl 0 true [])])),([(.box [(.pv (.sl 1 false (List.map enc z))),(.pv (.int .i64 e))])],[]))))))else(if (e != 0)=true then G (((.pv (.agg [(.int .i64 0),(.sl 0 true [])])),([(.box [(.pv (.sl 1 false (List.map enc x))),(.pv (.int .i64 e))])],[])))else(G (((.pv (.agg [(.int .i64 k),(.sl 0 true [])])),([(.box [(.pv (.sl 1 false (List.map enc z))),(.pv (.int .i64 e))])],[]))))))):At Wy 1 (YA 1 Xl G) Xh 0 102 [(0,.ptr 0 0),(2,.ptr 1 0),(3,.ptr 2 0),(4,.ptr 3 0),(5,.pv (.int .i64 n)),(6,.pv (.int .i64 i))] [.obj (.box [.pv (.sl 1 false (x.map enc)),.pv (.int .i64 err)]),.obj (.box [.pv (.int .i64 0),.pv (.sl 0 true [])]),.obj (.box [.pv (.sl 1 false (z.map enc)),.pv (.int .i64 e)]),.obj (.box [.pv (.int .i64 k),.pv (.sl 0 true [])])]:=At.tf (.lit (.ask (.lit (.lit (.lit (.lit (.lit (.lit (.ask (.req (.keep (.req (.keep (.lit (.lit (.lit (.lit (.lit (.lit (.nil))))))))))) (.lit (.ask (.lit (.lit (.abs (Bool) (fun YY=>AV.pv (enc YY)) (.lit (.lit (.ask (.lit (.lit (.nil))) (.lit (.ask (.nil) (.nil))))))))) (.lit (.lit (.lit (.lit (.lit (.ask (.nil) (.nil)))))))))))))))) (.lit (.lit (.lit (.lit (.lit (.lit (.lit (.ask (.lit (.lit (.abs (Bool) (fun YY=>AV.pv (enc YY)) (.lit (.lit (.ask (.lit (.lit (.nil))) (.lit (.ask (.nil) (.nil))))))))) (.lit (.lit (.lit (.lit (.lit (.ask (.nil) (.nil))))))))))))))))) h (by kernel_rfl)
theorem Nz{G:AV×List AObj×List AObj->Prop}(x:List UInt8)(err:Int)(z:List UInt8)(e k n i:Int)(ts:List Coef)(m:Nat)(h:if (decide (i<n))=true then if (e==0)=true then(Yi [(.ptr 0 0),(.pv (.int .i64 30))] [(.box [(.pv (.sl 1 false (List.map enc z))),(.pv (.int .i64 e))])])=true∧((Yj [(.ptr 0 0),(.pv (.int .i64 (-1000000))),(.pv (.int .i64 1000000))] [(.box [(.pv (.sl 1 false (List.map enc (Prod.fst (Prod.snd (Zi 30 (Za (PV.sl 1 false (List.map enc z))) e)))))),(.pv (.int .i64 (Prod.snd (Prod.snd (Zi 30 (Za (PV.sl 1 false (List.map enc z))) e)))))])])=true∧((List.length (List.map enc ts)==m&&m==m&&decide ((m+List.length (List.drop 0 (List.take 1 [PV.agg [PV.str (Prod.fst (Zi 30 (Za (PV.sl 1 false (List.map enc z))) e)),PV.int .i64 (Prod.fst (Zf (-1000000:Int) 1000000 2 (Za (PV.sl 1 false (List.map enc (Prod.fst (Prod.snd (Zi 30 (Za (PV.sl 1 false (List.map enc z))) e)))))) (Prod.snd (Prod.snd (Zi 30 (Za (PV.sl 1 false (List.map enc z))) e)))))]])))*24<=1099511627776)&&decide (m+List.length (List.drop 0 (List.take 1 [PV.agg [PV.str (Prod.fst (Zi 30 (Za (PV.sl 1 false (List.map enc z))) e)),PV.int .i64 (Prod.fst (Zf (-1000000:Int) 1000000 2 (Za (PV.sl 1 false (List.map enc (Prod.fst (Prod.snd (Zi 30 (Za (PV.sl 1 false (List.map enc z))) e)))))) (Prod.snd (Prod.snd (Zi 30 (Za (PV.sl 1 false (List.map enc z))) e)))))]]))<=1099511627776))=true∧(At Wy 1 (YA 1 Xl G) Xh 0 102 [(0,(.ptr 0 0)),(2,(.ptr 1 0)),(3,(.ptr 2 0)),(4,(.ptr 3 0)),(5,(.pv (.int .i64 n))),(6,(.pv (.int .i64 (IntKind.wrap IntKind.i64 (i+1)))))] [(.obj (.box [(.pv (.sl 1 false (List.map enc x))),(.pv (.int .i64 err))])),(.obj (.box [(.pv (.int .i64 0)),(.pv (.sl 0 true []))])),(.obj (.box [(.pv (.sl 1 false (List.map enc (Prod.fst (Prod.snd (Zf (-1000000:Int) 1000000 2 (Za (PV.sl 1 false (List.map enc (Prod.fst (Prod.snd (Zi 30 (Za (PV.sl 1 false (List.map enc z))) e)))))) (Prod.snd (Prod.snd (Zi 30 (Za (PV.sl 1 false (List.map enc z))) e))))))))),(.pv (.int .i64 (Prod.snd (Prod.snd (Zf (-1000000:Int) 1000000 2 (Za (PV.sl 1 false (List.map enc (Prod.fst (Prod.snd (Zi 30 (Za (PV.sl 1 false (List.map enc z))) e)))))) (Prod.snd (Prod.snd (Zi 30 (Za (PV.sl 1 false (List.map enc z))) e))))))))])),(.obj (.box [(.pv (.int .i64 k)),(.row 4 (m+List.length (List.drop 0 (List.take 1 [PV.agg [PV.str (Prod.fst (Zi 30 (Za (PV.sl 1 false (List.map enc z))) e)),PV.int .i64 (Prod.fst (Zf (-1000000:Int) 1000000 2 (Za (PV.sl 1 false (List.map enc (Prod.fst (Prod.snd (Zi 30 (Za (PV.sl 1 false (List.map enc z))) e)))))) (Prod.snd (Prod.snd (Zi 30 (Za (PV.sl 1 false (List.map enc z))) e)))))]]))) 0 (m+List.length (List.drop 0 (List.take 1 [PV.agg [PV.str (Prod.fst (Zi 30 (Za (PV.sl 1 false (List.map enc z))) e)),PV.int .i64 (Prod.fst (Zf (-1000000:Int) 1000000 2 (Za (PV.sl 1 false (List.map enc (Prod.fst (Prod.snd (Zi 30 (Za (PV.sl 1 false (List.map enc z))) e)))))) (Prod.snd (Prod.snd (Zi 30 (Za (PV.sl 1 false (List.map enc z))) e)))))]]))))])),(.obj (.row false 80 2 (List.map enc ts++List.drop 0 (List.take 1 [PV.agg [PV.str (Prod.fst (Zi 30 (Za (PV.sl 1 false (List.map enc z))) e)),PV.int .i64 (Prod.fst (Zf (-1000000:Int) 1000000 2 (Za (PV.sl 1 false (List.map enc (Prod.fst (Prod.snd (Zi 30 (Za (PV.sl 1 false (List.map enc z))) e)))))) (Prod.snd (Prod.snd (Zi 30 (Za (PV.sl 1 false (List.map enc z))) e)))))]]))))])))else(if (e==0)=true then(List.length (List.map enc ts)==m)=true∧((Go.Pl.preT (fun(x:Lin×Unit)=>ZJ x.1) [(.agg [(.int .i64 k),(.sl 2 false (List.drop 0 (List.take m (List.map enc ts))))])])=true∧(∃ y0:Bool,AV.pv (Zo (fun(x:Lin×Unit)=>Zm x.1) [(.agg [(.int .i64 k),(.sl 2 false (List.drop 0 (List.take m (List.map enc ts))))])])=AV.pv (enc y0)∧(if (!y0)=true then G (((.pv (.agg [(.int .i64 0),(.sl 0 true [])])),([(.box [(.pv (.sl 1 false (List.map enc x))),(.pv (.int .i64 4))])],[])))else(if (e != 0)=true then G (((.pv (.agg [(.int .i64 0),(.sl 0 true [])])),([(.box [(.pv (.sl 1 false (List.map enc x))),(.pv (.int .i64 e))])],[])))else((List.length (List.map enc ts)==m)=true∧(G (((.pv (.agg [(.int .i64 k),(.sl 2 false (List.drop 0 (List.take m (List.map enc ts))))])),([(.box [(.pv (.sl 1 false (List.map enc z))),(.pv (.int .i64 e))])],[])))))))))else(if (e != 0)=true then G (((.pv (.agg [(.int .i64 0),(.sl 0 true [])])),([(.box [(.pv (.sl 1 false (List.map enc x))),(.pv (.int .i64 e))])],[])))else((List.length (List.map enc ts)==m)=true∧(G (((.pv (.agg [(.int .i64 k),(.sl 2 false (List.drop 0 (List.take m (List.map enc ts))))])),([(.box [(.pv (.sl 1 false (List.map enc z))),(.pv (.int .i64 e))])],[])))))))else(if (e==0)=true then(List.length (List.map enc ts)==m)=true∧((Go.Pl.preT (fun(x:Lin×Unit)=>ZJ x.1) [(.agg [(.int .i64 k),(.sl 2 false (List.drop 0 (List.take m (List.map enc ts))))])])=true∧(∃ y1:Bool,AV.pv (Zo (fun(x:Lin×Unit)=>Zm x.1) [(.agg [(.int .i64 k),(.sl 2 false (List.drop 0 (List.take m (List.map enc ts))))])])=AV.pv (enc y1)∧(if (!y1)=true then G (((.pv (.agg [(.int .i64 0),(.sl 0 true [])])),([(.box [(.pv (.sl 1 false (List.map enc x))),(.pv (.int .i64 4))])],[])))else(if (e != 0)=true then G (((.pv (.agg [(.int .i64 0),(.sl 0 true [])])),([(.box [(.pv (.sl 1 false (List.map enc x))),(.pv (.int .i64 e))])],[])))else((List.length (List.map enc ts)==m)=true∧(G (((.pv (.agg [(.int .i64 k),(.sl 2 false (List.drop 0 (List.take m (List.map enc ts))))])),([(.box [(.pv (.sl 1 false (List.map enc z))),(.pv (.int .i64 e))])],[])))))))))else(if (e != 0)=true then G (((.pv (.agg [(.int .i64 0),(.sl 0 true [])])),([(.box [(.pv (.sl 1 false (List.map enc x))),(.pv (.int .i64 e))])],[])))else((List.length (List.map enc ts)==m)=true∧(G (((.pv (.agg [(.int .i64 k),(.sl 2 false (List.drop 0 (List.take m (List.map enc ts))))])),([(.box [(.pv (.sl 1 false (List.map enc z))),(.pv (.int .i64 e))])],[])))))))):At Wy 1 (YA 1 Xl G) Xh 0 102 [(0,.ptr 0 0),(2,.ptr 1 0),(3,.ptr 2 0),(4,.ptr 3 0),(5,.pv (.int .i64 n)),(6,.pv (.int .i64 i))] [.obj (.box [.pv (.sl 1 false (x.map enc)),.pv (.int .i64 err)]),.obj (.box [.pv (.int .i64 0),.pv (.sl 0 true [])]),.obj (.box [.pv (.sl 1 false (z.map enc)),.pv (.int .i64 e)]),.obj (.box [.pv (.int .i64 k),.row 4 m 0 m]),.obj (.row false 80 2 (ts.map enc))]:=At.tf (.lit (.ask (.lit (.lit (.lit (.lit (.lit (.lit (.ask (.req (.keep (.req (.keep (.lit (.lit (.req (.lit (.nil))))))))) (.lit (.ask (.lit (.req (.req (.abs (Bool) (fun YY=>AV.pv (enc YY)) (.lit (.lit (.ask (.lit (.lit (.nil))) (.lit (.ask (.nil) (.req (.nil))))))))))) (.lit (.lit (.lit (.lit (.lit (.ask (.nil) (.req (.nil))))))))))))))))) (.lit (.lit (.lit (.lit (.lit (.lit (.lit (.ask (.lit (.req (.req (.abs (Bool) (fun YY=>AV.pv (enc YY)) (.lit (.lit (.ask (.lit (.lit (.nil))) (.lit (.ask (.nil) (.req (.nil))))))))))) (.lit (.lit (.lit (.lit (.lit (.ask (.nil) (.req (.nil)))))))))))))))))) h (by kernel_rfl)
theorem b3v{G:AV×List AObj×List AObj->Prop}(h:G (((.pv (.agg [(.int .i64 0),(.sl 0 true [])])),([],[])))):Ze Wy 0 (YA 0 Xl G) Xh [] (ZK 102 [.pv .nilp] []):=Ze.tf (.lit (.lit (.lit (.lit (.lit (.lit (.lit (.lit (.nil))))))))) h (by kernel_rfl)
def Xz:IC:=(.seq (.reg [⟨(some 2),(.alloc (.agg [(.int .i64 0),(.sl 0 true [])])),0,none⟩] none) (.seq (.seq (.reg [⟨(some 8),(.mv (.t 0)),0,none⟩,⟨(some 9),(.bin .ptr .eql (.t 8) (.c .nilp)),0,none⟩,⟨(some 10),(.mv (.t 9)),0,none⟩,⟨(some 11),(.mv (.t 0)),0,(some (10,false))⟩,⟨(some 12),(.nilchk (.t 11)),0,(some (10,false))⟩,⟨(some 13),(.faddr 1 (.t 12)),0,(some (10,false))⟩,⟨(some 14),(.load false [(.int .i64)] (.t 13)),0,(some (10,false))⟩,⟨(some 15),(.bin .num .neq (.t 14) (.c (.int .i64 0))),0,(some (10,false))⟩,⟨(some 16),(.pick (.t 10) (.c (.bool true)) (.t 15)),0,none⟩] none) (.cond (.t 16) (.seq (.reg [⟨(some 17),(.build [(.int .i64 0),(.sl 0 true [])] []),0,none⟩,⟨none,(.store 2 (.t 2) (.t 17)),0,none⟩] none) .ret) .skip)) (.seq (.reg [⟨(some 18),(.mv (.t 0)),0,none⟩,⟨(some 19),(.nilchk (.t 18)),0,none⟩,⟨(some 20),(.faddr 0 (.t 19)),0,none⟩,⟨(some 21),(.load false [(.sl 1)] (.t 20)),0,none⟩,⟨(some 3),(.mv (.t 21)),0,none⟩] none) (.seq (.reg [⟨(some 22),(.mv (.t 0)),0,none⟩,⟨(some 23),(.call (.c (.fn 50)) [(.t 22),(.c (.int .i64 (-1000000))),(.c (.int .i64 1000000))]),0,none⟩,⟨(some 24),(.build [(.int .i64 0),(.sl 0 true [])] [(0,(1,(.t 23)))]),2,none⟩,⟨(some 4),(.alloc (.agg [(.int .i64 0),(.sl 0 true [])])),2,none⟩,⟨none,(.store 2 (.t 4) (.t 24)),3,none⟩] none) (.seq (.reg [⟨(some 25),(.mv (.t 0)),0,none⟩,⟨(some 26),(.call (.c (.fn 51)) [(.t 25),(.c (.int .i64 12))]),0,none⟩,⟨(some 5),(.mv (.t 26)),2,none⟩] none) (.seq (.seq (.reg [⟨(some 6),(.mv (.c (.int .i64 0))),0,none⟩] none) (.block 0 (.loop [6,5,0,4,3,2] (.seq (.seq (.reg [⟨(some 27),(.mv (.t 6)),0,none⟩,⟨(some 28),(.mv (.t 5)),0,none⟩,⟨(some 29),(.bin .num .lss (.t 27) (.t 28)),0,none⟩,⟨(some 30),(.mv (.t 29)),0,none⟩,⟨(some 31),(.mv (.t 0)),0,(some (30,true))⟩,⟨(some 32),(.nilchk (.t 31)),0,(some (30,true))⟩,⟨(some 33),(.faddr 1 (.t 32)),0,(some (30,true))⟩,⟨(some 34),(.load false [(.int .i64)] (.t 33)),0,(some (30,true))⟩,⟨(some 35),(.bin .num .eql (.t 34) (.c (.int .i64 0))),0,(some (30,true))⟩,⟨(some 36),(.pick (.t 30) (.t 35) (.c (.bool false))),0,none⟩] none) (.cond (.t 36) .skip (.exit 0))) (.seq (.block 1 (.seq (.reg [⟨(some 39),(.mv (.t 0)),0,none⟩,⟨(some 40),(.call (.c (.fn 52)) [(.t 39),(.c (.int .i64 30))]),0,none⟩,⟨(some 7),(.mv (.t 40)),2,none⟩] none) (.reg [⟨(some 41),(.faddr 1 (.t 4)),0,none⟩,⟨(some 42),(.load false [(.sl 2)] (.t 41)),0,none⟩,⟨(some 43),(.mv (.t 7)),0,none⟩,⟨(some 44),(.mv (.t 0)),0,none⟩,⟨(some 45),(.call (.c (.fn 50)) [(.t 44),(.c (.int .i64 (-1000000))),(.c (.int .i64 1000000))]),0,none⟩,⟨(some 46),(.build [(.str []),(.int .i64 0)] [(0,(1,(.t 43))),(1,(1,(.t 45)))]),2,none⟩,⟨(some 47),(.bslice 80 2 1 (.agg [(.str []),(.int .i64 0)]) [(0,(.t 46))]),2,none⟩,⟨(some 48),(.append 80 2 24 (.t 42) (.t 47)),3,none⟩,⟨(some 49),(.faddr 1 (.t 4)),4,none⟩,⟨none,(.store 1 (.t 49) (.t 48)),4,none⟩] (some [[],[0],[],[],[3],[2,4,3],[5,2,4,3],[1,6,4,0,5,2,3],[0,1,2,3,4,5,6,7],[8,7,0,1,2,3,4,5,6]])))) (.reg [⟨(some 37),(.mv (.t 6)),0,none⟩,⟨(some 38),(.bin .num .add (.t 37) (.c (.int .i64 1))),0,none⟩,⟨(some 6),(.mv (.t 38)),0,none⟩] none)))))) (.seq (.seq (.reg [⟨(some 50),(.mv (.t 0)),0,none⟩,⟨(some 51),(.nilchk (.t 50)),0,none⟩,⟨(some 52),(.faddr 1 (.t 51)),0,none⟩,⟨(some 53),(.load false [(.int .i64)] (.t 52)),0,none⟩,⟨(some 54),(.bin .num .eql (.t 53) (.c (.int .i64 0))),0,none⟩,⟨(some 55),(.mv (.t 54)),0,none⟩,⟨(some 56),(.load true [(.int .i64),(.sl 2)] (.t 4)),0,(some (55,true))⟩,⟨(some 57),(.call (.c (.fn 18)) [(.t 56)]),0,(some (55,true))⟩,⟨(some 58),(.un .not (.t 57)),2,(some (55,true))⟩,⟨(some 59),(.pick (.t 55) (.t 58) (.c (.bool false))),2,none⟩] none) (.cond (.t 59) (.reg [⟨(some 60),(.mv (.t 0)),0,none⟩,⟨(some 61),(.nilchk (.t 60)),0,none⟩,⟨(some 62),(.faddr 1 (.t 61)),0,none⟩,⟨none,(.store 1 (.t 62) (.c (.int .i64 4))),0,none⟩] none) .skip)) (.seq (.seq (.reg [⟨(some 63),(.mv (.t 0)),0,none⟩,⟨(some 64),(.nilchk (.t 63)),0,none⟩,⟨(some 65),(.faddr 1 (.t 64)),0,none⟩,⟨(some 66),(.load false [(.int .i64)] (.t 65)),0,none⟩,⟨(some 67),(.bin .num .neq (.t 66) (.c (.int .i64 0))),0,none⟩] none) (.cond (.t 67) (.seq (.reg [⟨(some 68),(.mv (.t 0)),0,none⟩,⟨(some 69),(.mv (.t 3)),0,none⟩,⟨(some 70),(.nilchk (.t 68)),0,none⟩,⟨(some 71),(.faddr 0 (.t 70)),0,none⟩,⟨none,(.store 1 (.t 71) (.t 69)),0,none⟩] none) (.seq (.reg [⟨(some 72),(.build [(.int .i64 0),(.sl 0 true [])] []),0,none⟩,⟨none,(.store 2 (.t 2) (.t 72)),0,none⟩] none) .ret)) .skip)) (.seq (.reg [⟨(some 73),(.load true [(.int .i64),(.sl 2)] (.t 4)),0,none⟩,⟨none,(.store 2 (.t 2) (.t 73)),0,none⟩] none) .ret)))))))))
def Xw:List IRes:=[(.cell true 2 2)]
abbrev a8g:Nat:=74
def Wn:ZG:=Xo [(50,.own Yj Uh),(52,.own Yi Vm),(51,.own VV KM),(18,.pure (preT (fun x:Lin×Unit=>ZL x.1)) (Zo (fun x:Lin×Unit=>Zm x.1)))]
theorem b2d{G:AV×List AObj×List AObj->Prop}(x:List UInt8)(err:Int)(h:if (err != 0)=true then G (((.pv (.agg [(.int .i64 0),(.sl 0 true [])])),([(.box [(.pv (.sl 1 false (List.map enc x))),(.pv (.int .i64 err))])],[])))else((Yj [(.ptr 0 0),(.pv (.int .i64 (-1000000))),(.pv (.int .i64 1000000))] [(.box [(.pv (.sl 1 false (List.map enc x))),(.pv (.int .i64 err))])])=true∧((VV [(.ptr 0 0),(.pv (.int .i64 12))] [(.box [(.pv (.sl 1 false (List.map enc (Prod.fst (Prod.snd (Zf (-1000000:Int) 1000000 2 (Za (PV.sl 1 false (List.map enc x))) err)))))),(.pv (.int .i64 (Prod.snd (Prod.snd (Zf (-1000000:Int) 1000000 2 (Za (PV.sl 1 false (List.map enc x))) err)))))])])=true∧(At Wn 1 (YA 1 Xw G) Xz 0 74 [(0,(.ptr 0 0)),(2,(.ptr 1 0)),(3,(.pv (.sl 1 false (List.map enc x)))),(4,(.ptr 2 0)),(5,(.pv (.int .i64 (Prod.fst (Zf 0 12 3 (Za (PV.sl 1 false (List.map enc (Prod.fst (Prod.snd (Zf (-1000000:Int) 1000000 2 (Za (PV.sl 1 false (List.map enc x))) err)))))) (Prod.snd (Prod.snd (Zf (-1000000:Int) 1000000 2 (Za (PV.sl 1 false (List.map enc x))) err)))))))),(6,(.pv (.int .i64 0)))] [(.obj (.box [(.pv (.sl 1 false (List.map enc (Prod.fst (Prod.snd (Zf 0 12 3 (Za (PV.sl 1 false (List.map enc (Prod.fst (Prod.snd (Zf (-1000000:Int) 1000000 2 (Za (PV.sl 1 false (List.map enc x))) err)))))) (Prod.snd (Prod.snd (Zf (-1000000:Int) 1000000 2 (Za (PV.sl 1 false (List.map enc x))) err))))))))),(.pv (.int .i64 (Prod.snd (Prod.snd (Zf 0 12 3 (Za (PV.sl 1 false (List.map enc (Prod.fst (Prod.snd (Zf (-1000000:Int) 1000000 2 (Za (PV.sl 1 false (List.map enc x))) err)))))) (Prod.snd (Prod.snd (Zf (-1000000:Int) 1000000 2 (Za (PV.sl 1 false (List.map enc x))) err))))))))])),(.obj (.box [(.pv (.int .i64 0)),(.pv (.sl 0 true []))])),(.obj (.box [(.pv (.int .i64 (Prod.fst (Zf (-1000000:Int) 1000000 2 (Za (PV.sl 1 false (List.map enc x))) err)))),(.pv (.sl 0 true []))]))])))):Ze Wn 1 (YA 1 Xw G) Xz [] (ZK 74 [.ptr 0 0] [.box [.pv (.sl 1 false (x.map enc)),.pv (.int .i64 err)]]):=Ze.tf (.lit (.lit (.lit (.lit (.lit (.lit (.lit (.lit (.ask (.nil) (.req (.keep (.req (.keep (.nil)))))))))))))) h (by kernel_rfl)
theorem SK{G:AV×List AObj×List AObj->Prop}(x:List UInt8)(err:Int)(z:List UInt8)(e k n i:Int)(h:if (decide (i<n))=true then if (e==0)=true then(Yi [(.ptr 0 0),(.pv (.int .i64 30))] [(.box [(.pv (.sl 1 false (List.map enc z))),(.pv (.int .i64 e))])])=true∧((Yj [(.ptr 0 0),(.pv (.int .i64 (-1000000))),(.pv (.int .i64 1000000))] [(.box [(.pv (.sl 1 false (List.map enc (Prod.fst (Prod.snd (Zi 30 (Za (PV.sl 1 false (List.map enc z))) e)))))),(.pv (.int .i64 (Prod.snd (Prod.snd (Zi 30 (Za (PV.sl 1 false (List.map enc z))) e)))))])])=true∧(At Wn 1 (YA 1 Xw G) Xz 0 74 [(0,(.ptr 0 0)),(2,(.ptr 1 0)),(3,(.pv (.sl 1 false (List.map enc x)))),(4,(.ptr 2 0)),(5,(.pv (.int .i64 n))),(6,(.pv (.int .i64 (IntKind.wrap IntKind.i64 (i+1)))))] [(.obj (.box [(.pv (.sl 1 false (List.map enc (Prod.fst (Prod.snd (Zf (-1000000:Int) 1000000 2 (Za (PV.sl 1 false (List.map enc (Prod.fst (Prod.snd (Zi 30 (Za (PV.sl 1 false (List.map enc z))) e)))))) (Prod.snd (Prod.snd (Zi 30 (Za (PV.sl 1 false (List.map enc z))) e))))))))),(.pv (.int .i64 (Prod.snd (Prod.snd (Zf (-1000000:Int) 1000000 2 (Za (PV.sl 1 false (List.map enc (Prod.fst (Prod.snd (Zi 30 (Za (PV.sl 1 false (List.map enc z))) e)))))) (Prod.snd (Prod.snd (Zi 30 (Za (PV.sl 1 false (List.map enc z))) e))))))))])),(.obj (.box [(.pv (.int .i64 0)),(.pv (.sl 0 true []))])),(.obj (.box [(.pv (.int .i64 k)),(.row 3 1 0 1)])),(.obj (.row false 80 2 [(.agg [(.str (Prod.fst (Zi 30 (Za (PV.sl 1 false (List.map enc z))) e))),(.int .i64 (Prod.fst (Zf (-1000000:Int) 1000000 2 (Za (PV.sl 1 false (List.map enc (Prod.fst (Prod.snd (Zi 30 (Za (PV.sl 1 false (List.map enc z))) e)))))) (Prod.snd (Prod.snd (Zi 30 (Za (PV.sl 1 false (List.map enc z))) e))))))])]))]))else(if (e==0)=true then ∃ y0:Bool,AV.pv (Zo (fun(x:Lin×Unit)=>Zm x.1) [(.agg [(.int .i64 k),(.sl 0 true [])])])=AV.pv (enc y0)∧(if (!y0)=true then G (((.pv (.agg [(.int .i64 0),(.sl 0 true [])])),([(.box [(.pv (.sl 1 false (List.map enc x))),(.pv (.int .i64 4))])],[])))else(if (e != 0)=true then G (((.pv (.agg [(.int .i64 0),(.sl 0 true [])])),([(.box [(.pv (.sl 1 false (List.map enc x))),(.pv (.int .i64 e))])],[])))else(G (((.pv (.agg [(.int .i64 k),(.sl 0 true [])])),([(.box [(.pv (.sl 1 false (List.map enc z))),(.pv (.int .i64 e))])],[]))))))else(if (e != 0)=true then G (((.pv (.agg [(.int .i64 0),(.sl 0 true [])])),([(.box [(.pv (.sl 1 false (List.map enc x))),(.pv (.int .i64 e))])],[])))else(G (((.pv (.agg [(.int .i64 k),(.sl 0 true [])])),([(.box [(.pv (.sl 1 false (List.map enc z))),(.pv (.int .i64 e))])],[]))))))else(if (e==0)=true then ∃ y1:Bool,AV.pv (Zo (fun(x:Lin×Unit)=>Zm x.1) [(.agg [(.int .i64 k),(.sl 0 true [])])])=AV.pv (enc y1)∧(if (!y1)=true then G (((.pv (.agg [(.int .i64 0),(.sl 0 true [])])),([(.box [(.pv (.sl 1 false (List.map enc x))),(.pv (.int .i64 4))])],[])))else(if (e != 0)=true then G (((.pv (.agg [(.int .i64 0),(.sl 0 true [])])),([(.box [(.pv (.sl 1 false (List.map enc x))),(.pv (.int .i64 e))])],[])))else(G (((.pv (.agg [(.int .i64 k),(.sl 0 true [])])),([(.box [(.pv (.sl 1 false (List.map enc z))),(.pv (.int .i64 e))])],[]))))))else(if (e != 0)=true then G (((.pv (.agg [(.int .i64 0),(.sl 0 true [])])),([(.box [(.pv (.sl 1 false (List.map enc x))),(.pv (.int .i64 e))])],[])))else(G (((.pv (.agg [(.int .i64 k),(.sl 0 true [])])),([(.box [(.pv (.sl 1 false (List.map enc z))),(.pv (.int .i64 e))])],[]))))))):At Wn 1 (YA 1 Xw G) Xz 0 74 [(0,.ptr 0 0),(2,.ptr 1 0),(3,.pv (.sl 1 false (x.map enc))),(4,.ptr 2 0),(5,.pv (.int .i64 n)),(6,.pv (.int .i64 i))] [.obj (.box [.pv (.sl 1 false (z.map enc)),.pv (.int .i64 e)]),.obj (.box [.pv (.int .i64 0),.pv (.sl 0 true [])]),.obj (.box [.pv (.int .i64 k),.pv (.sl 0 true [])])]:=At.tf (.lit (.ask (.lit (.lit (.lit (.lit (.lit (.lit (.ask (.req (.keep (.req (.keep (.lit (.lit (.lit (.lit (.lit (.lit (.nil))))))))))) (.lit (.ask (.lit (.lit (.abs (Bool) (fun YY=>AV.pv (enc YY)) (.lit (.lit (.ask (.lit (.lit (.nil))) (.lit (.ask (.nil) (.nil))))))))) (.lit (.lit (.lit (.lit (.lit (.ask (.nil) (.nil)))))))))))))))) (.lit (.lit (.lit (.lit (.lit (.lit (.lit (.ask (.lit (.lit (.abs (Bool) (fun YY=>AV.pv (enc YY)) (.lit (.lit (.ask (.lit (.lit (.nil))) (.lit (.ask (.nil) (.nil))))))))) (.lit (.lit (.lit (.lit (.lit (.ask (.nil) (.nil))))))))))))))))) h (by kernel_rfl)
theorem Tj{G:AV×List AObj×List AObj->Prop}(x:List UInt8)(err:Int)(z:List UInt8)(e k n i:Int)(ts:List Coef)(m:Nat)(h:if (decide (i<n))=true then if (e==0)=true then(Yi [(.ptr 0 0),(.pv (.int .i64 30))] [(.box [(.pv (.sl 1 false (List.map enc z))),(.pv (.int .i64 e))])])=true∧((Yj [(.ptr 0 0),(.pv (.int .i64 (-1000000))),(.pv (.int .i64 1000000))] [(.box [(.pv (.sl 1 false (List.map enc (Prod.fst (Prod.snd (Zi 30 (Za (PV.sl 1 false (List.map enc z))) e)))))),(.pv (.int .i64 (Prod.snd (Prod.snd (Zi 30 (Za (PV.sl 1 false (List.map enc z))) e)))))])])=true∧((List.length (List.map enc ts)==m&&m==m&&decide ((m+List.length (List.drop 0 (List.take 1 [PV.agg [PV.str (Prod.fst (Zi 30 (Za (PV.sl 1 false (List.map enc z))) e)),PV.int .i64 (Prod.fst (Zf (-1000000:Int) 1000000 2 (Za (PV.sl 1 false (List.map enc (Prod.fst (Prod.snd (Zi 30 (Za (PV.sl 1 false (List.map enc z))) e)))))) (Prod.snd (Prod.snd (Zi 30 (Za (PV.sl 1 false (List.map enc z))) e)))))]])))*24<=1099511627776)&&decide (m+List.length (List.drop 0 (List.take 1 [PV.agg [PV.str (Prod.fst (Zi 30 (Za (PV.sl 1 false (List.map enc z))) e)),PV.int .i64 (Prod.fst (Zf (-1000000:Int) 1000000 2 (Za (PV.sl 1 false (List.map enc (Prod.fst (Prod.snd (Zi 30 (Za (PV.sl 1 false (List.map enc z))) e)))))) (Prod.snd (Prod.snd (Zi 30 (Za (PV.sl 1 false (List.map enc z))) e)))))]]))<=1099511627776))=true∧(At Wn 1 (YA 1 Xw G) Xz 0 74 [(0,(.ptr 0 0)),(2,(.ptr 1 0)),(3,(.pv (.sl 1 false (List.map enc x)))),(4,(.ptr 2 0)),(5,(.pv (.int .i64 n))),(6,(.pv (.int .i64 (IntKind.wrap IntKind.i64 (i+1)))))] [(.obj (.box [(.pv (.sl 1 false (List.map enc (Prod.fst (Prod.snd (Zf (-1000000:Int) 1000000 2 (Za (PV.sl 1 false (List.map enc (Prod.fst (Prod.snd (Zi 30 (Za (PV.sl 1 false (List.map enc z))) e)))))) (Prod.snd (Prod.snd (Zi 30 (Za (PV.sl 1 false (List.map enc z))) e))))))))),(.pv (.int .i64 (Prod.snd (Prod.snd (Zf (-1000000:Int) 1000000 2 (Za (PV.sl 1 false (List.map enc (Prod.fst (Prod.snd (Zi 30 (Za (PV.sl 1 false (List.map enc z))) e)))))) (Prod.snd (Prod.snd (Zi 30 (Za (PV.sl 1 false (List.map enc z))) e))))))))])),(.obj (.box [(.pv (.int .i64 0)),(.pv (.sl 0 true []))])),(.obj (.box [(.pv (.int .i64 k)),(.row 3 (m+List.length (List.drop 0 (List.take 1 [PV.agg [PV.str (Prod.fst (Zi 30 (Za (PV.sl 1 false (List.map enc z))) e)),PV.int .i64 (Prod.fst (Zf (-1000000:Int) 1000000 2 (Za (PV.sl 1 false (List.map enc (Prod.fst (Prod.snd (Zi 30 (Za (PV.sl 1 false (List.map enc z))) e)))))) (Prod.snd (Prod.snd (Zi 30 (Za (PV.sl 1 false (List.map enc z))) e)))))]]))) 0 (m+List.length (List.drop 0 (List.take 1 [PV.agg [PV.str (Prod.fst (Zi 30 (Za (PV.sl 1 false (List.map enc z))) e)),PV.int .i64 (Prod.fst (Zf (-1000000:Int) 1000000 2 (Za (PV.sl 1 false (List.map enc (Prod.fst (Prod.snd (Zi 30 (Za (PV.sl 1 false (List.map enc z))) e)))))) (Prod.snd (Prod.snd (Zi 30 (Za (PV.sl 1 false (List.map enc z))) e)))))]]))))])),(.obj (.row false 80 2 (List.map enc ts++List.drop 0 (List.take 1 [PV.agg [PV.str (Prod.fst (Zi 30 (Za (PV.sl 1 false (List.map enc z))) e)),PV.int .i64 (Prod.fst (Zf (-1000000:Int) 1000000 2 (Za (PV.sl 1 false (List.map enc (Prod.fst (Prod.snd (Zi 30 (Za (PV.sl 1 false (List.map enc z))) e)))))) (Prod.snd (Prod.snd (Zi 30 (Za (PV.sl 1 false (List.map enc z))) e)))))]]))))])))else(if (e==0)=true then(List.length (List.map enc ts)==m)=true∧((Go.Pl.preT (fun(x:Lin×Unit)=>ZL x.1) [(.agg [(.int .i64 k),(.sl 2 false (List.drop 0 (List.take m (List.map enc ts))))])])=true∧(∃ y0:Bool,AV.pv (Zo (fun(x:Lin×Unit)=>Zm x.1) [(.agg [(.int .i64 k),(.sl 2 false (List.drop 0 (List.take m (List.map enc ts))))])])=AV.pv (enc y0)∧(if (!y0)=true then G (((.pv (.agg [(.int .i64 0),(.sl 0 true [])])),([(.box [(.pv (.sl 1 false (List.map enc x))),(.pv (.int .i64 4))])],[])))else(if (e != 0)=true then G (((.pv (.agg [(.int .i64 0),(.sl 0 true [])])),([(.box [(.pv (.sl 1 false (List.map enc x))),(.pv (.int .i64 e))])],[])))else((List.length (List.map enc ts)==m)=true∧(G (((.pv (.agg [(.int .i64 k),(.sl 2 false (List.drop 0 (List.take m (List.map enc ts))))])),([(.box [(.pv (.sl 1 false (List.map enc z))),(.pv (.int .i64 e))])],[])))))))))else(if (e != 0)=true then G (((.pv (.agg [(.int .i64 0),(.sl 0 true [])])),([(.box [(.pv (.sl 1 false (List.map enc x))),(.pv (.int .i64 e))])],[])))else((List.length (List.map enc ts)==m)=true∧(G (((.pv (.agg [(.int .i64 k),(.sl 2 false (List.drop 0 (List.take m (List.map enc ts))))])),([(.box [(.pv (.sl 1 false (List.map enc z))),(.pv (.int .i64 e))])],[])))))))else(if (e==0)=true then(List.length (List.map enc ts)==m)=true∧((Go.Pl.preT (fun(x:Lin×Unit)=>ZL x.1) [(.agg [(.int .i64 k),(.sl 2 false (List.drop 0 (List.take m (List.map enc ts))))])])=true∧(∃ y1:Bool,AV.pv (Zo (fun(x:Lin×Unit)=>Zm x.1) [(.agg [(.int .i64 k),(.sl 2 false (List.drop 0 (List.take m (List.map enc ts))))])])=AV.pv (enc y1)∧(if (!y1)=true then G (((.pv (.agg [(.int .i64 0),(.sl 0 true [])])),([(.box [(.pv (.sl 1 false (List.map enc x))),(.pv (.int .i64 4))])],[])))else(if (e != 0)=true then G (((.pv (.agg [(.int .i64 0),(.sl 0 true [])])),([(.box [(.pv (.sl 1 false (List.map enc x))),(.pv (.int .i64 e))])],[])))else((List.length (List.map enc ts)==m)=true∧(G (((.pv (.agg [(.int .i64 k),(.sl 2 false (List.drop 0 (List.take m (List.map enc ts))))])),([(.box [(.pv (.sl 1 false (List.map enc z))),(.pv (.int .i64 e))])],[])))))))))else(if (e != 0)=true then G (((.pv (.agg [(.int .i64 0),(.sl 0 true [])])),([(.box [(.pv (.sl 1 false (List.map enc x))),(.pv (.int .i64 e))])],[])))else((List.length (List.map enc ts)==m)=true∧(G (((.pv (.agg [(.int .i64 k),(.sl 2 false (List.drop 0 (List.take m (List.map enc ts))))])),([(.box [(.pv (.sl 1 false (List.map enc z))),(.pv (.int .i64 e))])],[])))))))):At Wn 1 (YA 1 Xw G) Xz 0 74 [(0,.ptr 0 0),(2,.ptr 1 0),(3,.pv (.sl 1 false (x.map enc))),(4,.ptr 2 0),(5,.pv (.int .i64 n)),(6,.pv (.int .i64 i))] [.obj (.box [.pv (.sl 1 false (z.map enc)),.pv (.int .i64 e)]),.obj (.box [.pv (.int .i64 0),.pv (.sl 0 true [])]),.obj (.box [.pv (.int .i64 k),.row 3 m 0 m]),.obj (.row false 80 2 (ts.map enc))]:=At.tf (.lit (.ask (.lit (.lit (.lit (.lit (.lit (.lit (.ask (.req (.keep (.req (.keep (.lit (.lit (.req (.lit (.nil))))))))) (.lit (.ask (.lit (.req (.req (.abs (Bool) (fun YY=>AV.pv (enc YY)) (.lit (.lit (.ask (.lit (.lit (.nil))) (.lit (.ask (.nil) (.req (.nil))))))))))) (.lit (.lit (.lit (.lit (.lit (.ask (.nil) (.req (.nil))))))))))))))))) (.lit (.lit (.lit (.lit (.lit (.lit (.lit (.ask (.lit (.req (.req (.abs (Bool) (fun YY=>AV.pv (enc YY)) (.lit (.lit (.ask (.lit (.lit (.nil))) (.lit (.ask (.nil) (.req (.nil))))))))))) (.lit (.lit (.lit (.lit (.lit (.ask (.nil) (.req (.nil)))))))))))))))))) h (by kernel_rfl)
theorem b1h{G:AV×List AObj×List AObj->Prop}(h:G (((.pv (.agg [(.int .i64 0),(.sl 0 true [])])),([],[])))):Ze Wn 0 (YA 0 Xw G) Xz [] (ZK 74 [.pv .nilp] []):=Ze.tf (.lit (.lit (.lit (.lit (.lit (.lit (.lit (.lit (.nil))))))))) h (by kernel_rfl)
end Go.Pl

namespace Go.Pl
open Go.RowKit
open Enc (enc dec is)
open EncL (encL decL isL)
theorem Z9(x:List UInt8):Za (PV.sl 1 false (List.map enc x))=x:=Zw x
theorem a6s{α β:Type}{r:α×β×Int}(h:r.2.2=0):r=(r.1,r.2.1,0):=by obtain⟨a,b,c⟩:=r;simp only at h;rw[h]
theorem c1i{β:Type}{r:Int×β×Int}{x:β}(h:r.1=0∧r.2.1=x):r=(0,x,r.2.2):=by obtain⟨a,b,c⟩:=r;simp only at h;rw[h.1,h.2]
theorem YL{p:PV}(h:V5 p=true): ∃ x:List UInt8,p=enc x∧x.length<=9000000:=by
 unfold V5 at h
 simp only[Bool.and_eq_true,decide_eq_true_eq]at h
 obtain⟨hc,hl⟩:=h
 obtain⟨x,rfl⟩:=Vk hc
 rw[Zw]at hl
 exact⟨x,rfl,hl⟩
theorem Yp{x:List UInt8}(h:x.length<=9000000):V5 (PV.sl 1 false (List.map enc x))=true:=by
 show(Jk (List UInt8) (enc x)&&decide ((Za (enc x)).length<=9000000))=true
 rw[Xk,Zw,decide_eq_true h];rfl
theorem Aj(x:List UInt8):Jk (List UInt8) (PV.sl 1 false (List.map enc x))=true:=Xk x
theorem EY{x:List UInt8}{n:Int}{r:List UInt8}(h:ZX x=some (n,r)):r.length<=x.length:=by
 rw[(GR h).1,List.length_append];omega
theorem W9(lo hi e:Int)(x:List UInt8)(err:Int):(Zf lo hi e x err).2.1.length<=x.length:=by
 unfold Zf
 split
 ·exact Nat.le_refl _
 ·split
  ·exact Nat.le_refl _
  ·rename_i n r h
   split
   ·exact Nat.le_refl _
   ·exact EY h
theorem Hr(lo hi e:Int)(x:List UInt8){err:Int}(h:err≠0):Zf lo hi e x err=(0,x,err):=by unfold Zf;rw[if_pos h]
theorem Hg{lo hi e:Int}{x:List UInt8}{err:Int}(he:e≠0)(h:(Zf lo hi e x err).2.2≠0):(Zf lo hi e x err).1=0∧(Zf lo hi e x err).2.1=x:=by
 unfold Zf at h ⊢
 split
 ·exact⟨rfl,rfl⟩
 ·rename_i h0
  rw[if_neg h0]at h
  split
  ·exact⟨rfl,rfl⟩
  ·rename_i n r hw
   rw[hw]at h
   by_cases hc:n<lo∨n>hi
   ·rw[if_pos hc];exact⟨rfl,rfl⟩
   ·simp only[if_neg hc]at h;exact absurd rfl h
theorem UZ{lo hi e:Int}{x:List UInt8}(he:e≠0){err:Int}(h:(Zf lo hi e x err).2.2=0):err=0∧lo<=(Zf lo hi e x err).1∧(Zf lo hi e x err).1<=hi∧ZX x=some ((Zf lo hi e x err).1,(Zf lo hi e x err).2.1):=by
 unfold Zf at h ⊢
 by_cases h0:err≠0
 ·rw[if_pos h0]at h;exact absurd h h0
 ·rw[if_neg h0]at h
  simp only[if_neg h0]
  cases hw:ZX x with
  | none=>rw[hw]at h;exact absurd h (show(4:Int)≠0 by decide)
  | some p=>
   obtain⟨n,r⟩:=p
   rw[hw]at h
   by_cases hc:n<lo∨n>hi
   ·simp only[if_pos hc]at h;exact absurd h he
   ·simp only[if_neg hc]
    exact⟨by omega,by omega,by omega,trivial⟩
theorem a0m(most:Int)(x:List UInt8)(err:Int):(Wd most x err).2.1.length<=x.length:=by
 have h:=W9 0 most 3 x err
 unfold Wd
 simp only
 split
 ·exact h
 ·split
  ·exact h
  ·rw[List.length_drop];omega
theorem Ky(most:Int)(x:List UInt8)(err:Int):(Zi most x err).2.1.length<=x.length:=by
 unfold Zi
 simp only
 split
 ·exact Nat.le_refl _
 ·split
  ·exact Nat.le_refl _
  ·exact a0m most x 0
theorem XK{a:Int}{x:List UInt8}{e:Int}{r:Int×List UInt8×Int}{os:List AObj}(h:r=(a,x,e)):((.pv (.int .i64 a),sB x e::os,[]):AV×List AObj×List AObj)=G6 r os:=by rw[h];rfl
theorem EQ: ∀ args os,Wl args os=true->Ze TG os.length (Zk os.length Co fun r=>r=Q7 args os) Bg [] (ZK a7q args os):=by
 intro args os h
 unfold Wl at h
 split at h
 ·rename_i e p err
  obtain⟨x,rfl⟩:=Vk h
  have hv:Q7 [.ptr 0 0,.pv (.int .i64 e)] [.box [.pv (enc x),.pv (.int .i64 err)]]=(.tup [],[sB x (if err=0 then e else err)],[]):=by
   show(AV.tup [],[sB (Za (enc x)) _],[])=_
   rw[Zw]
  rw[hv]
  refine b5f x err e ?_
  by_cases he:err=0
  ·rw[if_pos he];exact Zx (by simpa using he) rfl
  ·rw[if_neg he];exact Zy (by simpa using he) rfl
 ·cases h
theorem Ce(x:List UInt8)(e err:Int):Wl [.ptr 0 0,.pv (.int .i64 e)] [.box [.pv (.sl 1 false (List.map enc x)),.pv (.int .i64 err)]]=true:=Aj x
theorem a6t: ∀ args os,XJ args os=true->Ze LZ os.length (Zk os.length Rx fun r=>r=Vv args os) Pp [] (ZK b2y args os):=by
 intro args os h
 unfold XJ at h
 split at h
 ·rename_i lo hi e p err
  obtain⟨x,rfl,hl⟩:=YL h
  have hv:Vv [.ptr 0 0,.pv (.int .i64 lo),.pv (.int .i64 hi),.pv (.int .i64 e)] [.box [.pv (enc x),.pv (.int .i64 err)]]=G6 (Zf lo hi e x err) []:=by
   show G6 (Zf lo hi e (Za (enc x)) err) []=_
   rw[Zw]
  rw[hv]
  refine c0q x err lo hi e ?_
  by_cases he:err=0
  ·subst he
   refine Zy (by simp) ⟨Zt (x,()) rfl (decide_eq_true hl),YC (v:=w3 (ZX x)) (x,()) rfl rfl ?_⟩
   rw[Z9]
   cases hw:ZX x with
   | none=>exact Zx rfl ⟨Ce x 4 0,XK (by unfold Zf;rw[if_neg (by simp),hw];rfl)⟩
   | some p=>
    obtain⟨n,r⟩:=p
    refine Zy (by simp[w3]) ?_
    by_cases h1:n<lo
    ·exact Zx (decide_eq_true h1) ⟨Ce x e 0,XK (by unfold Zf;rw[if_neg (by simp),hw];simp only[if_pos (show n<lo∨n>hi from .inl h1)];rfl)⟩
    ·refine Zy (fun e=>h1 (of_decide_eq_true e)) ?_
     by_cases h2:n>hi
     ·exact Zx (decide_eq_true h2) ⟨Ce x e 0,XK (by unfold Zf;rw[if_neg (by simp),hw];simp only[if_pos (show n<lo∨n>hi from .inr h2)];rfl)⟩
     ·exact Zy (fun e=>h2 (of_decide_eq_true e)) (XK (by unfold Zf;rw[if_neg (by simp),hw];simp only[if_neg (show ¬ (n<lo∨n>hi) by omega)];rfl))
  ·exact Zx (by simpa using he) (XK (Hr lo hi e x he))
 ·cases h
theorem a0l: ∀ args os,Ka args os=true->Ze TQ os.length (Zk os.length AL fun r=>r=Uo args os) Au [] (ZK b0c args os):=by
 intro args os h
 unfold Ka at h
 split at h
 ·rename_i p err lo hi
  obtain⟨x,rfl,hl⟩:=YL h
  refine b5b x err lo hi ⟨Yp hl,?_⟩
  rfl
 ·cases h
theorem a2c: ∀ args os,QU 83 args os=true->Ze TC os.length (Zk os.length Bt fun r=>r=Uo args os) Bq [] (ZK a7i args os):=by
 intro args os h
 unfold QU at h
 split at h
 ·rename_i g p err lo hi
  rw[Bool.and_eq_true]at h
  obtain⟨hg,h⟩:=h
  obtain rfl:=eq_of_beq hg
  obtain⟨x,rfl,hl⟩:=YL h
  have hv:Uo [.ptr 0 0,.fn 83 [] [.ptr 1 0,.ptr 2 0]] [.box [.pv (enc x),.pv (.int .i64 err)],.box [.pv (.int .i64 lo)],.box [.pv (.int .i64 hi)]]=G6 (Zf lo hi 2 x err) [LY lo,LY hi]:=by
   show G6 (Zf lo hi 2 (Za (enc x)) err) _=_
   rw[Zw]
  rw[hv]
  refine b3b x err lo hi ?_
  rw[Z9]
  by_cases he:err=0
  ·subst he
   refine Zy (by simp) ⟨Yp hl,?_⟩
   by_cases h0:(Zf lo hi 2 x 0).2.2=0
   ·exact Zy (by simpa using h0) (XK (a6s h0))
   ·have hb:=Hg (by decide) h0
    exact Zx (by simpa using h0) (XK (c1i hb))
  ·exact Zx (by simpa using he) (XK (Hr lo hi 2 x he))
 ·cases h
theorem a1o: ∀ args os,Yj args os=true->Ze R4 os.length (Zk os.length Ba fun r=>r=Uh args os) BL [] (ZK b1t args os):=by
 intro args os h
 unfold Yj at h
 split at h
 ·rename_i lo hi p err
  obtain⟨x,rfl,hl⟩:=YL h
  refine b6m x err lo hi ⟨?_,rfl⟩
  show(((83:Nat)==83)&&V5 _)=true
  rw[Yp hl];rfl
 ·cases h
theorem Vr{a:List UInt8}{x:List UInt8}{e:Int}{r:List UInt8×List UInt8×Int}{os:List AObj}(h:r=(a,x,e)):((.pv (.str a),sB x e::os,[]):AV×List AObj×List AObj)=CF r os:=by rw[h];rfl
theorem Nt{y:List UInt8}{k:Nat}(h:k<=y.length):YU (List.drop 0 (List.take k (List.map enc y)))=y.take k∧List.drop k (List.take (List.length (List.map (enc:UInt8->PV) y)) (List.map enc y))=(y.drop k).map enc∧(List.drop 0 (List.take k (List.map (enc:UInt8->PV) y))).all DC=true:=by
 have e:List.drop 0 (List.take k (List.map (enc:UInt8->PV) y))=(y.take k).map enc:=by rw[List.drop_zero,List.map_take]
 rw[e,UD,List.take_of_length_le (Nat.le_refl _),<- List.map_drop,R8]
 simp
theorem K9{b:Bool}:(b||1==1)=true:=by cases b <;> rfl
theorem a0x: ∀ args os,Yi args os=true->Ze TH os.length (Zk os.length BD fun r=>r=JY args os) Ab [] (ZK a9r args os):=by
 intro args os h
 unfold Yi at h
 split at h
 ·rename_i most p err
  obtain⟨x,rfl,hl⟩:=YL h
  have hv:JY [.ptr 0 0,.pv (.int .i64 most)] [.box [.pv (enc x),.pv (.int .i64 err)]]=CF (Wd most x err) []:=by
   show CF (Wd most (Za (enc x)) err) _=_
   rw[Zw]
  rw[hv]
  refine b2q x err most ⟨Yp hl,?_⟩
  rw[Z9,Z9]
  have hn:=UZ (lo:=0) (hi:=most) (e:=3) (x:=x) (err:=err) (by decide)
  unfold Wd
  generalize hr:Zf 0 most 3 x err=r at hn ⊢
  obtain⟨n,y,e⟩:=r
  simp only
  by_cases he:e=0
  ·subst he
   refine Zy (by simp) ?_
   obtain⟨_,h0,_,_⟩:=hn rfl
   have h0:0<=n:=h0
   by_cases hc:n>(y.length:Int)
   ·rw[List.length_map]
    refine Zx (decide_eq_true hc) ⟨Ce y 4 0,Vr ?_⟩
    rw[if_neg (by simp),if_pos hc]
    rfl
   ·have hk:n.toNat<=y.length:=by omega
    obtain⟨c1,c2,c3⟩:=Nt hk
    refine Zy (by rw[List.length_map];simpa using hc) ⟨?_,?_,?_,?_⟩
    ·rw[K9,List.length_map];simp;omega
    ·rw[c3,K9];rfl
    ·rw[K9,List.length_map];simp;omega
    ·rw[c1,c2]
     refine Vr ?_
     rw[if_neg (by simp),if_neg hc]
  ·refine Zx (by simpa using he) (Vr ?_)
   rw[if_pos he]
 ·cases h
theorem EU: ∀ args os,Q4 args os=true->Ze TL os.length (Zk os.length Br fun r=>r=Cy args os) CO [] (ZK b0m args os):=by
 intro args os h
 unfold Q4 at h
 split at h
 ·rename_i p err most
  obtain⟨x,rfl,hl⟩:=YL h
  exact b6o x err most ⟨Yp hl,rfl⟩
 ·cases h
theorem ED: ∀ args os,Q5 86 args os=true->Ze RY os.length (Zk os.length Bd fun r=>r=Ju args os) BX [] (ZK a6m args os):=by
 intro args os h
 unfold Q5 at h
 split at h
 ·rename_i g p err most
  rw[Bool.and_eq_true]at h
  obtain⟨hg,h⟩:=h
  obtain rfl:=eq_of_beq hg
  obtain⟨x,rfl,hl⟩:=YL h
  have hv:Ju [.ptr 0 0,.fn 86 [] [.ptr 1 0]] [.box [.pv (enc x),.pv (.int .i64 err)],.box [.pv (.int .i64 most)]]=CF (Zi most x err) [LY most]:=by
   show CF (Zi most (Za (enc x)) err) _=_
   rw[Zw]
  rw[hv]
  refine b3r x err most ?_
  rw[Z9]
  by_cases he:err=0
  ·subst he
   refine Zy (by simp) ⟨Yp hl,?_⟩
   by_cases h0:(Wd most x 0).2.2=0
   ·refine Zy (by simpa using h0) (Vr ?_)
    unfold Zi
    simp only[if_neg (show ¬ (0:Int)≠0 by simp),if_neg (show ¬ (Wd most x 0).2.2≠0 by simpa using h0)]
    exact a6s h0
   ·refine Zx (by simpa using h0) (Vr ?_)
    unfold Zi
    simp only[if_neg (show ¬ (0:Int)≠0 by simp),if_pos h0]
  ·refine Zx (by simpa using he) (Vr ?_)
   unfold Zi
   rw[if_pos he]
 ·cases h
theorem LF: ∀ args os,Yi args os=true->Ze BV os.length (Zk os.length G5 fun r=>r=Vm args os) GJ [] (ZK Ex args os):=by
 intro args os h
 unfold Yi at h
 split at h
 ·rename_i most p err
  obtain⟨x,rfl,hl⟩:=YL h
  refine b1v x err most ⟨?_,rfl⟩
  show(((86:Nat)==86)&&V5 _)=true
  rw[Yp hl];rfl
 ·cases h
end Go.Pl

namespace Go.Pl
open Go.RowKit
open Enc (enc dec is)
open EncL (encL decL isL)
def b9y(c:UInt8)(x:List UInt8)(k c0:Int)(G:PV->Prop)(m:Int):Prop:=(if (decide (c0<8))=true then if (decide (m>9223372036854775687))=true then G ((.tup [(.int .i64 0),(.sl 0 true []),(.bool false)]))else(∃ y1:List UInt8,AV.pv (Zo (fun(x:List UInt8×Int×Unit)=>Prod.fst x++encI (Prod.fst (Prod.snd x))) [(.sl 0 true []),(.int .i64 (IntKind.wrap IntKind.i64 ((-121:Int) - IntKind.wrap IntKind.i64 m)))])=AV.pv (enc y1)∧(if ((↑(List.length (List.map enc y1)):Int) != IntKind.wrap IntKind.i64 (1+k))=true then G ((.tup [(.int .i64 0),(.sl 0 true []),(.bool false)]))else((decide (0<=IntKind.wrap IntKind.i64 (1+k))&&true&&(List.isEmpty (List.map enc (c::x))||Enc.sz UInt8==1)&&decide (Int.toNat (IntKind.wrap IntKind.i64 (1+k))<=List.length (List.map enc (c::x)))&&decide (List.length (List.map enc (c::x))<=List.length (List.map enc (c::x))))=true∧(G ((.tup [(.int .i64 (IntKind.wrap IntKind.i64 ((-121:Int) - IntKind.wrap IntKind.i64 m))),(.sl 1 false (List.drop (Int.toNat (IntKind.wrap IntKind.i64 (1+k))) (List.take (List.length (List.map enc (c::x))) (List.map enc (c::x))))),(.bool true)]))))))else(if (decide (m>9223372036854775687))=true then G ((.tup [(.int .i64 0),(.sl 0 true []),(.bool false)]))else(∃ y2:List UInt8,AV.pv (Zo (fun(x:List UInt8×Int×Unit)=>Prod.fst x++encI (Prod.fst (Prod.snd x))) [(.sl 0 true []),(.int .i64 (IntKind.wrap IntKind.i64 (IntKind.wrap IntKind.i64 m+120)))])=AV.pv (enc y2)∧(if ((↑(List.length (List.map enc y2)):Int) != IntKind.wrap IntKind.i64 (1+k))=true then G ((.tup [(.int .i64 0),(.sl 0 true []),(.bool false)]))else((decide (0<=IntKind.wrap IntKind.i64 (1+k))&&true&&(List.isEmpty (List.map enc (c::x))||Enc.sz UInt8==1)&&decide (Int.toNat (IntKind.wrap IntKind.i64 (1+k))<=List.length (List.map enc (c::x)))&&decide (List.length (List.map enc (c::x))<=List.length (List.map enc (c::x))))=true∧(G ((.tup [(.int .i64 (IntKind.wrap IntKind.i64 (IntKind.wrap IntKind.i64 m+120))),(.sl 1 false (List.drop (Int.toNat (IntKind.wrap IntKind.i64 (1+k))) (List.take (List.length (List.map enc (c::x))) (List.map enc (c::x))))),(.bool true)]))))))))
theorem Ox(n:Int){P:List UInt8->Prop}(h:P (encI n)): ∃ y:List UInt8,AV.pv (Zo (fun(x:List UInt8×Int×Unit)=>Prod.fst x++encI (Prod.fst (Prod.snd x))) [(.sl 0 true []),(.int .i64 n)])=AV.pv (enc y)∧P y:=
 QA (F:=fun(x:List UInt8×Int×Unit)=>Prod.fst x++encI (Prod.fst (Prod.snd x))) (([]:List UInt8),n,()) rfl h
theorem RB{m:Nat}(h:m<=9223372036854775687):(encI ((m:Int)+120)).length=1+ZI m:=by rw[Gh h,List.length_cons,Vd];omega
theorem TI{m:Nat}(h:m<=9223372036854775687):(encI (-121 - (m:Int))).length=1+ZI m:=by rw[G7 h,List.length_cons,Vd];omega
theorem b0v{n:Int}{k w:Nat}(hk:k<=8)(hw:(encI n).length=1+w):(((↑(List.length (List.map (enc:UInt8->PV) (encI n))):Int)) != IntKind.wrap IntKind.i64 (1+(k:Int)))=decide (w≠k):=by
 rw[List.length_map,hw,Yd (by omega) (by omega)]
 by_cases h:w=k
 ·subst h;simp
 ·rw[decide_eq_true h]
  simp
  omega
theorem a1d(t:Bool)(c:UInt8)(x:List UInt8)(k m:Nat)(z:Prop)[Decidable z](ht:t=decide ((c.toNat:Int)<8))(hk:k<=8)(hx:k<=x.length)(hz:ZI m=k ↔ ¬ z):
  b9y c x k (c.toNat:Int) (ZB (w3 (if z then none else if m<=9223372036854775687 then some (if t=true then -121 - (m:Int)else(m:Int)+120,x.drop k)else none))) m:=by
 unfold b9y
 by_cases hm:m<=9223372036854775687
 ·rw[if_pos hm]
  rw[show IntKind.wrap IntKind.i64 (m:Int)=(m:Int)from Yd (by omega) (by omega)]
  rw[show IntKind.wrap IntKind.i64 ((-121:Int) - (m:Int)) = -121 - (m:Int)from Yd (by omega) (by omega),show IntKind.wrap IntKind.i64 ((m:Int)+120)=(m:Int)+120 from Yd (by omega) (by omega)]
  by_cases hc:(c.toNat:Int)<8
  ·obtain rfl:t=true:=by rw[ht];exact decide_eq_true hc
   refine Zx (decide_eq_true hc) (Zy (by simp;omega) (Ox _ ?_))
   rw[b0v hk (TI hm)]
   by_cases e:z
   ·rw[if_pos e]
    exact Zx (decide_eq_true (fun h=>hz.mp h e)) XG
   ·rw[if_neg e]
    refine Zy (by simpa using hz.mpr e) ⟨Lu hk hx,?_⟩
    rw[R5 hk]
    exact U6 _ _
  ·obtain rfl:t=false:=by rw[ht];exact decide_eq_false hc
   refine Zy (fun e=>hc (of_decide_eq_true e)) (Zy (by simp;omega) (Ox _ ?_))
   rw[b0v hk (RB hm)]
   by_cases e:z
   ·rw[if_pos e]
    exact Zx (decide_eq_true (fun h=>hz.mp h e)) XG
   ·rw[if_neg e]
    refine Zy (by simpa using hz.mpr e) ⟨Lu hk hx,?_⟩
    rw[R5 hk]
    exact U6 _ _
 ·rw[if_neg hm,show(if z then(none:Option (Int×List UInt8))else none)=none by split <;> rfl]
  by_cases hc:(c.toNat:Int)<8
  ·exact Zx (decide_eq_true hc) (Zx (decide_eq_true (by omega)) XG)
  ·exact Zy (fun e=>hc (of_decide_eq_true e)) (Zx (decide_eq_true (by omega)) XG)
theorem EB(b:UInt8):IntKind.wrap IntKind.u8 (255 - PV.asInt (List.getD (PV.cells (enc b)) 0 default))=((QM true b).toNat:Int):=by
 have:=UInt8.toNat_lt b
 show IntKind.wrap IntKind.u8 (255 - (b.toNat:Int))=((255 - b:UInt8).toNat:Int)
 rw[JI,UInt8.toNat_sub]
 simp
 omega
theorem Ey(b:UInt8):PV.asInt (List.getD (PV.cells (enc b)) 0 default)=((QM false b).toNat:Int):=rfl
theorem Mi{G:PV->Prop}(t:Bool)(c:UInt8)(x:List UInt8)(k:Nat)(ht:t=decide ((c.toNat:Int)<8))(hk:k<=8)(hx:k<=x.length): ∀ (j i M:Nat),i+j=k->M<256 ^ i->b9y c x k (c.toNat:Int) G (Xv t M ((x.take k).drop i):Int) ->
  At Y9 0 (Zg Yw G) Yx 0 82 [(0,.pv (enc (c::x))),(5,.pv (.int .i64 (c.toNat:Int))),(6,.pv (.int .i64 (k:Int))),(7,.pv (.int .u64 (M:Int))),(8,.pv (.int .i64 ((i+1:Nat):Int)))] []:=by
 intro j
 induction j with
 | zero=>
  intro i M hj hM hE
  rw[List.drop_of_length_le (by rw[List.length_take];omega),Xv]at hE
  exact Sn c x k M _ _ (Zy (by simp;omega) hE)
 | succ j ih=>
  intro i M hj hM hE
  have hl:i+1<(c::x).length:=by rw[List.length_cons];omega
  have hi:i<(x.take k).length:=by rw[List.length_take];omega
  have hb:=Nat.lt_of_lt_of_le hM (c1o i (by omega))
  rw[SX hi]at hE
  have he:(x.take k)[i]=(c::x)[i+1]:=by rw[List.getElem_take];rfl
  rw[he]at hE
  have h':=ih (i+1) _ (by omega) (RG (t:=t) (y:=x) hM (c::x)[i+1]) hE
  refine Sn c x k M _ _ (Zx (by simp;omega) ⟨JJ hl,(c::x)[i+1],Uq hl,?_⟩)
  rw[EB,Ey,SC M _ hb,SC M _ hb,next (by omega)]
  by_cases hc:(c.toNat:Int)<8
  ·obtain rfl:t=true:=by rw[ht];exact decide_eq_true hc
   exact Zx (decide_eq_true hc) h'
  ·obtain rfl:t=false:=by rw[ht];exact decide_eq_false hc
   exact Zy (fun e=>hc (of_decide_eq_true e)) h'
theorem BM(t:Bool)(c:UInt8)(x:List UInt8)(k:Nat)(hk:WJ c=k)(htc:Z0 c=t)(ht:t=decide ((c.toNat:Int)<8))(h1:YT c=false)(hx:x.length<=9000000):
  if (decide ((↑(List.length (List.map (enc:UInt8->PV) (c::x))):Int)<IntKind.wrap IntKind.i64 (1+(k:Int))))=true then ZB (w3 (ZX (c::x))) ((.tup [(.int .i64 0),(.sl 0 true []),(.bool false)]))else At Y9 0 (Zg Yw (ZB (w3 (ZX (c::x))))) Yx 0 82 [(0,.pv (enc (c::x))),(5,.pv (.int .i64 (c.toNat:Int))),(6,.pv (.int .i64 (k:Int))),(7,.pv (.int .u64 0)),(8,.pv (.int .i64 1))] []:=by
 obtain⟨k1,k8⟩:=D6 c h1
 rw[a9s (by omega)]
 have hw:=XU c x
 rw[if_neg (show ¬ YT c=true by rw[h1];simp),hk,htc]at hw
 by_cases hl:x.length<k
 ·rw[if_pos hl]at hw
  rw[hw]
  exact Zx (decide_eq_true hl) XG
 ·rw[if_neg hl]at hw
  refine Zy (fun e=>hl (of_decide_eq_true e)) ?_
  have hlen:(x.take k).length=k:=by rw[List.length_take];omega
  have hh:(x.take k).headD 0=x.headD 0:=Kt x (by omega)
  have hz:=Rf t (x.take k) k hlen (by omega) (by omega)
  rw[hh]at hz
  have he:=a1d t c x k (Xv t 0 (x.take k)) _ ht (by omega) (by omega) hz
  rw[<- hw]at he
  exact Mi t c x k ht (by omega) (by omega) k 0 0 (by omega) (by decide) he
theorem Fu: ∀ x:List UInt8×Unit,decide (x.1.length<=9000000)=true->Ze Y9 0 (Zg Yw (ZB (w3 (ZX x.1)))) Yx [] (Y2 EF (encL x)):=by
 rintro⟨l,⟨⟩⟩ h
 have h:l.length<=9000000:=of_decide_eq_true h
 cases l with
 | nil=>exact a0b XG
 | cons c x=>
  have hc:=UInt8.toNat_lt c
  have hx:x.length<=9000000:=by rw[List.length_cons]at h;omega
  refine a9u c x ⟨c,Uq (l:=c::x) (i:=0) (by simp),?_⟩
  rw[Oi]
  have htn:Z0 c=decide (c.toNat<=7):=rfl
  by_cases a:(c.toNat:Int) ≥ 8
  ·refine Zx (decide_eq_true a) ?_
   by_cases b:(c.toNat:Int)<=247
   ·have h1:YT c=true:=by unfold YT;rw[decide_eq_true (show 8<=c.toNat by omega),decide_eq_true (show c.toNat<=247 by omega)];rfl
    have hw:ZX (c::x)=some ((c.toNat:Int) - 128,x):=by rw[XU,if_pos h1]
    refine Zx (decide_eq_true b) ⟨by simp,?_⟩
    show ZB (w3 (ZX (c::x))) _
    rw[hw,Yd (by omega) (by omega),List.take_of_length_le (Nat.le_refl _)]
    exact U6 _ _
   ·have h1:YT c=false:=by unfold YT;rw[decide_eq_false (show ¬ c.toNat<=247 by omega),Bool.and_false]
    have ht:Z0 c=false:=by rw[htn];exact decide_eq_false (by omega)
    refine Zy (fun e=>b (of_decide_eq_true e)) (Zy (by simp;omega) ?_)
    obtain⟨k,hk⟩ : ∃ k,k=c.toNat - 247:=⟨_,rfl⟩
    rw[show IntKind.wrap IntKind.i64 ((c.toNat:Int) - 247)=(k:Int) by rw[Yd (by omega) (by omega)];omega]
    exact BM false c x k (by rw[hk];unfold WJ;rw[if_neg (by rw[ht];simp)]) ht (by symm;exact decide_eq_false (by omega)) h1 hx
  ·have h1:YT c=false:=by unfold YT;rw[decide_eq_false (show ¬ 8<=c.toNat by omega),Bool.false_and]
   have ht:Z0 c=true:=by rw[htn];exact decide_eq_true (by omega)
   refine Zy (fun e=>a (of_decide_eq_true e)) (Zx (decide_eq_true (by omega)) ?_)
   obtain⟨k,hk⟩ : ∃ k,k=8 - c.toNat:=⟨_,rfl⟩
   rw[show IntKind.wrap IntKind.i64 (8 - (c.toNat:Int))=(k:Int) by rw[Yd (by omega) (by omega)];omega]
   exact BM true c x k (by rw[hk];unfold WJ;rw[if_pos ht]) ht (by symm;exact decide_eq_true (by omega)) h1 hx
theorem M9: ∀ args os,Qb args os=true->Ze BK os.length (Zk os.length GQ fun r=>r=KI args os) Gc [] (ZK EH args os):=by
 intro args os h
 unfold Qb at h
 split at h
 ·rename_i q e p err
  rw[Bool.and_eq_true]at h
  obtain⟨y,rfl⟩:=Vk h.1
  obtain⟨x,rfl⟩:=Vk h.2
  have hv:KI [.ptr 0 0,.pv (enc y),.pv (.int .i64 e)] [.box [.pv (enc x),.pv (.int .i64 err)]]=(.tup [],[sB y e],[]):=by
   show(AV.tup [],[sB (Za (enc y)) e],[])=_
   rw[Zw]
  rw[hv]
  exact b0k x err y e rfl
 ·cases h
theorem a7m: ∀ args os,XJ args os=true->Ze FR os.length (Zk os.length Rk fun r=>r=Vv args os) Rv [] (ZK b2w args os):=by
 intro args os h
 unfold XJ at h
 split at h
 ·rename_i lo hi e p err
  obtain⟨x,rfl,hl⟩:=YL h
  have hv:Vv [.ptr 0 0,.pv (.int .i64 lo),.pv (.int .i64 hi),.pv (.int .i64 e)] [.box [.pv (enc x),.pv (.int .i64 err)]]=G6 (Zf lo hi e x err) []:=by
   show G6 (Zf lo hi e (Za (enc x)) err) []=_
   rw[Zw]
  rw[hv]
  refine b9i x err lo hi e ?_
  by_cases he:err=0
  ·subst he
   refine Zy (by simp) ⟨Zt (x,()) rfl (decide_eq_true hl),YC (v:=w3 (ZX x)) (x,()) rfl rfl ?_⟩
   cases hw:ZX x with
   | none=>exact Zx rfl (XK (by unfold Zf;rw[if_neg (by simp),hw]))
   | some p=>
    obtain⟨n,r⟩:=p
    refine Zy (by simp[w3]) ?_
    by_cases h1:n<lo
    ·exact Zx (decide_eq_true h1) (XK (by unfold Zf;rw[if_neg (by simp),hw];simp only[if_pos (show n<lo∨n>hi from .inl h1)]))
    ·refine Zy (fun e=>h1 (of_decide_eq_true e)) ?_
     by_cases h2:n>hi
     ·exact Zx (decide_eq_true h2) (XK (by unfold Zf;rw[if_neg (by simp),hw];simp only[if_pos (show n<lo∨n>hi from .inr h2)]))
     ·exact Zy (fun e=>h2 (of_decide_eq_true e)) (XK (by unfold Zf;rw[if_neg (by simp),hw];simp only[if_neg (show ¬ (n<lo∨n>hi) by omega)];rfl))
  ·exact Zx (by simpa using he) (XK (Hr lo hi e x he))
 ·cases h
theorem EG: ∀ args os,Yj args os=true->Ze TT os.length (Zk os.length CY fun r=>r=Uh args os) AR [] (ZK b0h args os):=by
 intro args os h
 unfold Yj at h
 split at h
 ·rename_i lo hi p err
  obtain⟨x,rfl,hl⟩:=YL h
  exact b2g x err lo hi ⟨Yp hl,rfl⟩
 ·cases h
theorem Fy: ∀ args os,VV args os=true->Ze AA os.length (Zk os.length Da fun r=>r=KM args os) Ga [] (ZK EA args os):=by
 intro args os h
 unfold VV at h
 split at h
 ·rename_i most p err
  obtain⟨x,rfl,hl⟩:=YL h
  have hv:KM [.ptr 0 0,.pv (.int .i64 most)] [.box [.pv (enc x),.pv (.int .i64 err)]]=G6 (Zf 0 most 3 x err) []:=by
   show G6 (Zf 0 most 3 (Za (enc x)) err) []=_
   rw[Zw]
  rw[hv]
  refine a7v x err most ?_
  rw[Z9]
  by_cases he:err=0
  ·subst he
   refine Zy (by simp) ⟨Yp hl,?_⟩
   unfold Zf
   simp only[if_neg (show ¬ (0:Int)≠0 by simp)]
   cases hw:ZX x with
   | none=>exact Zy (by simp) rfl
   | some p=>
    obtain⟨n,r⟩:=p
    by_cases hc:n<0∨n>most
    ·simp only[if_pos hc];exact Zx (by simp) rfl
    ·simp only[if_neg hc];exact Zy (by simp) rfl
  ·exact Zx (by simpa using he) (XK (Hr 0 most 3 x he))
 ·cases h
theorem Fq: ∀ args os,Yi args os=true->Ze AQ os.length (Zk os.length GL fun r=>r=Vm args os) GH [] (ZK EE args os):=by
 intro args os h
 unfold Yi at h
 split at h
 ·rename_i most p err
  obtain⟨x,rfl,hl⟩:=YL h
  have hv:Vm [.ptr 0 0,.pv (.int .i64 most)] [.box [.pv (enc x),.pv (.int .i64 err)]]=CF (Zi most x err) []:=by
   show CF (Zi most (Za (enc x)) err) _=_
   rw[Zw]
  rw[hv]
  refine a4n x err most ?_
  rw[Z9]
  by_cases he:err=0
  ·subst he
   refine Zy (by simp) ⟨Yp hl,?_⟩
   have hn:=UZ (lo:=0) (hi:=most) (e:=3) (x:=x) (err:=0) (by decide)
   have hb:=Hg (lo:=0) (hi:=most) (e:=3) (x:=x) (err:=0) (by decide)
   unfold Zi Wd
   simp only[if_neg (show ¬ (0:Int)≠0 by simp)]
   generalize hr:Zf 0 most 3 x 0=r at hn hb ⊢
   obtain⟨n,y,e⟩:=r
   simp only
   by_cases he:e=0
   ·subst he
    refine Zy (by simp) ?_
    obtain⟨_,h0,_,_⟩:=hn rfl
    have h0:0<=n:=h0
    by_cases hc:n>(y.length:Int)
    ·rw[List.length_map]
     refine Zx (decide_eq_true hc) ⟨by show(Jk (List UInt8) _&&Jk (List UInt8) _)=true;rw[Aj,Aj];rfl,Vr ?_⟩
     simp[hc]
    ·have hk:n.toNat<=y.length:=by omega
     obtain⟨c1,c2,c3⟩:=Nt hk
     refine Zy (by rw[List.length_map];simpa using hc) ⟨?_,?_,?_,?_⟩
     ·rw[K9,List.length_map];simp;omega
     ·rw[c3,K9];rfl
     ·rw[K9,List.length_map];simp;omega
     ·rw[c1,c2]
      refine Vr ?_
      simp[hc]
   ·refine Zx (by simpa using he) (Vr ?_)
    have h2:=(hb he).2
    simp only at h2
    subst h2
    simp[he]
  ·refine Zx (by simpa using he) (Vr ?_)
   unfold Zi
   rw[if_pos he]
 ·cases h
end Go.Pl

namespace Go.Pl
open Go.RowKit
open Enc (enc dec is)
open EncL (encL decL isL)
def b7g(x z:List UInt8)(e k:Int)(G:AV×List AObj×List AObj->Prop):Prop:=(if (e==0)=true then ∃ y0:Bool,AV.pv (Zo (fun(x:Lin×Unit)=>Zm (Prod.fst x)) [(.agg [(.int .i64 k),(.sl 0 true [])])])=AV.pv (enc y0)∧(if (!y0)=true then G (((.pv (.agg [(.int .i64 0),(.sl 0 true [])])),([(.box [(.pv (.sl 1 false (List.map enc x))),(.pv (.int .i64 4))])],[])))else(if (e != 0)=true then G (((.pv (.agg [(.int .i64 0),(.sl 0 true [])])),([(.box [(.pv (.sl 1 false (List.map enc x))),(.pv (.int .i64 e))])],[])))else(G (((.pv (.agg [(.int .i64 k),(.sl 0 true [])])),([(.box [(.pv (.sl 1 false (List.map enc z))),(.pv (.int .i64 e))])],[]))))))else(if (e != 0)=true then G (((.pv (.agg [(.int .i64 0),(.sl 0 true [])])),([(.box [(.pv (.sl 1 false (List.map enc x))),(.pv (.int .i64 e))])],[])))else(G (((.pv (.agg [(.int .i64 k),(.sl 0 true [])])),([(.box [(.pv (.sl 1 false (List.map enc z))),(.pv (.int .i64 e))])],[]))))))
def b7m(pre:Lin->Bool)(x z:List UInt8)(e k:Int)(ts:List Coef)(m:Nat)(G:AV×List AObj×List AObj->Prop):Prop:=(if (e==0)=true then(List.length (List.map enc ts)==m)=true∧((Go.Pl.preT (fun(x:Lin×Unit)=>pre (Prod.fst x)) [(.agg [(.int .i64 k),(.sl 2 false (List.drop 0 (List.take m (List.map enc ts))))])])=true∧(∃ y0:Bool,AV.pv (Zo (fun(x:Lin×Unit)=>Zm (Prod.fst x)) [(.agg [(.int .i64 k),(.sl 2 false (List.drop 0 (List.take m (List.map enc ts))))])])=AV.pv (enc y0)∧(if (!y0)=true then G (((.pv (.agg [(.int .i64 0),(.sl 0 true [])])),([(.box [(.pv (.sl 1 false (List.map enc x))),(.pv (.int .i64 4))])],[])))else(if (e != 0)=true then G (((.pv (.agg [(.int .i64 0),(.sl 0 true [])])),([(.box [(.pv (.sl 1 false (List.map enc x))),(.pv (.int .i64 e))])],[])))else((List.length (List.map enc ts)==m)=true∧(G (((.pv (.agg [(.int .i64 k),(.sl 2 false (List.drop 0 (List.take m (List.map enc ts))))])),([(.box [(.pv (.sl 1 false (List.map enc z))),(.pv (.int .i64 e))])],[])))))))))else(if (e != 0)=true then G (((.pv (.agg [(.int .i64 0),(.sl 0 true [])])),([(.box [(.pv (.sl 1 false (List.map enc x))),(.pv (.int .i64 e))])],[])))else((List.length (List.map enc ts)==m)=true∧(G (((.pv (.agg [(.int .i64 k),(.sl 2 false (List.drop 0 (List.take m (List.map enc ts))))])),([(.box [(.pv (.sl 1 false (List.map enc z))),(.pv (.int .i64 e))])],[])))))))
def WQ(k:Int)(x:List UInt8)(ts:List Coef)(c:List Coef×List UInt8×Int):Lin×List UInt8×Int:=
 if (if c.2.2=0∧Zm ⟨k,ts++c.1⟩=false then 4 else c.2.2)=0 then(⟨k,ts++c.1⟩,c.2.1,0)else(⟨0,[]⟩,x,if c.2.2=0∧Zm ⟨k,ts++c.1⟩=false then 4 else c.2.2)
def b7w(v:Lin×List UInt8×Int):AV×List AObj×List AObj:=(.pv (enc v.1),[sB v.2.1 v.2.2],[])
def GLn(v:Lin×List UInt8×Int)(r:AV×List AObj×List AObj):Prop:= ∃ p p',r.1 = .pv p∧Sub p p'∧b7w v=(.pv p',r.2)
theorem Jv(k:Int):Sub (.agg [.int .i64 k,.sl 0 true []]) (enc (⟨k,[]⟩:Lin)):=by
 refine .agg _ _ rfl ?_
 intro j a b ha hb
 match j with
 | 0=>cases ha;cases hb;exact .refl _
 | 1=>cases ha;cases hb;exact .nil 0 2 true false (by simp)
 | j+2=>cases ha
theorem Kw{v:Lin×List UInt8×Int}{x:List UInt8}{e:Int}(h:v=(⟨0,[]⟩,x,e)):GLn v (((.pv (.agg [(.int .i64 0),(.sl 0 true [])])),([(.box [(.pv (.sl 1 false (List.map enc x))),(.pv (.int .i64 e))])],[]))):=by
 subst h
 exact⟨_,_,rfl,Jv 0,rfl⟩
theorem b3g{v:Lin×List UInt8×Int}{z:List UInt8}{k e:Int}(h:v=(⟨k,[]⟩,z,e)):GLn v (((.pv (.agg [(.int .i64 k),(.sl 0 true [])])),([(.box [(.pv (.sl 1 false (List.map enc z))),(.pv (.int .i64 e))])],[]))):=by
 subst h
 exact⟨_,_,rfl,Jv k,rfl⟩
theorem b9v{ts:List Coef}{m:Nat}(h:ts.length=m):List.drop 0 (List.take m (List.map (enc:Coef->PV) ts))=ts.map enc:=by
 rw[List.take_of_length_le (by rw[List.length_map];omega),List.drop_zero]
theorem b6y{v:Lin×List UInt8×Int}{z:List UInt8}{k e:Int}{ts:List Coef}(h:v=(⟨k,ts⟩,z,e)):GLn v (((.pv (.agg [(.int .i64 k),(.sl 2 false (ts.map enc))])),([(.box [(.pv (.sl 1 false (List.map enc z))),(.pv (.int .i64 e))])],[]))):=by
 subst h
 exact⟨_,_,rfl,.refl _,rfl⟩
theorem Vh{k:Int}{x:List UInt8}{ts:List Coef}{c:List Coef×List UInt8×Int}(h:c.2.2≠0):WQ k x ts c=(⟨0,[]⟩,x,c.2.2):=by
 unfold WQ
 rw[if_neg (show ¬ (c.2.2=0∧Zm ⟨k,ts++c.1⟩=false)from fun e=>h e.1),if_neg h]
theorem Gb{k:Int}{x:List UInt8}{ts:List Coef}{c:List Coef×List UInt8×Int}(h:c.2.2=0)(hv:Zm ⟨k,ts++c.1⟩=false):WQ k x ts c=(⟨0,[]⟩,x,4):=by
 unfold WQ
 rw[if_pos (show c.2.2=0∧Zm ⟨k,ts++c.1⟩=false from⟨h,hv⟩),if_neg (by decide)]
theorem QI{k:Int}{x:List UInt8}{ts:List Coef}{c:List Coef×List UInt8×Int}(h:c.2.2=0)(hv:Zm ⟨k,ts++c.1⟩=true):WQ k x ts c=(⟨k,ts++c.1⟩,c.2.1,0):=by
 unfold WQ
 rw[if_neg (show ¬ (c.2.2=0∧Zm ⟨k,ts++c.1⟩=false)from fun e=>by rw[hv]at e;cases e.2),if_pos h]
theorem Qn{k:Int}{x:List UInt8}{ts:List Coef}{t:Coef}{r:List Coef×List UInt8×Int}:WQ k x ts (t::r.1,r.2)=WQ k x (ts++[t]) r:=by
 unfold WQ
 rw[show ts++[t]++r.1=ts++(t::r.1) by rw[List.append_assoc];rfl]
theorem HZ(x z:List UInt8)(e k:Int):b7g x z e k (GLn (WQ k x [] ([],z,e))):=by
 unfold b7g
 by_cases he:e=0
 ·refine Zx (by simpa using he) (QA (F:=fun x:Lin×Unit=>Zm x.1) ((⟨k,[]⟩:Lin),()) rfl ?_)
  cases hv:Zm ⟨k,[]⟩
  ·exact Zx rfl (Kw (Gb he hv))
  ·exact Zy (by simp) (Zy (by simpa using he) (b3g (by rw[QI he hv,he];rfl)))
 ·exact Zy (by simpa using he) (Zx (by simpa using he) (Kw (Vh he)))
theorem J9(pre:Lin->Bool)(x z:List UInt8)(e k:Int)(ts:List Coef)(m:Nat)(hm:ts.length=m)(hp:pre ⟨k,ts⟩=true):b7m pre x z e k ts m (GLn (WQ k x ts ([],z,e))):=by
 unfold b7m
 rw[b9v hm]
 have hl:(List.length (List.map (enc:Coef->PV) ts)==m)=true:=by rw[List.length_map,hm];simp
 by_cases he:e=0
 ·refine Zx (by simpa using he) ⟨hl,Zt (α:=Lin×Unit) ((⟨k,ts⟩:Lin),()) rfl hp,QA (F:=fun x:Lin×Unit=>Zm x.1) ((⟨k,ts⟩:Lin),()) (EncL.dec_encL ((⟨k,ts⟩:Lin),())) ?_⟩
  have ha:ts++([]:List Coef)=ts:=List.append_nil ts
  show if (!Zm ⟨k,ts⟩)=true then _ else _
  cases hv:Zm ⟨k,ts⟩
  ·exact Zx rfl (Kw (Gb he (by rw[ha];exact hv)))
  ·exact Zy (by simp) (Zy (by simpa using he) ⟨hl,b6y (by rw[QI he (by rw[ha];exact hv),he,ha])⟩)
 ·exact Zy (by simpa using he) (Zx (by simpa using he) (Kw (Vh he)))
theorem Vn{e:Int}(h:e≠0): ∀ (j:Nat) (z:List UInt8),Z5 j z e=([],z,e)
 | 0,z=>rfl
 | j+1,z=>by rw[Z5,if_pos h]
theorem Rh{lo hi e:Int}{x:List UInt8}{err:Int}(h1:0<=lo)(h2:0<=hi)(he:e≠0):0<=(Zf lo hi e x err).1∧(Zf lo hi e x err).1<=hi:=by
 by_cases h:(Zf lo hi e x err).2.2=0
 ·have:=UZ he h;omega
 ·have:=Hg he h;omega
theorem JC(x:List UInt8)(err:Int):(Zi 30 x err).1.length<=30:=by
 unfold Zi Wd
 have h:=Rh (lo:=0) (hi:=30) (e:=3) (x:=x) (err:=0) (by decide) (by decide) (by decide)
 simp only
 repeat' split
 all_goals first|(simp;done)|(rw[List.length_take];omega)
def Gm(ts:List Coef):Bool:=ts.all fun t=>decide (t.v.s.length<=1000000)
theorem KN{ts:List Coef}{t:Coef}(h:Gm ts=true)(ht:t.v.s.length<=30):Gm (ts++[t])=true:=by
 unfold Gm at h ⊢
 rw[List.all_append,h,List.all_cons,decide_eq_true (show t.v.s.length<=1000000 by omega)];rfl
theorem a6e{k:Int}{ts:List Coef}(h:ts.length<=12)(hn:Gm ts=true):ZJ ⟨k,ts⟩=true:=by
 unfold ZJ
 rw[show ZL ⟨k,ts⟩=true from decide_eq_true (by show ts.length<=_;omega)]
 exact hn
theorem a5g{k:Int}{ts:List Coef}(h:ts.length<=12):ZL ⟨k,ts⟩=true:=decide_eq_true (by show ts.length<=_;omega)
theorem Qo{z:List UInt8}(lo hi e:Int)(h:z.length<=9000000):Yj [.ptr 0 0,.pv (.int .i64 lo),.pv (.int .i64 hi)] [.box [.pv (.sl 1 false (List.map enc z)),.pv (.int .i64 e)]]=true:=Yp h
theorem DR{z:List UInt8}(m e:Int)(h:z.length<=9000000):Yi [.ptr 0 0,.pv (.int .i64 m)] [.box [.pv (.sl 1 false (List.map enc z)),.pv (.int .i64 e)]]=true:=Yp h
theorem a6c{z:List UInt8}(m e:Int)(h:z.length<=9000000):VV [.ptr 0 0,.pv (.int .i64 m)] [.box [.pv (.sl 1 false (List.map enc z)),.pv (.int .i64 e)]]=true:=Yp h
theorem OL{ts:List Coef}{m:Nat}(hm:ts.length=m)(h:m<=12)(b:PV):(List.length (List.map (enc:Coef->PV) ts)==m&&m==m&&decide ((m+List.length (List.drop 0 (List.take 1 [b])))*24<=1099511627776)&&decide (m+List.length (List.drop 0 (List.take 1 [b]))<=1099511627776))=true:=by
 rw[List.length_map,hm]
 simp
 omega
theorem LQ(x:List UInt8)(err k n:Int): ∀ (j i m:Nat) (z:List UInt8) (e:Int) (ts:List Coef),i+j=n.toNat->(e=0->n<=12)->ts.length=m->m<=12->m<=i->Gm ts=true->z.length<=9000000 ->
  At Wy 1 (YA 1 Xl (GLn (WQ k x ts (Z5 j z e)))) Xh 0 102 [(0,.ptr 0 0),(2,.ptr 1 0),(3,.ptr 2 0),(4,.ptr 3 0),(5,.pv (.int .i64 n)),(6,.pv (.int .i64 (i:Int)))] [.obj (.box [.pv (.sl 1 false (x.map enc)),.pv (.int .i64 err)]),.obj (.box [.pv (.int .i64 0),.pv (.sl 0 true [])]),.obj (.box [.pv (.sl 1 false (z.map enc)),.pv (.int .i64 e)]),.obj (.box [.pv (.int .i64 k),.row 4 m 0 m]),.obj (.row false 80 2 (ts.map enc))]:=by
 intro j
 induction j with
 | zero=>
  intro i m z e ts hj hn hm hmi hi hnm hz
  refine Nz x err z e k n i ts m (Zy (by simp;omega) ?_)
  exact J9 ZJ x z e k ts m hm (a6e (by omega) hnm)
 | succ j ih=>
  intro i m z e ts hj hn hm hmi hi hnm hz
  refine Nz x err z e k n i ts m (Zx (by simp;omega) ?_)
  by_cases he:e=0
  ·subst he
   have hn12:=hn rfl
   have h1:=Ky 30 z 0
   have h2:=W9 (-1000000) 1000000 2 (Zi 30 z 0).2.1 (Zi 30 z 0).2.2
   have h3:=JC z 0
   have h4:=ih (i+1) (m+1) (Zf (-1000000) 1000000 2 (Zi 30 z 0).2.1 (Zi 30 z 0).2.2).2.1 (Zf (-1000000) 1000000 2 (Zi 30 z 0).2.1 (Zi 30 z 0).2.2).2.2 (ts++[⟨⟨(Zi 30 z 0).1⟩,(Zf (-1000000) 1000000 2 (Zi 30 z 0).2.1 (Zi 30 z 0).2.2).1⟩]) (by omega) (fun _=>hn12) (by simp[hm]) (by omega) (by omega) (KN hnm h3) (by omega)
   rw[<- Qn,List.map_append]at h4
   refine Zx rfl ⟨DR 30 0 hz,Qo _ _ _ (by rw[Z9];omega),OL hm (by omega) _,?_⟩
   rw[Z9,Z9,next (by omega),show Z5 (j+1) z 0=(⟨⟨(Zi 30 z 0).1⟩,(Zf (-1000000) 1000000 2 (Zi 30 z 0).2.1 (Zi 30 z 0).2.2).1⟩::(Z5 j (Zf (-1000000) 1000000 2 (Zi 30 z 0).2.1 (Zi 30 z 0).2.2).2.1 (Zf (-1000000) 1000000 2 (Zi 30 z 0).2.1 (Zi 30 z 0).2.2).2.2).1,(Z5 j (Zf (-1000000) 1000000 2 (Zi 30 z 0).2.1 (Zi 30 z 0).2.2).2.1 (Zf (-1000000) 1000000 2 (Zi 30 z 0).2.1 (Zi 30 z 0).2.2).2.2).2)from rfl]
   exact h4
  ·rw[Vn he]
   refine Zy (by simpa using he) ?_
   exact J9 ZJ x z e k ts m hm (a6e (by omega) hnm)
theorem Qk(x:List UInt8)(err k n:Int): ∀ (j i:Nat) (z:List UInt8) (e:Int),i=0->j=n.toNat->(e=0->n<=12)->z.length<=9000000 ->
  At Wy 1 (YA 1 Xl (GLn (WQ k x [] (Z5 j z e)))) Xh 0 102 [(0,.ptr 0 0),(2,.ptr 1 0),(3,.ptr 2 0),(4,.ptr 3 0),(5,.pv (.int .i64 n)),(6,.pv (.int .i64 (i:Int)))] [.obj (.box [.pv (.sl 1 false (x.map enc)),.pv (.int .i64 err)]),.obj (.box [.pv (.int .i64 0),.pv (.sl 0 true [])]),.obj (.box [.pv (.sl 1 false (z.map enc)),.pv (.int .i64 e)]),.obj (.box [.pv (.int .i64 k),.pv (.sl 0 true [])])]:=by
 intro j i z e hi hj hn hz
 subst hi
 cases j with
 | zero=>
  refine PQ x err z e k n (0:Nat) (Zy (by simp;omega) ?_)
  exact HZ x z e k
 | succ j=>
  refine PQ x err z e k n (0:Nat) (Zx (by simp;omega) ?_)
  by_cases he:e=0
  ·subst he
   have hn12:=hn rfl
   have h1:=Ky 30 z 0
   have h2:=W9 (-1000000) 1000000 2 (Zi 30 z 0).2.1 (Zi 30 z 0).2.2
   have h3:=JC z 0
   have h4:=LQ x err k n j 1 1 (Zf (-1000000) 1000000 2 (Zi 30 z 0).2.1 (Zi 30 z 0).2.2).2.1 (Zf (-1000000) 1000000 2 (Zi 30 z 0).2.1 (Zi 30 z 0).2.2).2.2 ([]++[⟨⟨(Zi 30 z 0).1⟩,(Zf (-1000000) 1000000 2 (Zi 30 z 0).2.1 (Zi 30 z 0).2.2).1⟩]) (by omega) (fun _=>hn12) rfl (by omega) (by omega) (KN rfl h3) (by omega)
   rw[<- Qn]at h4
   refine Zx rfl ⟨DR 30 0 hz,Qo _ _ _ (by rw[Z9];omega),?_⟩
   rw[Z9,Z9,next (by omega),show Z5 (j+1) z 0=(⟨⟨(Zi 30 z 0).1⟩,(Zf (-1000000) 1000000 2 (Zi 30 z 0).2.1 (Zi 30 z 0).2.2).1⟩::(Z5 j (Zf (-1000000) 1000000 2 (Zi 30 z 0).2.1 (Zi 30 z 0).2.2).2.1 (Zf (-1000000) 1000000 2 (Zi 30 z 0).2.1 (Zi 30 z 0).2.2).2.2).1,(Z5 j (Zf (-1000000) 1000000 2 (Zi 30 z 0).2.1 (Zi 30 z 0).2.2).2.1 (Zf (-1000000) 1000000 2 (Zi 30 z 0).2.1 (Zi 30 z 0).2.2).2.2).2)from rfl]
   exact h4
  ·rw[Vn he]
   refine Zy (by simpa using he) ?_
   exact HZ x z e k
theorem Nf(x:List UInt8)(err k n:Int): ∀ (j i m:Nat) (z:List UInt8) (e:Int) (ts:List Coef),i+j=n.toNat->(e=0->n<=12)->ts.length=m->m<=12->m<=i->Gm ts=true->z.length<=9000000 ->
  At Wn 1 (YA 1 Xw (GLn (WQ k x ts (Z5 j z e)))) Xz 0 74 [(0,.ptr 0 0),(2,.ptr 1 0),(3,.pv (.sl 1 false (x.map enc))),(4,.ptr 2 0),(5,.pv (.int .i64 n)),(6,.pv (.int .i64 (i:Int)))] [.obj (.box [.pv (.sl 1 false (z.map enc)),.pv (.int .i64 e)]),.obj (.box [.pv (.int .i64 0),.pv (.sl 0 true [])]),.obj (.box [.pv (.int .i64 k),.row 3 m 0 m]),.obj (.row false 80 2 (ts.map enc))]:=by
 intro j
 induction j with
 | zero=>
  intro i m z e ts hj hn hm hmi hi hnm hz
  refine Tj x err z e k n i ts m (Zy (by simp;omega) ?_)
  exact J9 ZL x z e k ts m hm (a5g (by omega))
 | succ j ih=>
  intro i m z e ts hj hn hm hmi hi hnm hz
  refine Tj x err z e k n i ts m (Zx (by simp;omega) ?_)
  by_cases he:e=0
  ·subst he
   have hn12:=hn rfl
   have h1:=Ky 30 z 0
   have h2:=W9 (-1000000) 1000000 2 (Zi 30 z 0).2.1 (Zi 30 z 0).2.2
   have h3:=JC z 0
   have h4:=ih (i+1) (m+1) (Zf (-1000000) 1000000 2 (Zi 30 z 0).2.1 (Zi 30 z 0).2.2).2.1 (Zf (-1000000) 1000000 2 (Zi 30 z 0).2.1 (Zi 30 z 0).2.2).2.2 (ts++[⟨⟨(Zi 30 z 0).1⟩,(Zf (-1000000) 1000000 2 (Zi 30 z 0).2.1 (Zi 30 z 0).2.2).1⟩]) (by omega) (fun _=>hn12) (by simp[hm]) (by omega) (by omega) (KN hnm h3) (by omega)
   rw[<- Qn,List.map_append]at h4
   refine Zx rfl ⟨DR 30 0 hz,Qo _ _ _ (by rw[Z9];omega),OL hm (by omega) _,?_⟩
   rw[Z9,Z9,next (by omega),show Z5 (j+1) z 0=(⟨⟨(Zi 30 z 0).1⟩,(Zf (-1000000) 1000000 2 (Zi 30 z 0).2.1 (Zi 30 z 0).2.2).1⟩::(Z5 j (Zf (-1000000) 1000000 2 (Zi 30 z 0).2.1 (Zi 30 z 0).2.2).2.1 (Zf (-1000000) 1000000 2 (Zi 30 z 0).2.1 (Zi 30 z 0).2.2).2.2).1,(Z5 j (Zf (-1000000) 1000000 2 (Zi 30 z 0).2.1 (Zi 30 z 0).2.2).2.1 (Zf (-1000000) 1000000 2 (Zi 30 z 0).2.1 (Zi 30 z 0).2.2).2.2).2)from rfl]
   exact h4
  ·rw[Vn he]
   refine Zy (by simpa using he) ?_
   exact J9 ZL x z e k ts m hm (a5g (by omega))
theorem PU(x:List UInt8)(err k n:Int): ∀ (j i:Nat) (z:List UInt8) (e:Int),i=0->j=n.toNat->(e=0->n<=12)->z.length<=9000000 ->
  At Wn 1 (YA 1 Xw (GLn (WQ k x [] (Z5 j z e)))) Xz 0 74 [(0,.ptr 0 0),(2,.ptr 1 0),(3,.pv (.sl 1 false (x.map enc))),(4,.ptr 2 0),(5,.pv (.int .i64 n)),(6,.pv (.int .i64 (i:Int)))] [.obj (.box [.pv (.sl 1 false (z.map enc)),.pv (.int .i64 e)]),.obj (.box [.pv (.int .i64 0),.pv (.sl 0 true [])]),.obj (.box [.pv (.int .i64 k),.pv (.sl 0 true [])])]:=by
 intro j i z e hi hj hn hz
 subst hi
 cases j with
 | zero=>
  refine SK x err z e k n (0:Nat) (Zy (by simp;omega) ?_)
  exact HZ x z e k
 | succ j=>
  refine SK x err z e k n (0:Nat) (Zx (by simp;omega) ?_)
  by_cases he:e=0
  ·subst he
   have hn12:=hn rfl
   have h1:=Ky 30 z 0
   have h2:=W9 (-1000000) 1000000 2 (Zi 30 z 0).2.1 (Zi 30 z 0).2.2
   have h3:=JC z 0
   have h4:=Nf x err k n j 1 1 (Zf (-1000000) 1000000 2 (Zi 30 z 0).2.1 (Zi 30 z 0).2.2).2.1 (Zf (-1000000) 1000000 2 (Zi 30 z 0).2.1 (Zi 30 z 0).2.2).2.2 ([]++[⟨⟨(Zi 30 z 0).1⟩,(Zf (-1000000) 1000000 2 (Zi 30 z 0).2.1 (Zi 30 z 0).2.2).1⟩]) (by omega) (fun _=>hn12) rfl (by omega) (by omega) (KN rfl h3) (by omega)
   rw[<- Qn]at h4
   refine Zx rfl ⟨DR 30 0 hz,Qo _ _ _ (by rw[Z9];omega),?_⟩
   rw[Z9,Z9,next (by omega),show Z5 (j+1) z 0=(⟨⟨(Zi 30 z 0).1⟩,(Zf (-1000000) 1000000 2 (Zi 30 z 0).2.1 (Zi 30 z 0).2.2).1⟩::(Z5 j (Zf (-1000000) 1000000 2 (Zi 30 z 0).2.1 (Zi 30 z 0).2.2).2.1 (Zf (-1000000) 1000000 2 (Zi 30 z 0).2.1 (Zi 30 z 0).2.2).2.2).1,(Z5 j (Zf (-1000000) 1000000 2 (Zi 30 z 0).2.1 (Zi 30 z 0).2.2).2.1 (Zf (-1000000) 1000000 2 (Zi 30 z 0).2.1 (Zi 30 z 0).2.2).2.2).2)from rfl]
   exact h4
  ·rw[Vn he]
   refine Zy (by simpa using he) ?_
   exact HZ x z e k
theorem Vy(x:List UInt8):Zb x 0=WQ (Zf (-1000000) 1000000 2 x 0).1 x [] (Z5 (Zf 0 12 3 (Zf (-1000000) 1000000 2 x 0).2.1 (Zf (-1000000) 1000000 2 x 0).2.2).1.toNat (Zf 0 12 3 (Zf (-1000000) 1000000 2 x 0).2.1 (Zf (-1000000) 1000000 2 x 0).2.2).2.1 (Zf 0 12 3 (Zf (-1000000) 1000000 2 x 0).2.1 (Zf (-1000000) 1000000 2 x 0).2.2).2.2):=by
 unfold Zb WQ
 rw[if_neg (by simp)]
 simp only[List.nil_append]
theorem Jh(x:List UInt8){err:Int}(h:err≠0):Zb x err=(⟨0,[]⟩,x,err):=by unfold Zb;rw[if_pos h]
theorem Am(x:List UInt8)(err:Int):Yg [.ptr 0 0] [.box [.pv (enc x),.pv (.int .i64 err)]]=b7w (Zb x err):=by
 show(AV.pv (enc (Zb (Za (enc x)) err).1),[sB (Zb (Za (enc x)) err).2.1 (Zb (Za (enc x)) err).2.2],[])=_
 rw[Zw];rfl
theorem a2i: ∀ args os,Yq args os=true->Ze Wn os.length (YA os.length Xw fun r=> ∃ p p',r.1 = .pv p∧Sub p p'∧Yg args os=(.pv p',r.2)) Xz [] (ZK a8g args os):=by
 intro args os h
 unfold Yq at h
 split at h
 ·rename_i p err
  obtain⟨x,rfl,hl⟩:=YL h
  rw[Am]
  show Ze Wn 1 (YA 1 Xw (GLn (Zb x err))) Xz [] _
  refine b2d x err ?_
  by_cases he:err=0
  ·subst he
   have h1:=W9 (-1000000) 1000000 2 x 0
   rw[Z9,Z9,Vy]
   have h2:=W9 0 12 3 (Zf (-1000000) 1000000 2 x 0).2.1 (Zf (-1000000) 1000000 2 x 0).2.2
   have h3:=Rh (lo:=0) (hi:=12) (e:=3) (x:=(Zf (-1000000) 1000000 2 x 0).2.1) (err:=(Zf (-1000000) 1000000 2 x 0).2.2) (by decide) (by decide) (by decide)
   exact Zy (by simp) ⟨Qo _ _ _ hl,a6c _ _ (by omega),PU x 0 _ _ _ 0 _ _ rfl rfl (fun _=>h3.2) (by omega)⟩
  ·exact Zx (by simpa using he) (Kw (Jh x he))
 ·exact b1h ⟨_,_,rfl,Jv 0,rfl⟩
 ·cases h
theorem a6p: ∀ args os,Yq args os=true->Ze Wy os.length (YA os.length Xl fun r=> ∃ p p',r.1 = .pv p∧Sub p p'∧Yg args os=(.pv p',r.2)) Xh [] (ZK b6f args os):=by
 intro args os h
 unfold Yq at h
 split at h
 ·rename_i p err
  obtain⟨x,rfl,hl⟩:=YL h
  rw[Am]
  show Ze Wy 1 (YA 1 Xl (GLn (Zb x err))) Xh [] _
  refine c0m x err ?_
  by_cases he:err=0
  ·subst he
   have h1:=W9 (-1000000) 1000000 2 x 0
   rw[Z9,Z9,Vy]
   generalize Zf (-1000000) 1000000 2 x 0=a at h1 ⊢
   have h2:=W9 (-9223372036854775808) 9223372036854775807 2 a.2.1 a.2.2
   have hg:=UZ (lo:= -9223372036854775808) (hi:=9223372036854775807) (e:=2) (x:=a.2.1) (err:=a.2.2) (by decide)
   have hb:=Hg (lo:= -9223372036854775808) (hi:=9223372036854775807) (e:=2) (x:=a.2.1) (err:=a.2.2) (by decide)
   have key:(Zf (-9223372036854775808) 9223372036854775807 2 a.2.1 a.2.2).2.2≠0->Zf 0 12 3 a.2.1 a.2.2=Zf (-9223372036854775808) 9223372036854775807 2 a.2.1 a.2.2:=by
    intro hne
    unfold Zf at hne ⊢
    by_cases h0:a.2.2≠0
    ·rw[if_pos h0,if_pos h0]
    ·rw[if_neg h0]at hne
     rw[if_neg h0,if_neg h0]
     cases hw:ZX a.2.1 with
     | none=>rfl
     | some q=>
      obtain⟨n,r⟩:=q
      have hr:=GR hw
      rw[hw]at hne
      simp only[if_neg (show ¬ (n < -9223372036854775808∨n>9223372036854775807) by omega)]at hne
      exact absurd rfl hne
   have key2:(Zf (-9223372036854775808) 9223372036854775807 2 a.2.1 a.2.2).2.2=0->Zf 0 12 3 a.2.1 a.2.2=if (Zf (-9223372036854775808) 9223372036854775807 2 a.2.1 a.2.2).1<0∨(Zf (-9223372036854775808) 9223372036854775807 2 a.2.1 a.2.2).1>12 then(0,a.2.1,3)else Zf (-9223372036854775808) 9223372036854775807 2 a.2.1 a.2.2:=by
    intro hz
    obtain⟨e0,_,_,hw⟩:=hg hz
    have e3:=a6s hz
    generalize Zf (-9223372036854775808) 9223372036854775807 2 a.2.1 a.2.2=b at hw e3 ⊢
    unfold Zf
    rw[if_neg (by rw[e0];simp),hw,e3]
   generalize Zf (-9223372036854775808) 9223372036854775807 2 a.2.1 a.2.2=b at h2 hb key key2 ⊢
   refine Zy (by simp) ⟨Qo _ _ _ hl,Qo _ _ _ (by omega),?_⟩
   by_cases hz:b.2.2=0
   ·have k2:=key2 hz
    refine Zx (by simpa using hz) ?_
    by_cases n1:b.1<0
    ·rw[if_pos (.inl n1)]at k2
     rw[k2]
     have:=Qk x 0 a.1 b.1 b.1.toNat 0 b.2.1 3 rfl rfl (fun e=>by cases e) (by omega)
     rw[Vn (by decide),Vh (show(3:Int)≠0 by decide)]at this
     refine Zx (decide_eq_true n1) ?_
     rw[show Z5 (0:Int).toNat a.2.1 3=([],a.2.1,3)from rfl,Vh (show(3:Int)≠0 by decide)]
     exact this
    ·refine Zy (fun e=>n1 (of_decide_eq_true e)) ?_
     by_cases n2:b.1>12
     ·rw[if_pos (.inr n2)]at k2
      rw[k2]
      have:=Qk x 0 a.1 b.1 b.1.toNat 0 b.2.1 3 rfl rfl (fun e=>by cases e) (by omega)
      rw[Vn (by decide),Vh (show(3:Int)≠0 by decide)]at this
      refine Zx (decide_eq_true n2) ?_
      rw[show Z5 (0:Int).toNat a.2.1 3=([],a.2.1,3)from rfl,Vh (show(3:Int)≠0 by decide)]
      exact this
     ·rw[if_neg (by omega)]at k2
      rw[k2]
      exact Zy (fun e=>n2 (of_decide_eq_true e)) (Qk x 0 a.1 b.1 b.1.toNat 0 b.2.1 b.2.2 rfl rfl (fun _=>by omega) (by omega))
   ·rw[key hz]
    exact Zy (by simpa using hz) (Qk x 0 a.1 b.1 b.1.toNat 0 b.2.1 b.2.2 rfl rfl (fun e=>absurd e hz) (by omega))
  ·exact Zx (by simpa using he) (Kw (Jh x he))
 ·exact b3v ⟨_,_,rfl,Jv 0,rfl⟩
 ·cases h
end Go.Pl

namespace Go.Pl
open Go.RowKit
theorem JH{lo hi e n:Int}(x:List UInt8)(h1:lo<=n)(h2:n<=hi)(h3 : -9223372036854775808<=n)(h4:n<=9223372036854775807):Zf lo hi e (encI n++x) 0=(n,x,0):=by
 unfold Zf
 rw[if_neg (by simp),a2d n x h3 h4]
 simp only[if_neg (show ¬ (n<lo∨n>hi) by omega)]
theorem KD{lo hi e:Int}{x:List UInt8}{err:Int}(he:e≠0)(h:(Zf lo hi e x err).2.2=0):err=0∧x=encI (Zf lo hi e x err).1++(Zf lo hi e x err).2.1∧lo<=(Zf lo hi e x err).1∧(Zf lo hi e x err).1<=hi:=by
 obtain⟨h0,h1,h2,h3⟩:=UZ he h
 exact⟨h0,(GR h3).1,h1,h2⟩
theorem a1p{s:List UInt8}(x:List UInt8)(h:s.length<=30):Zi 30 (encS s++x) 0=(s,x,0):=by
 have hn:Zf 0 30 3 (encI s.length++(s++x)) 0=((s.length:Int),s++x,0):=JH _ (by omega) (by omega) (by omega) (by omega)
 unfold Zi Wd encS
 rw[List.append_assoc,hn]
 simp only[Int.toNat_natCast]
 rw[if_neg (show ¬ ((s.length:Int)>((s++x).length:Int)) by rw[List.length_append];omega),List.take_left,List.drop_left]
 simp
theorem F7{x:List UInt8}{err:Int}(h:(Zi 30 x err).2.2=0):err=0∧x=encS (Zi 30 x err).1++(Zi 30 x err).2.1:=by
 have hb:=KD (lo:=0) (hi:=30) (e:=3) (x:=x) (err:=0) (by decide)
 unfold Zi at h ⊢
 by_cases h0:err≠0
 ·rw[if_pos h0]at h;exact absurd h h0
 ·rw[if_neg h0]at h
  rw[if_neg h0]
  refine⟨by omega,?_⟩
  unfold Wd at h ⊢
  generalize Zf 0 30 3 x 0=r at h hb ⊢
  obtain⟨n,y,e⟩:=r
  simp only at h hb ⊢
  by_cases he:e=0
  ·subst he
   obtain⟨_,hx,hn,_⟩:=hb rfl
   simp only[ne_eq,not_true_eq_false,if_false]at h ⊢
   by_cases hc:n>(y.length:Int)
   ·simp[hc]at h
   ·simp only[if_neg hc,ne_eq,not_true_eq_false,if_false]at h ⊢
    have hl:(y.take n.toNat).length=n.toNat:=by rw[List.length_take];omega
    unfold encS
    rw[hl,Int.toNat_of_nonneg hn,List.append_assoc,List.take_append_drop]
    exact hx
  ·simp[he]at h
theorem Bh(b:List UInt8): ∀ (ts:List Coef),(∀ t∈ts,t.v.s.length<=30∧ -1000000<=t.c∧t.c<=1000000)->Z5 ts.length (ts.flatMap XY++b) 0=(ts,b,0)
 | [],_=>rfl
 | t::ts,h=>by
  have ht:=h t (by simp)
  have hi:=Bh b ts (fun t ht=>h t (by simp[ht]))
  rw[List.length_cons,Z5,if_neg (by simp),List.flatMap_cons]
  have e1:XY t++ts.flatMap XY++b=encS t.v.s++(encI t.c++(ts.flatMap XY++b)):=by unfold XY;simp only[List.append_assoc]
  rw[e1,a1p _ ht.1]
  simp only
  rw[JH _ ht.2.1 ht.2.2 (by omega) (by omega)]
  simp only
  rw[hi]
theorem Dk: ∀ (n:Nat) {x:List UInt8} {e:Int},(Z5 n x e).2.2=0->e=0∧x=(Z5 n x e).1.flatMap XY++(Z5 n x e).2.1∧(Z5 n x e).1.length=n
 | 0,x,e,h=>⟨h,rfl,rfl⟩
 | n+1,x,e,h=>by
  rw[Z5]at h ⊢
  by_cases h0:e≠0
  ·rw[if_pos h0]at h;exact absurd h h0
  ·rw[if_neg h0]at h
   rw[if_neg h0]
   simp only at h ⊢
   obtain⟨c0,hx,hl⟩:=Dk n h
   obtain⟨v0,hc,_,_⟩:=KD (by decide) c0
   obtain⟨_,hv⟩:=F7 v0
   refine⟨by omega,?_,by rw[List.length_cons,hl]⟩
   rw[List.flatMap_cons]
   have:XY ⟨⟨(Zi 30 x 0).1⟩,(Zf (-1000000) 1000000 2 (Zi 30 x 0).2.1 (Zi 30 x 0).2.2).1⟩=encS (Zi 30 x 0).1++encI (Zf (-1000000) 1000000 2 (Zi 30 x 0).2.1 (Zi 30 x 0).2.2).1:=rfl
   rw[this,List.append_assoc,List.append_assoc,<- hx,<- hc,<- hv]
theorem Al: ∀ (n:Nat) (x:List UInt8) (e:Int),(Z5 n x e).1.length<=n
 | 0,x,e=>Nat.le_refl _
 | n+1,x,e=>by
  rw[Z5]
  split
  ·exact Nat.zero_le _
  ·have:=Al n (Zf (-1000000) 1000000 2 (Zi 30 x 0).2.1 (Zi 30 x 0).2.2).2.1 (Zf (-1000000) 1000000 2 (Zi 30 x 0).2.1 (Zi 30 x 0).2.2).2.2
   simp only[List.length_cons]
   omega
theorem a3j(k:Int)(x:List UInt8)(ts:List Coef)(c:List Coef×List UInt8×Int):(WQ k x ts c).1.t.length<=(ts++c.1).length:=by
 unfold WQ
 generalize (if c.2.2=0∧Zm ⟨k,ts++c.1⟩=false then(4:Int)else c.2.2)=e
 split
 ·exact Nat.le_refl _
 ·exact Nat.zero_le _
theorem Lt(x:List UInt8)(err:Int):(Zb x err).1.t.length<=12:=by
 by_cases h:err=0
 ·subst h
  rw[Vy]
  have h:=Al (Zf 0 12 3 (Zf (-1000000) 1000000 2 x 0).2.1 (Zf (-1000000) 1000000 2 x 0).2.2).1.toNat (Zf 0 12 3 (Zf (-1000000) 1000000 2 x 0).2.1 (Zf (-1000000) 1000000 2 x 0).2.2).2.1 (Zf 0 12 3 (Zf (-1000000) 1000000 2 x 0).2.1 (Zf (-1000000) 1000000 2 x 0).2.2).2.2
  have h2:=Rh (lo:=0) (hi:=12) (e:=3) (x:=(Zf (-1000000) 1000000 2 x 0).2.1) (err:=(Zf (-1000000) 1000000 2 x 0).2.2) (by decide) (by decide) (by decide)
  refine Nat.le_trans (a3j _ _ _ _) ?_
  rw[List.nil_append]
  omega
 ·rw[Jh x h];exact Nat.zero_le _
theorem FO{s:Str}(h:Yc s=true):s.s.length<=30:=by
 unfold Yc at h
 split at h
 ·cases h
 ·rename_i c r e
  rw[e,List.length_cons]
  split at h <;> simp only[Bool.and_eq_true,decide_eq_true_eq]at h <;> omega
theorem Fw{l:Lin}(hv:Zm l=true)(b:List UInt8):Zb (Zd l++b) 0=(l,b,0):=by
 have hv':=hv
 unfold Zm at hv
 simp only[Bool.and_eq_true,List.all_eq_true,decide_eq_true_eq]at hv
 obtain⟨⟨⟨hts,_⟩,hk⟩,hlen⟩:=hv
 have e:Zd l++b=encI l.k++(encI l.t.length++(l.t.flatMap XY++b)):=by unfold Zd;simp only[List.append_assoc]
 have hk : -1000000<=l.k∧l.k<=1000000:=by unfold Z8 at hk;simpa using hk
 rw[Vy,e,JH _ hk.1 hk.2 (by omega) (by omega)]
 simp only
 rw[JH _ (by omega) (by omega) (by omega) (by omega)]
 simp only[Int.toNat_natCast]
 rw[Bh b l.t (fun t ht=>by
  obtain⟨⟨h1,h2⟩,h3⟩:=hts t ht
  have h4 : -1000000<=t.c∧t.c<=1000000:=by unfold Z8 at h3;simpa using h3
  exact⟨FO h1,h4⟩)]
 exact QI rfl hv'
theorem PX{x:List UInt8}(h:(Zb x 0).2.2=0):Zd (Zb x 0).1++(Zb x 0).2.1=x:=by
 rw[Vy]at h ⊢
 generalize ha:Zf (-1000000) 1000000 2 x 0=a at h ⊢
 generalize hb:Zf 0 12 3 a.2.1 a.2.2=b at h ⊢
 generalize hc:Z5 b.1.toNat b.2.1 b.2.2=c at h ⊢
 by_cases hz:c.2.2=0
 ·cases hv:Zm ⟨a.1,[]++c.1⟩
  ·rw[Gb hz hv]at h;exact absurd h (show(4:Int)≠0 by decide)
  ·rw[QI hz hv]
   rw[<- hc]at hz
   obtain⟨b0,hx,hl⟩:=Dk _ hz
   rw[<- hb]at b0
   obtain⟨a0,hy,n0,n1⟩:=KD (by decide) b0
   rw[<- ha]at a0
   obtain⟨_,hw,_,_⟩:=KD (by decide) a0
   rw[ha]at hw
   rw[hb]at hy n0
   rw[hc]at hx hl
   show Zd ⟨a.1,c.1⟩++c.2.1=x
   unfold Zd
   simp only[List.append_assoc]
   rw[hw,<- hx]
   rw[show((c.1.length:Nat):Int)=b.1 by omega,<- hy,<- hw]
 ·rw[Vh hz]at h
  exact absurd h hz
end Go.Pl

namespace Go.Pl
open Go.RowKit
open Enc (enc dec is)
open EncL (encL decL isL)
set_option maxRecDepth 100000
theorem b5o{G:AV×List AObj×List AObj->Prop}(x:List UInt8)(n:Int)(h:(UC [(.pv (.sl 1 false (List.map enc x)))] [])=true∧((UE 5 [(.row 0 (List.length (Za (enc x))) 0 (List.length (Za (enc x)))),(.pv (.int .i64 n))] [(.row false 5 1 (List.map enc (Za (enc x))))])=true∧(G (((.row 0 (List.length (Za (enc x))+List.length (encI n)) 0 (List.length (Za (enc x))+List.length (encI n))),([],[(.row false 5 1 (List.map enc (Za (enc x))++List.map enc (encI n)))])))))):Ze M5 0 (Zk 0 RS G) R7 [] (ZK 9 [.pv (enc x),.pv (.int .i64 n)] []):=Ze.to (.req (.keep (.req (.keep (.nil))))) h (by kernel_rfl)
def V4:IC:=(.seq (.reg [⟨(some 3),(.box 2 (.t 1)),0,none⟩,⟨(some 4),(.mv (.c (.sl 0 true []))),1,none⟩] none) (.seq (.reg [⟨(some 7),(.mv (.t 0)),0,none⟩,⟨(some 8),(.faddr 0 (.t 3)),0,none⟩,⟨(some 9),(.load false [(.int .i64)] (.t 8)),0,none⟩,⟨(some 10),(.call (.c (.fn 30)) [(.t 7),(.t 9)]),0,none⟩,⟨(some 11),(.faddr 1 (.t 3)),2,none⟩,⟨(some 12),(.load false [(.sl 2)] (.t 11)),2,none⟩,⟨(some 13),(.len 1 (.t 12)),2,none⟩,⟨(some 14),(.call (.c (.fn 30)) [(.t 10),(.t 13)]),2,none⟩,⟨(some 0),(.mv (.t 14)),4,none⟩] (some [[],[],[1],[0,2,1],[],[4],[5,4],[3,6,0,2,1,5,4],[7,0,1,2,3,4,5,6]])) (.seq (.seq (.reg [⟨(some 15),(.faddr 1 (.t 3)),0,none⟩,⟨(some 16),(.load false [(.sl 2)] (.t 15)),0,none⟩,⟨(some 17),(.len 1 (.t 16)),0,none⟩,⟨(some 18),(.mv (.c (.int .i64 0))),0,none⟩] none) (.block 0 (.loop [18,17,16,0] (.seq (.reg [⟨(some 19),(.bin .num .lss (.t 18) (.t 17)),0,none⟩] none) (.seq (.cond (.t 19) .skip (.exit 0)) (.seq (.block 1 (.seq (.reg [⟨(some 20),(.iaddr 2 (.t 16) (.t 18)),0,none⟩,⟨(some 21),(.load true [.str,(.int .i64)] (.t 20)),0,none⟩,⟨(some 6),(.alloc (.agg [(.str []),(.int .i64 0)])),0,none⟩,⟨none,(.store 2 (.t 6) (.t 21)),1,none⟩] none) (.reg [⟨(some 22),(.mv (.t 0)),0,none⟩,⟨(some 23),(.faddr 0 (.t 6)),0,none⟩,⟨(some 24),(.load false [.str] (.t 23)),0,none⟩,⟨(some 25),(.call (.c (.fn 43)) [(.t 22),(.t 24)]),0,none⟩,⟨(some 26),(.faddr 1 (.t 6)),2,none⟩,⟨(some 27),(.load false [(.int .i64)] (.t 26)),2,none⟩,⟨(some 28),(.call (.c (.fn 30)) [(.t 25),(.t 27)]),2,none⟩,⟨(some 0),(.mv (.t 28)),4,none⟩] (some [[],[],[1],[0,2,1],[],[4],[3,5,0,2,1,4],[6,0,1,2,3,4,5]])))) (.reg [⟨(some 29),(.bin .num .add (.t 18) (.c (.int .i64 1))),0,none⟩,⟨(some 18),(.mv (.t 29)),0,none⟩] none))))))) (.seq (.reg [⟨(some 30),(.mv (.t 0)),0,none⟩,⟨(some 4),(.mv (.t 30)),0,none⟩] none) .ret))))
def VZ:List IRes:=[(.tmp 4)]
abbrev b1y:Nat:=31
def Qc:ZG:=Xo [(30,.own (WK 5) (Q6 5)),(43,.pure (preT (fun x:List UInt8×Str×Unit=>decide (x.1.length<=1000000)&&decide (x.2.1.s.length<=1000000))) (Zo (fun x:List UInt8×Str×Unit=>x.1++encS x.2.1.s)))]
theorem b4g{G:AV×List AObj×List AObj->Prop}(x:List UInt8)(l:Lin)(h:(WK 5 [(.pv (.sl 1 false (List.map enc x))),(.pv (.int .i64 l.k))] [])=true∧((WK 5 [(.row 0 (List.length (Za (enc x)++encI l.k)) 0 (List.length (Za (enc x)++encI l.k))),(.pv (.int .i64 (↑(List.length (List.map enc l.t)):Int)))] [(.row false 5 1 (List.map enc (Za (enc x)++encI l.k)))])=true∧(At Qc 0 (Zk 0 VZ G) V4 0 31 [(0,(.row 0 (List.length (Za (PV.sl 1 false (List.map enc (Za (enc x)++encI l.k)))++encI (↑(List.length (List.map enc l.t)):Int))) 0 (List.length (Za (PV.sl 1 false (List.map enc (Za (enc x)++encI l.k)))++encI (↑(List.length (List.map enc l.t)):Int))))),(16,(.pv (.sl 2 false (List.map enc l.t)))),(17,(.pv (.int .i64 (↑(List.length (List.map enc l.t)):Int)))),(18,(.pv (.int .i64 0)))] [(.obj (.row false 5 1 (List.map enc (Za (PV.sl 1 false (List.map enc (Za (enc x)++encI l.k)))++encI (↑(List.length (List.map enc l.t)):Int)))))]))):Ze Qc 0 (Zk 0 VZ G) V4 [] (ZK 31 [.pv (enc x),.pv (.agg [enc l.k,enc l.t])] []):=Ze.to (.req (.keep (.req (.keep (.nil))))) h (by kernel_rfl)
theorem Nl{G:AV×List AObj×List AObj->Prop}(x:List UInt8)(l:Lin)(y:List UInt8)(q:Nat)(i:Int)(h:if (decide (i<(↑(List.length l.t):Int)))=true then(decide (0<=i)&&decide (Int.toNat i<List.length (List.map enc l.t))&&Enc.sz Coef==2)=true∧(∃ y0:Coef,AV.pv (PV.rptr (PV.cells (List.getD (List.map enc l.t) (Int.toNat i) default)))=AV.pv (PV.rptr (PV.cells ((enc) y0)))∧((List.length (List.map enc y)==q)=true∧((Go.Pl.preT (fun(x:List UInt8×Str×Unit)=>decide (List.length x.1<=1000000)&&decide (List.length (Str.s x.2.1)<=1000000)) [(.sl 1 false (List.drop 0 (List.take q (List.map enc y)))),(.str (PV.asStr (List.getD (PV.cells (enc y0)) 0 default)))])=true∧(∃ y1:List UInt8,AV.pv (Zo (fun(x:List UInt8×Str×Unit)=>x.1++encS (Str.s x.2.1)) [(.sl 1 false (List.drop 0 (List.take q (List.map enc y)))),(.str (PV.asStr (List.getD (PV.cells (enc y0)) 0 default)))])=AV.pv (enc y1)∧((WK 5 [(.pv (.sl 1 false (List.map enc y1))),(.pv (.int .i64 (PV.asInt (List.getD (PV.cells (enc y0)) (0+1) default))))] [])=true∧(At Qc 0 (Zk 0 VZ G) V4 0 31 [(0,(.row 0 (List.length (Za (enc y1)++encI (PV.asInt (List.getD (PV.cells (enc y0)) (0+1) default)))) 0 (List.length (Za (enc y1)++encI (PV.asInt (List.getD (PV.cells (enc y0)) (0+1) default)))))),(16,(.pv (.sl 2 false (List.map enc l.t)))),(17,(.pv (.int .i64 (↑(List.length l.t):Int)))),(18,(.pv (.int .i64 (IntKind.wrap IntKind.i64 (i+1)))))] [(.obj (.row false 5 1 (List.map enc (Za (enc y1)++encI (PV.asInt (List.getD (PV.cells (enc y0)) (0+1) default))))))]))))))else(G (((.row 0 q 0 q),([],[(.row false 5 1 (List.map enc y))]))))):At Qc 0 (Zk 0 VZ G) V4 0 31 [(0,.row 0 q 0 q),(16,.pv (enc l.t)),(17,.pv (.int .i64 l.t.length)),(18,.pv (.int .i64 i))] [.obj (.row false 5 1 (y.map enc))]:=At.to (.lit (.ask (.req (.abs (Coef) (fun YY=>AV.pv (PV.rptr (PV.cells ((enc) YY)))) (.lit (.req (.req (.abs (List UInt8) (fun YY=>AV.pv (enc YY)) (.req (.keep (.lit (.nil)))))))))) (.nil))) h (by kernel_rfl)
end Go.Pl

namespace Go.Pl
open Go.RowKit
open Enc (enc dec is)
open EncL (encL decL isL)
theorem a0e: ∀ args os,XQ args os=true->Ze M5 os.length (Zk os.length RS fun r=>r=XL 5 args os) R7 [] (ZK b6q args os):=by
 intro args os h
 unfold XQ at h
 split at h
 ·rename_i p n
  simp only[Bool.and_eq_true,decide_eq_true_eq]at h
  obtain⟨hc,hl⟩:=h
  obtain⟨x,rfl⟩:=Vk hc
  rw[Zw]at hl
  have hv:XL 5 [AV.pv (enc x),AV.pv (PV.int IntKind.i64 n)] []=(.row 0 (x++encI n).length 0 (x++encI n).length,[],[.row false 5 1 ((x++encI n).map enc)]):=by
   show(AV.row 0 (Za (enc x)++encI n).length 0 _,_,_)=_
   rw[Zw]
  rw[hv]
  refine b5o x n ⟨a5c x hl,?_⟩
  rw[Zw]
  exact⟨LU x n rfl hl,Hy (by rw[List.length_append]) (by rw[List.map_append])⟩
 ·cases h
def NJ(tb:Nat):List AV->List AObj->Bool
 | [.row 0 q 0 q',.pv (.int .i64 n)],[.row fz ty 1 xs]=>ty==tb&&Sd xs&&xs.length==q&&q'==q&&decide (q<=9000000)
 | _,_=>false
theorem b2k{pre:List AV->List AObj->Bool}{val:List AV->List AObj->AV×List AObj×List AObj}{a b:PV}{o o':AObj}{n:Nat}(h1:pre [.pv a,.pv b] []=true)(h2:val [.pv a,.pv b] []=(.row 0 n 0 n,[],[o']))(h3:o'.ren (BF [] 1)=some o'):
  (QE 1 pre val [.pv a,.pv b]).run [.obj o,.fresh]=some (.row 1 n 0 n,[.obj o,.obj o']):=by
 have H : ∀ (t:Bool) (v:AV×List AObj×List AObj),t=true->v=(.row 0 n 0 n,[],[o'])->(HM.req t (match v with
   | (x,os,ext)=>match x.ren (BF [] 1),WY (BF [] 1) os,WY (BF [] 1) ext with
    | some x',some os',some ext'=>if os'.length=([]:List Nat).length then Jq (([]:List Nat).zip os') (Jj 1 ext' (.ret x'))else .fail
    | _,_,_=>.fail)).run [.obj o,.fresh]=some (.row 1 n 0 n,[.obj o,.obj o']):=by
  rintro _ _ rfl rfl
  simp only[WY,h3]
  rfl
 exact H _ _ h1 h2
theorem a8i{pre:List AV->List AObj->Bool}{val:List AV->List AObj->AV×List AObj×List AObj}{a b:PV}{o':AObj}{n:Nat}(h1:pre [.pv a,.pv b] []=true)(h2:val [.pv a,.pv b] []=(.row 0 n 0 n,[],[o']))(h3:o'.ren (BF [] 0)=some o'):
  (QE 0 pre val [.pv a,.pv b]).run [.fresh]=some (.row 0 n 0 n,[.obj o']):=by
 have H : ∀ (t:Bool) (v:AV×List AObj×List AObj),t=true->v=(.row 0 n 0 n,[],[o'])->(HM.req t (match v with
   | (x,os,ext)=>match x.ren (BF [] 0),WY (BF [] 0) os,WY (BF [] 0) ext with
    | some x',some os',some ext'=>if os'.length=([]:List Nat).length then Jq (([]:List Nat).zip os') (Jj 0 ext' (.ret x'))else .fail
    | _,_,_=>.fail)).run [.fresh]=some (.row 0 n 0 n,[.obj o']):=by
  rintro _ _ rfl rfl
  simp only[WY,h3]
  rfl
 exact H _ _ h1 h2
theorem a7s{P:Program}{f tb:Nat}(h:Zu P f XQ (XL tb)):Zu P f (NJ tb) (Q6 tb):=by
 refine Zu.thaw h fun args os hp=> ?_
 unfold NJ at hp
 split at hp
 ·rename_i q q' n fz ty xs
  simp only[Bool.and_eq_true,decide_eq_true_eq,beq_iff_eq]at hp
  obtain⟨⟨⟨⟨rfl,hc⟩,rfl⟩,rfl⟩,hq⟩:=hp
  obtain⟨y,rfl⟩:=Ch hc
  have e2:(PV.sl 1 false (List.drop 0 (List.take (List.map (enc:UInt8->PV) y).length (List.map enc y))))=enc y:=by rw[List.take_of_length_le (Nat.le_refl _),List.drop_zero];rfl
  have hv:Q6 ty [.row 0 (List.map (enc:UInt8->PV) y).length 0 (List.map (enc:UInt8->PV) y).length,.pv (.int .i64 n)] [.row fz ty 1 (List.map enc y)]=(.row 1 (y++encI n).length 0 (y++encI n).length,[.row true ty 1 (y.map enc)],[.row false ty 1 ((y++encI n).map enc)]):=by
   show(AV.row 1 (Za (PV.sl 1 false (List.map enc y))++encI n).length 0 _,_,_)=_
   rw[show Za (PV.sl 1 false (List.map enc y))=y from Zw y]
  have hv2:XL ty [.pv (enc y),.pv (.int .i64 n)] []=(.row 0 (y++encI n).length 0 (y++encI n).length,[],[.row false ty 1 ((y++encI n).map enc)]):=by
   show(AV.row 0 (Za (enc y)++encI n).length 0 _,_,_)=_
   rw[Zw]
  rw[hv]
  refine⟨1,[enc y,.int .i64 n],[enc y,.int .i64 n],[.obj (.row true ty 1 (y.map enc)),.fresh],.row 1 (y++encI n).length 0 (y++encI n).length,[.obj (.row true ty 1 (y.map enc)),.obj (.row false ty 1 ((y++encI n).map enc))],.row 1 (y++encI n).length 0 (y++encI n).length,[.row true ty 1 (y.map enc),.row false ty 1 ((y++encI n).map enc)],VG.rfl _,?_,?_,?_,rfl⟩
  ·rw[<- e2]
   simp[Vf,frz,HM.bind,HM.run,Yb,HM.req]
  ·refine b2k ?_ hv2 rfl
   show(Jk (List UInt8) (enc y)&&decide ((Za (enc y)).length<=9000000))=true
   rw[Xk,Zw]
   rw[List.length_map]at hq
   exact decide_eq_true hq
  ·rfl
 ·cases hp
theorem a4s{P:Program}{f tb:Nat}(h:Zu P f XQ (XL tb)):Zu P f (WK tb) (Q6 tb):=by
 have h2:=a7s h
 intro args os x os' ext hp hval
 unfold WK at hp
 split at hp
 ·exact h _ _ x os' ext hp hval
 ·exact h2 _ _ x os' ext hp hval
 ·cases hp
theorem O5{tb:Nat}{x:List UInt8}(n:Int)(h:x.length<=9000000):WK tb [.pv (.sl 1 false (List.map enc x)),.pv (.int .i64 n)] []=true:=by
 show(Jk (List UInt8) (enc x)&&decide ((Za (enc x)).length<=9000000))=true
 rw[Xk,Zw];exact decide_eq_true h
theorem a5p{x:List UInt8}{q:Nat}(n:Int)(hq:x.length=q)(h:q<=9000000):WK 5 [.row 0 q 0 q,.pv (.int .i64 n)] [.row false 5 1 (x.map enc)]=true:=LU x n hq h
theorem FY{G:AV×List AObj×List AObj->Prop}(x:List UInt8)(l:Lin): ∀ (n i q:Nat) (y:List UInt8),n+i=l.t.length->l.t.length<1000000->y.length=q->(y++(l.t.drop i).flatMap XY).length<=1000000 ->
  G (.row 0 (y++(l.t.drop i).flatMap XY).length 0 (y++(l.t.drop i).flatMap XY).length,[],[.row false 5 1 ((y++(l.t.drop i).flatMap XY).map enc)]) ->
  At Qc 0 (Zk 0 VZ G) V4 0 31 [(0,.row 0 q 0 q),(16,(.pv (.sl 2 false (List.map enc (Lin.t l))))),(17,(.pv (.int .i64 (l.t.length:Int)))),(18,(.pv (.int .i64 (i:Int))))] [.obj (.row false 5 1 (y.map enc))]:=by
 intro n
 induction n with
 | zero=>
  intro i q y hn hl hq h hG
  rw[List.drop_of_length_le (by omega),List.flatMap_nil,List.append_nil,hq]at hG
  exact Nl x l y q i (Zy (by simp;omega) hG)
 | succ n ih=>
  intro i q y hn hl hq h hG
  have hi:i<l.t.length:=by omega
  have e:=Tn hi
  rw[e]at h hG
  have e1:y++(XY l.t[i]++(l.t.drop (i+1)).flatMap XY)=(y++encS l.t[i].v.s++encI l.t[i].c)++(l.t.drop (i+1)).flatMap XY:=by unfold XY;simp only[List.append_assoc]
  rw[e1]at h hG
  have h3:=ih (i+1) _ _ (by omega) hl rfl h hG
  simp only[List.length_append]at h
  have hs:l.t[i].v.s.length<=1000000:=by unfold encS at h;simp only[List.length_append]at h;omega
  have ht:List.drop 0 (List.take q (List.map (enc:UInt8->PV) y))=y.map enc:=by rw[List.take_of_length_le (by rw[List.length_map];omega),List.drop_zero]
  refine Nl x l y q i (Zx (by simp;omega) ⟨by simp[hi];rfl,?_⟩)
  rw[Int.toNat_natCast,Cw hi,next (by omega),ht]
  refine⟨l.t[i],rfl,by rw[List.length_map,hq];simp,OO y _ (by omega) hs,?_⟩
  refine YC (v:=y++encS l.t[i].v.s) (y,l.t[i].v,()) rfl rfl ⟨O5 _ (by rw[List.length_append];omega),?_⟩
  rw[Zw]
  exact h3
theorem a1w: ∀ args os,JQ args os=true->Ze Qc os.length (Zk os.length VZ fun r=>r=QX 5 args os) V4 [] (ZK b1y args os):=by
 intro args os h
 unfold JQ at h
 split at h
 ·rename_i p q
  simp only[Bool.and_eq_true,decide_eq_true_eq]at h
  obtain⟨⟨hc,hq⟩,hl⟩:=h
  obtain⟨x,rfl⟩:=Vk hc
  obtain⟨l,rfl⟩:=Vk hq
  rw[Zw,Enc.dec_enc]at hl
  have hv:QX 5 [AV.pv (enc x),AV.pv (enc l)] []=(.row 0 (x++Zd l).length 0 (x++Zd l).length,[],[.row false 5 1 ((x++Zd l).map enc)]):=by
   show(AV.row 0 (Za (enc x)++Zd (dec (enc l))).length 0 _,_,_)=_
   rw[Zw,Enc.dec_enc]
  rw[hv]
  have e:x++Zd l=x++encI l.k++encI l.t.length++(l.t.drop 0).flatMap XY:=by unfold Zd;rw[List.drop_zero];simp only[List.append_assoc]
  have h2:=Dc l.t
  have hx:=hl
  rw[e]at hl
  have h3:=FY (G:=fun r=>r=(.row 0 (x++Zd l).length 0 (x++Zd l).length,[],[.row false 5 1 ((x++Zd l).map enc)])) x l l.t.length 0 _ (x++encI l.k++encI l.t.length) rfl (by rw[List.length_append,List.drop_zero]at hl;have:=WM l.k;simp only[List.length_append]at hl;omega) rfl hl (by rw[<- e])
  simp only[List.length_append]at hl
  refine b4g x l ⟨O5 _ (by omega),?_⟩
  rw[Zw]
  refine⟨a5p _ rfl (by rw[List.length_append];omega),?_⟩
  rw[show Za (PV.sl 1 false (List.map enc (x++encI l.k)))=x++encI l.k from Zw _,List.length_map]
  exact h3
 ·cases h
theorem a8y{P:Program}{f tb:Nat}(h:Zu P f JQ (QX tb)):Zu P f WV (Jy tb):=by
 refine Zu.thaw h fun args os hp=> ?_
 unfold WV at hp
 split at hp
 ·rename_i l
  simp only[Bool.and_eq_true,decide_eq_true_eq]at hp
  obtain⟨hi,hl⟩:=hp
  have hv:Jy tb [.pv (.sl 0 true []),.pv l] []=(.row 0 (Zd (dec l)).length 0 (Zd (dec l)).length,[],[.row false tb 1 ((Zd (dec l)).map enc)]):=rfl
  rw[hv]
  have hsub:=(Enc.sub (α:=Lin) l hi).2
  generalize (dec l:Lin)=m at hsub hl ⊢
  have hv2:QX tb [.pv (enc ([]:List UInt8)),.pv (enc m)] []=(.row 0 (Zd m).length 0 (Zd m).length,[],[.row false tb 1 ((Zd m).map enc)]):=by
   show(AV.row 0 (Za (enc ([]:List UInt8))++Zd (dec (enc m))).length 0 _,_,_)=_
   rw[Zw,Enc.dec_enc];rfl
  have hs2 : ∀ Φ v,RP Φ v (.sl 0 true [])->RP Φ v (enc ([]:List UInt8)):=fun Φ v k=>RP.sub (.nil 0 1 true false (by simp)) k
  refine⟨1,[.sl 0 true [],l],[enc ([]:List UInt8),enc m],[.fresh],.row 0 (Zd m).length 0 (Zd m).length,[.obj (.row false tb 1 ((Zd m).map enc))],.row 0 (Zd m).length 0 (Zd m).length,[.row false tb 1 ((Zd m).map enc)],VG.cons hs2 (VG.cons hsub .nil),?_,a8i ?_ hv2 rfl,rfl,rfl⟩
  ·simp[Vf,frz,HM.bind,HM.run,Yb,HM.req]
  ·show(Jk (List UInt8) (enc [])&&Jk Lin (enc m)&&decide ((Za (enc ([]:List UInt8))++Zd (dec (enc m))).length<=1000000))=true
   rw[Xk,Xk,Zw,Enc.dec_enc]
   exact decide_eq_true hl
 ·cases hp
end Go.Pl

namespace Go.Pl
open Go.RowKit
open Enc (enc dec is)
open EncL (encL decL isL)
def atR(s:List UInt8)(n:Int):List UInt8:=s.drop n.toNat
end Go.Pl

namespace Go.Pl
open Go.RowKit
open Enc (enc dec is)
open EncL (encL decL isL)
set_option maxRecDepth 100000
end Go.Pl

namespace Go.Pl
open Go.RowKit
open Enc (enc dec is)
open EncL (encL decL isL)
end Go.Pl

namespace Go.Pl
open Go.RowKit
open Enc (enc dec is)
open EncL (encL decL isL)
end Go.Pl

namespace Go.Pl
open Go.RowKit
open Enc (enc dec is)
open EncL (encL decL isL)
end Go.Pl

namespace Go.Pl
open Go.RowKit
open Enc (enc dec is)
open EncL (encL decL isL)
end Go.Pl

namespace Go.Pl
open Go.RowKit
open Enc (enc dec is)
open EncL (encL decL isL)
theorem AC: ∀ l:List Coef,JR l l=0
 | []=>rfl
 | x::l=>by
  have h1 : ¬ x.v.s<x.v.s:=List.lt_irrefl _
  have h2 : ¬ x.c<x.c:=by omega
  rw[JR,if_neg (by rintro(h|⟨_,h⟩);exact h1 h;exact h2 h),if_pos rfl,AC l]
theorem Gg(l:Lin):(Qe l l==0)=true:=by
 have:Qe l l=0:=by
  simp[Qe,AC,QY]
 rw[this];rfl
end Go.Pl

namespace Go.Pl
open Go.RowKit
open Enc (enc dec is)
open EncL (encL decL isL)
theorem Ef{l:Lin}(h:(Zd l).length<=1000000):WV [.pv (.sl 0 true []),.pv (.agg [.int .i64 l.k,.sl 2 false (List.map enc l.t)])] []=true:=by
 show(is Lin (enc l)&&decide ((Zd (dec (enc l))).length<=1000000))=true
 rw[Enc.dec_enc,Enc.is_enc,decide_eq_true h];rfl
theorem Od{l:Lin}(h:C8 l 14=true):(Zd l).length<=1000:=by
 unfold C8 at h
 simp only[Bool.and_eq_true,List.all_eq_true,decide_eq_true_eq]at h
 obtain⟨h1,h2⟩:=h
 have h3 : ∀ ts:List Coef,(∀ t∈ts,t.v.s.length<=40)->(ts.flatMap XY).length<=ts.length*58:=by
  intro ts
  induction ts with
  | nil=>intro _;exact Nat.le_refl _
  | cons t ts ih=>
   intro h
   have ha:=ih fun t ht=>h t (by simp[ht])
   have hb:=h t (by simp)
   have hc:=WM t.c
   have hd:=WM t.v.s.length
   have he:(XY t).length=(encI t.v.s.length).length+t.v.s.length+(encI t.c).length:=by unfold XY encS;simp only[List.length_append]
   rw[List.flatMap_cons,List.length_append,List.length_cons,Nat.add_mul]
   omega
 have h4:=h3 l.t h1
 have h5:=WM l.k
 have h6:=WM l.t.length
 unfold Zd
 simp only[List.length_append]
 omega
theorem Ac{xs:List UInt8}{n:Nat}{ty:Nat}{e:Int}(hn:xs.length=n)(h:n<=9000000):Hm Yq Yg [.ptr 0 0] [.box [.row 1 n 0 n,.pv (.int .i64 e)],.row false ty 1 (xs.map enc)]=true:=by
 show((xs.map (enc:UInt8->PV)).length==n&&n==n&&V5 (PV.sl 1 false (xs.map enc)))=true
 rw[Yp (by omega),List.length_map,hn]
 simp
theorem c1p(a b:Lin)(h:a.t.length<=100):preT (fun(x:Lin×Lin×Unit)=>ZL (Prod.fst x)) [(.agg [(.int .i64 a.k),(.sl 2 false (List.map enc a.t))]),(.agg [(.int .i64 b.k),(.sl 2 false (List.map enc b.t))])]=true:=
 Zt (α:=Lin×Lin×Unit) (a,b,()) rfl (decide_eq_true (by show a.t.length<=_;omega))
theorem b6s{l:Lin}(h:(Zd l).length<=1000000):preT (fun(x:List UInt8×Lin×Unit)=>decide (List.length (Prod.fst x++Zd (Prod.fst (Prod.snd x)))<=1000000)) [(.sl 0 true []),(.agg [(.int .i64 l.k),(.sl 2 false (List.map enc l.t))])]=true:=by
 show(isL (List UInt8×Lin×Unit) [(.sl 0 true []),enc l]&&decide (([]++Zd (dec (enc l))).length<=1000000))=true
 rw[Enc.dec_enc,List.nil_append,decide_eq_true h,Bool.and_true]
 show(is (List UInt8) (.sl 0 true [])&&(is Lin (enc l)&&true))=true
 rw[Enc.is_enc];rfl
theorem DX(x y:List UInt8):preT (fun(x:List UInt8×List UInt8×Unit)=>true) [(.sl 1 false (List.map enc x)),(.sl 1 false (List.map enc y))]=true:=Zt (α:=List UInt8×List UInt8×Unit) (x,y,()) rfl rfl
theorem MO(l:Lin):(dec (PV.agg [enc l.k,enc l.t]):Lin)=l:=Enc.dec_enc l
theorem a9e(x:List UInt8):List.drop 0 (List.take x.length (List.map (enc:UInt8->PV) x))=x.map enc:=by rw[List.take_of_length_le (by simp),List.drop_zero]
def b7s(b:List UInt8)(G:PV->Prop):Prop:=((List.isEmpty (List.map enc b)||Enc.sz UInt8==1)=true∧((List.length ([]:List PV)==0&&0==0&&decide ((0+List.length (List.map enc b))*1<=1099511627776)&&decide (0+List.length (List.map enc b)<=1099511627776))=true∧((List.isEmpty (List.map enc b)||Enc.sz UInt8==1)=true∧((List.length ([]:List PV)==0&&0==0&&decide ((0+List.length (List.map enc b))*1<=1099511627776)&&decide (0+List.length (List.map enc b)<=1099511627776))=true∧((Hm Yq Yg [(.ptr 0 0)] [(.box [(.row 1 (0+List.length (List.map enc b)) 0 (0+List.length (List.map enc b))),(.pv (.int .i64 0))]),(.row false 5 1 (([]:List PV)++List.map enc b))])=true∧((Hm Yq Yg [(.ptr 0 0)] [(.box [(.row 1 (0+List.length (List.map enc b)) 0 (0+List.length (List.map enc b))),(.pv (.int .i64 0))]),(.row false 5 1 (([]:List PV)++List.map enc b))])=true∧((Go.Pl.preT (fun(x:Lin×Lin×Unit)=>ZL (Prod.fst x)) [(.agg [(.int .i64 (Lin.k (Prod.fst (Zb (Za (PV.sl 1 false (([]:List PV)++List.map enc b))) 0)))),(.sl 2 false (List.map enc (Lin.t (Prod.fst (Zb (Za (PV.sl 1 false (([]:List PV)++List.map enc b))) 0)))))]),(.agg [(.int .i64 (Lin.k (Prod.fst (Zb (Za (PV.sl 1 false (([]:List PV)++List.map enc b))) 0)))),(.sl 2 false (List.map enc (Lin.t (Prod.fst (Zb (Za (PV.sl 1 false (([]:List PV)++List.map enc b))) 0)))))])])=true∧(∃ y7:Bool,AV.pv (Zo (fun(x:Lin×Lin×Unit)=>Qe (Prod.fst x) (Prod.fst (Prod.snd x))==0) [(.agg [(.int .i64 (Lin.k (Prod.fst (Zb (Za (PV.sl 1 false (([]:List PV)++List.map enc b))) 0)))),(.sl 2 false (List.map enc (Lin.t (Prod.fst (Zb (Za (PV.sl 1 false (([]:List PV)++List.map enc b))) 0)))))]),(.agg [(.int .i64 (Lin.k (Prod.fst (Zb (Za (PV.sl 1 false (([]:List PV)++List.map enc b))) 0)))),(.sl 2 false (List.map enc (Lin.t (Prod.fst (Zb (Za (PV.sl 1 false (([]:List PV)++List.map enc b))) 0)))))])])=AV.pv (enc y7)∧(if (!y7)=true then G ((.bool false))else(if (Prod.snd (Prod.snd (Zb (Za (PV.sl 1 false (([]:List PV)++List.map enc b))) 0)) != Prod.snd (Prod.snd (Zb (Za (PV.sl 1 false (([]:List PV)++List.map enc b))) 0)))=true then G ((.bool false))else((Go.Pl.preT (fun(x:List UInt8×List UInt8×Unit)=>true) [(.sl 1 false (List.map enc (Prod.fst (Prod.snd (Zb (Za (PV.sl 1 false (([]:List PV)++List.map enc b))) 0))))),(.sl 1 false (List.map enc (Prod.fst (Prod.snd (Zb (Za (PV.sl 1 false (([]:List PV)++List.map enc b))) 0)))))])=true∧(∃ y8:Bool,AV.pv (Zo (fun(x:List UInt8×List UInt8×Unit)=>decide (Prod.fst x=Prod.fst (Prod.snd x))) [(.sl 1 false (List.map enc (Prod.fst (Prod.snd (Zb (Za (PV.sl 1 false (([]:List PV)++List.map enc b))) 0))))),(.sl 1 false (List.map enc (Prod.fst (Prod.snd (Zb (Za (PV.sl 1 false (([]:List PV)++List.map enc b))) 0)))))])=AV.pv (enc y8)∧(if (!y8)=true then G ((.bool false))else(if (Prod.snd (Prod.snd (Zb (Za (PV.sl 1 false (([]:List PV)++List.map enc b))) 0)) != 0)=true then G ((.bool true))else((WV [(.pv (.sl 0 true [])),(.pv (.agg [(.int .i64 (Lin.k (Prod.fst (Zb (Za (PV.sl 1 false (([]:List PV)++List.map enc b))) 0)))),(.sl 2 false (List.map enc (Lin.t (Prod.fst (Zb (Za (PV.sl 1 false (([]:List PV)++List.map enc b))) 0)))))]))] [])=true∧((List.isEmpty (List.map enc (Prod.fst (Prod.snd (Zb (Za (PV.sl 1 false (([]:List PV)++List.map enc b))) 0))))||1==1)=true∧((List.length (List.map enc (Zd (dec (PV.agg [enc (Lin.k (Prod.fst (Zb (Za (PV.sl 1 false (([]:List PV)++List.map enc b))) 0))),enc (Lin.t (Prod.fst (Zb (Za (PV.sl 1 false (([]:List PV)++List.map enc b))) 0)))]))))==List.length (Zd (dec (PV.agg [enc (Lin.k (Prod.fst (Zb (Za (PV.sl 1 false (([]:List PV)++List.map enc b))) 0))),enc (Lin.t (Prod.fst (Zb (Za (PV.sl 1 false (([]:List PV)++List.map enc b))) 0)))])))&&List.length (Zd (dec (PV.agg [enc (Lin.k (Prod.fst (Zb (Za (PV.sl 1 false (([]:List PV)++List.map enc b))) 0))),enc (Lin.t (Prod.fst (Zb (Za (PV.sl 1 false (([]:List PV)++List.map enc b))) 0)))])))==List.length (Zd (dec (PV.agg [enc (Lin.k (Prod.fst (Zb (Za (PV.sl 1 false (([]:List PV)++List.map enc b))) 0))),enc (Lin.t (Prod.fst (Zb (Za (PV.sl 1 false (([]:List PV)++List.map enc b))) 0)))])))&&decide ((List.length (Zd (dec (PV.agg [enc (Lin.k (Prod.fst (Zb (Za (PV.sl 1 false (([]:List PV)++List.map enc b))) 0))),enc (Lin.t (Prod.fst (Zb (Za (PV.sl 1 false (([]:List PV)++List.map enc b))) 0)))])))+List.length (List.map enc (Prod.fst (Prod.snd (Zb (Za (PV.sl 1 false (([]:List PV)++List.map enc b))) 0)))))*1<=1099511627776)&&decide (List.length (Zd (dec (PV.agg [enc (Lin.k (Prod.fst (Zb (Za (PV.sl 1 false (([]:List PV)++List.map enc b))) 0))),enc (Lin.t (Prod.fst (Zb (Za (PV.sl 1 false (([]:List PV)++List.map enc b))) 0)))])))+List.length (List.map enc (Prod.fst (Prod.snd (Zb (Za (PV.sl 1 false (([]:List PV)++List.map enc b))) 0))))<=1099511627776))=true∧((List.length (List.map enc (Zd (dec (PV.agg [enc (Lin.k (Prod.fst (Zb (Za (PV.sl 1 false (([]:List PV)++List.map enc b))) 0))),enc (Lin.t (Prod.fst (Zb (Za (PV.sl 1 false (([]:List PV)++List.map enc b))) 0)))])))++List.map enc (Prod.fst (Prod.snd (Zb (Za (PV.sl 1 false (([]:List PV)++List.map enc b))) 0))))==List.length (Zd (dec (PV.agg [enc (Lin.k (Prod.fst (Zb (Za (PV.sl 1 false (([]:List PV)++List.map enc b))) 0))),enc (Lin.t (Prod.fst (Zb (Za (PV.sl 1 false (([]:List PV)++List.map enc b))) 0)))])))+List.length (List.map enc (Prod.fst (Prod.snd (Zb (Za (PV.sl 1 false (([]:List PV)++List.map enc b))) 0)))))=true∧((Go.Pl.preT (fun(x:List UInt8×List UInt8×Unit)=>true) [(.sl 1 false (List.drop 0 (List.take (List.length (Zd (dec (PV.agg [enc (Lin.k (Prod.fst (Zb (Za (PV.sl 1 false (([]:List PV)++List.map enc b))) 0))),enc (Lin.t (Prod.fst (Zb (Za (PV.sl 1 false (([]:List PV)++List.map enc b))) 0)))])))+List.length (List.map enc (Prod.fst (Prod.snd (Zb (Za (PV.sl 1 false (([]:List PV)++List.map enc b))) 0))))) (List.map enc (Zd (dec (PV.agg [enc (Lin.k (Prod.fst (Zb (Za (PV.sl 1 false (([]:List PV)++List.map enc b))) 0))),enc (Lin.t (Prod.fst (Zb (Za (PV.sl 1 false (([]:List PV)++List.map enc b))) 0)))])))++List.map enc (Prod.fst (Prod.snd (Zb (Za (PV.sl 1 false (([]:List PV)++List.map enc b))) 0))))))),(.sl 1 false (List.map enc b))])=true∧(∃ y9:Bool,AV.pv (Zo (fun(x:List UInt8×List UInt8×Unit)=>decide (Prod.fst x=Prod.fst (Prod.snd x))) [(.sl 1 false (List.drop 0 (List.take (List.length (Zd (dec (PV.agg [enc (Lin.k (Prod.fst (Zb (Za (PV.sl 1 false (([]:List PV)++List.map enc b))) 0))),enc (Lin.t (Prod.fst (Zb (Za (PV.sl 1 false (([]:List PV)++List.map enc b))) 0)))])))+List.length (List.map enc (Prod.fst (Prod.snd (Zb (Za (PV.sl 1 false (([]:List PV)++List.map enc b))) 0))))) (List.map enc (Zd (dec (PV.agg [enc (Lin.k (Prod.fst (Zb (Za (PV.sl 1 false (([]:List PV)++List.map enc b))) 0))),enc (Lin.t (Prod.fst (Zb (Za (PV.sl 1 false (([]:List PV)++List.map enc b))) 0)))])))++List.map enc (Prod.fst (Prod.snd (Zb (Za (PV.sl 1 false (([]:List PV)++List.map enc b))) 0))))))),(.sl 1 false (List.map enc b))])=AV.pv (enc y9)∧(if (y9)=true then ∃ y10:Bool,AV.pv (Zo (fun(x:Lin×Lin×Unit)=>Qe (Prod.fst x) (Prod.fst (Prod.snd x))==0) [(.agg [(.int .i64 0),(.sl 2 false (List.map enc (Lin.t (Lin.mk 0 []))))]),(.agg [(.int .i64 0),(.sl 0 true [])])])=AV.pv (enc y10)∧(G ((.bool y10)))else(G ((.bool false))))))))))))))))))))))))
theorem a4b(b:List UInt8)(hb:b.length<=150):b7s b (ZB true):=by
 unfold b7s
 rw[List.nil_append,Nat.zero_add,List.length_map,Z9]
 have fT:ZB true (.bool true):=Y7 (x:=true) rfl
 have hlen:=Lt b 0
 have hback:=PX (x:=b)
 generalize Zb b 0=d at hlen hback ⊢
 obtain⟨l,r,e⟩:=d
 simp only at hlen hback ⊢
 have c0:(List.length ([]:List PV)==0&&0==0&&decide (b.length*1<=1099511627776)&&decide (b.length<=1099511627776))=true:=by simp;omega
 refine⟨Qq,c0,Qq,c0,Ac rfl (by omega),Ac rfl (by omega),c1p _ _ (by omega),YC (α:=Lin×Lin×Unit) (v:=true) (l,l,()) rfl (Gg l) (Zy (by simp) (Zy (by simp) ⟨DX _ _,YC (α:=List UInt8×List UInt8×Unit) (v:=true) (r,r,()) rfl (decide_eq_true rfl) (Zy (by simp) ?_)⟩))⟩
 by_cases he:e=0
 ·subst he
  have hx:=hback rfl
  have hl:(Zd l).length+r.length=b.length:=by rw[<- hx,List.length_append]
  refine Zy (by simp) ⟨Ef (by omega),K9,?_⟩
  rw[MO,List.length_map,List.length_map]
  rw[Aw,hx]
  refine⟨by simp;omega,by simp,DX b b,YC (α:=List UInt8×List UInt8×Unit) (v:=true) (b,b,()) rfl (decide_eq_true rfl) (Zx rfl ?_)⟩
  refine QA (F:=fun x:Lin×Lin×Unit=>Qe x.1 x.2.1==0) ((⟨0,[]⟩:Lin),(⟨0,[]⟩:Lin),()) rfl ?_
  show ZB true (.bool (Qe ⟨0,[]⟩ ⟨0,[]⟩==0))
  rw[Gg]
  exact fT
 ·exact Zx (by simpa using he) fT
theorem Eu: ∀ x:Lin×List UInt8×Unit,ZL x.1=true->Ze Pg 0 (Zg CL (ZB true)) Ap [] (Y2 a7t (encL x)):=by
 rintro⟨l,b,⟨⟩⟩ h
 have hl:ZL l=true:=h
 have fT:ZB true (.bool true):=Y7 (x:=true) rfl
 refine b7d l b (Zz () rfl (Zy (by simp) ⟨Zt (α:=Lin×Int×Unit) (l,14,()) rfl hl,YC (α:=Lin×Int×Unit) (v:=C8 l 14) (l,14,()) rfl rfl ?_⟩))
 cases hf:C8 l 14 with
 | false=>exact Zx rfl fT
 | true=>
  refine Zy (by simp) ?_
  have e2:List.length (List.map (enc:UInt8->PV) b)=b.length:=List.length_map ..
  by_cases hb:((List.map (enc:UInt8->PV) b).length:Int)>150
  ·exact Zx (decide_eq_true hb) fT
  ·refine Zy (fun e=>hb (of_decide_eq_true e)) ⟨Ef (by have:=Od hf;omega),?_⟩
   have hfl:=Od hf
   refine⟨b6s (by omega),QA (F:=fun x:List UInt8×Lin×Unit=>x.1++Zd x.2.1) (([]:List UInt8),l,()) (congrArg (fun z:Lin=>(([]:List UInt8),z,())) (Enc.dec_enc l)) ?_⟩
   have e1:List.length (List.map (enc:UInt8->PV) (Zd l))=(Zd l).length:=List.length_map ..
   have hb:b.length<=150:=by omega
   rw[MO,a9e,List.nil_append (List.map (enc:UInt8->PV) (Zd l)),e1,Nat.zero_add (Zd l).length]
   refine⟨by simp,DX _ _,YC (α:=List UInt8×List UInt8×Unit) (v:=true) (Zd l,Zd l,()) rfl (decide_eq_true rfl) (Zy (by simp) ⟨by simp,by simp;omega,Qq,by rw[e2];simp;omega,?_⟩)⟩
   rw[<- List.map_append,Z9]
   have hB:=a4b b hb
   refine⟨Ac (by rw[List.length_append,e2]) (by rw[e2];omega),Zt (α:=Lin×Unit) (l,()) rfl hl,YC (α:=Lin×Unit) (v:=Zm l) (l,()) rfl rfl ?_⟩
   cases hv:Zm l with
   | false=>exact Zy (by simp) hB
   | true=>
    rw[Fw hv b]
    refine Zx rfl (Zy (by simp) ⟨Zt (α:=Lin×Lin×Unit) (l,l,()) rfl hl,YC (α:=Lin×Lin×Unit) (v:=true) (l,l,()) rfl (Gg l) (Zy (by simp) ⟨DX b b,YC (α:=List UInt8×List UInt8×Unit) (v:=true) (b,b,()) rfl (decide_eq_true rfl) (Zy (by simp) hB)⟩)⟩)
end Go.Pl

