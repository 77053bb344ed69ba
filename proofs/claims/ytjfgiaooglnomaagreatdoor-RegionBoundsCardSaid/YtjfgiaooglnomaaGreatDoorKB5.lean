/-
  Texts of mine that belong together (packed by pack.py), for every input: GPs, TyPs, QPs, TyAw, GAw, QAw, GLp10, QRh, QRi, QRk, QRj, TyRe, TyRf, GRq, QRl, QRm, GSa, QRo.
-/
import Derived.Test.YtjfgiaooglnomaaGreatDoorKB2
import Derived.Test.YtjfgiaooglnomaaGreatDoorKB3
import Derived.Test.YtjfgiaooglnomaaGreatDoorKB4
import Derived.KernelRfl
import Derived.Lib.SlicesCompact
set_option linter.unusedVariables false
set_option linter.unusedSimpArgs false
namespace Go.Pl
open Go.RowKit
open Enc (enc dec is)
open EncL (encL decL isL)
set_option maxRecDepth 100000
def YK:IC:=(.seq (.reg [⟨(some 3),(.box 2 (.t 0)),0,none⟩,⟨(some 5),(.box 1 (.t 2)),1,none⟩,⟨(some 6),(.alloc (.int .i64 0)),2,none⟩,⟨(some 7),(.alloc (.int .i64 0)),3,none⟩] none) (.seq (.seq (.reg [⟨(some 19),(.load true [(.sl 1),(.int .i64)] (.t 3)),0,none⟩,⟨(some 20),(.mv (.t 1)),0,none⟩,⟨(some 21),(.load false [(.sl 2)] (.t 5)),0,none⟩,⟨(some 22),(.call (.c (.fn 122)) [(.t 21)]),0,none⟩,⟨(some 23),(.load false [(.sl 2)] (.t 5)),2,none⟩,⟨(some 24),(.call (.c (.fn 123)) [(.t 23)]),2,none⟩,⟨(some 25),(.call (.c (.fn 116)) [(.t 19),(.t 20),(.t 22),(.t 24)]),4,none⟩,⟨(some 8),(.mv (.t 25)),6,none⟩] (some [[],[],[],[2],[],[4,3,2],[0,1,3,5,2,4],[6,0,1,2,3,4,5]])) (.seq (.reg [⟨(some 26),(.mv (.t 8)),0,none⟩,⟨(some 27),(.bin .num .neq (.t 26) (.c (.int .i64 0))),0,none⟩] none) (.cond (.t 27) (.seq (.reg [⟨(some 28),(.mv (.t 8)),0,none⟩,⟨none,(.store 1 (.t 6) (.c (.int .i64 0))),0,none⟩,⟨none,(.store 1 (.t 7) (.t 28)),0,none⟩] none) .ret) .skip))) (.seq (.reg [⟨(some 9),(.alloc (.sl 0 true [])),0,none⟩,⟨(some 10),(.alloc (.sl 0 true [])),1,none⟩] none) (.seq (.reg [⟨(some 29),(.mkfn 124 [] [(.t 9),(.t 10)]),0,none⟩,⟨(some 11),(.alloc .nilfn),0,none⟩,⟨none,(.store 1 (.t 11) (.t 29)),1,none⟩] none) (.seq (.seq (.reg [⟨(some 30),(.load true [(.sl 1),(.int .i64)] (.t 3)),0,none⟩,⟨(some 31),(.mv (.t 1)),0,none⟩,⟨(some 32),(.call (.c (.fn 117)) [(.t 30),(.t 31)]),0,none⟩] none) (.block 0 (.ext 0 [32,34,5,13,36,37,38,35,39,40,15,41,42,6,7,11,14,43,44,9,10]))) (.seq (.reg [⟨(some 16),(.mv (.c (.int .i64 0))),0,none⟩,⟨(some 17),(.mv (.c (.int .i64 0))),0,none⟩] none) (.seq (.seq (.reg [⟨(some 46),(.load false [(.sl 1)] (.t 9)),0,none⟩,⟨(some 47),(.len 1 (.t 46)),0,none⟩,⟨(some 48),(.mv (.c (.int .i64 0))),0,none⟩] none) (.block 2 (.loop [48,47,16,9,17,10,6,7] (.seq (.reg [⟨(some 49),(.bin .num .lss (.t 48) (.t 47)),0,none⟩] none) (.seq (.cond (.t 49) .skip (.exit 2)) (.seq (.block 3 (.seq (.reg [⟨(some 50),(.mv (.t 48)),0,none⟩,⟨(some 18),(.mv (.t 50)),0,none⟩] none) (.reg [⟨(some 51),(.mv (.t 16)),0,none⟩,⟨(some 52),(.load false [(.sl 1)] (.t 9)),0,none⟩,⟨(some 53),(.mv (.t 18)),0,none⟩,⟨(some 54),(.iaddr 1 (.t 52) (.t 53)),0,none⟩,⟨(some 55),(.load false [(.int .i64)] (.t 54)),0,none⟩,⟨(some 56),(.bin .num .add (.t 51) (.t 55)),0,none⟩,⟨(some 57),(.mv (.t 17)),0,none⟩,⟨(some 58),(.load false [(.sl 1)] (.t 10)),0,none⟩,⟨(some 59),(.mv (.t 18)),0,none⟩,⟨(some 60),(.iaddr 1 (.t 58) (.t 59)),0,none⟩,⟨(some 61),(.load false [(.int .i64)] (.t 60)),0,none⟩,⟨(some 62),(.bin .num .add (.t 57) (.t 61)),0,none⟩,⟨(some 16),(.mv (.t 56)),0,none⟩,⟨(some 17),(.mv (.t 62)),0,none⟩] (some [[],[],[],[1,2],[3,1,2],[0,4,3,1,2],[],[],[],[7,8],[9,7,8],[6,10,9,7,8],[5,0,1,2,3,4],[11,12,0,1,2,3,4,5,6,7,8,9,10]])))) (.reg [⟨(some 63),(.bin .num .add (.t 48) (.c (.int .i64 1))),0,none⟩,⟨(some 48),(.mv (.t 63)),0,none⟩] none))))))) (.seq (.reg [⟨(some 64),(.mv (.t 16)),0,none⟩,⟨(some 65),(.mv (.t 17)),0,none⟩,⟨(some 66),(.bin .num .shr (.t 65) (.c (.int .u64 31))),0,none⟩,⟨(some 67),(.bin .num .add (.t 64) (.t 66)),0,none⟩,⟨(some 68),(.mv (.t 17)),0,none⟩,⟨(some 69),(.bin .num .and (.t 68) (.c (.int .i64 2147483647))),0,none⟩,⟨(some 16),(.mv (.t 67)),0,none⟩,⟨(some 17),(.mv (.t 69)),0,none⟩] none) (.seq (.reg [⟨(some 70),(.mv (.t 16)),0,none⟩,⟨(some 71),(.mv (.t 17)),0,none⟩,⟨(some 72),(.bslice 3 1 2 (.int .i64 0) [(0,(.t 70)),(1,(.t 71))]),0,none⟩,⟨(some 73),(.bslice 3 1 2 (.int .i64 0) [(0,(.c (.int .i64 2147483648))),(1,(.c (.int .i64 1)))]),1,none⟩,⟨(some 74),(.call (.c (.fn 126)) [(.t 72),(.t 73)]),2,none⟩,⟨(some 75),(.extract (.t 74) 0),4,none⟩,⟨(some 76),(.extract (.t 74) 1),4,none⟩,⟨none,(.store 1 (.t 6) (.t 75)),4,none⟩,⟨none,(.store 1 (.t 7) (.t 76)),4,none⟩] none) .ret)))))))))
def Y1:List IRes:=[(.cell false 1 6),(.cell false 1 7)]
abbrev b2d:Nat:=77
def YJ:ZE:=Xg [(122,.pure (preT (fun x:List Mono×Unit=>Yg x.1)) (Zf (fun x:List Mono×Unit=>Z9 x.1))),(123,.own K7 CG),(116,.pure (preT (fun x:BoxT×List Fact×Bool×NilS×Unit=>ZT x.1&&Zp x.2.1&&decide (x.2.1.length<=100))) (Zf (fun x:BoxT×List Fact×Bool×NilS×Unit=>Zo x.1 x.2.1 x.2.2.1 []))),(117,.own Yx Xm),(125,.pure (preT (fun x:List Mono×List Coef×Unit=>Yg x.1&&Zx x.2.1)) (Zf (fun x:List Mono×List Coef×Unit=>YR x.1 x.2.1))),(124,.own Uu U7),(126,.pure (preT (fun x:List Int×List Int×Unit=>decide (x.1.length<=10000)&&decide (x.2.1.length<=10000))) (Zf (fun x:List Int×List Int×Unit=>Dn x.1 x.2.1)))]
theorem b8r{G:PV->Prop}(E:Yl)(b:BoxT)(fs:List Fact)(p:List Mono)(h:(Go.Pl.preT (fun(x:List Mono×Unit)=>Yg x.1) [(.sl 2 false (List.map enc p))])=true∧(∃ y0:Bool,AV.pv (Zf (fun(x:List Mono×Unit)=>Z9 x.1) [(.sl 2 false (List.map enc p))])=AV.pv (enc y0)∧((K7 [(.pv (.sl 2 false (List.map enc p)))] [])=true∧((Go.Pl.preT (fun(x:BoxT×List Fact×Bool×NilS×Unit)=>ZT x.1&&Zp x.2.1&&decide (List.length x.2.1<=100)) [(.agg [(.sl 1 false (List.map enc b.v)),(.int .i64 b.m)]),(.sl 3 false (List.map enc fs)),(.bool y0),(.sl 0 true [])])=true∧(∃ y1:Int,AV.pv (Zf (fun(x:BoxT×List Fact×Bool×NilS×Unit)=>Zo x.1 x.2.1 x.2.2.1 []) [(.agg [(.sl 1 false (List.map enc b.v)),(.int .i64 b.m)]),(.sl 3 false (List.map enc fs)),(.bool y0),(.sl 0 true [])])=AV.pv (enc y1)∧(if (y1 != 0)=true then G ((.tup [(.int .i64 0),(.int .i64 y1)]))else((Yx [(.pv (.agg [(.sl 1 false (List.map enc b.v)),(.int .i64 b.m)])),(.pv (.sl 3 false (List.map enc fs)))] [])=true∧(E 0 ⟨ZF 77 0 [(5,(.ptr 0 0)),(6,(.ptr 1 0)),(7,(.ptr 2 0)),(9,(.ptr 3 0)),(10,(.ptr 4 0)),(11,(.ptr 5 0)),(13,.undef),(14,.undef),(15,.undef),(32,(.fn 177 [] [(.ptr 6 0),(.ptr 7 0)])),(34,.undef),(35,.undef),(36,.undef),(37,.undef),(38,.undef),(39,.undef),(40,.undef),(41,.undef),(42,.undef),(43,.undef),(44,.undef)],[(.obj (.box [(.pv (.sl 2 false (List.map enc p)))])),(.obj (.box [(.pv (.int .i64 0))])),(.obj (.box [(.pv (.int .i64 0))])),(.obj (.box [(.pv (.sl 0 true []))])),(.obj (.box [(.pv (.sl 0 true []))])),(.obj (.box [(.fn 124 [] [(.ptr 3 0),(.ptr 4 0)])])),(.obj (.box [(.pv (.sl 1 false (List.map enc b.v))),(.pv (.int .i64 b.m))])),(.obj (.box [(.pv (.sl 3 false (List.map enc fs)))]))]⟩ (fun x S'=>QL YJ E 0 (Za Y1 G) YK 0 x S'))))))))):Zv YJ E 0 (Za Y1 G) (.inl YK) [] (Yz 77 [enc b,enc fs,enc p]):=Zv.mp (.req (.abs (Bool) (fun YY=>AV.pv (enc YY)) (.req (.keep (.req (.abs (Int) (fun YY=>AV.pv (enc YY)) (.lit (.ask (.nil) (.req (.keep (.nil))))))))))) h (by kernel_rfl)
theorem a6o{G:PV->Prop}(E:Yl)(b:BoxT)(fs:List Fact)(p:List Mono)(h : ∃ y0:Int×Int,AV.pv (Zf (fun(x:List Int×List Int×Unit)=>Dn x.1 x.2.1) [(.sl 1 false [(.int .i64 0),(.int .i64 0)]),(.sl 1 false [(.int .i64 2147483648),(.int .i64 1)])])=AV.pv (enc y0)∧(G ((.tup [(.int .i64 y0.1),(.int .i64 y0.2)])))):AtM YJ E 0 (Za Y1 G) YK 0 77 [(6,.ptr 0 0),(7,.ptr 1 0),(9,.ptr 2 0),(10,.ptr 3 0),(16,.pv (.int .i64 0)),(17,.pv (.int .i64 0)),(47,.pv (.int .i64 0)),(48,.pv (.int .i64 0))] [.obj (.box [.pv (.int .i64 0)]),.obj (.box [.pv (.int .i64 0)]),.obj (.box [.pv (.sl 0 true [])]),.obj (.box [.pv (.sl 0 true [])])]:=Zv.mp (.lit (.lit (.lit (.lit (.lit (.lit (.lit (.lit (.lit (.lit (.abs (Int×Int) (fun YY=>AV.pv (enc YY)) (.nil)))))))))))) h (by kernel_rfl)
theorem SS{G:PV->Prop}(E:Yl)(b:BoxT)(fs:List Fact)(p:List Mono)(u z i:Int)(n:Nat)(xs ys:List Int)(h:if (decide (i<(↑n:Int)))=true then(decide (0<=i)&&decide (0+Int.toNat i<n)&&List.length (List.map enc xs)==n)=true∧((List.length (List.map enc xs)==n&&decide (0+Int.toNat i<List.length (List.map enc xs)))=true∧((decide (0+List.length [Sh.int .i64]<=List.length (PV.cells (List.getD (List.map enc xs) (0+Int.toNat i) default)))&&WA (PV.cells (List.getD (List.map enc xs) (0+Int.toNat i) default)) 0 [Sh.int .i64])=true∧((decide (0<=i)&&decide (0+Int.toNat i<n)&&List.length (List.map enc ys)==n)=true∧((List.length (List.map enc ys)==n&&decide (0+Int.toNat i<List.length (List.map enc ys)))=true∧((decide (0+List.length [Sh.int .i64]<=List.length (PV.cells (List.getD (List.map enc ys) (0+Int.toNat i) default)))&&WA (PV.cells (List.getD (List.map enc ys) (0+Int.toNat i) default)) 0 [Sh.int .i64])=true∧(AtM YJ E 0 (Za Y1 G) YK 0 77 [(6,(.ptr 0 0)),(7,(.ptr 1 0)),(9,(.ptr 2 0)),(10,(.ptr 3 0)),(16,(.pv (.int .i64 (IntKind.wrap IntKind.i64 (u+PV.asInt (List.getD (PV.cells (List.getD (List.map enc xs) (0+Int.toNat i) default)) 0 default)))))),(17,(.pv (.int .i64 (IntKind.wrap IntKind.i64 (z+PV.asInt (List.getD (PV.cells (List.getD (List.map enc ys) (0+Int.toNat i) default)) 0 default)))))),(47,(.pv (.int .i64 (↑n:Int)))),(48,(.pv (.int .i64 (IntKind.wrap IntKind.i64 (i+1)))))] [(.obj (.box [(.pv (.int .i64 0))])),(.obj (.box [(.pv (.int .i64 0))])),(.obj (.box [(.row 4 n 0 n)])),(.obj (.box [(.row 5 n 0 n)])),(.obj (.row false 3 1 (List.map enc xs))),(.obj (.row false 3 1 (List.map enc ys)))]))))))else(∃ y0:Int×Int,AV.pv (Zf (fun(x:List Int×List Int×Unit)=>Dn x.1 x.2.1) [(.sl 1 false [(.int .i64 (IntKind.wrap IntKind.i64 (u+Int.fdiv z (2 ^ min (Int.toNat 31) (IntKind.bits IntKind.i64))))),(.int .i64 (IntKind.wrap IntKind.i64 (↑(BitVec.toNat (BitVec.ofInt (IntKind.bits IntKind.i64) z &&& BitVec.ofInt (IntKind.bits IntKind.i64) 2147483647)):Int)))]),(.sl 1 false [(.int .i64 2147483648),(.int .i64 1)])])=AV.pv (enc y0)∧(G ((.tup [(.int .i64 y0.1),(.int .i64 y0.2)]))))):AtM YJ E 0 (Za Y1 G) YK 0 77 [(6,.ptr 0 0),(7,.ptr 1 0),(9,.ptr 2 0),(10,.ptr 3 0),(16,.pv (.int .i64 u)),(17,.pv (.int .i64 z)),(47,.pv (.int .i64 n)),(48,.pv (.int .i64 i))] [.obj (.box [.pv (.int .i64 0)]),.obj (.box [.pv (.int .i64 0)]),.obj (.box [.row 4 n 0 n]),.obj (.box [.row 5 n 0 n]),.obj (.row false 3 1 (xs.map enc)),.obj (.row false 3 1 (ys.map enc))]:=Zv.mp (.lit (.ask (.req (.keep (.req (.req (.lit (.req (.keep (.req (.req (.lit (.lit (.nil)))))))))))) (.lit (.lit (.lit (.lit (.lit (.lit (.lit (.lit (.abs (Int×Int) (fun YY=>AV.pv (enc YY)) (.nil)))))))))))) h (by kernel_rfl)
theorem a5h{G:PV->Prop}(E:Yl)(b:BoxT)(fs:List Fact)(p:List Mono)(h:AtM YJ E 0 (Za Y1 G) YK 0 77 [(6,(.ptr 0 0)),(7,(.ptr 1 0)),(9,(.ptr 2 0)),(10,(.ptr 3 0)),(16,(.pv (.int .i64 0))),(17,(.pv (.int .i64 0))),(47,(.pv (.int .i64 0))),(48,(.pv (.int .i64 0)))] [(.obj (.box [(.pv (.int .i64 0))])),(.obj (.box [(.pv (.int .i64 0))])),(.obj (.box [(.pv (.sl 0 true []))])),(.obj (.box [(.pv (.sl 0 true []))]))]):QL YJ E 0 (Za Y1 G) YK 0 .normal ⟨ZF 77 0 [(5,.ptr 0 0),(6,.ptr 1 0),(7,.ptr 2 0),(9,.ptr 3 0),(10,.ptr 4 0),(11,.ptr 5 0)],[.obj (.box [.pv (enc p)]),.obj (.box [.pv (.int .i64 0)]),.obj (.box [.pv (.int .i64 0)]),.obj (.box [.pv (.sl 0 true [])]),.obj (.box [.pv (.sl 0 true [])]),.obj (.box [.fn 124 [] [.ptr 3 0,.ptr 4 0]])]⟩:=Zv.mp (.nil) h (by kernel_rfl)
theorem a5i{G:PV->Prop}(E:Yl)(b:BoxT)(fs:List Fact)(p:List Mono)(n:Nat)(xs ys:List Int)(h:AtM YJ E 0 (Za Y1 G) YK 0 77 [(6,(.ptr 0 0)),(7,(.ptr 1 0)),(9,(.ptr 2 0)),(10,(.ptr 3 0)),(16,(.pv (.int .i64 0))),(17,(.pv (.int .i64 0))),(47,(.pv (.int .i64 (↑(n - 0):Int)))),(48,(.pv (.int .i64 0)))] [(.obj (.box [(.pv (.int .i64 0))])),(.obj (.box [(.pv (.int .i64 0))])),(.obj (.box [(.row 4 n 0 n)])),(.obj (.box [(.row 5 n 0 n)])),(.obj (.row false 3 1 (List.map enc xs))),(.obj (.row false 3 1 (List.map enc ys)))]):QL YJ E 0 (Za Y1 G) YK 0 .normal ⟨ZF 77 0 [(5,.ptr 0 0),(6,.ptr 1 0),(7,.ptr 2 0),(9,.ptr 3 0),(10,.ptr 4 0),(11,.ptr 5 0)],[.obj (.box [.pv (enc p)]),.obj (.box [.pv (.int .i64 0)]),.obj (.box [.pv (.int .i64 0)]),.obj (.box [.row 6 n 0 n]),.obj (.box [.row 7 n 0 n]),.obj (.box [.fn 124 [] [.ptr 3 0,.ptr 4 0]]),.obj (.row false 3 1 (xs.map enc)),.obj (.row false 3 1 (ys.map enc))]⟩:=Zv.mp (.nil) h (by kernel_rfl)
theorem Ev{G:PV->Prop}(E:Yl)(b:BoxT)(fs:List Fact)(p:List Mono)(h:G ((.tup [(.int .i64 0),(.int .i64 2)]))):QL YJ E 0 (Za Y1 G) YK 0 .ret ⟨ZF 77 0 [(5,.ptr 0 0),(6,.ptr 1 0),(7,.ptr 2 0),(9,.ptr 3 0),(10,.ptr 4 0),(11,.ptr 5 0)],[.obj (.box [.pv (enc p)]),.obj (.box [.pv (.int .i64 0)]),.obj (.box [.pv (.int .i64 2)]),.obj (.box [.pv (.sl 0 true [])]),.obj (.box [.pv (.sl 0 true [])]),.obj (.box [.fn 124 [] [.ptr 3 0,.ptr 4 0]]),.fresh,.fresh]⟩:=Zv.mp (.nil) h (by kernel_rfl)
theorem OY{G:PV->Prop}(E:Yl)(b:BoxT)(fs:List Fact)(p:List Mono)(n:Nat)(xs ys:List Int)(h:G ((.tup [(.int .i64 0),(.int .i64 2)]))):QL YJ E 0 (Za Y1 G) YK 0 .ret ⟨ZF 77 0 [(5,.ptr 0 0),(6,.ptr 1 0),(7,.ptr 2 0),(9,.ptr 3 0),(10,.ptr 4 0),(11,.ptr 5 0)],[.obj (.box [.pv (enc p)]),.obj (.box [.pv (.int .i64 0)]),.obj (.box [.pv (.int .i64 2)]),.obj (.box [.row 6 n 0 n]),.obj (.box [.row 7 n 0 n]),.obj (.box [.fn 124 [] [.ptr 3 0,.ptr 4 0]]),.obj (.row false 3 1 (xs.map enc)),.obj (.row false 3 1 (ys.map enc)),.fresh,.fresh]⟩:=Zv.mp (.nil) h (by kernel_rfl)
def Vj:IC:=(.block 1 (.seq (.reg [⟨(some 36),(.load false [(.sl 2)] (.t 5)),0,none⟩,⟨(some 37),(.mv (.t 13)),0,none⟩,⟨(some 38),(.call (.c (.fn 125)) [(.t 36),(.t 37)]),0,none⟩,⟨(some 35),(.mv (.t 38)),2,none⟩,⟨(some 39),(.extract (.t 35) 0),2,none⟩,⟨(some 40),(.extract (.t 35) 1),2,none⟩,⟨(some 14),(.mv (.t 39)),2,none⟩,⟨(some 15),(.mv (.t 40)),2,none⟩] none) (.seq (.seq (.reg [⟨(some 41),(.mv (.t 15)),0,none⟩,⟨(some 42),(.bin .num .neq (.t 41) (.c (.int .i64 0))),0,none⟩] none) (.cond (.t 42) (.seq (.reg [⟨none,(.store 1 (.t 6) (.c (.int .i64 0))),0,none⟩,⟨none,(.store 1 (.t 7) (.c (.int .i64 2))),0,none⟩] none) .ret) .skip)) (.reg [⟨(some 43),(.load false [.any] (.t 11)),0,none⟩,⟨(some 44),(.mv (.t 14)),0,none⟩,⟨(some 45),(.call (.t 43) [(.t 44)]),0,none⟩] none))))
def Cb:ZE:=Xg [(122,.pure (preT (fun x:List Mono×Unit=>Yg x.1)) (Zf (fun x:List Mono×Unit=>Z9 x.1))),(123,.own K7 CG),(116,.pure (preT (fun x:BoxT×List Fact×Bool×NilS×Unit=>ZT x.1&&Zp x.2.1&&decide (x.2.1.length<=100))) (Zf (fun x:BoxT×List Fact×Bool×NilS×Unit=>Zo x.1 x.2.1 x.2.2.1 []))),(117,.own Yx Xm),(125,.pure (preT (fun x:List Mono×List Coef×Unit=>Yg x.1&&Zx x.2.1)) (Zf (fun x:List Mono×List Coef×Unit=>YR x.1 x.2.1))),(124,.own Uu U7),(126,.pure (preT (fun x:List Int×List Int×Unit=>decide (x.1.length<=10000)&&decide (x.2.1.length<=10000))) (Zf (fun x:List Int×List Int×Unit=>Dn x.1 x.2.1)))]
theorem a9z{G:Zu->Prop}(E:Yl)(p:List Mono)(q:List Int)(vs:List Coef)(h:(Go.Pl.preT (fun(x:List Mono×List Coef×Unit)=>Yg x.1&&Zx x.2.1) [(.sl 2 false (List.map enc p)),(.sl 2 false (List.map enc vs))])=true∧(∃ y0:Int×Int,AV.pv (Zf (fun(x:List Mono×List Coef×Unit)=>YR x.1 x.2.1) [(.sl 2 false (List.map enc p)),(.sl 2 false (List.map enc vs))])=AV.pv (enc y0)∧(if (y0.2 != 0)=true then G ([(.obj (.box [(.pv (.sl 2 false (List.map enc p)))])),(.obj (.box [(.pv (.int .i64 0))])),(.obj (.box [(.pv (.int .i64 2))])),(.obj (.box [(.pv (.sl 0 true []))])),(.obj (.box [(.pv (.sl 0 true []))])),(.obj (.box [(.fn 124 [] [(.ptr 3 0),(.ptr 4 0)])])),.fresh,.fresh])else(E 99 ⟨ZF 77 0 [],[(.obj (.box [(.pv (.sl 2 false (List.map enc p)))])),(.obj (.box [(.pv (.int .i64 0))])),(.obj (.box [(.pv (.int .i64 0))])),(.obj (.box [(.row 6 1 0 1)])),(.obj (.box [(.row 7 1 0 1)])),(.obj (.box [(.fn 124 [] [(.ptr 3 0),(.ptr 4 0)])])),(.obj (.row false 3 1 [(.int .i64 (Wu y0.1))])),(.obj (.row false 3 1 [(.int .i64 (XY y0.1))]))]⟩ (fun x S'=>QL Cb E 6 (fun st=>G st.heap) Vj 99 x S'))))):Zv Cb E 6 (fun st=>G st.heap) (.inl Vj) [.seq (.ext 99 [])] ⟨ZF 77 0 [(5,.ptr 0 0),(6,.ptr 1 0),(7,.ptr 2 0),(9,.ptr 3 0),(10,.ptr 4 0),(11,.ptr 5 0),(13,.pv (enc vs)),(33,.pv (enc q)),(34,.pv (enc vs))],[.obj (.box [.pv (enc p)]),.obj (.box [.pv (.int .i64 0)]),.obj (.box [.pv (.int .i64 0)]),.obj (.box [.pv (.sl 0 true [])]),.obj (.box [.pv (.sl 0 true [])]),.obj (.box [.fn 124 [] [.ptr 3 0,.ptr 4 0]])]⟩:=Zv.mh (.req (.abs (Int×Int) (fun YY=>AV.pv (enc YY)) (.lit (.ask (.nil) (.lit (.keep (.nil))))))) h (by kernel_rfl)
theorem b5j{G:Zu->Prop}(E:Yl)(p:List Mono)(q:List Int)(vs:List Coef)(n:Nat)(xs ys:List Int)(h:(Go.Pl.preT (fun(x:List Mono×List Coef×Unit)=>Yg x.1&&Zx x.2.1) [(.sl 2 false (List.map enc p)),(.sl 2 false (List.map enc vs))])=true∧(∃ y0:Int×Int,AV.pv (Zf (fun(x:List Mono×List Coef×Unit)=>YR x.1 x.2.1) [(.sl 2 false (List.map enc p)),(.sl 2 false (List.map enc vs))])=AV.pv (enc y0)∧(if (y0.2 != 0)=true then G ([(.obj (.box [(.pv (.sl 2 false (List.map enc p)))])),(.obj (.box [(.pv (.int .i64 0))])),(.obj (.box [(.pv (.int .i64 2))])),(.obj (.box [(.row 6 n 0 n)])),(.obj (.box [(.row 7 n 0 n)])),(.obj (.box [(.fn 124 [] [(.ptr 3 0),(.ptr 4 0)])])),(.obj (.row false 3 1 (List.map enc xs))),(.obj (.row false 3 1 (List.map enc ys))),.fresh,.fresh])else((Uu [(.pv (.int .i64 y0.1)),(.ptr 0 0),(.ptr 1 0)] [(.box [(.row 2 n 0 n)]),(.box [(.row 3 n 0 n)]),(.row false 3 1 (List.map enc xs)),(.row false 3 1 (List.map enc ys))])=true∧(E 99 ⟨ZF 77 0 [],[(.obj (.box [(.pv (.sl 2 false (List.map enc p)))])),(.obj (.box [(.pv (.int .i64 0))])),(.obj (.box [(.pv (.int .i64 0))])),(.obj (.box [(.row 6 (n+1) 0 (n+1))])),(.obj (.box [(.row 7 (n+1) 0 (n+1))])),(.obj (.box [(.fn 124 [] [(.ptr 3 0),(.ptr 4 0)])])),(.obj (.row false 3 1 (List.map enc xs++[PV.int .i64 (Wu y0.1)]))),(.obj (.row false 3 1 (List.map enc ys++[PV.int .i64 (XY y0.1)])))]⟩ (fun x S'=>QL Cb E 8 (fun st=>G st.heap) Vj 99 x S')))))):Zv Cb E 8 (fun st=>G st.heap) (.inl Vj) [.seq (.ext 99 [])] ⟨ZF 77 0 [(5,.ptr 0 0),(6,.ptr 1 0),(7,.ptr 2 0),(9,.ptr 3 0),(10,.ptr 4 0),(11,.ptr 5 0),(13,.pv (enc vs)),(33,.pv (enc q)),(34,.pv (enc vs))],[.obj (.box [.pv (enc p)]),.obj (.box [.pv (.int .i64 0)]),.obj (.box [.pv (.int .i64 0)]),.obj (.box [.row 6 n 0 n]),.obj (.box [.row 7 n 0 n]),.obj (.box [.fn 124 [] [.ptr 3 0,.ptr 4 0]]),.obj (.row false 3 1 (xs.map enc)),.obj (.row false 3 1 (ys.map enc))]⟩:=Zv.mh (.req (.abs (Int×Int) (fun YY=>AV.pv (enc YY)) (.lit (.ask (.nil) (.req (.keep (.nil))))))) h (by kernel_rfl)
def YZ:IC:=YK
def YV:List IRes:=[(.cell false 1 6),(.cell false 1 7)]
abbrev b3z:Nat:=77
def YH:ZE:=Xg [(122,.pure (preT (fun x:List Mono×Unit=>Yg x.1)) (Zf (fun x:List Mono×Unit=>Z9 x.1))),(123,.own U8 PR),(116,.own WN Uy),(117,.own Yx Xm),(125,.pure (preT (fun x:List Mono×List Coef×Unit=>Yg x.1&&Zx x.2.1)) (Zf (fun x:List Mono×List Coef×Unit=>YR x.1 x.2.1))),(124,.own Uu U7),(126,.pure (preT (fun x:List Int×List Int×Unit=>decide (x.1.length<=10000)&&decide (x.2.1.length<=10000))) (Zf (fun x:List Int×List Int×Unit=>Dn x.1 x.2.1)))]
theorem c1r{G:PV->Prop}(E:Yl)(b:BoxT)(fs:List Fact)(p:List Mono)(h:(Go.Pl.preT (fun(x:List Mono×Unit)=>Yg x.1) [(.sl 2 false (List.map enc p))])=true∧(∃ y0:Bool,AV.pv (Zf (fun(x:List Mono×Unit)=>Z9 x.1) [(.sl 2 false (List.map enc p))])=AV.pv (enc y0)∧((U8 [(.pv (.sl 2 false (List.map enc p)))] [])=true∧((WN [(.pv (.agg [(.sl 1 false (List.map enc b.v)),(.int .i64 b.m)])),(.pv (.sl 3 false (List.map enc fs))),(.pv (.bool y0)),(.row 0 (List.length (Yy (Ui (enc p)))) 0 (List.length (Yy (Ui (enc p)))))] [(.row false 9 1 (List.map enc (Yy (Ui (enc p)))))])=true∧(if (Zo (Rx (PV.agg [enc b.v,enc b.m])) (Hy (enc fs)) y0 (QZ (List.map enc (Yy (Ui (enc p))))) != 0)=true then G ((.tup [(.int .i64 0),(.int .i64 (Zo (Rx (PV.agg [enc b.v,enc b.m])) (Hy (enc fs)) y0 (QZ (List.map enc (Yy (Ui (enc p)))))))]))else((Yx [(.pv (.agg [(.sl 1 false (List.map enc b.v)),(.int .i64 b.m)])),(.pv (.sl 3 false (List.map enc fs)))] [])=true∧(E 0 ⟨ZF 77 0 [(5,(.ptr 0 0)),(6,(.ptr 1 0)),(7,(.ptr 2 0)),(9,(.ptr 3 0)),(10,(.ptr 4 0)),(11,(.ptr 5 0)),(13,.undef),(14,.undef),(15,.undef),(32,(.fn 177 [] [(.ptr 6 0),(.ptr 7 0)])),(34,.undef),(35,.undef),(36,.undef),(37,.undef),(38,.undef),(39,.undef),(40,.undef),(41,.undef),(42,.undef),(43,.undef),(44,.undef)],[(.obj (.box [(.pv (.sl 2 false (List.map enc p)))])),(.obj (.box [(.pv (.int .i64 0))])),(.obj (.box [(.pv (.int .i64 0))])),(.obj (.box [(.pv (.sl 0 true []))])),(.obj (.box [(.pv (.sl 0 true []))])),(.obj (.box [(.fn 124 [] [(.ptr 3 0),(.ptr 4 0)])])),(.obj (.box [(.pv (.sl 1 false (List.map enc b.v))),(.pv (.int .i64 b.m))])),(.obj (.box [(.pv (.sl 3 false (List.map enc fs)))]))]⟩ (fun x S'=>QL YH E 0 (Za YV G) YZ 0 x S')))))))):Zv YH E 0 (Za YV G) (.inl YZ) [] (Yz 77 [enc b,enc fs,enc p]):=Zv.mp (.req (.abs (Bool) (fun YY=>AV.pv (enc YY)) (.req (.keep (.req (.keep (.lit (.ask (.nil) (.req (.keep (.nil))))))))))) h (by kernel_rfl)
theorem a5e{G:PV->Prop}(E:Yl)(b:BoxT)(fs:List Fact)(p:List Mono)(h : ∃ y0:Int×Int,AV.pv (Zf (fun(x:List Int×List Int×Unit)=>Dn x.1 x.2.1) [(.sl 1 false [(.int .i64 0),(.int .i64 0)]),(.sl 1 false [(.int .i64 2147483648),(.int .i64 1)])])=AV.pv (enc y0)∧(G ((.tup [(.int .i64 y0.1),(.int .i64 y0.2)])))):AtM YH E 0 (Za YV G) YZ 0 77 [(6,.ptr 0 0),(7,.ptr 1 0),(9,.ptr 2 0),(10,.ptr 3 0),(16,.pv (.int .i64 0)),(17,.pv (.int .i64 0)),(47,.pv (.int .i64 0)),(48,.pv (.int .i64 0))] [.obj (.box [.pv (.int .i64 0)]),.obj (.box [.pv (.int .i64 0)]),.obj (.box [.pv (.sl 0 true [])]),.obj (.box [.pv (.sl 0 true [])])]:=Zv.mp (.lit (.lit (.lit (.lit (.lit (.lit (.lit (.lit (.lit (.lit (.abs (Int×Int) (fun YY=>AV.pv (enc YY)) (.nil)))))))))))) h (by kernel_rfl)
theorem Tm{G:PV->Prop}(E:Yl)(b:BoxT)(fs:List Fact)(p:List Mono)(u z i:Int)(n:Nat)(xs ys:List Int)(h:if (decide (i<(↑n:Int)))=true then(decide (0<=i)&&decide (0+Int.toNat i<n)&&List.length (List.map enc xs)==n)=true∧((List.length (List.map enc xs)==n&&decide (0+Int.toNat i<List.length (List.map enc xs)))=true∧((decide (0+List.length [Sh.int .i64]<=List.length (PV.cells (List.getD (List.map enc xs) (0+Int.toNat i) default)))&&WA (PV.cells (List.getD (List.map enc xs) (0+Int.toNat i) default)) 0 [Sh.int .i64])=true∧((decide (0<=i)&&decide (0+Int.toNat i<n)&&List.length (List.map enc ys)==n)=true∧((List.length (List.map enc ys)==n&&decide (0+Int.toNat i<List.length (List.map enc ys)))=true∧((decide (0+List.length [Sh.int .i64]<=List.length (PV.cells (List.getD (List.map enc ys) (0+Int.toNat i) default)))&&WA (PV.cells (List.getD (List.map enc ys) (0+Int.toNat i) default)) 0 [Sh.int .i64])=true∧(AtM YH E 0 (Za YV G) YZ 0 77 [(6,(.ptr 0 0)),(7,(.ptr 1 0)),(9,(.ptr 2 0)),(10,(.ptr 3 0)),(16,(.pv (.int .i64 (IntKind.wrap IntKind.i64 (u+PV.asInt (List.getD (PV.cells (List.getD (List.map enc xs) (0+Int.toNat i) default)) 0 default)))))),(17,(.pv (.int .i64 (IntKind.wrap IntKind.i64 (z+PV.asInt (List.getD (PV.cells (List.getD (List.map enc ys) (0+Int.toNat i) default)) 0 default)))))),(47,(.pv (.int .i64 (↑n:Int)))),(48,(.pv (.int .i64 (IntKind.wrap IntKind.i64 (i+1)))))] [(.obj (.box [(.pv (.int .i64 0))])),(.obj (.box [(.pv (.int .i64 0))])),(.obj (.box [(.row 4 n 0 n)])),(.obj (.box [(.row 5 n 0 n)])),(.obj (.row false 3 1 (List.map enc xs))),(.obj (.row false 3 1 (List.map enc ys)))]))))))else(∃ y0:Int×Int,AV.pv (Zf (fun(x:List Int×List Int×Unit)=>Dn x.1 x.2.1) [(.sl 1 false [(.int .i64 (IntKind.wrap IntKind.i64 (u+Int.fdiv z (2 ^ min (Int.toNat 31) (IntKind.bits IntKind.i64))))),(.int .i64 (IntKind.wrap IntKind.i64 (↑(BitVec.toNat (BitVec.ofInt (IntKind.bits IntKind.i64) z &&& BitVec.ofInt (IntKind.bits IntKind.i64) 2147483647)):Int)))]),(.sl 1 false [(.int .i64 2147483648),(.int .i64 1)])])=AV.pv (enc y0)∧(G ((.tup [(.int .i64 y0.1),(.int .i64 y0.2)]))))):AtM YH E 0 (Za YV G) YZ 0 77 [(6,.ptr 0 0),(7,.ptr 1 0),(9,.ptr 2 0),(10,.ptr 3 0),(16,.pv (.int .i64 u)),(17,.pv (.int .i64 z)),(47,.pv (.int .i64 n)),(48,.pv (.int .i64 i))] [.obj (.box [.pv (.int .i64 0)]),.obj (.box [.pv (.int .i64 0)]),.obj (.box [.row 4 n 0 n]),.obj (.box [.row 5 n 0 n]),.obj (.row false 3 1 (xs.map enc)),.obj (.row false 3 1 (ys.map enc))]:=Zv.mp (.lit (.ask (.req (.keep (.req (.req (.lit (.req (.keep (.req (.req (.lit (.lit (.nil)))))))))))) (.lit (.lit (.lit (.lit (.lit (.lit (.lit (.lit (.abs (Int×Int) (fun YY=>AV.pv (enc YY)) (.nil)))))))))))) h (by kernel_rfl)
theorem a3d{G:PV->Prop}(E:Yl)(b:BoxT)(fs:List Fact)(p:List Mono)(h:AtM YH E 0 (Za YV G) YZ 0 77 [(6,(.ptr 0 0)),(7,(.ptr 1 0)),(9,(.ptr 2 0)),(10,(.ptr 3 0)),(16,(.pv (.int .i64 0))),(17,(.pv (.int .i64 0))),(47,(.pv (.int .i64 0))),(48,(.pv (.int .i64 0)))] [(.obj (.box [(.pv (.int .i64 0))])),(.obj (.box [(.pv (.int .i64 0))])),(.obj (.box [(.pv (.sl 0 true []))])),(.obj (.box [(.pv (.sl 0 true []))]))]):QL YH E 0 (Za YV G) YZ 0 .normal ⟨ZF 77 0 [(5,.ptr 0 0),(6,.ptr 1 0),(7,.ptr 2 0),(9,.ptr 3 0),(10,.ptr 4 0),(11,.ptr 5 0)],[.obj (.box [.pv (enc p)]),.obj (.box [.pv (.int .i64 0)]),.obj (.box [.pv (.int .i64 0)]),.obj (.box [.pv (.sl 0 true [])]),.obj (.box [.pv (.sl 0 true [])]),.obj (.box [.fn 124 [] [.ptr 3 0,.ptr 4 0]])]⟩:=Zv.mp (.nil) h (by kernel_rfl)
theorem a5c{G:PV->Prop}(E:Yl)(b:BoxT)(fs:List Fact)(p:List Mono)(n:Nat)(xs ys:List Int)(h:AtM YH E 0 (Za YV G) YZ 0 77 [(6,(.ptr 0 0)),(7,(.ptr 1 0)),(9,(.ptr 2 0)),(10,(.ptr 3 0)),(16,(.pv (.int .i64 0))),(17,(.pv (.int .i64 0))),(47,(.pv (.int .i64 (↑(n - 0):Int)))),(48,(.pv (.int .i64 0)))] [(.obj (.box [(.pv (.int .i64 0))])),(.obj (.box [(.pv (.int .i64 0))])),(.obj (.box [(.row 4 n 0 n)])),(.obj (.box [(.row 5 n 0 n)])),(.obj (.row false 3 1 (List.map enc xs))),(.obj (.row false 3 1 (List.map enc ys)))]):QL YH E 0 (Za YV G) YZ 0 .normal ⟨ZF 77 0 [(5,.ptr 0 0),(6,.ptr 1 0),(7,.ptr 2 0),(9,.ptr 3 0),(10,.ptr 4 0),(11,.ptr 5 0)],[.obj (.box [.pv (enc p)]),.obj (.box [.pv (.int .i64 0)]),.obj (.box [.pv (.int .i64 0)]),.obj (.box [.row 6 n 0 n]),.obj (.box [.row 7 n 0 n]),.obj (.box [.fn 124 [] [.ptr 3 0,.ptr 4 0]]),.obj (.row false 3 1 (xs.map enc)),.obj (.row false 3 1 (ys.map enc))]⟩:=Zv.mp (.nil) h (by kernel_rfl)
theorem F6{G:PV->Prop}(E:Yl)(b:BoxT)(fs:List Fact)(p:List Mono)(h:G ((.tup [(.int .i64 0),(.int .i64 2)]))):QL YH E 0 (Za YV G) YZ 0 .ret ⟨ZF 77 0 [(5,.ptr 0 0),(6,.ptr 1 0),(7,.ptr 2 0),(9,.ptr 3 0),(10,.ptr 4 0),(11,.ptr 5 0)],[.obj (.box [.pv (enc p)]),.obj (.box [.pv (.int .i64 0)]),.obj (.box [.pv (.int .i64 2)]),.obj (.box [.pv (.sl 0 true [])]),.obj (.box [.pv (.sl 0 true [])]),.obj (.box [.fn 124 [] [.ptr 3 0,.ptr 4 0]]),.fresh,.fresh]⟩:=Zv.mp (.nil) h (by kernel_rfl)
theorem OL{G:PV->Prop}(E:Yl)(b:BoxT)(fs:List Fact)(p:List Mono)(n:Nat)(xs ys:List Int)(h:G ((.tup [(.int .i64 0),(.int .i64 2)]))):QL YH E 0 (Za YV G) YZ 0 .ret ⟨ZF 77 0 [(5,.ptr 0 0),(6,.ptr 1 0),(7,.ptr 2 0),(9,.ptr 3 0),(10,.ptr 4 0),(11,.ptr 5 0)],[.obj (.box [.pv (enc p)]),.obj (.box [.pv (.int .i64 0)]),.obj (.box [.pv (.int .i64 2)]),.obj (.box [.row 6 n 0 n]),.obj (.box [.row 7 n 0 n]),.obj (.box [.fn 124 [] [.ptr 3 0,.ptr 4 0]]),.obj (.row false 3 1 (xs.map enc)),.obj (.row false 3 1 (ys.map enc)),.fresh,.fresh]⟩:=Zv.mp (.nil) h (by kernel_rfl)
def Ug:IC:=Vj
def Cm:ZE:=Xg [(122,.pure (preT (fun x:List Mono×Unit=>Yg x.1)) (Zf (fun x:List Mono×Unit=>Z9 x.1))),(123,.own U8 PR),(116,.own WN Uy),(117,.own Yx Xm),(125,.pure (preT (fun x:List Mono×List Coef×Unit=>Yg x.1&&Zx x.2.1)) (Zf (fun x:List Mono×List Coef×Unit=>YR x.1 x.2.1))),(124,.own Uu U7),(126,.pure (preT (fun x:List Int×List Int×Unit=>decide (x.1.length<=10000)&&decide (x.2.1.length<=10000))) (Zf (fun x:List Int×List Int×Unit=>Dn x.1 x.2.1)))]
theorem b2v{G:Zu->Prop}(E:Yl)(p:List Mono)(q:List Int)(vs:List Coef)(h:(Go.Pl.preT (fun(x:List Mono×List Coef×Unit)=>Yg x.1&&Zx x.2.1) [(.sl 2 false (List.map enc p)),(.sl 2 false (List.map enc vs))])=true∧(∃ y0:Int×Int,AV.pv (Zf (fun(x:List Mono×List Coef×Unit)=>YR x.1 x.2.1) [(.sl 2 false (List.map enc p)),(.sl 2 false (List.map enc vs))])=AV.pv (enc y0)∧(if (y0.2 != 0)=true then G ([(.obj (.box [(.pv (.sl 2 false (List.map enc p)))])),(.obj (.box [(.pv (.int .i64 0))])),(.obj (.box [(.pv (.int .i64 2))])),(.obj (.box [(.pv (.sl 0 true []))])),(.obj (.box [(.pv (.sl 0 true []))])),(.obj (.box [(.fn 124 [] [(.ptr 3 0),(.ptr 4 0)])])),.fresh,.fresh])else(E 99 ⟨ZF 77 0 [],[(.obj (.box [(.pv (.sl 2 false (List.map enc p)))])),(.obj (.box [(.pv (.int .i64 0))])),(.obj (.box [(.pv (.int .i64 0))])),(.obj (.box [(.row 6 1 0 1)])),(.obj (.box [(.row 7 1 0 1)])),(.obj (.box [(.fn 124 [] [(.ptr 3 0),(.ptr 4 0)])])),(.obj (.row false 3 1 [(.int .i64 (Wu y0.1))])),(.obj (.row false 3 1 [(.int .i64 (XY y0.1))]))]⟩ (fun x S'=>QL Cm E 6 (fun st=>G st.heap) Ug 99 x S'))))):Zv Cm E 6 (fun st=>G st.heap) (.inl Ug) [.seq (.ext 99 [])] ⟨ZF 77 0 [(5,.ptr 0 0),(6,.ptr 1 0),(7,.ptr 2 0),(9,.ptr 3 0),(10,.ptr 4 0),(11,.ptr 5 0),(13,.pv (enc vs)),(33,.pv (enc q)),(34,.pv (enc vs))],[.obj (.box [.pv (enc p)]),.obj (.box [.pv (.int .i64 0)]),.obj (.box [.pv (.int .i64 0)]),.obj (.box [.pv (.sl 0 true [])]),.obj (.box [.pv (.sl 0 true [])]),.obj (.box [.fn 124 [] [.ptr 3 0,.ptr 4 0]])]⟩:=Zv.mh (.req (.abs (Int×Int) (fun YY=>AV.pv (enc YY)) (.lit (.ask (.nil) (.lit (.keep (.nil))))))) h (by kernel_rfl)
theorem a7y{G:Zu->Prop}(E:Yl)(p:List Mono)(q:List Int)(vs:List Coef)(n:Nat)(xs ys:List Int)(h:(Go.Pl.preT (fun(x:List Mono×List Coef×Unit)=>Yg x.1&&Zx x.2.1) [(.sl 2 false (List.map enc p)),(.sl 2 false (List.map enc vs))])=true∧(∃ y0:Int×Int,AV.pv (Zf (fun(x:List Mono×List Coef×Unit)=>YR x.1 x.2.1) [(.sl 2 false (List.map enc p)),(.sl 2 false (List.map enc vs))])=AV.pv (enc y0)∧(if (y0.2 != 0)=true then G ([(.obj (.box [(.pv (.sl 2 false (List.map enc p)))])),(.obj (.box [(.pv (.int .i64 0))])),(.obj (.box [(.pv (.int .i64 2))])),(.obj (.box [(.row 6 n 0 n)])),(.obj (.box [(.row 7 n 0 n)])),(.obj (.box [(.fn 124 [] [(.ptr 3 0),(.ptr 4 0)])])),(.obj (.row false 3 1 (List.map enc xs))),(.obj (.row false 3 1 (List.map enc ys))),.fresh,.fresh])else((Uu [(.pv (.int .i64 y0.1)),(.ptr 0 0),(.ptr 1 0)] [(.box [(.row 2 n 0 n)]),(.box [(.row 3 n 0 n)]),(.row false 3 1 (List.map enc xs)),(.row false 3 1 (List.map enc ys))])=true∧(E 99 ⟨ZF 77 0 [],[(.obj (.box [(.pv (.sl 2 false (List.map enc p)))])),(.obj (.box [(.pv (.int .i64 0))])),(.obj (.box [(.pv (.int .i64 0))])),(.obj (.box [(.row 6 (n+1) 0 (n+1))])),(.obj (.box [(.row 7 (n+1) 0 (n+1))])),(.obj (.box [(.fn 124 [] [(.ptr 3 0),(.ptr 4 0)])])),(.obj (.row false 3 1 (List.map enc xs++[PV.int .i64 (Wu y0.1)]))),(.obj (.row false 3 1 (List.map enc ys++[PV.int .i64 (XY y0.1)])))]⟩ (fun x S'=>QL Cm E 8 (fun st=>G st.heap) Ug 99 x S')))))):Zv Cm E 8 (fun st=>G st.heap) (.inl Ug) [.seq (.ext 99 [])] ⟨ZF 77 0 [(5,.ptr 0 0),(6,.ptr 1 0),(7,.ptr 2 0),(9,.ptr 3 0),(10,.ptr 4 0),(11,.ptr 5 0),(13,.pv (enc vs)),(33,.pv (enc q)),(34,.pv (enc vs))],[.obj (.box [.pv (enc p)]),.obj (.box [.pv (.int .i64 0)]),.obj (.box [.pv (.int .i64 0)]),.obj (.box [.row 6 n 0 n]),.obj (.box [.row 7 n 0 n]),.obj (.box [.fn 124 [] [.ptr 3 0,.ptr 4 0]]),.obj (.row false 3 1 (xs.map enc)),.obj (.row false 3 1 (ys.map enc))]⟩:=Zv.mh (.req (.abs (Int×Int) (fun YY=>AV.pv (enc YY)) (.lit (.ask (.nil) (.req (.keep (.nil))))))) h (by kernel_rfl)
end Go.Pl

namespace Go.Pl
open Go.RowKit
open Enc (enc dec is)
open EncL (encL decL isL)
theorem Hd{a b:Int}: ∀ {l:List Int},(∀ x∈l,a<=x∧x<=b)->l.length*a<=l.sum∧l.sum<=l.length*b
 | [],_=>by simp
 | x::l,h=>by
  have h1:=h x (by simp)
  have h2:=Hd (l:=l) fun y hy=>h y (by simp[hy])
  rw[List.length_cons,List.sum_cons,Int.natCast_add,Int.add_mul,Int.add_mul]
  simp only[Int.natCast_one,Int.one_mul]
  omega
theorem c5z(n:Int):Wu n*2147483648+XY n=n:=by unfold Wu XY;omega
theorem a9d{n:Int}(h:U1 n=true): -2147483648<=Wu n∧Wu n<=2147483648:=by
 unfold U1 at h
 simp only[Bool.and_eq_true,decide_eq_true_eq]at h
 unfold Wu;omega
theorem b3j(n:Int):0<=XY n∧XY n<=2147483647:=by unfold XY;omega
theorem BI: ∀ l:List Int,(l.map Wu).sum*2147483648+(l.map XY).sum=l.sum
 | []=>rfl
 | n::l=>by
  have h1:=c5z n
  have h2:=BI l
  simp only[List.map_cons,List.sum_cons,Int.add_mul]
  omega
theorem Bj{l:List Int}(hl:l.length<=20000)(hr : ∀ x∈l,U1 x=true){H L:Int}(hH:H=(l.map Wu).sum+(l.map XY).sum / 2147483648)(hL:L=(l.map XY).sum % 2147483648):
  Dn [H,L] [2147483648,1]=VB l:=by
 have h1:=Hd (l:=l.map Wu) (a:= -2147483648) (b:=2147483648) (by
  intro x hx
  obtain⟨n,hn,rfl⟩:=List.mem_map.1 hx
  exact a9d (hr n hn))
 have h2:=Hd (l:=l.map XY) (a:=0) (b:=2147483647) (by
  intro x hx
  obtain⟨n,hn,rfl⟩:=List.mem_map.1 hx
  exact b3j n)
 have h3:=BI l
 rw[List.length_map]at h1 h2
 have hd:FT [H,L] [2147483648,1]=l.sum:=by
  show H*2147483648+(L*1+0)=_
  omega
 have ha:l.all U1=true:=List.all_eq_true.2 hr
 have e1:U1 H=true:=by
  unfold U1
  rw[decide_eq_true (by omega),decide_eq_true (by omega)];rfl
 have e2:U1 L=true:=by
  unfold U1
  rw[decide_eq_true (by omega),decide_eq_true (by omega)];rfl
 unfold Dn VB
 rw[hd,ha,if_pos (by rfl)]
 have:(List.all [H,L] U1&&List.all [(2147483648:Int),1] U1)=true:=by
  simp only[List.all_cons,List.all_nil,Bool.and_true,e1,e2,Bool.and_eq_true]
  decide
 rw[this]
theorem b9a{l:List Int}:U1 (VB l).1=true:=by
 unfold VB
 split
 ·rename_i h
  simp only[Bool.and_eq_true]at h
  exact h.2
 ·decide
theorem a7r(p:List Mono)(vs:List Coef):U1 (YR p vs).1=true:=by
 unfold YR
 split
 ·split
  ·decide
  ·split
   ·decide
   ·split
    ·decide
    ·exact b9a
 ·decide
theorem QU{p:List Mono}{vs:List Str}: ∀ {qs:List (List Int)} {l:List Int},Uc p vs qs=some l->l.length=qs.length
 | [],_,h=>by cases h;rfl
 | q::r,l,h=>by
  rw[Uc]at h
  split at h
  ·cases h
  ·obtain⟨m,hm,rfl⟩:=Option.map_eq_some_iff.1 h
   simp[QU hm]
theorem Ae{p:List Mono}{vs:List Str}: ∀ {qs:List (List Int)} {l:List Int},Uc p vs qs=some l-> ∀ x∈l,U1 x=true
 | [],_,h=>by cases h;simp
 | q::r,l,h=>by
  rw[Uc]at h
  split at h
  ·cases h
  ·obtain⟨m,hm,rfl⟩:=Option.map_eq_some_iff.1 h
   intro x hx
   rcases List.mem_cons.1 hx with rfl|hx
   ·exact a7r _ _
   ·exact Ae hm x hx
theorem UY{p:List Mono}{vs:List Str}{q:List Int}(hq:(YR p (Zd vs q)).2=0): ∀ {qs:List (List Int)} {l:List Int},Uc p vs qs=some l->Uc p vs (qs++[q])=some (l++[(YR p (Zd vs q)).1])
 | [],_,h=>by cases h;rw[List.nil_append,Uc,if_neg (by simp[hq])];rfl
 | q'::r,l,h=>by
  rw[Uc]at h
  split at h
  ·cases h
  ·rename_i h2
   obtain⟨m,hm,rfl⟩:=Option.map_eq_some_iff.1 h
   rw[List.cons_append,Uc,if_neg h2,UY hq hm];rfl
theorem Ah{p:List Mono}{vs:List Str}{q:List Int}(hq:(YR p (Zd vs q)).2≠0){r:List (List Int)}: ∀ (qs:List (List Int)),Uc p vs (qs++q::r)=none
 | []=>by rw[List.nil_append,Uc,if_pos hq]
 | q'::qs=>by
  rw[List.cons_append,Uc,Ah hq qs]
  split <;> rfl
section
variable {α:Type} [Inhabited α] [DecidableEq α]
theorem Ry{d:Array α}{x:α}: ∀ {m:Nat},m<=d.size->x∈Lib.compactUpTo d m-> ∃ j,j<m∧x=d[j]!
 | 0,_,h=>by simp[Lib.compactUpTo]at h
 | m+1,hm,h=>by
  rw[Lib.compactUpTo_succ,List.mem_append]at h
  rcases h with h|h
  ·obtain⟨j,h1,h2⟩:=Ry (by omega) h;exact⟨j,by omega,h2⟩
  ·split at h
   ·exact⟨m,by omega,by simpa using h⟩
   ·simp at h
theorem Pj{d:Array α}: ∀ {m:Nat},m<=d.size-> ∀ j,j<m->d[j]! ∈ Lib.compactUpTo d m
 | 0,_,j,h=>by omega
 | m+1,hm,j,h=>by
  rw[Lib.compactUpTo_succ,List.mem_append]
  by_cases hj:j<m
  ·exact .inl (Pj (by omega) j hj)
  ·have:j=m:=by omega
   subst this
   cases hk:Lib.keeps d j
   ·refine .inl ?_
    have h0:j≠0∧d[j]! = d[j - 1]! :=by
     unfold Lib.keeps at hk
     simpa [not_or]using hk
    rw[h0.2]
    exact Pj (by omega) (j - 1) (by omega)
   ·right;simp
theorem Mw{zs:List α}{x:α}:x∈Lib.compact zs ↔ x∈zs:=by
 unfold Lib.compact
 constructor
 ·intro h
  obtain⟨j,h1,rfl⟩:=Ry (by simp) h
  simp[getElem!_pos,h1]
 ·intro h
  obtain⟨j,hj,rfl⟩:=List.getElem_of_mem h
  have:=Pj (d:=zs.toArray) (m:=zs.length) (by simp) j hj
  simpa [getElem!_pos,hj]using this
end
theorem a1o{d:Array (List UInt8)}(hs : ∀ i j,i<j->j<d.size->d[i]! <= d[j]!): ∀ {m:Nat},m<=d.size->(Lib.compactUpTo d m).Pairwise (· < ·)
 | 0,_=>by simp[Lib.compactUpTo]
 | m+1,hm=>by
  rw[Lib.compactUpTo_succ,List.pairwise_append]
  refine⟨a1o hs (by omega),by split <;> simp,?_⟩
  intro x hx y hy
  split at hy
  ·rename_i hk
   have hy:y=d[m]! :=by simpa using hy
   subst hy
   obtain⟨j,hj,rfl⟩:=Ry (by omega) hx
   have h0:m≠0:=by omega
   have hne:d[m]! ≠ d[m - 1]! :=by
    unfold Lib.keeps at hk
    simpa [h0]using hk
   have h1:d[m - 1]! <= d[m]! :=hs _ _ (by omega) (by omega)
   have h2:d[j]! <= d[m - 1]! :=by
    by_cases e:j=m - 1
    ·rw[e];exact List.le_refl _
    ·exact hs _ _ (by omega) (by omega)
   have h3:d[m - 1]! < d[m]! :=by
    rcases List.le_iff_lt_or_eq.1 h1 with h|h
    ·exact h
    ·exact absurd h.symm hne
   exact Std.lt_of_le_of_lt h2 h3
  ·simp at hy
theorem a9r(ss:List (List UInt8)):(Wt ss).Pairwise (· <= ·):=by
 have:=List.pairwise_mergeSort (le:=fun x y:List UInt8=>decide (x<=y)) (fun a b c h1 h2=>by
  simp only[decide_eq_true_eq]at *;exact List.le_trans h1 h2) (fun a b=>by
  simp only[Bool.or_eq_true,decide_eq_true_eq];exact List.le_total a b) ss
 exact this.imp fun h=>by simpa using h
theorem b6h(ss:List (List UInt8)):(Lib.compact (Wt ss)).Pairwise (· < ·):=by
 unfold Lib.compact
 refine a1o ?_ (by simp)
 intro i j hij hj
 have hj:j<(Wt ss).length:=by simpa using hj
 have:=List.pairwise_iff_getElem.1 (a9r ss) i j (by omega) hj hij
 simpa [getElem!_pos,hj,show i<(Wt ss).length by omega]using this
theorem Rk(p:List Mono)(x:Str):x∈Yy p ↔ x∈XA p:=by
 unfold Yy
 rw[List.mem_map]
 constructor
 ·rintro⟨s,hs,rfl⟩
  have:=(List.mergeSort_perm _ _).mem_iff.1 (Mw.1 hs)
  obtain⟨y,hy,e⟩:=List.mem_map.1 this
  cases y;cases e;exact hy
 ·intro h
  exact⟨x.s,Mw.2 ((List.mergeSort_perm _ _).mem_iff.2 (List.mem_map.2 ⟨x,h,rfl⟩)),rfl⟩
theorem a5l(p:List Mono):(Yy p).Pairwise fun x y:Str=>x.s<y.s:=by
 unfold Yy Y8
 rw[List.pairwise_map]
 exact b6h _
theorem Be{s x:Str}: ∀ {l:List Str},x∈Gw l s ↔ x=s∨x∈l
 | []=>by simp[Gw]
 | t::r=>by
  rw[Gw]
  split
  ·rw[List.mem_cons,Be,List.mem_cons]
   constructor
   ·rintro(h|h|h) <;> simp[h]
   ·rintro(h|h|h) <;> simp[h]
  ·split
   ·rename_i h;subst h
    simp
   ·simp
theorem Lm{s:Str}: ∀ {l:List Str},(l.Pairwise fun x y:Str=>x.s<y.s)->(Gw l s).Pairwise fun x y:Str=>x.s<y.s
 | [],_=>by simp[Gw]
 | t::r,h=>by
  have ht:=List.pairwise_cons.1 h
  rw[Gw]
  split
  ·rename_i h1
   refine List.pairwise_cons.2 ⟨fun y hy=> ?_,Lm ht.2⟩
   rcases Be.1 hy with rfl|hy
   ·exact h1
   ·exact ht.1 y hy
  ·split
   ·exact h
   ·rename_i h1 h2
    have h3:s.s<t.s:=by
     rcases List.le_iff_lt_or_eq.1 (List.not_lt.1 h1)with h|h
     ·exact h
     ·exact absurd (by cases s;cases t;simpa using h.symm) h2
    refine List.pairwise_cons.2 ⟨fun y hy=> ?_,h⟩
    rcases List.mem_cons.1 hy with rfl|hy
    ·exact h3
    ·exact List.lt_trans h3 (ht.1 y hy)
theorem NQ: ∀ (l o:List Str),(o.Pairwise fun x y:Str=>x.s<y.s)->((l.foldl Gw o).Pairwise fun x y:Str=>x.s<y.s)∧ ∀ x,x∈l.foldl Gw o ↔ x∈l∨x∈o
 | [],o,h=>⟨h,by simp⟩
 | s::l,o,h=>by
  obtain⟨h1,h2⟩:=NQ l (Gw o s) (Lm h)
  refine⟨h1,fun x=> ?_⟩
  show x∈l.foldl Gw (Gw o s) ↔ _
  rw[h2,Be,List.mem_cons]
  constructor
  ·rintro(h|h|h) <;> simp[h]
  ·rintro((h|h)|h) <;> simp[h]
theorem a1l: ∀ {a b:List Str},(a.Pairwise fun x y:Str=>x.s<y.s)->(b.Pairwise fun x y:Str=>x.s<y.s)->(∀ x,x∈a ↔ x∈b)->a=b
 | [],[],_,_,_=>rfl
 | [],y::b,_,_,h=>absurd ((h y).2 (by simp)) (by simp)
 | x::a,[],_,_,h=>absurd ((h x).1 (by simp)) (by simp)
 | x::a,y::b,ha,hb,h=>by
  have ha':=List.pairwise_cons.1 ha
  have hb':=List.pairwise_cons.1 hb
  have e:x=y:=by
   rcases List.mem_cons.1 ((h x).1 (by simp))with e|h1
   ·exact e
   ·rcases List.mem_cons.1 ((h y).2 (by simp))with e|h2
    ·exact e.symm
    ·exact absurd (List.lt_trans (hb'.1 x h1) (ha'.1 y h2)) (List.lt_irrefl _)
  subst e
  rw[a1l ha'.2 hb'.2 fun z=> ?_]
  constructor
  ·intro hz
   rcases List.mem_cons.1 ((h z).1 (by simp[hz]))with e|h1
   ·subst e;exact absurd (ha'.1 z hz) (List.lt_irrefl _)
   ·exact h1
  ·intro hz
   rcases List.mem_cons.1 ((h z).2 (by simp[hz]))with e|h1
   ·subst e;exact absurd (hb'.1 z hz) (List.lt_irrefl _)
   ·exact h1
theorem Tp(p:List Mono):Yy p=(XA p).foldl Gw []:=by
 obtain⟨h1,h2⟩:=NQ (XA p) [] .nil
 exact a1l (a5l p) h1 fun x=>by rw[Rk,h2];simp
theorem a2u{p:List Mono}(h:(XA p).isEmpty=true):Yy p=[]:=by
 rw[Tp,List.isEmpty_iff.1 h];rfl
theorem a8m{p:List Mono}(h:(XA p).isEmpty=false):(Yy p).isEmpty=false:=by
 rw[List.isEmpty_eq_false_iff]at h ⊢
 intro e
 obtain⟨x,hx⟩:=List.exists_mem_of_ne_nil _ h
 have:=(Rk p x).2 hx
 rw[e]at this;cases this
theorem a2m(p:List Mono):(Yy p).length<=(XA p).length:=by
 unfold Yy
 rw[List.length_map]
 refine Nat.le_trans (HV _) ?_
 unfold Y8 Wt
 rw[(List.mergeSort_perm _ _).length_eq,List.length_map];exact Nat.le_refl _
end Go.Pl

namespace Go.Pl
open Go.RowKit
open Enc (enc dec is)
open EncL (encL decL isL)
theorem b6w(n:Int):Int.fdiv n (2 ^ min (Int.toNat 31) (IntKind.bits .i64))=Wu n:=by
 show Int.fdiv n 2147483648=n / 2147483648
 exact Int.fdiv_eq_ediv_of_nonneg n (by decide)
theorem a1c(n:Int):IntKind.i64.wrap ((BitVec.toNat (BitVec.ofInt (IntKind.bits .i64) n &&& BitVec.ofInt (IntKind.bits .i64) 2147483647):Nat):Int)=XY n:=by
 have e:BitVec.toNat (BitVec.ofInt (IntKind.bits .i64) n &&& BitVec.ofInt (IntKind.bits .i64) 2147483647)=(n % 2147483648).toNat:=by
  rw[BitVec.toNat_and]
  have e2:(BitVec.ofInt (IntKind.bits .i64) 2147483647).toNat=2 ^ 31 - 1:=rfl
  rw[e2,Nat.and_two_pow_sub_one_eq_mod,BitVec.toNat_ofInt]
  show(n % 18446744073709551616).toNat % 2147483648=_
  omega
 rw[e,WS (by omega) (by omega)]
 unfold XY
 omega
theorem b7j: ∀ args os,Uu args os=true->Zc PT os.length (Zk os.length Cx fun r=>r=U7 args os) Cf [] (YD b7z args os):=by
 intro args os h
 unfold Uu at h
 split at h
 ·rename_i n
  apply c4m (G:=fun r=>r=U7 _ _) n
  rw[b6w,a1c]
  rfl
 ·rename_i n q q' r r' ty xs ty' ys
  simp only[Bool.and_eq_true,beq_iff_eq,decide_eq_true_eq]at h
  obtain⟨⟨⟨⟨⟨⟨⟨h1,h2⟩,h3⟩,h4⟩,h5⟩,h6⟩,h7⟩,h8⟩:=h
  subst h1 h2 h3 h4 h5
  apply c2q (G:=fun r=>r=U7 _ _) n r' xs ys
  rw[b6w,a1c,h6,h7]
  have hd:((r'==r')&&(r'==r')&&decide ((r'+1)*8<=1099511627776)&&decide (r'+1<=1099511627776))=true:=by
   rw[decide_eq_true (by omega),decide_eq_true (by omega)];simp
  exact⟨hd,hd,rfl⟩
 ·cases h
def hN(p:List Mono):Zu:=[.obj (.box [.pv (enc p)]),.obj (.box [.pv (.int .i64 0)]),.obj (.box [.pv (.int .i64 0)]),.obj (.box [.pv (.sl 0 true [])]),.obj (.box [.pv (.sl 0 true [])]),.obj (.box [.fn 124 [] [.ptr 3 0,.ptr 4 0]])]
def hR(p:List Mono)(n:Nat)(xs ys:List Int):Zu:=[.obj (.box [.pv (enc p)]),.obj (.box [.pv (.int .i64 0)]),.obj (.box [.pv (.int .i64 0)]),.obj (.box [.row 6 n 0 n]),.obj (.box [.row 7 n 0 n]),.obj (.box [.fn 124 [] [.ptr 3 0,.ptr 4 0]]),.obj (.row false 3 1 (xs.map enc)),.obj (.row false 3 1 (ys.map enc))]
def hNX(p:List Mono):Zu:=[.obj (.box [.pv (enc p)]),.obj (.box [.pv (.int .i64 0)]),.obj (.box [.pv (.int .i64 2)]),.obj (.box [.pv (.sl 0 true [])]),.obj (.box [.pv (.sl 0 true [])]),.obj (.box [.fn 124 [] [.ptr 3 0,.ptr 4 0]]),.fresh,.fresh]
def hRX(p:List Mono)(n:Nat)(xs ys:List Int):Zu:=[.obj (.box [.pv (enc p)]),.obj (.box [.pv (.int .i64 0)]),.obj (.box [.pv (.int .i64 2)]),.obj (.box [.row 6 n 0 n]),.obj (.box [.row 7 n 0 n]),.obj (.box [.fn 124 [] [.ptr 3 0,.ptr 4 0]]),.obj (.row false 3 1 (xs.map enc)),.obj (.row false 3 1 (ys.map enc)),.fresh,.fresh]
def gsI(b:BoxT)(fs:List Fact)(p:List Mono)(k:Nat)(σ:Zu):Prop:=
 ∃ l,Uc p b.v ((ZR b fs).take k)=some l∧((k=0∧σ=hN p)∨(0<k∧k<=(ZR b fs).length∧σ=hR p k (l.map Wu) (l.map XY)))
def gsX(b:BoxT)(fs:List Fact)(p:List Mono)(σ:Zu):Prop:=Uc p b.v (ZR b fs)=none∧(σ=hNX p ∨ ∃ n xs ys,σ=hRX p n xs ys)
theorem P6{b:BoxT}{fs:List Fact}(hv:Xy b=true):(ZR b fs).length<=20000:=by
 unfold ZR
 refine Nat.le_trans (List.length_filter_le _ _) ?_
 rw[UA hv,He]
 exact Co hv
theorem Gv{b:BoxT}{fs:List Fact}{p:List Mono}{k:Nat}{q:List Int}(hq:(ZR b fs)[k]? = some q)(h:(YR p (Zd b.v q)).2≠0):Uc p b.v (ZR b fs)=none:=by
 have hk:=(List.getElem?_eq_some_iff.1 hq).1
 have hkp:=(List.getElem?_eq_some_iff.1 hq).2
 have e:ZR b fs=(ZR b fs).take k++q::(ZR b fs).drop (k+1):=by
  rw[<- hkp,<- List.drop_eq_getElem_cons hk,List.take_append_drop]
 rw[e]
 exact Ah h _
def Vb:Yl:=fun n st q=>n=0∧KF YJ 0 (.t 32) 177 [33,34] [(13,34)] Vj Uq VZ Jl st q
theorem a3a(b:BoxT)(fs:List Fact)(p:List Mono)(hp:Yg p=true)(hv:Xy b=true)(hb:b.v.length<=1000)(k:Nat)(q:List Int)(σ:Zu)(hq:(ZR b fs)[k]? = some q)(h:gsI b fs p k σ):
  Zv YJ (fun n S' _=>n=99∧gsI b fs p (k+1) S'.heap) σ.length (fun st=>gsX b fs p st.heap) (.inl Vj) [.seq (.ext 99 [])]
   ⟨ZF 77 0 [(5,.ptr 0 0),(6,.ptr 1 0),(7,.ptr 2 0),(9,.ptr 3 0),(10,.ptr 4 0),(11,.ptr 5 0),(13,.pv (enc (Zd b.v q))),(33,.pv (enc q)),(34,.pv (enc (Zd b.v q)))],σ⟩:=by
 have hk:=(List.getElem?_eq_some_iff.1 hq).1
 have hkp:=(List.getElem?_eq_some_iff.1 hq).2
 have h20:=P6 (fs:=fs) hv
 have ht:(ZR b fs).take (k+1)=(ZR b fs).take k++[q]:=by rw[List.take_succ_eq_append_getElem hk,hkp]
 have hvl:(Zd b.v q).length<=9223372036854775807:=by unfold Zd;rw[List.length_zipWith];omega
 have hpre:preT (fun x:List Mono×List Coef×Unit=>Yg x.1&&Zx x.2.1) (encL (p,Zd b.v q,()))=true:=Zl (p,Zd b.v q,()) rfl (by rw[hp,Z8.2 hvl];rfl)
 obtain⟨l,hl,hσ⟩:=h
 have hlen:=QU hl
 rw[List.length_take]at hlen
 rcases hσ with ⟨rfl,rfl⟩|⟨h0,h1,rfl⟩
 ·apply a9z (G:=gsX b fs p) (fun n S' _=>n=99∧gsI b fs p (0+1) S'.heap) p q (Zd b.v q)
  refine⟨hpre,Zj (p,Zd b.v q,()) rfl ?_⟩
  refine Xj (fun he=> ?_) fun he=> ?_
  ·have he:(YR p (Zd b.v q)).2≠0:=by simpa using he
   exact⟨Gv hq he,.inl rfl⟩
  ·have he:(YR p (Zd b.v q)).2=0:=by simpa using he
   have hs:=UY he hl
   rw[<- ht]at hs
   have hnil:l=[]:=List.length_eq_zero_iff.1 (by omega)
   subst hnil
   exact⟨rfl,_,hs,.inr ⟨by omega,by omega,rfl⟩⟩
 ·have hlk:l.length=k:=by omega
  apply b5j (G:=gsX b fs p) (fun n S' _=>n=99∧gsI b fs p (k+1) S'.heap) p q (Zd b.v q) k (l.map Wu) (l.map XY)
  refine⟨hpre,Zj (p,Zd b.v q,()) rfl ?_⟩
  refine Xj (fun he=> ?_) fun he=> ?_
  ·have he:(YR p (Zd b.v q)).2≠0:=by simpa using he
   exact⟨Gv hq he,.inr ⟨k,_,_,rfl⟩⟩
  ·have he:(YR p (Zd b.v q)).2=0:=by simpa using he
   have hs:=UY he hl
   rw[<- ht]at hs
   refine⟨?_,rfl,_,hs,.inr ⟨by omega,by omega,?_⟩⟩
   ·show(k==k&&k==k&&k==k&&3==3&&3==3&&((l.map Wu).map (enc:Int->PV)).length==k&&((l.map XY).map (enc:Int->PV)).length==k&&decide (k<=1000000))=true
    rw[List.length_map,List.length_map,List.length_map,List.length_map,hlk,decide_eq_true (by omega)];simp
   ·unfold hR
    rw[List.map_append,List.map_append,List.map_append,List.map_append]
    rfl
theorem a8k(b:BoxT)(fs:List Fact)(p:List Mono)(l:List Int)(hl:l.length<=20000)(hr : ∀ x∈l,U1 x=true)(R:Int×Int)(hR:R=VB l): ∀ (d i:Nat),d+i=l.length ->
  AtM YJ Vb 0 (Za Y1 (Zm R)) YK 0 77 [(6,.ptr 0 0),(7,.ptr 1 0),(9,.ptr 2 0),(10,.ptr 3 0),(16,.pv (.int .i64 ((l.map Wu).take i).sum)),(17,.pv (.int .i64 ((l.map XY).take i).sum)),(47,.pv (.int .i64 l.length)),(48,.pv (.int .i64 i))]
   [.obj (.box [.pv (.int .i64 0)]),.obj (.box [.pv (.int .i64 0)]),.obj (.box [.row 4 l.length 0 l.length]),.obj (.box [.row 5 l.length 0 l.length]),.obj (.row false 3 1 ((l.map Wu).map enc)),.obj (.row false 3 1 ((l.map XY).map enc))]:=by
 have hb1 : ∀ i,((l.map Wu).take i).length*(-2147483648:Int)<=((l.map Wu).take i).sum∧((l.map Wu).take i).sum<=((l.map Wu).take i).length*(2147483648:Int):=fun i=>Hd (by
  intro x hx
  obtain⟨n,hn,rfl⟩:=List.mem_map.1 (List.mem_of_mem_take hx)
  exact a9d (hr n hn))
 have hb2 : ∀ i,((l.map XY).take i).length*(0:Int)<=((l.map XY).take i).sum∧((l.map XY).take i).sum<=((l.map XY).take i).length*(2147483647:Int):=fun i=>Hd (by
  intro x hx
  obtain⟨n,hn,rfl⟩:=List.mem_map.1 (List.mem_of_mem_take hx)
  exact b3j n)
 have hc1 : ∀ i,((l.map Wu).take i).length<=20000:=fun i=>by rw[List.length_take,List.length_map];omega
 have hc2 : ∀ i,((l.map XY).take i).length<=20000:=fun i=>by rw[List.length_take,List.length_map];omega
 intro d
 induction d with
 | zero=>
  intro i hi
  apply SS (G:=Zm R) Vb b fs p
  refine Z0 (Yd (by omega)) ?_
  have e1:(l.map Wu).take i=l.map Wu:=List.take_of_length_le (by rw[List.length_map];omega)
  have e2:(l.map XY).take i=l.map XY:=List.take_of_length_le (by rw[List.length_map];omega)
  have a1:=hb1 i
  have a2:=hb2 i
  have a3:=hc1 i
  have a4:=hc2 i
  rw[e1]at a1 a3
  rw[e2]at a2 a4
  rw[e1,e2,b6w,a1c]
  have hh:Wu (l.map XY).sum=(l.map XY).sum / 2147483648:=rfl
  have hw:IntKind.i64.wrap ((l.map Wu).sum+Wu (l.map XY).sum)=(l.map Wu).sum+Wu (l.map XY).sum:=WS (by rw[hh];omega) (by rw[hh];omega)
  rw[hw]
  refine Zj ([(l.map Wu).sum+Wu (l.map XY).sum,XY (l.map XY).sum],[2147483648,1],()) rfl ?_
  rw[hR,<- Bj hl hr (H:=(l.map Wu).sum+Wu (l.map XY).sum) (L:=XY (l.map XY).sum) rfl rfl]
  exact ZK rfl
 | succ d ih=>
  intro i hi
  have hlt:i<l.length:=by omega
  have hl1:i<(l.map Wu).length:=by rw[List.length_map];omega
  have hl2:i<(l.map XY).length:=by rw[List.length_map];omega
  apply SS (G:=Zm R) Vb b fs p
  apply ZV (Ya hlt)
  rw[QF hl1,QF hl2]
  refine⟨by simp;omega,by simp;omega,rfl,by simp;omega,by simp;omega,rfl,?_⟩
  rw[next (by omega)]
  show AtM YJ _ _ _ _ _ _ [_,_,_,_,(16,.pv (.int .i64 (IntKind.i64.wrap (((l.map Wu).take i).sum+(l.map Wu)[i])))),(17,.pv (.int .i64 (IntKind.i64.wrap (((l.map XY).take i).sum+(l.map XY)[i])))),_,_] _
  have s1:((l.map Wu).take i).sum+(l.map Wu)[i]=((l.map Wu).take (i+1)).sum:=by rw[List.take_succ_eq_append_getElem hl1,List.sum_append];simp
  have s2:((l.map XY).take i).sum+(l.map XY)[i]=((l.map XY).take (i+1)).sum:=by rw[List.take_succ_eq_append_getElem hl2,List.sum_append];simp
  have a1:=hb1 (i+1)
  have a2:=hb2 (i+1)
  have a3:=hc1 (i+1)
  have a4:=hc2 (i+1)
  rw[s1,s2,WS (by omega) (by omega),WS (by omega) (by omega)]
  exact ih (i+1) (by omega)
theorem a4j: ∀ x:BoxT×List Fact×List Mono×Unit,(JJ x.1 x.2.1 x.2.2.1&&(!Z9 x.2.2.1||(XA x.2.2.1).isEmpty))=true->U3 YJ Vb 0 (Za Y1 (Zm (Ww x.1 x.2.1 x.2.2.1))) YK [] (Yz b2d (encL x)):=by
 rintro⟨b,fs,p,⟨⟩⟩ hp
 simp only[JJ,Bool.and_eq_true,decide_eq_true_eq]at hp
 obtain⟨⟨⟨⟨⟨h1,h2⟩,h3⟩,h4⟩,h5⟩,h6⟩:=hp
 have key:Zo b fs (Z9 p) (Yy p)=0->Vb 0 ⟨ZF 77 0 [(5,.ptr 0 0),(6,.ptr 1 0),(7,.ptr 2 0),(9,.ptr 3 0),(10,.ptr 4 0),(11,.ptr 5 0),(13,.undef),(14,.undef),(15,.undef),(32,(.fn 177 [] [(.ptr 6 0),(.ptr 7 0)])),(34,.undef),(35,.undef),(36,.undef),(37,.undef),(38,.undef),(39,.undef),(40,.undef),(41,.undef),(42,.undef),(43,.undef),(44,.undef)],
   hN p++[(.obj (.box [(.pv (.sl 1 false (List.map enc b.v))),(.pv (.int .i64 b.m))])),(.obj (.box [(.pv (.sl 3 false (List.map enc fs)))]))]⟩ (fun x S'=>QL YJ Vb 0 (Za Y1 (Zm (Ww b fs p))) YK 0 x S'):=by
  intro h0
  obtain⟨hv,_⟩:=XZ _ _ _ _ h0
  have h20:=P6 (fs:=fs) hv
  refine⟨rfl,[6,7],[[enc b.v,.int .i64 b.m],[enc fs]],[5,6,7,9,10,11],[],⟨ZF 77 0 [(5,.ptr 0 0),(6,.ptr 1 0),(7,.ptr 2 0),(9,.ptr 3 0),(10,.ptr 4 0),(11,.ptr 5 0)],hN p⟩,gsI b fs p,gsX b fs p,rfl,by simp,rfl,?_,by kernel_rfl,JE hv h2 h4,⟨[],rfl,.inl ⟨rfl,rfl⟩⟩,?_,?_,?_⟩
  ·intro j l' ps hl hps
   match j with
   | 0=>cases hl;cases hps;rfl
   | 1=>cases hl;cases hps;rfl
   | j+2=>simp at hl
  ·intro k x σ hx hI
   rw[H6,List.getElem?_map]at hx
   obtain⟨q,hq,rfl⟩:=Option.map_eq_some_iff.1 hx
   have e:D8 [(13,34)] (Ht [33,34] ((Uq (q,Zd b.v q)).map .pv) (ZF 77 0 [(5,.ptr 0 0),(6,.ptr 1 0),(7,.ptr 2 0),(9,.ptr 3 0),(10,.ptr 4 0),(11,.ptr 5 0)]))=ZF 77 0 [(5,.ptr 0 0),(6,.ptr 1 0),(7,.ptr 2 0),(9,.ptr 3 0),(10,.ptr 4 0),(11,.ptr 5 0),(13,.pv (enc (Zd b.v q))),(33,.pv (enc q)),(34,.pv (enc (Zd b.v q)))]:=by kernel_rfl
   have:=a3a b fs p h5 hv h4 k q σ hq hI
   rw[<- e]at this
   exact this
  ·intro σ hI
   rw[H6,List.length_map]at hI
   obtain⟨l,hl,hσ⟩:=hI
   rw[List.take_length]at hl
   have hT:Ww b fs p=VB l:=by unfold Ww;rw[if_pos h0,hl]
   have hlen:=QU hl
   rcases hσ with ⟨e0,rfl⟩|⟨_,_,rfl⟩
   ·refine a5h (G:=Zm (Ww b fs p)) Vb b fs p ?_
    refine a6o (G:=Zm (Ww b fs p)) Vb b fs p (Zj ([0,0],[2147483648,1],()) rfl ?_)
    have:l=[]:=List.length_eq_zero_iff.1 (by omega)
    rw[hT,this]
    exact ZK (x:=((0:Int),(0:Int))) rfl
   ·refine a5i (G:=Zm (Ww b fs p)) Vb b fs p _ _ _ ?_
    have:=a8k b fs p l (by omega) (Ae hl) (Ww b fs p) hT l.length 0 (by omega)
    rw[hlen]at this
    exact this
  ·intro σ hX
   obtain⟨hn,hσ⟩:=hX
   have hT:Ww b fs p=(0,2):=by unfold Ww;rw[if_pos h0,hn]
   rcases hσ with rfl|⟨n,xs,ys,rfl⟩
   ·exact Ev (G:=Zm (Ww b fs p)) Vb b fs p (by rw[hT];exact ZK (x:=((0:Int),(2:Int))) rfl)
   ·exact OY (G:=Zm (Ww b fs p)) Vb b fs p n xs ys (by rw[hT];exact ZK (x:=((0:Int),(2:Int))) rfl)
 have hbad:Zo b fs (Z9 p) (Yy p)≠0->Zm (Ww b fs p) (.tup [.int .i64 0,.int .i64 (Zo b fs (Z9 p) (Yy p))]):=by
  intro h0
  unfold Ww
  rw[if_neg h0]
  exact ZK (x:=((0:Int),Zo b fs (Z9 p) (Yy p))) rfl
 have hn:Zo b fs (Z9 p) (Yy p)=Zo b fs (Z9 p) []:=by
  cases hv:Z9 p
  ·unfold Zo;simp
  ·rw[hv]at h6
   rw[a2u (by simpa using h6)]
 rw[hn]at key hbad
 refine b8r Vb b fs p ⟨Zl (p,()) rfl h5,Zj (p,()) rfl ⟨?_,Zl (b,fs,Z9 p,⟨⟩,()) rfl (by simp[h1,h2,h3]),Zj (b,fs,Z9 p,⟨⟩,()) rfl ?_⟩⟩
 ·show(XX (List Mono) (enc p)&&Yg (dec (enc p:PV))&&(!Z9 (dec (enc p:PV))||(XA (dec (enc p:PV))).isEmpty))=true
  rw[ZI,Enc.dec_enc,h5,h6];rfl
 ·show if (Zo b fs (Z9 p) [] != 0)=true then _ else _
  by_cases h0:Zo b fs (Z9 p) []=0
  ·rw[if_neg (by simp[h0])]
   refine⟨?_,key h0⟩
   show(XX (List Str) (enc b.v)&&XX (List Fact) (enc fs))=true
   rw[ZI,ZI];rfl
  ·rw[if_pos (by simpa using h0)]
   exact hbad h0
def Vq:Yl:=fun n st q=>n=0∧KF YH 0 (.t 32) 177 [33,34] [(13,34)] Ug Uq VZ Jl st q
theorem a5j(b:BoxT)(fs:List Fact)(p:List Mono)(hp:Yg p=true)(hv:Xy b=true)(hb:b.v.length<=1000)(k:Nat)(q:List Int)(σ:Zu)(hq:(ZR b fs)[k]? = some q)(h:gsI b fs p k σ):
  Zv YH (fun n S' _=>n=99∧gsI b fs p (k+1) S'.heap) σ.length (fun st=>gsX b fs p st.heap) (.inl Ug) [.seq (.ext 99 [])]
   ⟨ZF 77 0 [(5,.ptr 0 0),(6,.ptr 1 0),(7,.ptr 2 0),(9,.ptr 3 0),(10,.ptr 4 0),(11,.ptr 5 0),(13,.pv (enc (Zd b.v q))),(33,.pv (enc q)),(34,.pv (enc (Zd b.v q)))],σ⟩:=by
 have hk:=(List.getElem?_eq_some_iff.1 hq).1
 have hkp:=(List.getElem?_eq_some_iff.1 hq).2
 have h20:=P6 (fs:=fs) hv
 have ht:(ZR b fs).take (k+1)=(ZR b fs).take k++[q]:=by rw[List.take_succ_eq_append_getElem hk,hkp]
 have hvl:(Zd b.v q).length<=9223372036854775807:=by unfold Zd;rw[List.length_zipWith];omega
 have hpre:preT (fun x:List Mono×List Coef×Unit=>Yg x.1&&Zx x.2.1) (encL (p,Zd b.v q,()))=true:=Zl (p,Zd b.v q,()) rfl (by rw[hp,Z8.2 hvl];rfl)
 obtain⟨l,hl,hσ⟩:=h
 have hlen:=QU hl
 rw[List.length_take]at hlen
 rcases hσ with ⟨rfl,rfl⟩|⟨h0,h1,rfl⟩
 ·apply b2v (G:=gsX b fs p) (fun n S' _=>n=99∧gsI b fs p (0+1) S'.heap) p q (Zd b.v q)
  refine⟨hpre,Zj (p,Zd b.v q,()) rfl ?_⟩
  refine Xj (fun he=> ?_) fun he=> ?_
  ·have he:(YR p (Zd b.v q)).2≠0:=by simpa using he
   exact⟨Gv hq he,.inl rfl⟩
  ·have he:(YR p (Zd b.v q)).2=0:=by simpa using he
   have hs:=UY he hl
   rw[<- ht]at hs
   have hnil:l=[]:=List.length_eq_zero_iff.1 (by omega)
   subst hnil
   exact⟨rfl,_,hs,.inr ⟨by omega,by omega,rfl⟩⟩
 ·have hlk:l.length=k:=by omega
  apply a7y (G:=gsX b fs p) (fun n S' _=>n=99∧gsI b fs p (k+1) S'.heap) p q (Zd b.v q) k (l.map Wu) (l.map XY)
  refine⟨hpre,Zj (p,Zd b.v q,()) rfl ?_⟩
  refine Xj (fun he=> ?_) fun he=> ?_
  ·have he:(YR p (Zd b.v q)).2≠0:=by simpa using he
   exact⟨Gv hq he,.inr ⟨k,_,_,rfl⟩⟩
  ·have he:(YR p (Zd b.v q)).2=0:=by simpa using he
   have hs:=UY he hl
   rw[<- ht]at hs
   refine⟨?_,rfl,_,hs,.inr ⟨by omega,by omega,?_⟩⟩
   ·show(k==k&&k==k&&k==k&&3==3&&3==3&&((l.map Wu).map (enc:Int->PV)).length==k&&((l.map XY).map (enc:Int->PV)).length==k&&decide (k<=1000000))=true
    rw[List.length_map,List.length_map,List.length_map,List.length_map,hlk,decide_eq_true (by omega)];simp
   ·unfold hR
    rw[List.map_append,List.map_append,List.map_append,List.map_append]
    rfl
theorem a8d(b:BoxT)(fs:List Fact)(p:List Mono)(l:List Int)(hl:l.length<=20000)(hr : ∀ x∈l,U1 x=true)(R:Int×Int)(hR:R=VB l): ∀ (d i:Nat),d+i=l.length ->
  AtM YH Vq 0 (Za YV (Zm R)) YZ 0 77 [(6,.ptr 0 0),(7,.ptr 1 0),(9,.ptr 2 0),(10,.ptr 3 0),(16,.pv (.int .i64 ((l.map Wu).take i).sum)),(17,.pv (.int .i64 ((l.map XY).take i).sum)),(47,.pv (.int .i64 l.length)),(48,.pv (.int .i64 i))]
   [.obj (.box [.pv (.int .i64 0)]),.obj (.box [.pv (.int .i64 0)]),.obj (.box [.row 4 l.length 0 l.length]),.obj (.box [.row 5 l.length 0 l.length]),.obj (.row false 3 1 ((l.map Wu).map enc)),.obj (.row false 3 1 ((l.map XY).map enc))]:=by
 have hb1 : ∀ i,((l.map Wu).take i).length*(-2147483648:Int)<=((l.map Wu).take i).sum∧((l.map Wu).take i).sum<=((l.map Wu).take i).length*(2147483648:Int):=fun i=>Hd (by
  intro x hx
  obtain⟨n,hn,rfl⟩:=List.mem_map.1 (List.mem_of_mem_take hx)
  exact a9d (hr n hn))
 have hb2 : ∀ i,((l.map XY).take i).length*(0:Int)<=((l.map XY).take i).sum∧((l.map XY).take i).sum<=((l.map XY).take i).length*(2147483647:Int):=fun i=>Hd (by
  intro x hx
  obtain⟨n,hn,rfl⟩:=List.mem_map.1 (List.mem_of_mem_take hx)
  exact b3j n)
 have hc1 : ∀ i,((l.map Wu).take i).length<=20000:=fun i=>by rw[List.length_take,List.length_map];omega
 have hc2 : ∀ i,((l.map XY).take i).length<=20000:=fun i=>by rw[List.length_take,List.length_map];omega
 intro d
 induction d with
 | zero=>
  intro i hi
  apply Tm (G:=Zm R) Vq b fs p
  refine Z0 (Yd (by omega)) ?_
  have e1:(l.map Wu).take i=l.map Wu:=List.take_of_length_le (by rw[List.length_map];omega)
  have e2:(l.map XY).take i=l.map XY:=List.take_of_length_le (by rw[List.length_map];omega)
  have a1:=hb1 i
  have a2:=hb2 i
  have a3:=hc1 i
  have a4:=hc2 i
  rw[e1]at a1 a3
  rw[e2]at a2 a4
  rw[e1,e2,b6w,a1c]
  have hh:Wu (l.map XY).sum=(l.map XY).sum / 2147483648:=rfl
  have hw:IntKind.i64.wrap ((l.map Wu).sum+Wu (l.map XY).sum)=(l.map Wu).sum+Wu (l.map XY).sum:=WS (by rw[hh];omega) (by rw[hh];omega)
  rw[hw]
  refine Zj ([(l.map Wu).sum+Wu (l.map XY).sum,XY (l.map XY).sum],[2147483648,1],()) rfl ?_
  rw[hR,<- Bj hl hr (H:=(l.map Wu).sum+Wu (l.map XY).sum) (L:=XY (l.map XY).sum) rfl rfl]
  exact ZK rfl
 | succ d ih=>
  intro i hi
  have hlt:i<l.length:=by omega
  have hl1:i<(l.map Wu).length:=by rw[List.length_map];omega
  have hl2:i<(l.map XY).length:=by rw[List.length_map];omega
  apply Tm (G:=Zm R) Vq b fs p
  apply ZV (Ya hlt)
  rw[QF hl1,QF hl2]
  refine⟨by simp;omega,by simp;omega,rfl,by simp;omega,by simp;omega,rfl,?_⟩
  rw[next (by omega)]
  show AtM YH _ _ _ _ _ _ [_,_,_,_,(16,.pv (.int .i64 (IntKind.i64.wrap (((l.map Wu).take i).sum+(l.map Wu)[i])))),(17,.pv (.int .i64 (IntKind.i64.wrap (((l.map XY).take i).sum+(l.map XY)[i])))),_,_] _
  have s1:((l.map Wu).take i).sum+(l.map Wu)[i]=((l.map Wu).take (i+1)).sum:=by rw[List.take_succ_eq_append_getElem hl1,List.sum_append];simp
  have s2:((l.map XY).take i).sum+(l.map XY)[i]=((l.map XY).take (i+1)).sum:=by rw[List.take_succ_eq_append_getElem hl2,List.sum_append];simp
  have a1:=hb1 (i+1)
  have a2:=hb2 (i+1)
  have a3:=hc1 (i+1)
  have a4:=hc2 (i+1)
  rw[s1,s2,WS (by omega) (by omega),WS (by omega) (by omega)]
  exact ih (i+1) (by omega)
theorem a6l: ∀ x:BoxT×List Fact×List Mono×Unit,(JJ x.1 x.2.1 x.2.2.1&&(Z9 x.2.2.1&& !(XA x.2.2.1).isEmpty))=true->U3 YH Vq 0 (Za YV (Zm (Ww x.1 x.2.1 x.2.2.1))) YZ [] (Yz b3z (encL x)):=by
 rintro⟨b,fs,p,⟨⟩⟩ hp
 simp only[JJ,Bool.and_eq_true,decide_eq_true_eq]at hp
 obtain⟨⟨⟨⟨⟨h1,h2⟩,h3⟩,h4⟩,h5⟩,h6⟩:=hp
 have key:Zo b fs (Z9 p) (Yy p)=0->Vq 0 ⟨ZF 77 0 [(5,.ptr 0 0),(6,.ptr 1 0),(7,.ptr 2 0),(9,.ptr 3 0),(10,.ptr 4 0),(11,.ptr 5 0),(13,.undef),(14,.undef),(15,.undef),(32,(.fn 177 [] [(.ptr 6 0),(.ptr 7 0)])),(34,.undef),(35,.undef),(36,.undef),(37,.undef),(38,.undef),(39,.undef),(40,.undef),(41,.undef),(42,.undef),(43,.undef),(44,.undef)],
   hN p++[(.obj (.box [(.pv (.sl 1 false (List.map enc b.v))),(.pv (.int .i64 b.m))])),(.obj (.box [(.pv (.sl 3 false (List.map enc fs)))]))]⟩ (fun x S'=>QL YH Vq 0 (Za YV (Zm (Ww b fs p))) YZ 0 x S'):=by
  intro h0
  obtain⟨hv,_⟩:=XZ _ _ _ _ h0
  have h20:=P6 (fs:=fs) hv
  refine⟨rfl,[6,7],[[enc b.v,.int .i64 b.m],[enc fs]],[5,6,7,9,10,11],[],⟨ZF 77 0 [(5,.ptr 0 0),(6,.ptr 1 0),(7,.ptr 2 0),(9,.ptr 3 0),(10,.ptr 4 0),(11,.ptr 5 0)],hN p⟩,gsI b fs p,gsX b fs p,rfl,by simp,rfl,?_,by kernel_rfl,JE hv h2 h4,⟨[],rfl,.inl ⟨rfl,rfl⟩⟩,?_,?_,?_⟩
  ·intro j l' ps hl hps
   match j with
   | 0=>cases hl;cases hps;rfl
   | 1=>cases hl;cases hps;rfl
   | j+2=>simp at hl
  ·intro k x σ hx hI
   rw[H6,List.getElem?_map]at hx
   obtain⟨q,hq,rfl⟩:=Option.map_eq_some_iff.1 hx
   have e:D8 [(13,34)] (Ht [33,34] ((Uq (q,Zd b.v q)).map .pv) (ZF 77 0 [(5,.ptr 0 0),(6,.ptr 1 0),(7,.ptr 2 0),(9,.ptr 3 0),(10,.ptr 4 0),(11,.ptr 5 0)]))=ZF 77 0 [(5,.ptr 0 0),(6,.ptr 1 0),(7,.ptr 2 0),(9,.ptr 3 0),(10,.ptr 4 0),(11,.ptr 5 0),(13,.pv (enc (Zd b.v q))),(33,.pv (enc q)),(34,.pv (enc (Zd b.v q)))]:=by kernel_rfl
   have:=a5j b fs p h5 hv h4 k q σ hq hI
   rw[<- e]at this
   exact this
  ·intro σ hI
   rw[H6,List.length_map]at hI
   obtain⟨l,hl,hσ⟩:=hI
   rw[List.take_length]at hl
   have hT:Ww b fs p=VB l:=by unfold Ww;rw[if_pos h0,hl]
   have hlen:=QU hl
   rcases hσ with ⟨e0,rfl⟩|⟨_,_,rfl⟩
   ·refine a3d (G:=Zm (Ww b fs p)) Vq b fs p ?_
    refine a5e (G:=Zm (Ww b fs p)) Vq b fs p (Zj ([0,0],[2147483648,1],()) rfl ?_)
    have:l=[]:=List.length_eq_zero_iff.1 (by omega)
    rw[hT,this]
    exact ZK (x:=((0:Int),(0:Int))) rfl
   ·refine a5c (G:=Zm (Ww b fs p)) Vq b fs p _ _ _ ?_
    have:=a8d b fs p l (by omega) (Ae hl) (Ww b fs p) hT l.length 0 (by omega)
    rw[hlen]at this
    exact this
  ·intro σ hX
   obtain⟨hn,hσ⟩:=hX
   have hT:Ww b fs p=(0,2):=by unfold Ww;rw[if_pos h0,hn]
   rcases hσ with rfl|⟨n,xs,ys,rfl⟩
   ·exact F6 (G:=Zm (Ww b fs p)) Vq b fs p (by rw[hT];exact ZK (x:=((0:Int),(2:Int))) rfl)
   ·exact OL (G:=Zm (Ww b fs p)) Vq b fs p n xs ys (by rw[hT];exact ZK (x:=((0:Int),(2:Int))) rfl)
 have hbad:Zo b fs (Z9 p) (Yy p)≠0->Zm (Ww b fs p) (.tup [.int .i64 0,.int .i64 (Zo b fs (Z9 p) (Yy p))]):=by
  intro h0
  unfold Ww
  rw[if_neg h0]
  exact ZK (x:=((0:Int),Zo b fs (Z9 p) (Yy p))) rfl
 have hpv:Z9 p=true:=by simp at h6;exact h6.1
 have hne:(XA p).isEmpty=false:=by simp only[Bool.and_eq_true,Bool.not_eq_true']at h6;exact h6.2
 refine c1r Vq b fs p ⟨Zl (p,()) rfl h5,Zj (p,()) rfl ⟨?_,?_⟩⟩
 ·show(XX (List Mono) (enc p)&&Yg (dec (enc p:PV))&&Z9 (dec (enc p:PV))&& !(XA (dec (enc p:PV))).isEmpty)=true
  rw[ZI,Enc.dec_enc,h5,hpv,hne];rfl
 ·have hmd:Ui (enc p)=p:=Enc.dec_enc p
  rw[hmd,PO,Ar,V7]
  have hnl:(Yy p).length<=480:=by
   have a:=a2m p
   have c:=PS p (Hr hpv).2 p.length (Nat.le_refl _)
   unfold U0 at c
   rw[List.take_length]at c
   have:=(Hr hpv).1
   unfold XA at a
   omega
  refine⟨?_,?_⟩
  ·show(XX BoxT (enc b)&&XX (List Fact) (enc fs)&&9==9&&Am (Yy p).length (Yy p).length ((Yy p).map enc)&&decide ((Yy p).length<=1000)&& !((Yy p).map (enc:Str->PV)).isEmpty&&ZT (dec (enc b:PV))&&Zp (dec (enc fs:PV))&&decide ((dec (enc fs:PV):List Fact).length<=100)&&decide (((Yy p).map (enc:Str->PV)).length<=1000))=true
   rw[List.length_map,ZI,ZI,Enc.dec_enc,Enc.dec_enc,Gg rfl (by omega),h1,h2,decide_eq_true h3,decide_eq_true (show(Yy p).length<=1000 by omega)]
   have:((Yy p).map (enc:Str->PV)).isEmpty=false:=by
    have:=a8m hne
    rw[List.isEmpty_eq_false_iff]at this ⊢
    intro h
    exact this (List.map_eq_nil_iff.1 h)
   rw[this];simp
  ·show if (Zo b fs (Z9 p) (Yy p) != 0)=true then _ else _
   by_cases h0:Zo b fs (Z9 p) (Yy p)=0
   ·rw[if_neg (by simp[h0])]
    refine⟨?_,key h0⟩
    show(XX (List Str) (enc b.v)&&XX (List Fact) (enc fs))=true
    rw[ZI,ZI];rfl
   ·rw[if_pos (by simpa using h0)]
    exact hbad h0
end Go.Pl

namespace Go.Pl
open Go.RowKit
open Enc (enc dec is)
open EncL (encL decL isL)
def xN:Str:=⟨[110]⟩
def xM:Str:=⟨[109]⟩
def Kq(a b c:Int):Fact:=⟨false,WW (WW ⟨c,[]⟩ xN a) xM b⟩
end Go.Pl

namespace Go.Pl
open Go.RowKit
open Enc (enc dec is)
open EncL (encL decL isL)
set_option maxRecDepth 100000
def JR:IC:=(.seq (.reg [⟨(some 6),(.alloc (.agg [(.bool false),(.int .i64 0),(.sl 0 true [])])),0,none⟩] none) (.seq (.reg [⟨(some 7),(.mv (.t 2)),0,none⟩,⟨(some 8),(.call (.c (.fn 91)) [(.t 7)]),0,none⟩,⟨(some 9),(.mv (.t 0)),2,none⟩,⟨(some 10),(.call (.c (.fn 89)) [(.t 8),(.c (.str [110])),(.t 9)]),2,none⟩,⟨(some 11),(.mv (.t 1)),4,none⟩,⟨(some 12),(.call (.c (.fn 89)) [(.t 10),(.c (.str [109])),(.t 11)]),4,none⟩,⟨(some 13),(.build [(.bool false),(.int .i64 0),(.sl 0 true [])] [(1,(2,(.t 12)))]),6,none⟩,⟨none,(.store 3 (.t 6) (.t 13)),6,none⟩] none) .ret))
def J9:List IRes:=[(.cell true 3 6)]
abbrev Fv:Nat:=14
def G7:ZE:=Xg [(91,.pure (preT (fun _:Int×Unit=>true)) (Zf (fun x:Int×Unit=>(⟨x.1,[]⟩:Lin)))),(89,.pure (preT (fun x:Lin×Str×Int×Unit=>decide (x.1.t.length<=1000000))) (Zf (fun x:Lin×Str×Int×Unit=>WW x.1 x.2.1 x.2.2.1)))]
theorem a4r{G:PV->Prop}(a b c:Int)(h : ∃ y0:Lin,AV.pv (Zf (fun(x:Int×Unit)=>Lin.mk x.1 []) [(.int .i64 c)])=AV.pv (enc y0)∧((Go.Pl.preT (fun(x:Lin×Str×Int×Unit)=>decide (List.length x.1.t<=1000000)) [(.agg [(.int .i64 y0.k),(.sl 2 false (List.map enc y0.t))]),(.str [(110:UInt8)]),(.int .i64 a)])=true∧(∃ y1:Lin,AV.pv (Zf (fun(x:Lin×Str×Int×Unit)=>WW x.1 x.2.1 x.2.2.1) [(.agg [(.int .i64 y0.k),(.sl 2 false (List.map enc y0.t))]),(.str [(110:UInt8)]),(.int .i64 a)])=AV.pv (enc y1)∧((Go.Pl.preT (fun(x:Lin×Str×Int×Unit)=>decide (List.length x.1.t<=1000000)) [(.agg [(.int .i64 y1.k),(.sl 2 false (List.map enc y1.t))]),(.str [(109:UInt8)]),(.int .i64 b)])=true∧(∃ y2:Lin,AV.pv (Zf (fun(x:Lin×Str×Int×Unit)=>WW x.1 x.2.1 x.2.2.1) [(.agg [(.int .i64 y1.k),(.sl 2 false (List.map enc y1.t))]),(.str [(109:UInt8)]),(.int .i64 b)])=AV.pv (enc y2)∧(G ((.agg [(.bool false),(.int .i64 y2.k),(.sl 2 false (List.map enc y2.t))])))))))):Zc G7 0 (Za J9 G) JR [] (Yz 14 [enc a,enc b,enc c]):=Zc.tp (.lit (.abs (Lin) (fun YY=>AV.pv (enc YY)) (.req (.abs (Lin) (fun YY=>AV.pv (enc YY)) (.req (.abs (Lin) (fun YY=>AV.pv (enc YY)) (.nil))))))) h (by kernel_rfl)
def J8:IC:=(.seq (.reg [⟨(some 0),(.mv (.c (.bool false))),0,none⟩] none) (.seq (.reg [⟨(some 9),(.bslice 9 1 2 (.str []) [(0,(.c (.str [110]))),(1,(.c (.str [109])))]),0,none⟩,⟨(some 10),(.build [(.sl 0 true []),(.int .i64 0)] [(0,(1,(.t 9))),(1,(1,(.c (.int .i64 3))))]),1,none⟩,⟨(some 1),(.alloc (.agg [(.sl 0 true []),(.int .i64 0)])),1,none⟩,⟨none,(.store 2 (.t 1) (.t 10)),2,none⟩] none) (.seq (.reg [⟨(some 11),(.call (.c (.fn 115)) [(.c (.int .i64 1)),(.c (.int .i64 (-1))),(.c (.int .i64 (-1)))]),0,none⟩,⟨(some 12),(.bslice 100 3 1 (.agg [(.bool false),(.int .i64 0),(.sl 0 true [])]) [(0,(.t 11))]),2,none⟩,⟨(some 2),(.mv (.t 12)),3,none⟩] none) (.seq (.reg [⟨(some 14),(.load true [(.sl 1),(.int .i64)] (.t 1)),0,none⟩,⟨(some 15),(.mv (.t 2)),0,none⟩,⟨(some 16),(.call (.c (.fn 47)) [(.t 14),(.t 15)]),0,none⟩,⟨(some 13),(.mv (.t 16)),2,none⟩,⟨(some 17),(.extract (.t 13) 0),2,none⟩,⟨(some 18),(.extract (.t 13) 1),2,none⟩,⟨(some 3),(.mv (.t 17)),2,none⟩,⟨(some 4),(.mv (.t 18)),2,none⟩] none) (.seq (.reg [⟨(some 20),(.load true [(.sl 1),(.int .i64)] (.t 1)),0,none⟩,⟨(some 21),(.mv (.t 2)),0,none⟩,⟨(some 22),(.call (.c (.fn 115)) [(.c (.int .i64 2)),(.c (.int .i64 1)),(.c (.int .i64 0))]),0,none⟩,⟨(some 23),(.field true 1 2 (.t 22)),2,none⟩,⟨(some 24),(.call (.c (.fn 58)) [(.t 20),(.t 21),(.t 23)]),2,none⟩,⟨(some 19),(.mv (.t 24)),4,none⟩,⟨(some 25),(.extract (.t 19) 0),4,none⟩,⟨(some 26),(.extract (.t 19) 1),4,none⟩,⟨(some 5),(.mv (.t 25)),4,none⟩,⟨(some 6),(.mv (.t 26)),4,none⟩] (some [[],[],[],[2],[0,1,3,2],[4,0,1,3,2],[5,4,0,1,3,2],[5,4,0,1,3,2],[6,4,0,1,2,3,5],[7,8,0,1,2,3,4,5,6]])) (.seq (.reg [⟨(some 28),(.load true [(.sl 1),(.int .i64)] (.t 1)),0,none⟩,⟨(some 29),(.mv (.t 2)),0,none⟩,⟨(some 30),(.bslice 9 1 2 (.str []) [(0,(.c (.str [109]))),(1,(.c (.str [110])))]),0,none⟩,⟨(some 31),(.build [(.int .i64 0),(.sl 0 true [])] [(0,(1,(.c (.int .i64 1)))),(1,(1,(.t 30)))]),1,none⟩,⟨(some 32),(.bslice 104 2 1 (.agg [(.int .i64 0),(.sl 0 true [])]) [(0,(.t 31))]),1,none⟩,⟨(some 33),(.call (.c (.fn 57)) [(.t 28),(.t 29),(.t 32)]),2,none⟩,⟨(some 27),(.mv (.t 33)),4,none⟩,⟨(some 34),(.extract (.t 27) 0),4,none⟩,⟨(some 35),(.extract (.t 27) 1),4,none⟩,⟨(some 7),(.mv (.t 34)),4,none⟩,⟨(some 8),(.mv (.t 35)),4,none⟩] none) (.seq (.reg [⟨(some 36),(.mv (.t 3)),0,none⟩,⟨(some 37),(.bin .num .eql (.t 36) (.c (.int .i64 6))),0,none⟩,⟨(some 38),(.mv (.t 37)),0,none⟩,⟨(some 39),(.mv (.t 5)),0,(some (38,true))⟩,⟨(some 40),(.bin .num .eql (.t 39) (.c (.int .i64 2))),0,(some (38,true))⟩,⟨(some 41),(.pick (.t 38) (.t 40) (.c (.bool false))),0,none⟩,⟨(some 42),(.mv (.t 41)),0,none⟩,⟨(some 43),(.mv (.t 7)),0,(some (42,true))⟩,⟨(some 44),(.bin .num .eql (.t 43) (.c (.int .i64 11))),0,(some (42,true))⟩,⟨(some 45),(.pick (.t 42) (.t 44) (.c (.bool false))),0,none⟩,⟨(some 46),(.mv (.t 45)),0,none⟩,⟨(some 47),(.mv (.t 4)),0,(some (46,true))⟩,⟨(some 48),(.bin .num .eql (.t 47) (.c (.int .i64 0))),0,(some (46,true))⟩,⟨(some 49),(.pick (.t 46) (.t 48) (.c (.bool false))),0,none⟩,⟨(some 50),(.mv (.t 49)),0,none⟩,⟨(some 51),(.mv (.t 6)),0,(some (50,true))⟩,⟨(some 52),(.bin .num .eql (.t 51) (.c (.int .i64 0))),0,(some (50,true))⟩,⟨(some 53),(.pick (.t 50) (.t 52) (.c (.bool false))),0,none⟩,⟨(some 54),(.mv (.t 53)),0,none⟩,⟨(some 55),(.mv (.t 8)),0,(some (54,true))⟩,⟨(some 56),(.bin .num .eql (.t 55) (.c (.int .i64 0))),0,(some (54,true))⟩,⟨(some 57),(.pick (.t 54) (.t 56) (.c (.bool false))),0,none⟩,⟨(some 58),(.mv (.t 57)),0,none⟩,⟨(some 59),(.load true [(.sl 1),(.int .i64)] (.t 1)),0,(some (58,true))⟩,⟨(some 60),(.call (.c (.fn 50)) [(.t 59)]),0,(some (58,true))⟩,⟨(some 61),(.pick (.t 58) (.t 60) (.c (.bool false))),2,none⟩,⟨(some 0),(.mv (.t 61)),2,none⟩] none) .ret)))))))
def JH:List IRes:=[(.tmp 0)]
abbrev Ot:Nat:=62
def Dh:ZE:=Xg [(115,.pure (preT (fun _:Int×Int×Int×Unit=>true)) (Zf (fun x:Int×Int×Int×Unit=>Kq x.1 x.2.1 x.2.2.1))),(47,.pure (preT (fun x:BoxT×List Fact×Unit=>ZT x.1&&Zp x.2.1&&decide (x.2.1.length<=100)&&decide (x.1.v.length<=1000))) (Zf (fun x:BoxT×List Fact×Unit=>Dl x.1 x.2.1))),(58,.pure (preT (fun x:BoxT×List Fact×Lin×Unit=>YA x.1 x.2.1 x.2.2.1)) (Zf (fun x:BoxT×List Fact×Lin×Unit=>Yw ZH x.1 x.2.1 x.2.2.1))),(57,.pure (preT (fun x:BoxT×List Fact×List Mono×Unit=>JJ x.1 x.2.1 x.2.2.1)) (Zf (fun x:BoxT×List Fact×List Mono×Unit=>Ww x.1 x.2.1 x.2.2.1))),(50,.pure (preT (fun x:BoxT×Unit=>ZT x.1)) (Zf (fun x:BoxT×Unit=>Xy x.1)))]
theorem a5x{G:PV->Prop}(h : ∃ y0:Fact,AV.pv (Zf (fun(x:Int×Int×Int×Unit)=>Kq x.1 x.2.1 x.2.2.1) [(.int .i64 1),(.int .i64 (-1)),(.int .i64 (-1))])=AV.pv (enc y0)∧((Go.Pl.preT (fun(x:BoxT×List Fact×Unit)=>ZT x.1&&Zp x.2.1&&decide (List.length x.2.1<=100)&&decide (List.length x.1.v<=1000)) [(.agg [(.sl 1 false [(.str [(110:UInt8)]),(.str [(109:UInt8)])]),(.int .i64 3)]),(.sl 3 false [(.agg [(.bool y0.eq),(.int .i64 (Lin.k y0.l)),(.sl 2 false (List.map enc (Lin.t y0.l)))])])])=true∧(∃ y1:Int×Int,AV.pv (Zf (fun(x:BoxT×List Fact×Unit)=>Dl x.1 x.2.1) [(.agg [(.sl 1 false [(.str [(110:UInt8)]),(.str [(109:UInt8)])]),(.int .i64 3)]),(.sl 3 false [(.agg [(.bool y0.eq),(.int .i64 (Lin.k y0.l)),(.sl 2 false (List.map enc (Lin.t y0.l)))])])])=AV.pv (enc y1)∧(∃ y2:Fact,AV.pv (Zf (fun(x:Int×Int×Int×Unit)=>Kq x.1 x.2.1 x.2.2.1) [(.int .i64 2),(.int .i64 1),(.int .i64 0)])=AV.pv (enc y2)∧((Go.Pl.preT (fun(x:BoxT×List Fact×Lin×Unit)=>YA x.1 x.2.1 x.2.2.1) [(.agg [(.sl 1 false [(.str [(110:UInt8)]),(.str [(109:UInt8)])]),(.int .i64 3)]),(.sl 3 false [(.agg [(.bool y0.eq),(.int .i64 (Lin.k y0.l)),(.sl 2 false (List.map enc (Lin.t y0.l)))])]),(.agg [(.int .i64 (Lin.k y2.l)),(.sl 2 false (List.map enc (Lin.t y2.l)))])])=true∧(∃ y3:Int×Int,AV.pv (Zf (fun(x:BoxT×List Fact×Lin×Unit)=>Yw ZH x.1 x.2.1 x.2.2.1) [(.agg [(.sl 1 false [(.str [(110:UInt8)]),(.str [(109:UInt8)])]),(.int .i64 3)]),(.sl 3 false [(.agg [(.bool y0.eq),(.int .i64 (Lin.k y0.l)),(.sl 2 false (List.map enc (Lin.t y0.l)))])]),(.agg [(.int .i64 (Lin.k y2.l)),(.sl 2 false (List.map enc (Lin.t y2.l)))])])=AV.pv (enc y3)∧((Go.Pl.preT (fun(x:BoxT×List Fact×List Mono×Unit)=>JJ x.1 x.2.1 x.2.2.1) [(.agg [(.sl 1 false [(.str [(110:UInt8)]),(.str [(109:UInt8)])]),(.int .i64 3)]),(.sl 3 false [(.agg [(.bool y0.eq),(.int .i64 (Lin.k y0.l)),(.sl 2 false (List.map enc (Lin.t y0.l)))])]),(.sl 2 false [(.agg [(.int .i64 1),(.sl 1 false [(.str [(109:UInt8)]),(.str [(110:UInt8)])])])])])=true∧(∃ y4:Int×Int,AV.pv (Zf (fun(x:BoxT×List Fact×List Mono×Unit)=>Ww x.1 x.2.1 x.2.2.1) [(.agg [(.sl 1 false [(.str [(110:UInt8)]),(.str [(109:UInt8)])]),(.int .i64 3)]),(.sl 3 false [(.agg [(.bool y0.eq),(.int .i64 (Lin.k y0.l)),(.sl 2 false (List.map enc (Lin.t y0.l)))])]),(.sl 2 false [(.agg [(.int .i64 1),(.sl 1 false [(.str [(109:UInt8)]),(.str [(110:UInt8)])])])])])=AV.pv (enc y4)∧(if (y1.1==6)=true then if (y3.1==2)=true then if (y4.1==11)=true then if (y1.2==0)=true then if (y3.2==0)=true then if (y4.2==0)=true then ∃ y5:Bool,AV.pv (Zf (fun(x:BoxT×Unit)=>Xy x.1) [(.agg [(.sl 1 false [(.str [(110:UInt8)]),(.str [(109:UInt8)])]),(.int .i64 3)])])=AV.pv (enc y5)∧(G ((.bool y5)))else(G ((.bool false)))else(G ((.bool false)))else(G ((.bool false)))else(G ((.bool false)))else(G ((.bool false)))else(G ((.bool false)))))))))))):Zc Dh 0 (Za JH G) J8 [] (Yz 62 []):=Zc.tp (.lit (.lit (.abs (Fact) (fun YY=>AV.pv (enc YY)) (.lit (.lit (.lit (.req (.abs (Int×Int) (fun YY=>AV.pv (enc YY)) (.lit (.abs (Fact) (fun YY=>AV.pv (enc YY)) (.lit (.lit (.req (.abs (Int×Int) (fun YY=>AV.pv (enc YY)) (.lit (.lit (.lit (.lit (.lit (.lit (.req (.abs (Int×Int) (fun YY=>AV.pv (enc YY)) (.lit (.ask (.lit (.lit (.lit (.ask (.lit (.lit (.lit (.ask (.lit (.lit (.lit (.ask (.lit (.lit (.lit (.ask (.lit (.lit (.lit (.ask (.lit (.lit (.lit (.abs (Bool) (fun YY=>AV.pv (enc YY)) (.lit (.nil)))))) (.lit (.lit (.nil))))))) (.lit (.lit (.lit (.lit (.lit (.nil)))))))))) (.lit (.lit (.lit (.lit (.lit (.lit (.lit (.lit (.nil))))))))))))) (.lit (.lit (.lit (.lit (.lit (.lit (.lit (.lit (.lit (.lit (.lit (.nil)))))))))))))))) (.lit (.lit (.lit (.lit (.lit (.lit (.lit (.lit (.lit (.lit (.lit (.lit (.lit (.lit (.nil))))))))))))))))))) (.lit (.lit (.lit (.lit (.lit (.lit (.lit (.lit (.lit (.lit (.lit (.lit (.lit (.lit (.lit (.lit (.lit (.nil)))))))))))))))))))))))))))))))))))))))))) h (by kernel_rfl)
end Go.Pl

namespace Go.Pl
open Go.RowKit
open Enc (enc dec is)
open EncL (encL decL isL)
theorem Nv: ∀ x:Int×Int×Int×Unit,(fun _:Int×Int×Int×Unit=>true) x=true->Zc G7 0 (Za J9 (Zm (Kq x.1 x.2.1 x.2.2.1))) JR [] (Yz Fv (encL x)):=by
 rintro⟨a,b,c,⟨⟩⟩ -
 have h1:=b5z ⟨c,[]⟩ xN a
 refine a4r a b c (Zj (c,()) rfl ⟨Zl ((⟨c,[]⟩:Lin),xN,a,()) rfl rfl,Zj ((⟨c,[]⟩:Lin),xN,a,()) rfl ⟨Zl (WW ⟨c,[]⟩ xN a,xM,b,()) rfl ?_,Zj (WW ⟨c,[]⟩ xN a,xM,b,()) rfl ?_⟩⟩)
 ·exact decide_eq_true (Nat.le_trans h1 (show 0+1<=1000000 by decide))
 ·exact ZK (x:=Kq a b c) rfl
def GK:BoxT:=⟨[xN,xM],3⟩
def De:Fact:=⟨false,⟨-1,[⟨xM,-1⟩,⟨xN,1⟩]⟩⟩
def a3b:Lin:=⟨0,[⟨xM,1⟩,⟨xN,2⟩]⟩
def b5w:List Mono:=[⟨1,[xM,xN]⟩]
theorem b8h:Kq 1 (-1) (-1)=De:=by decide
theorem c5f:(Kq 2 1 0).l=a3b:=by decide
theorem Og:ZR GK [De]=[[1,0],[2,0],[2,1],[3,0],[3,1],[3,2]]:=by kernel_rfl
theorem b0b:Zo GK [De] true [xM,xN]=0:=by kernel_rfl
theorem c1k:Zo GK [De] true []=0:=by kernel_rfl
theorem b4e:Dl GK [De]=(6,0):=by
 unfold Dl Xd
 rw[if_pos c1k,Og];rfl
theorem b5q:Yw ZH GK [De] a3b=(2,0):=by
 have h1:Zg a3b=true:=by kernel_rfl
 have h2:Ze a3b=[xM,xN]:=rfl
 unfold Yw Zt
 rw[h1,h2,if_pos b0b,Og]
 decide +kernel
theorem c4v:Ww GK [De] b5w=(11,0):=by
 have h1:Z9 b5w=true:=by kernel_rfl
 have h2:Yy b5w=[xM,xN]:=by rw[Tp];kernel_rfl
 unfold Ww
 rw[h1,h2,if_pos b0b,Og]
 decide +kernel
theorem LC: ∀ a:Unit,(fun _:Unit=>true) a=true->Zc Dh 0 (Za JH (Zm true)) J8 [] (Yz Ot (encL a)):=by
 rintro⟨⟩ -
 refine a5x (Zj ((1:Int),(-1:Int),(-1:Int),()) rfl ?_)
 simp only[b8h]
 refine⟨Zl (GK,[De],()) rfl (by decide),Zj (GK,[De],()) rfl (Zj ((2:Int),(1:Int),(0:Int),()) rfl ?_)⟩
 simp only[b4e,c5f]
 refine⟨Zl (GK,[De],a3b,()) rfl (by decide),Zj (GK,[De],a3b,()) rfl ?_⟩
 simp only[b5q]
 refine⟨Zl (GK,[De],b5w,()) rfl (by decide),Zj (GK,[De],b5w,()) rfl ?_⟩
 simp only[c4v]
 refine ZV rfl (ZV rfl (ZV rfl (ZV rfl (ZV rfl (ZV rfl (Zj (GK,()) rfl (ZZ ?_)))))))
 kernel_rfl
end Go.Pl

namespace Go.Pl
open Go.RowKit
open Enc (enc dec is)
open EncL (encL decL isL)
set_option maxRecDepth 100000
def YU:IC:=(.seq (.reg [⟨(some 3),(.box 2 (.t 0)),0,none⟩,⟨(some 5),(.box 2 (.t 2)),1,none⟩,⟨(some 6),(.mv (.c (.bool false))),2,none⟩] none) (.seq (.seq (.reg [⟨(some 21),(.call (.c (.fn 43)) []),0,none⟩,⟨(some 22),(.un .not (.t 21)),2,none⟩] none) (.cond (.t 22) (.seq (.reg [⟨(some 6),(.mv (.c (.bool false))),0,none⟩] none) .ret) .skip)) (.seq (.seq (.reg [⟨(some 23),(.load true [(.sl 1),(.int .i64)] (.t 3)),0,none⟩,⟨(some 24),(.mv (.t 1)),0,none⟩,⟨(some 25),(.call (.c (.fn 44)) [(.t 23),(.t 24)]),0,none⟩,⟨(some 26),(.un .not (.t 25)),2,none⟩,⟨(some 27),(.mv (.t 26)),2,none⟩,⟨(some 28),(.load true [(.int .i64),(.sl 2)] (.t 5)),2,(some (27,false))⟩,⟨(some 29),(.call (.c (.fn 16)) [(.t 28),(.c (.int .i64 6))]),2,(some (27,false))⟩,⟨(some 30),(.un .not (.t 29)),4,(some (27,false))⟩,⟨(some 31),(.pick (.t 27) (.c (.bool true)) (.t 30)),4,none⟩] none) (.cond (.t 31) (.seq (.reg [⟨(some 6),(.mv (.c (.bool true))),0,none⟩] none) .ret) .skip)) (.seq (.reg [⟨(some 32),(.load true [(.sl 1),(.int .i64)] (.t 3)),0,none⟩,⟨(some 7),(.alloc (.agg [(.sl 0 true []),(.int .i64 0)])),0,none⟩,⟨none,(.store 2 (.t 7) (.t 32)),1,none⟩] none) (.seq (.reg [⟨(some 34),(.load true [(.sl 1),(.int .i64)] (.t 7)),0,none⟩,⟨(some 35),(.mv (.t 1)),0,none⟩,⟨(some 36),(.call (.c (.fn 45)) [(.t 34),(.t 35)]),0,none⟩,⟨(some 33),(.mv (.t 36)),2,none⟩,⟨(some 37),(.extract (.t 33) 0),2,none⟩,⟨(some 38),(.extract (.t 33) 1),2,none⟩,⟨(some 8),(.mv (.t 37)),2,none⟩,⟨(some 9),(.mv (.t 38)),2,none⟩] none) (.seq (.reg [⟨(some 40),(.load true [(.sl 1),(.int .i64)] (.t 7)),0,none⟩,⟨(some 41),(.mv (.t 1)),0,none⟩,⟨(some 42),(.load true [(.int .i64),(.sl 2)] (.t 5)),0,none⟩,⟨(some 43),(.call (.c (.fn 58)) [(.t 40),(.t 41),(.t 42)]),0,none⟩,⟨(some 39),(.mv (.t 43)),2,none⟩,⟨(some 44),(.extract (.t 39) 0),2,none⟩,⟨(some 45),(.extract (.t 39) 1),2,none⟩,⟨(some 10),(.mv (.t 44)),2,none⟩,⟨(some 11),(.mv (.t 45)),2,none⟩] none) (.seq (.reg [⟨(some 47),(.load true [(.sl 1),(.int .i64)] (.t 7)),0,none⟩,⟨(some 48),(.mv (.t 1)),0,none⟩,⟨(some 49),(.load true [(.int .i64),(.sl 2)] (.t 5)),0,none⟩,⟨(some 50),(.call (.c (.fn 62)) [(.t 47),(.t 48),(.t 49)]),0,none⟩,⟨(some 46),(.mv (.t 50)),2,none⟩,⟨(some 51),(.extract (.t 46) 0),2,none⟩,⟨(some 52),(.extract (.t 46) 1),2,none⟩,⟨(some 12),(.mv (.t 51)),2,none⟩,⟨(some 13),(.mv (.t 52)),2,none⟩] none) (.seq (.seq (.reg [⟨(some 53),(.mv (.t 11)),0,none⟩,⟨(some 54),(.mv (.t 13)),0,none⟩,⟨(some 55),(.bin .num .neq (.t 53) (.t 54)),0,none⟩,⟨(some 56),(.mv (.t 55)),0,none⟩,⟨(some 57),(.mv (.t 9)),0,(some (56,false))⟩,⟨(some 58),(.bin .num .eql (.t 57) (.c (.int .i64 0))),0,(some (56,false))⟩,⟨(some 59),(.mv (.t 58)),0,(some (56,false))⟩,⟨(some 60),(.mv (.t 8)),0,(some (59,true))⟩,⟨(some 61),(.len 1 (.t 60)),0,(some (59,true))⟩,⟨(some 62),(.bin .num .eql (.t 61) (.c (.int .i64 0))),0,(some (59,true))⟩,⟨(some 63),(.pick (.t 59) (.t 62) (.c (.bool false))),0,(some (56,false))⟩,⟨(some 64),(.mv (.t 63)),0,(some (56,false))⟩,⟨(some 65),(.mv (.t 11)),0,(some (64,true))⟩,⟨(some 66),(.bin .num .eql (.t 65) (.c (.int .i64 0))),0,(some (64,true))⟩,⟨(some 67),(.pick (.t 64) (.t 66) (.c (.bool false))),0,(some (56,false))⟩,⟨(some 68),(.pick (.t 56) (.c (.bool true)) (.t 67)),0,none⟩] none) (.cond (.t 68) (.seq (.reg [⟨(some 6),(.mv (.c (.bool false))),0,none⟩] none) .ret) .skip)) (.seq (.seq (.reg [⟨(some 69),(.mv (.t 11)),0,none⟩,⟨(some 70),(.bin .num .neq (.t 69) (.c (.int .i64 0))),0,none⟩] none) (.cond (.t 70) (.seq (.reg [⟨(some 71),(.mv (.t 10)),0,none⟩,⟨(some 72),(.bin .num .eql (.t 71) (.c (.int .i64 0))),0,none⟩,⟨(some 73),(.mv (.t 72)),0,none⟩,⟨(some 74),(.mv (.t 12)),0,(some (73,true))⟩,⟨(some 75),(.bin .num .eql (.t 74) (.c (.int .i64 0))),0,(some (73,true))⟩,⟨(some 76),(.pick (.t 73) (.t 75) (.c (.bool false))),0,none⟩,⟨(some 6),(.mv (.t 76)),0,none⟩] none) .ret) .skip)) (.seq (.reg [⟨(some 14),(.mv (.c (.bool false))),0,none⟩,⟨(some 15),(.mv (.c (.bool false))),0,none⟩] none) (.seq (.seq (.reg [⟨(some 16),(.mv (.c (.int .i64 0))),0,none⟩] none) (.block 0 (.loop [16,8,5,3,10,12,14,15,7,1] (.seq (.seq (.reg [⟨(some 77),(.mv (.t 16)),0,none⟩,⟨(some 78),(.mv (.t 8)),0,none⟩,⟨(some 79),(.len 1 (.t 78)),0,none⟩,⟨(some 80),(.bin .num .lss (.t 77) (.t 79)),0,none⟩] none) (.cond (.t 80) .skip (.exit 0))) (.seq (.block 1 (.seq (.reg [⟨(some 84),(.load true [(.int .i64),(.sl 2)] (.t 5)),0,none⟩,⟨(some 85),(.load true [(.sl 1),(.int .i64)] (.t 3)),0,none⟩,⟨(some 86),(.mv (.t 8)),0,none⟩,⟨(some 87),(.mv (.t 16)),0,none⟩,⟨(some 88),(.iaddr 1 (.t 86) (.t 87)),0,none⟩,⟨(some 89),(.load false [(.sl 1)] (.t 88)),0,none⟩,⟨(some 90),(.call (.c (.fn 49)) [(.t 85),(.t 89)]),0,none⟩,⟨(some 91),(.call (.c (.fn 65)) [(.t 84),(.t 90)]),2,none⟩,⟨(some 83),(.mv (.t 91)),4,none⟩,⟨(some 92),(.extract (.t 83) 0),4,none⟩,⟨(some 93),(.extract (.t 83) 1),4,none⟩,⟨(some 17),(.mv (.t 92)),4,none⟩,⟨(some 18),(.mv (.t 93)),4,none⟩] (some [[],[],[],[],[2,3],[4,2,3],[1,5,4,2,3],[0,6,1,5,4,2,3],[7,0,6,1,5,4,2,3],[8,7,0,6,1,5,4,2,3],[8,7,0,6,1,5,4,2,3],[9,7,0,1,2,3,4,5,6,8],[10,11,0,1,2,3,4,5,6,7,8,9]])) (.seq (.seq (.reg [⟨(some 94),(.mv (.t 18)),0,none⟩,⟨(some 95),(.bin .num .neq (.t 94) (.c (.int .i64 0))),0,none⟩,⟨(some 96),(.mv (.t 95)),0,none⟩,⟨(some 97),(.mv (.t 17)),0,(some (96,false))⟩,⟨(some 98),(.mv (.t 10)),0,(some (96,false))⟩,⟨(some 99),(.bin .num .lss (.t 97) (.t 98)),0,(some (96,false))⟩,⟨(some 100),(.pick (.t 96) (.c (.bool true)) (.t 99)),0,none⟩,⟨(some 101),(.mv (.t 100)),0,none⟩,⟨(some 102),(.mv (.t 17)),0,(some (101,false))⟩,⟨(some 103),(.mv (.t 12)),0,(some (101,false))⟩,⟨(some 104),(.bin .num .gtr (.t 102) (.t 103)),0,(some (101,false))⟩,⟨(some 105),(.pick (.t 101) (.c (.bool true)) (.t 104)),0,none⟩] none) (.cond (.t 105) (.seq (.reg [⟨(some 6),(.mv (.c (.bool false))),0,none⟩] none) .ret) .skip)) (.reg [⟨(some 106),(.mv (.t 14)),0,none⟩,⟨(some 107),(.mv (.t 106)),0,none⟩,⟨(some 108),(.mv (.t 17)),0,(some (107,false))⟩,⟨(some 109),(.mv (.t 10)),0,(some (107,false))⟩,⟨(some 110),(.bin .num .eql (.t 108) (.t 109)),0,(some (107,false))⟩,⟨(some 111),(.pick (.t 107) (.c (.bool true)) (.t 110)),0,none⟩,⟨(some 112),(.mv (.t 15)),0,none⟩,⟨(some 113),(.mv (.t 112)),0,none⟩,⟨(some 114),(.mv (.t 17)),0,(some (113,false))⟩,⟨(some 115),(.mv (.t 12)),0,(some (113,false))⟩,⟨(some 116),(.bin .num .eql (.t 114) (.t 115)),0,(some (113,false))⟩,⟨(some 117),(.pick (.t 113) (.c (.bool true)) (.t 116)),0,none⟩,⟨(some 14),(.mv (.t 111)),0,none⟩,⟨(some 15),(.mv (.t 117)),0,none⟩] none)))) (.reg [⟨(some 81),(.mv (.t 16)),0,none⟩,⟨(some 82),(.bin .num .add (.t 81) (.c (.int .i64 1))),0,none⟩,⟨(some 16),(.mv (.t 82)),0,none⟩] none)))))) (.seq (.reg [⟨(some 119),(.load true [(.sl 1),(.int .i64)] (.t 7)),0,none⟩,⟨(some 120),(.mv (.t 1)),0,none⟩,⟨(some 121),(.build [(.int .i64 0),(.sl 0 true [])] []),0,none⟩,⟨(some 122),(.load true [(.int .i64),(.sl 2)] (.t 5)),0,none⟩,⟨(some 123),(.call (.c (.fn 66)) [(.t 121),(.t 122),(.c (.int .i64 (-1)))]),0,none⟩,⟨(some 124),(.call (.c (.fn 58)) [(.t 119),(.t 120),(.t 123)]),2,none⟩,⟨(some 118),(.mv (.t 124)),4,none⟩,⟨(some 125),(.extract (.t 118) 0),4,none⟩,⟨(some 126),(.extract (.t 118) 1),4,none⟩,⟨(some 19),(.mv (.t 125)),4,none⟩,⟨(some 20),(.mv (.t 126)),4,none⟩] (some [[],[],[],[],[2,3],[0,1,4,2,3],[5,0,1,4,2,3],[6,5,0,1,4,2,3],[6,5,0,1,4,2,3],[7,5,0,1,2,3,4,6],[8,9,0,1,2,3,4,5,6,7]])) (.seq (.reg [⟨(some 127),(.mv (.t 14)),0,none⟩,⟨(some 128),(.mv (.t 127)),0,none⟩,⟨(some 129),(.mv (.t 15)),0,(some (128,true))⟩,⟨(some 130),(.pick (.t 128) (.t 129) (.c (.bool false))),0,none⟩,⟨(some 131),(.mv (.t 130)),0,none⟩,⟨(some 132),(.mv (.t 20)),0,(some (131,true))⟩,⟨(some 133),(.bin .num .eql (.t 132) (.c (.int .i64 0))),0,(some (131,true))⟩,⟨(some 134),(.pick (.t 131) (.t 133) (.c (.bool false))),0,none⟩,⟨(some 135),(.mv (.t 134)),0,none⟩,⟨(some 136),(.mv (.t 19)),0,(some (135,true))⟩,⟨(some 137),(.mv (.t 12)),0,(some (135,true))⟩,⟨(some 138),(.un .neg (.t 137)),0,(some (135,true))⟩,⟨(some 139),(.bin .num .eql (.t 136) (.t 138)),0,(some (135,true))⟩,⟨(some 140),(.pick (.t 135) (.t 139) (.c (.bool false))),0,none⟩,⟨(some 6),(.mv (.t 140)),0,none⟩] none) .ret)))))))))))))
def YT:List IRes:=[(.tmp 6)]
abbrev a6a:Nat:=141
def Xt:ZE:=Xg [(43,.pure (preT (fun _:Unit=>true)) (Zf (fun _:Unit=>true))),(44,.pure (preT (fun x:BoxT×List Fact×Unit=>ZT x.1&&YQ x.2.1)) (Zf (fun x:BoxT×List Fact×Unit=>Qb x.1 x.2.1))),(16,.pure (preT (fun x:Lin×Int×Unit=>YC x.1)) (Zf (fun x:Lin×Int×Unit=>KG x.1 x.2.1))),(45,.pure (preT (fun x:BoxT×List Fact×Unit=>ZT x.1&&Zp x.2.1&&decide (x.2.1.length<=100)&&decide (x.1.v.length<=1000))) (Zf (fun x:BoxT×List Fact×Unit=>Xd x.1 x.2.1))),(58,.pure (preT (fun x:BoxT×List Fact×Lin×Unit=>YA x.1 x.2.1 x.2.2.1)) (Zf (fun x:BoxT×List Fact×Lin×Unit=>Yw ZH x.1 x.2.1 x.2.2.1))),(62,.pure (preT (fun x:BoxT×List Fact×Lin×Unit=>YA x.1 x.2.1 x.2.2.1)) (Zf (fun x:BoxT×List Fact×Lin×Unit=>Yw Z5 x.1 x.2.1 x.2.2.1))),(49,.pure (preT (fun x:BoxT×List Int×Unit=>decide (x.1.v.length<=1000)&&Zx x.2.1)) (Zf (fun x:BoxT×List Int×Unit=>Zd x.1.v x.2.1))),(65,.pure (preT (fun x:Lin×List Coef×Unit=>YC x.1&&decide (x.2.1.length<=9223372036854775807))) (Zf (fun x:Lin×List Coef×Unit=>ZX x.1 x.2.1))),(66,.pure (preT (fun x:Lin×Lin×Int×Unit=>decide (x.1.t.length<=500000)&&decide (x.2.1.t.length<=500000))) (Zf (fun x:Lin×Lin×Int×Unit=>Vm x.1 x.2.1 x.2.2.1)))]
theorem b4l{G:PV->Prop}(b:BoxT)(fs:List Fact)(l:Lin)(h : ∃ y0:Bool,AV.pv (Zf (fun(x:Unit)=>true) [])=AV.pv (enc y0)∧(if (!y0)=true then G ((.bool false))else((Go.Pl.preT (fun(x:BoxT×List Fact×Unit)=>ZT x.1&&YQ x.2.1) [(.agg [(.sl 1 false (List.map enc b.v)),(.int .i64 b.m)]),(.sl 3 false (List.map enc fs))])=true∧(∃ y1:Bool,AV.pv (Zf (fun(x:BoxT×List Fact×Unit)=>Qb x.1 x.2.1) [(.agg [(.sl 1 false (List.map enc b.v)),(.int .i64 b.m)]),(.sl 3 false (List.map enc fs))])=AV.pv (enc y1)∧(if (!y1)=true then G ((.bool true))else((Go.Pl.preT (fun(x:Lin×Int×Unit)=>YC x.1) [(.agg [(.int .i64 l.k),(.sl 2 false (List.map enc l.t))]),(.int .i64 6)])=true∧(∃ y2:Bool,AV.pv (Zf (fun(x:Lin×Int×Unit)=>KG x.1 x.2.1) [(.agg [(.int .i64 l.k),(.sl 2 false (List.map enc l.t))]),(.int .i64 6)])=AV.pv (enc y2)∧(if (!y2)=true then G ((.bool true))else((Go.Pl.preT (fun(x:BoxT×List Fact×Unit)=>ZT x.1&&Zp x.2.1&&decide (List.length x.2.1<=100)&&decide (List.length x.1.v<=1000)) [(.agg [(.sl 1 false (List.map enc b.v)),(.int .i64 b.m)]),(.sl 3 false (List.map enc fs))])=true∧(∃ y3:List (List Int)×Int,AV.pv (Zf (fun(x:BoxT×List Fact×Unit)=>Xd x.1 x.2.1) [(.agg [(.sl 1 false (List.map enc b.v)),(.int .i64 b.m)]),(.sl 3 false (List.map enc fs))])=AV.pv (enc y3)∧((Go.Pl.preT (fun(x:BoxT×List Fact×Lin×Unit)=>YA x.1 x.2.1 x.2.2.1) [(.agg [(.sl 1 false (List.map enc b.v)),(.int .i64 b.m)]),(.sl 3 false (List.map enc fs)),(.agg [(.int .i64 l.k),(.sl 2 false (List.map enc l.t))])])=true∧(∃ y4:Int×Int,AV.pv (Zf (fun(x:BoxT×List Fact×Lin×Unit)=>Yw ZH x.1 x.2.1 x.2.2.1) [(.agg [(.sl 1 false (List.map enc b.v)),(.int .i64 b.m)]),(.sl 3 false (List.map enc fs)),(.agg [(.int .i64 l.k),(.sl 2 false (List.map enc l.t))])])=AV.pv (enc y4)∧((Go.Pl.preT (fun(x:BoxT×List Fact×Lin×Unit)=>YA x.1 x.2.1 x.2.2.1) [(.agg [(.sl 1 false (List.map enc b.v)),(.int .i64 b.m)]),(.sl 3 false (List.map enc fs)),(.agg [(.int .i64 l.k),(.sl 2 false (List.map enc l.t))])])=true∧(∃ y5:Int×Int,AV.pv (Zf (fun(x:BoxT×List Fact×Lin×Unit)=>Yw Z5 x.1 x.2.1 x.2.2.1) [(.agg [(.sl 1 false (List.map enc b.v)),(.int .i64 b.m)]),(.sl 3 false (List.map enc fs)),(.agg [(.int .i64 l.k),(.sl 2 false (List.map enc l.t))])])=AV.pv (enc y5)∧(if (y4.2 != y5.2)=true then G ((.bool false))else(if (y3.2==0)=true then if ((↑(List.length (List.map enc y3.1)):Int)==0)=true then if (y4.2==0)=true then G ((.bool false))else(if (y4.2 != 0)=true then if (y4.1==0)=true then G ((.bool (y5.1==0)))else(G ((.bool false)))else(At Xt 0 (Za YT G) YU 0 141 [(1,(.pv (.sl 3 false (List.map enc fs)))),(3,(.ptr 0 0)),(5,(.ptr 1 0)),(7,(.ptr 2 0)),(8,(.pv (.sl 1 false (List.map enc y3.1)))),(10,(.pv (.int .i64 y4.1))),(12,(.pv (.int .i64 y5.1))),(14,(.pv (.bool false))),(15,(.pv (.bool false))),(16,(.pv (.int .i64 0)))] [(.obj (.box [(.pv (.sl 1 false (List.map enc b.v))),(.pv (.int .i64 b.m))])),(.obj (.box [(.pv (.int .i64 l.k)),(.pv (.sl 2 false (List.map enc l.t)))])),(.obj (.box [(.pv (.sl 1 false (List.map enc b.v))),(.pv (.int .i64 b.m))]))]))else(if (y4.2 != 0)=true then if (y4.1==0)=true then G ((.bool (y5.1==0)))else(G ((.bool false)))else(At Xt 0 (Za YT G) YU 0 141 [(1,(.pv (.sl 3 false (List.map enc fs)))),(3,(.ptr 0 0)),(5,(.ptr 1 0)),(7,(.ptr 2 0)),(8,(.pv (.sl 1 false (List.map enc y3.1)))),(10,(.pv (.int .i64 y4.1))),(12,(.pv (.int .i64 y5.1))),(14,(.pv (.bool false))),(15,(.pv (.bool false))),(16,(.pv (.int .i64 0)))] [(.obj (.box [(.pv (.sl 1 false (List.map enc b.v))),(.pv (.int .i64 b.m))])),(.obj (.box [(.pv (.int .i64 l.k)),(.pv (.sl 2 false (List.map enc l.t)))])),(.obj (.box [(.pv (.sl 1 false (List.map enc b.v))),(.pv (.int .i64 b.m))]))]))else(if (y4.2 != 0)=true then if (y4.1==0)=true then G ((.bool (y5.1==0)))else(G ((.bool false)))else(At Xt 0 (Za YT G) YU 0 141 [(1,(.pv (.sl 3 false (List.map enc fs)))),(3,(.ptr 0 0)),(5,(.ptr 1 0)),(7,(.ptr 2 0)),(8,(.pv (.sl 1 false (List.map enc y3.1)))),(10,(.pv (.int .i64 y4.1))),(12,(.pv (.int .i64 y5.1))),(14,(.pv (.bool false))),(15,(.pv (.bool false))),(16,(.pv (.int .i64 0)))] [(.obj (.box [(.pv (.sl 1 false (List.map enc b.v))),(.pv (.int .i64 b.m))])),(.obj (.box [(.pv (.int .i64 l.k)),(.pv (.sl 2 false (List.map enc l.t)))])),(.obj (.box [(.pv (.sl 1 false (List.map enc b.v))),(.pv (.int .i64 b.m))]))])))))))))))))))))):Zc Xt 0 (Za YT G) YU [] (Yz 141 [enc b,enc fs,enc l]):=Zc.tp (.lit (.abs (Bool) (fun YY=>AV.pv (enc YY)) (.ask (.nil) (.req (.abs (Bool) (fun YY=>AV.pv (enc YY)) (.ask (.lit (.lit (.lit (.lit (.nil))))) (.lit (.req (.abs (Bool) (fun YY=>AV.pv (enc YY)) (.lit (.lit (.ask (.nil) (.req (.abs (List (List Int)×Int) (fun YY=>AV.pv (enc YY)) (.req (.abs (Int×Int) (fun YY=>AV.pv (enc YY)) (.req (.abs (Int×Int) (fun YY=>AV.pv (enc YY)) (.lit (.ask (.lit (.lit (.lit (.lit (.lit (.lit (.lit (.nil)))))))) (.lit (.lit (.lit (.ask (.lit (.lit (.lit (.lit (.lit (.lit (.ask (.lit (.lit (.lit (.lit (.lit (.ask (.nil) (.lit (.ask (.lit (.ask (.lit (.lit (.lit (.nil)))) (.lit (.lit (.nil))))) (.nil))))))))) (.lit (.lit (.lit (.lit (.lit (.lit (.ask (.lit (.ask (.lit (.lit (.lit (.nil)))) (.lit (.lit (.nil))))) (.nil))))))))))))))) (.lit (.lit (.lit (.lit (.lit (.lit (.lit (.lit (.lit (.lit (.lit (.lit (.ask (.lit (.ask (.lit (.lit (.lit (.nil)))) (.lit (.lit (.nil))))) (.nil)))))))))))))))))))))))))))))))))))))) h (by kernel_rfl)
theorem SV{G:PV->Prop}(b:BoxT)(fs:List Fact)(l:Lin)(x:List (List Int))(lo hi:Int)(low high:Bool)(i:Int)(h:if (decide (i<(↑(List.length (List.map enc x)):Int)))=true then(decide (0<=i)&&decide (Int.toNat i<List.length (List.map enc x))&&Enc.sz (List Int)==1)=true∧(∃ y0:List Int,AV.pv (PV.rptr (PV.cells (List.getD (List.map enc x) (Int.toNat i) default)))=AV.pv (PV.rptr (PV.cells ((enc) y0)))∧((Go.Pl.preT (fun(x:BoxT×List Int×Unit)=>decide (List.length x.1.v<=1000)&&Zx x.2.1) [(.agg [(.sl 1 false (List.map enc b.v)),(.int .i64 b.m)]),(.sl 1 false (PV.asXs (List.getD (PV.cells (enc y0)) 0 default)))])=true∧(∃ y1:List Coef,AV.pv (Zf (fun(x:BoxT×List Int×Unit)=>Zd x.1.v x.2.1) [(.agg [(.sl 1 false (List.map enc b.v)),(.int .i64 b.m)]),(.sl 1 false (PV.asXs (List.getD (PV.cells (enc y0)) 0 default)))])=AV.pv (enc y1)∧((Go.Pl.preT (fun(x:Lin×List Coef×Unit)=>YC x.1&&decide (List.length x.2.1<=9223372036854775807)) [(.agg [(.int .i64 l.k),(.sl 2 false (List.map enc l.t))]),(.sl 2 false (List.map enc y1))])=true∧(∃ y2:Int×Int,AV.pv (Zf (fun(x:Lin×List Coef×Unit)=>ZX x.1 x.2.1) [(.agg [(.int .i64 l.k),(.sl 2 false (List.map enc l.t))]),(.sl 2 false (List.map enc y1))])=AV.pv (enc y2)∧(if (y2.2 != 0)=true then G ((.bool false))else(if (decide (y2.1<lo))=true then G ((.bool false))else(if (decide (y2.1>hi))=true then G ((.bool false))else(if (low)=true then if (high)=true then At Xt 0 (Za YT G) YU 0 141 [(1,(.pv (.sl 3 false (List.map enc fs)))),(3,(.ptr 0 0)),(5,(.ptr 1 0)),(7,(.ptr 2 0)),(8,(.pv (.sl 1 false (List.map enc x)))),(10,(.pv (.int .i64 lo))),(12,(.pv (.int .i64 hi))),(14,(.pv (.bool true))),(15,(.pv (.bool true))),(16,(.pv (.int .i64 (IntKind.wrap IntKind.i64 (i+1)))))] [(.obj (.box [(.pv (.sl 1 false (List.map enc b.v))),(.pv (.int .i64 b.m))])),(.obj (.box [(.pv (.int .i64 l.k)),(.pv (.sl 2 false (List.map enc l.t)))])),(.obj (.box [(.pv (.sl 1 false (List.map enc b.v))),(.pv (.int .i64 b.m))]))]else(At Xt 0 (Za YT G) YU 0 141 [(1,(.pv (.sl 3 false (List.map enc fs)))),(3,(.ptr 0 0)),(5,(.ptr 1 0)),(7,(.ptr 2 0)),(8,(.pv (.sl 1 false (List.map enc x)))),(10,(.pv (.int .i64 lo))),(12,(.pv (.int .i64 hi))),(14,(.pv (.bool true))),(15,(.pv (.bool (y2.1==hi)))),(16,(.pv (.int .i64 (IntKind.wrap IntKind.i64 (i+1)))))] [(.obj (.box [(.pv (.sl 1 false (List.map enc b.v))),(.pv (.int .i64 b.m))])),(.obj (.box [(.pv (.int .i64 l.k)),(.pv (.sl 2 false (List.map enc l.t)))])),(.obj (.box [(.pv (.sl 1 false (List.map enc b.v))),(.pv (.int .i64 b.m))]))])else(if (high)=true then At Xt 0 (Za YT G) YU 0 141 [(1,(.pv (.sl 3 false (List.map enc fs)))),(3,(.ptr 0 0)),(5,(.ptr 1 0)),(7,(.ptr 2 0)),(8,(.pv (.sl 1 false (List.map enc x)))),(10,(.pv (.int .i64 lo))),(12,(.pv (.int .i64 hi))),(14,(.pv (.bool (y2.1==lo)))),(15,(.pv (.bool true))),(16,(.pv (.int .i64 (IntKind.wrap IntKind.i64 (i+1)))))] [(.obj (.box [(.pv (.sl 1 false (List.map enc b.v))),(.pv (.int .i64 b.m))])),(.obj (.box [(.pv (.int .i64 l.k)),(.pv (.sl 2 false (List.map enc l.t)))])),(.obj (.box [(.pv (.sl 1 false (List.map enc b.v))),(.pv (.int .i64 b.m))]))]else(At Xt 0 (Za YT G) YU 0 141 [(1,(.pv (.sl 3 false (List.map enc fs)))),(3,(.ptr 0 0)),(5,(.ptr 1 0)),(7,(.ptr 2 0)),(8,(.pv (.sl 1 false (List.map enc x)))),(10,(.pv (.int .i64 lo))),(12,(.pv (.int .i64 hi))),(14,(.pv (.bool (y2.1==lo)))),(15,(.pv (.bool (y2.1==hi)))),(16,(.pv (.int .i64 (IntKind.wrap IntKind.i64 (i+1)))))] [(.obj (.box [(.pv (.sl 1 false (List.map enc b.v))),(.pv (.int .i64 b.m))])),(.obj (.box [(.pv (.int .i64 l.k)),(.pv (.sl 2 false (List.map enc l.t)))])),(.obj (.box [(.pv (.sl 1 false (List.map enc b.v))),(.pv (.int .i64 b.m))]))])))))))))))else((Go.Pl.preT (fun(x:Lin×Lin×Int×Unit)=>decide (List.length x.1.t<=500000)&&decide (List.length x.2.1.t<=500000)) [(.agg [(.int .i64 0),(.sl 0 true [])]),(.agg [(.int .i64 l.k),(.sl 2 false (List.map enc l.t))]),(.int .i64 (-1))])=true∧(∃ y3:Lin,AV.pv (Zf (fun(x:Lin×Lin×Int×Unit)=>Vm x.1 x.2.1 x.2.2.1) [(.agg [(.int .i64 0),(.sl 0 true [])]),(.agg [(.int .i64 l.k),(.sl 2 false (List.map enc l.t))]),(.int .i64 (-1))])=AV.pv (enc y3)∧((Go.Pl.preT (fun(x:BoxT×List Fact×Lin×Unit)=>YA x.1 x.2.1 x.2.2.1) [(.agg [(.sl 1 false (List.map enc b.v)),(.int .i64 b.m)]),(.sl 3 false (List.map enc fs)),(.agg [(.int .i64 y3.k),(.sl 2 false (List.map enc y3.t))])])=true∧(∃ y4:Int×Int,AV.pv (Zf (fun(x:BoxT×List Fact×Lin×Unit)=>Yw ZH x.1 x.2.1 x.2.2.1) [(.agg [(.sl 1 false (List.map enc b.v)),(.int .i64 b.m)]),(.sl 3 false (List.map enc fs)),(.agg [(.int .i64 y3.k),(.sl 2 false (List.map enc y3.t))])])=AV.pv (enc y4)∧(if (low)=true then if (high)=true then if (y4.2==0)=true then G ((.bool (y4.1==IntKind.wrap IntKind.i64 (-hi))))else(G ((.bool false)))else(G ((.bool false)))else(G ((.bool false))))))))):At Xt 0 (Za YT G) YU 0 141 [(1,.pv (enc fs)),(3,.ptr 0 0),(5,.ptr 1 0),(7,.ptr 2 0),(8,.pv (enc x)),(10,.pv (.int .i64 lo)),(12,.pv (.int .i64 hi)),(14,.pv (.bool low)),(15,.pv (.bool high)),(16,.pv (.int .i64 i))] [.obj (.box [.pv (enc b.v),.pv (.int .i64 b.m)]),.obj (.box [.pv (.int .i64 l.k),.pv (enc l.t)]),.obj (.box [.pv (enc b.v),.pv (.int .i64 b.m)])]:=At.tp (.lit (.ask (.req (.abs (List Int) (fun YY=>AV.pv (PV.rptr (PV.cells ((enc) YY)))) (.lit (.req (.abs (List Coef) (fun YY=>AV.pv (enc YY)) (.req (.abs (Int×Int) (fun YY=>AV.pv (enc YY)) (.lit (.ask (.lit (.lit (.lit (.lit (.lit (.lit (.lit (.lit (.nil))))))))) (.lit (.lit (.lit (.lit (.ask (.lit (.lit (.lit (.lit (.nil))))) (.lit (.lit (.lit (.lit (.ask (.nil) (.ask (.lit (.lit (.lit (.ask (.lit (.lit (.lit (.lit (.nil))))) (.lit (.lit (.lit (.lit (.lit (.nil)))))))))) (.lit (.lit (.lit (.lit (.ask (.lit (.lit (.lit (.lit (.nil))))) (.lit (.lit (.lit (.lit (.lit (.nil))))))))))))))))))))))))))))))) (.req (.abs (Lin) (fun YY=>AV.pv (enc YY)) (.req (.abs (Int×Int) (fun YY=>AV.pv (enc YY)) (.ask (.lit (.ask (.lit (.lit (.lit (.ask (.lit (.lit (.lit (.lit (.lit (.nil)))))) (.lit (.lit (.lit (.lit (.nil))))))))) (.lit (.lit (.lit (.lit (.lit (.lit (.lit (.nil)))))))))) (.lit (.lit (.lit (.lit (.lit (.lit (.lit (.lit (.lit (.nil))))))))))))))))) h (by kernel_rfl)
end Go.Pl

namespace Go.Pl
open Go.RowKit
open Enc (enc dec is)
open EncL (encL decL isL)
theorem a1f{l:Lin}{n:Int}(h:KG l n=true)(hn:n<=1000):ZP l=true∧(l.t.length:Int)<=n:=by
 unfold KG at h
 simp only[Bool.and_eq_true,decide_eq_true_eq]at h
 refine⟨?_,h.2⟩
 unfold ZP YC
 rw[Bool.and_eq_true]
 refine⟨decide_eq_true (by omega),List.all_eq_true.2 fun t ht=> ?_⟩
 have:=List.all_eq_true.1 h.1 t ht
 have:=of_decide_eq_true this
 exact decide_eq_true (by omega)
theorem T9{b:BoxT}{fs:List Fact}(h:Qb b fs=true):b.v.length<=5∧fs.length<=6∧Zp fs=true∧(∀ f∈fs,KG f.l 8=true):=by
 unfold Qb D5 at h
 simp only[Bool.and_eq_true,decide_eq_true_eq]at h
 obtain⟨⟨⟨h1,h2⟩,h3⟩,h4,h5⟩:=h
 have h4:=List.all_eq_true.1 h4
 refine⟨h1,h3,?_,h4⟩
 unfold Zp
 rw[Bool.and_eq_true]
 exact⟨decide_eq_true (by omega),List.all_eq_true.2 fun f hf=>(a1f (h4 f hf) (by omega)).1⟩
theorem a3x{b:BoxT}{fs:List Fact}(hb:ZT b=true)(h:Qb b fs=true):(ZT b&&Zp fs&&decide (fs.length<=100)&&decide (b.v.length<=1000))=true:=by
 obtain⟨h1,h2,h3,_⟩:=T9 h
 rw[hb,h3,decide_eq_true (by omega),decide_eq_true (by omega)];rfl
end Go.Pl

namespace Go.Pl
open Go.RowKit
open Enc (enc dec is)
open EncL (encL decL isL)
theorem c1g{b:BoxT}{fs:List Fact}(hv:Xy b=true){p:List Int}:p∈ZR b fs ↔ (p.length=b.v.length∧VM b.v fs p=true)∧ ∀ x∈p,0<=x∧x<=b.m:=by
 unfold ZR
 rw[UA hv,List.mem_filter,Hw]
 have:0<=b.m:=(Ue.1 hv).2.2.2.1
 have e:(b.m.toNat:Int)=b.m:=by omega
 rw[e]
 exact⟨fun h=>⟨⟨h.1.1,h.2⟩,h.1.2⟩,fun h=>⟨⟨h.1.1,h.2⟩,h.1.2⟩⟩
end Go.Pl

namespace Go.Pl
open Go.RowKit
theorem Ld{l:Lin}(h:Zg l=true)(s:List UInt8): -1000000<=Yo l.t s∧Yo l.t s<=1000000:=by
 unfold Yo
 cases hf:l.t.find? fun t=>t.v.s==s with
 | none=>exact⟨by decide,by decide⟩
 | some t=>
  have:=(Q3 h (List.mem_of_find?_eq_some hf)).2.2
  exact this
theorem Bg{n:Int}(h1 : -4000000000000<=n)(h2:n<=4000000000000):XO n=n:=Wx (by omega) (by omega)
theorem Dm(k:Int)(s:List UInt8): ∀ (x:List Coef) (l:Lin),Qq x->Qq l.t->XO (Yo l.t s)=Yo l.t s->Yo (x.foldl (fun o t=>WW o t.v (XO (k*t.c))) l).t s=XO (Yo l.t s+XO (k*Yo x s))
 | [],l,_,_,h=>by
  rw[List.foldl_nil,UF,Int.mul_zero]
  have:XO 0=0:=by decide
  rw[this,Int.add_zero,h]
 | t::x,l,hx,hl,h=>by
  obtain⟨h1,h2⟩:=Xz.1 hx
  rw[List.foldl_cons,ZN]
  have e:=a4d (l:=l) t.v (Dk (k*t.c)) hl s
  by_cases hs:t.v.s=s
  ·rw[if_pos hs]at e ⊢
   rw[hs]at e
   rw[Dm k s x _ h2 (Ac _ _ hl) (by rw[e,Dk]),e,V8 (ts:=x) (fun u hu=>hs▸h1 u hu),Int.mul_zero]
   have:XO 0=0:=by decide
   rw[this,Int.add_zero,Dk]
  ·rw[if_neg hs]at e ⊢
   rw[Dm k s x _ h2 (Ac _ _ hl) (by rw[e,h]),e]
theorem Lr(k:Int): ∀ (x:List Coef) (l:Lin),Qq l.t->Qq (x.foldl (fun o t=>WW o t.v (XO (k*t.c))) l).t
 | [],l,h=>h
 | t::x,l,h=>Lr k x _ (Ac _ _ h)
theorem a2f{k c:Int}(h1 : -1000001<=k)(h2:k<=1000001)(h3 : -1000000<=c)(h4:c<=1000000): -1000001000000<=k*c∧k*c<=1000001000000:=by
 have a:k*c<=1000001000000:=by
  rcases Int.le_total 0 c with h|h
  ·have:=Int.mul_le_mul_of_nonneg_right h2 h
   omega
  ·have:=Int.mul_le_mul_of_nonpos_right h1 h
   omega
 have b : -1000001000000<=k*c:=by
  rcases Int.le_total 0 c with h|h
  ·have:=Int.mul_le_mul_of_nonneg_right h1 h
   omega
  ·have:=Int.mul_le_mul_of_nonpos_right h2 h
   omega
 exact⟨b,a⟩
theorem FW{a b:Lin}{k:Int}(ha:Zg a=true)(hb:Zg b=true)(h1 : -1000001<=k)(h2:k<=1000001)(s:List UInt8):Yo (Vm a b k).t s=Yo a.t s+k*Yo b.t s:=by
 have ra:=Ld ha s
 have rb:=Ld hb s
 have rm:=a2f h1 h2 rb.1 rb.2
 have e:Yo (Vm a b k).t s=XO (Yo a.t s+XO (k*Yo b.t s)):=Dm k s b.t ⟨XO (a.k+XO (k*b.k)),a.t⟩ (Gy hb) (show Qq a.t from Gy ha) (show XO (Yo a.t s)=Yo a.t s from Bg (by omega) (by omega))
 rw[e,Bg (n:=k*Yo b.t s) (by omega) (by omega),Bg (by omega) (by omega)]
theorem Me{a b:Lin}{k:Int}(ha:Zg a=true)(hb:Zg b=true)(h1 : -1000001<=k)(h2:k<=1000001):(Vm a b k).k=a.k+k*b.k:=by
 have ra:=Cv ha
 have rb:=Cv hb
 have rm:=a2f h1 h2 rb.1 rb.2
 rw[b8u,Bg (n:=k*b.k) (by omega) (by omega),Bg (by omega) (by omega)]
end Go.Pl

namespace Go.Pl
open Go.RowKit
open Enc (enc dec is)
open EncL (encL decL isL)
def Fp(t:Coef):Coef:=⟨t.v,-t.c⟩
def EN(l:Lin):Lin:=⟨-l.k,l.t.map Fp⟩
theorem E9(s:List UInt8): ∀ ts:List Coef,Yo (ts.map Fp) s = - Yo ts s
 | []=>rfl
 | t::ts=>by
  have ih:=E9 s ts
  rw[List.map_cons,ZN,ZN,ih]
  show(if t.v.s=s then -t.c else _)=_
  split <;> rfl
theorem a2i: ∀ ts:List Coef,Jg (ts.map Fp)=Jg ts
 | []=>rfl
 | [_]=>rfl
 | a::b::l=>by
  have ih:=a2i (b::l)
  show(decide (a.v.s<b.v.s)&&Jg ((b::l).map Fp))=_
  rw[ih];rfl
theorem AC{l:Lin}(h:Zg l=true):Zg (EN l)=true:=by
 have h1:=Cv h
 have h2:=G9 h
 have h3:= @Q3 l h
 simp only[Zg,Bool.and_eq_true,decide_eq_true_eq]at h ⊢
 refine⟨⟨⟨?_,?_⟩,?_⟩,?_⟩
 ·refine List.all_eq_true.2 fun t ht=> ?_
  obtain⟨u,hu,rfl⟩:=List.mem_map.1 ht
  obtain⟨a,b,c,d⟩:=h3 hu
  have e:Yp (Fp u).c=true:=by
   show(decide (-1000000 <= -u.c)&&decide (-u.c<=1000000))=true
   rw[decide_eq_true (by omega),decide_eq_true (by omega)];rfl
  have e2:(Fp u).c≠0:=by show -u.c≠0;omega
  rw[e,decide_eq_true e2]
  show(ZA u.v&&true&&true)=true
  rw[a];rfl
 ·show Jg (l.t.map Fp)=true
  rw[a2i];exact h.1.1.2
 ·show(decide (-1000000 <= -l.k)&&decide (-l.k<=1000000))=true
  rw[decide_eq_true (by omega),decide_eq_true (by omega)];rfl
 ·show(l.t.map Fp).length<=12
  rw[List.length_map];exact h2
theorem b4q{l:Lin}(h:Zg l=true):Vm ⟨0,[]⟩ l (-1)=EN l:=by
 have h0:Zg ⟨0,[]⟩=true:=by decide
 have hk:=Me (k:= -1) h0 h (by decide) (by decide)
 have ht:(Vm ⟨0,[]⟩ l (-1)).t=(EN l).t:=by
  have hg:=AC h
  refine Rc (Lr (-1) l.t _ .nil) (b4h fun t ht=>by cases ht) (Gy hg) (b1f hg) fun s=> ?_
  rw[FW h0 h (by decide) (by decide)]
  show Yo [] s + -1*Yo l.t s=Yo (l.t.map Fp) s
  rw[E9,UF];omega
 have hk:(Vm ⟨0,[]⟩ l (-1)).k=(EN l).k:=by
  rw[hk];show(0:Int) + -1*l.k = -l.k;omega
 cases hx:Vm ⟨0,[]⟩ l (-1)
 rw[hx]at hk ht
 cases hy:EN l
 rw[hy]at hk ht
 exact congr (congrArg Lin.mk hk) ht
theorem b4a(l:Lin):Ze (EN l)=Ze l:=by
 show(l.t.map Fp).map (·.v)=l.t.map (·.v)
 rw[List.map_map];rfl
theorem LB(v:List Coef): ∀ (ts:List Coef) (n:Int),(∀ t∈ts,-1000000<=t.c∧t.c<=1000000)->n.natAbs+ts.length*1000000000000000<=9000000000000000000->(Vy v n ts).2=0 ->
  Vy v (-n) (ts.map Fp)=(-(Vy v n ts).1,0)∧(Vy v n ts).1.natAbs<=n.natAbs+ts.length*1000000000000000
 | [],n,_,_,_=>⟨rfl,by show n.natAbs<=_;simp⟩
 | t::r,n,h,hn,he=>by
  have ht:=h t (by simp)
  rw[List.length_cons]at hn ⊢
  rw[List.map_cons]
  rw[Vy]at he ⊢
  rw[Vy]
  show(match Us v t.v with|none=>_|some x=>_:Int×Int)=_∧_
  cases hl:Us v t.v with
  | none=>rw[hl]at he;cases he
  | some x=>
   rw[hl]at he
   simp only at he ⊢
   by_cases h1:x < -1000000000
   ·rw[if_pos h1]at he;cases he
   rw[if_neg h1]at he ⊢
   rw[if_neg h1]
   by_cases h2:x>1000000000
   ·rw[if_pos h2]at he;cases he
   rw[if_neg h2]at he ⊢
   rw[if_neg h2]
   have hp:(t.c*x).natAbs<=1000000*1000000000:=by rw[Int.natAbs_mul];exact Nat.mul_le_mul (by omega) (by omega)
   have e1:XO (t.c*x)=t.c*x:=WS (by omega) (by omega)
   have e2:XO (n+t.c*x)=n+t.c*x:=WS (by omega) (by omega)
   have e3:XO ((Fp t).c*x) = -(t.c*x):=by
    show XO (-t.c*x)=_
    rw[Int.neg_mul]
    exact WS (by omega) (by omega)
   have e4:XO (-n + -(t.c*x)) = -(n+t.c*x):=by
    have : -n + -(t.c*x) = -(n+t.c*x):=by omega
    rw[this]
    exact WS (by omega) (by omega)
   rw[e1,e2]at he ⊢
   rw[e3,e4]
   obtain⟨a,b⟩:=LB v r (n+t.c*x) (fun u hu=>h u (by simp[hu])) (by omega) he
   exact⟨a,by omega⟩
theorem a0r{l:Lin}{v:List Coef}(h:Zg l=true)(he:(ZX l v).2=0):(ZX (EN l) v).1 = -(ZX l v).1∧(ZX l v).1.natAbs<=20000000000000000:=by
 have h1:=Cv h
 have h2:=G9 h
 unfold ZX at he ⊢
 rw[if_pos h]at he ⊢
 rw[if_pos (AC h)]
 obtain⟨a,b⟩:=LB v l.t l.k (fun t ht=>(Q3 h ht).2.2) (by omega) he
 refine⟨?_,by omega⟩
 show(Vy v (-l.k) (l.t.map Fp)).1=_
 rw[a]
theorem Rb: ∀ {l:List Int} {z:Int},X5 ZH l=some z->z∈l∧ ∀ n∈l,z<=n:=by
 have key : ∀ (l:List Int) (x:Int),(l.foldl (fun z n=>if ZH n z then n else z) x=x∨l.foldl (fun z n=>if ZH n z then n else z) x∈l)∧l.foldl (fun z n=>if ZH n z then n else z) x<=x∧ ∀ n∈l,l.foldl (fun z n=>if ZH n z then n else z) x<=n:=by
  intro l
  induction l with
  | nil=>intro x;exact⟨.inl rfl,by simp,by simp⟩
  | cons y l ih=>
   intro x
   rw[List.foldl_cons]
   by_cases h:y<x
   ·have e:(if ZH y x=true then y else x)=y:=if_pos (decide_eq_true h)
    rw[e]
    obtain⟨a,b,c⟩:=ih y
    refine⟨.inr ?_,by omega,fun n hn=> ?_⟩
    ·rcases a with a|a
     ·rw[a];simp
     ·exact List.mem_cons_of_mem _ a
    ·rcases List.mem_cons.1 hn with rfl|hn
     ·exact b
     ·exact c n hn
   ·have e:(if ZH y x=true then y else x)=x:=if_neg (by simpa [ZH]using h)
    rw[e]
    obtain⟨a,b,c⟩:=ih x
    refine⟨?_,b,fun n hn=> ?_⟩
    ·rcases a with a|a
     ·exact .inl a
     ·exact .inr (List.mem_cons_of_mem _ a)
    ·rcases List.mem_cons.1 hn with rfl|hn
     ·omega
     ·exact c n hn
 intro l z h
 cases l with
 | nil=>cases h
 | cons x l=>
  have h:l.foldl (fun z n=>if ZH n z then n else z) x=z:=by simpa [X5]using h
  obtain⟨a,b,c⟩:=key l x
  rw[h]at a b c
  refine⟨?_,fun n hn=> ?_⟩
  ·rcases a with a|a
   ·simp[a]
   ·exact List.mem_cons_of_mem _ a
  ·rcases List.mem_cons.1 hn with rfl|hn
   ·exact b
   ·exact c n hn
theorem E5: ∀ (l:List Int),X5 ZH (l.map fun n=> -n)=(X5 Z5 l).map fun n=> -n
 | []=>rfl
 | x::l=>by
  show some _=some _
  congr 1
  induction l generalizing x with
  | nil=>rfl
  | cons y l ih=>
   rw[List.map_cons,List.foldl_cons,List.foldl_cons]
   have e:(if ZH (-y) (-x)=true then -y else -x) = -(if Z5 y x=true then y else x):=by
    by_cases h:y>x
    ·rw[if_pos (show ZH (-y) (-x)=true from decide_eq_true (by omega)),if_pos (show Z5 y x=true from decide_eq_true h)]
    ·rw[if_neg (by simp[ZH];omega),if_neg (by simp[Z5];omega)]
   rw[e]
   exact ih _
theorem a6y{l:List Int}{z:Int}(h:X5 Z5 l=some z):z∈l∧ ∀ n∈l,n<=z:=by
 have h1:X5 ZH (l.map fun n=> -n)=some (-z):=by rw[E5,h];rfl
 obtain⟨a,b⟩:=Rb h1
 refine⟨?_,fun n hn=> ?_⟩
 ·obtain⟨y,hy,e⟩:=List.mem_map.1 a
  have:y=z:=by omega
  rwa [<- this]
 ·have : -z <= -n:=b (-n) (List.mem_map.2 ⟨n,hn,rfl⟩)
  omega
theorem Rn(f:Int->Int->Bool)(l:List Int):X5 f l=none ↔ l=[]:=by
 cases l <;> simp[X5]
theorem b6s{b:BoxT}{fs:List Fact}{l:Lin}{i:Nat}(h:i<(ZR b fs).length)(h2:i<(Zt b fs l).length):(ZX l (Zd b.v (ZR b fs)[i])).1=(Zt b fs l)[i]:=by
 have:(Zt b fs l)[i]? = some (ZX l (Zd b.v (ZR b fs)[i])).1:=by unfold Zt;rw[List.getElem?_map,List.getElem?_eq_getElem h];rfl
 exact(List.getElem?_eq_some_iff.1 this).2.symm
theorem b7g{b:BoxT}{fs:List Fact}{l:Lin}(hr:Zo b fs (Zg l) (Ze l)=0):Zt b fs (EN l)=(Zt b fs l).map fun n=> -n:=by
 have hl:=(XZ _ _ _ _ hr).2.2.1
 unfold Zt
 rw[List.map_map]
 refine List.map_congr_left fun p hp=> ?_
 exact(a0r hl (UG hr hp)).1
theorem a3k(b:BoxT)(fs:List Fact)(l:Lin)(lo hi:Int)(hb:b.v.length<=5)(hP:(ZT b&&Zp fs&&decide (fs.length<=100)&&decide (b.v.length<=1000))=true)(hls:ZP l=true)(hll:l.t.length<=1000)(hr:Zo b fs (Zg l) (Ze l)=0)
  (hlo:X5 ZH (Zt b fs l)=some lo) (hhi:X5 Z5 (Zt b fs l)=some hi) : ∀ (d i:Nat),d+i=(ZR b fs).length ->
  At Xt 0 (Za YT (Zm true)) YU 0 141 [(1,.pv (enc fs)),(3,.ptr 0 0),(5,.ptr 1 0),(7,.ptr 2 0),(8,.pv (enc (ZR b fs))),(10,.pv (.int .i64 lo)),(12,.pv (.int .i64 hi)),(14,.pv (.bool (decide (lo∈(Zt b fs l).take i)))),(15,.pv (.bool (decide (hi∈(Zt b fs l).take i)))),(16,.pv (.int .i64 i))]
   [.obj (.box [.pv (enc b.v),.pv (.int .i64 b.m)]),.obj (.box [.pv (.int .i64 l.k),.pv (enc l.t)]),.obj (.box [.pv (enc b.v),.pv (.int .i64 b.m)])]:=by
 obtain⟨hv,_,hvl,_⟩:=XZ _ _ _ _ hr
 have hn:(Zt b fs l).length=(ZR b fs).length:=by unfold Zt;rw[List.length_map]
 have h20:(ZR b fs).length<=20000:=by
  unfold ZR
  refine Nat.le_trans (List.length_filter_le _ _) ?_
  rw[UA hv,He]
  exact Co hv
 obtain⟨a1,a2⟩:=Rb hlo
 obtain⟨b1,b2⟩:=a6y hhi
 simp only[Bool.and_eq_true,decide_eq_true_eq]at hP
 obtain⟨⟨⟨hP1,hP2⟩,hP3⟩,hP4⟩:=hP
 intro d
 induction d with
 | zero=>
  intro i hi0
  apply SV (G:=Zm true) b fs l
  have hT:=b4q hvl
  have hng:ZP (EN l)=true:=by
   unfold ZP YC at hls ⊢
   rw[Bool.and_eq_true]at hls ⊢
   refine⟨?_,?_⟩
   ·show decide ((l.t.map Fp).length<=_)=true
    rw[List.length_map];exact hls.1
   ·show((l.t.map Fp).all _)=true
    rw[List.all_map];exact hls.2
  have hex:YA b fs (EN l)=true:=by
   unfold YA
   have:(EN l).t.length<=1000:=by show(l.t.map Fp).length<=_;rw[List.length_map];exact hll
   rw[hP1,hP2,hng,decide_eq_true hP3,decide_eq_true hP4,decide_eq_true this];rfl
  have i1:isL (Lin×Lin×Int×Unit) [.agg [.int .i64 0,.sl 0 true []],enc l,.int .i64 (-1)]=true:=by
   show(is Lin (.agg [.int .i64 0,.sl 0 true []])&&(is Lin (enc l)&&true))=true
   rw[Enc.is_enc];rfl
  have d1:(decL [.agg [.int .i64 0,.sl 0 true []],enc l,.int .i64 (-1)]:Lin×Lin×Int×Unit)=(⟨0,[]⟩,l,-1,()):=by
   show((dec (.agg [.int .i64 0,.sl 0 true []]):Lin),(dec (enc l):Lin),(-1:Int),())=_
   rw[Enc.dec_enc];rfl
  refine Z0 (UJ (by omega)) ⟨b9p ((⟨0,[]⟩:Lin),l,-1,()) i1 d1 (by show(decide (0<=500000)&&decide (l.t.length<=500000))=true;rw[decide_eq_true (show l.t.length<=500000 by omega)];rfl),OC ((⟨0,[]⟩:Lin),l,-1,()) d1 ?_⟩
  simp only[hT]
  refine⟨Zl (b,fs,EN l,()) rfl hex,Zj (b,fs,EN l,()) rfl ?_⟩
  have hR:Yw ZH b fs (EN l)=(-hi,0):=by
   unfold Yw
   rw[AC hvl,b4a]
   rw[hvl]at hr
   rw[if_pos hr,b7g (by rw[hvl];exact hr),E5,hhi];rfl
  simp only[hR]
  rw[List.take_of_length_le (by omega)]
  refine ZV (decide_eq_true a1) (ZV (decide_eq_true b1) (ZV rfl (ZZ ?_)))
  have:hi.natAbs<=20000000000000000:=by
   unfold Zt at b1
   obtain⟨p,hp,e⟩:=List.mem_map.1 b1
   rw[<- e]
   exact(a0r hvl (UG hr hp)).2
  rw[WS (by omega) (by omega)]
  simp
 | succ d ih=>
  intro i hi0
  have hlt:i<(ZR b fs).length:=by omega
  have hlt2:i<(Zt b fs l).length:=by omega
  have ih:=ih (i+1) (by omega)
  have hm:=List.getElem_mem hlt
  have he:=UG hr hm
  have hva:=b6s (l:=l) hlt hlt2
  have hmv:=List.getElem_mem hlt2
  have ht : ∀ z:Int,decide (z∈(Zt b fs l).take (i+1))=(decide (z∈(Zt b fs l).take i)||(Zt b fs l)[i]==z):=by
   intro z
   rw[List.take_succ_eq_append_getElem hlt2,Bool.eq_iff_iff,decide_eq_true_iff,List.mem_append,List.mem_singleton,Bool.or_eq_true,decide_eq_true_iff,beq_iff_eq]
   exact⟨fun h=>h.imp id Eq.symm,fun h=>h.imp id Eq.symm⟩
  rw[ht,ht]at ih
  have hpl:(ZR b fs)[i].length<=1000:=by have:=((c1g hv).1 hm).1.1;omega
  have hvT:(Zd b.v (ZR b fs)[i]).length<=9223372036854775807:=by unfold Zd;rw[List.length_zipWith];omega
  apply SV (G:=Zm true) b fs l
  rw[next (by omega)]
  refine ZV (Uj hlt) ⟨ZB hlt rfl,ZY hlt ⟨Zl (b,(ZR b fs)[i],()) rfl (by show(decide (b.v.length<=1000)&&Zx (ZR b fs)[i])=true;rw[decide_eq_true hP4,Z8.2 (by omega)];rfl),Zj (b,(ZR b fs)[i],()) rfl ⟨Zl (l,Zd b.v (ZR b fs)[i],()) rfl (by
   unfold ZP at hls
   rw[Bool.and_eq_true]at hls
   show(YC l&&decide ((Zd b.v (ZR b fs)[i]).length<=9223372036854775807))=true
   rw[hls.1,decide_eq_true hvT];rfl),Zj (l,Zd b.v (ZR b fs)[i],()) rfl ?_⟩⟩⟩
  show if ((ZX l (Zd b.v (ZR b fs)[i])).2 != 0)=true then _ else _
  rw[he,hva]
  refine Z0 (by simp) (Z0 (by simpa using a2 _ hmv) (Z0 (by simpa using b2 _ hmv) ?_))
  refine Xj (fun h1=> ?_) fun h1=> ?_
  ·rw[h1]at ih
   refine Xj (fun h2=> ?_) fun h2=> ?_
   ·rw[h2]at ih;exact ih
   ·rw[h2]at ih;exact ih
  ·rw[h1]at ih
   refine Xj (fun h2=> ?_) fun h2=> ?_
   ·rw[h2]at ih;exact ih
   ·rw[h2]at ih;exact ih
theorem O3: ∀ x:BoxT×List Fact×Lin×Unit,(ZT x.1&&YQ x.2.1&&YC x.2.2.1)=true->Zc Xt 0 (Za YT (Zm true)) YU [] (Yz a6a (encL x)):=by
 rintro⟨b,fs,l,⟨⟩⟩ hp
 simp only[Bool.and_eq_true]at hp
 obtain⟨⟨h1,h2⟩,h3⟩:=hp
 refine b4l b fs l (Zj () rfl (Z0 (by simp) ⟨Zl (b,fs,()) rfl (by rw[h1,h2];rfl),Zj (b,fs,()) rfl ?_⟩))
 refine Xj (fun _=>ZZ rfl) fun hf=> ?_
 have hf:Qb b fs=true:=by simpa using hf
 have hP:=a3x h1 hf
 obtain⟨h5,h6,hfs,_⟩:=T9 hf
 refine⟨Zl (l,6,()) rfl h3,Zj (l,6,()) rfl ?_⟩
 refine Xj (fun _=>ZZ rfl) fun hl=> ?_
 have hl:KG l 6=true:=by simpa using hl
 obtain⟨hls,hll⟩:=a1f hl (by decide)
 have hex:YA b fs l=true:=by
  unfold YA
  rw[h1,hfs,hls,decide_eq_true (by omega),decide_eq_true (by omega),decide_eq_true (show l.t.length<=1000 by omega)];rfl
 refine⟨Zl (b,fs,()) rfl hP,Zj (b,fs,()) rfl ⟨Zl (b,fs,l,()) rfl hex,Zj (b,fs,l,()) rfl ⟨Zl (b,fs,l,()) rfl hex,Zj (b,fs,l,()) rfl ?_⟩⟩⟩
 have hsnd:(Yw ZH b fs l).2=(Yw Z5 b fs l).2∧((Yw ZH b fs l).2≠0->(Yw ZH b fs l).1=0∧(Yw Z5 b fs l).1=0):=by
  unfold Yw
  split
  ·cases hz:Zt b fs l with
   | nil=>exact⟨rfl,fun _=>⟨rfl,rfl⟩⟩
   | cons x r=>exact⟨rfl,fun h=>absurd rfl h⟩
  ·exact⟨rfl,fun _=>⟨rfl,rfl⟩⟩
 refine Z0 (by simpa using hsnd.1) ?_
 have bad:(Yw ZH b fs l).2≠0->(if ((Yw ZH b fs l).1==0)=true then Zm true (.bool ((Yw Z5 b fs l).1==0))else Zm true (.bool false)):=by
  intro h
  obtain⟨a,c⟩:=hsnd.2 h
  rw[a,c]
  exact ZV rfl (ZZ rfl)
 have good:(Yw ZH b fs l).2=0->(ZR b fs).length≠0∧Xd b fs=(ZR b fs,0) ∧
   At Xt 0 (Za YT (Zm true)) YU 0 141 [(1,.pv (enc fs)),(3,.ptr 0 0),(5,.ptr 1 0),(7,.ptr 2 0),(8,.pv (enc (ZR b fs))),(10,.pv (.int .i64 (Yw ZH b fs l).1)),(12,.pv (.int .i64 (Yw Z5 b fs l).1)),(14,.pv (.bool false)),(15,.pv (.bool false)),(16,.pv (.int .i64 0))]
   [.obj (.box [.pv (enc b.v),.pv (.int .i64 b.m)]),.obj (.box [.pv (.int .i64 l.k),.pv (enc l.t)]),.obj (.box [.pv (enc b.v),.pv (.int .i64 b.m)])]:=by
  intro h
  have hr:Zo b fs (Zg l) (Ze l)=0:=by
   unfold Yw at h
   split at h
   ·assumption
   ·exact absurd h (by assumption)
  have hr0:Zo b fs true []=0:=by
   obtain⟨c1,c2,_,c4⟩:=XZ _ _ _ _ hr
   unfold Zo
   rw[Tq,Bool.and_eq_true]at c4
   rw[c1,c2,if_neg (by simp),List.nil_append,if_pos c4.2]
  have hn:(Zt b fs l).length=(ZR b fs).length:=by unfold Zt;rw[List.length_map]
  unfold Yw at h ⊢
  rw[if_pos hr]at h ⊢
  rw[if_pos hr]
  cases hlo:X5 ZH (Zt b fs l)with
  | none=>rw[hlo]at h;cases h
  | some lo=>
   have hne:Zt b fs l≠[]:=fun e=>by rw[(Rn _ _).2 e]at hlo;cases hlo
   obtain⟨hi,hhi⟩ : ∃ hi,X5 Z5 (Zt b fs l)=some hi:=by
    cases hhi:X5 Z5 (Zt b fs l)with
    | none=>exact absurd ((Rn _ _).1 hhi) hne
    | some hi=>exact⟨hi,rfl⟩
   rw[hhi]
   refine⟨fun e=>hne (List.length_eq_zero_iff.1 (by omega)),by unfold Xd;rw[if_pos hr0],?_⟩
   have:=a3k b fs l lo hi h5 hP hls (by omega) hr hlo hhi (ZR b fs).length 0 (by omega)
   exact this
 refine Xj (fun ha=> ?_) fun ha=> ?_
 ·refine Xj (fun hb=> ?_) fun hb=> ?_
  ·refine Xj (fun hc=> ?_) fun hc=> ?_
   ·obtain⟨g1,g2,_⟩:=good (by simpa using hc)
    rw[g2]at hb
    rw[List.length_map]at hb
    have:((ZR b fs).length:Int)=0:=eq_of_beq hb
    exact absurd (show(ZR b fs).length=0 by omega) g1
   ·have hc:(Yw ZH b fs l).2≠0:=by simpa using hc
    exact ZV (by simpa using hc) (bad hc)
  ·refine Xj (fun hc=>bad (by simpa using hc)) fun hc=> ?_
   obtain⟨_,g2,g3⟩:=good (by simpa using hc)
   rw[g2];exact g3
 ·refine Xj (fun hc=>bad (by simpa using hc)) fun hc=> ?_
  obtain⟨_,g2,g3⟩:=good (by simpa using hc)
  rw[g2];exact g3
end Go.Pl

namespace Go.Pl
open Go.RowKit
open Enc (enc dec is)
open EncL (encL decL isL)
end Go.Pl

namespace Go.Pl
open Go.RowKit
open Enc (enc dec is)
open EncL (encL decL isL)
def Hg(m:Mono):Bool->List Mono->List Mono
 | put,[]=>if put then []else [m]
 | put,x::r=>
  if !put&&decide (Ub x.v m.v>0)then m::(if x.c≠0 then x::Hg m true r else Hg m true r)
  else if !put&&decide (Ub x.v m.v=0)then(if XO (x.c+m.c)≠0 then⟨XO (x.c+m.c),x.v⟩::Hg m true r else Hg m true r)
  else if x.c≠0 then x::Hg m put r else Hg m put r
end Go.Pl

namespace Go.Pl
open Go.RowKit
open Enc (enc dec is)
open EncL (encL decL isL)
set_option maxRecDepth 100000
def KV:IC:=(.seq (.reg [⟨(some 3),(.box 2 (.t 1)),0,none⟩,⟨(some 4),(.mv (.c (.sl 0 true []))),1,none⟩] none) (.seq (.reg [⟨(some 5),(.mv (.c (.sl 0 true []))),0,none⟩] none) (.seq (.reg [⟨(some 10),(.faddr 0 (.t 3)),0,none⟩,⟨(some 11),(.load false [(.int .i64)] (.t 10)),0,none⟩,⟨(some 12),(.bin .num .eql (.t 11) (.c (.int .i64 0))),0,none⟩,⟨(some 6),(.mv (.t 12)),0,none⟩] none) (.seq (.seq (.reg [⟨(some 7),(.mv (.c (.int .i64 0))),0,none⟩] none) (.block 0 (.loop [7,0,3,6,5] (.seq (.seq (.reg [⟨(some 13),(.mv (.t 7)),0,none⟩,⟨(some 14),(.mv (.t 0)),0,none⟩,⟨(some 15),(.len 1 (.t 14)),0,none⟩,⟨(some 16),(.bin .num .lss (.t 13) (.t 15)),0,none⟩] none) (.cond (.t 16) .skip (.exit 0))) (.seq (.block 1 (.seq (.reg [⟨(some 19),(.mv (.t 0)),0,none⟩,⟨(some 20),(.mv (.t 7)),0,none⟩,⟨(some 21),(.iaddr 2 (.t 19) (.t 20)),0,none⟩,⟨(some 22),(.faddr 1 (.t 21)),0,none⟩,⟨(some 23),(.load false [(.sl 1)] (.t 22)),0,none⟩,⟨(some 24),(.faddr 1 (.t 3)),0,none⟩,⟨(some 25),(.load false [(.sl 1)] (.t 24)),0,none⟩,⟨(some 26),(.call (.c (.fn 195)) [(.t 23),(.t 25)]),0,none⟩,⟨(some 8),(.mv (.t 26)),2,none⟩] (some [[],[],[0,1],[2,0,1],[3,2,0,1],[],[5],[4,6,3,2,0,1,5],[7,0,1,2,3,4,5,6]])) (.seq (.seq (.reg [⟨(some 27),(.mv (.t 6)),0,none⟩,⟨(some 28),(.un .not (.t 27)),0,none⟩,⟨(some 29),(.mv (.t 28)),0,none⟩,⟨(some 30),(.mv (.t 8)),0,(some (29,true))⟩,⟨(some 31),(.bin .num .gtr (.t 30) (.c (.int .i64 0))),0,(some (29,true))⟩,⟨(some 32),(.pick (.t 29) (.t 31) (.c (.bool false))),0,none⟩] none) (.cond (.t 32) (.seq (.reg [⟨(some 33),(.mv (.t 5)),0,none⟩,⟨(some 34),(.load true [(.int .i64),(.sl 1)] (.t 3)),0,none⟩,⟨(some 35),(.bslice 104 2 1 (.agg [(.int .i64 0),(.sl 0 true [])]) [(0,(.t 34))]),0,none⟩,⟨(some 36),(.append 104 2 32 (.t 33) (.t 35)),1,none⟩,⟨(some 5),(.mv (.t 36)),2,none⟩] none) (.reg [⟨(some 6),(.mv (.c (.bool true))),0,none⟩] none)) .skip)) (.seq (.reg [⟨(some 37),(.mv (.t 0)),0,none⟩,⟨(some 38),(.mv (.t 7)),0,none⟩,⟨(some 39),(.iaddr 2 (.t 37) (.t 38)),0,none⟩,⟨(some 40),(.load true [(.int .i64),(.sl 1)] (.t 39)),0,none⟩,⟨(some 9),(.alloc (.agg [(.int .i64 0),(.sl 0 true [])])),0,none⟩,⟨none,(.store 2 (.t 9) (.t 40)),1,none⟩] none) (.seq (.seq (.reg [⟨(some 41),(.mv (.t 6)),0,none⟩,⟨(some 42),(.un .not (.t 41)),0,none⟩,⟨(some 43),(.mv (.t 42)),0,none⟩,⟨(some 44),(.mv (.t 8)),0,(some (43,true))⟩,⟨(some 45),(.bin .num .eql (.t 44) (.c (.int .i64 0))),0,(some (43,true))⟩,⟨(some 46),(.pick (.t 43) (.t 45) (.c (.bool false))),0,none⟩] none) (.cond (.t 46) (.seq (.reg [⟨(some 47),(.faddr 0 (.t 9)),0,none⟩,⟨(some 48),(.load false [(.int .i64)] (.t 47)),0,none⟩,⟨(some 49),(.faddr 0 (.t 3)),0,none⟩,⟨(some 50),(.load false [(.int .i64)] (.t 49)),0,none⟩,⟨(some 51),(.bin .num .add (.t 48) (.t 50)),0,none⟩,⟨(some 52),(.faddr 0 (.t 9)),0,none⟩,⟨none,(.store 1 (.t 52) (.t 51)),0,none⟩] none) (.reg [⟨(some 6),(.mv (.c (.bool true))),0,none⟩] none)) .skip)) (.seq (.reg [⟨(some 53),(.faddr 0 (.t 9)),0,none⟩,⟨(some 54),(.load false [(.int .i64)] (.t 53)),0,none⟩,⟨(some 55),(.bin .num .neq (.t 54) (.c (.int .i64 0))),0,none⟩] none) (.cond (.t 55) (.reg [⟨(some 56),(.mv (.t 5)),0,none⟩,⟨(some 57),(.load true [(.int .i64),(.sl 1)] (.t 9)),0,none⟩,⟨(some 58),(.bslice 104 2 1 (.agg [(.int .i64 0),(.sl 0 true [])]) [(0,(.t 57))]),0,none⟩,⟨(some 59),(.append 104 2 32 (.t 56) (.t 58)),1,none⟩,⟨(some 5),(.mv (.t 59)),2,none⟩] none) .skip))))))) (.reg [⟨(some 17),(.mv (.t 7)),0,none⟩,⟨(some 18),(.bin .num .add (.t 17) (.c (.int .i64 1))),0,none⟩,⟨(some 7),(.mv (.t 18)),0,none⟩] none)))))) (.seq (.seq (.reg [⟨(some 60),(.mv (.t 6)),0,none⟩,⟨(some 61),(.un .not (.t 60)),0,none⟩] none) (.cond (.t 61) (.reg [⟨(some 62),(.mv (.t 5)),0,none⟩,⟨(some 63),(.load true [(.int .i64),(.sl 1)] (.t 3)),0,none⟩,⟨(some 64),(.bslice 104 2 1 (.agg [(.int .i64 0),(.sl 0 true [])]) [(0,(.t 63))]),0,none⟩,⟨(some 65),(.append 104 2 32 (.t 62) (.t 64)),1,none⟩,⟨(some 5),(.mv (.t 65)),2,none⟩] none) .skip)) (.seq (.reg [⟨(some 66),(.mv (.t 5)),0,none⟩,⟨(some 4),(.mv (.t 66)),0,none⟩] none) .ret))))))
def KR:List IRes:=[(.tmp 4)]
def Gm:ZE:=Xg [(195,.pure (preT (fun x:List Str×List Str×Unit=>Zx x.1&&Zx x.2.1)) (Zf (fun x:List Str×List Str×Unit=>Ub x.1 x.2.1)))]
end Go.Pl

namespace Go.Pl
open Go.RowKit
open Enc (enc dec is)
open EncL (encL decL isL)
def b7l(p:List Mono)(m:Mono)(put:Bool)(i:Nat)(xs:List Mono):Prop:= ∀ R:List Mono,R=xs++Hg m put (p.drop i) ->
 match xs with
 | []=>At Gm 0 (Za KR (Zm R)) KV 0 67 [(0,.pv (enc p)),(3,.ptr 0 0),(5,.pv (.sl 0 true [])),(6,.pv (.bool put)),(7,.pv (.int .i64 i))] [.obj (.box [.pv (.int .i64 m.c),.pv (enc m.v)])]
 | x::r=>At Gm 0 (Za KR (Zm R)) KV 0 67 [(0,.pv (enc p)),(3,.ptr 0 0),(5,.row 1 (r.length+1) 0 (r.length+1)),(6,.pv (.bool put)),(7,.pv (.int .i64 i))] [.obj (.box [.pv (.int .i64 m.c),.pv (enc m.v)]),.obj (.row false 104 2 ((x::r).map enc))]
theorem b7l.row{p:List Mono}{m:Mono}{put:Bool}{i n:Nat}{ys:List Mono}{R:List Mono}{qs:List PV}(h:b7l p m put i ys)(h0:ys≠[])(hR:R=ys++Hg m put (p.drop i))(hn:n=ys.length)(hy:qs=ys.map enc):
  At Gm 0 (Za KR (Zm R)) KV 0 67 [(0,.pv (enc p)),(3,.ptr 0 0),(5,.row 1 n 0 n),(6,.pv (.bool put)),(7,.pv (.int .i64 i))] [.obj (.box [.pv (.int .i64 m.c),.pv (enc m.v)]),.obj (.row false 104 2 qs)]:=by
 subst hn hy
 cases ys with
 | nil=>exact absurd rfl h0
 | cons x r=>exact h R hR
theorem b7l.nil{p:List Mono}{m:Mono}{put:Bool}{i:Nat}{R:List Mono}(h:b7l p m put i [])(hR:R=Hg m put (p.drop i)):
  At Gm 0 (Za KR (Zm R)) KV 0 67 [(0,.pv (enc p)),(3,.ptr 0 0),(5,.pv (.sl 0 true [])),(6,.pv (.bool put)),(7,.pv (.int .i64 i))] [.obj (.box [.pv (.int .i64 m.c),.pv (enc m.v)])]:=h R hR
end Go.Pl

namespace Go.Pl
open Go.RowKit
open Enc (enc dec is)
open EncL (encL decL isL)
end Go.Pl

namespace Go.Pl
open Go.RowKit
open Enc (enc dec is)
open EncL (encL decL isL)
set_option maxRecDepth 100000
end Go.Pl

namespace Go.Pl
open Go.RowKit
open Enc (enc dec is)
open EncL (encL decL isL)
end Go.Pl

