/-
  Texts of mine that belong together (packed by pack.py), for every input: GRp, QGp, QLr, GLm, GLk, QLk, GLn, QLn, QLo, QLp, QRa, QRb, QRc, TyQ, GLu, GLt, QRs, QRt, QRu, QRv, GLv, QRw, QRx, TyRb, TyRc, TyPo, QGd, GRc, QRd, QRe, GRd, QRf, TyRd, GRx, QRg, GPv, QPv, GPw, QPw, GPs, TyPs.
-/
import Derived.Test.YtjfgiaooglnomaaGreatDoorKP2
import Derived.Test.YtjfgiaooglnomaaGreatDoorKP3
import Derived.KernelRfl
import Derived.Lib.SlicesCompact
set_option linter.unusedVariables false
set_option linter.unusedSimpArgs false
namespace Go.Pl
open Go.RowKit
open Enc (enc dec is)
open EncL (encL decL isL)
set_option maxRecDepth 100000
def P7:IC:=(.reg [⟨(some 7),(.faddr 0 (.t 1)),0,none⟩,⟨(some 8),(.load false [(.sl 1)] (.t 7)),0,none⟩,⟨(some 9),(.len 1 (.t 8)),0,none⟩,⟨(some 10),(.mksl 3 1 8 (.int .i64 0) (.t 9) (.t 9)),0,none⟩,⟨(some 4),(.mv (.t 10)),1,none⟩] none)
def Ol:List IRes:=[]
def a1e:ZC:=Xn [(48,.own QJ K4)]
theorem c6j{G:AV×List AObj×List AObj->Prop}(E:Yx)(l:Nat)(b:BoxT)(fs:List Fact)(h:(decide (0<=(↑(List.length (PV.asXs (List.getD (List.drop 0 [enc b.v,PV.int .i64 b.m]) 0 default))):Int))&&(↑(List.length (PV.asXs (List.getD (List.drop 0 [enc b.v,PV.int .i64 b.m]) 0 default))):Int)==(↑(List.length (PV.asXs (List.getD (List.drop 0 [enc b.v,PV.int .i64 b.m]) 0 default))):Int)&&decide ((↑(List.length (PV.asXs (List.getD (List.drop 0 [enc b.v,PV.int .i64 b.m]) 0 default))):Int)*(↑8:Int)<=1099511627776)&&decide ((↑(List.length (PV.asXs (List.getD (List.drop 0 [enc b.v,PV.int .i64 b.m]) 0 default))):Int)<=1099511627776))=true∧(E 99 ⟨ZM 52 0 [(0,(.yld l)),(1,(.pv (.rptr [(.sl 1 false (List.map enc b.v)),(.int .i64 b.m)]))),(2,(.pv (.rptr [(.sl 3 false (List.map enc fs))]))),(4,(.row 0 (Int.toNat (↑(List.length (PV.asXs (List.getD (List.drop 0 [enc b.v,PV.int .i64 b.m]) 0 default))):Int)) 0 (Int.toNat (↑(List.length (PV.asXs (List.getD (List.drop 0 [enc b.v,PV.int .i64 b.m]) 0 default))):Int))))],[(.obj (.row false 3 1 (List.replicate (Int.toNat (↑(List.length (PV.asXs (List.getD (List.drop 0 [enc b.v,PV.int .i64 b.m]) 0 default))):Int)) (PV.int .i64 0))))]⟩ (fun x S'=>Jb a1e E 0 (Zj 0 Ol G) P7 99 x S'))):Zz a1e E 0 (Zj 0 Ol G) (.inl P7) [.seq (.ext 99 [0,1,2,4])] ⟨ZM 52 0 [(0,.yld l),(1,(.pv (.rptr [enc b.v,.int .i64 b.m]))),(2,(.pv (.rptr [enc fs])))],[]⟩:=Zz.mo (.lit (.req (.nil))) h (by kernel_rfl)
def Pv:IC:=(.reg [⟨(some 11),(.load true [(.sl 1),(.int .i64)] (.t 1)),0,none⟩,⟨(some 12),(.mv (.t 4)),0,none⟩,⟨(some 13),(.call (.c (.fn 48)) [(.t 11),(.t 12)]),0,none⟩,⟨(some 5),(.mv (.t 13)),2,none⟩] none)
def EN:List IRes:=[]
def b1d:ZC:=Xn [(48,.own QJ K4)]
theorem c6p{G:AV×List AObj×List AObj->Prop}(E:Yx)(l:Nat)(b:BoxT)(fs:List Fact)(n:Nat)(p:List Int)(h:(QJ [(.pv (.agg [(.sl 1 false (PV.asXs (List.getD [enc b.v,PV.int .i64 b.m] 0 default))),(.int .i64 (PV.asInt (List.getD [enc b.v,PV.int .i64 b.m] (0+1) default)))])),(.row 0 n 0 n)] [(.row false 3 1 (List.map enc p))])=true∧(E 99 ⟨ZM 52 0 [(0,(.yld l)),(1,(.pv (.rptr [(.sl 1 false (List.map enc b.v)),(.int .i64 b.m)]))),(2,(.pv (.rptr [(.sl 3 false (List.map enc fs))]))),(4,(.row 0 n 0 n)),(5,(.pv (.sl 2 false (List.map enc (Zn (dec (Sh.co (Sh.sl 1) (List.getD [enc b.v,PV.int .i64 b.m] 0 default))) (b1y (List.map enc p)))))))],[(.obj (.row false 3 1 (List.map enc p)))]⟩ (fun x S'=>Jb b1d E 1 (Zj 1 EN G) Pv 99 x S'))):Zz b1d E 1 (Zj 1 EN G) (.inl Pv) [.seq (.ext 99 [0,1,2,4,5])] ⟨ZM 52 0 [(0,.yld l),(1,(.pv (.rptr [enc b.v,.int .i64 b.m]))),(2,(.pv (.rptr [enc fs]))),(4,.row 0 n 0 n)],[.obj (.row false 3 1 (p.map enc))]⟩:=Zz.mo (.lit (.req (.keep (.nil)))) h (by kernel_rfl)
def U1:IC:=(.seq (.reg [⟨(some 25),(.mv (.t 4)),0,none⟩,⟨(some 26),(.len 1 (.t 25)),0,none⟩,⟨(some 27),(.bin .num .sub (.t 26) (.c (.int .i64 1))),0,none⟩,⟨(some 6),(.mv (.t 27)),0,none⟩] none) (.seq (.block 2 (.loop [6,4,1,2,0] (.seq (.seq (.reg [⟨(some 28),(.mv (.t 6)),0,none⟩,⟨(some 29),(.bin .num .geq (.t 28) (.c (.int .i64 0))),0,none⟩,⟨(some 30),(.mv (.t 29)),0,none⟩,⟨(some 31),(.mv (.t 4)),0,(some (30,true))⟩,⟨(some 32),(.mv (.t 6)),0,(some (30,true))⟩,⟨(some 33),(.iaddr 1 (.t 31) (.t 32)),0,(some (30,true))⟩,⟨(some 34),(.load false [(.int .i64)] (.t 33)),0,(some (30,true))⟩,⟨(some 35),(.faddr 1 (.t 1)),0,(some (30,true))⟩,⟨(some 36),(.load false [(.int .i64)] (.t 35)),0,(some (30,true))⟩,⟨(some 37),(.bin .num .eql (.t 34) (.t 36)),0,(some (30,true))⟩,⟨(some 38),(.pick (.t 30) (.t 37) (.c (.bool false))),0,none⟩] (some [[],[0],[1,0],[2,1,0],[2,1,0],[3,4,2,1,0],[5,2,3,4,1,0],[2,1,0],[7,2,1,0],[6,8,2,5,3,4,1,0,7],[2,9,1,0,6,8,5,3,4,7]])) (.cond (.t 38) .skip (.exit 2))) (.block 3 (.seq (.reg [⟨(some 39),(.mv (.t 4)),0,none⟩,⟨(some 40),(.mv (.t 6)),0,none⟩,⟨(some 41),(.iaddr 1 (.t 39) (.t 40)),0,none⟩,⟨none,(.store 1 (.t 41) (.c (.int .i64 0))),0,none⟩] none) (.reg [⟨(some 42),(.mv (.t 6)),0,none⟩,⟨(some 43),(.bin .num .sub (.t 42) (.c (.int .i64 1))),0,none⟩,⟨(some 6),(.mv (.t 43)),0,none⟩] none)))))) (.seq (.seq (.reg [⟨(some 44),(.mv (.t 6)),0,none⟩,⟨(some 45),(.bin .num .lss (.t 44) (.c (.int .i64 0))),0,none⟩] none) (.cond (.t 45) .ret .skip)) (.reg [⟨(some 46),(.mv (.t 4)),0,none⟩,⟨(some 47),(.mv (.t 6)),0,none⟩,⟨(some 48),(.iaddr 1 (.t 46) (.t 47)),0,none⟩,⟨(some 49),(.load false [(.int .i64)] (.t 48)),0,none⟩,⟨(some 50),(.bin .num .add (.t 49) (.c (.int .i64 1))),0,none⟩,⟨(some 51),(.iaddr 1 (.t 46) (.t 47)),0,none⟩,⟨none,(.store 1 (.t 51) (.t 50)),0,none⟩] none))))
def Kt:List IRes:=[]
def DR:ZC:=Xn [(48,.own QJ K4)]
theorem b1j{G:AV×List AObj×List AObj->Prop}(E:Yx)(l:Nat)(b:BoxT)(fs:List Fact)(n:Nat)(p:List Int)(k:Int)(h:if (decide (k ≥ 0))=true then(decide (0<=k)&&decide (0+Int.toNat k<n)&&List.length (List.map enc p)==n)=true∧((List.length (List.map enc p)==n&&decide (0+Int.toNat k<List.length (List.map enc p)))=true∧((decide (0+List.length [Sh.int .i64]<=List.length (PV.cells (List.getD (List.map enc p) (0+Int.toNat k) default)))&&XL (PV.cells (List.getD (List.map enc p) (0+Int.toNat k) default)) 0 [Sh.int .i64])=true∧(if (PV.asInt (List.getD (PV.cells (List.getD (List.map enc p) (0+Int.toNat k) default)) 0 default)==PV.asInt (List.getD (List.drop 1 [enc b.v,PV.int .i64 b.m]) 0 default))=true then(decide (0<=k)&&decide (0+Int.toNat k<n)&&List.length (List.map enc p)==n)=true∧((List.length (List.map enc p)==n&&decide (0+Int.toNat k<List.length (List.map enc p))&&List.length (PV.cells (PV.int .i64 0))==1&&decide (0+1<=List.length (PV.cells (List.getD (List.map enc p) (0+Int.toNat k) default)))&&PV.cellsOk (PV.int .i64 0))=true∧(AtS [.seq (.ext 99 [0,1,2,4])] DR E 1 (Zj 1 Kt G) U1 0 52 [(0,(.yld l)),(1,(.pv (.rptr [(.sl 1 false (List.map enc b.v)),(.int .i64 b.m)]))),(2,(.pv (.rptr [(.sl 3 false (List.map enc fs))]))),(4,(.row 0 n 0 n)),(6,(.pv (.int .i64 (IntKind.wrap IntKind.i64 (k - 1)))))] [(.obj (.row false 3 1 (List.set (List.map enc p) (0+Int.toNat k) (PV.withCells (List.getD (List.map enc p) (0+Int.toNat k) default) (splice (PV.cells (List.getD (List.map enc p) (0+Int.toNat k) default)) 0 (PV.cells (PV.int .i64 0)))))))]))else(if (decide (k<0))=true then G (((.tup []),([(.row false 3 1 (List.map enc p))],[])))else((decide (0<=k)&&decide (0+Int.toNat k<n)&&List.length (List.map enc p)==n)=true∧((List.length (List.map enc p)==n&&decide (0+Int.toNat k<List.length (List.map enc p)))=true∧((decide (0+List.length [Sh.int .i64]<=List.length (PV.cells (List.getD (List.map enc p) (0+Int.toNat k) default)))&&XL (PV.cells (List.getD (List.map enc p) (0+Int.toNat k) default)) 0 [Sh.int .i64])=true∧((decide (0<=k)&&decide (0+Int.toNat k<n)&&List.length (List.map enc p)==n)=true∧((List.length (List.map enc p)==n&&decide (0+Int.toNat k<List.length (List.map enc p))&&List.length (PV.cells (PV.int .i64 (IntKind.wrap IntKind.i64 (PV.asInt (List.getD (PV.cells (List.getD (List.map enc p) (0+Int.toNat k) default)) 0 default)+1))))==1&&decide (0+1<=List.length (PV.cells (List.getD (List.map enc p) (0+Int.toNat k) default)))&&PV.cellsOk (PV.int .i64 (IntKind.wrap IntKind.i64 (PV.asInt (List.getD (PV.cells (List.getD (List.map enc p) (0+Int.toNat k) default)) 0 default)+1))))=true∧(E 99 ⟨ZM 52 0 [(0,(.yld l)),(1,(.pv (.rptr [(.sl 1 false (List.map enc b.v)),(.int .i64 b.m)]))),(2,(.pv (.rptr [(.sl 3 false (List.map enc fs))]))),(4,(.row 0 n 0 n))],[(.obj (.row false 3 1 (List.set (List.map enc p) (0+Int.toNat k) (PV.withCells (List.getD (List.map enc p) (0+Int.toNat k) default) (splice (PV.cells (List.getD (List.map enc p) (0+Int.toNat k) default)) 0 (PV.cells (PV.int .i64 (IntKind.wrap IntKind.i64 (PV.asInt (List.getD (PV.cells (List.getD (List.map enc p) (0+Int.toNat k) default)) 0 default)+1)))))))))]⟩ (fun x S'=>Jb DR E 1 (Zj 1 Kt G) U1 99 x S')))))))))))else(if (decide (k<0))=true then G (((.tup []),([(.row false 3 1 (List.map enc p))],[])))else((decide (0<=k)&&decide (0+Int.toNat k<n)&&List.length (List.map enc p)==n)=true∧((List.length (List.map enc p)==n&&decide (0+Int.toNat k<List.length (List.map enc p)))=true∧((decide (0+List.length [Sh.int .i64]<=List.length (PV.cells (List.getD (List.map enc p) (0+Int.toNat k) default)))&&XL (PV.cells (List.getD (List.map enc p) (0+Int.toNat k) default)) 0 [Sh.int .i64])=true∧((decide (0<=k)&&decide (0+Int.toNat k<n)&&List.length (List.map enc p)==n)=true∧((List.length (List.map enc p)==n&&decide (0+Int.toNat k<List.length (List.map enc p))&&List.length (PV.cells (PV.int .i64 (IntKind.wrap IntKind.i64 (PV.asInt (List.getD (PV.cells (List.getD (List.map enc p) (0+Int.toNat k) default)) 0 default)+1))))==1&&decide (0+1<=List.length (PV.cells (List.getD (List.map enc p) (0+Int.toNat k) default)))&&PV.cellsOk (PV.int .i64 (IntKind.wrap IntKind.i64 (PV.asInt (List.getD (PV.cells (List.getD (List.map enc p) (0+Int.toNat k) default)) 0 default)+1))))=true∧(E 99 ⟨ZM 52 0 [(0,(.yld l)),(1,(.pv (.rptr [(.sl 1 false (List.map enc b.v)),(.int .i64 b.m)]))),(2,(.pv (.rptr [(.sl 3 false (List.map enc fs))]))),(4,(.row 0 n 0 n))],[(.obj (.row false 3 1 (List.set (List.map enc p) (0+Int.toNat k) (PV.withCells (List.getD (List.map enc p) (0+Int.toNat k) default) (splice (PV.cells (List.getD (List.map enc p) (0+Int.toNat k) default)) 0 (PV.cells (PV.int .i64 (IntKind.wrap IntKind.i64 (PV.asInt (List.getD (PV.cells (List.getD (List.map enc p) (0+Int.toNat k) default)) 0 default)+1)))))))))]⟩ (fun x S'=>Jb DR E 1 (Zj 1 Kt G) U1 99 x S'))))))))):AtS [.seq (.ext 99 [0,1,2,4])] DR E 1 (Zj 1 Kt G) U1 0 52 [(0,.yld l),(1,(.pv (.rptr [enc b.v,.int .i64 b.m]))),(2,(.pv (.rptr [enc fs]))),(4,.row 0 n 0 n),(6,.pv (.int .i64 k))] [.obj (.row false 3 1 (p.map enc))]:=Zz.mo (.lit (.ask (.lit (.lit (.req (.keep (.lit (.req (.req (.lit (.lit (.lit (.lit (.lit (.lit (.ask (.req (.keep (.req (.lit (.nil))))) (.lit (.ask (.nil) (.req (.keep (.req (.req (.lit (.req (.keep (.req (.nil))))))))))))))))))))))))) (.lit (.lit (.lit (.lit (.lit (.lit (.lit (.lit (.lit (.ask (.nil) (.req (.keep (.req (.req (.lit (.req (.keep (.req (.nil))))))))))))))))))))) h (by kernel_rfl)
theorem c5b{G:AV×List AObj×List AObj->Prop}(E:Yx)(l:Nat)(b:BoxT)(fs:List Fact)(n:Nat)(p:List Int)(h:AtS [.seq (.ext 99 [0,1,2,4])] DR E 1 (Zj 1 Kt G) U1 0 52 [(0,(.yld l)),(1,(.pv (.rptr [(.sl 1 false (List.map enc b.v)),(.int .i64 b.m)]))),(2,(.pv (.rptr [(.sl 3 false (List.map enc fs))]))),(4,(.row 0 n 0 n)),(6,(.pv (.int .i64 (IntKind.wrap IntKind.i64 ((↑(n - 0):Int) - 1)))))] [(.obj (.row false 3 1 (List.map enc p)))]):Zz DR E 1 (Zj 1 Kt G) (.inl U1) [.seq (.ext 99 [0,1,2,4])] ⟨ZM 52 0 [(0,.yld l),(1,(.pv (.rptr [enc b.v,.int .i64 b.m]))),(2,(.pv (.rptr [enc fs]))),(4,.row 0 n 0 n)],[.obj (.row false 3 1 (p.map enc))]⟩:=Zz.mo (.lit (.nil)) h (by kernel_rfl)
def X5:IC:=(.seq (.reg [⟨(some 2),(.box 2 (.t 0)),0,none⟩,⟨(some 4),(.mv (.c (.sl 0 true []))),1,none⟩] none) (.seq (.reg [⟨(some 5),(.mv (.c (.sl 0 true []))),0,none⟩] none) (.seq (.seq (.reg [⟨(some 7),(.mv (.t 1)),0,none⟩,⟨(some 8),(.len 1 (.t 7)),0,none⟩,⟨(some 9),(.faddr 0 (.t 2)),0,none⟩,⟨(some 10),(.load false [(.sl 1)] (.t 9)),0,none⟩,⟨(some 11),(.len 1 (.t 10)),0,none⟩,⟨(some 12),(.mm false (.t 8) (.t 11)),0,none⟩,⟨(some 13),(.mv (.c (.int .i64 0))),0,none⟩] none) (.block 0 (.loop [13,12,5,2,1] (.seq (.reg [⟨(some 14),(.bin .num .lss (.t 13) (.t 12)),0,none⟩] none) (.seq (.cond (.t 14) .skip (.exit 0)) (.seq (.block 1 (.seq (.reg [⟨(some 15),(.mv (.t 13)),0,none⟩,⟨(some 6),(.mv (.t 15)),0,none⟩] none) (.reg [⟨(some 16),(.mv (.t 5)),0,none⟩,⟨(some 17),(.faddr 0 (.t 2)),0,none⟩,⟨(some 18),(.load false [(.sl 1)] (.t 17)),0,none⟩,⟨(some 19),(.mv (.t 6)),0,none⟩,⟨(some 20),(.iaddr 1 (.t 18) (.t 19)),0,none⟩,⟨(some 21),(.load false [.str] (.t 20)),0,none⟩,⟨(some 22),(.mv (.t 1)),0,none⟩,⟨(some 23),(.mv (.t 6)),0,none⟩,⟨(some 24),(.iaddr 1 (.t 22) (.t 23)),0,none⟩,⟨(some 25),(.load false [(.int .i64)] (.t 24)),0,none⟩,⟨(some 26),(.build [(.str []),(.int .i64 0)] [(0,(1,(.t 21))),(1,(1,(.t 25)))]),0,none⟩,⟨(some 27),(.bslice 63 2 1 (.agg [(.str []),(.int .i64 0)]) [(0,(.t 26))]),0,none⟩,⟨(some 28),(.append 63 2 24 (.t 16) (.t 27)),1,none⟩,⟨(some 5),(.mv (.t 28)),2,none⟩] (some [[],[],[1],[],[2,3,1],[4,2,3,1],[],[],[6,7],[8,6,7],[5,9,4,2,3,1,8,6,7],[10,5,9,4,2,3,1,8,6,7],[0,11,10,5,9,4,2,3,1,8,6,7],[12,0,1,2,3,4,5,6,7,8,9,10,11]])))) (.reg [⟨(some 29),(.bin .num .add (.t 13) (.c (.int .i64 1))),0,none⟩,⟨(some 13),(.mv (.t 29)),0,none⟩] none))))))) (.seq (.reg [⟨(some 30),(.mv (.t 5)),0,none⟩,⟨(some 4),(.mv (.t 30)),0,none⟩] none) .ret))))
def X6:List IRes:=[(.tmp 4)]
abbrev a7h:Nat:=31
def Vl:ZC:=Xn []
theorem b4p{G:AV×List AObj×List AObj->Prop}(b:BoxT)(m:Nat)(p:List Int)(h:At Vl 1 (UV 1 X6 G) X5 0 31 [(1,(.row 0 m 0 m)),(2,(.ptr 1 0)),(5,(.pv (.sl 0 true []))),(12,(.pv (.int .i64 (if false=true then if (↑(List.length (List.map enc b.v)):Int)>(↑(m - 0):Int)then(↑(List.length (List.map enc b.v)):Int)else(↑(m - 0):Int)else if (↑(List.length (List.map enc b.v)):Int)<(↑(m - 0):Int)then(↑(List.length (List.map enc b.v)):Int)else(↑(m - 0):Int))))),(13,(.pv (.int .i64 0)))] [(.obj (.row false 3 1 (List.map enc p))),(.obj (.box [(.pv (.sl 1 false (List.map enc b.v))),(.pv (.int .i64 b.m))]))]):Zc Vl 1 (UV 1 X6 G) X5 [] (YH 31 [.pv (enc b),.row 0 m 0 m] [.row false 3 1 (p.map enc)]):=Zc.tf (.nil) h (by kernel_rfl)
theorem C8{G:AV×List AObj×List AObj->Prop}(b:BoxT)(m:Nat)(p:List Int)(n i:Int)(h:if (decide (i<n))=true then(decide (0<=i)&&decide (Int.toNat i<List.length (List.map enc b.v))&&Enc.sz Str==1)=true∧(∃ y0:Str,AV.pv (PV.rptr (PV.cells (List.getD (List.map enc b.v) (Int.toNat i) default)))=AV.pv (PV.rptr (PV.cells ((enc) y0)))∧((decide (0<=i)&&decide (0+Int.toNat i<m)&&List.length (List.map enc p)==m)=true∧((List.length (List.map enc p)==m&&decide (0+Int.toNat i<List.length (List.map enc p)))=true∧((decide (0+List.length [Sh.int .i64]<=List.length (PV.cells (List.getD (List.map enc p) (0+Int.toNat i) default)))&&XL (PV.cells (List.getD (List.map enc p) (0+Int.toNat i) default)) 0 [Sh.int .i64])=true∧(At Vl 1 (UV 1 X6 G) X5 0 31 [(1,(.row 0 m 0 m)),(2,(.ptr 1 0)),(5,(.row 2 1 0 1)),(12,(.pv (.int .i64 n))),(13,(.pv (.int .i64 (IntKind.wrap IntKind.i64 (i+1)))))] [(.obj (.row false 3 1 (List.map enc p))),(.obj (.box [(.pv (.sl 1 false (List.map enc b.v))),(.pv (.int .i64 b.m))])),(.obj (.row false 63 2 [(.agg [(.str (PV.asStr (List.getD (PV.cells (enc y0)) 0 default))),(.int .i64 (PV.asInt (List.getD (PV.cells (List.getD (List.map enc p) (0+Int.toNat i) default)) 0 default)))])]))])))))else(G (((.pv (.sl 0 true [])),([(.row false 3 1 (List.map enc p))],[]))))):At Vl 1 (UV 1 X6 G) X5 0 31 [(1,.row 0 m 0 m),(2,.ptr 1 0),(5,.pv (.sl 0 true [])),(12,.pv (.int .i64 n)),(13,.pv (.int .i64 i))] [.obj (.row false 3 1 (p.map enc)),.obj (.box [.pv (enc b.v),.pv (.int .i64 b.m)])]:=At.tf (.lit (.ask (.req (.abs (Str) (fun YY=>AV.pv (PV.rptr (PV.cells ((enc) YY)))) (.lit (.req (.keep (.req (.req (.lit (.lit (.lit (.lit (.lit (.lit (.nil)))))))))))))) (.nil))) h (by kernel_rfl)
theorem Az{G:AV×List AObj×List AObj->Prop}(b:BoxT)(m:Nat)(p:List Int)(n i:Int)(q:Nat)(vs:List Coef)(h:if (decide (i<n))=true then(decide (0<=i)&&decide (Int.toNat i<List.length (List.map enc b.v))&&Enc.sz Str==1)=true∧(∃ y0:Str,AV.pv (PV.rptr (PV.cells (List.getD (List.map enc b.v) (Int.toNat i) default)))=AV.pv (PV.rptr (PV.cells ((enc) y0)))∧((decide (0<=i)&&decide (0+Int.toNat i<m)&&List.length (List.map enc p)==m)=true∧((List.length (List.map enc p)==m&&decide (0+Int.toNat i<List.length (List.map enc p)))=true∧((decide (0+List.length [Sh.int .i64]<=List.length (PV.cells (List.getD (List.map enc p) (0+Int.toNat i) default)))&&XL (PV.cells (List.getD (List.map enc p) (0+Int.toNat i) default)) 0 [Sh.int .i64])=true∧((List.length (List.map enc vs)==q&&q==q&&decide ((q+List.length (List.drop 0 (List.take 1 [PV.agg [Sh.co Sh.str (List.getD (PV.cells (enc y0)) 0 default),Sh.co (Sh.int .i64) (List.getD (PV.cells (List.getD (List.map enc p) (0+Int.toNat i) default)) 0 default)]])))*24<=1099511627776)&&decide (q+List.length (List.drop 0 (List.take 1 [PV.agg [Sh.co Sh.str (List.getD (PV.cells (enc y0)) 0 default),Sh.co (Sh.int .i64) (List.getD (PV.cells (List.getD (List.map enc p) (0+Int.toNat i) default)) 0 default)]]))<=1099511627776))=true∧(At Vl 1 (UV 1 X6 G) X5 0 31 [(1,(.row 0 m 0 m)),(2,(.ptr 1 0)),(5,(.row 2 (q+List.length (List.drop 0 (List.take 1 [PV.agg [Sh.co Sh.str (List.getD (PV.cells (enc y0)) 0 default),Sh.co (Sh.int .i64) (List.getD (PV.cells (List.getD (List.map enc p) (0+Int.toNat i) default)) 0 default)]]))) 0 (q+List.length (List.drop 0 (List.take 1 [PV.agg [Sh.co Sh.str (List.getD (PV.cells (enc y0)) 0 default),Sh.co (Sh.int .i64) (List.getD (PV.cells (List.getD (List.map enc p) (0+Int.toNat i) default)) 0 default)]]))))),(12,(.pv (.int .i64 n))),(13,(.pv (.int .i64 (IntKind.wrap IntKind.i64 (i+1)))))] [(.obj (.row false 3 1 (List.map enc p))),(.obj (.box [(.pv (.sl 1 false (List.map enc b.v))),(.pv (.int .i64 b.m))])),(.obj (.row false 63 2 (List.map enc vs++List.drop 0 (List.take 1 [PV.agg [Sh.co Sh.str (List.getD (PV.cells (enc y0)) 0 default),Sh.co (Sh.int .i64) (List.getD (PV.cells (List.getD (List.map enc p) (0+Int.toNat i) default)) 0 default)]]))))]))))))else((List.length (List.map enc vs)==q)=true∧(G (((.pv (.sl 2 false (List.drop 0 (List.take q (List.map enc vs))))),([(.row false 3 1 (List.map enc p))],[])))))):At Vl 1 (UV 1 X6 G) X5 0 31 [(1,.row 0 m 0 m),(2,.ptr 1 0),(5,.row 2 q 0 q),(12,.pv (.int .i64 n)),(13,.pv (.int .i64 i))] [.obj (.row false 3 1 (p.map enc)),.obj (.box [.pv (enc b.v),.pv (.int .i64 b.m)]),.obj (.row false 63 2 (vs.map enc))]:=At.tf (.lit (.ask (.req (.abs (Str) (fun YY=>AV.pv (PV.rptr (PV.cells ((enc) YY)))) (.lit (.req (.keep (.req (.req (.lit (.lit (.req (.lit (.nil)))))))))))) (.req (.nil)))) h (by kernel_rfl)
end Go.Pl

namespace Go.Pl
open Go.RowKit
open Enc (enc dec is)
open EncL (encL decL isL)
theorem AO{l:List Int}{i:Nat}(h:i<l.length):List.getD (List.map (enc:Int->PV) l) (0+Int.toNat (i:Int)) default=enc l[i]:=by simp[List.getD,h]
theorem NW(b:BoxT)(p:List Int)(hb:b.v.length<=1000)(hp:p.length<=1000): ∀ (k i:Nat),k+i=min b.v.length p.length->1<=i ->
  At Vl 1 (UV 1 X6 fun r=> ∃ q q',r.1 = .pv q∧Sub q q'∧((.pv (.sl 2 false ((Zn b.v p).map enc)),[.row false 3 1 (p.map enc)],[]):AV×List AObj×List AObj)=(.pv q',r.2)) X5 0 31 [(1,.row 0 p.length 0 p.length),(2,.ptr 1 0),(5,.row 2 i 0 i),(12,.pv (.int .i64 ((min b.v.length p.length:Nat):Int))),(13,.pv (.int .i64 i))] [.obj (.row false 3 1 (p.map enc)),.obj (.box [.pv (enc b.v),.pv (.int .i64 b.m)]),.obj (.row false 63 2 ((Zn (b.v.take i) (p.take i)).map enc))]:=by
 intro k
 induction k with
 | zero=>
  intro i hi h1
  have hl:=LG b.v p (i:=i) (by omega) (by omega)
  refine Az b p.length p _ i i (Zn (b.v.take i) (p.take i)) (Z8 (Yc (by omega)) ⟨by simp[hl],?_⟩)
  rw[List.drop_zero,List.take_of_length_le (by rw[List.length_map,hl];exact Nat.le_refl _),b6u b.v p (by omega)]
  exact⟨_,_,rfl,Sub.refl _,rfl⟩
 | succ k ih=>
  intro i hi h1
  have hl:=LG b.v p (i:=i) (by omega) (by omega)
  have hlt:i<b.v.length:=by omega
  have hlt2:i<p.length:=by omega
  have e:=AO hlt2
  refine Az b p.length p _ i i (Zn (b.v.take i) (p.take i)) (Ya (Z4 (by omega)) ⟨ZG hlt rfl,Z0 hlt ⟨by simp;omega,by simp;omega,?_,?_,?_⟩⟩)
  ·rw[e];rfl
  ·rw[List.length_map,hl]
   show((i==i)&&(i==i)&&decide ((i+1)*24<=1099511627776)&&decide (i+1<=1099511627776))=true
   rw[decide_eq_true (by omega),decide_eq_true (by omega)];simp
  ·have:=ih (i+1) (by omega) (by omega)
   rw[Rc b.v p hlt hlt2,List.map_append,<- next (by omega)]at this
   rw[e]
   exact this
theorem LM(l:List Int):b1y (l.map enc)=l:=Enc.dec_enc l
theorem FX: ∀ args os,QJ args os=true->Zc Vl os.length (UV os.length X6 fun r=> ∃ p p',r.1 = .pv p∧Sub p p'∧K4 args os=(.pv p',r.2)) X5 [] (YH a7h args os):=by
 intro args os h
 unfold QJ at h
 split at h
 ·rename_i v k n m ty xs
  simp only[Bool.and_eq_true,beq_iff_eq,decide_eq_true_eq]at h
  obtain⟨⟨⟨⟨⟨⟨rfl,h2⟩,rfl⟩,h4⟩,h5⟩,h6⟩,h7⟩:=h
  obtain⟨p,hp⟩:=Ym h4
  have hp:PV.sl 1 false xs=PV.sl 1 false (p.map enc):=hp
  injection hp with _ _ hx
  subst hx
  obtain⟨bv,rfl⟩:=Ym h5
  rw[Enc.dec_enc]at h6
  rw[List.length_map]at h2
  subst h2
  have ev:K4 [.pv (.agg [enc bv,.int .i64 k]),.row 0 p.length 0 p.length] [.row false 3 1 (p.map enc)]=(.pv (.sl 2 false ((Zn bv p).map enc)),[.row false 3 1 (p.map enc)],[]):=by
   show(AV.pv (.sl 2 false ((Zn (dec (enc bv:PV)) (b1y (p.map enc))).map enc)),_,_)=_
   rw[Enc.dec_enc,LM]
  rw[ev]
  refine b4p ⟨bv,k⟩ p.length p ?_
  simp only[List.length_map]
  rw[if_neg (by decide)]
  have em:(if ((bv.length:Nat):Int)<((p.length - 0:Nat):Int)then(bv.length:Int)else((p.length - 0:Nat):Int))=((min bv.length p.length:Nat):Int):=by
   split <;> omega
  rw[em]
  by_cases h0:min bv.length p.length=0
  ·rw[h0]
   refine C8 ⟨bv,k⟩ p.length p 0 0 (Z8 (by decide) ?_)
   have:Zn bv p=[]:=by
    rw[<- List.length_eq_zero_iff];unfold Zn;rw[List.length_zipWith];exact h0
   rw[this]
   exact⟨_,_,rfl,Sub.sl0 0 2 true,rfl⟩
  ·have hlt:0<bv.length:=by omega
   have hlt2:0<p.length:=by omega
   have e:=AO hlt2
   refine C8 ⟨bv,k⟩ p.length p _ 0 (Ya (Z4 (i:=0) (by omega)) ⟨ZG hlt rfl,Z0 hlt ⟨by simp;omega,by simp;omega,?_,?_⟩⟩)
   ·have e:List.getD (List.map (enc:Int->PV) p) (0+Int.toNat 0) default=enc p[0]:=e
    rw[e];rfl
   ·have:=NW ⟨bv,k⟩ p h6 h7 (min bv.length p.length - 1) 1 (by show min bv.length p.length - 1+1=min bv.length p.length;omega) (by omega)
    rw[show(1:Nat)=0+1 from rfl,Rc bv p hlt hlt2]at this
    have e:List.getD (List.map (enc:Int->PV) p) (0+Int.toNat 0) default=enc p[0]:=e
    rw[e]
    exact this
 ·cases h
def Je(l:Nat)(b:BoxT)(fs:List Fact)(n:Nat):List AV:=ZM 52 0 [(0,.yld l),(1,.pv (.rptr [enc b.v,.int .i64 b.m])),(2,.pv (.rptr [enc fs])),(4,.row 0 n 0 n)]
def YI(p:List Int):Zt:=[.obj (.row false 3 1 (p.map enc))]
def a8k(l:Nat)(b:BoxT)(fs:List Fact)(n:Nat)(p:List Int):List AV:=ZM 52 0 [(0,.yld l),(1,.pv (.rptr [enc b.v,.int .i64 b.m])),(2,.pv (.rptr [enc fs])),(4,.row 0 n 0 n),(5,.pv (enc (Zn b.v p)))]
theorem c1x(l:Nat)(b:BoxT)(fs:List Fact)(hb:b.v.length<=1000):Zz a1e (fun n S' _=>n=99∧S'=⟨Je l b fs b.v.length,YI (V5 b.v)⟩) 0 (Zj 0 Ol fun _=>False) (.inl P7) [.seq (.ext 99 [0,1,2,4])] ⟨ZM 52 0 [(0,.yld l),(1,.pv (.rptr [enc b.v,.int .i64 b.m])),(2,.pv (.rptr [enc fs]))],[]⟩:=by
 have e:PV.asXs (List.getD (List.drop 0 [enc b.v,PV.int .i64 b.m]) 0 default)=b.v.map enc:=rfl
 have en:Int.toNat ((List.length (List.map (enc:Str->PV) b.v):Nat):Int)=b.v.length:=by simp
 have ez:List.replicate b.v.length (PV.int .i64 0)=(V5 b.v).map enc:=by
  unfold V5
  rw[List.map_map]
  exact(List.map_const' ..).symm
 refine c6j (G:=fun _=>False) _ l b fs ⟨?_,rfl,?_⟩
 ·simp only[e,List.length_map]
  simp
  omega
 ·simp only[e,en,ez]
  rfl
theorem c0g(l:Nat)(b:BoxT)(fs:List Fact)(p:List Int)(hb:b.v.length<=1000)(hp:p.length<=1000):Zz b1d (fun n S' _=>n=99∧S'=⟨a8k l b fs p.length p,YI p⟩) 1 (Zj 1 EN fun _=>False) (.inl Pv) [.seq (.ext 99 [0,1,2,4,5])] ⟨Je l b fs p.length,YI p⟩:=by
 refine c6p (G:=fun _=>False) _ l b fs p.length p ⟨?_,rfl,?_⟩
 ·show(p.length==p.length&&(p.map enc).length==p.length&&3==3&&Wz (List Int) (enc p)&&Wz (List Str) (enc b.v)&&decide ((dec (enc b.v:PV):List Str).length<=1000)&&decide (p.length<=1000))=true
  rw[ZQ,ZQ,Enc.dec_enc,decide_eq_true hb,decide_eq_true hp];simp
 ·have e1:Zn (dec (Sh.co (Sh.sl 1) (List.getD [enc b.v,PV.int .i64 b.m] 0 default))) (b1y (p.map enc))=Zn b.v p:=by
   rw[LM]
   show Zn (dec (enc b.v:PV)) p=_
   rw[Enc.dec_enc]
  rw[e1]
  rfl
theorem a9b(l:Nat)(b:BoxT)(fs:List Fact): ∀ (k:Nat) (p:List Int),k<=p.length->p.length<=1000->(∀ x∈p,-1<=x∧x<=20000) ->
  AtS [.seq (.ext 99 [0,1,2,4])] DR (fun n S' _=>n=99∧ ∃ q,Wl b.m k p=some q∧S'=⟨Je l b fs p.length,YI q⟩) 1 (Zj 1 Kt fun _=>Wl b.m k p=none) U1 0 52 [(0,.yld l),(1,.pv (.rptr [enc b.v,.int .i64 b.m])),(2,.pv (.rptr [enc fs])),(4,.row 0 p.length 0 p.length),(6,.pv (.int .i64 ((k:Int) - 1)))] (YI p):=by
 intro k
 induction k with
 | zero=>
  intro p hk hp hx
  exact b1j (G:=fun _=>Wl b.m 0 p=none) _ l b fs p.length p _ (Z8 (by simp) (Ya (by simp) rfl))
 | succ k ih=>
  intro p hk hp hx
  have hlt:k<p.length:=by omega
  have ek:((k+1:Nat):Int) - 1=(k:Int):=by omega
  rw[ek]
  have e:=AO hlt
  have eg:p.getD k 0=p[k]:=by simp[List.getD,hlt]
  have hxk:=hx _ (List.getElem_mem hlt)
  have em:PV.asInt (List.getD (List.drop 1 [enc b.v,PV.int .i64 b.m]) 0 default)=b.m:=rfl
  have q1:(decide (0<=(k:Int))&&decide (0+Int.toNat (k:Int)<p.length)&&List.length (List.map (enc:Int->PV) p)==p.length)=true:=by simp;omega
  have q2:(List.length (List.map (enc:Int->PV) p)==p.length&&decide (0+Int.toNat (k:Int)<List.length (List.map (enc:Int->PV) p)))=true:=by simp;omega
  have hset : ∀ y:Int,List.set (List.map (enc:Int->PV) p) (0+Int.toNat (k:Int)) (enc y)=(p.set k y).map enc:=fun y=>by rw[Nat.zero_add,Int.toNat_natCast,List.map_set]
  refine b1j (G:=fun _=>Wl b.m (k+1) p=none) _ l b fs p.length p k (Ya (by simp) ?_)
  rw[e]
  refine⟨q1,q2,rfl,Gj (fun h=>⟨q1,?_,?_⟩) fun h=>Z8 (by simp) ⟨q1,q2,rfl,q1,?_,?_⟩⟩
  ·rw[q2];rfl
  ·have h:p[k]=b.m:=h
   have hn:Wl b.m (k+1) p=Wl b.m k (p.set k 0):=by rw[Wl,eg,if_pos h]
   rw[hn]
   have hw:IntKind.i64.wrap ((k:Int) - 1)=(k:Int) - 1:=YU (by omega) (by omega)
   rw[hw]
   have:=ih (p.set k 0) (by rw[List.length_set];omega) (by rw[List.length_set];exact hp) (fun x hx'=>by
    rcases List.mem_or_eq_of_mem_set hx' with h|rfl
    ·exact hx x h
    ·omega)
   rw[List.length_set]at this
   have e0:=hset 0
   unfold YI at this
   rw[<- e0]at this
   exact this
  ·rw[q2];rfl
  ·have h : ¬ p[k]=b.m:=h
   have hn:Wl b.m (k+1) p=some (p.set k (p[k]+1)):=by rw[Wl,eg,if_neg h]
   have hw:IntKind.i64.wrap (p[k]+1)=p[k]+1:=YU (by omega) (by omega)
   refine⟨rfl,_,hn,?_⟩
   have e0:=hset (IntKind.i64.wrap (p[k]+1))
   show(⟨Je l b fs p.length,[.obj (.row false 3 1 (List.set (List.map (enc:Int->PV) p) (0+Int.toNat (k:Int)) (enc (IntKind.i64.wrap (p[k]+1)))))]⟩:St)=_
   rw[e0,hw]
   rfl
theorem c2g(l:Nat)(b:BoxT)(fs:List Fact)(p:List Int)(hp:p.length<=1000)(hx : ∀ x∈p,-1<=x∧x<=20000):Zz DR (fun n S' _=>n=99∧ ∃ q,Du b.m p=some q∧S'=⟨Je l b fs p.length,YI q⟩) 1 (Zj 1 Kt fun _=>Du b.m p=none) (.inl U1) [.seq (.ext 99 [0,1,2,4])] ⟨Je l b fs p.length,YI p⟩:=by
 refine c5b (G:=fun _=>Du b.m p=none) _ l b fs p.length p ?_
 have hw:IntKind.i64.wrap (((p.length - 0:Nat):Int) - 1)=((p.length:Nat):Int) - 1:=by rw[Nat.sub_zero];exact YU (by omega) (by omega)
 rw[hw]
 exact a9b l b fs p.length p (Nat.le_refl _) hp hx
end Go.Pl

namespace Go.Pl
open Go.RowKit
open Enc (enc dec is)
open EncL (encL decL isL)
end Go.Pl

namespace Go.Pl
open Go.RowKit
open Enc (enc dec is)
open EncL (encL decL isL)
set_option maxRecDepth 100000
end Go.Pl

namespace Go.Pl
open Go.RowKit
open Enc (enc dec is)
open EncL (encL decL isL)
set_option maxRecDepth 100000
end Go.Pl

namespace Go.Pl
open Go.RowKit
open Enc (enc dec is)
open EncL (encL decL isL)
structure Cert2 where
 a:Cert
 b:Cert
instance:Enc Cert2 where
 sz:=10
 enc x:=.agg (PV.cells (enc x.a)++PV.cells (enc x.b))
 dec | .agg [a,b,c,d,e,f,g,h,i,j]=>⟨dec (.agg [a,b,c,d,e]),dec (.agg [f,g,h,i,j])⟩|_=>⟨.mk 0 [] ⟨0,[]⟩ [],.mk 0 [] ⟨0,[]⟩ []⟩
 is | .agg [a,b,c,d,e,f,g,h,i,j]=>is Cert (.agg [a,b,c,d,e])&&is Cert (.agg [f,g,h,i,j])|_=>false
 is_enc v:=by
  obtain⟨⟨k,m,l,ks⟩,⟨k',m',l',ks'⟩⟩:=v
  rw[VP,VP]
  show(is Cert (.agg [enc k,enc m,enc l.k,enc l.t,enc ks])&&is Cert (.agg [enc k',enc m',enc l'.k,enc l'.t,enc ks']))=true
  rw[<- VP,<- VP,Enc.is_enc,Enc.is_enc];rfl
 dec_enc v:=by
  obtain⟨⟨k,m,l,ks⟩,⟨k',m',l',ks'⟩⟩:=v
  rw[VP,VP]
  show(⟨dec (.agg [enc k,enc m,enc l.k,enc l.t,enc ks]),dec (.agg [enc k',enc m',enc l'.k,enc l'.t,enc ks'])⟩:Cert2)=_
  rw[<- VP,<- VP,Enc.dec_enc,Enc.dec_enc]
 sub p h:=by
  cases p with
  | agg xs=>
   match xs,h with
   | [a,b,c,d,e,f,g,h',i,j],h=>
    simp only[Bool.and_eq_true]at h
    have h1:=Enc.sub (α:=Cert) _ h.1
    have h2:=Enc.sub (α:=Cert) _ h.2
    exact U6.agg (h1.1.append h2.1)
  | _=>cases h
theorem c6c{l:Lin}{n:Int}(h:QV l n=true)(hl:Y4 l=true):ZW l=true:=by
 simp only[QV,Bool.and_eq_true,List.all_eq_true,decide_eq_true_eq]at h
 simp only[ZW,hl,Bool.true_and,List.all_eq_true,decide_eq_true_eq]
 intro t ht
 have:=h.1 t ht
 omega
mutual
theorem b8i: ∀ (c:Cert) (n:Int),n<=12->F6 c n=true->cOk c=true->1<=n∧(c3p c:Int)<=n∧1<=BS c∧BS c<=n∧cSm c=true
 | .mk k m l ks,n,hn,h,ho=>by
  simp only[F6,Bool.and_eq_true,Bool.not_eq_true',decide_eq_false_iff_not]at h
  obtain⟨h1,h2,h3,h4,h5⟩:=h
  simp only[cOk,Bool.and_eq_true,decide_eq_true_eq]at ho
  obtain⟨⟨⟨o1,o2⟩,o3⟩,o4⟩:=ho
  obtain⟨a1,a2,a3,a4⟩:=MC ks n 1 (by omega) hn (by omega) (by omega) h5 o4
  rw[c3p,BS]
  refine⟨by omega,by omega,by omega,by omega,?_⟩
  simp only[cSm,c6c h2 o2,a4,decide_eq_true o1,decide_eq_true o3]
  rfl
theorem MC: ∀ (cs:List Cert) (n s:Int),1<=n->n<=12->1<=s->s<=100 - n->Cq cs n=true->a5m cs=true->(Fe cs:Int)<=n - 1∧s<=G7 s cs∧G7 s cs<=s+n - 1∧a4c cs=true
 | [],n,s,h1,h2,h3,h4,_,_=>by
  rw[Fe,G7]
  exact⟨by omega,by omega,by omega,rfl⟩
 | c::cs,n,s,h1,h2,h3,h4,h,ho=>by
  simp only[Cq,Bool.and_eq_true]at h
  simp only[a5m,Bool.and_eq_true]at ho
  rw[YU (by omega) (by omega)]at h
  obtain⟨b1,b2,b3,b4,b5⟩:=b8i c (n - 1) (by omega) h.1 ho.1
  have h':=h.2
  rw[YU (by omega) (by omega)]at h'
  obtain⟨a1,a2,a3,a4⟩:=MC cs (n - BS c) (s+BS c) (by omega) (by omega) (by omega) (by omega) h' ho.2
  rw[Fe,G7,YU (by omega) (by omega)]
  refine⟨by omega,by omega,by omega,?_⟩
  simp only[a4c,b5,a4]
  rfl
end
end Go.Pl

namespace Go.Pl
open Go.RowKit
open Enc (enc dec is)
open EncL (encL decL isL)
set_option maxRecDepth 100000
end Go.Pl

namespace Go.Pl
open Go.RowKit
open Enc (enc dec is)
open EncL (encL decL isL)
theorem PT: ∀ {m:List (Str×Int)},(Wj m).Nodup-> ∀ p∈m,DX m p.1.s=p.2
 | q::m,h,p,hp=>by
  simp only[Wj,List.map_cons,List.nodup_cons]at h
  rcases List.mem_cons.1 hp with rfl|hp
  ·simp[DX]
  ·have:(q.1.s==p.1.s)=false:=by
    simp only[beq_eq_false_iff_ne,ne_eq]
    intro e
    exact h.1 (e▸List.mem_map.2 ⟨p,hp,rfl⟩)
   have ih:=PT (m:=m) h.2 p hp
   simp only[DX,List.find?_cons,this]at ih ⊢
   exact ih
end Go.Pl

namespace Go.Pl
open Go.RowKit
open Enc (enc dec is)
open EncL (encL decL isL)
end Go.Pl

namespace Go.Pl
open Go.RowKit
open Enc (enc dec is)
open EncL (encL decL isL)
end Go.Pl

namespace Go.Pl
open Go.RowKit
def Z6(ts:List Coef)(s:List UInt8):Int:=((ts.find? fun t=>t.v.s==s).map (·.c)).getD 0
def V9(ts:List Coef):Prop:=ts.Pairwise fun a b=>a.v.s<b.v.s
def nzP(ts:List Coef):Prop:= ∀ t∈ts,t.c≠0
theorem Uj(s:List UInt8):Z6 [] s=0:=rfl
theorem ZH(t:Coef)(ts:List Coef)(s:List UInt8):Z6 (t::ts) s=if t.v.s=s then t.c else Z6 ts s:=by
 simp only[Z6,List.find?_cons]
 by_cases h:t.v.s=s
 ·simp[h]
 ·have:(t.v.s==s)=false:=by simpa using h
  simp[this,h]
theorem VO{s:List UInt8}: ∀ {ts:List Coef},(∀ t∈ts,s<t.v.s)->Z6 ts s=0
 | [],_=>rfl
 | t::ts,h=>by
  have h1:=h t (by simp)
  rw[ZH,if_neg (fun e=>by rw[e]at h1;exact List.lt_irrefl _ h1)]
  exact VO fun u hu=>h u (by simp[hu])
theorem Xx{t:Coef}{ts:List Coef}:V9 (t::ts) ↔ (∀ u∈ts,t.v.s<u.v.s)∧V9 ts:=List.pairwise_cons
theorem G8: ∀ {a b:List Coef},V9 a->nzP a->V9 b->nzP b->(∀ s,Z6 a s=Z6 b s)->a=b
 | [],[],_,_,_,_,_=>rfl
 | [],y::ys,_,_,_,hn,h=>by
  have:=h y.v.s
  rw[Uj,ZH,if_pos rfl]at this
  exact absurd this.symm (hn y (by simp))
 | x::xs,[],_,hn,_,_,h=>by
  have:=h x.v.s
  rw[Uj,ZH,if_pos rfl]at this
  exact absurd this (hn x (by simp))
 | x::xs,y::ys,ha,hna,hb,hnb,h=>by
  obtain⟨ha1,ha2⟩:=Xx.1 ha
  obtain⟨hb1,hb2⟩:=Xx.1 hb
  have hxy:x.v.s=y.v.s:=by
   by_cases h1:x.v.s<y.v.s
   ·have e:=h x.v.s
    rw[ZH,if_pos rfl,VO (ts:=y::ys) (fun t ht=>by
     rcases List.mem_cons.1 ht with rfl|ht
     ·exact h1
     ·exact List.lt_trans h1 (hb1 t ht))]at e
    exact absurd e (hna x (by simp))
   ·by_cases h2:x.v.s=y.v.s
    ·exact h2
    ·have h3:=tri h1 h2
     have e:=h y.v.s
     rw[ZH (t:=y),if_pos rfl,VO (ts:=x::xs) (fun t ht=>by
      rcases List.mem_cons.1 ht with rfl|ht
      ·exact h3
      ·exact List.lt_trans h3 (ha1 t ht))]at e
     exact absurd e.symm (hnb y (by simp))
  have hc:x.c=y.c:=by
   have e:=h x.v.s
   rwa [ZH,if_pos rfl,ZH,if_pos hxy.symm]at e
  have hxe:x=y:=by
   have hv:x.v=y.v:=KO.2 hxy
   cases x;cases y;simp only at hv hc;rw[hv,hc]
  have ht:xs=ys:=G8 ha2 (fun t ht=>hna t (by simp[ht])) hb2 (fun t ht=>hnb t (by simp[ht])) fun s=>by
   by_cases hs:x.v.s=s
   ·rw[VO (ts:=xs) (fun t ht=>hs▸ha1 t ht),VO (ts:=ys) (fun t ht=>hs▸hxy▸hb1 t ht)]
   ·have e:=h s
    rwa [ZH,if_neg hs,ZH,if_neg (fun e=>hs (hxy.trans e))]at e
  rw[hxe,ht]
theorem UE(s:Str)(c:Int): ∀ {ts:List Coef},(∀ t∈ts,s.s<t.v.s)->Xt s c true ts=ts
 | [],_=>by simp[Xt]
 | t::ts,h=>by
  have h1:=h t (by simp)
  rw[a1j,if_neg (fun e=>by rw[e]at h1;exact List.lt_irrefl _ h1),UE s c fun u hu=>h u (by simp[hu])]
theorem a0z(s:Str)(c:Int): ∀ {ts:List Coef},V9 ts-> ∀ u∈Xt s c false ts,u.v.s=s.s ∨ ∃ t∈ts,t.v.s=u.v.s
 | [],_,u,hu=>by
  simp only[Xt,Bool.false_eq_true,if_false,List.mem_singleton]at hu
  exact .inl (by rw[hu])
 | t::ts,h,u,hu=>by
  obtain⟨h1,h2⟩:=Xx.1 h
  rw[Jj]at hu
  split at hu
  ·rename_i hlt
   rw[UE s c (fun u hu=>List.lt_trans hlt (h1 u hu))]at hu
   rcases List.mem_cons.1 hu with rfl|hu
   ·exact .inl rfl
   ·exact .inr ⟨u,hu,rfl⟩
  ·split at hu
   ·rename_i he
    rw[UE s c (fun u hu=>he▸h1 u hu)]at hu
    rcases List.mem_cons.1 hu with rfl|hu
    ·exact .inr ⟨t,by simp,rfl⟩
    ·exact .inr ⟨u,by simp[hu],rfl⟩
   ·rcases List.mem_cons.1 hu with rfl|hu
    ·exact .inr ⟨u,by simp,rfl⟩
    ·rcases a0z s c h2 u hu with h|⟨w,hw,e⟩
     ·exact .inl h
     ·exact .inr ⟨w,by simp[hw],e⟩
theorem Ng(s:Str)(c:Int): ∀ {ts:List Coef},V9 ts->V9 (Xt s c false ts)
 | [],_=>by simp[Xt,V9]
 | t::ts,h=>by
  obtain⟨h1,h2⟩:=Xx.1 h
  rw[Jj]
  split
  ·rename_i hlt
   rw[UE s c (fun u hu=>List.lt_trans hlt (h1 u hu))]
   exact Xx.2 ⟨fun u hu=>by
    rcases List.mem_cons.1 hu with rfl|hu
    ·exact hlt
    ·exact List.lt_trans hlt (h1 u hu),h⟩
  ·rename_i hlt
   split
   ·rename_i he
    rw[UE s c (fun u hu=>he▸h1 u hu)]
    exact Xx.2 ⟨h1,h2⟩
   ·rename_i he
    have hts:t.v.s<s.s:=tri hlt (fun e=>he (KO.2 e.symm))
    refine Xx.2 ⟨fun u hu=> ?_,Ng s c h2⟩
    rcases a0z s c h2 u hu with e|⟨w,hw,e⟩
    ·rw[e];exact hts
    ·rw[<- e];exact h1 w hw
theorem Lu(s:Str)(c:Int)(hc:YV c=c): ∀ {ts:List Coef},V9 ts-> ∀ x,Z6 (Xt s c false ts) x=if s.s=x then YV (Z6 ts s.s+c)else Z6 ts x
 | [],_,x=>by
  have e:Xt s c false []=[⟨s,c⟩]:=by simp[Xt]
  rw[e,ZH,Uj,Uj,Int.zero_add,hc]
 | t::ts,h,x=>by
  obtain⟨h1,h2⟩:=Xx.1 h
  rw[Jj]
  split
  ·rename_i hlt
   rw[UE s c (fun u hu=>List.lt_trans hlt (h1 u hu)),ZH,VO (ts:=t::ts) (s:=s.s) (fun u hu=>by
    rcases List.mem_cons.1 hu with rfl|hu
    ·exact hlt
    ·exact List.lt_trans hlt (h1 u hu)),Int.zero_add,hc]
  ·rename_i hlt
   split
   ·rename_i he
    have he':t.v.s=s.s:=by rw[he]
    have e1:Z6 (t::ts) s.s=t.c:=by rw[ZH,if_pos he']
    have e2:Z6 (t::ts) x=if s.s=x then t.c else Z6 ts x:=by rw[ZH,he']
    rw[UE s c (fun u hu=>he▸h1 u hu),ZH,e1,e2]
    show(if t.v.s=x then YV (t.c+c)else Z6 ts x)=_
    rw[he']
    by_cases hx:s.s=x
    ·rw[if_pos hx,if_pos hx]
    ·rw[if_neg hx,if_neg hx,if_neg hx]
   ·rename_i he
    have he' : ¬ t.v.s=s.s:=fun e=>he (KO.2 e)
    rw[ZH,Lu s c hc h2 x,ZH (s:=s.s),if_neg he',ZH (s:=x)]
    by_cases hx:s.s=x
    ·rw[if_pos hx,if_pos hx,if_neg (fun e=>he' (e.trans hx.symm))]
    ·rw[if_neg hx,if_neg hx]
theorem Gz: ∀ {ts:List Coef},V9 ts-> ∀ x,Z6 (ts.filter fun t=>decide (t.c≠0)) x=Z6 ts x
 | [],_,x=>rfl
 | t::ts,h,x=>by
  obtain⟨h1,h2⟩:=Xx.1 h
  rw[List.filter_cons]
  split
  ·rw[ZH,ZH,Gz h2 x]
  ·rename_i hz
   have hz0:t.c=0:=by simpa using hz
   rw[ZH,Gz h2 x]
   by_cases hx:t.v.s=x
   ·rw[if_pos hx,hz0,VO fun u hu=>hx▸h1 u hu]
   ·rw[if_neg hx]
theorem Hu{l:Lin}(s:Str)(c:Int)(h:V9 l.t):V9 (Xy l s c).t:=(Ng s c h).sublist List.filter_sublist
theorem b9t(l:Lin)(s:Str)(c:Int):nzP (Xy l s c).t:=fun t ht=>by simpa using (List.mem_filter.1 ht).2
theorem Ru{l:Lin}(s:Str){c:Int}(hc:YV c=c)(h:V9 l.t)(x:List UInt8):Z6 (Xy l s c).t x=if s.s=x then YV (Z6 l.t s.s+c)else Z6 l.t x:=by
 show Z6 (List.filter _ _) x=_
 rw[Gz (Ng s c h),Lu s c hc h]
theorem a2o(n:Int): -9223372036854775808<=YV n∧YV n<=9223372036854775807:=by
 unfold YV IntKind.wrap
 simp only[IntKind.bits,IntKind.signed]
 simp
 split <;> omega
theorem KY(n:Int):YV (YV n)=YV n:=YU (by have:=a2o n;omega) (by have:=a2o n;omega)
theorem RZ(s:Str)(c:Int)(x:List UInt8): ∀ m:List (Str×Int),DX (SH s c m) x=if s.s=x then c else DX m x
 | []=>by
  rw[SH]
  simp only[DX,List.find?_cons]
  by_cases h:s.s=x
  ·simp[h]
  ·have:(s.s==x)=false:=by simpa using h
   simp[this,h]
 | p::m=>by
  have ih:=RZ s c x m
  rw[SH]
  split
  ·rename_i he
   simp only[DX,List.find?_cons]
   by_cases h:s.s=x
   ·simp[h]
   ·have h1:(s.s==x)=false:=by simpa using h
    have h2:(p.1.s==x)=false:=by rw[<- he];exact h1
    simp[h1,h2,h]
  ·rename_i he
   simp only[DX,List.find?_cons]at ih ⊢
   by_cases h:p.1.s=x
   ·have h2 : ¬ s.s=x:=fun e=>he (e.trans h.symm)
    simp[h,h2]
   ·have h2:(p.1.s==x)=false:=by simpa using h
    rw[h2]
    exact ih
def b0u(ts:List Coef)(m:List (Str×Int)):Prop:=V9 ts∧ ∀ s,Z6 ts s=DX m s
theorem Tm(k:Int): ∀ (x:List Coef) (l:Lin) (m:List (Str×Int)),b0u l.t m->b0u (x.foldl (fun o t=>Xy o t.v (YV (k*t.c))) l).t (Jy k x m)
 | [],l,m,h=>h
 | t::x,l,m,h=>by
  rw[List.foldl_cons,Jy]
  refine Tm k x _ _ ⟨Hu _ _ h.1,fun s=> ?_⟩
  rw[Ru _ (KY _) h.1,RZ,h.2,h.2]
theorem a2e(k:Int): ∀ (x:List Coef) (l:Lin),nzP l.t->nzP (x.foldl (fun o t=>Xy o t.v (YV (k*t.c))) l).t
 | [],l,h=>h
 | t::x,l,h=>a2e k x _ (b9t _ _ _)
theorem b5b(k:Int): ∀ (x:List Coef) (l:Lin),(x.foldl (fun o t=>Xy o t.v (YV (k*t.c))) l).k=l.k
 | [],l=>rfl
 | t::x,l=>b5b k x _
theorem Mt{l x:Lin}{k:Int}(h:nzP l.t):nzP (Z5 l x k).t:=a2e k x.t _ h
theorem Ch(l x:Lin)(k:Int):(Z5 l x k).k=YV (l.k+YV (k*x.k)):=b5b k x.t _
theorem a8u{m:List (Str×Int)}{s:List UInt8}(h:s ∉ Wj m):DX m s=0:=by
 have:(m.find? fun p=>p.1.s==s)=none:=by
  rw[List.find?_eq_none]
  intro p hp e
  exact h (List.mem_map.2 ⟨p,hp,by simpa using e⟩)
 simp[DX,this]
theorem Kb(m:List (Str×Int))(x:List UInt8): ∀ l:List (List UInt8),Z6 (l.map fun s=>(⟨⟨s⟩,DX m s⟩:Coef)) x=if x∈l then DX m x else 0
 | []=>by simp[Z6]
 | s::l=>by
  rw[List.map_cons,ZH,Kb m x l]
  by_cases h:s=x
  ·subst h;simp
  ·have : ¬ x=s:=fun e=>h e.symm
   simp[h,this]
theorem b2l{l:List (List UInt8)}(h:l.Nodup):(Xv l).Pairwise (· < ·):=by
 have tr : ∀ x y z:List UInt8,decide (x<=y)=true->decide (y<=z)=true->decide (x<=z)=true:=fun x y z h k=>by simp only[decide_eq_true_eq]at *;exact List.le_trans h k
 have to : ∀ x y:List UInt8,(decide (x<=y)||decide (y<=x))=true:=fun x y=>by simp only[Bool.or_eq_true,decide_eq_true_eq];exact List.le_total x y
 have h1:=List.pairwise_mergeSort tr to l
 have h2:(Xv l).Nodup:=(List.mergeSort_perm l _).nodup_iff.2 h
 refine(h1.and h2).imp fun {a b} hab=> ?_
 have h3:a<=b:=by simpa using hab.1
 exact Decidable.byContradiction fun hn=>hab.2 (List.le_antisymm h3 (List.not_lt.1 hn))
theorem a7i(m:List (Str×Int)){l:List (List UInt8)}(h:l.Nodup):V9 ((Xv l).map fun s=>(⟨⟨s⟩,DX m s⟩:Coef)):=List.Pairwise.map _ (fun a b hab=>hab) (b2l h)
theorem GD{m:List (Str×Int)}(hd:(Wj m).Nodup):b0u (JO m) m∧nzP (JO m):=by
 have hd2:((m.filter fun p=>decide (p.2≠0)).map (·.1.s)).Nodup:=hd.sublist (List.filter_sublist.map _)
 refine⟨⟨a7i m hd2,fun s=> ?_⟩,fun t ht=> ?_⟩
 ·rw[JO,Kb]
  split
  ·rfl
  ·rename_i hn
   refine(Decidable.byContradiction fun h0=>hn ?_)
   have hk:s∈Wj m:=Decidable.byContradiction fun hk=>h0 (a8u hk).symm
   obtain⟨p,hp,rfl⟩:=List.mem_map.1 hk
   have e:=PT hd p hp
   refine((List.mergeSort_perm _ _).mem_iff).2 (List.mem_map.2 ⟨p,List.mem_filter.2 ⟨hp,?_⟩,rfl⟩)
   rw[<- e]
   simpa using fun e=>h0 e.symm
 ·obtain⟨s,hs,rfl⟩:=List.mem_map.1 ht
  have hs:=((List.mergeSort_perm _ _).mem_iff).1 hs
  obtain⟨p,hp,rfl⟩:=List.mem_map.1 hs
  obtain⟨hp1,hp2⟩:=List.mem_filter.1 hp
  show DX m p.1.s≠0
  rw[PT hd p hp1]
  simpa using hp2
theorem a4l{ts:List Coef}{m:List (Str×Int)}(h:b0u ts m)(hn:nzP ts)(hd:(Wj m).Nodup):ts=JO m:=
 G8 h.1 hn (GD hd).1.1 (GD hd).2 fun s=>(h.2 s).trans ((GD hd).1.2 s).symm
theorem ML: ∀ {l:List Coef},Q5 l=true->V9 l
 | [],_=>List.Pairwise.nil
 | [a],_=>by simp[V9]
 | a::b::l,h=>by
  simp only[Q5,Bool.and_eq_true,decide_eq_true_eq]at h
  have ih:=ML (l:=b::l) h.2
  refine Xx.2 ⟨fun u hu=> ?_,ih⟩
  rcases List.mem_cons.1 hu with rfl|hu
  ·exact h.1
  ·exact List.lt_trans h.1 ((Xx.1 ih).1 u hu)
theorem Qs{l:Lin}(h:Zd l=true):V9 l.t:=by
 simp only[Zd,Bool.and_eq_true]at h
 exact ML h.1.1.2
theorem M6{l:Lin}(h:Zd l=true):nzP l.t:=fun t ht=>(UC h ht).2.1
theorem a2a: ∀ (x pre:List Coef) (m:List (Str×Int)),V9 (pre++x)->(∀ t∈x,YV t.c=t.c)->(∀ s,Z6 pre s=DX m s)-> ∀ s,Z6 (pre++x) s=DX (Jy 1 x m) s
 | [],pre,m,_,_,h,s=>by rw[List.append_nil];exact h s
 | t::x,pre,m,ha,hw,h,s=>by
  have e:pre++t::x=(pre++[t])++x:=by simp
  rw[Jy,e]
  refine a2a x (pre++[t]) _ (e▸ha) (fun u hu=>hw u (by simp[hu])) (fun y=> ?_) s
  have hp : ∀ u∈pre,u.v.s<t.v.s:=fun u hu=>(List.pairwise_append.1 ha).2.2 u hu t (by simp)
  have hnone:Z6 pre t.v.s=0:=by
   have:(pre.find? fun u=>u.v.s==t.v.s)=none:=by
    rw[List.find?_eq_none]
    intro u hu e
    have e:u.v.s=t.v.s:=by simpa using e
    have:=hp u hu
    rw[e]at this
    exact List.lt_irrefl _ this
   simp[Z6,this]
  have hw1:IntKind.i64.wrap t.c=t.c:=hw t (by simp)
  rw[RZ,<- h,<- h,hnone,Int.one_mul,hw1,Int.zero_add,hw1]
  by_cases hy:t.v.s=y
  ·have hn:(pre.find? fun u=>u.v.s==y)=none:=by
    rw[List.find?_eq_none]
    intro u hu e
    have e:u.v.s=y:=by simpa using e
    have:=hp u hu
    rw[e,hy]at this
    exact List.lt_irrefl _ this
   rw[if_pos hy]
   simp[Z6,List.find?_append,hn,hy]
  ·have hn:([t].find? fun u=>u.v.s==y)=none:=by simp[hy]
   rw[if_neg hy]
   simp only[Z6,List.find?_append,hn,Option.or_none]
theorem c6q{l:Lin}(h:Zd l=true): ∀ t∈l.t,YV t.c=t.c:=fun t ht=>by
 have:=(UC h ht).2.2
 exact YU (by omega) (by omega)
theorem a8i{l:Lin}(h:Zd l=true):b0u l.t (Jy 1 l.t []):=⟨Qs h,fun s=>by
 have:=a2a l.t [] [] (by simpa using Qs h) (c6q h) (fun s=>rfl) s
 simpa using this⟩
def SN(l:Lin):Lin×Int:=if Zd l then(l,0)else(⟨0,[]⟩,3)
theorem Jd{a b:Lin}(k:Int)(ha:Zd a=true)(hb:Zd b=true):Wp a b k=SN (Z5 a b k):=by
 have hk:=KN ha
 have hr:=Tm k b.t ⟨YV (a.k+YV (k*b.k)),a.t⟩ _ (a8i (l:=a) ha)
 have hd:(Wj (Jy k b.t (Jy 1 a.t []))).Nodup:=JJ _ _ _ (JJ _ _ _ (by simp[Wj]))
 have e1:(Z5 a b k).t=JO (Jy k b.t (Jy 1 a.t [])):=a4l hr (Mt (M6 ha)) hd
 have e2:YV (YV (0+YV (1*a.k))+YV (k*b.k))=(Z5 a b k).k:=by
  rw[Ch,Int.one_mul,YU (n:=a.k) (by omega) (by omega),Int.zero_add,YU (n:=a.k) (by omega) (by omega)]
 have e3:(⟨(Z5 a b k).k,(Z5 a b k).t⟩:Lin)=Z5 a b k:=rfl
 unfold Wp
 rw[ha,hb,if_pos rfl,if_pos rfl,e2,b6l,<- e1,e3,SN]
end Go.Pl

namespace Go.Pl
open Go.RowKit
def wM(m:List (Str×Int)):Prop:= ∀ s,YV (DX m s)=DX m s
theorem add_zero: ∀ (x:List Coef) (m:List (Str×Int)),wM m-> ∀ s,DX (Jy 0 x m) s=DX m s
 | [],m,h,s=>rfl
 | t::x,m,h,s=>by
  have e : ∀ y,DX (SH t.v (IntKind.i64.wrap (DX m t.v.s+IntKind.i64.wrap (0*t.c))) m) y=DX m y:=fun y=>by
   rw[RZ]
   split
   ·rename_i hy
    have:IntKind.i64.wrap (0*t.c)=0:=by rw[Int.zero_mul];rfl
    rw[this,Int.add_zero,<- hy]
    exact h t.v.s
   ·rfl
  rw[Jy,add_zero x _ (fun y=>by rw[e];exact h y),e]
end Go.Pl

namespace Go.Pl
open Go.RowKit
def c3e(ts:List Coef):Bool:=ts.all (fun t=>Zw t.v&&decide (t.c≠0)&&Z7 t.c)&&Q5 ts&&decide (ts.length<=12)
theorem Fw(k:Int)(ts:List Coef):Zd ⟨k,ts⟩=(c3e ts&&Z7 k):=by
 simp only[Zd,c3e]
 cases ts.all (fun t=>Zw t.v&&decide (t.c≠0)&&Z7 t.c) <;> cases Q5 ts <;> cases Z7 k <;> simp
theorem a8c(k:Int): ∀ (x:List Coef) (a b:Lin),a.t=b.t->(x.foldl (fun o t=>Xy o t.v (YV (k*t.c))) a).t=(x.foldl (fun o t=>Xy o t.v (YV (k*t.c))) b).t
 | [],a,b,h=>h
 | t::x,a,b,h=>a8c k x _ _ (by show List.filter _ _=List.filter _ _;rw[h])
theorem Sn:Zd ⟨0,[]⟩=true:=by decide
theorem b6k:Zd ⟨-1,[]⟩=true:=by decide
theorem Rn(g:Lin):Xb g=if Zd g then SN (Z5 ⟨-1,[]⟩ g (-1))else(⟨0,[]⟩,1):=by
 have e:max (-1000001:Int) (min (-1) 1000001) = -1:=by decide
 unfold Xb AJ
 rw[e]
 cases hv:Zd g
 ·have:Wp ⟨0,[]⟩ g (-1)=(⟨0,[]⟩,1):=by unfold Wp;rw[Sn,hv];rfl
  rw[this];rfl
 ·have hk:=KN hv
  rw[Jd (-1) Sn hv,if_pos rfl]
  have el:(Z5 ⟨0,[]⟩ g (-1)).k = -g.k:=by
   rw[Ch,YU (n:= -1*g.k) (by omega) (by omega)]
   show YV (0 + -1*g.k)=_
   rw[YU (by omega) (by omega)]
   omega
  have er:(Z5 ⟨-1,[]⟩ g (-1)).k = -1 - g.k:=by
   rw[Ch,YU (n:= -1*g.k) (by omega) (by omega)]
   show YV (-1 + -1*g.k)=_
   rw[YU (by omega) (by omega)]
   omega
  have et:(Z5 ⟨0,[]⟩ g (-1)).t=(Z5 ⟨-1,[]⟩ g (-1)).t:=a8c _ _ _ _ rfl
  generalize Z5 ⟨0,[]⟩ g (-1)=l at el et ⊢
  generalize Z5 ⟨-1,[]⟩ g (-1)=r at er et ⊢
  obtain⟨lk,lt⟩:=l
  obtain⟨rk,rt⟩:=r
  simp only at el er et
  subst el er et
  unfold SN
  by_cases hl:Zd ⟨-g.k,lt⟩=true
  ·have h2:Wp ⟨-g.k,lt⟩ ⟨-1,[]⟩ 1=SN ⟨-1 - g.k,lt⟩:=by
    rw[Jd 1 hl b6k]
    have:Z5 ⟨-g.k,lt⟩ ⟨-1,[]⟩ 1=⟨-1 - g.k,lt⟩:=by
     show(⟨YV (-g.k+YV (1 * -1)),lt⟩:Lin)=_
     have h3:YV (1 * -1) = -1:=rfl
     rw[h3,YU (by omega) (by omega)]
     congr 1
     omega
    rw[this]
   rw[if_pos hl,if_pos rfl,h2];rfl
  ·rw[if_neg hl]
   have h2 : ¬ Zd ⟨-1 - g.k,lt⟩=true:=by
    rw[Fw]at hl ⊢
    have:Z7 (-g.k)=true:=by simp only[Z7,Bool.and_eq_true,decide_eq_true_eq];omega
    rw[this,Bool.and_true]at hl
    simp[hl]
   rw[if_neg h2];rfl
end Go.Pl

namespace Go.Pl
open Go.RowKit
open Enc (enc dec is)
open EncL (encL decL isL)
end Go.Pl

namespace Go.Pl
open Go.RowKit
open Enc (enc dec is)
open EncL (encL decL isL)
set_option maxRecDepth 100000
def Jk:IC:=(.seq (.reg [⟨(some 1),(.box 2 (.t 0)),0,none⟩,⟨(some 2),(.alloc (.agg [(.int .i64 0),(.sl 0 true [])])),1,none⟩,⟨(some 3),(.mv (.c (.int .i64 0))),2,none⟩] none) (.seq (.seq (.reg [⟨(some 5),(.load true [(.int .i64),(.sl 2)] (.t 1)),0,none⟩,⟨(some 6),(.call (.c (.fn 20)) [(.t 5)]),0,none⟩,⟨(some 7),(.un .not (.t 6)),2,none⟩] none) (.cond (.t 7) (.seq (.reg [⟨(some 8),(.build [(.int .i64 0),(.sl 0 true [])] []),0,none⟩,⟨none,(.store 2 (.t 2) (.t 8)),0,none⟩,⟨(some 3),(.mv (.c (.int .i64 1))),0,none⟩] none) .ret) .skip)) (.seq (.reg [⟨(some 9),(.call (.c (.fn 91)) [(.c (.int .i64 (-1)))]),0,none⟩,⟨(some 10),(.load true [(.int .i64),(.sl 2)] (.t 1)),2,none⟩,⟨(some 11),(.call (.c (.fn 66)) [(.t 9),(.t 10),(.c (.int .i64 (-1)))]),2,none⟩,⟨(some 4),(.alloc (.agg [(.int .i64 0),(.sl 0 true [])])),4,none⟩,⟨none,(.store 2 (.t 4) (.t 11)),5,none⟩] (some [[],[],[0,1],[],[3,2,0,1]])) (.seq (.seq (.reg [⟨(some 12),(.load true [(.int .i64),(.sl 2)] (.t 4)),0,none⟩,⟨(some 13),(.call (.c (.fn 20)) [(.t 12)]),0,none⟩,⟨(some 14),(.un .not (.t 13)),2,none⟩] none) (.cond (.t 14) (.seq (.reg [⟨(some 15),(.build [(.int .i64 0),(.sl 0 true [])] []),0,none⟩,⟨none,(.store 2 (.t 2) (.t 15)),0,none⟩,⟨(some 3),(.mv (.c (.int .i64 3))),0,none⟩] none) .ret) .skip)) (.seq (.reg [⟨(some 16),(.load true [(.int .i64),(.sl 2)] (.t 4)),0,none⟩,⟨none,(.store 2 (.t 2) (.t 16)),0,none⟩,⟨(some 3),(.mv (.c (.int .i64 0))),0,none⟩] none) .ret)))))
def JX:List IRes:=[(.cell true 2 2),(.tmp 3)]
abbrev EL:Nat:=17
def Gu:ZC:=Xn [(20,.pure (preT (fun x:Lin×Unit=>Y4 x.1)) (Zg (fun x:Lin×Unit=>Zd x.1))),(91,.pure (preT (fun _:Int×Unit=>true)) (Zg (fun x:Int×Unit=>(⟨x.1,[]⟩:Lin)))),(66,.pure (preT (fun x:Lin×Lin×Int×Unit=>decide (x.1.t.length<=500000)&&decide (x.2.1.t.length<=500000))) (Zg (fun x:Lin×Lin×Int×Unit=>Z5 x.1 x.2.1 x.2.2.1)))]
theorem a5a{G:PV->Prop}(g:Lin)(h:(Go.Pl.preT (fun(x:Lin×Unit)=>Y4 x.1) [(.agg [(.int .i64 g.k),(.sl 2 false (List.map enc g.t))])])=true∧(∃ y0:Bool,AV.pv (Zg (fun(x:Lin×Unit)=>Zd x.1) [(.agg [(.int .i64 g.k),(.sl 2 false (List.map enc g.t))])])=AV.pv (enc y0)∧(if (!y0)=true then G ((.tup [(.agg [(.int .i64 0),(.sl 0 true [])]),(.int .i64 1)]))else(∃ y1:Lin,AV.pv (Zg (fun(x:Int×Unit)=>Lin.mk x.1 []) [(.int .i64 (-1))])=AV.pv (enc y1)∧((Go.Pl.preT (fun(x:Lin×Lin×Int×Unit)=>decide (List.length x.1.t<=500000)&&decide (List.length x.2.1.t<=500000)) [(.agg [(.int .i64 y1.k),(.sl 2 false (List.map enc y1.t))]),(.agg [(.int .i64 g.k),(.sl 2 false (List.map enc g.t))]),(.int .i64 (-1))])=true∧(∃ y2:Lin,AV.pv (Zg (fun(x:Lin×Lin×Int×Unit)=>Z5 x.1 x.2.1 x.2.2.1) [(.agg [(.int .i64 y1.k),(.sl 2 false (List.map enc y1.t))]),(.agg [(.int .i64 g.k),(.sl 2 false (List.map enc g.t))]),(.int .i64 (-1))])=AV.pv (enc y2)∧((Go.Pl.preT (fun(x:Lin×Unit)=>Y4 x.1) [(.agg [(.int .i64 y2.k),(.sl 2 false (List.map enc y2.t))])])=true∧(∃ y3:Bool,AV.pv (Zg (fun(x:Lin×Unit)=>Zd x.1) [(.agg [(.int .i64 y2.k),(.sl 2 false (List.map enc y2.t))])])=AV.pv (enc y3)∧(if (!y3)=true then G ((.tup [(.agg [(.int .i64 0),(.sl 0 true [])]),(.int .i64 3)]))else(G ((.tup [(.agg [(.int .i64 y2.k),(.sl 2 false (List.map enc y2.t))]),(.int .i64 0)])))))))))))):Zc Gu 0 (Za JX G) Jk [] (YD 17 [enc g]):=Zc.tp (.req (.abs (Bool) (fun YY=>AV.pv (enc YY)) (.ask (.nil) (.lit (.abs (Lin) (fun YY=>AV.pv (enc YY)) (.req (.abs (Lin) (fun YY=>AV.pv (enc YY)) (.req (.abs (Bool) (fun YY=>AV.pv (enc YY)) (.ask (.nil) (.nil))))))))))) h (by kernel_rfl)
end Go.Pl

namespace Go.Pl
open Go.RowKit
open Enc (enc dec is)
open EncL (encL decL isL)
set_option maxRecDepth 100000
end Go.Pl

namespace Go.Pl
open Go.RowKit
open Enc (enc dec is)
open EncL (encL decL isL)
end Go.Pl

namespace Go.Pl
open Go.RowKit
open Enc (enc dec is)
open EncL (encL decL isL)
end Go.Pl

namespace Go.Pl
open Go.RowKit
open Enc (enc dec is)
open EncL (encL decL isL)
theorem a3q(x:List Coef)(k:Int): ∀ l:Lin,(x.foldl (fun o t=>Xy o t.v (YV (k*t.c))) l).t.length<=l.t.length+x.length:=by
 induction x with
 | nil=>intro l;exact Nat.le_refl _
 | cons t x ih=>
  intro l
  have h1:=ih (Xy l t.v (YV (k*t.c)))
  have h2:=L9 l t.v (YV (k*t.c))
  rw[List.foldl_cons,List.length_cons]
  omega
theorem MI: ∀ a:Lin×Unit,ZW a.1=true->Zc Gu 0 (Za JX (Zl (Xb a.1))) Jk [] (YD EL (encL a)):=by
 rintro⟨g,⟨⟩⟩ h1
 have h1:ZW g=true:=h1
 have hok:Y4 g=true:=by
  simp only[ZW,Bool.and_eq_true]at h1
  exact h1.1
 rw[Rn]
 have hd : ∀ l:Lin,(PV.agg [.int .i64 l.k,.sl 2 false (List.map enc l.t)])=enc l:=fun l=>rfl
 refine a5a g ⟨Zh (g,()) rfl hok,Ze (g,()) rfl (Vj (fun hv=> ?_) fun hv=>Ze ((-1:Int),()) rfl ⟨Zh ((⟨-1,[]⟩:Lin),g,(-1:Int),()) rfl (by show(true&&decide (g.t.length<=500000))=true;have:=Qn (show Zd g=true from hv);rw[decide_eq_true (by omega)];rfl),Ze ((⟨-1,[]⟩:Lin),g,(-1:Int),()) rfl ⟨Zh (Z5 ⟨-1,[]⟩ g (-1),()) rfl ?_,Ze (Z5 ⟨-1,[]⟩ g (-1),()) rfl (Vj (fun hw=> ?_) fun hw=> ?_)⟩⟩)⟩
 ·have hv:Zd g=false:=hv
  rw[hv]
  exact⟨rfl,rfl⟩
 ·have:(Z5 ⟨-1,[]⟩ g (-1)).t.length<=0+g.t.length:=a3q g.t (-1) _
  have:=Qn (show Zd g=true from hv)
  exact decide_eq_true (by show(Z5 ⟨-1,[]⟩ g (-1)).t.length<=_;omega)
 all_goals
  have hv:Zd g=true:=hv
  rw[hv,if_pos rfl]
 ·have hw:Zd (Z5 ⟨-1,[]⟩ g (-1))=false:=hw
  have:SN (Z5 ⟨-1,[]⟩ g (-1))=(⟨0,[]⟩,3):=by unfold SN;rw[hw];rfl
  rw[this]
  exact⟨rfl,rfl⟩
 ·have hw:Zd (Z5 ⟨-1,[]⟩ g (-1))=true:=hw
  have:SN (Z5 ⟨-1,[]⟩ g (-1))=(Z5 ⟨-1,[]⟩ g (-1),0):=by unfold SN;rw[hw];rfl
  rw[this]
  exact ZV (x:=((Z5 ⟨-1,[]⟩ g (-1),0):Lin×Int)) rfl
end Go.Pl

namespace Go.Pl
open Go.RowKit
open Enc (enc dec is)
open EncL (encL decL isL)
theorem one_of{α:Type}: ∀ {ks:List α},ks.length=1-> ∃ a,ks=[a]
 | [a],_=>⟨a,rfl⟩
end Go.Pl

namespace Go.Pl
open Go.RowKit
open Enc (enc dec is)
open EncL (encL decL isL)
set_option maxRecDepth 100000
end Go.Pl

namespace Go.Pl
open Go.RowKit
open Enc (enc dec is)
open EncL (encL decL isL)
end Go.Pl

namespace Go.Pl
open Go.RowKit
open Enc (enc dec is)
open EncL (encL decL isL)
theorem sub_zero(b:Bool):Sub (.tup [c9i,.bool b]) (enc (((⟨0,[]⟩:Lin),b):Lin×Bool)):=Sub.pair (Sub.agg_cons (.refl _) (Sub.agg_cons (.sl0 _ _ _) Sub.agg_nil)) (.refl _)
end Go.Pl

namespace Go.Pl
open Go.RowKit
open Enc (enc dec is)
open EncL (encL decL isL)
inductive Walk (m:Int):List Int->List (List Int)->Prop
 | last {p}:Du m p=none->Walk m p [p]
 | step {p q l}:Du m p=some q->Walk m q l->Walk m p (p::l)
theorem Walk.walkP{m:Int}{p:List Int}{l:List (List Int)}(h:Walk m p l): ∀ f,l.length<=f->walkP m f p=l:=by
 induction h with
 | last h=>
  intro f hf
  cases f with
  | zero=>simp at hf
  | succ f=>simp[Go.Pl.walkP,h]
 | step h _ ih=>
  intro f hf
  cases f with
  | zero=>simp at hf
  | succ f=>simp only[Go.Pl.walkP,h];rw[ih f (by simpa using hf)]
theorem Oo(m x:Int): ∀ (k:Nat) (p:List Int),k<=p.length->Wl m (k+1) (x::p) =
  match Wl m k p with
  | some q=>some (x::q)
  | none=>if x=m then none else some ((x+1)::(List.replicate k 0++p.drop k)):=by
 intro k
 induction k with
 | zero=>intro p _;simp[Wl]
 | succ k ih=>
  intro p hp
  rw[Wl]
  have e:(x::p).getD (k+1) 0=p.getD k 0:=by simp[List.getD]
  rw[e]
  by_cases h:p.getD k 0=m
  ·have hn:Wl m (k+1) p=Wl m k (p.set k 0):=by rw[Wl,if_pos h]
   rw[if_pos h,hn]
   have:=ih (p.set k 0) (by simp;omega)
   rw[List.set_cons_succ,this]
   have e2:List.replicate k (0:Int)++(p.set k 0).drop k=List.replicate (k+1) 0++p.drop (k+1):=by
    rw[List.replicate_succ',List.append_assoc]
    congr 1
    rw[List.drop_eq_getElem_cons (show k<(p.set k 0).length by simp;omega),List.drop_set_of_lt (by omega)]
    simp
   rw[e2]
  ·have hn:Wl m (k+1) p=some (p.set k (p.getD k 0+1)):=by rw[Wl,if_neg h]
   rw[if_neg h,hn]
   simp
theorem JW(m x:Int)(p:List Int):Du m (x::p) =
  match Du m p with
  | some q=>some (x::q)
  | none=>if x=m then none else some ((x+1)::List.replicate p.length 0):=by
 have:=Oo m x p.length p (Nat.le_refl _)
 rw[List.drop_length,List.append_nil]at this
 exact this
theorem Rv(m:Int): ∀ (k:Nat) (p q:List Int),Wl m k p=some q->q.length=p.length:=by
 intro k
 induction k with
 | zero=>intro p q h;cases h
 | succ k ih=>
  intro p q h
  rw[Wl]at h
  split at h
  ·rw[ih _ _ h,List.length_set]
  ·cases h;rw[List.length_set]
theorem Walk.cons{m x:Int}{rest:List (List Int)}{p:List Int}{l:List (List Int)}(h:Walk m p l):(hr:(x=m∧rest=[])∨(x≠m∧Walk m ((x+1)::List.replicate p.length 0) rest))->Walk m (x::p) (l.map (x:: ·)++rest):=by
 induction h with
 | last h=>
  rename_i p
  rintro(⟨rfl,rfl⟩|⟨h1,h2⟩)
  ·refine .last ?_
   rw[JW,h];simp
  ·refine .step ?_ h2
   rw[JW,h];simp[h1]
 | step h _ ih=>
  rename_i p q l _
  intro hr
  refine .step (q:=x::q) ?_ (ih ?_)
  ·rw[JW,h]
  ·rw[Rv m _ _ _ h];exact hr
def b7t(m:Nat):List Int:=(List.range (m+1)).map fun(i:Nat)=>(i:Int)
def JU(m:Nat):Nat->List (List Int)
 | 0=>[[]]
 | n+1=>(b7t m).flatMap fun x=>(JU m n).map (x:: ·)
theorem Walk.from{m n:Nat}(h:Walk m (List.replicate n 0) (JU m n)): ∀ (d i:Nat),i+d=m->Walk m ((i:Int)::List.replicate n 0) (((List.range' i (d+1)).map fun(i:Nat)=>(i:Int)).flatMap fun x=>(JU m n).map (x:: ·)):=by
 intro d
 induction d with
 | zero=>
  intro i hi
  have:=h.cons (x:=(i:Int)) (rest:=[]) (.inl ⟨by omega,rfl⟩)
  simpa using this
 | succ d ih=>
  intro i hi
  have h1:=ih (i+1) (by omega)
  have:=h.cons (x:=(i:Int)) (.inr ⟨by omega,by rw[List.length_replicate];exact_mod_cast h1⟩)
  rw[List.range'_succ,List.map_cons,List.flatMap_cons]
  exact this
theorem RI(m:Nat): ∀ n,Walk m (List.replicate n 0) (JU m n):=by
 intro n
 induction n with
 | zero=>exact .last rfl
 | succ n ih=>
  have:=ih.from m 0 (by omega)
  rw[<- List.range_eq_range']at this
  exact_mod_cast this
theorem Gm(m:Nat): ∀ n,(JU m n).length=(m+1) ^ n:=by
 intro n
 induction n with
 | zero=>rfl
 | succ n ih=>
  rw[JU,List.length_flatMap]
  simp only[List.length_map,ih,b7t]
  rw[List.map_const',List.sum_replicate_nat,List.length_map,List.length_range,Nat.pow_succ,Nat.mul_comm]
theorem NZ{m:Nat}{x:Int}:x∈b7t m ↔ 0<=x∧x<=m:=by
 unfold b7t
 rw[List.mem_map]
 constructor
 ·rintro⟨i,hi,rfl⟩
  have:=List.mem_range.1 hi
  omega
 ·rintro⟨h1,h2⟩
  exact⟨x.toNat,List.mem_range.2 (by omega),by omega⟩
theorem Kl{m:Nat}: ∀ {n:Nat} {p:List Int},p∈JU m n ↔ p.length=n∧ ∀ x∈p,0<=x∧x<=m:=by
 intro n
 induction n with
 | zero=>
  intro p
  simp only[JU,List.mem_singleton,List.length_eq_zero_iff]
  exact⟨fun h=>⟨h,by simp[h]⟩,fun h=>h.1⟩
 | succ n ih=>
  intro p
  simp only[JU,List.mem_flatMap,List.mem_map]
  constructor
  ·rintro⟨x,hx,q,hq,rfl⟩
   obtain⟨h1,h2⟩:=ih.1 hq
   refine⟨by simp[h1],?_⟩
   intro y hy
   rcases List.mem_cons.1 hy with rfl|hy
   ·exact NZ.1 hx
   ·exact h2 y hy
  ·rintro⟨h1,h2⟩
   cases p with
   | nil=>simp at h1
   | cons x q=>
    exact⟨x,NZ.2 (h2 x (by simp)),q,ih.2 ⟨by simpa using h1,fun y hy=>h2 y (by simp[hy])⟩,rfl⟩
def Q4(x:List Int×List Coef):List PV:=[enc x.1,enc x.2]
def UM:List (List PV)->Bool
 | [[v,.int .i64 m],[f]]=>Wz (List Str) v&&Wz (List Fact) f&&Xo ⟨dec v,m⟩&&Zo (dec f)&&decide ((dec v:List Str).length<=1000)
 | _=>false
def DZ:List (List PV)->List (List Int×List Coef)
 | [[v,.int .i64 m],[f]]=>(Yb ⟨dec v,m⟩ (dec f)).map fun p=>(p,Zn (dec v) p)
 | _=>[]
theorem b2q(m:Nat): ∀ (l:List Str) (n r:Int),0<=n->JM m l n=some r->r=n*((m:Int)+1) ^ l.length:=by
 intro l
 induction l with
 | nil=>intro n r _ h;simp only[JM,Option.some.injEq]at h;simp[h]
 | cons s l ih=>
  intro n r hn h
  rw[JM]at h
  split at h
  ·cases h
  ·rw[ih _ _ (Int.mul_nonneg hn (by omega)) h,List.length_cons,Int.pow_succ,Int.mul_assoc,Int.mul_comm ((m:Int)+1)]
theorem b8d(m:Nat): ∀ (l:List Str) (n r:Int),n<=20000->JM m l n=some r->r<=20000:=by
 intro l
 induction l with
 | nil=>intro n r hn h;simp only[JM,Option.some.injEq]at h;omega
 | cons s l ih=>
  intro n r hn h
  rw[JM]at h
  split at h
  ·cases h
  ·exact ih _ _ (by omega) h
theorem UD{b:BoxT}:Xo b=true ↔ b.v.all Zw=true∧b.v.Nodup∧(b.v=[]∨b.m<20000)∧0<=b.m∧(JM b.m b.v 1).isSome=true:=by
 unfold Xo
 simp only[Bool.and_eq_true,decide_eq_true_eq,Bool.or_eq_true,List.isEmpty_iff]
 constructor
 ·rintro⟨⟨⟨⟨h1,h2⟩,h3⟩,h4⟩,h5⟩;exact⟨h1,h2,h3,h4,h5⟩
 ·rintro⟨h1,h2,h3,h4,h5⟩;exact⟨⟨⟨⟨h1,h2⟩,h3⟩,h4⟩,h5⟩
theorem Cy{b:BoxT}(h:Xo b=true):(b.m.toNat+1) ^ b.v.length<=20000:=by
 obtain⟨_,_,_,h4,h5⟩:=UD.1 h
 obtain⟨r,hr⟩:=Option.isSome_iff_exists.1 h5
 have e:b.m=(b.m.toNat:Int):=by omega
 rw[e]at hr
 have h1:=b2q _ _ _ _ (by decide) hr
 have h2:=b8d _ _ _ _ (by decide) hr
 rw[Int.one_mul]at h1
 have:(((b.m.toNat+1) ^ b.v.length:Nat):Int)=r:=by rw[h1];simp
 omega
theorem Vv{b:BoxT}(h:Xo b=true):b4v b=JU b.m.toNat b.v.length:=by
 obtain⟨_,_,_,h4,_⟩:=UD.1 h
 have hw:=RI b.m.toNat b.v.length
 have hl:=Gm b.m.toNat b.v.length
 have:=Cy h
 have e:(b.m.toNat:Int)=b.m:=by omega
 rw[e]at hw
 have ez:V5 b.v=List.replicate b.v.length 0:=List.map_const' ..
 unfold b4v
 rw[ez]
 exact hw.walkP 20001 (by omega)
end Go.Pl

namespace Go.Pl
open Go.RowKit
open Enc (enc dec is)
open EncL (encL decL isL)
def a0b(m:Int):List Str->Int->Int
 | [],n=>n
 | _::r,n=>a0b m r (n*(m+1))
def UY(b:BoxT)(fs:List Fact):Bool:=decide (b.v.length<=5)&&decide ((if Xo b then a0b b.m b.v 1 else 1)<=300)&&decide (fs.length<=6)&&D9 fs 6
def VQ:List Str->List Str->Int
 | [],b=> -(b.length:Int)
 | a,[]=>(a.length:Int)
 | x::a,y::b=>if x.s<y.s then -1 else if y.s<x.s then 1 else VQ a b
def Hw:List Str->Bool
 | x::y::r=> !decide (y.s<x.s)&&Hw (y::r)
 | _=>true
def WQ(m:Mono):Bool:=decide (m.c≠0)&&decide (-1099511627776<=m.c)&&decide (m.c<=1099511627776)&&decide (m.v.length<=8)&&Hw m.v&&m.v.all Zw
def a6f:List Mono->Bool
 | x::y::r=>decide (VQ x.v y.v<0)&&a6f (y::r)
 | _=>true
def ZY(p:List Mono):Bool:=decide (p.length<=60)&&p.all WQ&&a6f p
def Gy(l:List Str)(s:Str):List Str:=match l with
 | []=>[s]
 | t::r=>if t.s<s.s then t::Gy r s else if t=s then t::r else s::t::r
def b5w(p:List Mono):Bool:=Zv p&&p.all fun m=>XM m.v
end Go.Pl

namespace Go.Pl
open Go.RowKit
open Enc (enc dec is)
open EncL (encL decL isL)
def Tc(x y:Str):Int:=if x.s<y.s then -1 else if y.s<x.s then 1 else 0
def Gr:List Str->List Str->Int
 | [],[]=>0
 | [],_::_=> -1
 | _::_,[]=>1
 | x::a,y::b=>if x.s<y.s then -1 else if y.s<x.s then 1 else Gr a b
def Yd(p:List Mono):Bool:=Zv p&&p.all fun m=>XM m.v
def XC(p:List Mono):List Str:=p.flatMap (·.v)
def Xe(p:List Mono):List (List UInt8):=Xv ((XC p).map (·.s))
def Yp(p:List Mono):List Str:=(Lib.compact (Xe p)).map Str.mk
def VN(p:PV):List Mono:=dec p
def UO:List AV->List AObj->Bool
 | [.pv a],[]=>Wz (List Mono) a&&Yd (dec a)&&ZY (dec a)&& !(XC (dec a)).isEmpty
 | _,_=>false
def R6:List AV->List AObj->AV×List AObj×List AObj
 | [.pv a],_=>(.row 0 (Xe (VN a)).length 0 (Lib.compact (Xe (VN a))).length,[],[.row false 9 1 ((Vn (Xe (VN a))).map .str)])
 | _,_=>Wu
def RS:List AV->List AObj->AV×List AObj×List AObj
 | [.pv a],_=>Km (Yp (VN a))
 | _,_=>Wu
def K7:List AV->List AObj->Bool
 | [.pv a],[]=>Wz (List Mono) a&&Yd (dec a)&&(!ZY (dec a)||(XC (dec a)).isEmpty)
 | _,_=>false
def CF:List AV->List AObj->AV×List AObj×List AObj:=fun _ _=>(.pv (.sl 0 true []),[],[])
def JZ(a b:Int):Int×Int:=if Ua a&&Ua b&&Ua (a*b)then(a*b,0)else(0,2)
def WT(l:List Int):Int×Int:=if l.all Ua&&Ua l.sum then(l.sum,0)else(0,2)
def DD:Int->List Int->Int×Int
 | o,[]=>(o,0)
 | o,n::r=>if (JZ o n).2≠0 then(0,(JZ o n).2)else DD (JZ o n).1 r
def YL(l:List Int):Int×Int:=if l.contains 0 then(0,0)else DD 1 l
def Aw(vs:List Coef):List Str->Option (List Int)
 | []=>some []
 | s::r=>match Q3 vs s with
  | none=>none
  | some x=>(Aw vs r).map (x:: ·)
def SF(vs:List Coef):List Mono->Option (List (List Int))
 | []=>some []
 | m::r=>match Aw vs m.v with
  | none=>none
  | some l=>(SF vs r).map ((m.c::l):: ·)
def Yl:List (List Int)->Option (List Int)
 | []=>some []
 | l::r=>if (YL l).2≠0 then none else(Yl r).map ((YL l).1:: ·)
def Sr(fs:List (List Int)):Bool:=fs.any fun l=>l.tail.any fun x=> !Ua x
def Yz(p:List Mono)(vs:List Coef):Int×Int:=
 if ZY p then(match SF vs p with
  | none=>(0,7)
  | some fs=>if Sr fs then(0,2)else match Yl fs with
   | none=>(0,2)
   | some l=>WT l)
 else(0,1)
def Gp:List AV->List AObj->Bool
 | [.pv x,.ptr 0 0],[.box [.pv (.str v)]]=>Wz Coef x
 | _,_=>false
def Cj:List AV->List AObj->AV×List AObj×List AObj
 | [.pv x,_],[.box [.pv (.str v)]]=>(.pv (.bool ((dec x:Coef).v.s==v)),[.box [.pv (.str v)]],[])
 | _,_=>Wu
def VJ(g:Nat):List AV->List AObj->Bool
 | [.pv l,.fn g' [] [.ptr 0 0]],[.box [.pv (.str v)]]=>g'==g&&Wz (List Coef) l&&decide ((dec l:List Coef).length<=9223372036854775807)
 | _,_=>false
def QY(p:PV):List Coef:=dec p
def CB:List AV->List AObj->AV×List AObj×List AObj
 | [.pv l,_],[.box [.pv (.str v)]]=>(.pv (.int .i64 (Zx (fun t:Coef=>t.v.s==v) (QY l))),[.box [.pv (.str v)]],[])
 | _,_=>Wu
def Wm(n:Int):Int:=n / 2147483648
def XR(n:Int):Int:=n % 2147483648
def V8:List AV->List AObj->Bool
 | [.pv (.int .i64 n),.ptr 0 0,.ptr 1 0],[.box [.pv (.sl 0 true [])],.box [.pv (.sl 0 true [])]]=>true
 | [.pv (.int .i64 n),.ptr 0 0,.ptr 1 0],[.box [.row 2 q 0 q'],.box [.row 3 r 0 r'],.row false ty 1 xs,.row false ty' 1 ys]=>q'==q&&r'==r&&r==q&&ty==3&&ty'==3&&xs.length==q&&ys.length==q&&decide (q<=1000000)
 | _,_=>false
def UR:List AV->List AObj->AV×List AObj×List AObj
 | [.pv (.int .i64 n),_,_],[.box [.pv (.sl 0 true [])],.box [.pv (.sl 0 true [])]]=>(.tup [],[.box [.row 2 1 0 1],.box [.row 3 1 0 1]],[.row false 3 1 [.int .i64 (Wm n)],.row false 3 1 [.int .i64 (XR n)]])
 | [.pv (.int .i64 n),_,_],[.box [.row 2 q 0 _],.box [.row 3 _ 0 _],.row _ _ _ xs,.row _ _ _ ys]=>(.tup [],[.box [.row 2 (q+1) 0 (q+1)],.box [.row 3 (q+1) 0 (q+1)],.row false 3 1 (xs++[.int .i64 (Wm n)]),.row false 3 1 (ys++[.int .i64 (XR n)])],[])
 | _,_=>Wu
def O7:List Int->List Int->Int
 | x::a,y::b=>x*y+O7 a b
 | _,_=>0
def Dc(a b:List Int):Int×Int:=if a.length=b.length then(if a.all Ua&&b.all Ua&&Ua (O7 a b)then(O7 a b,0)else(0,2))else(0,1)
def WM(p:List Mono)(vs:List Str):List (List Int)->Option (List Int)
 | []=>some []
 | q::r=>if (Yz p (Zn vs q)).2≠0 then none else(WM p vs r).map ((Yz p (Zn vs q)).1:: ·)
def Xh(b:BoxT)(fs:List Fact)(p:List Mono):Bool:=ZP b&&Zo fs&&decide (fs.length<=100)&&decide (b.v.length<=1000)&&Yd p
def Yw(b:BoxT)(fs:List Fact)(p:List Mono):Int×Int:=
 if Zp b fs (ZY p) (Yp p)=0 then(match WM p b.v (Yb b fs)with|none=>(0,2)|some l=>WT l)else(0,Zp b fs (ZY p) (Yp p))
end Go.Pl

namespace Go.Pl
open Go.RowKit
open Enc (enc dec is)
open EncL (encL decL isL)
theorem a7y: ∀ args os,Y3 args os=true->Zc Ov os.length (Zj os.length NE fun r=>r=WF args os) Nk [] (YH c0c args os):=by
 intro args os h
 unfold Y3 at h
 split at h
 ·rename_i v m f
  simp only[Bool.and_eq_true]at h
  obtain⟨h1,h2⟩:=h
  obtain⟨vs,rfl⟩:=Ym h1
  obtain⟨fs,rfl⟩:=Ym h2
  exact c4b ⟨vs,m⟩ fs rfl
 ·cases h
theorem WZ(b:BoxT)(fs:List Fact)(ok:Bool)(ns:List Str)(h:Zp b fs ok ns=0):Xo b=true∧Y6 fs=true∧ok=true∧UW b.v (ns++fs.flatMap fun f=>Zm f.l)=true:=by
 unfold Zp at h
 split at h
 ·cases h
 ·rename_i h1
  simp only[Bool.or_eq_true,Bool.not_eq_true',not_or,Bool.not_eq_false]at h1
  split at h
  ·rename_i h2
   exact⟨h1.1.1,h1.1.2,h1.2,h2⟩
  ·cases h
theorem b7h{b:BoxT}{fs:List Fact}(h:Xo b=true):(Yb b fs).length<=20000:=by
 unfold Yb
 refine Nat.le_trans (List.length_filter_le _ _) ?_
 rw[Vv h,Gm]
 exact Cy h
def gpI(b:BoxT)(fs:List Fact)(k:Nat)(σ:Zt):Prop:=
 (k=0∧σ=[.obj (.box [.pv (.sl 0 true [])])])∨(k≠0∧k<=(Yb b fs).length∧σ=[.obj (.box [.row 1 k 0 k]),.obj (.row false 34 1 (((Yb b fs).take k).map enc))])
def gpE:Yx:=fun n st q=>n=0∧Gv Jc 0 (.t 17) 177 [18,19] [(8,18)] U0 Q4 UM DZ st q
theorem SV(b:BoxT)(fs:List Fact):DZ [[enc b.v,.int .i64 b.m],[enc fs]]=(Yb b fs).map fun p=>(p,Zn b.v p):=by
 show((Yb ⟨dec (enc b.v:PV),b.m⟩ (dec (enc fs:PV))).map fun p=>(p,Zn (dec (enc b.v:PV)) p))=_
 rw[Enc.dec_enc,Enc.dec_enc]
theorem AX{b:BoxT}{fs:List Fact}(hb:Xo b=true)(hf:Zo fs=true)(hl:b.v.length<=1000):UM [[enc b.v,.int .i64 b.m],[enc fs]]=true:=by
 show(Wz (List Str) (enc b.v)&&Wz (List Fact) (enc fs)&&Xo ⟨dec (enc b.v:PV),b.m⟩&&Zo (dec (enc fs:PV))&&decide ((dec (enc b.v:PV):List Str).length<=1000))=true
 rw[ZQ,ZQ,Enc.dec_enc,Enc.dec_enc,hf,decide_eq_true hl]
 simp[hb]
theorem b4t(b:BoxT)(fs:List Fact)(hv:Xo b=true)(k:Nat)(p:List Int)(vs:List Coef)(σ:Zt)(hp:(Yb b fs)[k]? = some p)(h:gpI b fs k σ):
  Zz Jc (fun n S' _=>n=99∧gpI b fs (k+1) S'.heap) σ.length (fun st=>False) (.inl U0) [.seq (.ext 99 [])] ⟨ZM 25 0 [(7,.ptr 0 0),(8,.pv (enc p)),(18,.pv (enc p)),(19,.pv (enc vs))],σ⟩:=by
 have hk:=(List.getElem?_eq_some_iff.1 hp).1
 have hkp:=(List.getElem?_eq_some_iff.1 hp).2
 have hl:=b7h (fs:=fs) hv
 rcases h with ⟨rfl,rfl⟩|⟨hne,hk',rfl⟩
 ·refine c0o (G:=fun _=>False) _ p vs ⟨rfl,.inr ⟨by simp,by omega,?_⟩⟩
  have e:(Yb b fs).take (0+1)=[p]:=by rw[List.take_succ_eq_append_getElem hk,hkp];rfl
  rw[e]
  rfl
 ·have e:(Yb b fs).take (k+1)=(Yb b fs).take k++[p]:=by rw[List.take_succ_eq_append_getElem hk,hkp]
  have el:((Yb b fs).take k).length=k:=by rw[List.length_take];omega
  refine b8g (G:=fun _=>False) _ p vs k ((Yb b fs).take k) ⟨?_,rfl,.inr ⟨by omega,by omega,?_⟩⟩
  ·rw[List.length_map,el]
   show((k==k)&&(k==k)&&decide ((k+1)*24<=1099511627776)&&decide (k+1<=1099511627776))=true
   rw[decide_eq_true (by omega),decide_eq_true (by omega)];simp
  ·rw[e,List.map_append]
   rfl
theorem c1k: ∀ x:BoxT×List Fact×Unit,(ZP x.1&&Zo x.2.1&&decide (x.2.1.length<=100)&&decide (x.1.v.length<=1000))=true->Q0 Jc gpE 0 (Za Da (Zl (Yy x.1 x.2.1))) GK [] (YD c4a (encL x)):=by
 rintro⟨b,fs,⟨⟩⟩ hp
 simp only[Bool.and_eq_true,decide_eq_true_eq]at hp
 obtain⟨⟨⟨h1,h2⟩,h3⟩,h4⟩:=hp
 refine c8l gpE b fs ⟨Zh (b,fs,true,⟨⟩,()) rfl (by simp[h1,h2,h3]),Ze (b,fs,true,⟨⟩,()) rfl ?_⟩
 show if (Zp b fs true [] != 0)=true then _ else _
 by_cases h0:Zp b fs true []=0
 ·rw[if_neg (by simp[h0])]
  obtain⟨hv,_⟩:=WZ b fs true [] h0
  have hpt:Yy b fs=(Yb b fs,0):=by unfold Yy;rw[if_pos h0]
  rw[hpt]
  refine⟨?_,rfl,[1,2],[[enc b.v,.int .i64 b.m],[enc fs]],[7],[],⟨ZM 25 0 [(7,.ptr 0 0)],[.obj (.box [.pv (.sl 0 true [])])]⟩,gpI b fs,fun _=>False,rfl,by simp,rfl,?_,by kernel_rfl,AX hv h2 h4,.inl ⟨rfl,rfl⟩,?_,?_,fun σ h=>h.elim⟩
  ·show(Wz (List Str) (enc b.v)&&Wz (List Fact) (enc fs))=true
   rw[ZQ,ZQ];rfl
  ·intro j l ps hl hps
   match j with
   | 0=>cases hl;cases hps;rfl
   | 1=>cases hl;cases hps;rfl
   | j+2=>simp at hl
  ·intro k x σ hx hI
   rw[SV,List.getElem?_map]at hx
   obtain⟨p,hp,rfl⟩:=Option.map_eq_some_iff.1 hx
   have e:SK [(8,18)] (Cb [18,19] ((Q4 (p,Zn b.v p)).map .pv) (ZM 25 0 [(7,.ptr 0 0)]))=ZM 25 0 [(7,.ptr 0 0),(8,.pv (enc p)),(18,.pv (enc p)),(19,.pv (enc (Zn b.v p)))]:=by kernel_rfl
   have:=b4t b fs hv k p (Zn b.v p) σ hp hI
   rw[<- e]at this
   exact this
  ·intro σ hI
   rw[SV,List.length_map]at hI
   rcases hI with ⟨e,rfl⟩|⟨e,_,rfl⟩
   ·refine c0r gpE b fs ?_
    rw[List.length_eq_zero_iff.1 e]
    exact⟨rfl,rfl⟩
   ·refine b7m gpE b fs (Yb b fs).length ((Yb b fs).take (Yb b fs).length) ⟨by simp,?_⟩
    rw[List.take_length,List.drop_zero,List.take_of_length_le (by simp)]
    exact ZV (x:=((Yb b fs),(0:Int))) rfl
 ·rw[if_pos (by simpa using h0)]
  have hpt:Yy b fs=([],Zp b fs true []):=by unfold Yy;rw[if_neg h0]
  rw[hpt]
  exact⟨rfl,rfl⟩
theorem Ey: ∀ x:BoxT×List Fact×Unit,(ZP x.1&&Zo x.2.1&&decide (x.2.1.length<=100)&&decide (x.1.v.length<=1000))=true->Zc BA 0 (Za Gs (Zl (YB x.1 x.2.1))) De [] (YD a6q (encL x)):=by
 rintro⟨b,fs,⟨⟩⟩ hp
 refine a9c b fs ⟨Zh (b,fs,()) rfl hp,Ze (b,fs,()) rfl ?_⟩
 rw[List.length_map]
 exact ZV (x:=((((Yy b fs).1.length:Nat):Int),(Yy b fs).2)) rfl
end Go.Pl

namespace Go.Pl
open Go.RowKit
open Enc (enc dec is)
open EncL (encL decL isL)
set_option maxRecDepth 100000
def VB:IC:=(.seq (.reg [⟨(some 1),(.box 2 (.t 0)),0,none⟩,⟨(some 2),(.mv (.c (.bool false))),1,none⟩] none) (.seq (.reg [⟨(some 3),(.mv (.c (.int .i64 1))),0,none⟩] none) (.seq (.seq (.reg [⟨(some 4),(.mv (.c (.int .i64 0))),0,none⟩] none) (.block 0 (.loop [4,1,3] (.seq (.seq (.reg [⟨(some 6),(.mv (.t 4)),0,none⟩,⟨(some 7),(.faddr 0 (.t 1)),0,none⟩,⟨(some 8),(.load false [(.sl 1)] (.t 7)),0,none⟩,⟨(some 9),(.len 1 (.t 8)),0,none⟩,⟨(some 10),(.bin .num .lss (.t 6) (.t 9)),0,none⟩] none) (.cond (.t 10) .skip (.exit 0))) (.seq (.block 1 (.seq (.seq (.reg [⟨(some 13),(.faddr 0 (.t 1)),0,none⟩,⟨(some 14),(.load false [(.sl 1)] (.t 13)),0,none⟩,⟨(some 15),(.mv (.t 4)),0,none⟩,⟨(some 16),(.iaddr 1 (.t 14) (.t 15)),0,none⟩,⟨(some 17),(.load false [.str] (.t 16)),0,none⟩,⟨(some 18),(.call (.c (.fn 84)) [(.t 17)]),0,none⟩,⟨(some 19),(.un .not (.t 18)),2,none⟩,⟨(some 20),(.mv (.t 19)),2,none⟩,⟨(some 21),(.faddr 1 (.t 1)),2,(some (20,false))⟩,⟨(some 22),(.load false [(.int .i64)] (.t 21)),2,(some (20,false))⟩,⟨(some 23),(.bin .num .geq (.t 22) (.c (.int .i64 20000))),2,(some (20,false))⟩,⟨(some 24),(.pick (.t 20) (.c (.bool true)) (.t 23)),2,none⟩] none) (.cond (.t 24) (.seq (.reg [⟨(some 2),(.mv (.c (.bool false))),0,none⟩] none) .ret) .skip)) (.seq (.seq (.reg [⟨(some 5),(.mv (.c (.int .i64 0))),0,none⟩] none) (.block 2 (.loop [5,4,1,3] (.seq (.seq (.reg [⟨(some 25),(.mv (.t 5)),0,none⟩,⟨(some 26),(.mv (.t 4)),0,none⟩,⟨(some 27),(.bin .num .lss (.t 25) (.t 26)),0,none⟩] none) (.cond (.t 27) .skip (.exit 2))) (.seq (.block 3 (.seq (.reg [⟨(some 30),(.faddr 0 (.t 1)),0,none⟩,⟨(some 31),(.load false [(.sl 1)] (.t 30)),0,none⟩,⟨(some 32),(.mv (.t 5)),0,none⟩,⟨(some 33),(.iaddr 1 (.t 31) (.t 32)),0,none⟩,⟨(some 34),(.load false [.str] (.t 33)),0,none⟩,⟨(some 35),(.faddr 0 (.t 1)),0,none⟩,⟨(some 36),(.load false [(.sl 1)] (.t 35)),0,none⟩,⟨(some 37),(.mv (.t 4)),0,none⟩,⟨(some 38),(.iaddr 1 (.t 36) (.t 37)),0,none⟩,⟨(some 39),(.load false [.str] (.t 38)),0,none⟩,⟨(some 40),(.bin .num .eql (.t 34) (.t 39)),0,none⟩] (some [[],[0],[],[1,2,0],[3,1,2,0],[],[5],[],[6,7,5],[8,6,7,5],[4,9,3,1,2,0,8,6,7,5]])) (.cond (.t 40) (.seq (.reg [⟨(some 2),(.mv (.c (.bool false))),0,none⟩] none) .ret) .skip))) (.reg [⟨(some 28),(.mv (.t 5)),0,none⟩,⟨(some 29),(.bin .num .add (.t 28) (.c (.int .i64 1))),0,none⟩,⟨(some 5),(.mv (.t 29)),0,none⟩] none)))))) (.seq (.reg [⟨(some 41),(.mv (.t 3)),0,none⟩,⟨(some 42),(.bin .num .leq (.t 41) (.c (.int .i64 20000))),0,none⟩] none) (.cond (.t 42) (.reg [⟨(some 43),(.mv (.t 3)),0,none⟩,⟨(some 44),(.faddr 1 (.t 1)),0,none⟩,⟨(some 45),(.load false [(.int .i64)] (.t 44)),0,none⟩,⟨(some 46),(.bin .num .add (.t 45) (.c (.int .i64 1))),0,none⟩,⟨(some 47),(.bin .num .mul (.t 43) (.t 46)),0,none⟩,⟨(some 3),(.mv (.t 47)),0,none⟩] none) .skip))))) (.reg [⟨(some 11),(.mv (.t 4)),0,none⟩,⟨(some 12),(.bin .num .add (.t 11) (.c (.int .i64 1))),0,none⟩,⟨(some 4),(.mv (.t 12)),0,none⟩] none)))))) (.seq (.reg [⟨(some 48),(.faddr 1 (.t 1)),0,none⟩,⟨(some 49),(.load false [(.int .i64)] (.t 48)),0,none⟩,⟨(some 50),(.bin .num .geq (.t 49) (.c (.int .i64 0))),0,none⟩,⟨(some 51),(.mv (.t 50)),0,none⟩,⟨(some 52),(.mv (.t 3)),0,(some (51,true))⟩,⟨(some 53),(.bin .num .leq (.t 52) (.c (.int .i64 20000))),0,(some (51,true))⟩,⟨(some 54),(.pick (.t 51) (.t 53) (.c (.bool false))),0,none⟩,⟨(some 2),(.mv (.t 54)),0,none⟩] none) .ret))))
def Vy:List IRes:=[(.tmp 2)]
abbrev c5a:Nat:=55
def Qo:ZC:=Xn [(84,.pure (preT (fun _:Str×Unit=>true)) (Zg (fun x:Str×Unit=>Zw x.1)))]
theorem c8v{G:PV->Prop}(b:BoxT)(h:At Qo 0 (Za Vy G) VB 0 55 [(1,(.ptr 0 0)),(3,(.pv (.int .i64 1))),(4,(.pv (.int .i64 0)))] [(.obj (.box [(.pv (.sl 1 false (List.map enc b.v))),(.pv (.int .i64 b.m))]))]):Zc Qo 0 (Za Vy G) VB [] (YD 55 [enc b]):=Zc.tp (.nil) h (by kernel_rfl)
theorem b0p{G:PV->Prop}(b:BoxT)(n i:Int)(h:if (decide (i<(↑(List.length (List.map enc b.v)):Int)))=true then(decide (0<=i)&&decide (Int.toNat i<List.length (List.map enc b.v))&&Enc.sz Str==1)=true∧(∃ y0:Str,AV.pv (PV.rptr (PV.cells (List.getD (List.map enc b.v) (Int.toNat i) default)))=AV.pv (PV.rptr (PV.cells ((enc) y0)))∧(∃ y1:Bool,AV.pv (Zg (fun(x:Str×Unit)=>Zw x.1) [(.str (PV.asStr (List.getD (PV.cells (enc y0)) 0 default)))])=AV.pv (enc y1)∧(if (!y1)=true then G ((.bool false))else(if (decide (BoxT.m b ≥ 20000))=true then G ((.bool false))else(At Qo 0 (Za Vy G) VB 1 55 [(1,(.ptr 0 0)),(3,(.pv (.int .i64 n))),(4,(.pv (.int .i64 i))),(5,(.pv (.int .i64 0)))] [(.obj (.box [(.pv (.sl 1 false (List.map enc b.v))),(.pv (.int .i64 b.m))]))])))))else(if (decide (BoxT.m b ≥ 0))=true then G ((.bool (decide (n<=20000))))else(G ((.bool false))))):At Qo 0 (Za Vy G) VB 0 55 [(1,.ptr 0 0),(3,.pv (.int .i64 n)),(4,.pv (.int .i64 i))] [.obj (.box [.pv (enc b.v),.pv (.int .i64 b.m)])]:=At.tp (.lit (.ask (.req (.abs (Str) (fun YY=>AV.pv (PV.rptr (PV.cells ((enc) YY)))) (.lit (.lit (.abs (Bool) (fun YY=>AV.pv (enc YY)) (.ask (.lit (.lit (.lit (.lit (.nil))))) (.lit (.lit (.lit (.lit (.ask (.nil) (.nil)))))))))))) (.lit (.ask (.lit (.lit (.lit (.nil)))) (.lit (.lit (.nil))))))) h (by kernel_rfl)
theorem b6j{G:PV->Prop}(b:BoxT)(n i k:Int)(h:if (decide (k<i))=true then(decide (0<=k)&&decide (Int.toNat k<List.length (List.map enc b.v))&&Enc.sz Str==1)=true∧(∃ y0:Str,AV.pv (PV.rptr (PV.cells (List.getD (List.map enc b.v) (Int.toNat k) default)))=AV.pv (PV.rptr (PV.cells ((enc) y0)))∧((decide (0<=i)&&decide (Int.toNat i<List.length (List.map enc b.v))&&Enc.sz Str==1)=true∧(∃ y1:Str,AV.pv (PV.rptr (PV.cells (List.getD (List.map enc b.v) (Int.toNat i) default)))=AV.pv (PV.rptr (PV.cells ((enc) y1)))∧(if (PV.asStr (List.getD (PV.cells (enc y0)) 0 default)==PV.asStr (List.getD (PV.cells (enc y1)) 0 default))=true then G ((.bool false))else(At Qo 0 (Za Vy G) VB 1 55 [(1,(.ptr 0 0)),(3,(.pv (.int .i64 n))),(4,(.pv (.int .i64 i))),(5,(.pv (.int .i64 (IntKind.wrap IntKind.i64 (k+1)))))] [(.obj (.box [(.pv (.sl 1 false (List.map enc b.v))),(.pv (.int .i64 b.m))]))])))))else(if (decide (n<=20000))=true then At Qo 0 (Za Vy G) VB 0 55 [(1,(.ptr 0 0)),(3,(.pv (.int .i64 (IntKind.wrap IntKind.i64 (n*IntKind.wrap IntKind.i64 (BoxT.m b+1)))))),(4,(.pv (.int .i64 (IntKind.wrap IntKind.i64 (i+1)))))] [(.obj (.box [(.pv (.sl 1 false (List.map enc b.v))),(.pv (.int .i64 b.m))]))]else(At Qo 0 (Za Vy G) VB 0 55 [(1,(.ptr 0 0)),(3,(.pv (.int .i64 n))),(4,(.pv (.int .i64 (IntKind.wrap IntKind.i64 (i+1)))))] [(.obj (.box [(.pv (.sl 1 false (List.map enc b.v))),(.pv (.int .i64 b.m))]))]))):At Qo 0 (Za Vy G) VB 1 55 [(1,.ptr 0 0),(3,.pv (.int .i64 n)),(4,.pv (.int .i64 i)),(5,.pv (.int .i64 k))] [.obj (.box [.pv (enc b.v),.pv (.int .i64 b.m)])]:=At.tp (.lit (.ask (.req (.abs (Str) (fun YY=>AV.pv (PV.rptr (PV.cells ((enc) YY)))) (.lit (.req (.abs (Str) (fun YY=>AV.pv (PV.rptr (PV.cells ((enc) YY)))) (.lit (.lit (.ask (.nil) (.lit (.nil)))))))))) (.lit (.ask (.lit (.lit (.lit (.nil)))) (.lit (.nil)))))) h (by kernel_rfl)
def Vz:IC:=(.seq (.reg [⟨(some 2),(.box 2 (.t 0)),0,none⟩,⟨(some 4),(.mv (.c (.bool false))),1,none⟩] none) (.seq (.reg [⟨(some 5),(.mv (.c (.int .i64 1))),0,none⟩] none) (.seq (.seq (.reg [⟨(some 6),(.mv (.c (.int .i64 0))),0,none⟩] none) (.block 0 (.loop [6,2,5,1] (.seq (.seq (.reg [⟨(some 7),(.mv (.t 6)),0,none⟩,⟨(some 8),(.faddr 0 (.t 2)),0,none⟩,⟨(some 9),(.load false [(.sl 1)] (.t 8)),0,none⟩,⟨(some 10),(.len 1 (.t 9)),0,none⟩,⟨(some 11),(.bin .num .lss (.t 7) (.t 10)),0,none⟩,⟨(some 12),(.mv (.t 11)),0,none⟩,⟨(some 13),(.load true [(.sl 1),(.int .i64)] (.t 2)),0,(some (12,true))⟩,⟨(some 14),(.call (.c (.fn 51)) [(.t 13)]),0,(some (12,true))⟩,⟨(some 15),(.pick (.t 12) (.t 14) (.c (.bool false))),2,none⟩] none) (.cond (.t 15) .skip (.exit 0))) (.seq (.block 1 (.reg [⟨(some 18),(.mv (.t 5)),0,none⟩,⟨(some 19),(.faddr 1 (.t 2)),0,none⟩,⟨(some 20),(.load false [(.int .i64)] (.t 19)),0,none⟩,⟨(some 21),(.bin .num .add (.t 20) (.c (.int .i64 1))),0,none⟩,⟨(some 22),(.bin .num .mul (.t 18) (.t 21)),0,none⟩,⟨(some 5),(.mv (.t 22)),0,none⟩] none)) (.reg [⟨(some 16),(.mv (.t 6)),0,none⟩,⟨(some 17),(.bin .num .add (.t 16) (.c (.int .i64 1))),0,none⟩,⟨(some 6),(.mv (.t 17)),0,none⟩] none)))))) (.seq (.reg [⟨(some 23),(.faddr 0 (.t 2)),0,none⟩,⟨(some 24),(.load false [(.sl 1)] (.t 23)),0,none⟩,⟨(some 25),(.len 1 (.t 24)),0,none⟩,⟨(some 26),(.bin .num .leq (.t 25) (.c (.int .i64 5))),0,none⟩,⟨(some 27),(.mv (.t 26)),0,none⟩,⟨(some 28),(.mv (.t 5)),0,(some (27,true))⟩,⟨(some 29),(.bin .num .leq (.t 28) (.c (.int .i64 300))),0,(some (27,true))⟩,⟨(some 30),(.pick (.t 27) (.t 29) (.c (.bool false))),0,none⟩,⟨(some 31),(.mv (.t 30)),0,none⟩,⟨(some 32),(.mv (.t 1)),0,(some (31,true))⟩,⟨(some 33),(.len 1 (.t 32)),0,(some (31,true))⟩,⟨(some 34),(.bin .num .leq (.t 33) (.c (.int .i64 6))),0,(some (31,true))⟩,⟨(some 35),(.pick (.t 31) (.t 34) (.c (.bool false))),0,none⟩,⟨(some 36),(.mv (.t 35)),0,none⟩,⟨(some 37),(.mv (.t 1)),0,(some (36,true))⟩,⟨(some 38),(.call (.c (.fn 31)) [(.t 37),(.c (.int .i64 6))]),0,(some (36,true))⟩,⟨(some 39),(.pick (.t 36) (.t 38) (.c (.bool false))),2,none⟩,⟨(some 4),(.mv (.t 39)),2,none⟩] none) .ret))))
def X9:List IRes:=[(.tmp 4)]
abbrev a7b:Nat:=40
def Vd:ZC:=Xn [(51,.pure (preT (fun x:BoxT×Unit=>ZP x.1)) (Zg (fun x:BoxT×Unit=>Xo x.1))),(31,.pure (preT (fun x:List Fact×Int×Unit=>YQ x.1)) (Zg (fun x:List Fact×Int×Unit=>D9 x.1 x.2.1)))]
theorem b0o{G:PV->Prop}(b:BoxT)(fs:List Fact)(h:At Vd 0 (Za X9 G) Vz 0 40 [(1,(.pv (.sl 3 false (List.map enc fs)))),(2,(.ptr 0 0)),(5,(.pv (.int .i64 1))),(6,(.pv (.int .i64 0)))] [(.obj (.box [(.pv (.sl 1 false (List.map enc b.v))),(.pv (.int .i64 b.m))]))]):Zc Vd 0 (Za X9 G) Vz [] (YD 40 [enc b,enc fs]):=Zc.tp (.nil) h (by kernel_rfl)
theorem K3{G:PV->Prop}(b:BoxT)(fs:List Fact)(n i:Int)(h:if (decide (i<(↑(List.length (List.map enc b.v)):Int)))=true then(Go.Pl.preT (fun(x:BoxT×Unit)=>ZP x.1) [(.agg [(.sl 1 false (List.map enc b.v)),(.int .i64 b.m)])])=true∧(∃ y0:Bool,AV.pv (Zg (fun(x:BoxT×Unit)=>Xo x.1) [(.agg [(.sl 1 false (List.map enc b.v)),(.int .i64 b.m)])])=AV.pv (enc y0)∧(if (y0)=true then At Vd 0 (Za X9 G) Vz 0 40 [(1,(.pv (.sl 3 false (List.map enc fs)))),(2,(.ptr 0 0)),(5,(.pv (.int .i64 (IntKind.wrap IntKind.i64 (n*IntKind.wrap IntKind.i64 (BoxT.m b+1)))))),(6,(.pv (.int .i64 (IntKind.wrap IntKind.i64 (i+1)))))] [(.obj (.box [(.pv (.sl 1 false (List.map enc b.v))),(.pv (.int .i64 b.m))]))]else(if (decide ((↑(List.length (List.map enc b.v)):Int)<=5))=true then if (decide (n<=300))=true then if (decide ((↑(List.length (List.map enc fs)):Int)<=6))=true then(Go.Pl.preT (fun(x:List Fact×Int×Unit)=>YQ x.1) [(.sl 3 false (List.map enc fs)),(.int .i64 6)])=true∧(∃ y1:Bool,AV.pv (Zg (fun(x:List Fact×Int×Unit)=>D9 x.1 x.2.1) [(.sl 3 false (List.map enc fs)),(.int .i64 6)])=AV.pv (enc y1)∧(G ((.bool y1))))else(G ((.bool false)))else(G ((.bool false)))else(G ((.bool false))))))else(if (decide ((↑(List.length (List.map enc b.v)):Int)<=5))=true then if (decide (n<=300))=true then if (decide ((↑(List.length (List.map enc fs)):Int)<=6))=true then(Go.Pl.preT (fun(x:List Fact×Int×Unit)=>YQ x.1) [(.sl 3 false (List.map enc fs)),(.int .i64 6)])=true∧(∃ y2:Bool,AV.pv (Zg (fun(x:List Fact×Int×Unit)=>D9 x.1 x.2.1) [(.sl 3 false (List.map enc fs)),(.int .i64 6)])=AV.pv (enc y2)∧(G ((.bool y2))))else(G ((.bool false)))else(G ((.bool false)))else(G ((.bool false))))):At Vd 0 (Za X9 G) Vz 0 40 [(1,.pv (enc fs)),(2,.ptr 0 0),(5,.pv (.int .i64 n)),(6,.pv (.int .i64 i))] [.obj (.box [.pv (enc b.v),.pv (.int .i64 b.m)])]:=At.tp (.lit (.ask (.lit (.req (.abs (Bool) (fun YY=>AV.pv (enc YY)) (.lit (.ask (.lit (.lit (.lit (.nil)))) (.lit (.ask (.lit (.lit (.lit (.ask (.lit (.lit (.lit (.lit (.ask (.lit (.req (.abs (Bool) (fun YY=>AV.pv (enc YY)) (.lit (.nil))))) (.lit (.lit (.nil)))))))) (.lit (.lit (.lit (.lit (.lit (.lit (.nil))))))))))) (.lit (.lit (.lit (.lit (.lit (.lit (.lit (.lit (.lit (.nil))))))))))))))))) (.lit (.lit (.lit (.lit (.ask (.lit (.lit (.lit (.ask (.lit (.lit (.lit (.lit (.ask (.lit (.req (.abs (Bool) (fun YY=>AV.pv (enc YY)) (.lit (.nil))))) (.lit (.lit (.nil)))))))) (.lit (.lit (.lit (.lit (.lit (.lit (.nil))))))))))) (.lit (.lit (.lit (.lit (.lit (.lit (.lit (.lit (.lit (.nil))))))))))))))))) h (by kernel_rfl)
end Go.Pl

namespace Go.Pl
open Go.RowKit
open Enc (enc dec is)
open EncL (encL decL isL)
def gwL(m:Int):List Str->List Str->Int->Bool
 | _,[],n=>decide (m ≥ 0)&&decide (n<=20000)
 | seen,s::r,n=>Zw s&& !decide (m ≥ 20000)&& !seen.contains s&&gwL m (seen++[s]) r (if n<=20000 then YV (n*YV (m+1))else n)
theorem a2q{m:Int}(hm:m<0): ∀ (r seen:List Str) (n:Int),gwL m seen r n=false
 | [],seen,n=>by rw[gwL,decide_eq_false (by omega)];rfl
 | s::r,seen,n=>by rw[gwL,a2q hm r];simp
theorem c1i{m:Int}(hm:m<0): ∀ (r seen:List Str) (n:Int),gvL m seen r n=false
 | [],seen,n=>by rw[gvL,decide_eq_false (by omega)]
 | s::r,seen,n=>by rw[gvL,decide_eq_true hm];simp
theorem a1x(m:Int): ∀ (r seen:List Str) (n:Int),20000<n->gwL m seen r n=false
 | [],seen,n,h=>by rw[gwL,decide_eq_false (show ¬ n<=20000 by omega),Bool.and_false]
 | s::r,seen,n,h=>by rw[gwL,if_neg (by omega),a1x m r _ n h];simp
theorem a1f(m:Int): ∀ (r seen:List Str) (n:Int),1<=n->n<=20000->gwL m seen r n=gvL m seen r n
 | [],seen,n,h1,h2=>by rw[gwL,gvL,decide_eq_true h2,Bool.and_true]
 | s::r,seen,n,h1,h2=>by
  by_cases hm:m<0
  ·rw[a2q hm,c1i hm]
  ·rw[gwL,gvL,if_pos h2,decide_eq_false hm]
   by_cases hb:m ≥ 20000
   ·rw[decide_eq_true hb];simp
   ·have q1:m+1<=20000:=by omega
    have q2:1<=m+1:=by omega
    have hm2:n*(m+1)<=20000*20000:=Int.le_trans (Int.mul_le_mul_of_nonneg_left q1 (by omega)) (Int.mul_le_mul_of_nonneg_right h2 (by omega))
    have hm1:1<=n*(m+1):=by
     have:=Int.mul_le_mul h1 q2 (by omega) (by omega)
     omega
    rw[YU (n:=m+1) (by omega) (by omega),YU (n:=n*(m+1)) (by omega) (by omega),decide_eq_false hb]
    by_cases hn:n*(m+1)>20000
    ·rw[decide_eq_true hn,a1x _ _ _ _ hn];simp
    ·rw[decide_eq_false hn,a1f m r _ _ hm1 (by omega)]
     cases Zw s <;> cases seen.contains s <;> rfl
theorem c3h(b:BoxT)(R:Bool)(n:Int){i:Nat}(hi:i<b.v.length)(hl:b.v.length<=9223372036854775807)(hyes:(b.v.take i).contains b.v[i]=true->R=false)
  (hno:(b.v.take i).contains b.v[i]=false->At Qo 0 (Za Vy (Zl R)) VB 0 55 [(1,.ptr 0 0),(3,.pv (.int .i64 (if n<=20000 then YV (n*YV (b.m+1))else n))),(4,.pv (.int .i64 ((i+1:Nat):Int)))] [.obj (.box [.pv (enc b.v),.pv (.int .i64 b.m)])]) :
  ∀ (d k:Nat),d+k=i->(∀ j (h:j<b.v.length),j<k->b.v[j]≠b.v[i]) ->
  At Qo 0 (Za Vy (Zl R)) VB 1 55 [(1,.ptr 0 0),(3,.pv (.int .i64 n)),(4,.pv (.int .i64 i)),(5,.pv (.int .i64 k))] [.obj (.box [.pv (enc b.v),.pv (.int .i64 b.m)])]:=by
 intro d
 induction d with
 | zero=>
  intro k hk hne
  obtain rfl:k=i:=by omega
  have hc:(b.v.take k).contains b.v[k]=false:=by
   rw[<- Bool.not_eq_true,List.contains_iff_mem]
   intro hm
   obtain⟨j,hj,e⟩:=List.getElem_of_mem hm
   rw[List.length_take]at hj
   rw[List.getElem_take]at e
   exact hne j (by omega) (by omega) e
  have:=hno hc
  refine b6j b n k k (Z8 (Yc (by omega)) (WI (fun h=> ?_) fun h=> ?_))
  ·rw[if_pos h]at this
   rw[next (by omega)]
   exact this
  ·rw[if_neg h]at this
   rw[next (by omega)]
   exact this
 | succ d ih=>
  intro k hk hne
  have hkl:k<b.v.length:=by omega
  refine b6j b n i k (Ya (Z4 (by omega)) ⟨ZG hkl rfl,Z0 hkl ⟨ZG hi rfl,Z0 hi (Gj (fun h=> ?_) fun h=> ?_)⟩⟩)
  ·have e:b.v[k]=b.v[i]:=by
    have h:b.v[k].s=b.v[i].s:=h
    cases hx:b.v[k];cases hy:b.v[i]
    rw[hx,hy]at h
    exact congrArg Str.mk h
   refine ZF (hyes ?_).symm
   rw[List.contains_iff_mem,<- e,List.mem_take_iff_getElem]
   exact⟨k,by omega,rfl⟩
  ·rw[next (by omega)]
   refine ih (k+1) (by omega) fun j hj hjk=> ?_
   by_cases e:j=k
   ·subst e
    intro e2
    exact h (congrArg Str.s e2)
   ·exact hne j hj (by omega)
theorem b1s(b:BoxT)(hl:b.v.length<=9223372036854775807): ∀ (d i:Nat) (n:Int),d+i=b.v.length ->
  At Qo 0 (Za Vy (Zl (gwL b.m (b.v.take i) (b.v.drop i) n))) VB 0 55 [(1,.ptr 0 0),(3,.pv (.int .i64 n)),(4,.pv (.int .i64 i))] [.obj (.box [.pv (enc b.v),.pv (.int .i64 b.m)])]:=by
 intro d
 induction d with
 | zero=>
  intro i n hi
  rw[List.drop_of_length_le (by omega)]
  refine b0p b n i (Z8 (Gh (by omega)) ?_)
  rw[gwL]
  refine WI (fun h=> ?_) fun h=> ?_
  ·rw[decide_eq_true h];exact ZF rfl
  ·rw[decide_eq_false h];exact ZF rfl
 | succ d ih=>
  intro i n hi
  have hlt:i<b.v.length:=by omega
  have hd:b.v.drop i=b.v[i]::b.v.drop (i+1):=List.drop_eq_getElem_cons hlt
  have ht:b.v.take (i+1)=b.v.take i++[b.v[i]]:=List.take_succ_eq_append_getElem hlt
  rw[hd,gwL]
  refine b0p b n i (Ya (H6 hlt) ⟨ZG hlt rfl,Z0 hlt (Ze (b.v[i],()) rfl (Vj (fun h=> ?_) fun h=>WI (fun h2=> ?_) fun h2=> ?_))⟩)
  ·have h:Zw b.v[i]=false:=h
   rw[h];exact ZF rfl
  ·rw[decide_eq_true h2];simp only[Bool.not_true,Bool.and_false,Bool.false_and];exact ZF rfl
  ·have h:Zw b.v[i]=true:=h
   rw[decide_eq_false h2,h]
   simp only[Bool.not_false,Bool.true_and,Bool.and_true]
   refine c3h b _ n hlt hl (fun hc=>by rw[hc];rfl) (fun hc=> ?_) i 0 (by omega) (fun j _ hj=>by omega)
   rw[hc,Bool.not_false,Bool.true_and,<- ht]
   exact ih (i+1) _ (by omega)
theorem b9h: ∀ a:BoxT×Unit,ZP a.1=true->Zc Qo 0 (Za Vy (Zl (Xo a.1))) VB [] (YD c5a (encL a)):=by
 rintro⟨b,⟨⟩⟩ h
 simp only[ZP,XM,Bool.and_eq_true]at h
 rw[<- a0a,<- a1f b.m b.v [] 1 (by decide) (by decide)]
 exact c8v b (b1s b (ZL.1 h.1) b.v.length 0 1 (by omega))
end Go.Pl

namespace Go.Pl
open Go.RowKit
open Enc (enc dec is)
open EncL (encL decL isL)
def b0r(m:Int):Nat->Int->Int
 | 0,n=>n
 | k+1,n=>b0r m k (YV (n*YV (m+1)))
theorem JP(b:BoxT)(fs:List Fact)(hl:b.v.length<=9223372036854775807)(hf:YQ fs=true)(n:Int){P:Prop}{G:PV->Prop}(hG : ∀ x,x=(decide (b.v.length<=5)&&decide (n<=300)&&decide (fs.length<=6)&&D9 fs 6)->G (.bool x)):
  if (decide ((↑(List.length (List.map (enc:Str->PV) (BoxT.v b))):Int)<=5))=true then if (decide (n<=300))=true then if (decide ((↑(List.length (List.map (enc:Fact->PV) fs)):Int)<=6))=true then
   (Go.Pl.preT (fun(x:List Fact×Int×Unit)=>YQ (Prod.fst x)) [(.sl 3 false (List.map enc fs)),(.int .i64 6)])=true∧(∃ y1:Bool,AV.pv (Zg (fun(x:List Fact×Int×Unit)=>D9 (Prod.fst x) (Prod.fst (Prod.snd x))) [(.sl 3 false (List.map enc fs)),(.int .i64 6)])=AV.pv (enc y1)∧(G ((.bool y1))))else(G ((.bool false)))else(G ((.bool false)))else(G ((.bool false))):=by
 simp only[List.length_map]
 refine WI (fun h1=>WI (fun h2=>WI (fun h3=>⟨Zh (fs,6,()) rfl hf,Ze (fs,6,()) rfl (hG _ ?_)⟩) fun h3=>hG _ ?_) fun h2=>hG _ ?_) fun h1=>hG _ ?_
 ·rw[decide_eq_true (show b.v.length<=5 by omega),decide_eq_true h2,decide_eq_true (show fs.length<=6 by omega)];rfl
 ·rw[decide_eq_false (show ¬ fs.length<=6 by omega)];simp
 ·rw[decide_eq_false h2];simp
 ·rw[decide_eq_false (show ¬ b.v.length<=5 by omega)];simp
theorem Lv(b:BoxT)(fs:List Fact)(hb:ZP b=true)(hv:Xo b=true)(hf:YQ fs=true): ∀ (k i:Nat) (n:Int),k+i=b.v.length ->
  At Vd 0 (Za X9 (Zl (decide (b.v.length<=5)&&decide (b0r b.m k n<=300)&&decide (fs.length<=6)&&D9 fs 6))) Vz 0 40 [(1,.pv (enc fs)),(2,.ptr 0 0),(5,.pv (.int .i64 n)),(6,.pv (.int .i64 i))] [.obj (.box [.pv (enc b.v),.pv (.int .i64 b.m)])]:=by
 have hbo:=hb
 simp only[ZP,XM,Bool.and_eq_true]at hb
 have hl:=ZL.1 hb.1
 intro k
 induction k with
 | zero=>
  intro i n hi
  exact K3 b fs n i (Z8 (Gh (by omega)) (JP (P:=True) b fs hl hf n fun x hx=>ZF hx))
 | succ k ih=>
  intro i n hi
  have hlt:i<b.v.length:=by omega
  refine K3 b fs n i (Ya (H6 hlt) ⟨Zh (b,()) rfl hbo,Ze (b,()) rfl (Ya hv ?_)⟩)
  rw[next (by omega)]
  exact ih (i+1) _ (by omega)
theorem LP(m:Nat): ∀ (l:List Str) (n r:Int),0<=n->n<=20000->JM m l n=some r->m<=20000->b0r m l.length n=a0b m l n
 | [],n,r,_,_,_,_=>rfl
 | s::l,n,r,h0,h1,h,hm=>by
  rw[JM]at h
  split at h
  ·cases h
  ·rename_i hn
   show b0r m l.length (YV (n*YV ((m:Int)+1)))=a0b m l (n*((m:Int)+1))
   have e0:0<=n*((m:Int)+1):=Int.mul_nonneg h0 (by omega)
   rw[YU (n:=(m:Int)+1) (by omega) (by omega),YU (by omega) (by omega)]
   exact LP m l _ r e0 (by omega) h hm
theorem Em: ∀ x:BoxT×List Fact×Unit,(ZP x.1&&YQ x.2.1)=true->Zc Vd 0 (Za X9 (Zl (UY x.1 x.2.1))) Vz [] (YD a7b (encL x)):=by
 rintro⟨b,fs,⟨⟩⟩ h
 simp only[Bool.and_eq_true]at h
 obtain⟨hb,hf⟩:=h
 have hbo:=hb
 simp only[ZP,XM,Bool.and_eq_true]at hb
 have hl:=ZL.1 hb.1
 refine b0o b fs ?_
 cases hv:Xo b
 ·have ef:UY b fs=(decide (b.v.length<=5)&&decide ((1:Int)<=300)&&decide (fs.length<=6)&&D9 fs 6):=by unfold UY;rw[hv];rfl
  show At Vd 0 (Za X9 (Zl (UY b fs))) _ _ _ _ _
  rw[ef]
  by_cases h0:0<b.v.length
  ·refine K3 b fs 1 ((0:Nat):Int) (Ya (H6 h0) ⟨Zh (b,()) rfl hbo,Ze (b,()) rfl (Z8 (show ¬ Xo b=true by simp[hv]) ?_)⟩)
   exact JP (P:=True) b fs hl hf 1 fun x hx=>ZF hx
  ·exact K3 b fs 1 ((0:Nat):Int) (Z8 (Gh h0) (JP (P:=True) b fs hl hf 1 fun x hx=>ZF hx))
 ·have ef:UY b fs=(decide (b.v.length<=5)&&decide (b0r b.m b.v.length 1<=300)&&decide (fs.length<=6)&&D9 fs 6):=by
   unfold UY
   rw[hv,if_pos rfl]
   obtain⟨_,_,h3,h4,h5⟩:=UD.1 hv
   obtain⟨r,hr⟩:=Option.isSome_iff_exists.1 h5
   rcases h3 with h3|h3
   ·rw[h3];rfl
   ·have e:b.m=(b.m.toNat:Int):=by omega
    rw[e]at hr ⊢
    rw[LP _ _ _ _ (by decide) (by decide) hr (by omega)]
  show At Vd 0 (Za X9 (Zl (UY b fs))) _ _ _ _ _
  rw[ef]
  exact Lv b fs hbo hv hf b.v.length 0 1 (by omega)
end Go.Pl

namespace Go.Pl
open Go.RowKit
open Enc (enc dec is)
open EncL (encL decL isL)
set_option maxRecDepth 100000
end Go.Pl

namespace Go.Pl
open Go.RowKit
open Enc (enc dec is)
open EncL (encL decL isL)
theorem K9(v a b:List Str):UW v (a++b)=(UW v a&&UW v b):=by unfold UW;rw[List.all_append]
theorem a2v{b:BoxT}(h:Xo b=true): ∀ y∈JU b.m.toNat b.v.length,∀ x∈y,-1<=x∧x<=20000:=by
 intro y hy x hx
 obtain⟨q1,q2⟩:=Kl.1 hy
 have:=q2 x hx
 obtain⟨_,_,h3,h4,_⟩:=UD.1 h
 rcases h3 with h3|h3
 ·rw[h3]at q1
  rw[List.length_eq_zero_iff.1 q1]at hx
  cases hx
 ·omega
end Go.Pl

namespace Go.Pl
open Go.RowKit
open Enc (enc dec is)
open EncL (encL decL isL)
def Yn(m n:Int):Bool:=decide (m<n)
def QB(g:Nat):List AV->List AObj->Bool
 | [.pv (.int .i64 n),.ptr 0 0,.ptr 1 0,.ptr 2 0],[.box [.pv (.bool s)],.box [.pv (.fn g')],.box [.pv (.int .i64 z)]]=>g'==g
 | _,_=>false
def KT(f:Int->Int->Bool):List AV->List AObj->AV×List AObj×List AObj
 | [.pv (.int .i64 n),_,_,_],[.box [.pv (.bool s)],.box [.pv (.fn g)],.box [.pv (.int .i64 z)]]=>(.tup [],[.box [.pv (.bool true)],.box [.pv (.fn g)],.box [.pv (.int .i64 (if !s||f n z then n else z))]],[])
 | _,_=>Wu
def DF(f:Int->Int->Bool):List Int->Option Int
 | []=>none
 | x::l=>some (l.foldl (fun z n=>if f n z then n else z) x)
def YE(b:BoxT)(fs:List Fact)(l:Lin):List Int:=(Yb b fs).map fun p=>(Yo l (Zn b.v p)).1
def Uu(b:BoxT)(fs:List Fact)(l:Lin):Bool:=ZP b&&Zo fs&&decide (fs.length<=100)&&decide (b.v.length<=1000)&&ZW l&&decide (l.t.length<=1000)
def UH(f:Int->Int->Bool)(b:BoxT)(fs:List Fact)(l:Lin):Int×Int:=
 if Zp b fs (Zd l) (Zm l)=0 then(match DF f (YE b fs l)with|none=>(0,9)|some z=>(z,0))else(0,Zp b fs (Zd l) (Zm l))
end Go.Pl

namespace Go.Pl
open Go.RowKit
open Enc (enc dec is)
open EncL (encL decL isL)
set_option maxRecDepth 100000
def O9:IC:=(.seq (.reg [⟨(some 4),(.mv (.c (.bool false))),0,none⟩] none) (.seq (.reg [⟨(some 5),(.mv (.t 0)),0,none⟩,⟨(some 6),(.mv (.t 1)),0,none⟩,⟨(some 7),(.bin .num .lss (.t 5) (.t 6)),0,none⟩,⟨(some 4),(.mv (.t 7)),0,none⟩] none) .ret))
def EC:List IRes:=[(.tmp 4)]
abbrev c7a:Nat:=8
def a9y:ZC:=Xn []
theorem c9a{G:PV->Prop}(m n:Int)(h:G ((.bool (decide (m<n))))):Zc a9y 0 (Za EC G) O9 [] (YD 8 [enc m,enc n]):=Zc.tp (.lit (.nil)) h (by kernel_rfl)
def NG:IC:=(.seq (.reg [⟨(some 5),(.load false [.bool] (.t 1)),0,none⟩,⟨(some 6),(.un .not (.t 5)),0,none⟩,⟨(some 7),(.mv (.t 6)),0,none⟩,⟨(some 8),(.load false [.any] (.t 2)),0,(some (7,false))⟩,⟨(some 9),(.mv (.t 0)),0,(some (7,false))⟩,⟨(some 10),(.load false [(.int .i64)] (.t 3)),0,(some (7,false))⟩,⟨(some 11),(.call (.t 8) [(.t 9),(.t 10)]),0,(some (7,false))⟩,⟨(some 12),(.pick (.t 7) (.c (.bool true)) (.t 11)),2,none⟩] none) (.cond (.t 12) (.reg [⟨(some 13),(.mv (.t 0)),0,none⟩,⟨none,(.store 1 (.t 3) (.t 13)),0,none⟩,⟨none,(.store 1 (.t 1) (.c (.bool true))),0,none⟩] none) .skip))
def Pt:List IRes:=[]
abbrev b7j:Nat:=14
def FR:ZC:=Xn [(128,.pure (preT (fun _:Int×Int×Unit=>true)) (Zg (fun x:Int×Int×Unit=>decide (x.1<x.2.1))))]
theorem c4g{G:AV×List AObj×List AObj->Prop}(n:Int)(s:Bool)(z:Int)(h:if (!s)=true then G (((.tup []),([(.box [(.pv (.bool true))]),(.box [(.pv (.fn 128))]),(.box [(.pv (.int .i64 n))])],[])))else(∃ y0:Bool,AV.pv (Zg (fun(x:Int×Int×Unit)=>decide (x.1<x.2.1)) [(.int .i64 n),(.int .i64 z)])=AV.pv (enc y0)∧(if (y0)=true then G (((.tup []),([(.box [(.pv (.bool true))]),(.box [(.pv (.fn 128))]),(.box [(.pv (.int .i64 n))])],[])))else(G (((.tup []),([(.box [(.pv (.bool s))]),(.box [(.pv (.fn 128))]),(.box [(.pv (.int .i64 z))])],[]))))))):Zc FR 3 (Zj 3 Pt G) NG [] (YH 14 [.pv (.int .i64 n),.ptr 0 0,.ptr 1 0,.ptr 2 0] [.box [.pv (.bool s)],.box [.pv (.fn 128)],.box [.pv (.int .i64 z)]]):=Zc.to (.ask (.lit (.lit (.lit (.lit (.lit (.nil)))))) (.lit (.lit (.lit (.lit (.abs (Bool) (fun YY=>AV.pv (enc YY)) (.lit (.ask (.nil) (.nil))))))))) h (by kernel_rfl)
def UF:IC:=(.seq (.reg [⟨(some 4),(.box 2 (.t 0)),0,none⟩,⟨(some 6),(.box 2 (.t 2)),1,none⟩,⟨(some 7),(.box 1 (.t 3)),2,none⟩,⟨(some 8),(.alloc (.int .i64 0)),3,none⟩,⟨(some 9),(.alloc (.int .i64 0)),4,none⟩] none) (.seq (.seq (.reg [⟨(some 18),(.load true [(.sl 1),(.int .i64)] (.t 4)),0,none⟩,⟨(some 19),(.mv (.t 1)),0,none⟩,⟨(some 20),(.load true [(.int .i64),(.sl 2)] (.t 6)),0,none⟩,⟨(some 21),(.call (.c (.fn 73)) [(.t 20)]),0,none⟩,⟨(some 22),(.load true [(.int .i64),(.sl 2)] (.t 6)),2,none⟩,⟨(some 23),(.call (.c (.fn 174)) [(.t 22)]),2,none⟩,⟨(some 24),(.call (.c (.fn 116)) [(.t 18),(.t 19),(.t 21),(.t 23)]),4,none⟩,⟨(some 10),(.mv (.t 24)),6,none⟩] (some [[],[],[],[2],[],[4,3,2],[0,1,3,5,2,4],[6,0,1,2,3,4,5]])) (.seq (.reg [⟨(some 25),(.mv (.t 10)),0,none⟩,⟨(some 26),(.bin .num .neq (.t 25) (.c (.int .i64 0))),0,none⟩] none) (.cond (.t 26) (.seq (.reg [⟨(some 27),(.mv (.t 10)),0,none⟩,⟨none,(.store 1 (.t 8) (.c (.int .i64 0))),0,none⟩,⟨none,(.store 1 (.t 9) (.t 27)),0,none⟩] none) .ret) .skip))) (.seq (.reg [⟨(some 11),(.alloc (.int .i64 0)),0,none⟩,⟨(some 12),(.alloc (.bool false)),1,none⟩,⟨none,(.store 1 (.t 11) (.c (.int .i64 0))),2,none⟩,⟨none,(.store 1 (.t 12) (.c (.bool false))),2,none⟩] none) (.seq (.reg [⟨(some 28),(.mkfn 194 [] [(.t 12),(.t 7),(.t 11)]),0,none⟩,⟨(some 13),(.alloc .nilfn),0,none⟩,⟨none,(.store 1 (.t 13) (.t 28)),1,none⟩] none) (.seq (.seq (.reg [⟨(some 29),(.load true [(.sl 1),(.int .i64)] (.t 4)),0,none⟩,⟨(some 30),(.mv (.t 1)),0,none⟩,⟨(some 31),(.call (.c (.fn 117)) [(.t 29),(.t 30)]),0,none⟩] none) (.block 0 (.ext 0 [31,33,6,15,35,36,37,34,38,39,17,40,41,8,9,42,13,16,43,44,12,11]))) (.seq (.seq (.reg [⟨(some 46),(.load false [.bool] (.t 12)),0,none⟩,⟨(some 47),(.un .not (.t 46)),0,none⟩] none) (.cond (.t 47) (.seq (.reg [⟨none,(.store 1 (.t 8) (.c (.int .i64 0))),0,none⟩,⟨none,(.store 1 (.t 9) (.c (.int .i64 9))),0,none⟩] none) .ret) .skip)) (.seq (.reg [⟨(some 48),(.load false [(.int .i64)] (.t 11)),0,none⟩,⟨none,(.store 1 (.t 8) (.t 48)),0,none⟩,⟨none,(.store 1 (.t 9) (.c (.int .i64 0))),0,none⟩] none) .ret)))))))
def Qv:List IRes:=[(.cell false 1 8),(.cell false 1 9)]
abbrev b5a:Nat:=49
def VG:ZC:=Xn [(73,.pure (preT (fun x:Lin×Unit=>ZW x.1)) (Zg (fun x:Lin×Unit=>Zd x.1))),(174,.own KU Co),(116,.pure (preT (fun x:BoxT×List Fact×Bool×NilS×Unit=>ZP x.1&&Zo x.2.1&&decide (x.2.1.length<=100))) (Zg (fun x:BoxT×List Fact×Bool×NilS×Unit=>Zp x.1 x.2.1 x.2.2.1 []))),(117,.own Y3 WF),(38,.pure (preT (fun x:Lin×List Coef×Unit=>ZW x.1&&decide (x.2.1.length<=9223372036854775807))) (Zg (fun x:Lin×List Coef×Unit=>Yo x.1 x.2.1))),(194,.own (QB 128) (KT Yn))]
theorem b7k{G:PV->Prop}(E:Yx)(b:BoxT)(fs:List Fact)(l:Lin)(h:(Go.Pl.preT (fun(x:Lin×Unit)=>ZW x.1) [(.agg [(.int .i64 l.k),(.sl 2 false (List.map enc l.t))])])=true∧(∃ y0:Bool,AV.pv (Zg (fun(x:Lin×Unit)=>Zd x.1) [(.agg [(.int .i64 l.k),(.sl 2 false (List.map enc l.t))])])=AV.pv (enc y0)∧((KU [(.pv (.agg [(.int .i64 l.k),(.sl 2 false (List.map enc l.t))]))] [])=true∧((Go.Pl.preT (fun(x:BoxT×List Fact×Bool×NilS×Unit)=>ZP x.1&&Zo x.2.1&&decide (List.length x.2.1<=100)) [(.agg [(.sl 1 false (List.map enc b.v)),(.int .i64 b.m)]),(.sl 3 false (List.map enc fs)),(.bool y0),(.sl 0 true [])])=true∧(∃ y1:Int,AV.pv (Zg (fun(x:BoxT×List Fact×Bool×NilS×Unit)=>Zp x.1 x.2.1 x.2.2.1 []) [(.agg [(.sl 1 false (List.map enc b.v)),(.int .i64 b.m)]),(.sl 3 false (List.map enc fs)),(.bool y0),(.sl 0 true [])])=AV.pv (enc y1)∧(if (y1 != 0)=true then G ((.tup [(.int .i64 0),(.int .i64 y1)]))else((Y3 [(.pv (.agg [(.sl 1 false (List.map enc b.v)),(.int .i64 b.m)])),(.pv (.sl 3 false (List.map enc fs)))] [])=true∧(E 0 ⟨ZM 49 0 [(6,(.ptr 0 0)),(8,(.ptr 1 0)),(9,(.ptr 2 0)),(11,(.ptr 3 0)),(12,(.ptr 4 0)),(13,(.ptr 5 0)),(15,.undef),(16,.undef),(17,.undef),(31,(.fn 177 [] [(.ptr 6 0),(.ptr 7 0)])),(33,.undef),(34,.undef),(35,.undef),(36,.undef),(37,.undef),(38,.undef),(39,.undef),(40,.undef),(41,.undef),(42,.undef),(43,.undef),(44,.undef)],[(.obj (.box [(.pv (.int .i64 l.k)),(.pv (.sl 2 false (List.map enc l.t)))])),(.obj (.box [(.pv (.int .i64 0))])),(.obj (.box [(.pv (.int .i64 0))])),(.obj (.box [(.pv (.int .i64 0))])),(.obj (.box [(.pv (.bool false))])),(.obj (.box [(.fn 194 [] [(.ptr 4 0),(.ptr 8 0),(.ptr 3 0)])])),(.obj (.box [(.pv (.sl 1 false (List.map enc b.v))),(.pv (.int .i64 b.m))])),(.obj (.box [(.pv (.sl 3 false (List.map enc fs)))])),(.obj (.box [(.pv (.fn 128))]))]⟩ (fun x S'=>Jb VG E 0 (Za Qv G) UF 0 x S'))))))))):Zz VG E 0 (Za Qv G) (.inl UF) [] (YD 49 [enc b,enc fs,enc l,.fn 128]):=Zz.mp (.req (.abs (Bool) (fun YY=>AV.pv (enc YY)) (.req (.keep (.req (.abs (Int) (fun YY=>AV.pv (enc YY)) (.lit (.ask (.nil) (.req (.keep (.nil))))))))))) h (by kernel_rfl)
theorem b5n{G:PV->Prop}(E:Yx)(b:BoxT)(fs:List Fact)(l:Lin)(z:Int)(s:Bool)(h:if (!s)=true then G ((.tup [(.int .i64 0),(.int .i64 9)]))else(G ((.tup [(.int .i64 z),(.int .i64 0)])))):Jb VG E 0 (Za Qv G) UF 0 .normal ⟨ZM 49 0 [(6,.ptr 0 0),(8,.ptr 1 0),(9,.ptr 2 0),(11,.ptr 3 0),(12,.ptr 4 0),(13,.ptr 5 0)],[.obj (.box [.pv (.int .i64 l.k),.pv (enc l.t)]),.obj (.box [.pv (.int .i64 0)]),.obj (.box [.pv (.int .i64 0)]),.obj (.box [.pv (.int .i64 z)]),.obj (.box [.pv (.bool s)]),.obj (.box [.fn 194 [] [.ptr 4 0,.ptr 6 0,.ptr 3 0]]),.obj (.box [.pv (.fn 128)])]⟩:=Zz.mp (.ask (.nil) (.nil)) h (by kernel_rfl)
def Qh:IC:=UF
def Qu:List IRes:=[(.cell false 1 8),(.cell false 1 9)]
abbrev b4j:Nat:=49
def VK:ZC:=Xn [(73,.pure (preT (fun x:Lin×Unit=>ZW x.1)) (Zg (fun x:Lin×Unit=>Zd x.1))),(174,.own KX Ht),(116,.own Ud QS),(117,.own Y3 WF),(38,.pure (preT (fun x:Lin×List Coef×Unit=>ZW x.1&&decide (x.2.1.length<=9223372036854775807))) (Zg (fun x:Lin×List Coef×Unit=>Yo x.1 x.2.1))),(194,.own (QB 128) (KT Yn))]
theorem c2a{G:PV->Prop}(E:Yx)(b:BoxT)(fs:List Fact)(l:Lin)(h:(Go.Pl.preT (fun(x:Lin×Unit)=>ZW x.1) [(.agg [(.int .i64 l.k),(.sl 2 false (List.map enc l.t))])])=true∧(∃ y0:Bool,AV.pv (Zg (fun(x:Lin×Unit)=>Zd x.1) [(.agg [(.int .i64 l.k),(.sl 2 false (List.map enc l.t))])])=AV.pv (enc y0)∧((KX [(.pv (.agg [(.int .i64 l.k),(.sl 2 false (List.map enc l.t))]))] [])=true∧((Ud [(.pv (.agg [(.sl 1 false (List.map enc b.v)),(.int .i64 b.m)])),(.pv (.sl 3 false (List.map enc fs))),(.pv (.bool y0)),(.row 0 (List.length (Zm (FY (PV.agg [enc l.k,enc l.t])))) 0 (List.length (Zm (FY (PV.agg [enc l.k,enc l.t])))))] [(.row false 9 1 (List.map enc (Zm (FY (PV.agg [enc l.k,enc l.t])))))])=true∧(if (Zp (OG (PV.agg [enc b.v,enc b.m])) (CV (enc fs)) y0 (Ko (List.map enc (Zm (FY (PV.agg [enc l.k,enc l.t]))))) != 0)=true then G ((.tup [(.int .i64 0),(.int .i64 (Zp (OG (PV.agg [enc b.v,enc b.m])) (CV (enc fs)) y0 (Ko (List.map enc (Zm (FY (PV.agg [enc l.k,enc l.t])))))))]))else((Y3 [(.pv (.agg [(.sl 1 false (List.map enc b.v)),(.int .i64 b.m)])),(.pv (.sl 3 false (List.map enc fs)))] [])=true∧(E 0 ⟨ZM 49 0 [(6,(.ptr 0 0)),(8,(.ptr 1 0)),(9,(.ptr 2 0)),(11,(.ptr 3 0)),(12,(.ptr 4 0)),(13,(.ptr 5 0)),(15,.undef),(16,.undef),(17,.undef),(31,(.fn 177 [] [(.ptr 6 0),(.ptr 7 0)])),(33,.undef),(34,.undef),(35,.undef),(36,.undef),(37,.undef),(38,.undef),(39,.undef),(40,.undef),(41,.undef),(42,.undef),(43,.undef),(44,.undef)],[(.obj (.box [(.pv (.int .i64 l.k)),(.pv (.sl 2 false (List.map enc l.t)))])),(.obj (.box [(.pv (.int .i64 0))])),(.obj (.box [(.pv (.int .i64 0))])),(.obj (.box [(.pv (.int .i64 0))])),(.obj (.box [(.pv (.bool false))])),(.obj (.box [(.fn 194 [] [(.ptr 4 0),(.ptr 8 0),(.ptr 3 0)])])),(.obj (.box [(.pv (.sl 1 false (List.map enc b.v))),(.pv (.int .i64 b.m))])),(.obj (.box [(.pv (.sl 3 false (List.map enc fs)))])),(.obj (.box [(.pv (.fn 128))]))]⟩ (fun x S'=>Jb VK E 0 (Za Qu G) Qh 0 x S')))))))):Zz VK E 0 (Za Qu G) (.inl Qh) [] (YD 49 [enc b,enc fs,enc l,.fn 128]):=Zz.mp (.req (.abs (Bool) (fun YY=>AV.pv (enc YY)) (.req (.keep (.req (.keep (.lit (.ask (.nil) (.req (.keep (.nil))))))))))) h (by kernel_rfl)
theorem a9f{G:PV->Prop}(E:Yx)(b:BoxT)(fs:List Fact)(l:Lin)(z:Int)(s:Bool)(h:if (!s)=true then G ((.tup [(.int .i64 0),(.int .i64 9)]))else(G ((.tup [(.int .i64 z),(.int .i64 0)])))):Jb VK E 0 (Za Qu G) Qh 0 .normal ⟨ZM 49 0 [(6,.ptr 0 0),(8,.ptr 1 0),(9,.ptr 2 0),(11,.ptr 3 0),(12,.ptr 4 0),(13,.ptr 5 0)],[.obj (.box [.pv (.int .i64 l.k),.pv (enc l.t)]),.obj (.box [.pv (.int .i64 0)]),.obj (.box [.pv (.int .i64 0)]),.obj (.box [.pv (.int .i64 z)]),.obj (.box [.pv (.bool s)]),.obj (.box [.fn 194 [] [.ptr 4 0,.ptr 6 0,.ptr 3 0]]),.obj (.box [.pv (.fn 128)])]⟩:=Zz.mp (.ask (.nil) (.nil)) h (by kernel_rfl)
def P9:IC:=(.seq (.reg [⟨(some 3),(.box 2 (.t 0)),0,none⟩,⟨(some 5),(.box 2 (.t 2)),1,none⟩,⟨(some 6),(.mv (.c (.int .i64 0))),2,none⟩,⟨(some 7),(.mv (.c (.int .i64 0))),2,none⟩] none) (.seq (.reg [⟨(some 8),(.load true [(.sl 1),(.int .i64)] (.t 3)),0,none⟩,⟨(some 9),(.mv (.t 1)),0,none⟩,⟨(some 10),(.load true [(.int .i64),(.sl 2)] (.t 5)),0,none⟩,⟨(some 11),(.call (.c (.fn 127)) [(.t 8),(.t 9),(.t 10),(.c (.fn 128))]),0,none⟩,⟨(some 12),(.extract (.t 11) 0),2,none⟩,⟨(some 13),(.extract (.t 11) 1),2,none⟩,⟨(some 6),(.mv (.t 12)),2,none⟩,⟨(some 7),(.mv (.t 13)),2,none⟩] none) .ret))
def RN:List IRes:=[(.tmp 6),(.tmp 7)]
abbrev b7y:Nat:=14
def EF:ZC:=Xn [(127,.pure (preT (fun x:BoxT×List Fact×Lin×FnV 128×Unit=>Uu x.1 x.2.1 x.2.2.1)) (Zg (fun x:BoxT×List Fact×Lin×FnV 128×Unit=>UH Yn x.1 x.2.1 x.2.2.1)))]
theorem c4c{G:PV->Prop}(b:BoxT)(fs:List Fact)(l:Lin)(h:(Go.Pl.preT (fun(x:BoxT×List Fact×Lin×FnV 128×Unit)=>Uu x.1 x.2.1 x.2.2.1) [(.agg [(.sl 1 false (List.map enc b.v)),(.int .i64 b.m)]),(.sl 3 false (List.map enc fs)),(.agg [(.int .i64 l.k),(.sl 2 false (List.map enc l.t))]),(.fn 128)])=true∧(∃ y0:Int×Int,AV.pv (Zg (fun(x:BoxT×List Fact×Lin×FnV 128×Unit)=>UH Yn x.1 x.2.1 x.2.2.1) [(.agg [(.sl 1 false (List.map enc b.v)),(.int .i64 b.m)]),(.sl 3 false (List.map enc fs)),(.agg [(.int .i64 l.k),(.sl 2 false (List.map enc l.t))]),(.fn 128)])=AV.pv (enc y0)∧(G ((.tup [(.int .i64 y0.1),(.int .i64 y0.2)]))))):Zc EF 0 (Za RN G) P9 [] (YD 14 [enc b,enc fs,enc l]):=Zc.tp (.req (.abs (Int×Int) (fun YY=>AV.pv (enc YY)) (.nil))) h (by kernel_rfl)
def Uz:IC:=(.block 1 (.seq (.reg [⟨(some 35),(.load true [(.int .i64),(.sl 2)] (.t 6)),0,none⟩,⟨(some 36),(.mv (.t 15)),0,none⟩,⟨(some 37),(.call (.c (.fn 38)) [(.t 35),(.t 36)]),0,none⟩,⟨(some 34),(.mv (.t 37)),2,none⟩,⟨(some 38),(.extract (.t 34) 0),2,none⟩,⟨(some 39),(.extract (.t 34) 1),2,none⟩,⟨(some 16),(.mv (.t 38)),2,none⟩,⟨(some 17),(.mv (.t 39)),2,none⟩] none) (.seq (.seq (.reg [⟨(some 40),(.mv (.t 17)),0,none⟩,⟨(some 41),(.bin .num .neq (.t 40) (.c (.int .i64 0))),0,none⟩] none) (.cond (.t 41) (.seq (.reg [⟨(some 42),(.mv (.t 17)),0,none⟩,⟨none,(.store 1 (.t 8) (.c (.int .i64 0))),0,none⟩,⟨none,(.store 1 (.t 9) (.t 42)),0,none⟩] none) .ret) .skip)) (.reg [⟨(some 43),(.load false [.any] (.t 13)),0,none⟩,⟨(some 44),(.mv (.t 16)),0,none⟩,⟨(some 45),(.call (.t 43) [(.t 44)]),0,none⟩] none))))
def a0c:ZC:=Xn [(73,.pure (preT (fun x:Lin×Unit=>ZW x.1)) (Zg (fun x:Lin×Unit=>Zd x.1))),(174,.own KU Co),(116,.pure (preT (fun x:BoxT×List Fact×Bool×NilS×Unit=>ZP x.1&&Zo x.2.1&&decide (x.2.1.length<=100))) (Zg (fun x:BoxT×List Fact×Bool×NilS×Unit=>Zp x.1 x.2.1 x.2.2.1 []))),(117,.own Y3 WF),(38,.pure (preT (fun x:Lin×List Coef×Unit=>ZW x.1&&decide (x.2.1.length<=9223372036854775807))) (Zg (fun x:Lin×List Coef×Unit=>Yo x.1 x.2.1))),(194,.own (QB 128) (KT Yn))]
theorem b3j{G:Zt->Prop}(E:Yx)(l:Lin)(p:List Int)(vs:List Coef)(z:Int)(s:Bool)(h:(Go.Pl.preT (fun(x:Lin×List Coef×Unit)=>ZW x.1&&decide (List.length x.2.1<=9223372036854775807)) [(.agg [(.int .i64 l.k),(.sl 2 false (List.map enc l.t))]),(.sl 2 false (List.map enc vs))])=true∧(∃ y0:Int×Int,AV.pv (Zg (fun(x:Lin×List Coef×Unit)=>Yo x.1 x.2.1) [(.agg [(.int .i64 l.k),(.sl 2 false (List.map enc l.t))]),(.sl 2 false (List.map enc vs))])=AV.pv (enc y0)∧(if (y0.2 != 0)=true then G ([(.obj (.box [(.pv (.int .i64 l.k)),(.pv (.sl 2 false (List.map enc l.t)))])),(.obj (.box [(.pv (.int .i64 0))])),(.obj (.box [(.pv (.int .i64 y0.2))])),(.obj (.box [(.pv (.int .i64 z))])),(.obj (.box [(.pv (.bool s))])),(.obj (.box [(.fn 194 [] [(.ptr 4 0),(.ptr 6 0),(.ptr 3 0)])])),(.obj (.box [(.pv (.fn 128))])),.fresh,.fresh])else(E 99 ⟨ZM 49 0 [],[(.obj (.box [(.pv (.int .i64 l.k)),(.pv (.sl 2 false (List.map enc l.t)))])),(.obj (.box [(.pv (.int .i64 0))])),(.obj (.box [(.pv (.int .i64 0))])),(.obj (.box [(.pv (.int .i64 (if (!s||Yn y0.1 z)=true then y0.1 else z)))])),(.obj (.box [(.pv (.bool true))])),(.obj (.box [(.fn 194 [] [(.ptr 4 0),(.ptr 6 0),(.ptr 3 0)])])),(.obj (.box [(.pv (.fn 128))]))]⟩ (fun x S'=>Jb a0c E 7 (fun st=>G st.heap) Uz 99 x S'))))):Zz a0c E 7 (fun st=>G st.heap) (.inl Uz) [.seq (.ext 99 [])] ⟨ZM 49 0 [(6,.ptr 0 0),(8,.ptr 1 0),(9,.ptr 2 0),(11,.ptr 3 0),(12,.ptr 4 0),(13,.ptr 5 0),(15,.pv (enc vs)),(32,.pv (enc p)),(33,.pv (enc vs))],[.obj (.box [.pv (.int .i64 l.k),.pv (enc l.t)]),.obj (.box [.pv (.int .i64 0)]),.obj (.box [.pv (.int .i64 0)]),.obj (.box [.pv (.int .i64 z)]),.obj (.box [.pv (.bool s)]),.obj (.box [.fn 194 [] [.ptr 4 0,.ptr 6 0,.ptr 3 0]]),.obj (.box [.pv (.fn 128)])]⟩:=Zz.mh (.req (.abs (Int×Int) (fun YY=>AV.pv (enc YY)) (.lit (.ask (.nil) (.lit (.keep (.nil))))))) h (by kernel_rfl)
def Qw:IC:=Uz
def a0t:ZC:=Xn [(73,.pure (preT (fun x:Lin×Unit=>ZW x.1)) (Zg (fun x:Lin×Unit=>Zd x.1))),(174,.own KX Ht),(116,.own Ud QS),(117,.own Y3 WF),(38,.pure (preT (fun x:Lin×List Coef×Unit=>ZW x.1&&decide (x.2.1.length<=9223372036854775807))) (Zg (fun x:Lin×List Coef×Unit=>Yo x.1 x.2.1))),(194,.own (QB 128) (KT Yn))]
theorem b4y{G:Zt->Prop}(E:Yx)(l:Lin)(p:List Int)(vs:List Coef)(z:Int)(s:Bool)(h:(Go.Pl.preT (fun(x:Lin×List Coef×Unit)=>ZW x.1&&decide (List.length x.2.1<=9223372036854775807)) [(.agg [(.int .i64 l.k),(.sl 2 false (List.map enc l.t))]),(.sl 2 false (List.map enc vs))])=true∧(∃ y0:Int×Int,AV.pv (Zg (fun(x:Lin×List Coef×Unit)=>Yo x.1 x.2.1) [(.agg [(.int .i64 l.k),(.sl 2 false (List.map enc l.t))]),(.sl 2 false (List.map enc vs))])=AV.pv (enc y0)∧(if (y0.2 != 0)=true then G ([(.obj (.box [(.pv (.int .i64 l.k)),(.pv (.sl 2 false (List.map enc l.t)))])),(.obj (.box [(.pv (.int .i64 0))])),(.obj (.box [(.pv (.int .i64 y0.2))])),(.obj (.box [(.pv (.int .i64 z))])),(.obj (.box [(.pv (.bool s))])),(.obj (.box [(.fn 194 [] [(.ptr 4 0),(.ptr 6 0),(.ptr 3 0)])])),(.obj (.box [(.pv (.fn 128))])),.fresh,.fresh])else(E 99 ⟨ZM 49 0 [],[(.obj (.box [(.pv (.int .i64 l.k)),(.pv (.sl 2 false (List.map enc l.t)))])),(.obj (.box [(.pv (.int .i64 0))])),(.obj (.box [(.pv (.int .i64 0))])),(.obj (.box [(.pv (.int .i64 (if (!s||Yn y0.1 z)=true then y0.1 else z)))])),(.obj (.box [(.pv (.bool true))])),(.obj (.box [(.fn 194 [] [(.ptr 4 0),(.ptr 6 0),(.ptr 3 0)])])),(.obj (.box [(.pv (.fn 128))]))]⟩ (fun x S'=>Jb a0t E 7 (fun st=>G st.heap) Qw 99 x S'))))):Zz a0t E 7 (fun st=>G st.heap) (.inl Qw) [.seq (.ext 99 [])] ⟨ZM 49 0 [(6,.ptr 0 0),(8,.ptr 1 0),(9,.ptr 2 0),(11,.ptr 3 0),(12,.ptr 4 0),(13,.ptr 5 0),(15,.pv (enc vs)),(32,.pv (enc p)),(33,.pv (enc vs))],[.obj (.box [.pv (.int .i64 l.k),.pv (enc l.t)]),.obj (.box [.pv (.int .i64 0)]),.obj (.box [.pv (.int .i64 0)]),.obj (.box [.pv (.int .i64 z)]),.obj (.box [.pv (.bool s)]),.obj (.box [.fn 194 [] [.ptr 4 0,.ptr 6 0,.ptr 3 0]]),.obj (.box [.pv (.fn 128)])]⟩:=Zz.mh (.req (.abs (Int×Int) (fun YY=>AV.pv (enc YY)) (.lit (.ask (.nil) (.lit (.keep (.nil))))))) h (by kernel_rfl)
end Go.Pl

namespace Go.Pl
open Go.RowKit
open Enc (enc dec is)
open EncL (encL decL isL)
theorem Tt{s:Str}: ∀ {vs:List Str} {p:List Int},s∈vs->p.length=vs.length-> ∃ x∈p,Q3 (Zn vs p) s=some x
 | [],_,h,_=>by cases h
 | v::vs,[],_,h=>by simp at h
 | v::vs,x::p,h,hl=>by
  by_cases e:v=s
  ·refine⟨x,by simp,?_⟩
   show((List.find? (fun t:Coef=>decide (t.v=s)) (⟨v,x⟩::Zn vs p)).map (·.c))=some x
   rw[List.find?_cons_of_pos (by simpa using e)];rfl
  ·obtain⟨y,hy,h2⟩:=Tt (s:=s) (vs:=vs) (p:=p) ((List.mem_cons.1 h).resolve_left fun h=>e h.symm) (by simpa using hl)
   refine⟨y,by simp[hy],?_⟩
   show((List.find? (fun t:Coef=>decide (t.v=s)) (⟨v,x⟩::Zn vs p)).map (·.c))=some y
   rw[List.find?_cons_of_neg (by simpa using e)]
   exact h2
theorem Ju{vs:List Str}{p:List Int}(hl:p.length=vs.length)(hx : ∀ x∈p,-1000000000<=x∧x<=1000000000): ∀ (ts:List Coef) (n:Int),(∀ t∈ts,t.v∈vs)->(KC (Zn vs p) n ts).2=0
 | [],n,_=>rfl
 | t::r,n,h=>by
  obtain⟨x,h1,h2⟩:=Tt (h t (by simp)) hl
  have:=hx x h1
  rw[KC,h2]
  show(if x < -1000000000 then((0:Int),(2:Int))else if x>1000000000 then(0,2)else _).2=0
  rw[if_neg (by omega),if_neg (by omega)]
  exact Ju hl hx r _ fun u hu=>h u (by simp[hu])
theorem c1p{b:BoxT}{fs:List Fact}{p:List Int}(hv:Xo b=true)(h:p∈Yb b fs):p.length=b.v.length∧(∀ x∈p,0<=x∧x<=b.m)∧ ∀ x∈p,-1<=x∧x<=20000:=by
 unfold Yb at h
 rw[Vv hv]at h
 have h:=(List.mem_filter.1 h).1
 obtain⟨h1,h2⟩:=Kl.1 h
 have:0<=b.m:=(UD.1 hv).2.2.2.1
 exact⟨h1,fun x hx=>by have:=h2 x hx;omega,a2v hv p h⟩
theorem Fb{b:BoxT}{fs:List Fact}{l:Lin}{p:List Int}(hr:Zp b fs (Zd l) (Zm l)=0)(h:p∈Yb b fs):(Yo l (Zn b.v p)).2=0:=by
 obtain⟨hv,_,hl,hin⟩:=WZ _ _ _ _ hr
 obtain⟨h1,_,h3⟩:=c1p hv h
 rw[K9,Bool.and_eq_true]at hin
 unfold Yo
 rw[if_pos hl]
 refine Ju h1 (fun x hx=>by have:=h3 x hx;omega) _ _ fun t ht=> ?_
 have:=List.all_eq_true.1 hin.1 t.v (by unfold Zm;exact List.mem_map.2 ⟨t,ht,rfl⟩)
 simpa using this
theorem a4b(f:Int->Int->Bool)(l:List Int)(x:Int):DF f (l++[x])=some (match DF f l with|none=>x|some z=>if f x z then x else z):=by
 cases l with
 | nil=>rfl
 | cons y l=>simp[DF,List.foldl_append]
def Vk(f:Int->Int->Bool)(l:List Int):Int×Bool:=match DF f l with|none=>(0,false)|some z=>(z,true)
theorem TE(f:Int->Int->Bool)(l:List Int)(x:Int):Vk f (l++[x])=(if !(Vk f l).2||f x (Vk f l).1 then x else(Vk f l).1,true):=by
 unfold Vk
 rw[a4b]
 cases DF f l <;> rfl
theorem c3y(l:Lin):FY (PV.agg [enc l.k,enc l.t])=l:=Enc.dec_enc l
theorem a2r(b:BoxT):OG (PV.agg [enc b.v,enc b.m])=b:=Enc.dec_enc b
theorem Mc(fs:List Fact):CV (enc fs)=fs:=Enc.dec_enc fs
def Lh(l:Lin)(z:Int)(s:Bool):Zt:=[.obj (.box [.pv (.int .i64 l.k),.pv (enc l.t)]),.obj (.box [.pv (.int .i64 0)]),.obj (.box [.pv (.int .i64 0)]),.obj (.box [.pv (.int .i64 z)]),.obj (.box [.pv (.bool s)]),.obj (.box [.fn 194 [] [.ptr 4 0,.ptr 6 0,.ptr 3 0]]),.obj (.box [.pv (.fn 128)])]
theorem b1n: ∀ args os,QB 128 args os=true->Zc FR os.length (Zj os.length Pt fun r=>r=KT Yn args os) NG [] (YH b7j args os):=by
 intro args os h
 unfold QB at h
 split at h
 ·rename_i n s g z
  have h:g=128:=by simpa using h
  subst h
  refine c4g n s z (Vj (fun h=> ?_) fun h=>Ze (n,z,()) rfl (Wn (fun h2=> ?_) fun h2=> ?_))
  ·subst h;rfl
  ·subst h
   have h2:Yn n z=true:=h2
   show _=(AV.tup [],[AObj.box [.pv (.bool true)],.box [.pv (.fn 128)],.box [.pv (.int .i64 (if !true||Yn n z then n else z))]],[])
   rw[h2];rfl
  ·subst h
   have h2:Yn n z=false:=h2
   show _=(AV.tup [],[AObj.box [.pv (.bool true)],.box [.pv (.fn 128)],.box [.pv (.int .i64 (if !true||Yn n z then n else z))]],[])
   rw[h2];rfl
 ·cases h
def Jv:Yx:=fun n st q=>n=0∧Gv VG 0 (.t 31) 177 [32,33] [(15,33)] Uz Q4 UM DZ st q
theorem Ma(b:BoxT)(fs:List Fact)(l:Lin)(hl:ZW l=true)(hb:b.v.length<=1000)(hr:Zp b fs (Zd l) (Zm l)=0)(k:Nat)(p:List Int)(hp:(Yb b fs)[k]? = some p):
  Zz VG (fun n S' _=>n=99∧S'.heap=Lh l (Vk Yn ((YE b fs l).take (k+1))).1 (Vk Yn ((YE b fs l).take (k+1))).2) 7 (fun st=>False) (.inl Uz) [.seq (.ext 99 [])]
   ⟨ZM 49 0 [(6,.ptr 0 0),(8,.ptr 1 0),(9,.ptr 2 0),(11,.ptr 3 0),(12,.ptr 4 0),(13,.ptr 5 0),(15,.pv (enc (Zn b.v p))),(32,.pv (enc p)),(33,.pv (enc (Zn b.v p)))],Lh l (Vk Yn ((YE b fs l).take k)).1 (Vk Yn ((YE b fs l).take k)).2⟩:=by
 have hk:=(List.getElem?_eq_some_iff.1 hp).1
 have hkp:=(List.getElem?_eq_some_iff.1 hp).2
 have hm:p∈Yb b fs:=List.mem_of_getElem? hp
 have hkv:k<(YE b fs l).length:=by unfold YE;rw[List.length_map];exact hk
 have hgv:(YE b fs l)[k]=(Yo l (Zn b.v p)).1:=by
  have:(YE b fs l)[k]? = some (Yo l (Zn b.v p)).1:=by unfold YE;rw[List.getElem?_map,hp];rfl
  exact(List.getElem?_eq_some_iff.1 this).2
 have ht:(YE b fs l).take (k+1)=(YE b fs l).take k++[(Yo l (Zn b.v p)).1]:=by rw[List.take_succ_eq_append_getElem hkv,hgv]
 rw[ht,TE]
 refine b3j (G:=fun _=>False) _ l p (Zn b.v p) _ _ ⟨Zh (l,Zn b.v p,()) rfl ?_,Ze (l,Zn b.v p,()) rfl ?_⟩
 ·show(ZW l&&decide ((Zn b.v p).length<=9223372036854775807))=true
  rw[hl,decide_eq_true (by unfold Zn;rw[List.length_zipWith];omega)];rfl
 ·refine Z8 (by rw[Fb hr hm];simp) ⟨rfl,rfl⟩
theorem a5g: ∀ x:BoxT×List Fact×Lin×FnV 128×Unit,(Uu x.1 x.2.1 x.2.2.1&&x.2.2.1.t.isEmpty)=true->Q0 VG Jv 0 (Za Qv (Zl (UH Yn x.1 x.2.1 x.2.2.1))) UF [] (YD b5a (encL x)):=by
 rintro⟨b,fs,l,⟨⟩,⟨⟩⟩ hp
 simp only[Uu,Bool.and_eq_true,decide_eq_true_eq]at hp
 obtain⟨⟨⟨⟨⟨⟨h1,h2⟩,h3⟩,h4⟩,h5⟩,h6⟩,h7⟩:=hp
 have key:Zp b fs (Zd l) (Zm l)=0->Jv 0 ⟨ZM 49 0 [(6,(.ptr 0 0)),(8,(.ptr 1 0)),(9,(.ptr 2 0)),(11,(.ptr 3 0)),(12,(.ptr 4 0)),(13,(.ptr 5 0)),(15,.undef),(16,.undef),(17,.undef),(31,(.fn 177 [] [(.ptr 6 0),(.ptr 7 0)])),(33,.undef),(34,.undef),(35,.undef),(36,.undef),(37,.undef),(38,.undef),(39,.undef),(40,.undef),(41,.undef),(42,.undef),(43,.undef),(44,.undef)],[(.obj (.box [(.pv (.int .i64 (Lin.k l))),(.pv (.sl 2 false (List.map enc (Lin.t l))))])),(.obj (.box [(.pv (.int .i64 0))])),(.obj (.box [(.pv (.int .i64 0))])),(.obj (.box [(.pv (.int .i64 0))])),(.obj (.box [(.pv (.bool false))])),(.obj (.box [(.fn 194 [] [(.ptr 4 0),(.ptr 8 0),(.ptr 3 0)])])),(.obj (.box [(.pv (.sl 1 false (List.map enc (BoxT.v b)))),(.pv (.int .i64 (BoxT.m b)))])),(.obj (.box [(.pv (.sl 3 false (List.map enc fs)))])),(.obj (.box [(.pv (.fn 128))]))]⟩ (fun x S'=>Jb VG Jv 0 (Za Qv (Zl (UH Yn b fs l))) UF 0 x S'):=by
  intro h0
  obtain⟨hv,_⟩:=WZ _ _ _ _ h0
  refine⟨rfl,[6,7],[[enc b.v,.int .i64 b.m],[enc fs]],[6,8,9,11,12,13],[],⟨ZM 49 0 [(6,.ptr 0 0),(8,.ptr 1 0),(9,.ptr 2 0),(11,.ptr 3 0),(12,.ptr 4 0),(13,.ptr 5 0)],Lh l 0 false⟩,(fun k σ=>σ=Lh l (Vk Yn ((YE b fs l).take k)).1 (Vk Yn ((YE b fs l).take k)).2),fun _=>False,rfl,by simp,rfl,?_,by kernel_rfl,AX hv h2 h4,rfl,?_,?_,fun σ h=>h.elim⟩
  ·intro j l' ps hl hps
   match j with
   | 0=>cases hl;cases hps;rfl
   | 1=>cases hl;cases hps;rfl
   | j+2=>simp at hl
  ·intro k x σ hx hI
   rw[SV,List.getElem?_map]at hx
   obtain⟨p,hp,rfl⟩:=Option.map_eq_some_iff.1 hx
   subst hI
   have e:SK [(15,33)] (Cb [32,33] ((Q4 (p,Zn b.v p)).map .pv) (ZM 49 0 [(6,.ptr 0 0),(8,.ptr 1 0),(9,.ptr 2 0),(11,.ptr 3 0),(12,.ptr 4 0),(13,.ptr 5 0)]))=ZM 49 0 [(6,.ptr 0 0),(8,.ptr 1 0),(9,.ptr 2 0),(11,.ptr 3 0),(12,.ptr 4 0),(13,.ptr 5 0),(15,.pv (enc (Zn b.v p))),(32,.pv (enc p)),(33,.pv (enc (Zn b.v p)))]:=by kernel_rfl
   have:=Ma b fs l h5 h4 h0 k p hp
   rw[<- e]at this
   exact this
  ·intro σ hI
   rw[SV,List.length_map]at hI
   subst hI
   have hall:(YE b fs l).take (Yb b fs).length=YE b fs l:=List.take_of_length_le (by unfold YE;rw[List.length_map];exact Nat.le_refl _)
   rw[hall]
   refine b5n (G:=Zl (UH Yn b fs l)) Jv b fs l _ _ ?_
   unfold UH Vk
   rw[if_pos h0]
   cases DF Yn (YE b fs l)with
   | none=>exact Ya rfl (ZV (x:=((0:Int),(9:Int))) rfl)
   | some z=>exact Z8 (by simp) (ZV (x:=((z:Int),(0:Int))) rfl)
 have hbad:Zp b fs (Zd l) (Zm l)≠0->Zl (UH Yn b fs l) (.tup [.int .i64 0,.int .i64 (Zp b fs (Zd l) (Zm l))]):=by
  intro h0
  unfold UH
  rw[if_neg h0]
  exact ZV (x:=((0:Int),Zp b fs (Zd l) (Zm l))) rfl
 have ht:l.t=[]:=List.isEmpty_iff.1 h7
 have hn:Zm l=[]:=by unfold Zm;rw[ht];rfl
 refine b7k Jv b fs l ⟨Zh (l,()) rfl h5,Ze (l,()) rfl ⟨?_,Zh (b,fs,Zd l,⟨⟩,()) rfl (by simp[h1,h2,h3]),Ze (b,fs,Zd l,⟨⟩,()) rfl ?_⟩⟩
 ·show(Wz Lin (enc l)&&(dec (enc l:PV):Lin).t.isEmpty)=true
  rw[ZQ,Enc.dec_enc,ht];rfl
 ·show if (Zp b fs (Zd l) [] != 0)=true then _ else _
  rw[hn]at key hbad
  by_cases h0:Zp b fs (Zd l) []=0
  ·rw[if_neg (by simp[h0])]
   refine⟨?_,key h0⟩
   show(Wz (List Str) (enc b.v)&&Wz (List Fact) (enc fs))=true
   rw[ZQ,ZQ];rfl
  ·rw[if_pos (by simpa using h0)]
   exact hbad h0
def JC:Yx:=fun n st q=>n=0∧Gv VK 0 (.t 31) 177 [32,33] [(15,33)] Qw Q4 UM DZ st q
theorem Lr(b:BoxT)(fs:List Fact)(l:Lin)(hl:ZW l=true)(hb:b.v.length<=1000)(hr:Zp b fs (Zd l) (Zm l)=0)(k:Nat)(p:List Int)(hp:(Yb b fs)[k]? = some p):
  Zz VK (fun n S' _=>n=99∧S'.heap=Lh l (Vk Yn ((YE b fs l).take (k+1))).1 (Vk Yn ((YE b fs l).take (k+1))).2) 7 (fun st=>False) (.inl Qw) [.seq (.ext 99 [])]
   ⟨ZM 49 0 [(6,.ptr 0 0),(8,.ptr 1 0),(9,.ptr 2 0),(11,.ptr 3 0),(12,.ptr 4 0),(13,.ptr 5 0),(15,.pv (enc (Zn b.v p))),(32,.pv (enc p)),(33,.pv (enc (Zn b.v p)))],Lh l (Vk Yn ((YE b fs l).take k)).1 (Vk Yn ((YE b fs l).take k)).2⟩:=by
 have hk:=(List.getElem?_eq_some_iff.1 hp).1
 have hkp:=(List.getElem?_eq_some_iff.1 hp).2
 have hm:p∈Yb b fs:=List.mem_of_getElem? hp
 have hkv:k<(YE b fs l).length:=by unfold YE;rw[List.length_map];exact hk
 have hgv:(YE b fs l)[k]=(Yo l (Zn b.v p)).1:=by
  have:(YE b fs l)[k]? = some (Yo l (Zn b.v p)).1:=by unfold YE;rw[List.getElem?_map,hp];rfl
  exact(List.getElem?_eq_some_iff.1 this).2
 have ht:(YE b fs l).take (k+1)=(YE b fs l).take k++[(Yo l (Zn b.v p)).1]:=by rw[List.take_succ_eq_append_getElem hkv,hgv]
 rw[ht,TE]
 refine b4y (G:=fun _=>False) _ l p (Zn b.v p) _ _ ⟨Zh (l,Zn b.v p,()) rfl ?_,Ze (l,Zn b.v p,()) rfl ?_⟩
 ·show(ZW l&&decide ((Zn b.v p).length<=9223372036854775807))=true
  rw[hl,decide_eq_true (by unfold Zn;rw[List.length_zipWith];omega)];rfl
 ·refine Z8 (by rw[Fb hr hm];simp) ⟨rfl,rfl⟩
theorem a3m: ∀ x:BoxT×List Fact×Lin×FnV 128×Unit,(Uu x.1 x.2.1 x.2.2.1&& !x.2.2.1.t.isEmpty)=true->Q0 VK JC 0 (Za Qu (Zl (UH Yn x.1 x.2.1 x.2.2.1))) Qh [] (YD b4j (encL x)):=by
 rintro⟨b,fs,l,⟨⟩,⟨⟩⟩ hp
 simp only[Uu,Bool.and_eq_true,decide_eq_true_eq]at hp
 obtain⟨⟨⟨⟨⟨⟨h1,h2⟩,h3⟩,h4⟩,h5⟩,h6⟩,h7⟩:=hp
 have key:Zp b fs (Zd l) (Zm l)=0->JC 0 ⟨ZM 49 0 [(6,(.ptr 0 0)),(8,(.ptr 1 0)),(9,(.ptr 2 0)),(11,(.ptr 3 0)),(12,(.ptr 4 0)),(13,(.ptr 5 0)),(15,.undef),(16,.undef),(17,.undef),(31,(.fn 177 [] [(.ptr 6 0),(.ptr 7 0)])),(33,.undef),(34,.undef),(35,.undef),(36,.undef),(37,.undef),(38,.undef),(39,.undef),(40,.undef),(41,.undef),(42,.undef),(43,.undef),(44,.undef)],[(.obj (.box [(.pv (.int .i64 (Lin.k l))),(.pv (.sl 2 false (List.map enc (Lin.t l))))])),(.obj (.box [(.pv (.int .i64 0))])),(.obj (.box [(.pv (.int .i64 0))])),(.obj (.box [(.pv (.int .i64 0))])),(.obj (.box [(.pv (.bool false))])),(.obj (.box [(.fn 194 [] [(.ptr 4 0),(.ptr 8 0),(.ptr 3 0)])])),(.obj (.box [(.pv (.sl 1 false (List.map enc (BoxT.v b)))),(.pv (.int .i64 (BoxT.m b)))])),(.obj (.box [(.pv (.sl 3 false (List.map enc fs)))])),(.obj (.box [(.pv (.fn 128))]))]⟩ (fun x S'=>Jb VK JC 0 (Za Qu (Zl (UH Yn b fs l))) Qh 0 x S'):=by
  intro h0
  obtain⟨hv,_⟩:=WZ _ _ _ _ h0
  refine⟨rfl,[6,7],[[enc b.v,.int .i64 b.m],[enc fs]],[6,8,9,11,12,13],[],⟨ZM 49 0 [(6,.ptr 0 0),(8,.ptr 1 0),(9,.ptr 2 0),(11,.ptr 3 0),(12,.ptr 4 0),(13,.ptr 5 0)],Lh l 0 false⟩,(fun k σ=>σ=Lh l (Vk Yn ((YE b fs l).take k)).1 (Vk Yn ((YE b fs l).take k)).2),fun _=>False,rfl,by simp,rfl,?_,by kernel_rfl,AX hv h2 h4,rfl,?_,?_,fun σ h=>h.elim⟩
  ·intro j l' ps hl hps
   match j with
   | 0=>cases hl;cases hps;rfl
   | 1=>cases hl;cases hps;rfl
   | j+2=>simp at hl
  ·intro k x σ hx hI
   rw[SV,List.getElem?_map]at hx
   obtain⟨p,hp,rfl⟩:=Option.map_eq_some_iff.1 hx
   subst hI
   have e:SK [(15,33)] (Cb [32,33] ((Q4 (p,Zn b.v p)).map .pv) (ZM 49 0 [(6,.ptr 0 0),(8,.ptr 1 0),(9,.ptr 2 0),(11,.ptr 3 0),(12,.ptr 4 0),(13,.ptr 5 0)]))=ZM 49 0 [(6,.ptr 0 0),(8,.ptr 1 0),(9,.ptr 2 0),(11,.ptr 3 0),(12,.ptr 4 0),(13,.ptr 5 0),(15,.pv (enc (Zn b.v p))),(32,.pv (enc p)),(33,.pv (enc (Zn b.v p)))]:=by kernel_rfl
   have:=Lr b fs l h5 h4 h0 k p hp
   rw[<- e]at this
   exact this
  ·intro σ hI
   rw[SV,List.length_map]at hI
   subst hI
   have hall:(YE b fs l).take (Yb b fs).length=YE b fs l:=List.take_of_length_le (by unfold YE;rw[List.length_map];exact Nat.le_refl _)
   rw[hall]
   refine a9f (G:=Zl (UH Yn b fs l)) JC b fs l _ _ ?_
   unfold UH Vk
   rw[if_pos h0]
   cases DF Yn (YE b fs l)with
   | none=>exact Ya rfl (ZV (x:=((0:Int),(9:Int))) rfl)
   | some z=>exact Z8 (by simp) (ZV (x:=((z:Int),(0:Int))) rfl)
 have hbad:Zp b fs (Zd l) (Zm l)≠0->Zl (UH Yn b fs l) (.tup [.int .i64 0,.int .i64 (Zp b fs (Zd l) (Zm l))]):=by
  intro h0
  unfold UH
  rw[if_neg h0]
  exact ZV (x:=((0:Int),Zp b fs (Zd l) (Zm l))) rfl
 have hne:l.t≠[]:=by intro h;rw[h]at h7;simp at h7
 refine c2a JC b fs l ⟨Zh (l,()) rfl h5,Ze (l,()) rfl ⟨?_,?_⟩⟩
 ·show(Wz Lin (enc l)&& !(dec (enc l:PV):Lin).t.isEmpty&&decide ((dec (enc l:PV):Lin).t.length<=1000000))=true
  rw[ZQ,Enc.dec_enc,decide_eq_true (by omega)]
  simpa using hne
 ·rw[c3y,a2r,Mc,Uy]
  have hnl:(Zm l).length=l.t.length:=by unfold Zm;rw[List.length_map]
  refine⟨?_,?_⟩
  ·show(Wz BoxT (enc b)&&Wz (List Fact) (enc fs)&&9==9&&Te (Zm l).length (Zm l).length ((Zm l).map enc)&&decide ((Zm l).length<=1000)&& !((Zm l).map (enc:Str->PV)).isEmpty&&ZP (dec (enc b:PV))&&Zo (dec (enc fs:PV))&&decide ((dec (enc fs:PV):List Fact).length<=100)&&decide (((Zm l).map (enc:Str->PV)).length<=1000))=true
   rw[List.length_map,ZQ,ZQ,Enc.dec_enc,Enc.dec_enc,Cr rfl (by omega),h1,h2,decide_eq_true h3,decide_eq_true (show(Zm l).length<=1000 by omega)]
   have:((Zm l).map (enc:Str->PV)).isEmpty=false:=by
    rw[List.isEmpty_eq_false_iff]
    intro h
    have:=congrArg List.length h
    rw[List.length_map,hnl]at this
    exact hne (List.length_eq_zero_iff.1 this)
   rw[this];simp
  ·show if (Zp b fs (Zd l) (Zm l) != 0)=true then _ else _
   by_cases h0:Zp b fs (Zd l) (Zm l)=0
   ·rw[if_neg (by simp[h0])]
    refine⟨?_,key h0⟩
    show(Wz (List Str) (enc b.v)&&Wz (List Fact) (enc fs))=true
    rw[ZQ,ZQ];rfl
   ·rw[if_pos (by simpa using h0)]
    exact hbad h0
theorem b0s: ∀ x:BoxT×List Fact×Lin×Unit,Uu x.1 x.2.1 x.2.2.1=true->Zc EF 0 (Za RN (Zl (UH Yn x.1 x.2.1 x.2.2.1))) P9 [] (YD b7y (encL x)):=by
 rintro⟨b,fs,l,⟨⟩⟩ hp
 exact c4c b fs l ⟨Zh (b,fs,l,⟨()⟩,()) rfl hp,Ze (b,fs,l,⟨()⟩,()) rfl (ZV (x:=UH Yn b fs l) rfl)⟩
theorem c0m: ∀ x:Int×Int×Unit,(fun _:Int×Int×Unit=>true) x=true->Zc a9y 0 (Za EC (Zl (decide (x.1<x.2.1)))) O9 [] (YD c7a (encL x)):=by
 rintro⟨m,n,⟨⟩⟩ _
 exact c9a m n (ZF rfl)
end Go.Pl

namespace Go.Pl
open Go.RowKit
open Enc (enc dec is)
open EncL (encL decL isL)
set_option maxRecDepth 100000
def R8:IC:=(.seq (.reg [⟨(some 2),(.mv (.c (.bool false))),0,none⟩] none) (.seq (.reg [⟨(some 3),(.mv (.t 0)),0,none⟩,⟨(some 4),(.call (.c (.fn 119)) [(.t 3)]),0,none⟩,⟨(some 5),(.un .not (.t 4)),2,none⟩,⟨(some 2),(.mv (.t 5)),2,none⟩] none) .ret))
def PP:List IRes:=[(.tmp 2)]
abbrev b7x:Nat:=6
def ES:ZC:=Xn [(119,.pure (preT (fun x:Str×Unit=>decide (x.1.s.length<=281474976710656))) (Zg (fun x:Str×Unit=>Zw x.1)))]
theorem c7f{G:PV->Prop}(s:List UInt8)(h:(Go.Pl.preT (fun(x:Str×Unit)=>decide (List.length (Str.s x.1)<=281474976710656)) [(.str s)])=true∧(∃ y0:Bool,AV.pv (Zg (fun(x:Str×Unit)=>Zw x.1) [(.str s)])=AV.pv (enc y0)∧(G ((.bool !y0))))):Zc ES 0 (Za PP G) R8 [] (YD 6 [.str s]):=Zc.tp (.req (.abs (Bool) (fun YY=>AV.pv (enc YY)) (.nil))) h (by kernel_rfl)
def Jr:IC:=Ux
def J2:List IRes:=[(.tmp 4)]
abbrev c6s:Nat:=19
def BK:ZC:=Xn [(185,.pure (preT (fun x:Str×Unit=>decide (x.1.s.length<=281474976710656))) (Zg (fun x:Str×Unit=> !(Zw x.1))))]
theorem c8i{G:PV->Prop}(l:List Str)(h:At BK 0 (Za J2 G) Jr 0 19 [(0,(.pv (.sl 1 false (List.map enc l)))),(1,(.pv (.fn 185))),(7,(.pv (.int .i64 (↑(List.length (List.map enc l)):Int)))),(8,(.pv (.int .i64 0)))] []):Zc BK 0 (Za J2 G) Jr [] (YD 19 [enc l,.fn 185]):=Zc.tp (.nil) h (by kernel_rfl)
theorem b1o{G:PV->Prop}(l:List Str)(i:Int)(h:if (decide (i<(↑(List.length l):Int)))=true then(decide (0<=i)&&decide (Int.toNat i<List.length (List.map enc l))&&Enc.sz Str==1)=true∧(∃ y0:Str,AV.pv (PV.rptr (PV.cells (List.getD (List.map enc l) (Int.toNat i) default)))=AV.pv (PV.rptr (PV.cells ((enc) y0)))∧((Go.Pl.preT (fun(x:Str×Unit)=>decide (List.length (Str.s x.1)<=281474976710656)) [(.str (PV.asStr (List.getD (PV.cells (enc y0)) 0 default)))])=true∧(∃ y1:Bool,AV.pv (Zg (fun(x:Str×Unit)=> !Zw x.1) [(.str (PV.asStr (List.getD (PV.cells (enc y0)) 0 default)))])=AV.pv (enc y1)∧(if (y1)=true then G ((.int .i64 i))else(At BK 0 (Za J2 G) Jr 0 19 [(0,(.pv (.sl 1 false (List.map enc l)))),(1,(.pv (.fn 185))),(7,(.pv (.int .i64 (↑(List.length l):Int)))),(8,(.pv (.int .i64 (IntKind.wrap IntKind.i64 (i+1)))))] [])))))else(G ((.int .i64 (-1))))):At BK 0 (Za J2 G) Jr 0 19 [(0,.pv (enc l)),(1,.pv (.fn 185)),(7,.pv (.int .i64 l.length)),(8,.pv (.int .i64 i))] []:=At.tp (.lit (.ask (.req (.abs (Str) (fun YY=>AV.pv (PV.rptr (PV.cells ((enc) YY)))) (.lit (.req (.abs (Bool) (fun YY=>AV.pv (enc YY)) (.ask (.nil) (.lit (.nil)))))))) (.nil))) h (by kernel_rfl)
def Ep:IC:=Ac
def OL:List IRes:=[(.tmp 4)]
abbrev c5r:Nat:=9
def b2j:ZC:=Xn [(238,.pure (preT (fun x:List Str×FnV 185×Unit=>XM x.1)) (Zg (fun x:List Str×FnV 185×Unit=>Zx (fun s:Str=> !(Zw s)) x.1)))]
theorem c8a{G:PV->Prop}(l:List Str)(h:(Go.Pl.preT (fun(x:List Str×FnV 185×Unit)=>XM x.1) [(.sl 1 false (List.map enc l)),(.fn 185)])=true∧(∃ y0:Int,AV.pv (Zg (fun(x:List Str×FnV 185×Unit)=>Zx (fun(s:Str)=> !Zw s) x.1) [(.sl 1 false (List.map enc l)),(.fn 185)])=AV.pv (enc y0)∧(G ((.bool (decide (y0 ≥ 0))))))):Zc b2j 0 (Za OL G) Ep [] (YD 9 [enc l,.fn 185]):=Zc.tp (.req (.abs (Int) (fun YY=>AV.pv (enc YY)) (.lit (.nil)))) h (by kernel_rfl)
def Nb:IC:=(.seq (.reg [⟨(some 2),(.mv (.c (.bool false))),0,none⟩] none) (.seq (.reg [⟨(some 3),(.mv (.t 0)),0,none⟩,⟨(some 4),(.mv (.t 0)),0,none⟩,⟨(some 5),(.bin .num .neq (.t 3) (.t 4)),0,none⟩,⟨(some 2),(.mv (.t 5)),0,none⟩] none) .ret))
def PH:List IRes:=[(.tmp 2)]
abbrev b7o:Nat:=6
def Ef:ZC:=Xn []
theorem c5j{G:PV->Prop}(s:List UInt8)(h:G ((.bool (!s==s)))):Zc Ef 0 (Za PH G) Nb [] (YD 6 [.str s]):=Zc.tp (.lit (.nil)) h (by kernel_rfl)
def A8:IC:=(.seq (.reg [⟨(some 4),(.mv (.c (.bool false))),0,none⟩] none) (.seq (.reg [⟨(some 5),(.mv (.t 0)),0,none⟩,⟨(some 6),(.call (.c (.fn 283)) [(.t 5)]),0,none⟩,⟨(some 7),(.mv (.t 6)),2,none⟩,⟨(some 8),(.mv (.t 1)),2,(some (7,true))⟩,⟨(some 9),(.call (.c (.fn 283)) [(.t 8)]),2,(some (7,true))⟩,⟨(some 10),(.un .not (.t 9)),4,(some (7,true))⟩,⟨(some 11),(.pick (.t 7) (.t 10) (.c (.bool false))),4,none⟩,⟨(some 12),(.mv (.t 11)),4,none⟩,⟨(some 13),(.mv (.t 0)),4,(some (12,false))⟩,⟨(some 14),(.mv (.t 1)),4,(some (12,false))⟩,⟨(some 15),(.bin .num .lss (.t 13) (.t 14)),4,(some (12,false))⟩,⟨(some 16),(.pick (.t 12) (.c (.bool true)) (.t 15)),4,none⟩,⟨(some 4),(.mv (.t 16)),4,none⟩] none) .ret))
def CU:List IRes:=[(.tmp 4)]
abbrev b0g:Nat:=17
def RO:ZC:=Xn [(283,.pure (preT (fun _:Str×Unit=>true)) (Zg (fun _:Str×Unit=>false)))]
theorem b9j{G:PV->Prop}(s t:List UInt8)(h : ∃ y0:Bool,AV.pv (Zg (fun(x:Str×Unit)=>false) [(.str s)])=AV.pv (enc y0)∧(if (y0)=true then ∃ y1:Bool,AV.pv (Zg (fun(x:Str×Unit)=>false) [(.str t)])=AV.pv (enc y1)∧(if (!y1)=true then G ((.bool true))else(G ((.bool (Op.bytesLess s t)))))else(G ((.bool (Op.bytesLess s t)))))):Zc RO 0 (Za CU G) A8 [] (YD 17 [.str s,.str t]):=Zc.tp (.lit (.abs (Bool) (fun YY=>AV.pv (enc YY)) (.ask (.lit (.lit (.abs (Bool) (fun YY=>AV.pv (enc YY)) (.lit (.lit (.ask (.lit (.lit (.lit (.nil)))) (.lit (.lit (.lit (.lit (.nil))))))))))) (.lit (.lit (.lit (.lit (.lit (.lit (.lit (.lit (.nil)))))))))))) h (by kernel_rfl)
def R7:IC:=(.seq (.reg [⟨(some 4),(.mv (.c (.int .i64 0))),0,none⟩] none) (.seq (.reg [⟨(some 7),(.mv (.t 0)),0,none⟩,⟨(some 8),(.call (.c (.fn 283)) [(.t 7)]),0,none⟩,⟨(some 5),(.mv (.t 8)),2,none⟩] none) (.seq (.reg [⟨(some 9),(.mv (.t 1)),0,none⟩,⟨(some 10),(.call (.c (.fn 283)) [(.t 9)]),0,none⟩,⟨(some 6),(.mv (.t 10)),2,none⟩] none) (.seq (.seq (.reg [⟨(some 11),(.mv (.t 5)),0,none⟩] none) (.cond (.t 11) (.seq (.seq (.reg [⟨(some 12),(.mv (.t 6)),0,none⟩] none) (.cond (.t 12) (.seq (.reg [⟨(some 4),(.mv (.c (.int .i64 0))),0,none⟩] none) .ret) .skip)) (.seq (.reg [⟨(some 4),(.mv (.c (.int .i64 (-1)))),0,none⟩] none) .ret)) .skip)) (.seq (.seq (.reg [⟨(some 13),(.mv (.t 6)),0,none⟩] none) (.cond (.t 13) (.seq (.reg [⟨(some 4),(.mv (.c (.int .i64 1))),0,none⟩] none) .ret) .skip)) (.seq (.seq (.reg [⟨(some 14),(.mv (.t 0)),0,none⟩,⟨(some 15),(.mv (.t 1)),0,none⟩,⟨(some 16),(.bin .num .lss (.t 14) (.t 15)),0,none⟩] none) (.cond (.t 16) (.seq (.reg [⟨(some 4),(.mv (.c (.int .i64 (-1)))),0,none⟩] none) .ret) .skip)) (.seq (.seq (.reg [⟨(some 17),(.mv (.t 0)),0,none⟩,⟨(some 18),(.mv (.t 1)),0,none⟩,⟨(some 19),(.bin .num .gtr (.t 17) (.t 18)),0,none⟩] none) (.cond (.t 19) (.seq (.reg [⟨(some 4),(.mv (.c (.int .i64 1))),0,none⟩] none) .ret) .skip)) (.seq (.reg [⟨(some 4),(.mv (.c (.int .i64 0))),0,none⟩] none) .ret))))))))
def RU:List IRes:=[(.tmp 4)]
abbrev b8k:Nat:=20
def OX:ZC:=Xn [(283,.pure (preT (fun _:Str×Unit=>true)) (Zg (fun _:Str×Unit=>false)))]
theorem c5p{G:PV->Prop}(s t:List UInt8)(h : ∃ y0:Bool,AV.pv (Zg (fun(x:Str×Unit)=>false) [(.str s)])=AV.pv (enc y0)∧(∃ y1:Bool,AV.pv (Zg (fun(x:Str×Unit)=>false) [(.str t)])=AV.pv (enc y1)∧(if (y0)=true then if (y1)=true then G ((.int .i64 0))else(G ((.int .i64 (-1))))else(if (y1)=true then G ((.int .i64 1))else(if (Op.bytesLess s t)=true then G ((.int .i64 (-1)))else(if (!(Op.bytesLess s t||s==t))=true then G ((.int .i64 1))else(G ((.int .i64 0))))))))):Zc OX 0 (Za RU G) R7 [] (YD 20 [.str s,.str t]):=Zc.tp (.lit (.abs (Bool) (fun YY=>AV.pv (enc YY)) (.lit (.abs (Bool) (fun YY=>AV.pv (enc YY)) (.ask (.ask (.nil) (.nil)) (.ask (.nil) (.lit (.ask (.nil) (.lit (.ask (.nil) (.nil))))))))))) h (by kernel_rfl)
def WH:IC:=(.seq (.reg [⟨(some 2),(.mv (.c (.bool false))),0,none⟩] none) (.seq (.seq (.reg [⟨(some 4),(.mv (.t 0)),0,none⟩,⟨(some 5),(.len 1 (.t 4)),0,none⟩,⟨(some 6),(.bin .num .sub (.t 5) (.c (.int .i64 1))),0,none⟩,⟨(some 3),(.mv (.t 6)),0,none⟩] none) (.block 0 (.loop [3,0] (.seq (.seq (.reg [⟨(some 7),(.mv (.t 3)),0,none⟩,⟨(some 8),(.bin .num .gtr (.t 7) (.c (.int .i64 0))),0,none⟩] none) (.cond (.t 8) .skip (.exit 0))) (.seq (.block 1 (.seq (.reg [⟨(some 11),(.mv (.t 0)),0,none⟩,⟨(some 12),(.mv (.t 3)),0,none⟩,⟨(some 13),(.iaddr 1 (.t 11) (.t 12)),0,none⟩,⟨(some 14),(.load false [.str] (.t 13)),0,none⟩,⟨(some 15),(.mv (.t 0)),0,none⟩,⟨(some 16),(.mv (.t 3)),0,none⟩,⟨(some 17),(.bin .num .sub (.t 16) (.c (.int .i64 1))),0,none⟩,⟨(some 18),(.iaddr 1 (.t 15) (.t 17)),0,none⟩,⟨(some 19),(.load false [.str] (.t 18)),0,none⟩,⟨(some 20),(.call (.c (.fn 244)) [(.t 14),(.t 19)]),0,none⟩] (some [[],[],[0,1],[2,0,1],[],[],[5],[4,6,5],[7,4,6,5],[3,8,2,0,1,7,4,6,5]])) (.cond (.t 20) (.seq (.reg [⟨(some 2),(.mv (.c (.bool false))),0,none⟩] none) .ret) .skip))) (.reg [⟨(some 9),(.mv (.t 3)),0,none⟩,⟨(some 10),(.bin .num .sub (.t 9) (.c (.int .i64 1))),0,none⟩,⟨(some 3),(.mv (.t 10)),0,none⟩] none)))))) (.seq (.reg [⟨(some 2),(.mv (.c (.bool true))),0,none⟩] none) .ret)))
def WG:List IRes:=[(.tmp 2)]
abbrev EG:Nat:=21
def Vu:ZC:=Xn [(244,.pure (preT (fun _:Str×Str×Unit=>true)) (Zg (fun x:Str×Str×Unit=>decide (x.1.s<x.2.1.s))))]
theorem a4e{G:PV->Prop}(l:List Str)(h:At Vu 0 (Za WG G) WH 0 21 [(0,(.pv (.sl 1 false (List.map enc l)))),(3,(.pv (.int .i64 (IntKind.wrap IntKind.i64 ((↑(List.length (List.map enc l)):Int) - 1)))))] []):Zc Vu 0 (Za WG G) WH [] (YD 21 [enc l]):=Zc.tp (.lit (.nil)) h (by kernel_rfl)
theorem JH{G:PV->Prop}(l:List Str)(i:Int)(h:if (decide (i>0))=true then(decide (0<=i)&&decide (Int.toNat i<List.length (List.map enc l))&&Enc.sz Str==1)=true∧(∃ y0:Str,AV.pv (PV.rptr (PV.cells (List.getD (List.map enc l) (Int.toNat i) default)))=AV.pv (PV.rptr (PV.cells ((enc) y0)))∧((decide (0<=IntKind.wrap IntKind.i64 (i - 1))&&decide (Int.toNat (IntKind.wrap IntKind.i64 (i - 1))<List.length (List.map enc l))&&Enc.sz Str==1)=true∧(∃ y1:Str,AV.pv (PV.rptr (PV.cells (List.getD (List.map enc l) (Int.toNat (IntKind.wrap IntKind.i64 (i - 1))) default)))=AV.pv (PV.rptr (PV.cells ((enc) y1)))∧(∃ y2:Bool,AV.pv (Zg (fun(x:Str×Str×Unit)=>decide (Str.s x.1<Str.s x.2.1)) [(.str (PV.asStr (List.getD (PV.cells (enc y0)) 0 default))),(.str (PV.asStr (List.getD (PV.cells (enc y1)) 0 default)))])=AV.pv (enc y2)∧(if (y2)=true then G ((.bool false))else(At Vu 0 (Za WG G) WH 0 21 [(0,(.pv (.sl 1 false (List.map enc l)))),(3,(.pv (.int .i64 (IntKind.wrap IntKind.i64 (i - 1)))))] []))))))else(G ((.bool true)))):At Vu 0 (Za WG G) WH 0 21 [(0,.pv (enc l)),(3,.pv (.int .i64 i))] []:=At.tp (.lit (.ask (.req (.abs (Str) (fun YY=>AV.pv (PV.rptr (PV.cells ((enc) YY)))) (.lit (.lit (.req (.abs (Str) (fun YY=>AV.pv (PV.rptr (PV.cells ((enc) YY)))) (.lit (.lit (.abs (Bool) (fun YY=>AV.pv (enc YY)) (.ask (.nil) (.lit (.nil)))))))))))) (.nil))) h (by kernel_rfl)
def Vt:IC:=(.seq (.reg [⟨(some 4),(.mv (.c (.int .i64 0))),0,none⟩] none) (.seq (.seq (.reg [⟨(some 9),(.mv (.t 0)),0,none⟩,⟨(some 10),(.len 1 (.t 9)),0,none⟩,⟨(some 11),(.mv (.c (.int .i64 0))),0,none⟩] none) (.block 0 (.loop [11,10,9,1,0] (.seq (.reg [⟨(some 12),(.bin .num .lss (.t 11) (.t 10)),0,none⟩] none) (.seq (.cond (.t 12) .skip (.exit 0)) (.seq (.block 1 (.seq (.reg [⟨(some 13),(.mv (.t 11)),0,none⟩,⟨(some 14),(.iaddr 1 (.t 9) (.t 11)),0,none⟩,⟨(some 15),(.load false [.str] (.t 14)),0,none⟩,⟨(some 5),(.mv (.t 13)),0,none⟩,⟨(some 6),(.mv (.t 15)),0,none⟩] none) (.seq (.seq (.reg [⟨(some 16),(.mv (.t 5)),0,none⟩,⟨(some 17),(.mv (.t 1)),0,none⟩,⟨(some 18),(.len 1 (.t 17)),0,none⟩,⟨(some 19),(.bin .num .geq (.t 16) (.t 18)),0,none⟩] none) (.cond (.t 19) (.seq (.reg [⟨(some 4),(.mv (.c (.int .i64 1))),0,none⟩] none) .ret) .skip)) (.seq (.reg [⟨(some 20),(.mv (.t 1)),0,none⟩,⟨(some 21),(.mv (.t 5)),0,none⟩,⟨(some 22),(.iaddr 1 (.t 20) (.t 21)),0,none⟩,⟨(some 23),(.load false [.str] (.t 22)),0,none⟩,⟨(some 7),(.mv (.t 23)),0,none⟩] none) (.seq (.reg [⟨(some 24),(.mv (.t 6)),0,none⟩,⟨(some 25),(.mv (.t 7)),0,none⟩,⟨(some 26),(.call (.c (.fn 245)) [(.t 24),(.t 25)]),0,none⟩,⟨(some 8),(.mv (.t 26)),2,none⟩] none) (.seq (.reg [⟨(some 27),(.mv (.t 8)),0,none⟩,⟨(some 28),(.bin .num .neq (.t 27) (.c (.int .i64 0))),0,none⟩] none) (.cond (.t 28) (.seq (.reg [⟨(some 29),(.mv (.t 8)),0,none⟩,⟨(some 4),(.mv (.t 29)),0,none⟩] none) .ret) .skip))))))) (.reg [⟨(some 30),(.bin .num .add (.t 11) (.c (.int .i64 1))),0,none⟩,⟨(some 11),(.mv (.t 30)),0,none⟩] none))))))) (.seq (.seq (.reg [⟨(some 31),(.mv (.t 0)),0,none⟩,⟨(some 32),(.len 1 (.t 31)),0,none⟩,⟨(some 33),(.mv (.t 1)),0,none⟩,⟨(some 34),(.len 1 (.t 33)),0,none⟩,⟨(some 35),(.bin .num .lss (.t 32) (.t 34)),0,none⟩] none) (.cond (.t 35) (.seq (.reg [⟨(some 4),(.mv (.c (.int .i64 (-1)))),0,none⟩] none) .ret) .skip)) (.seq (.reg [⟨(some 4),(.mv (.c (.int .i64 0))),0,none⟩] none) .ret))))
def VC:List IRes:=[(.tmp 4)]
abbrev a5q:Nat:=36
def Ur:ZC:=Xn [(245,.pure (preT (fun _:Str×Str×Unit=>true)) (Zg (fun x:Str×Str×Unit=>Tc x.1 x.2.1)))]
theorem a9m{G:PV->Prop}(a b:List Str)(h:At Ur 0 (Za VC G) Vt 0 36 [(0,(.pv (.sl 1 false (List.map enc a)))),(1,(.pv (.sl 1 false (List.map enc b)))),(9,(.pv (.sl 1 false (List.map enc a)))),(10,(.pv (.int .i64 (↑(List.length (List.map enc a)):Int)))),(11,(.pv (.int .i64 0)))] []):Zc Ur 0 (Za VC G) Vt [] (YD 36 [enc a,enc b]):=Zc.tp (.nil) h (by kernel_rfl)
theorem RF{G:PV->Prop}(a b:List Str)(i:Int)(h:if (decide (i<(↑(List.length a):Int)))=true then(decide (0<=i)&&decide (Int.toNat i<List.length (List.map enc a))&&Enc.sz Str==1)=true∧(∃ y0:Str,AV.pv (PV.rptr (PV.cells (List.getD (List.map enc a) (Int.toNat i) default)))=AV.pv (PV.rptr (PV.cells ((enc) y0)))∧(if (decide (i ≥ (↑(List.length (List.map enc b)):Int)))=true then G ((.int .i64 1))else((decide (0<=i)&&decide (Int.toNat i<List.length (List.map enc b))&&Enc.sz Str==1)=true∧(∃ y1:Str,AV.pv (PV.rptr (PV.cells (List.getD (List.map enc b) (Int.toNat i) default)))=AV.pv (PV.rptr (PV.cells ((enc) y1)))∧(∃ y2:Int,AV.pv (Zg (fun(x:Str×Str×Unit)=>Tc x.1 x.2.1) [(.str (PV.asStr (List.getD (PV.cells (enc y0)) 0 default))),(.str (PV.asStr (List.getD (PV.cells (enc y1)) 0 default)))])=AV.pv (enc y2)∧(if (y2 != 0)=true then G ((.int .i64 y2))else(At Ur 0 (Za VC G) Vt 0 36 [(0,(.pv (.sl 1 false (List.map enc a)))),(1,(.pv (.sl 1 false (List.map enc b)))),(9,(.pv (.sl 1 false (List.map enc a)))),(10,(.pv (.int .i64 (↑(List.length a):Int)))),(11,(.pv (.int .i64 (IntKind.wrap IntKind.i64 (i+1)))))] [])))))))else(if (decide ((↑(List.length (List.map enc a)):Int)<(↑(List.length (List.map enc b)):Int)))=true then G ((.int .i64 (-1)))else(G ((.int .i64 0))))):At Ur 0 (Za VC G) Vt 0 36 [(0,.pv (enc a)),(1,.pv (enc b)),(9,.pv (enc a)),(10,.pv (.int .i64 a.length)),(11,.pv (.int .i64 i))] []:=At.tp (.lit (.ask (.req (.abs (Str) (fun YY=>AV.pv (PV.rptr (PV.cells ((enc) YY)))) (.lit (.lit (.ask (.nil) (.req (.abs (Str) (fun YY=>AV.pv (PV.rptr (PV.cells ((enc) YY)))) (.lit (.lit (.abs (Int) (fun YY=>AV.pv (enc YY)) (.lit (.ask (.nil) (.lit (.nil)))))))))))))) (.lit (.ask (.nil) (.nil))))) h (by kernel_rfl)
def WN:IC:=(.seq (.reg [⟨(some 2),(.mv (.c (.bool false))),0,none⟩] none) (.seq (.seq (.reg [⟨(some 5),(.mv (.t 0)),0,none⟩,⟨(some 6),(.len 1 (.t 5)),0,none⟩,⟨(some 7),(.mv (.c (.int .i64 0))),0,none⟩] none) (.block 0 (.loop [7,6,5,0] (.seq (.reg [⟨(some 8),(.bin .num .lss (.t 7) (.t 6)),0,none⟩] none) (.seq (.cond (.t 8) .skip (.exit 0)) (.seq (.block 1 (.seq (.reg [⟨(some 9),(.mv (.t 7)),0,none⟩,⟨(some 10),(.iaddr 2 (.t 5) (.t 7)),0,none⟩,⟨(some 11),(.load true [(.int .i64),(.sl 1)] (.t 10)),0,none⟩,⟨(some 4),(.alloc (.agg [(.int .i64 0),(.sl 0 true [])])),0,none⟩,⟨(some 3),(.mv (.t 9)),1,none⟩,⟨none,(.store 2 (.t 4) (.t 11)),1,none⟩] none) (.seq (.seq (.reg [⟨(some 12),(.faddr 0 (.t 4)),0,none⟩,⟨(some 13),(.load false [(.int .i64)] (.t 12)),0,none⟩,⟨(some 14),(.bin .num .eql (.t 13) (.c (.int .i64 0))),0,none⟩,⟨(some 15),(.mv (.t 14)),0,none⟩,⟨(some 16),(.faddr 0 (.t 4)),0,(some (15,false))⟩,⟨(some 17),(.load false [(.int .i64)] (.t 16)),0,(some (15,false))⟩,⟨(some 18),(.bin .num .lss (.t 17) (.c (.int .i64 (-1099511627776)))),0,(some (15,false))⟩,⟨(some 19),(.pick (.t 15) (.c (.bool true)) (.t 18)),0,none⟩,⟨(some 20),(.mv (.t 19)),0,none⟩,⟨(some 21),(.faddr 0 (.t 4)),0,(some (20,false))⟩,⟨(some 22),(.load false [(.int .i64)] (.t 21)),0,(some (20,false))⟩,⟨(some 23),(.bin .num .gtr (.t 22) (.c (.int .i64 1099511627776))),0,(some (20,false))⟩,⟨(some 24),(.pick (.t 20) (.c (.bool true)) (.t 23)),0,none⟩,⟨(some 25),(.mv (.t 24)),0,none⟩,⟨(some 26),(.faddr 1 (.t 4)),0,(some (25,false))⟩,⟨(some 27),(.load false [(.sl 1)] (.t 26)),0,(some (25,false))⟩,⟨(some 28),(.len 1 (.t 27)),0,(some (25,false))⟩,⟨(some 29),(.bin .num .gtr (.t 28) (.c (.int .i64 8))),0,(some (25,false))⟩,⟨(some 30),(.pick (.t 25) (.c (.bool true)) (.t 29)),0,none⟩,⟨(some 31),(.mv (.t 30)),0,none⟩,⟨(some 32),(.faddr 1 (.t 4)),0,(some (31,false))⟩,⟨(some 33),(.load false [(.sl 1)] (.t 32)),0,(some (31,false))⟩,⟨(some 34),(.call (.c (.fn 184)) [(.t 33)]),0,(some (31,false))⟩,⟨(some 35),(.un .not (.t 34)),2,(some (31,false))⟩,⟨(some 36),(.pick (.t 31) (.c (.bool true)) (.t 35)),2,none⟩] none) (.cond (.t 36) (.seq (.reg [⟨(some 2),(.mv (.c (.bool false))),0,none⟩] none) .ret) .skip)) (.seq (.seq (.reg [⟨(some 37),(.faddr 1 (.t 4)),0,none⟩,⟨(some 38),(.load false [(.sl 1)] (.t 37)),0,none⟩,⟨(some 39),(.call (.c (.fn 175)) [(.t 38),(.c (.fn 185))]),0,none⟩] none) (.cond (.t 39) (.seq (.reg [⟨(some 2),(.mv (.c (.bool false))),0,none⟩] none) .ret) .skip)) (.seq (.reg [⟨(some 40),(.mv (.t 3)),0,none⟩,⟨(some 41),(.bin .num .gtr (.t 40) (.c (.int .i64 0))),0,none⟩,⟨(some 42),(.mv (.t 41)),0,none⟩,⟨(some 43),(.mv (.t 0)),0,(some (42,true))⟩,⟨(some 44),(.mv (.t 3)),0,(some (42,true))⟩,⟨(some 45),(.bin .num .sub (.t 44) (.c (.int .i64 1))),0,(some (42,true))⟩,⟨(some 46),(.iaddr 2 (.t 43) (.t 45)),0,(some (42,true))⟩,⟨(some 47),(.faddr 1 (.t 46)),0,(some (42,true))⟩,⟨(some 48),(.load false [(.sl 1)] (.t 47)),0,(some (42,true))⟩,⟨(some 49),(.faddr 1 (.t 4)),0,(some (42,true))⟩,⟨(some 50),(.load false [(.sl 1)] (.t 49)),0,(some (42,true))⟩,⟨(some 51),(.call (.c (.fn 186)) [(.t 48),(.t 50)]),0,(some (42,true))⟩,⟨(some 52),(.bin .num .geq (.t 51) (.c (.int .i64 0))),2,(some (42,true))⟩,⟨(some 53),(.pick (.t 42) (.t 52) (.c (.bool false))),2,none⟩] (some [[],[0],[1,0],[2,1,0],[2,1,0],[4,2,1,0],[3,5,2,1,0,4],[6,2,3,5,1,0,4],[7,2,6,3,5,1,0,4],[2,1,0],[9,2,1,0],[8,10,2,7,6,3,5,1,0,4,9],[11,2,8,10,7,6,3,5,1,0,4,9],[2,12,1,0,11,8,10,7,6,3,5,4,9]])) (.cond (.t 53) (.seq (.reg [⟨(some 2),(.mv (.c (.bool false))),0,none⟩] none) .ret) .skip)))))) (.reg [⟨(some 54),(.bin .num .add (.t 7) (.c (.int .i64 1))),0,none⟩,⟨(some 7),(.mv (.t 54)),0,none⟩] none))))))) (.seq (.reg [⟨(some 55),(.mv (.t 0)),0,none⟩,⟨(some 56),(.len 1 (.t 55)),0,none⟩,⟨(some 57),(.bin .num .leq (.t 56) (.c (.int .i64 60))),0,none⟩,⟨(some 2),(.mv (.t 57)),0,none⟩] none) .ret)))
def X3:List IRes:=[(.tmp 2)]
abbrev a4s:Nat:=58
def WX:ZC:=Xn [(184,.pure (preT (fun x:List Str×Unit=>Zv x.1)) (Zg (fun x:List Str×Unit=>Hw x.1))),(175,.pure (preT (fun x:List Str×FnV 185×Unit=>XM x.1)) (Zg (fun x:List Str×FnV 185×Unit=>x.1.any fun s:Str=> !(Zw s)))),(186,.pure (preT (fun x:List Str×List Str×Unit=>Zv x.1&&Zv x.2.1)) (Zg (fun x:List Str×List Str×Unit=>Gr x.1 x.2.1)))]
theorem b2w{G:PV->Prop}(p:List Mono)(h:At WX 0 (Za X3 G) WN 0 58 [(0,(.pv (.sl 2 false (List.map enc p)))),(5,(.pv (.sl 2 false (List.map enc p)))),(6,(.pv (.int .i64 (↑(List.length (List.map enc p)):Int)))),(7,(.pv (.int .i64 0)))] []):Zc WX 0 (Za X3 G) WN [] (YD 58 [enc p]):=Zc.tp (.nil) h (by kernel_rfl)
theorem TW{G:PV->Prop}(p:List Mono)(i:Int)(h:if (decide (i<(↑(List.length p):Int)))=true then(decide (0<=i)&&decide (Int.toNat i<List.length (List.map enc p))&&Enc.sz Mono==2)=true∧(∃ y0:Mono,AV.pv (PV.rptr (PV.cells (List.getD (List.map enc p) (Int.toNat i) default)))=AV.pv (PV.rptr (PV.cells ((enc) y0)))∧(if (PV.asInt (List.getD (PV.cells (enc y0)) 0 default)==0)=true then G ((.bool false))else(if (decide (PV.asInt (List.getD (PV.cells (enc y0)) 0 default)<(-1099511627776:Int)))=true then G ((.bool false))else(if (decide (PV.asInt (List.getD (PV.cells (enc y0)) 0 default)>1099511627776))=true then G ((.bool false))else(if (decide ((↑(List.length (PV.asXs (List.getD (PV.cells (enc y0)) (0+1) default))):Int)>8))=true then G ((.bool false))else((Go.Pl.preT (fun(x:List Str×Unit)=>Zv x.1) [(.sl 1 false (PV.asXs (List.getD (PV.cells (enc y0)) (0+1) default)))])=true∧(∃ y1:Bool,AV.pv (Zg (fun(x:List Str×Unit)=>Hw x.1) [(.sl 1 false (PV.asXs (List.getD (PV.cells (enc y0)) (0+1) default)))])=AV.pv (enc y1)∧(if (!y1)=true then G ((.bool false))else((Go.Pl.preT (fun(x:List Str×FnV 185×Unit)=>XM x.1) [(.sl 1 false (PV.asXs (List.getD (PV.cells (enc y0)) (0+1) default))),(.fn 185)])=true∧(∃ y2:Bool,AV.pv (Zg (fun(x:List Str×FnV 185×Unit)=>List.any x.1 fun(s:Str)=> !Zw s) [(.sl 1 false (PV.asXs (List.getD (PV.cells (enc y0)) (0+1) default))),(.fn 185)])=AV.pv (enc y2)∧(if (y2)=true then G ((.bool false))else(if (decide (i>0))=true then(decide (0<=IntKind.wrap IntKind.i64 (i - 1))&&decide (Int.toNat (IntKind.wrap IntKind.i64 (i - 1))<List.length (List.map enc p))&&Enc.sz Mono==2)=true∧(∃ y3:Mono,AV.pv (PV.rptr (PV.cells (List.getD (List.map enc p) (Int.toNat (IntKind.wrap IntKind.i64 (i - 1))) default)))=AV.pv (PV.rptr (PV.cells ((enc) y3)))∧((Go.Pl.preT (fun(x:List Str×List Str×Unit)=>Zv x.1&&Zv x.2.1) [(.sl 1 false (PV.asXs (List.getD (List.drop 1 (PV.cells (enc y3))) 0 default))),(.sl 1 false (PV.asXs (List.getD (PV.cells (enc y0)) (0+1) default)))])=true∧(∃ y4:Int,AV.pv (Zg (fun(x:List Str×List Str×Unit)=>Gr x.1 x.2.1) [(.sl 1 false (PV.asXs (List.getD (List.drop 1 (PV.cells (enc y3))) 0 default))),(.sl 1 false (PV.asXs (List.getD (PV.cells (enc y0)) (0+1) default)))])=AV.pv (enc y4)∧(if (decide (y4 ≥ 0))=true then G ((.bool false))else(At WX 0 (Za X3 G) WN 0 58 [(0,(.pv (.sl 2 false (List.map enc p)))),(5,(.pv (.sl 2 false (List.map enc p)))),(6,(.pv (.int .i64 (↑(List.length p):Int)))),(7,(.pv (.int .i64 (IntKind.wrap IntKind.i64 (i+1)))))] [])))))else(At WX 0 (Za X3 G) WN 0 58 [(0,(.pv (.sl 2 false (List.map enc p)))),(5,(.pv (.sl 2 false (List.map enc p)))),(6,(.pv (.int .i64 (↑(List.length p):Int)))),(7,(.pv (.int .i64 (IntKind.wrap IntKind.i64 (i+1)))))] [])))))))))))))else(G ((.bool (decide ((↑(List.length (List.map enc p)):Int)<=60)))))):At WX 0 (Za X3 G) WN 0 58 [(0,.pv (enc p)),(5,.pv (enc p)),(6,.pv (.int .i64 p.length)),(7,.pv (.int .i64 i))] []:=At.tp (.lit (.ask (.req (.abs (Mono) (fun YY=>AV.pv (PV.rptr (PV.cells ((enc) YY)))) (.lit (.lit (.ask (.lit (.lit (.lit (.lit (.lit (.lit (.lit (.lit (.lit (.lit (.lit (.lit (.lit (.lit (.lit (.lit (.lit (.lit (.nil))))))))))))))))))) (.lit (.lit (.lit (.lit (.ask (.lit (.lit (.lit (.lit (.lit (.lit (.lit (.lit (.lit (.lit (.lit (.lit (.lit (.lit (.nil))))))))))))))) (.lit (.lit (.lit (.lit (.ask (.lit (.lit (.lit (.lit (.lit (.lit (.lit (.lit (.lit (.lit (.nil))))))))))) (.lit (.lit (.lit (.lit (.lit (.ask (.lit (.lit (.lit (.lit (.lit (.nil)))))) (.lit (.lit (.req (.abs (Bool) (fun YY=>AV.pv (enc YY)) (.lit (.lit (.ask (.nil) (.req (.abs (Bool) (fun YY=>AV.pv (enc YY)) (.ask (.nil) (.lit (.ask (.lit (.lit (.lit (.lit (.req (.abs (Mono) (fun YY=>AV.pv (PV.rptr (PV.cells ((enc) YY)))) (.lit (.lit (.lit (.lit (.lit (.lit (.req (.abs (Int) (fun YY=>AV.pv (enc YY)) (.lit (.lit (.lit (.ask (.nil) (.lit (.nil)))))))))))))))))))) (.lit (.lit (.lit (.lit (.lit (.lit (.lit (.lit (.lit (.lit (.lit (.lit (.nil)))))))))))))))))))))))))))))))))))))))))))))) (.lit (.nil)))) h (by kernel_rfl)
end Go.Pl

namespace Go.Pl
open Go.RowKit
open Enc (enc dec is)
open EncL (encL decL isL)
theorem a8m: ∀ x:Str×Unit,decide (x.1.s.length<=281474976710656)=true->Zc ES 0 (Za PP (Zl (!(Zw x.1)))) R8 [] (YD b7x (encL x)):=by
 rintro⟨⟨s⟩,⟨⟩⟩ h
 exact c7f s ⟨Zh (⟨s⟩,()) rfl h,Ze (⟨s⟩,()) rfl (ZF rfl)⟩
theorem a8z(l:List Str)(hs : ∀ s∈l,decide (s.s.length<=281474976710656)=true)(hl:l.length<=9223372036854775807): ∀ (m i:Nat),m+i=l.length->(∀ j (h:j<l.length),j<i->(!(Zw l[j]))=false) ->
  At BK 0 (Za J2 (Zl (Zx (fun s:Str=> !(Zw s)) l))) Jr 0 19 [(0,.pv (enc l)),(1,.pv (.fn 185)),(7,.pv (.int .i64 l.length)),(8,.pv (.int .i64 i))] []:=by
 intro m
 induction m with
 | zero=>
  intro i hi hno
  refine b1o l i (Z8 (Yc (by omega)) (QG ?_))
  rw[UQ _ _ (fun j hj=>hno j hj (by omega))]
 | succ m ih=>
  intro i hi hno
  have hlt:i<l.length:=by omega
  refine b1o l i (Ya (Z4 hlt) ⟨ZG hlt rfl,Z0 hlt ⟨Zh (l[i],()) rfl (hs _ (List.getElem_mem hlt)),Ze (l[i],()) rfl (Wn (fun hb=> ?_) fun hb=> ?_)⟩⟩)
  ·exact QG (UL (fun s:Str=> !(Zw s)) l i hlt hno hb).symm
  ·rw[next (by omega)]
   refine ih (i+1) (by omega) fun j hj hji=> ?_
   by_cases e:j=i
   ·subst e;exact hb
   ·exact hno j hj (by omega)
theorem c0u: ∀ a:List Str×FnV 185×Unit,XM a.1=true->Zc BK 0 (Za J2 (Zl (Zx (fun s:Str=> !(Zw s)) a.1))) Jr [] (YD c6s (encL a)):=by
 rintro⟨l,g,⟨⟩⟩ h
 have h':=h
 simp only[XM,Bool.and_eq_true,List.all_eq_true]at h'
 refine c8i l ?_
 rw[List.length_map]
 exact a8z l h'.2 (ZL.1 h'.1) l.length 0 (by omega) (fun j hj h=>by omega)
theorem b8x: ∀ a:List Str×FnV 185×Unit,XM a.1=true->Zc b2j 0 (Za OL (Zl (a.1.any fun s:Str=> !(Zw s)))) Ep [] (YD c5r (encL a)):=by
 rintro⟨l,g,⟨⟩⟩ h
 exact c8a l ⟨Zh (l,{},()) rfl h,Ze (l,{},()) rfl (ZF (XI _ _))⟩
theorem b0v: ∀ a:Str×Unit,(fun _:Str×Unit=>true) a=true->Zc Ef 0 (Za PH (Zl (false:Bool))) Nb [] (YD b7o (encL a)):=by
 rintro⟨⟨s⟩,⟨⟩⟩ _
 exact c5j s (ZF (by simp))
theorem a5f: ∀ a:Str×Str×Unit,(fun _:Str×Str×Unit=>true) a=true->Zc RO 0 (Za CU (Zl (decide (a.1.s<a.2.1.s)))) A8 [] (YD b0g (encL a)):=by
 rintro⟨⟨s⟩,⟨t⟩,⟨⟩⟩ _
 exact b9j s t (Ze (⟨s⟩,()) rfl (Z8 (by simp) (ZF (YT s t))))
theorem a8d: ∀ a:Str×Str×Unit,(fun _:Str×Str×Unit=>true) a=true->Zc OX 0 (Za RU (Zl (Tc a.1 a.2.1))) R7 [] (YD b8k (encL a)):=by
 rintro⟨⟨s⟩,⟨t⟩,⟨⟩⟩ _
 refine c5p s t (Ze (⟨s⟩,()) rfl (Ze (⟨t⟩,()) rfl (Z8 (by simp) (Z8 (by simp) ?_))))
 show if (Op.bytesLess s t)=true then Zl (Tc ⟨s⟩ ⟨t⟩) _ else if (!(Op.bytesLess s t||s==t))=true then Zl (Tc ⟨s⟩ ⟨t⟩) _ else Zl (Tc ⟨s⟩ ⟨t⟩) _
 rw[YT]
 unfold Tc
 by_cases h1:s<t
 ·rw[decide_eq_true h1,if_pos rfl,if_pos h1];exact QG rfl
 ·rw[decide_eq_false h1,if_neg (by simp),if_neg h1]
  by_cases h2:s=t
  ·subst h2
   rw[if_neg (by simp),if_neg h1];exact QG rfl
  ·have h3:t<s:=by
    rcases List.le_total s t with h|h
    ·exact absurd (Std.lt_of_le_of_ne h h2) h1
    ·exact Std.lt_of_le_of_ne h (Ne.symm h2)
   rw[if_pos (by simp[h2]),if_pos h3];exact QG rfl
theorem b7f(l:List Str):Hw l=true ↔ ∀ i (h:i+1<l.length),¬ l[i+1].s<l[i].s:=by
 induction l with
 | nil=>simp[Hw]
 | cons x l ih=>
  cases l with
  | nil=>simp[Hw]
  | cons y r=>
   rw[Hw,Bool.and_eq_true,ih]
   constructor
   ·rintro⟨h1,h2⟩ i hi
    cases i with
    | zero=>simpa using h1
    | succ i=>exact h2 i (by simpa using hi)
   ·intro h
    exact⟨by simpa using h 0 (by simp),fun i hi=>h (i+1) (by simpa using hi)⟩
theorem RY(l:List Str)(hl:l.length<=9223372036854775807): ∀ (i:Nat),i<l.length->(∀ j (h:j+1<l.length),i<=j-> ¬ l[j+1].s<l[j].s) ->
  At Vu 0 (Za WG (Zl (Hw l))) WH 0 21 [(0,.pv (enc l)),(3,.pv (.int .i64 i))] []:=by
 intro i
 induction i with
 | zero=>
  intro hi hok
  refine JH l ((0:Nat):Int) (Z8 (by decide) (ZF ?_))
  exact((b7f l).2 fun j hj=>hok j hj (Nat.zero_le _)).symm
 | succ i ih=>
  intro hi hok
  have hi2:i<l.length:=by omega
  have e:((i+1:Nat):Int) - 1=(i:Int):=by omega
  have hw:IntKind.i64.wrap (((i+1:Nat):Int) - 1)=(i:Int):=by rw[e];exact YU (by omega) (by omega)
  refine JH l ((i+1:Nat):Int) (Ya (by simp) ⟨ZG hi rfl,Z0 hi ?_⟩)
  rw[hw]
  refine⟨ZG hi2 rfl,Z0 hi2 (Ze (l[i+1],l[i],()) rfl (Wn (fun h=>ZF ?_) fun h=>ih hi2 fun j hj hij=> ?_))⟩
  ·have h:l[i+1].s<l[i].s:=of_decide_eq_true h
   cases hc:Hw l
   ·rfl
   ·exact absurd h ((b7f l).1 hc i hi)
  ·have h : ¬ l[i+1].s<l[i].s:=of_decide_eq_false h
   by_cases ej:j=i
   ·subst ej;exact h
   ·exact hok j hj (by omega)
theorem MM: ∀ a:List Str×Unit,Zv a.1=true->Zc Vu 0 (Za WG (Zl (Hw a.1))) WH [] (YD EG (encL a)):=by
 rintro⟨l,⟨⟩⟩ h
 have hl:=ZL.1 h
 refine a4e l ?_
 rw[List.length_map]
 cases hc:l with
 | nil=>
  refine JH [] _ (Z8 (by decide) (ZF rfl))
 | cons x r=>
  have hw:IntKind.i64.wrap (((x::r).length:Int) - 1)=((r.length:Nat):Int):=by
   rw[List.length_cons]
   rw[hc,List.length_cons]at hl
   rw[show((r.length+1:Nat):Int) - 1=(r.length:Int) by omega]
   exact YU (by omega) (by omega)
  rw[hw]
  exact RY (x::r) (by rw[<- hc];exact hl) r.length (by simp) (fun j hj h=>by simp at hj;omega)
theorem Lc(a b:List Str)(ha:a.length<=9223372036854775807)(hb:b.length<=9223372036854775807): ∀ (k i:Nat),k+i=a.length->i<=b.length ->
  At Ur 0 (Za VC (Zl (Gr (a.drop i) (b.drop i)))) Vt 0 36 [(0,.pv (enc a)),(1,.pv (enc b)),(9,.pv (enc a)),(10,.pv (.int .i64 a.length)),(11,.pv (.int .i64 i))] []:=by
 intro k
 induction k with
 | zero=>
  intro i hi hib
  rw[List.drop_of_length_le (show a.length<=i by omega)]
  refine RF a b i (Z8 (Yc (by omega)) ?_)
  simp only[List.length_map]
  refine WI (fun h=> ?_) fun h=> ?_
  ·rw[List.drop_eq_getElem_cons (show i<b.length by omega)]
   exact QG rfl
  ·rw[List.drop_of_length_le (show b.length<=i by omega)]
   exact QG rfl
 | succ k ih=>
  intro i hi hib
  have hlt:i<a.length:=by omega
  rw[List.drop_eq_getElem_cons hlt]
  refine RF a b i (Ya (Z4 hlt) ⟨ZG hlt rfl,Z0 hlt ?_⟩)
  simp only[List.length_map]
  refine WI (fun h=> ?_) fun h=> ?_
  ·rw[List.drop_of_length_le (show b.length<=i by omega)]
   exact QG rfl
  ·have hlt2:i<b.length:=by omega
   have h1:=ih (i+1) (by omega) (by omega)
   rw[List.drop_eq_getElem_cons hlt2]
   refine⟨by simp[hlt2],Z0 hlt2 (Ze (a[i],b[i],()) rfl ?_)⟩
   show if (Tc a[i] b[i] != 0)=true then _ else _
   unfold Gr Tc
   by_cases q1:a[i].s<b[i].s
   ·rw[if_pos q1,if_pos (by simp),if_pos q1];exact QG rfl
   ·rw[if_neg q1,if_neg q1]
    by_cases q2:b[i].s<a[i].s
    ·rw[if_pos q2,if_pos (by simp),if_pos q2];exact QG rfl
    ·rw[if_neg q2,if_neg (by simp),if_neg q2,next (by omega)]
     exact h1
theorem EI: ∀ x:List Str×List Str×Unit,(Zv x.1&&Zv x.2.1)=true->Zc Ur 0 (Za VC (Zl (Gr x.1 x.2.1))) Vt [] (YD a5q (encL x)):=by
 rintro⟨a,b,⟨⟩⟩ h
 simp only[Bool.and_eq_true]at h
 refine a9m a b ?_
 rw[List.length_map]
 exact Lc a b (ZL.1 h.1) (ZL.1 h.2) a.length 0 (by omega) (Nat.zero_le _)
theorem Ak: ∀ a b:List Str,Gr a b<0 ↔ VQ a b<0
 | [],[]=>by decide
 | [],y::b=>by
  have e1:Gr [] (y::b) = -1:=rfl
  have e2:VQ [] (y::b) = -((y::b).length:Int):=rfl
  rw[e1,e2,List.length_cons];omega
 | x::a,[]=>by
  have e1:Gr (x::a) []=1:=rfl
  have e2:VQ (x::a) []=((x::a).length:Int):=rfl
  rw[e1,e2];omega
 | x::a,y::b=>by
  rw[Gr,VQ]
  split
  ·exact Iff.rfl
  ·split
   ·exact Iff.rfl
   ·exact Ak a b
def pvL:Option Mono->List Mono->Bool
 | _,[]=>true
 | o,m::r=>WQ m&&(match o with|none=>true|some q=>decide (VQ q.v m.v<0))&&pvL (some m) r
theorem b2b(o:Option Mono)(m:Mono)(r:List Mono):pvL o (m::r)=(WQ m&&(match o with|none=>true|some q=>decide (VQ q.v m.v<0))&&pvL (some m) r):=by cases o <;> rfl
theorem Mr: ∀ (l:List Mono) (q:Mono),pvL (some q) l=(l.all WQ&&a6f (q::l))
 | [],q=>rfl
 | m::r,q=>by
  rw[pvL,Mr r m,a6f,List.all_cons]
  cases WQ m <;> cases decide (VQ q.v m.v<0) <;> cases r.all WQ <;> cases a6f (m::r) <;> rfl
theorem b3a(l:List Mono):(pvL none l&&decide (l.length<=60))=ZY l:=by
 unfold ZY
 cases l with
 | nil=>rfl
 | cons m r=>
  rw[pvL,Mr,List.all_cons,Bool.and_true]
  cases WQ m <;> cases decide ((m::r).length<=60) <;> cases r.all WQ <;> cases a6f (m::r) <;> rfl
def LU(p:List Mono):Nat->Option Mono
 | 0=>none
 | i+1=>p[i]?
theorem LK(p:List Mono)(hp:Yd p=true): ∀ (k i:Nat),k+i=p.length ->
  At WX 0 (Za X3 (Zl (pvL (LU p i) (p.drop i)&&decide (p.length<=60)))) WN 0 58 [(0,.pv (enc p)),(5,.pv (enc p)),(6,.pv (.int .i64 p.length)),(7,.pv (.int .i64 i))] []:=by
 simp only[Yd,Bool.and_eq_true,List.all_eq_true]at hp
 have hl:=ZL.1 hp.1
 intro k
 induction k with
 | zero=>
  intro i hi
  rw[List.drop_of_length_le (by omega)]
  refine TW p i (Z8 (Yc (by omega)) (ZF ?_))
  rw[List.length_map,pvL,Bool.true_and]
  exact decide_eq_decide.2 (by omega)
 | succ k ih=>
  intro i hi
  have hlt:i<p.length:=by omega
  have hm:=hp.2 _ (List.getElem_mem hlt)
  have hml:Zv p[i].v=true:=by
   simp only[XM,Bool.and_eq_true]at hm
   exact hm.1
  have h1:=ih (i+1) (by omega)
  have hpr:LU p (i+1)=some p[i]:=List.getElem?_eq_getElem hlt
  rw[hpr]at h1
  rw[List.drop_eq_getElem_cons hlt,b2b]
  have bad:WQ p[i]=false->Zl (WQ p[i]&&(match LU p i with|none=>true|some q=>decide (VQ q.v p[i].v<0))&&pvL (some p[i]) (p.drop (i+1))&&decide (p.length<=60)) (.bool false):=fun h=>ZF (by rw[h];simp)
  apply TW (G:=Zl (WQ p[i]&&(match LU p i with|none=>true|some q=>decide (VQ q.v p[i].v<0))&&pvL (some p[i]) (p.drop (i+1))&&decide (p.length<=60))) p i
  apply Ya (Z4 hlt)
  refine⟨ZG hlt rfl,Z0 hlt (Gj (fun h=>bad ?_) fun h2=>WI (fun h=>bad ?_) fun h3=>WI (fun h=>bad ?_) fun h4=>WI (fun h=>bad ?_) fun h5=>⟨Zh (p[i].v,()) rfl hml,Ze (p[i].v,()) rfl (Vj (fun h=>bad ?_) fun h6=>⟨Zh (p[i].v,{},()) rfl hm,Ze (p[i].v,{},()) rfl (Wn (fun h=>bad ?_) fun h7=> ?_)⟩)⟩)⟩
  ·have h:p[i].c=0:=h
   simp[WQ,h]
  ·have h:p[i].c < -1099511627776:=h
   unfold WQ
   rw[decide_eq_false (show ¬ -1099511627776<=p[i].c by omega)];simp
  ·have h:p[i].c>1099511627776:=h
   unfold WQ
   rw[decide_eq_false (show ¬ p[i].c<=1099511627776 by omega)];simp
  ·have h:((p[i].v.map (enc:Str->PV)).length:Int)>8:=h
   rw[List.length_map]at h
   unfold WQ
   rw[decide_eq_false (show ¬ p[i].v.length<=8 by omega)];simp
  ·have h:Hw p[i].v=false:=h
   simp[WQ,h]
  ·have h:(p[i].v.any fun s=> !(Zw s))=true:=h
   have h2:p[i].v.all Zw=false:=by
    rw[<- Bool.not_eq_true]
    intro h3
    obtain⟨s,hs,h4⟩:=List.any_eq_true.1 h
    rw[List.all_eq_true.1 h3 s hs]at h4
    cases h4
   unfold WQ
   rw[h2];simp
  ·have hok:WQ p[i]=true:=by
    have h2 : ¬ p[i].c=0:=h2
    have h3 : ¬ p[i].c < -1099511627776:=h3
    have h4 : ¬ p[i].c>1099511627776:=h4
    have h5 : ¬ ((p[i].v.map (enc:Str->PV)).length:Int)>8:=h5
    rw[List.length_map]at h5
    have h6:Hw p[i].v=true:=h6
    have h7:(p[i].v.any fun s=> !(Zw s))=false:=h7
    have h8:p[i].v.all Zw=true:=by
     rw[List.all_eq_true]
     intro s hs
     cases hn:Zw s
     ·rw[<- Bool.not_eq_true]at h7
      exact absurd (List.any_eq_true.2 ⟨s,hs,by rw[hn];rfl⟩) h7
     ·rfl
    unfold WQ
    rw[decide_eq_true h2,decide_eq_true (show -1099511627776<=p[i].c by omega),decide_eq_true (show p[i].c<=1099511627776 by omega),decide_eq_true (show p[i].v.length<=8 by omega),h6,h8]
    rfl
   rw[hok,Bool.true_and]
   cases i with
   | zero=>
    refine Z8 (by decide) ?_
    rw[next (by omega)]
    exact h1
   | succ j=>
    have hj:j<p.length:=by omega
    have e:((j+1:Nat):Int) - 1=(j:Int):=by omega
    have hw:IntKind.i64.wrap (((j+1:Nat):Int) - 1)=(j:Int):=by rw[e];exact YU (by omega) (by omega)
    have hprev:LU p (j+1)=some p[j]:=List.getElem?_eq_getElem hj
    rw[hprev]
    have hjl:Zv p[j].v=true:=by
     have:=hp.2 _ (List.getElem_mem hj)
     simp only[XM,Bool.and_eq_true]at this
     exact this.1
    refine Ya (by simp) ?_
    rw[hw]
    refine⟨ZG hj rfl,Z0 hj ⟨Zh (p[j].v,p[j+1].v,()) rfl (by show(Zv p[j].v&&Zv p[j+1].v)=true;rw[hjl,hml];rfl),Ze (p[j].v,p[j+1].v,()) rfl (WI (fun h=> ?_) fun h=> ?_)⟩⟩
    ·have h:Gr p[j].v p[j+1].v ≥ 0:=h
     have : ¬ VQ p[j].v p[j+1].v<0:=fun h2=>by have:=(Ak _ _).2 h2;omega
     exact ZF (by simp[this])
    ·have h : ¬ Gr p[j].v p[j+1].v ≥ 0:=h
     have:VQ p[j].v p[j+1].v<0:=(Ak _ _).1 (by omega)
     show At WX 0 (Za X3 (Zl (decide (VQ p[j].v p[j+1].v<0)&&_&&_))) _ _ _ _ _
     rw[decide_eq_true this,Bool.true_and,next (by omega)]
     exact h1
theorem Om: ∀ x:List Mono×Unit,Yd x.1=true->Zc WX 0 (Za X3 (Zl (ZY x.1))) WN [] (YD a4s (encL x)):=by
 rintro⟨p,⟨⟩⟩ h
 refine b2w p ?_
 rw[List.length_map,<- b3a]
 exact LK p h p.length 0 (by omega)
end Go.Pl

namespace Go.Pl
open Go.RowKit
open Enc (enc dec is)
open EncL (encL decL isL)
set_option maxRecDepth 100000
def Xf:IC:=(.seq (.reg [⟨(some 2),(.mv (.c (.sl 0 true []))),0,none⟩] none) (.seq (.seq (.reg [⟨(some 6),(.mv (.t 0)),0,none⟩,⟨(some 7),(.call (.c (.fn 122)) [(.t 6)]),0,none⟩,⟨(some 8),(.un .not (.t 7)),2,none⟩] none) (.cond (.t 8) (.seq (.reg [⟨(some 2),(.mv (.c (.sl 0 true []))),0,none⟩] none) .ret) .skip)) (.seq (.reg [⟨(some 3),(.mv (.c (.sl 0 true []))),0,none⟩] none) (.seq (.seq (.reg [⟨(some 9),(.mv (.t 0)),0,none⟩,⟨(some 10),(.len 1 (.t 9)),0,none⟩,⟨(some 11),(.mv (.c (.int .i64 0))),0,none⟩] none) (.block 0 (.loop [11,10,9,3] (.seq (.reg [⟨(some 12),(.bin .num .lss (.t 11) (.t 10)),0,none⟩] none) (.seq (.cond (.t 12) .skip (.exit 0)) (.seq (.block 1 (.seq (.reg [⟨(some 13),(.iaddr 2 (.t 9) (.t 11)),0,none⟩,⟨(some 14),(.load true [(.int .i64),(.sl 1)] (.t 13)),0,none⟩,⟨(some 5),(.alloc (.agg [(.int .i64 0),(.sl 0 true [])])),0,none⟩,⟨none,(.store 2 (.t 5) (.t 14)),1,none⟩] none) (.reg [⟨(some 15),(.mv (.t 3)),0,none⟩,⟨(some 16),(.faddr 1 (.t 5)),0,none⟩,⟨(some 17),(.load false [(.sl 1)] (.t 16)),0,none⟩,⟨(some 18),(.append 9 1 16 (.t 15) (.t 17)),0,none⟩,⟨(some 3),(.mv (.t 18)),1,none⟩] none))) (.reg [⟨(some 19),(.bin .num .add (.t 11) (.c (.int .i64 1))),0,none⟩,⟨(some 11),(.mv (.t 19)),0,none⟩] none))))))) (.seq (.reg [⟨(some 20),(.mv (.t 3)),0,none⟩,⟨(some 21),(.call (.c (.fn 154)) [(.t 20)]),0,none⟩] none) (.seq (.reg [⟨(some 22),(.mv (.t 3)),0,none⟩,⟨(some 23),(.call (.c (.fn 187)) [(.t 22)]),0,none⟩,⟨(some 2),(.mv (.t 23)),2,none⟩] none) .ret))))))
def Xd:List IRes:=[(.tmp 2)]
abbrev Bi:Nat:=24
def XP:ZC:=Xn [(122,.pure (preT (fun x:List Mono×Unit=>Yd x.1)) (Zg (fun x:List Mono×Unit=>ZY x.1))),(154,.own XH Qk),(187,.own XH Qj)]
theorem a2g{G:AV×List AObj×List AObj->Prop}(p:List Mono)(h:(Go.Pl.preT (fun(x:List Mono×Unit)=>Yd x.1) [(.sl 2 false (List.map enc p))])=true∧(∃ y0:Bool,AV.pv (Zg (fun(x:List Mono×Unit)=>ZY x.1) [(.sl 2 false (List.map enc p))])=AV.pv (enc y0)∧(if (!y0)=true then G (((.pv (.sl 0 true [])),([],[])))else(At XP 0 (Zj 0 Xd G) Xf 0 24 [(3,(.pv (.sl 0 true []))),(9,(.pv (.sl 2 false (List.map enc p)))),(10,(.pv (.int .i64 (↑(List.length (List.map enc p)):Int)))),(11,(.pv (.int .i64 0)))] [])))):Zc XP 0 (Zj 0 Xd G) Xf [] (YH 24 [.pv (enc p)] []):=Zc.to (.req (.abs (Bool) (fun YY=>AV.pv (enc YY)) (.ask (.nil) (.nil)))) h (by kernel_rfl)
theorem Ro{G:AV×List AObj×List AObj->Prop}(p:List Mono)(i:Int)(h:if (decide (i<(↑(List.length p):Int)))=true then(decide (0<=i)&&decide (Int.toNat i<List.length (List.map enc p))&&Enc.sz Mono==2)=true∧(∃ y0:Mono,AV.pv (PV.rptr (PV.cells (List.getD (List.map enc p) (Int.toNat i) default)))=AV.pv (PV.rptr (PV.cells ((enc) y0)))∧((List.isEmpty (PV.asXs (List.getD (PV.cells (enc y0)) (0+1) default))||1==1)=true∧(if (List.isEmpty (PV.asXs (List.getD (PV.cells (enc y0)) (0+1) default)))=true then At XP 0 (Zj 0 Xd G) Xf 0 24 [(3,(.pv (.sl 0 true []))),(9,(.pv (.sl 2 false (List.map enc p)))),(10,(.pv (.int .i64 (↑(List.length p):Int)))),(11,(.pv (.int .i64 (IntKind.wrap IntKind.i64 (i+1)))))] []else(((List.isEmpty ([]:List PV)||0==1)&&decide ((List.length ([]:List PV)+List.length (PV.asXs (List.getD (PV.cells (enc y0)) (0+1) default)))*16<=1099511627776)&&decide (List.length ([]:List PV)+List.length (PV.asXs (List.getD (PV.cells (enc y0)) (0+1) default))<=1099511627776))=true∧(At XP 0 (Zj 0 Xd G) Xf 0 24 [(3,(.row 0 (List.length ([]:List PV)+List.length (PV.asXs (List.getD (PV.cells (enc y0)) (0+1) default))) 0 (List.length ([]:List PV)+List.length (PV.asXs (List.getD (PV.cells (enc y0)) (0+1) default))))),(9,(.pv (.sl 2 false (List.map enc p)))),(10,(.pv (.int .i64 (↑(List.length p):Int)))),(11,(.pv (.int .i64 (IntKind.wrap IntKind.i64 (i+1)))))] [(.obj (.row false 9 1 (([]:List PV)++PV.asXs (List.getD (PV.cells (enc y0)) (0+1) default))))])))))else(G (((.pv (.sl 0 true [])),([],[]))))):At XP 0 (Zj 0 Xd G) Xf 0 24 [(3,.pv (.sl 0 true [])),(9,.pv (enc p)),(10,.pv (.int .i64 p.length)),(11,.pv (.int .i64 i))] []:=At.to (.lit (.ask (.req (.abs (Mono) (fun YY=>AV.pv (PV.rptr (PV.cells ((enc) YY)))) (.lit (.req (.lit (.ask (.lit (.nil)) (.req (.lit (.nil))))))))) (.lit (.keep (.lit (.keep (.nil))))))) h (by kernel_rfl)
theorem RG{G:AV×List AObj×List AObj->Prop}(p:List Mono)(i:Int)(q:Nat)(xs:List Str)(h:if (decide (i<(↑(List.length p):Int)))=true then(decide (0<=i)&&decide (Int.toNat i<List.length (List.map enc p))&&Enc.sz Mono==2)=true∧(∃ y0:Mono,AV.pv (PV.rptr (PV.cells (List.getD (List.map enc p) (Int.toNat i) default)))=AV.pv (PV.rptr (PV.cells ((enc) y0)))∧((List.isEmpty (PV.asXs (List.getD (PV.cells (enc y0)) (0+1) default))||1==1)=true∧((List.length (List.map enc xs)==q&&q==q&&decide ((q+List.length (PV.asXs (List.getD (PV.cells (enc y0)) (0+1) default)))*16<=1099511627776)&&decide (q+List.length (PV.asXs (List.getD (PV.cells (enc y0)) (0+1) default))<=1099511627776))=true∧(At XP 0 (Zj 0 Xd G) Xf 0 24 [(3,(.row 0 (q+List.length (PV.asXs (List.getD (PV.cells (enc y0)) (0+1) default))) 0 (q+List.length (PV.asXs (List.getD (PV.cells (enc y0)) (0+1) default))))),(9,(.pv (.sl 2 false (List.map enc p)))),(10,(.pv (.int .i64 (↑(List.length p):Int)))),(11,(.pv (.int .i64 (IntKind.wrap IntKind.i64 (i+1)))))] [(.obj (.row false 9 1 (List.map enc xs++PV.asXs (List.getD (PV.cells (enc y0)) (0+1) default))))]))))else((XH [(.row 0 q 0 q)] [(.row false 9 1 (List.map enc xs))])=true∧((XH [(.row 0 q 0 q)] [(.row false 9 1 (List.map PV.str (Xv (List.map Ul (List.map enc xs)))))])=true∧(G (((.row 0 q 0 (List.length (Lib.compact (List.map Ul (List.map PV.str (Xv (List.map Ul (List.map enc xs)))))))),([],[(.row false 9 1 (List.map PV.str (Vn (List.map Ul (List.map PV.str (Xv (List.map Ul (List.map enc xs))))))))]))))))):At XP 0 (Zj 0 Xd G) Xf 0 24 [(3,.row 0 q 0 q),(9,.pv (enc p)),(10,.pv (.int .i64 p.length)),(11,.pv (.int .i64 i))] [.obj (.row false 9 1 (xs.map enc))]:=At.to (.lit (.ask (.req (.abs (Mono) (fun YY=>AV.pv (PV.rptr (PV.cells ((enc) YY)))) (.lit (.req (.req (.lit (.nil))))))) (.req (.keep (.req (.keep (.nil))))))) h (by kernel_rfl)
def Oy:IC:=(.seq (.reg [⟨(some 2),(.box 2 (.t 0)),0,none⟩,⟨(some 3),(.mv (.c (.bool false))),1,none⟩] none) (.seq (.reg [⟨(some 4),(.faddr 0 (.t 2)),0,none⟩,⟨(some 5),(.load false [.str] (.t 4)),0,none⟩,⟨(some 6),(.load false [.str] (.t 1)),0,none⟩,⟨(some 7),(.bin .num .eql (.t 5) (.t 6)),0,none⟩,⟨(some 3),(.mv (.t 7)),0,none⟩] none) .ret))
def EO:List IRes:=[(.tmp 3)]
abbrev c3s:Nat:=8
def b5d:ZC:=Xn []
theorem c8s{G:AV×List AObj×List AObj->Prop}(x:Coef)(v:List UInt8)(h:G (((.pv (.bool (Str.s x.v==v))),([(.box [(.pv (.str v))])],[])))):Zc b5d 1 (Zj 1 EO G) Oy [] (YH 8 [.pv (enc x),.ptr 0 0] [.box [.pv (.str v)]]):=Zc.to (.lit (.nil)) h (by kernel_rfl)
def JN:IC:=Q8
def JL:List IRes:=[(.tmp 4)]
abbrev c3z:Nat:=19
def Sj:ZC:=Xn [(188,.own Gp Cj)]
theorem c8w{G:AV×List AObj×List AObj->Prop}(l:List Coef)(v:List UInt8)(h:At Sj 1 (Zj 1 JL G) JN 0 19 [(0,(.pv (.sl 2 false (List.map enc l)))),(1,(.fn 188 [] [(.ptr 0 0)])),(7,(.pv (.int .i64 (↑(List.length (List.map enc l)):Int)))),(8,(.pv (.int .i64 0)))] [(.obj (.box [(.pv (.str v))]))]):Zc Sj 1 (Zj 1 JL G) JN [] (YH 19 [.pv (enc l),.fn 188 [] [.ptr 0 0]] [.box [.pv (.str v)]]):=Zc.to (.nil) h (by kernel_rfl)
theorem b6h{G:AV×List AObj×List AObj->Prop}(l:List Coef)(v:List UInt8)(i:Int)(h:if (decide (i<(↑(List.length l):Int)))=true then(decide (0<=i)&&decide (Int.toNat i<List.length (List.map enc l))&&Enc.sz Coef==2)=true∧(∃ y0:Coef,AV.pv (PV.rptr (PV.cells (List.getD (List.map enc l) (Int.toNat i) default)))=AV.pv (PV.rptr (PV.cells ((enc) y0)))∧((Gp [(.pv (.agg [(.str (PV.asStr (List.getD (PV.cells (enc y0)) 0 default))),(.int .i64 (PV.asInt (List.getD (PV.cells (enc y0)) (0+1) default)))])),(.ptr 0 0)] [(.box [(.pv (.str v))])])=true∧(if (Str.s (Coef.v (dec (PV.agg (Qt (PV.cells (enc y0)) 0 [Sh.str,Sh.int .i64]))))==v)=true then G (((.pv (.int .i64 i)),([(.box [(.pv (.str v))])],[])))else(At Sj 1 (Zj 1 JL G) JN 0 19 [(0,(.pv (.sl 2 false (List.map enc l)))),(1,(.fn 188 [] [(.ptr 0 0)])),(7,(.pv (.int .i64 (↑(List.length l):Int)))),(8,(.pv (.int .i64 (IntKind.wrap IntKind.i64 (i+1)))))] [(.obj (.box [(.pv (.str v))]))]))))else(G (((.pv (.int .i64 (-1))),([(.box [(.pv (.str v))])],[]))))):At Sj 1 (Zj 1 JL G) JN 0 19 [(0,.pv (enc l)),(1,.fn 188 [] [.ptr 0 0]),(7,.pv (.int .i64 l.length)),(8,.pv (.int .i64 i))] [.obj (.box [.pv (.str v)])]:=At.to (.lit (.ask (.req (.abs (Coef) (fun YY=>AV.pv (PV.rptr (PV.cells ((enc) YY)))) (.lit (.req (.keep (.ask (.nil) (.lit (.nil)))))))) (.nil))) h (by kernel_rfl)
def QQ:IC:=(.seq (.reg [⟨(some 4),(.mv (.c (.int .i64 0))),0,none⟩] none) (.seq (.seq (.reg [⟨(some 6),(.mv (.t 0)),0,none⟩,⟨(some 7),(.len 1 (.t 6)),0,none⟩,⟨(some 8),(.mv (.c (.int .i64 0))),0,none⟩] none) (.block 0 (.loop [8,7,1,0] (.seq (.reg [⟨(some 9),(.bin .num .lss (.t 8) (.t 7)),0,none⟩] none) (.seq (.cond (.t 9) .skip (.exit 0)) (.seq (.block 1 (.seq (.reg [⟨(some 10),(.mv (.t 8)),0,none⟩,⟨(some 5),(.mv (.t 10)),0,none⟩] none) (.seq (.reg [⟨(some 11),(.mv (.t 1)),0,none⟩,⟨(some 12),(.mv (.t 0)),0,none⟩,⟨(some 13),(.mv (.t 5)),0,none⟩,⟨(some 14),(.iaddr 1 (.t 12) (.t 13)),0,none⟩,⟨(some 15),(.load false [(.int .i64)] (.t 14)),0,none⟩,⟨(some 16),(.bin .num .eql (.t 11) (.t 15)),0,none⟩] none) (.cond (.t 16) (.seq (.reg [⟨(some 17),(.mv (.t 5)),0,none⟩,⟨(some 4),(.mv (.t 17)),0,none⟩] none) .ret) .skip)))) (.reg [⟨(some 18),(.bin .num .add (.t 8) (.c (.int .i64 1))),0,none⟩,⟨(some 8),(.mv (.t 18)),0,none⟩] none))))))) (.seq (.reg [⟨(some 4),(.mv (.c (.int .i64 (-1)))),0,none⟩] none) .ret)))
def QU:List IRes:=[(.tmp 4)]
abbrev c0f:Nat:=19
def JQ:ZC:=Xn []
theorem c7g{G:PV->Prop}(l:List Int)(n:Int)(h:At JQ 0 (Za QU G) QQ 0 19 [(0,(.pv (.sl 1 false (List.map enc l)))),(1,(.pv (.int .i64 n))),(7,(.pv (.int .i64 (↑(List.length (List.map enc l)):Int)))),(8,(.pv (.int .i64 0)))] []):Zc JQ 0 (Za QU G) QQ [] (YD 19 [enc l,enc n]):=Zc.tp (.nil) h (by kernel_rfl)
theorem a1o{G:PV->Prop}(l:List Int)(n:Int)(i:Int)(h:if (decide (i<(↑(List.length l):Int)))=true then(decide (0<=i)&&decide (Int.toNat i<List.length (List.map enc l))&&Enc.sz Int==1)=true∧(∃ y0:Int,AV.pv (PV.rptr (PV.cells (List.getD (List.map enc l) (Int.toNat i) default)))=AV.pv (PV.rptr (PV.cells ((enc) y0)))∧(if (n==PV.asInt (List.getD (PV.cells (enc y0)) 0 default))=true then G ((.int .i64 i))else(At JQ 0 (Za QU G) QQ 0 19 [(0,(.pv (.sl 1 false (List.map enc l)))),(1,(.pv (.int .i64 n))),(7,(.pv (.int .i64 (↑(List.length l):Int)))),(8,(.pv (.int .i64 (IntKind.wrap IntKind.i64 (i+1)))))] [])))else(G ((.int .i64 (-1))))):At JQ 0 (Za QU G) QQ 0 19 [(0,.pv (enc l)),(1,.pv (enc n)),(7,.pv (.int .i64 l.length)),(8,.pv (.int .i64 i))] []:=At.tp (.lit (.ask (.req (.abs (Int) (fun YY=>AV.pv (PV.rptr (PV.cells ((enc) YY)))) (.lit (.lit (.ask (.nil) (.lit (.nil))))))) (.nil))) h (by kernel_rfl)
def Dk:IC:=(.seq (.reg [⟨(some 4),(.mv (.c (.bool false))),0,none⟩] none) (.seq (.reg [⟨(some 5),(.mv (.t 0)),0,none⟩,⟨(some 6),(.mv (.t 1)),0,none⟩,⟨(some 7),(.call (.c (.fn 284)) [(.t 5),(.t 6)]),0,none⟩,⟨(some 8),(.bin .num .geq (.t 7) (.c (.int .i64 0))),2,none⟩,⟨(some 4),(.mv (.t 8)),2,none⟩] none) .ret))
def Dj:List IRes:=[(.tmp 4)]
abbrev a5v:Nat:=9
def Au:ZC:=Xn [(284,.pure (preT (fun x:List Int×Int×Unit=>Zv x.1)) (Zg (fun x:List Int×Int×Unit=>Zx (fun n:Int=>decide (x.2.1=n)) x.1)))]
theorem a9s{G:PV->Prop}(l:List Int)(n:Int)(h:(Go.Pl.preT (fun(x:List Int×Int×Unit)=>Zv x.1) [(.sl 1 false (List.map enc l)),(.int .i64 n)])=true∧(∃ y0:Int,AV.pv (Zg (fun(x:List Int×Int×Unit)=>Zx (fun(n:Int)=>decide (x.2.1=n)) x.1) [(.sl 1 false (List.map enc l)),(.int .i64 n)])=AV.pv (enc y0)∧(G ((.bool (decide (y0 ≥ 0))))))):Zc Au 0 (Za Dj G) Dk [] (YD 9 [enc l,enc n]):=Zc.tp (.req (.abs (Int) (fun YY=>AV.pv (enc YY)) (.lit (.nil)))) h (by kernel_rfl)
def Uq:IC:=(.seq (.reg [⟨(some 2),(.mv (.c (.int .i64 0))),0,none⟩,⟨(some 3),(.mv (.c (.int .i64 0))),0,none⟩] none) (.seq (.seq (.reg [⟨(some 9),(.mv (.t 0)),0,none⟩,⟨(some 10),(.call (.c (.fn 246)) [(.t 9),(.c (.int .i64 0))]),0,none⟩] none) (.cond (.t 10) (.seq (.reg [⟨(some 2),(.mv (.c (.int .i64 0))),0,none⟩,⟨(some 3),(.mv (.c (.int .i64 0))),0,none⟩] none) .ret) .skip)) (.seq (.reg [⟨(some 4),(.mv (.c (.int .i64 1))),0,none⟩] none) (.seq (.seq (.reg [⟨(some 11),(.mv (.t 0)),0,none⟩,⟨(some 12),(.len 1 (.t 11)),0,none⟩,⟨(some 13),(.mv (.c (.int .i64 0))),0,none⟩] none) (.block 0 (.loop [13,12,11,4] (.seq (.reg [⟨(some 14),(.bin .num .lss (.t 13) (.t 12)),0,none⟩] none) (.seq (.cond (.t 14) .skip (.exit 0)) (.seq (.block 1 (.seq (.reg [⟨(some 15),(.iaddr 1 (.t 11) (.t 13)),0,none⟩,⟨(some 16),(.load false [(.int .i64)] (.t 15)),0,none⟩,⟨(some 6),(.mv (.t 16)),0,none⟩] none) (.seq (.reg [⟨(some 18),(.mv (.t 4)),0,none⟩,⟨(some 19),(.mv (.t 6)),0,none⟩,⟨(some 20),(.call (.c (.fn 247)) [(.t 18),(.t 19)]),0,none⟩,⟨(some 17),(.mv (.t 20)),2,none⟩,⟨(some 21),(.extract (.t 17) 0),2,none⟩,⟨(some 22),(.extract (.t 17) 1),2,none⟩,⟨(some 7),(.mv (.t 21)),2,none⟩,⟨(some 8),(.mv (.t 22)),2,none⟩] none) (.seq (.seq (.reg [⟨(some 23),(.mv (.t 8)),0,none⟩,⟨(some 24),(.bin .num .neq (.t 23) (.c (.int .i64 0))),0,none⟩] none) (.cond (.t 24) (.seq (.reg [⟨(some 25),(.mv (.t 8)),0,none⟩,⟨(some 2),(.mv (.c (.int .i64 0))),0,none⟩,⟨(some 3),(.mv (.t 25)),0,none⟩] none) .ret) .skip)) (.reg [⟨(some 26),(.mv (.t 7)),0,none⟩,⟨(some 4),(.mv (.t 26)),0,none⟩] none))))) (.reg [⟨(some 27),(.bin .num .add (.t 13) (.c (.int .i64 1))),0,none⟩,⟨(some 13),(.mv (.t 27)),0,none⟩] none))))))) (.seq (.reg [⟨(some 28),(.mv (.t 4)),0,none⟩,⟨(some 2),(.mv (.t 28)),0,none⟩,⟨(some 3),(.mv (.c (.int .i64 0))),0,none⟩] none) .ret)))))
def VR:List IRes:=[(.tmp 2),(.tmp 3)]
abbrev a7x:Nat:=29
def UN:ZC:=Xn [(246,.pure (preT (fun x:List Int×Int×Unit=>Zv x.1)) (Zg (fun x:List Int×Int×Unit=>x.1.contains x.2.1))),(247,.pure (preT (fun _:Int×Int×Unit=>true)) (Zg (fun x:Int×Int×Unit=>JZ x.1 x.2.1)))]
theorem b7v{G:PV->Prop}(l:List Int)(h:(Go.Pl.preT (fun(x:List Int×Int×Unit)=>Zv x.1) [(.sl 1 false (List.map enc l)),(.int .i64 0)])=true∧(∃ y0:Bool,AV.pv (Zg (fun(x:List Int×Int×Unit)=>List.contains x.1 x.2.1) [(.sl 1 false (List.map enc l)),(.int .i64 0)])=AV.pv (enc y0)∧(if (y0)=true then G ((.tup [(.int .i64 0),(.int .i64 0)]))else(At UN 0 (Za VR G) Uq 0 29 [(4,(.pv (.int .i64 1))),(11,(.pv (.sl 1 false (List.map enc l)))),(12,(.pv (.int .i64 (↑(List.length (List.map enc l)):Int)))),(13,(.pv (.int .i64 0)))] [])))):Zc UN 0 (Za VR G) Uq [] (YD 29 [enc l]):=Zc.tp (.req (.abs (Bool) (fun YY=>AV.pv (enc YY)) (.ask (.nil) (.nil)))) h (by kernel_rfl)
theorem Ms{G:PV->Prop}(l:List Int)(o i:Int)(h:if (decide (i<(↑(List.length l):Int)))=true then(decide (0<=i)&&decide (Int.toNat i<List.length (List.map enc l))&&Enc.sz Int==1)=true∧(∃ y0:Int,AV.pv (PV.rptr (PV.cells (List.getD (List.map enc l) (Int.toNat i) default)))=AV.pv (PV.rptr (PV.cells ((enc) y0)))∧(∃ y1:Int×Int,AV.pv (Zg (fun(x:Int×Int×Unit)=>JZ x.1 x.2.1) [(.int .i64 o),(.int .i64 (PV.asInt (List.getD (PV.cells (enc y0)) 0 default)))])=AV.pv (enc y1)∧(if (y1.2 != 0)=true then G ((.tup [(.int .i64 0),(.int .i64 y1.2)]))else(At UN 0 (Za VR G) Uq 0 29 [(4,(.pv (.int .i64 y1.1))),(11,(.pv (.sl 1 false (List.map enc l)))),(12,(.pv (.int .i64 (↑(List.length l):Int)))),(13,(.pv (.int .i64 (IntKind.wrap IntKind.i64 (i+1)))))] []))))else(G ((.tup [(.int .i64 o),(.int .i64 0)])))):At UN 0 (Za VR G) Uq 0 29 [(4,.pv (.int .i64 o)),(11,.pv (enc l)),(12,.pv (.int .i64 l.length)),(13,.pv (.int .i64 i))] []:=At.tp (.lit (.ask (.req (.abs (Int) (fun YY=>AV.pv (PV.rptr (PV.cells ((enc) YY)))) (.lit (.lit (.abs (Int×Int) (fun YY=>AV.pv (enc YY)) (.lit (.ask (.nil) (.lit (.nil))))))))) (.nil))) h (by kernel_rfl)
def ZB:IC:=(.seq (.reg [⟨(some 4),(.mv (.c (.int .i64 0))),0,none⟩,⟨(some 5),(.mv (.c (.int .i64 0))),0,none⟩] none) (.seq (.seq (.reg [⟨(some 20),(.mv (.t 0)),0,none⟩,⟨(some 21),(.call (.c (.fn 122)) [(.t 20)]),0,none⟩,⟨(some 22),(.un .not (.t 21)),2,none⟩] none) (.cond (.t 22) (.seq (.reg [⟨(some 4),(.mv (.c (.int .i64 0))),0,none⟩,⟨(some 5),(.mv (.c (.int .i64 1))),0,none⟩] none) .ret) .skip)) (.seq (.reg [⟨(some 6),(.mv (.c (.sl 0 true []))),0,none⟩] none) (.seq (.reg [⟨(some 7),(.mv (.c (.bool false))),0,none⟩] none) (.seq (.seq (.reg [⟨(some 23),(.mv (.t 0)),0,none⟩,⟨(some 24),(.len 1 (.t 23)),0,none⟩,⟨(some 25),(.mv (.c (.int .i64 0))),0,none⟩] none) (.block 0 (.loop [25,24,23,1,7,6] (.seq (.reg [⟨(some 26),(.bin .num .lss (.t 25) (.t 24)),0,none⟩] none) (.seq (.cond (.t 26) .skip (.exit 0)) (.seq (.block 1 (.seq (.reg [⟨(some 27),(.iaddr 2 (.t 23) (.t 25)),0,none⟩,⟨(some 28),(.load true [(.int .i64),(.sl 1)] (.t 27)),0,none⟩,⟨(some 9),(.alloc (.agg [(.int .i64 0),(.sl 0 true [])])),0,none⟩,⟨none,(.store 2 (.t 9) (.t 28)),1,none⟩] none) (.seq (.reg [⟨(some 29),(.faddr 0 (.t 9)),0,none⟩,⟨(some 30),(.load false [(.int .i64)] (.t 29)),0,none⟩,⟨(some 31),(.bslice 3 1 1 (.int .i64 0) [(0,(.t 30))]),0,none⟩,⟨(some 10),(.mv (.t 31)),1,none⟩] none) (.seq (.seq (.reg [⟨(some 32),(.faddr 1 (.t 9)),0,none⟩,⟨(some 33),(.load false [(.sl 1)] (.t 32)),0,none⟩,⟨(some 34),(.len 1 (.t 33)),0,none⟩,⟨(some 35),(.mv (.c (.int .i64 0))),0,none⟩] none) (.block 2 (.loop [35,34,33,1,7,10,6,25,24,23] (.seq (.reg [⟨(some 36),(.bin .num .lss (.t 35) (.t 34)),0,none⟩] none) (.seq (.cond (.t 36) .skip (.exit 2)) (.seq (.block 3 (.seq (.reg [⟨(some 37),(.iaddr 1 (.t 33) (.t 35)),0,none⟩,⟨(some 38),(.load false [.str] (.t 37)),0,none⟩,⟨(some 12),(.alloc (.str [])),0,none⟩,⟨none,(.store 1 (.t 12) (.t 38)),1,none⟩] none) (.seq (.reg [⟨(some 39),(.mv (.t 1)),0,none⟩,⟨(some 40),(.mkfn 188 [] [(.t 12)]),0,none⟩,⟨(some 41),(.call (.c (.fn 109)) [(.t 39),(.t 40)]),0,none⟩,⟨(some 13),(.mv (.t 41)),2,none⟩] none) (.seq (.seq (.reg [⟨(some 42),(.mv (.t 13)),0,none⟩,⟨(some 43),(.bin .num .lss (.t 42) (.c (.int .i64 0))),0,none⟩] none) (.cond (.t 43) (.seq (.reg [⟨(some 4),(.mv (.c (.int .i64 0))),0,none⟩,⟨(some 5),(.mv (.c (.int .i64 7))),0,none⟩] none) .ret) .skip)) (.seq (.reg [⟨(some 44),(.mv (.t 1)),0,none⟩,⟨(some 45),(.mv (.t 13)),0,none⟩,⟨(some 46),(.iaddr 2 (.t 44) (.t 45)),0,none⟩,⟨(some 47),(.faddr 1 (.t 46)),0,none⟩,⟨(some 48),(.load false [(.int .i64)] (.t 47)),0,none⟩,⟨(some 14),(.mv (.t 48)),0,none⟩] none) (.seq (.reg [⟨(some 49),(.mv (.t 7)),0,none⟩,⟨(some 50),(.mv (.t 49)),0,none⟩,⟨(some 51),(.mv (.t 14)),0,(some (50,false))⟩,⟨(some 52),(.bin .num .lss (.t 51) (.c (.int .i64 (-4611686018427387904)))),0,(some (50,false))⟩,⟨(some 53),(.pick (.t 50) (.c (.bool true)) (.t 52)),0,none⟩,⟨(some 54),(.mv (.t 53)),0,none⟩,⟨(some 55),(.mv (.t 14)),0,(some (54,false))⟩,⟨(some 56),(.bin .num .gtr (.t 55) (.c (.int .i64 4611686018427387904))),0,(some (54,false))⟩,⟨(some 57),(.pick (.t 54) (.c (.bool true)) (.t 56)),0,none⟩,⟨(some 7),(.mv (.t 57)),0,none⟩] none) (.reg [⟨(some 58),(.mv (.t 10)),0,none⟩,⟨(some 59),(.mv (.t 14)),0,none⟩,⟨(some 60),(.bslice 3 1 1 (.int .i64 0) [(0,(.t 59))]),0,none⟩,⟨(some 61),(.append 3 1 8 (.t 58) (.t 60)),1,none⟩,⟨(some 10),(.mv (.t 61)),2,none⟩] none))))))) (.reg [⟨(some 62),(.bin .num .add (.t 35) (.c (.int .i64 1))),0,none⟩,⟨(some 35),(.mv (.t 62)),0,none⟩] none))))))) (.reg [⟨(some 63),(.mv (.t 6)),0,none⟩,⟨(some 64),(.mv (.t 10)),0,none⟩,⟨(some 65),(.bslice 34 1 1 (.sl 0 true []) [(0,(.t 64))]),0,none⟩,⟨(some 66),(.append 34 1 24 (.t 63) (.t 65)),1,none⟩,⟨(some 6),(.mv (.t 66)),2,none⟩] none))))) (.reg [⟨(some 67),(.bin .num .add (.t 25) (.c (.int .i64 1))),0,none⟩,⟨(some 25),(.mv (.t 67)),0,none⟩] none))))))) (.seq (.seq (.reg [⟨(some 68),(.mv (.t 7)),0,none⟩] none) (.cond (.t 68) (.seq (.reg [⟨(some 4),(.mv (.c (.int .i64 0))),0,none⟩,⟨(some 5),(.mv (.c (.int .i64 2))),0,none⟩] none) .ret) .skip)) (.seq (.reg [⟨(some 15),(.mv (.c (.sl 0 true []))),0,none⟩] none) (.seq (.seq (.reg [⟨(some 69),(.mv (.t 6)),0,none⟩,⟨(some 70),(.len 1 (.t 69)),0,none⟩,⟨(some 71),(.mv (.c (.int .i64 0))),0,none⟩] none) (.block 4 (.loop [71,70,69,15] (.seq (.reg [⟨(some 72),(.bin .num .lss (.t 71) (.t 70)),0,none⟩] none) (.seq (.cond (.t 72) .skip (.exit 4)) (.seq (.block 5 (.seq (.reg [⟨(some 73),(.iaddr 1 (.t 69) (.t 71)),0,none⟩,⟨(some 74),(.load false [(.sl 1)] (.t 73)),0,none⟩,⟨(some 17),(.mv (.t 74)),0,none⟩] none) (.seq (.reg [⟨(some 76),(.mv (.t 17)),0,none⟩,⟨(some 77),(.call (.c (.fn 189)) [(.t 76)]),0,none⟩,⟨(some 75),(.mv (.t 77)),2,none⟩,⟨(some 78),(.extract (.t 75) 0),2,none⟩,⟨(some 79),(.extract (.t 75) 1),2,none⟩,⟨(some 18),(.mv (.t 78)),2,none⟩,⟨(some 19),(.mv (.t 79)),2,none⟩] none) (.seq (.seq (.reg [⟨(some 80),(.mv (.t 19)),0,none⟩,⟨(some 81),(.bin .num .neq (.t 80) (.c (.int .i64 0))),0,none⟩] none) (.cond (.t 81) (.seq (.reg [⟨(some 4),(.mv (.c (.int .i64 0))),0,none⟩,⟨(some 5),(.mv (.c (.int .i64 2))),0,none⟩] none) .ret) .skip)) (.reg [⟨(some 82),(.mv (.t 15)),0,none⟩,⟨(some 83),(.mv (.t 18)),0,none⟩,⟨(some 84),(.bslice 3 1 1 (.int .i64 0) [(0,(.t 83))]),0,none⟩,⟨(some 85),(.append 3 1 8 (.t 82) (.t 84)),1,none⟩,⟨(some 15),(.mv (.t 85)),2,none⟩] none))))) (.reg [⟨(some 86),(.bin .num .add (.t 71) (.c (.int .i64 1))),0,none⟩,⟨(some 71),(.mv (.t 86)),0,none⟩] none))))))) (.seq (.reg [⟨(some 87),(.mv (.t 15)),0,none⟩,⟨(some 88),(.call (.c (.fn 190)) [(.t 87)]),0,none⟩,⟨(some 89),(.extract (.t 88) 0),2,none⟩,⟨(some 90),(.extract (.t 88) 1),2,none⟩,⟨(some 4),(.mv (.t 89)),2,none⟩,⟨(some 5),(.mv (.t 90)),2,none⟩] none) .ret)))))))))
def ZA:List IRes:=[(.tmp 4),(.tmp 5)]
abbrev b1k:Nat:=91
def ZK:ZC:=Xn [(122,.pure (preT (fun x:List Mono×Unit=>Yd x.1)) (Zg (fun x:List Mono×Unit=>ZY x.1))),(109,.own (VJ 188) CB),(189,.pure (preT (fun x:List Int×Unit=>Zv x.1)) (Zg (fun x:List Int×Unit=>YL x.1))),(190,.pure (preT (fun x:List Int×Unit=>decide (x.1.length<=10000))) (Zg (fun x:List Int×Unit=>WT x.1)))]
theorem b9w{G:PV->Prop}(p:List Mono)(vs:List Coef)(h:(Go.Pl.preT (fun(x:List Mono×Unit)=>Yd x.1) [(.sl 2 false (List.map enc p))])=true∧(∃ y0:Bool,AV.pv (Zg (fun(x:List Mono×Unit)=>ZY x.1) [(.sl 2 false (List.map enc p))])=AV.pv (enc y0)∧(if (!y0)=true then G ((.tup [(.int .i64 0),(.int .i64 1)]))else(At ZK 0 (Za ZA G) ZB 0 91 [(1,(.pv (.sl 2 false (List.map enc vs)))),(6,(.pv (.sl 0 true []))),(7,(.pv (.bool false))),(23,(.pv (.sl 2 false (List.map enc p)))),(24,(.pv (.int .i64 (↑(List.length (List.map enc p)):Int)))),(25,(.pv (.int .i64 0)))] [])))):Zc ZK 0 (Za ZA G) ZB [] (YD 91 [enc p,enc vs]):=Zc.tp (.req (.abs (Bool) (fun YY=>AV.pv (enc YY)) (.ask (.nil) (.nil)))) h (by kernel_rfl)
theorem Ti{G:PV->Prop}(p:List Mono)(vs:List Coef)(bd:Bool)(i:Int)(h:if (decide (i<(↑(List.length p):Int)))=true then(decide (0<=i)&&decide (Int.toNat i<List.length (List.map enc p))&&Enc.sz Mono==2)=true∧(∃ y0:Mono,AV.pv (PV.rptr (PV.cells (List.getD (List.map enc p) (Int.toNat i) default)))=AV.pv (PV.rptr (PV.cells ((enc) y0)))∧(At ZK 0 (Za ZA G) ZB 1 91 [(1,(.pv (.sl 2 false (List.map enc vs)))),(6,(.pv (.sl 0 true []))),(7,(.pv (.bool bd))),(10,(.row 0 1 0 1)),(23,(.pv (.sl 2 false (List.map enc p)))),(24,(.pv (.int .i64 (↑(List.length p):Int)))),(25,(.pv (.int .i64 i))),(33,(.pv (.sl 1 false (PV.asXs (List.getD (PV.cells (enc y0)) (0+1) default))))),(34,(.pv (.int .i64 (↑(List.length (PV.asXs (List.getD (PV.cells (enc y0)) (0+1) default))):Int)))),(35,(.pv (.int .i64 0)))] [(.obj (.row false 3 1 [(.int .i64 (PV.asInt (List.getD (PV.cells (enc y0)) 0 default)))]))]))else(if (bd)=true then G ((.tup [(.int .i64 0),(.int .i64 2)]))else(At ZK 0 (Za ZA G) ZB 2 91 [(15,(.pv (.sl 0 true []))),(69,(.pv (.sl 0 true []))),(70,(.pv (.int .i64 0))),(71,(.pv (.int .i64 0)))] []))):At ZK 0 (Za ZA G) ZB 0 91 [(6,.pv (.sl 0 true [])),(1,.pv (enc vs)),(7,.pv (.bool bd)),(23,.pv (enc p)),(24,.pv (.int .i64 p.length)),(25,.pv (.int .i64 i))] []:=At.tp (.lit (.ask (.req (.abs (Mono) (fun YY=>AV.pv (PV.rptr (PV.cells ((enc) YY)))) (.lit (.lit (.nil))))) (.ask (.nil) (.nil)))) h (by kernel_rfl)
theorem TI{G:PV->Prop}(p:List Mono)(vs:List Coef)(bd:Bool)(i:Int)(q:Nat)(fs:List (List Int))(h:if (decide (i<(↑(List.length p):Int)))=true then(decide (0<=i)&&decide (Int.toNat i<List.length (List.map enc p))&&Enc.sz Mono==2)=true∧(∃ y0:Mono,AV.pv (PV.rptr (PV.cells (List.getD (List.map enc p) (Int.toNat i) default)))=AV.pv (PV.rptr (PV.cells ((enc) y0)))∧(At ZK 0 (Za ZA G) ZB 1 91 [(1,(.pv (.sl 2 false (List.map enc vs)))),(6,(.row 0 q 0 q)),(7,(.pv (.bool bd))),(10,(.row 1 1 0 1)),(23,(.pv (.sl 2 false (List.map enc p)))),(24,(.pv (.int .i64 (↑(List.length p):Int)))),(25,(.pv (.int .i64 i))),(33,(.pv (.sl 1 false (PV.asXs (List.getD (PV.cells (enc y0)) (0+1) default))))),(34,(.pv (.int .i64 (↑(List.length (PV.asXs (List.getD (PV.cells (enc y0)) (0+1) default))):Int)))),(35,(.pv (.int .i64 0)))] [(.obj (.row false 34 1 (List.map enc fs))),(.obj (.row false 3 1 [(.int .i64 (PV.asInt (List.getD (PV.cells (enc y0)) 0 default)))]))]))else(if (bd)=true then G ((.tup [(.int .i64 0),(.int .i64 2)]))else(At ZK 0 (Za ZA G) ZB 2 91 [(15,(.pv (.sl 0 true []))),(69,(.row 0 q 0 q)),(70,(.pv (.int .i64 (↑(q - 0):Int)))),(71,(.pv (.int .i64 0)))] [(.obj (.row false 34 1 (List.map enc fs)))]))):At ZK 0 (Za ZA G) ZB 0 91 [(6,.row 0 q 0 q),(1,.pv (enc vs)),(7,.pv (.bool bd)),(23,.pv (enc p)),(24,.pv (.int .i64 p.length)),(25,.pv (.int .i64 i))] [.obj (.row false 34 1 (fs.map enc))]:=At.tp (.lit (.ask (.req (.abs (Mono) (fun YY=>AV.pv (PV.rptr (PV.cells ((enc) YY)))) (.lit (.lit (.nil))))) (.ask (.nil) (.nil)))) h (by kernel_rfl)
theorem Ry{G:PV->Prop}(p:List Mono)(vs:List Coef)(bd:Bool)(i j:Int)(ns:List Str)(r:Nat)(l:List Int)(h:if (decide (j<(↑(List.length ns):Int)))=true then(decide (0<=j)&&decide (Int.toNat j<List.length (List.map enc ns))&&Enc.sz Str==1)=true∧(∃ y0:Str,AV.pv (PV.rptr (PV.cells (List.getD (List.map enc ns) (Int.toNat j) default)))=AV.pv (PV.rptr (PV.cells ((enc) y0)))∧((VJ 188 [(.pv (.sl 2 false (List.map enc vs))),(.fn 188 [] [(.ptr 0 0)])] [(.box [(.pv (.str (PV.asStr (List.getD (PV.cells (enc y0)) 0 default))))])])=true∧(if (decide (Zx (fun(t:Coef)=>Str.s t.v==PV.asStr (List.getD (PV.cells (enc y0)) 0 default)) (QY (enc vs))<0))=true then G ((.tup [(.int .i64 0),(.int .i64 7)]))else((decide (0<=Zx (fun(t:Coef)=>Str.s t.v==PV.asStr (List.getD (PV.cells (enc y0)) 0 default)) (QY (enc vs)))&&decide (Int.toNat (Zx (fun(t:Coef)=>Str.s t.v==PV.asStr (List.getD (PV.cells (enc y0)) 0 default)) (QY (enc vs)))<List.length (List.map enc vs))&&Enc.sz Coef==2)=true∧(∃ y1:Coef,AV.pv (PV.rptr (PV.cells (List.getD (List.map enc vs) (Int.toNat (Zx (fun(t:Coef)=>Str.s t.v==PV.asStr (List.getD (PV.cells (enc y0)) 0 default)) (QY (enc vs)))) default)))=AV.pv (PV.rptr (PV.cells ((enc) y1)))∧(if (bd)=true then(List.length (List.map enc l)==r&&r==r&&decide ((r+List.length (List.drop 0 (List.take 1 [Sh.co (Sh.int .i64) (List.getD (List.drop 1 (PV.cells (enc y1))) 0 default)])))*8<=1099511627776)&&decide (r+List.length (List.drop 0 (List.take 1 [Sh.co (Sh.int .i64) (List.getD (List.drop 1 (PV.cells (enc y1))) 0 default)]))<=1099511627776))=true∧(At ZK 0 (Za ZA G) ZB 1 91 [(1,(.pv (.sl 2 false (List.map enc vs)))),(6,(.pv (.sl 0 true []))),(7,(.pv (.bool true))),(10,(.row 0 (r+List.length (List.drop 0 (List.take 1 [Sh.co (Sh.int .i64) (List.getD (List.drop 1 (PV.cells (enc y1))) 0 default)]))) 0 (r+List.length (List.drop 0 (List.take 1 [Sh.co (Sh.int .i64) (List.getD (List.drop 1 (PV.cells (enc y1))) 0 default)]))))),(23,(.pv (.sl 2 false (List.map enc p)))),(24,(.pv (.int .i64 (↑(List.length p):Int)))),(25,(.pv (.int .i64 i))),(33,(.pv (.sl 1 false (List.map enc ns)))),(34,(.pv (.int .i64 (↑(List.length ns):Int)))),(35,(.pv (.int .i64 (IntKind.wrap IntKind.i64 (j+1)))))] [(.obj (.row false 3 1 (List.map enc l++List.drop 0 (List.take 1 [Sh.co (Sh.int .i64) (List.getD (List.drop 1 (PV.cells (enc y1))) 0 default)]))))])else(if (decide (PV.asInt (List.getD (List.drop 1 (PV.cells (enc y1))) 0 default)<(-4611686018427387904:Int)))=true then(List.length (List.map enc l)==r&&r==r&&decide ((r+List.length (List.drop 0 (List.take 1 [Sh.co (Sh.int .i64) (List.getD (List.drop 1 (PV.cells (enc y1))) 0 default)])))*8<=1099511627776)&&decide (r+List.length (List.drop 0 (List.take 1 [Sh.co (Sh.int .i64) (List.getD (List.drop 1 (PV.cells (enc y1))) 0 default)]))<=1099511627776))=true∧(At ZK 0 (Za ZA G) ZB 1 91 [(1,(.pv (.sl 2 false (List.map enc vs)))),(6,(.pv (.sl 0 true []))),(7,(.pv (.bool true))),(10,(.row 0 (r+List.length (List.drop 0 (List.take 1 [Sh.co (Sh.int .i64) (List.getD (List.drop 1 (PV.cells (enc y1))) 0 default)]))) 0 (r+List.length (List.drop 0 (List.take 1 [Sh.co (Sh.int .i64) (List.getD (List.drop 1 (PV.cells (enc y1))) 0 default)]))))),(23,(.pv (.sl 2 false (List.map enc p)))),(24,(.pv (.int .i64 (↑(List.length p):Int)))),(25,(.pv (.int .i64 i))),(33,(.pv (.sl 1 false (List.map enc ns)))),(34,(.pv (.int .i64 (↑(List.length ns):Int)))),(35,(.pv (.int .i64 (IntKind.wrap IntKind.i64 (j+1)))))] [(.obj (.row false 3 1 (List.map enc l++List.drop 0 (List.take 1 [Sh.co (Sh.int .i64) (List.getD (List.drop 1 (PV.cells (enc y1))) 0 default)]))))])else((List.length (List.map enc l)==r&&r==r&&decide ((r+List.length (List.drop 0 (List.take 1 [Sh.co (Sh.int .i64) (List.getD (List.drop 1 (PV.cells (enc y1))) 0 default)])))*8<=1099511627776)&&decide (r+List.length (List.drop 0 (List.take 1 [Sh.co (Sh.int .i64) (List.getD (List.drop 1 (PV.cells (enc y1))) 0 default)]))<=1099511627776))=true∧(At ZK 0 (Za ZA G) ZB 1 91 [(1,(.pv (.sl 2 false (List.map enc vs)))),(6,(.pv (.sl 0 true []))),(7,(.pv (.bool (decide (PV.asInt (List.getD (List.drop 1 (PV.cells (enc y1))) 0 default)>4611686018427387904))))),(10,(.row 0 (r+List.length (List.drop 0 (List.take 1 [Sh.co (Sh.int .i64) (List.getD (List.drop 1 (PV.cells (enc y1))) 0 default)]))) 0 (r+List.length (List.drop 0 (List.take 1 [Sh.co (Sh.int .i64) (List.getD (List.drop 1 (PV.cells (enc y1))) 0 default)]))))),(23,(.pv (.sl 2 false (List.map enc p)))),(24,(.pv (.int .i64 (↑(List.length p):Int)))),(25,(.pv (.int .i64 i))),(33,(.pv (.sl 1 false (List.map enc ns)))),(34,(.pv (.int .i64 (↑(List.length ns):Int)))),(35,(.pv (.int .i64 (IntKind.wrap IntKind.i64 (j+1)))))] [(.obj (.row false 3 1 (List.map enc l++List.drop 0 (List.take 1 [Sh.co (Sh.int .i64) (List.getD (List.drop 1 (PV.cells (enc y1))) 0 default)]))))])))))))))else((List.length (List.map enc l)==r)=true∧(At ZK 0 (Za ZA G) ZB 0 91 [(1,(.pv (.sl 2 false (List.map enc vs)))),(6,(.row 0 1 0 1)),(7,(.pv (.bool bd))),(23,(.pv (.sl 2 false (List.map enc p)))),(24,(.pv (.int .i64 (↑(List.length p):Int)))),(25,(.pv (.int .i64 (IntKind.wrap IntKind.i64 (i+1)))))] [(.obj (.row false 34 1 [(.sl 1 false (List.drop 0 (List.take r (List.map enc l))))]))]))):At ZK 0 (Za ZA G) ZB 1 91 [(6,.pv (.sl 0 true [])),(1,.pv (enc vs)),(7,.pv (.bool bd)),(23,.pv (enc p)),(24,.pv (.int .i64 p.length)),(25,.pv (.int .i64 i)),(33,.pv (enc ns)),(34,.pv (.int .i64 ns.length)),(35,.pv (.int .i64 j)),(10,.row 0 r 0 r)] [.obj (.row false 3 1 (l.map enc))]:=At.tp (.lit (.ask (.req (.abs (Str) (fun YY=>AV.pv (PV.rptr (PV.cells ((enc) YY)))) (.lit (.req (.keep (.lit (.ask (.nil) (.req (.abs (Coef) (fun YY=>AV.pv (PV.rptr (PV.cells ((enc) YY)))) (.lit (.ask (.lit (.lit (.lit (.lit (.lit (.lit (.lit (.req (.lit (.nil)))))))))) (.lit (.lit (.lit (.ask (.lit (.lit (.lit (.lit (.req (.lit (.nil))))))) (.lit (.lit (.lit (.lit (.lit (.req (.lit (.nil))))))))))))))))))))))) (.req (.lit (.lit (.lit (.lit (.lit (.lit (.nil)))))))))) h (by kernel_rfl)
theorem TP{G:PV->Prop}(p:List Mono)(vs:List Coef)(bd:Bool)(i j:Int)(ns:List Str)(r:Nat)(l:List Int)(q:Nat)(fs:List (List Int))(h:if (decide (j<(↑(List.length ns):Int)))=true then(decide (0<=j)&&decide (Int.toNat j<List.length (List.map enc ns))&&Enc.sz Str==1)=true∧(∃ y0:Str,AV.pv (PV.rptr (PV.cells (List.getD (List.map enc ns) (Int.toNat j) default)))=AV.pv (PV.rptr (PV.cells ((enc) y0)))∧((VJ 188 [(.pv (.sl 2 false (List.map enc vs))),(.fn 188 [] [(.ptr 0 0)])] [(.box [(.pv (.str (PV.asStr (List.getD (PV.cells (enc y0)) 0 default))))])])=true∧(if (decide (Zx (fun(t:Coef)=>Str.s t.v==PV.asStr (List.getD (PV.cells (enc y0)) 0 default)) (QY (enc vs))<0))=true then G ((.tup [(.int .i64 0),(.int .i64 7)]))else((decide (0<=Zx (fun(t:Coef)=>Str.s t.v==PV.asStr (List.getD (PV.cells (enc y0)) 0 default)) (QY (enc vs)))&&decide (Int.toNat (Zx (fun(t:Coef)=>Str.s t.v==PV.asStr (List.getD (PV.cells (enc y0)) 0 default)) (QY (enc vs)))<List.length (List.map enc vs))&&Enc.sz Coef==2)=true∧(∃ y1:Coef,AV.pv (PV.rptr (PV.cells (List.getD (List.map enc vs) (Int.toNat (Zx (fun(t:Coef)=>Str.s t.v==PV.asStr (List.getD (PV.cells (enc y0)) 0 default)) (QY (enc vs)))) default)))=AV.pv (PV.rptr (PV.cells ((enc) y1)))∧(if (bd)=true then(List.length (List.map enc l)==r&&r==r&&decide ((r+List.length (List.drop 0 (List.take 1 [Sh.co (Sh.int .i64) (List.getD (List.drop 1 (PV.cells (enc y1))) 0 default)])))*8<=1099511627776)&&decide (r+List.length (List.drop 0 (List.take 1 [Sh.co (Sh.int .i64) (List.getD (List.drop 1 (PV.cells (enc y1))) 0 default)]))<=1099511627776))=true∧(At ZK 0 (Za ZA G) ZB 1 91 [(1,(.pv (.sl 2 false (List.map enc vs)))),(6,(.row 0 q 0 q)),(7,(.pv (.bool true))),(10,(.row 1 (r+List.length (List.drop 0 (List.take 1 [Sh.co (Sh.int .i64) (List.getD (List.drop 1 (PV.cells (enc y1))) 0 default)]))) 0 (r+List.length (List.drop 0 (List.take 1 [Sh.co (Sh.int .i64) (List.getD (List.drop 1 (PV.cells (enc y1))) 0 default)]))))),(23,(.pv (.sl 2 false (List.map enc p)))),(24,(.pv (.int .i64 (↑(List.length p):Int)))),(25,(.pv (.int .i64 i))),(33,(.pv (.sl 1 false (List.map enc ns)))),(34,(.pv (.int .i64 (↑(List.length ns):Int)))),(35,(.pv (.int .i64 (IntKind.wrap IntKind.i64 (j+1)))))] [(.obj (.row false 34 1 (List.map enc fs))),(.obj (.row false 3 1 (List.map enc l++List.drop 0 (List.take 1 [Sh.co (Sh.int .i64) (List.getD (List.drop 1 (PV.cells (enc y1))) 0 default)]))))])else(if (decide (PV.asInt (List.getD (List.drop 1 (PV.cells (enc y1))) 0 default)<(-4611686018427387904:Int)))=true then(List.length (List.map enc l)==r&&r==r&&decide ((r+List.length (List.drop 0 (List.take 1 [Sh.co (Sh.int .i64) (List.getD (List.drop 1 (PV.cells (enc y1))) 0 default)])))*8<=1099511627776)&&decide (r+List.length (List.drop 0 (List.take 1 [Sh.co (Sh.int .i64) (List.getD (List.drop 1 (PV.cells (enc y1))) 0 default)]))<=1099511627776))=true∧(At ZK 0 (Za ZA G) ZB 1 91 [(1,(.pv (.sl 2 false (List.map enc vs)))),(6,(.row 0 q 0 q)),(7,(.pv (.bool true))),(10,(.row 1 (r+List.length (List.drop 0 (List.take 1 [Sh.co (Sh.int .i64) (List.getD (List.drop 1 (PV.cells (enc y1))) 0 default)]))) 0 (r+List.length (List.drop 0 (List.take 1 [Sh.co (Sh.int .i64) (List.getD (List.drop 1 (PV.cells (enc y1))) 0 default)]))))),(23,(.pv (.sl 2 false (List.map enc p)))),(24,(.pv (.int .i64 (↑(List.length p):Int)))),(25,(.pv (.int .i64 i))),(33,(.pv (.sl 1 false (List.map enc ns)))),(34,(.pv (.int .i64 (↑(List.length ns):Int)))),(35,(.pv (.int .i64 (IntKind.wrap IntKind.i64 (j+1)))))] [(.obj (.row false 34 1 (List.map enc fs))),(.obj (.row false 3 1 (List.map enc l++List.drop 0 (List.take 1 [Sh.co (Sh.int .i64) (List.getD (List.drop 1 (PV.cells (enc y1))) 0 default)]))))])else((List.length (List.map enc l)==r&&r==r&&decide ((r+List.length (List.drop 0 (List.take 1 [Sh.co (Sh.int .i64) (List.getD (List.drop 1 (PV.cells (enc y1))) 0 default)])))*8<=1099511627776)&&decide (r+List.length (List.drop 0 (List.take 1 [Sh.co (Sh.int .i64) (List.getD (List.drop 1 (PV.cells (enc y1))) 0 default)]))<=1099511627776))=true∧(At ZK 0 (Za ZA G) ZB 1 91 [(1,(.pv (.sl 2 false (List.map enc vs)))),(6,(.row 0 q 0 q)),(7,(.pv (.bool (decide (PV.asInt (List.getD (List.drop 1 (PV.cells (enc y1))) 0 default)>4611686018427387904))))),(10,(.row 1 (r+List.length (List.drop 0 (List.take 1 [Sh.co (Sh.int .i64) (List.getD (List.drop 1 (PV.cells (enc y1))) 0 default)]))) 0 (r+List.length (List.drop 0 (List.take 1 [Sh.co (Sh.int .i64) (List.getD (List.drop 1 (PV.cells (enc y1))) 0 default)]))))),(23,(.pv (.sl 2 false (List.map enc p)))),(24,(.pv (.int .i64 (↑(List.length p):Int)))),(25,(.pv (.int .i64 i))),(33,(.pv (.sl 1 false (List.map enc ns)))),(34,(.pv (.int .i64 (↑(List.length ns):Int)))),(35,(.pv (.int .i64 (IntKind.wrap IntKind.i64 (j+1)))))] [(.obj (.row false 34 1 (List.map enc fs))),(.obj (.row false 3 1 (List.map enc l++List.drop 0 (List.take 1 [Sh.co (Sh.int .i64) (List.getD (List.drop 1 (PV.cells (enc y1))) 0 default)]))))])))))))))else((List.length (List.map enc l)==r)=true∧((List.length (List.map enc fs)==q&&q==q&&decide ((q+List.length (List.drop 0 (List.take 1 [PV.sl 1 false (List.drop 0 (List.take r (List.map enc l)))])))*24<=1099511627776)&&decide (q+List.length (List.drop 0 (List.take 1 [PV.sl 1 false (List.drop 0 (List.take r (List.map enc l)))]))<=1099511627776))=true∧(At ZK 0 (Za ZA G) ZB 0 91 [(1,(.pv (.sl 2 false (List.map enc vs)))),(6,(.row 0 (q+List.length (List.drop 0 (List.take 1 [PV.sl 1 false (List.drop 0 (List.take r (List.map enc l)))]))) 0 (q+List.length (List.drop 0 (List.take 1 [PV.sl 1 false (List.drop 0 (List.take r (List.map enc l)))]))))),(7,(.pv (.bool bd))),(23,(.pv (.sl 2 false (List.map enc p)))),(24,(.pv (.int .i64 (↑(List.length p):Int)))),(25,(.pv (.int .i64 (IntKind.wrap IntKind.i64 (i+1)))))] [(.obj (.row false 34 1 (List.map enc fs++List.drop 0 (List.take 1 [PV.sl 1 false (List.drop 0 (List.take r (List.map enc l)))]))))])))):At ZK 0 (Za ZA G) ZB 1 91 [(6,.row 0 q 0 q),(1,.pv (enc vs)),(7,.pv (.bool bd)),(23,.pv (enc p)),(24,.pv (.int .i64 p.length)),(25,.pv (.int .i64 i)),(33,.pv (enc ns)),(34,.pv (.int .i64 ns.length)),(35,.pv (.int .i64 j)),(10,.row 1 r 0 r)] [.obj (.row false 34 1 (fs.map enc)),.obj (.row false 3 1 (l.map enc))]:=At.tp (.lit (.ask (.req (.abs (Str) (fun YY=>AV.pv (PV.rptr (PV.cells ((enc) YY)))) (.lit (.req (.keep (.lit (.ask (.nil) (.req (.abs (Coef) (fun YY=>AV.pv (PV.rptr (PV.cells ((enc) YY)))) (.lit (.ask (.lit (.lit (.lit (.lit (.lit (.lit (.lit (.req (.lit (.nil)))))))))) (.lit (.lit (.lit (.ask (.lit (.lit (.lit (.lit (.req (.lit (.nil))))))) (.lit (.lit (.lit (.lit (.lit (.req (.lit (.nil))))))))))))))))))))))) (.req (.lit (.lit (.req (.lit (.nil)))))))) h (by kernel_rfl)
theorem a7l{G:PV->Prop}(p:List Mono)(vs:List Coef)(i:Int)(q:Nat)(fs:List (List Int))(h:if (decide (i<(↑q:Int)))=true then(decide (0<=i)&&decide (0+Int.toNat i<q)&&List.length (List.map enc fs)==q)=true∧((List.length (List.map enc fs)==q&&decide (0+Int.toNat i<List.length (List.map enc fs)))=true∧((decide (0+List.length [Sh.sl 1]<=List.length (PV.cells (List.getD (List.map enc fs) (0+Int.toNat i) default)))&&XL (PV.cells (List.getD (List.map enc fs) (0+Int.toNat i) default)) 0 [Sh.sl 1])=true∧((Go.Pl.preT (fun(x:List Int×Unit)=>Zv x.1) [(.sl 1 (PV.asT (List.getD (PV.cells (List.getD (List.map enc fs) (0+Int.toNat i) default)) 0 default)) (PV.asXs (List.getD (PV.cells (List.getD (List.map enc fs) (0+Int.toNat i) default)) 0 default)))])=true∧(∃ y0:Int×Int,AV.pv (Zg (fun(x:List Int×Unit)=>YL x.1) [(.sl 1 (PV.asT (List.getD (PV.cells (List.getD (List.map enc fs) (0+Int.toNat i) default)) 0 default)) (PV.asXs (List.getD (PV.cells (List.getD (List.map enc fs) (0+Int.toNat i) default)) 0 default)))])=AV.pv (enc y0)∧(if (y0.2 != 0)=true then G ((.tup [(.int .i64 0),(.int .i64 2)]))else(At ZK 0 (Za ZA G) ZB 2 91 [(15,(.row 0 1 0 1)),(69,(.row 1 q 0 q)),(70,(.pv (.int .i64 (↑q:Int)))),(71,(.pv (.int .i64 (IntKind.wrap IntKind.i64 (i+1)))))] [(.obj (.row false 3 1 [(.int .i64 y0.1)])),(.obj (.row false 34 1 (List.map enc fs)))]))))))else(∃ y1:Int×Int,AV.pv (Zg (fun(x:List Int×Unit)=>WT x.1) [(.sl 0 true [])])=AV.pv (enc y1)∧(G ((.tup [(.int .i64 y1.1),(.int .i64 y1.2)]))))):At ZK 0 (Za ZA G) ZB 2 91 [(15,.pv (.sl 0 true [])),(69,.row 0 q 0 q),(70,.pv (.int .i64 q)),(71,.pv (.int .i64 i))] [.obj (.row false 34 1 (fs.map enc))]:=At.tp (.lit (.ask (.req (.keep (.req (.req (.req (.abs (Int×Int) (fun YY=>AV.pv (enc YY)) (.lit (.ask (.nil) (.lit (.lit (.lit (.lit (.lit (.lit (.nil))))))))))))))) (.lit (.abs (Int×Int) (fun YY=>AV.pv (enc YY)) (.nil))))) h (by kernel_rfl)
theorem Rb{G:PV->Prop}(p:List Mono)(vs:List Coef)(i:Int)(q:Nat)(fs:List (List Int))(r:Nat)(ps:List Int)(h:if (decide (i<(↑q:Int)))=true then(decide (0<=i)&&decide (0+Int.toNat i<q)&&List.length (List.map enc fs)==q)=true∧((List.length (List.map enc fs)==q&&decide (0+Int.toNat i<List.length (List.map enc fs)))=true∧((decide (0+List.length [Sh.sl 1]<=List.length (PV.cells (List.getD (List.map enc fs) (0+Int.toNat i) default)))&&XL (PV.cells (List.getD (List.map enc fs) (0+Int.toNat i) default)) 0 [Sh.sl 1])=true∧((Go.Pl.preT (fun(x:List Int×Unit)=>Zv x.1) [(.sl 1 (PV.asT (List.getD (PV.cells (List.getD (List.map enc fs) (0+Int.toNat i) default)) 0 default)) (PV.asXs (List.getD (PV.cells (List.getD (List.map enc fs) (0+Int.toNat i) default)) 0 default)))])=true∧(∃ y0:Int×Int,AV.pv (Zg (fun(x:List Int×Unit)=>YL x.1) [(.sl 1 (PV.asT (List.getD (PV.cells (List.getD (List.map enc fs) (0+Int.toNat i) default)) 0 default)) (PV.asXs (List.getD (PV.cells (List.getD (List.map enc fs) (0+Int.toNat i) default)) 0 default)))])=AV.pv (enc y0)∧(if (y0.2 != 0)=true then G ((.tup [(.int .i64 0),(.int .i64 2)]))else((List.length (List.map enc ps)==r&&r==r&&decide ((r+List.length (List.drop 0 (List.take 1 [enc y0.1])))*8<=1099511627776)&&decide (r+List.length (List.drop 0 (List.take 1 [enc y0.1]))<=1099511627776))=true∧(At ZK 0 (Za ZA G) ZB 2 91 [(15,(.row 0 (r+List.length (List.drop 0 (List.take 1 [enc y0.1]))) 0 (r+List.length (List.drop 0 (List.take 1 [enc y0.1]))))),(69,(.row 1 q 0 q)),(70,(.pv (.int .i64 (↑q:Int)))),(71,(.pv (.int .i64 (IntKind.wrap IntKind.i64 (i+1)))))] [(.obj (.row false 3 1 (List.map enc ps++List.drop 0 (List.take 1 [enc y0.1])))),(.obj (.row false 34 1 (List.map enc fs)))])))))))else((List.length (List.map enc ps)==r)=true∧((Go.Pl.preT (fun(x:List Int×Unit)=>decide (List.length x.1<=10000)) [(.sl 1 false (List.drop 0 (List.take r (List.map enc ps))))])=true∧(∃ y1:Int×Int,AV.pv (Zg (fun(x:List Int×Unit)=>WT x.1) [(.sl 1 false (List.drop 0 (List.take r (List.map enc ps))))])=AV.pv (enc y1)∧(G ((.tup [(.int .i64 y1.1),(.int .i64 y1.2)]))))))):At ZK 0 (Za ZA G) ZB 2 91 [(15,.row 0 r 0 r),(69,.row 1 q 0 q),(70,.pv (.int .i64 q)),(71,.pv (.int .i64 i))] [.obj (.row false 3 1 (ps.map enc)),.obj (.row false 34 1 (fs.map enc))]:=At.tp (.lit (.ask (.req (.keep (.req (.req (.req (.abs (Int×Int) (fun YY=>AV.pv (enc YY)) (.lit (.ask (.nil) (.lit (.lit (.req (.lit (.nil))))))))))))) (.req (.req (.abs (Int×Int) (fun YY=>AV.pv (enc YY)) (.nil)))))) h (by kernel_rfl)
theorem a7d{G:PV->Prop}(p:List Mono)(vs:List Coef)(h : ∃ y0:Int×Int,AV.pv (Zg (fun(x:List Int×Unit)=>WT x.1) [(.sl 0 true [])])=AV.pv (enc y0)∧(G ((.tup [(.int .i64 y0.1),(.int .i64 y0.2)])))):At ZK 0 (Za ZA G) ZB 2 91 [(15,.pv (.sl 0 true [])),(69,.pv (.sl 0 true [])),(70,.pv (.int .i64 0)),(71,.pv (.int .i64 0))] []:=At.tp (.lit (.lit (.lit (.abs (Int×Int) (fun YY=>AV.pv (enc YY)) (.nil))))) h (by kernel_rfl)
def CQ:IC:=(.reg [⟨(some 4),(.load false [(.sl 1)] (.t 1)),0,none⟩,⟨(some 5),(.mv (.t 0)),0,none⟩,⟨(some 6),(.bin .num .shr (.t 5) (.c (.int .u64 31))),0,none⟩,⟨(some 7),(.bslice 3 1 1 (.int .i64 0) [(0,(.t 6))]),0,none⟩,⟨(some 8),(.append 3 1 8 (.t 4) (.t 7)),1,none⟩,⟨(some 9),(.load false [(.sl 1)] (.t 2)),2,none⟩,⟨(some 10),(.mv (.t 0)),2,none⟩,⟨(some 11),(.bin .num .and (.t 10) (.c (.int .i64 2147483647))),2,none⟩,⟨(some 12),(.bslice 3 1 1 (.int .i64 0) [(0,(.t 11))]),2,none⟩,⟨(some 13),(.append 3 1 8 (.t 9) (.t 12)),3,none⟩,⟨none,(.store 1 (.t 1) (.t 8)),4,none⟩,⟨none,(.store 1 (.t 2) (.t 13)),4,none⟩] (some [[],[],[1],[2,1],[0,3,2,1],[],[],[6],[7,6],[5,8,4,7,6,0,3,2,1],[4,9,0,1,2,3,5,8,7,6],[9,10,0,1,2,3,4,5,6,7,8]]))
def Cu:List IRes:=[]
abbrev c1n:Nat:=14
def Nn:ZC:=Xn []
theorem c3k{G:AV×List AObj×List AObj->Prop}(n:Int)(h:G (((.tup []),([(.box [(.row 2 1 0 1)]),(.box [(.row 3 1 0 1)])],[(.row false 3 1 [(.int .i64 (Int.fdiv n (2 ^ min (Int.toNat 31) (IntKind.bits IntKind.i64))))]),(.row false 3 1 [(.int .i64 (IntKind.wrap IntKind.i64 (↑(BitVec.toNat (BitVec.ofInt (IntKind.bits IntKind.i64) n &&& BitVec.ofInt (IntKind.bits IntKind.i64) 2147483647)):Int)))])])))):Zc Nn 2 (Zj 2 Cu G) CQ [] (YH 14 [.pv (.int .i64 n),.ptr 0 0,.ptr 1 0] [.box [.pv (.sl 0 true [])],.box [.pv (.sl 0 true [])]]):=Zc.to (.lit (.lit (.lit (.lit (.lit (.lit (.lit (.lit (.lit (.lit (.lit (.lit (.nil))))))))))))) h (by kernel_rfl)
theorem c6g{G:AV×List AObj×List AObj->Prop}(n:Int)(q:Nat)(xs ys:List PV)(h:(List.length xs==q&&q==q&&decide ((q+List.length (List.drop 0 (List.take 1 [PV.int .i64 (Int.fdiv n (2 ^ min (Int.toNat 31) (IntKind.bits IntKind.i64)))])))*8<=1099511627776)&&decide (q+List.length (List.drop 0 (List.take 1 [PV.int .i64 (Int.fdiv n (2 ^ min (Int.toNat 31) (IntKind.bits IntKind.i64)))]))<=1099511627776))=true∧((List.length ys==q&&q==q&&decide ((q+List.length (List.drop 0 (List.take 1 [PV.int .i64 (IntKind.wrap IntKind.i64 (↑(BitVec.toNat (BitVec.ofInt (IntKind.bits IntKind.i64) n &&& BitVec.ofInt (IntKind.bits IntKind.i64) 2147483647)):Int))])))*8<=1099511627776)&&decide (q+List.length (List.drop 0 (List.take 1 [PV.int .i64 (IntKind.wrap IntKind.i64 (↑(BitVec.toNat (BitVec.ofInt (IntKind.bits IntKind.i64) n &&& BitVec.ofInt (IntKind.bits IntKind.i64) 2147483647)):Int))]))<=1099511627776))=true∧(G (((.tup []),([(.box [(.row 2 (q+List.length (List.drop 0 (List.take 1 [PV.int .i64 (Int.fdiv n (2 ^ min (Int.toNat 31) (IntKind.bits IntKind.i64)))]))) 0 (q+List.length (List.drop 0 (List.take 1 [PV.int .i64 (Int.fdiv n (2 ^ min (Int.toNat 31) (IntKind.bits IntKind.i64)))]))))]),(.box [(.row 3 (q+List.length (List.drop 0 (List.take 1 [PV.int .i64 (IntKind.wrap IntKind.i64 (↑(BitVec.toNat (BitVec.ofInt (IntKind.bits IntKind.i64) n &&& BitVec.ofInt (IntKind.bits IntKind.i64) 2147483647)):Int))]))) 0 (q+List.length (List.drop 0 (List.take 1 [PV.int .i64 (IntKind.wrap IntKind.i64 (↑(BitVec.toNat (BitVec.ofInt (IntKind.bits IntKind.i64) n &&& BitVec.ofInt (IntKind.bits IntKind.i64) 2147483647)):Int))]))))]),(.row false 3 1 (xs++List.drop 0 (List.take 1 [PV.int .i64 (Int.fdiv n (2 ^ min (Int.toNat 31) (IntKind.bits IntKind.i64)))]))),(.row false 3 1 (ys++List.drop 0 (List.take 1 [PV.int .i64 (IntKind.wrap IntKind.i64 (↑(BitVec.toNat (BitVec.ofInt (IntKind.bits IntKind.i64) n &&& BitVec.ofInt (IntKind.bits IntKind.i64) 2147483647)):Int))])))],[])))))):Zc Nn 4 (Zj 4 Cu G) CQ [] (YH 14 [.pv (.int .i64 n),.ptr 0 0,.ptr 1 0] [.box [.row 2 q 0 q],.box [.row 3 q 0 q],.row false 3 1 xs,.row false 3 1 ys]):=Zc.to (.lit (.lit (.lit (.req (.lit (.lit (.lit (.req (.nil))))))))) h (by kernel_rfl)
end Go.Pl

namespace Go.Pl
open Go.RowKit
open Enc (enc dec is)
open EncL (encL decL isL)
def UA(p:List Mono)(i:Nat):List Str:=(p.take i).flatMap (·.v)
theorem L8(p:List Mono){i:Nat}(h:i<p.length):UA p (i+1)=UA p i++p[i].v:=by
 unfold UA
 rw[List.take_succ_eq_append_getElem h,List.flatMap_append]
 simp
theorem Pj(p:List Mono)(hp : ∀ m∈p,m.v.length<=8): ∀ i,i<=p.length->(UA p i).length<=8*i:=by
 intro i
 induction i with
 | zero=>intro _;simp[UA]
 | succ i ih=>
  intro hi
  have:=ih (by omega)
  rw[L8 p (by omega),List.length_append]
  have:=hp _ (List.getElem_mem (show i<p.length by omega))
  omega
theorem H5{p:List Mono}(h:ZY p=true):p.length<=60∧ ∀ m∈p,m.v.length<=8:=by
 unfold ZY at h
 simp only[Bool.and_eq_true,decide_eq_true_eq]at h
 refine⟨h.1.1,fun m hm=> ?_⟩
 have:=List.all_eq_true.1 h.1.2 m hm
 unfold WQ at this
 simp only[Bool.and_eq_true,decide_eq_true_eq]at this
 exact this.1.1.2
theorem a9w(l:List Str):List.map Ul (List.map (enc:Str->PV) l)=l.map (·.s):=by
 rw[List.map_map];rfl
theorem c1j(l:List (List UInt8)):List.map Ul (List.map PV.str l)=l:=by
 rw[List.map_map];exact(List.map_congr_left (fun _ _=>rfl)).trans (List.map_id _)
theorem Mv(l:List (List UInt8)):(Xv l).length=l.length:=(List.mergeSort_perm l _).length_eq
def pvW(p:List Mono):AV×List AObj×List AObj:=if (XC p).isEmpty then(.pv (.sl 0 true []),[],[])else R6 [.pv (enc p)] []
theorem Oc(p:List Mono)(hp:ZY p=true): ∀ (k i:Nat),k+i=p.length ->
  if (UA p i).isEmpty then At XP 0 (Zj 0 Xd fun r=>r=pvW p) Xf 0 24 [(3,.pv (.sl 0 true [])),(9,.pv (enc p)),(10,.pv (.int .i64 p.length)),(11,.pv (.int .i64 i))] []
  else At XP 0 (Zj 0 Xd fun r=>r=pvW p) Xf 0 24 [(3,.row 0 (UA p i).length 0 (UA p i).length),(9,.pv (enc p)),(10,.pv (.int .i64 p.length)),(11,.pv (.int .i64 i))] [.obj (.row false 9 1 ((UA p i).map enc))]:=by
 obtain⟨hl,hm⟩:=H5 hp
 intro k
 induction k with
 | zero=>
  intro i hi
  obtain rfl:i=p.length:=by omega
  have e:UA p p.length=XC p:=by unfold UA XC;rw[List.take_length]
  rw[e]
  cases hc:(XC p).isEmpty
  ·rw[if_neg (by simp)]
   have hlen:(XC p).length<=480:=by have:=Pj p hm p.length (Nat.le_refl _);rw[e]at this;omega
   refine RG p p.length _ (XC p) (Z8 (Yc (by omega)) ⟨?_,?_,?_⟩)
   ·show((XC p).length==((XC p).map (enc:Str->PV)).length&&(XC p).length==(XC p).length&&((XC p).map (enc:Str->PV)).all J6&&decide ((XC p).length<4611686018427387904))=true
    have:((XC p).map (enc:Str->PV)).all J6=true:=by rw[List.all_map];exact List.all_eq_true.2 fun _ _=>rfl
    rw[this,List.length_map,decide_eq_true (by omega)];simp
   ·rw[a9w]
    show((XC p).length==((Xv ((XC p).map (·.s))).map PV.str).length&&(XC p).length==(XC p).length&&((Xv ((XC p).map (·.s))).map PV.str).all J6&&decide ((XC p).length<4611686018427387904))=true
    have:((Xv ((XC p).map (·.s))).map PV.str).all J6=true:=by rw[List.all_map];exact List.all_eq_true.2 fun _ _=>rfl
    rw[this,List.length_map,Mv,List.length_map,decide_eq_true (by omega)];simp
   ·rw[a9w,c1j]
    unfold pvW
    rw[hc,if_neg (by simp)]
    show _=(AV.row 0 (Xe (dec (enc p:PV))).length 0 (Lib.compact (Xe (dec (enc p:PV)))).length,[],[AObj.row false 9 1 ((Vn (Xe (dec (enc p:PV)))).map .str)])
    rw[Enc.dec_enc]
    have:(Xe p).length=(XC p).length:=by unfold Xe;rw[Mv,List.length_map]
    rw[this]
    rfl
  ·rw[if_pos rfl]
   refine Ro p p.length (Z8 (Yc (by omega)) ?_)
   unfold pvW
   rw[hc,if_pos rfl]
 | succ k ih=>
  intro i hi
  have hlt:i<p.length:=by omega
  have h1:=ih (i+1) (by omega)
  have hmi:=hm _ (List.getElem_mem hlt)
  have hoi:=Pj p hm i (by omega)
  rw[L8 p hlt]at h1
  cases hc:(UA p i).isEmpty
  ·rw[if_neg (by simp)]
   have hc2:(UA p i++p[i].v).isEmpty=false:=by
    rw[List.isEmpty_eq_false_iff]at hc ⊢
    simp[hc]
   rw[hc2,if_neg (by simp)]at h1
   refine RG p i _ (UA p i) (Ya (Z4 hlt) ⟨ZG hlt rfl,Z0 hlt ⟨by simp,?_,?_⟩⟩)
   ·show(((UA p i).map (enc:Str->PV)).length==(UA p i).length&&(UA p i).length==(UA p i).length&&decide (((UA p i).length+(p[i].v.map (enc:Str->PV)).length)*16<=1099511627776)&&decide ((UA p i).length+(p[i].v.map (enc:Str->PV)).length<=1099511627776))=true
    rw[List.length_map,List.length_map,decide_eq_true (by omega),decide_eq_true (by omega)];simp
   ·rw[next (by omega)]
    rw[List.length_append,List.map_append]at h1
    have e:(PV.asXs (List.getD (PV.cells (enc p[i])) (0+1) default)).length=p[i].v.length:=by
     show(p[i].v.map (enc:Str->PV)).length=_
     rw[List.length_map]
    rw[e]
    exact h1
  ·rw[if_pos rfl]
   have hnil:UA p i=[]:=List.isEmpty_iff.1 hc
   rw[hnil,List.nil_append]at h1
   refine Ro p i (Ya (Z4 hlt) ⟨ZG hlt rfl,Z0 hlt ⟨by simp,?_⟩⟩)
   show if (p[i].v.map (enc:Str->PV)).isEmpty=true then _ else _
   rw[List.isEmpty_map]
   cases hv:p[i].v.isEmpty
   ·rw[hv,if_neg (by simp)]at h1
    refine Z8 (by simp) ⟨?_,?_⟩
    ·show((List.isEmpty ([]:List PV)||0==1)&&decide ((List.length ([]:List PV)+(p[i].v.map (enc:Str->PV)).length)*16<=1099511627776)&&decide (List.length ([]:List PV)+(p[i].v.map (enc:Str->PV)).length<=1099511627776))=true
     rw[List.length_map,decide_eq_true (by simp;omega),decide_eq_true (by simp;omega)];rfl
    ·rw[next (by omega)]
     have e:List.length ([]:List PV)+(PV.asXs (List.getD (PV.cells (enc p[i])) (0+1) default)).length=p[i].v.length:=by
      show 0+(p[i].v.map (enc:Str->PV)).length=_
      rw[List.length_map,Nat.zero_add]
     rw[e]
     exact h1
   ·rw[hv,if_pos rfl]at h1
    refine Ya rfl ?_
    rw[next (by omega)]
    exact h1
theorem TT(p:List Mono)(hs:Yd p=true)(hp:ZY p=true):Zc XP 0 (Zj 0 Xd fun r=>r=pvW p) Xf [] (YH Bi [.pv (enc p)] []):=by
 refine a2g p ⟨Zh (p,()) rfl hs,Ze (p,()) rfl (Z8 (by simp[hp]) ?_)⟩
 rw[List.length_map]
 have:=Oc p hp p.length 0 (by omega)
 rw[show(UA p 0).isEmpty=true from rfl,if_pos rfl]at this
 exact this
theorem EH: ∀ args os,UO args os=true->Zc XP os.length (Zj os.length Xd fun r=>r=R6 args os) Xf [] (YH Bi args os):=by
 intro args os h
 unfold UO at h
 split at h
 ·rename_i a
  simp only[Bool.and_eq_true,Bool.not_eq_true']at h
  obtain⟨⟨⟨h1,h2⟩,h3⟩,h4⟩:=h
  obtain⟨p,rfl⟩:=Ym h1
  rw[Enc.dec_enc]at h2 h3 h4
  have:=TT p h2 h3
  unfold pvW at this
  rw[h4,if_neg (by simp)]at this
  exact this
 ·cases h
theorem EZ: ∀ args os,K7 args os=true->Zc XP os.length (Zj os.length Xd fun r=>r=CF args os) Xf [] (YH Bi args os):=by
 intro args os h
 unfold K7 at h
 split at h
 ·rename_i a
  simp only[Bool.and_eq_true]at h
  obtain⟨⟨h1,h2⟩,h3⟩:=h
  obtain⟨p,rfl⟩:=Ym h1
  rw[Enc.dec_enc]at h2 h3
  cases hv:ZY p
  ·exact a2g p ⟨Zh (p,()) rfl h2,Ze (p,()) rfl (Ya (by simp[hv]) rfl)⟩
  ·rw[hv]at h3
   have h3:(XC p).isEmpty=true:=by simpa using h3
   have:=TT p h2 hv
   unfold pvW at this
   rw[h3,if_pos rfl]at this
   exact this
 ·cases h
theorem b7l: ∀ args os,Gp args os=true->Zc b5d os.length (Zj os.length EO fun r=>r=Cj args os) Oy [] (YH c3s args os):=by
 intro args os h
 unfold Gp at h
 split at h
 ·rename_i x v
  obtain⟨x,rfl⟩:=Ym h
  refine c8s x v ?_
  simp only[Cj,Enc.dec_enc]
 ·cases h
theorem b0w(l:List Coef)(v:List UInt8)(hl:l.length<=9223372036854775807)(R:AV×List AObj×List AObj)(hR:R=(.pv (.int .i64 (Zx (fun t:Coef=>t.v.s==v) l)),[.box [.pv (.str v)]],[])): ∀ (m i:Nat),m+i=l.length->(∀ j (h:j<l.length),j<i->(l[j].v.s==v)=false) ->
  At Sj 1 (Zj 1 JL fun r=>r=R) JN 0 19 [(0,.pv (enc l)),(1,.fn 188 [] [.ptr 0 0]),(7,.pv (.int .i64 l.length)),(8,.pv (.int .i64 i))] [.obj (.box [.pv (.str v)])]:=by
 intro m
 induction m with
 | zero=>
  intro i hi hno
  refine b6h l v i (Z8 (Yc (by omega)) ?_)
  rw[hR,UQ _ _ (fun j hj=>hno j hj (by omega))]
 | succ m ih=>
  intro i hi hno
  have hlt:i<l.length:=by omega
  have ed:(dec (PV.agg (Qt (PV.cells (enc l[i])) 0 [Sh.str,Sh.int .i64])):Coef)=l[i]:=Enc.dec_enc l[i]
  refine b6h l v i (Ya (Z4 hlt) ⟨ZG hlt rfl,Z0 hlt ⟨ZQ l[i],?_⟩⟩)
  rw[ed]
  refine Wn (fun hb=> ?_) fun hb=> ?_
  ·rw[hR,UL (fun t:Coef=>t.v.s==v) l i hlt hno hb]
  ·rw[next (by omega)]
   refine ih (i+1) (by omega) fun j hj hji=> ?_
   by_cases e:j=i
   ·subst e;exact hb
   ·exact hno j hj (by omega)
theorem c2i: ∀ args os,VJ 188 args os=true->Zc Sj os.length (Zj os.length JL fun r=>r=CB args os) JN [] (YH c3z args os):=by
 intro args os h
 unfold VJ at h
 split at h
 ·rename_i l g v
  simp only[Bool.and_eq_true,beq_iff_eq,decide_eq_true_eq]at h
  obtain⟨⟨rfl,h1⟩,h2⟩:=h
  obtain⟨l,rfl⟩:=Ym h1
  rw[Enc.dec_enc]at h2
  refine c8w l v ?_
  rw[List.length_map]
  exact b0w l v h2 _ (by simp only[CB,QY,Enc.dec_enc]) l.length 0 (by omega) (fun j hj h=>by omega)
 ·cases h
theorem a7u(l:List Int)(n:Int)(hl:l.length<=9223372036854775807): ∀ (m i:Nat),m+i=l.length->(∀ j (h:j<l.length),j<i->decide (n=l[j])=false) ->
  At JQ 0 (Za QU (Zl (Zx (fun x:Int=>decide (n=x)) l))) QQ 0 19 [(0,.pv (enc l)),(1,.pv (enc n)),(7,.pv (.int .i64 l.length)),(8,.pv (.int .i64 i))] []:=by
 intro m
 induction m with
 | zero=>
  intro i hi hno
  refine a1o l n i (Z8 (Yc (by omega)) (QG ?_))
  rw[UQ _ _ (fun j hj=>hno j hj (by omega))]
 | succ m ih=>
  intro i hi hno
  have hlt:i<l.length:=by omega
  refine a1o l n i (Ya (Z4 hlt) ⟨ZG hlt rfl,Z0 hlt (Gj (fun hb=> ?_) fun hb=> ?_)⟩)
  ·have hb:n=l[i]:=hb
   exact QG (UL (fun x:Int=>decide (n=x)) l i hlt hno (by simp[hb])).symm
  ·have hb : ¬ n=l[i]:=hb
   rw[next (by omega)]
   refine ih (i+1) (by omega) fun j hj hji=> ?_
   by_cases e:j=i
   ·subst e;simp[hb]
   ·exact hno j hj (by omega)
theorem b6x: ∀ a:List Int×Int×Unit,Zv a.1=true->Zc JQ 0 (Za QU (Zl (Zx (fun x:Int=>decide (a.2.1=x)) a.1))) QQ [] (YD c0f (encL a)):=by
 rintro⟨l,n,⟨⟩⟩ h
 refine c7g l n ?_
 rw[List.length_map]
 exact a7u l n (ZL.1 h) l.length 0 (by omega) (fun j hj h=>by omega)
theorem F8: ∀ a:List Int×Int×Unit,Zv a.1=true->Zc Au 0 (Za Dj (Zl (a.1.contains a.2.1))) Dk [] (YD a5v (encL a)):=by
 rintro⟨l,n,⟨⟩⟩ h
 refine a9s l n ⟨Zh (l,n,()) rfl h,Ze (l,n,()) rfl (ZF ?_)⟩
 show decide (Zx (fun x:Int=>decide (n=x)) l ≥ 0)=_
 rw[XI,Bool.eq_iff_iff]
 simp[List.any_eq_true]
theorem OB(l:List Int)(hl:l.length<=9223372036854775807): ∀ (m i:Nat) (o:Int),m+i=l.length ->
  At UN 0 (Za VR (Zl (DD o (l.drop i)))) Uq 0 29 [(4,.pv (.int .i64 o)),(11,.pv (enc l)),(12,.pv (.int .i64 l.length)),(13,.pv (.int .i64 i))] []:=by
 intro m
 induction m with
 | zero=>
  intro i o hi
  rw[List.drop_of_length_le (by omega)]
  exact Ms l o i (Z8 (Yc (by omega)) (ZV (x:=(o,(0:Int))) rfl))
 | succ m ih=>
  intro i o hi
  have hlt:i<l.length:=by omega
  rw[List.drop_eq_getElem_cons hlt]
  refine Ms l o i (Ya (Z4 hlt) ⟨ZG hlt rfl,Z0 hlt (Ze (o,l[i],()) rfl ?_)⟩)
  show if ((JZ o l[i]).2 != 0)=true then _ else _
  rw[DD]
  by_cases h:(JZ o l[i]).2=0
  ·rw[if_neg (by simp[h]),if_neg (by simp[h]),next (by omega)]
   exact ih (i+1) _ (by omega)
  ·rw[if_pos (by simp[h]),if_pos h]
   exact ZV (x:=((0:Int),(JZ o l[i]).2)) rfl
theorem a3o: ∀ a:List Int×Unit,Zv a.1=true->Zc UN 0 (Za VR (Zl (YL a.1))) Uq [] (YD a7x (encL a)):=by
 rintro⟨l,⟨⟩⟩ h
 refine b7v l ⟨Zh (l,0,()) rfl h,Ze (l,0,()) rfl (Wn (fun hc=> ?_) fun hc=> ?_)⟩
 ·have hc:l.contains 0=true:=hc
  show Zl (YL l) _
  unfold YL
  rw[hc,if_pos rfl]
  exact ZV (x:=((0:Int),(0:Int))) rfl
 ·have hc:l.contains 0=false:=hc
  show At UN 0 (Za VR (Zl (YL l))) _ _ _ _ _
  unfold YL
  rw[hc,if_neg (by simp),List.length_map]
  exact OB l (ZL.1 h) l.length 0 1 (by omega)
theorem Qq{α:Type}[Enc α]{l:List α}{i:Nat}(h:i<l.length):List.getD (List.map (enc:α->PV) l) (0+Int.toNat (i:Int)) default=enc l[i]:=by simp[List.getD,h]
def U4(ps:List Int)(o:Option (List Int)):Int×Int:=match o with|none=>(0,2)|some l=>WT (ps++l)
theorem a4u(p:List Mono)(vs:List Coef)(fs:List (List Int))(hf:fs.length<=60)(hl : ∀ l∈fs,Zv l=true): ∀ (d i:Nat) (ps:List Int),d+i=fs.length->ps.length=i->1<=i ->
  At ZK 0 (Za ZA (Zl (U4 ps (Yl (fs.drop i))))) ZB 2 91 [(15,.row 0 i 0 i),(69,.row 1 fs.length 0 fs.length),(70,.pv (.int .i64 fs.length)),(71,.pv (.int .i64 i))] [.obj (.row false 3 1 (ps.map enc)),.obj (.row false 34 1 (fs.map enc))]:=by
 intro d
 induction d with
 | zero=>
  intro i ps hi hps h1
  rw[List.drop_of_length_le (by omega)]
  have hr:U4 ps (Yl [])=WT ps:=by show WT (ps++[])=_;rw[List.append_nil]
  rw[hr]
  have et:List.drop 0 (List.take i (List.map (enc:Int->PV) ps))=ps.map enc:=by rw[List.drop_zero,List.take_of_length_le (by simp[hps])]
  apply Rb (G:=Zl (WT ps)) p vs i fs.length fs i ps
  refine Z8 (Yc (by omega)) ⟨by simp[hps],?_⟩
  rw[et]
  exact⟨Zh (ps,()) rfl (by simp;omega),Ze (ps,()) rfl (ZV (x:=WT ps) rfl)⟩
 | succ d ih=>
  intro i ps hi hps h1
  have hlt:i<fs.length:=by omega
  have e:=Qq hlt
  rw[List.drop_eq_getElem_cons hlt,Yl]
  apply Rb (G:=Zl (U4 ps (if (YL fs[i]).2≠0 then none else(Yl (fs.drop (i+1))).map ((YL fs[i]).1:: ·)))) p vs i fs.length fs i ps
  apply Ya (Z4 hlt)
  rw[e]
  refine⟨by simp;omega,by simp;omega,rfl,Zh (fs[i],()) rfl (hl _ (List.getElem_mem hlt)),Ze (fs[i],()) rfl ?_⟩
  show if ((YL fs[i]).2 != 0)=true then _ else _
  by_cases h:(YL fs[i]).2=0
  ·rw[if_neg (by simp[h])]
   have hr:U4 ps (if (YL fs[i]).2≠0 then none else(Yl (fs.drop (i+1))).map ((YL fs[i]).1:: ·))=U4 (ps++[(YL fs[i]).1]) (Yl (fs.drop (i+1))):=by
    rw[if_neg (by simp[h])]
    cases Yl (fs.drop (i+1))with
    | none=>rfl
    | some l=>show WT (ps++_::l)=WT (ps++[_]++l);rw[List.append_assoc];rfl
   rw[hr]
   refine⟨?_,?_⟩
   ·rw[List.length_map,hps]
    show((i==i)&&(i==i)&&decide ((i+1)*8<=1099511627776)&&decide (i+1<=1099511627776))=true
    rw[decide_eq_true (by omega),decide_eq_true (by omega)];simp
   ·rw[next (by omega)]
    have:=ih (i+1) (ps++[(YL fs[i]).1]) (by omega) (by simp[hps]) (by omega)
    rw[List.map_append]at this
    exact this
  ·rw[if_pos (by simp[h])]
   have hr:U4 ps (if (YL fs[i]).2≠0 then none else(Yl (fs.drop (i+1))).map ((YL fs[i]).1:: ·))=((0:Int),(2:Int)):=by rw[if_pos h];rfl
   rw[hr]
   exact ZV (x:=((0:Int),(2:Int))) rfl
theorem d0h(p:List Mono)(vs:List Coef)(fs:List (List Int))(hne:0<fs.length)(hf:fs.length<=60)(hl : ∀ l∈fs,Zv l=true):
  At ZK 0 (Za ZA (Zl (U4 [] (Yl fs)))) ZB 2 91 [(15,.pv (.sl 0 true [])),(69,.row 0 fs.length 0 fs.length),(70,.pv (.int .i64 fs.length)),(71,.pv (.int .i64 0))] [.obj (.row false 34 1 (fs.map enc))]:=by
 have e:=Qq hne
 have hr:Yl fs=if (YL fs[0]).2≠0 then none else(Yl (fs.drop 1)).map ((YL fs[0]).1:: ·):=by
  cases fs with
  | nil=>simp at hne
  | cons l r=>rfl
 rw[hr]
 apply a7l (G:=Zl (U4 [] (if (YL fs[0]).2≠0 then none else(Yl (fs.drop 1)).map ((YL fs[0]).1:: ·)))) p vs ((0:Nat):Int) fs.length fs
 apply Ya (Z4 hne)
 rw[e]
 refine⟨by simp;omega,by simp;omega,rfl,Zh (fs[0],()) rfl (hl _ (List.getElem_mem hne)),Ze (fs[0],()) rfl ?_⟩
 show if ((YL fs[0]).2 != 0)=true then _ else _
 by_cases h:(YL fs[0]).2=0
 ·rw[if_neg (by simp[h]),if_neg (by simp[h])]
  have hr:U4 [] ((Yl (fs.drop 1)).map ((YL fs[0]).1:: ·))=U4 [(YL fs[0]).1] (Yl (fs.drop 1)):=by
   cases Yl (fs.drop 1)with
   | none=>rfl
   | some l=>rfl
  rw[hr,next (by omega)]
  exact a4u p vs fs hf hl (fs.length - 1) 1 [(YL fs[0]).1] (by omega) rfl (by omega)
 ·rw[if_pos (by simp[h]),if_pos h]
  exact ZV (x:=((0:Int),(2:Int))) rfl
theorem d1b(p:List Mono)(vs:List Coef):At ZK 0 (Za ZA (Zl (U4 [] (Yl [])))) ZB 2 91 [(15,.pv (.sl 0 true [])),(69,.pv (.sl 0 true [])),(70,.pv (.int .i64 0)),(71,.pv (.int .i64 0))] []:=by
 have hr:U4 [] (Yl [])=WT []:=rfl
 rw[hr]
 apply a7d (G:=Zl (WT [])) p vs
 exact b3w ([],()) rfl (ZV (x:=WT []) rfl)
def Nu(vs:List Coef)(fs:List (List Int))(bd:Bool)(r:List Mono):Int×Int:=match SF vs r with
 | none=>(0,7)
 | some gs=>if bd||Sr gs then(0,2)else U4 [] (Yl (fs++gs))
def evH(vs:List Coef)(fs:List (List Int))(bd:Bool)(l:List Int)(ns:List Str)(r:List Mono):Int×Int:=match Aw vs ns with
 | none=>(0,7)
 | some xs=>Nu vs (fs++[l++xs]) (bd||xs.any fun x=> !Ua x) r
theorem LJ(vs:List Coef)(fs:List (List Int))(bd:Bool)(m:Mono)(r:List Mono):Nu vs fs bd (m::r)=evH vs fs bd [m.c] m.v r:=by
 unfold Nu evH SF
 cases Aw vs m.v with
 | none=>rfl
 | some xs=>
  show(match (SF vs r).map ((m.c::xs):: ·)with|none=>_|some gs=>_)=Nu vs (fs++[[m.c]++xs]) _ r
  unfold Nu
  cases SF vs r with
  | none=>rfl
  | some gs=>
   show(if bd||Sr ((m.c::xs)::gs)then _ else U4 [] (Yl (fs++(m.c::xs)::gs)))=(if (bd||xs.any fun x=> !Ua x)||Sr gs then _ else U4 [] (Yl (fs++[[m.c]++xs]++gs)))
   have e1:Sr ((m.c::xs)::gs)=((xs.any fun x=> !Ua x)||Sr gs):=rfl
   rw[e1,List.append_assoc,Bool.or_assoc]
   rfl
theorem Dn(vs:List Coef)(s:Str)(r:List Str):Aw vs (s::r)=match Q3 vs s with|none=>none|some x=>(Aw vs r).map (x:: ·):=rfl
theorem MR(vs:List Coef)(fs:List (List Int))(bd:Bool)(l:List Int)(s:Str)(ns:List Str)(r:List Mono)(x:Int)(h:Q3 vs s=some x):evH vs fs bd l (s::ns) r=evH vs fs (bd || !Ua x) (l++[x]) ns r:=by
 unfold evH
 rw[Dn,h]
 show(match (Aw vs ns).map (x:: ·)with|none=>_|some xs=>_)=_
 cases Aw vs ns with
 | none=>rfl
 | some xs=>
  show Nu vs (fs++[l++x::xs]) (bd||(x::xs).any fun x=> !Ua x) r=Nu vs (fs++[l++[x]++xs]) ((bd || !Ua x)||xs.any fun x=> !Ua x) r
  rw[List.append_assoc,List.any_cons,Bool.or_assoc]
  rfl
theorem Ck(x:Int):(!Ua x)=(decide (x < -4611686018427387904)||decide (x>4611686018427387904)):=by
 unfold Ua
 by_cases h1:x < -4611686018427387904
 ·rw[decide_eq_true h1,decide_eq_false (show ¬ -4611686018427387904<=x by omega)];rfl
 ·rw[decide_eq_false h1,decide_eq_true (show -4611686018427387904<=x by omega)]
  by_cases h2:x>4611686018427387904
  ·rw[decide_eq_true h2,decide_eq_false (show ¬ x<=4611686018427387904 by omega)];rfl
  ·rw[decide_eq_false h2,decide_eq_true (show x<=4611686018427387904 by omega)];rfl
theorem d0i(p:List Mono)(vs:List Coef)(hv:vs.length<=9223372036854775807)(i:Nat)(hi:i<60)(hip:i<p.length)(ns:List Str)(hn:ns.length<=8)(R:Int×Int)
  (hnext : ∀ (l:List Int) (bd:Bool),l.length<=100->R=Nu vs ([]++[l]) bd (p.drop (i+1))->At ZK 0 (Za ZA (Zl R)) ZB 0 91 [(6,.row 0 1 0 1),(1,.pv (enc vs)),(7,.pv (.bool bd)),(23,.pv (enc p)),(24,.pv (.int .i64 p.length)),(25,.pv (.int .i64 ((i+1:Nat):Int)))] [.obj (.row false 34 1 (([]++[l]).map enc))]) :
  ∀ (d j:Nat) (l:List Int) (bd:Bool),d+j=ns.length->l.length=j+1->R=evH vs [] bd l (ns.drop j) (p.drop (i+1)) ->
  At ZK 0 (Za ZA (Zl R)) ZB 1 91 [(6,.pv (.sl 0 true [])),(1,.pv (enc vs)),(7,.pv (.bool bd)),(23,.pv (enc p)),(24,.pv (.int .i64 p.length)),(25,.pv (.int .i64 i)),(33,.pv (enc ns)),(34,.pv (.int .i64 ns.length)),(35,.pv (.int .i64 j)),(10,.row 0 (j+1) 0 (j+1))] [.obj (.row false 3 1 (l.map enc))]:=by
 intro d
 induction d with
 | zero=>
  intro j l bd hd hl hR
  rw[List.drop_of_length_le (by omega)]at hR
  have hR2:R=Nu vs ([]++[l]) bd (p.drop (i+1)):=by
   rw[hR]
   show Nu vs ([]++[l++[]]) (bd||false) _=_
   rw[List.append_nil,Bool.or_false]
  have hn0:=hnext l bd (by omega) hR2
  have et:(PV.sl 1 false (List.drop 0 (List.take (j+1) (List.map (enc:Int->PV) l))))=enc l:=by rw[List.drop_zero,List.take_of_length_le (by simp[hl])];rfl
  apply Ry (G:=Zl R) p vs bd i j ns (j+1) l
  apply Z8 (Yc (by omega))
  refine⟨by simp[hl],?_⟩
  rw[et,next (by omega)]
  exact hn0
 | succ d ih=>
  intro j l bd hd hl hR
  have hlt:j<ns.length:=by omega
  rw[List.drop_eq_getElem_cons hlt]at hR
  have ecd:QY (enc vs)=vs:=Enc.dec_enc vs
  apply Ry (G:=Zl R) p vs bd i j ns (j+1) l
  apply Ya (Z4 hlt)
  refine⟨ZG hlt rfl,Z0 hlt ?_⟩
  have e0:PV.asStr (List.getD (PV.cells (enc ns[j])) 0 default)=ns[j].s:=rfl
  rw[e0,ecd]
  refine⟨by show VJ _ [.pv (enc vs),_] _=true;simp[VJ,hv],?_⟩
  rcases Nh vs ns[j]with ⟨h1,h2⟩|⟨k,hk,h1,h2⟩
  ·have:R=(0,7):=by rw[hR];unfold evH;rw[Dn,h2]
   rw[this]
   exact Ya (by simpa using h1) (ZV (x:=((0:Int),(7:Int))) rfl)
  ·rw[h1]
   rw[MR vs _ _ _ _ _ _ _ h2]at hR
   have hq : ∀ bd',(bd || !Ua vs[k].c)=bd'->At ZK 0 (Za ZA (Zl R)) ZB 1 91 [(6,.pv (.sl 0 true [])),(1,.pv (enc vs)),(7,.pv (.bool bd')),(23,.pv (enc p)),(24,.pv (.int .i64 p.length)),(25,.pv (.int .i64 i)),(33,.pv (enc ns)),(34,.pv (.int .i64 ns.length)),(35,.pv (.int .i64 ((j+1:Nat):Int))),(10,.row 0 (j+1+1) 0 (j+1+1))] [.obj (.row false 3 1 ((l++[vs[k].c]).map enc))]:=fun bd' hb=>ih (j+1) (l++[vs[k].c]) bd' (by omega) (by simp[hl]) (by rw[<- hb];exact hR)
   have hap:(List.length (List.map (enc:Int->PV) l)==j+1&&(j+1==j+1)&&decide (((j+1)+List.length (List.drop 0 (List.take 1 [PV.int .i64 vs[k].c])))*8<=1099511627776)&&decide ((j+1)+List.length (List.drop 0 (List.take 1 [PV.int .i64 vs[k].c]))<=1099511627776))=true:=by
    rw[List.length_map,hl]
    show((j+1==j+1)&&(j+1==j+1)&&decide (((j+1)+1)*8<=1099511627776)&&decide ((j+1)+1<=1099511627776))=true
    rw[decide_eq_true (by omega),decide_eq_true (by omega)];simp
   refine Z8 (by simp) ⟨ZG hk rfl,Z0 hk ?_⟩
   rw[next (by omega)]
   rw[List.map_append]at hq
   refine Wn (fun hb=>⟨hap,hq true (by rw[hb];rfl)⟩) fun hb=>WI (fun h3=>⟨hap,hq true ?_⟩) fun h3=>⟨hap,hq _ ?_⟩
   ·have h3:vs[k].c < -4611686018427387904:=h3
    rw[Ck,decide_eq_true h3,hb];rfl
   ·have h3 : ¬ vs[k].c < -4611686018427387904:=h3
    rw[Ck,decide_eq_false h3,hb];rfl
theorem d0w(p:List Mono)(vs:List Coef)(hv:vs.length<=9223372036854775807)(fs:List (List Int))(hfl:fs.length<=60)(i:Nat)(hi:i<60)(hip:i<p.length)(ns:List Str)(hn:ns.length<=8)(R:Int×Int)
  (hnext : ∀ (l:List Int) (bd:Bool),l.length<=100->R=Nu vs (fs++[l]) bd (p.drop (i+1))->At ZK 0 (Za ZA (Zl R)) ZB 0 91 [(6,.row 0 (fs.length+1) 0 (fs.length+1)),(1,.pv (enc vs)),(7,.pv (.bool bd)),(23,.pv (enc p)),(24,.pv (.int .i64 p.length)),(25,.pv (.int .i64 ((i+1:Nat):Int)))] [.obj (.row false 34 1 ((fs++[l]).map enc))]) :
  ∀ (d j:Nat) (l:List Int) (bd:Bool),d+j=ns.length->l.length=j+1->R=evH vs fs bd l (ns.drop j) (p.drop (i+1)) ->
  At ZK 0 (Za ZA (Zl R)) ZB 1 91 [(6,.row 0 fs.length 0 fs.length),(1,.pv (enc vs)),(7,.pv (.bool bd)),(23,.pv (enc p)),(24,.pv (.int .i64 p.length)),(25,.pv (.int .i64 i)),(33,.pv (enc ns)),(34,.pv (.int .i64 ns.length)),(35,.pv (.int .i64 j)),(10,.row 1 (j+1) 0 (j+1))] [.obj (.row false 34 1 (fs.map enc)),.obj (.row false 3 1 (l.map enc))]:=by
 intro d
 induction d with
 | zero=>
  intro j l bd hd hl hR
  rw[List.drop_of_length_le (by omega)]at hR
  have hR2:R=Nu vs (fs++[l]) bd (p.drop (i+1)):=by
   rw[hR]
   show Nu vs (fs++[l++[]]) (bd||false) _=_
   rw[List.append_nil,Bool.or_false]
  have hn0:=hnext l bd (by omega) hR2
  have et:(PV.sl 1 false (List.drop 0 (List.take (j+1) (List.map (enc:Int->PV) l))))=enc l:=by rw[List.drop_zero,List.take_of_length_le (by simp[hl])];rfl
  apply TP (G:=Zl R) p vs bd i j ns (j+1) l fs.length fs
  apply Z8 (Yc (by omega))
  refine⟨by simp[hl],?_,?_⟩
  ·rw[et,List.length_map]
   show((fs.length==fs.length)&&(fs.length==fs.length)&&decide ((fs.length+1)*24<=1099511627776)&&decide (fs.length+1<=1099511627776))=true
   rw[decide_eq_true (by omega),decide_eq_true (by omega)];simp
  ·rw[et,next (by omega)]
   rw[List.map_append]at hn0
   exact hn0
 | succ d ih=>
  intro j l bd hd hl hR
  have hlt:j<ns.length:=by omega
  rw[List.drop_eq_getElem_cons hlt]at hR
  have ecd:QY (enc vs)=vs:=Enc.dec_enc vs
  apply TP (G:=Zl R) p vs bd i j ns (j+1) l fs.length fs
  apply Ya (Z4 hlt)
  refine⟨ZG hlt rfl,Z0 hlt ?_⟩
  have e0:PV.asStr (List.getD (PV.cells (enc ns[j])) 0 default)=ns[j].s:=rfl
  rw[e0,ecd]
  refine⟨by show VJ _ [.pv (enc vs),_] _=true;simp[VJ,hv],?_⟩
  rcases Nh vs ns[j]with ⟨h1,h2⟩|⟨k,hk,h1,h2⟩
  ·have:R=(0,7):=by rw[hR];unfold evH;rw[Dn,h2]
   rw[this]
   exact Ya (by simpa using h1) (ZV (x:=((0:Int),(7:Int))) rfl)
  ·rw[h1]
   rw[MR vs _ _ _ _ _ _ _ h2]at hR
   have hq : ∀ bd',(bd || !Ua vs[k].c)=bd'->At ZK 0 (Za ZA (Zl R)) ZB 1 91 [(6,.row 0 fs.length 0 fs.length),(1,.pv (enc vs)),(7,.pv (.bool bd')),(23,.pv (enc p)),(24,.pv (.int .i64 p.length)),(25,.pv (.int .i64 i)),(33,.pv (enc ns)),(34,.pv (.int .i64 ns.length)),(35,.pv (.int .i64 ((j+1:Nat):Int))),(10,.row 1 (j+1+1) 0 (j+1+1))] [.obj (.row false 34 1 (fs.map enc)),.obj (.row false 3 1 ((l++[vs[k].c]).map enc))]:=fun bd' hb=>ih (j+1) (l++[vs[k].c]) bd' (by omega) (by simp[hl]) (by rw[<- hb];exact hR)
   have hap:(List.length (List.map (enc:Int->PV) l)==j+1&&(j+1==j+1)&&decide (((j+1)+List.length (List.drop 0 (List.take 1 [PV.int .i64 vs[k].c])))*8<=1099511627776)&&decide ((j+1)+List.length (List.drop 0 (List.take 1 [PV.int .i64 vs[k].c]))<=1099511627776))=true:=by
    rw[List.length_map,hl]
    show((j+1==j+1)&&(j+1==j+1)&&decide (((j+1)+1)*8<=1099511627776)&&decide ((j+1)+1<=1099511627776))=true
    rw[decide_eq_true (by omega),decide_eq_true (by omega)];simp
   refine Z8 (by simp) ⟨ZG hk rfl,Z0 hk ?_⟩
   rw[next (by omega)]
   rw[List.map_append]at hq
   refine Wn (fun hb=>⟨hap,hq true (by rw[hb];rfl)⟩) fun hb=>WI (fun h3=>⟨hap,hq true ?_⟩) fun h3=>⟨hap,hq _ ?_⟩
   ·have h3:vs[k].c < -4611686018427387904:=h3
    rw[Ck,decide_eq_true h3,hb];rfl
   ·have h3 : ¬ vs[k].c < -4611686018427387904:=h3
    rw[Ck,decide_eq_false h3,hb];rfl
theorem a9q(vs:List Coef)(fs:List (List Int))(bd:Bool):Nu vs fs bd []=if bd then(0,2)else U4 [] (Yl fs):=by
 show(if bd||Sr []then _ else U4 [] (Yl (fs++[])))=_
 have:Sr []=false:=rfl
 rw[this,Bool.or_false,List.append_nil]
theorem Ei(p:List Mono)(vs:List Coef)(hp:ZY p=true)(hv:vs.length<=9223372036854775807): ∀ (d i:Nat) (fs:List (List Int)) (bd:Bool),d+i=p.length->fs.length=i->1<=i->(∀ l∈fs,l.length<=100) ->
  At ZK 0 (Za ZA (Zl (Nu vs fs bd (p.drop i)))) ZB 0 91 [(6,.row 0 fs.length 0 fs.length),(1,.pv (enc vs)),(7,.pv (.bool bd)),(23,.pv (enc p)),(24,.pv (.int .i64 p.length)),(25,.pv (.int .i64 i))] [.obj (.row false 34 1 (fs.map enc))]:=by
 obtain⟨hpl,hpm⟩:=H5 hp
 intro d
 induction d with
 | zero=>
  intro i fs bd hi hfi h1 hls
  rw[List.drop_of_length_le (by omega),a9q]
  apply TI (G:=Zl (if bd then((0:Int),(2:Int))else U4 [] (Yl fs))) p vs bd i fs.length fs
  apply Z8 (Yc (by omega))
  refine Wn (fun hb=> ?_) fun hb=> ?_
  ·rw[hb,if_pos rfl]
   exact ZV (x:=((0:Int),(2:Int))) rfl
  ·rw[hb,if_neg (by simp),Nat.sub_zero]
   exact d0h p vs fs (by omega) (by omega) fun l hl=>ZL.2 (by have:=hls l hl;omega)
 | succ d ih=>
  intro i fs bd hi hfi h1 hls
  have hlt:i<p.length:=by omega
  have hm:=hpm _ (List.getElem_mem hlt)
  rw[List.drop_eq_getElem_cons hlt,LJ]
  apply TI (G:=Zl (evH vs fs bd [p[i].c] p[i].v (p.drop (i+1)))) p vs bd i fs.length fs
  apply Ya (Z4 hlt)
  refine⟨ZG hlt rfl,Z0 hlt ?_⟩
  have:=d0w p vs hv fs (by omega) i (by omega) hlt p[i].v hm (evH vs fs bd [p[i].c] p[i].v (p.drop (i+1))) (fun l bd' hl hR=>by
   rw[hR]
   have:=ih (i+1) (fs++[l]) bd' (by omega) (by simp[hfi]) (by omega) (fun x hx=>by
    rcases List.mem_append.1 hx with hx|hx
    ·exact hls x hx
    ·rw[List.mem_singleton.1 hx];exact hl)
   rw[List.length_append]at this
   exact this) p[i].v.length 0 [p[i].c] bd (by omega) rfl rfl
  have eL:(((PV.asXs (List.getD (PV.cells (enc p[i])) (0+1) default)).length:Nat):Int)=(p[i].v.length:Int):=by
   show(((p[i].v.map (enc:Str->PV)).length:Nat):Int)=_
   rw[List.length_map]
  rw[eL]
  exact this
theorem b1u{p:List Mono}{vs:List Coef}(h:ZY p=true):Nu vs [] false p=Yz p vs:=by
 unfold Nu Yz
 rw[h,if_pos rfl]
 cases SF vs p with
 | none=>rfl
 | some fs=>
  show(if false||Sr fs then _ else U4 [] (Yl ([]++fs)))=_
  rw[Bool.false_or,List.nil_append]
  show _=if Sr fs then _ else _
  by_cases hb:Sr fs=true
  ·rw[if_pos hb,if_pos hb]
  ·rw[if_neg hb,if_neg hb]
   cases Yl fs with
   | none=>rfl
   | some l=>rfl
theorem a5b: ∀ x:List Mono×List Coef×Unit,(Yd x.1&&Zv x.2.1)=true->Zc ZK 0 (Za ZA (Zl (Yz x.1 x.2.1))) ZB [] (YD b1k (encL x)):=by
 rintro⟨p,vs,⟨⟩⟩ h
 simp only[Bool.and_eq_true]at h
 obtain⟨hs,hv⟩:=h
 have hv:=ZL.1 hv
 refine b9w p vs ⟨Zh (p,()) rfl hs,Ze (p,()) rfl ?_⟩
 show if (!(ZY p))=true then _ else _
 cases hp:ZY p
 ·rw[if_pos (by rfl)]
  have:Yz p vs=(0,1):=by unfold Yz;rw[hp,if_neg (by simp)]
  show Zl (Yz p vs) _
  rw[this]
  exact ZV (x:=((0:Int),(1:Int))) rfl
 ·rw[if_neg (by simp)]
  obtain⟨hpl,hpm⟩:=H5 hp
  show At ZK 0 (Za ZA (Zl (Yz p vs))) _ _ _ _ _
  rw[<- b1u hp,List.length_map]
  cases hpc:p with
  | nil=>
   have e:Nu vs [] false []=U4 [] (Yl []):=by rw[a9q];rfl
   rw[e]
   apply Ti (G:=Zl (U4 [] (Yl []))) [] vs false ((0:Nat):Int)
   apply Z8 (Yc (by simp))
   exact Z8 (by simp) (d1b [] vs)
  | cons m r=>
   have hlt:0<p.length:=by rw[hpc];simp
   have e0:p[0]=m:=by simp[hpc]
   rw[<- hpc]
   have hm:=hpm _ (List.getElem_mem hlt)
   have ed:p=p[0]::p.drop 1:=(List.drop_eq_getElem_cons hlt).symm▸rfl
   have eg:Nu vs [] false p=evH vs [] false [p[0].c] p[0].v (p.drop 1):=by
    rw[<- LJ]
    have:=List.drop_eq_getElem_cons hlt
    rw[List.drop_zero]at this
    rw[<- this]
   rw[eg]
   apply Ti (G:=Zl (evH vs [] false [p[0].c] p[0].v (p.drop 1))) p vs false ((0:Nat):Int)
   apply Ya (Z4 hlt)
   refine⟨ZG hlt rfl,Z0 hlt ?_⟩
   have:=d0i p vs hv 0 (by omega) hlt p[0].v hm (evH vs [] false [p[0].c] p[0].v (p.drop 1)) (fun l bd' hl hR=>by
    rw[hR]
    exact Ei p vs hp hv (p.length - 1) 1 ([]++[l]) bd' (by omega) (by simp) (by omega) (fun x hx=>by
     rw[List.nil_append]at hx
     rw[List.mem_singleton.1 hx];exact hl)) p[0].v.length 0 [p[0].c] false (by omega) rfl rfl
   have eL:(((PV.asXs (List.getD (PV.cells (enc p[0])) (0+1) default)).length:Nat):Int)=(p[0].v.length:Int):=by
    show(((p[0].v.map (enc:Str->PV)).length:Nat):Int)=_
    rw[List.length_map]
   rw[eL]
   exact this
end Go.Pl

namespace Go.Pl
open Go.RowKit
open Enc (enc dec is)
open EncL (encL decL isL)
set_option maxRecDepth 100000
def YP:IC:=(.seq (.reg [⟨(some 3),(.box 2 (.t 0)),0,none⟩,⟨(some 5),(.box 1 (.t 2)),1,none⟩,⟨(some 6),(.alloc (.int .i64 0)),2,none⟩,⟨(some 7),(.alloc (.int .i64 0)),3,none⟩] none) (.seq (.seq (.reg [⟨(some 19),(.load true [(.sl 1),(.int .i64)] (.t 3)),0,none⟩,⟨(some 20),(.mv (.t 1)),0,none⟩,⟨(some 21),(.load false [(.sl 2)] (.t 5)),0,none⟩,⟨(some 22),(.call (.c (.fn 122)) [(.t 21)]),0,none⟩,⟨(some 23),(.load false [(.sl 2)] (.t 5)),2,none⟩,⟨(some 24),(.call (.c (.fn 123)) [(.t 23)]),2,none⟩,⟨(some 25),(.call (.c (.fn 116)) [(.t 19),(.t 20),(.t 22),(.t 24)]),4,none⟩,⟨(some 8),(.mv (.t 25)),6,none⟩] (some [[],[],[],[2],[],[4,3,2],[0,1,3,5,2,4],[6,0,1,2,3,4,5]])) (.seq (.reg [⟨(some 26),(.mv (.t 8)),0,none⟩,⟨(some 27),(.bin .num .neq (.t 26) (.c (.int .i64 0))),0,none⟩] none) (.cond (.t 27) (.seq (.reg [⟨(some 28),(.mv (.t 8)),0,none⟩,⟨none,(.store 1 (.t 6) (.c (.int .i64 0))),0,none⟩,⟨none,(.store 1 (.t 7) (.t 28)),0,none⟩] none) .ret) .skip))) (.seq (.reg [⟨(some 9),(.alloc (.sl 0 true [])),0,none⟩,⟨(some 10),(.alloc (.sl 0 true [])),1,none⟩] none) (.seq (.reg [⟨(some 29),(.mkfn 124 [] [(.t 9),(.t 10)]),0,none⟩,⟨(some 11),(.alloc .nilfn),0,none⟩,⟨none,(.store 1 (.t 11) (.t 29)),1,none⟩] none) (.seq (.seq (.reg [⟨(some 30),(.load true [(.sl 1),(.int .i64)] (.t 3)),0,none⟩,⟨(some 31),(.mv (.t 1)),0,none⟩,⟨(some 32),(.call (.c (.fn 117)) [(.t 30),(.t 31)]),0,none⟩] none) (.block 0 (.ext 0 [32,34,5,13,36,37,38,35,39,40,15,41,42,6,7,11,14,43,44,9,10]))) (.seq (.reg [⟨(some 16),(.mv (.c (.int .i64 0))),0,none⟩,⟨(some 17),(.mv (.c (.int .i64 0))),0,none⟩] none) (.seq (.seq (.reg [⟨(some 46),(.load false [(.sl 1)] (.t 9)),0,none⟩,⟨(some 47),(.len 1 (.t 46)),0,none⟩,⟨(some 48),(.mv (.c (.int .i64 0))),0,none⟩] none) (.block 2 (.loop [48,47,16,9,17,10,6,7] (.seq (.reg [⟨(some 49),(.bin .num .lss (.t 48) (.t 47)),0,none⟩] none) (.seq (.cond (.t 49) .skip (.exit 2)) (.seq (.block 3 (.seq (.reg [⟨(some 50),(.mv (.t 48)),0,none⟩,⟨(some 18),(.mv (.t 50)),0,none⟩] none) (.reg [⟨(some 51),(.mv (.t 16)),0,none⟩,⟨(some 52),(.load false [(.sl 1)] (.t 9)),0,none⟩,⟨(some 53),(.mv (.t 18)),0,none⟩,⟨(some 54),(.iaddr 1 (.t 52) (.t 53)),0,none⟩,⟨(some 55),(.load false [(.int .i64)] (.t 54)),0,none⟩,⟨(some 56),(.bin .num .add (.t 51) (.t 55)),0,none⟩,⟨(some 57),(.mv (.t 17)),0,none⟩,⟨(some 58),(.load false [(.sl 1)] (.t 10)),0,none⟩,⟨(some 59),(.mv (.t 18)),0,none⟩,⟨(some 60),(.iaddr 1 (.t 58) (.t 59)),0,none⟩,⟨(some 61),(.load false [(.int .i64)] (.t 60)),0,none⟩,⟨(some 62),(.bin .num .add (.t 57) (.t 61)),0,none⟩,⟨(some 16),(.mv (.t 56)),0,none⟩,⟨(some 17),(.mv (.t 62)),0,none⟩] (some [[],[],[],[1,2],[3,1,2],[0,4,3,1,2],[],[],[],[7,8],[9,7,8],[6,10,9,7,8],[5,0,1,2,3,4],[11,12,0,1,2,3,4,5,6,7,8,9,10]])))) (.reg [⟨(some 63),(.bin .num .add (.t 48) (.c (.int .i64 1))),0,none⟩,⟨(some 48),(.mv (.t 63)),0,none⟩] none))))))) (.seq (.reg [⟨(some 64),(.mv (.t 16)),0,none⟩,⟨(some 65),(.mv (.t 17)),0,none⟩,⟨(some 66),(.bin .num .shr (.t 65) (.c (.int .u64 31))),0,none⟩,⟨(some 67),(.bin .num .add (.t 64) (.t 66)),0,none⟩,⟨(some 68),(.mv (.t 17)),0,none⟩,⟨(some 69),(.bin .num .and (.t 68) (.c (.int .i64 2147483647))),0,none⟩,⟨(some 16),(.mv (.t 67)),0,none⟩,⟨(some 17),(.mv (.t 69)),0,none⟩] none) (.seq (.reg [⟨(some 70),(.mv (.t 16)),0,none⟩,⟨(some 71),(.mv (.t 17)),0,none⟩,⟨(some 72),(.bslice 3 1 2 (.int .i64 0) [(0,(.t 70)),(1,(.t 71))]),0,none⟩,⟨(some 73),(.bslice 3 1 2 (.int .i64 0) [(0,(.c (.int .i64 2147483648))),(1,(.c (.int .i64 1)))]),1,none⟩,⟨(some 74),(.call (.c (.fn 126)) [(.t 72),(.t 73)]),2,none⟩,⟨(some 75),(.extract (.t 74) 0),4,none⟩,⟨(some 76),(.extract (.t 74) 1),4,none⟩,⟨none,(.store 1 (.t 6) (.t 75)),4,none⟩,⟨none,(.store 1 (.t 7) (.t 76)),4,none⟩] none) .ret)))))))))
def YZ:List IRes:=[(.cell false 1 6),(.cell false 1 7)]
abbrev b2p:Nat:=77
def YN:ZC:=Xn [(122,.pure (preT (fun x:List Mono×Unit=>Yd x.1)) (Zg (fun x:List Mono×Unit=>ZY x.1))),(123,.own K7 CF),(116,.pure (preT (fun x:BoxT×List Fact×Bool×NilS×Unit=>ZP x.1&&Zo x.2.1&&decide (x.2.1.length<=100))) (Zg (fun x:BoxT×List Fact×Bool×NilS×Unit=>Zp x.1 x.2.1 x.2.2.1 []))),(117,.own Y3 WF),(125,.pure (preT (fun x:List Mono×List Coef×Unit=>Yd x.1&&Zv x.2.1)) (Zg (fun x:List Mono×List Coef×Unit=>Yz x.1 x.2.1))),(124,.own V8 UR),(126,.pure (preT (fun x:List Int×List Int×Unit=>decide (x.1.length<=10000)&&decide (x.2.1.length<=10000))) (Zg (fun x:List Int×List Int×Unit=>Dc x.1 x.2.1)))]
theorem b7n{G:PV->Prop}(E:Yx)(b:BoxT)(fs:List Fact)(p:List Mono)(h:(Go.Pl.preT (fun(x:List Mono×Unit)=>Yd x.1) [(.sl 2 false (List.map enc p))])=true∧(∃ y0:Bool,AV.pv (Zg (fun(x:List Mono×Unit)=>ZY x.1) [(.sl 2 false (List.map enc p))])=AV.pv (enc y0)∧((K7 [(.pv (.sl 2 false (List.map enc p)))] [])=true∧((Go.Pl.preT (fun(x:BoxT×List Fact×Bool×NilS×Unit)=>ZP x.1&&Zo x.2.1&&decide (List.length x.2.1<=100)) [(.agg [(.sl 1 false (List.map enc b.v)),(.int .i64 b.m)]),(.sl 3 false (List.map enc fs)),(.bool y0),(.sl 0 true [])])=true∧(∃ y1:Int,AV.pv (Zg (fun(x:BoxT×List Fact×Bool×NilS×Unit)=>Zp x.1 x.2.1 x.2.2.1 []) [(.agg [(.sl 1 false (List.map enc b.v)),(.int .i64 b.m)]),(.sl 3 false (List.map enc fs)),(.bool y0),(.sl 0 true [])])=AV.pv (enc y1)∧(if (y1 != 0)=true then G ((.tup [(.int .i64 0),(.int .i64 y1)]))else((Y3 [(.pv (.agg [(.sl 1 false (List.map enc b.v)),(.int .i64 b.m)])),(.pv (.sl 3 false (List.map enc fs)))] [])=true∧(E 0 ⟨ZM 77 0 [(5,(.ptr 0 0)),(6,(.ptr 1 0)),(7,(.ptr 2 0)),(9,(.ptr 3 0)),(10,(.ptr 4 0)),(11,(.ptr 5 0)),(13,.undef),(14,.undef),(15,.undef),(32,(.fn 177 [] [(.ptr 6 0),(.ptr 7 0)])),(34,.undef),(35,.undef),(36,.undef),(37,.undef),(38,.undef),(39,.undef),(40,.undef),(41,.undef),(42,.undef),(43,.undef),(44,.undef)],[(.obj (.box [(.pv (.sl 2 false (List.map enc p)))])),(.obj (.box [(.pv (.int .i64 0))])),(.obj (.box [(.pv (.int .i64 0))])),(.obj (.box [(.pv (.sl 0 true []))])),(.obj (.box [(.pv (.sl 0 true []))])),(.obj (.box [(.fn 124 [] [(.ptr 3 0),(.ptr 4 0)])])),(.obj (.box [(.pv (.sl 1 false (List.map enc b.v))),(.pv (.int .i64 b.m))])),(.obj (.box [(.pv (.sl 3 false (List.map enc fs)))]))]⟩ (fun x S'=>Jb YN E 0 (Za YZ G) YP 0 x S'))))))))):Zz YN E 0 (Za YZ G) (.inl YP) [] (YD 77 [enc b,enc fs,enc p]):=Zz.mp (.req (.abs (Bool) (fun YY=>AV.pv (enc YY)) (.req (.keep (.req (.abs (Int) (fun YY=>AV.pv (enc YY)) (.lit (.ask (.nil) (.req (.keep (.nil))))))))))) h (by kernel_rfl)
theorem a5x{G:PV->Prop}(E:Yx)(b:BoxT)(fs:List Fact)(p:List Mono)(h : ∃ y0:Int×Int,AV.pv (Zg (fun(x:List Int×List Int×Unit)=>Dc x.1 x.2.1) [(.sl 1 false [(.int .i64 0),(.int .i64 0)]),(.sl 1 false [(.int .i64 2147483648),(.int .i64 1)])])=AV.pv (enc y0)∧(G ((.tup [(.int .i64 y0.1),(.int .i64 y0.2)])))):AtM YN E 0 (Za YZ G) YP 0 77 [(6,.ptr 0 0),(7,.ptr 1 0),(9,.ptr 2 0),(10,.ptr 3 0),(16,.pv (.int .i64 0)),(17,.pv (.int .i64 0)),(47,.pv (.int .i64 0)),(48,.pv (.int .i64 0))] [.obj (.box [.pv (.int .i64 0)]),.obj (.box [.pv (.int .i64 0)]),.obj (.box [.pv (.sl 0 true [])]),.obj (.box [.pv (.sl 0 true [])])]:=Zz.mp (.lit (.lit (.lit (.lit (.lit (.lit (.lit (.lit (.lit (.lit (.abs (Int×Int) (fun YY=>AV.pv (enc YY)) (.nil)))))))))))) h (by kernel_rfl)
theorem TD{G:PV->Prop}(E:Yx)(b:BoxT)(fs:List Fact)(p:List Mono)(u z i:Int)(n:Nat)(xs ys:List Int)(h:if (decide (i<(↑n:Int)))=true then(decide (0<=i)&&decide (0+Int.toNat i<n)&&List.length (List.map enc xs)==n)=true∧((List.length (List.map enc xs)==n&&decide (0+Int.toNat i<List.length (List.map enc xs)))=true∧((decide (0+List.length [Sh.int .i64]<=List.length (PV.cells (List.getD (List.map enc xs) (0+Int.toNat i) default)))&&XL (PV.cells (List.getD (List.map enc xs) (0+Int.toNat i) default)) 0 [Sh.int .i64])=true∧((decide (0<=i)&&decide (0+Int.toNat i<n)&&List.length (List.map enc ys)==n)=true∧((List.length (List.map enc ys)==n&&decide (0+Int.toNat i<List.length (List.map enc ys)))=true∧((decide (0+List.length [Sh.int .i64]<=List.length (PV.cells (List.getD (List.map enc ys) (0+Int.toNat i) default)))&&XL (PV.cells (List.getD (List.map enc ys) (0+Int.toNat i) default)) 0 [Sh.int .i64])=true∧(AtM YN E 0 (Za YZ G) YP 0 77 [(6,(.ptr 0 0)),(7,(.ptr 1 0)),(9,(.ptr 2 0)),(10,(.ptr 3 0)),(16,(.pv (.int .i64 (IntKind.wrap IntKind.i64 (u+PV.asInt (List.getD (PV.cells (List.getD (List.map enc xs) (0+Int.toNat i) default)) 0 default)))))),(17,(.pv (.int .i64 (IntKind.wrap IntKind.i64 (z+PV.asInt (List.getD (PV.cells (List.getD (List.map enc ys) (0+Int.toNat i) default)) 0 default)))))),(47,(.pv (.int .i64 (↑n:Int)))),(48,(.pv (.int .i64 (IntKind.wrap IntKind.i64 (i+1)))))] [(.obj (.box [(.pv (.int .i64 0))])),(.obj (.box [(.pv (.int .i64 0))])),(.obj (.box [(.row 4 n 0 n)])),(.obj (.box [(.row 5 n 0 n)])),(.obj (.row false 3 1 (List.map enc xs))),(.obj (.row false 3 1 (List.map enc ys)))]))))))else(∃ y0:Int×Int,AV.pv (Zg (fun(x:List Int×List Int×Unit)=>Dc x.1 x.2.1) [(.sl 1 false [(.int .i64 (IntKind.wrap IntKind.i64 (u+Int.fdiv z (2 ^ min (Int.toNat 31) (IntKind.bits IntKind.i64))))),(.int .i64 (IntKind.wrap IntKind.i64 (↑(BitVec.toNat (BitVec.ofInt (IntKind.bits IntKind.i64) z &&& BitVec.ofInt (IntKind.bits IntKind.i64) 2147483647)):Int)))]),(.sl 1 false [(.int .i64 2147483648),(.int .i64 1)])])=AV.pv (enc y0)∧(G ((.tup [(.int .i64 y0.1),(.int .i64 y0.2)]))))):AtM YN E 0 (Za YZ G) YP 0 77 [(6,.ptr 0 0),(7,.ptr 1 0),(9,.ptr 2 0),(10,.ptr 3 0),(16,.pv (.int .i64 u)),(17,.pv (.int .i64 z)),(47,.pv (.int .i64 n)),(48,.pv (.int .i64 i))] [.obj (.box [.pv (.int .i64 0)]),.obj (.box [.pv (.int .i64 0)]),.obj (.box [.row 4 n 0 n]),.obj (.box [.row 5 n 0 n]),.obj (.row false 3 1 (xs.map enc)),.obj (.row false 3 1 (ys.map enc))]:=Zz.mp (.lit (.ask (.req (.keep (.req (.req (.lit (.req (.keep (.req (.req (.lit (.lit (.nil)))))))))))) (.lit (.lit (.lit (.lit (.lit (.lit (.lit (.lit (.abs (Int×Int) (fun YY=>AV.pv (enc YY)) (.nil)))))))))))) h (by kernel_rfl)
theorem a5c{G:PV->Prop}(E:Yx)(b:BoxT)(fs:List Fact)(p:List Mono)(h:AtM YN E 0 (Za YZ G) YP 0 77 [(6,(.ptr 0 0)),(7,(.ptr 1 0)),(9,(.ptr 2 0)),(10,(.ptr 3 0)),(16,(.pv (.int .i64 0))),(17,(.pv (.int .i64 0))),(47,(.pv (.int .i64 0))),(48,(.pv (.int .i64 0)))] [(.obj (.box [(.pv (.int .i64 0))])),(.obj (.box [(.pv (.int .i64 0))])),(.obj (.box [(.pv (.sl 0 true []))])),(.obj (.box [(.pv (.sl 0 true []))]))]):Jb YN E 0 (Za YZ G) YP 0 .normal ⟨ZM 77 0 [(5,.ptr 0 0),(6,.ptr 1 0),(7,.ptr 2 0),(9,.ptr 3 0),(10,.ptr 4 0),(11,.ptr 5 0)],[.obj (.box [.pv (enc p)]),.obj (.box [.pv (.int .i64 0)]),.obj (.box [.pv (.int .i64 0)]),.obj (.box [.pv (.sl 0 true [])]),.obj (.box [.pv (.sl 0 true [])]),.obj (.box [.fn 124 [] [.ptr 3 0,.ptr 4 0]])]⟩:=Zz.mp (.nil) h (by kernel_rfl)
theorem a4p{G:PV->Prop}(E:Yx)(b:BoxT)(fs:List Fact)(p:List Mono)(n:Nat)(xs ys:List Int)(h:AtM YN E 0 (Za YZ G) YP 0 77 [(6,(.ptr 0 0)),(7,(.ptr 1 0)),(9,(.ptr 2 0)),(10,(.ptr 3 0)),(16,(.pv (.int .i64 0))),(17,(.pv (.int .i64 0))),(47,(.pv (.int .i64 (↑(n - 0):Int)))),(48,(.pv (.int .i64 0)))] [(.obj (.box [(.pv (.int .i64 0))])),(.obj (.box [(.pv (.int .i64 0))])),(.obj (.box [(.row 4 n 0 n)])),(.obj (.box [(.row 5 n 0 n)])),(.obj (.row false 3 1 (List.map enc xs))),(.obj (.row false 3 1 (List.map enc ys)))]):Jb YN E 0 (Za YZ G) YP 0 .normal ⟨ZM 77 0 [(5,.ptr 0 0),(6,.ptr 1 0),(7,.ptr 2 0),(9,.ptr 3 0),(10,.ptr 4 0),(11,.ptr 5 0)],[.obj (.box [.pv (enc p)]),.obj (.box [.pv (.int .i64 0)]),.obj (.box [.pv (.int .i64 0)]),.obj (.box [.row 6 n 0 n]),.obj (.box [.row 7 n 0 n]),.obj (.box [.fn 124 [] [.ptr 3 0,.ptr 4 0]]),.obj (.row false 3 1 (xs.map enc)),.obj (.row false 3 1 (ys.map enc))]⟩:=Zz.mp (.nil) h (by kernel_rfl)
theorem Ou{G:PV->Prop}(E:Yx)(b:BoxT)(fs:List Fact)(p:List Mono)(h:G ((.tup [(.int .i64 0),(.int .i64 2)]))):Jb YN E 0 (Za YZ G) YP 0 .ret ⟨ZM 77 0 [(5,.ptr 0 0),(6,.ptr 1 0),(7,.ptr 2 0),(9,.ptr 3 0),(10,.ptr 4 0),(11,.ptr 5 0)],[.obj (.box [.pv (enc p)]),.obj (.box [.pv (.int .i64 0)]),.obj (.box [.pv (.int .i64 2)]),.obj (.box [.pv (.sl 0 true [])]),.obj (.box [.pv (.sl 0 true [])]),.obj (.box [.fn 124 [] [.ptr 3 0,.ptr 4 0]]),.fresh,.fresh]⟩:=Zz.mp (.nil) h (by kernel_rfl)
theorem EE{G:PV->Prop}(E:Yx)(b:BoxT)(fs:List Fact)(p:List Mono)(n:Nat)(xs ys:List Int)(h:G ((.tup [(.int .i64 0),(.int .i64 2)]))):Jb YN E 0 (Za YZ G) YP 0 .ret ⟨ZM 77 0 [(5,.ptr 0 0),(6,.ptr 1 0),(7,.ptr 2 0),(9,.ptr 3 0),(10,.ptr 4 0),(11,.ptr 5 0)],[.obj (.box [.pv (enc p)]),.obj (.box [.pv (.int .i64 0)]),.obj (.box [.pv (.int .i64 2)]),.obj (.box [.row 6 n 0 n]),.obj (.box [.row 7 n 0 n]),.obj (.box [.fn 124 [] [.ptr 3 0,.ptr 4 0]]),.obj (.row false 3 1 (xs.map enc)),.obj (.row false 3 1 (ys.map enc)),.fresh,.fresh]⟩:=Zz.mp (.nil) h (by kernel_rfl)
def WW:IC:=(.block 1 (.seq (.reg [⟨(some 36),(.load false [(.sl 2)] (.t 5)),0,none⟩,⟨(some 37),(.mv (.t 13)),0,none⟩,⟨(some 38),(.call (.c (.fn 125)) [(.t 36),(.t 37)]),0,none⟩,⟨(some 35),(.mv (.t 38)),2,none⟩,⟨(some 39),(.extract (.t 35) 0),2,none⟩,⟨(some 40),(.extract (.t 35) 1),2,none⟩,⟨(some 14),(.mv (.t 39)),2,none⟩,⟨(some 15),(.mv (.t 40)),2,none⟩] none) (.seq (.seq (.reg [⟨(some 41),(.mv (.t 15)),0,none⟩,⟨(some 42),(.bin .num .neq (.t 41) (.c (.int .i64 0))),0,none⟩] none) (.cond (.t 42) (.seq (.reg [⟨none,(.store 1 (.t 6) (.c (.int .i64 0))),0,none⟩,⟨none,(.store 1 (.t 7) (.c (.int .i64 2))),0,none⟩] none) .ret) .skip)) (.reg [⟨(some 43),(.load false [.any] (.t 11)),0,none⟩,⟨(some 44),(.mv (.t 14)),0,none⟩,⟨(some 45),(.call (.t 43) [(.t 44)]),0,none⟩] none))))
def Cn:ZC:=Xn [(122,.pure (preT (fun x:List Mono×Unit=>Yd x.1)) (Zg (fun x:List Mono×Unit=>ZY x.1))),(123,.own K7 CF),(116,.pure (preT (fun x:BoxT×List Fact×Bool×NilS×Unit=>ZP x.1&&Zo x.2.1&&decide (x.2.1.length<=100))) (Zg (fun x:BoxT×List Fact×Bool×NilS×Unit=>Zp x.1 x.2.1 x.2.2.1 []))),(117,.own Y3 WF),(125,.pure (preT (fun x:List Mono×List Coef×Unit=>Yd x.1&&Zv x.2.1)) (Zg (fun x:List Mono×List Coef×Unit=>Yz x.1 x.2.1))),(124,.own V8 UR),(126,.pure (preT (fun x:List Int×List Int×Unit=>decide (x.1.length<=10000)&&decide (x.2.1.length<=10000))) (Zg (fun x:List Int×List Int×Unit=>Dc x.1 x.2.1)))]
theorem b5x{G:Zt->Prop}(E:Yx)(p:List Mono)(q:List Int)(vs:List Coef)(h:(Go.Pl.preT (fun(x:List Mono×List Coef×Unit)=>Yd x.1&&Zv x.2.1) [(.sl 2 false (List.map enc p)),(.sl 2 false (List.map enc vs))])=true∧(∃ y0:Int×Int,AV.pv (Zg (fun(x:List Mono×List Coef×Unit)=>Yz x.1 x.2.1) [(.sl 2 false (List.map enc p)),(.sl 2 false (List.map enc vs))])=AV.pv (enc y0)∧(if (y0.2 != 0)=true then G ([(.obj (.box [(.pv (.sl 2 false (List.map enc p)))])),(.obj (.box [(.pv (.int .i64 0))])),(.obj (.box [(.pv (.int .i64 2))])),(.obj (.box [(.pv (.sl 0 true []))])),(.obj (.box [(.pv (.sl 0 true []))])),(.obj (.box [(.fn 124 [] [(.ptr 3 0),(.ptr 4 0)])])),.fresh,.fresh])else(E 99 ⟨ZM 77 0 [],[(.obj (.box [(.pv (.sl 2 false (List.map enc p)))])),(.obj (.box [(.pv (.int .i64 0))])),(.obj (.box [(.pv (.int .i64 0))])),(.obj (.box [(.row 6 1 0 1)])),(.obj (.box [(.row 7 1 0 1)])),(.obj (.box [(.fn 124 [] [(.ptr 3 0),(.ptr 4 0)])])),(.obj (.row false 3 1 [(.int .i64 (Wm y0.1))])),(.obj (.row false 3 1 [(.int .i64 (XR y0.1))]))]⟩ (fun x S'=>Jb Cn E 6 (fun st=>G st.heap) WW 99 x S'))))):Zz Cn E 6 (fun st=>G st.heap) (.inl WW) [.seq (.ext 99 [])] ⟨ZM 77 0 [(5,.ptr 0 0),(6,.ptr 1 0),(7,.ptr 2 0),(9,.ptr 3 0),(10,.ptr 4 0),(11,.ptr 5 0),(13,.pv (enc vs)),(33,.pv (enc q)),(34,.pv (enc vs))],[.obj (.box [.pv (enc p)]),.obj (.box [.pv (.int .i64 0)]),.obj (.box [.pv (.int .i64 0)]),.obj (.box [.pv (.sl 0 true [])]),.obj (.box [.pv (.sl 0 true [])]),.obj (.box [.fn 124 [] [.ptr 3 0,.ptr 4 0]])]⟩:=Zz.mh (.req (.abs (Int×Int) (fun YY=>AV.pv (enc YY)) (.lit (.ask (.nil) (.lit (.keep (.nil))))))) h (by kernel_rfl)
theorem a9k{G:Zt->Prop}(E:Yx)(p:List Mono)(q:List Int)(vs:List Coef)(n:Nat)(xs ys:List Int)(h:(Go.Pl.preT (fun(x:List Mono×List Coef×Unit)=>Yd x.1&&Zv x.2.1) [(.sl 2 false (List.map enc p)),(.sl 2 false (List.map enc vs))])=true∧(∃ y0:Int×Int,AV.pv (Zg (fun(x:List Mono×List Coef×Unit)=>Yz x.1 x.2.1) [(.sl 2 false (List.map enc p)),(.sl 2 false (List.map enc vs))])=AV.pv (enc y0)∧(if (y0.2 != 0)=true then G ([(.obj (.box [(.pv (.sl 2 false (List.map enc p)))])),(.obj (.box [(.pv (.int .i64 0))])),(.obj (.box [(.pv (.int .i64 2))])),(.obj (.box [(.row 6 n 0 n)])),(.obj (.box [(.row 7 n 0 n)])),(.obj (.box [(.fn 124 [] [(.ptr 3 0),(.ptr 4 0)])])),(.obj (.row false 3 1 (List.map enc xs))),(.obj (.row false 3 1 (List.map enc ys))),.fresh,.fresh])else((V8 [(.pv (.int .i64 y0.1)),(.ptr 0 0),(.ptr 1 0)] [(.box [(.row 2 n 0 n)]),(.box [(.row 3 n 0 n)]),(.row false 3 1 (List.map enc xs)),(.row false 3 1 (List.map enc ys))])=true∧(E 99 ⟨ZM 77 0 [],[(.obj (.box [(.pv (.sl 2 false (List.map enc p)))])),(.obj (.box [(.pv (.int .i64 0))])),(.obj (.box [(.pv (.int .i64 0))])),(.obj (.box [(.row 6 (n+1) 0 (n+1))])),(.obj (.box [(.row 7 (n+1) 0 (n+1))])),(.obj (.box [(.fn 124 [] [(.ptr 3 0),(.ptr 4 0)])])),(.obj (.row false 3 1 (List.map enc xs++[PV.int .i64 (Wm y0.1)]))),(.obj (.row false 3 1 (List.map enc ys++[PV.int .i64 (XR y0.1)])))]⟩ (fun x S'=>Jb Cn E 8 (fun st=>G st.heap) WW 99 x S')))))):Zz Cn E 8 (fun st=>G st.heap) (.inl WW) [.seq (.ext 99 [])] ⟨ZM 77 0 [(5,.ptr 0 0),(6,.ptr 1 0),(7,.ptr 2 0),(9,.ptr 3 0),(10,.ptr 4 0),(11,.ptr 5 0),(13,.pv (enc vs)),(33,.pv (enc q)),(34,.pv (enc vs))],[.obj (.box [.pv (enc p)]),.obj (.box [.pv (.int .i64 0)]),.obj (.box [.pv (.int .i64 0)]),.obj (.box [.row 6 n 0 n]),.obj (.box [.row 7 n 0 n]),.obj (.box [.fn 124 [] [.ptr 3 0,.ptr 4 0]]),.obj (.row false 3 1 (xs.map enc)),.obj (.row false 3 1 (ys.map enc))]⟩:=Zz.mh (.req (.abs (Int×Int) (fun YY=>AV.pv (enc YY)) (.lit (.ask (.nil) (.req (.keep (.nil))))))) h (by kernel_rfl)
def Y1:IC:=YP
def Y2:List IRes:=[(.cell false 1 6),(.cell false 1 7)]
abbrev b5q:Nat:=77
def YK:ZC:=Xn [(122,.pure (preT (fun x:List Mono×Unit=>Yd x.1)) (Zg (fun x:List Mono×Unit=>ZY x.1))),(123,.own UO RS),(116,.own Ud QS),(117,.own Y3 WF),(125,.pure (preT (fun x:List Mono×List Coef×Unit=>Yd x.1&&Zv x.2.1)) (Zg (fun x:List Mono×List Coef×Unit=>Yz x.1 x.2.1))),(124,.own V8 UR),(126,.pure (preT (fun x:List Int×List Int×Unit=>decide (x.1.length<=10000)&&decide (x.2.1.length<=10000))) (Zg (fun x:List Int×List Int×Unit=>Dc x.1 x.2.1)))]
theorem c2h{G:PV->Prop}(E:Yx)(b:BoxT)(fs:List Fact)(p:List Mono)(h:(Go.Pl.preT (fun(x:List Mono×Unit)=>Yd x.1) [(.sl 2 false (List.map enc p))])=true∧(∃ y0:Bool,AV.pv (Zg (fun(x:List Mono×Unit)=>ZY x.1) [(.sl 2 false (List.map enc p))])=AV.pv (enc y0)∧((UO [(.pv (.sl 2 false (List.map enc p)))] [])=true∧((Ud [(.pv (.agg [(.sl 1 false (List.map enc b.v)),(.int .i64 b.m)])),(.pv (.sl 3 false (List.map enc fs))),(.pv (.bool y0)),(.row 0 (List.length (Yp (VN (enc p)))) 0 (List.length (Yp (VN (enc p)))))] [(.row false 9 1 (List.map enc (Yp (VN (enc p)))))])=true∧(if (Zp (OG (PV.agg [enc b.v,enc b.m])) (CV (enc fs)) y0 (Ko (List.map enc (Yp (VN (enc p))))) != 0)=true then G ((.tup [(.int .i64 0),(.int .i64 (Zp (OG (PV.agg [enc b.v,enc b.m])) (CV (enc fs)) y0 (Ko (List.map enc (Yp (VN (enc p)))))))]))else((Y3 [(.pv (.agg [(.sl 1 false (List.map enc b.v)),(.int .i64 b.m)])),(.pv (.sl 3 false (List.map enc fs)))] [])=true∧(E 0 ⟨ZM 77 0 [(5,(.ptr 0 0)),(6,(.ptr 1 0)),(7,(.ptr 2 0)),(9,(.ptr 3 0)),(10,(.ptr 4 0)),(11,(.ptr 5 0)),(13,.undef),(14,.undef),(15,.undef),(32,(.fn 177 [] [(.ptr 6 0),(.ptr 7 0)])),(34,.undef),(35,.undef),(36,.undef),(37,.undef),(38,.undef),(39,.undef),(40,.undef),(41,.undef),(42,.undef),(43,.undef),(44,.undef)],[(.obj (.box [(.pv (.sl 2 false (List.map enc p)))])),(.obj (.box [(.pv (.int .i64 0))])),(.obj (.box [(.pv (.int .i64 0))])),(.obj (.box [(.pv (.sl 0 true []))])),(.obj (.box [(.pv (.sl 0 true []))])),(.obj (.box [(.fn 124 [] [(.ptr 3 0),(.ptr 4 0)])])),(.obj (.box [(.pv (.sl 1 false (List.map enc b.v))),(.pv (.int .i64 b.m))])),(.obj (.box [(.pv (.sl 3 false (List.map enc fs)))]))]⟩ (fun x S'=>Jb YK E 0 (Za Y2 G) Y1 0 x S')))))))):Zz YK E 0 (Za Y2 G) (.inl Y1) [] (YD 77 [enc b,enc fs,enc p]):=Zz.mp (.req (.abs (Bool) (fun YY=>AV.pv (enc YY)) (.req (.keep (.req (.keep (.lit (.ask (.nil) (.req (.keep (.nil))))))))))) h (by kernel_rfl)
theorem a4k{G:PV->Prop}(E:Yx)(b:BoxT)(fs:List Fact)(p:List Mono)(h : ∃ y0:Int×Int,AV.pv (Zg (fun(x:List Int×List Int×Unit)=>Dc x.1 x.2.1) [(.sl 1 false [(.int .i64 0),(.int .i64 0)]),(.sl 1 false [(.int .i64 2147483648),(.int .i64 1)])])=AV.pv (enc y0)∧(G ((.tup [(.int .i64 y0.1),(.int .i64 y0.2)])))):AtM YK E 0 (Za Y2 G) Y1 0 77 [(6,.ptr 0 0),(7,.ptr 1 0),(9,.ptr 2 0),(10,.ptr 3 0),(16,.pv (.int .i64 0)),(17,.pv (.int .i64 0)),(47,.pv (.int .i64 0)),(48,.pv (.int .i64 0))] [.obj (.box [.pv (.int .i64 0)]),.obj (.box [.pv (.int .i64 0)]),.obj (.box [.pv (.sl 0 true [])]),.obj (.box [.pv (.sl 0 true [])])]:=Zz.mp (.lit (.lit (.lit (.lit (.lit (.lit (.lit (.lit (.lit (.lit (.abs (Int×Int) (fun YY=>AV.pv (enc YY)) (.nil)))))))))))) h (by kernel_rfl)
theorem RH{G:PV->Prop}(E:Yx)(b:BoxT)(fs:List Fact)(p:List Mono)(u z i:Int)(n:Nat)(xs ys:List Int)(h:if (decide (i<(↑n:Int)))=true then(decide (0<=i)&&decide (0+Int.toNat i<n)&&List.length (List.map enc xs)==n)=true∧((List.length (List.map enc xs)==n&&decide (0+Int.toNat i<List.length (List.map enc xs)))=true∧((decide (0+List.length [Sh.int .i64]<=List.length (PV.cells (List.getD (List.map enc xs) (0+Int.toNat i) default)))&&XL (PV.cells (List.getD (List.map enc xs) (0+Int.toNat i) default)) 0 [Sh.int .i64])=true∧((decide (0<=i)&&decide (0+Int.toNat i<n)&&List.length (List.map enc ys)==n)=true∧((List.length (List.map enc ys)==n&&decide (0+Int.toNat i<List.length (List.map enc ys)))=true∧((decide (0+List.length [Sh.int .i64]<=List.length (PV.cells (List.getD (List.map enc ys) (0+Int.toNat i) default)))&&XL (PV.cells (List.getD (List.map enc ys) (0+Int.toNat i) default)) 0 [Sh.int .i64])=true∧(AtM YK E 0 (Za Y2 G) Y1 0 77 [(6,(.ptr 0 0)),(7,(.ptr 1 0)),(9,(.ptr 2 0)),(10,(.ptr 3 0)),(16,(.pv (.int .i64 (IntKind.wrap IntKind.i64 (u+PV.asInt (List.getD (PV.cells (List.getD (List.map enc xs) (0+Int.toNat i) default)) 0 default)))))),(17,(.pv (.int .i64 (IntKind.wrap IntKind.i64 (z+PV.asInt (List.getD (PV.cells (List.getD (List.map enc ys) (0+Int.toNat i) default)) 0 default)))))),(47,(.pv (.int .i64 (↑n:Int)))),(48,(.pv (.int .i64 (IntKind.wrap IntKind.i64 (i+1)))))] [(.obj (.box [(.pv (.int .i64 0))])),(.obj (.box [(.pv (.int .i64 0))])),(.obj (.box [(.row 4 n 0 n)])),(.obj (.box [(.row 5 n 0 n)])),(.obj (.row false 3 1 (List.map enc xs))),(.obj (.row false 3 1 (List.map enc ys)))]))))))else(∃ y0:Int×Int,AV.pv (Zg (fun(x:List Int×List Int×Unit)=>Dc x.1 x.2.1) [(.sl 1 false [(.int .i64 (IntKind.wrap IntKind.i64 (u+Int.fdiv z (2 ^ min (Int.toNat 31) (IntKind.bits IntKind.i64))))),(.int .i64 (IntKind.wrap IntKind.i64 (↑(BitVec.toNat (BitVec.ofInt (IntKind.bits IntKind.i64) z &&& BitVec.ofInt (IntKind.bits IntKind.i64) 2147483647)):Int)))]),(.sl 1 false [(.int .i64 2147483648),(.int .i64 1)])])=AV.pv (enc y0)∧(G ((.tup [(.int .i64 y0.1),(.int .i64 y0.2)]))))):AtM YK E 0 (Za Y2 G) Y1 0 77 [(6,.ptr 0 0),(7,.ptr 1 0),(9,.ptr 2 0),(10,.ptr 3 0),(16,.pv (.int .i64 u)),(17,.pv (.int .i64 z)),(47,.pv (.int .i64 n)),(48,.pv (.int .i64 i))] [.obj (.box [.pv (.int .i64 0)]),.obj (.box [.pv (.int .i64 0)]),.obj (.box [.row 4 n 0 n]),.obj (.box [.row 5 n 0 n]),.obj (.row false 3 1 (xs.map enc)),.obj (.row false 3 1 (ys.map enc))]:=Zz.mp (.lit (.ask (.req (.keep (.req (.req (.lit (.req (.keep (.req (.req (.lit (.lit (.nil)))))))))))) (.lit (.lit (.lit (.lit (.lit (.lit (.lit (.lit (.abs (Int×Int) (fun YY=>AV.pv (enc YY)) (.nil)))))))))))) h (by kernel_rfl)
theorem a4j{G:PV->Prop}(E:Yx)(b:BoxT)(fs:List Fact)(p:List Mono)(h:AtM YK E 0 (Za Y2 G) Y1 0 77 [(6,(.ptr 0 0)),(7,(.ptr 1 0)),(9,(.ptr 2 0)),(10,(.ptr 3 0)),(16,(.pv (.int .i64 0))),(17,(.pv (.int .i64 0))),(47,(.pv (.int .i64 0))),(48,(.pv (.int .i64 0)))] [(.obj (.box [(.pv (.int .i64 0))])),(.obj (.box [(.pv (.int .i64 0))])),(.obj (.box [(.pv (.sl 0 true []))])),(.obj (.box [(.pv (.sl 0 true []))]))]):Jb YK E 0 (Za Y2 G) Y1 0 .normal ⟨ZM 77 0 [(5,.ptr 0 0),(6,.ptr 1 0),(7,.ptr 2 0),(9,.ptr 3 0),(10,.ptr 4 0),(11,.ptr 5 0)],[.obj (.box [.pv (enc p)]),.obj (.box [.pv (.int .i64 0)]),.obj (.box [.pv (.int .i64 0)]),.obj (.box [.pv (.sl 0 true [])]),.obj (.box [.pv (.sl 0 true [])]),.obj (.box [.fn 124 [] [.ptr 3 0,.ptr 4 0]])]⟩:=Zz.mp (.nil) h (by kernel_rfl)
theorem a4g{G:PV->Prop}(E:Yx)(b:BoxT)(fs:List Fact)(p:List Mono)(n:Nat)(xs ys:List Int)(h:AtM YK E 0 (Za Y2 G) Y1 0 77 [(6,(.ptr 0 0)),(7,(.ptr 1 0)),(9,(.ptr 2 0)),(10,(.ptr 3 0)),(16,(.pv (.int .i64 0))),(17,(.pv (.int .i64 0))),(47,(.pv (.int .i64 (↑(n - 0):Int)))),(48,(.pv (.int .i64 0)))] [(.obj (.box [(.pv (.int .i64 0))])),(.obj (.box [(.pv (.int .i64 0))])),(.obj (.box [(.row 4 n 0 n)])),(.obj (.box [(.row 5 n 0 n)])),(.obj (.row false 3 1 (List.map enc xs))),(.obj (.row false 3 1 (List.map enc ys)))]):Jb YK E 0 (Za Y2 G) Y1 0 .normal ⟨ZM 77 0 [(5,.ptr 0 0),(6,.ptr 1 0),(7,.ptr 2 0),(9,.ptr 3 0),(10,.ptr 4 0),(11,.ptr 5 0)],[.obj (.box [.pv (enc p)]),.obj (.box [.pv (.int .i64 0)]),.obj (.box [.pv (.int .i64 0)]),.obj (.box [.row 6 n 0 n]),.obj (.box [.row 7 n 0 n]),.obj (.box [.fn 124 [] [.ptr 3 0,.ptr 4 0]]),.obj (.row false 3 1 (xs.map enc)),.obj (.row false 3 1 (ys.map enc))]⟩:=Zz.mp (.nil) h (by kernel_rfl)
theorem El{G:PV->Prop}(E:Yx)(b:BoxT)(fs:List Fact)(p:List Mono)(h:G ((.tup [(.int .i64 0),(.int .i64 2)]))):Jb YK E 0 (Za Y2 G) Y1 0 .ret ⟨ZM 77 0 [(5,.ptr 0 0),(6,.ptr 1 0),(7,.ptr 2 0),(9,.ptr 3 0),(10,.ptr 4 0),(11,.ptr 5 0)],[.obj (.box [.pv (enc p)]),.obj (.box [.pv (.int .i64 0)]),.obj (.box [.pv (.int .i64 2)]),.obj (.box [.pv (.sl 0 true [])]),.obj (.box [.pv (.sl 0 true [])]),.obj (.box [.fn 124 [] [.ptr 3 0,.ptr 4 0]]),.fresh,.fresh]⟩:=Zz.mp (.nil) h (by kernel_rfl)
theorem En{G:PV->Prop}(E:Yx)(b:BoxT)(fs:List Fact)(p:List Mono)(n:Nat)(xs ys:List Int)(h:G ((.tup [(.int .i64 0),(.int .i64 2)]))):Jb YK E 0 (Za Y2 G) Y1 0 .ret ⟨ZM 77 0 [(5,.ptr 0 0),(6,.ptr 1 0),(7,.ptr 2 0),(9,.ptr 3 0),(10,.ptr 4 0),(11,.ptr 5 0)],[.obj (.box [.pv (enc p)]),.obj (.box [.pv (.int .i64 0)]),.obj (.box [.pv (.int .i64 2)]),.obj (.box [.row 6 n 0 n]),.obj (.box [.row 7 n 0 n]),.obj (.box [.fn 124 [] [.ptr 3 0,.ptr 4 0]]),.obj (.row false 3 1 (xs.map enc)),.obj (.row false 3 1 (ys.map enc)),.fresh,.fresh]⟩:=Zz.mp (.nil) h (by kernel_rfl)
def VV:IC:=WW
def CG:ZC:=Xn [(122,.pure (preT (fun x:List Mono×Unit=>Yd x.1)) (Zg (fun x:List Mono×Unit=>ZY x.1))),(123,.own UO RS),(116,.own Ud QS),(117,.own Y3 WF),(125,.pure (preT (fun x:List Mono×List Coef×Unit=>Yd x.1&&Zv x.2.1)) (Zg (fun x:List Mono×List Coef×Unit=>Yz x.1 x.2.1))),(124,.own V8 UR),(126,.pure (preT (fun x:List Int×List Int×Unit=>decide (x.1.length<=10000)&&decide (x.2.1.length<=10000))) (Zg (fun x:List Int×List Int×Unit=>Dc x.1 x.2.1)))]
theorem b1p{G:Zt->Prop}(E:Yx)(p:List Mono)(q:List Int)(vs:List Coef)(h:(Go.Pl.preT (fun(x:List Mono×List Coef×Unit)=>Yd x.1&&Zv x.2.1) [(.sl 2 false (List.map enc p)),(.sl 2 false (List.map enc vs))])=true∧(∃ y0:Int×Int,AV.pv (Zg (fun(x:List Mono×List Coef×Unit)=>Yz x.1 x.2.1) [(.sl 2 false (List.map enc p)),(.sl 2 false (List.map enc vs))])=AV.pv (enc y0)∧(if (y0.2 != 0)=true then G ([(.obj (.box [(.pv (.sl 2 false (List.map enc p)))])),(.obj (.box [(.pv (.int .i64 0))])),(.obj (.box [(.pv (.int .i64 2))])),(.obj (.box [(.pv (.sl 0 true []))])),(.obj (.box [(.pv (.sl 0 true []))])),(.obj (.box [(.fn 124 [] [(.ptr 3 0),(.ptr 4 0)])])),.fresh,.fresh])else(E 99 ⟨ZM 77 0 [],[(.obj (.box [(.pv (.sl 2 false (List.map enc p)))])),(.obj (.box [(.pv (.int .i64 0))])),(.obj (.box [(.pv (.int .i64 0))])),(.obj (.box [(.row 6 1 0 1)])),(.obj (.box [(.row 7 1 0 1)])),(.obj (.box [(.fn 124 [] [(.ptr 3 0),(.ptr 4 0)])])),(.obj (.row false 3 1 [(.int .i64 (Wm y0.1))])),(.obj (.row false 3 1 [(.int .i64 (XR y0.1))]))]⟩ (fun x S'=>Jb CG E 6 (fun st=>G st.heap) VV 99 x S'))))):Zz CG E 6 (fun st=>G st.heap) (.inl VV) [.seq (.ext 99 [])] ⟨ZM 77 0 [(5,.ptr 0 0),(6,.ptr 1 0),(7,.ptr 2 0),(9,.ptr 3 0),(10,.ptr 4 0),(11,.ptr 5 0),(13,.pv (enc vs)),(33,.pv (enc q)),(34,.pv (enc vs))],[.obj (.box [.pv (enc p)]),.obj (.box [.pv (.int .i64 0)]),.obj (.box [.pv (.int .i64 0)]),.obj (.box [.pv (.sl 0 true [])]),.obj (.box [.pv (.sl 0 true [])]),.obj (.box [.fn 124 [] [.ptr 3 0,.ptr 4 0]])]⟩:=Zz.mh (.req (.abs (Int×Int) (fun YY=>AV.pv (enc YY)) (.lit (.ask (.nil) (.lit (.keep (.nil))))))) h (by kernel_rfl)
theorem a7w{G:Zt->Prop}(E:Yx)(p:List Mono)(q:List Int)(vs:List Coef)(n:Nat)(xs ys:List Int)(h:(Go.Pl.preT (fun(x:List Mono×List Coef×Unit)=>Yd x.1&&Zv x.2.1) [(.sl 2 false (List.map enc p)),(.sl 2 false (List.map enc vs))])=true∧(∃ y0:Int×Int,AV.pv (Zg (fun(x:List Mono×List Coef×Unit)=>Yz x.1 x.2.1) [(.sl 2 false (List.map enc p)),(.sl 2 false (List.map enc vs))])=AV.pv (enc y0)∧(if (y0.2 != 0)=true then G ([(.obj (.box [(.pv (.sl 2 false (List.map enc p)))])),(.obj (.box [(.pv (.int .i64 0))])),(.obj (.box [(.pv (.int .i64 2))])),(.obj (.box [(.row 6 n 0 n)])),(.obj (.box [(.row 7 n 0 n)])),(.obj (.box [(.fn 124 [] [(.ptr 3 0),(.ptr 4 0)])])),(.obj (.row false 3 1 (List.map enc xs))),(.obj (.row false 3 1 (List.map enc ys))),.fresh,.fresh])else((V8 [(.pv (.int .i64 y0.1)),(.ptr 0 0),(.ptr 1 0)] [(.box [(.row 2 n 0 n)]),(.box [(.row 3 n 0 n)]),(.row false 3 1 (List.map enc xs)),(.row false 3 1 (List.map enc ys))])=true∧(E 99 ⟨ZM 77 0 [],[(.obj (.box [(.pv (.sl 2 false (List.map enc p)))])),(.obj (.box [(.pv (.int .i64 0))])),(.obj (.box [(.pv (.int .i64 0))])),(.obj (.box [(.row 6 (n+1) 0 (n+1))])),(.obj (.box [(.row 7 (n+1) 0 (n+1))])),(.obj (.box [(.fn 124 [] [(.ptr 3 0),(.ptr 4 0)])])),(.obj (.row false 3 1 (List.map enc xs++[PV.int .i64 (Wm y0.1)]))),(.obj (.row false 3 1 (List.map enc ys++[PV.int .i64 (XR y0.1)])))]⟩ (fun x S'=>Jb CG E 8 (fun st=>G st.heap) VV 99 x S')))))):Zz CG E 8 (fun st=>G st.heap) (.inl VV) [.seq (.ext 99 [])] ⟨ZM 77 0 [(5,.ptr 0 0),(6,.ptr 1 0),(7,.ptr 2 0),(9,.ptr 3 0),(10,.ptr 4 0),(11,.ptr 5 0),(13,.pv (enc vs)),(33,.pv (enc q)),(34,.pv (enc vs))],[.obj (.box [.pv (enc p)]),.obj (.box [.pv (.int .i64 0)]),.obj (.box [.pv (.int .i64 0)]),.obj (.box [.row 6 n 0 n]),.obj (.box [.row 7 n 0 n]),.obj (.box [.fn 124 [] [.ptr 3 0,.ptr 4 0]]),.obj (.row false 3 1 (xs.map enc)),.obj (.row false 3 1 (ys.map enc))]⟩:=Zz.mh (.req (.abs (Int×Int) (fun YY=>AV.pv (enc YY)) (.lit (.ask (.nil) (.req (.keep (.nil))))))) h (by kernel_rfl)
end Go.Pl

namespace Go.Pl
open Go.RowKit
open Enc (enc dec is)
open EncL (encL decL isL)
theorem Jw{a b:Int}: ∀ {l:List Int},(∀ x∈l,a<=x∧x<=b)->l.length*a<=l.sum∧l.sum<=l.length*b
 | [],_=>by simp
 | x::l,h=>by
  have h1:=h x (by simp)
  have h2:=Jw (l:=l) fun y hy=>h y (by simp[hy])
  rw[List.length_cons,List.sum_cons,Int.natCast_add,Int.add_mul,Int.add_mul]
  simp only[Int.natCast_one,Int.one_mul]
  omega
theorem c6m(n:Int):Wm n*2147483648+XR n=n:=by unfold Wm XR;omega
theorem b1b{n:Int}(h:Ua n=true): -2147483648<=Wm n∧Wm n<=2147483648:=by
 unfold Ua at h
 simp only[Bool.and_eq_true,decide_eq_true_eq]at h
 unfold Wm;omega
theorem a9x(n:Int):0<=XR n∧XR n<=2147483647:=by unfold XR;omega
theorem AY: ∀ l:List Int,(l.map Wm).sum*2147483648+(l.map XR).sum=l.sum
 | []=>rfl
 | n::l=>by
  have h1:=c6m n
  have h2:=AY l
  simp only[List.map_cons,List.sum_cons,Int.add_mul]
  omega
theorem Ab{l:List Int}(hl:l.length<=20000)(hr : ∀ x∈l,Ua x=true){H L:Int}(hH:H=(l.map Wm).sum+(l.map XR).sum / 2147483648)(hL:L=(l.map XR).sum % 2147483648):
  Dc [H,L] [2147483648,1]=WT l:=by
 have h1:=Jw (l:=l.map Wm) (a:= -2147483648) (b:=2147483648) (by
  intro x hx
  obtain⟨n,hn,rfl⟩:=List.mem_map.1 hx
  exact b1b (hr n hn))
 have h2:=Jw (l:=l.map XR) (a:=0) (b:=2147483647) (by
  intro x hx
  obtain⟨n,hn,rfl⟩:=List.mem_map.1 hx
  exact a9x n)
 have h3:=AY l
 rw[List.length_map]at h1 h2
 have hd:O7 [H,L] [2147483648,1]=l.sum:=by
  show H*2147483648+(L*1+0)=_
  omega
 have ha:l.all Ua=true:=List.all_eq_true.2 hr
 have e1:Ua H=true:=by
  unfold Ua
  rw[decide_eq_true (by omega),decide_eq_true (by omega)];rfl
 have e2:Ua L=true:=by
  unfold Ua
  rw[decide_eq_true (by omega),decide_eq_true (by omega)];rfl
 unfold Dc WT
 rw[hd,ha,if_pos (by rfl)]
 have:(List.all [H,L] Ua&&List.all [(2147483648:Int),1] Ua)=true:=by
  simp only[List.all_cons,List.all_nil,Bool.and_true,e1,e2,Bool.and_eq_true]
  decide
 rw[this]
theorem a2t{l:List Int}:Ua (WT l).1=true:=by
 unfold WT
 split
 ·rename_i h
  simp only[Bool.and_eq_true]at h
  exact h.2
 ·decide
theorem b6q(p:List Mono)(vs:List Coef):Ua (Yz p vs).1=true:=by
 unfold Yz
 split
 ·split
  ·decide
  ·split
   ·decide
   ·split
    ·decide
    ·exact a2t
 ·decide
theorem Qx{p:List Mono}{vs:List Str}: ∀ {qs:List (List Int)} {l:List Int},WM p vs qs=some l->l.length=qs.length
 | [],_,h=>by cases h;rfl
 | q::r,l,h=>by
  rw[WM]at h
  split at h
  ·cases h
  ·obtain⟨m,hm,rfl⟩:=Option.map_eq_some_iff.1 h
   simp[Qx hm]
theorem BL{p:List Mono}{vs:List Str}: ∀ {qs:List (List Int)} {l:List Int},WM p vs qs=some l-> ∀ x∈l,Ua x=true
 | [],_,h=>by cases h;simp
 | q::r,l,h=>by
  rw[WM]at h
  split at h
  ·cases h
  ·obtain⟨m,hm,rfl⟩:=Option.map_eq_some_iff.1 h
   intro x hx
   rcases List.mem_cons.1 hx with rfl|hx
   ·exact b6q _ _
   ·exact BL hm x hx
theorem Um{p:List Mono}{vs:List Str}{q:List Int}(hq:(Yz p (Zn vs q)).2=0): ∀ {qs:List (List Int)} {l:List Int},WM p vs qs=some l->WM p vs (qs++[q])=some (l++[(Yz p (Zn vs q)).1])
 | [],_,h=>by cases h;rw[List.nil_append,WM,if_neg (by simp[hq])];rfl
 | q'::r,l,h=>by
  rw[WM]at h
  split at h
  ·cases h
  ·rename_i h2
   obtain⟨m,hm,rfl⟩:=Option.map_eq_some_iff.1 h
   rw[List.cons_append,WM,if_neg h2,Um hq hm];rfl
theorem CW{p:List Mono}{vs:List Str}{q:List Int}(hq:(Yz p (Zn vs q)).2≠0){r:List (List Int)}: ∀ (qs:List (List Int)),WM p vs (qs++q::r)=none
 | []=>by rw[List.nil_append,WM,if_pos hq]
 | q'::qs=>by
  rw[List.cons_append,WM,CW hq qs]
  split <;> rfl
section
variable {α:Type} [Inhabited α] [DecidableEq α]
theorem Nc{d:Array α}{x:α}: ∀ {m:Nat},m<=d.size->x∈Lib.compactUpTo d m-> ∃ j,j<m∧x=d[j]!
 | 0,_,h=>by simp[Lib.compactUpTo]at h
 | m+1,hm,h=>by
  rw[Lib.compactUpTo_succ,List.mem_append]at h
  rcases h with h|h
  ·obtain⟨j,h1,h2⟩:=Nc (by omega) h;exact⟨j,by omega,h2⟩
  ·split at h
   ·exact⟨m,by omega,by simpa using h⟩
   ·simp at h
theorem Po{d:Array α}: ∀ {m:Nat},m<=d.size-> ∀ j,j<m->d[j]! ∈ Lib.compactUpTo d m
 | 0,_,j,h=>by omega
 | m+1,hm,j,h=>by
  rw[Lib.compactUpTo_succ,List.mem_append]
  by_cases hj:j<m
  ·exact .inl (Po (by omega) j hj)
  ·have:j=m:=by omega
   subst this
   cases hk:Lib.keeps d j
   ·refine .inl ?_
    have h0:j≠0∧d[j]! = d[j - 1]! :=by
     unfold Lib.keeps at hk
     simpa [not_or]using hk
    rw[h0.2]
    exact Po (by omega) (j - 1) (by omega)
   ·right;simp
theorem Mw{zs:List α}{x:α}:x∈Lib.compact zs ↔ x∈zs:=by
 unfold Lib.compact
 constructor
 ·intro h
  obtain⟨j,h1,rfl⟩:=Nc (by simp) h
  simp[getElem!_pos,h1]
 ·intro h
  obtain⟨j,hj,rfl⟩:=List.getElem_of_mem h
  have:=Po (d:=zs.toArray) (m:=zs.length) (by simp) j hj
  simpa [getElem!_pos,hj]using this
end
theorem a1p{d:Array (List UInt8)}(hs : ∀ i j,i<j->j<d.size->d[i]! <= d[j]!): ∀ {m:Nat},m<=d.size->(Lib.compactUpTo d m).Pairwise (· < ·)
 | 0,_=>by simp[Lib.compactUpTo]
 | m+1,hm=>by
  rw[Lib.compactUpTo_succ,List.pairwise_append]
  refine⟨a1p hs (by omega),by split <;> simp,?_⟩
  intro x hx y hy
  split at hy
  ·rename_i hk
   have hy:y=d[m]! :=by simpa using hy
   subst hy
   obtain⟨j,hj,rfl⟩:=Nc (by omega) hx
   have h0:m≠0:=by omega
   have hne:d[m]! ≠ d[m - 1]! :=by
    unfold Lib.keeps at hk
    simpa [h0]using hk
   have h1:d[m - 1]! <= d[m]! :=hs _ _ (by omega) (by omega)
   have h2:d[j]! <= d[m - 1]! :=by
    by_cases e:j=m - 1
    ·rw[e];exact List.le_refl _
    ·exact hs _ _ (by omega) (by omega)
   have h3:d[m - 1]! < d[m]! :=by
    rcases List.le_iff_lt_or_eq.1 h1 with h|h
    ·exact h
    ·exact absurd h.symm hne
   exact Std.lt_of_le_of_lt h2 h3
  ·simp at hy
theorem b0d(ss:List (List UInt8)):(Xv ss).Pairwise (· <= ·):=by
 have:=List.pairwise_mergeSort (le:=fun x y:List UInt8=>decide (x<=y)) (fun a b c h1 h2=>by
  simp only[decide_eq_true_eq]at *;exact List.le_trans h1 h2) (fun a b=>by
  simp only[Bool.or_eq_true,decide_eq_true_eq];exact List.le_total a b) ss
 exact this.imp fun h=>by simpa using h
theorem a9e(ss:List (List UInt8)):(Lib.compact (Xv ss)).Pairwise (· < ·):=by
 unfold Lib.compact
 refine a1p ?_ (by simp)
 intro i j hij hj
 have hj:j<(Xv ss).length:=by simpa using hj
 have:=List.pairwise_iff_getElem.1 (b0d ss) i j (by omega) hj hij
 simpa [getElem!_pos,hj,show i<(Xv ss).length by omega]using this
theorem TB(p:List Mono)(x:Str):x∈Yp p ↔ x∈XC p:=by
 unfold Yp
 rw[List.mem_map]
 constructor
 ·rintro⟨s,hs,rfl⟩
  have:=(List.mergeSort_perm _ _).mem_iff.1 (Mw.1 hs)
  obtain⟨y,hy,e⟩:=List.mem_map.1 this
  cases y;cases e;exact hy
 ·intro h
  exact⟨x.s,Mw.2 ((List.mergeSort_perm _ _).mem_iff.2 (List.mem_map.2 ⟨x,h,rfl⟩)),rfl⟩
theorem a6h(p:List Mono):(Yp p).Pairwise fun x y:Str=>x.s<y.s:=by
 unfold Yp Xe
 rw[List.pairwise_map]
 exact a9e _
theorem CY{s x:Str}: ∀ {l:List Str},x∈Gy l s ↔ x=s∨x∈l
 | []=>by simp[Gy]
 | t::r=>by
  rw[Gy]
  split
  ·rw[List.mem_cons,CY,List.mem_cons]
   constructor
   ·rintro(h|h|h) <;> simp[h]
   ·rintro(h|h|h) <;> simp[h]
  ·split
   ·rename_i h;subst h
    simp
   ·simp
theorem Fp{s:Str}: ∀ {l:List Str},(l.Pairwise fun x y:Str=>x.s<y.s)->(Gy l s).Pairwise fun x y:Str=>x.s<y.s
 | [],_=>by simp[Gy]
 | t::r,h=>by
  have ht:=List.pairwise_cons.1 h
  rw[Gy]
  split
  ·rename_i h1
   refine List.pairwise_cons.2 ⟨fun y hy=> ?_,Fp ht.2⟩
   rcases CY.1 hy with rfl|hy
   ·exact h1
   ·exact ht.1 y hy
  ·split
   ·exact h
   ·rename_i h1 h2
    have h3:s.s<t.s:=by
     rcases List.le_iff_lt_or_eq.1 (List.not_lt.1 h1)with h|h
     ·exact h
     ·exact absurd (by cases s;cases t;simpa using h.symm) h2
    refine List.pairwise_cons.2 ⟨fun y hy=> ?_,h⟩
    rcases List.mem_cons.1 hy with rfl|hy
    ·exact h3
    ·exact List.lt_trans h3 (ht.1 y hy)
theorem M7: ∀ (l o:List Str),(o.Pairwise fun x y:Str=>x.s<y.s)->((l.foldl Gy o).Pairwise fun x y:Str=>x.s<y.s)∧ ∀ x,x∈l.foldl Gy o ↔ x∈l∨x∈o
 | [],o,h=>⟨h,by simp⟩
 | s::l,o,h=>by
  obtain⟨h1,h2⟩:=M7 l (Gy o s) (Fp h)
  refine⟨h1,fun x=> ?_⟩
  show x∈l.foldl Gy (Gy o s) ↔ _
  rw[h2,CY,List.mem_cons]
  constructor
  ·rintro(h|h|h) <;> simp[h]
  ·rintro((h|h)|h) <;> simp[h]
theorem a2m: ∀ {a b:List Str},(a.Pairwise fun x y:Str=>x.s<y.s)->(b.Pairwise fun x y:Str=>x.s<y.s)->(∀ x,x∈a ↔ x∈b)->a=b
 | [],[],_,_,_=>rfl
 | [],y::b,_,_,h=>absurd ((h y).2 (by simp)) (by simp)
 | x::a,[],_,_,h=>absurd ((h x).1 (by simp)) (by simp)
 | x::a,y::b,ha,hb,h=>by
  have ha':=List.pairwise_cons.1 ha
  have hb':=List.pairwise_cons.1 hb
  have e:x=y:=by
   rcases List.mem_cons.1 ((h x).1 (by simp))with e|h1
   ·exact e
   ·rcases List.mem_cons.1 ((h y).2 (by simp))with e|h2
    ·exact e.symm
    ·exact absurd (List.lt_trans (hb'.1 x h1) (ha'.1 y h2)) (List.lt_irrefl _)
  subst e
  rw[a2m ha'.2 hb'.2 fun z=> ?_]
  constructor
  ·intro hz
   rcases List.mem_cons.1 ((h z).1 (by simp[hz]))with e|h1
   ·subst e;exact absurd (ha'.1 z hz) (List.lt_irrefl _)
   ·exact h1
  ·intro hz
   rcases List.mem_cons.1 ((h z).2 (by simp[hz]))with e|h1
   ·subst e;exact absurd (hb'.1 z hz) (List.lt_irrefl _)
   ·exact h1
theorem RJ(p:List Mono):Yp p=(XC p).foldl Gy []:=by
 obtain⟨h1,h2⟩:=M7 (XC p) [] .nil
 exact a2m (a6h p) h1 fun x=>by rw[TB,h2];simp
theorem a5w{p:List Mono}(h:(XC p).isEmpty=true):Yp p=[]:=by
 rw[RJ,List.isEmpty_iff.1 h];rfl
theorem b5k{p:List Mono}(h:(XC p).isEmpty=false):(Yp p).isEmpty=false:=by
 rw[List.isEmpty_eq_false_iff]at h ⊢
 intro e
 obtain⟨x,hx⟩:=List.exists_mem_of_ne_nil _ h
 have:=(TB p x).2 hx
 rw[e]at this;cases this
theorem a7k(p:List Mono):(Yp p).length<=(XC p).length:=by
 unfold Yp
 rw[List.length_map]
 refine Nat.le_trans (Hz _) ?_
 unfold Xe Xv
 rw[(List.mergeSort_perm _ _).length_eq,List.length_map];exact Nat.le_refl _
end Go.Pl

