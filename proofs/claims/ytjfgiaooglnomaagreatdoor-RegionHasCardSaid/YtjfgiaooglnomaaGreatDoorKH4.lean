/-
  Texts of mine that belong together (packed by pack.py), for every input: GRp, QGp, QLr, GLm, GLk, QLk, GLn, QLn, QLo, QLp, QRa, QRb, QRc, TyQ, GLu, GLt, QRs, QRt, QRu, QRv, GLv, QRw, QRx, TyRb, TyRc, TyPo, QGd, GRc, QRd, QRe, GRd, QRf, TyRd, GRx, QRg, GPv, QPv, GPw, QPw, GPs, TyPs.
-/
import Derived.Test.YtjfgiaooglnomaaGreatDoorKH2
import Derived.Test.YtjfgiaooglnomaaGreatDoorKH3
import Derived.KernelRfl
import Derived.Lib.SlicesCompact
set_option linter.unusedVariables false
set_option linter.unusedSimpArgs false
namespace Go.Pl
open Go.RowKit
open Enc (enc dec is)
open EncL (encL decL isL)
set_option maxRecDepth 100000
def R8:IC:=(.reg [⟨(some 7),(.faddr 0 (.t 1)),0,none⟩,⟨(some 8),(.load false [(.sl 1)] (.t 7)),0,none⟩,⟨(some 9),(.len 1 (.t 8)),0,none⟩,⟨(some 10),(.mksl 3 1 8 (.int .i64 0) (.t 9) (.t 9)),0,none⟩,⟨(some 4),(.mv (.t 10)),1,none⟩] none)
def M8:List IRes:=[]
def EN:ZE:=Xi [(48,.own Qn Kv)]
theorem b9o{G:AV×List AObj×List AObj->Prop}(E:Yv)(l:Nat)(b:BoxT)(fs:List Fact)(h:(decide (0<=(↑(List.length (PV.asXs (List.getD (List.drop 0 [enc b.v,PV.int .i64 b.m]) 0 default))):Int))&&(↑(List.length (PV.asXs (List.getD (List.drop 0 [enc b.v,PV.int .i64 b.m]) 0 default))):Int)==(↑(List.length (PV.asXs (List.getD (List.drop 0 [enc b.v,PV.int .i64 b.m]) 0 default))):Int)&&decide ((↑(List.length (PV.asXs (List.getD (List.drop 0 [enc b.v,PV.int .i64 b.m]) 0 default))):Int)*(↑8:Int)<=1099511627776)&&decide ((↑(List.length (PV.asXs (List.getD (List.drop 0 [enc b.v,PV.int .i64 b.m]) 0 default))):Int)<=1099511627776))=true∧(E 99 ⟨ZO 52 0 [(0,(.yld l)),(1,(.pv (.rptr [(.sl 1 false (List.map enc b.v)),(.int .i64 b.m)]))),(2,(.pv (.rptr [(.sl 3 false (List.map enc fs))]))),(4,(.row 0 (Int.toNat (↑(List.length (PV.asXs (List.getD (List.drop 0 [enc b.v,PV.int .i64 b.m]) 0 default))):Int)) 0 (Int.toNat (↑(List.length (PV.asXs (List.getD (List.drop 0 [enc b.v,PV.int .i64 b.m]) 0 default))):Int))))],[(.obj (.row false 3 1 (List.replicate (Int.toNat (↑(List.length (PV.asXs (List.getD (List.drop 0 [enc b.v,PV.int .i64 b.m]) 0 default))):Int)) (PV.int .i64 0))))]⟩ (fun x S'=>KF EN E 0 (Zh 0 M8 G) R8 99 x S'))):Zz EN E 0 (Zh 0 M8 G) (.inl R8) [.seq (.ext 99 [0,1,2,4])] ⟨ZO 52 0 [(0,.yld l),(1,(.pv (.rptr [enc b.v,.int .i64 b.m]))),(2,(.pv (.rptr [enc fs])))],[]⟩:=Zz.mo (.lit (.req (.nil))) h (by kernel_rfl)
def Rs:IC:=(.reg [⟨(some 11),(.load true [(.sl 1),(.int .i64)] (.t 1)),0,none⟩,⟨(some 12),(.mv (.t 4)),0,none⟩,⟨(some 13),(.call (.c (.fn 48)) [(.t 11),(.t 12)]),0,none⟩,⟨(some 5),(.mv (.t 13)),2,none⟩] none)
def Fb:List IRes:=[]
def a7h:ZE:=Xi [(48,.own Qn Kv)]
theorem c2t{G:AV×List AObj×List AObj->Prop}(E:Yv)(l:Nat)(b:BoxT)(fs:List Fact)(n:Nat)(p:List Int)(h:(Qn [(.pv (.agg [(.sl 1 false (PV.asXs (List.getD [enc b.v,PV.int .i64 b.m] 0 default))),(.int .i64 (PV.asInt (List.getD [enc b.v,PV.int .i64 b.m] (0+1) default)))])),(.row 0 n 0 n)] [(.row false 3 1 (List.map enc p))])=true∧(E 99 ⟨ZO 52 0 [(0,(.yld l)),(1,(.pv (.rptr [(.sl 1 false (List.map enc b.v)),(.int .i64 b.m)]))),(2,(.pv (.rptr [(.sl 3 false (List.map enc fs))]))),(4,(.row 0 n 0 n)),(5,(.pv (.sl 2 false (List.map enc (Zj (dec (Sh.co (Sh.sl 1) (List.getD [enc b.v,PV.int .i64 b.m] 0 default))) (a8v (List.map enc p)))))))],[(.obj (.row false 3 1 (List.map enc p)))]⟩ (fun x S'=>KF a7h E 1 (Zh 1 Fb G) Rs 99 x S'))):Zz a7h E 1 (Zh 1 Fb G) (.inl Rs) [.seq (.ext 99 [0,1,2,4,5])] ⟨ZO 52 0 [(0,.yld l),(1,(.pv (.rptr [enc b.v,.int .i64 b.m]))),(2,(.pv (.rptr [enc fs]))),(4,.row 0 n 0 n)],[.obj (.row false 3 1 (p.map enc))]⟩:=Zz.mo (.lit (.req (.keep (.nil)))) h (by kernel_rfl)
def UL:IC:=(.seq (.reg [⟨(some 25),(.mv (.t 4)),0,none⟩,⟨(some 26),(.len 1 (.t 25)),0,none⟩,⟨(some 27),(.bin .num .sub (.t 26) (.c (.int .i64 1))),0,none⟩,⟨(some 6),(.mv (.t 27)),0,none⟩] none) (.seq (.block 2 (.loop [6,4,1,2,0] (.seq (.seq (.reg [⟨(some 28),(.mv (.t 6)),0,none⟩,⟨(some 29),(.bin .num .geq (.t 28) (.c (.int .i64 0))),0,none⟩,⟨(some 30),(.mv (.t 29)),0,none⟩,⟨(some 31),(.mv (.t 4)),0,(some (30,true))⟩,⟨(some 32),(.mv (.t 6)),0,(some (30,true))⟩,⟨(some 33),(.iaddr 1 (.t 31) (.t 32)),0,(some (30,true))⟩,⟨(some 34),(.load false [(.int .i64)] (.t 33)),0,(some (30,true))⟩,⟨(some 35),(.faddr 1 (.t 1)),0,(some (30,true))⟩,⟨(some 36),(.load false [(.int .i64)] (.t 35)),0,(some (30,true))⟩,⟨(some 37),(.bin .num .eql (.t 34) (.t 36)),0,(some (30,true))⟩,⟨(some 38),(.pick (.t 30) (.t 37) (.c (.bool false))),0,none⟩] (some [[],[0],[1,0],[2,1,0],[2,1,0],[3,4,2,1,0],[5,2,3,4,1,0],[2,1,0],[7,2,1,0],[6,8,2,5,3,4,1,0,7],[2,9,1,0,6,8,5,3,4,7]])) (.cond (.t 38) .skip (.exit 2))) (.block 3 (.seq (.reg [⟨(some 39),(.mv (.t 4)),0,none⟩,⟨(some 40),(.mv (.t 6)),0,none⟩,⟨(some 41),(.iaddr 1 (.t 39) (.t 40)),0,none⟩,⟨none,(.store 1 (.t 41) (.c (.int .i64 0))),0,none⟩] none) (.reg [⟨(some 42),(.mv (.t 6)),0,none⟩,⟨(some 43),(.bin .num .sub (.t 42) (.c (.int .i64 1))),0,none⟩,⟨(some 6),(.mv (.t 43)),0,none⟩] none)))))) (.seq (.seq (.reg [⟨(some 44),(.mv (.t 6)),0,none⟩,⟨(some 45),(.bin .num .lss (.t 44) (.c (.int .i64 0))),0,none⟩] none) (.cond (.t 45) .ret .skip)) (.reg [⟨(some 46),(.mv (.t 4)),0,none⟩,⟨(some 47),(.mv (.t 6)),0,none⟩,⟨(some 48),(.iaddr 1 (.t 46) (.t 47)),0,none⟩,⟨(some 49),(.load false [(.int .i64)] (.t 48)),0,none⟩,⟨(some 50),(.bin .num .add (.t 49) (.c (.int .i64 1))),0,none⟩,⟨(some 51),(.iaddr 1 (.t 46) (.t 47)),0,none⟩,⟨none,(.store 1 (.t 51) (.t 50)),0,none⟩] none))))
def QR:List IRes:=[]
def Gs:ZE:=Xi [(48,.own Qn Kv)]
theorem b2s{G:AV×List AObj×List AObj->Prop}(E:Yv)(l:Nat)(b:BoxT)(fs:List Fact)(n:Nat)(p:List Int)(k:Int)(h:if (decide (k ≥ 0))=true then(decide (0<=k)&&decide (0+Int.toNat k<n)&&List.length (List.map enc p)==n)=true∧((List.length (List.map enc p)==n&&decide (0+Int.toNat k<List.length (List.map enc p)))=true∧((decide (0+List.length [Sh.int .i64]<=List.length (PV.cells (List.getD (List.map enc p) (0+Int.toNat k) default)))&&Y4 (PV.cells (List.getD (List.map enc p) (0+Int.toNat k) default)) 0 [Sh.int .i64])=true∧(if (PV.asInt (List.getD (PV.cells (List.getD (List.map enc p) (0+Int.toNat k) default)) 0 default)==PV.asInt (List.getD (List.drop 1 [enc b.v,PV.int .i64 b.m]) 0 default))=true then(decide (0<=k)&&decide (0+Int.toNat k<n)&&List.length (List.map enc p)==n)=true∧((List.length (List.map enc p)==n&&decide (0+Int.toNat k<List.length (List.map enc p))&&List.length (PV.cells (PV.int .i64 0))==1&&decide (0+1<=List.length (PV.cells (List.getD (List.map enc p) (0+Int.toNat k) default)))&&PV.cellsOk (PV.int .i64 0))=true∧(AtS [.seq (.ext 99 [0,1,2,4])] Gs E 1 (Zh 1 QR G) UL 0 52 [(0,(.yld l)),(1,(.pv (.rptr [(.sl 1 false (List.map enc b.v)),(.int .i64 b.m)]))),(2,(.pv (.rptr [(.sl 3 false (List.map enc fs))]))),(4,(.row 0 n 0 n)),(6,(.pv (.int .i64 (IntKind.wrap IntKind.i64 (k - 1)))))] [(.obj (.row false 3 1 (List.set (List.map enc p) (0+Int.toNat k) (PV.withCells (List.getD (List.map enc p) (0+Int.toNat k) default) (splice (PV.cells (List.getD (List.map enc p) (0+Int.toNat k) default)) 0 (PV.cells (PV.int .i64 0)))))))]))else(if (decide (k<0))=true then G (((.tup []),([(.row false 3 1 (List.map enc p))],[])))else((decide (0<=k)&&decide (0+Int.toNat k<n)&&List.length (List.map enc p)==n)=true∧((List.length (List.map enc p)==n&&decide (0+Int.toNat k<List.length (List.map enc p)))=true∧((decide (0+List.length [Sh.int .i64]<=List.length (PV.cells (List.getD (List.map enc p) (0+Int.toNat k) default)))&&Y4 (PV.cells (List.getD (List.map enc p) (0+Int.toNat k) default)) 0 [Sh.int .i64])=true∧((decide (0<=k)&&decide (0+Int.toNat k<n)&&List.length (List.map enc p)==n)=true∧((List.length (List.map enc p)==n&&decide (0+Int.toNat k<List.length (List.map enc p))&&List.length (PV.cells (PV.int .i64 (IntKind.wrap IntKind.i64 (PV.asInt (List.getD (PV.cells (List.getD (List.map enc p) (0+Int.toNat k) default)) 0 default)+1))))==1&&decide (0+1<=List.length (PV.cells (List.getD (List.map enc p) (0+Int.toNat k) default)))&&PV.cellsOk (PV.int .i64 (IntKind.wrap IntKind.i64 (PV.asInt (List.getD (PV.cells (List.getD (List.map enc p) (0+Int.toNat k) default)) 0 default)+1))))=true∧(E 99 ⟨ZO 52 0 [(0,(.yld l)),(1,(.pv (.rptr [(.sl 1 false (List.map enc b.v)),(.int .i64 b.m)]))),(2,(.pv (.rptr [(.sl 3 false (List.map enc fs))]))),(4,(.row 0 n 0 n))],[(.obj (.row false 3 1 (List.set (List.map enc p) (0+Int.toNat k) (PV.withCells (List.getD (List.map enc p) (0+Int.toNat k) default) (splice (PV.cells (List.getD (List.map enc p) (0+Int.toNat k) default)) 0 (PV.cells (PV.int .i64 (IntKind.wrap IntKind.i64 (PV.asInt (List.getD (PV.cells (List.getD (List.map enc p) (0+Int.toNat k) default)) 0 default)+1)))))))))]⟩ (fun x S'=>KF Gs E 1 (Zh 1 QR G) UL 99 x S')))))))))))else(if (decide (k<0))=true then G (((.tup []),([(.row false 3 1 (List.map enc p))],[])))else((decide (0<=k)&&decide (0+Int.toNat k<n)&&List.length (List.map enc p)==n)=true∧((List.length (List.map enc p)==n&&decide (0+Int.toNat k<List.length (List.map enc p)))=true∧((decide (0+List.length [Sh.int .i64]<=List.length (PV.cells (List.getD (List.map enc p) (0+Int.toNat k) default)))&&Y4 (PV.cells (List.getD (List.map enc p) (0+Int.toNat k) default)) 0 [Sh.int .i64])=true∧((decide (0<=k)&&decide (0+Int.toNat k<n)&&List.length (List.map enc p)==n)=true∧((List.length (List.map enc p)==n&&decide (0+Int.toNat k<List.length (List.map enc p))&&List.length (PV.cells (PV.int .i64 (IntKind.wrap IntKind.i64 (PV.asInt (List.getD (PV.cells (List.getD (List.map enc p) (0+Int.toNat k) default)) 0 default)+1))))==1&&decide (0+1<=List.length (PV.cells (List.getD (List.map enc p) (0+Int.toNat k) default)))&&PV.cellsOk (PV.int .i64 (IntKind.wrap IntKind.i64 (PV.asInt (List.getD (PV.cells (List.getD (List.map enc p) (0+Int.toNat k) default)) 0 default)+1))))=true∧(E 99 ⟨ZO 52 0 [(0,(.yld l)),(1,(.pv (.rptr [(.sl 1 false (List.map enc b.v)),(.int .i64 b.m)]))),(2,(.pv (.rptr [(.sl 3 false (List.map enc fs))]))),(4,(.row 0 n 0 n))],[(.obj (.row false 3 1 (List.set (List.map enc p) (0+Int.toNat k) (PV.withCells (List.getD (List.map enc p) (0+Int.toNat k) default) (splice (PV.cells (List.getD (List.map enc p) (0+Int.toNat k) default)) 0 (PV.cells (PV.int .i64 (IntKind.wrap IntKind.i64 (PV.asInt (List.getD (PV.cells (List.getD (List.map enc p) (0+Int.toNat k) default)) 0 default)+1)))))))))]⟩ (fun x S'=>KF Gs E 1 (Zh 1 QR G) UL 99 x S'))))))))):AtS [.seq (.ext 99 [0,1,2,4])] Gs E 1 (Zh 1 QR G) UL 0 52 [(0,.yld l),(1,(.pv (.rptr [enc b.v,.int .i64 b.m]))),(2,(.pv (.rptr [enc fs]))),(4,.row 0 n 0 n),(6,.pv (.int .i64 k))] [.obj (.row false 3 1 (p.map enc))]:=Zz.mo (.lit (.ask (.lit (.lit (.req (.keep (.lit (.req (.req (.lit (.lit (.lit (.lit (.lit (.lit (.ask (.req (.keep (.req (.lit (.nil))))) (.lit (.ask (.nil) (.req (.keep (.req (.req (.lit (.req (.keep (.req (.nil))))))))))))))))))))))))) (.lit (.lit (.lit (.lit (.lit (.lit (.lit (.lit (.lit (.ask (.nil) (.req (.keep (.req (.req (.lit (.req (.keep (.req (.nil))))))))))))))))))))) h (by kernel_rfl)
theorem c2g{G:AV×List AObj×List AObj->Prop}(E:Yv)(l:Nat)(b:BoxT)(fs:List Fact)(n:Nat)(p:List Int)(h:AtS [.seq (.ext 99 [0,1,2,4])] Gs E 1 (Zh 1 QR G) UL 0 52 [(0,(.yld l)),(1,(.pv (.rptr [(.sl 1 false (List.map enc b.v)),(.int .i64 b.m)]))),(2,(.pv (.rptr [(.sl 3 false (List.map enc fs))]))),(4,(.row 0 n 0 n)),(6,(.pv (.int .i64 (IntKind.wrap IntKind.i64 ((↑(n - 0):Int) - 1)))))] [(.obj (.row false 3 1 (List.map enc p)))]):Zz Gs E 1 (Zh 1 QR G) (.inl UL) [.seq (.ext 99 [0,1,2,4])] ⟨ZO 52 0 [(0,.yld l),(1,(.pv (.rptr [enc b.v,.int .i64 b.m]))),(2,(.pv (.rptr [enc fs]))),(4,.row 0 n 0 n)],[.obj (.row false 3 1 (p.map enc))]⟩:=Zz.mo (.lit (.nil)) h (by kernel_rfl)
def XV:IC:=(.seq (.reg [⟨(some 2),(.box 2 (.t 0)),0,none⟩,⟨(some 4),(.mv (.c (.sl 0 true []))),1,none⟩] none) (.seq (.reg [⟨(some 5),(.mv (.c (.sl 0 true []))),0,none⟩] none) (.seq (.seq (.reg [⟨(some 7),(.mv (.t 1)),0,none⟩,⟨(some 8),(.len 1 (.t 7)),0,none⟩,⟨(some 9),(.faddr 0 (.t 2)),0,none⟩,⟨(some 10),(.load false [(.sl 1)] (.t 9)),0,none⟩,⟨(some 11),(.len 1 (.t 10)),0,none⟩,⟨(some 12),(.mm false (.t 8) (.t 11)),0,none⟩,⟨(some 13),(.mv (.c (.int .i64 0))),0,none⟩] none) (.block 0 (.loop [13,12,5,2,1] (.seq (.reg [⟨(some 14),(.bin .num .lss (.t 13) (.t 12)),0,none⟩] none) (.seq (.cond (.t 14) .skip (.exit 0)) (.seq (.block 1 (.seq (.reg [⟨(some 15),(.mv (.t 13)),0,none⟩,⟨(some 6),(.mv (.t 15)),0,none⟩] none) (.reg [⟨(some 16),(.mv (.t 5)),0,none⟩,⟨(some 17),(.faddr 0 (.t 2)),0,none⟩,⟨(some 18),(.load false [(.sl 1)] (.t 17)),0,none⟩,⟨(some 19),(.mv (.t 6)),0,none⟩,⟨(some 20),(.iaddr 1 (.t 18) (.t 19)),0,none⟩,⟨(some 21),(.load false [.str] (.t 20)),0,none⟩,⟨(some 22),(.mv (.t 1)),0,none⟩,⟨(some 23),(.mv (.t 6)),0,none⟩,⟨(some 24),(.iaddr 1 (.t 22) (.t 23)),0,none⟩,⟨(some 25),(.load false [(.int .i64)] (.t 24)),0,none⟩,⟨(some 26),(.build [(.str []),(.int .i64 0)] [(0,(1,(.t 21))),(1,(1,(.t 25)))]),0,none⟩,⟨(some 27),(.bslice 63 2 1 (.agg [(.str []),(.int .i64 0)]) [(0,(.t 26))]),0,none⟩,⟨(some 28),(.append 63 2 24 (.t 16) (.t 27)),1,none⟩,⟨(some 5),(.mv (.t 28)),2,none⟩] (some [[],[],[1],[],[2,3,1],[4,2,3,1],[],[],[6,7],[8,6,7],[5,9,4,2,3,1,8,6,7],[10,5,9,4,2,3,1,8,6,7],[0,11,10,5,9,4,2,3,1,8,6,7],[12,0,1,2,3,4,5,6,7,8,9,10,11]])))) (.reg [⟨(some 29),(.bin .num .add (.t 13) (.c (.int .i64 1))),0,none⟩,⟨(some 13),(.mv (.t 29)),0,none⟩] none))))))) (.seq (.reg [⟨(some 30),(.mv (.t 5)),0,none⟩,⟨(some 4),(.mv (.t 30)),0,none⟩] none) .ret))))
def XY:List IRes:=[(.tmp 4)]
abbrev a0e:Nat:=31
def WM:ZE:=Xi []
theorem a4p{G:AV×List AObj×List AObj->Prop}(b:BoxT)(m:Nat)(p:List Int)(h:At WM 1 (UE 1 XY G) XV 0 31 [(1,(.row 0 m 0 m)),(2,(.ptr 1 0)),(5,(.pv (.sl 0 true []))),(12,(.pv (.int .i64 (if false=true then if (↑(List.length (List.map enc b.v)):Int)>(↑(m - 0):Int)then(↑(List.length (List.map enc b.v)):Int)else(↑(m - 0):Int)else if (↑(List.length (List.map enc b.v)):Int)<(↑(m - 0):Int)then(↑(List.length (List.map enc b.v)):Int)else(↑(m - 0):Int))))),(13,(.pv (.int .i64 0)))] [(.obj (.row false 3 1 (List.map enc p))),(.obj (.box [(.pv (.sl 1 false (List.map enc b.v))),(.pv (.int .i64 b.m))]))]):Zc WM 1 (UE 1 XY G) XV [] (YH 31 [.pv (enc b),.row 0 m 0 m] [.row false 3 1 (p.map enc)]):=Zc.tf (.nil) h (by kernel_rfl)
theorem Ct{G:AV×List AObj×List AObj->Prop}(b:BoxT)(m:Nat)(p:List Int)(n i:Int)(h:if (decide (i<n))=true then(decide (0<=i)&&decide (Int.toNat i<List.length (List.map enc b.v))&&Enc.sz Str==1)=true∧(∃ y0:Str,AV.pv (PV.rptr (PV.cells (List.getD (List.map enc b.v) (Int.toNat i) default)))=AV.pv (PV.rptr (PV.cells ((enc) y0)))∧((decide (0<=i)&&decide (0+Int.toNat i<m)&&List.length (List.map enc p)==m)=true∧((List.length (List.map enc p)==m&&decide (0+Int.toNat i<List.length (List.map enc p)))=true∧((decide (0+List.length [Sh.int .i64]<=List.length (PV.cells (List.getD (List.map enc p) (0+Int.toNat i) default)))&&Y4 (PV.cells (List.getD (List.map enc p) (0+Int.toNat i) default)) 0 [Sh.int .i64])=true∧(At WM 1 (UE 1 XY G) XV 0 31 [(1,(.row 0 m 0 m)),(2,(.ptr 1 0)),(5,(.row 2 1 0 1)),(12,(.pv (.int .i64 n))),(13,(.pv (.int .i64 (IntKind.wrap IntKind.i64 (i+1)))))] [(.obj (.row false 3 1 (List.map enc p))),(.obj (.box [(.pv (.sl 1 false (List.map enc b.v))),(.pv (.int .i64 b.m))])),(.obj (.row false 63 2 [(.agg [(.str (PV.asStr (List.getD (PV.cells (enc y0)) 0 default))),(.int .i64 (PV.asInt (List.getD (PV.cells (List.getD (List.map enc p) (0+Int.toNat i) default)) 0 default)))])]))])))))else(G (((.pv (.sl 0 true [])),([(.row false 3 1 (List.map enc p))],[]))))):At WM 1 (UE 1 XY G) XV 0 31 [(1,.row 0 m 0 m),(2,.ptr 1 0),(5,.pv (.sl 0 true [])),(12,.pv (.int .i64 n)),(13,.pv (.int .i64 i))] [.obj (.row false 3 1 (p.map enc)),.obj (.box [.pv (enc b.v),.pv (.int .i64 b.m)])]:=At.tf (.lit (.ask (.req (.abs (Str) (fun YY=>AV.pv (PV.rptr (PV.cells ((enc) YY)))) (.lit (.req (.keep (.req (.req (.lit (.lit (.lit (.lit (.lit (.lit (.nil)))))))))))))) (.nil))) h (by kernel_rfl)
theorem DW{G:AV×List AObj×List AObj->Prop}(b:BoxT)(m:Nat)(p:List Int)(n i:Int)(q:Nat)(vs:List Coef)(h:if (decide (i<n))=true then(decide (0<=i)&&decide (Int.toNat i<List.length (List.map enc b.v))&&Enc.sz Str==1)=true∧(∃ y0:Str,AV.pv (PV.rptr (PV.cells (List.getD (List.map enc b.v) (Int.toNat i) default)))=AV.pv (PV.rptr (PV.cells ((enc) y0)))∧((decide (0<=i)&&decide (0+Int.toNat i<m)&&List.length (List.map enc p)==m)=true∧((List.length (List.map enc p)==m&&decide (0+Int.toNat i<List.length (List.map enc p)))=true∧((decide (0+List.length [Sh.int .i64]<=List.length (PV.cells (List.getD (List.map enc p) (0+Int.toNat i) default)))&&Y4 (PV.cells (List.getD (List.map enc p) (0+Int.toNat i) default)) 0 [Sh.int .i64])=true∧((List.length (List.map enc vs)==q&&q==q&&decide ((q+List.length (List.drop 0 (List.take 1 [PV.agg [Sh.co Sh.str (List.getD (PV.cells (enc y0)) 0 default),Sh.co (Sh.int .i64) (List.getD (PV.cells (List.getD (List.map enc p) (0+Int.toNat i) default)) 0 default)]])))*24<=1099511627776)&&decide (q+List.length (List.drop 0 (List.take 1 [PV.agg [Sh.co Sh.str (List.getD (PV.cells (enc y0)) 0 default),Sh.co (Sh.int .i64) (List.getD (PV.cells (List.getD (List.map enc p) (0+Int.toNat i) default)) 0 default)]]))<=1099511627776))=true∧(At WM 1 (UE 1 XY G) XV 0 31 [(1,(.row 0 m 0 m)),(2,(.ptr 1 0)),(5,(.row 2 (q+List.length (List.drop 0 (List.take 1 [PV.agg [Sh.co Sh.str (List.getD (PV.cells (enc y0)) 0 default),Sh.co (Sh.int .i64) (List.getD (PV.cells (List.getD (List.map enc p) (0+Int.toNat i) default)) 0 default)]]))) 0 (q+List.length (List.drop 0 (List.take 1 [PV.agg [Sh.co Sh.str (List.getD (PV.cells (enc y0)) 0 default),Sh.co (Sh.int .i64) (List.getD (PV.cells (List.getD (List.map enc p) (0+Int.toNat i) default)) 0 default)]]))))),(12,(.pv (.int .i64 n))),(13,(.pv (.int .i64 (IntKind.wrap IntKind.i64 (i+1)))))] [(.obj (.row false 3 1 (List.map enc p))),(.obj (.box [(.pv (.sl 1 false (List.map enc b.v))),(.pv (.int .i64 b.m))])),(.obj (.row false 63 2 (List.map enc vs++List.drop 0 (List.take 1 [PV.agg [Sh.co Sh.str (List.getD (PV.cells (enc y0)) 0 default),Sh.co (Sh.int .i64) (List.getD (PV.cells (List.getD (List.map enc p) (0+Int.toNat i) default)) 0 default)]]))))]))))))else((List.length (List.map enc vs)==q)=true∧(G (((.pv (.sl 2 false (List.drop 0 (List.take q (List.map enc vs))))),([(.row false 3 1 (List.map enc p))],[])))))):At WM 1 (UE 1 XY G) XV 0 31 [(1,.row 0 m 0 m),(2,.ptr 1 0),(5,.row 2 q 0 q),(12,.pv (.int .i64 n)),(13,.pv (.int .i64 i))] [.obj (.row false 3 1 (p.map enc)),.obj (.box [.pv (enc b.v),.pv (.int .i64 b.m)]),.obj (.row false 63 2 (vs.map enc))]:=At.tf (.lit (.ask (.req (.abs (Str) (fun YY=>AV.pv (PV.rptr (PV.cells ((enc) YY)))) (.lit (.req (.keep (.req (.req (.lit (.lit (.req (.lit (.nil)))))))))))) (.req (.nil)))) h (by kernel_rfl)
end Go.Pl

namespace Go.Pl
open Go.RowKit
open Enc (enc dec is)
open EncL (encL decL isL)
theorem Ch{l:List Int}{i:Nat}(h:i<l.length):List.getD (List.map (enc:Int->PV) l) (0+Int.toNat (i:Int)) default=enc l[i]:=by simp[List.getD,h]
theorem Nf(b:BoxT)(p:List Int)(hb:b.v.length<=1000)(hp:p.length<=1000): ∀ (k i:Nat),k+i=min b.v.length p.length->1<=i ->
  At WM 1 (UE 1 XY fun r=> ∃ q q',r.1 = .pv q∧Sub q q'∧((.pv (.sl 2 false ((Zj b.v p).map enc)),[.row false 3 1 (p.map enc)],[]):AV×List AObj×List AObj)=(.pv q',r.2)) XV 0 31 [(1,.row 0 p.length 0 p.length),(2,.ptr 1 0),(5,.row 2 i 0 i),(12,.pv (.int .i64 ((min b.v.length p.length:Nat):Int))),(13,.pv (.int .i64 i))] [.obj (.row false 3 1 (p.map enc)),.obj (.box [.pv (enc b.v),.pv (.int .i64 b.m)]),.obj (.row false 63 2 ((Zj (b.v.take i) (p.take i)).map enc))]:=by
 intro k
 induction k with
 | zero=>
  intro i hi h1
  have hl:=JH b.v p (i:=i) (by omega) (by omega)
  refine DW b p.length p _ i i (Zj (b.v.take i) (p.take i)) (ZV (Z8 (by omega)) ⟨by simp[hl],?_⟩)
  rw[List.drop_zero,List.take_of_length_le (by rw[List.length_map,hl];exact Nat.le_refl _),MF b.v p (by omega)]
  exact⟨_,_,rfl,Sub.refl _,rfl⟩
 | succ k ih=>
  intro i hi h1
  have hl:=JH b.v p (i:=i) (by omega) (by omega)
  have hlt:i<b.v.length:=by omega
  have hlt2:i<p.length:=by omega
  have e:=Ch hlt2
  refine DW b p.length p _ i i (Zj (b.v.take i) (p.take i)) (ZQ (Z4 (by omega)) ⟨Zu hlt rfl,ZG hlt ⟨by simp;omega,by simp;omega,?_,?_,?_⟩⟩)
  ·rw[e];rfl
  ·rw[List.length_map,hl]
   show((i==i)&&(i==i)&&decide ((i+1)*24<=1099511627776)&&decide (i+1<=1099511627776))=true
   rw[decide_eq_true (by omega),decide_eq_true (by omega)];simp
  ·have:=ih (i+1) (by omega) (by omega)
   rw[Kh b.v p hlt hlt2,List.map_append,<- next (by omega)]at this
   rw[e]
   exact this
theorem NT(l:List Int):a8v (l.map enc)=l:=Enc.dec_enc l
theorem Ll: ∀ args os,Qn args os=true->Zc WM os.length (UE os.length XY fun r=> ∃ p p',r.1 = .pv p∧Sub p p'∧Kv args os=(.pv p',r.2)) XV [] (YH a0e args os):=by
 intro args os h
 unfold Qn at h
 split at h
 ·rename_i v k n m ty xs
  simp only[Bool.and_eq_true,beq_iff_eq,decide_eq_true_eq]at h
  obtain⟨⟨⟨⟨⟨⟨rfl,h2⟩,rfl⟩,h4⟩,h5⟩,h6⟩,h7⟩:=h
  obtain⟨p,hp⟩:=Yu h4
  have hp:PV.sl 1 false xs=PV.sl 1 false (p.map enc):=hp
  injection hp with _ _ hx
  subst hx
  obtain⟨bv,rfl⟩:=Yu h5
  rw[Enc.dec_enc]at h6
  rw[List.length_map]at h2
  subst h2
  have ev:Kv [.pv (.agg [enc bv,.int .i64 k]),.row 0 p.length 0 p.length] [.row false 3 1 (p.map enc)]=(.pv (.sl 2 false ((Zj bv p).map enc)),[.row false 3 1 (p.map enc)],[]):=by
   show(AV.pv (.sl 2 false ((Zj (dec (enc bv:PV)) (a8v (p.map enc))).map enc)),_,_)=_
   rw[Enc.dec_enc,NT]
  rw[ev]
  refine a4p ⟨bv,k⟩ p.length p ?_
  simp only[List.length_map]
  rw[if_neg (by decide)]
  have em:(if ((bv.length:Nat):Int)<((p.length - 0:Nat):Int)then(bv.length:Int)else((p.length - 0:Nat):Int))=((min bv.length p.length:Nat):Int):=by
   split <;> omega
  rw[em]
  by_cases h0:min bv.length p.length=0
  ·rw[h0]
   refine Ct ⟨bv,k⟩ p.length p 0 0 (ZV (by decide) ?_)
   have:Zj bv p=[]:=by
    rw[<- List.length_eq_zero_iff];unfold Zj;rw[List.length_zipWith];exact h0
   rw[this]
   exact⟨_,_,rfl,Sub.sl0 0 2 true,rfl⟩
  ·have hlt:0<bv.length:=by omega
   have hlt2:0<p.length:=by omega
   have e:=Ch hlt2
   refine Ct ⟨bv,k⟩ p.length p _ 0 (ZQ (Z4 (i:=0) (by omega)) ⟨Zu hlt rfl,ZG hlt ⟨by simp;omega,by simp;omega,?_,?_⟩⟩)
   ·have e:List.getD (List.map (enc:Int->PV) p) (0+Int.toNat 0) default=enc p[0]:=e
    rw[e];rfl
   ·have:=Nf ⟨bv,k⟩ p h6 h7 (min bv.length p.length - 1) 1 (by show min bv.length p.length - 1+1=min bv.length p.length;omega) (by omega)
    rw[show(1:Nat)=0+1 from rfl,Kh bv p hlt hlt2]at this
    have e:List.getD (List.map (enc:Int->PV) p) (0+Int.toNat 0) default=enc p[0]:=e
    rw[e]
    exact this
 ·cases h
def KM(l:Nat)(b:BoxT)(fs:List Fact)(n:Nat):List AV:=ZO 52 0 [(0,.yld l),(1,.pv (.rptr [enc b.v,.int .i64 b.m])),(2,.pv (.rptr [enc fs])),(4,.row 0 n 0 n)]
def YB(p:List Int):Zr:=[.obj (.row false 3 1 (p.map enc))]
def a9y(l:Nat)(b:BoxT)(fs:List Fact)(n:Nat)(p:List Int):List AV:=ZO 52 0 [(0,.yld l),(1,.pv (.rptr [enc b.v,.int .i64 b.m])),(2,.pv (.rptr [enc fs])),(4,.row 0 n 0 n),(5,.pv (enc (Zj b.v p)))]
theorem b4x(l:Nat)(b:BoxT)(fs:List Fact)(hb:b.v.length<=1000):Zz EN (fun n S' _=>n=99∧S'=⟨KM l b fs b.v.length,YB (VT b.v)⟩) 0 (Zh 0 M8 fun _=>False) (.inl R8) [.seq (.ext 99 [0,1,2,4])] ⟨ZO 52 0 [(0,.yld l),(1,.pv (.rptr [enc b.v,.int .i64 b.m])),(2,.pv (.rptr [enc fs]))],[]⟩:=by
 have e:PV.asXs (List.getD (List.drop 0 [enc b.v,PV.int .i64 b.m]) 0 default)=b.v.map enc:=rfl
 have en:Int.toNat ((List.length (List.map (enc:Str->PV) b.v):Nat):Int)=b.v.length:=by simp
 have ez:List.replicate b.v.length (PV.int .i64 0)=(VT b.v).map enc:=by
  unfold VT
  rw[List.map_map]
  exact(List.map_const' ..).symm
 refine b9o (G:=fun _=>False) _ l b fs ⟨?_,rfl,?_⟩
 ·simp only[e,List.length_map]
  simp
  omega
 ·simp only[e,en,ez]
  rfl
theorem b5a(l:Nat)(b:BoxT)(fs:List Fact)(p:List Int)(hb:b.v.length<=1000)(hp:p.length<=1000):Zz a7h (fun n S' _=>n=99∧S'=⟨a9y l b fs p.length p,YB p⟩) 1 (Zh 1 Fb fun _=>False) (.inl Rs) [.seq (.ext 99 [0,1,2,4,5])] ⟨KM l b fs p.length,YB p⟩:=by
 refine c2t (G:=fun _=>False) _ l b fs p.length p ⟨?_,rfl,?_⟩
 ·show(p.length==p.length&&(p.map enc).length==p.length&&3==3&&Vf (List Int) (enc p)&&Vf (List Str) (enc b.v)&&decide ((dec (enc b.v:PV):List Str).length<=1000)&&decide (p.length<=1000))=true
  rw[Z5,Z5,Enc.dec_enc,decide_eq_true hb,decide_eq_true hp];simp
 ·have e1:Zj (dec (Sh.co (Sh.sl 1) (List.getD [enc b.v,PV.int .i64 b.m] 0 default))) (a8v (p.map enc))=Zj b.v p:=by
   rw[NT]
   show Zj (dec (enc b.v:PV)) p=_
   rw[Enc.dec_enc]
  rw[e1]
  rfl
theorem a5c(l:Nat)(b:BoxT)(fs:List Fact): ∀ (k:Nat) (p:List Int),k<=p.length->p.length<=1000->(∀ x∈p,-1<=x∧x<=20000) ->
  AtS [.seq (.ext 99 [0,1,2,4])] Gs (fun n S' _=>n=99∧ ∃ q,X5 b.m k p=some q∧S'=⟨KM l b fs p.length,YB q⟩) 1 (Zh 1 QR fun _=>X5 b.m k p=none) UL 0 52 [(0,.yld l),(1,.pv (.rptr [enc b.v,.int .i64 b.m])),(2,.pv (.rptr [enc fs])),(4,.row 0 p.length 0 p.length),(6,.pv (.int .i64 ((k:Int) - 1)))] (YB p):=by
 intro k
 induction k with
 | zero=>
  intro p hk hp hx
  exact b2s (G:=fun _=>X5 b.m 0 p=none) _ l b fs p.length p _ (ZV (by simp) (ZQ (by simp) rfl))
 | succ k ih=>
  intro p hk hp hx
  have hlt:k<p.length:=by omega
  have ek:((k+1:Nat):Int) - 1=(k:Int):=by omega
  rw[ek]
  have e:=Ch hlt
  have eg:p.getD k 0=p[k]:=by simp[List.getD,hlt]
  have hxk:=hx _ (List.getElem_mem hlt)
  have em:PV.asInt (List.getD (List.drop 1 [enc b.v,PV.int .i64 b.m]) 0 default)=b.m:=rfl
  have q1:(decide (0<=(k:Int))&&decide (0+Int.toNat (k:Int)<p.length)&&List.length (List.map (enc:Int->PV) p)==p.length)=true:=by simp;omega
  have q2:(List.length (List.map (enc:Int->PV) p)==p.length&&decide (0+Int.toNat (k:Int)<List.length (List.map (enc:Int->PV) p)))=true:=by simp;omega
  have hset : ∀ y:Int,List.set (List.map (enc:Int->PV) p) (0+Int.toNat (k:Int)) (enc y)=(p.set k y).map enc:=fun y=>by rw[Nat.zero_add,Int.toNat_natCast,List.map_set]
  refine b2s (G:=fun _=>X5 b.m (k+1) p=none) _ l b fs p.length p k (ZQ (by simp) ?_)
  rw[e]
  refine⟨q1,q2,rfl,Jq (fun h=>⟨q1,?_,?_⟩) fun h=>ZV (by simp) ⟨q1,q2,rfl,q1,?_,?_⟩⟩
  ·rw[q2];rfl
  ·have h:p[k]=b.m:=h
   have hn:X5 b.m (k+1) p=X5 b.m k (p.set k 0):=by rw[X5,eg,if_pos h]
   rw[hn]
   have hw:IntKind.i64.wrap ((k:Int) - 1)=(k:Int) - 1:=WL (by omega) (by omega)
   rw[hw]
   have:=ih (p.set k 0) (by rw[List.length_set];omega) (by rw[List.length_set];exact hp) (fun x hx'=>by
    rcases List.mem_or_eq_of_mem_set hx' with h|rfl
    ·exact hx x h
    ·omega)
   rw[List.length_set]at this
   have e0:=hset 0
   unfold YB at this
   rw[<- e0]at this
   exact this
  ·rw[q2];rfl
  ·have h : ¬ p[k]=b.m:=h
   have hn:X5 b.m (k+1) p=some (p.set k (p[k]+1)):=by rw[X5,eg,if_neg h]
   have hw:IntKind.i64.wrap (p[k]+1)=p[k]+1:=WL (by omega) (by omega)
   refine⟨rfl,_,hn,?_⟩
   have e0:=hset (IntKind.i64.wrap (p[k]+1))
   show(⟨KM l b fs p.length,[.obj (.row false 3 1 (List.set (List.map (enc:Int->PV) p) (0+Int.toNat (k:Int)) (enc (IntKind.i64.wrap (p[k]+1)))))]⟩:St)=_
   rw[e0,hw]
   rfl
theorem b3c(l:Nat)(b:BoxT)(fs:List Fact)(p:List Int)(hp:p.length<=1000)(hx : ∀ x∈p,-1<=x∧x<=20000):Zz Gs (fun n S' _=>n=99∧ ∃ q,GD b.m p=some q∧S'=⟨KM l b fs p.length,YB q⟩) 1 (Zh 1 QR fun _=>GD b.m p=none) (.inl UL) [.seq (.ext 99 [0,1,2,4])] ⟨KM l b fs p.length,YB p⟩:=by
 refine c2g (G:=fun _=>GD b.m p=none) _ l b fs p.length p ?_
 have hw:IntKind.i64.wrap (((p.length - 0:Nat):Int) - 1)=((p.length:Nat):Int) - 1:=by rw[Nat.sub_zero];exact WL (by omega) (by omega)
 rw[hw]
 exact a5c l b fs p.length p (Nat.le_refl _) hp hx
end Go.Pl

namespace Go.Pl
open Go.RowKit
open Enc (enc dec is)
open EncL (encL decL isL)
end Go.Pl

namespace Go.Pl
open Go.RowKit
open Enc (enc dec is)
open EncL (encL decL isL)
set_option maxRecDepth 100000
def WC:IC:=(.seq (.reg [⟨(some 4),(.mv (.c (.bool false))),0,none⟩] none) (.seq (.seq (.reg [⟨(some 5),(.mv (.c (.int .i64 0))),0,none⟩] none) (.block 0 (.loop [5,0,1] (.seq (.seq (.reg [⟨(some 8),(.mv (.t 5)),0,none⟩,⟨(some 9),(.mv (.t 0)),0,none⟩,⟨(some 10),(.len 1 (.t 9)),0,none⟩,⟨(some 11),(.bin .num .lss (.t 8) (.t 10)),0,none⟩] none) (.cond (.t 11) .skip (.exit 0))) (.seq (.block 1 (.seq (.reg [⟨(some 15),(.mv (.t 0)),0,none⟩,⟨(some 16),(.mv (.t 5)),0,none⟩,⟨(some 17),(.iaddr 3 (.t 15) (.t 16)),0,none⟩,⟨(some 18),(.faddr 1 (.t 17)),0,none⟩,⟨(some 19),(.load true [(.int .i64),(.sl 2)] (.t 18)),0,none⟩,⟨(some 20),(.mv (.t 1)),0,none⟩,⟨(some 21),(.call (.c (.fn 65)) [(.t 19),(.t 20)]),0,none⟩,⟨(some 14),(.mv (.t 21)),2,none⟩,⟨(some 22),(.extract (.t 14) 0),2,none⟩,⟨(some 23),(.extract (.t 14) 1),2,none⟩,⟨(some 6),(.mv (.t 22)),2,none⟩,⟨(some 7),(.mv (.t 23)),2,none⟩] none) (.seq (.reg [⟨(some 24),(.mv (.t 7)),0,none⟩,⟨(some 25),(.bin .num .neq (.t 24) (.c (.int .i64 0))),0,none⟩,⟨(some 26),(.mv (.t 25)),0,none⟩,⟨(some 27),(.mv (.t 6)),0,(some (26,false))⟩,⟨(some 28),(.bin .num .lss (.t 27) (.c (.int .i64 0))),0,(some (26,false))⟩,⟨(some 29),(.pick (.t 26) (.c (.bool true)) (.t 28)),0,none⟩,⟨(some 30),(.mv (.t 29)),0,none⟩,⟨(some 31),(.mv (.t 0)),0,(some (30,false))⟩,⟨(some 32),(.mv (.t 5)),0,(some (30,false))⟩,⟨(some 33),(.iaddr 3 (.t 31) (.t 32)),0,(some (30,false))⟩,⟨(some 34),(.faddr 0 (.t 33)),0,(some (30,false))⟩,⟨(some 35),(.load false [.bool] (.t 34)),0,(some (30,false))⟩,⟨(some 36),(.mv (.t 35)),0,(some (30,false))⟩,⟨(some 37),(.mv (.t 6)),0,(some (36,true))⟩,⟨(some 38),(.bin .num .neq (.t 37) (.c (.int .i64 0))),0,(some (36,true))⟩,⟨(some 39),(.pick (.t 36) (.t 38) (.c (.bool false))),0,(some (30,false))⟩,⟨(some 40),(.pick (.t 30) (.c (.bool true)) (.t 39)),0,none⟩] none) (.cond (.t 40) (.seq (.reg [⟨(some 4),(.mv (.c (.bool false))),0,none⟩] none) .ret) .skip)))) (.reg [⟨(some 12),(.mv (.t 5)),0,none⟩,⟨(some 13),(.bin .num .add (.t 12) (.c (.int .i64 1))),0,none⟩,⟨(some 5),(.mv (.t 13)),0,none⟩] none)))))) (.seq (.reg [⟨(some 4),(.mv (.c (.bool true))),0,none⟩] none) .ret)))
def WB:List IRes:=[(.tmp 4)]
abbrev a0p:Nat:=41
def VJ:ZE:=Xi [(65,.pure (preT (fun x:Lin×List Coef×Unit=>YW x.1&&decide (x.2.1.length<=9223372036854775807))) (Zg (fun x:Lin×List Coef×Unit=>Yk x.1 x.2.1)))]
theorem b2j{G:PV->Prop}(fs:List Fact)(v:List Coef)(h:At VJ 0 (Za WB G) WC 0 41 [(0,(.pv (.sl 3 false (List.map enc fs)))),(1,(.pv (.sl 2 false (List.map enc v)))),(5,(.pv (.int .i64 0)))] []):Zc VJ 0 (Za WB G) WC [] (Yx 41 [enc fs,enc v]):=Zc.tp (.nil) h (by kernel_rfl)
theorem Sl{G:PV->Prop}(fs:List Fact)(v:List Coef)(i:Int)(h:if (decide (i<(↑(List.length (List.map enc fs)):Int)))=true then(decide (0<=i)&&decide (Int.toNat i<List.length (List.map enc fs))&&Enc.sz Fact==3)=true∧(∃ y0:Fact,AV.pv (PV.rptr (PV.cells (List.getD (List.map enc fs) (Int.toNat i) default)))=AV.pv (PV.rptr (PV.cells ((enc) y0)))∧((Go.Pl.preT (fun(x:Lin×List Coef×Unit)=>YW x.1&&decide (List.length x.2.1<=9223372036854775807)) [(.agg [(.int .i64 (PV.asInt (List.getD (List.drop 1 (PV.cells (enc y0))) 0 default))),(.sl 2 false (PV.asXs (List.getD (List.drop 1 (PV.cells (enc y0))) (0+1) default)))]),(.sl 2 false (List.map enc v))])=true∧(∃ y1:Int×Int,AV.pv (Zg (fun(x:Lin×List Coef×Unit)=>Yk x.1 x.2.1) [(.agg [(.int .i64 (PV.asInt (List.getD (List.drop 1 (PV.cells (enc y0))) 0 default))),(.sl 2 false (PV.asXs (List.getD (List.drop 1 (PV.cells (enc y0))) (0+1) default)))]),(.sl 2 false (List.map enc v))])=AV.pv (enc y1)∧(if (y1.2 != 0)=true then G ((.bool false))else(if (decide (y1.1<0))=true then G ((.bool false))else((decide (0<=i)&&decide (Int.toNat i<List.length (List.map enc fs))&&Enc.sz Fact==3)=true∧(∃ y2:Fact,AV.pv (PV.rptr (PV.cells (List.getD (List.map enc fs) (Int.toNat i) default)))=AV.pv (PV.rptr (PV.cells ((enc) y2)))∧(if (PV.asBool (List.getD (List.drop 0 (PV.cells (enc y2))) 0 default))=true then if (y1.1 != 0)=true then G ((.bool false))else(At VJ 0 (Za WB G) WC 0 41 [(0,(.pv (.sl 3 false (List.map enc fs)))),(1,(.pv (.sl 2 false (List.map enc v)))),(5,(.pv (.int .i64 (IntKind.wrap IntKind.i64 (i+1)))))] [])else(At VJ 0 (Za WB G) WC 0 41 [(0,(.pv (.sl 3 false (List.map enc fs)))),(1,(.pv (.sl 2 false (List.map enc v)))),(5,(.pv (.int .i64 (IntKind.wrap IntKind.i64 (i+1)))))] [])))))))))else(G ((.bool true)))):At VJ 0 (Za WB G) WC 0 41 [(0,.pv (enc fs)),(1,.pv (enc v)),(5,.pv (.int .i64 i))] []:=At.tp (.lit (.ask (.req (.abs (Fact) (fun YY=>AV.pv (PV.rptr (PV.cells ((enc) YY)))) (.lit (.req (.abs (Int×Int) (fun YY=>AV.pv (enc YY)) (.lit (.ask (.lit (.lit (.lit (.lit (.lit (.lit (.lit (.lit (.lit (.lit (.lit (.nil)))))))))))) (.lit (.lit (.lit (.ask (.lit (.lit (.lit (.lit (.lit (.lit (.lit (.lit (.nil))))))))) (.lit (.lit (.req (.abs (Fact) (fun YY=>AV.pv (PV.rptr (PV.cells ((enc) YY)))) (.lit (.lit (.lit (.lit (.ask (.lit (.lit (.lit (.lit (.lit (.ask (.nil) (.lit (.nil)))))))) (.lit (.lit (.lit (.lit (.lit (.lit (.nil))))))))))))))))))))))))))) (.nil))) h (by kernel_rfl)
end Go.Pl

namespace Go.Pl
open Go.RowKit
open Enc (enc dec is)
open EncL (encL decL isL)
set_option maxRecDepth 100000
end Go.Pl

namespace Go.Pl
open Go.RowKit
open Enc (enc dec is)
open EncL (encL decL isL)
structure Cert2 where
 a:Cert
 b:Cert
instance:Enc Cert2 where
 sz:=10
 enc x:=.agg (PV.cells (enc x.a)++PV.cells (enc x.b))
 dec | .agg [a,b,c,d,e,f,g,h,i,j]=>⟨dec (.agg [a,b,c,d,e]),dec (.agg [f,g,h,i,j])⟩|_=>⟨.mk 0 [] ⟨0,[]⟩ [],.mk 0 [] ⟨0,[]⟩ []⟩
 is | .agg [a,b,c,d,e,f,g,h,i,j]=>is Cert (.agg [a,b,c,d,e])&&is Cert (.agg [f,g,h,i,j])|_=>false
 is_enc v:=by
  obtain⟨⟨k,m,l,ks⟩,⟨k',m',l',ks'⟩⟩:=v
  rw[VN,VN]
  show(is Cert (.agg [enc k,enc m,enc l.k,enc l.t,enc ks])&&is Cert (.agg [enc k',enc m',enc l'.k,enc l'.t,enc ks']))=true
  rw[<- VN,<- VN,Enc.is_enc,Enc.is_enc];rfl
 dec_enc v:=by
  obtain⟨⟨k,m,l,ks⟩,⟨k',m',l',ks'⟩⟩:=v
  rw[VN,VN]
  show(⟨dec (.agg [enc k,enc m,enc l.k,enc l.t,enc ks]),dec (.agg [enc k',enc m',enc l'.k,enc l'.t,enc ks'])⟩:Cert2)=_
  rw[<- VN,<- VN,Enc.dec_enc,Enc.dec_enc]
 sub p h:=by
  cases p with
  | agg xs=>
   match xs,h with
   | [a,b,c,d,e,f,g,h',i,j],h=>
    simp only[Bool.and_eq_true]at h
    have h1:=Enc.sub (α:=Cert) _ h.1
    have h2:=Enc.sub (α:=Cert) _ h.2
    exact UK.agg (h1.1.append h2.1)
  | _=>cases h
theorem b8q{l:Lin}{n:Int}(h:J6 l n=true)(hl:YW l=true):Ym l=true:=by
 simp only[J6,Bool.and_eq_true,List.all_eq_true,decide_eq_true_eq]at h
 simp only[Ym,hl,Bool.true_and,List.all_eq_true,decide_eq_true_eq]
 intro t ht
 have:=h.1 t ht
 omega
mutual
theorem b5l: ∀ (c:Cert) (n:Int),n<=12->Li c n=true->cOk c=true->1<=n∧(c0n c:Int)<=n∧1<=Cc c∧Cc c<=n∧cSm c=true
 | .mk k m l ks,n,hn,h,ho=>by
  simp only[Li,Bool.and_eq_true,Bool.not_eq_true',decide_eq_false_iff_not]at h
  obtain⟨h1,h2,h3,h4,h5⟩:=h
  simp only[cOk,Bool.and_eq_true,decide_eq_true_eq]at ho
  obtain⟨⟨⟨o1,o2⟩,o3⟩,o4⟩:=ho
  obtain⟨a1,a2,a3,a4⟩:=Pm ks n 1 (by omega) hn (by omega) (by omega) h5 o4
  rw[c0n,Cc]
  refine⟨by omega,by omega,by omega,by omega,?_⟩
  simp only[cSm,b8q h2 o2,a4,decide_eq_true o1,decide_eq_true o3]
  rfl
theorem Pm: ∀ (cs:List Cert) (n s:Int),1<=n->n<=12->1<=s->s<=100 - n->G9 cs n=true->a1x cs=true->(MG cs:Int)<=n - 1∧s<=Hw s cs∧Hw s cs<=s+n - 1∧a2s cs=true
 | [],n,s,h1,h2,h3,h4,_,_=>by
  rw[MG,Hw]
  exact⟨by omega,by omega,by omega,rfl⟩
 | c::cs,n,s,h1,h2,h3,h4,h,ho=>by
  simp only[G9,Bool.and_eq_true]at h
  simp only[a1x,Bool.and_eq_true]at ho
  rw[WL (by omega) (by omega)]at h
  obtain⟨b1,b2,b3,b4,b5⟩:=b5l c (n - 1) (by omega) h.1 ho.1
  have h':=h.2
  rw[WL (by omega) (by omega)]at h'
  obtain⟨a1,a2,a3,a4⟩:=Pm cs (n - Cc c) (s+Cc c) (by omega) (by omega) (by omega) (by omega) h' ho.2
  rw[MG,Hw,WL (by omega) (by omega)]
  refine⟨by omega,by omega,by omega,?_⟩
  simp only[a2s,b5,a4]
  rfl
end
end Go.Pl

namespace Go.Pl
open Go.RowKit
open Enc (enc dec is)
open EncL (encL decL isL)
set_option maxRecDepth 100000
end Go.Pl

namespace Go.Pl
open Go.RowKit
open Enc (enc dec is)
open EncL (encL decL isL)
end Go.Pl

namespace Go.Pl
open Go.RowKit
open Enc (enc dec is)
open EncL (encL decL isL)
theorem NS(l:List Fact)(v:List Coef)(hl:Zm l=true)(hv:v.length<=9223372036854775807): ∀ (j i:Nat),j+i=l.length->At VJ 0 (Za WB (Zf ((l.drop i).all fun f=>Ya f v))) WC 0 41 [(0,.pv (enc l)),(1,.pv (enc v)),(5,.pv (.int .i64 i))] []:=by
 intro j
 induction j with
 | zero=>
  intro i hi
  exact Sl l v i (ZV (VL (by omega)) (ZJ (by rw[List.drop_of_length_le (by omega)];rfl)))
 | succ j ih=>
  intro i hi
  have hl':=hl
  simp only[Zm,Bool.and_eq_true,decide_eq_true_eq,List.all_eq_true]at hl'
  have hlt:i<l.length:=by omega
  have h:=ih (i+1) (by omega)
  have ho:YW l[i].l=true:=by
   have:=hl'.2 _ (List.getElem_mem hlt)
   simp only[Ym,Bool.and_eq_true]at this
   exact this.1
  refine Sl l v i (ZQ (Wd hlt) ⟨Zu hlt rfl,ZG hlt ⟨Zl (l[i].l,v,()) rfl (by show(YW l[i].l&&decide (v.length<=9223372036854775807))=true;rw[ho,decide_eq_true hv];rfl),Zi (l[i].l,v,()) rfl ?_⟩⟩)
  rw[List.drop_eq_getElem_cons hlt,List.all_cons,next (by omega)]
  refine c3x (fun h1=> ?_) fun h1=>We (fun h2=> ?_) fun h2=>⟨Zu hlt rfl,ZG hlt (Xe (fun h3=>c3x (fun h4=> ?_) fun h4=> ?_) fun h3=> ?_)⟩
  ·have h1:(Yk l[i].l v).2≠0:=by simpa using h1
   exact ZJ (by simp[Ya,h1])
  all_goals have h1:(Yk l[i].l v).2=0:=by simpa using h1
  ·have h2:(Yk l[i].l v).1<0:=h2
   exact ZJ (by simp[Ya,h1,h2])
  all_goals have h2 : ¬ (Yk l[i].l v).1<0:=h2
  all_goals have h3:l[i].eq=_:=h3
  ·have h4:(Yk l[i].l v).1≠0:=by simpa using h4
   exact ZJ (by simp[Ya,h1,h2,h3,h4])
  ·have h4:(Yk l[i].l v).1=0:=by simpa using h4
   have e:Ya l[i] v=true:=by simp[Ya,h1,h3,h4]
   rw[e,Bool.true_and]
   exact h
  ·have e:Ya l[i] v=true:=by
    have h2':decide ((Yk l[i].l v).1<0)=false:=decide_eq_false h2
    simp only[Ya,h1,h3,h2']
    rfl
   rw[e,Bool.true_and]
   exact h
theorem FV: ∀ a:List Fact×List Coef×Unit,(Zm a.1&&decide (a.2.1.length<=9223372036854775807))=true->Zc VJ 0 (Za WB (Zf (a.1.all fun f=>Ya f a.2.1))) WC [] (Yx a0p (encL a)):=by
 rintro⟨l,v,⟨⟩⟩ h
 simp only[Bool.and_eq_true,decide_eq_true_eq]at h
 exact b2j l v (NS l v h.1 h.2 l.length 0 rfl)
end Go.Pl

namespace Go.Pl
open Go.RowKit
open Enc (enc dec is)
open EncL (encL decL isL)
end Go.Pl

namespace Go.Pl
open Go.RowKit
theorem b1s(s:Str)(c:Int)(x:List UInt8): ∀ m:List (Str×Int),atM (a1b s c m) x=if s.s=x then c else atM m x
 | []=>by
  rw[a1b]
  simp only[atM,List.find?_cons]
  by_cases h:s.s=x
  ·simp[h]
  ·have:(s.s==x)=false:=by simpa using h
   simp[this,h]
 | p::m=>by
  have ih:=b1s s c x m
  rw[a1b]
  split
  ·rename_i he
   simp only[atM,List.find?_cons]
   by_cases h:s.s=x
   ·simp[h]
   ·have h1:(s.s==x)=false:=by simpa using h
    have h2:(p.1.s==x)=false:=by rw[<- he];exact h1
    simp[h1,h2,h]
  ·rename_i he
   simp only[atM,List.find?_cons]at ih ⊢
   by_cases h:p.1.s=x
   ·have h2 : ¬ s.s=x:=fun e=>he (e.trans h.symm)
    simp[h,h2]
   ·have h2:(p.1.s==x)=false:=by simpa using h
    rw[h2]
    exact ih
end Go.Pl

namespace Go.Pl
open Go.RowKit
def wM(m:List (Str×Int)):Prop:= ∀ s,Cu (atM m s)=atM m s
theorem add_zero: ∀ (x:List Coef) (m:List (Str×Int)),wM m-> ∀ s,atM (b8t 0 x m) s=atM m s
 | [],m,h,s=>rfl
 | t::x,m,h,s=>by
  have e : ∀ y,atM (a1b t.v (IntKind.i64.wrap (atM m t.v.s+IntKind.i64.wrap (0*t.c))) m) y=atM m y:=fun y=>by
   rw[b1s]
   split
   ·rename_i hy
    have:IntKind.i64.wrap (0*t.c)=0:=by rw[Int.zero_mul];rfl
    rw[this,Int.add_zero,<- hy]
    exact h t.v.s
   ·rfl
  rw[b8t,add_zero x _ (fun y=>by rw[e];exact h y),e]
end Go.Pl

namespace Go.Pl
open Go.RowKit
end Go.Pl

namespace Go.Pl
open Go.RowKit
open Enc (enc dec is)
open EncL (encL decL isL)
end Go.Pl

namespace Go.Pl
open Go.RowKit
open Enc (enc dec is)
open EncL (encL decL isL)
set_option maxRecDepth 100000
end Go.Pl

namespace Go.Pl
open Go.RowKit
open Enc (enc dec is)
open EncL (encL decL isL)
set_option maxRecDepth 100000
end Go.Pl

namespace Go.Pl
open Go.RowKit
open Enc (enc dec is)
open EncL (encL decL isL)
end Go.Pl

namespace Go.Pl
open Go.RowKit
open Enc (enc dec is)
open EncL (encL decL isL)
end Go.Pl

namespace Go.Pl
open Go.RowKit
open Enc (enc dec is)
open EncL (encL decL isL)
end Go.Pl

namespace Go.Pl
open Go.RowKit
open Enc (enc dec is)
open EncL (encL decL isL)
theorem one_of{α:Type}: ∀ {ks:List α},ks.length=1-> ∃ a,ks=[a]
 | [a],_=>⟨a,rfl⟩
end Go.Pl

namespace Go.Pl
open Go.RowKit
open Enc (enc dec is)
open EncL (encL decL isL)
set_option maxRecDepth 100000
end Go.Pl

namespace Go.Pl
open Go.RowKit
open Enc (enc dec is)
open EncL (encL decL isL)
end Go.Pl

namespace Go.Pl
open Go.RowKit
open Enc (enc dec is)
open EncL (encL decL isL)
theorem sub_zero(b:Bool):Sub (.tup [c3l,.bool b]) (enc (((⟨0,[]⟩:Lin),b):Lin×Bool)):=Sub.pair (Sub.agg_cons (.refl _) (Sub.agg_cons (.sl0 _ _ _) Sub.agg_nil)) (.refl _)
end Go.Pl

namespace Go.Pl
open Go.RowKit
open Enc (enc dec is)
open EncL (encL decL isL)
inductive Walk (m:Int):List Int->List (List Int)->Prop
 | last {p}:GD m p=none->Walk m p [p]
 | step {p q l}:GD m p=some q->Walk m q l->Walk m p (p::l)
theorem Walk.walkP{m:Int}{p:List Int}{l:List (List Int)}(h:Walk m p l): ∀ f,l.length<=f->walkP m f p=l:=by
 induction h with
 | last h=>
  intro f hf
  cases f with
  | zero=>simp at hf
  | succ f=>simp[Go.Pl.walkP,h]
 | step h _ ih=>
  intro f hf
  cases f with
  | zero=>simp at hf
  | succ f=>simp only[Go.Pl.walkP,h];rw[ih f (by simpa using hf)]
theorem Oa(m x:Int): ∀ (k:Nat) (p:List Int),k<=p.length->X5 m (k+1) (x::p) =
  match X5 m k p with
  | some q=>some (x::q)
  | none=>if x=m then none else some ((x+1)::(List.replicate k 0++p.drop k)):=by
 intro k
 induction k with
 | zero=>intro p _;simp[X5]
 | succ k ih=>
  intro p hp
  rw[X5]
  have e:(x::p).getD (k+1) 0=p.getD k 0:=by simp[List.getD]
  rw[e]
  by_cases h:p.getD k 0=m
  ·have hn:X5 m (k+1) p=X5 m k (p.set k 0):=by rw[X5,if_pos h]
   rw[if_pos h,hn]
   have:=ih (p.set k 0) (by simp;omega)
   rw[List.set_cons_succ,this]
   have e2:List.replicate k (0:Int)++(p.set k 0).drop k=List.replicate (k+1) 0++p.drop (k+1):=by
    rw[List.replicate_succ',List.append_assoc]
    congr 1
    rw[List.drop_eq_getElem_cons (show k<(p.set k 0).length by simp;omega),List.drop_set_of_lt (by omega)]
    simp
   rw[e2]
  ·have hn:X5 m (k+1) p=some (p.set k (p.getD k 0+1)):=by rw[X5,if_neg h]
   rw[if_neg h,hn]
   simp
theorem K6(m x:Int)(p:List Int):GD m (x::p) =
  match GD m p with
  | some q=>some (x::q)
  | none=>if x=m then none else some ((x+1)::List.replicate p.length 0):=by
 have:=Oa m x p.length p (Nat.le_refl _)
 rw[List.drop_length,List.append_nil]at this
 exact this
theorem AJ(m:Int): ∀ (k:Nat) (p q:List Int),X5 m k p=some q->q.length=p.length:=by
 intro k
 induction k with
 | zero=>intro p q h;cases h
 | succ k ih=>
  intro p q h
  rw[X5]at h
  split at h
  ·rw[ih _ _ h,List.length_set]
  ·cases h;rw[List.length_set]
theorem Walk.cons{m x:Int}{rest:List (List Int)}{p:List Int}{l:List (List Int)}(h:Walk m p l):(hr:(x=m∧rest=[])∨(x≠m∧Walk m ((x+1)::List.replicate p.length 0) rest))->Walk m (x::p) (l.map (x:: ·)++rest):=by
 induction h with
 | last h=>
  rename_i p
  rintro(⟨rfl,rfl⟩|⟨h1,h2⟩)
  ·refine .last ?_
   rw[K6,h];simp
  ·refine .step ?_ h2
   rw[K6,h];simp[h1]
 | step h _ ih=>
  rename_i p q l _
  intro hr
  refine .step (q:=x::q) ?_ (ih ?_)
  ·rw[K6,h]
  ·rw[AJ m _ _ _ h];exact hr
def a7c(m:Nat):List Int:=(List.range (m+1)).map fun(i:Nat)=>(i:Int)
def QG(m:Nat):Nat->List (List Int)
 | 0=>[[]]
 | n+1=>(a7c m).flatMap fun x=>(QG m n).map (x:: ·)
theorem Walk.from{m n:Nat}(h:Walk m (List.replicate n 0) (QG m n)): ∀ (d i:Nat),i+d=m->Walk m ((i:Int)::List.replicate n 0) (((List.range' i (d+1)).map fun(i:Nat)=>(i:Int)).flatMap fun x=>(QG m n).map (x:: ·)):=by
 intro d
 induction d with
 | zero=>
  intro i hi
  have:=h.cons (x:=(i:Int)) (rest:=[]) (.inl ⟨by omega,rfl⟩)
  simpa using this
 | succ d ih=>
  intro i hi
  have h1:=ih (i+1) (by omega)
  have:=h.cons (x:=(i:Int)) (.inr ⟨by omega,by rw[List.length_replicate];exact_mod_cast h1⟩)
  rw[List.range'_succ,List.map_cons,List.flatMap_cons]
  exact this
theorem SK(m:Nat): ∀ n,Walk m (List.replicate n 0) (QG m n):=by
 intro n
 induction n with
 | zero=>exact .last rfl
 | succ n ih=>
  have:=ih.from m 0 (by omega)
  rw[<- List.range_eq_range']at this
  exact_mod_cast this
theorem Jy(m:Nat): ∀ n,(QG m n).length=(m+1) ^ n:=by
 intro n
 induction n with
 | zero=>rfl
 | succ n ih=>
  rw[QG,List.length_flatMap]
  simp only[List.length_map,ih,a7c]
  rw[List.map_const',List.sum_replicate_nat,List.length_map,List.length_range,Nat.pow_succ,Nat.mul_comm]
theorem Pw{m:Nat}{x:Int}:x∈a7c m ↔ 0<=x∧x<=m:=by
 unfold a7c
 rw[List.mem_map]
 constructor
 ·rintro⟨i,hi,rfl⟩
  have:=List.mem_range.1 hi
  omega
 ·rintro⟨h1,h2⟩
  exact⟨x.toNat,List.mem_range.2 (by omega),by omega⟩
theorem Q4{m:Nat}: ∀ {n:Nat} {p:List Int},p∈QG m n ↔ p.length=n∧ ∀ x∈p,0<=x∧x<=m:=by
 intro n
 induction n with
 | zero=>
  intro p
  simp only[QG,List.mem_singleton,List.length_eq_zero_iff]
  exact⟨fun h=>⟨h,by simp[h]⟩,fun h=>h.1⟩
 | succ n ih=>
  intro p
  simp only[QG,List.mem_flatMap,List.mem_map]
  constructor
  ·rintro⟨x,hx,q,hq,rfl⟩
   obtain⟨h1,h2⟩:=ih.1 hq
   refine⟨by simp[h1],?_⟩
   intro y hy
   rcases List.mem_cons.1 hy with rfl|hy
   ·exact Pw.1 hx
   ·exact h2 y hy
  ·rintro⟨h1,h2⟩
   cases p with
   | nil=>simp at h1
   | cons x q=>
    exact⟨x,Pw.2 (h2 x (by simp)),q,ih.2 ⟨by simpa using h1,fun y hy=>h2 y (by simp[hy])⟩,rfl⟩
def Nr:List Int->List Int->Prop
 | x::p,y::q=>x<y∨(x=y∧Nr p q)
 | _,_=>False
theorem b0p(m:Nat): ∀ n,(QG m n).Pairwise Nr:=by
 intro n
 induction n with
 | zero=>simp[QG]
 | succ n ih=>
  rw[QG,List.pairwise_flatMap]
  refine⟨fun x _=> ?_,?_⟩
  ·rw[List.pairwise_map]
   exact ih.imp fun h=>.inr ⟨rfl,h⟩
  ·unfold a7c
   rw[List.pairwise_map]
   refine List.pairwise_lt_range.imp ?_
   intro i j hij p hp q hq
   obtain⟨p',_,rfl⟩:=List.mem_map.1 hp
   obtain⟨q',_,rfl⟩:=List.mem_map.1 hq
   exact .inl (by omega)
def QF(x:List Int×List Coef):List PV:=[enc x.1,enc x.2]
def UB:List (List PV)->Bool
 | [[v,.int .i64 m],[f]]=>Vf (List Str) v&&Vf (List Fact) f&&Xh ⟨dec v,m⟩&&Zm (dec f)&&decide ((dec v:List Str).length<=1000)
 | _=>false
def Gw:List (List PV)->List (List Int×List Coef)
 | [[v,.int .i64 m],[f]]=>(Yb ⟨dec v,m⟩ (dec f)).map fun p=>(p,Zj (dec v) p)
 | _=>[]
theorem b2z(m:Nat): ∀ (l:List Str) (n r:Int),0<=n->Jg m l n=some r->r=n*((m:Int)+1) ^ l.length:=by
 intro l
 induction l with
 | nil=>intro n r _ h;simp only[Jg,Option.some.injEq]at h;simp[h]
 | cons s l ih=>
  intro n r hn h
  rw[Jg]at h
  split at h
  ·cases h
  ·rw[ih _ _ (Int.mul_nonneg hn (by omega)) h,List.length_cons,Int.pow_succ,Int.mul_assoc,Int.mul_comm ((m:Int)+1)]
theorem b4m(m:Nat): ∀ (l:List Str) (n r:Int),n<=20000->Jg m l n=some r->r<=20000:=by
 intro l
 induction l with
 | nil=>intro n r hn h;simp only[Jg,Option.some.injEq]at h;omega
 | cons s l ih=>
  intro n r hn h
  rw[Jg]at h
  split at h
  ·cases h
  ·exact ih _ _ (by omega) h
theorem VM{b:BoxT}:Xh b=true ↔ b.v.all ZA=true∧b.v.Nodup∧(b.v=[]∨b.m<20000)∧0<=b.m∧(Jg b.m b.v 1).isSome=true:=by
 unfold Xh
 simp only[Bool.and_eq_true,decide_eq_true_eq,Bool.or_eq_true,List.isEmpty_iff]
 constructor
 ·rintro⟨⟨⟨⟨h1,h2⟩,h3⟩,h4⟩,h5⟩;exact⟨h1,h2,h3,h4,h5⟩
 ·rintro⟨h1,h2,h3,h4,h5⟩;exact⟨⟨⟨⟨h1,h2⟩,h3⟩,h4⟩,h5⟩
theorem Dn{b:BoxT}(h:Xh b=true):(b.m.toNat+1) ^ b.v.length<=20000:=by
 obtain⟨_,_,_,h4,h5⟩:=VM.1 h
 obtain⟨r,hr⟩:=Option.isSome_iff_exists.1 h5
 have e:b.m=(b.m.toNat:Int):=by omega
 rw[e]at hr
 have h1:=b2z _ _ _ _ (by decide) hr
 have h2:=b4m _ _ _ _ (by decide) hr
 rw[Int.one_mul]at h1
 have:(((b.m.toNat+1) ^ b.v.length:Nat):Int)=r:=by rw[h1];simp
 omega
theorem WG{b:BoxT}(h:Xh b=true):b9q b=QG b.m.toNat b.v.length:=by
 obtain⟨_,_,_,h4,_⟩:=VM.1 h
 have hw:=SK b.m.toNat b.v.length
 have hl:=Jy b.m.toNat b.v.length
 have:=Dn h
 have e:(b.m.toNat:Int)=b.m:=by omega
 rw[e]at hw
 have ez:VT b.v=List.replicate b.v.length 0:=List.map_const' ..
 unfold b9q
 rw[ez]
 exact hw.walkP 20001 (by omega)
end Go.Pl

namespace Go.Pl
open Go.RowKit
open Enc (enc dec is)
open EncL (encL decL isL)
def OD(m:Int):List Str->Int->Int
 | [],n=>n
 | _::r,n=>OD m r (n*(m+1))
def Ux(b:BoxT)(fs:List Fact):Bool:=decide (b.v.length<=5)&&decide ((if Xh b then OD b.m b.v 1 else 1)<=300)&&decide (fs.length<=6)&&G5 fs 6
def VK:List Str->List Str->Int
 | [],b=> -(b.length:Int)
 | a,[]=>(a.length:Int)
 | x::a,y::b=>if x.s<y.s then -1 else if y.s<x.s then 1 else VK a b
def JU:List Str->Bool
 | x::y::r=> !decide (y.s<x.s)&&JU (y::r)
 | _=>true
def WA(m:Mono):Bool:=decide (m.c≠0)&&decide (-1099511627776<=m.c)&&decide (m.c<=1099511627776)&&decide (m.v.length<=8)&&JU m.v&&m.v.all ZA
def a1i:List Mono->Bool
 | x::y::r=>decide (VK x.v y.v<0)&&a1i (y::r)
 | _=>true
def ZZ(p:List Mono):Bool:=decide (p.length<=60)&&p.all WA&&a1i p
def HV(l:List Str)(s:Str):List Str:=match l with
 | []=>[s]
 | t::r=>if t.s<s.s then t::HV r s else if t=s then t::r else s::t::r
end Go.Pl

namespace Go.Pl
open Go.RowKit
open Enc (enc dec is)
open EncL (encL decL isL)
def BX(x y:Str):Int:=if x.s<y.s then -1 else if y.s<x.s then 1 else 0
def Gi:List Str->List Str->Int
 | [],[]=>0
 | [],_::_=> -1
 | _::_,[]=>1
 | x::a,y::b=>if x.s<y.s then -1 else if y.s<x.s then 1 else Gi a b
def Yc(p:List Mono):Bool:=Zt p&&p.all fun m=>Wj m.v
def Xq(p:List Mono):List Str:=p.flatMap (·.v)
def Xb(p:List Mono):List (List UInt8):=X8 ((Xq p).map (·.s))
def Yt(p:List Mono):List Str:=(Lib.compact (Xb p)).map Str.mk
def VG(p:PV):List Mono:=dec p
def UI:List AV->List AObj->Bool
 | [.pv a],[]=>Vf (List Mono) a&&Yc (dec a)&&ZZ (dec a)&& !(Xq (dec a)).isEmpty
 | _,_=>false
def Tz:List AV->List AObj->AV×List AObj×List AObj
 | [.pv a],_=>(.row 0 (Xb (VG a)).length 0 (Lib.compact (Xb (VG a))).length,[],[.row false 9 1 ((Ve (Xb (VG a))).map .str)])
 | _,_=>WW
def Tu:List AV->List AObj->AV×List AObj×List AObj
 | [.pv a],_=>QO (Yt (VG a))
 | _,_=>WW
def Kz:List AV->List AObj->Bool
 | [.pv a],[]=>Vf (List Mono) a&&Yc (dec a)&&(!ZZ (dec a)||(Xq (dec a)).isEmpty)
 | _,_=>false
def Dj:List AV->List AObj->AV×List AObj×List AObj:=fun _ _=>(.pv (.sl 0 true []),[],[])
def DZ(a b:Int):Int×Int:=if Ut a&&Ut b&&Ut (a*b)then(a*b,0)else(0,2)
def Vp(l:List Int):Int×Int:=if l.all Ut&&Ut l.sum then(l.sum,0)else(0,2)
def Eh:Int->List Int->Int×Int
 | o,[]=>(o,0)
 | o,n::r=>if (DZ o n).2≠0 then(0,(DZ o n).2)else Eh (DZ o n).1 r
def Y0(l:List Int):Int×Int:=if l.contains 0 then(0,0)else Eh 1 l
def Mr(vs:List Coef):List Str->Option (List Int)
 | []=>some []
 | s::r=>match Uz vs s with
  | none=>none
  | some x=>(Mr vs r).map (x:: ·)
def LJ(vs:List Coef):List Mono->Option (List (List Int))
 | []=>some []
 | m::r=>match Mr vs m.v with
  | none=>none
  | some l=>(LJ vs r).map ((m.c::l):: ·)
def Yw:List (List Int)->Option (List Int)
 | []=>some []
 | l::r=>if (Y0 l).2≠0 then none else(Yw r).map ((Y0 l).1:: ·)
def CB(fs:List (List Int)):Bool:=fs.any fun l=>l.tail.any fun x=> !Ut x
def YO(p:List Mono)(vs:List Coef):Int×Int:=
 if ZZ p then(match LJ vs p with
  | none=>(0,7)
  | some fs=>if CB fs then(0,2)else match Yw fs with
   | none=>(0,2)
   | some l=>Vp l)
 else(0,1)
def JN:List AV->List AObj->Bool
 | [.pv x,.ptr 0 0],[.box [.pv (.str v)]]=>Vf Coef x
 | _,_=>false
def Dw:List AV->List AObj->AV×List AObj×List AObj
 | [.pv x,_],[.box [.pv (.str v)]]=>(.pv (.bool ((dec x:Coef).v.s==v)),[.box [.pv (.str v)]],[])
 | _,_=>WW
def VB(g:Nat):List AV->List AObj->Bool
 | [.pv l,.fn g' [] [.ptr 0 0]],[.box [.pv (.str v)]]=>g'==g&&Vf (List Coef) l&&decide ((dec l:List Coef).length<=9223372036854775807)
 | _,_=>false
def QC(p:PV):List Coef:=dec p
def Db:List AV->List AObj->AV×List AObj×List AObj
 | [.pv l,_],[.box [.pv (.str v)]]=>(.pv (.int .i64 (Zx (fun t:Coef=>t.v.s==v) (QC l))),[.box [.pv (.str v)]],[])
 | _,_=>WW
def X7(n:Int):Int:=n / 2147483648
def XH(n:Int):Int:=n % 2147483648
def VX:List AV->List AObj->Bool
 | [.pv (.int .i64 n),.ptr 0 0,.ptr 1 0],[.box [.pv (.sl 0 true [])],.box [.pv (.sl 0 true [])]]=>true
 | [.pv (.int .i64 n),.ptr 0 0,.ptr 1 0],[.box [.row 2 q 0 q'],.box [.row 3 r 0 r'],.row false ty 1 xs,.row false ty' 1 ys]=>q'==q&&r'==r&&r==q&&ty==3&&ty'==3&&xs.length==q&&ys.length==q&&decide (q<=1000000)
 | _,_=>false
def UF:List AV->List AObj->AV×List AObj×List AObj
 | [.pv (.int .i64 n),_,_],[.box [.pv (.sl 0 true [])],.box [.pv (.sl 0 true [])]]=>(.tup [],[.box [.row 2 1 0 1],.box [.row 3 1 0 1]],[.row false 3 1 [.int .i64 (X7 n)],.row false 3 1 [.int .i64 (XH n)]])
 | [.pv (.int .i64 n),_,_],[.box [.row 2 q 0 _],.box [.row 3 _ 0 _],.row _ _ _ xs,.row _ _ _ ys]=>(.tup [],[.box [.row 2 (q+1) 0 (q+1)],.box [.row 3 (q+1) 0 (q+1)],.row false 3 1 (xs++[.int .i64 (X7 n)]),.row false 3 1 (ys++[.int .i64 (XH n)])],[])
 | _,_=>WW
def FX:List Int->List Int->Int
 | x::a,y::b=>x*y+FX a b
 | _,_=>0
def Gd(a b:List Int):Int×Int:=if a.length=b.length then(if a.all Ut&&b.all Ut&&Ut (FX a b)then(FX a b,0)else(0,2))else(0,1)
def VH(p:List Mono)(vs:List Str):List (List Int)->Option (List Int)
 | []=>some []
 | q::r=>if (YO p (Zj vs q)).2≠0 then none else(VH p vs r).map ((YO p (Zj vs q)).1:: ·)
def Jh(b:BoxT)(fs:List Fact)(p:List Mono):Bool:=ZW b&&Zm fs&&decide (fs.length<=100)&&decide (b.v.length<=1000)&&Yc p
def X9(b:BoxT)(fs:List Fact)(p:List Mono):Int×Int:=
 if Zp b fs (ZZ p) (Yt p)=0 then(match VH p b.v (Yb b fs)with|none=>(0,2)|some l=>Vp l)else(0,Zp b fs (ZZ p) (Yt p))
end Go.Pl

namespace Go.Pl
open Go.RowKit
open Enc (enc dec is)
open EncL (encL decL isL)
theorem b2y: ∀ args os,YX args os=true->Zc Ov os.length (Zh os.length TK fun r=>r=Wn args os) RO [] (YH b3w args os):=by
 intro args os h
 unfold YX at h
 split at h
 ·rename_i v m f
  simp only[Bool.and_eq_true]at h
  obtain⟨h1,h2⟩:=h
  obtain⟨vs,rfl⟩:=Yu h1
  obtain⟨fs,rfl⟩:=Yu h2
  exact c1i ⟨vs,m⟩ fs rfl
 ·cases h
theorem VI(b:BoxT)(fs:List Fact)(ok:Bool)(ns:List Str)(h:Zp b fs ok ns=0):Xh b=true∧XA fs=true∧ok=true∧JF b.v (ns++fs.flatMap fun f=>Zn f.l)=true:=by
 unfold Zp at h
 split at h
 ·cases h
 ·rename_i h1
  simp only[Bool.or_eq_true,Bool.not_eq_true',not_or,Bool.not_eq_false]at h1
  split at h
  ·rename_i h2
   exact⟨h1.1.1,h1.1.2,h1.2,h2⟩
  ·cases h
theorem b7c{b:BoxT}{fs:List Fact}(h:Xh b=true):(Yb b fs).length<=20000:=by
 unfold Yb
 refine Nat.le_trans (List.length_filter_le _ _) ?_
 rw[WG h,Jy]
 exact Dn h
def gpI(b:BoxT)(fs:List Fact)(k:Nat)(σ:Zr):Prop:=
 (k=0∧σ=[.obj (.box [.pv (.sl 0 true [])])])∨(k≠0∧k<=(Yb b fs).length∧σ=[.obj (.box [.row 1 k 0 k]),.obj (.row false 34 1 (((Yb b fs).take k).map enc))])
def gpE:Yv:=fun n st q=>n=0∧Ga KN 0 (.t 17) 177 [18,19] [(8,18)] UJ QF UB Gw st q
theorem Al(b:BoxT)(fs:List Fact):Gw [[enc b.v,.int .i64 b.m],[enc fs]]=(Yb b fs).map fun p=>(p,Zj b.v p):=by
 show((Yb ⟨dec (enc b.v:PV),b.m⟩ (dec (enc fs:PV))).map fun p=>(p,Zj (dec (enc b.v:PV)) p))=_
 rw[Enc.dec_enc,Enc.dec_enc]
theorem Ce{b:BoxT}{fs:List Fact}(hb:Xh b=true)(hf:Zm fs=true)(hl:b.v.length<=1000):UB [[enc b.v,.int .i64 b.m],[enc fs]]=true:=by
 show(Vf (List Str) (enc b.v)&&Vf (List Fact) (enc fs)&&Xh ⟨dec (enc b.v:PV),b.m⟩&&Zm (dec (enc fs:PV))&&decide ((dec (enc b.v:PV):List Str).length<=1000))=true
 rw[Z5,Z5,Enc.dec_enc,Enc.dec_enc,hf,decide_eq_true hl]
 simp[hb]
theorem b2w(b:BoxT)(fs:List Fact)(hv:Xh b=true)(k:Nat)(p:List Int)(vs:List Coef)(σ:Zr)(hp:(Yb b fs)[k]? = some p)(h:gpI b fs k σ):
  Zz KN (fun n S' _=>n=99∧gpI b fs (k+1) S'.heap) σ.length (fun st=>False) (.inl UJ) [.seq (.ext 99 [])] ⟨ZO 25 0 [(7,.ptr 0 0),(8,.pv (enc p)),(18,.pv (enc p)),(19,.pv (enc vs))],σ⟩:=by
 have hk:=(List.getElem?_eq_some_iff.1 hp).1
 have hkp:=(List.getElem?_eq_some_iff.1 hp).2
 have hl:=b7c (fs:=fs) hv
 rcases h with ⟨rfl,rfl⟩|⟨hne,hk',rfl⟩
 ·refine b4b (G:=fun _=>False) _ p vs ⟨rfl,.inr ⟨by simp,by omega,?_⟩⟩
  have e:(Yb b fs).take (0+1)=[p]:=by rw[List.take_succ_eq_append_getElem hk,hkp];rfl
  rw[e]
  rfl
 ·have e:(Yb b fs).take (k+1)=(Yb b fs).take k++[p]:=by rw[List.take_succ_eq_append_getElem hk,hkp]
  have el:((Yb b fs).take k).length=k:=by rw[List.length_take];omega
  refine b4h (G:=fun _=>False) _ p vs k ((Yb b fs).take k) ⟨?_,rfl,.inr ⟨by omega,by omega,?_⟩⟩
  ·rw[List.length_map,el]
   show((k==k)&&(k==k)&&decide ((k+1)*24<=1099511627776)&&decide (k+1<=1099511627776))=true
   rw[decide_eq_true (by omega),decide_eq_true (by omega)];simp
  ·rw[e,List.map_append]
   rfl
theorem b6h: ∀ x:BoxT×List Fact×Unit,(ZW x.1&&Zm x.2.1&&decide (x.2.1.length<=100)&&decide (x.1.v.length<=1000))=true->QB KN gpE 0 (Za Hy (Zf (Z9 x.1 x.2.1))) Hm [] (Yx b9e (encL x)):=by
 rintro⟨b,fs,⟨⟩⟩ hp
 simp only[Bool.and_eq_true,decide_eq_true_eq]at hp
 obtain⟨⟨⟨h1,h2⟩,h3⟩,h4⟩:=hp
 refine c4k gpE b fs ⟨Zl (b,fs,true,⟨⟩,()) rfl (by simp[h1,h2,h3]),Zi (b,fs,true,⟨⟩,()) rfl ?_⟩
 show if (Zp b fs true [] != 0)=true then _ else _
 by_cases h0:Zp b fs true []=0
 ·rw[if_neg (by simp[h0])]
  obtain⟨hv,_⟩:=VI b fs true [] h0
  have hpt:Z9 b fs=(Yb b fs,0):=by unfold Z9;rw[if_pos h0]
  rw[hpt]
  refine⟨?_,rfl,[1,2],[[enc b.v,.int .i64 b.m],[enc fs]],[7],[],⟨ZO 25 0 [(7,.ptr 0 0)],[.obj (.box [.pv (.sl 0 true [])])]⟩,gpI b fs,fun _=>False,rfl,by simp,rfl,?_,by kernel_rfl,Ce hv h2 h4,.inl ⟨rfl,rfl⟩,?_,?_,fun σ h=>h.elim⟩
  ·show(Vf (List Str) (enc b.v)&&Vf (List Fact) (enc fs))=true
   rw[Z5,Z5];rfl
  ·intro j l ps hl hps
   match j with
   | 0=>cases hl;cases hps;rfl
   | 1=>cases hl;cases hps;rfl
   | j+2=>simp at hl
  ·intro k x σ hx hI
   rw[Al,List.getElem?_map]at hx
   obtain⟨p,hp,rfl⟩:=Option.map_eq_some_iff.1 hx
   have e:BZ [(8,18)] (GX [18,19] ((QF (p,Zj b.v p)).map .pv) (ZO 25 0 [(7,.ptr 0 0)]))=ZO 25 0 [(7,.ptr 0 0),(8,.pv (enc p)),(18,.pv (enc p)),(19,.pv (enc (Zj b.v p)))]:=by kernel_rfl
   have:=b2w b fs hv k p (Zj b.v p) σ hp hI
   rw[<- e]at this
   exact this
  ·intro σ hI
   rw[Al,List.length_map]at hI
   rcases hI with ⟨e,rfl⟩|⟨e,_,rfl⟩
   ·refine b5m gpE b fs ?_
    rw[List.length_eq_zero_iff.1 e]
    exact⟨rfl,rfl⟩
   ·refine b3l gpE b fs (Yb b fs).length ((Yb b fs).take (Yb b fs).length) ⟨by simp,?_⟩
    rw[List.take_length,List.drop_zero,List.take_of_length_le (by simp)]
    exact ZU (x:=((Yb b fs),(0:Int))) rfl
 ·rw[if_pos (by simpa using h0)]
  have hpt:Z9 b fs=([],Zp b fs true []):=by unfold Z9;rw[if_neg h0]
  rw[hpt]
  exact⟨rfl,rfl⟩
theorem Ol: ∀ x:BoxT×List Fact×Unit,(ZW x.1&&Zm x.2.1&&decide (x.2.1.length<=100)&&decide (x.1.v.length<=1000))=true->Zc C8 0 (Za H5 (Zf (J8 x.1 x.2.1))) Hu [] (Yx a4b (encL x)):=by
 rintro⟨b,fs,⟨⟩⟩ hp
 refine a6h b fs ⟨Zl (b,fs,()) rfl hp,Zi (b,fs,()) rfl ?_⟩
 rw[List.length_map]
 exact ZU (x:=((((Z9 b fs).1.length:Nat):Int),(Z9 b fs).2)) rfl
end Go.Pl

namespace Go.Pl
open Go.RowKit
open Enc (enc dec is)
open EncL (encL decL isL)
set_option maxRecDepth 100000
def Vn:IC:=(.seq (.reg [⟨(some 1),(.box 2 (.t 0)),0,none⟩,⟨(some 2),(.mv (.c (.bool false))),1,none⟩] none) (.seq (.reg [⟨(some 3),(.mv (.c (.int .i64 1))),0,none⟩] none) (.seq (.seq (.reg [⟨(some 4),(.mv (.c (.int .i64 0))),0,none⟩] none) (.block 0 (.loop [4,1,3] (.seq (.seq (.reg [⟨(some 6),(.mv (.t 4)),0,none⟩,⟨(some 7),(.faddr 0 (.t 1)),0,none⟩,⟨(some 8),(.load false [(.sl 1)] (.t 7)),0,none⟩,⟨(some 9),(.len 1 (.t 8)),0,none⟩,⟨(some 10),(.bin .num .lss (.t 6) (.t 9)),0,none⟩] none) (.cond (.t 10) .skip (.exit 0))) (.seq (.block 1 (.seq (.seq (.reg [⟨(some 13),(.faddr 0 (.t 1)),0,none⟩,⟨(some 14),(.load false [(.sl 1)] (.t 13)),0,none⟩,⟨(some 15),(.mv (.t 4)),0,none⟩,⟨(some 16),(.iaddr 1 (.t 14) (.t 15)),0,none⟩,⟨(some 17),(.load false [.str] (.t 16)),0,none⟩,⟨(some 18),(.call (.c (.fn 84)) [(.t 17)]),0,none⟩,⟨(some 19),(.un .not (.t 18)),2,none⟩,⟨(some 20),(.mv (.t 19)),2,none⟩,⟨(some 21),(.faddr 1 (.t 1)),2,(some (20,false))⟩,⟨(some 22),(.load false [(.int .i64)] (.t 21)),2,(some (20,false))⟩,⟨(some 23),(.bin .num .geq (.t 22) (.c (.int .i64 20000))),2,(some (20,false))⟩,⟨(some 24),(.pick (.t 20) (.c (.bool true)) (.t 23)),2,none⟩] none) (.cond (.t 24) (.seq (.reg [⟨(some 2),(.mv (.c (.bool false))),0,none⟩] none) .ret) .skip)) (.seq (.seq (.reg [⟨(some 5),(.mv (.c (.int .i64 0))),0,none⟩] none) (.block 2 (.loop [5,4,1,3] (.seq (.seq (.reg [⟨(some 25),(.mv (.t 5)),0,none⟩,⟨(some 26),(.mv (.t 4)),0,none⟩,⟨(some 27),(.bin .num .lss (.t 25) (.t 26)),0,none⟩] none) (.cond (.t 27) .skip (.exit 2))) (.seq (.block 3 (.seq (.reg [⟨(some 30),(.faddr 0 (.t 1)),0,none⟩,⟨(some 31),(.load false [(.sl 1)] (.t 30)),0,none⟩,⟨(some 32),(.mv (.t 5)),0,none⟩,⟨(some 33),(.iaddr 1 (.t 31) (.t 32)),0,none⟩,⟨(some 34),(.load false [.str] (.t 33)),0,none⟩,⟨(some 35),(.faddr 0 (.t 1)),0,none⟩,⟨(some 36),(.load false [(.sl 1)] (.t 35)),0,none⟩,⟨(some 37),(.mv (.t 4)),0,none⟩,⟨(some 38),(.iaddr 1 (.t 36) (.t 37)),0,none⟩,⟨(some 39),(.load false [.str] (.t 38)),0,none⟩,⟨(some 40),(.bin .num .eql (.t 34) (.t 39)),0,none⟩] (some [[],[0],[],[1,2,0],[3,1,2,0],[],[5],[],[6,7,5],[8,6,7,5],[4,9,3,1,2,0,8,6,7,5]])) (.cond (.t 40) (.seq (.reg [⟨(some 2),(.mv (.c (.bool false))),0,none⟩] none) .ret) .skip))) (.reg [⟨(some 28),(.mv (.t 5)),0,none⟩,⟨(some 29),(.bin .num .add (.t 28) (.c (.int .i64 1))),0,none⟩,⟨(some 5),(.mv (.t 29)),0,none⟩] none)))))) (.seq (.reg [⟨(some 41),(.mv (.t 3)),0,none⟩,⟨(some 42),(.bin .num .leq (.t 41) (.c (.int .i64 20000))),0,none⟩] none) (.cond (.t 42) (.reg [⟨(some 43),(.mv (.t 3)),0,none⟩,⟨(some 44),(.faddr 1 (.t 1)),0,none⟩,⟨(some 45),(.load false [(.int .i64)] (.t 44)),0,none⟩,⟨(some 46),(.bin .num .add (.t 45) (.c (.int .i64 1))),0,none⟩,⟨(some 47),(.bin .num .mul (.t 43) (.t 46)),0,none⟩,⟨(some 3),(.mv (.t 47)),0,none⟩] none) .skip))))) (.reg [⟨(some 11),(.mv (.t 4)),0,none⟩,⟨(some 12),(.bin .num .add (.t 11) (.c (.int .i64 1))),0,none⟩,⟨(some 4),(.mv (.t 12)),0,none⟩] none)))))) (.seq (.reg [⟨(some 48),(.faddr 1 (.t 1)),0,none⟩,⟨(some 49),(.load false [(.int .i64)] (.t 48)),0,none⟩,⟨(some 50),(.bin .num .geq (.t 49) (.c (.int .i64 0))),0,none⟩,⟨(some 51),(.mv (.t 50)),0,none⟩,⟨(some 52),(.mv (.t 3)),0,(some (51,true))⟩,⟨(some 53),(.bin .num .leq (.t 52) (.c (.int .i64 20000))),0,(some (51,true))⟩,⟨(some 54),(.pick (.t 51) (.t 53) (.c (.bool false))),0,none⟩,⟨(some 2),(.mv (.t 54)),0,none⟩] none) .ret))))
def Vg:List IRes:=[(.tmp 2)]
abbrev b8r:Nat:=55
def Qd:ZE:=Xi [(84,.pure (preT (fun _:Str×Unit=>true)) (Zg (fun x:Str×Unit=>ZA x.1)))]
theorem c3r{G:PV->Prop}(b:BoxT)(h:At Qd 0 (Za Vg G) Vn 0 55 [(1,(.ptr 0 0)),(3,(.pv (.int .i64 1))),(4,(.pv (.int .i64 0)))] [(.obj (.box [(.pv (.sl 1 false (List.map enc b.v))),(.pv (.int .i64 b.m))]))]):Zc Qd 0 (Za Vg G) Vn [] (Yx 55 [enc b]):=Zc.tp (.nil) h (by kernel_rfl)
theorem a5l{G:PV->Prop}(b:BoxT)(n i:Int)(h:if (decide (i<(↑(List.length (List.map enc b.v)):Int)))=true then(decide (0<=i)&&decide (Int.toNat i<List.length (List.map enc b.v))&&Enc.sz Str==1)=true∧(∃ y0:Str,AV.pv (PV.rptr (PV.cells (List.getD (List.map enc b.v) (Int.toNat i) default)))=AV.pv (PV.rptr (PV.cells ((enc) y0)))∧(∃ y1:Bool,AV.pv (Zg (fun(x:Str×Unit)=>ZA x.1) [(.str (PV.asStr (List.getD (PV.cells (enc y0)) 0 default)))])=AV.pv (enc y1)∧(if (!y1)=true then G ((.bool false))else(if (decide (BoxT.m b ≥ 20000))=true then G ((.bool false))else(At Qd 0 (Za Vg G) Vn 1 55 [(1,(.ptr 0 0)),(3,(.pv (.int .i64 n))),(4,(.pv (.int .i64 i))),(5,(.pv (.int .i64 0)))] [(.obj (.box [(.pv (.sl 1 false (List.map enc b.v))),(.pv (.int .i64 b.m))]))])))))else(if (decide (BoxT.m b ≥ 0))=true then G ((.bool (decide (n<=20000))))else(G ((.bool false))))):At Qd 0 (Za Vg G) Vn 0 55 [(1,.ptr 0 0),(3,.pv (.int .i64 n)),(4,.pv (.int .i64 i))] [.obj (.box [.pv (enc b.v),.pv (.int .i64 b.m)])]:=At.tp (.lit (.ask (.req (.abs (Str) (fun YY=>AV.pv (PV.rptr (PV.cells ((enc) YY)))) (.lit (.lit (.abs (Bool) (fun YY=>AV.pv (enc YY)) (.ask (.lit (.lit (.lit (.lit (.nil))))) (.lit (.lit (.lit (.lit (.ask (.nil) (.nil)))))))))))) (.lit (.ask (.lit (.lit (.lit (.nil)))) (.lit (.lit (.nil))))))) h (by kernel_rfl)
theorem a6t{G:PV->Prop}(b:BoxT)(n i k:Int)(h:if (decide (k<i))=true then(decide (0<=k)&&decide (Int.toNat k<List.length (List.map enc b.v))&&Enc.sz Str==1)=true∧(∃ y0:Str,AV.pv (PV.rptr (PV.cells (List.getD (List.map enc b.v) (Int.toNat k) default)))=AV.pv (PV.rptr (PV.cells ((enc) y0)))∧((decide (0<=i)&&decide (Int.toNat i<List.length (List.map enc b.v))&&Enc.sz Str==1)=true∧(∃ y1:Str,AV.pv (PV.rptr (PV.cells (List.getD (List.map enc b.v) (Int.toNat i) default)))=AV.pv (PV.rptr (PV.cells ((enc) y1)))∧(if (PV.asStr (List.getD (PV.cells (enc y0)) 0 default)==PV.asStr (List.getD (PV.cells (enc y1)) 0 default))=true then G ((.bool false))else(At Qd 0 (Za Vg G) Vn 1 55 [(1,(.ptr 0 0)),(3,(.pv (.int .i64 n))),(4,(.pv (.int .i64 i))),(5,(.pv (.int .i64 (IntKind.wrap IntKind.i64 (k+1)))))] [(.obj (.box [(.pv (.sl 1 false (List.map enc b.v))),(.pv (.int .i64 b.m))]))])))))else(if (decide (n<=20000))=true then At Qd 0 (Za Vg G) Vn 0 55 [(1,(.ptr 0 0)),(3,(.pv (.int .i64 (IntKind.wrap IntKind.i64 (n*IntKind.wrap IntKind.i64 (BoxT.m b+1)))))),(4,(.pv (.int .i64 (IntKind.wrap IntKind.i64 (i+1)))))] [(.obj (.box [(.pv (.sl 1 false (List.map enc b.v))),(.pv (.int .i64 b.m))]))]else(At Qd 0 (Za Vg G) Vn 0 55 [(1,(.ptr 0 0)),(3,(.pv (.int .i64 n))),(4,(.pv (.int .i64 (IntKind.wrap IntKind.i64 (i+1)))))] [(.obj (.box [(.pv (.sl 1 false (List.map enc b.v))),(.pv (.int .i64 b.m))]))]))):At Qd 0 (Za Vg G) Vn 1 55 [(1,.ptr 0 0),(3,.pv (.int .i64 n)),(4,.pv (.int .i64 i)),(5,.pv (.int .i64 k))] [.obj (.box [.pv (enc b.v),.pv (.int .i64 b.m)])]:=At.tp (.lit (.ask (.req (.abs (Str) (fun YY=>AV.pv (PV.rptr (PV.cells ((enc) YY)))) (.lit (.req (.abs (Str) (fun YY=>AV.pv (PV.rptr (PV.cells ((enc) YY)))) (.lit (.lit (.ask (.nil) (.lit (.nil)))))))))) (.lit (.ask (.lit (.lit (.lit (.nil)))) (.lit (.nil)))))) h (by kernel_rfl)
def X3:IC:=(.seq (.reg [⟨(some 2),(.box 2 (.t 0)),0,none⟩,⟨(some 4),(.mv (.c (.sl 0 true []))),1,none⟩] none) (.seq (.reg [⟨(some 5),(.mv (.c (.sl 0 true []))),0,none⟩] none) (.seq (.seq (.reg [⟨(some 6),(.mv (.c (.int .i64 0))),0,none⟩] none) (.block 0 (.loop [6,2,1,5] (.seq (.seq (.reg [⟨(some 7),(.mv (.t 6)),0,none⟩,⟨(some 8),(.faddr 0 (.t 2)),0,none⟩,⟨(some 9),(.load false [(.sl 1)] (.t 8)),0,none⟩,⟨(some 10),(.len 1 (.t 9)),0,none⟩,⟨(some 11),(.bin .num .lss (.t 7) (.t 10)),0,none⟩,⟨(some 12),(.mv (.t 11)),0,none⟩,⟨(some 13),(.mv (.t 6)),0,(some (12,true))⟩,⟨(some 14),(.mv (.t 1)),0,(some (12,true))⟩,⟨(some 15),(.len 1 (.t 14)),0,(some (12,true))⟩,⟨(some 16),(.bin .num .lss (.t 13) (.t 15)),0,(some (12,true))⟩,⟨(some 17),(.pick (.t 12) (.t 16) (.c (.bool false))),0,none⟩] none) (.cond (.t 17) .skip (.exit 0))) (.seq (.block 1 (.reg [⟨(some 20),(.mv (.t 5)),0,none⟩,⟨(some 21),(.faddr 0 (.t 2)),0,none⟩,⟨(some 22),(.load false [(.sl 1)] (.t 21)),0,none⟩,⟨(some 23),(.mv (.t 6)),0,none⟩,⟨(some 24),(.iaddr 1 (.t 22) (.t 23)),0,none⟩,⟨(some 25),(.load false [.str] (.t 24)),0,none⟩,⟨(some 26),(.mv (.t 1)),0,none⟩,⟨(some 27),(.mv (.t 6)),0,none⟩,⟨(some 28),(.iaddr 1 (.t 26) (.t 27)),0,none⟩,⟨(some 29),(.load false [(.int .i64)] (.t 28)),0,none⟩,⟨(some 30),(.build [(.str []),(.int .i64 0)] [(0,(1,(.t 25))),(1,(1,(.t 29)))]),0,none⟩,⟨(some 31),(.bslice 63 2 1 (.agg [(.str []),(.int .i64 0)]) [(0,(.t 30))]),0,none⟩,⟨(some 32),(.append 63 2 24 (.t 20) (.t 31)),1,none⟩,⟨(some 5),(.mv (.t 32)),2,none⟩] (some [[],[],[1],[],[2,3,1],[4,2,3,1],[],[],[6,7],[8,6,7],[5,9,4,2,3,1,8,6,7],[10,5,9,4,2,3,1,8,6,7],[0,11,10,5,9,4,2,3,1,8,6,7],[12,0,1,2,3,4,5,6,7,8,9,10,11]]))) (.reg [⟨(some 18),(.mv (.t 6)),0,none⟩,⟨(some 19),(.bin .num .add (.t 18) (.c (.int .i64 1))),0,none⟩,⟨(some 6),(.mv (.t 19)),0,none⟩] none)))))) (.seq (.reg [⟨(some 33),(.mv (.t 5)),0,none⟩,⟨(some 4),(.mv (.t 33)),0,none⟩] none) .ret))))
def XX:List IRes:=[(.tmp 4)]
abbrev a1f:Nat:=34
def WT:ZE:=Xi []
theorem a6j{G:PV->Prop}(b:BoxT)(p:List Int)(h:At WT 0 (Za XX G) X3 0 34 [(1,(.pv (.sl 1 false (List.map enc p)))),(2,(.ptr 0 0)),(5,(.pv (.sl 0 true []))),(6,(.pv (.int .i64 0)))] [(.obj (.box [(.pv (.sl 1 false (List.map enc b.v))),(.pv (.int .i64 b.m))]))]):Zc WT 0 (Za XX G) X3 [] (Yx 34 [enc b,enc p]):=Zc.tp (.nil) h (by kernel_rfl)
theorem KQ{G:PV->Prop}(b:BoxT)(p:List Int)(i:Int)(h:if (decide (i<(↑(List.length (List.map enc b.v)):Int)))=true then if (decide (i<(↑(List.length (List.map enc p)):Int)))=true then(decide (0<=i)&&decide (Int.toNat i<List.length (List.map enc b.v))&&Enc.sz Str==1)=true∧(∃ y0:Str,AV.pv (PV.rptr (PV.cells (List.getD (List.map enc b.v) (Int.toNat i) default)))=AV.pv (PV.rptr (PV.cells ((enc) y0)))∧((decide (0<=i)&&decide (Int.toNat i<List.length (List.map enc p))&&Enc.sz Int==1)=true∧(∃ y1:Int,AV.pv (PV.rptr (PV.cells (List.getD (List.map enc p) (Int.toNat i) default)))=AV.pv (PV.rptr (PV.cells ((enc) y1)))∧(At WT 0 (Za XX G) X3 0 34 [(1,(.pv (.sl 1 false (List.map enc p)))),(2,(.ptr 0 0)),(5,(.row 1 1 0 1)),(6,(.pv (.int .i64 (IntKind.wrap IntKind.i64 (i+1)))))] [(.obj (.box [(.pv (.sl 1 false (List.map enc b.v))),(.pv (.int .i64 b.m))])),(.obj (.row false 63 2 [(.agg [(.str (PV.asStr (List.getD (PV.cells (enc y0)) 0 default))),(.int .i64 (PV.asInt (List.getD (PV.cells (enc y1)) 0 default)))])]))]))))else(G ((.sl 0 true [])))else(G ((.sl 0 true [])))):At WT 0 (Za XX G) X3 0 34 [(1,.pv (enc p)),(2,.ptr 0 0),(5,.pv (.sl 0 true [])),(6,.pv (.int .i64 i))] [.obj (.box [.pv (enc b.v),.pv (.int .i64 b.m)])]:=At.tp (.lit (.ask (.lit (.lit (.lit (.lit (.lit (.ask (.req (.abs (Str) (fun YY=>AV.pv (PV.rptr (PV.cells ((enc) YY)))) (.lit (.req (.abs (Int) (fun YY=>AV.pv (PV.rptr (PV.cells ((enc) YY)))) (.lit (.lit (.lit (.lit (.lit (.lit (.lit (.nil))))))))))))) (.nil))))))) (.lit (.lit (.lit (.lit (.lit (.nil)))))))) h (by kernel_rfl)
theorem K9{G:PV->Prop}(b:BoxT)(p:List Int)(i:Int)(q:Nat)(vs:List Coef)(h:if (decide (i<(↑(List.length (List.map enc b.v)):Int)))=true then if (decide (i<(↑(List.length (List.map enc p)):Int)))=true then(decide (0<=i)&&decide (Int.toNat i<List.length (List.map enc b.v))&&Enc.sz Str==1)=true∧(∃ y0:Str,AV.pv (PV.rptr (PV.cells (List.getD (List.map enc b.v) (Int.toNat i) default)))=AV.pv (PV.rptr (PV.cells ((enc) y0)))∧((decide (0<=i)&&decide (Int.toNat i<List.length (List.map enc p))&&Enc.sz Int==1)=true∧(∃ y1:Int,AV.pv (PV.rptr (PV.cells (List.getD (List.map enc p) (Int.toNat i) default)))=AV.pv (PV.rptr (PV.cells ((enc) y1)))∧((List.length (List.map enc vs)==q&&q==q&&decide ((q+List.length (List.drop 0 (List.take 1 [PV.agg [Sh.co Sh.str (List.getD (PV.cells (enc y0)) 0 default),Sh.co (Sh.int .i64) (List.getD (PV.cells (enc y1)) 0 default)]])))*24<=1099511627776)&&decide (q+List.length (List.drop 0 (List.take 1 [PV.agg [Sh.co Sh.str (List.getD (PV.cells (enc y0)) 0 default),Sh.co (Sh.int .i64) (List.getD (PV.cells (enc y1)) 0 default)]]))<=1099511627776))=true∧(At WT 0 (Za XX G) X3 0 34 [(1,(.pv (.sl 1 false (List.map enc p)))),(2,(.ptr 0 0)),(5,(.row 1 (q+List.length (List.drop 0 (List.take 1 [PV.agg [Sh.co Sh.str (List.getD (PV.cells (enc y0)) 0 default),Sh.co (Sh.int .i64) (List.getD (PV.cells (enc y1)) 0 default)]]))) 0 (q+List.length (List.drop 0 (List.take 1 [PV.agg [Sh.co Sh.str (List.getD (PV.cells (enc y0)) 0 default),Sh.co (Sh.int .i64) (List.getD (PV.cells (enc y1)) 0 default)]]))))),(6,(.pv (.int .i64 (IntKind.wrap IntKind.i64 (i+1)))))] [(.obj (.box [(.pv (.sl 1 false (List.map enc b.v))),(.pv (.int .i64 b.m))])),(.obj (.row false 63 2 (List.map enc vs++List.drop 0 (List.take 1 [PV.agg [Sh.co Sh.str (List.getD (PV.cells (enc y0)) 0 default),Sh.co (Sh.int .i64) (List.getD (PV.cells (enc y1)) 0 default)]]))))])))))else((List.length (List.map enc vs)==q)=true∧(G ((.sl 2 false (List.drop 0 (List.take q (List.map enc vs)))))))else((List.length (List.map enc vs)==q)=true∧(G ((.sl 2 false (List.drop 0 (List.take q (List.map enc vs)))))))):At WT 0 (Za XX G) X3 0 34 [(1,.pv (enc p)),(2,.ptr 0 0),(5,.row 1 q 0 q),(6,.pv (.int .i64 i))] [.obj (.box [.pv (enc b.v),.pv (.int .i64 b.m)]),.obj (.row false 63 2 (vs.map enc))]:=At.tp (.lit (.ask (.lit (.lit (.lit (.lit (.lit (.ask (.req (.abs (Str) (fun YY=>AV.pv (PV.rptr (PV.cells ((enc) YY)))) (.lit (.req (.abs (Int) (fun YY=>AV.pv (PV.rptr (PV.cells ((enc) YY)))) (.lit (.lit (.lit (.req (.lit (.nil))))))))))) (.req (.nil)))))))) (.lit (.lit (.lit (.lit (.lit (.req (.nil))))))))) h (by kernel_rfl)
def Vi:IC:=(.seq (.reg [⟨(some 2),(.box 2 (.t 0)),0,none⟩,⟨(some 4),(.mv (.c (.bool false))),1,none⟩] none) (.seq (.reg [⟨(some 5),(.mv (.c (.int .i64 1))),0,none⟩] none) (.seq (.seq (.reg [⟨(some 6),(.mv (.c (.int .i64 0))),0,none⟩] none) (.block 0 (.loop [6,2,5,1] (.seq (.seq (.reg [⟨(some 7),(.mv (.t 6)),0,none⟩,⟨(some 8),(.faddr 0 (.t 2)),0,none⟩,⟨(some 9),(.load false [(.sl 1)] (.t 8)),0,none⟩,⟨(some 10),(.len 1 (.t 9)),0,none⟩,⟨(some 11),(.bin .num .lss (.t 7) (.t 10)),0,none⟩,⟨(some 12),(.mv (.t 11)),0,none⟩,⟨(some 13),(.load true [(.sl 1),(.int .i64)] (.t 2)),0,(some (12,true))⟩,⟨(some 14),(.call (.c (.fn 51)) [(.t 13)]),0,(some (12,true))⟩,⟨(some 15),(.pick (.t 12) (.t 14) (.c (.bool false))),2,none⟩] none) (.cond (.t 15) .skip (.exit 0))) (.seq (.block 1 (.reg [⟨(some 18),(.mv (.t 5)),0,none⟩,⟨(some 19),(.faddr 1 (.t 2)),0,none⟩,⟨(some 20),(.load false [(.int .i64)] (.t 19)),0,none⟩,⟨(some 21),(.bin .num .add (.t 20) (.c (.int .i64 1))),0,none⟩,⟨(some 22),(.bin .num .mul (.t 18) (.t 21)),0,none⟩,⟨(some 5),(.mv (.t 22)),0,none⟩] none)) (.reg [⟨(some 16),(.mv (.t 6)),0,none⟩,⟨(some 17),(.bin .num .add (.t 16) (.c (.int .i64 1))),0,none⟩,⟨(some 6),(.mv (.t 17)),0,none⟩] none)))))) (.seq (.reg [⟨(some 23),(.faddr 0 (.t 2)),0,none⟩,⟨(some 24),(.load false [(.sl 1)] (.t 23)),0,none⟩,⟨(some 25),(.len 1 (.t 24)),0,none⟩,⟨(some 26),(.bin .num .leq (.t 25) (.c (.int .i64 5))),0,none⟩,⟨(some 27),(.mv (.t 26)),0,none⟩,⟨(some 28),(.mv (.t 5)),0,(some (27,true))⟩,⟨(some 29),(.bin .num .leq (.t 28) (.c (.int .i64 300))),0,(some (27,true))⟩,⟨(some 30),(.pick (.t 27) (.t 29) (.c (.bool false))),0,none⟩,⟨(some 31),(.mv (.t 30)),0,none⟩,⟨(some 32),(.mv (.t 1)),0,(some (31,true))⟩,⟨(some 33),(.len 1 (.t 32)),0,(some (31,true))⟩,⟨(some 34),(.bin .num .leq (.t 33) (.c (.int .i64 6))),0,(some (31,true))⟩,⟨(some 35),(.pick (.t 31) (.t 34) (.c (.bool false))),0,none⟩,⟨(some 36),(.mv (.t 35)),0,none⟩,⟨(some 37),(.mv (.t 1)),0,(some (36,true))⟩,⟨(some 38),(.call (.c (.fn 31)) [(.t 37),(.c (.int .i64 6))]),0,(some (36,true))⟩,⟨(some 39),(.pick (.t 36) (.t 38) (.c (.bool false))),2,none⟩,⟨(some 4),(.mv (.t 39)),2,none⟩] none) .ret))))
def X4:List IRes:=[(.tmp 4)]
abbrev a1j:Nat:=40
def WJ:ZE:=Xi [(51,.pure (preT (fun x:BoxT×Unit=>ZW x.1)) (Zg (fun x:BoxT×Unit=>Xh x.1))),(31,.pure (preT (fun x:List Fact×Int×Unit=>YM x.1)) (Zg (fun x:List Fact×Int×Unit=>G5 x.1 x.2.1)))]
theorem b0l{G:PV->Prop}(b:BoxT)(fs:List Fact)(h:At WJ 0 (Za X4 G) Vi 0 40 [(1,(.pv (.sl 3 false (List.map enc fs)))),(2,(.ptr 0 0)),(5,(.pv (.int .i64 1))),(6,(.pv (.int .i64 0)))] [(.obj (.box [(.pv (.sl 1 false (List.map enc b.v))),(.pv (.int .i64 b.m))]))]):Zc WJ 0 (Za X4 G) Vi [] (Yx 40 [enc b,enc fs]):=Zc.tp (.nil) h (by kernel_rfl)
theorem Kr{G:PV->Prop}(b:BoxT)(fs:List Fact)(n i:Int)(h:if (decide (i<(↑(List.length (List.map enc b.v)):Int)))=true then(Go.Pl.preT (fun(x:BoxT×Unit)=>ZW x.1) [(.agg [(.sl 1 false (List.map enc b.v)),(.int .i64 b.m)])])=true∧(∃ y0:Bool,AV.pv (Zg (fun(x:BoxT×Unit)=>Xh x.1) [(.agg [(.sl 1 false (List.map enc b.v)),(.int .i64 b.m)])])=AV.pv (enc y0)∧(if (y0)=true then At WJ 0 (Za X4 G) Vi 0 40 [(1,(.pv (.sl 3 false (List.map enc fs)))),(2,(.ptr 0 0)),(5,(.pv (.int .i64 (IntKind.wrap IntKind.i64 (n*IntKind.wrap IntKind.i64 (BoxT.m b+1)))))),(6,(.pv (.int .i64 (IntKind.wrap IntKind.i64 (i+1)))))] [(.obj (.box [(.pv (.sl 1 false (List.map enc b.v))),(.pv (.int .i64 b.m))]))]else(if (decide ((↑(List.length (List.map enc b.v)):Int)<=5))=true then if (decide (n<=300))=true then if (decide ((↑(List.length (List.map enc fs)):Int)<=6))=true then(Go.Pl.preT (fun(x:List Fact×Int×Unit)=>YM x.1) [(.sl 3 false (List.map enc fs)),(.int .i64 6)])=true∧(∃ y1:Bool,AV.pv (Zg (fun(x:List Fact×Int×Unit)=>G5 x.1 x.2.1) [(.sl 3 false (List.map enc fs)),(.int .i64 6)])=AV.pv (enc y1)∧(G ((.bool y1))))else(G ((.bool false)))else(G ((.bool false)))else(G ((.bool false))))))else(if (decide ((↑(List.length (List.map enc b.v)):Int)<=5))=true then if (decide (n<=300))=true then if (decide ((↑(List.length (List.map enc fs)):Int)<=6))=true then(Go.Pl.preT (fun(x:List Fact×Int×Unit)=>YM x.1) [(.sl 3 false (List.map enc fs)),(.int .i64 6)])=true∧(∃ y2:Bool,AV.pv (Zg (fun(x:List Fact×Int×Unit)=>G5 x.1 x.2.1) [(.sl 3 false (List.map enc fs)),(.int .i64 6)])=AV.pv (enc y2)∧(G ((.bool y2))))else(G ((.bool false)))else(G ((.bool false)))else(G ((.bool false))))):At WJ 0 (Za X4 G) Vi 0 40 [(1,.pv (enc fs)),(2,.ptr 0 0),(5,.pv (.int .i64 n)),(6,.pv (.int .i64 i))] [.obj (.box [.pv (enc b.v),.pv (.int .i64 b.m)])]:=At.tp (.lit (.ask (.lit (.req (.abs (Bool) (fun YY=>AV.pv (enc YY)) (.lit (.ask (.lit (.lit (.lit (.nil)))) (.lit (.ask (.lit (.lit (.lit (.ask (.lit (.lit (.lit (.lit (.ask (.lit (.req (.abs (Bool) (fun YY=>AV.pv (enc YY)) (.lit (.nil))))) (.lit (.lit (.nil)))))))) (.lit (.lit (.lit (.lit (.lit (.lit (.nil))))))))))) (.lit (.lit (.lit (.lit (.lit (.lit (.lit (.lit (.lit (.nil))))))))))))))))) (.lit (.lit (.lit (.lit (.ask (.lit (.lit (.lit (.ask (.lit (.lit (.lit (.lit (.ask (.lit (.req (.abs (Bool) (fun YY=>AV.pv (enc YY)) (.lit (.nil))))) (.lit (.lit (.nil)))))))) (.lit (.lit (.lit (.lit (.lit (.lit (.nil))))))))))) (.lit (.lit (.lit (.lit (.lit (.lit (.lit (.lit (.lit (.nil))))))))))))))))) h (by kernel_rfl)
def Vw:IC:=(.seq (.reg [⟨(some 4),(.mv (.c (.bool false))),0,none⟩] none) (.seq (.seq (.reg [⟨(some 6),(.mv (.t 0)),0,none⟩,⟨(some 7),(.len 1 (.t 6)),0,none⟩,⟨(some 8),(.mv (.t 1)),0,none⟩,⟨(some 9),(.len 1 (.t 8)),0,none⟩,⟨(some 10),(.bin .num .neq (.t 7) (.t 9)),0,none⟩] none) (.cond (.t 10) (.seq (.reg [⟨(some 4),(.mv (.c (.bool false))),0,none⟩] none) .ret) .skip)) (.seq (.seq (.reg [⟨(some 5),(.mv (.c (.int .i64 0))),0,none⟩] none) (.block 0 (.loop [5,0,1] (.seq (.seq (.reg [⟨(some 11),(.mv (.t 5)),0,none⟩,⟨(some 12),(.mv (.t 0)),0,none⟩,⟨(some 13),(.len 1 (.t 12)),0,none⟩,⟨(some 14),(.bin .num .lss (.t 11) (.t 13)),0,none⟩] none) (.cond (.t 14) .skip (.exit 0))) (.seq (.block 1 (.seq (.reg [⟨(some 17),(.mv (.t 0)),0,none⟩,⟨(some 18),(.mv (.t 5)),0,none⟩,⟨(some 19),(.iaddr 1 (.t 17) (.t 18)),0,none⟩,⟨(some 20),(.load false [(.int .i64)] (.t 19)),0,none⟩,⟨(some 21),(.mv (.t 1)),0,none⟩,⟨(some 22),(.mv (.t 5)),0,none⟩,⟨(some 23),(.iaddr 1 (.t 21) (.t 22)),0,none⟩,⟨(some 24),(.load false [(.int .i64)] (.t 23)),0,none⟩,⟨(some 25),(.bin .num .neq (.t 20) (.t 24)),0,none⟩] (some [[],[],[0,1],[2,0,1],[],[],[4,5],[6,4,5],[3,7,2,0,1,6,4,5]])) (.cond (.t 25) (.seq (.reg [⟨(some 4),(.mv (.c (.bool false))),0,none⟩] none) .ret) .skip))) (.reg [⟨(some 15),(.mv (.t 5)),0,none⟩,⟨(some 16),(.bin .num .add (.t 15) (.c (.int .i64 1))),0,none⟩,⟨(some 5),(.mv (.t 16)),0,none⟩] none)))))) (.seq (.reg [⟨(some 4),(.mv (.c (.bool true))),0,none⟩] none) .ret))))
def Vl:List IRes:=[(.tmp 4)]
abbrev a1d:Nat:=26
def Uk:ZE:=Xi []
theorem a4j{G:PV->Prop}(a b:List Int)(h:if ((↑(List.length (List.map enc a)):Int) != (↑(List.length (List.map enc b)):Int))=true then G ((.bool false))else(At Uk 0 (Za Vl G) Vw 0 26 [(0,(.pv (.sl 1 false (List.map enc a)))),(1,(.pv (.sl 1 false (List.map enc b)))),(5,(.pv (.int .i64 0)))] [])):Zc Uk 0 (Za Vl G) Vw [] (Yx 26 [enc a,enc b]):=Zc.tp (.lit (.ask (.nil) (.nil))) h (by kernel_rfl)
theorem SH{G:PV->Prop}(a b:List Int)(i:Int)(h:if (decide (i<(↑(List.length (List.map enc a)):Int)))=true then(decide (0<=i)&&decide (Int.toNat i<List.length (List.map enc a))&&Enc.sz Int==1)=true∧(∃ y0:Int,AV.pv (PV.rptr (PV.cells (List.getD (List.map enc a) (Int.toNat i) default)))=AV.pv (PV.rptr (PV.cells ((enc) y0)))∧((decide (0<=i)&&decide (Int.toNat i<List.length (List.map enc b))&&Enc.sz Int==1)=true∧(∃ y1:Int,AV.pv (PV.rptr (PV.cells (List.getD (List.map enc b) (Int.toNat i) default)))=AV.pv (PV.rptr (PV.cells ((enc) y1)))∧(if (PV.asInt (List.getD (PV.cells (enc y0)) 0 default) != PV.asInt (List.getD (PV.cells (enc y1)) 0 default))=true then G ((.bool false))else(At Uk 0 (Za Vl G) Vw 0 26 [(0,(.pv (.sl 1 false (List.map enc a)))),(1,(.pv (.sl 1 false (List.map enc b)))),(5,(.pv (.int .i64 (IntKind.wrap IntKind.i64 (i+1)))))] [])))))else(G ((.bool true)))):At Uk 0 (Za Vl G) Vw 0 26 [(0,.pv (enc a)),(1,.pv (enc b)),(5,.pv (.int .i64 i))] []:=At.tp (.lit (.ask (.req (.abs (Int) (fun YY=>AV.pv (PV.rptr (PV.cells ((enc) YY)))) (.lit (.req (.abs (Int) (fun YY=>AV.pv (PV.rptr (PV.cells ((enc) YY)))) (.lit (.lit (.ask (.nil) (.lit (.nil)))))))))) (.nil))) h (by kernel_rfl)
end Go.Pl

namespace Go.Pl
open Go.RowKit
open Enc (enc dec is)
open EncL (encL decL isL)
def gwL(m:Int):List Str->List Str->Int->Bool
 | _,[],n=>decide (m ≥ 0)&&decide (n<=20000)
 | seen,s::r,n=>ZA s&& !decide (m ≥ 20000)&& !seen.contains s&&gwL m (seen++[s]) r (if n<=20000 then Cu (n*Cu (m+1))else n)
theorem OC{m:Int}(hm:m<0): ∀ (r seen:List Str) (n:Int),gwL m seen r n=false
 | [],seen,n=>by rw[gwL,decide_eq_false (by omega)];rfl
 | s::r,seen,n=>by rw[gwL,OC hm r];simp
theorem b4g{m:Int}(hm:m<0): ∀ (r seen:List Str) (n:Int),gvL m seen r n=false
 | [],seen,n=>by rw[gvL,decide_eq_false (by omega)]
 | s::r,seen,n=>by rw[gvL,decide_eq_true hm];simp
theorem OP(m:Int): ∀ (r seen:List Str) (n:Int),20000<n->gwL m seen r n=false
 | [],seen,n,h=>by rw[gwL,decide_eq_false (show ¬ n<=20000 by omega),Bool.and_false]
 | s::r,seen,n,h=>by rw[gwL,if_neg (by omega),OP m r _ n h];simp
theorem Ec(m:Int): ∀ (r seen:List Str) (n:Int),1<=n->n<=20000->gwL m seen r n=gvL m seen r n
 | [],seen,n,h1,h2=>by rw[gwL,gvL,decide_eq_true h2,Bool.and_true]
 | s::r,seen,n,h1,h2=>by
  by_cases hm:m<0
  ·rw[OC hm,b4g hm]
  ·rw[gwL,gvL,if_pos h2,decide_eq_false hm]
   by_cases hb:m ≥ 20000
   ·rw[decide_eq_true hb];simp
   ·have q1:m+1<=20000:=by omega
    have q2:1<=m+1:=by omega
    have hm2:n*(m+1)<=20000*20000:=Int.le_trans (Int.mul_le_mul_of_nonneg_left q1 (by omega)) (Int.mul_le_mul_of_nonneg_right h2 (by omega))
    have hm1:1<=n*(m+1):=by
     have:=Int.mul_le_mul h1 q2 (by omega) (by omega)
     omega
    rw[WL (n:=m+1) (by omega) (by omega),WL (n:=n*(m+1)) (by omega) (by omega),decide_eq_false hb]
    by_cases hn:n*(m+1)>20000
    ·rw[decide_eq_true hn,OP _ _ _ _ hn];simp
    ·rw[decide_eq_false hn,Ec m r _ _ hm1 (by omega)]
     cases ZA s <;> cases seen.contains s <;> rfl
theorem c0g(b:BoxT)(R:Bool)(n:Int){i:Nat}(hi:i<b.v.length)(hl:b.v.length<=9223372036854775807)(hyes:(b.v.take i).contains b.v[i]=true->R=false)
  (hno:(b.v.take i).contains b.v[i]=false->At Qd 0 (Za Vg (Zf R)) Vn 0 55 [(1,.ptr 0 0),(3,.pv (.int .i64 (if n<=20000 then Cu (n*Cu (b.m+1))else n))),(4,.pv (.int .i64 ((i+1:Nat):Int)))] [.obj (.box [.pv (enc b.v),.pv (.int .i64 b.m)])]) :
  ∀ (d k:Nat),d+k=i->(∀ j (h:j<b.v.length),j<k->b.v[j]≠b.v[i]) ->
  At Qd 0 (Za Vg (Zf R)) Vn 1 55 [(1,.ptr 0 0),(3,.pv (.int .i64 n)),(4,.pv (.int .i64 i)),(5,.pv (.int .i64 k))] [.obj (.box [.pv (enc b.v),.pv (.int .i64 b.m)])]:=by
 intro d
 induction d with
 | zero=>
  intro k hk hne
  obtain rfl:k=i:=by omega
  have hc:(b.v.take k).contains b.v[k]=false:=by
   rw[<- Bool.not_eq_true,List.contains_iff_mem]
   intro hm
   obtain⟨j,hj,e⟩:=List.getElem_of_mem hm
   rw[List.length_take]at hj
   rw[List.getElem_take]at e
   exact hne j (by omega) (by omega) e
  have:=hno hc
  refine a6t b n k k (ZV (Z8 (by omega)) (We (fun h=> ?_) fun h=> ?_))
  ·rw[if_pos h]at this
   rw[next (by omega)]
   exact this
  ·rw[if_neg h]at this
   rw[next (by omega)]
   exact this
 | succ d ih=>
  intro k hk hne
  have hkl:k<b.v.length:=by omega
  refine a6t b n i k (ZQ (Z4 (by omega)) ⟨Zu hkl rfl,ZG hkl ⟨Zu hi rfl,ZG hi (Jq (fun h=> ?_) fun h=> ?_)⟩⟩)
  ·have e:b.v[k]=b.v[i]:=by
    have h:b.v[k].s=b.v[i].s:=h
    cases hx:b.v[k];cases hy:b.v[i]
    rw[hx,hy]at h
    exact congrArg Str.mk h
   refine ZJ (hyes ?_).symm
   rw[List.contains_iff_mem,<- e,List.mem_take_iff_getElem]
   exact⟨k,by omega,rfl⟩
  ·rw[next (by omega)]
   refine ih (k+1) (by omega) fun j hj hjk=> ?_
   by_cases e:j=k
   ·subst e
    intro e2
    exact h (congrArg Str.s e2)
   ·exact hne j hj (by omega)
theorem b1z(b:BoxT)(hl:b.v.length<=9223372036854775807): ∀ (d i:Nat) (n:Int),d+i=b.v.length ->
  At Qd 0 (Za Vg (Zf (gwL b.m (b.v.take i) (b.v.drop i) n))) Vn 0 55 [(1,.ptr 0 0),(3,.pv (.int .i64 n)),(4,.pv (.int .i64 i))] [.obj (.box [.pv (enc b.v),.pv (.int .i64 b.m)])]:=by
 intro d
 induction d with
 | zero=>
  intro i n hi
  rw[List.drop_of_length_le (by omega)]
  refine a5l b n i (ZV (VL (by omega)) ?_)
  rw[gwL]
  refine We (fun h=> ?_) fun h=> ?_
  ·rw[decide_eq_true h];exact ZJ rfl
  ·rw[decide_eq_false h];exact ZJ rfl
 | succ d ih=>
  intro i n hi
  have hlt:i<b.v.length:=by omega
  have hd:b.v.drop i=b.v[i]::b.v.drop (i+1):=List.drop_eq_getElem_cons hlt
  have ht:b.v.take (i+1)=b.v.take i++[b.v[i]]:=List.take_succ_eq_append_getElem hlt
  rw[hd,gwL]
  refine a5l b n i (ZQ (Wd hlt) ⟨Zu hlt rfl,ZG hlt (Zi (b.v[i],()) rfl (Vq (fun h=> ?_) fun h=>We (fun h2=> ?_) fun h2=> ?_))⟩)
  ·have h:ZA b.v[i]=false:=h
   rw[h];exact ZJ rfl
  ·rw[decide_eq_true h2];simp only[Bool.not_true,Bool.and_false,Bool.false_and];exact ZJ rfl
  ·have h:ZA b.v[i]=true:=h
   rw[decide_eq_false h2,h]
   simp only[Bool.not_false,Bool.true_and,Bool.and_true]
   refine c0g b _ n hlt hl (fun hc=>by rw[hc];rfl) (fun hc=> ?_) i 0 (by omega) (fun j _ hj=>by omega)
   rw[hc,Bool.not_false,Bool.true_and,<- ht]
   exact ih (i+1) _ (by omega)
theorem b3z: ∀ a:BoxT×Unit,ZW a.1=true->Zc Qd 0 (Za Vg (Zf (Xh a.1))) Vn [] (Yx b8r (encL a)):=by
 rintro⟨b,⟨⟩⟩ h
 simp only[ZW,Wj,Bool.and_eq_true]at h
 rw[<- O7,<- Ec b.m b.v [] 1 (by decide) (by decide)]
 exact c3r b (b1z b (ZN.1 h.1) b.v.length 0 1 (by omega))
theorem Px(b:BoxT)(p:List Int)(hb:b.v.length<=1000)(hp:p.length<=9223372036854775807): ∀ (k i:Nat),k+i=min b.v.length p.length->1<=i ->
  At WT 0 (Za XX (Zf (Zj b.v p))) X3 0 34 [(1,.pv (enc p)),(2,.ptr 0 0),(5,.row 1 i 0 i),(6,.pv (.int .i64 i))] [.obj (.box [.pv (enc b.v),.pv (.int .i64 b.m)]),.obj (.row false 63 2 ((Zj (b.v.take i) (p.take i)).map enc))]:=by
 intro k
 induction k with
 | zero=>
  intro i hi h1
  have hl:=JH b.v p (i:=i) (by omega) (by omega)
  have fin:Zf (Zj b.v p) (PV.sl 2 false (List.drop 0 (List.take i (List.map enc (Zj (b.v.take i) (p.take i)))))):=by
   rw[List.drop_zero,List.take_of_length_le (by rw[List.length_map,hl];exact Nat.le_refl _),MF b.v p (by omega)]
   exact ZU (x:=Zj b.v p) rfl
  by_cases hbl:i<b.v.length
  ·exact K9 b p i i (Zj (b.v.take i) (p.take i)) (ZQ (Wd hbl) (ZV (VL (by omega)) ⟨by simp[hl],fin⟩))
  ·exact K9 b p i i (Zj (b.v.take i) (p.take i)) (ZV (VL hbl) ⟨by simp[hl],fin⟩)
 | succ k ih=>
  intro i hi h1
  have hl:=JH b.v p (i:=i) (by omega) (by omega)
  have hlt:i<b.v.length:=by omega
  have hlt2:i<p.length:=by omega
  refine K9 b p i i (Zj (b.v.take i) (p.take i)) (ZQ (Wd hlt) (ZQ (Wd hlt2) ⟨Zu hlt rfl,ZG hlt ⟨Zu hlt2 rfl,ZG hlt2 ⟨?_,?_⟩⟩⟩))
  ·rw[List.length_map,hl]
   show((i==i)&&(i==i)&&decide ((i+1)*24<=1099511627776)&&decide (i+1<=1099511627776))=true
   rw[decide_eq_true (by omega),decide_eq_true (by omega)];simp
  ·have:=ih (i+1) (by omega) (by omega)
   rw[Kh b.v p hlt hlt2,List.map_append,<- next (by omega)]at this
   exact this
theorem Lx: ∀ a:BoxT×List Int×Unit,(decide (a.1.v.length<=1000)&&Zt a.2.1)=true->Zc WT 0 (Za XX (Zf (Zj a.1.v a.2.1))) X3 [] (Yx a1f (encL a)):=by
 rintro⟨b,p,⟨⟩⟩ h
 simp only[Bool.and_eq_true,decide_eq_true_eq]at h
 obtain⟨h1,h2⟩:=h
 refine a6j b p ?_
 have hl2:=ZN.1 h2
 by_cases h0:min b.v.length p.length=0
 ·have:Zj b.v p=[]:=by
   rw[<- List.length_eq_zero_iff];unfold Zj;rw[List.length_zipWith];exact h0
  rw[this]
  by_cases hbl:0<b.v.length
  ·exact KQ b p ((0:Nat):Int) (ZQ (Wd hbl) (ZV (VL (by omega)) ⟨rfl,rfl⟩))
  ·exact KQ b p ((0:Nat):Int) (ZV (VL hbl) ⟨rfl,rfl⟩)
 ·have hlt:0<b.v.length:=by omega
  have hlt2:0<p.length:=by omega
  refine KQ b p ((0:Nat):Int) (ZQ (Wd hlt) (ZQ (Wd hlt2) ⟨Zu hlt rfl,ZG hlt ⟨Zu hlt2 rfl,ZG hlt2 ?_⟩⟩))
  have:=Px b p h1 hl2 (min b.v.length p.length - 1) 1 (by omega) (by omega)
  rw[show(1:Nat)=0+1 from rfl,Kh b.v p hlt hlt2]at this
  exact this
end Go.Pl

namespace Go.Pl
open Go.RowKit
open Enc (enc dec is)
open EncL (encL decL isL)
theorem a6e{α:Type}[DecidableEq α](x y:α)(a b:List α):decide (x::a=y::b)=(decide (x=y)&&decide (a=b)):=by
 rw[Bool.eq_iff_iff];simp
theorem MO(a b:List Int)(ha:a.length<=9223372036854775807)(hab:a.length=b.length): ∀ (k i:Nat),k+i=a.length ->
  At Uk 0 (Za Vl (Zf (decide (a.drop i=b.drop i)))) Vw 0 26 [(0,.pv (enc a)),(1,.pv (enc b)),(5,.pv (.int .i64 i))] []:=by
 intro k
 induction k with
 | zero=>
  intro i hi
  rw[List.drop_of_length_le (by omega),List.drop_of_length_le (by omega)]
  exact SH a b i (ZV (VL (by omega)) (ZJ rfl))
 | succ k ih=>
  intro i hi
  have hlt:i<a.length:=by omega
  have hlt2:i<b.length:=by omega
  have h:=ih (i+1) (by omega)
  rw[List.drop_eq_getElem_cons hlt,List.drop_eq_getElem_cons hlt2,a6e]
  refine SH a b i (ZQ (Wd hlt) ⟨Zu hlt rfl,ZG hlt ⟨Zu hlt2 rfl,ZG hlt2 ?_⟩⟩)
  show if (a[i] != b[i])=true then _ else _
  by_cases e:a[i]=b[i]
  ·rw[if_neg (by simp[e]),next (by omega),decide_eq_true e,Bool.true_and]
   exact h
  ·rw[if_pos (by simp[e]),decide_eq_false e,Bool.false_and]
   exact ZJ rfl
theorem Oi: ∀ x:List Int×List Int×Unit,Zt x.1=true->Zc Uk 0 (Za Vl (Zf (decide (x.1=x.2.1)))) Vw [] (Yx a1d (encL x)):=by
 rintro⟨a,b,⟨⟩⟩ h
 refine a4j a b ?_
 simp only[List.length_map]
 by_cases e:a.length=b.length
 ·rw[if_neg (by simp[e])]
  exact MO a b (ZN.1 h) e a.length 0 (by omega)
 ·rw[if_pos (by simp;omega)]
  exact ZJ (by simp;rintro rfl;exact e rfl)
def a4l(m:Int):Nat->Int->Int
 | 0,n=>n
 | k+1,n=>a4l m k (Cu (n*Cu (m+1)))
theorem KV(b:BoxT)(fs:List Fact)(hl:b.v.length<=9223372036854775807)(hf:YM fs=true)(n:Int){P:Prop}{G:PV->Prop}(hG : ∀ x,x=(decide (b.v.length<=5)&&decide (n<=300)&&decide (fs.length<=6)&&G5 fs 6)->G (.bool x)):
  if (decide ((↑(List.length (List.map (enc:Str->PV) (BoxT.v b))):Int)<=5))=true then if (decide (n<=300))=true then if (decide ((↑(List.length (List.map (enc:Fact->PV) fs)):Int)<=6))=true then
   (Go.Pl.preT (fun(x:List Fact×Int×Unit)=>YM (Prod.fst x)) [(.sl 3 false (List.map enc fs)),(.int .i64 6)])=true∧(∃ y1:Bool,AV.pv (Zg (fun(x:List Fact×Int×Unit)=>G5 (Prod.fst x) (Prod.fst (Prod.snd x))) [(.sl 3 false (List.map enc fs)),(.int .i64 6)])=AV.pv (enc y1)∧(G ((.bool y1))))else(G ((.bool false)))else(G ((.bool false)))else(G ((.bool false))):=by
 simp only[List.length_map]
 refine We (fun h1=>We (fun h2=>We (fun h3=>⟨Zl (fs,6,()) rfl hf,Zi (fs,6,()) rfl (hG _ ?_)⟩) fun h3=>hG _ ?_) fun h2=>hG _ ?_) fun h1=>hG _ ?_
 ·rw[decide_eq_true (show b.v.length<=5 by omega),decide_eq_true h2,decide_eq_true (show fs.length<=6 by omega)];rfl
 ·rw[decide_eq_false (show ¬ fs.length<=6 by omega)];simp
 ·rw[decide_eq_false h2];simp
 ·rw[decide_eq_false (show ¬ b.v.length<=5 by omega)];simp
theorem Mo(b:BoxT)(fs:List Fact)(hb:ZW b=true)(hv:Xh b=true)(hf:YM fs=true): ∀ (k i:Nat) (n:Int),k+i=b.v.length ->
  At WJ 0 (Za X4 (Zf (decide (b.v.length<=5)&&decide (a4l b.m k n<=300)&&decide (fs.length<=6)&&G5 fs 6))) Vi 0 40 [(1,.pv (enc fs)),(2,.ptr 0 0),(5,.pv (.int .i64 n)),(6,.pv (.int .i64 i))] [.obj (.box [.pv (enc b.v),.pv (.int .i64 b.m)])]:=by
 have hbo:=hb
 simp only[ZW,Wj,Bool.and_eq_true]at hb
 have hl:=ZN.1 hb.1
 intro k
 induction k with
 | zero=>
  intro i n hi
  exact Kr b fs n i (ZV (VL (by omega)) (KV (P:=True) b fs hl hf n fun x hx=>ZJ hx))
 | succ k ih=>
  intro i n hi
  have hlt:i<b.v.length:=by omega
  refine Kr b fs n i (ZQ (Wd hlt) ⟨Zl (b,()) rfl hbo,Zi (b,()) rfl (ZQ hv ?_)⟩)
  rw[next (by omega)]
  exact ih (i+1) _ (by omega)
theorem NQ(m:Nat): ∀ (l:List Str) (n r:Int),0<=n->n<=20000->Jg m l n=some r->m<=20000->a4l m l.length n=OD m l n
 | [],n,r,_,_,_,_=>rfl
 | s::l,n,r,h0,h1,h,hm=>by
  rw[Jg]at h
  split at h
  ·cases h
  ·rename_i hn
   show a4l m l.length (Cu (n*Cu ((m:Int)+1)))=OD m l (n*((m:Int)+1))
   have e0:0<=n*((m:Int)+1):=Int.mul_nonneg h0 (by omega)
   rw[WL (n:=(m:Int)+1) (by omega) (by omega),WL (by omega) (by omega)]
   exact NQ m l _ r e0 (by omega) h hm
theorem MW: ∀ x:BoxT×List Fact×Unit,(ZW x.1&&YM x.2.1)=true->Zc WJ 0 (Za X4 (Zf (Ux x.1 x.2.1))) Vi [] (Yx a1j (encL x)):=by
 rintro⟨b,fs,⟨⟩⟩ h
 simp only[Bool.and_eq_true]at h
 obtain⟨hb,hf⟩:=h
 have hbo:=hb
 simp only[ZW,Wj,Bool.and_eq_true]at hb
 have hl:=ZN.1 hb.1
 refine b0l b fs ?_
 cases hv:Xh b
 ·have ef:Ux b fs=(decide (b.v.length<=5)&&decide ((1:Int)<=300)&&decide (fs.length<=6)&&G5 fs 6):=by unfold Ux;rw[hv];rfl
  show At WJ 0 (Za X4 (Zf (Ux b fs))) _ _ _ _ _
  rw[ef]
  by_cases h0:0<b.v.length
  ·refine Kr b fs 1 ((0:Nat):Int) (ZQ (Wd h0) ⟨Zl (b,()) rfl hbo,Zi (b,()) rfl (ZV (show ¬ Xh b=true by simp[hv]) ?_)⟩)
   exact KV (P:=True) b fs hl hf 1 fun x hx=>ZJ hx
  ·exact Kr b fs 1 ((0:Nat):Int) (ZV (VL h0) (KV (P:=True) b fs hl hf 1 fun x hx=>ZJ hx))
 ·have ef:Ux b fs=(decide (b.v.length<=5)&&decide (a4l b.m b.v.length 1<=300)&&decide (fs.length<=6)&&G5 fs 6):=by
   unfold Ux
   rw[hv,if_pos rfl]
   obtain⟨_,_,h3,h4,h5⟩:=VM.1 hv
   obtain⟨r,hr⟩:=Option.isSome_iff_exists.1 h5
   rcases h3 with h3|h3
   ·rw[h3];rfl
   ·have e:b.m=(b.m.toNat:Int):=by omega
    rw[e]at hr ⊢
    rw[NQ _ _ _ _ (by decide) (by decide) hr (by omega)]
  show At WJ 0 (Za X4 (Zf (Ux b fs))) _ _ _ _ _
  rw[ef]
  exact Mo b fs hbo hv hf b.v.length 0 1 (by omega)
end Go.Pl

namespace Go.Pl
open Go.RowKit
open Enc (enc dec is)
open EncL (encL decL isL)
set_option maxRecDepth 100000
end Go.Pl

namespace Go.Pl
open Go.RowKit
open Enc (enc dec is)
open EncL (encL decL isL)
theorem a1e(v a b:List Str):JF v (a++b)=(JF v a&&JF v b):=by unfold JF;rw[List.all_append]
theorem b6z{b:BoxT}(h:Xh b=true): ∀ y∈QG b.m.toNat b.v.length,∀ x∈y,-1<=x∧x<=20000:=by
 intro y hy x hx
 obtain⟨q1,q2⟩:=Q4.1 hy
 have:=q2 x hx
 obtain⟨_,_,h3,h4,_⟩:=VM.1 h
 rcases h3 with h3|h3
 ·rw[h3]at q1
  rw[List.length_eq_zero_iff.1 q1]at hx
  cases hx
 ·omega
end Go.Pl

namespace Go.Pl
open Go.RowKit
open Enc (enc dec is)
open EncL (encL decL isL)
def Yl(m n:Int):Bool:=decide (m<n)
def Qz(g:Nat):List AV->List AObj->Bool
 | [.pv (.int .i64 n),.ptr 0 0,.ptr 1 0,.ptr 2 0],[.box [.pv (.bool s)],.box [.pv (.fn g')],.box [.pv (.int .i64 z)]]=>g'==g
 | _,_=>false
def Kn(f:Int->Int->Bool):List AV->List AObj->AV×List AObj×List AObj
 | [.pv (.int .i64 n),_,_,_],[.box [.pv (.bool s)],.box [.pv (.fn g)],.box [.pv (.int .i64 z)]]=>(.tup [],[.box [.pv (.bool true)],.box [.pv (.fn g)],.box [.pv (.int .i64 (if !s||f n z then n else z))]],[])
 | _,_=>WW
def Gp(f:Int->Int->Bool):List Int->Option Int
 | []=>none
 | x::l=>some (l.foldl (fun z n=>if f n z then n else z) x)
def YA(b:BoxT)(fs:List Fact)(l:Lin):List Int:=(Yb b fs).map fun p=>(Yk l (Zj b.v p)).1
def Ud(b:BoxT)(fs:List Fact)(l:Lin):Bool:=ZW b&&Zm fs&&decide (fs.length<=100)&&decide (b.v.length<=1000)&&Ym l&&decide (l.t.length<=1000)
def Uv(f:Int->Int->Bool)(b:BoxT)(fs:List Fact)(l:Lin):Int×Int:=
 if Zp b fs (Zw l) (Zn l)=0 then(match Gp f (YA b fs l)with|none=>(0,9)|some z=>(z,0))else(0,Zp b fs (Zw l) (Zn l))
end Go.Pl

namespace Go.Pl
open Go.RowKit
open Enc (enc dec is)
open EncL (encL decL isL)
set_option maxRecDepth 100000
def Lj:IC:=(.seq (.reg [⟨(some 4),(.mv (.c (.bool false))),0,none⟩] none) (.seq (.reg [⟨(some 5),(.mv (.t 0)),0,none⟩,⟨(some 6),(.mv (.t 1)),0,none⟩,⟨(some 7),(.bin .num .lss (.t 5) (.t 6)),0,none⟩,⟨(some 4),(.mv (.t 7)),0,none⟩] none) .ret))
def Fu:List IRes:=[(.tmp 4)]
abbrev c0z:Nat:=8
def b0c:ZE:=Xi []
theorem c3z{G:PV->Prop}(m n:Int)(h:G ((.bool (decide (m<n))))):Zc b0c 0 (Za Fu G) Lj [] (Yx 8 [enc m,enc n]):=Zc.tp (.lit (.nil)) h (by kernel_rfl)
def RD:IC:=(.seq (.reg [⟨(some 5),(.load false [.bool] (.t 1)),0,none⟩,⟨(some 6),(.un .not (.t 5)),0,none⟩,⟨(some 7),(.mv (.t 6)),0,none⟩,⟨(some 8),(.load false [.any] (.t 2)),0,(some (7,false))⟩,⟨(some 9),(.mv (.t 0)),0,(some (7,false))⟩,⟨(some 10),(.load false [(.int .i64)] (.t 3)),0,(some (7,false))⟩,⟨(some 11),(.call (.t 8) [(.t 9),(.t 10)]),0,(some (7,false))⟩,⟨(some 12),(.pick (.t 7) (.c (.bool true)) (.t 11)),2,none⟩] none) (.cond (.t 12) (.reg [⟨(some 13),(.mv (.t 0)),0,none⟩,⟨none,(.store 1 (.t 3) (.t 13)),0,none⟩,⟨none,(.store 1 (.t 1) (.c (.bool true))),0,none⟩] none) .skip))
def Ry:List IRes:=[]
abbrev b7e:Nat:=14
def LF:ZE:=Xi [(128,.pure (preT (fun _:Int×Int×Unit=>true)) (Zg (fun x:Int×Int×Unit=>decide (x.1<x.2.1))))]
theorem c0c{G:AV×List AObj×List AObj->Prop}(n:Int)(s:Bool)(z:Int)(h:if (!s)=true then G (((.tup []),([(.box [(.pv (.bool true))]),(.box [(.pv (.fn 128))]),(.box [(.pv (.int .i64 n))])],[])))else(∃ y0:Bool,AV.pv (Zg (fun(x:Int×Int×Unit)=>decide (x.1<x.2.1)) [(.int .i64 n),(.int .i64 z)])=AV.pv (enc y0)∧(if (y0)=true then G (((.tup []),([(.box [(.pv (.bool true))]),(.box [(.pv (.fn 128))]),(.box [(.pv (.int .i64 n))])],[])))else(G (((.tup []),([(.box [(.pv (.bool s))]),(.box [(.pv (.fn 128))]),(.box [(.pv (.int .i64 z))])],[]))))))):Zc LF 3 (Zh 3 Ry G) RD [] (YH 14 [.pv (.int .i64 n),.ptr 0 0,.ptr 1 0,.ptr 2 0] [.box [.pv (.bool s)],.box [.pv (.fn 128)],.box [.pv (.int .i64 z)]]):=Zc.to (.ask (.lit (.lit (.lit (.lit (.lit (.nil)))))) (.lit (.lit (.lit (.lit (.abs (Bool) (fun YY=>AV.pv (enc YY)) (.lit (.ask (.nil) (.nil))))))))) h (by kernel_rfl)
def Ui:IC:=(.seq (.reg [⟨(some 4),(.box 2 (.t 0)),0,none⟩,⟨(some 6),(.box 2 (.t 2)),1,none⟩,⟨(some 7),(.box 1 (.t 3)),2,none⟩,⟨(some 8),(.alloc (.int .i64 0)),3,none⟩,⟨(some 9),(.alloc (.int .i64 0)),4,none⟩] none) (.seq (.seq (.reg [⟨(some 18),(.load true [(.sl 1),(.int .i64)] (.t 4)),0,none⟩,⟨(some 19),(.mv (.t 1)),0,none⟩,⟨(some 20),(.load true [(.int .i64),(.sl 2)] (.t 6)),0,none⟩,⟨(some 21),(.call (.c (.fn 73)) [(.t 20)]),0,none⟩,⟨(some 22),(.load true [(.int .i64),(.sl 2)] (.t 6)),2,none⟩,⟨(some 23),(.call (.c (.fn 174)) [(.t 22)]),2,none⟩,⟨(some 24),(.call (.c (.fn 116)) [(.t 18),(.t 19),(.t 21),(.t 23)]),4,none⟩,⟨(some 10),(.mv (.t 24)),6,none⟩] (some [[],[],[],[2],[],[4,3,2],[0,1,3,5,2,4],[6,0,1,2,3,4,5]])) (.seq (.reg [⟨(some 25),(.mv (.t 10)),0,none⟩,⟨(some 26),(.bin .num .neq (.t 25) (.c (.int .i64 0))),0,none⟩] none) (.cond (.t 26) (.seq (.reg [⟨(some 27),(.mv (.t 10)),0,none⟩,⟨none,(.store 1 (.t 8) (.c (.int .i64 0))),0,none⟩,⟨none,(.store 1 (.t 9) (.t 27)),0,none⟩] none) .ret) .skip))) (.seq (.reg [⟨(some 11),(.alloc (.int .i64 0)),0,none⟩,⟨(some 12),(.alloc (.bool false)),1,none⟩,⟨none,(.store 1 (.t 11) (.c (.int .i64 0))),2,none⟩,⟨none,(.store 1 (.t 12) (.c (.bool false))),2,none⟩] none) (.seq (.reg [⟨(some 28),(.mkfn 194 [] [(.t 12),(.t 7),(.t 11)]),0,none⟩,⟨(some 13),(.alloc .nilfn),0,none⟩,⟨none,(.store 1 (.t 13) (.t 28)),1,none⟩] none) (.seq (.seq (.reg [⟨(some 29),(.load true [(.sl 1),(.int .i64)] (.t 4)),0,none⟩,⟨(some 30),(.mv (.t 1)),0,none⟩,⟨(some 31),(.call (.c (.fn 117)) [(.t 29),(.t 30)]),0,none⟩] none) (.block 0 (.ext 0 [31,33,6,15,35,36,37,34,38,39,17,40,41,8,9,42,13,16,43,44,12,11]))) (.seq (.seq (.reg [⟨(some 46),(.load false [.bool] (.t 12)),0,none⟩,⟨(some 47),(.un .not (.t 46)),0,none⟩] none) (.cond (.t 47) (.seq (.reg [⟨none,(.store 1 (.t 8) (.c (.int .i64 0))),0,none⟩,⟨none,(.store 1 (.t 9) (.c (.int .i64 9))),0,none⟩] none) .ret) .skip)) (.seq (.reg [⟨(some 48),(.load false [(.int .i64)] (.t 11)),0,none⟩,⟨none,(.store 1 (.t 8) (.t 48)),0,none⟩,⟨none,(.store 1 (.t 9) (.c (.int .i64 0))),0,none⟩] none) .ret)))))))
def UV:List IRes:=[(.cell false 1 8),(.cell false 1 9)]
abbrev a7g:Nat:=49
def Vy:ZE:=Xi [(73,.pure (preT (fun x:Lin×Unit=>Ym x.1)) (Zg (fun x:Lin×Unit=>Zw x.1))),(174,.own Km Dt),(116,.pure (preT (fun x:BoxT×List Fact×Bool×NilS×Unit=>ZW x.1&&Zm x.2.1&&decide (x.2.1.length<=100))) (Zg (fun x:BoxT×List Fact×Bool×NilS×Unit=>Zp x.1 x.2.1 x.2.2.1 []))),(117,.own YX Wn),(38,.pure (preT (fun x:Lin×List Coef×Unit=>Ym x.1&&decide (x.2.1.length<=9223372036854775807))) (Zg (fun x:Lin×List Coef×Unit=>Yk x.1 x.2.1))),(194,.own (Qz 128) (Kn Yl))]
theorem b3y{G:PV->Prop}(E:Yv)(b:BoxT)(fs:List Fact)(l:Lin)(h:(Go.Pl.preT (fun(x:Lin×Unit)=>Ym x.1) [(.agg [(.int .i64 l.k),(.sl 2 false (List.map enc l.t))])])=true∧(∃ y0:Bool,AV.pv (Zg (fun(x:Lin×Unit)=>Zw x.1) [(.agg [(.int .i64 l.k),(.sl 2 false (List.map enc l.t))])])=AV.pv (enc y0)∧((Km [(.pv (.agg [(.int .i64 l.k),(.sl 2 false (List.map enc l.t))]))] [])=true∧((Go.Pl.preT (fun(x:BoxT×List Fact×Bool×NilS×Unit)=>ZW x.1&&Zm x.2.1&&decide (List.length x.2.1<=100)) [(.agg [(.sl 1 false (List.map enc b.v)),(.int .i64 b.m)]),(.sl 3 false (List.map enc fs)),(.bool y0),(.sl 0 true [])])=true∧(∃ y1:Int,AV.pv (Zg (fun(x:BoxT×List Fact×Bool×NilS×Unit)=>Zp x.1 x.2.1 x.2.2.1 []) [(.agg [(.sl 1 false (List.map enc b.v)),(.int .i64 b.m)]),(.sl 3 false (List.map enc fs)),(.bool y0),(.sl 0 true [])])=AV.pv (enc y1)∧(if (y1 != 0)=true then G ((.tup [(.int .i64 0),(.int .i64 y1)]))else((YX [(.pv (.agg [(.sl 1 false (List.map enc b.v)),(.int .i64 b.m)])),(.pv (.sl 3 false (List.map enc fs)))] [])=true∧(E 0 ⟨ZO 49 0 [(6,(.ptr 0 0)),(8,(.ptr 1 0)),(9,(.ptr 2 0)),(11,(.ptr 3 0)),(12,(.ptr 4 0)),(13,(.ptr 5 0)),(15,.undef),(16,.undef),(17,.undef),(31,(.fn 177 [] [(.ptr 6 0),(.ptr 7 0)])),(33,.undef),(34,.undef),(35,.undef),(36,.undef),(37,.undef),(38,.undef),(39,.undef),(40,.undef),(41,.undef),(42,.undef),(43,.undef),(44,.undef)],[(.obj (.box [(.pv (.int .i64 l.k)),(.pv (.sl 2 false (List.map enc l.t)))])),(.obj (.box [(.pv (.int .i64 0))])),(.obj (.box [(.pv (.int .i64 0))])),(.obj (.box [(.pv (.int .i64 0))])),(.obj (.box [(.pv (.bool false))])),(.obj (.box [(.fn 194 [] [(.ptr 4 0),(.ptr 8 0),(.ptr 3 0)])])),(.obj (.box [(.pv (.sl 1 false (List.map enc b.v))),(.pv (.int .i64 b.m))])),(.obj (.box [(.pv (.sl 3 false (List.map enc fs)))])),(.obj (.box [(.pv (.fn 128))]))]⟩ (fun x S'=>KF Vy E 0 (Za UV G) Ui 0 x S'))))))))):Zz Vy E 0 (Za UV G) (.inl Ui) [] (Yx 49 [enc b,enc fs,enc l,.fn 128]):=Zz.mp (.req (.abs (Bool) (fun YY=>AV.pv (enc YY)) (.req (.keep (.req (.abs (Int) (fun YY=>AV.pv (enc YY)) (.lit (.ask (.nil) (.req (.keep (.nil))))))))))) h (by kernel_rfl)
theorem b0o{G:PV->Prop}(E:Yv)(b:BoxT)(fs:List Fact)(l:Lin)(z:Int)(s:Bool)(h:if (!s)=true then G ((.tup [(.int .i64 0),(.int .i64 9)]))else(G ((.tup [(.int .i64 z),(.int .i64 0)])))):KF Vy E 0 (Za UV G) Ui 0 .normal ⟨ZO 49 0 [(6,.ptr 0 0),(8,.ptr 1 0),(9,.ptr 2 0),(11,.ptr 3 0),(12,.ptr 4 0),(13,.ptr 5 0)],[.obj (.box [.pv (.int .i64 l.k),.pv (enc l.t)]),.obj (.box [.pv (.int .i64 0)]),.obj (.box [.pv (.int .i64 0)]),.obj (.box [.pv (.int .i64 z)]),.obj (.box [.pv (.bool s)]),.obj (.box [.fn 194 [] [.ptr 4 0,.ptr 6 0,.ptr 3 0]]),.obj (.box [.pv (.fn 128)])]⟩:=Zz.mp (.ask (.nil) (.nil)) h (by kernel_rfl)
def Qa:IC:=Ui
def Qg:List IRes:=[(.cell false 1 8),(.cell false 1 9)]
abbrev a9u:Nat:=49
def VD:ZE:=Xi [(73,.pure (preT (fun x:Lin×Unit=>Ym x.1)) (Zg (fun x:Lin×Unit=>Zw x.1))),(174,.own Kl J3),(116,.own VZ Qp),(117,.own YX Wn),(38,.pure (preT (fun x:Lin×List Coef×Unit=>Ym x.1&&decide (x.2.1.length<=9223372036854775807))) (Zg (fun x:Lin×List Coef×Unit=>Yk x.1 x.2.1))),(194,.own (Qz 128) (Kn Yl))]
theorem b7l{G:PV->Prop}(E:Yv)(b:BoxT)(fs:List Fact)(l:Lin)(h:(Go.Pl.preT (fun(x:Lin×Unit)=>Ym x.1) [(.agg [(.int .i64 l.k),(.sl 2 false (List.map enc l.t))])])=true∧(∃ y0:Bool,AV.pv (Zg (fun(x:Lin×Unit)=>Zw x.1) [(.agg [(.int .i64 l.k),(.sl 2 false (List.map enc l.t))])])=AV.pv (enc y0)∧((Kl [(.pv (.agg [(.int .i64 l.k),(.sl 2 false (List.map enc l.t))]))] [])=true∧((VZ [(.pv (.agg [(.sl 1 false (List.map enc b.v)),(.int .i64 b.m)])),(.pv (.sl 3 false (List.map enc fs))),(.pv (.bool y0)),(.row 0 (List.length (Zn (Fs (PV.agg [enc l.k,enc l.t])))) 0 (List.length (Zn (Fs (PV.agg [enc l.k,enc l.t])))))] [(.row false 9 1 (List.map enc (Zn (Fs (PV.agg [enc l.k,enc l.t])))))])=true∧(if (Zp (Ld (PV.agg [enc b.v,enc b.m])) (Ci (enc fs)) y0 (QQ (List.map enc (Zn (Fs (PV.agg [enc l.k,enc l.t]))))) != 0)=true then G ((.tup [(.int .i64 0),(.int .i64 (Zp (Ld (PV.agg [enc b.v,enc b.m])) (Ci (enc fs)) y0 (QQ (List.map enc (Zn (Fs (PV.agg [enc l.k,enc l.t])))))))]))else((YX [(.pv (.agg [(.sl 1 false (List.map enc b.v)),(.int .i64 b.m)])),(.pv (.sl 3 false (List.map enc fs)))] [])=true∧(E 0 ⟨ZO 49 0 [(6,(.ptr 0 0)),(8,(.ptr 1 0)),(9,(.ptr 2 0)),(11,(.ptr 3 0)),(12,(.ptr 4 0)),(13,(.ptr 5 0)),(15,.undef),(16,.undef),(17,.undef),(31,(.fn 177 [] [(.ptr 6 0),(.ptr 7 0)])),(33,.undef),(34,.undef),(35,.undef),(36,.undef),(37,.undef),(38,.undef),(39,.undef),(40,.undef),(41,.undef),(42,.undef),(43,.undef),(44,.undef)],[(.obj (.box [(.pv (.int .i64 l.k)),(.pv (.sl 2 false (List.map enc l.t)))])),(.obj (.box [(.pv (.int .i64 0))])),(.obj (.box [(.pv (.int .i64 0))])),(.obj (.box [(.pv (.int .i64 0))])),(.obj (.box [(.pv (.bool false))])),(.obj (.box [(.fn 194 [] [(.ptr 4 0),(.ptr 8 0),(.ptr 3 0)])])),(.obj (.box [(.pv (.sl 1 false (List.map enc b.v))),(.pv (.int .i64 b.m))])),(.obj (.box [(.pv (.sl 3 false (List.map enc fs)))])),(.obj (.box [(.pv (.fn 128))]))]⟩ (fun x S'=>KF VD E 0 (Za Qg G) Qa 0 x S')))))))):Zz VD E 0 (Za Qg G) (.inl Qa) [] (Yx 49 [enc b,enc fs,enc l,.fn 128]):=Zz.mp (.req (.abs (Bool) (fun YY=>AV.pv (enc YY)) (.req (.keep (.req (.keep (.lit (.ask (.nil) (.req (.keep (.nil))))))))))) h (by kernel_rfl)
theorem b2n{G:PV->Prop}(E:Yv)(b:BoxT)(fs:List Fact)(l:Lin)(z:Int)(s:Bool)(h:if (!s)=true then G ((.tup [(.int .i64 0),(.int .i64 9)]))else(G ((.tup [(.int .i64 z),(.int .i64 0)])))):KF VD E 0 (Za Qg G) Qa 0 .normal ⟨ZO 49 0 [(6,.ptr 0 0),(8,.ptr 1 0),(9,.ptr 2 0),(11,.ptr 3 0),(12,.ptr 4 0),(13,.ptr 5 0)],[.obj (.box [.pv (.int .i64 l.k),.pv (enc l.t)]),.obj (.box [.pv (.int .i64 0)]),.obj (.box [.pv (.int .i64 0)]),.obj (.box [.pv (.int .i64 z)]),.obj (.box [.pv (.bool s)]),.obj (.box [.fn 194 [] [.ptr 4 0,.ptr 6 0,.ptr 3 0]]),.obj (.box [.pv (.fn 128)])]⟩:=Zz.mp (.ask (.nil) (.nil)) h (by kernel_rfl)
def Rt:IC:=(.seq (.reg [⟨(some 3),(.box 2 (.t 0)),0,none⟩,⟨(some 5),(.box 2 (.t 2)),1,none⟩,⟨(some 6),(.mv (.c (.int .i64 0))),2,none⟩,⟨(some 7),(.mv (.c (.int .i64 0))),2,none⟩] none) (.seq (.reg [⟨(some 8),(.load true [(.sl 1),(.int .i64)] (.t 3)),0,none⟩,⟨(some 9),(.mv (.t 1)),0,none⟩,⟨(some 10),(.load true [(.int .i64),(.sl 2)] (.t 5)),0,none⟩,⟨(some 11),(.call (.c (.fn 127)) [(.t 8),(.t 9),(.t 10),(.c (.fn 128))]),0,none⟩,⟨(some 12),(.extract (.t 11) 0),2,none⟩,⟨(some 13),(.extract (.t 11) 1),2,none⟩,⟨(some 6),(.mv (.t 12)),2,none⟩,⟨(some 7),(.mv (.t 13)),2,none⟩] none) .ret))
def Rl:List IRes:=[(.tmp 6),(.tmp 7)]
abbrev b3k:Nat:=14
def Om:ZE:=Xi [(127,.pure (preT (fun x:BoxT×List Fact×Lin×FnV 128×Unit=>Ud x.1 x.2.1 x.2.2.1)) (Zg (fun x:BoxT×List Fact×Lin×FnV 128×Unit=>Uv Yl x.1 x.2.1 x.2.2.1)))]
theorem c0h{G:PV->Prop}(b:BoxT)(fs:List Fact)(l:Lin)(h:(Go.Pl.preT (fun(x:BoxT×List Fact×Lin×FnV 128×Unit)=>Ud x.1 x.2.1 x.2.2.1) [(.agg [(.sl 1 false (List.map enc b.v)),(.int .i64 b.m)]),(.sl 3 false (List.map enc fs)),(.agg [(.int .i64 l.k),(.sl 2 false (List.map enc l.t))]),(.fn 128)])=true∧(∃ y0:Int×Int,AV.pv (Zg (fun(x:BoxT×List Fact×Lin×FnV 128×Unit)=>Uv Yl x.1 x.2.1 x.2.2.1) [(.agg [(.sl 1 false (List.map enc b.v)),(.int .i64 b.m)]),(.sl 3 false (List.map enc fs)),(.agg [(.int .i64 l.k),(.sl 2 false (List.map enc l.t))]),(.fn 128)])=AV.pv (enc y0)∧(G ((.tup [(.int .i64 y0.1),(.int .i64 y0.2)]))))):Zc Om 0 (Za Rl G) Rt [] (Yx 14 [enc b,enc fs,enc l]):=Zc.tp (.req (.abs (Int×Int) (fun YY=>AV.pv (enc YY)) (.nil))) h (by kernel_rfl)
def Ue:IC:=(.block 1 (.seq (.reg [⟨(some 35),(.load true [(.int .i64),(.sl 2)] (.t 6)),0,none⟩,⟨(some 36),(.mv (.t 15)),0,none⟩,⟨(some 37),(.call (.c (.fn 38)) [(.t 35),(.t 36)]),0,none⟩,⟨(some 34),(.mv (.t 37)),2,none⟩,⟨(some 38),(.extract (.t 34) 0),2,none⟩,⟨(some 39),(.extract (.t 34) 1),2,none⟩,⟨(some 16),(.mv (.t 38)),2,none⟩,⟨(some 17),(.mv (.t 39)),2,none⟩] none) (.seq (.seq (.reg [⟨(some 40),(.mv (.t 17)),0,none⟩,⟨(some 41),(.bin .num .neq (.t 40) (.c (.int .i64 0))),0,none⟩] none) (.cond (.t 41) (.seq (.reg [⟨(some 42),(.mv (.t 17)),0,none⟩,⟨none,(.store 1 (.t 8) (.c (.int .i64 0))),0,none⟩,⟨none,(.store 1 (.t 9) (.t 42)),0,none⟩] none) .ret) .skip)) (.reg [⟨(some 43),(.load false [.any] (.t 13)),0,none⟩,⟨(some 44),(.mv (.t 16)),0,none⟩,⟨(some 45),(.call (.t 43) [(.t 44)]),0,none⟩] none))))
def EK:ZE:=Xi [(73,.pure (preT (fun x:Lin×Unit=>Ym x.1)) (Zg (fun x:Lin×Unit=>Zw x.1))),(174,.own Km Dt),(116,.pure (preT (fun x:BoxT×List Fact×Bool×NilS×Unit=>ZW x.1&&Zm x.2.1&&decide (x.2.1.length<=100))) (Zg (fun x:BoxT×List Fact×Bool×NilS×Unit=>Zp x.1 x.2.1 x.2.2.1 []))),(117,.own YX Wn),(38,.pure (preT (fun x:Lin×List Coef×Unit=>Ym x.1&&decide (x.2.1.length<=9223372036854775807))) (Zg (fun x:Lin×List Coef×Unit=>Yk x.1 x.2.1))),(194,.own (Qz 128) (Kn Yl))]
theorem b0a{G:Zr->Prop}(E:Yv)(l:Lin)(p:List Int)(vs:List Coef)(z:Int)(s:Bool)(h:(Go.Pl.preT (fun(x:Lin×List Coef×Unit)=>Ym x.1&&decide (List.length x.2.1<=9223372036854775807)) [(.agg [(.int .i64 l.k),(.sl 2 false (List.map enc l.t))]),(.sl 2 false (List.map enc vs))])=true∧(∃ y0:Int×Int,AV.pv (Zg (fun(x:Lin×List Coef×Unit)=>Yk x.1 x.2.1) [(.agg [(.int .i64 l.k),(.sl 2 false (List.map enc l.t))]),(.sl 2 false (List.map enc vs))])=AV.pv (enc y0)∧(if (y0.2 != 0)=true then G ([(.obj (.box [(.pv (.int .i64 l.k)),(.pv (.sl 2 false (List.map enc l.t)))])),(.obj (.box [(.pv (.int .i64 0))])),(.obj (.box [(.pv (.int .i64 y0.2))])),(.obj (.box [(.pv (.int .i64 z))])),(.obj (.box [(.pv (.bool s))])),(.obj (.box [(.fn 194 [] [(.ptr 4 0),(.ptr 6 0),(.ptr 3 0)])])),(.obj (.box [(.pv (.fn 128))])),.fresh,.fresh])else(E 99 ⟨ZO 49 0 [],[(.obj (.box [(.pv (.int .i64 l.k)),(.pv (.sl 2 false (List.map enc l.t)))])),(.obj (.box [(.pv (.int .i64 0))])),(.obj (.box [(.pv (.int .i64 0))])),(.obj (.box [(.pv (.int .i64 (if (!s||Yl y0.1 z)=true then y0.1 else z)))])),(.obj (.box [(.pv (.bool true))])),(.obj (.box [(.fn 194 [] [(.ptr 4 0),(.ptr 6 0),(.ptr 3 0)])])),(.obj (.box [(.pv (.fn 128))]))]⟩ (fun x S'=>KF EK E 7 (fun st=>G st.heap) Ue 99 x S'))))):Zz EK E 7 (fun st=>G st.heap) (.inl Ue) [.seq (.ext 99 [])] ⟨ZO 49 0 [(6,.ptr 0 0),(8,.ptr 1 0),(9,.ptr 2 0),(11,.ptr 3 0),(12,.ptr 4 0),(13,.ptr 5 0),(15,.pv (enc vs)),(32,.pv (enc p)),(33,.pv (enc vs))],[.obj (.box [.pv (.int .i64 l.k),.pv (enc l.t)]),.obj (.box [.pv (.int .i64 0)]),.obj (.box [.pv (.int .i64 0)]),.obj (.box [.pv (.int .i64 z)]),.obj (.box [.pv (.bool s)]),.obj (.box [.fn 194 [] [.ptr 4 0,.ptr 6 0,.ptr 3 0]]),.obj (.box [.pv (.fn 128)])]⟩:=Zz.mh (.req (.abs (Int×Int) (fun YY=>AV.pv (enc YY)) (.lit (.ask (.nil) (.lit (.keep (.nil))))))) h (by kernel_rfl)
def U9:IC:=Ue
def OJ:ZE:=Xi [(73,.pure (preT (fun x:Lin×Unit=>Ym x.1)) (Zg (fun x:Lin×Unit=>Zw x.1))),(174,.own Kl J3),(116,.own VZ Qp),(117,.own YX Wn),(38,.pure (preT (fun x:Lin×List Coef×Unit=>Ym x.1&&decide (x.2.1.length<=9223372036854775807))) (Zg (fun x:Lin×List Coef×Unit=>Yk x.1 x.2.1))),(194,.own (Qz 128) (Kn Yl))]
theorem b2x{G:Zr->Prop}(E:Yv)(l:Lin)(p:List Int)(vs:List Coef)(z:Int)(s:Bool)(h:(Go.Pl.preT (fun(x:Lin×List Coef×Unit)=>Ym x.1&&decide (List.length x.2.1<=9223372036854775807)) [(.agg [(.int .i64 l.k),(.sl 2 false (List.map enc l.t))]),(.sl 2 false (List.map enc vs))])=true∧(∃ y0:Int×Int,AV.pv (Zg (fun(x:Lin×List Coef×Unit)=>Yk x.1 x.2.1) [(.agg [(.int .i64 l.k),(.sl 2 false (List.map enc l.t))]),(.sl 2 false (List.map enc vs))])=AV.pv (enc y0)∧(if (y0.2 != 0)=true then G ([(.obj (.box [(.pv (.int .i64 l.k)),(.pv (.sl 2 false (List.map enc l.t)))])),(.obj (.box [(.pv (.int .i64 0))])),(.obj (.box [(.pv (.int .i64 y0.2))])),(.obj (.box [(.pv (.int .i64 z))])),(.obj (.box [(.pv (.bool s))])),(.obj (.box [(.fn 194 [] [(.ptr 4 0),(.ptr 6 0),(.ptr 3 0)])])),(.obj (.box [(.pv (.fn 128))])),.fresh,.fresh])else(E 99 ⟨ZO 49 0 [],[(.obj (.box [(.pv (.int .i64 l.k)),(.pv (.sl 2 false (List.map enc l.t)))])),(.obj (.box [(.pv (.int .i64 0))])),(.obj (.box [(.pv (.int .i64 0))])),(.obj (.box [(.pv (.int .i64 (if (!s||Yl y0.1 z)=true then y0.1 else z)))])),(.obj (.box [(.pv (.bool true))])),(.obj (.box [(.fn 194 [] [(.ptr 4 0),(.ptr 6 0),(.ptr 3 0)])])),(.obj (.box [(.pv (.fn 128))]))]⟩ (fun x S'=>KF OJ E 7 (fun st=>G st.heap) U9 99 x S'))))):Zz OJ E 7 (fun st=>G st.heap) (.inl U9) [.seq (.ext 99 [])] ⟨ZO 49 0 [(6,.ptr 0 0),(8,.ptr 1 0),(9,.ptr 2 0),(11,.ptr 3 0),(12,.ptr 4 0),(13,.ptr 5 0),(15,.pv (enc vs)),(32,.pv (enc p)),(33,.pv (enc vs))],[.obj (.box [.pv (.int .i64 l.k),.pv (enc l.t)]),.obj (.box [.pv (.int .i64 0)]),.obj (.box [.pv (.int .i64 0)]),.obj (.box [.pv (.int .i64 z)]),.obj (.box [.pv (.bool s)]),.obj (.box [.fn 194 [] [.ptr 4 0,.ptr 6 0,.ptr 3 0]]),.obj (.box [.pv (.fn 128)])]⟩:=Zz.mh (.req (.abs (Int×Int) (fun YY=>AV.pv (enc YY)) (.lit (.ask (.nil) (.lit (.keep (.nil))))))) h (by kernel_rfl)
end Go.Pl

namespace Go.Pl
open Go.RowKit
open Enc (enc dec is)
open EncL (encL decL isL)
theorem SS{s:Str}: ∀ {vs:List Str} {p:List Int},s∈vs->p.length=vs.length-> ∃ x∈p,Uz (Zj vs p) s=some x
 | [],_,h,_=>by cases h
 | v::vs,[],_,h=>by simp at h
 | v::vs,x::p,h,hl=>by
  by_cases e:v=s
  ·refine⟨x,by simp,?_⟩
   show((List.find? (fun t:Coef=>decide (t.v=s)) (⟨v,x⟩::Zj vs p)).map (·.c))=some x
   rw[List.find?_cons_of_pos (by simpa using e)];rfl
  ·obtain⟨y,hy,h2⟩:=SS (s:=s) (vs:=vs) (p:=p) ((List.mem_cons.1 h).resolve_left fun h=>e h.symm) (by simpa using hl)
   refine⟨y,by simp[hy],?_⟩
   show((List.find? (fun t:Coef=>decide (t.v=s)) (⟨v,x⟩::Zj vs p)).map (·.c))=some y
   rw[List.find?_cons_of_neg (by simpa using e)]
   exact h2
theorem BN{vs:List Str}{p:List Int}(hl:p.length=vs.length)(hx : ∀ x∈p,-1000000000<=x∧x<=1000000000): ∀ (ts:List Coef) (n:Int),(∀ t∈ts,t.v∈vs)->(QX (Zj vs p) n ts).2=0
 | [],n,_=>rfl
 | t::r,n,h=>by
  obtain⟨x,h1,h2⟩:=SS (h t (by simp)) hl
  have:=hx x h1
  rw[QX,h2]
  show(if x < -1000000000 then((0:Int),(2:Int))else if x>1000000000 then(0,2)else _).2=0
  rw[if_neg (by omega),if_neg (by omega)]
  exact BN hl hx r _ fun u hu=>h u (by simp[hu])
theorem b6f{b:BoxT}{fs:List Fact}{p:List Int}(hv:Xh b=true)(h:p∈Yb b fs):p.length=b.v.length∧(∀ x∈p,0<=x∧x<=b.m)∧ ∀ x∈p,-1<=x∧x<=20000:=by
 unfold Yb at h
 rw[WG hv]at h
 have h:=(List.mem_filter.1 h).1
 obtain⟨h1,h2⟩:=Q4.1 h
 have:0<=b.m:=(VM.1 hv).2.2.2.1
 exact⟨h1,fun x hx=>by have:=h2 x hx;omega,b6z hv p h⟩
theorem NM{b:BoxT}{fs:List Fact}{l:Lin}{p:List Int}(hr:Zp b fs (Zw l) (Zn l)=0)(h:p∈Yb b fs):(Yk l (Zj b.v p)).2=0:=by
 obtain⟨hv,_,hl,hin⟩:=VI _ _ _ _ hr
 obtain⟨h1,_,h3⟩:=b6f hv h
 rw[a1e,Bool.and_eq_true]at hin
 unfold Yk
 rw[if_pos hl]
 refine BN h1 (fun x hx=>by have:=h3 x hx;omega) _ _ fun t ht=> ?_
 have:=List.all_eq_true.1 hin.1 t.v (by unfold Zn;exact List.mem_map.2 ⟨t,ht,rfl⟩)
 simpa using this
theorem a2t(f:Int->Int->Bool)(l:List Int)(x:Int):Gp f (l++[x])=some (match Gp f l with|none=>x|some z=>if f x z then x else z):=by
 cases l with
 | nil=>rfl
 | cons y l=>simp[Gp,List.foldl_append]
def WZ(f:Int->Int->Bool)(l:List Int):Int×Bool:=match Gp f l with|none=>(0,false)|some z=>(z,true)
theorem AL(f:Int->Int->Bool)(l:List Int)(x:Int):WZ f (l++[x])=(if !(WZ f l).2||f x (WZ f l).1 then x else(WZ f l).1,true):=by
 unfold WZ
 rw[a2t]
 cases Gp f l <;> rfl
theorem c0v(l:Lin):Fs (PV.agg [enc l.k,enc l.t])=l:=Enc.dec_enc l
theorem Ef(b:BoxT):Ld (PV.agg [enc b.v,enc b.m])=b:=Enc.dec_enc b
theorem MI(fs:List Fact):Ci (enc fs)=fs:=Enc.dec_enc fs
def Nt(l:Lin)(z:Int)(s:Bool):Zr:=[.obj (.box [.pv (.int .i64 l.k),.pv (enc l.t)]),.obj (.box [.pv (.int .i64 0)]),.obj (.box [.pv (.int .i64 0)]),.obj (.box [.pv (.int .i64 z)]),.obj (.box [.pv (.bool s)]),.obj (.box [.fn 194 [] [.ptr 4 0,.ptr 6 0,.ptr 3 0]]),.obj (.box [.pv (.fn 128)])]
theorem a4m: ∀ args os,Qz 128 args os=true->Zc LF os.length (Zh os.length Ry fun r=>r=Kn Yl args os) RD [] (YH b7e args os):=by
 intro args os h
 unfold Qz at h
 split at h
 ·rename_i n s g z
  have h:g=128:=by simpa using h
  subst h
  refine c0c n s z (Vq (fun h=> ?_) fun h=>Zi (n,z,()) rfl (Xe (fun h2=> ?_) fun h2=> ?_))
  ·subst h;rfl
  ·subst h
   have h2:Yl n z=true:=h2
   show _=(AV.tup [],[AObj.box [.pv (.bool true)],.box [.pv (.fn 128)],.box [.pv (.int .i64 (if !true||Yl n z then n else z))]],[])
   rw[h2];rfl
  ·subst h
   have h2:Yl n z=false:=h2
   show _=(AV.tup [],[AObj.box [.pv (.bool true)],.box [.pv (.fn 128)],.box [.pv (.int .i64 (if !true||Yl n z then n else z))]],[])
   rw[h2];rfl
 ·cases h
def Jb:Yv:=fun n st q=>n=0∧Ga Vy 0 (.t 31) 177 [32,33] [(15,33)] Ue QF UB Gw st q
theorem N7(b:BoxT)(fs:List Fact)(l:Lin)(hl:Ym l=true)(hb:b.v.length<=1000)(hr:Zp b fs (Zw l) (Zn l)=0)(k:Nat)(p:List Int)(hp:(Yb b fs)[k]? = some p):
  Zz Vy (fun n S' _=>n=99∧S'.heap=Nt l (WZ Yl ((YA b fs l).take (k+1))).1 (WZ Yl ((YA b fs l).take (k+1))).2) 7 (fun st=>False) (.inl Ue) [.seq (.ext 99 [])]
   ⟨ZO 49 0 [(6,.ptr 0 0),(8,.ptr 1 0),(9,.ptr 2 0),(11,.ptr 3 0),(12,.ptr 4 0),(13,.ptr 5 0),(15,.pv (enc (Zj b.v p))),(32,.pv (enc p)),(33,.pv (enc (Zj b.v p)))],Nt l (WZ Yl ((YA b fs l).take k)).1 (WZ Yl ((YA b fs l).take k)).2⟩:=by
 have hk:=(List.getElem?_eq_some_iff.1 hp).1
 have hkp:=(List.getElem?_eq_some_iff.1 hp).2
 have hm:p∈Yb b fs:=List.mem_of_getElem? hp
 have hkv:k<(YA b fs l).length:=by unfold YA;rw[List.length_map];exact hk
 have hgv:(YA b fs l)[k]=(Yk l (Zj b.v p)).1:=by
  have:(YA b fs l)[k]? = some (Yk l (Zj b.v p)).1:=by unfold YA;rw[List.getElem?_map,hp];rfl
  exact(List.getElem?_eq_some_iff.1 this).2
 have ht:(YA b fs l).take (k+1)=(YA b fs l).take k++[(Yk l (Zj b.v p)).1]:=by rw[List.take_succ_eq_append_getElem hkv,hgv]
 rw[ht,AL]
 refine b0a (G:=fun _=>False) _ l p (Zj b.v p) _ _ ⟨Zl (l,Zj b.v p,()) rfl ?_,Zi (l,Zj b.v p,()) rfl ?_⟩
 ·show(Ym l&&decide ((Zj b.v p).length<=9223372036854775807))=true
  rw[hl,decide_eq_true (by unfold Zj;rw[List.length_zipWith];omega)];rfl
 ·refine ZV (by rw[NM hr hm];simp) ⟨rfl,rfl⟩
theorem a3f: ∀ x:BoxT×List Fact×Lin×FnV 128×Unit,(Ud x.1 x.2.1 x.2.2.1&&x.2.2.1.t.isEmpty)=true->QB Vy Jb 0 (Za UV (Zf (Uv Yl x.1 x.2.1 x.2.2.1))) Ui [] (Yx a7g (encL x)):=by
 rintro⟨b,fs,l,⟨⟩,⟨⟩⟩ hp
 simp only[Ud,Bool.and_eq_true,decide_eq_true_eq]at hp
 obtain⟨⟨⟨⟨⟨⟨h1,h2⟩,h3⟩,h4⟩,h5⟩,h6⟩,h7⟩:=hp
 have key:Zp b fs (Zw l) (Zn l)=0->Jb 0 ⟨ZO 49 0 [(6,(.ptr 0 0)),(8,(.ptr 1 0)),(9,(.ptr 2 0)),(11,(.ptr 3 0)),(12,(.ptr 4 0)),(13,(.ptr 5 0)),(15,.undef),(16,.undef),(17,.undef),(31,(.fn 177 [] [(.ptr 6 0),(.ptr 7 0)])),(33,.undef),(34,.undef),(35,.undef),(36,.undef),(37,.undef),(38,.undef),(39,.undef),(40,.undef),(41,.undef),(42,.undef),(43,.undef),(44,.undef)],[(.obj (.box [(.pv (.int .i64 (Lin.k l))),(.pv (.sl 2 false (List.map enc (Lin.t l))))])),(.obj (.box [(.pv (.int .i64 0))])),(.obj (.box [(.pv (.int .i64 0))])),(.obj (.box [(.pv (.int .i64 0))])),(.obj (.box [(.pv (.bool false))])),(.obj (.box [(.fn 194 [] [(.ptr 4 0),(.ptr 8 0),(.ptr 3 0)])])),(.obj (.box [(.pv (.sl 1 false (List.map enc (BoxT.v b)))),(.pv (.int .i64 (BoxT.m b)))])),(.obj (.box [(.pv (.sl 3 false (List.map enc fs)))])),(.obj (.box [(.pv (.fn 128))]))]⟩ (fun x S'=>KF Vy Jb 0 (Za UV (Zf (Uv Yl b fs l))) Ui 0 x S'):=by
  intro h0
  obtain⟨hv,_⟩:=VI _ _ _ _ h0
  refine⟨rfl,[6,7],[[enc b.v,.int .i64 b.m],[enc fs]],[6,8,9,11,12,13],[],⟨ZO 49 0 [(6,.ptr 0 0),(8,.ptr 1 0),(9,.ptr 2 0),(11,.ptr 3 0),(12,.ptr 4 0),(13,.ptr 5 0)],Nt l 0 false⟩,(fun k σ=>σ=Nt l (WZ Yl ((YA b fs l).take k)).1 (WZ Yl ((YA b fs l).take k)).2),fun _=>False,rfl,by simp,rfl,?_,by kernel_rfl,Ce hv h2 h4,rfl,?_,?_,fun σ h=>h.elim⟩
  ·intro j l' ps hl hps
   match j with
   | 0=>cases hl;cases hps;rfl
   | 1=>cases hl;cases hps;rfl
   | j+2=>simp at hl
  ·intro k x σ hx hI
   rw[Al,List.getElem?_map]at hx
   obtain⟨p,hp,rfl⟩:=Option.map_eq_some_iff.1 hx
   subst hI
   have e:BZ [(15,33)] (GX [32,33] ((QF (p,Zj b.v p)).map .pv) (ZO 49 0 [(6,.ptr 0 0),(8,.ptr 1 0),(9,.ptr 2 0),(11,.ptr 3 0),(12,.ptr 4 0),(13,.ptr 5 0)]))=ZO 49 0 [(6,.ptr 0 0),(8,.ptr 1 0),(9,.ptr 2 0),(11,.ptr 3 0),(12,.ptr 4 0),(13,.ptr 5 0),(15,.pv (enc (Zj b.v p))),(32,.pv (enc p)),(33,.pv (enc (Zj b.v p)))]:=by kernel_rfl
   have:=N7 b fs l h5 h4 h0 k p hp
   rw[<- e]at this
   exact this
  ·intro σ hI
   rw[Al,List.length_map]at hI
   subst hI
   have hall:(YA b fs l).take (Yb b fs).length=YA b fs l:=List.take_of_length_le (by unfold YA;rw[List.length_map];exact Nat.le_refl _)
   rw[hall]
   refine b0o (G:=Zf (Uv Yl b fs l)) Jb b fs l _ _ ?_
   unfold Uv WZ
   rw[if_pos h0]
   cases Gp Yl (YA b fs l)with
   | none=>exact ZQ rfl (ZU (x:=((0:Int),(9:Int))) rfl)
   | some z=>exact ZV (by simp) (ZU (x:=((z:Int),(0:Int))) rfl)
 have hbad:Zp b fs (Zw l) (Zn l)≠0->Zf (Uv Yl b fs l) (.tup [.int .i64 0,.int .i64 (Zp b fs (Zw l) (Zn l))]):=by
  intro h0
  unfold Uv
  rw[if_neg h0]
  exact ZU (x:=((0:Int),Zp b fs (Zw l) (Zn l))) rfl
 have ht:l.t=[]:=List.isEmpty_iff.1 h7
 have hn:Zn l=[]:=by unfold Zn;rw[ht];rfl
 refine b3y Jb b fs l ⟨Zl (l,()) rfl h5,Zi (l,()) rfl ⟨?_,Zl (b,fs,Zw l,⟨⟩,()) rfl (by simp[h1,h2,h3]),Zi (b,fs,Zw l,⟨⟩,()) rfl ?_⟩⟩
 ·show(Vf Lin (enc l)&&(dec (enc l:PV):Lin).t.isEmpty)=true
  rw[Z5,Enc.dec_enc,ht];rfl
 ·show if (Zp b fs (Zw l) [] != 0)=true then _ else _
  rw[hn]at key hbad
  by_cases h0:Zp b fs (Zw l) []=0
  ·rw[if_neg (by simp[h0])]
   refine⟨?_,key h0⟩
   show(Vf (List Str) (enc b.v)&&Vf (List Fact) (enc fs))=true
   rw[Z5,Z5];rfl
  ·rw[if_pos (by simpa using h0)]
   exact hbad h0
def K7:Yv:=fun n st q=>n=0∧Ga VD 0 (.t 31) 177 [32,33] [(15,33)] U9 QF UB Gw st q
theorem Pv(b:BoxT)(fs:List Fact)(l:Lin)(hl:Ym l=true)(hb:b.v.length<=1000)(hr:Zp b fs (Zw l) (Zn l)=0)(k:Nat)(p:List Int)(hp:(Yb b fs)[k]? = some p):
  Zz VD (fun n S' _=>n=99∧S'.heap=Nt l (WZ Yl ((YA b fs l).take (k+1))).1 (WZ Yl ((YA b fs l).take (k+1))).2) 7 (fun st=>False) (.inl U9) [.seq (.ext 99 [])]
   ⟨ZO 49 0 [(6,.ptr 0 0),(8,.ptr 1 0),(9,.ptr 2 0),(11,.ptr 3 0),(12,.ptr 4 0),(13,.ptr 5 0),(15,.pv (enc (Zj b.v p))),(32,.pv (enc p)),(33,.pv (enc (Zj b.v p)))],Nt l (WZ Yl ((YA b fs l).take k)).1 (WZ Yl ((YA b fs l).take k)).2⟩:=by
 have hk:=(List.getElem?_eq_some_iff.1 hp).1
 have hkp:=(List.getElem?_eq_some_iff.1 hp).2
 have hm:p∈Yb b fs:=List.mem_of_getElem? hp
 have hkv:k<(YA b fs l).length:=by unfold YA;rw[List.length_map];exact hk
 have hgv:(YA b fs l)[k]=(Yk l (Zj b.v p)).1:=by
  have:(YA b fs l)[k]? = some (Yk l (Zj b.v p)).1:=by unfold YA;rw[List.getElem?_map,hp];rfl
  exact(List.getElem?_eq_some_iff.1 this).2
 have ht:(YA b fs l).take (k+1)=(YA b fs l).take k++[(Yk l (Zj b.v p)).1]:=by rw[List.take_succ_eq_append_getElem hkv,hgv]
 rw[ht,AL]
 refine b2x (G:=fun _=>False) _ l p (Zj b.v p) _ _ ⟨Zl (l,Zj b.v p,()) rfl ?_,Zi (l,Zj b.v p,()) rfl ?_⟩
 ·show(Ym l&&decide ((Zj b.v p).length<=9223372036854775807))=true
  rw[hl,decide_eq_true (by unfold Zj;rw[List.length_zipWith];omega)];rfl
 ·refine ZV (by rw[NM hr hm];simp) ⟨rfl,rfl⟩
theorem a1u: ∀ x:BoxT×List Fact×Lin×FnV 128×Unit,(Ud x.1 x.2.1 x.2.2.1&& !x.2.2.1.t.isEmpty)=true->QB VD K7 0 (Za Qg (Zf (Uv Yl x.1 x.2.1 x.2.2.1))) Qa [] (Yx a9u (encL x)):=by
 rintro⟨b,fs,l,⟨⟩,⟨⟩⟩ hp
 simp only[Ud,Bool.and_eq_true,decide_eq_true_eq]at hp
 obtain⟨⟨⟨⟨⟨⟨h1,h2⟩,h3⟩,h4⟩,h5⟩,h6⟩,h7⟩:=hp
 have key:Zp b fs (Zw l) (Zn l)=0->K7 0 ⟨ZO 49 0 [(6,(.ptr 0 0)),(8,(.ptr 1 0)),(9,(.ptr 2 0)),(11,(.ptr 3 0)),(12,(.ptr 4 0)),(13,(.ptr 5 0)),(15,.undef),(16,.undef),(17,.undef),(31,(.fn 177 [] [(.ptr 6 0),(.ptr 7 0)])),(33,.undef),(34,.undef),(35,.undef),(36,.undef),(37,.undef),(38,.undef),(39,.undef),(40,.undef),(41,.undef),(42,.undef),(43,.undef),(44,.undef)],[(.obj (.box [(.pv (.int .i64 (Lin.k l))),(.pv (.sl 2 false (List.map enc (Lin.t l))))])),(.obj (.box [(.pv (.int .i64 0))])),(.obj (.box [(.pv (.int .i64 0))])),(.obj (.box [(.pv (.int .i64 0))])),(.obj (.box [(.pv (.bool false))])),(.obj (.box [(.fn 194 [] [(.ptr 4 0),(.ptr 8 0),(.ptr 3 0)])])),(.obj (.box [(.pv (.sl 1 false (List.map enc (BoxT.v b)))),(.pv (.int .i64 (BoxT.m b)))])),(.obj (.box [(.pv (.sl 3 false (List.map enc fs)))])),(.obj (.box [(.pv (.fn 128))]))]⟩ (fun x S'=>KF VD K7 0 (Za Qg (Zf (Uv Yl b fs l))) Qa 0 x S'):=by
  intro h0
  obtain⟨hv,_⟩:=VI _ _ _ _ h0
  refine⟨rfl,[6,7],[[enc b.v,.int .i64 b.m],[enc fs]],[6,8,9,11,12,13],[],⟨ZO 49 0 [(6,.ptr 0 0),(8,.ptr 1 0),(9,.ptr 2 0),(11,.ptr 3 0),(12,.ptr 4 0),(13,.ptr 5 0)],Nt l 0 false⟩,(fun k σ=>σ=Nt l (WZ Yl ((YA b fs l).take k)).1 (WZ Yl ((YA b fs l).take k)).2),fun _=>False,rfl,by simp,rfl,?_,by kernel_rfl,Ce hv h2 h4,rfl,?_,?_,fun σ h=>h.elim⟩
  ·intro j l' ps hl hps
   match j with
   | 0=>cases hl;cases hps;rfl
   | 1=>cases hl;cases hps;rfl
   | j+2=>simp at hl
  ·intro k x σ hx hI
   rw[Al,List.getElem?_map]at hx
   obtain⟨p,hp,rfl⟩:=Option.map_eq_some_iff.1 hx
   subst hI
   have e:BZ [(15,33)] (GX [32,33] ((QF (p,Zj b.v p)).map .pv) (ZO 49 0 [(6,.ptr 0 0),(8,.ptr 1 0),(9,.ptr 2 0),(11,.ptr 3 0),(12,.ptr 4 0),(13,.ptr 5 0)]))=ZO 49 0 [(6,.ptr 0 0),(8,.ptr 1 0),(9,.ptr 2 0),(11,.ptr 3 0),(12,.ptr 4 0),(13,.ptr 5 0),(15,.pv (enc (Zj b.v p))),(32,.pv (enc p)),(33,.pv (enc (Zj b.v p)))]:=by kernel_rfl
   have:=Pv b fs l h5 h4 h0 k p hp
   rw[<- e]at this
   exact this
  ·intro σ hI
   rw[Al,List.length_map]at hI
   subst hI
   have hall:(YA b fs l).take (Yb b fs).length=YA b fs l:=List.take_of_length_le (by unfold YA;rw[List.length_map];exact Nat.le_refl _)
   rw[hall]
   refine b2n (G:=Zf (Uv Yl b fs l)) K7 b fs l _ _ ?_
   unfold Uv WZ
   rw[if_pos h0]
   cases Gp Yl (YA b fs l)with
   | none=>exact ZQ rfl (ZU (x:=((0:Int),(9:Int))) rfl)
   | some z=>exact ZV (by simp) (ZU (x:=((z:Int),(0:Int))) rfl)
 have hbad:Zp b fs (Zw l) (Zn l)≠0->Zf (Uv Yl b fs l) (.tup [.int .i64 0,.int .i64 (Zp b fs (Zw l) (Zn l))]):=by
  intro h0
  unfold Uv
  rw[if_neg h0]
  exact ZU (x:=((0:Int),Zp b fs (Zw l) (Zn l))) rfl
 have hne:l.t≠[]:=by intro h;rw[h]at h7;simp at h7
 refine b7l K7 b fs l ⟨Zl (l,()) rfl h5,Zi (l,()) rfl ⟨?_,?_⟩⟩
 ·show(Vf Lin (enc l)&& !(dec (enc l:PV):Lin).t.isEmpty&&decide ((dec (enc l:PV):Lin).t.length<=1000000))=true
  rw[Z5,Enc.dec_enc,decide_eq_true (by omega)]
  simpa using hne
 ·rw[c0v,Ef,MI,Um]
  have hnl:(Zn l).length=l.t.length:=by unfold Zn;rw[List.length_map]
  refine⟨?_,?_⟩
  ·show(Vf BoxT (enc b)&&Vf (List Fact) (enc fs)&&9==9&&Ad (Zn l).length (Zn l).length ((Zn l).map enc)&&decide ((Zn l).length<=1000)&& !((Zn l).map (enc:Str->PV)).isEmpty&&ZW (dec (enc b:PV))&&Zm (dec (enc fs:PV))&&decide ((dec (enc fs:PV):List Fact).length<=100)&&decide (((Zn l).map (enc:Str->PV)).length<=1000))=true
   rw[List.length_map,Z5,Z5,Enc.dec_enc,Enc.dec_enc,Df rfl (by omega),h1,h2,decide_eq_true h3,decide_eq_true (show(Zn l).length<=1000 by omega)]
   have:((Zn l).map (enc:Str->PV)).isEmpty=false:=by
    rw[List.isEmpty_eq_false_iff]
    intro h
    have:=congrArg List.length h
    rw[List.length_map,hnl]at this
    exact hne (List.length_eq_zero_iff.1 this)
   rw[this];simp
  ·show if (Zp b fs (Zw l) (Zn l) != 0)=true then _ else _
   by_cases h0:Zp b fs (Zw l) (Zn l)=0
   ·rw[if_neg (by simp[h0])]
    refine⟨?_,key h0⟩
    show(Vf (List Str) (enc b.v)&&Vf (List Fact) (enc fs))=true
    rw[Z5,Z5];rfl
   ·rw[if_pos (by simpa using h0)]
    exact hbad h0
theorem a9x: ∀ x:BoxT×List Fact×Lin×Unit,Ud x.1 x.2.1 x.2.2.1=true->Zc Om 0 (Za Rl (Zf (Uv Yl x.1 x.2.1 x.2.2.1))) Rt [] (Yx b3k (encL x)):=by
 rintro⟨b,fs,l,⟨⟩⟩ hp
 exact c0h b fs l ⟨Zl (b,fs,l,⟨()⟩,()) rfl hp,Zi (b,fs,l,⟨()⟩,()) rfl (ZU (x:=Uv Yl b fs l) rfl)⟩
theorem b3o: ∀ x:Int×Int×Unit,(fun _:Int×Int×Unit=>true) x=true->Zc b0c 0 (Za Fu (Zf (decide (x.1<x.2.1)))) Lj [] (Yx c0z (encL x)):=by
 rintro⟨m,n,⟨⟩⟩ _
 exact c3z m n (ZJ rfl)
end Go.Pl

namespace Go.Pl
open Go.RowKit
open Enc (enc dec is)
open EncL (encL decL isL)
set_option maxRecDepth 100000
def Rw:IC:=(.seq (.reg [⟨(some 2),(.mv (.c (.bool false))),0,none⟩] none) (.seq (.reg [⟨(some 3),(.mv (.t 0)),0,none⟩,⟨(some 4),(.call (.c (.fn 119)) [(.t 3)]),0,none⟩,⟨(some 5),(.un .not (.t 4)),2,none⟩,⟨(some 2),(.mv (.t 5)),2,none⟩] none) .ret))
def R5:List IRes:=[(.tmp 2)]
abbrev b5t:Nat:=6
def MV:ZE:=Xi [(119,.pure (preT (fun x:Str×Unit=>decide (x.1.s.length<=281474976710656))) (Zg (fun x:Str×Unit=>ZA x.1)))]
theorem b9b{G:PV->Prop}(s:List UInt8)(h:(Go.Pl.preT (fun(x:Str×Unit)=>decide (List.length (Str.s x.1)<=281474976710656)) [(.str s)])=true∧(∃ y0:Bool,AV.pv (Zg (fun(x:Str×Unit)=>ZA x.1) [(.str s)])=AV.pv (enc y0)∧(G ((.bool !y0))))):Zc MV 0 (Za R5 G) Rw [] (Yx 6 [.str s]):=Zc.tp (.req (.abs (Bool) (fun YY=>AV.pv (enc YY)) (.nil))) h (by kernel_rfl)
def Jt:IC:=Uj
def KX:List IRes:=[(.tmp 4)]
abbrev c0y:Nat:=19
def Cn:ZE:=Xi [(185,.pure (preT (fun x:Str×Unit=>decide (x.1.s.length<=281474976710656))) (Zg (fun x:Str×Unit=> !(ZA x.1))))]
theorem c4n{G:PV->Prop}(l:List Str)(h:At Cn 0 (Za KX G) Jt 0 19 [(0,(.pv (.sl 1 false (List.map enc l)))),(1,(.pv (.fn 185))),(7,(.pv (.int .i64 (↑(List.length (List.map enc l)):Int)))),(8,(.pv (.int .i64 0)))] []):Zc Cn 0 (Za KX G) Jt [] (Yx 19 [enc l,.fn 185]):=Zc.tp (.nil) h (by kernel_rfl)
theorem a6o{G:PV->Prop}(l:List Str)(i:Int)(h:if (decide (i<(↑(List.length l):Int)))=true then(decide (0<=i)&&decide (Int.toNat i<List.length (List.map enc l))&&Enc.sz Str==1)=true∧(∃ y0:Str,AV.pv (PV.rptr (PV.cells (List.getD (List.map enc l) (Int.toNat i) default)))=AV.pv (PV.rptr (PV.cells ((enc) y0)))∧((Go.Pl.preT (fun(x:Str×Unit)=>decide (List.length (Str.s x.1)<=281474976710656)) [(.str (PV.asStr (List.getD (PV.cells (enc y0)) 0 default)))])=true∧(∃ y1:Bool,AV.pv (Zg (fun(x:Str×Unit)=> !ZA x.1) [(.str (PV.asStr (List.getD (PV.cells (enc y0)) 0 default)))])=AV.pv (enc y1)∧(if (y1)=true then G ((.int .i64 i))else(At Cn 0 (Za KX G) Jt 0 19 [(0,(.pv (.sl 1 false (List.map enc l)))),(1,(.pv (.fn 185))),(7,(.pv (.int .i64 (↑(List.length l):Int)))),(8,(.pv (.int .i64 (IntKind.wrap IntKind.i64 (i+1)))))] [])))))else(G ((.int .i64 (-1))))):At Cn 0 (Za KX G) Jt 0 19 [(0,.pv (enc l)),(1,.pv (.fn 185)),(7,.pv (.int .i64 l.length)),(8,.pv (.int .i64 i))] []:=At.tp (.lit (.ask (.req (.abs (Str) (fun YY=>AV.pv (PV.rptr (PV.cells ((enc) YY)))) (.lit (.req (.abs (Bool) (fun YY=>AV.pv (enc YY)) (.ask (.nil) (.lit (.nil)))))))) (.nil))) h (by kernel_rfl)
def Fx:IC:=BP
def Lr:List IRes:=[(.tmp 4)]
abbrev b9w:Nat:=9
def a5a:ZE:=Xi [(238,.pure (preT (fun x:List Str×FnV 185×Unit=>Wj x.1)) (Zg (fun x:List Str×FnV 185×Unit=>Zx (fun s:Str=> !(ZA s)) x.1)))]
theorem c4c{G:PV->Prop}(l:List Str)(h:(Go.Pl.preT (fun(x:List Str×FnV 185×Unit)=>Wj x.1) [(.sl 1 false (List.map enc l)),(.fn 185)])=true∧(∃ y0:Int,AV.pv (Zg (fun(x:List Str×FnV 185×Unit)=>Zx (fun(s:Str)=> !ZA s) x.1) [(.sl 1 false (List.map enc l)),(.fn 185)])=AV.pv (enc y0)∧(G ((.bool (decide (y0 ≥ 0))))))):Zc a5a 0 (Za Lr G) Fx [] (Yx 9 [enc l,.fn 185]):=Zc.tp (.req (.abs (Int) (fun YY=>AV.pv (enc YY)) (.lit (.nil)))) h (by kernel_rfl)
def TF:IC:=(.seq (.reg [⟨(some 2),(.mv (.c (.bool false))),0,none⟩] none) (.seq (.reg [⟨(some 3),(.mv (.t 0)),0,none⟩,⟨(some 4),(.mv (.t 0)),0,none⟩,⟨(some 5),(.bin .num .neq (.t 3) (.t 4)),0,none⟩,⟨(some 2),(.mv (.t 5)),0,none⟩] none) .ret))
def RY:List IRes:=[(.tmp 2)]
abbrev b5e:Nat:=6
def Ot:ZE:=Xi []
theorem c0e{G:PV->Prop}(s:List UInt8)(h:G ((.bool (!s==s)))):Zc Ot 0 (Za RY G) TF [] (Yx 6 [.str s]):=Zc.tp (.lit (.nil)) h (by kernel_rfl)
def Bg:IC:=(.seq (.reg [⟨(some 4),(.mv (.c (.bool false))),0,none⟩] none) (.seq (.reg [⟨(some 5),(.mv (.t 0)),0,none⟩,⟨(some 6),(.call (.c (.fn 283)) [(.t 5)]),0,none⟩,⟨(some 7),(.mv (.t 6)),2,none⟩,⟨(some 8),(.mv (.t 1)),2,(some (7,true))⟩,⟨(some 9),(.call (.c (.fn 283)) [(.t 8)]),2,(some (7,true))⟩,⟨(some 10),(.un .not (.t 9)),4,(some (7,true))⟩,⟨(some 11),(.pick (.t 7) (.t 10) (.c (.bool false))),4,none⟩,⟨(some 12),(.mv (.t 11)),4,none⟩,⟨(some 13),(.mv (.t 0)),4,(some (12,false))⟩,⟨(some 14),(.mv (.t 1)),4,(some (12,false))⟩,⟨(some 15),(.bin .num .lss (.t 13) (.t 14)),4,(some (12,false))⟩,⟨(some 16),(.pick (.t 12) (.c (.bool true)) (.t 15)),4,none⟩,⟨(some 4),(.mv (.t 16)),4,none⟩] none) .ret))
def Bc:List IRes:=[(.tmp 4)]
abbrev a7k:Nat:=17
def T9:ZE:=Xi [(283,.pure (preT (fun _:Str×Unit=>true)) (Zg (fun _:Str×Unit=>false)))]
theorem b5j{G:PV->Prop}(s t:List UInt8)(h : ∃ y0:Bool,AV.pv (Zg (fun(x:Str×Unit)=>false) [(.str s)])=AV.pv (enc y0)∧(if (y0)=true then ∃ y1:Bool,AV.pv (Zg (fun(x:Str×Unit)=>false) [(.str t)])=AV.pv (enc y1)∧(if (!y1)=true then G ((.bool true))else(G ((.bool (Op.bytesLess s t)))))else(G ((.bool (Op.bytesLess s t)))))):Zc T9 0 (Za Bc G) Bg [] (Yx 17 [.str s,.str t]):=Zc.tp (.lit (.abs (Bool) (fun YY=>AV.pv (enc YY)) (.ask (.lit (.lit (.abs (Bool) (fun YY=>AV.pv (enc YY)) (.lit (.lit (.ask (.lit (.lit (.lit (.nil)))) (.lit (.lit (.lit (.lit (.nil))))))))))) (.lit (.lit (.lit (.lit (.lit (.lit (.lit (.lit (.nil)))))))))))) h (by kernel_rfl)
def Pj:IC:=(.seq (.reg [⟨(some 4),(.mv (.c (.int .i64 0))),0,none⟩] none) (.seq (.reg [⟨(some 7),(.mv (.t 0)),0,none⟩,⟨(some 8),(.call (.c (.fn 283)) [(.t 7)]),0,none⟩,⟨(some 5),(.mv (.t 8)),2,none⟩] none) (.seq (.reg [⟨(some 9),(.mv (.t 1)),0,none⟩,⟨(some 10),(.call (.c (.fn 283)) [(.t 9)]),0,none⟩,⟨(some 6),(.mv (.t 10)),2,none⟩] none) (.seq (.seq (.reg [⟨(some 11),(.mv (.t 5)),0,none⟩] none) (.cond (.t 11) (.seq (.seq (.reg [⟨(some 12),(.mv (.t 6)),0,none⟩] none) (.cond (.t 12) (.seq (.reg [⟨(some 4),(.mv (.c (.int .i64 0))),0,none⟩] none) .ret) .skip)) (.seq (.reg [⟨(some 4),(.mv (.c (.int .i64 (-1)))),0,none⟩] none) .ret)) .skip)) (.seq (.seq (.reg [⟨(some 13),(.mv (.t 6)),0,none⟩] none) (.cond (.t 13) (.seq (.reg [⟨(some 4),(.mv (.c (.int .i64 1))),0,none⟩] none) .ret) .skip)) (.seq (.seq (.reg [⟨(some 14),(.mv (.t 0)),0,none⟩,⟨(some 15),(.mv (.t 1)),0,none⟩,⟨(some 16),(.bin .num .lss (.t 14) (.t 15)),0,none⟩] none) (.cond (.t 16) (.seq (.reg [⟨(some 4),(.mv (.c (.int .i64 (-1)))),0,none⟩] none) .ret) .skip)) (.seq (.seq (.reg [⟨(some 17),(.mv (.t 0)),0,none⟩,⟨(some 18),(.mv (.t 1)),0,none⟩,⟨(some 19),(.bin .num .gtr (.t 17) (.t 18)),0,none⟩] none) (.cond (.t 19) (.seq (.reg [⟨(some 4),(.mv (.c (.int .i64 1))),0,none⟩] none) .ret) .skip)) (.seq (.reg [⟨(some 4),(.mv (.c (.int .i64 0))),0,none⟩] none) .ret))))))))
def Tx:List IRes:=[(.tmp 4)]
abbrev b4z:Nat:=20
def Ou:ZE:=Xi [(283,.pure (preT (fun _:Str×Unit=>true)) (Zg (fun _:Str×Unit=>false)))]
theorem b9c{G:PV->Prop}(s t:List UInt8)(h : ∃ y0:Bool,AV.pv (Zg (fun(x:Str×Unit)=>false) [(.str s)])=AV.pv (enc y0)∧(∃ y1:Bool,AV.pv (Zg (fun(x:Str×Unit)=>false) [(.str t)])=AV.pv (enc y1)∧(if (y0)=true then if (y1)=true then G ((.int .i64 0))else(G ((.int .i64 (-1))))else(if (y1)=true then G ((.int .i64 1))else(if (Op.bytesLess s t)=true then G ((.int .i64 (-1)))else(if (!(Op.bytesLess s t||s==t))=true then G ((.int .i64 1))else(G ((.int .i64 0))))))))):Zc Ou 0 (Za Tx G) Pj [] (Yx 20 [.str s,.str t]):=Zc.tp (.lit (.abs (Bool) (fun YY=>AV.pv (enc YY)) (.lit (.abs (Bool) (fun YY=>AV.pv (enc YY)) (.ask (.ask (.nil) (.nil)) (.ask (.nil) (.lit (.ask (.nil) (.lit (.ask (.nil) (.nil))))))))))) h (by kernel_rfl)
def Wv:IC:=(.seq (.reg [⟨(some 2),(.mv (.c (.bool false))),0,none⟩] none) (.seq (.seq (.reg [⟨(some 4),(.mv (.t 0)),0,none⟩,⟨(some 5),(.len 1 (.t 4)),0,none⟩,⟨(some 6),(.bin .num .sub (.t 5) (.c (.int .i64 1))),0,none⟩,⟨(some 3),(.mv (.t 6)),0,none⟩] none) (.block 0 (.loop [3,0] (.seq (.seq (.reg [⟨(some 7),(.mv (.t 3)),0,none⟩,⟨(some 8),(.bin .num .gtr (.t 7) (.c (.int .i64 0))),0,none⟩] none) (.cond (.t 8) .skip (.exit 0))) (.seq (.block 1 (.seq (.reg [⟨(some 11),(.mv (.t 0)),0,none⟩,⟨(some 12),(.mv (.t 3)),0,none⟩,⟨(some 13),(.iaddr 1 (.t 11) (.t 12)),0,none⟩,⟨(some 14),(.load false [.str] (.t 13)),0,none⟩,⟨(some 15),(.mv (.t 0)),0,none⟩,⟨(some 16),(.mv (.t 3)),0,none⟩,⟨(some 17),(.bin .num .sub (.t 16) (.c (.int .i64 1))),0,none⟩,⟨(some 18),(.iaddr 1 (.t 15) (.t 17)),0,none⟩,⟨(some 19),(.load false [.str] (.t 18)),0,none⟩,⟨(some 20),(.call (.c (.fn 244)) [(.t 14),(.t 19)]),0,none⟩] (some [[],[],[0,1],[2,0,1],[],[],[5],[4,6,5],[7,4,6,5],[3,8,2,0,1,7,4,6,5]])) (.cond (.t 20) (.seq (.reg [⟨(some 2),(.mv (.c (.bool false))),0,none⟩] none) .ret) .skip))) (.reg [⟨(some 9),(.mv (.t 3)),0,none⟩,⟨(some 10),(.bin .num .sub (.t 9) (.c (.int .i64 1))),0,none⟩,⟨(some 3),(.mv (.t 10)),0,none⟩] none)))))) (.seq (.reg [⟨(some 2),(.mv (.c (.bool true))),0,none⟩] none) .ret)))
def Wu:List IRes:=[(.tmp 2)]
abbrev Oh:Nat:=21
def Vo:ZE:=Xi [(244,.pure (preT (fun _:Str×Str×Unit=>true)) (Zg (fun x:Str×Str×Unit=>decide (x.1.s<x.2.1.s))))]
theorem ET{G:PV->Prop}(l:List Str)(h:At Vo 0 (Za Wu G) Wv 0 21 [(0,(.pv (.sl 1 false (List.map enc l)))),(3,(.pv (.int .i64 (IntKind.wrap IntKind.i64 ((↑(List.length (List.map enc l)):Int) - 1)))))] []):Zc Vo 0 (Za Wu G) Wv [] (Yx 21 [enc l]):=Zc.tp (.lit (.nil)) h (by kernel_rfl)
theorem Jj{G:PV->Prop}(l:List Str)(i:Int)(h:if (decide (i>0))=true then(decide (0<=i)&&decide (Int.toNat i<List.length (List.map enc l))&&Enc.sz Str==1)=true∧(∃ y0:Str,AV.pv (PV.rptr (PV.cells (List.getD (List.map enc l) (Int.toNat i) default)))=AV.pv (PV.rptr (PV.cells ((enc) y0)))∧((decide (0<=IntKind.wrap IntKind.i64 (i - 1))&&decide (Int.toNat (IntKind.wrap IntKind.i64 (i - 1))<List.length (List.map enc l))&&Enc.sz Str==1)=true∧(∃ y1:Str,AV.pv (PV.rptr (PV.cells (List.getD (List.map enc l) (Int.toNat (IntKind.wrap IntKind.i64 (i - 1))) default)))=AV.pv (PV.rptr (PV.cells ((enc) y1)))∧(∃ y2:Bool,AV.pv (Zg (fun(x:Str×Str×Unit)=>decide (Str.s x.1<Str.s x.2.1)) [(.str (PV.asStr (List.getD (PV.cells (enc y0)) 0 default))),(.str (PV.asStr (List.getD (PV.cells (enc y1)) 0 default)))])=AV.pv (enc y2)∧(if (y2)=true then G ((.bool false))else(At Vo 0 (Za Wu G) Wv 0 21 [(0,(.pv (.sl 1 false (List.map enc l)))),(3,(.pv (.int .i64 (IntKind.wrap IntKind.i64 (i - 1)))))] []))))))else(G ((.bool true)))):At Vo 0 (Za Wu G) Wv 0 21 [(0,.pv (enc l)),(3,.pv (.int .i64 i))] []:=At.tp (.lit (.ask (.req (.abs (Str) (fun YY=>AV.pv (PV.rptr (PV.cells ((enc) YY)))) (.lit (.lit (.req (.abs (Str) (fun YY=>AV.pv (PV.rptr (PV.cells ((enc) YY)))) (.lit (.lit (.abs (Bool) (fun YY=>AV.pv (enc YY)) (.ask (.nil) (.lit (.nil)))))))))))) (.nil))) h (by kernel_rfl)
def Vk:IC:=(.seq (.reg [⟨(some 4),(.mv (.c (.int .i64 0))),0,none⟩] none) (.seq (.seq (.reg [⟨(some 9),(.mv (.t 0)),0,none⟩,⟨(some 10),(.len 1 (.t 9)),0,none⟩,⟨(some 11),(.mv (.c (.int .i64 0))),0,none⟩] none) (.block 0 (.loop [11,10,9,1,0] (.seq (.reg [⟨(some 12),(.bin .num .lss (.t 11) (.t 10)),0,none⟩] none) (.seq (.cond (.t 12) .skip (.exit 0)) (.seq (.block 1 (.seq (.reg [⟨(some 13),(.mv (.t 11)),0,none⟩,⟨(some 14),(.iaddr 1 (.t 9) (.t 11)),0,none⟩,⟨(some 15),(.load false [.str] (.t 14)),0,none⟩,⟨(some 5),(.mv (.t 13)),0,none⟩,⟨(some 6),(.mv (.t 15)),0,none⟩] none) (.seq (.seq (.reg [⟨(some 16),(.mv (.t 5)),0,none⟩,⟨(some 17),(.mv (.t 1)),0,none⟩,⟨(some 18),(.len 1 (.t 17)),0,none⟩,⟨(some 19),(.bin .num .geq (.t 16) (.t 18)),0,none⟩] none) (.cond (.t 19) (.seq (.reg [⟨(some 4),(.mv (.c (.int .i64 1))),0,none⟩] none) .ret) .skip)) (.seq (.reg [⟨(some 20),(.mv (.t 1)),0,none⟩,⟨(some 21),(.mv (.t 5)),0,none⟩,⟨(some 22),(.iaddr 1 (.t 20) (.t 21)),0,none⟩,⟨(some 23),(.load false [.str] (.t 22)),0,none⟩,⟨(some 7),(.mv (.t 23)),0,none⟩] none) (.seq (.reg [⟨(some 24),(.mv (.t 6)),0,none⟩,⟨(some 25),(.mv (.t 7)),0,none⟩,⟨(some 26),(.call (.c (.fn 245)) [(.t 24),(.t 25)]),0,none⟩,⟨(some 8),(.mv (.t 26)),2,none⟩] none) (.seq (.reg [⟨(some 27),(.mv (.t 8)),0,none⟩,⟨(some 28),(.bin .num .neq (.t 27) (.c (.int .i64 0))),0,none⟩] none) (.cond (.t 28) (.seq (.reg [⟨(some 29),(.mv (.t 8)),0,none⟩,⟨(some 4),(.mv (.t 29)),0,none⟩] none) .ret) .skip))))))) (.reg [⟨(some 30),(.bin .num .add (.t 11) (.c (.int .i64 1))),0,none⟩,⟨(some 11),(.mv (.t 30)),0,none⟩] none))))))) (.seq (.seq (.reg [⟨(some 31),(.mv (.t 0)),0,none⟩,⟨(some 32),(.len 1 (.t 31)),0,none⟩,⟨(some 33),(.mv (.t 1)),0,none⟩,⟨(some 34),(.len 1 (.t 33)),0,none⟩,⟨(some 35),(.bin .num .lss (.t 32) (.t 34)),0,none⟩] none) (.cond (.t 35) (.seq (.reg [⟨(some 4),(.mv (.c (.int .i64 (-1)))),0,none⟩] none) .ret) .skip)) (.seq (.reg [⟨(some 4),(.mv (.c (.int .i64 0))),0,none⟩] none) .ret))))
def Vr:List IRes:=[(.tmp 4)]
abbrev a3l:Nat:=36
def Uo:ZE:=Xi [(245,.pure (preT (fun _:Str×Str×Unit=>true)) (Zg (fun x:Str×Str×Unit=>BX x.1 x.2.1)))]
theorem a9g{G:PV->Prop}(a b:List Str)(h:At Uo 0 (Za Vr G) Vk 0 36 [(0,(.pv (.sl 1 false (List.map enc a)))),(1,(.pv (.sl 1 false (List.map enc b)))),(9,(.pv (.sl 1 false (List.map enc a)))),(10,(.pv (.int .i64 (↑(List.length (List.map enc a)):Int)))),(11,(.pv (.int .i64 0)))] []):Zc Uo 0 (Za Vr G) Vk [] (Yx 36 [enc a,enc b]):=Zc.tp (.nil) h (by kernel_rfl)
theorem Sq{G:PV->Prop}(a b:List Str)(i:Int)(h:if (decide (i<(↑(List.length a):Int)))=true then(decide (0<=i)&&decide (Int.toNat i<List.length (List.map enc a))&&Enc.sz Str==1)=true∧(∃ y0:Str,AV.pv (PV.rptr (PV.cells (List.getD (List.map enc a) (Int.toNat i) default)))=AV.pv (PV.rptr (PV.cells ((enc) y0)))∧(if (decide (i ≥ (↑(List.length (List.map enc b)):Int)))=true then G ((.int .i64 1))else((decide (0<=i)&&decide (Int.toNat i<List.length (List.map enc b))&&Enc.sz Str==1)=true∧(∃ y1:Str,AV.pv (PV.rptr (PV.cells (List.getD (List.map enc b) (Int.toNat i) default)))=AV.pv (PV.rptr (PV.cells ((enc) y1)))∧(∃ y2:Int,AV.pv (Zg (fun(x:Str×Str×Unit)=>BX x.1 x.2.1) [(.str (PV.asStr (List.getD (PV.cells (enc y0)) 0 default))),(.str (PV.asStr (List.getD (PV.cells (enc y1)) 0 default)))])=AV.pv (enc y2)∧(if (y2 != 0)=true then G ((.int .i64 y2))else(At Uo 0 (Za Vr G) Vk 0 36 [(0,(.pv (.sl 1 false (List.map enc a)))),(1,(.pv (.sl 1 false (List.map enc b)))),(9,(.pv (.sl 1 false (List.map enc a)))),(10,(.pv (.int .i64 (↑(List.length a):Int)))),(11,(.pv (.int .i64 (IntKind.wrap IntKind.i64 (i+1)))))] [])))))))else(if (decide ((↑(List.length (List.map enc a)):Int)<(↑(List.length (List.map enc b)):Int)))=true then G ((.int .i64 (-1)))else(G ((.int .i64 0))))):At Uo 0 (Za Vr G) Vk 0 36 [(0,.pv (enc a)),(1,.pv (enc b)),(9,.pv (enc a)),(10,.pv (.int .i64 a.length)),(11,.pv (.int .i64 i))] []:=At.tp (.lit (.ask (.req (.abs (Str) (fun YY=>AV.pv (PV.rptr (PV.cells ((enc) YY)))) (.lit (.lit (.ask (.nil) (.req (.abs (Str) (fun YY=>AV.pv (PV.rptr (PV.cells ((enc) YY)))) (.lit (.lit (.abs (Int) (fun YY=>AV.pv (enc YY)) (.lit (.ask (.nil) (.lit (.nil)))))))))))))) (.lit (.ask (.nil) (.nil))))) h (by kernel_rfl)
def WF:IC:=(.seq (.reg [⟨(some 2),(.mv (.c (.bool false))),0,none⟩] none) (.seq (.seq (.reg [⟨(some 5),(.mv (.t 0)),0,none⟩,⟨(some 6),(.len 1 (.t 5)),0,none⟩,⟨(some 7),(.mv (.c (.int .i64 0))),0,none⟩] none) (.block 0 (.loop [7,6,5,0] (.seq (.reg [⟨(some 8),(.bin .num .lss (.t 7) (.t 6)),0,none⟩] none) (.seq (.cond (.t 8) .skip (.exit 0)) (.seq (.block 1 (.seq (.reg [⟨(some 9),(.mv (.t 7)),0,none⟩,⟨(some 10),(.iaddr 2 (.t 5) (.t 7)),0,none⟩,⟨(some 11),(.load true [(.int .i64),(.sl 1)] (.t 10)),0,none⟩,⟨(some 4),(.alloc (.agg [(.int .i64 0),(.sl 0 true [])])),0,none⟩,⟨(some 3),(.mv (.t 9)),1,none⟩,⟨none,(.store 2 (.t 4) (.t 11)),1,none⟩] none) (.seq (.seq (.reg [⟨(some 12),(.faddr 0 (.t 4)),0,none⟩,⟨(some 13),(.load false [(.int .i64)] (.t 12)),0,none⟩,⟨(some 14),(.bin .num .eql (.t 13) (.c (.int .i64 0))),0,none⟩,⟨(some 15),(.mv (.t 14)),0,none⟩,⟨(some 16),(.faddr 0 (.t 4)),0,(some (15,false))⟩,⟨(some 17),(.load false [(.int .i64)] (.t 16)),0,(some (15,false))⟩,⟨(some 18),(.bin .num .lss (.t 17) (.c (.int .i64 (-1099511627776)))),0,(some (15,false))⟩,⟨(some 19),(.pick (.t 15) (.c (.bool true)) (.t 18)),0,none⟩,⟨(some 20),(.mv (.t 19)),0,none⟩,⟨(some 21),(.faddr 0 (.t 4)),0,(some (20,false))⟩,⟨(some 22),(.load false [(.int .i64)] (.t 21)),0,(some (20,false))⟩,⟨(some 23),(.bin .num .gtr (.t 22) (.c (.int .i64 1099511627776))),0,(some (20,false))⟩,⟨(some 24),(.pick (.t 20) (.c (.bool true)) (.t 23)),0,none⟩,⟨(some 25),(.mv (.t 24)),0,none⟩,⟨(some 26),(.faddr 1 (.t 4)),0,(some (25,false))⟩,⟨(some 27),(.load false [(.sl 1)] (.t 26)),0,(some (25,false))⟩,⟨(some 28),(.len 1 (.t 27)),0,(some (25,false))⟩,⟨(some 29),(.bin .num .gtr (.t 28) (.c (.int .i64 8))),0,(some (25,false))⟩,⟨(some 30),(.pick (.t 25) (.c (.bool true)) (.t 29)),0,none⟩,⟨(some 31),(.mv (.t 30)),0,none⟩,⟨(some 32),(.faddr 1 (.t 4)),0,(some (31,false))⟩,⟨(some 33),(.load false [(.sl 1)] (.t 32)),0,(some (31,false))⟩,⟨(some 34),(.call (.c (.fn 184)) [(.t 33)]),0,(some (31,false))⟩,⟨(some 35),(.un .not (.t 34)),2,(some (31,false))⟩,⟨(some 36),(.pick (.t 31) (.c (.bool true)) (.t 35)),2,none⟩] none) (.cond (.t 36) (.seq (.reg [⟨(some 2),(.mv (.c (.bool false))),0,none⟩] none) .ret) .skip)) (.seq (.seq (.reg [⟨(some 37),(.faddr 1 (.t 4)),0,none⟩,⟨(some 38),(.load false [(.sl 1)] (.t 37)),0,none⟩,⟨(some 39),(.call (.c (.fn 175)) [(.t 38),(.c (.fn 185))]),0,none⟩] none) (.cond (.t 39) (.seq (.reg [⟨(some 2),(.mv (.c (.bool false))),0,none⟩] none) .ret) .skip)) (.seq (.reg [⟨(some 40),(.mv (.t 3)),0,none⟩,⟨(some 41),(.bin .num .gtr (.t 40) (.c (.int .i64 0))),0,none⟩,⟨(some 42),(.mv (.t 41)),0,none⟩,⟨(some 43),(.mv (.t 0)),0,(some (42,true))⟩,⟨(some 44),(.mv (.t 3)),0,(some (42,true))⟩,⟨(some 45),(.bin .num .sub (.t 44) (.c (.int .i64 1))),0,(some (42,true))⟩,⟨(some 46),(.iaddr 2 (.t 43) (.t 45)),0,(some (42,true))⟩,⟨(some 47),(.faddr 1 (.t 46)),0,(some (42,true))⟩,⟨(some 48),(.load false [(.sl 1)] (.t 47)),0,(some (42,true))⟩,⟨(some 49),(.faddr 1 (.t 4)),0,(some (42,true))⟩,⟨(some 50),(.load false [(.sl 1)] (.t 49)),0,(some (42,true))⟩,⟨(some 51),(.call (.c (.fn 186)) [(.t 48),(.t 50)]),0,(some (42,true))⟩,⟨(some 52),(.bin .num .geq (.t 51) (.c (.int .i64 0))),2,(some (42,true))⟩,⟨(some 53),(.pick (.t 42) (.t 52) (.c (.bool false))),2,none⟩] (some [[],[0],[1,0],[2,1,0],[2,1,0],[4,2,1,0],[3,5,2,1,0,4],[6,2,3,5,1,0,4],[7,2,6,3,5,1,0,4],[2,1,0],[9,2,1,0],[8,10,2,7,6,3,5,1,0,4,9],[11,2,8,10,7,6,3,5,1,0,4,9],[2,12,1,0,11,8,10,7,6,3,5,4,9]])) (.cond (.t 53) (.seq (.reg [⟨(some 2),(.mv (.c (.bool false))),0,none⟩] none) .ret) .skip)))))) (.reg [⟨(some 54),(.bin .num .add (.t 7) (.c (.int .i64 1))),0,none⟩,⟨(some 7),(.mv (.t 54)),0,none⟩] none))))))) (.seq (.reg [⟨(some 55),(.mv (.t 0)),0,none⟩,⟨(some 56),(.len 1 (.t 55)),0,none⟩,⟨(some 57),(.bin .num .leq (.t 56) (.c (.int .i64 60))),0,none⟩,⟨(some 2),(.mv (.t 57)),0,none⟩] none) .ret)))
def XR:List IRes:=[(.tmp 2)]
abbrev a3n:Nat:=58
def WU:ZE:=Xi [(184,.pure (preT (fun x:List Str×Unit=>Zt x.1)) (Zg (fun x:List Str×Unit=>JU x.1))),(175,.pure (preT (fun x:List Str×FnV 185×Unit=>Wj x.1)) (Zg (fun x:List Str×FnV 185×Unit=>x.1.any fun s:Str=> !(ZA s)))),(186,.pure (preT (fun x:List Str×List Str×Unit=>Zt x.1&&Zt x.2.1)) (Zg (fun x:List Str×List Str×Unit=>Gi x.1 x.2.1)))]
theorem a9p{G:PV->Prop}(p:List Mono)(h:At WU 0 (Za XR G) WF 0 58 [(0,(.pv (.sl 2 false (List.map enc p)))),(5,(.pv (.sl 2 false (List.map enc p)))),(6,(.pv (.int .i64 (↑(List.length (List.map enc p)):Int)))),(7,(.pv (.int .i64 0)))] []):Zc WU 0 (Za XR G) WF [] (Yx 58 [enc p]):=Zc.tp (.nil) h (by kernel_rfl)
theorem Sj{G:PV->Prop}(p:List Mono)(i:Int)(h:if (decide (i<(↑(List.length p):Int)))=true then(decide (0<=i)&&decide (Int.toNat i<List.length (List.map enc p))&&Enc.sz Mono==2)=true∧(∃ y0:Mono,AV.pv (PV.rptr (PV.cells (List.getD (List.map enc p) (Int.toNat i) default)))=AV.pv (PV.rptr (PV.cells ((enc) y0)))∧(if (PV.asInt (List.getD (PV.cells (enc y0)) 0 default)==0)=true then G ((.bool false))else(if (decide (PV.asInt (List.getD (PV.cells (enc y0)) 0 default)<(-1099511627776:Int)))=true then G ((.bool false))else(if (decide (PV.asInt (List.getD (PV.cells (enc y0)) 0 default)>1099511627776))=true then G ((.bool false))else(if (decide ((↑(List.length (PV.asXs (List.getD (PV.cells (enc y0)) (0+1) default))):Int)>8))=true then G ((.bool false))else((Go.Pl.preT (fun(x:List Str×Unit)=>Zt x.1) [(.sl 1 false (PV.asXs (List.getD (PV.cells (enc y0)) (0+1) default)))])=true∧(∃ y1:Bool,AV.pv (Zg (fun(x:List Str×Unit)=>JU x.1) [(.sl 1 false (PV.asXs (List.getD (PV.cells (enc y0)) (0+1) default)))])=AV.pv (enc y1)∧(if (!y1)=true then G ((.bool false))else((Go.Pl.preT (fun(x:List Str×FnV 185×Unit)=>Wj x.1) [(.sl 1 false (PV.asXs (List.getD (PV.cells (enc y0)) (0+1) default))),(.fn 185)])=true∧(∃ y2:Bool,AV.pv (Zg (fun(x:List Str×FnV 185×Unit)=>List.any x.1 fun(s:Str)=> !ZA s) [(.sl 1 false (PV.asXs (List.getD (PV.cells (enc y0)) (0+1) default))),(.fn 185)])=AV.pv (enc y2)∧(if (y2)=true then G ((.bool false))else(if (decide (i>0))=true then(decide (0<=IntKind.wrap IntKind.i64 (i - 1))&&decide (Int.toNat (IntKind.wrap IntKind.i64 (i - 1))<List.length (List.map enc p))&&Enc.sz Mono==2)=true∧(∃ y3:Mono,AV.pv (PV.rptr (PV.cells (List.getD (List.map enc p) (Int.toNat (IntKind.wrap IntKind.i64 (i - 1))) default)))=AV.pv (PV.rptr (PV.cells ((enc) y3)))∧((Go.Pl.preT (fun(x:List Str×List Str×Unit)=>Zt x.1&&Zt x.2.1) [(.sl 1 false (PV.asXs (List.getD (List.drop 1 (PV.cells (enc y3))) 0 default))),(.sl 1 false (PV.asXs (List.getD (PV.cells (enc y0)) (0+1) default)))])=true∧(∃ y4:Int,AV.pv (Zg (fun(x:List Str×List Str×Unit)=>Gi x.1 x.2.1) [(.sl 1 false (PV.asXs (List.getD (List.drop 1 (PV.cells (enc y3))) 0 default))),(.sl 1 false (PV.asXs (List.getD (PV.cells (enc y0)) (0+1) default)))])=AV.pv (enc y4)∧(if (decide (y4 ≥ 0))=true then G ((.bool false))else(At WU 0 (Za XR G) WF 0 58 [(0,(.pv (.sl 2 false (List.map enc p)))),(5,(.pv (.sl 2 false (List.map enc p)))),(6,(.pv (.int .i64 (↑(List.length p):Int)))),(7,(.pv (.int .i64 (IntKind.wrap IntKind.i64 (i+1)))))] [])))))else(At WU 0 (Za XR G) WF 0 58 [(0,(.pv (.sl 2 false (List.map enc p)))),(5,(.pv (.sl 2 false (List.map enc p)))),(6,(.pv (.int .i64 (↑(List.length p):Int)))),(7,(.pv (.int .i64 (IntKind.wrap IntKind.i64 (i+1)))))] [])))))))))))))else(G ((.bool (decide ((↑(List.length (List.map enc p)):Int)<=60)))))):At WU 0 (Za XR G) WF 0 58 [(0,.pv (enc p)),(5,.pv (enc p)),(6,.pv (.int .i64 p.length)),(7,.pv (.int .i64 i))] []:=At.tp (.lit (.ask (.req (.abs (Mono) (fun YY=>AV.pv (PV.rptr (PV.cells ((enc) YY)))) (.lit (.lit (.ask (.lit (.lit (.lit (.lit (.lit (.lit (.lit (.lit (.lit (.lit (.lit (.lit (.lit (.lit (.lit (.lit (.lit (.lit (.nil))))))))))))))))))) (.lit (.lit (.lit (.lit (.ask (.lit (.lit (.lit (.lit (.lit (.lit (.lit (.lit (.lit (.lit (.lit (.lit (.lit (.lit (.nil))))))))))))))) (.lit (.lit (.lit (.lit (.ask (.lit (.lit (.lit (.lit (.lit (.lit (.lit (.lit (.lit (.lit (.nil))))))))))) (.lit (.lit (.lit (.lit (.lit (.ask (.lit (.lit (.lit (.lit (.lit (.nil)))))) (.lit (.lit (.req (.abs (Bool) (fun YY=>AV.pv (enc YY)) (.lit (.lit (.ask (.nil) (.req (.abs (Bool) (fun YY=>AV.pv (enc YY)) (.ask (.nil) (.lit (.ask (.lit (.lit (.lit (.lit (.req (.abs (Mono) (fun YY=>AV.pv (PV.rptr (PV.cells ((enc) YY)))) (.lit (.lit (.lit (.lit (.lit (.lit (.req (.abs (Int) (fun YY=>AV.pv (enc YY)) (.lit (.lit (.lit (.ask (.nil) (.lit (.nil)))))))))))))))))))) (.lit (.lit (.lit (.lit (.lit (.lit (.lit (.lit (.lit (.lit (.lit (.lit (.nil)))))))))))))))))))))))))))))))))))))))))))))) (.lit (.nil)))) h (by kernel_rfl)
end Go.Pl

namespace Go.Pl
open Go.RowKit
open Enc (enc dec is)
open EncL (encL decL isL)
theorem a4u: ∀ x:Str×Unit,decide (x.1.s.length<=281474976710656)=true->Zc MV 0 (Za R5 (Zf (!(ZA x.1)))) Rw [] (Yx b5t (encL x)):=by
 rintro⟨⟨s⟩,⟨⟩⟩ h
 exact b9b s ⟨Zl (⟨s⟩,()) rfl h,Zi (⟨s⟩,()) rfl (ZJ rfl)⟩
theorem b2o(l:List Str)(hs : ∀ s∈l,decide (s.s.length<=281474976710656)=true)(hl:l.length<=9223372036854775807): ∀ (m i:Nat),m+i=l.length->(∀ j (h:j<l.length),j<i->(!(ZA l[j]))=false) ->
  At Cn 0 (Za KX (Zf (Zx (fun s:Str=> !(ZA s)) l))) Jt 0 19 [(0,.pv (enc l)),(1,.pv (.fn 185)),(7,.pv (.int .i64 l.length)),(8,.pv (.int .i64 i))] []:=by
 intro m
 induction m with
 | zero=>
  intro i hi hno
  refine a6o l i (ZV (Z8 (by omega)) (Qm ?_))
  rw[UH _ _ (fun j hj=>hno j hj (by omega))]
 | succ m ih=>
  intro i hi hno
  have hlt:i<l.length:=by omega
  refine a6o l i (ZQ (Z4 hlt) ⟨Zu hlt rfl,ZG hlt ⟨Zl (l[i],()) rfl (hs _ (List.getElem_mem hlt)),Zi (l[i],()) rfl (Xe (fun hb=> ?_) fun hb=> ?_)⟩⟩)
  ·exact Qm (Uy (fun s:Str=> !(ZA s)) l i hlt hno hb).symm
  ·rw[next (by omega)]
   refine ih (i+1) (by omega) fun j hj hji=> ?_
   by_cases e:j=i
   ·subst e;exact hb
   ·exact hno j hj (by omega)
theorem b3x: ∀ a:List Str×FnV 185×Unit,Wj a.1=true->Zc Cn 0 (Za KX (Zf (Zx (fun s:Str=> !(ZA s)) a.1))) Jt [] (Yx c0y (encL a)):=by
 rintro⟨l,g,⟨⟩⟩ h
 have h':=h
 simp only[Wj,Bool.and_eq_true,List.all_eq_true]at h'
 refine c4n l ?_
 rw[List.length_map]
 exact b2o l h'.2 (ZN.1 h'.1) l.length 0 (by omega) (fun j hj h=>by omega)
theorem b7a: ∀ a:List Str×FnV 185×Unit,Wj a.1=true->Zc a5a 0 (Za Lr (Zf (a.1.any fun s:Str=> !(ZA s)))) Fx [] (Yx b9w (encL a)):=by
 rintro⟨l,g,⟨⟩⟩ h
 exact c4c l ⟨Zl (l,{},()) rfl h,Zi (l,{},()) rfl (ZJ (Xy _ _))⟩
theorem b2a: ∀ a:Str×Unit,(fun _:Str×Unit=>true) a=true->Zc Ot 0 (Za RY (Zf (false:Bool))) TF [] (Yx b5e (encL a)):=by
 rintro⟨⟨s⟩,⟨⟩⟩ _
 exact c0e s (ZJ (by simp))
theorem a1s: ∀ a:Str×Str×Unit,(fun _:Str×Str×Unit=>true) a=true->Zc T9 0 (Za Bc (Zf (decide (a.1.s<a.2.1.s)))) Bg [] (Yx a7k (encL a)):=by
 rintro⟨⟨s⟩,⟨t⟩,⟨⟩⟩ _
 exact b5j s t (Zi (⟨s⟩,()) rfl (ZV (by simp) (ZJ (YN s t))))
theorem a9a: ∀ a:Str×Str×Unit,(fun _:Str×Str×Unit=>true) a=true->Zc Ou 0 (Za Tx (Zf (BX a.1 a.2.1))) Pj [] (Yx b4z (encL a)):=by
 rintro⟨⟨s⟩,⟨t⟩,⟨⟩⟩ _
 refine b9c s t (Zi (⟨s⟩,()) rfl (Zi (⟨t⟩,()) rfl (ZV (by simp) (ZV (by simp) ?_))))
 show if (Op.bytesLess s t)=true then Zf (BX ⟨s⟩ ⟨t⟩) _ else if (!(Op.bytesLess s t||s==t))=true then Zf (BX ⟨s⟩ ⟨t⟩) _ else Zf (BX ⟨s⟩ ⟨t⟩) _
 rw[YN]
 unfold BX
 by_cases h1:s<t
 ·rw[decide_eq_true h1,if_pos rfl,if_pos h1];exact Qm rfl
 ·rw[decide_eq_false h1,if_neg (by simp),if_neg h1]
  by_cases h2:s=t
  ·subst h2
   rw[if_neg (by simp),if_neg h1];exact Qm rfl
  ·have h3:t<s:=by
    rcases List.le_total s t with h|h
    ·exact absurd (Std.lt_of_le_of_ne h h2) h1
    ·exact Std.lt_of_le_of_ne h (Ne.symm h2)
   rw[if_pos (by simp[h2]),if_pos h3];exact Qm rfl
theorem a8h(l:List Str):JU l=true ↔ ∀ i (h:i+1<l.length),¬ l[i+1].s<l[i].s:=by
 induction l with
 | nil=>simp[JU]
 | cons x l ih=>
  cases l with
  | nil=>simp[JU]
  | cons y r=>
   rw[JU,Bool.and_eq_true,ih]
   constructor
   ·rintro⟨h1,h2⟩ i hi
    cases i with
    | zero=>simpa using h1
    | succ i=>exact h2 i (by simpa using hi)
   ·intro h
    exact⟨by simpa using h 0 (by simp),fun i hi=>h (i+1) (by simpa using hi)⟩
theorem RN(l:List Str)(hl:l.length<=9223372036854775807): ∀ (i:Nat),i<l.length->(∀ j (h:j+1<l.length),i<=j-> ¬ l[j+1].s<l[j].s) ->
  At Vo 0 (Za Wu (Zf (JU l))) Wv 0 21 [(0,.pv (enc l)),(3,.pv (.int .i64 i))] []:=by
 intro i
 induction i with
 | zero=>
  intro hi hok
  refine Jj l ((0:Nat):Int) (ZV (by decide) (ZJ ?_))
  exact((a8h l).2 fun j hj=>hok j hj (Nat.zero_le _)).symm
 | succ i ih=>
  intro hi hok
  have hi2:i<l.length:=by omega
  have e:((i+1:Nat):Int) - 1=(i:Int):=by omega
  have hw:IntKind.i64.wrap (((i+1:Nat):Int) - 1)=(i:Int):=by rw[e];exact WL (by omega) (by omega)
  refine Jj l ((i+1:Nat):Int) (ZQ (by simp) ⟨Zu hi rfl,ZG hi ?_⟩)
  rw[hw]
  refine⟨Zu hi2 rfl,ZG hi2 (Zi (l[i+1],l[i],()) rfl (Xe (fun h=>ZJ ?_) fun h=>ih hi2 fun j hj hij=> ?_))⟩
  ·have h:l[i+1].s<l[i].s:=of_decide_eq_true h
   cases hc:JU l
   ·rfl
   ·exact absurd h ((a8h l).1 hc i hi)
  ·have h : ¬ l[i+1].s<l[i].s:=of_decide_eq_false h
   by_cases ej:j=i
   ·subst ej;exact h
   ·exact hok j hj (by omega)
theorem MK: ∀ a:List Str×Unit,Zt a.1=true->Zc Vo 0 (Za Wu (Zf (JU a.1))) Wv [] (Yx Oh (encL a)):=by
 rintro⟨l,⟨⟩⟩ h
 have hl:=ZN.1 h
 refine ET l ?_
 rw[List.length_map]
 cases hc:l with
 | nil=>
  refine Jj [] _ (ZV (by decide) (ZJ rfl))
 | cons x r=>
  have hw:IntKind.i64.wrap (((x::r).length:Int) - 1)=((r.length:Nat):Int):=by
   rw[List.length_cons]
   rw[hc,List.length_cons]at hl
   rw[show((r.length+1:Nat):Int) - 1=(r.length:Int) by omega]
   exact WL (by omega) (by omega)
  rw[hw]
  exact RN (x::r) (by rw[<- hc];exact hl) r.length (by simp) (fun j hj h=>by simp at hj;omega)
theorem NP(a b:List Str)(ha:a.length<=9223372036854775807)(hb:b.length<=9223372036854775807): ∀ (k i:Nat),k+i=a.length->i<=b.length ->
  At Uo 0 (Za Vr (Zf (Gi (a.drop i) (b.drop i)))) Vk 0 36 [(0,.pv (enc a)),(1,.pv (enc b)),(9,.pv (enc a)),(10,.pv (.int .i64 a.length)),(11,.pv (.int .i64 i))] []:=by
 intro k
 induction k with
 | zero=>
  intro i hi hib
  rw[List.drop_of_length_le (show a.length<=i by omega)]
  refine Sq a b i (ZV (Z8 (by omega)) ?_)
  simp only[List.length_map]
  refine We (fun h=> ?_) fun h=> ?_
  ·rw[List.drop_eq_getElem_cons (show i<b.length by omega)]
   exact Qm rfl
  ·rw[List.drop_of_length_le (show b.length<=i by omega)]
   exact Qm rfl
 | succ k ih=>
  intro i hi hib
  have hlt:i<a.length:=by omega
  rw[List.drop_eq_getElem_cons hlt]
  refine Sq a b i (ZQ (Z4 hlt) ⟨Zu hlt rfl,ZG hlt ?_⟩)
  simp only[List.length_map]
  refine We (fun h=> ?_) fun h=> ?_
  ·rw[List.drop_of_length_le (show b.length<=i by omega)]
   exact Qm rfl
  ·have hlt2:i<b.length:=by omega
   have h1:=ih (i+1) (by omega) (by omega)
   rw[List.drop_eq_getElem_cons hlt2]
   refine⟨by simp[hlt2],ZG hlt2 (Zi (a[i],b[i],()) rfl ?_)⟩
   show if (BX a[i] b[i] != 0)=true then _ else _
   unfold Gi BX
   by_cases q1:a[i].s<b[i].s
   ·rw[if_pos q1,if_pos (by simp),if_pos q1];exact Qm rfl
   ·rw[if_neg q1,if_neg q1]
    by_cases q2:b[i].s<a[i].s
    ·rw[if_pos q2,if_pos (by simp),if_pos q2];exact Qm rfl
    ·rw[if_neg q2,if_neg (by simp),if_neg q2,next (by omega)]
     exact h1
theorem F5: ∀ x:List Str×List Str×Unit,(Zt x.1&&Zt x.2.1)=true->Zc Uo 0 (Za Vr (Zf (Gi x.1 x.2.1))) Vk [] (Yx a3l (encL x)):=by
 rintro⟨a,b,⟨⟩⟩ h
 simp only[Bool.and_eq_true]at h
 refine a9g a b ?_
 rw[List.length_map]
 exact NP a b (ZN.1 h.1) (ZN.1 h.2) a.length 0 (by omega) (Nat.zero_le _)
theorem Ck: ∀ a b:List Str,Gi a b<0 ↔ VK a b<0
 | [],[]=>by decide
 | [],y::b=>by
  have e1:Gi [] (y::b) = -1:=rfl
  have e2:VK [] (y::b) = -((y::b).length:Int):=rfl
  rw[e1,e2,List.length_cons];omega
 | x::a,[]=>by
  have e1:Gi (x::a) []=1:=rfl
  have e2:VK (x::a) []=((x::a).length:Int):=rfl
  rw[e1,e2];omega
 | x::a,y::b=>by
  rw[Gi,VK]
  split
  ·exact Iff.rfl
  ·split
   ·exact Iff.rfl
   ·exact Ck a b
def pvL:Option Mono->List Mono->Bool
 | _,[]=>true
 | o,m::r=>WA m&&(match o with|none=>true|some q=>decide (VK q.v m.v<0))&&pvL (some m) r
theorem b1a(o:Option Mono)(m:Mono)(r:List Mono):pvL o (m::r)=(WA m&&(match o with|none=>true|some q=>decide (VK q.v m.v<0))&&pvL (some m) r):=by cases o <;> rfl
theorem PG: ∀ (l:List Mono) (q:Mono),pvL (some q) l=(l.all WA&&a1i (q::l))
 | [],q=>rfl
 | m::r,q=>by
  rw[pvL,PG r m,a1i,List.all_cons]
  cases WA m <;> cases decide (VK q.v m.v<0) <;> cases r.all WA <;> cases a1i (m::r) <;> rfl
theorem a6b(l:List Mono):(pvL none l&&decide (l.length<=60))=ZZ l:=by
 unfold ZZ
 cases l with
 | nil=>rfl
 | cons m r=>
  rw[pvL,PG,List.all_cons,Bool.and_true]
  cases WA m <;> cases decide ((m::r).length<=60) <;> cases r.all WA <;> cases a1i (m::r) <;> rfl
def P5(p:List Mono):Nat->Option Mono
 | 0=>none
 | i+1=>p[i]?
theorem Np(p:List Mono)(hp:Yc p=true): ∀ (k i:Nat),k+i=p.length ->
  At WU 0 (Za XR (Zf (pvL (P5 p i) (p.drop i)&&decide (p.length<=60)))) WF 0 58 [(0,.pv (enc p)),(5,.pv (enc p)),(6,.pv (.int .i64 p.length)),(7,.pv (.int .i64 i))] []:=by
 simp only[Yc,Bool.and_eq_true,List.all_eq_true]at hp
 have hl:=ZN.1 hp.1
 intro k
 induction k with
 | zero=>
  intro i hi
  rw[List.drop_of_length_le (by omega)]
  refine Sj p i (ZV (Z8 (by omega)) (ZJ ?_))
  rw[List.length_map,pvL,Bool.true_and]
  exact decide_eq_decide.2 (by omega)
 | succ k ih=>
  intro i hi
  have hlt:i<p.length:=by omega
  have hm:=hp.2 _ (List.getElem_mem hlt)
  have hml:Zt p[i].v=true:=by
   simp only[Wj,Bool.and_eq_true]at hm
   exact hm.1
  have h1:=ih (i+1) (by omega)
  have hpr:P5 p (i+1)=some p[i]:=List.getElem?_eq_getElem hlt
  rw[hpr]at h1
  rw[List.drop_eq_getElem_cons hlt,b1a]
  have bad:WA p[i]=false->Zf (WA p[i]&&(match P5 p i with|none=>true|some q=>decide (VK q.v p[i].v<0))&&pvL (some p[i]) (p.drop (i+1))&&decide (p.length<=60)) (.bool false):=fun h=>ZJ (by rw[h];simp)
  apply Sj (G:=Zf (WA p[i]&&(match P5 p i with|none=>true|some q=>decide (VK q.v p[i].v<0))&&pvL (some p[i]) (p.drop (i+1))&&decide (p.length<=60))) p i
  apply ZQ (Z4 hlt)
  refine⟨Zu hlt rfl,ZG hlt (Jq (fun h=>bad ?_) fun h2=>We (fun h=>bad ?_) fun h3=>We (fun h=>bad ?_) fun h4=>We (fun h=>bad ?_) fun h5=>⟨Zl (p[i].v,()) rfl hml,Zi (p[i].v,()) rfl (Vq (fun h=>bad ?_) fun h6=>⟨Zl (p[i].v,{},()) rfl hm,Zi (p[i].v,{},()) rfl (Xe (fun h=>bad ?_) fun h7=> ?_)⟩)⟩)⟩
  ·have h:p[i].c=0:=h
   simp[WA,h]
  ·have h:p[i].c < -1099511627776:=h
   unfold WA
   rw[decide_eq_false (show ¬ -1099511627776<=p[i].c by omega)];simp
  ·have h:p[i].c>1099511627776:=h
   unfold WA
   rw[decide_eq_false (show ¬ p[i].c<=1099511627776 by omega)];simp
  ·have h:((p[i].v.map (enc:Str->PV)).length:Int)>8:=h
   rw[List.length_map]at h
   unfold WA
   rw[decide_eq_false (show ¬ p[i].v.length<=8 by omega)];simp
  ·have h:JU p[i].v=false:=h
   simp[WA,h]
  ·have h:(p[i].v.any fun s=> !(ZA s))=true:=h
   have h2:p[i].v.all ZA=false:=by
    rw[<- Bool.not_eq_true]
    intro h3
    obtain⟨s,hs,h4⟩:=List.any_eq_true.1 h
    rw[List.all_eq_true.1 h3 s hs]at h4
    cases h4
   unfold WA
   rw[h2];simp
  ·have hok:WA p[i]=true:=by
    have h2 : ¬ p[i].c=0:=h2
    have h3 : ¬ p[i].c < -1099511627776:=h3
    have h4 : ¬ p[i].c>1099511627776:=h4
    have h5 : ¬ ((p[i].v.map (enc:Str->PV)).length:Int)>8:=h5
    rw[List.length_map]at h5
    have h6:JU p[i].v=true:=h6
    have h7:(p[i].v.any fun s=> !(ZA s))=false:=h7
    have h8:p[i].v.all ZA=true:=by
     rw[List.all_eq_true]
     intro s hs
     cases hn:ZA s
     ·rw[<- Bool.not_eq_true]at h7
      exact absurd (List.any_eq_true.2 ⟨s,hs,by rw[hn];rfl⟩) h7
     ·rfl
    unfold WA
    rw[decide_eq_true h2,decide_eq_true (show -1099511627776<=p[i].c by omega),decide_eq_true (show p[i].c<=1099511627776 by omega),decide_eq_true (show p[i].v.length<=8 by omega),h6,h8]
    rfl
   rw[hok,Bool.true_and]
   cases i with
   | zero=>
    refine ZV (by decide) ?_
    rw[next (by omega)]
    exact h1
   | succ j=>
    have hj:j<p.length:=by omega
    have e:((j+1:Nat):Int) - 1=(j:Int):=by omega
    have hw:IntKind.i64.wrap (((j+1:Nat):Int) - 1)=(j:Int):=by rw[e];exact WL (by omega) (by omega)
    have hprev:P5 p (j+1)=some p[j]:=List.getElem?_eq_getElem hj
    rw[hprev]
    have hjl:Zt p[j].v=true:=by
     have:=hp.2 _ (List.getElem_mem hj)
     simp only[Wj,Bool.and_eq_true]at this
     exact this.1
    refine ZQ (by simp) ?_
    rw[hw]
    refine⟨Zu hj rfl,ZG hj ⟨Zl (p[j].v,p[j+1].v,()) rfl (by show(Zt p[j].v&&Zt p[j+1].v)=true;rw[hjl,hml];rfl),Zi (p[j].v,p[j+1].v,()) rfl (We (fun h=> ?_) fun h=> ?_)⟩⟩
    ·have h:Gi p[j].v p[j+1].v ≥ 0:=h
     have : ¬ VK p[j].v p[j+1].v<0:=fun h2=>by have:=(Ck _ _).2 h2;omega
     exact ZJ (by simp[this])
    ·have h : ¬ Gi p[j].v p[j+1].v ≥ 0:=h
     have:VK p[j].v p[j+1].v<0:=(Ck _ _).1 (by omega)
     show At WU 0 (Za XR (Zf (decide (VK p[j].v p[j+1].v<0)&&_&&_))) _ _ _ _ _
     rw[decide_eq_true this,Bool.true_and,next (by omega)]
     exact h1
theorem F8: ∀ x:List Mono×Unit,Yc x.1=true->Zc WU 0 (Za XR (Zf (ZZ x.1))) WF [] (Yx a3n (encL x)):=by
 rintro⟨p,⟨⟩⟩ h
 refine a9p p ?_
 rw[List.length_map,<- a6b]
 exact Np p h p.length 0 (by omega)
end Go.Pl

namespace Go.Pl
open Go.RowKit
open Enc (enc dec is)
open EncL (encL decL isL)
set_option maxRecDepth 100000
def Y6:IC:=(.seq (.reg [⟨(some 2),(.mv (.c (.sl 0 true []))),0,none⟩] none) (.seq (.seq (.reg [⟨(some 6),(.mv (.t 0)),0,none⟩,⟨(some 7),(.call (.c (.fn 122)) [(.t 6)]),0,none⟩,⟨(some 8),(.un .not (.t 7)),2,none⟩] none) (.cond (.t 8) (.seq (.reg [⟨(some 2),(.mv (.c (.sl 0 true []))),0,none⟩] none) .ret) .skip)) (.seq (.reg [⟨(some 3),(.mv (.c (.sl 0 true []))),0,none⟩] none) (.seq (.seq (.reg [⟨(some 9),(.mv (.t 0)),0,none⟩,⟨(some 10),(.len 1 (.t 9)),0,none⟩,⟨(some 11),(.mv (.c (.int .i64 0))),0,none⟩] none) (.block 0 (.loop [11,10,9,3] (.seq (.reg [⟨(some 12),(.bin .num .lss (.t 11) (.t 10)),0,none⟩] none) (.seq (.cond (.t 12) .skip (.exit 0)) (.seq (.block 1 (.seq (.reg [⟨(some 13),(.iaddr 2 (.t 9) (.t 11)),0,none⟩,⟨(some 14),(.load true [(.int .i64),(.sl 1)] (.t 13)),0,none⟩,⟨(some 5),(.alloc (.agg [(.int .i64 0),(.sl 0 true [])])),0,none⟩,⟨none,(.store 2 (.t 5) (.t 14)),1,none⟩] none) (.reg [⟨(some 15),(.mv (.t 3)),0,none⟩,⟨(some 16),(.faddr 1 (.t 5)),0,none⟩,⟨(some 17),(.load false [(.sl 1)] (.t 16)),0,none⟩,⟨(some 18),(.append 9 1 16 (.t 15) (.t 17)),0,none⟩,⟨(some 3),(.mv (.t 18)),1,none⟩] none))) (.reg [⟨(some 19),(.bin .num .add (.t 11) (.c (.int .i64 1))),0,none⟩,⟨(some 11),(.mv (.t 19)),0,none⟩] none))))))) (.seq (.reg [⟨(some 20),(.mv (.t 3)),0,none⟩,⟨(some 21),(.call (.c (.fn 154)) [(.t 20)]),0,none⟩] none) (.seq (.reg [⟨(some 22),(.mv (.t 3)),0,none⟩,⟨(some 23),(.call (.c (.fn 187)) [(.t 22)]),0,none⟩,⟨(some 2),(.mv (.t 23)),2,none⟩] none) .ret))))))
def Xa:List IRes:=[(.tmp 2)]
abbrev CF:Nat:=24
def XF:ZE:=Xi [(122,.pure (preT (fun x:List Mono×Unit=>Yc x.1)) (Zg (fun x:List Mono×Unit=>ZZ x.1))),(154,.own Xx U8),(187,.own Xx U1)]
theorem En{G:AV×List AObj×List AObj->Prop}(p:List Mono)(h:(Go.Pl.preT (fun(x:List Mono×Unit)=>Yc x.1) [(.sl 2 false (List.map enc p))])=true∧(∃ y0:Bool,AV.pv (Zg (fun(x:List Mono×Unit)=>ZZ x.1) [(.sl 2 false (List.map enc p))])=AV.pv (enc y0)∧(if (!y0)=true then G (((.pv (.sl 0 true [])),([],[])))else(At XF 0 (Zh 0 Xa G) Y6 0 24 [(3,(.pv (.sl 0 true []))),(9,(.pv (.sl 2 false (List.map enc p)))),(10,(.pv (.int .i64 (↑(List.length (List.map enc p)):Int)))),(11,(.pv (.int .i64 0)))] [])))):Zc XF 0 (Zh 0 Xa G) Y6 [] (YH 24 [.pv (enc p)] []):=Zc.to (.req (.abs (Bool) (fun YY=>AV.pv (enc YY)) (.ask (.nil) (.nil)))) h (by kernel_rfl)
theorem Tn{G:AV×List AObj×List AObj->Prop}(p:List Mono)(i:Int)(h:if (decide (i<(↑(List.length p):Int)))=true then(decide (0<=i)&&decide (Int.toNat i<List.length (List.map enc p))&&Enc.sz Mono==2)=true∧(∃ y0:Mono,AV.pv (PV.rptr (PV.cells (List.getD (List.map enc p) (Int.toNat i) default)))=AV.pv (PV.rptr (PV.cells ((enc) y0)))∧((List.isEmpty (PV.asXs (List.getD (PV.cells (enc y0)) (0+1) default))||1==1)=true∧(if (List.isEmpty (PV.asXs (List.getD (PV.cells (enc y0)) (0+1) default)))=true then At XF 0 (Zh 0 Xa G) Y6 0 24 [(3,(.pv (.sl 0 true []))),(9,(.pv (.sl 2 false (List.map enc p)))),(10,(.pv (.int .i64 (↑(List.length p):Int)))),(11,(.pv (.int .i64 (IntKind.wrap IntKind.i64 (i+1)))))] []else(((List.isEmpty ([]:List PV)||0==1)&&decide ((List.length ([]:List PV)+List.length (PV.asXs (List.getD (PV.cells (enc y0)) (0+1) default)))*16<=1099511627776)&&decide (List.length ([]:List PV)+List.length (PV.asXs (List.getD (PV.cells (enc y0)) (0+1) default))<=1099511627776))=true∧(At XF 0 (Zh 0 Xa G) Y6 0 24 [(3,(.row 0 (List.length ([]:List PV)+List.length (PV.asXs (List.getD (PV.cells (enc y0)) (0+1) default))) 0 (List.length ([]:List PV)+List.length (PV.asXs (List.getD (PV.cells (enc y0)) (0+1) default))))),(9,(.pv (.sl 2 false (List.map enc p)))),(10,(.pv (.int .i64 (↑(List.length p):Int)))),(11,(.pv (.int .i64 (IntKind.wrap IntKind.i64 (i+1)))))] [(.obj (.row false 9 1 (([]:List PV)++PV.asXs (List.getD (PV.cells (enc y0)) (0+1) default))))])))))else(G (((.pv (.sl 0 true [])),([],[]))))):At XF 0 (Zh 0 Xa G) Y6 0 24 [(3,.pv (.sl 0 true [])),(9,.pv (enc p)),(10,.pv (.int .i64 p.length)),(11,.pv (.int .i64 i))] []:=At.to (.lit (.ask (.req (.abs (Mono) (fun YY=>AV.pv (PV.rptr (PV.cells ((enc) YY)))) (.lit (.req (.lit (.ask (.lit (.nil)) (.req (.lit (.nil))))))))) (.lit (.keep (.lit (.keep (.nil))))))) h (by kernel_rfl)
theorem Aw{G:AV×List AObj×List AObj->Prop}(p:List Mono)(i:Int)(q:Nat)(xs:List Str)(h:if (decide (i<(↑(List.length p):Int)))=true then(decide (0<=i)&&decide (Int.toNat i<List.length (List.map enc p))&&Enc.sz Mono==2)=true∧(∃ y0:Mono,AV.pv (PV.rptr (PV.cells (List.getD (List.map enc p) (Int.toNat i) default)))=AV.pv (PV.rptr (PV.cells ((enc) y0)))∧((List.isEmpty (PV.asXs (List.getD (PV.cells (enc y0)) (0+1) default))||1==1)=true∧((List.length (List.map enc xs)==q&&q==q&&decide ((q+List.length (PV.asXs (List.getD (PV.cells (enc y0)) (0+1) default)))*16<=1099511627776)&&decide (q+List.length (PV.asXs (List.getD (PV.cells (enc y0)) (0+1) default))<=1099511627776))=true∧(At XF 0 (Zh 0 Xa G) Y6 0 24 [(3,(.row 0 (q+List.length (PV.asXs (List.getD (PV.cells (enc y0)) (0+1) default))) 0 (q+List.length (PV.asXs (List.getD (PV.cells (enc y0)) (0+1) default))))),(9,(.pv (.sl 2 false (List.map enc p)))),(10,(.pv (.int .i64 (↑(List.length p):Int)))),(11,(.pv (.int .i64 (IntKind.wrap IntKind.i64 (i+1)))))] [(.obj (.row false 9 1 (List.map enc xs++PV.asXs (List.getD (PV.cells (enc y0)) (0+1) default))))]))))else((Xx [(.row 0 q 0 q)] [(.row false 9 1 (List.map enc xs))])=true∧((Xx [(.row 0 q 0 q)] [(.row false 9 1 (List.map PV.str (X8 (List.map Uh (List.map enc xs)))))])=true∧(G (((.row 0 q 0 (List.length (Lib.compact (List.map Uh (List.map PV.str (X8 (List.map Uh (List.map enc xs)))))))),([],[(.row false 9 1 (List.map PV.str (Ve (List.map Uh (List.map PV.str (X8 (List.map Uh (List.map enc xs))))))))]))))))):At XF 0 (Zh 0 Xa G) Y6 0 24 [(3,.row 0 q 0 q),(9,.pv (enc p)),(10,.pv (.int .i64 p.length)),(11,.pv (.int .i64 i))] [.obj (.row false 9 1 (xs.map enc))]:=At.to (.lit (.ask (.req (.abs (Mono) (fun YY=>AV.pv (PV.rptr (PV.cells ((enc) YY)))) (.lit (.req (.req (.lit (.nil))))))) (.req (.keep (.req (.keep (.nil))))))) h (by kernel_rfl)
def Fq:IC:=(.seq (.reg [⟨(some 2),(.box 2 (.t 0)),0,none⟩,⟨(some 3),(.mv (.c (.bool false))),1,none⟩] none) (.seq (.reg [⟨(some 4),(.faddr 0 (.t 2)),0,none⟩,⟨(some 5),(.load false [.str] (.t 4)),0,none⟩,⟨(some 6),(.load false [.str] (.t 1)),0,none⟩,⟨(some 7),(.bin .num .eql (.t 5) (.t 6)),0,none⟩,⟨(some 3),(.mv (.t 7)),0,none⟩] none) .ret))
def LD:List IRes:=[(.tmp 3)]
abbrev c2s:Nat:=8
def a5n:ZE:=Xi []
theorem c4h{G:AV×List AObj×List AObj->Prop}(x:Coef)(v:List UInt8)(h:G (((.pv (.bool (Str.s x.v==v))),([(.box [(.pv (.str v))])],[])))):Zc a5n 1 (Zh 1 LD G) Fq [] (YH 8 [.pv (enc x),.ptr 0 0] [.box [.pv (.str v)]]):=Zc.to (.lit (.nil)) h (by kernel_rfl)
def K5:IC:=Q6
def Jc:List IRes:=[(.tmp 4)]
abbrev c1p:Nat:=19
def CV:ZE:=Xi [(188,.own JN Dw)]
theorem c3d{G:AV×List AObj×List AObj->Prop}(l:List Coef)(v:List UInt8)(h:At CV 1 (Zh 1 Jc G) K5 0 19 [(0,(.pv (.sl 2 false (List.map enc l)))),(1,(.fn 188 [] [(.ptr 0 0)])),(7,(.pv (.int .i64 (↑(List.length (List.map enc l)):Int)))),(8,(.pv (.int .i64 0)))] [(.obj (.box [(.pv (.str v))]))]):Zc CV 1 (Zh 1 Jc G) K5 [] (YH 19 [.pv (enc l),.fn 188 [] [.ptr 0 0]] [.box [.pv (.str v)]]):=Zc.to (.nil) h (by kernel_rfl)
theorem a8t{G:AV×List AObj×List AObj->Prop}(l:List Coef)(v:List UInt8)(i:Int)(h:if (decide (i<(↑(List.length l):Int)))=true then(decide (0<=i)&&decide (Int.toNat i<List.length (List.map enc l))&&Enc.sz Coef==2)=true∧(∃ y0:Coef,AV.pv (PV.rptr (PV.cells (List.getD (List.map enc l) (Int.toNat i) default)))=AV.pv (PV.rptr (PV.cells ((enc) y0)))∧((JN [(.pv (.agg [(.str (PV.asStr (List.getD (PV.cells (enc y0)) 0 default))),(.int .i64 (PV.asInt (List.getD (PV.cells (enc y0)) (0+1) default)))])),(.ptr 0 0)] [(.box [(.pv (.str v))])])=true∧(if (Str.s (Coef.v (dec (PV.agg (Qf (PV.cells (enc y0)) 0 [Sh.str,Sh.int .i64]))))==v)=true then G (((.pv (.int .i64 i)),([(.box [(.pv (.str v))])],[])))else(At CV 1 (Zh 1 Jc G) K5 0 19 [(0,(.pv (.sl 2 false (List.map enc l)))),(1,(.fn 188 [] [(.ptr 0 0)])),(7,(.pv (.int .i64 (↑(List.length l):Int)))),(8,(.pv (.int .i64 (IntKind.wrap IntKind.i64 (i+1)))))] [(.obj (.box [(.pv (.str v))]))]))))else(G (((.pv (.int .i64 (-1))),([(.box [(.pv (.str v))])],[]))))):At CV 1 (Zh 1 Jc G) K5 0 19 [(0,.pv (enc l)),(1,.fn 188 [] [.ptr 0 0]),(7,.pv (.int .i64 l.length)),(8,.pv (.int .i64 i))] [.obj (.box [.pv (.str v)])]:=At.to (.lit (.ask (.req (.abs (Coef) (fun YY=>AV.pv (PV.rptr (PV.cells ((enc) YY)))) (.lit (.req (.keep (.ask (.nil) (.lit (.nil)))))))) (.nil))) h (by kernel_rfl)
def Qx:IC:=(.seq (.reg [⟨(some 4),(.mv (.c (.int .i64 0))),0,none⟩] none) (.seq (.seq (.reg [⟨(some 6),(.mv (.t 0)),0,none⟩,⟨(some 7),(.len 1 (.t 6)),0,none⟩,⟨(some 8),(.mv (.c (.int .i64 0))),0,none⟩] none) (.block 0 (.loop [8,7,1,0] (.seq (.reg [⟨(some 9),(.bin .num .lss (.t 8) (.t 7)),0,none⟩] none) (.seq (.cond (.t 9) .skip (.exit 0)) (.seq (.block 1 (.seq (.reg [⟨(some 10),(.mv (.t 8)),0,none⟩,⟨(some 5),(.mv (.t 10)),0,none⟩] none) (.seq (.reg [⟨(some 11),(.mv (.t 1)),0,none⟩,⟨(some 12),(.mv (.t 0)),0,none⟩,⟨(some 13),(.mv (.t 5)),0,none⟩,⟨(some 14),(.iaddr 1 (.t 12) (.t 13)),0,none⟩,⟨(some 15),(.load false [(.int .i64)] (.t 14)),0,none⟩,⟨(some 16),(.bin .num .eql (.t 11) (.t 15)),0,none⟩] none) (.cond (.t 16) (.seq (.reg [⟨(some 17),(.mv (.t 5)),0,none⟩,⟨(some 4),(.mv (.t 17)),0,none⟩] none) .ret) .skip)))) (.reg [⟨(some 18),(.bin .num .add (.t 8) (.c (.int .i64 1))),0,none⟩,⟨(some 8),(.mv (.t 18)),0,none⟩] none))))))) (.seq (.reg [⟨(some 4),(.mv (.c (.int .i64 (-1)))),0,none⟩] none) .ret)))
def Qw:List IRes:=[(.tmp 4)]
abbrev b4e:Nat:=19
def Jp:ZE:=Xi []
theorem c1c{G:PV->Prop}(l:List Int)(n:Int)(h:At Jp 0 (Za Qw G) Qx 0 19 [(0,(.pv (.sl 1 false (List.map enc l)))),(1,(.pv (.int .i64 n))),(7,(.pv (.int .i64 (↑(List.length (List.map enc l)):Int)))),(8,(.pv (.int .i64 0)))] []):Zc Jp 0 (Za Qw G) Qx [] (Yx 19 [enc l,enc n]):=Zc.tp (.nil) h (by kernel_rfl)
theorem EH{G:PV->Prop}(l:List Int)(n:Int)(i:Int)(h:if (decide (i<(↑(List.length l):Int)))=true then(decide (0<=i)&&decide (Int.toNat i<List.length (List.map enc l))&&Enc.sz Int==1)=true∧(∃ y0:Int,AV.pv (PV.rptr (PV.cells (List.getD (List.map enc l) (Int.toNat i) default)))=AV.pv (PV.rptr (PV.cells ((enc) y0)))∧(if (n==PV.asInt (List.getD (PV.cells (enc y0)) 0 default))=true then G ((.int .i64 i))else(At Jp 0 (Za Qw G) Qx 0 19 [(0,(.pv (.sl 1 false (List.map enc l)))),(1,(.pv (.int .i64 n))),(7,(.pv (.int .i64 (↑(List.length l):Int)))),(8,(.pv (.int .i64 (IntKind.wrap IntKind.i64 (i+1)))))] [])))else(G ((.int .i64 (-1))))):At Jp 0 (Za Qw G) Qx 0 19 [(0,.pv (enc l)),(1,.pv (enc n)),(7,.pv (.int .i64 l.length)),(8,.pv (.int .i64 i))] []:=At.tp (.lit (.ask (.req (.abs (Int) (fun YY=>AV.pv (PV.rptr (PV.cells ((enc) YY)))) (.lit (.lit (.ask (.nil) (.lit (.nil))))))) (.nil))) h (by kernel_rfl)
def H8:IC:=(.seq (.reg [⟨(some 4),(.mv (.c (.bool false))),0,none⟩] none) (.seq (.reg [⟨(some 5),(.mv (.t 0)),0,none⟩,⟨(some 6),(.mv (.t 1)),0,none⟩,⟨(some 7),(.call (.c (.fn 284)) [(.t 5),(.t 6)]),0,none⟩,⟨(some 8),(.bin .num .geq (.t 7) (.c (.int .i64 0))),2,none⟩,⟨(some 4),(.mv (.t 8)),2,none⟩] none) .ret))
def H6:List IRes:=[(.tmp 4)]
abbrev a2w:Nat:=9
def DX:ZE:=Xi [(284,.pure (preT (fun x:List Int×Int×Unit=>Zt x.1)) (Zg (fun x:List Int×Int×Unit=>Zx (fun n:Int=>decide (x.2.1=n)) x.1)))]
theorem a9w{G:PV->Prop}(l:List Int)(n:Int)(h:(Go.Pl.preT (fun(x:List Int×Int×Unit)=>Zt x.1) [(.sl 1 false (List.map enc l)),(.int .i64 n)])=true∧(∃ y0:Int,AV.pv (Zg (fun(x:List Int×Int×Unit)=>Zx (fun(n:Int)=>decide (x.2.1=n)) x.1) [(.sl 1 false (List.map enc l)),(.int .i64 n)])=AV.pv (enc y0)∧(G ((.bool (decide (y0 ≥ 0))))))):Zc DX 0 (Za H6 G) H8 [] (Yx 9 [enc l,enc n]):=Zc.tp (.req (.abs (Int) (fun YY=>AV.pv (enc YY)) (.lit (.nil)))) h (by kernel_rfl)
def Uf:IC:=(.seq (.reg [⟨(some 2),(.mv (.c (.int .i64 0))),0,none⟩,⟨(some 3),(.mv (.c (.int .i64 0))),0,none⟩] none) (.seq (.seq (.reg [⟨(some 9),(.mv (.t 0)),0,none⟩,⟨(some 10),(.call (.c (.fn 246)) [(.t 9),(.c (.int .i64 0))]),0,none⟩] none) (.cond (.t 10) (.seq (.reg [⟨(some 2),(.mv (.c (.int .i64 0))),0,none⟩,⟨(some 3),(.mv (.c (.int .i64 0))),0,none⟩] none) .ret) .skip)) (.seq (.reg [⟨(some 4),(.mv (.c (.int .i64 1))),0,none⟩] none) (.seq (.seq (.reg [⟨(some 11),(.mv (.t 0)),0,none⟩,⟨(some 12),(.len 1 (.t 11)),0,none⟩,⟨(some 13),(.mv (.c (.int .i64 0))),0,none⟩] none) (.block 0 (.loop [13,12,11,4] (.seq (.reg [⟨(some 14),(.bin .num .lss (.t 13) (.t 12)),0,none⟩] none) (.seq (.cond (.t 14) .skip (.exit 0)) (.seq (.block 1 (.seq (.reg [⟨(some 15),(.iaddr 1 (.t 11) (.t 13)),0,none⟩,⟨(some 16),(.load false [(.int .i64)] (.t 15)),0,none⟩,⟨(some 6),(.mv (.t 16)),0,none⟩] none) (.seq (.reg [⟨(some 18),(.mv (.t 4)),0,none⟩,⟨(some 19),(.mv (.t 6)),0,none⟩,⟨(some 20),(.call (.c (.fn 247)) [(.t 18),(.t 19)]),0,none⟩,⟨(some 17),(.mv (.t 20)),2,none⟩,⟨(some 21),(.extract (.t 17) 0),2,none⟩,⟨(some 22),(.extract (.t 17) 1),2,none⟩,⟨(some 7),(.mv (.t 21)),2,none⟩,⟨(some 8),(.mv (.t 22)),2,none⟩] none) (.seq (.seq (.reg [⟨(some 23),(.mv (.t 8)),0,none⟩,⟨(some 24),(.bin .num .neq (.t 23) (.c (.int .i64 0))),0,none⟩] none) (.cond (.t 24) (.seq (.reg [⟨(some 25),(.mv (.t 8)),0,none⟩,⟨(some 2),(.mv (.c (.int .i64 0))),0,none⟩,⟨(some 3),(.mv (.t 25)),0,none⟩] none) .ret) .skip)) (.reg [⟨(some 26),(.mv (.t 7)),0,none⟩,⟨(some 4),(.mv (.t 26)),0,none⟩] none))))) (.reg [⟨(some 27),(.bin .num .add (.t 13) (.c (.int .i64 1))),0,none⟩,⟨(some 13),(.mv (.t 27)),0,none⟩] none))))))) (.seq (.reg [⟨(some 28),(.mv (.t 4)),0,none⟩,⟨(some 2),(.mv (.t 28)),0,none⟩,⟨(some 3),(.mv (.c (.int .i64 0))),0,none⟩] none) .ret)))))
def VE:List IRes:=[(.tmp 2),(.tmp 3)]
abbrev a8e:Nat:=29
def UD:ZE:=Xi [(246,.pure (preT (fun x:List Int×Int×Unit=>Zt x.1)) (Zg (fun x:List Int×Int×Unit=>x.1.contains x.2.1))),(247,.pure (preT (fun _:Int×Int×Unit=>true)) (Zg (fun x:Int×Int×Unit=>DZ x.1 x.2.1)))]
theorem b7p{G:PV->Prop}(l:List Int)(h:(Go.Pl.preT (fun(x:List Int×Int×Unit)=>Zt x.1) [(.sl 1 false (List.map enc l)),(.int .i64 0)])=true∧(∃ y0:Bool,AV.pv (Zg (fun(x:List Int×Int×Unit)=>List.contains x.1 x.2.1) [(.sl 1 false (List.map enc l)),(.int .i64 0)])=AV.pv (enc y0)∧(if (y0)=true then G ((.tup [(.int .i64 0),(.int .i64 0)]))else(At UD 0 (Za VE G) Uf 0 29 [(4,(.pv (.int .i64 1))),(11,(.pv (.sl 1 false (List.map enc l)))),(12,(.pv (.int .i64 (↑(List.length (List.map enc l)):Int)))),(13,(.pv (.int .i64 0)))] [])))):Zc UD 0 (Za VE G) Uf [] (Yx 29 [enc l]):=Zc.tp (.req (.abs (Bool) (fun YY=>AV.pv (enc YY)) (.ask (.nil) (.nil)))) h (by kernel_rfl)
theorem NR{G:PV->Prop}(l:List Int)(o i:Int)(h:if (decide (i<(↑(List.length l):Int)))=true then(decide (0<=i)&&decide (Int.toNat i<List.length (List.map enc l))&&Enc.sz Int==1)=true∧(∃ y0:Int,AV.pv (PV.rptr (PV.cells (List.getD (List.map enc l) (Int.toNat i) default)))=AV.pv (PV.rptr (PV.cells ((enc) y0)))∧(∃ y1:Int×Int,AV.pv (Zg (fun(x:Int×Int×Unit)=>DZ x.1 x.2.1) [(.int .i64 o),(.int .i64 (PV.asInt (List.getD (PV.cells (enc y0)) 0 default)))])=AV.pv (enc y1)∧(if (y1.2 != 0)=true then G ((.tup [(.int .i64 0),(.int .i64 y1.2)]))else(At UD 0 (Za VE G) Uf 0 29 [(4,(.pv (.int .i64 y1.1))),(11,(.pv (.sl 1 false (List.map enc l)))),(12,(.pv (.int .i64 (↑(List.length l):Int)))),(13,(.pv (.int .i64 (IntKind.wrap IntKind.i64 (i+1)))))] []))))else(G ((.tup [(.int .i64 o),(.int .i64 0)])))):At UD 0 (Za VE G) Uf 0 29 [(4,.pv (.int .i64 o)),(11,.pv (enc l)),(12,.pv (.int .i64 l.length)),(13,.pv (.int .i64 i))] []:=At.tp (.lit (.ask (.req (.abs (Int) (fun YY=>AV.pv (PV.rptr (PV.cells ((enc) YY)))) (.lit (.lit (.abs (Int×Int) (fun YY=>AV.pv (enc YY)) (.lit (.ask (.nil) (.lit (.nil))))))))) (.nil))) h (by kernel_rfl)
def ZC:IC:=(.seq (.reg [⟨(some 4),(.mv (.c (.int .i64 0))),0,none⟩,⟨(some 5),(.mv (.c (.int .i64 0))),0,none⟩] none) (.seq (.seq (.reg [⟨(some 20),(.mv (.t 0)),0,none⟩,⟨(some 21),(.call (.c (.fn 122)) [(.t 20)]),0,none⟩,⟨(some 22),(.un .not (.t 21)),2,none⟩] none) (.cond (.t 22) (.seq (.reg [⟨(some 4),(.mv (.c (.int .i64 0))),0,none⟩,⟨(some 5),(.mv (.c (.int .i64 1))),0,none⟩] none) .ret) .skip)) (.seq (.reg [⟨(some 6),(.mv (.c (.sl 0 true []))),0,none⟩] none) (.seq (.reg [⟨(some 7),(.mv (.c (.bool false))),0,none⟩] none) (.seq (.seq (.reg [⟨(some 23),(.mv (.t 0)),0,none⟩,⟨(some 24),(.len 1 (.t 23)),0,none⟩,⟨(some 25),(.mv (.c (.int .i64 0))),0,none⟩] none) (.block 0 (.loop [25,24,23,1,7,6] (.seq (.reg [⟨(some 26),(.bin .num .lss (.t 25) (.t 24)),0,none⟩] none) (.seq (.cond (.t 26) .skip (.exit 0)) (.seq (.block 1 (.seq (.reg [⟨(some 27),(.iaddr 2 (.t 23) (.t 25)),0,none⟩,⟨(some 28),(.load true [(.int .i64),(.sl 1)] (.t 27)),0,none⟩,⟨(some 9),(.alloc (.agg [(.int .i64 0),(.sl 0 true [])])),0,none⟩,⟨none,(.store 2 (.t 9) (.t 28)),1,none⟩] none) (.seq (.reg [⟨(some 29),(.faddr 0 (.t 9)),0,none⟩,⟨(some 30),(.load false [(.int .i64)] (.t 29)),0,none⟩,⟨(some 31),(.bslice 3 1 1 (.int .i64 0) [(0,(.t 30))]),0,none⟩,⟨(some 10),(.mv (.t 31)),1,none⟩] none) (.seq (.seq (.reg [⟨(some 32),(.faddr 1 (.t 9)),0,none⟩,⟨(some 33),(.load false [(.sl 1)] (.t 32)),0,none⟩,⟨(some 34),(.len 1 (.t 33)),0,none⟩,⟨(some 35),(.mv (.c (.int .i64 0))),0,none⟩] none) (.block 2 (.loop [35,34,33,1,7,10,6,25,24,23] (.seq (.reg [⟨(some 36),(.bin .num .lss (.t 35) (.t 34)),0,none⟩] none) (.seq (.cond (.t 36) .skip (.exit 2)) (.seq (.block 3 (.seq (.reg [⟨(some 37),(.iaddr 1 (.t 33) (.t 35)),0,none⟩,⟨(some 38),(.load false [.str] (.t 37)),0,none⟩,⟨(some 12),(.alloc (.str [])),0,none⟩,⟨none,(.store 1 (.t 12) (.t 38)),1,none⟩] none) (.seq (.reg [⟨(some 39),(.mv (.t 1)),0,none⟩,⟨(some 40),(.mkfn 188 [] [(.t 12)]),0,none⟩,⟨(some 41),(.call (.c (.fn 109)) [(.t 39),(.t 40)]),0,none⟩,⟨(some 13),(.mv (.t 41)),2,none⟩] none) (.seq (.seq (.reg [⟨(some 42),(.mv (.t 13)),0,none⟩,⟨(some 43),(.bin .num .lss (.t 42) (.c (.int .i64 0))),0,none⟩] none) (.cond (.t 43) (.seq (.reg [⟨(some 4),(.mv (.c (.int .i64 0))),0,none⟩,⟨(some 5),(.mv (.c (.int .i64 7))),0,none⟩] none) .ret) .skip)) (.seq (.reg [⟨(some 44),(.mv (.t 1)),0,none⟩,⟨(some 45),(.mv (.t 13)),0,none⟩,⟨(some 46),(.iaddr 2 (.t 44) (.t 45)),0,none⟩,⟨(some 47),(.faddr 1 (.t 46)),0,none⟩,⟨(some 48),(.load false [(.int .i64)] (.t 47)),0,none⟩,⟨(some 14),(.mv (.t 48)),0,none⟩] none) (.seq (.reg [⟨(some 49),(.mv (.t 7)),0,none⟩,⟨(some 50),(.mv (.t 49)),0,none⟩,⟨(some 51),(.mv (.t 14)),0,(some (50,false))⟩,⟨(some 52),(.bin .num .lss (.t 51) (.c (.int .i64 (-4611686018427387904)))),0,(some (50,false))⟩,⟨(some 53),(.pick (.t 50) (.c (.bool true)) (.t 52)),0,none⟩,⟨(some 54),(.mv (.t 53)),0,none⟩,⟨(some 55),(.mv (.t 14)),0,(some (54,false))⟩,⟨(some 56),(.bin .num .gtr (.t 55) (.c (.int .i64 4611686018427387904))),0,(some (54,false))⟩,⟨(some 57),(.pick (.t 54) (.c (.bool true)) (.t 56)),0,none⟩,⟨(some 7),(.mv (.t 57)),0,none⟩] none) (.reg [⟨(some 58),(.mv (.t 10)),0,none⟩,⟨(some 59),(.mv (.t 14)),0,none⟩,⟨(some 60),(.bslice 3 1 1 (.int .i64 0) [(0,(.t 59))]),0,none⟩,⟨(some 61),(.append 3 1 8 (.t 58) (.t 60)),1,none⟩,⟨(some 10),(.mv (.t 61)),2,none⟩] none))))))) (.reg [⟨(some 62),(.bin .num .add (.t 35) (.c (.int .i64 1))),0,none⟩,⟨(some 35),(.mv (.t 62)),0,none⟩] none))))))) (.reg [⟨(some 63),(.mv (.t 6)),0,none⟩,⟨(some 64),(.mv (.t 10)),0,none⟩,⟨(some 65),(.bslice 34 1 1 (.sl 0 true []) [(0,(.t 64))]),0,none⟩,⟨(some 66),(.append 34 1 24 (.t 63) (.t 65)),1,none⟩,⟨(some 6),(.mv (.t 66)),2,none⟩] none))))) (.reg [⟨(some 67),(.bin .num .add (.t 25) (.c (.int .i64 1))),0,none⟩,⟨(some 25),(.mv (.t 67)),0,none⟩] none))))))) (.seq (.seq (.reg [⟨(some 68),(.mv (.t 7)),0,none⟩] none) (.cond (.t 68) (.seq (.reg [⟨(some 4),(.mv (.c (.int .i64 0))),0,none⟩,⟨(some 5),(.mv (.c (.int .i64 2))),0,none⟩] none) .ret) .skip)) (.seq (.reg [⟨(some 15),(.mv (.c (.sl 0 true []))),0,none⟩] none) (.seq (.seq (.reg [⟨(some 69),(.mv (.t 6)),0,none⟩,⟨(some 70),(.len 1 (.t 69)),0,none⟩,⟨(some 71),(.mv (.c (.int .i64 0))),0,none⟩] none) (.block 4 (.loop [71,70,69,15] (.seq (.reg [⟨(some 72),(.bin .num .lss (.t 71) (.t 70)),0,none⟩] none) (.seq (.cond (.t 72) .skip (.exit 4)) (.seq (.block 5 (.seq (.reg [⟨(some 73),(.iaddr 1 (.t 69) (.t 71)),0,none⟩,⟨(some 74),(.load false [(.sl 1)] (.t 73)),0,none⟩,⟨(some 17),(.mv (.t 74)),0,none⟩] none) (.seq (.reg [⟨(some 76),(.mv (.t 17)),0,none⟩,⟨(some 77),(.call (.c (.fn 189)) [(.t 76)]),0,none⟩,⟨(some 75),(.mv (.t 77)),2,none⟩,⟨(some 78),(.extract (.t 75) 0),2,none⟩,⟨(some 79),(.extract (.t 75) 1),2,none⟩,⟨(some 18),(.mv (.t 78)),2,none⟩,⟨(some 19),(.mv (.t 79)),2,none⟩] none) (.seq (.seq (.reg [⟨(some 80),(.mv (.t 19)),0,none⟩,⟨(some 81),(.bin .num .neq (.t 80) (.c (.int .i64 0))),0,none⟩] none) (.cond (.t 81) (.seq (.reg [⟨(some 4),(.mv (.c (.int .i64 0))),0,none⟩,⟨(some 5),(.mv (.c (.int .i64 2))),0,none⟩] none) .ret) .skip)) (.reg [⟨(some 82),(.mv (.t 15)),0,none⟩,⟨(some 83),(.mv (.t 18)),0,none⟩,⟨(some 84),(.bslice 3 1 1 (.int .i64 0) [(0,(.t 83))]),0,none⟩,⟨(some 85),(.append 3 1 8 (.t 82) (.t 84)),1,none⟩,⟨(some 15),(.mv (.t 85)),2,none⟩] none))))) (.reg [⟨(some 86),(.bin .num .add (.t 71) (.c (.int .i64 1))),0,none⟩,⟨(some 71),(.mv (.t 86)),0,none⟩] none))))))) (.seq (.reg [⟨(some 87),(.mv (.t 15)),0,none⟩,⟨(some 88),(.call (.c (.fn 190)) [(.t 87)]),0,none⟩,⟨(some 89),(.extract (.t 88) 0),2,none⟩,⟨(some 90),(.extract (.t 88) 1),2,none⟩,⟨(some 4),(.mv (.t 89)),2,none⟩,⟨(some 5),(.mv (.t 90)),2,none⟩] none) .ret)))))))))
def ZB:List IRes:=[(.tmp 4),(.tmp 5)]
abbrev b2h:Nat:=91
def ZK:ZE:=Xi [(122,.pure (preT (fun x:List Mono×Unit=>Yc x.1)) (Zg (fun x:List Mono×Unit=>ZZ x.1))),(109,.own (VB 188) Db),(189,.pure (preT (fun x:List Int×Unit=>Zt x.1)) (Zg (fun x:List Int×Unit=>Y0 x.1))),(190,.pure (preT (fun x:List Int×Unit=>decide (x.1.length<=10000))) (Zg (fun x:List Int×Unit=>Vp x.1)))]
theorem b4r{G:PV->Prop}(p:List Mono)(vs:List Coef)(h:(Go.Pl.preT (fun(x:List Mono×Unit)=>Yc x.1) [(.sl 2 false (List.map enc p))])=true∧(∃ y0:Bool,AV.pv (Zg (fun(x:List Mono×Unit)=>ZZ x.1) [(.sl 2 false (List.map enc p))])=AV.pv (enc y0)∧(if (!y0)=true then G ((.tup [(.int .i64 0),(.int .i64 1)]))else(At ZK 0 (Za ZB G) ZC 0 91 [(1,(.pv (.sl 2 false (List.map enc vs)))),(6,(.pv (.sl 0 true []))),(7,(.pv (.bool false))),(23,(.pv (.sl 2 false (List.map enc p)))),(24,(.pv (.int .i64 (↑(List.length (List.map enc p)):Int)))),(25,(.pv (.int .i64 0)))] [])))):Zc ZK 0 (Za ZB G) ZC [] (Yx 91 [enc p,enc vs]):=Zc.tp (.req (.abs (Bool) (fun YY=>AV.pv (enc YY)) (.ask (.nil) (.nil)))) h (by kernel_rfl)
theorem Ar{G:PV->Prop}(p:List Mono)(vs:List Coef)(bd:Bool)(i:Int)(h:if (decide (i<(↑(List.length p):Int)))=true then(decide (0<=i)&&decide (Int.toNat i<List.length (List.map enc p))&&Enc.sz Mono==2)=true∧(∃ y0:Mono,AV.pv (PV.rptr (PV.cells (List.getD (List.map enc p) (Int.toNat i) default)))=AV.pv (PV.rptr (PV.cells ((enc) y0)))∧(At ZK 0 (Za ZB G) ZC 1 91 [(1,(.pv (.sl 2 false (List.map enc vs)))),(6,(.pv (.sl 0 true []))),(7,(.pv (.bool bd))),(10,(.row 0 1 0 1)),(23,(.pv (.sl 2 false (List.map enc p)))),(24,(.pv (.int .i64 (↑(List.length p):Int)))),(25,(.pv (.int .i64 i))),(33,(.pv (.sl 1 false (PV.asXs (List.getD (PV.cells (enc y0)) (0+1) default))))),(34,(.pv (.int .i64 (↑(List.length (PV.asXs (List.getD (PV.cells (enc y0)) (0+1) default))):Int)))),(35,(.pv (.int .i64 0)))] [(.obj (.row false 3 1 [(.int .i64 (PV.asInt (List.getD (PV.cells (enc y0)) 0 default)))]))]))else(if (bd)=true then G ((.tup [(.int .i64 0),(.int .i64 2)]))else(At ZK 0 (Za ZB G) ZC 2 91 [(15,(.pv (.sl 0 true []))),(69,(.pv (.sl 0 true []))),(70,(.pv (.int .i64 0))),(71,(.pv (.int .i64 0)))] []))):At ZK 0 (Za ZB G) ZC 0 91 [(6,.pv (.sl 0 true [])),(1,.pv (enc vs)),(7,.pv (.bool bd)),(23,.pv (enc p)),(24,.pv (.int .i64 p.length)),(25,.pv (.int .i64 i))] []:=At.tp (.lit (.ask (.req (.abs (Mono) (fun YY=>AV.pv (PV.rptr (PV.cells ((enc) YY)))) (.lit (.lit (.nil))))) (.ask (.nil) (.nil)))) h (by kernel_rfl)
theorem Sm{G:PV->Prop}(p:List Mono)(vs:List Coef)(bd:Bool)(i:Int)(q:Nat)(fs:List (List Int))(h:if (decide (i<(↑(List.length p):Int)))=true then(decide (0<=i)&&decide (Int.toNat i<List.length (List.map enc p))&&Enc.sz Mono==2)=true∧(∃ y0:Mono,AV.pv (PV.rptr (PV.cells (List.getD (List.map enc p) (Int.toNat i) default)))=AV.pv (PV.rptr (PV.cells ((enc) y0)))∧(At ZK 0 (Za ZB G) ZC 1 91 [(1,(.pv (.sl 2 false (List.map enc vs)))),(6,(.row 0 q 0 q)),(7,(.pv (.bool bd))),(10,(.row 1 1 0 1)),(23,(.pv (.sl 2 false (List.map enc p)))),(24,(.pv (.int .i64 (↑(List.length p):Int)))),(25,(.pv (.int .i64 i))),(33,(.pv (.sl 1 false (PV.asXs (List.getD (PV.cells (enc y0)) (0+1) default))))),(34,(.pv (.int .i64 (↑(List.length (PV.asXs (List.getD (PV.cells (enc y0)) (0+1) default))):Int)))),(35,(.pv (.int .i64 0)))] [(.obj (.row false 34 1 (List.map enc fs))),(.obj (.row false 3 1 [(.int .i64 (PV.asInt (List.getD (PV.cells (enc y0)) 0 default)))]))]))else(if (bd)=true then G ((.tup [(.int .i64 0),(.int .i64 2)]))else(At ZK 0 (Za ZB G) ZC 2 91 [(15,(.pv (.sl 0 true []))),(69,(.row 0 q 0 q)),(70,(.pv (.int .i64 (↑(q - 0):Int)))),(71,(.pv (.int .i64 0)))] [(.obj (.row false 34 1 (List.map enc fs)))]))):At ZK 0 (Za ZB G) ZC 0 91 [(6,.row 0 q 0 q),(1,.pv (enc vs)),(7,.pv (.bool bd)),(23,.pv (enc p)),(24,.pv (.int .i64 p.length)),(25,.pv (.int .i64 i))] [.obj (.row false 34 1 (fs.map enc))]:=At.tp (.lit (.ask (.req (.abs (Mono) (fun YY=>AV.pv (PV.rptr (PV.cells ((enc) YY)))) (.lit (.lit (.nil))))) (.ask (.nil) (.nil)))) h (by kernel_rfl)
theorem SB{G:PV->Prop}(p:List Mono)(vs:List Coef)(bd:Bool)(i j:Int)(ns:List Str)(r:Nat)(l:List Int)(h:if (decide (j<(↑(List.length ns):Int)))=true then(decide (0<=j)&&decide (Int.toNat j<List.length (List.map enc ns))&&Enc.sz Str==1)=true∧(∃ y0:Str,AV.pv (PV.rptr (PV.cells (List.getD (List.map enc ns) (Int.toNat j) default)))=AV.pv (PV.rptr (PV.cells ((enc) y0)))∧((VB 188 [(.pv (.sl 2 false (List.map enc vs))),(.fn 188 [] [(.ptr 0 0)])] [(.box [(.pv (.str (PV.asStr (List.getD (PV.cells (enc y0)) 0 default))))])])=true∧(if (decide (Zx (fun(t:Coef)=>Str.s t.v==PV.asStr (List.getD (PV.cells (enc y0)) 0 default)) (QC (enc vs))<0))=true then G ((.tup [(.int .i64 0),(.int .i64 7)]))else((decide (0<=Zx (fun(t:Coef)=>Str.s t.v==PV.asStr (List.getD (PV.cells (enc y0)) 0 default)) (QC (enc vs)))&&decide (Int.toNat (Zx (fun(t:Coef)=>Str.s t.v==PV.asStr (List.getD (PV.cells (enc y0)) 0 default)) (QC (enc vs)))<List.length (List.map enc vs))&&Enc.sz Coef==2)=true∧(∃ y1:Coef,AV.pv (PV.rptr (PV.cells (List.getD (List.map enc vs) (Int.toNat (Zx (fun(t:Coef)=>Str.s t.v==PV.asStr (List.getD (PV.cells (enc y0)) 0 default)) (QC (enc vs)))) default)))=AV.pv (PV.rptr (PV.cells ((enc) y1)))∧(if (bd)=true then(List.length (List.map enc l)==r&&r==r&&decide ((r+List.length (List.drop 0 (List.take 1 [Sh.co (Sh.int .i64) (List.getD (List.drop 1 (PV.cells (enc y1))) 0 default)])))*8<=1099511627776)&&decide (r+List.length (List.drop 0 (List.take 1 [Sh.co (Sh.int .i64) (List.getD (List.drop 1 (PV.cells (enc y1))) 0 default)]))<=1099511627776))=true∧(At ZK 0 (Za ZB G) ZC 1 91 [(1,(.pv (.sl 2 false (List.map enc vs)))),(6,(.pv (.sl 0 true []))),(7,(.pv (.bool true))),(10,(.row 0 (r+List.length (List.drop 0 (List.take 1 [Sh.co (Sh.int .i64) (List.getD (List.drop 1 (PV.cells (enc y1))) 0 default)]))) 0 (r+List.length (List.drop 0 (List.take 1 [Sh.co (Sh.int .i64) (List.getD (List.drop 1 (PV.cells (enc y1))) 0 default)]))))),(23,(.pv (.sl 2 false (List.map enc p)))),(24,(.pv (.int .i64 (↑(List.length p):Int)))),(25,(.pv (.int .i64 i))),(33,(.pv (.sl 1 false (List.map enc ns)))),(34,(.pv (.int .i64 (↑(List.length ns):Int)))),(35,(.pv (.int .i64 (IntKind.wrap IntKind.i64 (j+1)))))] [(.obj (.row false 3 1 (List.map enc l++List.drop 0 (List.take 1 [Sh.co (Sh.int .i64) (List.getD (List.drop 1 (PV.cells (enc y1))) 0 default)]))))])else(if (decide (PV.asInt (List.getD (List.drop 1 (PV.cells (enc y1))) 0 default)<(-4611686018427387904:Int)))=true then(List.length (List.map enc l)==r&&r==r&&decide ((r+List.length (List.drop 0 (List.take 1 [Sh.co (Sh.int .i64) (List.getD (List.drop 1 (PV.cells (enc y1))) 0 default)])))*8<=1099511627776)&&decide (r+List.length (List.drop 0 (List.take 1 [Sh.co (Sh.int .i64) (List.getD (List.drop 1 (PV.cells (enc y1))) 0 default)]))<=1099511627776))=true∧(At ZK 0 (Za ZB G) ZC 1 91 [(1,(.pv (.sl 2 false (List.map enc vs)))),(6,(.pv (.sl 0 true []))),(7,(.pv (.bool true))),(10,(.row 0 (r+List.length (List.drop 0 (List.take 1 [Sh.co (Sh.int .i64) (List.getD (List.drop 1 (PV.cells (enc y1))) 0 default)]))) 0 (r+List.length (List.drop 0 (List.take 1 [Sh.co (Sh.int .i64) (List.getD (List.drop 1 (PV.cells (enc y1))) 0 default)]))))),(23,(.pv (.sl 2 false (List.map enc p)))),(24,(.pv (.int .i64 (↑(List.length p):Int)))),(25,(.pv (.int .i64 i))),(33,(.pv (.sl 1 false (List.map enc ns)))),(34,(.pv (.int .i64 (↑(List.length ns):Int)))),(35,(.pv (.int .i64 (IntKind.wrap IntKind.i64 (j+1)))))] [(.obj (.row false 3 1 (List.map enc l++List.drop 0 (List.take 1 [Sh.co (Sh.int .i64) (List.getD (List.drop 1 (PV.cells (enc y1))) 0 default)]))))])else((List.length (List.map enc l)==r&&r==r&&decide ((r+List.length (List.drop 0 (List.take 1 [Sh.co (Sh.int .i64) (List.getD (List.drop 1 (PV.cells (enc y1))) 0 default)])))*8<=1099511627776)&&decide (r+List.length (List.drop 0 (List.take 1 [Sh.co (Sh.int .i64) (List.getD (List.drop 1 (PV.cells (enc y1))) 0 default)]))<=1099511627776))=true∧(At ZK 0 (Za ZB G) ZC 1 91 [(1,(.pv (.sl 2 false (List.map enc vs)))),(6,(.pv (.sl 0 true []))),(7,(.pv (.bool (decide (PV.asInt (List.getD (List.drop 1 (PV.cells (enc y1))) 0 default)>4611686018427387904))))),(10,(.row 0 (r+List.length (List.drop 0 (List.take 1 [Sh.co (Sh.int .i64) (List.getD (List.drop 1 (PV.cells (enc y1))) 0 default)]))) 0 (r+List.length (List.drop 0 (List.take 1 [Sh.co (Sh.int .i64) (List.getD (List.drop 1 (PV.cells (enc y1))) 0 default)]))))),(23,(.pv (.sl 2 false (List.map enc p)))),(24,(.pv (.int .i64 (↑(List.length p):Int)))),(25,(.pv (.int .i64 i))),(33,(.pv (.sl 1 false (List.map enc ns)))),(34,(.pv (.int .i64 (↑(List.length ns):Int)))),(35,(.pv (.int .i64 (IntKind.wrap IntKind.i64 (j+1)))))] [(.obj (.row false 3 1 (List.map enc l++List.drop 0 (List.take 1 [Sh.co (Sh.int .i64) (List.getD (List.drop 1 (PV.cells (enc y1))) 0 default)]))))])))))))))else((List.length (List.map enc l)==r)=true∧(At ZK 0 (Za ZB G) ZC 0 91 [(1,(.pv (.sl 2 false (List.map enc vs)))),(6,(.row 0 1 0 1)),(7,(.pv (.bool bd))),(23,(.pv (.sl 2 false (List.map enc p)))),(24,(.pv (.int .i64 (↑(List.length p):Int)))),(25,(.pv (.int .i64 (IntKind.wrap IntKind.i64 (i+1)))))] [(.obj (.row false 34 1 [(.sl 1 false (List.drop 0 (List.take r (List.map enc l))))]))]))):At ZK 0 (Za ZB G) ZC 1 91 [(6,.pv (.sl 0 true [])),(1,.pv (enc vs)),(7,.pv (.bool bd)),(23,.pv (enc p)),(24,.pv (.int .i64 p.length)),(25,.pv (.int .i64 i)),(33,.pv (enc ns)),(34,.pv (.int .i64 ns.length)),(35,.pv (.int .i64 j)),(10,.row 0 r 0 r)] [.obj (.row false 3 1 (l.map enc))]:=At.tp (.lit (.ask (.req (.abs (Str) (fun YY=>AV.pv (PV.rptr (PV.cells ((enc) YY)))) (.lit (.req (.keep (.lit (.ask (.nil) (.req (.abs (Coef) (fun YY=>AV.pv (PV.rptr (PV.cells ((enc) YY)))) (.lit (.ask (.lit (.lit (.lit (.lit (.lit (.lit (.lit (.req (.lit (.nil)))))))))) (.lit (.lit (.lit (.ask (.lit (.lit (.lit (.lit (.req (.lit (.nil))))))) (.lit (.lit (.lit (.lit (.lit (.req (.lit (.nil))))))))))))))))))))))) (.req (.lit (.lit (.lit (.lit (.lit (.lit (.nil)))))))))) h (by kernel_rfl)
theorem SA{G:PV->Prop}(p:List Mono)(vs:List Coef)(bd:Bool)(i j:Int)(ns:List Str)(r:Nat)(l:List Int)(q:Nat)(fs:List (List Int))(h:if (decide (j<(↑(List.length ns):Int)))=true then(decide (0<=j)&&decide (Int.toNat j<List.length (List.map enc ns))&&Enc.sz Str==1)=true∧(∃ y0:Str,AV.pv (PV.rptr (PV.cells (List.getD (List.map enc ns) (Int.toNat j) default)))=AV.pv (PV.rptr (PV.cells ((enc) y0)))∧((VB 188 [(.pv (.sl 2 false (List.map enc vs))),(.fn 188 [] [(.ptr 0 0)])] [(.box [(.pv (.str (PV.asStr (List.getD (PV.cells (enc y0)) 0 default))))])])=true∧(if (decide (Zx (fun(t:Coef)=>Str.s t.v==PV.asStr (List.getD (PV.cells (enc y0)) 0 default)) (QC (enc vs))<0))=true then G ((.tup [(.int .i64 0),(.int .i64 7)]))else((decide (0<=Zx (fun(t:Coef)=>Str.s t.v==PV.asStr (List.getD (PV.cells (enc y0)) 0 default)) (QC (enc vs)))&&decide (Int.toNat (Zx (fun(t:Coef)=>Str.s t.v==PV.asStr (List.getD (PV.cells (enc y0)) 0 default)) (QC (enc vs)))<List.length (List.map enc vs))&&Enc.sz Coef==2)=true∧(∃ y1:Coef,AV.pv (PV.rptr (PV.cells (List.getD (List.map enc vs) (Int.toNat (Zx (fun(t:Coef)=>Str.s t.v==PV.asStr (List.getD (PV.cells (enc y0)) 0 default)) (QC (enc vs)))) default)))=AV.pv (PV.rptr (PV.cells ((enc) y1)))∧(if (bd)=true then(List.length (List.map enc l)==r&&r==r&&decide ((r+List.length (List.drop 0 (List.take 1 [Sh.co (Sh.int .i64) (List.getD (List.drop 1 (PV.cells (enc y1))) 0 default)])))*8<=1099511627776)&&decide (r+List.length (List.drop 0 (List.take 1 [Sh.co (Sh.int .i64) (List.getD (List.drop 1 (PV.cells (enc y1))) 0 default)]))<=1099511627776))=true∧(At ZK 0 (Za ZB G) ZC 1 91 [(1,(.pv (.sl 2 false (List.map enc vs)))),(6,(.row 0 q 0 q)),(7,(.pv (.bool true))),(10,(.row 1 (r+List.length (List.drop 0 (List.take 1 [Sh.co (Sh.int .i64) (List.getD (List.drop 1 (PV.cells (enc y1))) 0 default)]))) 0 (r+List.length (List.drop 0 (List.take 1 [Sh.co (Sh.int .i64) (List.getD (List.drop 1 (PV.cells (enc y1))) 0 default)]))))),(23,(.pv (.sl 2 false (List.map enc p)))),(24,(.pv (.int .i64 (↑(List.length p):Int)))),(25,(.pv (.int .i64 i))),(33,(.pv (.sl 1 false (List.map enc ns)))),(34,(.pv (.int .i64 (↑(List.length ns):Int)))),(35,(.pv (.int .i64 (IntKind.wrap IntKind.i64 (j+1)))))] [(.obj (.row false 34 1 (List.map enc fs))),(.obj (.row false 3 1 (List.map enc l++List.drop 0 (List.take 1 [Sh.co (Sh.int .i64) (List.getD (List.drop 1 (PV.cells (enc y1))) 0 default)]))))])else(if (decide (PV.asInt (List.getD (List.drop 1 (PV.cells (enc y1))) 0 default)<(-4611686018427387904:Int)))=true then(List.length (List.map enc l)==r&&r==r&&decide ((r+List.length (List.drop 0 (List.take 1 [Sh.co (Sh.int .i64) (List.getD (List.drop 1 (PV.cells (enc y1))) 0 default)])))*8<=1099511627776)&&decide (r+List.length (List.drop 0 (List.take 1 [Sh.co (Sh.int .i64) (List.getD (List.drop 1 (PV.cells (enc y1))) 0 default)]))<=1099511627776))=true∧(At ZK 0 (Za ZB G) ZC 1 91 [(1,(.pv (.sl 2 false (List.map enc vs)))),(6,(.row 0 q 0 q)),(7,(.pv (.bool true))),(10,(.row 1 (r+List.length (List.drop 0 (List.take 1 [Sh.co (Sh.int .i64) (List.getD (List.drop 1 (PV.cells (enc y1))) 0 default)]))) 0 (r+List.length (List.drop 0 (List.take 1 [Sh.co (Sh.int .i64) (List.getD (List.drop 1 (PV.cells (enc y1))) 0 default)]))))),(23,(.pv (.sl 2 false (List.map enc p)))),(24,(.pv (.int .i64 (↑(List.length p):Int)))),(25,(.pv (.int .i64 i))),(33,(.pv (.sl 1 false (List.map enc ns)))),(34,(.pv (.int .i64 (↑(List.length ns):Int)))),(35,(.pv (.int .i64 (IntKind.wrap IntKind.i64 (j+1)))))] [(.obj (.row false 34 1 (List.map enc fs))),(.obj (.row false 3 1 (List.map enc l++List.drop 0 (List.take 1 [Sh.co (Sh.int .i64) (List.getD (List.drop 1 (PV.cells (enc y1))) 0 default)]))))])else((List.length (List.map enc l)==r&&r==r&&decide ((r+List.length (List.drop 0 (List.take 1 [Sh.co (Sh.int .i64) (List.getD (List.drop 1 (PV.cells (enc y1))) 0 default)])))*8<=1099511627776)&&decide (r+List.length (List.drop 0 (List.take 1 [Sh.co (Sh.int .i64) (List.getD (List.drop 1 (PV.cells (enc y1))) 0 default)]))<=1099511627776))=true∧(At ZK 0 (Za ZB G) ZC 1 91 [(1,(.pv (.sl 2 false (List.map enc vs)))),(6,(.row 0 q 0 q)),(7,(.pv (.bool (decide (PV.asInt (List.getD (List.drop 1 (PV.cells (enc y1))) 0 default)>4611686018427387904))))),(10,(.row 1 (r+List.length (List.drop 0 (List.take 1 [Sh.co (Sh.int .i64) (List.getD (List.drop 1 (PV.cells (enc y1))) 0 default)]))) 0 (r+List.length (List.drop 0 (List.take 1 [Sh.co (Sh.int .i64) (List.getD (List.drop 1 (PV.cells (enc y1))) 0 default)]))))),(23,(.pv (.sl 2 false (List.map enc p)))),(24,(.pv (.int .i64 (↑(List.length p):Int)))),(25,(.pv (.int .i64 i))),(33,(.pv (.sl 1 false (List.map enc ns)))),(34,(.pv (.int .i64 (↑(List.length ns):Int)))),(35,(.pv (.int .i64 (IntKind.wrap IntKind.i64 (j+1)))))] [(.obj (.row false 34 1 (List.map enc fs))),(.obj (.row false 3 1 (List.map enc l++List.drop 0 (List.take 1 [Sh.co (Sh.int .i64) (List.getD (List.drop 1 (PV.cells (enc y1))) 0 default)]))))])))))))))else((List.length (List.map enc l)==r)=true∧((List.length (List.map enc fs)==q&&q==q&&decide ((q+List.length (List.drop 0 (List.take 1 [PV.sl 1 false (List.drop 0 (List.take r (List.map enc l)))])))*24<=1099511627776)&&decide (q+List.length (List.drop 0 (List.take 1 [PV.sl 1 false (List.drop 0 (List.take r (List.map enc l)))]))<=1099511627776))=true∧(At ZK 0 (Za ZB G) ZC 0 91 [(1,(.pv (.sl 2 false (List.map enc vs)))),(6,(.row 0 (q+List.length (List.drop 0 (List.take 1 [PV.sl 1 false (List.drop 0 (List.take r (List.map enc l)))]))) 0 (q+List.length (List.drop 0 (List.take 1 [PV.sl 1 false (List.drop 0 (List.take r (List.map enc l)))]))))),(7,(.pv (.bool bd))),(23,(.pv (.sl 2 false (List.map enc p)))),(24,(.pv (.int .i64 (↑(List.length p):Int)))),(25,(.pv (.int .i64 (IntKind.wrap IntKind.i64 (i+1)))))] [(.obj (.row false 34 1 (List.map enc fs++List.drop 0 (List.take 1 [PV.sl 1 false (List.drop 0 (List.take r (List.map enc l)))]))))])))):At ZK 0 (Za ZB G) ZC 1 91 [(6,.row 0 q 0 q),(1,.pv (enc vs)),(7,.pv (.bool bd)),(23,.pv (enc p)),(24,.pv (.int .i64 p.length)),(25,.pv (.int .i64 i)),(33,.pv (enc ns)),(34,.pv (.int .i64 ns.length)),(35,.pv (.int .i64 j)),(10,.row 1 r 0 r)] [.obj (.row false 34 1 (fs.map enc)),.obj (.row false 3 1 (l.map enc))]:=At.tp (.lit (.ask (.req (.abs (Str) (fun YY=>AV.pv (PV.rptr (PV.cells ((enc) YY)))) (.lit (.req (.keep (.lit (.ask (.nil) (.req (.abs (Coef) (fun YY=>AV.pv (PV.rptr (PV.cells ((enc) YY)))) (.lit (.ask (.lit (.lit (.lit (.lit (.lit (.lit (.lit (.req (.lit (.nil)))))))))) (.lit (.lit (.lit (.ask (.lit (.lit (.lit (.lit (.req (.lit (.nil))))))) (.lit (.lit (.lit (.lit (.lit (.req (.lit (.nil))))))))))))))))))))))) (.req (.lit (.lit (.req (.lit (.nil)))))))) h (by kernel_rfl)
theorem a1a{G:PV->Prop}(p:List Mono)(vs:List Coef)(i:Int)(q:Nat)(fs:List (List Int))(h:if (decide (i<(↑q:Int)))=true then(decide (0<=i)&&decide (0+Int.toNat i<q)&&List.length (List.map enc fs)==q)=true∧((List.length (List.map enc fs)==q&&decide (0+Int.toNat i<List.length (List.map enc fs)))=true∧((decide (0+List.length [Sh.sl 1]<=List.length (PV.cells (List.getD (List.map enc fs) (0+Int.toNat i) default)))&&Y4 (PV.cells (List.getD (List.map enc fs) (0+Int.toNat i) default)) 0 [Sh.sl 1])=true∧((Go.Pl.preT (fun(x:List Int×Unit)=>Zt x.1) [(.sl 1 (PV.asT (List.getD (PV.cells (List.getD (List.map enc fs) (0+Int.toNat i) default)) 0 default)) (PV.asXs (List.getD (PV.cells (List.getD (List.map enc fs) (0+Int.toNat i) default)) 0 default)))])=true∧(∃ y0:Int×Int,AV.pv (Zg (fun(x:List Int×Unit)=>Y0 x.1) [(.sl 1 (PV.asT (List.getD (PV.cells (List.getD (List.map enc fs) (0+Int.toNat i) default)) 0 default)) (PV.asXs (List.getD (PV.cells (List.getD (List.map enc fs) (0+Int.toNat i) default)) 0 default)))])=AV.pv (enc y0)∧(if (y0.2 != 0)=true then G ((.tup [(.int .i64 0),(.int .i64 2)]))else(At ZK 0 (Za ZB G) ZC 2 91 [(15,(.row 0 1 0 1)),(69,(.row 1 q 0 q)),(70,(.pv (.int .i64 (↑q:Int)))),(71,(.pv (.int .i64 (IntKind.wrap IntKind.i64 (i+1)))))] [(.obj (.row false 3 1 [(.int .i64 y0.1)])),(.obj (.row false 34 1 (List.map enc fs)))]))))))else(∃ y1:Int×Int,AV.pv (Zg (fun(x:List Int×Unit)=>Vp x.1) [(.sl 0 true [])])=AV.pv (enc y1)∧(G ((.tup [(.int .i64 y1.1),(.int .i64 y1.2)]))))):At ZK 0 (Za ZB G) ZC 2 91 [(15,.pv (.sl 0 true [])),(69,.row 0 q 0 q),(70,.pv (.int .i64 q)),(71,.pv (.int .i64 i))] [.obj (.row false 34 1 (fs.map enc))]:=At.tp (.lit (.ask (.req (.keep (.req (.req (.req (.abs (Int×Int) (fun YY=>AV.pv (enc YY)) (.lit (.ask (.nil) (.lit (.lit (.lit (.lit (.lit (.lit (.nil))))))))))))))) (.lit (.abs (Int×Int) (fun YY=>AV.pv (enc YY)) (.nil))))) h (by kernel_rfl)
theorem Sk{G:PV->Prop}(p:List Mono)(vs:List Coef)(i:Int)(q:Nat)(fs:List (List Int))(r:Nat)(ps:List Int)(h:if (decide (i<(↑q:Int)))=true then(decide (0<=i)&&decide (0+Int.toNat i<q)&&List.length (List.map enc fs)==q)=true∧((List.length (List.map enc fs)==q&&decide (0+Int.toNat i<List.length (List.map enc fs)))=true∧((decide (0+List.length [Sh.sl 1]<=List.length (PV.cells (List.getD (List.map enc fs) (0+Int.toNat i) default)))&&Y4 (PV.cells (List.getD (List.map enc fs) (0+Int.toNat i) default)) 0 [Sh.sl 1])=true∧((Go.Pl.preT (fun(x:List Int×Unit)=>Zt x.1) [(.sl 1 (PV.asT (List.getD (PV.cells (List.getD (List.map enc fs) (0+Int.toNat i) default)) 0 default)) (PV.asXs (List.getD (PV.cells (List.getD (List.map enc fs) (0+Int.toNat i) default)) 0 default)))])=true∧(∃ y0:Int×Int,AV.pv (Zg (fun(x:List Int×Unit)=>Y0 x.1) [(.sl 1 (PV.asT (List.getD (PV.cells (List.getD (List.map enc fs) (0+Int.toNat i) default)) 0 default)) (PV.asXs (List.getD (PV.cells (List.getD (List.map enc fs) (0+Int.toNat i) default)) 0 default)))])=AV.pv (enc y0)∧(if (y0.2 != 0)=true then G ((.tup [(.int .i64 0),(.int .i64 2)]))else((List.length (List.map enc ps)==r&&r==r&&decide ((r+List.length (List.drop 0 (List.take 1 [enc y0.1])))*8<=1099511627776)&&decide (r+List.length (List.drop 0 (List.take 1 [enc y0.1]))<=1099511627776))=true∧(At ZK 0 (Za ZB G) ZC 2 91 [(15,(.row 0 (r+List.length (List.drop 0 (List.take 1 [enc y0.1]))) 0 (r+List.length (List.drop 0 (List.take 1 [enc y0.1]))))),(69,(.row 1 q 0 q)),(70,(.pv (.int .i64 (↑q:Int)))),(71,(.pv (.int .i64 (IntKind.wrap IntKind.i64 (i+1)))))] [(.obj (.row false 3 1 (List.map enc ps++List.drop 0 (List.take 1 [enc y0.1])))),(.obj (.row false 34 1 (List.map enc fs)))])))))))else((List.length (List.map enc ps)==r)=true∧((Go.Pl.preT (fun(x:List Int×Unit)=>decide (List.length x.1<=10000)) [(.sl 1 false (List.drop 0 (List.take r (List.map enc ps))))])=true∧(∃ y1:Int×Int,AV.pv (Zg (fun(x:List Int×Unit)=>Vp x.1) [(.sl 1 false (List.drop 0 (List.take r (List.map enc ps))))])=AV.pv (enc y1)∧(G ((.tup [(.int .i64 y1.1),(.int .i64 y1.2)]))))))):At ZK 0 (Za ZB G) ZC 2 91 [(15,.row 0 r 0 r),(69,.row 1 q 0 q),(70,.pv (.int .i64 q)),(71,.pv (.int .i64 i))] [.obj (.row false 3 1 (ps.map enc)),.obj (.row false 34 1 (fs.map enc))]:=At.tp (.lit (.ask (.req (.keep (.req (.req (.req (.abs (Int×Int) (fun YY=>AV.pv (enc YY)) (.lit (.ask (.nil) (.lit (.lit (.req (.lit (.nil))))))))))))) (.req (.req (.abs (Int×Int) (fun YY=>AV.pv (enc YY)) (.nil)))))) h (by kernel_rfl)
theorem a1z{G:PV->Prop}(p:List Mono)(vs:List Coef)(h : ∃ y0:Int×Int,AV.pv (Zg (fun(x:List Int×Unit)=>Vp x.1) [(.sl 0 true [])])=AV.pv (enc y0)∧(G ((.tup [(.int .i64 y0.1),(.int .i64 y0.2)])))):At ZK 0 (Za ZB G) ZC 2 91 [(15,.pv (.sl 0 true [])),(69,.pv (.sl 0 true [])),(70,.pv (.int .i64 0)),(71,.pv (.int .i64 0))] []:=At.tp (.lit (.lit (.lit (.abs (Int×Int) (fun YY=>AV.pv (enc YY)) (.nil))))) h (by kernel_rfl)
def DD:IC:=(.reg [⟨(some 4),(.load false [(.sl 1)] (.t 1)),0,none⟩,⟨(some 5),(.mv (.t 0)),0,none⟩,⟨(some 6),(.bin .num .shr (.t 5) (.c (.int .u64 31))),0,none⟩,⟨(some 7),(.bslice 3 1 1 (.int .i64 0) [(0,(.t 6))]),0,none⟩,⟨(some 8),(.append 3 1 8 (.t 4) (.t 7)),1,none⟩,⟨(some 9),(.load false [(.sl 1)] (.t 2)),2,none⟩,⟨(some 10),(.mv (.t 0)),2,none⟩,⟨(some 11),(.bin .num .and (.t 10) (.c (.int .i64 2147483647))),2,none⟩,⟨(some 12),(.bslice 3 1 1 (.int .i64 0) [(0,(.t 11))]),2,none⟩,⟨(some 13),(.append 3 1 8 (.t 9) (.t 12)),3,none⟩,⟨none,(.store 1 (.t 1) (.t 8)),4,none⟩,⟨none,(.store 1 (.t 2) (.t 13)),4,none⟩] (some [[],[],[1],[2,1],[0,3,2,1],[],[],[6],[7,6],[5,8,4,7,6,0,3,2,1],[4,9,0,1,2,3,5,8,7,6],[9,10,0,1,2,3,4,5,6,7,8]]))
def Dp:List IRes:=[]
abbrev b5r:Nat:=14
def TT:ZE:=Xi []
theorem c1h{G:AV×List AObj×List AObj->Prop}(n:Int)(h:G (((.tup []),([(.box [(.row 2 1 0 1)]),(.box [(.row 3 1 0 1)])],[(.row false 3 1 [(.int .i64 (Int.fdiv n (2 ^ min (Int.toNat 31) (IntKind.bits IntKind.i64))))]),(.row false 3 1 [(.int .i64 (IntKind.wrap IntKind.i64 (↑(BitVec.toNat (BitVec.ofInt (IntKind.bits IntKind.i64) n &&& BitVec.ofInt (IntKind.bits IntKind.i64) 2147483647)):Int)))])])))):Zc TT 2 (Zh 2 Dp G) DD [] (YH 14 [.pv (.int .i64 n),.ptr 0 0,.ptr 1 0] [.box [.pv (.sl 0 true [])],.box [.pv (.sl 0 true [])]]):=Zc.to (.lit (.lit (.lit (.lit (.lit (.lit (.lit (.lit (.lit (.lit (.lit (.lit (.nil))))))))))))) h (by kernel_rfl)
theorem c1g{G:AV×List AObj×List AObj->Prop}(n:Int)(q:Nat)(xs ys:List PV)(h:(List.length xs==q&&q==q&&decide ((q+List.length (List.drop 0 (List.take 1 [PV.int .i64 (Int.fdiv n (2 ^ min (Int.toNat 31) (IntKind.bits IntKind.i64)))])))*8<=1099511627776)&&decide (q+List.length (List.drop 0 (List.take 1 [PV.int .i64 (Int.fdiv n (2 ^ min (Int.toNat 31) (IntKind.bits IntKind.i64)))]))<=1099511627776))=true∧((List.length ys==q&&q==q&&decide ((q+List.length (List.drop 0 (List.take 1 [PV.int .i64 (IntKind.wrap IntKind.i64 (↑(BitVec.toNat (BitVec.ofInt (IntKind.bits IntKind.i64) n &&& BitVec.ofInt (IntKind.bits IntKind.i64) 2147483647)):Int))])))*8<=1099511627776)&&decide (q+List.length (List.drop 0 (List.take 1 [PV.int .i64 (IntKind.wrap IntKind.i64 (↑(BitVec.toNat (BitVec.ofInt (IntKind.bits IntKind.i64) n &&& BitVec.ofInt (IntKind.bits IntKind.i64) 2147483647)):Int))]))<=1099511627776))=true∧(G (((.tup []),([(.box [(.row 2 (q+List.length (List.drop 0 (List.take 1 [PV.int .i64 (Int.fdiv n (2 ^ min (Int.toNat 31) (IntKind.bits IntKind.i64)))]))) 0 (q+List.length (List.drop 0 (List.take 1 [PV.int .i64 (Int.fdiv n (2 ^ min (Int.toNat 31) (IntKind.bits IntKind.i64)))]))))]),(.box [(.row 3 (q+List.length (List.drop 0 (List.take 1 [PV.int .i64 (IntKind.wrap IntKind.i64 (↑(BitVec.toNat (BitVec.ofInt (IntKind.bits IntKind.i64) n &&& BitVec.ofInt (IntKind.bits IntKind.i64) 2147483647)):Int))]))) 0 (q+List.length (List.drop 0 (List.take 1 [PV.int .i64 (IntKind.wrap IntKind.i64 (↑(BitVec.toNat (BitVec.ofInt (IntKind.bits IntKind.i64) n &&& BitVec.ofInt (IntKind.bits IntKind.i64) 2147483647)):Int))]))))]),(.row false 3 1 (xs++List.drop 0 (List.take 1 [PV.int .i64 (Int.fdiv n (2 ^ min (Int.toNat 31) (IntKind.bits IntKind.i64)))]))),(.row false 3 1 (ys++List.drop 0 (List.take 1 [PV.int .i64 (IntKind.wrap IntKind.i64 (↑(BitVec.toNat (BitVec.ofInt (IntKind.bits IntKind.i64) n &&& BitVec.ofInt (IntKind.bits IntKind.i64) 2147483647)):Int))])))],[])))))):Zc TT 4 (Zh 4 Dp G) DD [] (YH 14 [.pv (.int .i64 n),.ptr 0 0,.ptr 1 0] [.box [.row 2 q 0 q],.box [.row 3 q 0 q],.row false 3 1 xs,.row false 3 1 ys]):=Zc.to (.lit (.lit (.lit (.req (.lit (.lit (.lit (.req (.nil))))))))) h (by kernel_rfl)
end Go.Pl

namespace Go.Pl
open Go.RowKit
open Enc (enc dec is)
open EncL (encL decL isL)
def Ul(p:List Mono)(i:Nat):List Str:=(p.take i).flatMap (·.v)
theorem PQ(p:List Mono){i:Nat}(h:i<p.length):Ul p (i+1)=Ul p i++p[i].v:=by
 unfold Ul
 rw[List.take_succ_eq_append_getElem h,List.flatMap_append]
 simp
theorem Rp(p:List Mono)(hp : ∀ m∈p,m.v.length<=8): ∀ i,i<=p.length->(Ul p i).length<=8*i:=by
 intro i
 induction i with
 | zero=>intro _;simp[Ul]
 | succ i ih=>
  intro hi
  have:=ih (by omega)
  rw[PQ p (by omega),List.length_append]
  have:=hp _ (List.getElem_mem (show i<p.length by omega))
  omega
theorem JX{p:List Mono}(h:ZZ p=true):p.length<=60∧ ∀ m∈p,m.v.length<=8:=by
 unfold ZZ at h
 simp only[Bool.and_eq_true,decide_eq_true_eq]at h
 refine⟨h.1.1,fun m hm=> ?_⟩
 have:=List.all_eq_true.1 h.1.2 m hm
 unfold WA at this
 simp only[Bool.and_eq_true,decide_eq_true_eq]at this
 exact this.1.1.2
theorem b0j(l:List Str):List.map Uh (List.map (enc:Str->PV) l)=l.map (·.s):=by
 rw[List.map_map];rfl
theorem b4k(l:List (List UInt8)):List.map Uh (List.map PV.str l)=l:=by
 rw[List.map_map];exact(List.map_congr_left (fun _ _=>rfl)).trans (List.map_id _)
theorem MN(l:List (List UInt8)):(X8 l).length=l.length:=(List.mergeSort_perm l _).length_eq
def pvW(p:List Mono):AV×List AObj×List AObj:=if (Xq p).isEmpty then(.pv (.sl 0 true []),[],[])else Tz [.pv (enc p)] []
theorem Fa(p:List Mono)(hp:ZZ p=true): ∀ (k i:Nat),k+i=p.length ->
  if (Ul p i).isEmpty then At XF 0 (Zh 0 Xa fun r=>r=pvW p) Y6 0 24 [(3,.pv (.sl 0 true [])),(9,.pv (enc p)),(10,.pv (.int .i64 p.length)),(11,.pv (.int .i64 i))] []
  else At XF 0 (Zh 0 Xa fun r=>r=pvW p) Y6 0 24 [(3,.row 0 (Ul p i).length 0 (Ul p i).length),(9,.pv (enc p)),(10,.pv (.int .i64 p.length)),(11,.pv (.int .i64 i))] [.obj (.row false 9 1 ((Ul p i).map enc))]:=by
 obtain⟨hl,hm⟩:=JX hp
 intro k
 induction k with
 | zero=>
  intro i hi
  obtain rfl:i=p.length:=by omega
  have e:Ul p p.length=Xq p:=by unfold Ul Xq;rw[List.take_length]
  rw[e]
  cases hc:(Xq p).isEmpty
  ·rw[if_neg (by simp)]
   have hlen:(Xq p).length<=480:=by have:=Rp p hm p.length (Nat.le_refl _);rw[e]at this;omega
   refine Aw p p.length _ (Xq p) (ZV (Z8 (by omega)) ⟨?_,?_,?_⟩)
   ·show((Xq p).length==((Xq p).map (enc:Str->PV)).length&&(Xq p).length==(Xq p).length&&((Xq p).map (enc:Str->PV)).all Jo&&decide ((Xq p).length<4611686018427387904))=true
    have:((Xq p).map (enc:Str->PV)).all Jo=true:=by rw[List.all_map];exact List.all_eq_true.2 fun _ _=>rfl
    rw[this,List.length_map,decide_eq_true (by omega)];simp
   ·rw[b0j]
    show((Xq p).length==((X8 ((Xq p).map (·.s))).map PV.str).length&&(Xq p).length==(Xq p).length&&((X8 ((Xq p).map (·.s))).map PV.str).all Jo&&decide ((Xq p).length<4611686018427387904))=true
    have:((X8 ((Xq p).map (·.s))).map PV.str).all Jo=true:=by rw[List.all_map];exact List.all_eq_true.2 fun _ _=>rfl
    rw[this,List.length_map,MN,List.length_map,decide_eq_true (by omega)];simp
   ·rw[b0j,b4k]
    unfold pvW
    rw[hc,if_neg (by simp)]
    show _=(AV.row 0 (Xb (dec (enc p:PV))).length 0 (Lib.compact (Xb (dec (enc p:PV)))).length,[],[AObj.row false 9 1 ((Ve (Xb (dec (enc p:PV)))).map .str)])
    rw[Enc.dec_enc]
    have:(Xb p).length=(Xq p).length:=by unfold Xb;rw[MN,List.length_map]
    rw[this]
    rfl
  ·rw[if_pos rfl]
   refine Tn p p.length (ZV (Z8 (by omega)) ?_)
   unfold pvW
   rw[hc,if_pos rfl]
 | succ k ih=>
  intro i hi
  have hlt:i<p.length:=by omega
  have h1:=ih (i+1) (by omega)
  have hmi:=hm _ (List.getElem_mem hlt)
  have hoi:=Rp p hm i (by omega)
  rw[PQ p hlt]at h1
  cases hc:(Ul p i).isEmpty
  ·rw[if_neg (by simp)]
   have hc2:(Ul p i++p[i].v).isEmpty=false:=by
    rw[List.isEmpty_eq_false_iff]at hc ⊢
    simp[hc]
   rw[hc2,if_neg (by simp)]at h1
   refine Aw p i _ (Ul p i) (ZQ (Z4 hlt) ⟨Zu hlt rfl,ZG hlt ⟨by simp,?_,?_⟩⟩)
   ·show(((Ul p i).map (enc:Str->PV)).length==(Ul p i).length&&(Ul p i).length==(Ul p i).length&&decide (((Ul p i).length+(p[i].v.map (enc:Str->PV)).length)*16<=1099511627776)&&decide ((Ul p i).length+(p[i].v.map (enc:Str->PV)).length<=1099511627776))=true
    rw[List.length_map,List.length_map,decide_eq_true (by omega),decide_eq_true (by omega)];simp
   ·rw[next (by omega)]
    rw[List.length_append,List.map_append]at h1
    have e:(PV.asXs (List.getD (PV.cells (enc p[i])) (0+1) default)).length=p[i].v.length:=by
     show(p[i].v.map (enc:Str->PV)).length=_
     rw[List.length_map]
    rw[e]
    exact h1
  ·rw[if_pos rfl]
   have hnil:Ul p i=[]:=List.isEmpty_iff.1 hc
   rw[hnil,List.nil_append]at h1
   refine Tn p i (ZQ (Z4 hlt) ⟨Zu hlt rfl,ZG hlt ⟨by simp,?_⟩⟩)
   show if (p[i].v.map (enc:Str->PV)).isEmpty=true then _ else _
   rw[List.isEmpty_map]
   cases hv:p[i].v.isEmpty
   ·rw[hv,if_neg (by simp)]at h1
    refine ZV (by simp) ⟨?_,?_⟩
    ·show((List.isEmpty ([]:List PV)||0==1)&&decide ((List.length ([]:List PV)+(p[i].v.map (enc:Str->PV)).length)*16<=1099511627776)&&decide (List.length ([]:List PV)+(p[i].v.map (enc:Str->PV)).length<=1099511627776))=true
     rw[List.length_map,decide_eq_true (by simp;omega),decide_eq_true (by simp;omega)];rfl
    ·rw[next (by omega)]
     have e:List.length ([]:List PV)+(PV.asXs (List.getD (PV.cells (enc p[i])) (0+1) default)).length=p[i].v.length:=by
      show 0+(p[i].v.map (enc:Str->PV)).length=_
      rw[List.length_map,Nat.zero_add]
     rw[e]
     exact h1
   ·rw[hv,if_pos rfl]at h1
    refine ZQ rfl ?_
    rw[next (by omega)]
    exact h1
theorem Sr(p:List Mono)(hs:Yc p=true)(hp:ZZ p=true):Zc XF 0 (Zh 0 Xa fun r=>r=pvW p) Y6 [] (YH CF [.pv (enc p)] []):=by
 refine En p ⟨Zl (p,()) rfl hs,Zi (p,()) rfl (ZV (by simp[hp]) ?_)⟩
 rw[List.length_map]
 have:=Fa p hp p.length 0 (by omega)
 rw[show(Ul p 0).isEmpty=true from rfl,if_pos rfl]at this
 exact this
theorem Fp: ∀ args os,UI args os=true->Zc XF os.length (Zh os.length Xa fun r=>r=Tz args os) Y6 [] (YH CF args os):=by
 intro args os h
 unfold UI at h
 split at h
 ·rename_i a
  simp only[Bool.and_eq_true,Bool.not_eq_true']at h
  obtain⟨⟨⟨h1,h2⟩,h3⟩,h4⟩:=h
  obtain⟨p,rfl⟩:=Yu h1
  rw[Enc.dec_enc]at h2 h3 h4
  have:=Sr p h2 h3
  unfold pvW at this
  rw[h4,if_neg (by simp)]at this
  exact this
 ·cases h
theorem LV: ∀ args os,Kz args os=true->Zc XF os.length (Zh os.length Xa fun r=>r=Dj args os) Y6 [] (YH CF args os):=by
 intro args os h
 unfold Kz at h
 split at h
 ·rename_i a
  simp only[Bool.and_eq_true]at h
  obtain⟨⟨h1,h2⟩,h3⟩:=h
  obtain⟨p,rfl⟩:=Yu h1
  rw[Enc.dec_enc]at h2 h3
  cases hv:ZZ p
  ·exact En p ⟨Zl (p,()) rfl h2,Zi (p,()) rfl (ZQ (by simp[hv]) rfl)⟩
  ·rw[hv]at h3
   have h3:(Xq p).isEmpty=true:=by simpa using h3
   have:=Sr p h2 hv
   unfold pvW at this
   rw[h3,if_pos rfl]at this
   exact this
 ·cases h
theorem b7x: ∀ args os,JN args os=true->Zc a5n os.length (Zh os.length LD fun r=>r=Dw args os) Fq [] (YH c2s args os):=by
 intro args os h
 unfold JN at h
 split at h
 ·rename_i x v
  obtain⟨x,rfl⟩:=Yu h
  refine c4h x v ?_
  simp only[Dw,Enc.dec_enc]
 ·cases h
theorem a5r(l:List Coef)(v:List UInt8)(hl:l.length<=9223372036854775807)(R:AV×List AObj×List AObj)(hR:R=(.pv (.int .i64 (Zx (fun t:Coef=>t.v.s==v) l)),[.box [.pv (.str v)]],[])): ∀ (m i:Nat),m+i=l.length->(∀ j (h:j<l.length),j<i->(l[j].v.s==v)=false) ->
  At CV 1 (Zh 1 Jc fun r=>r=R) K5 0 19 [(0,.pv (enc l)),(1,.fn 188 [] [.ptr 0 0]),(7,.pv (.int .i64 l.length)),(8,.pv (.int .i64 i))] [.obj (.box [.pv (.str v)])]:=by
 intro m
 induction m with
 | zero=>
  intro i hi hno
  refine a8t l v i (ZV (Z8 (by omega)) ?_)
  rw[hR,UH _ _ (fun j hj=>hno j hj (by omega))]
 | succ m ih=>
  intro i hi hno
  have hlt:i<l.length:=by omega
  have ed:(dec (PV.agg (Qf (PV.cells (enc l[i])) 0 [Sh.str,Sh.int .i64])):Coef)=l[i]:=Enc.dec_enc l[i]
  refine a8t l v i (ZQ (Z4 hlt) ⟨Zu hlt rfl,ZG hlt ⟨Z5 l[i],?_⟩⟩)
  rw[ed]
  refine Xe (fun hb=> ?_) fun hb=> ?_
  ·rw[hR,Uy (fun t:Coef=>t.v.s==v) l i hlt hno hb]
  ·rw[next (by omega)]
   refine ih (i+1) (by omega) fun j hj hji=> ?_
   by_cases e:j=i
   ·subst e;exact hb
   ·exact hno j hj (by omega)
theorem b4c: ∀ args os,VB 188 args os=true->Zc CV os.length (Zh os.length Jc fun r=>r=Db args os) K5 [] (YH c1p args os):=by
 intro args os h
 unfold VB at h
 split at h
 ·rename_i l g v
  simp only[Bool.and_eq_true,beq_iff_eq,decide_eq_true_eq]at h
  obtain⟨⟨rfl,h1⟩,h2⟩:=h
  obtain⟨l,rfl⟩:=Yu h1
  rw[Enc.dec_enc]at h2
  refine c3d l v ?_
  rw[List.length_map]
  exact a5r l v h2 _ (by simp only[Db,QC,Enc.dec_enc]) l.length 0 (by omega) (fun j hj h=>by omega)
 ·cases h
theorem a2n(l:List Int)(n:Int)(hl:l.length<=9223372036854775807): ∀ (m i:Nat),m+i=l.length->(∀ j (h:j<l.length),j<i->decide (n=l[j])=false) ->
  At Jp 0 (Za Qw (Zf (Zx (fun x:Int=>decide (n=x)) l))) Qx 0 19 [(0,.pv (enc l)),(1,.pv (enc n)),(7,.pv (.int .i64 l.length)),(8,.pv (.int .i64 i))] []:=by
 intro m
 induction m with
 | zero=>
  intro i hi hno
  refine EH l n i (ZV (Z8 (by omega)) (Qm ?_))
  rw[UH _ _ (fun j hj=>hno j hj (by omega))]
 | succ m ih=>
  intro i hi hno
  have hlt:i<l.length:=by omega
  refine EH l n i (ZQ (Z4 hlt) ⟨Zu hlt rfl,ZG hlt (Jq (fun hb=> ?_) fun hb=> ?_)⟩)
  ·have hb:n=l[i]:=hb
   exact Qm (Uy (fun x:Int=>decide (n=x)) l i hlt hno (by simp[hb])).symm
  ·have hb : ¬ n=l[i]:=hb
   rw[next (by omega)]
   refine ih (i+1) (by omega) fun j hj hji=> ?_
   by_cases e:j=i
   ·subst e;simp[hb]
   ·exact hno j hj (by omega)
theorem a9d: ∀ a:List Int×Int×Unit,Zt a.1=true->Zc Jp 0 (Za Qw (Zf (Zx (fun x:Int=>decide (a.2.1=x)) a.1))) Qx [] (Yx b4e (encL a)):=by
 rintro⟨l,n,⟨⟩⟩ h
 refine c1c l n ?_
 rw[List.length_map]
 exact a2n l n (ZN.1 h) l.length 0 (by omega) (fun j hj h=>by omega)
theorem M9: ∀ a:List Int×Int×Unit,Zt a.1=true->Zc DX 0 (Za H6 (Zf (a.1.contains a.2.1))) H8 [] (Yx a2w (encL a)):=by
 rintro⟨l,n,⟨⟩⟩ h
 refine a9w l n ⟨Zl (l,n,()) rfl h,Zi (l,n,()) rfl (ZJ ?_)⟩
 show decide (Zx (fun x:Int=>decide (n=x)) l ≥ 0)=_
 rw[Xy,Bool.eq_iff_iff]
 simp[List.any_eq_true]
theorem Od(l:List Int)(hl:l.length<=9223372036854775807): ∀ (m i:Nat) (o:Int),m+i=l.length ->
  At UD 0 (Za VE (Zf (Eh o (l.drop i)))) Uf 0 29 [(4,.pv (.int .i64 o)),(11,.pv (enc l)),(12,.pv (.int .i64 l.length)),(13,.pv (.int .i64 i))] []:=by
 intro m
 induction m with
 | zero=>
  intro i o hi
  rw[List.drop_of_length_le (by omega)]
  exact NR l o i (ZV (Z8 (by omega)) (ZU (x:=(o,(0:Int))) rfl))
 | succ m ih=>
  intro i o hi
  have hlt:i<l.length:=by omega
  rw[List.drop_eq_getElem_cons hlt]
  refine NR l o i (ZQ (Z4 hlt) ⟨Zu hlt rfl,ZG hlt (Zi (o,l[i],()) rfl ?_)⟩)
  show if ((DZ o l[i]).2 != 0)=true then _ else _
  rw[Eh]
  by_cases h:(DZ o l[i]).2=0
  ·rw[if_neg (by simp[h]),if_neg (by simp[h]),next (by omega)]
   exact ih (i+1) _ (by omega)
  ·rw[if_pos (by simp[h]),if_pos h]
   exact ZU (x:=((0:Int),(DZ o l[i]).2)) rfl
theorem a0t: ∀ a:List Int×Unit,Zt a.1=true->Zc UD 0 (Za VE (Zf (Y0 a.1))) Uf [] (Yx a8e (encL a)):=by
 rintro⟨l,⟨⟩⟩ h
 refine b7p l ⟨Zl (l,0,()) rfl h,Zi (l,0,()) rfl (Xe (fun hc=> ?_) fun hc=> ?_)⟩
 ·have hc:l.contains 0=true:=hc
  show Zf (Y0 l) _
  unfold Y0
  rw[hc,if_pos rfl]
  exact ZU (x:=((0:Int),(0:Int))) rfl
 ·have hc:l.contains 0=false:=hc
  show At UD 0 (Za VE (Zf (Y0 l))) _ _ _ _ _
  unfold Y0
  rw[hc,if_neg (by simp),List.length_map]
  exact Od l (ZN.1 h) l.length 0 1 (by omega)
theorem U7{α:Type}[Enc α]{l:List α}{i:Nat}(h:i<l.length):List.getD (List.map (enc:α->PV) l) (0+Int.toNat (i:Int)) default=enc l[i]:=by simp[List.getD,h]
def UR(ps:List Int)(o:Option (List Int)):Int×Int:=match o with|none=>(0,2)|some l=>Vp (ps++l)
theorem a0k(p:List Mono)(vs:List Coef)(fs:List (List Int))(hf:fs.length<=60)(hl : ∀ l∈fs,Zt l=true): ∀ (d i:Nat) (ps:List Int),d+i=fs.length->ps.length=i->1<=i ->
  At ZK 0 (Za ZB (Zf (UR ps (Yw (fs.drop i))))) ZC 2 91 [(15,.row 0 i 0 i),(69,.row 1 fs.length 0 fs.length),(70,.pv (.int .i64 fs.length)),(71,.pv (.int .i64 i))] [.obj (.row false 3 1 (ps.map enc)),.obj (.row false 34 1 (fs.map enc))]:=by
 intro d
 induction d with
 | zero=>
  intro i ps hi hps h1
  rw[List.drop_of_length_le (by omega)]
  have hr:UR ps (Yw [])=Vp ps:=by show Vp (ps++[])=_;rw[List.append_nil]
  rw[hr]
  have et:List.drop 0 (List.take i (List.map (enc:Int->PV) ps))=ps.map enc:=by rw[List.drop_zero,List.take_of_length_le (by simp[hps])]
  apply Sk (G:=Zf (Vp ps)) p vs i fs.length fs i ps
  refine ZV (Z8 (by omega)) ⟨by simp[hps],?_⟩
  rw[et]
  exact⟨Zl (ps,()) rfl (by simp;omega),Zi (ps,()) rfl (ZU (x:=Vp ps) rfl)⟩
 | succ d ih=>
  intro i ps hi hps h1
  have hlt:i<fs.length:=by omega
  have e:=U7 hlt
  rw[List.drop_eq_getElem_cons hlt,Yw]
  apply Sk (G:=Zf (UR ps (if (Y0 fs[i]).2≠0 then none else(Yw (fs.drop (i+1))).map ((Y0 fs[i]).1:: ·)))) p vs i fs.length fs i ps
  apply ZQ (Z4 hlt)
  rw[e]
  refine⟨by simp;omega,by simp;omega,rfl,Zl (fs[i],()) rfl (hl _ (List.getElem_mem hlt)),Zi (fs[i],()) rfl ?_⟩
  show if ((Y0 fs[i]).2 != 0)=true then _ else _
  by_cases h:(Y0 fs[i]).2=0
  ·rw[if_neg (by simp[h])]
   have hr:UR ps (if (Y0 fs[i]).2≠0 then none else(Yw (fs.drop (i+1))).map ((Y0 fs[i]).1:: ·))=UR (ps++[(Y0 fs[i]).1]) (Yw (fs.drop (i+1))):=by
    rw[if_neg (by simp[h])]
    cases Yw (fs.drop (i+1))with
    | none=>rfl
    | some l=>show Vp (ps++_::l)=Vp (ps++[_]++l);rw[List.append_assoc];rfl
   rw[hr]
   refine⟨?_,?_⟩
   ·rw[List.length_map,hps]
    show((i==i)&&(i==i)&&decide ((i+1)*8<=1099511627776)&&decide (i+1<=1099511627776))=true
    rw[decide_eq_true (by omega),decide_eq_true (by omega)];simp
   ·rw[next (by omega)]
    have:=ih (i+1) (ps++[(Y0 fs[i]).1]) (by omega) (by simp[hps]) (by omega)
    rw[List.map_append]at this
    exact this
  ·rw[if_pos (by simp[h])]
   have hr:UR ps (if (Y0 fs[i]).2≠0 then none else(Yw (fs.drop (i+1))).map ((Y0 fs[i]).1:: ·))=((0:Int),(2:Int)):=by rw[if_pos h];rfl
   rw[hr]
   exact ZU (x:=((0:Int),(2:Int))) rfl
theorem c5m(p:List Mono)(vs:List Coef)(fs:List (List Int))(hne:0<fs.length)(hf:fs.length<=60)(hl : ∀ l∈fs,Zt l=true):
  At ZK 0 (Za ZB (Zf (UR [] (Yw fs)))) ZC 2 91 [(15,.pv (.sl 0 true [])),(69,.row 0 fs.length 0 fs.length),(70,.pv (.int .i64 fs.length)),(71,.pv (.int .i64 0))] [.obj (.row false 34 1 (fs.map enc))]:=by
 have e:=U7 hne
 have hr:Yw fs=if (Y0 fs[0]).2≠0 then none else(Yw (fs.drop 1)).map ((Y0 fs[0]).1:: ·):=by
  cases fs with
  | nil=>simp at hne
  | cons l r=>rfl
 rw[hr]
 apply a1a (G:=Zf (UR [] (if (Y0 fs[0]).2≠0 then none else(Yw (fs.drop 1)).map ((Y0 fs[0]).1:: ·)))) p vs ((0:Nat):Int) fs.length fs
 apply ZQ (Z4 hne)
 rw[e]
 refine⟨by simp;omega,by simp;omega,rfl,Zl (fs[0],()) rfl (hl _ (List.getElem_mem hne)),Zi (fs[0],()) rfl ?_⟩
 show if ((Y0 fs[0]).2 != 0)=true then _ else _
 by_cases h:(Y0 fs[0]).2=0
 ·rw[if_neg (by simp[h]),if_neg (by simp[h])]
  have hr:UR [] ((Yw (fs.drop 1)).map ((Y0 fs[0]).1:: ·))=UR [(Y0 fs[0]).1] (Yw (fs.drop 1)):=by
   cases Yw (fs.drop 1)with
   | none=>rfl
   | some l=>rfl
  rw[hr,next (by omega)]
  exact a0k p vs fs hf hl (fs.length - 1) 1 [(Y0 fs[0]).1] (by omega) rfl (by omega)
 ·rw[if_pos (by simp[h]),if_pos h]
  exact ZU (x:=((0:Int),(2:Int))) rfl
theorem c5y(p:List Mono)(vs:List Coef):At ZK 0 (Za ZB (Zf (UR [] (Yw [])))) ZC 2 91 [(15,.pv (.sl 0 true [])),(69,.pv (.sl 0 true [])),(70,.pv (.int .i64 0)),(71,.pv (.int .i64 0))] []:=by
 have hr:UR [] (Yw [])=Vp []:=rfl
 rw[hr]
 apply a1z (G:=Zf (Vp [])) p vs
 exact a8n ([],()) rfl (ZU (x:=Vp []) rfl)
def Pf(vs:List Coef)(fs:List (List Int))(bd:Bool)(r:List Mono):Int×Int:=match LJ vs r with
 | none=>(0,7)
 | some gs=>if bd||CB gs then(0,2)else UR [] (Yw (fs++gs))
def OI(vs:List Coef)(fs:List (List Int))(bd:Bool)(l:List Int)(ns:List Str)(r:List Mono):Int×Int:=match Mr vs ns with
 | none=>(0,7)
 | some xs=>Pf vs (fs++[l++xs]) (bd||xs.any fun x=> !Ut x) r
theorem NH(vs:List Coef)(fs:List (List Int))(bd:Bool)(m:Mono)(r:List Mono):Pf vs fs bd (m::r)=OI vs fs bd [m.c] m.v r:=by
 unfold Pf OI LJ
 cases Mr vs m.v with
 | none=>rfl
 | some xs=>
  show(match (LJ vs r).map ((m.c::xs):: ·)with|none=>_|some gs=>_)=Pf vs (fs++[[m.c]++xs]) _ r
  unfold Pf
  cases LJ vs r with
  | none=>rfl
  | some gs=>
   show(if bd||CB ((m.c::xs)::gs)then _ else UR [] (Yw (fs++(m.c::xs)::gs)))=(if (bd||xs.any fun x=> !Ut x)||CB gs then _ else UR [] (Yw (fs++[[m.c]++xs]++gs)))
   have e1:CB ((m.c::xs)::gs)=((xs.any fun x=> !Ut x)||CB gs):=rfl
   rw[e1,List.append_assoc,Bool.or_assoc]
   rfl
theorem Ho(vs:List Coef)(s:Str)(r:List Str):Mr vs (s::r)=match Uz vs s with|none=>none|some x=>(Mr vs r).map (x:: ·):=rfl
theorem NJ(vs:List Coef)(fs:List (List Int))(bd:Bool)(l:List Int)(s:Str)(ns:List Str)(r:List Mono)(x:Int)(h:Uz vs s=some x):OI vs fs bd l (s::ns) r=OI vs fs (bd || !Ut x) (l++[x]) ns r:=by
 unfold OI
 rw[Ho,h]
 show(match (Mr vs ns).map (x:: ·)with|none=>_|some xs=>_)=_
 cases Mr vs ns with
 | none=>rfl
 | some xs=>
  show Pf vs (fs++[l++x::xs]) (bd||(x::xs).any fun x=> !Ut x) r=Pf vs (fs++[l++[x]++xs]) ((bd || !Ut x)||xs.any fun x=> !Ut x) r
  rw[List.append_assoc,List.any_cons,Bool.or_assoc]
  rfl
theorem G7(x:Int):(!Ut x)=(decide (x < -4611686018427387904)||decide (x>4611686018427387904)):=by
 unfold Ut
 by_cases h1:x < -4611686018427387904
 ·rw[decide_eq_true h1,decide_eq_false (show ¬ -4611686018427387904<=x by omega)];rfl
 ·rw[decide_eq_false h1,decide_eq_true (show -4611686018427387904<=x by omega)]
  by_cases h2:x>4611686018427387904
  ·rw[decide_eq_true h2,decide_eq_false (show ¬ x<=4611686018427387904 by omega)];rfl
  ·rw[decide_eq_false h2,decide_eq_true (show x<=4611686018427387904 by omega)];rfl
theorem c5o(p:List Mono)(vs:List Coef)(hv:vs.length<=9223372036854775807)(i:Nat)(hi:i<60)(hip:i<p.length)(ns:List Str)(hn:ns.length<=8)(R:Int×Int)
  (hnext : ∀ (l:List Int) (bd:Bool),l.length<=100->R=Pf vs ([]++[l]) bd (p.drop (i+1))->At ZK 0 (Za ZB (Zf R)) ZC 0 91 [(6,.row 0 1 0 1),(1,.pv (enc vs)),(7,.pv (.bool bd)),(23,.pv (enc p)),(24,.pv (.int .i64 p.length)),(25,.pv (.int .i64 ((i+1:Nat):Int)))] [.obj (.row false 34 1 (([]++[l]).map enc))]) :
  ∀ (d j:Nat) (l:List Int) (bd:Bool),d+j=ns.length->l.length=j+1->R=OI vs [] bd l (ns.drop j) (p.drop (i+1)) ->
  At ZK 0 (Za ZB (Zf R)) ZC 1 91 [(6,.pv (.sl 0 true [])),(1,.pv (enc vs)),(7,.pv (.bool bd)),(23,.pv (enc p)),(24,.pv (.int .i64 p.length)),(25,.pv (.int .i64 i)),(33,.pv (enc ns)),(34,.pv (.int .i64 ns.length)),(35,.pv (.int .i64 j)),(10,.row 0 (j+1) 0 (j+1))] [.obj (.row false 3 1 (l.map enc))]:=by
 intro d
 induction d with
 | zero=>
  intro j l bd hd hl hR
  rw[List.drop_of_length_le (by omega)]at hR
  have hR2:R=Pf vs ([]++[l]) bd (p.drop (i+1)):=by
   rw[hR]
   show Pf vs ([]++[l++[]]) (bd||false) _=_
   rw[List.append_nil,Bool.or_false]
  have hn0:=hnext l bd (by omega) hR2
  have et:(PV.sl 1 false (List.drop 0 (List.take (j+1) (List.map (enc:Int->PV) l))))=enc l:=by rw[List.drop_zero,List.take_of_length_le (by simp[hl])];rfl
  apply SB (G:=Zf R) p vs bd i j ns (j+1) l
  apply ZV (Z8 (by omega))
  refine⟨by simp[hl],?_⟩
  rw[et,next (by omega)]
  exact hn0
 | succ d ih=>
  intro j l bd hd hl hR
  have hlt:j<ns.length:=by omega
  rw[List.drop_eq_getElem_cons hlt]at hR
  have ecd:QC (enc vs)=vs:=Enc.dec_enc vs
  apply SB (G:=Zf R) p vs bd i j ns (j+1) l
  apply ZQ (Z4 hlt)
  refine⟨Zu hlt rfl,ZG hlt ?_⟩
  have e0:PV.asStr (List.getD (PV.cells (enc ns[j])) 0 default)=ns[j].s:=rfl
  rw[e0,ecd]
  refine⟨by show VB _ [.pv (enc vs),_] _=true;simp[VB,hv],?_⟩
  rcases TJ vs ns[j]with ⟨h1,h2⟩|⟨k,hk,h1,h2⟩
  ·have:R=(0,7):=by rw[hR];unfold OI;rw[Ho,h2]
   rw[this]
   exact ZQ (by simpa using h1) (ZU (x:=((0:Int),(7:Int))) rfl)
  ·rw[h1]
   rw[NJ vs _ _ _ _ _ _ _ h2]at hR
   have hq : ∀ bd',(bd || !Ut vs[k].c)=bd'->At ZK 0 (Za ZB (Zf R)) ZC 1 91 [(6,.pv (.sl 0 true [])),(1,.pv (enc vs)),(7,.pv (.bool bd')),(23,.pv (enc p)),(24,.pv (.int .i64 p.length)),(25,.pv (.int .i64 i)),(33,.pv (enc ns)),(34,.pv (.int .i64 ns.length)),(35,.pv (.int .i64 ((j+1:Nat):Int))),(10,.row 0 (j+1+1) 0 (j+1+1))] [.obj (.row false 3 1 ((l++[vs[k].c]).map enc))]:=fun bd' hb=>ih (j+1) (l++[vs[k].c]) bd' (by omega) (by simp[hl]) (by rw[<- hb];exact hR)
   have hap:(List.length (List.map (enc:Int->PV) l)==j+1&&(j+1==j+1)&&decide (((j+1)+List.length (List.drop 0 (List.take 1 [PV.int .i64 vs[k].c])))*8<=1099511627776)&&decide ((j+1)+List.length (List.drop 0 (List.take 1 [PV.int .i64 vs[k].c]))<=1099511627776))=true:=by
    rw[List.length_map,hl]
    show((j+1==j+1)&&(j+1==j+1)&&decide (((j+1)+1)*8<=1099511627776)&&decide ((j+1)+1<=1099511627776))=true
    rw[decide_eq_true (by omega),decide_eq_true (by omega)];simp
   refine ZV (by simp) ⟨Zu hk rfl,ZG hk ?_⟩
   rw[next (by omega)]
   rw[List.map_append]at hq
   refine Xe (fun hb=>⟨hap,hq true (by rw[hb];rfl)⟩) fun hb=>We (fun h3=>⟨hap,hq true ?_⟩) fun h3=>⟨hap,hq _ ?_⟩
   ·have h3:vs[k].c < -4611686018427387904:=h3
    rw[G7,decide_eq_true h3,hb];rfl
   ·have h3 : ¬ vs[k].c < -4611686018427387904:=h3
    rw[G7,decide_eq_false h3,hb];rfl
theorem c6d(p:List Mono)(vs:List Coef)(hv:vs.length<=9223372036854775807)(fs:List (List Int))(hfl:fs.length<=60)(i:Nat)(hi:i<60)(hip:i<p.length)(ns:List Str)(hn:ns.length<=8)(R:Int×Int)
  (hnext : ∀ (l:List Int) (bd:Bool),l.length<=100->R=Pf vs (fs++[l]) bd (p.drop (i+1))->At ZK 0 (Za ZB (Zf R)) ZC 0 91 [(6,.row 0 (fs.length+1) 0 (fs.length+1)),(1,.pv (enc vs)),(7,.pv (.bool bd)),(23,.pv (enc p)),(24,.pv (.int .i64 p.length)),(25,.pv (.int .i64 ((i+1:Nat):Int)))] [.obj (.row false 34 1 ((fs++[l]).map enc))]) :
  ∀ (d j:Nat) (l:List Int) (bd:Bool),d+j=ns.length->l.length=j+1->R=OI vs fs bd l (ns.drop j) (p.drop (i+1)) ->
  At ZK 0 (Za ZB (Zf R)) ZC 1 91 [(6,.row 0 fs.length 0 fs.length),(1,.pv (enc vs)),(7,.pv (.bool bd)),(23,.pv (enc p)),(24,.pv (.int .i64 p.length)),(25,.pv (.int .i64 i)),(33,.pv (enc ns)),(34,.pv (.int .i64 ns.length)),(35,.pv (.int .i64 j)),(10,.row 1 (j+1) 0 (j+1))] [.obj (.row false 34 1 (fs.map enc)),.obj (.row false 3 1 (l.map enc))]:=by
 intro d
 induction d with
 | zero=>
  intro j l bd hd hl hR
  rw[List.drop_of_length_le (by omega)]at hR
  have hR2:R=Pf vs (fs++[l]) bd (p.drop (i+1)):=by
   rw[hR]
   show Pf vs (fs++[l++[]]) (bd||false) _=_
   rw[List.append_nil,Bool.or_false]
  have hn0:=hnext l bd (by omega) hR2
  have et:(PV.sl 1 false (List.drop 0 (List.take (j+1) (List.map (enc:Int->PV) l))))=enc l:=by rw[List.drop_zero,List.take_of_length_le (by simp[hl])];rfl
  apply SA (G:=Zf R) p vs bd i j ns (j+1) l fs.length fs
  apply ZV (Z8 (by omega))
  refine⟨by simp[hl],?_,?_⟩
  ·rw[et,List.length_map]
   show((fs.length==fs.length)&&(fs.length==fs.length)&&decide ((fs.length+1)*24<=1099511627776)&&decide (fs.length+1<=1099511627776))=true
   rw[decide_eq_true (by omega),decide_eq_true (by omega)];simp
  ·rw[et,next (by omega)]
   rw[List.map_append]at hn0
   exact hn0
 | succ d ih=>
  intro j l bd hd hl hR
  have hlt:j<ns.length:=by omega
  rw[List.drop_eq_getElem_cons hlt]at hR
  have ecd:QC (enc vs)=vs:=Enc.dec_enc vs
  apply SA (G:=Zf R) p vs bd i j ns (j+1) l fs.length fs
  apply ZQ (Z4 hlt)
  refine⟨Zu hlt rfl,ZG hlt ?_⟩
  have e0:PV.asStr (List.getD (PV.cells (enc ns[j])) 0 default)=ns[j].s:=rfl
  rw[e0,ecd]
  refine⟨by show VB _ [.pv (enc vs),_] _=true;simp[VB,hv],?_⟩
  rcases TJ vs ns[j]with ⟨h1,h2⟩|⟨k,hk,h1,h2⟩
  ·have:R=(0,7):=by rw[hR];unfold OI;rw[Ho,h2]
   rw[this]
   exact ZQ (by simpa using h1) (ZU (x:=((0:Int),(7:Int))) rfl)
  ·rw[h1]
   rw[NJ vs _ _ _ _ _ _ _ h2]at hR
   have hq : ∀ bd',(bd || !Ut vs[k].c)=bd'->At ZK 0 (Za ZB (Zf R)) ZC 1 91 [(6,.row 0 fs.length 0 fs.length),(1,.pv (enc vs)),(7,.pv (.bool bd')),(23,.pv (enc p)),(24,.pv (.int .i64 p.length)),(25,.pv (.int .i64 i)),(33,.pv (enc ns)),(34,.pv (.int .i64 ns.length)),(35,.pv (.int .i64 ((j+1:Nat):Int))),(10,.row 1 (j+1+1) 0 (j+1+1))] [.obj (.row false 34 1 (fs.map enc)),.obj (.row false 3 1 ((l++[vs[k].c]).map enc))]:=fun bd' hb=>ih (j+1) (l++[vs[k].c]) bd' (by omega) (by simp[hl]) (by rw[<- hb];exact hR)
   have hap:(List.length (List.map (enc:Int->PV) l)==j+1&&(j+1==j+1)&&decide (((j+1)+List.length (List.drop 0 (List.take 1 [PV.int .i64 vs[k].c])))*8<=1099511627776)&&decide ((j+1)+List.length (List.drop 0 (List.take 1 [PV.int .i64 vs[k].c]))<=1099511627776))=true:=by
    rw[List.length_map,hl]
    show((j+1==j+1)&&(j+1==j+1)&&decide (((j+1)+1)*8<=1099511627776)&&decide ((j+1)+1<=1099511627776))=true
    rw[decide_eq_true (by omega),decide_eq_true (by omega)];simp
   refine ZV (by simp) ⟨Zu hk rfl,ZG hk ?_⟩
   rw[next (by omega)]
   rw[List.map_append]at hq
   refine Xe (fun hb=>⟨hap,hq true (by rw[hb];rfl)⟩) fun hb=>We (fun h3=>⟨hap,hq true ?_⟩) fun h3=>⟨hap,hq _ ?_⟩
   ·have h3:vs[k].c < -4611686018427387904:=h3
    rw[G7,decide_eq_true h3,hb];rfl
   ·have h3 : ¬ vs[k].c < -4611686018427387904:=h3
    rw[G7,decide_eq_false h3,hb];rfl
theorem a5u(vs:List Coef)(fs:List (List Int))(bd:Bool):Pf vs fs bd []=if bd then(0,2)else UR [] (Yw fs):=by
 show(if bd||CB []then _ else UR [] (Yw (fs++[])))=_
 have:CB []=false:=rfl
 rw[this,Bool.or_false,List.append_nil]
theorem FD(p:List Mono)(vs:List Coef)(hp:ZZ p=true)(hv:vs.length<=9223372036854775807): ∀ (d i:Nat) (fs:List (List Int)) (bd:Bool),d+i=p.length->fs.length=i->1<=i->(∀ l∈fs,l.length<=100) ->
  At ZK 0 (Za ZB (Zf (Pf vs fs bd (p.drop i)))) ZC 0 91 [(6,.row 0 fs.length 0 fs.length),(1,.pv (enc vs)),(7,.pv (.bool bd)),(23,.pv (enc p)),(24,.pv (.int .i64 p.length)),(25,.pv (.int .i64 i))] [.obj (.row false 34 1 (fs.map enc))]:=by
 obtain⟨hpl,hpm⟩:=JX hp
 intro d
 induction d with
 | zero=>
  intro i fs bd hi hfi h1 hls
  rw[List.drop_of_length_le (by omega),a5u]
  apply Sm (G:=Zf (if bd then((0:Int),(2:Int))else UR [] (Yw fs))) p vs bd i fs.length fs
  apply ZV (Z8 (by omega))
  refine Xe (fun hb=> ?_) fun hb=> ?_
  ·rw[hb,if_pos rfl]
   exact ZU (x:=((0:Int),(2:Int))) rfl
  ·rw[hb,if_neg (by simp),Nat.sub_zero]
   exact c5m p vs fs (by omega) (by omega) fun l hl=>ZN.2 (by have:=hls l hl;omega)
 | succ d ih=>
  intro i fs bd hi hfi h1 hls
  have hlt:i<p.length:=by omega
  have hm:=hpm _ (List.getElem_mem hlt)
  rw[List.drop_eq_getElem_cons hlt,NH]
  apply Sm (G:=Zf (OI vs fs bd [p[i].c] p[i].v (p.drop (i+1)))) p vs bd i fs.length fs
  apply ZQ (Z4 hlt)
  refine⟨Zu hlt rfl,ZG hlt ?_⟩
  have:=c6d p vs hv fs (by omega) i (by omega) hlt p[i].v hm (OI vs fs bd [p[i].c] p[i].v (p.drop (i+1))) (fun l bd' hl hR=>by
   rw[hR]
   have:=ih (i+1) (fs++[l]) bd' (by omega) (by simp[hfi]) (by omega) (fun x hx=>by
    rcases List.mem_append.1 hx with hx|hx
    ·exact hls x hx
    ·rw[List.mem_singleton.1 hx];exact hl)
   rw[List.length_append]at this
   exact this) p[i].v.length 0 [p[i].c] bd (by omega) rfl rfl
  have eL:(((PV.asXs (List.getD (PV.cells (enc p[i])) (0+1) default)).length:Nat):Int)=(p[i].v.length:Int):=by
   show(((p[i].v.map (enc:Str->PV)).length:Nat):Int)=_
   rw[List.length_map]
  rw[eL]
  exact this
theorem b0q{p:List Mono}{vs:List Coef}(h:ZZ p=true):Pf vs [] false p=YO p vs:=by
 unfold Pf YO
 rw[h,if_pos rfl]
 cases LJ vs p with
 | none=>rfl
 | some fs=>
  show(if false||CB fs then _ else UR [] (Yw ([]++fs)))=_
  rw[Bool.false_or,List.nil_append]
  show _=if CB fs then _ else _
  by_cases hb:CB fs=true
  ·rw[if_pos hb,if_pos hb]
  ·rw[if_neg hb,if_neg hb]
   cases Yw fs with
   | none=>rfl
   | some l=>rfl
theorem a3c: ∀ x:List Mono×List Coef×Unit,(Yc x.1&&Zt x.2.1)=true->Zc ZK 0 (Za ZB (Zf (YO x.1 x.2.1))) ZC [] (Yx b2h (encL x)):=by
 rintro⟨p,vs,⟨⟩⟩ h
 simp only[Bool.and_eq_true]at h
 obtain⟨hs,hv⟩:=h
 have hv:=ZN.1 hv
 refine b4r p vs ⟨Zl (p,()) rfl hs,Zi (p,()) rfl ?_⟩
 show if (!(ZZ p))=true then _ else _
 cases hp:ZZ p
 ·rw[if_pos (by rfl)]
  have:YO p vs=(0,1):=by unfold YO;rw[hp,if_neg (by simp)]
  show Zf (YO p vs) _
  rw[this]
  exact ZU (x:=((0:Int),(1:Int))) rfl
 ·rw[if_neg (by simp)]
  obtain⟨hpl,hpm⟩:=JX hp
  show At ZK 0 (Za ZB (Zf (YO p vs))) _ _ _ _ _
  rw[<- b0q hp,List.length_map]
  cases hpc:p with
  | nil=>
   have e:Pf vs [] false []=UR [] (Yw []):=by rw[a5u];rfl
   rw[e]
   apply Ar (G:=Zf (UR [] (Yw []))) [] vs false ((0:Nat):Int)
   apply ZV (Z8 (by simp))
   exact ZV (by simp) (c5y [] vs)
  | cons m r=>
   have hlt:0<p.length:=by rw[hpc];simp
   have e0:p[0]=m:=by simp[hpc]
   rw[<- hpc]
   have hm:=hpm _ (List.getElem_mem hlt)
   have ed:p=p[0]::p.drop 1:=(List.drop_eq_getElem_cons hlt).symm▸rfl
   have eg:Pf vs [] false p=OI vs [] false [p[0].c] p[0].v (p.drop 1):=by
    rw[<- NH]
    have:=List.drop_eq_getElem_cons hlt
    rw[List.drop_zero]at this
    rw[<- this]
   rw[eg]
   apply Ar (G:=Zf (OI vs [] false [p[0].c] p[0].v (p.drop 1))) p vs false ((0:Nat):Int)
   apply ZQ (Z4 hlt)
   refine⟨Zu hlt rfl,ZG hlt ?_⟩
   have:=c5o p vs hv 0 (by omega) hlt p[0].v hm (OI vs [] false [p[0].c] p[0].v (p.drop 1)) (fun l bd' hl hR=>by
    rw[hR]
    exact FD p vs hp hv (p.length - 1) 1 ([]++[l]) bd' (by omega) (by simp) (by omega) (fun x hx=>by
     rw[List.nil_append]at hx
     rw[List.mem_singleton.1 hx];exact hl)) p[0].v.length 0 [p[0].c] false (by omega) rfl rfl
   have eL:(((PV.asXs (List.getD (PV.cells (enc p[0])) (0+1) default)).length:Nat):Int)=(p[0].v.length:Int):=by
    show(((p[0].v.map (enc:Str->PV)).length:Nat):Int)=_
    rw[List.length_map]
   rw[eL]
   exact this
end Go.Pl

namespace Go.Pl
open Go.RowKit
open Enc (enc dec is)
open EncL (encL decL isL)
set_option maxRecDepth 100000
def YK:IC:=(.seq (.reg [⟨(some 3),(.box 2 (.t 0)),0,none⟩,⟨(some 5),(.box 1 (.t 2)),1,none⟩,⟨(some 6),(.alloc (.int .i64 0)),2,none⟩,⟨(some 7),(.alloc (.int .i64 0)),3,none⟩] none) (.seq (.seq (.reg [⟨(some 19),(.load true [(.sl 1),(.int .i64)] (.t 3)),0,none⟩,⟨(some 20),(.mv (.t 1)),0,none⟩,⟨(some 21),(.load false [(.sl 2)] (.t 5)),0,none⟩,⟨(some 22),(.call (.c (.fn 122)) [(.t 21)]),0,none⟩,⟨(some 23),(.load false [(.sl 2)] (.t 5)),2,none⟩,⟨(some 24),(.call (.c (.fn 123)) [(.t 23)]),2,none⟩,⟨(some 25),(.call (.c (.fn 116)) [(.t 19),(.t 20),(.t 22),(.t 24)]),4,none⟩,⟨(some 8),(.mv (.t 25)),6,none⟩] (some [[],[],[],[2],[],[4,3,2],[0,1,3,5,2,4],[6,0,1,2,3,4,5]])) (.seq (.reg [⟨(some 26),(.mv (.t 8)),0,none⟩,⟨(some 27),(.bin .num .neq (.t 26) (.c (.int .i64 0))),0,none⟩] none) (.cond (.t 27) (.seq (.reg [⟨(some 28),(.mv (.t 8)),0,none⟩,⟨none,(.store 1 (.t 6) (.c (.int .i64 0))),0,none⟩,⟨none,(.store 1 (.t 7) (.t 28)),0,none⟩] none) .ret) .skip))) (.seq (.reg [⟨(some 9),(.alloc (.sl 0 true [])),0,none⟩,⟨(some 10),(.alloc (.sl 0 true [])),1,none⟩] none) (.seq (.reg [⟨(some 29),(.mkfn 124 [] [(.t 9),(.t 10)]),0,none⟩,⟨(some 11),(.alloc .nilfn),0,none⟩,⟨none,(.store 1 (.t 11) (.t 29)),1,none⟩] none) (.seq (.seq (.reg [⟨(some 30),(.load true [(.sl 1),(.int .i64)] (.t 3)),0,none⟩,⟨(some 31),(.mv (.t 1)),0,none⟩,⟨(some 32),(.call (.c (.fn 117)) [(.t 30),(.t 31)]),0,none⟩] none) (.block 0 (.ext 0 [32,34,5,13,36,37,38,35,39,40,15,41,42,6,7,11,14,43,44,9,10]))) (.seq (.reg [⟨(some 16),(.mv (.c (.int .i64 0))),0,none⟩,⟨(some 17),(.mv (.c (.int .i64 0))),0,none⟩] none) (.seq (.seq (.reg [⟨(some 46),(.load false [(.sl 1)] (.t 9)),0,none⟩,⟨(some 47),(.len 1 (.t 46)),0,none⟩,⟨(some 48),(.mv (.c (.int .i64 0))),0,none⟩] none) (.block 2 (.loop [48,47,16,9,17,10,6,7] (.seq (.reg [⟨(some 49),(.bin .num .lss (.t 48) (.t 47)),0,none⟩] none) (.seq (.cond (.t 49) .skip (.exit 2)) (.seq (.block 3 (.seq (.reg [⟨(some 50),(.mv (.t 48)),0,none⟩,⟨(some 18),(.mv (.t 50)),0,none⟩] none) (.reg [⟨(some 51),(.mv (.t 16)),0,none⟩,⟨(some 52),(.load false [(.sl 1)] (.t 9)),0,none⟩,⟨(some 53),(.mv (.t 18)),0,none⟩,⟨(some 54),(.iaddr 1 (.t 52) (.t 53)),0,none⟩,⟨(some 55),(.load false [(.int .i64)] (.t 54)),0,none⟩,⟨(some 56),(.bin .num .add (.t 51) (.t 55)),0,none⟩,⟨(some 57),(.mv (.t 17)),0,none⟩,⟨(some 58),(.load false [(.sl 1)] (.t 10)),0,none⟩,⟨(some 59),(.mv (.t 18)),0,none⟩,⟨(some 60),(.iaddr 1 (.t 58) (.t 59)),0,none⟩,⟨(some 61),(.load false [(.int .i64)] (.t 60)),0,none⟩,⟨(some 62),(.bin .num .add (.t 57) (.t 61)),0,none⟩,⟨(some 16),(.mv (.t 56)),0,none⟩,⟨(some 17),(.mv (.t 62)),0,none⟩] (some [[],[],[],[1,2],[3,1,2],[0,4,3,1,2],[],[],[],[7,8],[9,7,8],[6,10,9,7,8],[5,0,1,2,3,4],[11,12,0,1,2,3,4,5,6,7,8,9,10]])))) (.reg [⟨(some 63),(.bin .num .add (.t 48) (.c (.int .i64 1))),0,none⟩,⟨(some 48),(.mv (.t 63)),0,none⟩] none))))))) (.seq (.reg [⟨(some 64),(.mv (.t 16)),0,none⟩,⟨(some 65),(.mv (.t 17)),0,none⟩,⟨(some 66),(.bin .num .shr (.t 65) (.c (.int .u64 31))),0,none⟩,⟨(some 67),(.bin .num .add (.t 64) (.t 66)),0,none⟩,⟨(some 68),(.mv (.t 17)),0,none⟩,⟨(some 69),(.bin .num .and (.t 68) (.c (.int .i64 2147483647))),0,none⟩,⟨(some 16),(.mv (.t 67)),0,none⟩,⟨(some 17),(.mv (.t 69)),0,none⟩] none) (.seq (.reg [⟨(some 70),(.mv (.t 16)),0,none⟩,⟨(some 71),(.mv (.t 17)),0,none⟩,⟨(some 72),(.bslice 3 1 2 (.int .i64 0) [(0,(.t 70)),(1,(.t 71))]),0,none⟩,⟨(some 73),(.bslice 3 1 2 (.int .i64 0) [(0,(.c (.int .i64 2147483648))),(1,(.c (.int .i64 1)))]),1,none⟩,⟨(some 74),(.call (.c (.fn 126)) [(.t 72),(.t 73)]),2,none⟩,⟨(some 75),(.extract (.t 74) 0),4,none⟩,⟨(some 76),(.extract (.t 74) 1),4,none⟩,⟨none,(.store 1 (.t 6) (.t 75)),4,none⟩,⟨none,(.store 1 (.t 7) (.t 76)),4,none⟩] none) .ret)))))))))
def YP:List IRes:=[(.cell false 1 6),(.cell false 1 7)]
abbrev b0k:Nat:=77
def YE:ZE:=Xi [(122,.pure (preT (fun x:List Mono×Unit=>Yc x.1)) (Zg (fun x:List Mono×Unit=>ZZ x.1))),(123,.own Kz Dj),(116,.pure (preT (fun x:BoxT×List Fact×Bool×NilS×Unit=>ZW x.1&&Zm x.2.1&&decide (x.2.1.length<=100))) (Zg (fun x:BoxT×List Fact×Bool×NilS×Unit=>Zp x.1 x.2.1 x.2.2.1 []))),(117,.own YX Wn),(125,.pure (preT (fun x:List Mono×List Coef×Unit=>Yc x.1&&Zt x.2.1)) (Zg (fun x:List Mono×List Coef×Unit=>YO x.1 x.2.1))),(124,.own VX UF),(126,.pure (preT (fun x:List Int×List Int×Unit=>decide (x.1.length<=10000)&&decide (x.2.1.length<=10000))) (Zg (fun x:List Int×List Int×Unit=>Gd x.1 x.2.1)))]
theorem b3u{G:PV->Prop}(E:Yv)(b:BoxT)(fs:List Fact)(p:List Mono)(h:(Go.Pl.preT (fun(x:List Mono×Unit)=>Yc x.1) [(.sl 2 false (List.map enc p))])=true∧(∃ y0:Bool,AV.pv (Zg (fun(x:List Mono×Unit)=>ZZ x.1) [(.sl 2 false (List.map enc p))])=AV.pv (enc y0)∧((Kz [(.pv (.sl 2 false (List.map enc p)))] [])=true∧((Go.Pl.preT (fun(x:BoxT×List Fact×Bool×NilS×Unit)=>ZW x.1&&Zm x.2.1&&decide (List.length x.2.1<=100)) [(.agg [(.sl 1 false (List.map enc b.v)),(.int .i64 b.m)]),(.sl 3 false (List.map enc fs)),(.bool y0),(.sl 0 true [])])=true∧(∃ y1:Int,AV.pv (Zg (fun(x:BoxT×List Fact×Bool×NilS×Unit)=>Zp x.1 x.2.1 x.2.2.1 []) [(.agg [(.sl 1 false (List.map enc b.v)),(.int .i64 b.m)]),(.sl 3 false (List.map enc fs)),(.bool y0),(.sl 0 true [])])=AV.pv (enc y1)∧(if (y1 != 0)=true then G ((.tup [(.int .i64 0),(.int .i64 y1)]))else((YX [(.pv (.agg [(.sl 1 false (List.map enc b.v)),(.int .i64 b.m)])),(.pv (.sl 3 false (List.map enc fs)))] [])=true∧(E 0 ⟨ZO 77 0 [(5,(.ptr 0 0)),(6,(.ptr 1 0)),(7,(.ptr 2 0)),(9,(.ptr 3 0)),(10,(.ptr 4 0)),(11,(.ptr 5 0)),(13,.undef),(14,.undef),(15,.undef),(32,(.fn 177 [] [(.ptr 6 0),(.ptr 7 0)])),(34,.undef),(35,.undef),(36,.undef),(37,.undef),(38,.undef),(39,.undef),(40,.undef),(41,.undef),(42,.undef),(43,.undef),(44,.undef)],[(.obj (.box [(.pv (.sl 2 false (List.map enc p)))])),(.obj (.box [(.pv (.int .i64 0))])),(.obj (.box [(.pv (.int .i64 0))])),(.obj (.box [(.pv (.sl 0 true []))])),(.obj (.box [(.pv (.sl 0 true []))])),(.obj (.box [(.fn 124 [] [(.ptr 3 0),(.ptr 4 0)])])),(.obj (.box [(.pv (.sl 1 false (List.map enc b.v))),(.pv (.int .i64 b.m))])),(.obj (.box [(.pv (.sl 3 false (List.map enc fs)))]))]⟩ (fun x S'=>KF YE E 0 (Za YP G) YK 0 x S'))))))))):Zz YE E 0 (Za YP G) (.inl YK) [] (Yx 77 [enc b,enc fs,enc p]):=Zz.mp (.req (.abs (Bool) (fun YY=>AV.pv (enc YY)) (.req (.keep (.req (.abs (Int) (fun YY=>AV.pv (enc YY)) (.lit (.ask (.nil) (.req (.keep (.nil))))))))))) h (by kernel_rfl)
theorem a0q{G:PV->Prop}(E:Yv)(b:BoxT)(fs:List Fact)(p:List Mono)(h : ∃ y0:Int×Int,AV.pv (Zg (fun(x:List Int×List Int×Unit)=>Gd x.1 x.2.1) [(.sl 1 false [(.int .i64 0),(.int .i64 0)]),(.sl 1 false [(.int .i64 2147483648),(.int .i64 1)])])=AV.pv (enc y0)∧(G ((.tup [(.int .i64 y0.1),(.int .i64 y0.2)])))):Es YE E 0 (Za YP G) YK 0 77 [(6,.ptr 0 0),(7,.ptr 1 0),(9,.ptr 2 0),(10,.ptr 3 0),(16,.pv (.int .i64 0)),(17,.pv (.int .i64 0)),(47,.pv (.int .i64 0)),(48,.pv (.int .i64 0))] [.obj (.box [.pv (.int .i64 0)]),.obj (.box [.pv (.int .i64 0)]),.obj (.box [.pv (.sl 0 true [])]),.obj (.box [.pv (.sl 0 true [])])]:=Zz.mp (.lit (.lit (.lit (.lit (.lit (.lit (.lit (.lit (.lit (.lit (.abs (Int×Int) (fun YY=>AV.pv (enc YY)) (.nil)))))))))))) h (by kernel_rfl)
theorem SX{G:PV->Prop}(E:Yv)(b:BoxT)(fs:List Fact)(p:List Mono)(u z i:Int)(n:Nat)(xs ys:List Int)(h:if (decide (i<(↑n:Int)))=true then(decide (0<=i)&&decide (0+Int.toNat i<n)&&List.length (List.map enc xs)==n)=true∧((List.length (List.map enc xs)==n&&decide (0+Int.toNat i<List.length (List.map enc xs)))=true∧((decide (0+List.length [Sh.int .i64]<=List.length (PV.cells (List.getD (List.map enc xs) (0+Int.toNat i) default)))&&Y4 (PV.cells (List.getD (List.map enc xs) (0+Int.toNat i) default)) 0 [Sh.int .i64])=true∧((decide (0<=i)&&decide (0+Int.toNat i<n)&&List.length (List.map enc ys)==n)=true∧((List.length (List.map enc ys)==n&&decide (0+Int.toNat i<List.length (List.map enc ys)))=true∧((decide (0+List.length [Sh.int .i64]<=List.length (PV.cells (List.getD (List.map enc ys) (0+Int.toNat i) default)))&&Y4 (PV.cells (List.getD (List.map enc ys) (0+Int.toNat i) default)) 0 [Sh.int .i64])=true∧(Es YE E 0 (Za YP G) YK 0 77 [(6,(.ptr 0 0)),(7,(.ptr 1 0)),(9,(.ptr 2 0)),(10,(.ptr 3 0)),(16,(.pv (.int .i64 (IntKind.wrap IntKind.i64 (u+PV.asInt (List.getD (PV.cells (List.getD (List.map enc xs) (0+Int.toNat i) default)) 0 default)))))),(17,(.pv (.int .i64 (IntKind.wrap IntKind.i64 (z+PV.asInt (List.getD (PV.cells (List.getD (List.map enc ys) (0+Int.toNat i) default)) 0 default)))))),(47,(.pv (.int .i64 (↑n:Int)))),(48,(.pv (.int .i64 (IntKind.wrap IntKind.i64 (i+1)))))] [(.obj (.box [(.pv (.int .i64 0))])),(.obj (.box [(.pv (.int .i64 0))])),(.obj (.box [(.row 4 n 0 n)])),(.obj (.box [(.row 5 n 0 n)])),(.obj (.row false 3 1 (List.map enc xs))),(.obj (.row false 3 1 (List.map enc ys)))]))))))else(∃ y0:Int×Int,AV.pv (Zg (fun(x:List Int×List Int×Unit)=>Gd x.1 x.2.1) [(.sl 1 false [(.int .i64 (IntKind.wrap IntKind.i64 (u+Int.fdiv z (2 ^ min (Int.toNat 31) (IntKind.bits IntKind.i64))))),(.int .i64 (IntKind.wrap IntKind.i64 (↑(BitVec.toNat (BitVec.ofInt (IntKind.bits IntKind.i64) z &&& BitVec.ofInt (IntKind.bits IntKind.i64) 2147483647)):Int)))]),(.sl 1 false [(.int .i64 2147483648),(.int .i64 1)])])=AV.pv (enc y0)∧(G ((.tup [(.int .i64 y0.1),(.int .i64 y0.2)]))))):Es YE E 0 (Za YP G) YK 0 77 [(6,.ptr 0 0),(7,.ptr 1 0),(9,.ptr 2 0),(10,.ptr 3 0),(16,.pv (.int .i64 u)),(17,.pv (.int .i64 z)),(47,.pv (.int .i64 n)),(48,.pv (.int .i64 i))] [.obj (.box [.pv (.int .i64 0)]),.obj (.box [.pv (.int .i64 0)]),.obj (.box [.row 4 n 0 n]),.obj (.box [.row 5 n 0 n]),.obj (.row false 3 1 (xs.map enc)),.obj (.row false 3 1 (ys.map enc))]:=Zz.mp (.lit (.ask (.req (.keep (.req (.req (.lit (.req (.keep (.req (.req (.lit (.lit (.nil)))))))))))) (.lit (.lit (.lit (.lit (.lit (.lit (.lit (.lit (.abs (Int×Int) (fun YY=>AV.pv (enc YY)) (.nil)))))))))))) h (by kernel_rfl)
theorem a1p{G:PV->Prop}(E:Yv)(b:BoxT)(fs:List Fact)(p:List Mono)(h:Es YE E 0 (Za YP G) YK 0 77 [(6,(.ptr 0 0)),(7,(.ptr 1 0)),(9,(.ptr 2 0)),(10,(.ptr 3 0)),(16,(.pv (.int .i64 0))),(17,(.pv (.int .i64 0))),(47,(.pv (.int .i64 0))),(48,(.pv (.int .i64 0)))] [(.obj (.box [(.pv (.int .i64 0))])),(.obj (.box [(.pv (.int .i64 0))])),(.obj (.box [(.pv (.sl 0 true []))])),(.obj (.box [(.pv (.sl 0 true []))]))]):KF YE E 0 (Za YP G) YK 0 .normal ⟨ZO 77 0 [(5,.ptr 0 0),(6,.ptr 1 0),(7,.ptr 2 0),(9,.ptr 3 0),(10,.ptr 4 0),(11,.ptr 5 0)],[.obj (.box [.pv (enc p)]),.obj (.box [.pv (.int .i64 0)]),.obj (.box [.pv (.int .i64 0)]),.obj (.box [.pv (.sl 0 true [])]),.obj (.box [.pv (.sl 0 true [])]),.obj (.box [.fn 124 [] [.ptr 3 0,.ptr 4 0]])]⟩:=Zz.mp (.nil) h (by kernel_rfl)
theorem a3w{G:PV->Prop}(E:Yv)(b:BoxT)(fs:List Fact)(p:List Mono)(n:Nat)(xs ys:List Int)(h:Es YE E 0 (Za YP G) YK 0 77 [(6,(.ptr 0 0)),(7,(.ptr 1 0)),(9,(.ptr 2 0)),(10,(.ptr 3 0)),(16,(.pv (.int .i64 0))),(17,(.pv (.int .i64 0))),(47,(.pv (.int .i64 (↑(n - 0):Int)))),(48,(.pv (.int .i64 0)))] [(.obj (.box [(.pv (.int .i64 0))])),(.obj (.box [(.pv (.int .i64 0))])),(.obj (.box [(.row 4 n 0 n)])),(.obj (.box [(.row 5 n 0 n)])),(.obj (.row false 3 1 (List.map enc xs))),(.obj (.row false 3 1 (List.map enc ys)))]):KF YE E 0 (Za YP G) YK 0 .normal ⟨ZO 77 0 [(5,.ptr 0 0),(6,.ptr 1 0),(7,.ptr 2 0),(9,.ptr 3 0),(10,.ptr 4 0),(11,.ptr 5 0)],[.obj (.box [.pv (enc p)]),.obj (.box [.pv (.int .i64 0)]),.obj (.box [.pv (.int .i64 0)]),.obj (.box [.row 6 n 0 n]),.obj (.box [.row 7 n 0 n]),.obj (.box [.fn 124 [] [.ptr 3 0,.ptr 4 0]]),.obj (.row false 3 1 (xs.map enc)),.obj (.row false 3 1 (ys.map enc))]⟩:=Zz.mp (.nil) h (by kernel_rfl)
theorem Ow{G:PV->Prop}(E:Yv)(b:BoxT)(fs:List Fact)(p:List Mono)(h:G ((.tup [(.int .i64 0),(.int .i64 2)]))):KF YE E 0 (Za YP G) YK 0 .ret ⟨ZO 77 0 [(5,.ptr 0 0),(6,.ptr 1 0),(7,.ptr 2 0),(9,.ptr 3 0),(10,.ptr 4 0),(11,.ptr 5 0)],[.obj (.box [.pv (enc p)]),.obj (.box [.pv (.int .i64 0)]),.obj (.box [.pv (.int .i64 2)]),.obj (.box [.pv (.sl 0 true [])]),.obj (.box [.pv (.sl 0 true [])]),.obj (.box [.fn 124 [] [.ptr 3 0,.ptr 4 0]]),.fresh,.fresh]⟩:=Zz.mp (.nil) h (by kernel_rfl)
theorem LC{G:PV->Prop}(E:Yv)(b:BoxT)(fs:List Fact)(p:List Mono)(n:Nat)(xs ys:List Int)(h:G ((.tup [(.int .i64 0),(.int .i64 2)]))):KF YE E 0 (Za YP G) YK 0 .ret ⟨ZO 77 0 [(5,.ptr 0 0),(6,.ptr 1 0),(7,.ptr 2 0),(9,.ptr 3 0),(10,.ptr 4 0),(11,.ptr 5 0)],[.obj (.box [.pv (enc p)]),.obj (.box [.pv (.int .i64 0)]),.obj (.box [.pv (.int .i64 2)]),.obj (.box [.row 6 n 0 n]),.obj (.box [.row 7 n 0 n]),.obj (.box [.fn 124 [] [.ptr 3 0,.ptr 4 0]]),.obj (.row false 3 1 (xs.map enc)),.obj (.row false 3 1 (ys.map enc)),.fresh,.fresh]⟩:=Zz.mp (.nil) h (by kernel_rfl)
def WP:IC:=(.block 1 (.seq (.reg [⟨(some 36),(.load false [(.sl 2)] (.t 5)),0,none⟩,⟨(some 37),(.mv (.t 13)),0,none⟩,⟨(some 38),(.call (.c (.fn 125)) [(.t 36),(.t 37)]),0,none⟩,⟨(some 35),(.mv (.t 38)),2,none⟩,⟨(some 39),(.extract (.t 35) 0),2,none⟩,⟨(some 40),(.extract (.t 35) 1),2,none⟩,⟨(some 14),(.mv (.t 39)),2,none⟩,⟨(some 15),(.mv (.t 40)),2,none⟩] none) (.seq (.seq (.reg [⟨(some 41),(.mv (.t 15)),0,none⟩,⟨(some 42),(.bin .num .neq (.t 41) (.c (.int .i64 0))),0,none⟩] none) (.cond (.t 42) (.seq (.reg [⟨none,(.store 1 (.t 6) (.c (.int .i64 0))),0,none⟩,⟨none,(.store 1 (.t 7) (.c (.int .i64 2))),0,none⟩] none) .ret) .skip)) (.reg [⟨(some 43),(.load false [.any] (.t 11)),0,none⟩,⟨(some 44),(.mv (.t 14)),0,none⟩,⟨(some 45),(.call (.t 43) [(.t 44)]),0,none⟩] none))))
def Dy:ZE:=Xi [(122,.pure (preT (fun x:List Mono×Unit=>Yc x.1)) (Zg (fun x:List Mono×Unit=>ZZ x.1))),(123,.own Kz Dj),(116,.pure (preT (fun x:BoxT×List Fact×Bool×NilS×Unit=>ZW x.1&&Zm x.2.1&&decide (x.2.1.length<=100))) (Zg (fun x:BoxT×List Fact×Bool×NilS×Unit=>Zp x.1 x.2.1 x.2.2.1 []))),(117,.own YX Wn),(125,.pure (preT (fun x:List Mono×List Coef×Unit=>Yc x.1&&Zt x.2.1)) (Zg (fun x:List Mono×List Coef×Unit=>YO x.1 x.2.1))),(124,.own VX UF),(126,.pure (preT (fun x:List Int×List Int×Unit=>decide (x.1.length<=10000)&&decide (x.2.1.length<=10000))) (Zg (fun x:List Int×List Int×Unit=>Gd x.1 x.2.1)))]
theorem a7m{G:Zr->Prop}(E:Yv)(p:List Mono)(q:List Int)(vs:List Coef)(h:(Go.Pl.preT (fun(x:List Mono×List Coef×Unit)=>Yc x.1&&Zt x.2.1) [(.sl 2 false (List.map enc p)),(.sl 2 false (List.map enc vs))])=true∧(∃ y0:Int×Int,AV.pv (Zg (fun(x:List Mono×List Coef×Unit)=>YO x.1 x.2.1) [(.sl 2 false (List.map enc p)),(.sl 2 false (List.map enc vs))])=AV.pv (enc y0)∧(if (y0.2 != 0)=true then G ([(.obj (.box [(.pv (.sl 2 false (List.map enc p)))])),(.obj (.box [(.pv (.int .i64 0))])),(.obj (.box [(.pv (.int .i64 2))])),(.obj (.box [(.pv (.sl 0 true []))])),(.obj (.box [(.pv (.sl 0 true []))])),(.obj (.box [(.fn 124 [] [(.ptr 3 0),(.ptr 4 0)])])),.fresh,.fresh])else(E 99 ⟨ZO 77 0 [],[(.obj (.box [(.pv (.sl 2 false (List.map enc p)))])),(.obj (.box [(.pv (.int .i64 0))])),(.obj (.box [(.pv (.int .i64 0))])),(.obj (.box [(.row 6 1 0 1)])),(.obj (.box [(.row 7 1 0 1)])),(.obj (.box [(.fn 124 [] [(.ptr 3 0),(.ptr 4 0)])])),(.obj (.row false 3 1 [(.int .i64 (X7 y0.1))])),(.obj (.row false 3 1 [(.int .i64 (XH y0.1))]))]⟩ (fun x S'=>KF Dy E 6 (fun st=>G st.heap) WP 99 x S'))))):Zz Dy E 6 (fun st=>G st.heap) (.inl WP) [.seq (.ext 99 [])] ⟨ZO 77 0 [(5,.ptr 0 0),(6,.ptr 1 0),(7,.ptr 2 0),(9,.ptr 3 0),(10,.ptr 4 0),(11,.ptr 5 0),(13,.pv (enc vs)),(33,.pv (enc q)),(34,.pv (enc vs))],[.obj (.box [.pv (enc p)]),.obj (.box [.pv (.int .i64 0)]),.obj (.box [.pv (.int .i64 0)]),.obj (.box [.pv (.sl 0 true [])]),.obj (.box [.pv (.sl 0 true [])]),.obj (.box [.fn 124 [] [.ptr 3 0,.ptr 4 0]])]⟩:=Zz.mh (.req (.abs (Int×Int) (fun YY=>AV.pv (enc YY)) (.lit (.ask (.nil) (.lit (.keep (.nil))))))) h (by kernel_rfl)
theorem a4v{G:Zr->Prop}(E:Yv)(p:List Mono)(q:List Int)(vs:List Coef)(n:Nat)(xs ys:List Int)(h:(Go.Pl.preT (fun(x:List Mono×List Coef×Unit)=>Yc x.1&&Zt x.2.1) [(.sl 2 false (List.map enc p)),(.sl 2 false (List.map enc vs))])=true∧(∃ y0:Int×Int,AV.pv (Zg (fun(x:List Mono×List Coef×Unit)=>YO x.1 x.2.1) [(.sl 2 false (List.map enc p)),(.sl 2 false (List.map enc vs))])=AV.pv (enc y0)∧(if (y0.2 != 0)=true then G ([(.obj (.box [(.pv (.sl 2 false (List.map enc p)))])),(.obj (.box [(.pv (.int .i64 0))])),(.obj (.box [(.pv (.int .i64 2))])),(.obj (.box [(.row 6 n 0 n)])),(.obj (.box [(.row 7 n 0 n)])),(.obj (.box [(.fn 124 [] [(.ptr 3 0),(.ptr 4 0)])])),(.obj (.row false 3 1 (List.map enc xs))),(.obj (.row false 3 1 (List.map enc ys))),.fresh,.fresh])else((VX [(.pv (.int .i64 y0.1)),(.ptr 0 0),(.ptr 1 0)] [(.box [(.row 2 n 0 n)]),(.box [(.row 3 n 0 n)]),(.row false 3 1 (List.map enc xs)),(.row false 3 1 (List.map enc ys))])=true∧(E 99 ⟨ZO 77 0 [],[(.obj (.box [(.pv (.sl 2 false (List.map enc p)))])),(.obj (.box [(.pv (.int .i64 0))])),(.obj (.box [(.pv (.int .i64 0))])),(.obj (.box [(.row 6 (n+1) 0 (n+1))])),(.obj (.box [(.row 7 (n+1) 0 (n+1))])),(.obj (.box [(.fn 124 [] [(.ptr 3 0),(.ptr 4 0)])])),(.obj (.row false 3 1 (List.map enc xs++[PV.int .i64 (X7 y0.1)]))),(.obj (.row false 3 1 (List.map enc ys++[PV.int .i64 (XH y0.1)])))]⟩ (fun x S'=>KF Dy E 8 (fun st=>G st.heap) WP 99 x S')))))):Zz Dy E 8 (fun st=>G st.heap) (.inl WP) [.seq (.ext 99 [])] ⟨ZO 77 0 [(5,.ptr 0 0),(6,.ptr 1 0),(7,.ptr 2 0),(9,.ptr 3 0),(10,.ptr 4 0),(11,.ptr 5 0),(13,.pv (enc vs)),(33,.pv (enc q)),(34,.pv (enc vs))],[.obj (.box [.pv (enc p)]),.obj (.box [.pv (.int .i64 0)]),.obj (.box [.pv (.int .i64 0)]),.obj (.box [.row 6 n 0 n]),.obj (.box [.row 7 n 0 n]),.obj (.box [.fn 124 [] [.ptr 3 0,.ptr 4 0]]),.obj (.row false 3 1 (xs.map enc)),.obj (.row false 3 1 (ys.map enc))]⟩:=Zz.mh (.req (.abs (Int×Int) (fun YY=>AV.pv (enc YY)) (.lit (.ask (.nil) (.req (.keep (.nil))))))) h (by kernel_rfl)
def YU:IC:=YK
def YV:List IRes:=[(.cell false 1 6),(.cell false 1 7)]
abbrev b1o:Nat:=77
def YF:ZE:=Xi [(122,.pure (preT (fun x:List Mono×Unit=>Yc x.1)) (Zg (fun x:List Mono×Unit=>ZZ x.1))),(123,.own UI Tu),(116,.own VZ Qp),(117,.own YX Wn),(125,.pure (preT (fun x:List Mono×List Coef×Unit=>Yc x.1&&Zt x.2.1)) (Zg (fun x:List Mono×List Coef×Unit=>YO x.1 x.2.1))),(124,.own VX UF),(126,.pure (preT (fun x:List Int×List Int×Unit=>decide (x.1.length<=10000)&&decide (x.2.1.length<=10000))) (Zg (fun x:List Int×List Int×Unit=>Gd x.1 x.2.1)))]
theorem b5n{G:PV->Prop}(E:Yv)(b:BoxT)(fs:List Fact)(p:List Mono)(h:(Go.Pl.preT (fun(x:List Mono×Unit)=>Yc x.1) [(.sl 2 false (List.map enc p))])=true∧(∃ y0:Bool,AV.pv (Zg (fun(x:List Mono×Unit)=>ZZ x.1) [(.sl 2 false (List.map enc p))])=AV.pv (enc y0)∧((UI [(.pv (.sl 2 false (List.map enc p)))] [])=true∧((VZ [(.pv (.agg [(.sl 1 false (List.map enc b.v)),(.int .i64 b.m)])),(.pv (.sl 3 false (List.map enc fs))),(.pv (.bool y0)),(.row 0 (List.length (Yt (VG (enc p)))) 0 (List.length (Yt (VG (enc p)))))] [(.row false 9 1 (List.map enc (Yt (VG (enc p)))))])=true∧(if (Zp (Ld (PV.agg [enc b.v,enc b.m])) (Ci (enc fs)) y0 (QQ (List.map enc (Yt (VG (enc p))))) != 0)=true then G ((.tup [(.int .i64 0),(.int .i64 (Zp (Ld (PV.agg [enc b.v,enc b.m])) (Ci (enc fs)) y0 (QQ (List.map enc (Yt (VG (enc p)))))))]))else((YX [(.pv (.agg [(.sl 1 false (List.map enc b.v)),(.int .i64 b.m)])),(.pv (.sl 3 false (List.map enc fs)))] [])=true∧(E 0 ⟨ZO 77 0 [(5,(.ptr 0 0)),(6,(.ptr 1 0)),(7,(.ptr 2 0)),(9,(.ptr 3 0)),(10,(.ptr 4 0)),(11,(.ptr 5 0)),(13,.undef),(14,.undef),(15,.undef),(32,(.fn 177 [] [(.ptr 6 0),(.ptr 7 0)])),(34,.undef),(35,.undef),(36,.undef),(37,.undef),(38,.undef),(39,.undef),(40,.undef),(41,.undef),(42,.undef),(43,.undef),(44,.undef)],[(.obj (.box [(.pv (.sl 2 false (List.map enc p)))])),(.obj (.box [(.pv (.int .i64 0))])),(.obj (.box [(.pv (.int .i64 0))])),(.obj (.box [(.pv (.sl 0 true []))])),(.obj (.box [(.pv (.sl 0 true []))])),(.obj (.box [(.fn 124 [] [(.ptr 3 0),(.ptr 4 0)])])),(.obj (.box [(.pv (.sl 1 false (List.map enc b.v))),(.pv (.int .i64 b.m))])),(.obj (.box [(.pv (.sl 3 false (List.map enc fs)))]))]⟩ (fun x S'=>KF YF E 0 (Za YV G) YU 0 x S')))))))):Zz YF E 0 (Za YV G) (.inl YU) [] (Yx 77 [enc b,enc fs,enc p]):=Zz.mp (.req (.abs (Bool) (fun YY=>AV.pv (enc YY)) (.req (.keep (.req (.keep (.lit (.ask (.nil) (.req (.keep (.nil))))))))))) h (by kernel_rfl)
theorem a1y{G:PV->Prop}(E:Yv)(b:BoxT)(fs:List Fact)(p:List Mono)(h : ∃ y0:Int×Int,AV.pv (Zg (fun(x:List Int×List Int×Unit)=>Gd x.1 x.2.1) [(.sl 1 false [(.int .i64 0),(.int .i64 0)]),(.sl 1 false [(.int .i64 2147483648),(.int .i64 1)])])=AV.pv (enc y0)∧(G ((.tup [(.int .i64 y0.1),(.int .i64 y0.2)])))):Es YF E 0 (Za YV G) YU 0 77 [(6,.ptr 0 0),(7,.ptr 1 0),(9,.ptr 2 0),(10,.ptr 3 0),(16,.pv (.int .i64 0)),(17,.pv (.int .i64 0)),(47,.pv (.int .i64 0)),(48,.pv (.int .i64 0))] [.obj (.box [.pv (.int .i64 0)]),.obj (.box [.pv (.int .i64 0)]),.obj (.box [.pv (.sl 0 true [])]),.obj (.box [.pv (.sl 0 true [])])]:=Zz.mp (.lit (.lit (.lit (.lit (.lit (.lit (.lit (.lit (.lit (.lit (.abs (Int×Int) (fun YY=>AV.pv (enc YY)) (.nil)))))))))))) h (by kernel_rfl)
theorem Sa{G:PV->Prop}(E:Yv)(b:BoxT)(fs:List Fact)(p:List Mono)(u z i:Int)(n:Nat)(xs ys:List Int)(h:if (decide (i<(↑n:Int)))=true then(decide (0<=i)&&decide (0+Int.toNat i<n)&&List.length (List.map enc xs)==n)=true∧((List.length (List.map enc xs)==n&&decide (0+Int.toNat i<List.length (List.map enc xs)))=true∧((decide (0+List.length [Sh.int .i64]<=List.length (PV.cells (List.getD (List.map enc xs) (0+Int.toNat i) default)))&&Y4 (PV.cells (List.getD (List.map enc xs) (0+Int.toNat i) default)) 0 [Sh.int .i64])=true∧((decide (0<=i)&&decide (0+Int.toNat i<n)&&List.length (List.map enc ys)==n)=true∧((List.length (List.map enc ys)==n&&decide (0+Int.toNat i<List.length (List.map enc ys)))=true∧((decide (0+List.length [Sh.int .i64]<=List.length (PV.cells (List.getD (List.map enc ys) (0+Int.toNat i) default)))&&Y4 (PV.cells (List.getD (List.map enc ys) (0+Int.toNat i) default)) 0 [Sh.int .i64])=true∧(Es YF E 0 (Za YV G) YU 0 77 [(6,(.ptr 0 0)),(7,(.ptr 1 0)),(9,(.ptr 2 0)),(10,(.ptr 3 0)),(16,(.pv (.int .i64 (IntKind.wrap IntKind.i64 (u+PV.asInt (List.getD (PV.cells (List.getD (List.map enc xs) (0+Int.toNat i) default)) 0 default)))))),(17,(.pv (.int .i64 (IntKind.wrap IntKind.i64 (z+PV.asInt (List.getD (PV.cells (List.getD (List.map enc ys) (0+Int.toNat i) default)) 0 default)))))),(47,(.pv (.int .i64 (↑n:Int)))),(48,(.pv (.int .i64 (IntKind.wrap IntKind.i64 (i+1)))))] [(.obj (.box [(.pv (.int .i64 0))])),(.obj (.box [(.pv (.int .i64 0))])),(.obj (.box [(.row 4 n 0 n)])),(.obj (.box [(.row 5 n 0 n)])),(.obj (.row false 3 1 (List.map enc xs))),(.obj (.row false 3 1 (List.map enc ys)))]))))))else(∃ y0:Int×Int,AV.pv (Zg (fun(x:List Int×List Int×Unit)=>Gd x.1 x.2.1) [(.sl 1 false [(.int .i64 (IntKind.wrap IntKind.i64 (u+Int.fdiv z (2 ^ min (Int.toNat 31) (IntKind.bits IntKind.i64))))),(.int .i64 (IntKind.wrap IntKind.i64 (↑(BitVec.toNat (BitVec.ofInt (IntKind.bits IntKind.i64) z &&& BitVec.ofInt (IntKind.bits IntKind.i64) 2147483647)):Int)))]),(.sl 1 false [(.int .i64 2147483648),(.int .i64 1)])])=AV.pv (enc y0)∧(G ((.tup [(.int .i64 y0.1),(.int .i64 y0.2)]))))):Es YF E 0 (Za YV G) YU 0 77 [(6,.ptr 0 0),(7,.ptr 1 0),(9,.ptr 2 0),(10,.ptr 3 0),(16,.pv (.int .i64 u)),(17,.pv (.int .i64 z)),(47,.pv (.int .i64 n)),(48,.pv (.int .i64 i))] [.obj (.box [.pv (.int .i64 0)]),.obj (.box [.pv (.int .i64 0)]),.obj (.box [.row 4 n 0 n]),.obj (.box [.row 5 n 0 n]),.obj (.row false 3 1 (xs.map enc)),.obj (.row false 3 1 (ys.map enc))]:=Zz.mp (.lit (.ask (.req (.keep (.req (.req (.lit (.req (.keep (.req (.req (.lit (.lit (.nil)))))))))))) (.lit (.lit (.lit (.lit (.lit (.lit (.lit (.lit (.abs (Int×Int) (fun YY=>AV.pv (enc YY)) (.nil)))))))))))) h (by kernel_rfl)
theorem a1h{G:PV->Prop}(E:Yv)(b:BoxT)(fs:List Fact)(p:List Mono)(h:Es YF E 0 (Za YV G) YU 0 77 [(6,(.ptr 0 0)),(7,(.ptr 1 0)),(9,(.ptr 2 0)),(10,(.ptr 3 0)),(16,(.pv (.int .i64 0))),(17,(.pv (.int .i64 0))),(47,(.pv (.int .i64 0))),(48,(.pv (.int .i64 0)))] [(.obj (.box [(.pv (.int .i64 0))])),(.obj (.box [(.pv (.int .i64 0))])),(.obj (.box [(.pv (.sl 0 true []))])),(.obj (.box [(.pv (.sl 0 true []))]))]):KF YF E 0 (Za YV G) YU 0 .normal ⟨ZO 77 0 [(5,.ptr 0 0),(6,.ptr 1 0),(7,.ptr 2 0),(9,.ptr 3 0),(10,.ptr 4 0),(11,.ptr 5 0)],[.obj (.box [.pv (enc p)]),.obj (.box [.pv (.int .i64 0)]),.obj (.box [.pv (.int .i64 0)]),.obj (.box [.pv (.sl 0 true [])]),.obj (.box [.pv (.sl 0 true [])]),.obj (.box [.fn 124 [] [.ptr 3 0,.ptr 4 0]])]⟩:=Zz.mp (.nil) h (by kernel_rfl)
theorem a1t{G:PV->Prop}(E:Yv)(b:BoxT)(fs:List Fact)(p:List Mono)(n:Nat)(xs ys:List Int)(h:Es YF E 0 (Za YV G) YU 0 77 [(6,(.ptr 0 0)),(7,(.ptr 1 0)),(9,(.ptr 2 0)),(10,(.ptr 3 0)),(16,(.pv (.int .i64 0))),(17,(.pv (.int .i64 0))),(47,(.pv (.int .i64 (↑(n - 0):Int)))),(48,(.pv (.int .i64 0)))] [(.obj (.box [(.pv (.int .i64 0))])),(.obj (.box [(.pv (.int .i64 0))])),(.obj (.box [(.row 4 n 0 n)])),(.obj (.box [(.row 5 n 0 n)])),(.obj (.row false 3 1 (List.map enc xs))),(.obj (.row false 3 1 (List.map enc ys)))]):KF YF E 0 (Za YV G) YU 0 .normal ⟨ZO 77 0 [(5,.ptr 0 0),(6,.ptr 1 0),(7,.ptr 2 0),(9,.ptr 3 0),(10,.ptr 4 0),(11,.ptr 5 0)],[.obj (.box [.pv (enc p)]),.obj (.box [.pv (.int .i64 0)]),.obj (.box [.pv (.int .i64 0)]),.obj (.box [.row 6 n 0 n]),.obj (.box [.row 7 n 0 n]),.obj (.box [.fn 124 [] [.ptr 3 0,.ptr 4 0]]),.obj (.row false 3 1 (xs.map enc)),.obj (.row false 3 1 (ys.map enc))]⟩:=Zz.mp (.nil) h (by kernel_rfl)
theorem FZ{G:PV->Prop}(E:Yv)(b:BoxT)(fs:List Fact)(p:List Mono)(h:G ((.tup [(.int .i64 0),(.int .i64 2)]))):KF YF E 0 (Za YV G) YU 0 .ret ⟨ZO 77 0 [(5,.ptr 0 0),(6,.ptr 1 0),(7,.ptr 2 0),(9,.ptr 3 0),(10,.ptr 4 0),(11,.ptr 5 0)],[.obj (.box [.pv (enc p)]),.obj (.box [.pv (.int .i64 0)]),.obj (.box [.pv (.int .i64 2)]),.obj (.box [.pv (.sl 0 true [])]),.obj (.box [.pv (.sl 0 true [])]),.obj (.box [.fn 124 [] [.ptr 3 0,.ptr 4 0]]),.fresh,.fresh]⟩:=Zz.mp (.nil) h (by kernel_rfl)
theorem Lc{G:PV->Prop}(E:Yv)(b:BoxT)(fs:List Fact)(p:List Mono)(n:Nat)(xs ys:List Int)(h:G ((.tup [(.int .i64 0),(.int .i64 2)]))):KF YF E 0 (Za YV G) YU 0 .ret ⟨ZO 77 0 [(5,.ptr 0 0),(6,.ptr 1 0),(7,.ptr 2 0),(9,.ptr 3 0),(10,.ptr 4 0),(11,.ptr 5 0)],[.obj (.box [.pv (enc p)]),.obj (.box [.pv (.int .i64 0)]),.obj (.box [.pv (.int .i64 2)]),.obj (.box [.row 6 n 0 n]),.obj (.box [.row 7 n 0 n]),.obj (.box [.fn 124 [] [.ptr 3 0,.ptr 4 0]]),.obj (.row false 3 1 (xs.map enc)),.obj (.row false 3 1 (ys.map enc)),.fresh,.fresh]⟩:=Zz.mp (.nil) h (by kernel_rfl)
def VF:IC:=WP
def Dh:ZE:=Xi [(122,.pure (preT (fun x:List Mono×Unit=>Yc x.1)) (Zg (fun x:List Mono×Unit=>ZZ x.1))),(123,.own UI Tu),(116,.own VZ Qp),(117,.own YX Wn),(125,.pure (preT (fun x:List Mono×List Coef×Unit=>Yc x.1&&Zt x.2.1)) (Zg (fun x:List Mono×List Coef×Unit=>YO x.1 x.2.1))),(124,.own VX UF),(126,.pure (preT (fun x:List Int×List Int×Unit=>decide (x.1.length<=10000)&&decide (x.2.1.length<=10000))) (Zg (fun x:List Int×List Int×Unit=>Gd x.1 x.2.1)))]
theorem b1l{G:Zr->Prop}(E:Yv)(p:List Mono)(q:List Int)(vs:List Coef)(h:(Go.Pl.preT (fun(x:List Mono×List Coef×Unit)=>Yc x.1&&Zt x.2.1) [(.sl 2 false (List.map enc p)),(.sl 2 false (List.map enc vs))])=true∧(∃ y0:Int×Int,AV.pv (Zg (fun(x:List Mono×List Coef×Unit)=>YO x.1 x.2.1) [(.sl 2 false (List.map enc p)),(.sl 2 false (List.map enc vs))])=AV.pv (enc y0)∧(if (y0.2 != 0)=true then G ([(.obj (.box [(.pv (.sl 2 false (List.map enc p)))])),(.obj (.box [(.pv (.int .i64 0))])),(.obj (.box [(.pv (.int .i64 2))])),(.obj (.box [(.pv (.sl 0 true []))])),(.obj (.box [(.pv (.sl 0 true []))])),(.obj (.box [(.fn 124 [] [(.ptr 3 0),(.ptr 4 0)])])),.fresh,.fresh])else(E 99 ⟨ZO 77 0 [],[(.obj (.box [(.pv (.sl 2 false (List.map enc p)))])),(.obj (.box [(.pv (.int .i64 0))])),(.obj (.box [(.pv (.int .i64 0))])),(.obj (.box [(.row 6 1 0 1)])),(.obj (.box [(.row 7 1 0 1)])),(.obj (.box [(.fn 124 [] [(.ptr 3 0),(.ptr 4 0)])])),(.obj (.row false 3 1 [(.int .i64 (X7 y0.1))])),(.obj (.row false 3 1 [(.int .i64 (XH y0.1))]))]⟩ (fun x S'=>KF Dh E 6 (fun st=>G st.heap) VF 99 x S'))))):Zz Dh E 6 (fun st=>G st.heap) (.inl VF) [.seq (.ext 99 [])] ⟨ZO 77 0 [(5,.ptr 0 0),(6,.ptr 1 0),(7,.ptr 2 0),(9,.ptr 3 0),(10,.ptr 4 0),(11,.ptr 5 0),(13,.pv (enc vs)),(33,.pv (enc q)),(34,.pv (enc vs))],[.obj (.box [.pv (enc p)]),.obj (.box [.pv (.int .i64 0)]),.obj (.box [.pv (.int .i64 0)]),.obj (.box [.pv (.sl 0 true [])]),.obj (.box [.pv (.sl 0 true [])]),.obj (.box [.fn 124 [] [.ptr 3 0,.ptr 4 0]])]⟩:=Zz.mh (.req (.abs (Int×Int) (fun YY=>AV.pv (enc YY)) (.lit (.ask (.nil) (.lit (.keep (.nil))))))) h (by kernel_rfl)
theorem b1p{G:Zr->Prop}(E:Yv)(p:List Mono)(q:List Int)(vs:List Coef)(n:Nat)(xs ys:List Int)(h:(Go.Pl.preT (fun(x:List Mono×List Coef×Unit)=>Yc x.1&&Zt x.2.1) [(.sl 2 false (List.map enc p)),(.sl 2 false (List.map enc vs))])=true∧(∃ y0:Int×Int,AV.pv (Zg (fun(x:List Mono×List Coef×Unit)=>YO x.1 x.2.1) [(.sl 2 false (List.map enc p)),(.sl 2 false (List.map enc vs))])=AV.pv (enc y0)∧(if (y0.2 != 0)=true then G ([(.obj (.box [(.pv (.sl 2 false (List.map enc p)))])),(.obj (.box [(.pv (.int .i64 0))])),(.obj (.box [(.pv (.int .i64 2))])),(.obj (.box [(.row 6 n 0 n)])),(.obj (.box [(.row 7 n 0 n)])),(.obj (.box [(.fn 124 [] [(.ptr 3 0),(.ptr 4 0)])])),(.obj (.row false 3 1 (List.map enc xs))),(.obj (.row false 3 1 (List.map enc ys))),.fresh,.fresh])else((VX [(.pv (.int .i64 y0.1)),(.ptr 0 0),(.ptr 1 0)] [(.box [(.row 2 n 0 n)]),(.box [(.row 3 n 0 n)]),(.row false 3 1 (List.map enc xs)),(.row false 3 1 (List.map enc ys))])=true∧(E 99 ⟨ZO 77 0 [],[(.obj (.box [(.pv (.sl 2 false (List.map enc p)))])),(.obj (.box [(.pv (.int .i64 0))])),(.obj (.box [(.pv (.int .i64 0))])),(.obj (.box [(.row 6 (n+1) 0 (n+1))])),(.obj (.box [(.row 7 (n+1) 0 (n+1))])),(.obj (.box [(.fn 124 [] [(.ptr 3 0),(.ptr 4 0)])])),(.obj (.row false 3 1 (List.map enc xs++[PV.int .i64 (X7 y0.1)]))),(.obj (.row false 3 1 (List.map enc ys++[PV.int .i64 (XH y0.1)])))]⟩ (fun x S'=>KF Dh E 8 (fun st=>G st.heap) VF 99 x S')))))):Zz Dh E 8 (fun st=>G st.heap) (.inl VF) [.seq (.ext 99 [])] ⟨ZO 77 0 [(5,.ptr 0 0),(6,.ptr 1 0),(7,.ptr 2 0),(9,.ptr 3 0),(10,.ptr 4 0),(11,.ptr 5 0),(13,.pv (enc vs)),(33,.pv (enc q)),(34,.pv (enc vs))],[.obj (.box [.pv (enc p)]),.obj (.box [.pv (.int .i64 0)]),.obj (.box [.pv (.int .i64 0)]),.obj (.box [.row 6 n 0 n]),.obj (.box [.row 7 n 0 n]),.obj (.box [.fn 124 [] [.ptr 3 0,.ptr 4 0]]),.obj (.row false 3 1 (xs.map enc)),.obj (.row false 3 1 (ys.map enc))]⟩:=Zz.mh (.req (.abs (Int×Int) (fun YY=>AV.pv (enc YY)) (.lit (.ask (.nil) (.req (.keep (.nil))))))) h (by kernel_rfl)
end Go.Pl

namespace Go.Pl
open Go.RowKit
open Enc (enc dec is)
open EncL (encL decL isL)
theorem Jk{a b:Int}: ∀ {l:List Int},(∀ x∈l,a<=x∧x<=b)->l.length*a<=l.sum∧l.sum<=l.length*b
 | [],_=>by simp
 | x::l,h=>by
  have h1:=h x (by simp)
  have h2:=Jk (l:=l) fun y hy=>h y (by simp[hy])
  rw[List.length_cons,List.sum_cons,Int.natCast_add,Int.add_mul,Int.add_mul]
  simp only[Int.natCast_one,Int.one_mul]
  omega
theorem c1l(n:Int):X7 n*2147483648+XH n=n:=by unfold X7 XH;omega
theorem b0n{n:Int}(h:Ut n=true): -2147483648<=X7 n∧X7 n<=2147483648:=by
 unfold Ut at h
 simp only[Bool.and_eq_true,decide_eq_true_eq]at h
 unfold X7;omega
theorem a6q(n:Int):0<=XH n∧XH n<=2147483647:=by unfold XH;omega
theorem BC: ∀ l:List Int,(l.map X7).sum*2147483648+(l.map XH).sum=l.sum
 | []=>rfl
 | n::l=>by
  have h1:=c1l n
  have h2:=BC l
  simp only[List.map_cons,List.sum_cons,Int.add_mul]
  omega
theorem BB{l:List Int}(hl:l.length<=20000)(hr : ∀ x∈l,Ut x=true){H L:Int}(hH:H=(l.map X7).sum+(l.map XH).sum / 2147483648)(hL:L=(l.map XH).sum % 2147483648):
  Gd [H,L] [2147483648,1]=Vp l:=by
 have h1:=Jk (l:=l.map X7) (a:= -2147483648) (b:=2147483648) (by
  intro x hx
  obtain⟨n,hn,rfl⟩:=List.mem_map.1 hx
  exact b0n (hr n hn))
 have h2:=Jk (l:=l.map XH) (a:=0) (b:=2147483647) (by
  intro x hx
  obtain⟨n,hn,rfl⟩:=List.mem_map.1 hx
  exact a6q n)
 have h3:=BC l
 rw[List.length_map]at h1 h2
 have hd:FX [H,L] [2147483648,1]=l.sum:=by
  show H*2147483648+(L*1+0)=_
  omega
 have ha:l.all Ut=true:=List.all_eq_true.2 hr
 have e1:Ut H=true:=by
  unfold Ut
  rw[decide_eq_true (by omega),decide_eq_true (by omega)];rfl
 have e2:Ut L=true:=by
  unfold Ut
  rw[decide_eq_true (by omega),decide_eq_true (by omega)];rfl
 unfold Gd Vp
 rw[hd,ha,if_pos (by rfl)]
 have:(List.all [H,L] Ut&&List.all [(2147483648:Int),1] Ut)=true:=by
  simp only[List.all_cons,List.all_nil,Bool.and_true,e1,e2,Bool.and_eq_true]
  decide
 rw[this]
theorem b7i{l:List Int}:Ut (Vp l).1=true:=by
 unfold Vp
 split
 ·rename_i h
  simp only[Bool.and_eq_true]at h
  exact h.2
 ·decide
theorem b2m(p:List Mono)(vs:List Coef):Ut (YO p vs).1=true:=by
 unfold YO
 split
 ·split
  ·decide
  ·split
   ·decide
   ·split
    ·decide
    ·exact b7i
 ·decide
theorem U6{p:List Mono}{vs:List Str}: ∀ {qs:List (List Int)} {l:List Int},VH p vs qs=some l->l.length=qs.length
 | [],_,h=>by cases h;rfl
 | q::r,l,h=>by
  rw[VH]at h
  split at h
  ·cases h
  ·obtain⟨m,hm,rfl⟩:=Option.map_eq_some_iff.1 h
   simp[U6 hm]
theorem Cm{p:List Mono}{vs:List Str}: ∀ {qs:List (List Int)} {l:List Int},VH p vs qs=some l-> ∀ x∈l,Ut x=true
 | [],_,h=>by cases h;simp
 | q::r,l,h=>by
  rw[VH]at h
  split at h
  ·cases h
  ·obtain⟨m,hm,rfl⟩:=Option.map_eq_some_iff.1 h
   intro x hx
   rcases List.mem_cons.1 hx with rfl|hx
   ·exact b2m _ _
   ·exact Cm hm x hx
theorem Us{p:List Mono}{vs:List Str}{q:List Int}(hq:(YO p (Zj vs q)).2=0): ∀ {qs:List (List Int)} {l:List Int},VH p vs qs=some l->VH p vs (qs++[q])=some (l++[(YO p (Zj vs q)).1])
 | [],_,h=>by cases h;rw[List.nil_append,VH,if_neg (by simp[hq])];rfl
 | q'::r,l,h=>by
  rw[VH]at h
  split at h
  ·cases h
  ·rename_i h2
   obtain⟨m,hm,rfl⟩:=Option.map_eq_some_iff.1 h
   rw[List.cons_append,VH,if_neg h2,Us hq hm];rfl
theorem CO{p:List Mono}{vs:List Str}{q:List Int}(hq:(YO p (Zj vs q)).2≠0){r:List (List Int)}: ∀ (qs:List (List Int)),VH p vs (qs++q::r)=none
 | []=>by rw[List.nil_append,VH,if_pos hq]
 | q'::qs=>by
  rw[List.cons_append,VH,CO hq qs]
  split <;> rfl
section
variable {α:Type} [Inhabited α] [DecidableEq α]
theorem Pi{d:Array α}{x:α}: ∀ {m:Nat},m<=d.size->x∈Lib.compactUpTo d m-> ∃ j,j<m∧x=d[j]!
 | 0,_,h=>by simp[Lib.compactUpTo]at h
 | m+1,hm,h=>by
  rw[Lib.compactUpTo_succ,List.mem_append]at h
  rcases h with h|h
  ·obtain⟨j,h1,h2⟩:=Pi (by omega) h;exact⟨j,by omega,h2⟩
  ·split at h
   ·exact⟨m,by omega,by simpa using h⟩
   ·simp at h
theorem TE{d:Array α}: ∀ {m:Nat},m<=d.size-> ∀ j,j<m->d[j]! ∈ Lib.compactUpTo d m
 | 0,_,j,h=>by omega
 | m+1,hm,j,h=>by
  rw[Lib.compactUpTo_succ,List.mem_append]
  by_cases hj:j<m
  ·exact .inl (TE (by omega) j hj)
  ·have:j=m:=by omega
   subst this
   cases hk:Lib.keeps d j
   ·refine .inl ?_
    have h0:j≠0∧d[j]! = d[j - 1]! :=by
     unfold Lib.keeps at hk
     simpa [not_or]using hk
    rw[h0.2]
    exact TE (by omega) (j - 1) (by omega)
   ·right;simp
theorem PR{zs:List α}{x:α}:x∈Lib.compact zs ↔ x∈zs:=by
 unfold Lib.compact
 constructor
 ·intro h
  obtain⟨j,h1,rfl⟩:=Pi (by simp) h
  simp[getElem!_pos,h1]
 ·intro h
  obtain⟨j,hj,rfl⟩:=List.getElem_of_mem h
  have:=TE (d:=zs.toArray) (m:=zs.length) (by simp) j hj
  simpa [getElem!_pos,hj]using this
end
theorem Ox{d:Array (List UInt8)}(hs : ∀ i j,i<j->j<d.size->d[i]! <= d[j]!): ∀ {m:Nat},m<=d.size->(Lib.compactUpTo d m).Pairwise (· < ·)
 | 0,_=>by simp[Lib.compactUpTo]
 | m+1,hm=>by
  rw[Lib.compactUpTo_succ,List.pairwise_append]
  refine⟨Ox hs (by omega),by split <;> simp,?_⟩
  intro x hx y hy
  split at hy
  ·rename_i hk
   have hy:y=d[m]! :=by simpa using hy
   subst hy
   obtain⟨j,hj,rfl⟩:=Pi (by omega) hx
   have h0:m≠0:=by omega
   have hne:d[m]! ≠ d[m - 1]! :=by
    unfold Lib.keeps at hk
    simpa [h0]using hk
   have h1:d[m - 1]! <= d[m]! :=hs _ _ (by omega) (by omega)
   have h2:d[j]! <= d[m - 1]! :=by
    by_cases e:j=m - 1
    ·rw[e];exact List.le_refl _
    ·exact hs _ _ (by omega) (by omega)
   have h3:d[m - 1]! < d[m]! :=by
    rcases List.le_iff_lt_or_eq.1 h1 with h|h
    ·exact h
    ·exact absurd h.symm hne
   exact Std.lt_of_le_of_lt h2 h3
  ·simp at hy
theorem b2i(ss:List (List UInt8)):(X8 ss).Pairwise (· <= ·):=by
 have:=List.pairwise_mergeSort (le:=fun x y:List UInt8=>decide (x<=y)) (fun a b c h1 h2=>by
  simp only[decide_eq_true_eq]at *;exact List.le_trans h1 h2) (fun a b=>by
  simp only[Bool.or_eq_true,decide_eq_true_eq];exact List.le_total a b) ss
 exact this.imp fun h=>by simpa using h
theorem b2t(ss:List (List UInt8)):(Lib.compact (X8 ss)).Pairwise (· < ·):=by
 unfold Lib.compact
 refine Ox ?_ (by simp)
 intro i j hij hj
 have hj:j<(X8 ss).length:=by simpa using hj
 have:=List.pairwise_iff_getElem.1 (b2i ss) i j (by omega) hj hij
 simpa [getElem!_pos,hj,show i<(X8 ss).length by omega]using this
theorem AO(p:List Mono)(x:Str):x∈Yt p ↔ x∈Xq p:=by
 unfold Yt
 rw[List.mem_map]
 constructor
 ·rintro⟨s,hs,rfl⟩
  have:=(List.mergeSort_perm _ _).mem_iff.1 (PR.1 hs)
  obtain⟨y,hy,e⟩:=List.mem_map.1 this
  cases y;cases e;exact hy
 ·intro h
  exact⟨x.s,PR.2 ((List.mergeSort_perm _ _).mem_iff.2 (List.mem_map.2 ⟨x,h,rfl⟩)),rfl⟩
theorem a1r(p:List Mono):(Yt p).Pairwise fun x y:Str=>x.s<y.s:=by
 unfold Yt Xb
 rw[List.pairwise_map]
 exact b2t _
theorem Be{s x:Str}: ∀ {l:List Str},x∈HV l s ↔ x=s∨x∈l
 | []=>by simp[HV]
 | t::r=>by
  rw[HV]
  split
  ·rw[List.mem_cons,Be,List.mem_cons]
   constructor
   ·rintro(h|h|h) <;> simp[h]
   ·rintro(h|h|h) <;> simp[h]
  ·split
   ·rename_i h;subst h
    simp
   ·simp
theorem PD{s:Str}: ∀ {l:List Str},(l.Pairwise fun x y:Str=>x.s<y.s)->(HV l s).Pairwise fun x y:Str=>x.s<y.s
 | [],_=>by simp[HV]
 | t::r,h=>by
  have ht:=List.pairwise_cons.1 h
  rw[HV]
  split
  ·rename_i h1
   refine List.pairwise_cons.2 ⟨fun y hy=> ?_,PD ht.2⟩
   rcases Be.1 hy with rfl|hy
   ·exact h1
   ·exact ht.1 y hy
  ·split
   ·exact h
   ·rename_i h1 h2
    have h3:s.s<t.s:=by
     rcases List.le_iff_lt_or_eq.1 (List.not_lt.1 h1)with h|h
     ·exact h
     ·exact absurd (by cases s;cases t;simpa using h.symm) h2
    refine List.pairwise_cons.2 ⟨fun y hy=> ?_,h⟩
    rcases List.mem_cons.1 hy with rfl|hy
    ·exact h3
    ·exact List.lt_trans h3 (ht.1 y hy)
theorem MJ: ∀ (l o:List Str),(o.Pairwise fun x y:Str=>x.s<y.s)->((l.foldl HV o).Pairwise fun x y:Str=>x.s<y.s)∧ ∀ x,x∈l.foldl HV o ↔ x∈l∨x∈o
 | [],o,h=>⟨h,by simp⟩
 | s::l,o,h=>by
  obtain⟨h1,h2⟩:=MJ l (HV o s) (PD h)
  refine⟨h1,fun x=> ?_⟩
  show x∈l.foldl HV (HV o s) ↔ _
  rw[h2,Be,List.mem_cons]
  constructor
  ·rintro(h|h|h) <;> simp[h]
  ·rintro((h|h)|h) <;> simp[h]
theorem OO: ∀ {a b:List Str},(a.Pairwise fun x y:Str=>x.s<y.s)->(b.Pairwise fun x y:Str=>x.s<y.s)->(∀ x,x∈a ↔ x∈b)->a=b
 | [],[],_,_,_=>rfl
 | [],y::b,_,_,h=>absurd ((h y).2 (by simp)) (by simp)
 | x::a,[],_,_,h=>absurd ((h x).1 (by simp)) (by simp)
 | x::a,y::b,ha,hb,h=>by
  have ha':=List.pairwise_cons.1 ha
  have hb':=List.pairwise_cons.1 hb
  have e:x=y:=by
   rcases List.mem_cons.1 ((h x).1 (by simp))with e|h1
   ·exact e
   ·rcases List.mem_cons.1 ((h y).2 (by simp))with e|h2
    ·exact e.symm
    ·exact absurd (List.lt_trans (hb'.1 x h1) (ha'.1 y h2)) (List.lt_irrefl _)
  subst e
  rw[OO ha'.2 hb'.2 fun z=> ?_]
  constructor
  ·intro hz
   rcases List.mem_cons.1 ((h z).1 (by simp[hz]))with e|h1
   ·subst e;exact absurd (ha'.1 z hz) (List.lt_irrefl _)
   ·exact h1
  ·intro hz
   rcases List.mem_cons.1 ((h z).2 (by simp[hz]))with e|h1
   ·subst e;exact absurd (hb'.1 z hz) (List.lt_irrefl _)
   ·exact h1
theorem Sw(p:List Mono):Yt p=(Xq p).foldl HV []:=by
 obtain⟨h1,h2⟩:=MJ (Xq p) [] .nil
 exact OO (a1r p) h1 fun x=>by rw[AO,h2];simp
theorem a3q{p:List Mono}(h:(Xq p).isEmpty=true):Yt p=[]:=by
 rw[Sw,List.isEmpty_iff.1 h];rfl
theorem a4o{p:List Mono}(h:(Xq p).isEmpty=false):(Yt p).isEmpty=false:=by
 rw[List.isEmpty_eq_false_iff]at h ⊢
 intro e
 obtain⟨x,hx⟩:=List.exists_mem_of_ne_nil _ h
 have:=(AO p x).2 hx
 rw[e]at this;cases this
theorem a0v(p:List Mono):(Yt p).length<=(Xq p).length:=by
 unfold Yt
 rw[List.length_map]
 refine Nat.le_trans (J4 _) ?_
 unfold Xb X8
 rw[(List.mergeSort_perm _ _).length_eq,List.length_map];exact Nat.le_refl _
end Go.Pl

