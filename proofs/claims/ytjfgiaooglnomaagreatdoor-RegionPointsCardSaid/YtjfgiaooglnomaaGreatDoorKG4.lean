/-
  Texts of mine that belong together (packed by pack.py), for every input: GRp, QGp, QLr, GLm, GLk, QLk, GLn, QLn, QLo, QLp, QRa, QRb, QRc, TyQ, GLu, GLt, QRs, QRt, QRu, QRv, GLv, QRw, QRx, TyRb, TyRc, TyPo, QGd, GRc, QRd, QRe, GRd, QRf, TyRd, GRx, QRg, GPv, QPv.
-/
import Derived.Test.YtjfgiaooglnomaaGreatDoorKG2
import Derived.Test.YtjfgiaooglnomaaGreatDoorKG3
import Derived.KernelRfl
set_option linter.unusedVariables false
set_option linter.unusedSimpArgs false
namespace Go.Pl
open Go.RowKit
open Enc (enc dec is)
open EncL (encL decL isL)
set_option maxRecDepth 100000
def AJ:IC:=(.reg [⟨(some 7),(.faddr 0 (.t 1)),0,none⟩,⟨(some 8),(.load false [(.sl 1)] (.t 7)),0,none⟩,⟨(some 9),(.len 1 (.t 8)),0,none⟩,⟨(some 10),(.mksl 3 1 8 (.int .i64 0) (.t 9) (.t 9)),0,none⟩,⟨(some 4),(.mv (.t 10)),1,none⟩] none)
def Ni:List IRes:=[]
def Lm:ZE:=Y6 [(48,.own XT VM)]
theorem b4k{G:AV×List AObj×List AObj->Prop}(E:Yv)(l:Nat)(b:BoxT)(fs:List Fact)(h:(decide (0<=(↑(List.length (PV.asXs (List.getD (List.drop 0 [enc b.v,PV.int .i64 b.m]) 0 default))):Int))&&(↑(List.length (PV.asXs (List.getD (List.drop 0 [enc b.v,PV.int .i64 b.m]) 0 default))):Int)==(↑(List.length (PV.asXs (List.getD (List.drop 0 [enc b.v,PV.int .i64 b.m]) 0 default))):Int)&&decide ((↑(List.length (PV.asXs (List.getD (List.drop 0 [enc b.v,PV.int .i64 b.m]) 0 default))):Int)*(↑8:Int)<=1099511627776)&&decide ((↑(List.length (PV.asXs (List.getD (List.drop 0 [enc b.v,PV.int .i64 b.m]) 0 default))):Int)<=1099511627776))=true∧(E 99 ⟨ZR 52 0 [(0,(.yld l)),(1,(.pv (.rptr [(.sl 1 false (List.map enc b.v)),(.int .i64 b.m)]))),(2,(.pv (.rptr [(.sl 3 false (List.map enc fs))]))),(4,(.row 0 (Int.toNat (↑(List.length (PV.asXs (List.getD (List.drop 0 [enc b.v,PV.int .i64 b.m]) 0 default))):Int)) 0 (Int.toNat (↑(List.length (PV.asXs (List.getD (List.drop 0 [enc b.v,PV.int .i64 b.m]) 0 default))):Int))))],[(.obj (.row false 3 1 (List.replicate (Int.toNat (↑(List.length (PV.asXs (List.getD (List.drop 0 [enc b.v,PV.int .i64 b.m]) 0 default))):Int)) (PV.int .i64 0))))]⟩ (fun x S'=>KR Lm E 0 (Zo 0 Ni G) AJ 99 x S'))):ZB Lm E 0 (Zo 0 Ni G) (.inl AJ) [.seq (.ext 99 [0,1,2,4])] ⟨ZR 52 0 [(0,.yld l),(1,(.pv (.rptr [enc b.v,.int .i64 b.m]))),(2,(.pv (.rptr [enc fs])))],[]⟩:=ZB.mo (.lit (.req (.nil))) h (by kernel_rfl)
def AC:IC:=(.reg [⟨(some 11),(.load true [(.sl 1),(.int .i64)] (.t 1)),0,none⟩,⟨(some 12),(.mv (.t 4)),0,none⟩,⟨(some 13),(.call (.c (.fn 48)) [(.t 11),(.t 12)]),0,none⟩,⟨(some 5),(.mv (.t 13)),2,none⟩] none)
def NZ:List IRes:=[]
def EH:ZE:=Y6 [(48,.own XT VM)]
theorem b4s{G:AV×List AObj×List AObj->Prop}(E:Yv)(l:Nat)(b:BoxT)(fs:List Fact)(n:Nat)(p:List Int)(h:(XT [(.pv (.agg [(.sl 1 false (PV.asXs (List.getD [enc b.v,PV.int .i64 b.m] 0 default))),(.int .i64 (PV.asInt (List.getD [enc b.v,PV.int .i64 b.m] (0+1) default)))])),(.row 0 n 0 n)] [(.row false 3 1 (List.map enc p))])=true∧(E 99 ⟨ZR 52 0 [(0,(.yld l)),(1,(.pv (.rptr [(.sl 1 false (List.map enc b.v)),(.int .i64 b.m)]))),(2,(.pv (.rptr [(.sl 3 false (List.map enc fs))]))),(4,(.row 0 n 0 n)),(5,(.pv (.sl 2 false (List.map enc (Zf (dec (Sh.co (Sh.sl 1) (List.getD [enc b.v,PV.int .i64 b.m] 0 default))) (DN (List.map enc p)))))))],[(.obj (.row false 3 1 (List.map enc p)))]⟩ (fun x S'=>KR EH E 1 (Zo 1 NZ G) AC 99 x S'))):ZB EH E 1 (Zo 1 NZ G) (.inl AC) [.seq (.ext 99 [0,1,2,4,5])] ⟨ZR 52 0 [(0,.yld l),(1,(.pv (.rptr [enc b.v,.int .i64 b.m]))),(2,(.pv (.rptr [enc fs]))),(4,.row 0 n 0 n)],[.obj (.row false 3 1 (p.map enc))]⟩:=ZB.mo (.lit (.req (.keep (.nil)))) h (by kernel_rfl)
def U7:IC:=(.seq (.reg [⟨(some 25),(.mv (.t 4)),0,none⟩,⟨(some 26),(.len 1 (.t 25)),0,none⟩,⟨(some 27),(.bin .num .sub (.t 26) (.c (.int .i64 1))),0,none⟩,⟨(some 6),(.mv (.t 27)),0,none⟩] none) (.seq (.block 2 (.loop [6,4,1,2,0] (.seq (.seq (.reg [⟨(some 28),(.mv (.t 6)),0,none⟩,⟨(some 29),(.bin .num .geq (.t 28) (.c (.int .i64 0))),0,none⟩,⟨(some 30),(.mv (.t 29)),0,none⟩,⟨(some 31),(.mv (.t 4)),0,(some (30,true))⟩,⟨(some 32),(.mv (.t 6)),0,(some (30,true))⟩,⟨(some 33),(.iaddr 1 (.t 31) (.t 32)),0,(some (30,true))⟩,⟨(some 34),(.load false [(.int .i64)] (.t 33)),0,(some (30,true))⟩,⟨(some 35),(.faddr 1 (.t 1)),0,(some (30,true))⟩,⟨(some 36),(.load false [(.int .i64)] (.t 35)),0,(some (30,true))⟩,⟨(some 37),(.bin .num .eql (.t 34) (.t 36)),0,(some (30,true))⟩,⟨(some 38),(.pick (.t 30) (.t 37) (.c (.bool false))),0,none⟩] (some [[],[0],[1,0],[2,1,0],[2,1,0],[3,4,2,1,0],[5,2,3,4,1,0],[2,1,0],[7,2,1,0],[6,8,2,5,3,4,1,0,7],[2,9,1,0,6,8,5,3,4,7]])) (.cond (.t 38) .skip (.exit 2))) (.block 3 (.seq (.reg [⟨(some 39),(.mv (.t 4)),0,none⟩,⟨(some 40),(.mv (.t 6)),0,none⟩,⟨(some 41),(.iaddr 1 (.t 39) (.t 40)),0,none⟩,⟨none,(.store 1 (.t 41) (.c (.int .i64 0))),0,none⟩] none) (.reg [⟨(some 42),(.mv (.t 6)),0,none⟩,⟨(some 43),(.bin .num .sub (.t 42) (.c (.int .i64 1))),0,none⟩,⟨(some 6),(.mv (.t 43)),0,none⟩] none)))))) (.seq (.seq (.reg [⟨(some 44),(.mv (.t 6)),0,none⟩,⟨(some 45),(.bin .num .lss (.t 44) (.c (.int .i64 0))),0,none⟩] none) (.cond (.t 45) .ret .skip)) (.reg [⟨(some 46),(.mv (.t 4)),0,none⟩,⟨(some 47),(.mv (.t 6)),0,none⟩,⟨(some 48),(.iaddr 1 (.t 46) (.t 47)),0,none⟩,⟨(some 49),(.load false [(.int .i64)] (.t 48)),0,none⟩,⟨(some 50),(.bin .num .add (.t 49) (.c (.int .i64 1))),0,none⟩,⟨(some 51),(.iaddr 1 (.t 46) (.t 47)),0,none⟩,⟨none,(.store 1 (.t 51) (.t 50)),0,none⟩] none))))
def QY:List IRes:=[]
def Gr:ZE:=Y6 [(48,.own XT VM)]
theorem a1n{G:AV×List AObj×List AObj->Prop}(E:Yv)(l:Nat)(b:BoxT)(fs:List Fact)(n:Nat)(p:List Int)(k:Int)(h:if (decide (k ≥ 0))=true then(decide (0<=k)&&decide (0+Int.toNat k<n)&&List.length (List.map enc p)==n)=true∧((List.length (List.map enc p)==n&&decide (0+Int.toNat k<List.length (List.map enc p)))=true∧((decide (0+List.length [Sh.int .i64]<=List.length (PV.cells (List.getD (List.map enc p) (0+Int.toNat k) default)))&&Y2 (PV.cells (List.getD (List.map enc p) (0+Int.toNat k) default)) 0 [Sh.int .i64])=true∧(if (PV.asInt (List.getD (PV.cells (List.getD (List.map enc p) (0+Int.toNat k) default)) 0 default)==PV.asInt (List.getD (List.drop 1 [enc b.v,PV.int .i64 b.m]) 0 default))=true then(decide (0<=k)&&decide (0+Int.toNat k<n)&&List.length (List.map enc p)==n)=true∧((List.length (List.map enc p)==n&&decide (0+Int.toNat k<List.length (List.map enc p))&&List.length (PV.cells (PV.int .i64 0))==1&&decide (0+1<=List.length (PV.cells (List.getD (List.map enc p) (0+Int.toNat k) default)))&&PV.cellsOk (PV.int .i64 0))=true∧(AtS [.seq (.ext 99 [0,1,2,4])] Gr E 1 (Zo 1 QY G) U7 0 52 [(0,(.yld l)),(1,(.pv (.rptr [(.sl 1 false (List.map enc b.v)),(.int .i64 b.m)]))),(2,(.pv (.rptr [(.sl 3 false (List.map enc fs))]))),(4,(.row 0 n 0 n)),(6,(.pv (.int .i64 (IntKind.wrap IntKind.i64 (k - 1)))))] [(.obj (.row false 3 1 (List.set (List.map enc p) (0+Int.toNat k) (PV.withCells (List.getD (List.map enc p) (0+Int.toNat k) default) (splice (PV.cells (List.getD (List.map enc p) (0+Int.toNat k) default)) 0 (PV.cells (PV.int .i64 0)))))))]))else(if (decide (k<0))=true then G (((.tup []),([(.row false 3 1 (List.map enc p))],[])))else((decide (0<=k)&&decide (0+Int.toNat k<n)&&List.length (List.map enc p)==n)=true∧((List.length (List.map enc p)==n&&decide (0+Int.toNat k<List.length (List.map enc p)))=true∧((decide (0+List.length [Sh.int .i64]<=List.length (PV.cells (List.getD (List.map enc p) (0+Int.toNat k) default)))&&Y2 (PV.cells (List.getD (List.map enc p) (0+Int.toNat k) default)) 0 [Sh.int .i64])=true∧((decide (0<=k)&&decide (0+Int.toNat k<n)&&List.length (List.map enc p)==n)=true∧((List.length (List.map enc p)==n&&decide (0+Int.toNat k<List.length (List.map enc p))&&List.length (PV.cells (PV.int .i64 (IntKind.wrap IntKind.i64 (PV.asInt (List.getD (PV.cells (List.getD (List.map enc p) (0+Int.toNat k) default)) 0 default)+1))))==1&&decide (0+1<=List.length (PV.cells (List.getD (List.map enc p) (0+Int.toNat k) default)))&&PV.cellsOk (PV.int .i64 (IntKind.wrap IntKind.i64 (PV.asInt (List.getD (PV.cells (List.getD (List.map enc p) (0+Int.toNat k) default)) 0 default)+1))))=true∧(E 99 ⟨ZR 52 0 [(0,(.yld l)),(1,(.pv (.rptr [(.sl 1 false (List.map enc b.v)),(.int .i64 b.m)]))),(2,(.pv (.rptr [(.sl 3 false (List.map enc fs))]))),(4,(.row 0 n 0 n))],[(.obj (.row false 3 1 (List.set (List.map enc p) (0+Int.toNat k) (PV.withCells (List.getD (List.map enc p) (0+Int.toNat k) default) (splice (PV.cells (List.getD (List.map enc p) (0+Int.toNat k) default)) 0 (PV.cells (PV.int .i64 (IntKind.wrap IntKind.i64 (PV.asInt (List.getD (PV.cells (List.getD (List.map enc p) (0+Int.toNat k) default)) 0 default)+1)))))))))]⟩ (fun x S'=>KR Gr E 1 (Zo 1 QY G) U7 99 x S')))))))))))else(if (decide (k<0))=true then G (((.tup []),([(.row false 3 1 (List.map enc p))],[])))else((decide (0<=k)&&decide (0+Int.toNat k<n)&&List.length (List.map enc p)==n)=true∧((List.length (List.map enc p)==n&&decide (0+Int.toNat k<List.length (List.map enc p)))=true∧((decide (0+List.length [Sh.int .i64]<=List.length (PV.cells (List.getD (List.map enc p) (0+Int.toNat k) default)))&&Y2 (PV.cells (List.getD (List.map enc p) (0+Int.toNat k) default)) 0 [Sh.int .i64])=true∧((decide (0<=k)&&decide (0+Int.toNat k<n)&&List.length (List.map enc p)==n)=true∧((List.length (List.map enc p)==n&&decide (0+Int.toNat k<List.length (List.map enc p))&&List.length (PV.cells (PV.int .i64 (IntKind.wrap IntKind.i64 (PV.asInt (List.getD (PV.cells (List.getD (List.map enc p) (0+Int.toNat k) default)) 0 default)+1))))==1&&decide (0+1<=List.length (PV.cells (List.getD (List.map enc p) (0+Int.toNat k) default)))&&PV.cellsOk (PV.int .i64 (IntKind.wrap IntKind.i64 (PV.asInt (List.getD (PV.cells (List.getD (List.map enc p) (0+Int.toNat k) default)) 0 default)+1))))=true∧(E 99 ⟨ZR 52 0 [(0,(.yld l)),(1,(.pv (.rptr [(.sl 1 false (List.map enc b.v)),(.int .i64 b.m)]))),(2,(.pv (.rptr [(.sl 3 false (List.map enc fs))]))),(4,(.row 0 n 0 n))],[(.obj (.row false 3 1 (List.set (List.map enc p) (0+Int.toNat k) (PV.withCells (List.getD (List.map enc p) (0+Int.toNat k) default) (splice (PV.cells (List.getD (List.map enc p) (0+Int.toNat k) default)) 0 (PV.cells (PV.int .i64 (IntKind.wrap IntKind.i64 (PV.asInt (List.getD (PV.cells (List.getD (List.map enc p) (0+Int.toNat k) default)) 0 default)+1)))))))))]⟩ (fun x S'=>KR Gr E 1 (Zo 1 QY G) U7 99 x S'))))))))):AtS [.seq (.ext 99 [0,1,2,4])] Gr E 1 (Zo 1 QY G) U7 0 52 [(0,.yld l),(1,(.pv (.rptr [enc b.v,.int .i64 b.m]))),(2,(.pv (.rptr [enc fs]))),(4,.row 0 n 0 n),(6,.pv (.int .i64 k))] [.obj (.row false 3 1 (p.map enc))]:=ZB.mo (.lit (.ask (.lit (.lit (.req (.keep (.lit (.req (.req (.lit (.lit (.lit (.lit (.lit (.lit (.ask (.req (.keep (.req (.lit (.nil))))) (.lit (.ask (.nil) (.req (.keep (.req (.req (.lit (.req (.keep (.req (.nil))))))))))))))))))))))))) (.lit (.lit (.lit (.lit (.lit (.lit (.lit (.lit (.lit (.ask (.nil) (.req (.keep (.req (.req (.lit (.req (.keep (.req (.nil))))))))))))))))))))) h (by kernel_rfl)
theorem b3w{G:AV×List AObj×List AObj->Prop}(E:Yv)(l:Nat)(b:BoxT)(fs:List Fact)(n:Nat)(p:List Int)(h:AtS [.seq (.ext 99 [0,1,2,4])] Gr E 1 (Zo 1 QY G) U7 0 52 [(0,(.yld l)),(1,(.pv (.rptr [(.sl 1 false (List.map enc b.v)),(.int .i64 b.m)]))),(2,(.pv (.rptr [(.sl 3 false (List.map enc fs))]))),(4,(.row 0 n 0 n)),(6,(.pv (.int .i64 (IntKind.wrap IntKind.i64 ((↑(n - 0):Int) - 1)))))] [(.obj (.row false 3 1 (List.map enc p)))]):ZB Gr E 1 (Zo 1 QY G) (.inl U7) [.seq (.ext 99 [0,1,2,4])] ⟨ZR 52 0 [(0,.yld l),(1,(.pv (.rptr [enc b.v,.int .i64 b.m]))),(2,(.pv (.rptr [enc fs]))),(4,.row 0 n 0 n)],[.obj (.row false 3 1 (p.map enc))]⟩:=ZB.mo (.lit (.nil)) h (by kernel_rfl)
def Wi:IC:=Wr
def Wk:List IRes:=[(.tmp 4)]
abbrev LL:Nat:=31
def WU:ZE:=Y6 []
theorem Et{G:AV×List AObj×List AObj->Prop}(b:BoxT)(m:Nat)(p:List Int)(h:At WU 1 (Wm 1 Wk G) Wi 0 31 [(1,(.row 0 m 0 m)),(2,(.ptr 1 0)),(5,(.pv (.sl 0 true []))),(12,(.pv (.int .i64 (if false=true then if (↑(List.length (List.map enc b.v)):Int)>(↑(m - 0):Int)then(↑(List.length (List.map enc b.v)):Int)else(↑(m - 0):Int)else if (↑(List.length (List.map enc b.v)):Int)<(↑(m - 0):Int)then(↑(List.length (List.map enc b.v)):Int)else(↑(m - 0):Int))))),(13,(.pv (.int .i64 0)))] [(.obj (.row false 3 1 (List.map enc p))),(.obj (.box [(.pv (.sl 1 false (List.map enc b.v))),(.pv (.int .i64 b.m))]))]):Zc WU 1 (Wm 1 Wk G) Wi [] (YD 31 [.pv (enc b),.row 0 m 0 m] [.row false 3 1 (p.map enc)]):=Zc.tf (.nil) h (by kernel_rfl)
theorem De{G:AV×List AObj×List AObj->Prop}(b:BoxT)(m:Nat)(p:List Int)(n i:Int)(h:if (decide (i<n))=true then(decide (0<=i)&&decide (Int.toNat i<List.length (List.map enc b.v))&&Enc.sz Str==1)=true∧(∃ y0:Str,AV.pv (PV.rptr (PV.cells (List.getD (List.map enc b.v) (Int.toNat i) default)))=AV.pv (PV.rptr (PV.cells ((enc) y0)))∧((decide (0<=i)&&decide (0+Int.toNat i<m)&&List.length (List.map enc p)==m)=true∧((List.length (List.map enc p)==m&&decide (0+Int.toNat i<List.length (List.map enc p)))=true∧((decide (0+List.length [Sh.int .i64]<=List.length (PV.cells (List.getD (List.map enc p) (0+Int.toNat i) default)))&&Y2 (PV.cells (List.getD (List.map enc p) (0+Int.toNat i) default)) 0 [Sh.int .i64])=true∧(At WU 1 (Wm 1 Wk G) Wi 0 31 [(1,(.row 0 m 0 m)),(2,(.ptr 1 0)),(5,(.row 2 1 0 1)),(12,(.pv (.int .i64 n))),(13,(.pv (.int .i64 (IntKind.wrap IntKind.i64 (i+1)))))] [(.obj (.row false 3 1 (List.map enc p))),(.obj (.box [(.pv (.sl 1 false (List.map enc b.v))),(.pv (.int .i64 b.m))])),(.obj (.row false 63 2 [(.agg [(.str (PV.asStr (List.getD (PV.cells (enc y0)) 0 default))),(.int .i64 (PV.asInt (List.getD (PV.cells (List.getD (List.map enc p) (0+Int.toNat i) default)) 0 default)))])]))])))))else(G (((.pv (.sl 0 true [])),([(.row false 3 1 (List.map enc p))],[]))))):At WU 1 (Wm 1 Wk G) Wi 0 31 [(1,.row 0 m 0 m),(2,.ptr 1 0),(5,.pv (.sl 0 true [])),(12,.pv (.int .i64 n)),(13,.pv (.int .i64 i))] [.obj (.row false 3 1 (p.map enc)),.obj (.box [.pv (enc b.v),.pv (.int .i64 b.m)])]:=At.tf (.lit (.ask (.req (.abs (Str) (fun YY=>AV.pv (PV.rptr (PV.cells ((enc) YY)))) (.lit (.req (.keep (.req (.req (.lit (.lit (.lit (.lit (.lit (.lit (.nil)))))))))))))) (.nil))) h (by kernel_rfl)
theorem DE{G:AV×List AObj×List AObj->Prop}(b:BoxT)(m:Nat)(p:List Int)(n i:Int)(q:Nat)(vs:List Coef)(h:if (decide (i<n))=true then(decide (0<=i)&&decide (Int.toNat i<List.length (List.map enc b.v))&&Enc.sz Str==1)=true∧(∃ y0:Str,AV.pv (PV.rptr (PV.cells (List.getD (List.map enc b.v) (Int.toNat i) default)))=AV.pv (PV.rptr (PV.cells ((enc) y0)))∧((decide (0<=i)&&decide (0+Int.toNat i<m)&&List.length (List.map enc p)==m)=true∧((List.length (List.map enc p)==m&&decide (0+Int.toNat i<List.length (List.map enc p)))=true∧((decide (0+List.length [Sh.int .i64]<=List.length (PV.cells (List.getD (List.map enc p) (0+Int.toNat i) default)))&&Y2 (PV.cells (List.getD (List.map enc p) (0+Int.toNat i) default)) 0 [Sh.int .i64])=true∧((List.length (List.map enc vs)==q&&q==q&&decide ((q+List.length (List.drop 0 (List.take 1 [PV.agg [Sh.co Sh.str (List.getD (PV.cells (enc y0)) 0 default),Sh.co (Sh.int .i64) (List.getD (PV.cells (List.getD (List.map enc p) (0+Int.toNat i) default)) 0 default)]])))*24<=1099511627776)&&decide (q+List.length (List.drop 0 (List.take 1 [PV.agg [Sh.co Sh.str (List.getD (PV.cells (enc y0)) 0 default),Sh.co (Sh.int .i64) (List.getD (PV.cells (List.getD (List.map enc p) (0+Int.toNat i) default)) 0 default)]]))<=1099511627776))=true∧(At WU 1 (Wm 1 Wk G) Wi 0 31 [(1,(.row 0 m 0 m)),(2,(.ptr 1 0)),(5,(.row 2 (q+List.length (List.drop 0 (List.take 1 [PV.agg [Sh.co Sh.str (List.getD (PV.cells (enc y0)) 0 default),Sh.co (Sh.int .i64) (List.getD (PV.cells (List.getD (List.map enc p) (0+Int.toNat i) default)) 0 default)]]))) 0 (q+List.length (List.drop 0 (List.take 1 [PV.agg [Sh.co Sh.str (List.getD (PV.cells (enc y0)) 0 default),Sh.co (Sh.int .i64) (List.getD (PV.cells (List.getD (List.map enc p) (0+Int.toNat i) default)) 0 default)]]))))),(12,(.pv (.int .i64 n))),(13,(.pv (.int .i64 (IntKind.wrap IntKind.i64 (i+1)))))] [(.obj (.row false 3 1 (List.map enc p))),(.obj (.box [(.pv (.sl 1 false (List.map enc b.v))),(.pv (.int .i64 b.m))])),(.obj (.row false 63 2 (List.map enc vs++List.drop 0 (List.take 1 [PV.agg [Sh.co Sh.str (List.getD (PV.cells (enc y0)) 0 default),Sh.co (Sh.int .i64) (List.getD (PV.cells (List.getD (List.map enc p) (0+Int.toNat i) default)) 0 default)]]))))]))))))else((List.length (List.map enc vs)==q)=true∧(G (((.pv (.sl 2 false (List.drop 0 (List.take q (List.map enc vs))))),([(.row false 3 1 (List.map enc p))],[])))))):At WU 1 (Wm 1 Wk G) Wi 0 31 [(1,.row 0 m 0 m),(2,.ptr 1 0),(5,.row 2 q 0 q),(12,.pv (.int .i64 n)),(13,.pv (.int .i64 i))] [.obj (.row false 3 1 (p.map enc)),.obj (.box [.pv (enc b.v),.pv (.int .i64 b.m)]),.obj (.row false 63 2 (vs.map enc))]:=At.tf (.lit (.ask (.req (.abs (Str) (fun YY=>AV.pv (PV.rptr (PV.cells ((enc) YY)))) (.lit (.req (.keep (.req (.req (.lit (.lit (.req (.lit (.nil)))))))))))) (.req (.nil)))) h (by kernel_rfl)
end Go.Pl

namespace Go.Pl
open Go.RowKit
open Enc (enc dec is)
open EncL (encL decL isL)
theorem UE{l:List Int}{i:Nat}(h:i<l.length):List.getD (List.map (enc:Int->PV) l) (0+Int.toNat (i:Int)) default=enc l[i]:=by simp[List.getD,h]
theorem Ts(b:BoxT)(p:List Int)(hb:b.v.length<=1000)(hp:p.length<=1000): ∀ (k i:Nat),k+i=min b.v.length p.length->1<=i ->
  At WU 1 (Wm 1 Wk fun r=> ∃ q q',r.1 = .pv q∧Sub q q'∧((.pv (.sl 2 false ((Zf b.v p).map enc)),[.row false 3 1 (p.map enc)],[]):AV×List AObj×List AObj)=(.pv q',r.2)) Wi 0 31 [(1,.row 0 p.length 0 p.length),(2,.ptr 1 0),(5,.row 2 i 0 i),(12,.pv (.int .i64 ((min b.v.length p.length:Nat):Int))),(13,.pv (.int .i64 i))] [.obj (.row false 3 1 (p.map enc)),.obj (.box [.pv (enc b.v),.pv (.int .i64 b.m)]),.obj (.row false 63 2 ((Zf (b.v.take i) (p.take i)).map enc))]:=by
 intro k
 induction k with
 | zero=>
  intro i hi h1
  have hl:=V0 b.v p (i:=i) (by omega) (by omega)
  refine DE b p.length p _ i i (Zf (b.v.take i) (p.take i)) (ZI (ZY (by omega)) ⟨by simp[hl],?_⟩)
  rw[List.drop_zero,List.take_of_length_le (by rw[List.length_map,hl];exact Nat.le_refl _),JL b.v p (by omega)]
  exact⟨_,_,rfl,Sub.refl _,rfl⟩
 | succ k ih=>
  intro i hi h1
  have hl:=V0 b.v p (i:=i) (by omega) (by omega)
  have hlt:i<b.v.length:=by omega
  have hlt2:i<p.length:=by omega
  have e:=UE hlt2
  refine DE b p.length p _ i i (Zf (b.v.take i) (p.take i)) (ZC (ZU (by omega)) ⟨Zs hlt rfl,Zw hlt ⟨by simp;omega,by simp;omega,?_,?_,?_⟩⟩)
  ·rw[e];rfl
  ·rw[List.length_map,hl]
   show((i==i)&&(i==i)&&decide ((i+1)*24<=1099511627776)&&decide (i+1<=1099511627776))=true
   rw[decide_eq_true (by omega),decide_eq_true (by omega)];simp
  ·have:=ih (i+1) (by omega) (by omega)
   rw[WN b.v p hlt hlt2,List.map_append,<- next (by omega)]at this
   rw[e]
   exact this
theorem J4(l:List Int):DN (l.map enc)=l:=Enc.dec_enc l
theorem Pt: ∀ args os,XT args os=true->Zc WU os.length (Wm os.length Wk fun r=> ∃ p p',r.1 = .pv p∧Sub p p'∧VM args os=(.pv p',r.2)) Wi [] (YD LL args os):=by
 intro args os h
 unfold XT at h
 split at h
 ·rename_i v k n m ty xs
  simp only[Bool.and_eq_true,beq_iff_eq,decide_eq_true_eq]at h
  obtain⟨⟨⟨⟨⟨⟨rfl,h2⟩,rfl⟩,h4⟩,h5⟩,h6⟩,h7⟩:=h
  obtain⟨p,hp⟩:=Yl h4
  have hp:PV.sl 1 false xs=PV.sl 1 false (p.map enc):=hp
  injection hp with _ _ hx
  subst hx
  obtain⟨bv,rfl⟩:=Yl h5
  rw[Enc.dec_enc]at h6
  rw[List.length_map]at h2
  subst h2
  have ev:VM [.pv (.agg [enc bv,.int .i64 k]),.row 0 p.length 0 p.length] [.row false 3 1 (p.map enc)]=(.pv (.sl 2 false ((Zf bv p).map enc)),[.row false 3 1 (p.map enc)],[]):=by
   show(AV.pv (.sl 2 false ((Zf (dec (enc bv:PV)) (DN (p.map enc))).map enc)),_,_)=_
   rw[Enc.dec_enc,J4]
  rw[ev]
  refine Et ⟨bv,k⟩ p.length p ?_
  simp only[List.length_map]
  rw[if_neg (by decide)]
  have em:(if ((bv.length:Nat):Int)<((p.length - 0:Nat):Int)then(bv.length:Int)else((p.length - 0:Nat):Int))=((min bv.length p.length:Nat):Int):=by
   split <;> omega
  rw[em]
  by_cases h0:min bv.length p.length=0
  ·rw[h0]
   refine De ⟨bv,k⟩ p.length p 0 0 (ZI (by decide) ?_)
   have:Zf bv p=[]:=by
    rw[<- List.length_eq_zero_iff];unfold Zf;rw[List.length_zipWith];exact h0
   rw[this]
   exact⟨_,_,rfl,Sub.sl0 0 2 true,rfl⟩
  ·have hlt:0<bv.length:=by omega
   have hlt2:0<p.length:=by omega
   have e:=UE hlt2
   refine De ⟨bv,k⟩ p.length p _ 0 (ZC (ZU (i:=0) (by omega)) ⟨Zs hlt rfl,Zw hlt ⟨by simp;omega,by simp;omega,?_,?_⟩⟩)
   ·have e:List.getD (List.map (enc:Int->PV) p) (0+Int.toNat 0) default=enc p[0]:=e
    rw[e];rfl
   ·have:=Ts ⟨bv,k⟩ p h6 h7 (min bv.length p.length - 1) 1 (by show min bv.length p.length - 1+1=min bv.length p.length;omega) (by omega)
    rw[show(1:Nat)=0+1 from rfl,WN bv p hlt hlt2]at this
    have e:List.getD (List.map (enc:Int->PV) p) (0+Int.toNat 0) default=enc p[0]:=e
    rw[e]
    exact this
 ·cases h
def KV(l:Nat)(b:BoxT)(fs:List Fact)(n:Nat):List AV:=ZR 52 0 [(0,.yld l),(1,.pv (.rptr [enc b.v,.int .i64 b.m])),(2,.pv (.rptr [enc fs])),(4,.row 0 n 0 n)]
def YE(p:List Int):Zu:=[.obj (.row false 3 1 (p.map enc))]
def a2r(l:Nat)(b:BoxT)(fs:List Fact)(n:Nat)(p:List Int):List AV:=ZR 52 0 [(0,.yld l),(1,.pv (.rptr [enc b.v,.int .i64 b.m])),(2,.pv (.rptr [enc fs])),(4,.row 0 n 0 n),(5,.pv (enc (Zf b.v p)))]
theorem a9o(l:Nat)(b:BoxT)(fs:List Fact)(hb:b.v.length<=1000):ZB Lm (fun n S' _=>n=99∧S'=⟨KV l b fs b.v.length,YE (X0 b.v)⟩) 0 (Zo 0 Ni fun _=>False) (.inl AJ) [.seq (.ext 99 [0,1,2,4])] ⟨ZR 52 0 [(0,.yld l),(1,.pv (.rptr [enc b.v,.int .i64 b.m])),(2,.pv (.rptr [enc fs]))],[]⟩:=by
 have e:PV.asXs (List.getD (List.drop 0 [enc b.v,PV.int .i64 b.m]) 0 default)=b.v.map enc:=rfl
 have en:Int.toNat ((List.length (List.map (enc:Str->PV) b.v):Nat):Int)=b.v.length:=by simp
 have ez:List.replicate b.v.length (PV.int .i64 0)=(X0 b.v).map enc:=by
  unfold X0
  rw[List.map_map]
  exact(List.map_const' ..).symm
 refine b4k (G:=fun _=>False) _ l b fs ⟨?_,rfl,?_⟩
 ·simp only[e,List.length_map]
  simp
  omega
 ·simp only[e,en,ez]
  rfl
theorem a7g(l:Nat)(b:BoxT)(fs:List Fact)(p:List Int)(hb:b.v.length<=1000)(hp:p.length<=1000):ZB EH (fun n S' _=>n=99∧S'=⟨a2r l b fs p.length p,YE p⟩) 1 (Zo 1 NZ fun _=>False) (.inl AC) [.seq (.ext 99 [0,1,2,4,5])] ⟨KV l b fs p.length,YE p⟩:=by
 refine b4s (G:=fun _=>False) _ l b fs p.length p ⟨?_,rfl,?_⟩
 ·show(p.length==p.length&&(p.map enc).length==p.length&&3==3&&Vh (List Int) (enc p)&&Vh (List Str) (enc b.v)&&decide ((dec (enc b.v:PV):List Str).length<=1000)&&decide (p.length<=1000))=true
  rw[ZX,ZX,Enc.dec_enc,decide_eq_true hb,decide_eq_true hp];simp
 ·have e1:Zf (dec (Sh.co (Sh.sl 1) (List.getD [enc b.v,PV.int .i64 b.m] 0 default))) (DN (p.map enc))=Zf b.v p:=by
   rw[J4]
   show Zf (dec (enc b.v:PV)) p=_
   rw[Enc.dec_enc]
  rw[e1]
  rfl
theorem a4e(l:Nat)(b:BoxT)(fs:List Fact): ∀ (k:Nat) (p:List Int),k<=p.length->p.length<=1000->(∀ x∈p,-1<=x∧x<=20000) ->
  AtS [.seq (.ext 99 [0,1,2,4])] Gr (fun n S' _=>n=99∧ ∃ q,YJ b.m k p=some q∧S'=⟨KV l b fs p.length,YE q⟩) 1 (Zo 1 QY fun _=>YJ b.m k p=none) U7 0 52 [(0,.yld l),(1,.pv (.rptr [enc b.v,.int .i64 b.m])),(2,.pv (.rptr [enc fs])),(4,.row 0 p.length 0 p.length),(6,.pv (.int .i64 ((k:Int) - 1)))] (YE p):=by
 intro k
 induction k with
 | zero=>
  intro p hk hp hx
  exact a1n (G:=fun _=>YJ b.m 0 p=none) _ l b fs p.length p _ (ZI (by simp) (ZC (by simp) rfl))
 | succ k ih=>
  intro p hk hp hx
  have hlt:k<p.length:=by omega
  have ek:((k+1:Nat):Int) - 1=(k:Int):=by omega
  rw[ek]
  have e:=UE hlt
  have eg:p.getD k 0=p[k]:=by simp[List.getD,hlt]
  have hxk:=hx _ (List.getElem_mem hlt)
  have em:PV.asInt (List.getD (List.drop 1 [enc b.v,PV.int .i64 b.m]) 0 default)=b.m:=rfl
  have q1:(decide (0<=(k:Int))&&decide (0+Int.toNat (k:Int)<p.length)&&List.length (List.map (enc:Int->PV) p)==p.length)=true:=by simp;omega
  have q2:(List.length (List.map (enc:Int->PV) p)==p.length&&decide (0+Int.toNat (k:Int)<List.length (List.map (enc:Int->PV) p)))=true:=by simp;omega
  have hset : ∀ y:Int,List.set (List.map (enc:Int->PV) p) (0+Int.toNat (k:Int)) (enc y)=(p.set k y).map enc:=fun y=>by rw[Nat.zero_add,Int.toNat_natCast,List.map_set]
  refine a1n (G:=fun _=>YJ b.m (k+1) p=none) _ l b fs p.length p k (ZC (by simp) ?_)
  rw[e]
  refine⟨q1,q2,rfl,QR (fun h=>⟨q1,?_,?_⟩) fun h=>ZI (by simp) ⟨q1,q2,rfl,q1,?_,?_⟩⟩
  ·rw[q2];rfl
  ·have h:p[k]=b.m:=h
   have hn:YJ b.m (k+1) p=YJ b.m k (p.set k 0):=by rw[YJ,eg,if_pos h]
   rw[hn]
   have hw:IntKind.i64.wrap ((k:Int) - 1)=(k:Int) - 1:=XB (by omega) (by omega)
   rw[hw]
   have:=ih (p.set k 0) (by rw[List.length_set];omega) (by rw[List.length_set];exact hp) (fun x hx'=>by
    rcases List.mem_or_eq_of_mem_set hx' with h|rfl
    ·exact hx x h
    ·omega)
   rw[List.length_set]at this
   have e0:=hset 0
   unfold YE at this
   rw[<- e0]at this
   exact this
  ·rw[q2];rfl
  ·have h : ¬ p[k]=b.m:=h
   have hn:YJ b.m (k+1) p=some (p.set k (p[k]+1)):=by rw[YJ,eg,if_neg h]
   have hw:IntKind.i64.wrap (p[k]+1)=p[k]+1:=XB (by omega) (by omega)
   refine⟨rfl,_,hn,?_⟩
   have e0:=hset (IntKind.i64.wrap (p[k]+1))
   show(⟨KV l b fs p.length,[.obj (.row false 3 1 (List.set (List.map (enc:Int->PV) p) (0+Int.toNat (k:Int)) (enc (IntKind.i64.wrap (p[k]+1)))))]⟩:St)=_
   rw[e0,hw]
   rfl
theorem a7d(l:Nat)(b:BoxT)(fs:List Fact)(p:List Int)(hp:p.length<=1000)(hx : ∀ x∈p,-1<=x∧x<=20000):ZB Gr (fun n S' _=>n=99∧ ∃ q,Vk b.m p=some q∧S'=⟨KV l b fs p.length,YE q⟩) 1 (Zo 1 QY fun _=>Vk b.m p=none) (.inl U7) [.seq (.ext 99 [0,1,2,4])] ⟨KV l b fs p.length,YE p⟩:=by
 refine b3w (G:=fun _=>Vk b.m p=none) _ l b fs p.length p ?_
 have hw:IntKind.i64.wrap (((p.length - 0:Nat):Int) - 1)=((p.length:Nat):Int) - 1:=by rw[Nat.sub_zero];exact XB (by omega) (by omega)
 rw[hw]
 exact a4e l b fs p.length p (Nat.le_refl _) hp hx
end Go.Pl

namespace Go.Pl
open Go.RowKit
open Enc (enc dec is)
open EncL (encL decL isL)
end Go.Pl

namespace Go.Pl
open Go.RowKit
open Enc (enc dec is)
open EncL (encL decL isL)
set_option maxRecDepth 100000
def WQ:IC:=(.seq (.reg [⟨(some 4),(.mv (.c (.bool false))),0,none⟩] none) (.seq (.seq (.reg [⟨(some 5),(.mv (.c (.int .i64 0))),0,none⟩] none) (.block 0 (.loop [5,0,1] (.seq (.seq (.reg [⟨(some 8),(.mv (.t 5)),0,none⟩,⟨(some 9),(.mv (.t 0)),0,none⟩,⟨(some 10),(.len 1 (.t 9)),0,none⟩,⟨(some 11),(.bin .num .lss (.t 8) (.t 10)),0,none⟩] none) (.cond (.t 11) .skip (.exit 0))) (.seq (.block 1 (.seq (.reg [⟨(some 15),(.mv (.t 0)),0,none⟩,⟨(some 16),(.mv (.t 5)),0,none⟩,⟨(some 17),(.iaddr 3 (.t 15) (.t 16)),0,none⟩,⟨(some 18),(.faddr 1 (.t 17)),0,none⟩,⟨(some 19),(.load true [(.int .i64),(.sl 2)] (.t 18)),0,none⟩,⟨(some 20),(.mv (.t 1)),0,none⟩,⟨(some 21),(.call (.c (.fn 65)) [(.t 19),(.t 20)]),0,none⟩,⟨(some 14),(.mv (.t 21)),2,none⟩,⟨(some 22),(.extract (.t 14) 0),2,none⟩,⟨(some 23),(.extract (.t 14) 1),2,none⟩,⟨(some 6),(.mv (.t 22)),2,none⟩,⟨(some 7),(.mv (.t 23)),2,none⟩] none) (.seq (.reg [⟨(some 24),(.mv (.t 7)),0,none⟩,⟨(some 25),(.bin .num .neq (.t 24) (.c (.int .i64 0))),0,none⟩,⟨(some 26),(.mv (.t 25)),0,none⟩,⟨(some 27),(.mv (.t 6)),0,(some (26,false))⟩,⟨(some 28),(.bin .num .lss (.t 27) (.c (.int .i64 0))),0,(some (26,false))⟩,⟨(some 29),(.pick (.t 26) (.c (.bool true)) (.t 28)),0,none⟩,⟨(some 30),(.mv (.t 29)),0,none⟩,⟨(some 31),(.mv (.t 0)),0,(some (30,false))⟩,⟨(some 32),(.mv (.t 5)),0,(some (30,false))⟩,⟨(some 33),(.iaddr 3 (.t 31) (.t 32)),0,(some (30,false))⟩,⟨(some 34),(.faddr 0 (.t 33)),0,(some (30,false))⟩,⟨(some 35),(.load false [.bool] (.t 34)),0,(some (30,false))⟩,⟨(some 36),(.mv (.t 35)),0,(some (30,false))⟩,⟨(some 37),(.mv (.t 6)),0,(some (36,true))⟩,⟨(some 38),(.bin .num .neq (.t 37) (.c (.int .i64 0))),0,(some (36,true))⟩,⟨(some 39),(.pick (.t 36) (.t 38) (.c (.bool false))),0,(some (30,false))⟩,⟨(some 40),(.pick (.t 30) (.c (.bool true)) (.t 39)),0,none⟩] none) (.cond (.t 40) (.seq (.reg [⟨(some 4),(.mv (.c (.bool false))),0,none⟩] none) .ret) .skip)))) (.reg [⟨(some 12),(.mv (.t 5)),0,none⟩,⟨(some 13),(.bin .num .add (.t 12) (.c (.int .i64 1))),0,none⟩,⟨(some 5),(.mv (.t 13)),0,none⟩] none)))))) (.seq (.reg [⟨(some 4),(.mv (.c (.bool true))),0,none⟩] none) .ret)))
def WM:List IRes:=[(.tmp 4)]
abbrev FS:Nat:=41
def VR:ZE:=Y6 [(65,.pure (preT (fun x:Lin×List Coef×Unit=>Yq x.1&&decide (x.2.1.length<=9223372036854775807))) (Ze (fun x:Lin×List Coef×Unit=>Yc x.1 x.2.1)))]
theorem a4b{G:PV->Prop}(fs:List Fact)(v:List Coef)(h:At VR 0 (Za WM G) WQ 0 41 [(0,(.pv (.sl 3 false (List.map enc fs)))),(1,(.pv (.sl 2 false (List.map enc v)))),(5,(.pv (.int .i64 0)))] []):Zc VR 0 (Za WM G) WQ [] (Z5 41 [enc fs,enc v]):=Zc.tp (.nil) h (by kernel_rfl)
theorem Bp{G:PV->Prop}(fs:List Fact)(v:List Coef)(i:Int)(h:if (decide (i<(↑(List.length (List.map enc fs)):Int)))=true then(decide (0<=i)&&decide (Int.toNat i<List.length (List.map enc fs))&&Enc.sz Fact==3)=true∧(∃ y0:Fact,AV.pv (PV.rptr (PV.cells (List.getD (List.map enc fs) (Int.toNat i) default)))=AV.pv (PV.rptr (PV.cells ((enc) y0)))∧((Go.Pl.preT (fun(x:Lin×List Coef×Unit)=>Yq x.1&&decide (List.length x.2.1<=9223372036854775807)) [(.agg [(.int .i64 (PV.asInt (List.getD (List.drop 1 (PV.cells (enc y0))) 0 default))),(.sl 2 false (PV.asXs (List.getD (List.drop 1 (PV.cells (enc y0))) (0+1) default)))]),(.sl 2 false (List.map enc v))])=true∧(∃ y1:Int×Int,AV.pv (Ze (fun(x:Lin×List Coef×Unit)=>Yc x.1 x.2.1) [(.agg [(.int .i64 (PV.asInt (List.getD (List.drop 1 (PV.cells (enc y0))) 0 default))),(.sl 2 false (PV.asXs (List.getD (List.drop 1 (PV.cells (enc y0))) (0+1) default)))]),(.sl 2 false (List.map enc v))])=AV.pv (enc y1)∧(if (y1.2 != 0)=true then G ((.bool false))else(if (decide (y1.1<0))=true then G ((.bool false))else((decide (0<=i)&&decide (Int.toNat i<List.length (List.map enc fs))&&Enc.sz Fact==3)=true∧(∃ y2:Fact,AV.pv (PV.rptr (PV.cells (List.getD (List.map enc fs) (Int.toNat i) default)))=AV.pv (PV.rptr (PV.cells ((enc) y2)))∧(if (PV.asBool (List.getD (List.drop 0 (PV.cells (enc y2))) 0 default))=true then if (y1.1 != 0)=true then G ((.bool false))else(At VR 0 (Za WM G) WQ 0 41 [(0,(.pv (.sl 3 false (List.map enc fs)))),(1,(.pv (.sl 2 false (List.map enc v)))),(5,(.pv (.int .i64 (IntKind.wrap IntKind.i64 (i+1)))))] [])else(At VR 0 (Za WM G) WQ 0 41 [(0,(.pv (.sl 3 false (List.map enc fs)))),(1,(.pv (.sl 2 false (List.map enc v)))),(5,(.pv (.int .i64 (IntKind.wrap IntKind.i64 (i+1)))))] [])))))))))else(G ((.bool true)))):At VR 0 (Za WM G) WQ 0 41 [(0,.pv (enc fs)),(1,.pv (enc v)),(5,.pv (.int .i64 i))] []:=At.tp (.lit (.ask (.req (.abs (Fact) (fun YY=>AV.pv (PV.rptr (PV.cells ((enc) YY)))) (.lit (.req (.abs (Int×Int) (fun YY=>AV.pv (enc YY)) (.lit (.ask (.lit (.lit (.lit (.lit (.lit (.lit (.lit (.lit (.lit (.lit (.lit (.nil)))))))))))) (.lit (.lit (.lit (.ask (.lit (.lit (.lit (.lit (.lit (.lit (.lit (.lit (.nil))))))))) (.lit (.lit (.req (.abs (Fact) (fun YY=>AV.pv (PV.rptr (PV.cells ((enc) YY)))) (.lit (.lit (.lit (.lit (.ask (.lit (.lit (.lit (.lit (.lit (.ask (.nil) (.lit (.nil)))))))) (.lit (.lit (.lit (.lit (.lit (.lit (.nil))))))))))))))))))))))))))) (.nil))) h (by kernel_rfl)
end Go.Pl

namespace Go.Pl
open Go.RowKit
open Enc (enc dec is)
open EncL (encL decL isL)
set_option maxRecDepth 100000
end Go.Pl

namespace Go.Pl
open Go.RowKit
open Enc (enc dec is)
open EncL (encL decL isL)
structure Cert2 where
 a:Cert
 b:Cert
instance:Enc Cert2 where
 sz:=10
 enc x:=.agg (PV.cells (enc x.a)++PV.cells (enc x.b))
 dec | .agg [a,b,c,d,e,f,g,h,i,j]=>⟨dec (.agg [a,b,c,d,e]),dec (.agg [f,g,h,i,j])⟩|_=>⟨.mk 0 [] ⟨0,[]⟩ [],.mk 0 [] ⟨0,[]⟩ []⟩
 is | .agg [a,b,c,d,e,f,g,h,i,j]=>is Cert (.agg [a,b,c,d,e])&&is Cert (.agg [f,g,h,i,j])|_=>false
 is_enc v:=by
  obtain⟨⟨k,m,l,ks⟩,⟨k',m',l',ks'⟩⟩:=v
  rw[VU,VU]
  show(is Cert (.agg [enc k,enc m,enc l.k,enc l.t,enc ks])&&is Cert (.agg [enc k',enc m',enc l'.k,enc l'.t,enc ks']))=true
  rw[<- VU,<- VU,Enc.is_enc,Enc.is_enc];rfl
 dec_enc v:=by
  obtain⟨⟨k,m,l,ks⟩,⟨k',m',l',ks'⟩⟩:=v
  rw[VU,VU]
  show(⟨dec (.agg [enc k,enc m,enc l.k,enc l.t,enc ks]),dec (.agg [enc k',enc m',enc l'.k,enc l'.t,enc ks'])⟩:Cert2)=_
  rw[<- VU,<- VU,Enc.dec_enc,Enc.dec_enc]
 sub p h:=by
  cases p with
  | agg xs=>
   match xs,h with
   | [a,b,c,d,e,f,g,h',i,j],h=>
    simp only[Bool.and_eq_true]at h
    have h1:=Enc.sub (α:=Cert) _ h.1
    have h2:=Enc.sub (α:=Cert) _ h.2
    exact Qa.agg (h1.1.append h2.1)
  | _=>cases h
theorem b5p{l:Lin}{n:Int}(h:JO l n=true)(hl:Yq l=true):Yd l=true:=by
 simp only[JO,Bool.and_eq_true,List.all_eq_true,decide_eq_true_eq]at h
 simp only[Yd,hl,Bool.true_and,List.all_eq_true,decide_eq_true_eq]
 intro t ht
 have:=h.1 t ht
 omega
mutual
theorem b0l: ∀ (c:Cert) (n:Int),n<=12->PF c n=true->cOk c=true->1<=n∧(b4u c:Int)<=n∧1<=Dn c∧Dn c<=n∧cSm c=true
 | .mk k m l ks,n,hn,h,ho=>by
  simp only[PF,Bool.and_eq_true,Bool.not_eq_true',decide_eq_false_iff_not]at h
  obtain⟨h1,h2,h3,h4,h5⟩:=h
  simp only[cOk,Bool.and_eq_true,decide_eq_true_eq]at ho
  obtain⟨⟨⟨o1,o2⟩,o3⟩,o4⟩:=ho
  obtain⟨a1,a2,a3,a4⟩:=TE ks n 1 (by omega) hn (by omega) (by omega) h5 o4
  rw[b4u,Dn]
  refine⟨by omega,by omega,by omega,by omega,?_⟩
  simp only[cSm,b5p h2 o2,a4,decide_eq_true o1,decide_eq_true o3]
  rfl
theorem TE: ∀ (cs:List Cert) (n s:Int),1<=n->n<=12->1<=s->s<=100 - n->G2 cs n=true->FZ cs=true->(T6 cs:Int)<=n - 1∧s<=Hs s cs∧Hs s cs<=s+n - 1∧LN cs=true
 | [],n,s,h1,h2,h3,h4,_,_=>by
  rw[T6,Hs]
  exact⟨by omega,by omega,by omega,rfl⟩
 | c::cs,n,s,h1,h2,h3,h4,h,ho=>by
  simp only[G2,Bool.and_eq_true]at h
  simp only[FZ,Bool.and_eq_true]at ho
  rw[XB (by omega) (by omega)]at h
  obtain⟨b1,b2,b3,b4,b5⟩:=b0l c (n - 1) (by omega) h.1 ho.1
  have h':=h.2
  rw[XB (by omega) (by omega)]at h'
  obtain⟨a1,a2,a3,a4⟩:=TE cs (n - Dn c) (s+Dn c) (by omega) (by omega) (by omega) (by omega) h' ho.2
  rw[T6,Hs,XB (by omega) (by omega)]
  refine⟨by omega,by omega,by omega,?_⟩
  simp only[LN,b5,a4]
  rfl
end
end Go.Pl

namespace Go.Pl
open Go.RowKit
open Enc (enc dec is)
open EncL (encL decL isL)
set_option maxRecDepth 100000
end Go.Pl

namespace Go.Pl
open Go.RowKit
open Enc (enc dec is)
open EncL (encL decL isL)
end Go.Pl

namespace Go.Pl
open Go.RowKit
open Enc (enc dec is)
open EncL (encL decL isL)
theorem Tm(l:List Fact)(v:List Coef)(hl:Zi l=true)(hv:v.length<=9223372036854775807): ∀ (j i:Nat),j+i=l.length->At VR 0 (Za WM (Zg ((l.drop i).all fun f=>Z1 f v))) WQ 0 41 [(0,.pv (enc l)),(1,.pv (enc v)),(5,.pv (.int .i64 i))] []:=by
 intro j
 induction j with
 | zero=>
  intro i hi
  exact Bp l v i (ZI (Xi (by omega)) (ZK (by rw[List.drop_of_length_le (by omega)];rfl)))
 | succ j ih=>
  intro i hi
  have hl':=hl
  simp only[Zi,Bool.and_eq_true,decide_eq_true_eq,List.all_eq_true]at hl'
  have hlt:i<l.length:=by omega
  have h:=ih (i+1) (by omega)
  have ho:Yq l[i].l=true:=by
   have:=hl'.2 _ (List.getElem_mem hlt)
   simp only[Yd,Bool.and_eq_true]at this
   exact this.1
  refine Bp l v i (ZC (YN hlt) ⟨Zs hlt rfl,Zw hlt ⟨Zj (l[i].l,v,()) rfl (by show(Yq l[i].l&&decide (v.length<=9223372036854775807))=true;rw[ho,decide_eq_true hv];rfl),Zh (l[i].l,v,()) rfl ?_⟩⟩)
  rw[List.drop_eq_getElem_cons hlt,List.all_cons,next (by omega)]
  refine b7i (fun h1=> ?_) fun h1=>Ww (fun h2=> ?_) fun h2=>⟨Zs hlt rfl,Zw hlt (XU (fun h3=>b7i (fun h4=> ?_) fun h4=> ?_) fun h3=> ?_)⟩
  ·have h1:(Yc l[i].l v).2≠0:=by simpa using h1
   exact ZK (by simp[Z1,h1])
  all_goals have h1:(Yc l[i].l v).2=0:=by simpa using h1
  ·have h2:(Yc l[i].l v).1<0:=h2
   exact ZK (by simp[Z1,h1,h2])
  all_goals have h2 : ¬ (Yc l[i].l v).1<0:=h2
  all_goals have h3:l[i].eq=_:=h3
  ·have h4:(Yc l[i].l v).1≠0:=by simpa using h4
   exact ZK (by simp[Z1,h1,h2,h3,h4])
  ·have h4:(Yc l[i].l v).1=0:=by simpa using h4
   have e:Z1 l[i] v=true:=by simp[Z1,h1,h3,h4]
   rw[e,Bool.true_and]
   exact h
  ·have e:Z1 l[i] v=true:=by
    have h2':decide ((Yc l[i].l v).1<0)=false:=decide_eq_false h2
    simp only[Z1,h1,h3,h2']
    rfl
   rw[e,Bool.true_and]
   exact h
theorem N4: ∀ a:List Fact×List Coef×Unit,(Zi a.1&&decide (a.2.1.length<=9223372036854775807))=true->Zc VR 0 (Za WM (Zg (a.1.all fun f=>Z1 f a.2.1))) WQ [] (Z5 FS (encL a)):=by
 rintro⟨l,v,⟨⟩⟩ h
 simp only[Bool.and_eq_true,decide_eq_true_eq]at h
 exact a4b l v (Tm l v h.1 h.2 l.length 0 rfl)
end Go.Pl

namespace Go.Pl
open Go.RowKit
open Enc (enc dec is)
open EncL (encL decL isL)
end Go.Pl

namespace Go.Pl
open Go.RowKit
def Xl(ts:List Coef)(s:List UInt8):Int:=((ts.find? fun t=>t.v.s==s).map (·.c)).getD 0
def KQ(ts:List Coef):Prop:=ts.Pairwise fun a b=>a.v.s<b.v.s
def nzP(ts:List Coef):Prop:= ∀ t∈ts,t.c≠0
theorem Bz(s:List UInt8):Xl [] s=0:=rfl
theorem Yw(t:Coef)(ts:List Coef)(s:List UInt8):Xl (t::ts) s=if t.v.s=s then t.c else Xl ts s:=by
 simp only[Xl,List.find?_cons]
 by_cases h:t.v.s=s
 ·simp[h]
 ·have:(t.v.s==s)=false:=by simpa using h
  simp[this,h]
theorem Di{s:List UInt8}: ∀ {ts:List Coef},(∀ t∈ts,s<t.v.s)->Xl ts s=0
 | [],_=>rfl
 | t::ts,h=>by
  have h1:=h t (by simp)
  rw[Yw,if_neg (fun e=>by rw[e]at h1;exact List.lt_irrefl _ h1)]
  exact Di fun u hu=>h u (by simp[hu])
theorem Uo{t:Coef}{ts:List Coef}:KQ (t::ts) ↔ (∀ u∈ts,t.v.s<u.v.s)∧KQ ts:=List.pairwise_cons
theorem UB(s:Str)(c:Int): ∀ {ts:List Coef},(∀ t∈ts,s.s<t.v.s)->XD s c true ts=ts
 | [],_=>by simp[XD]
 | t::ts,h=>by
  have h1:=h t (by simp)
  rw[MH,if_neg (fun e=>by rw[e]at h1;exact List.lt_irrefl _ h1),UB s c fun u hu=>h u (by simp[hu])]
theorem M9(s:Str)(c:Int): ∀ {ts:List Coef},KQ ts-> ∀ u∈XD s c false ts,u.v.s=s.s ∨ ∃ t∈ts,t.v.s=u.v.s
 | [],_,u,hu=>by
  simp only[XD,Bool.false_eq_true,if_false,List.mem_singleton]at hu
  exact .inl (by rw[hu])
 | t::ts,h,u,hu=>by
  obtain⟨h1,h2⟩:=Uo.1 h
  rw[KZ]at hu
  split at hu
  ·rename_i hlt
   rw[UB s c (fun u hu=>List.lt_trans hlt (h1 u hu))]at hu
   rcases List.mem_cons.1 hu with rfl|hu
   ·exact .inl rfl
   ·exact .inr ⟨u,hu,rfl⟩
  ·split at hu
   ·rename_i he
    rw[UB s c (fun u hu=>he▸h1 u hu)]at hu
    rcases List.mem_cons.1 hu with rfl|hu
    ·exact .inr ⟨t,by simp,rfl⟩
    ·exact .inr ⟨u,by simp[hu],rfl⟩
   ·rcases List.mem_cons.1 hu with rfl|hu
    ·exact .inr ⟨u,by simp,rfl⟩
    ·rcases M9 s c h2 u hu with h|⟨w,hw,e⟩
     ·exact .inl h
     ·exact .inr ⟨w,by simp[hw],e⟩
theorem S3(s:Str)(c:Int): ∀ {ts:List Coef},KQ ts->KQ (XD s c false ts)
 | [],_=>by simp[XD,KQ]
 | t::ts,h=>by
  obtain⟨h1,h2⟩:=Uo.1 h
  rw[KZ]
  split
  ·rename_i hlt
   rw[UB s c (fun u hu=>List.lt_trans hlt (h1 u hu))]
   exact Uo.2 ⟨fun u hu=>by
    rcases List.mem_cons.1 hu with rfl|hu
    ·exact hlt
    ·exact List.lt_trans hlt (h1 u hu),h⟩
  ·rename_i hlt
   split
   ·rename_i he
    rw[UB s c (fun u hu=>he▸h1 u hu)]
    exact Uo.2 ⟨h1,h2⟩
   ·rename_i he
    have hts:t.v.s<s.s:=tri hlt (fun e=>he (JZ.2 e.symm))
    refine Uo.2 ⟨fun u hu=> ?_,S3 s c h2⟩
    rcases M9 s c h2 u hu with e|⟨w,hw,e⟩
    ·rw[e];exact hts
    ·rw[<- e];exact h1 w hw
theorem RY(s:Str)(c:Int)(hc:Gf c=c): ∀ {ts:List Coef},KQ ts-> ∀ x,Xl (XD s c false ts) x=if s.s=x then Gf (Xl ts s.s+c)else Xl ts x
 | [],_,x=>by
  have e:XD s c false []=[⟨s,c⟩]:=by simp[XD]
  rw[e,Yw,Bz,Bz,Int.zero_add,hc]
 | t::ts,h,x=>by
  obtain⟨h1,h2⟩:=Uo.1 h
  rw[KZ]
  split
  ·rename_i hlt
   rw[UB s c (fun u hu=>List.lt_trans hlt (h1 u hu)),Yw,Di (ts:=t::ts) (s:=s.s) (fun u hu=>by
    rcases List.mem_cons.1 hu with rfl|hu
    ·exact hlt
    ·exact List.lt_trans hlt (h1 u hu)),Int.zero_add,hc]
  ·rename_i hlt
   split
   ·rename_i he
    have he':t.v.s=s.s:=by rw[he]
    have e1:Xl (t::ts) s.s=t.c:=by rw[Yw,if_pos he']
    have e2:Xl (t::ts) x=if s.s=x then t.c else Xl ts x:=by rw[Yw,he']
    rw[UB s c (fun u hu=>he▸h1 u hu),Yw,e1,e2]
    show(if t.v.s=x then Gf (t.c+c)else Xl ts x)=_
    rw[he']
    by_cases hx:s.s=x
    ·rw[if_pos hx,if_pos hx]
    ·rw[if_neg hx,if_neg hx,if_neg hx]
   ·rename_i he
    have he' : ¬ t.v.s=s.s:=fun e=>he (JZ.2 e)
    rw[Yw,RY s c hc h2 x,Yw (s:=s.s),if_neg he',Yw (s:=x)]
    by_cases hx:s.s=x
    ·rw[if_pos hx,if_pos hx,if_neg (fun e=>he' (e.trans hx.symm))]
    ·rw[if_neg hx,if_neg hx]
theorem H5: ∀ {ts:List Coef},KQ ts-> ∀ x,Xl (ts.filter fun t=>decide (t.c≠0)) x=Xl ts x
 | [],_,x=>rfl
 | t::ts,h,x=>by
  obtain⟨h1,h2⟩:=Uo.1 h
  rw[List.filter_cons]
  split
  ·rw[Yw,Yw,H5 h2 x]
  ·rename_i hz
   have hz0:t.c=0:=by simpa using hz
   rw[Yw,H5 h2 x]
   by_cases hx:t.v.s=x
   ·rw[if_pos hx,hz0,Di fun u hu=>hx▸h1 u hu]
   ·rw[if_neg hx]
theorem a3k{l:Lin}(s:Str)(c:Int)(h:KQ l.t):KQ (W3 l s c).t:=(S3 s c h).sublist List.filter_sublist
theorem M3(l:Lin)(s:Str)(c:Int):nzP (W3 l s c).t:=fun t ht=>by simpa using (List.mem_filter.1 ht).2
theorem Fi{l:Lin}(s:Str){c:Int}(hc:Gf c=c)(h:KQ l.t)(x:List UInt8):Xl (W3 l s c).t x=if s.s=x then Gf (Xl l.t s.s+c)else Xl l.t x:=by
 show Xl (List.filter _ _) x=_
 rw[H5 (S3 s c h),RY s c hc h]
theorem a2h(s:Str)(c:Int)(x:List UInt8): ∀ m:List (Str×Int),FH (Oo s c m) x=if s.s=x then c else FH m x
 | []=>by
  rw[Oo]
  simp only[FH,List.find?_cons]
  by_cases h:s.s=x
  ·simp[h]
  ·have:(s.s==x)=false:=by simpa using h
   simp[this,h]
 | p::m=>by
  have ih:=a2h s c x m
  rw[Oo]
  split
  ·rename_i he
   simp only[FH,List.find?_cons]
   by_cases h:s.s=x
   ·simp[h]
   ·have h1:(s.s==x)=false:=by simpa using h
    have h2:(p.1.s==x)=false:=by rw[<- he];exact h1
    simp[h1,h2,h]
  ·rename_i he
   simp only[FH,List.find?_cons]at ih ⊢
   by_cases h:p.1.s=x
   ·have h2 : ¬ s.s=x:=fun e=>he (e.trans h.symm)
    simp[h,h2]
   ·have h2:(p.1.s==x)=false:=by simpa using h
    rw[h2]
    exact ih
end Go.Pl

namespace Go.Pl
open Go.RowKit
def wM(m:List (Str×Int)):Prop:= ∀ s,Gf (FH m s)=FH m s
theorem add_zero: ∀ (x:List Coef) (m:List (Str×Int)),wM m-> ∀ s,FH (b6m 0 x m) s=FH m s
 | [],m,h,s=>rfl
 | t::x,m,h,s=>by
  have e : ∀ y,FH (Oo t.v (IntKind.i64.wrap (FH m t.v.s+IntKind.i64.wrap (0*t.c))) m) y=FH m y:=fun y=>by
   rw[a2h]
   split
   ·rename_i hy
    have:IntKind.i64.wrap (0*t.c)=0:=by rw[Int.zero_mul];rfl
    rw[this,Int.add_zero,<- hy]
    exact h t.v.s
   ·rfl
  rw[b6m,add_zero x _ (fun y=>by rw[e];exact h y),e]
end Go.Pl

namespace Go.Pl
open Go.RowKit
end Go.Pl

namespace Go.Pl
open Go.RowKit
open Enc (enc dec is)
open EncL (encL decL isL)
end Go.Pl

namespace Go.Pl
open Go.RowKit
open Enc (enc dec is)
open EncL (encL decL isL)
set_option maxRecDepth 100000
end Go.Pl

namespace Go.Pl
open Go.RowKit
open Enc (enc dec is)
open EncL (encL decL isL)
set_option maxRecDepth 100000
end Go.Pl

namespace Go.Pl
open Go.RowKit
open Enc (enc dec is)
open EncL (encL decL isL)
end Go.Pl

namespace Go.Pl
open Go.RowKit
open Enc (enc dec is)
open EncL (encL decL isL)
end Go.Pl

namespace Go.Pl
open Go.RowKit
open Enc (enc dec is)
open EncL (encL decL isL)
end Go.Pl

namespace Go.Pl
open Go.RowKit
open Enc (enc dec is)
open EncL (encL decL isL)
theorem one_of{α:Type}: ∀ {ks:List α},ks.length=1-> ∃ a,ks=[a]
 | [a],_=>⟨a,rfl⟩
end Go.Pl

namespace Go.Pl
open Go.RowKit
open Enc (enc dec is)
open EncL (encL decL isL)
set_option maxRecDepth 100000
end Go.Pl

namespace Go.Pl
open Go.RowKit
open Enc (enc dec is)
open EncL (encL decL isL)
end Go.Pl

namespace Go.Pl
open Go.RowKit
open Enc (enc dec is)
open EncL (encL decL isL)
theorem sub_zero(b:Bool):Sub (.tup [b7h,.bool b]) (enc (((⟨0,[]⟩:Lin),b):Lin×Bool)):=Sub.pair (Sub.agg_cons (.refl _) (Sub.agg_cons (.sl0 _ _ _) Sub.agg_nil)) (.refl _)
end Go.Pl

namespace Go.Pl
open Go.RowKit
open Enc (enc dec is)
open EncL (encL decL isL)
inductive Walk (m:Int):List Int->List (List Int)->Prop
 | last {p}:Vk m p=none->Walk m p [p]
 | step {p q l}:Vk m p=some q->Walk m q l->Walk m p (p::l)
theorem Walk.walkP{m:Int}{p:List Int}{l:List (List Int)}(h:Walk m p l): ∀ f,l.length<=f->walkP m f p=l:=by
 induction h with
 | last h=>
  intro f hf
  cases f with
  | zero=>simp at hf
  | succ f=>simp[Go.Pl.walkP,h]
 | step h _ ih=>
  intro f hf
  cases f with
  | zero=>simp at hf
  | succ f=>simp only[Go.Pl.walkP,h];rw[ih f (by simpa using hf)]
theorem NI(m x:Int): ∀ (k:Nat) (p:List Int),k<=p.length->YJ m (k+1) (x::p) =
  match YJ m k p with
  | some q=>some (x::q)
  | none=>if x=m then none else some ((x+1)::(List.replicate k 0++p.drop k)):=by
 intro k
 induction k with
 | zero=>intro p _;simp[YJ]
 | succ k ih=>
  intro p hp
  rw[YJ]
  have e:(x::p).getD (k+1) 0=p.getD k 0:=by simp[List.getD]
  rw[e]
  by_cases h:p.getD k 0=m
  ·have hn:YJ m (k+1) p=YJ m k (p.set k 0):=by rw[YJ,if_pos h]
   rw[if_pos h,hn]
   have:=ih (p.set k 0) (by simp;omega)
   rw[List.set_cons_succ,this]
   have e2:List.replicate k (0:Int)++(p.set k 0).drop k=List.replicate (k+1) 0++p.drop (k+1):=by
    rw[List.replicate_succ',List.append_assoc]
    congr 1
    rw[List.drop_eq_getElem_cons (show k<(p.set k 0).length by simp;omega),List.drop_set_of_lt (by omega)]
    simp
   rw[e2]
  ·have hn:YJ m (k+1) p=some (p.set k (p.getD k 0+1)):=by rw[YJ,if_neg h]
   rw[if_neg h,hn]
   simp
theorem Jp(m x:Int)(p:List Int):Vk m (x::p) =
  match Vk m p with
  | some q=>some (x::q)
  | none=>if x=m then none else some ((x+1)::List.replicate p.length 0):=by
 have:=NI m x p.length p (Nat.le_refl _)
 rw[List.drop_length,List.append_nil]at this
 exact this
theorem HQ(m:Int): ∀ (k:Nat) (p q:List Int),YJ m k p=some q->q.length=p.length:=by
 intro k
 induction k with
 | zero=>intro p q h;cases h
 | succ k ih=>
  intro p q h
  rw[YJ]at h
  split at h
  ·rw[ih _ _ h,List.length_set]
  ·cases h;rw[List.length_set]
theorem Walk.cons{m x:Int}{rest:List (List Int)}{p:List Int}{l:List (List Int)}(h:Walk m p l):(hr:(x=m∧rest=[])∨(x≠m∧Walk m ((x+1)::List.replicate p.length 0) rest))->Walk m (x::p) (l.map (x:: ·)++rest):=by
 induction h with
 | last h=>
  rename_i p
  rintro(⟨rfl,rfl⟩|⟨h1,h2⟩)
  ·refine .last ?_
   rw[Jp,h];simp
  ·refine .step ?_ h2
   rw[Jp,h];simp[h1]
 | step h _ ih=>
  rename_i p q l _
  intro hr
  refine .step (q:=x::q) ?_ (ih ?_)
  ·rw[Jp,h]
  ·rw[HQ m _ _ _ h];exact hr
def a9q(m:Nat):List Int:=(List.range (m+1)).map fun(i:Nat)=>(i:Int)
def Q8(m:Nat):Nat->List (List Int)
 | 0=>[[]]
 | n+1=>(a9q m).flatMap fun x=>(Q8 m n).map (x:: ·)
theorem Walk.from{m n:Nat}(h:Walk m (List.replicate n 0) (Q8 m n)): ∀ (d i:Nat),i+d=m->Walk m ((i:Int)::List.replicate n 0) (((List.range' i (d+1)).map fun(i:Nat)=>(i:Int)).flatMap fun x=>(Q8 m n).map (x:: ·)):=by
 intro d
 induction d with
 | zero=>
  intro i hi
  have:=h.cons (x:=(i:Int)) (rest:=[]) (.inl ⟨by omega,rfl⟩)
  simpa using this
 | succ d ih=>
  intro i hi
  have h1:=ih (i+1) (by omega)
  have:=h.cons (x:=(i:Int)) (.inr ⟨by omega,by rw[List.length_replicate];exact_mod_cast h1⟩)
  rw[List.range'_succ,List.map_cons,List.flatMap_cons]
  exact this
theorem Hz(m:Nat): ∀ n,Walk m (List.replicate n 0) (Q8 m n):=by
 intro n
 induction n with
 | zero=>exact .last rfl
 | succ n ih=>
  have:=ih.from m 0 (by omega)
  rw[<- List.range_eq_range']at this
  exact_mod_cast this
theorem Hd(m:Nat): ∀ n,(Q8 m n).length=(m+1) ^ n:=by
 intro n
 induction n with
 | zero=>rfl
 | succ n ih=>
  rw[Q8,List.length_flatMap]
  simp only[List.length_map,ih,a9q]
  rw[List.map_const',List.sum_replicate_nat,List.length_map,List.length_range,Nat.pow_succ,Nat.mul_comm]
theorem RN{m:Nat}{x:Int}:x∈a9q m ↔ 0<=x∧x<=m:=by
 unfold a9q
 rw[List.mem_map]
 constructor
 ·rintro⟨i,hi,rfl⟩
  have:=List.mem_range.1 hi
  omega
 ·rintro⟨h1,h2⟩
  exact⟨x.toNat,List.mem_range.2 (by omega),by omega⟩
theorem J7{m:Nat}: ∀ {n:Nat} {p:List Int},p∈Q8 m n ↔ p.length=n∧ ∀ x∈p,0<=x∧x<=m:=by
 intro n
 induction n with
 | zero=>
  intro p
  simp only[Q8,List.mem_singleton,List.length_eq_zero_iff]
  exact⟨fun h=>⟨h,by simp[h]⟩,fun h=>h.1⟩
 | succ n ih=>
  intro p
  simp only[Q8,List.mem_flatMap,List.mem_map]
  constructor
  ·rintro⟨x,hx,q,hq,rfl⟩
   obtain⟨h1,h2⟩:=ih.1 hq
   refine⟨by simp[h1],?_⟩
   intro y hy
   rcases List.mem_cons.1 hy with rfl|hy
   ·exact RN.1 hx
   ·exact h2 y hy
  ·rintro⟨h1,h2⟩
   cases p with
   | nil=>simp at h1
   | cons x q=>
    exact⟨x,RN.2 (h2 x (by simp)),q,ih.2 ⟨by simpa using h1,fun y hy=>h2 y (by simp[hy])⟩,rfl⟩
def QU(x:List Int×List Coef):List PV:=[enc x.1,enc x.2]
def UM:List (List PV)->Bool
 | [[v,.int .i64 m],[f]]=>Vh (List Str) v&&Vh (List Fact) f&&YC ⟨dec v,m⟩&&Zi (dec f)&&decide ((dec v:List Str).length<=1000)
 | _=>false
def Gm:List (List PV)->List (List Int×List Coef)
 | [[v,.int .i64 m],[f]]=>(ZP ⟨dec v,m⟩ (dec f)).map fun p=>(p,Zf (dec v) p)
 | _=>[]
theorem a1x(m:Nat): ∀ (l:List Str) (n r:Int),0<=n->JC m l n=some r->r=n*((m:Int)+1) ^ l.length:=by
 intro l
 induction l with
 | nil=>intro n r _ h;simp only[JC,Option.some.injEq]at h;simp[h]
 | cons s l ih=>
  intro n r hn h
  rw[JC]at h
  split at h
  ·cases h
  ·rw[ih _ _ (Int.mul_nonneg hn (by omega)) h,List.length_cons,Int.pow_succ,Int.mul_assoc,Int.mul_comm ((m:Int)+1)]
theorem a8f(m:Nat): ∀ (l:List Str) (n r:Int),n<=20000->JC m l n=some r->r<=20000:=by
 intro l
 induction l with
 | nil=>intro n r hn h;simp only[JC,Option.some.injEq]at h;omega
 | cons s l ih=>
  intro n r hn h
  rw[JC]at h
  split at h
  ·cases h
  ·exact ih _ _ (by omega) h
theorem VY{b:BoxT}:YC b=true ↔ b.v.all ZD=true∧b.v.Nodup∧(b.v=[]∨b.m<20000)∧0<=b.m∧(JC b.m b.v 1).isSome=true:=by
 unfold YC
 simp only[Bool.and_eq_true,decide_eq_true_eq,Bool.or_eq_true,List.isEmpty_iff]
 constructor
 ·rintro⟨⟨⟨⟨h1,h2⟩,h3⟩,h4⟩,h5⟩;exact⟨h1,h2,h3,h4,h5⟩
 ·rintro⟨h1,h2,h3,h4,h5⟩;exact⟨⟨⟨⟨h1,h2⟩,h3⟩,h4⟩,h5⟩
theorem GV{b:BoxT}(h:YC b=true):(b.m.toNat+1) ^ b.v.length<=20000:=by
 obtain⟨_,_,_,h4,h5⟩:=VY.1 h
 obtain⟨r,hr⟩:=Option.isSome_iff_exists.1 h5
 have e:b.m=(b.m.toNat:Int):=by omega
 rw[e]at hr
 have h1:=a1x _ _ _ _ (by decide) hr
 have h2:=a8f _ _ _ _ (by decide) hr
 rw[Int.one_mul]at h1
 have:(((b.m.toNat+1) ^ b.v.length:Nat):Int)=r:=by rw[h1];simp
 omega
theorem VG{b:BoxT}(h:YC b=true):b4v b=Q8 b.m.toNat b.v.length:=by
 obtain⟨_,_,_,h4,_⟩:=VY.1 h
 have hw:=Hz b.m.toNat b.v.length
 have hl:=Hd b.m.toNat b.v.length
 have:=GV h
 have e:(b.m.toNat:Int)=b.m:=by omega
 rw[e]at hw
 have ez:X0 b.v=List.replicate b.v.length 0:=List.map_const' ..
 unfold b4v
 rw[ez]
 exact hw.walkP 20001 (by omega)
end Go.Pl

namespace Go.Pl
open Go.RowKit
open Enc (enc dec is)
open EncL (encL decL isL)
def Qx(l:Lin)(s:Str):Lin:=if Xl l.t s.s=0 then W3 l s 1 else l
def V5(ls:List Lin):List Str:=Zd (ls.foldl (fun o l=>(Zd l).foldl Qx o) ⟨0,[]⟩)
def Vf(ls:List Lin):Bool:=decide (ls.length<=1000)&&ls.all fun l=>decide (l.t.length<=1000)
def Ms(m:Int):List Str->Int->Int
 | [],n=>n
 | _::r,n=>Ms m r (n*(m+1))
def UL(b:BoxT)(fs:List Fact):Bool:=decide (b.v.length<=5)&&decide ((if YC b then Ms b.m b.v 1 else 1)<=300)&&decide (fs.length<=6)&&GE fs 6
def UQ:List Str->List Str->Int
 | [],b=> -(b.length:Int)
 | a,[]=>(a.length:Int)
 | x::a,y::b=>if x.s<y.s then -1 else if y.s<x.s then 1 else UQ a b
def J3:List Str->Bool
 | x::y::r=> !decide (y.s<x.s)&&J3 (y::r)
 | _=>true
def WJ(m:Mono):Bool:=decide (m.c≠0)&&decide (-1099511627776<=m.c)&&decide (m.c<=1099511627776)&&decide (m.v.length<=8)&&J3 m.v&&m.v.all ZD
def Fz:List Mono->Bool
 | x::y::r=>decide (UQ x.v y.v<0)&&Fz (y::r)
 | _=>true
def ZG(p:List Mono):Bool:=decide (p.length<=60)&&p.all WJ&&Fz p
def J0(l:List Str)(s:Str):List Str:=match l with
 | []=>[s]
 | t::r=>if t.s<s.s then t::J0 r s else if t=s then t::r else s::t::r
def WO(p:List Mono):List Str:=if ZG p then(p.flatMap (·.v)).foldl J0 []else []
def Y9(p:List Mono):Bool:=decide (p=[])
end Go.Pl

namespace Go.Pl
open Go.RowKit
open Enc (enc dec is)
open EncL (encL decL isL)
def C7(x y:Str):Int:=if x.s<y.s then -1 else if y.s<x.s then 1 else 0
def Hu:List Str->List Str->Int
 | [],[]=>0
 | [],_::_=> -1
 | _::_,[]=>1
 | x::a,y::b=>if x.s<y.s then -1 else if y.s<x.s then 1 else Hu a b
def Z8(p:List Mono):Bool:=Zn p&&p.all fun m=>Wl m.v
def XG(p:List Mono):List Str:=p.flatMap (·.v)
def Xh(p:List Mono):List (List UInt8):=Wn ((XG p).map (·.s))
def Yt(p:List Mono):List Str:=(Lib.compact (Xh p)).map Str.mk
def VW(p:PV):List Mono:=dec p
def UN:List AV->List AObj->Bool
 | [.pv a],[]=>Vh (List Mono) a&&Z8 (dec a)&&ZG (dec a)&& !(XG (dec a)).isEmpty
 | _,_=>false
def AY:List AV->List AObj->AV×List AObj×List AObj
 | [.pv a],_=>(.row 0 (Xh (VW a)).length 0 (Lib.compact (Xh (VW a))).length,[],[.row false 9 1 ((Vl (Xh (VW a))).map .str)])
 | _,_=>WX
def SQ:List AV->List AObj->AV×List AObj×List AObj
 | [.pv a],_=>Kh (Yt (VW a))
 | _,_=>WX
def Ku:List AV->List AObj->Bool
 | [.pv a],[]=>Vh (List Mono) a&&Z8 (dec a)&&(!ZG (dec a)||(XG (dec a)).isEmpty)
 | _,_=>false
def GP:List AV->List AObj->AV×List AObj×List AObj:=fun _ _=>(.pv (.sl 0 true []),[],[])
def D3(a b:Int):Int×Int:=if UI a&&UI b&&UI (a*b)then(a*b,0)else(0,2)
def Vn(l:List Int):Int×Int:=if l.all UI&&UI l.sum then(l.sum,0)else(0,2)
def Le:Int->List Int->Int×Int
 | o,[]=>(o,0)
 | o,n::r=>if (D3 o n).2≠0 then(0,(D3 o n).2)else Le (D3 o n).1 r
def Y8(l:List Int):Int×Int:=if l.contains 0 then(0,0)else Le 1 l
def R6(vs:List Coef):List Str->Option (List Int)
 | []=>some []
 | s::r=>match UZ vs s with
  | none=>none
  | some x=>(R6 vs r).map (x:: ·)
def Nu(vs:List Coef):List Mono->Option (List (List Int))
 | []=>some []
 | m::r=>match R6 vs m.v with
  | none=>none
  | some l=>(Nu vs r).map ((m.c::l):: ·)
def Yu:List (List Int)->Option (List Int)
 | []=>some []
 | l::r=>if (Y8 l).2≠0 then none else(Yu r).map ((Y8 l).1:: ·)
def Cw(fs:List (List Int)):Bool:=fs.any fun l=>l.tail.any fun x=> !UI x
def YT(p:List Mono)(vs:List Coef):Int×Int:=
 if ZG p then(match Nu vs p with
  | none=>(0,7)
  | some fs=>if Cw fs then(0,2)else match Yu fs with
   | none=>(0,2)
   | some l=>Vn l)
 else(0,1)
def Hf:List AV->List AObj->Bool
 | [.pv x,.ptr 0 0],[.box [.pv (.str v)]]=>Vh Coef x
 | _,_=>false
def GK:List AV->List AObj->AV×List AObj×List AObj
 | [.pv x,_],[.box [.pv (.str v)]]=>(.pv (.bool ((dec x:Coef).v.s==v)),[.box [.pv (.str v)]],[])
 | _,_=>WX
def VL(g:Nat):List AV->List AObj->Bool
 | [.pv l,.fn g' [] [.ptr 0 0]],[.box [.pv (.str v)]]=>g'==g&&Vh (List Coef) l&&decide ((dec l:List Coef).length<=9223372036854775807)
 | _,_=>false
def QS(p:PV):List Coef:=dec p
def G9:List AV->List AObj->AV×List AObj×List AObj
 | [.pv l,_],[.box [.pv (.str v)]]=>(.pv (.int .i64 (Zy (fun t:Coef=>t.v.s==v) (QS l))),[.box [.pv (.str v)]],[])
 | _,_=>WX
def Wo(n:Int):Int:=n / 2147483648
def XY(n:Int):Int:=n % 2147483648
def Uc:List AV->List AObj->Bool
 | [.pv (.int .i64 n),.ptr 0 0,.ptr 1 0],[.box [.pv (.sl 0 true [])],.box [.pv (.sl 0 true [])]]=>true
 | [.pv (.int .i64 n),.ptr 0 0,.ptr 1 0],[.box [.row 2 q 0 q'],.box [.row 3 r 0 r'],.row false ty 1 xs,.row false ty' 1 ys]=>q'==q&&r'==r&&r==q&&ty==3&&ty'==3&&xs.length==q&&ys.length==q&&decide (q<=1000000)
 | _,_=>false
def UP:List AV->List AObj->AV×List AObj×List AObj
 | [.pv (.int .i64 n),_,_],[.box [.pv (.sl 0 true [])],.box [.pv (.sl 0 true [])]]=>(.tup [],[.box [.row 2 1 0 1],.box [.row 3 1 0 1]],[.row false 3 1 [.int .i64 (Wo n)],.row false 3 1 [.int .i64 (XY n)]])
 | [.pv (.int .i64 n),_,_],[.box [.row 2 q 0 _],.box [.row 3 _ 0 _],.row _ _ _ xs,.row _ _ _ ys]=>(.tup [],[.box [.row 2 (q+1) 0 (q+1)],.box [.row 3 (q+1) 0 (q+1)],.row false 3 1 (xs++[.int .i64 (Wo n)]),.row false 3 1 (ys++[.int .i64 (XY n)])],[])
 | _,_=>WX
def Np:List Int->List Int->Int
 | x::a,y::b=>x*y+Np a b
 | _,_=>0
def Hy(a b:List Int):Int×Int:=if a.length=b.length then(if a.all UI&&b.all UI&&UI (Np a b)then(Np a b,0)else(0,2))else(0,1)
def VT(p:List Mono)(vs:List Str):List (List Int)->Option (List Int)
 | []=>some []
 | q::r=>if (YT p (Zf vs q)).2≠0 then none else(VT p vs r).map ((YT p (Zf vs q)).1:: ·)
def JA(b:BoxT)(fs:List Fact)(p:List Mono):Bool:=ZA b&&Zi fs&&decide (fs.length<=100)&&decide (b.v.length<=1000)&&Z8 p
def Wq(b:BoxT)(fs:List Fact)(p:List Mono):Int×Int:=
 if Zq b fs (ZG p) (Yt p)=0 then(match VT p b.v (ZP b fs)with|none=>(0,2)|some l=>Vn l)else(0,Zq b fs (ZG p) (Yt p))
end Go.Pl

namespace Go.Pl
open Go.RowKit
open Enc (enc dec is)
open EncL (encL decL isL)
theorem a0d: ∀ args os,Y5 args os=true->Zc Nm os.length (Zo os.length A2 fun r=>r=WD args os) AS [] (YD a9b args os):=by
 intro args os h
 unfold Y5 at h
 split at h
 ·rename_i v m f
  simp only[Bool.and_eq_true]at h
  obtain⟨h1,h2⟩:=h
  obtain⟨vs,rfl⟩:=Yl h1
  obtain⟨fs,rfl⟩:=Yl h2
  exact b6o ⟨vs,m⟩ fs rfl
 ·cases h
theorem VX(b:BoxT)(fs:List Fact)(ok:Bool)(ns:List Str)(h:Zq b fs ok ns=0):YC b=true∧Yk fs=true∧ok=true∧Yz b.v (ns++fs.flatMap fun f=>Zd f.l)=true:=by
 unfold Zq at h
 split at h
 ·cases h
 ·rename_i h1
  simp only[Bool.or_eq_true,Bool.not_eq_true',not_or,Bool.not_eq_false]at h1
  split at h
  ·rename_i h2
   exact⟨h1.1.1,h1.1.2,h1.2,h2⟩
  ·cases h
theorem Lu{b:BoxT}{fs:List Fact}(h:YC b=true):(ZP b fs).length<=20000:=by
 unfold ZP
 refine Nat.le_trans (List.length_filter_le _ _) ?_
 rw[VG h,Hd]
 exact GV h
def gpI(b:BoxT)(fs:List Fact)(k:Nat)(σ:Zu):Prop:=
 (k=0∧σ=[.obj (.box [.pv (.sl 0 true [])])])∨(k≠0∧k<=(ZP b fs).length∧σ=[.obj (.box [.row 1 k 0 k]),.obj (.row false 34 1 (((ZP b fs).take k).map enc))])
def gpE:Yv:=fun n st q=>n=0∧Hq KU 0 (.t 17) 177 [18,19] [(8,18)] UO QU UM Gm st q
theorem C8(b:BoxT)(fs:List Fact):Gm [[enc b.v,.int .i64 b.m],[enc fs]]=(ZP b fs).map fun p=>(p,Zf b.v p):=by
 show((ZP ⟨dec (enc b.v:PV),b.m⟩ (dec (enc fs:PV))).map fun p=>(p,Zf (dec (enc b.v:PV)) p))=_
 rw[Enc.dec_enc,Enc.dec_enc]
theorem DL{b:BoxT}{fs:List Fact}(hb:YC b=true)(hf:Zi fs=true)(hl:b.v.length<=1000):UM [[enc b.v,.int .i64 b.m],[enc fs]]=true:=by
 show(Vh (List Str) (enc b.v)&&Vh (List Fact) (enc fs)&&YC ⟨dec (enc b.v:PV),b.m⟩&&Zi (dec (enc fs:PV))&&decide ((dec (enc b.v:PV):List Str).length<=1000))=true
 rw[ZX,ZX,Enc.dec_enc,Enc.dec_enc,hf,decide_eq_true hl]
 simp[hb]
theorem a3o(b:BoxT)(fs:List Fact)(hv:YC b=true)(k:Nat)(p:List Int)(vs:List Coef)(σ:Zu)(hp:(ZP b fs)[k]? = some p)(h:gpI b fs k σ):
  ZB KU (fun n S' _=>n=99∧gpI b fs (k+1) S'.heap) σ.length (fun st=>False) (.inl UO) [.seq (.ext 99 [])] ⟨ZR 25 0 [(7,.ptr 0 0),(8,.pv (enc p)),(18,.pv (enc p)),(19,.pv (enc vs))],σ⟩:=by
 have hk:=(List.getElem?_eq_some_iff.1 hp).1
 have hkp:=(List.getElem?_eq_some_iff.1 hp).2
 have hl:=Lu (fs:=fs) hv
 rcases h with ⟨rfl,rfl⟩|⟨hne,hk',rfl⟩
 ·refine a7r (G:=fun _=>False) _ p vs ⟨rfl,.inr ⟨by simp,by omega,?_⟩⟩
  have e:(ZP b fs).take (0+1)=[p]:=by rw[List.take_succ_eq_append_getElem hk,hkp];rfl
  rw[e]
  rfl
 ·have e:(ZP b fs).take (k+1)=(ZP b fs).take k++[p]:=by rw[List.take_succ_eq_append_getElem hk,hkp]
  have el:((ZP b fs).take k).length=k:=by rw[List.length_take];omega
  refine a8i (G:=fun _=>False) _ p vs k ((ZP b fs).take k) ⟨?_,rfl,.inr ⟨by omega,by omega,?_⟩⟩
  ·rw[List.length_map,el]
   show((k==k)&&(k==k)&&decide ((k+1)*24<=1099511627776)&&decide (k+1<=1099511627776))=true
   rw[decide_eq_true (by omega),decide_eq_true (by omega)];simp
  ·rw[e,List.map_append]
   rfl
theorem a8n: ∀ x:BoxT×List Fact×Unit,(ZA x.1&&Zi x.2.1&&decide (x.2.1.length<=100)&&decide (x.1.v.length<=1000))=true->QT KU gpE 0 (Za Ho (Zg (ZT x.1 x.2.1))) Ga [] (Z5 b2v (encL x)):=by
 rintro⟨b,fs,⟨⟩⟩ hp
 simp only[Bool.and_eq_true,decide_eq_true_eq]at hp
 obtain⟨⟨⟨h1,h2⟩,h3⟩,h4⟩:=hp
 refine b6x gpE b fs ⟨Zj (b,fs,true,⟨⟩,()) rfl (by simp[h1,h2,h3]),Zh (b,fs,true,⟨⟩,()) rfl ?_⟩
 show if (Zq b fs true [] != 0)=true then _ else _
 by_cases h0:Zq b fs true []=0
 ·rw[if_neg (by simp[h0])]
  obtain⟨hv,_⟩:=VX b fs true [] h0
  have hpt:ZT b fs=(ZP b fs,0):=by unfold ZT;rw[if_pos h0]
  rw[hpt]
  refine⟨?_,rfl,[1,2],[[enc b.v,.int .i64 b.m],[enc fs]],[7],[],⟨ZR 25 0 [(7,.ptr 0 0)],[.obj (.box [.pv (.sl 0 true [])])]⟩,gpI b fs,fun _=>False,rfl,by simp,rfl,?_,by kernel_rfl,DL hv h2 h4,.inl ⟨rfl,rfl⟩,?_,?_,fun σ h=>h.elim⟩
  ·show(Vh (List Str) (enc b.v)&&Vh (List Fact) (enc fs))=true
   rw[ZX,ZX];rfl
  ·intro j l ps hl hps
   match j with
   | 0=>cases hl;cases hps;rfl
   | 1=>cases hl;cases hps;rfl
   | j+2=>simp at hl
  ·intro k x σ hx hI
   rw[C8,List.getElem?_map]at hx
   obtain⟨p,hp,rfl⟩:=Option.map_eq_some_iff.1 hx
   have e:CV [(8,18)] (GB [18,19] ((QU (p,Zf b.v p)).map .pv) (ZR 25 0 [(7,.ptr 0 0)]))=ZR 25 0 [(7,.ptr 0 0),(8,.pv (enc p)),(18,.pv (enc p)),(19,.pv (enc (Zf b.v p)))]:=by kernel_rfl
   have:=a3o b fs hv k p (Zf b.v p) σ hp hI
   rw[<- e]at this
   exact this
  ·intro σ hI
   rw[C8,List.length_map]at hI
   rcases hI with ⟨e,rfl⟩|⟨e,_,rfl⟩
   ·refine a7w gpE b fs ?_
    rw[List.length_eq_zero_iff.1 e]
    exact⟨rfl,rfl⟩
   ·refine a8k gpE b fs (ZP b fs).length ((ZP b fs).take (ZP b fs).length) ⟨by simp,?_⟩
    rw[List.take_length,List.drop_zero,List.take_of_length_le (by simp)]
    exact ZO (x:=((ZP b fs),(0:Int))) rfl
 ·rw[if_pos (by simpa using h0)]
  have hpt:ZT b fs=([],Zq b fs true []):=by unfold ZT;rw[if_neg h0]
  rw[hpt]
  exact⟨rfl,rfl⟩
theorem PU: ∀ x:BoxT×List Fact×Unit,(ZA x.1&&Zi x.2.1&&decide (x.2.1.length<=100)&&decide (x.1.v.length<=1000))=true->Zc CR 0 (Za Hk (Zg (Ko x.1 x.2.1))) HU [] (Z5 Fc (encL x)):=by
 rintro⟨b,fs,⟨⟩⟩ hp
 refine Ey b fs ⟨Zj (b,fs,()) rfl hp,Zh (b,fs,()) rfl ?_⟩
 rw[List.length_map]
 exact ZO (x:=((((ZT b fs).1.length:Nat):Int),(ZT b fs).2)) rfl
end Go.Pl

namespace Go.Pl
open Go.RowKit
open Enc (enc dec is)
open EncL (encL decL isL)
set_option maxRecDepth 100000
def Vu:IC:=(.seq (.reg [⟨(some 1),(.box 2 (.t 0)),0,none⟩,⟨(some 2),(.mv (.c (.bool false))),1,none⟩] none) (.seq (.reg [⟨(some 3),(.mv (.c (.int .i64 1))),0,none⟩] none) (.seq (.seq (.reg [⟨(some 4),(.mv (.c (.int .i64 0))),0,none⟩] none) (.block 0 (.loop [4,1,3] (.seq (.seq (.reg [⟨(some 6),(.mv (.t 4)),0,none⟩,⟨(some 7),(.faddr 0 (.t 1)),0,none⟩,⟨(some 8),(.load false [(.sl 1)] (.t 7)),0,none⟩,⟨(some 9),(.len 1 (.t 8)),0,none⟩,⟨(some 10),(.bin .num .lss (.t 6) (.t 9)),0,none⟩] none) (.cond (.t 10) .skip (.exit 0))) (.seq (.block 1 (.seq (.seq (.reg [⟨(some 13),(.faddr 0 (.t 1)),0,none⟩,⟨(some 14),(.load false [(.sl 1)] (.t 13)),0,none⟩,⟨(some 15),(.mv (.t 4)),0,none⟩,⟨(some 16),(.iaddr 1 (.t 14) (.t 15)),0,none⟩,⟨(some 17),(.load false [.str] (.t 16)),0,none⟩,⟨(some 18),(.call (.c (.fn 84)) [(.t 17)]),0,none⟩,⟨(some 19),(.un .not (.t 18)),2,none⟩,⟨(some 20),(.mv (.t 19)),2,none⟩,⟨(some 21),(.faddr 1 (.t 1)),2,(some (20,false))⟩,⟨(some 22),(.load false [(.int .i64)] (.t 21)),2,(some (20,false))⟩,⟨(some 23),(.bin .num .geq (.t 22) (.c (.int .i64 20000))),2,(some (20,false))⟩,⟨(some 24),(.pick (.t 20) (.c (.bool true)) (.t 23)),2,none⟩] none) (.cond (.t 24) (.seq (.reg [⟨(some 2),(.mv (.c (.bool false))),0,none⟩] none) .ret) .skip)) (.seq (.seq (.reg [⟨(some 5),(.mv (.c (.int .i64 0))),0,none⟩] none) (.block 2 (.loop [5,4,1,3] (.seq (.seq (.reg [⟨(some 25),(.mv (.t 5)),0,none⟩,⟨(some 26),(.mv (.t 4)),0,none⟩,⟨(some 27),(.bin .num .lss (.t 25) (.t 26)),0,none⟩] none) (.cond (.t 27) .skip (.exit 2))) (.seq (.block 3 (.seq (.reg [⟨(some 30),(.faddr 0 (.t 1)),0,none⟩,⟨(some 31),(.load false [(.sl 1)] (.t 30)),0,none⟩,⟨(some 32),(.mv (.t 5)),0,none⟩,⟨(some 33),(.iaddr 1 (.t 31) (.t 32)),0,none⟩,⟨(some 34),(.load false [.str] (.t 33)),0,none⟩,⟨(some 35),(.faddr 0 (.t 1)),0,none⟩,⟨(some 36),(.load false [(.sl 1)] (.t 35)),0,none⟩,⟨(some 37),(.mv (.t 4)),0,none⟩,⟨(some 38),(.iaddr 1 (.t 36) (.t 37)),0,none⟩,⟨(some 39),(.load false [.str] (.t 38)),0,none⟩,⟨(some 40),(.bin .num .eql (.t 34) (.t 39)),0,none⟩] (some [[],[0],[],[1,2,0],[3,1,2,0],[],[5],[],[6,7,5],[8,6,7,5],[4,9,3,1,2,0,8,6,7,5]])) (.cond (.t 40) (.seq (.reg [⟨(some 2),(.mv (.c (.bool false))),0,none⟩] none) .ret) .skip))) (.reg [⟨(some 28),(.mv (.t 5)),0,none⟩,⟨(some 29),(.bin .num .add (.t 28) (.c (.int .i64 1))),0,none⟩,⟨(some 5),(.mv (.t 29)),0,none⟩] none)))))) (.seq (.reg [⟨(some 41),(.mv (.t 3)),0,none⟩,⟨(some 42),(.bin .num .leq (.t 41) (.c (.int .i64 20000))),0,none⟩] none) (.cond (.t 42) (.reg [⟨(some 43),(.mv (.t 3)),0,none⟩,⟨(some 44),(.faddr 1 (.t 1)),0,none⟩,⟨(some 45),(.load false [(.int .i64)] (.t 44)),0,none⟩,⟨(some 46),(.bin .num .add (.t 45) (.c (.int .i64 1))),0,none⟩,⟨(some 47),(.bin .num .mul (.t 43) (.t 46)),0,none⟩,⟨(some 3),(.mv (.t 47)),0,none⟩] none) .skip))))) (.reg [⟨(some 11),(.mv (.t 4)),0,none⟩,⟨(some 12),(.bin .num .add (.t 11) (.c (.int .i64 1))),0,none⟩,⟨(some 4),(.mv (.t 12)),0,none⟩] none)))))) (.seq (.reg [⟨(some 48),(.faddr 1 (.t 1)),0,none⟩,⟨(some 49),(.load false [(.int .i64)] (.t 48)),0,none⟩,⟨(some 50),(.bin .num .geq (.t 49) (.c (.int .i64 0))),0,none⟩,⟨(some 51),(.mv (.t 50)),0,none⟩,⟨(some 52),(.mv (.t 3)),0,(some (51,true))⟩,⟨(some 53),(.bin .num .leq (.t 52) (.c (.int .i64 20000))),0,(some (51,true))⟩,⟨(some 54),(.pick (.t 51) (.t 53) (.c (.bool false))),0,none⟩,⟨(some 2),(.mv (.t 54)),0,none⟩] none) .ret))))
def VB:List IRes:=[(.tmp 2)]
abbrev b3k:Nat:=55
def Qf:ZE:=Y6 [(84,.pure (preT (fun _:Str×Unit=>true)) (Ze (fun x:Str×Unit=>ZD x.1)))]
theorem b7v{G:PV->Prop}(b:BoxT)(h:At Qf 0 (Za VB G) Vu 0 55 [(1,(.ptr 0 0)),(3,(.pv (.int .i64 1))),(4,(.pv (.int .i64 0)))] [(.obj (.box [(.pv (.sl 1 false (List.map enc b.v))),(.pv (.int .i64 b.m))]))]):Zc Qf 0 (Za VB G) Vu [] (Z5 55 [enc b]):=Zc.tp (.nil) h (by kernel_rfl)
theorem a3c{G:PV->Prop}(b:BoxT)(n i:Int)(h:if (decide (i<(↑(List.length (List.map enc b.v)):Int)))=true then(decide (0<=i)&&decide (Int.toNat i<List.length (List.map enc b.v))&&Enc.sz Str==1)=true∧(∃ y0:Str,AV.pv (PV.rptr (PV.cells (List.getD (List.map enc b.v) (Int.toNat i) default)))=AV.pv (PV.rptr (PV.cells ((enc) y0)))∧(∃ y1:Bool,AV.pv (Ze (fun(x:Str×Unit)=>ZD x.1) [(.str (PV.asStr (List.getD (PV.cells (enc y0)) 0 default)))])=AV.pv (enc y1)∧(if (!y1)=true then G ((.bool false))else(if (decide (BoxT.m b ≥ 20000))=true then G ((.bool false))else(At Qf 0 (Za VB G) Vu 1 55 [(1,(.ptr 0 0)),(3,(.pv (.int .i64 n))),(4,(.pv (.int .i64 i))),(5,(.pv (.int .i64 0)))] [(.obj (.box [(.pv (.sl 1 false (List.map enc b.v))),(.pv (.int .i64 b.m))]))])))))else(if (decide (BoxT.m b ≥ 0))=true then G ((.bool (decide (n<=20000))))else(G ((.bool false))))):At Qf 0 (Za VB G) Vu 0 55 [(1,.ptr 0 0),(3,.pv (.int .i64 n)),(4,.pv (.int .i64 i))] [.obj (.box [.pv (enc b.v),.pv (.int .i64 b.m)])]:=At.tp (.lit (.ask (.req (.abs (Str) (fun YY=>AV.pv (PV.rptr (PV.cells ((enc) YY)))) (.lit (.lit (.abs (Bool) (fun YY=>AV.pv (enc YY)) (.ask (.lit (.lit (.lit (.lit (.nil))))) (.lit (.lit (.lit (.lit (.ask (.nil) (.nil)))))))))))) (.lit (.ask (.lit (.lit (.lit (.nil)))) (.lit (.lit (.nil))))))) h (by kernel_rfl)
theorem Eu{G:PV->Prop}(b:BoxT)(n i k:Int)(h:if (decide (k<i))=true then(decide (0<=k)&&decide (Int.toNat k<List.length (List.map enc b.v))&&Enc.sz Str==1)=true∧(∃ y0:Str,AV.pv (PV.rptr (PV.cells (List.getD (List.map enc b.v) (Int.toNat k) default)))=AV.pv (PV.rptr (PV.cells ((enc) y0)))∧((decide (0<=i)&&decide (Int.toNat i<List.length (List.map enc b.v))&&Enc.sz Str==1)=true∧(∃ y1:Str,AV.pv (PV.rptr (PV.cells (List.getD (List.map enc b.v) (Int.toNat i) default)))=AV.pv (PV.rptr (PV.cells ((enc) y1)))∧(if (PV.asStr (List.getD (PV.cells (enc y0)) 0 default)==PV.asStr (List.getD (PV.cells (enc y1)) 0 default))=true then G ((.bool false))else(At Qf 0 (Za VB G) Vu 1 55 [(1,(.ptr 0 0)),(3,(.pv (.int .i64 n))),(4,(.pv (.int .i64 i))),(5,(.pv (.int .i64 (IntKind.wrap IntKind.i64 (k+1)))))] [(.obj (.box [(.pv (.sl 1 false (List.map enc b.v))),(.pv (.int .i64 b.m))]))])))))else(if (decide (n<=20000))=true then At Qf 0 (Za VB G) Vu 0 55 [(1,(.ptr 0 0)),(3,(.pv (.int .i64 (IntKind.wrap IntKind.i64 (n*IntKind.wrap IntKind.i64 (BoxT.m b+1)))))),(4,(.pv (.int .i64 (IntKind.wrap IntKind.i64 (i+1)))))] [(.obj (.box [(.pv (.sl 1 false (List.map enc b.v))),(.pv (.int .i64 b.m))]))]else(At Qf 0 (Za VB G) Vu 0 55 [(1,(.ptr 0 0)),(3,(.pv (.int .i64 n))),(4,(.pv (.int .i64 (IntKind.wrap IntKind.i64 (i+1)))))] [(.obj (.box [(.pv (.sl 1 false (List.map enc b.v))),(.pv (.int .i64 b.m))]))]))):At Qf 0 (Za VB G) Vu 1 55 [(1,.ptr 0 0),(3,.pv (.int .i64 n)),(4,.pv (.int .i64 i)),(5,.pv (.int .i64 k))] [.obj (.box [.pv (enc b.v),.pv (.int .i64 b.m)])]:=At.tp (.lit (.ask (.req (.abs (Str) (fun YY=>AV.pv (PV.rptr (PV.cells ((enc) YY)))) (.lit (.req (.abs (Str) (fun YY=>AV.pv (PV.rptr (PV.cells ((enc) YY)))) (.lit (.lit (.ask (.nil) (.lit (.nil)))))))))) (.lit (.ask (.lit (.lit (.lit (.nil)))) (.lit (.nil)))))) h (by kernel_rfl)
def Yh:IC:=(.seq (.reg [⟨(some 2),(.box 2 (.t 0)),0,none⟩,⟨(some 4),(.mv (.c (.sl 0 true []))),1,none⟩] none) (.seq (.reg [⟨(some 5),(.mv (.c (.sl 0 true []))),0,none⟩] none) (.seq (.seq (.reg [⟨(some 6),(.mv (.c (.int .i64 0))),0,none⟩] none) (.block 0 (.loop [6,2,1,5] (.seq (.seq (.reg [⟨(some 7),(.mv (.t 6)),0,none⟩,⟨(some 8),(.faddr 0 (.t 2)),0,none⟩,⟨(some 9),(.load false [(.sl 1)] (.t 8)),0,none⟩,⟨(some 10),(.len 1 (.t 9)),0,none⟩,⟨(some 11),(.bin .num .lss (.t 7) (.t 10)),0,none⟩,⟨(some 12),(.mv (.t 11)),0,none⟩,⟨(some 13),(.mv (.t 6)),0,(some (12,true))⟩,⟨(some 14),(.mv (.t 1)),0,(some (12,true))⟩,⟨(some 15),(.len 1 (.t 14)),0,(some (12,true))⟩,⟨(some 16),(.bin .num .lss (.t 13) (.t 15)),0,(some (12,true))⟩,⟨(some 17),(.pick (.t 12) (.t 16) (.c (.bool false))),0,none⟩] none) (.cond (.t 17) .skip (.exit 0))) (.seq (.block 1 (.reg [⟨(some 20),(.mv (.t 5)),0,none⟩,⟨(some 21),(.faddr 0 (.t 2)),0,none⟩,⟨(some 22),(.load false [(.sl 1)] (.t 21)),0,none⟩,⟨(some 23),(.mv (.t 6)),0,none⟩,⟨(some 24),(.iaddr 1 (.t 22) (.t 23)),0,none⟩,⟨(some 25),(.load false [.str] (.t 24)),0,none⟩,⟨(some 26),(.mv (.t 1)),0,none⟩,⟨(some 27),(.mv (.t 6)),0,none⟩,⟨(some 28),(.iaddr 1 (.t 26) (.t 27)),0,none⟩,⟨(some 29),(.load false [(.int .i64)] (.t 28)),0,none⟩,⟨(some 30),(.build [(.str []),(.int .i64 0)] [(0,(1,(.t 25))),(1,(1,(.t 29)))]),0,none⟩,⟨(some 31),(.bslice 63 2 1 (.agg [(.str []),(.int .i64 0)]) [(0,(.t 30))]),0,none⟩,⟨(some 32),(.append 63 2 24 (.t 20) (.t 31)),1,none⟩,⟨(some 5),(.mv (.t 32)),2,none⟩] (some [[],[],[1],[],[2,3,1],[4,2,3,1],[],[],[6,7],[8,6,7],[5,9,4,2,3,1,8,6,7],[10,5,9,4,2,3,1,8,6,7],[0,11,10,5,9,4,2,3,1,8,6,7],[12,0,1,2,3,4,5,6,7,8,9,10,11]]))) (.reg [⟨(some 18),(.mv (.t 6)),0,none⟩,⟨(some 19),(.bin .num .add (.t 18) (.c (.int .i64 1))),0,none⟩,⟨(some 6),(.mv (.t 19)),0,none⟩] none)))))) (.seq (.reg [⟨(some 33),(.mv (.t 5)),0,none⟩,⟨(some 4),(.mv (.t 33)),0,none⟩] none) .ret))))
def Yf:List IRes:=[(.tmp 4)]
abbrev B4:Nat:=34
def YA:ZE:=Y6 []
theorem a5m{G:PV->Prop}(b:BoxT)(p:List Int)(h:At YA 0 (Za Yf G) Yh 0 34 [(1,(.pv (.sl 1 false (List.map enc p)))),(2,(.ptr 0 0)),(5,(.pv (.sl 0 true []))),(6,(.pv (.int .i64 0)))] [(.obj (.box [(.pv (.sl 1 false (List.map enc b.v))),(.pv (.int .i64 b.m))]))]):Zc YA 0 (Za Yf G) Yh [] (Z5 34 [enc b,enc p]):=Zc.tp (.nil) h (by kernel_rfl)
theorem Jq{G:PV->Prop}(b:BoxT)(p:List Int)(i:Int)(h:if (decide (i<(↑(List.length (List.map enc b.v)):Int)))=true then if (decide (i<(↑(List.length (List.map enc p)):Int)))=true then(decide (0<=i)&&decide (Int.toNat i<List.length (List.map enc b.v))&&Enc.sz Str==1)=true∧(∃ y0:Str,AV.pv (PV.rptr (PV.cells (List.getD (List.map enc b.v) (Int.toNat i) default)))=AV.pv (PV.rptr (PV.cells ((enc) y0)))∧((decide (0<=i)&&decide (Int.toNat i<List.length (List.map enc p))&&Enc.sz Int==1)=true∧(∃ y1:Int,AV.pv (PV.rptr (PV.cells (List.getD (List.map enc p) (Int.toNat i) default)))=AV.pv (PV.rptr (PV.cells ((enc) y1)))∧(At YA 0 (Za Yf G) Yh 0 34 [(1,(.pv (.sl 1 false (List.map enc p)))),(2,(.ptr 0 0)),(5,(.row 1 1 0 1)),(6,(.pv (.int .i64 (IntKind.wrap IntKind.i64 (i+1)))))] [(.obj (.box [(.pv (.sl 1 false (List.map enc b.v))),(.pv (.int .i64 b.m))])),(.obj (.row false 63 2 [(.agg [(.str (PV.asStr (List.getD (PV.cells (enc y0)) 0 default))),(.int .i64 (PV.asInt (List.getD (PV.cells (enc y1)) 0 default)))])]))]))))else(G ((.sl 0 true [])))else(G ((.sl 0 true [])))):At YA 0 (Za Yf G) Yh 0 34 [(1,.pv (enc p)),(2,.ptr 0 0),(5,.pv (.sl 0 true [])),(6,.pv (.int .i64 i))] [.obj (.box [.pv (enc b.v),.pv (.int .i64 b.m)])]:=At.tp (.lit (.ask (.lit (.lit (.lit (.lit (.lit (.ask (.req (.abs (Str) (fun YY=>AV.pv (PV.rptr (PV.cells ((enc) YY)))) (.lit (.req (.abs (Int) (fun YY=>AV.pv (PV.rptr (PV.cells ((enc) YY)))) (.lit (.lit (.lit (.lit (.lit (.lit (.lit (.nil))))))))))))) (.nil))))))) (.lit (.lit (.lit (.lit (.lit (.nil)))))))) h (by kernel_rfl)
theorem JE{G:PV->Prop}(b:BoxT)(p:List Int)(i:Int)(q:Nat)(vs:List Coef)(h:if (decide (i<(↑(List.length (List.map enc b.v)):Int)))=true then if (decide (i<(↑(List.length (List.map enc p)):Int)))=true then(decide (0<=i)&&decide (Int.toNat i<List.length (List.map enc b.v))&&Enc.sz Str==1)=true∧(∃ y0:Str,AV.pv (PV.rptr (PV.cells (List.getD (List.map enc b.v) (Int.toNat i) default)))=AV.pv (PV.rptr (PV.cells ((enc) y0)))∧((decide (0<=i)&&decide (Int.toNat i<List.length (List.map enc p))&&Enc.sz Int==1)=true∧(∃ y1:Int,AV.pv (PV.rptr (PV.cells (List.getD (List.map enc p) (Int.toNat i) default)))=AV.pv (PV.rptr (PV.cells ((enc) y1)))∧((List.length (List.map enc vs)==q&&q==q&&decide ((q+List.length (List.drop 0 (List.take 1 [PV.agg [Sh.co Sh.str (List.getD (PV.cells (enc y0)) 0 default),Sh.co (Sh.int .i64) (List.getD (PV.cells (enc y1)) 0 default)]])))*24<=1099511627776)&&decide (q+List.length (List.drop 0 (List.take 1 [PV.agg [Sh.co Sh.str (List.getD (PV.cells (enc y0)) 0 default),Sh.co (Sh.int .i64) (List.getD (PV.cells (enc y1)) 0 default)]]))<=1099511627776))=true∧(At YA 0 (Za Yf G) Yh 0 34 [(1,(.pv (.sl 1 false (List.map enc p)))),(2,(.ptr 0 0)),(5,(.row 1 (q+List.length (List.drop 0 (List.take 1 [PV.agg [Sh.co Sh.str (List.getD (PV.cells (enc y0)) 0 default),Sh.co (Sh.int .i64) (List.getD (PV.cells (enc y1)) 0 default)]]))) 0 (q+List.length (List.drop 0 (List.take 1 [PV.agg [Sh.co Sh.str (List.getD (PV.cells (enc y0)) 0 default),Sh.co (Sh.int .i64) (List.getD (PV.cells (enc y1)) 0 default)]]))))),(6,(.pv (.int .i64 (IntKind.wrap IntKind.i64 (i+1)))))] [(.obj (.box [(.pv (.sl 1 false (List.map enc b.v))),(.pv (.int .i64 b.m))])),(.obj (.row false 63 2 (List.map enc vs++List.drop 0 (List.take 1 [PV.agg [Sh.co Sh.str (List.getD (PV.cells (enc y0)) 0 default),Sh.co (Sh.int .i64) (List.getD (PV.cells (enc y1)) 0 default)]]))))])))))else((List.length (List.map enc vs)==q)=true∧(G ((.sl 2 false (List.drop 0 (List.take q (List.map enc vs)))))))else((List.length (List.map enc vs)==q)=true∧(G ((.sl 2 false (List.drop 0 (List.take q (List.map enc vs)))))))):At YA 0 (Za Yf G) Yh 0 34 [(1,.pv (enc p)),(2,.ptr 0 0),(5,.row 1 q 0 q),(6,.pv (.int .i64 i))] [.obj (.box [.pv (enc b.v),.pv (.int .i64 b.m)]),.obj (.row false 63 2 (vs.map enc))]:=At.tp (.lit (.ask (.lit (.lit (.lit (.lit (.lit (.ask (.req (.abs (Str) (fun YY=>AV.pv (PV.rptr (PV.cells ((enc) YY)))) (.lit (.req (.abs (Int) (fun YY=>AV.pv (PV.rptr (PV.cells ((enc) YY)))) (.lit (.lit (.lit (.req (.lit (.nil))))))))))) (.req (.nil)))))))) (.lit (.lit (.lit (.lit (.lit (.req (.nil))))))))) h (by kernel_rfl)
theorem LZ{G:AV×List AObj×List AObj->Prop}(b:BoxT)(m:Nat)(p:List Int)(h:At YA 1 (Wm 1 Yf G) Yh 0 34 [(1,(.row 0 m 0 m)),(2,(.ptr 1 0)),(5,(.pv (.sl 0 true []))),(6,(.pv (.int .i64 0)))] [(.obj (.row false 3 1 (List.map enc p))),(.obj (.box [(.pv (.sl 1 false (List.map enc b.v))),(.pv (.int .i64 b.m))]))]):Zc YA 1 (Wm 1 Yf G) Yh [] (YD 34 [.pv (enc b),.row 0 m 0 m] [.row false 3 1 (p.map enc)]):=Zc.tf (.nil) h (by kernel_rfl)
theorem Kg{G:AV×List AObj×List AObj->Prop}(b:BoxT)(m:Nat)(p:List Int)(i:Int)(h:if (decide (i<(↑(List.length (List.map enc b.v)):Int)))=true then if (decide (i<(↑(m - 0):Int)))=true then(decide (0<=i)&&decide (Int.toNat i<List.length (List.map enc b.v))&&Enc.sz Str==1)=true∧(∃ y0:Str,AV.pv (PV.rptr (PV.cells (List.getD (List.map enc b.v) (Int.toNat i) default)))=AV.pv (PV.rptr (PV.cells ((enc) y0)))∧((decide (0<=i)&&decide (0+Int.toNat i<m)&&List.length (List.map enc p)==m)=true∧((List.length (List.map enc p)==m&&decide (0+Int.toNat i<List.length (List.map enc p)))=true∧((decide (0+List.length [Sh.int .i64]<=List.length (PV.cells (List.getD (List.map enc p) (0+Int.toNat i) default)))&&Y2 (PV.cells (List.getD (List.map enc p) (0+Int.toNat i) default)) 0 [Sh.int .i64])=true∧(At YA 1 (Wm 1 Yf G) Yh 0 34 [(1,(.row 0 m 0 m)),(2,(.ptr 1 0)),(5,(.row 2 1 0 1)),(6,(.pv (.int .i64 (IntKind.wrap IntKind.i64 (i+1)))))] [(.obj (.row false 3 1 (List.map enc p))),(.obj (.box [(.pv (.sl 1 false (List.map enc b.v))),(.pv (.int .i64 b.m))])),(.obj (.row false 63 2 [(.agg [(.str (PV.asStr (List.getD (PV.cells (enc y0)) 0 default))),(.int .i64 (PV.asInt (List.getD (PV.cells (List.getD (List.map enc p) (0+Int.toNat i) default)) 0 default)))])]))])))))else(G (((.pv (.sl 0 true [])),([(.row false 3 1 (List.map enc p))],[]))))else(G (((.pv (.sl 0 true [])),([(.row false 3 1 (List.map enc p))],[]))))):At YA 1 (Wm 1 Yf G) Yh 0 34 [(1,.row 0 m 0 m),(2,.ptr 1 0),(5,.pv (.sl 0 true [])),(6,.pv (.int .i64 i))] [.obj (.row false 3 1 (p.map enc)),.obj (.box [.pv (enc b.v),.pv (.int .i64 b.m)])]:=At.tf (.lit (.ask (.lit (.lit (.lit (.lit (.lit (.ask (.req (.abs (Str) (fun YY=>AV.pv (PV.rptr (PV.cells ((enc) YY)))) (.lit (.req (.keep (.req (.req (.lit (.lit (.lit (.lit (.lit (.lit (.nil)))))))))))))) (.nil))))))) (.lit (.lit (.lit (.lit (.lit (.nil)))))))) h (by kernel_rfl)
theorem Ki{G:AV×List AObj×List AObj->Prop}(b:BoxT)(m:Nat)(p:List Int)(i:Int)(q:Nat)(vs:List Coef)(h:if (decide (i<(↑(List.length (List.map enc b.v)):Int)))=true then if (decide (i<(↑(m - 0):Int)))=true then(decide (0<=i)&&decide (Int.toNat i<List.length (List.map enc b.v))&&Enc.sz Str==1)=true∧(∃ y0:Str,AV.pv (PV.rptr (PV.cells (List.getD (List.map enc b.v) (Int.toNat i) default)))=AV.pv (PV.rptr (PV.cells ((enc) y0)))∧((decide (0<=i)&&decide (0+Int.toNat i<m)&&List.length (List.map enc p)==m)=true∧((List.length (List.map enc p)==m&&decide (0+Int.toNat i<List.length (List.map enc p)))=true∧((decide (0+List.length [Sh.int .i64]<=List.length (PV.cells (List.getD (List.map enc p) (0+Int.toNat i) default)))&&Y2 (PV.cells (List.getD (List.map enc p) (0+Int.toNat i) default)) 0 [Sh.int .i64])=true∧((List.length (List.map enc vs)==q&&q==q&&decide ((q+List.length (List.drop 0 (List.take 1 [PV.agg [Sh.co Sh.str (List.getD (PV.cells (enc y0)) 0 default),Sh.co (Sh.int .i64) (List.getD (PV.cells (List.getD (List.map enc p) (0+Int.toNat i) default)) 0 default)]])))*24<=1099511627776)&&decide (q+List.length (List.drop 0 (List.take 1 [PV.agg [Sh.co Sh.str (List.getD (PV.cells (enc y0)) 0 default),Sh.co (Sh.int .i64) (List.getD (PV.cells (List.getD (List.map enc p) (0+Int.toNat i) default)) 0 default)]]))<=1099511627776))=true∧(At YA 1 (Wm 1 Yf G) Yh 0 34 [(1,(.row 0 m 0 m)),(2,(.ptr 1 0)),(5,(.row 2 (q+List.length (List.drop 0 (List.take 1 [PV.agg [Sh.co Sh.str (List.getD (PV.cells (enc y0)) 0 default),Sh.co (Sh.int .i64) (List.getD (PV.cells (List.getD (List.map enc p) (0+Int.toNat i) default)) 0 default)]]))) 0 (q+List.length (List.drop 0 (List.take 1 [PV.agg [Sh.co Sh.str (List.getD (PV.cells (enc y0)) 0 default),Sh.co (Sh.int .i64) (List.getD (PV.cells (List.getD (List.map enc p) (0+Int.toNat i) default)) 0 default)]]))))),(6,(.pv (.int .i64 (IntKind.wrap IntKind.i64 (i+1)))))] [(.obj (.row false 3 1 (List.map enc p))),(.obj (.box [(.pv (.sl 1 false (List.map enc b.v))),(.pv (.int .i64 b.m))])),(.obj (.row false 63 2 (List.map enc vs++List.drop 0 (List.take 1 [PV.agg [Sh.co Sh.str (List.getD (PV.cells (enc y0)) 0 default),Sh.co (Sh.int .i64) (List.getD (PV.cells (List.getD (List.map enc p) (0+Int.toNat i) default)) 0 default)]]))))]))))))else((List.length (List.map enc vs)==q)=true∧(G (((.pv (.sl 2 false (List.drop 0 (List.take q (List.map enc vs))))),([(.row false 3 1 (List.map enc p))],[])))))else((List.length (List.map enc vs)==q)=true∧(G (((.pv (.sl 2 false (List.drop 0 (List.take q (List.map enc vs))))),([(.row false 3 1 (List.map enc p))],[])))))):At YA 1 (Wm 1 Yf G) Yh 0 34 [(1,.row 0 m 0 m),(2,.ptr 1 0),(5,.row 2 q 0 q),(6,.pv (.int .i64 i))] [.obj (.row false 3 1 (p.map enc)),.obj (.box [.pv (enc b.v),.pv (.int .i64 b.m)]),.obj (.row false 63 2 (vs.map enc))]:=At.tf (.lit (.ask (.lit (.lit (.lit (.lit (.lit (.ask (.req (.abs (Str) (fun YY=>AV.pv (PV.rptr (PV.cells ((enc) YY)))) (.lit (.req (.keep (.req (.req (.lit (.lit (.req (.lit (.nil)))))))))))) (.req (.nil)))))))) (.lit (.lit (.lit (.lit (.lit (.req (.nil))))))))) h (by kernel_rfl)
def YW:IC:=(.seq (.reg [⟨(some 2),(.box 2 (.t 0)),0,none⟩,⟨(some 4),(.mv (.c (.bool false))),1,none⟩] none) (.seq (.seq (.reg [⟨(some 5),(.mv (.c (.int .i64 0))),0,none⟩] none) (.block 0 (.loop [5,1,2] (.seq (.seq (.reg [⟨(some 8),(.mv (.t 5)),0,none⟩,⟨(some 9),(.mv (.t 1)),0,none⟩,⟨(some 10),(.len 1 (.t 9)),0,none⟩,⟨(some 11),(.bin .num .lss (.t 8) (.t 10)),0,none⟩] none) (.cond (.t 11) .skip (.exit 0))) (.seq (.block 1 (.seq (.reg [⟨(some 6),(.mv (.c (.bool false))),0,none⟩] none) (.seq (.seq (.reg [⟨(some 7),(.mv (.c (.int .i64 0))),0,none⟩] none) (.block 2 (.loop [7,2,6,1,5] (.seq (.seq (.reg [⟨(some 14),(.mv (.t 7)),0,none⟩,⟨(some 15),(.faddr 0 (.t 2)),0,none⟩,⟨(some 16),(.load false [(.sl 1)] (.t 15)),0,none⟩,⟨(some 17),(.len 1 (.t 16)),0,none⟩,⟨(some 18),(.bin .num .lss (.t 14) (.t 17)),0,none⟩] none) (.cond (.t 18) .skip (.exit 2))) (.seq (.block 3 (.reg [⟨(some 21),(.mv (.t 6)),0,none⟩,⟨(some 22),(.mv (.t 21)),0,none⟩,⟨(some 23),(.faddr 0 (.t 2)),0,(some (22,false))⟩,⟨(some 24),(.load false [(.sl 1)] (.t 23)),0,(some (22,false))⟩,⟨(some 25),(.mv (.t 7)),0,(some (22,false))⟩,⟨(some 26),(.iaddr 1 (.t 24) (.t 25)),0,(some (22,false))⟩,⟨(some 27),(.load false [.str] (.t 26)),0,(some (22,false))⟩,⟨(some 28),(.mv (.t 1)),0,(some (22,false))⟩,⟨(some 29),(.mv (.t 5)),0,(some (22,false))⟩,⟨(some 30),(.iaddr 1 (.t 28) (.t 29)),0,(some (22,false))⟩,⟨(some 31),(.load false [.str] (.t 30)),0,(some (22,false))⟩,⟨(some 32),(.bin .num .eql (.t 27) (.t 31)),0,(some (22,false))⟩,⟨(some 33),(.pick (.t 22) (.c (.bool true)) (.t 32)),0,none⟩,⟨(some 6),(.mv (.t 33)),0,none⟩] (some [[],[0],[1,0],[2,1,0],[1,0],[3,4,1,2,0],[5,1,3,4,2,0],[1,0],[1,0],[7,8,1,0],[9,1,7,8,0],[6,10,1,5,3,4,2,0,9,7,8],[1,11,0,6,10,5,3,4,2,9,7,8],[12,1,0,2,3,4,5,6,7,8,9,10,11]]))) (.reg [⟨(some 19),(.mv (.t 7)),0,none⟩,⟨(some 20),(.bin .num .add (.t 19) (.c (.int .i64 1))),0,none⟩,⟨(some 7),(.mv (.t 20)),0,none⟩] none)))))) (.seq (.reg [⟨(some 34),(.mv (.t 6)),0,none⟩,⟨(some 35),(.un .not (.t 34)),0,none⟩] none) (.cond (.t 35) (.seq (.reg [⟨(some 4),(.mv (.c (.bool false))),0,none⟩] none) .ret) .skip))))) (.reg [⟨(some 12),(.mv (.t 5)),0,none⟩,⟨(some 13),(.bin .num .add (.t 12) (.c (.int .i64 1))),0,none⟩,⟨(some 5),(.mv (.t 13)),0,none⟩] none)))))) (.seq (.reg [⟨(some 4),(.mv (.c (.bool true))),0,none⟩] none) .ret)))
def YU:List IRes:=[(.tmp 4)]
abbrev OH:Nat:=36
def Xq:ZE:=Y6 []
theorem E1{G:PV->Prop}(b:BoxT)(ns:List Str)(h:At Xq 0 (Za YU G) YW 0 36 [(1,(.pv (.sl 1 false (List.map enc ns)))),(2,(.ptr 0 0)),(5,(.pv (.int .i64 0)))] [(.obj (.box [(.pv (.sl 1 false (List.map enc b.v))),(.pv (.int .i64 b.m))]))]):Zc Xq 0 (Za YU G) YW [] (Z5 36 [enc b,enc ns]):=Zc.tp (.nil) h (by kernel_rfl)
theorem Bv{G:PV->Prop}(b:BoxT)(ns:List Str)(i:Int)(h:if (decide (i<(↑(List.length (List.map enc ns)):Int)))=true then At Xq 0 (Za YU G) YW 1 36 [(1,(.pv (.sl 1 false (List.map enc ns)))),(2,(.ptr 0 0)),(5,(.pv (.int .i64 i))),(6,(.pv (.bool false))),(7,(.pv (.int .i64 0)))] [(.obj (.box [(.pv (.sl 1 false (List.map enc b.v))),(.pv (.int .i64 b.m))]))]else(G ((.bool true)))):At Xq 0 (Za YU G) YW 0 36 [(1,.pv (enc ns)),(2,.ptr 0 0),(5,.pv (.int .i64 i))] [.obj (.box [.pv (enc b.v),.pv (.int .i64 b.m)])]:=At.tp (.lit (.ask (.nil) (.nil))) h (by kernel_rfl)
theorem B8{G:PV->Prop}(b:BoxT)(ns:List Str)(i k:Int)(o:Bool)(h:if (decide (k<(↑(List.length (List.map enc b.v)):Int)))=true then if (o)=true then At Xq 0 (Za YU G) YW 1 36 [(1,(.pv (.sl 1 false (List.map enc ns)))),(2,(.ptr 0 0)),(5,(.pv (.int .i64 i))),(6,(.pv (.bool true))),(7,(.pv (.int .i64 (IntKind.wrap IntKind.i64 (k+1)))))] [(.obj (.box [(.pv (.sl 1 false (List.map enc b.v))),(.pv (.int .i64 b.m))]))]else((decide (0<=k)&&decide (Int.toNat k<List.length (List.map enc b.v))&&Enc.sz Str==1)=true∧(∃ y0:Str,AV.pv (PV.rptr (PV.cells (List.getD (List.map enc b.v) (Int.toNat k) default)))=AV.pv (PV.rptr (PV.cells ((enc) y0)))∧((decide (0<=i)&&decide (Int.toNat i<List.length (List.map enc ns))&&Enc.sz Str==1)=true∧(∃ y1:Str,AV.pv (PV.rptr (PV.cells (List.getD (List.map enc ns) (Int.toNat i) default)))=AV.pv (PV.rptr (PV.cells ((enc) y1)))∧(At Xq 0 (Za YU G) YW 1 36 [(1,(.pv (.sl 1 false (List.map enc ns)))),(2,(.ptr 0 0)),(5,(.pv (.int .i64 i))),(6,(.pv (.bool (PV.asStr (List.getD (PV.cells (enc y0)) 0 default)==PV.asStr (List.getD (PV.cells (enc y1)) 0 default))))),(7,(.pv (.int .i64 (IntKind.wrap IntKind.i64 (k+1)))))] [(.obj (.box [(.pv (.sl 1 false (List.map enc b.v))),(.pv (.int .i64 b.m))]))])))))else(if (!o)=true then G ((.bool false))else(At Xq 0 (Za YU G) YW 0 36 [(1,(.pv (.sl 1 false (List.map enc ns)))),(2,(.ptr 0 0)),(5,(.pv (.int .i64 (IntKind.wrap IntKind.i64 (i+1)))))] [(.obj (.box [(.pv (.sl 1 false (List.map enc b.v))),(.pv (.int .i64 b.m))]))]))):At Xq 0 (Za YU G) YW 1 36 [(1,.pv (enc ns)),(2,.ptr 0 0),(5,.pv (.int .i64 i)),(6,.pv (.bool o)),(7,.pv (.int .i64 k))] [.obj (.box [.pv (enc b.v),.pv (.int .i64 b.m)])]:=At.tp (.lit (.ask (.ask (.lit (.lit (.lit (.lit (.lit (.lit (.lit (.lit (.lit (.lit (.lit (.nil)))))))))))) (.lit (.lit (.lit (.req (.abs (Str) (fun YY=>AV.pv (PV.rptr (PV.cells ((enc) YY)))) (.lit (.lit (.lit (.lit (.lit (.req (.abs (Str) (fun YY=>AV.pv (PV.rptr (PV.cells ((enc) YY)))) (.lit (.lit (.lit (.lit (.lit (.lit (.nil)))))))))))))))))))) (.ask (.nil) (.lit (.nil))))) h (by kernel_rfl)
def X5:IC:=(.seq (.reg [⟨(some 1),(.box 2 (.t 0)),0,none⟩,⟨(some 2),(.mv (.c (.sl 0 true []))),1,none⟩] none) (.seq (.reg [⟨(some 3),(.mv (.c (.sl 0 true []))),0,none⟩] none) (.seq (.seq (.reg [⟨(some 4),(.mv (.c (.int .i64 0))),0,none⟩] none) (.block 0 (.loop [4,1,3] (.seq (.seq (.reg [⟨(some 5),(.mv (.t 4)),0,none⟩,⟨(some 6),(.faddr 1 (.t 1)),0,none⟩,⟨(some 7),(.load false [(.sl 2)] (.t 6)),0,none⟩,⟨(some 8),(.len 1 (.t 7)),0,none⟩,⟨(some 9),(.bin .num .lss (.t 5) (.t 8)),0,none⟩] none) (.cond (.t 9) .skip (.exit 0))) (.seq (.block 1 (.reg [⟨(some 12),(.mv (.t 3)),0,none⟩,⟨(some 13),(.faddr 1 (.t 1)),0,none⟩,⟨(some 14),(.load false [(.sl 2)] (.t 13)),0,none⟩,⟨(some 15),(.mv (.t 4)),0,none⟩,⟨(some 16),(.iaddr 2 (.t 14) (.t 15)),0,none⟩,⟨(some 17),(.faddr 0 (.t 16)),0,none⟩,⟨(some 18),(.load false [.str] (.t 17)),0,none⟩,⟨(some 19),(.bslice 9 1 1 (.str []) [(0,(.t 18))]),0,none⟩,⟨(some 20),(.append 9 1 16 (.t 12) (.t 19)),1,none⟩,⟨(some 3),(.mv (.t 20)),2,none⟩] none)) (.reg [⟨(some 10),(.mv (.t 4)),0,none⟩,⟨(some 11),(.bin .num .add (.t 10) (.c (.int .i64 1))),0,none⟩,⟨(some 4),(.mv (.t 11)),0,none⟩] none)))))) (.seq (.reg [⟨(some 21),(.mv (.t 3)),0,none⟩,⟨(some 2),(.mv (.t 21)),0,none⟩] none) .ret))))
def X7:List IRes:=[(.tmp 2)]
abbrev L9:Nat:=22
def W8:ZE:=Y6 []
theorem a0l{G:PV->Prop}(l:Lin)(h:At W8 0 (Za X7 G) X5 0 22 [(1,(.ptr 0 0)),(3,(.pv (.sl 0 true []))),(4,(.pv (.int .i64 0)))] [(.obj (.box [(.pv (.int .i64 l.k)),(.pv (.sl 2 false (List.map enc l.t)))]))]):Zc W8 0 (Za X7 G) X5 [] (Z5 22 [enc l]):=Zc.tp (.nil) h (by kernel_rfl)
theorem DB{G:PV->Prop}(l:Lin)(i:Int)(h:if (decide (i<(↑(List.length (List.map enc l.t)):Int)))=true then(decide (0<=i)&&decide (Int.toNat i<List.length (List.map enc l.t))&&Enc.sz Coef==2)=true∧(∃ y0:Coef,AV.pv (PV.rptr (PV.cells (List.getD (List.map enc l.t) (Int.toNat i) default)))=AV.pv (PV.rptr (PV.cells ((enc) y0)))∧(At W8 0 (Za X7 G) X5 0 22 [(1,(.ptr 0 0)),(3,(.row 1 1 0 1)),(4,(.pv (.int .i64 (IntKind.wrap IntKind.i64 (i+1)))))] [(.obj (.box [(.pv (.int .i64 l.k)),(.pv (.sl 2 false (List.map enc l.t)))])),(.obj (.row false 9 1 [(.str (PV.asStr (List.getD (List.drop 0 (PV.cells (enc y0))) 0 default)))]))]))else(G ((.sl 0 true [])))):At W8 0 (Za X7 G) X5 0 22 [(1,.ptr 0 0),(3,.pv (.sl 0 true [])),(4,.pv (.int .i64 i))] [.obj (.box [.pv (.int .i64 l.k),.pv (enc l.t)])]:=At.tp (.lit (.ask (.req (.abs (Coef) (fun YY=>AV.pv (PV.rptr (PV.cells ((enc) YY)))) (.lit (.lit (.lit (.lit (.lit (.lit (.lit (.nil)))))))))) (.nil))) h (by kernel_rfl)
theorem DJ{G:PV->Prop}(l:Lin)(i:Int)(q:Nat)(ns:List Str)(h:if (decide (i<(↑(List.length (List.map enc l.t)):Int)))=true then(decide (0<=i)&&decide (Int.toNat i<List.length (List.map enc l.t))&&Enc.sz Coef==2)=true∧(∃ y0:Coef,AV.pv (PV.rptr (PV.cells (List.getD (List.map enc l.t) (Int.toNat i) default)))=AV.pv (PV.rptr (PV.cells ((enc) y0)))∧((List.length (List.map enc ns)==q&&q==q&&decide ((q+List.length (List.drop 0 (List.take 1 [Sh.co Sh.str (List.getD (List.drop 0 (PV.cells (enc y0))) 0 default)])))*16<=1099511627776)&&decide (q+List.length (List.drop 0 (List.take 1 [Sh.co Sh.str (List.getD (List.drop 0 (PV.cells (enc y0))) 0 default)]))<=1099511627776))=true∧(At W8 0 (Za X7 G) X5 0 22 [(1,(.ptr 0 0)),(3,(.row 1 (q+List.length (List.drop 0 (List.take 1 [Sh.co Sh.str (List.getD (List.drop 0 (PV.cells (enc y0))) 0 default)]))) 0 (q+List.length (List.drop 0 (List.take 1 [Sh.co Sh.str (List.getD (List.drop 0 (PV.cells (enc y0))) 0 default)]))))),(4,(.pv (.int .i64 (IntKind.wrap IntKind.i64 (i+1)))))] [(.obj (.box [(.pv (.int .i64 l.k)),(.pv (.sl 2 false (List.map enc l.t)))])),(.obj (.row false 9 1 (List.map enc ns++List.drop 0 (List.take 1 [Sh.co Sh.str (List.getD (List.drop 0 (PV.cells (enc y0))) 0 default)]))))])))else((List.length (List.map enc ns)==q)=true∧(G ((.sl 1 false (List.drop 0 (List.take q (List.map enc ns)))))))):At W8 0 (Za X7 G) X5 0 22 [(1,.ptr 0 0),(3,.row 1 q 0 q),(4,.pv (.int .i64 i))] [.obj (.box [.pv (.int .i64 l.k),.pv (enc l.t)]),.obj (.row false 9 1 (ns.map enc))]:=At.tp (.lit (.ask (.req (.abs (Coef) (fun YY=>AV.pv (PV.rptr (PV.cells ((enc) YY)))) (.lit (.lit (.lit (.req (.lit (.nil)))))))) (.req (.nil)))) h (by kernel_rfl)
def VF:IC:=(.seq (.reg [⟨(some 2),(.box 2 (.t 0)),0,none⟩,⟨(some 4),(.mv (.c (.int .i64 0))),1,none⟩] none) (.seq (.seq (.reg [⟨(some 5),(.mv (.c (.int .i64 0))),0,none⟩] none) (.block 0 (.loop [5,2,1] (.seq (.seq (.reg [⟨(some 6),(.mv (.t 5)),0,none⟩,⟨(some 7),(.faddr 1 (.t 2)),0,none⟩,⟨(some 8),(.load false [(.sl 2)] (.t 7)),0,none⟩,⟨(some 9),(.len 1 (.t 8)),0,none⟩,⟨(some 10),(.bin .num .lss (.t 6) (.t 9)),0,none⟩] none) (.cond (.t 10) .skip (.exit 0))) (.seq (.block 1 (.seq (.reg [⟨(some 13),(.faddr 1 (.t 2)),0,none⟩,⟨(some 14),(.load false [(.sl 2)] (.t 13)),0,none⟩,⟨(some 15),(.mv (.t 5)),0,none⟩,⟨(some 16),(.iaddr 2 (.t 14) (.t 15)),0,none⟩,⟨(some 17),(.faddr 0 (.t 16)),0,none⟩,⟨(some 18),(.load false [.str] (.t 17)),0,none⟩,⟨(some 19),(.mv (.t 1)),0,none⟩,⟨(some 20),(.bin .num .eql (.t 18) (.t 19)),0,none⟩] none) (.cond (.t 20) (.seq (.reg [⟨(some 21),(.faddr 1 (.t 2)),0,none⟩,⟨(some 22),(.load false [(.sl 2)] (.t 21)),0,none⟩,⟨(some 23),(.mv (.t 5)),0,none⟩,⟨(some 24),(.iaddr 2 (.t 22) (.t 23)),0,none⟩,⟨(some 25),(.faddr 1 (.t 24)),0,none⟩,⟨(some 26),(.load false [(.int .i64)] (.t 25)),0,none⟩,⟨(some 4),(.mv (.t 26)),0,none⟩] none) .ret) .skip))) (.reg [⟨(some 11),(.mv (.t 5)),0,none⟩,⟨(some 12),(.bin .num .add (.t 11) (.c (.int .i64 1))),0,none⟩,⟨(some 5),(.mv (.t 12)),0,none⟩] none)))))) (.seq (.reg [⟨(some 4),(.mv (.c (.int .i64 0))),0,none⟩] none) .ret)))
def VD:List IRes:=[(.tmp 4)]
abbrev L6:Nat:=27
def UC:ZE:=Y6 []
theorem a6p{G:PV->Prop}(l:Lin)(s:List UInt8)(h:At UC 0 (Za VD G) VF 0 27 [(1,(.pv (.str s))),(2,(.ptr 0 0)),(5,(.pv (.int .i64 0)))] [(.obj (.box [(.pv (.int .i64 l.k)),(.pv (.sl 2 false (List.map enc l.t)))]))]):Zc UC 0 (Za VD G) VF [] (Z5 27 [enc l,.str s]):=Zc.tp (.nil) h (by kernel_rfl)
theorem Bs{G:PV->Prop}(l:Lin)(s:List UInt8)(i:Int)(h:if (decide (i<(↑(List.length (List.map enc l.t)):Int)))=true then(decide (0<=i)&&decide (Int.toNat i<List.length (List.map enc l.t))&&Enc.sz Coef==2)=true∧(∃ y0:Coef,AV.pv (PV.rptr (PV.cells (List.getD (List.map enc l.t) (Int.toNat i) default)))=AV.pv (PV.rptr (PV.cells ((enc) y0)))∧(if (PV.asStr (List.getD (List.drop 0 (PV.cells (enc y0))) 0 default)==s)=true then(decide (0<=i)&&decide (Int.toNat i<List.length (List.map enc l.t))&&Enc.sz Coef==2)=true∧(∃ y1:Coef,AV.pv (PV.rptr (PV.cells (List.getD (List.map enc l.t) (Int.toNat i) default)))=AV.pv (PV.rptr (PV.cells ((enc) y1)))∧(G ((.int .i64 (PV.asInt (List.getD (List.drop 1 (PV.cells (enc y1))) 0 default))))))else(At UC 0 (Za VD G) VF 0 27 [(1,(.pv (.str s))),(2,(.ptr 0 0)),(5,(.pv (.int .i64 (IntKind.wrap IntKind.i64 (i+1)))))] [(.obj (.box [(.pv (.int .i64 l.k)),(.pv (.sl 2 false (List.map enc l.t)))]))])))else(G ((.int .i64 0)))):At UC 0 (Za VD G) VF 0 27 [(1,.pv (.str s)),(2,.ptr 0 0),(5,.pv (.int .i64 i))] [.obj (.box [.pv (.int .i64 l.k),.pv (enc l.t)])]:=At.tp (.lit (.ask (.req (.abs (Coef) (fun YY=>AV.pv (PV.rptr (PV.cells ((enc) YY)))) (.lit (.lit (.ask (.req (.abs (Coef) (fun YY=>AV.pv (PV.rptr (PV.cells ((enc) YY)))) (.lit (.nil)))) (.lit (.nil))))))) (.nil))) h (by kernel_rfl)
def YX:IC:=(.seq (.reg [⟨(some 2),(.mv (.c (.sl 0 true []))),0,none⟩] none) (.seq (.reg [⟨(some 3),(.alloc (.agg [(.int .i64 0),(.sl 0 true [])])),0,none⟩] none) (.seq (.seq (.reg [⟨(some 4),(.mv (.c (.int .i64 0))),0,none⟩] none) (.block 0 (.loop [4,0,3] (.seq (.seq (.reg [⟨(some 7),(.mv (.t 4)),0,none⟩,⟨(some 8),(.mv (.t 0)),0,none⟩,⟨(some 9),(.len 1 (.t 8)),0,none⟩,⟨(some 10),(.bin .num .lss (.t 7) (.t 9)),0,none⟩] none) (.cond (.t 10) .skip (.exit 0))) (.seq (.block 1 (.seq (.reg [⟨(some 5),(.mv (.c (.int .i64 0))),0,none⟩] none) (.block 2 (.loop [5,0,4,3] (.seq (.seq (.reg [⟨(some 13),(.mv (.t 5)),0,none⟩,⟨(some 14),(.mv (.t 0)),0,none⟩,⟨(some 15),(.mv (.t 4)),0,none⟩,⟨(some 16),(.iaddr 2 (.t 14) (.t 15)),0,none⟩,⟨(some 17),(.faddr 1 (.t 16)),0,none⟩,⟨(some 18),(.load false [(.sl 2)] (.t 17)),0,none⟩,⟨(some 19),(.len 1 (.t 18)),0,none⟩,⟨(some 20),(.bin .num .lss (.t 13) (.t 19)),0,none⟩] none) (.cond (.t 20) .skip (.exit 2))) (.seq (.block 3 (.seq (.reg [⟨(some 23),(.mv (.t 0)),0,none⟩,⟨(some 24),(.mv (.t 4)),0,none⟩,⟨(some 25),(.iaddr 2 (.t 23) (.t 24)),0,none⟩,⟨(some 26),(.faddr 1 (.t 25)),0,none⟩,⟨(some 27),(.load false [(.sl 2)] (.t 26)),0,none⟩,⟨(some 28),(.mv (.t 5)),0,none⟩,⟨(some 29),(.iaddr 2 (.t 27) (.t 28)),0,none⟩,⟨(some 30),(.faddr 0 (.t 29)),0,none⟩,⟨(some 31),(.load false [.str] (.t 30)),0,none⟩,⟨(some 6),(.mv (.t 31)),0,none⟩] none) (.seq (.reg [⟨(some 32),(.load true [(.int .i64),(.sl 2)] (.t 3)),0,none⟩,⟨(some 33),(.mv (.t 6)),0,none⟩,⟨(some 34),(.call (.c (.fn 240)) [(.t 32),(.t 33)]),0,none⟩,⟨(some 35),(.bin .num .eql (.t 34) (.c (.int .i64 0))),2,none⟩] none) (.cond (.t 35) (.reg [⟨(some 36),(.load true [(.int .i64),(.sl 2)] (.t 3)),0,none⟩,⟨(some 37),(.mv (.t 6)),0,none⟩,⟨(some 38),(.call (.c (.fn 89)) [(.t 36),(.t 37),(.c (.int .i64 1))]),0,none⟩,⟨none,(.store 2 (.t 3) (.t 38)),2,none⟩] none) .skip)))) (.reg [⟨(some 21),(.mv (.t 5)),0,none⟩,⟨(some 22),(.bin .num .add (.t 21) (.c (.int .i64 1))),0,none⟩,⟨(some 5),(.mv (.t 22)),0,none⟩] none))))))) (.reg [⟨(some 11),(.mv (.t 4)),0,none⟩,⟨(some 12),(.bin .num .add (.t 11) (.c (.int .i64 1))),0,none⟩,⟨(some 4),(.mv (.t 12)),0,none⟩] none)))))) (.seq (.reg [⟨(some 39),(.load true [(.int .i64),(.sl 2)] (.t 3)),0,none⟩,⟨(some 40),(.call (.c (.fn 241)) [(.t 39)]),0,none⟩,⟨(some 2),(.mv (.t 40)),2,none⟩] none) .ret))))
def YV:List IRes:=[(.tmp 2)]
abbrev Fh:Nat:=41
def Xw:ZE:=Y6 [(240,.pure (preT (fun x:Lin×Str×Unit=>Zn x.1.t)) (Ze (fun x:Lin×Str×Unit=>Xl x.1.t x.2.1.s))),(89,.pure (preT (fun x:Lin×Str×Int×Unit=>decide (x.1.t.length<=1000000))) (Ze (fun x:Lin×Str×Int×Unit=>W3 x.1 x.2.1 x.2.2.1))),(241,.pure (preT (fun x:Lin×Unit=>decide (x.1.t.length<=1000000))) (Ze (fun x:Lin×Unit=>Zd x.1)))]
theorem EI{G:PV->Prop}(ls:List Lin)(h:At Xw 0 (Za YV G) YX 0 41 [(0,(.pv (.sl 2 false (List.map enc ls)))),(3,(.ptr 0 0)),(4,(.pv (.int .i64 0)))] [(.obj (.box [(.pv (.int .i64 0)),(.pv (.sl 0 true []))]))]):Zc Xw 0 (Za YV G) YX [] (Z5 41 [enc ls]):=Zc.tp (.nil) h (by kernel_rfl)
theorem BL{G:PV->Prop}(ls:List Lin)(k:Int)(p:PV)(i:Int)(h:if (decide (i<(↑(List.length (List.map enc ls)):Int)))=true then At Xw 0 (Za YV G) YX 1 41 [(0,(.pv (.sl 2 false (List.map enc ls)))),(3,(.ptr 0 0)),(4,(.pv (.int .i64 i))),(5,(.pv (.int .i64 0)))] [(.obj (.box [(.pv (.int .i64 k)),(.pv p)]))]else((Go.Pl.preT (fun(x:Lin×Unit)=>decide (List.length x.1.t<=1000000)) [(.agg [(.int .i64 k),p])])=true∧(∃ y0:List Str,AV.pv (Ze (fun(x:Lin×Unit)=>Zd x.1) [(.agg [(.int .i64 k),p])])=AV.pv (enc y0)∧(G ((.sl 1 false (List.map enc y0))))))):At Xw 0 (Za YV G) YX 0 41 [(0,.pv (enc ls)),(3,.ptr 0 0),(4,.pv (.int .i64 i))] [.obj (.box [.pv (.int .i64 k),.pv p])]:=At.tp (.lit (.ask (.nil) (.req (.abs (List Str) (fun YY=>AV.pv (enc YY)) (.nil))))) h (by kernel_rfl)
theorem BF{G:PV->Prop}(ls:List Lin)(k:Int)(p:PV)(i j:Int)(h:(decide (0<=i)&&decide (Int.toNat i<List.length (List.map enc ls))&&Enc.sz Lin==2)=true∧(∃ y0:Lin,AV.pv (PV.rptr (PV.cells (List.getD (List.map enc ls) (Int.toNat i) default)))=AV.pv (PV.rptr (PV.cells ((enc) y0)))∧(if (decide (j<(↑(List.length (PV.asXs (List.getD (List.drop 1 (PV.cells (enc y0))) 0 default))):Int)))=true then(decide (0<=i)&&decide (Int.toNat i<List.length (List.map enc ls))&&Enc.sz Lin==2)=true∧(∃ y1:Lin,AV.pv (PV.rptr (PV.cells (List.getD (List.map enc ls) (Int.toNat i) default)))=AV.pv (PV.rptr (PV.cells ((enc) y1)))∧((decide (0<=j)&&decide (Int.toNat j<List.length (PV.asXs (List.getD (List.drop 1 (PV.cells (enc y1))) 0 default)))&&2==2)=true∧((decide (0+List.length [Sh.str]<=List.length (List.drop 0 (PV.cells (List.getD (PV.asXs (List.getD (List.drop 1 (PV.cells (enc y1))) 0 default)) (Int.toNat j) default))))&&Y2 (List.drop 0 (PV.cells (List.getD (PV.asXs (List.getD (List.drop 1 (PV.cells (enc y1))) 0 default)) (Int.toNat j) default))) 0 [Sh.str])=true∧((Go.Pl.preT (fun(x:Lin×Str×Unit)=>Zn x.1.t) [(.agg [(.int .i64 k),p]),(.str (PV.asStr (List.getD (List.drop 0 (PV.cells (List.getD (PV.asXs (List.getD (List.drop 1 (PV.cells (enc y1))) 0 default)) (Int.toNat j) default))) 0 default)))])=true∧(∃ y2:Int,AV.pv (Ze (fun(x:Lin×Str×Unit)=>Xl x.1.t (Str.s x.2.1)) [(.agg [(.int .i64 k),p]),(.str (PV.asStr (List.getD (List.drop 0 (PV.cells (List.getD (PV.asXs (List.getD (List.drop 1 (PV.cells (enc y1))) 0 default)) (Int.toNat j) default))) 0 default)))])=AV.pv (enc y2)∧(if (y2==0)=true then(Go.Pl.preT (fun(x:Lin×Str×Int×Unit)=>decide (List.length x.1.t<=1000000)) [(.agg [(.int .i64 k),p]),(.str (PV.asStr (List.getD (List.drop 0 (PV.cells (List.getD (PV.asXs (List.getD (List.drop 1 (PV.cells (enc y1))) 0 default)) (Int.toNat j) default))) 0 default))),(.int .i64 1)])=true∧(∃ y3:Lin,AV.pv (Ze (fun(x:Lin×Str×Int×Unit)=>W3 x.1 x.2.1 x.2.2.1) [(.agg [(.int .i64 k),p]),(.str (PV.asStr (List.getD (List.drop 0 (PV.cells (List.getD (PV.asXs (List.getD (List.drop 1 (PV.cells (enc y1))) 0 default)) (Int.toNat j) default))) 0 default))),(.int .i64 1)])=AV.pv (enc y3)∧(At Xw 0 (Za YV G) YX 1 41 [(0,(.pv (.sl 2 false (List.map enc ls)))),(3,(.ptr 0 0)),(4,(.pv (.int .i64 i))),(5,(.pv (.int .i64 (IntKind.wrap IntKind.i64 (j+1)))))] [(.obj (.box [(.pv (.int .i64 y3.k)),(.pv (.sl 2 false (List.map enc y3.t)))]))]))else(At Xw 0 (Za YV G) YX 1 41 [(0,(.pv (.sl 2 false (List.map enc ls)))),(3,(.ptr 0 0)),(4,(.pv (.int .i64 i))),(5,(.pv (.int .i64 (IntKind.wrap IntKind.i64 (j+1)))))] [(.obj (.box [(.pv (.int .i64 k)),(.pv p)]))])))))))else(At Xw 0 (Za YV G) YX 0 41 [(0,(.pv (.sl 2 false (List.map enc ls)))),(3,(.ptr 0 0)),(4,(.pv (.int .i64 (IntKind.wrap IntKind.i64 (i+1)))))] [(.obj (.box [(.pv (.int .i64 k)),(.pv p)]))])))):At Xw 0 (Za YV G) YX 1 41 [(0,.pv (enc ls)),(3,.ptr 0 0),(4,.pv (.int .i64 i)),(5,.pv (.int .i64 j))] [.obj (.box [.pv (.int .i64 k),.pv p])]:=At.tp (.req (.abs (Lin) (fun YY=>AV.pv (PV.rptr (PV.cells ((enc) YY)))) (.lit (.lit (.ask (.req (.abs (Lin) (fun YY=>AV.pv (PV.rptr (PV.cells ((enc) YY)))) (.lit (.req (.keep (.req (.req (.abs (Int) (fun YY=>AV.pv (enc YY)) (.lit (.ask (.req (.abs (Lin) (fun YY=>AV.pv (enc YY)) (.lit (.nil)))) (.lit (.nil)))))))))))) (.lit (.nil))))))) h (by kernel_rfl)
def Vp:IC:=(.seq (.reg [⟨(some 2),(.box 2 (.t 0)),0,none⟩,⟨(some 4),(.mv (.c (.bool false))),1,none⟩] none) (.seq (.reg [⟨(some 5),(.mv (.c (.int .i64 1))),0,none⟩] none) (.seq (.seq (.reg [⟨(some 6),(.mv (.c (.int .i64 0))),0,none⟩] none) (.block 0 (.loop [6,2,5,1] (.seq (.seq (.reg [⟨(some 7),(.mv (.t 6)),0,none⟩,⟨(some 8),(.faddr 0 (.t 2)),0,none⟩,⟨(some 9),(.load false [(.sl 1)] (.t 8)),0,none⟩,⟨(some 10),(.len 1 (.t 9)),0,none⟩,⟨(some 11),(.bin .num .lss (.t 7) (.t 10)),0,none⟩,⟨(some 12),(.mv (.t 11)),0,none⟩,⟨(some 13),(.load true [(.sl 1),(.int .i64)] (.t 2)),0,(some (12,true))⟩,⟨(some 14),(.call (.c (.fn 51)) [(.t 13)]),0,(some (12,true))⟩,⟨(some 15),(.pick (.t 12) (.t 14) (.c (.bool false))),2,none⟩] none) (.cond (.t 15) .skip (.exit 0))) (.seq (.block 1 (.reg [⟨(some 18),(.mv (.t 5)),0,none⟩,⟨(some 19),(.faddr 1 (.t 2)),0,none⟩,⟨(some 20),(.load false [(.int .i64)] (.t 19)),0,none⟩,⟨(some 21),(.bin .num .add (.t 20) (.c (.int .i64 1))),0,none⟩,⟨(some 22),(.bin .num .mul (.t 18) (.t 21)),0,none⟩,⟨(some 5),(.mv (.t 22)),0,none⟩] none)) (.reg [⟨(some 16),(.mv (.t 6)),0,none⟩,⟨(some 17),(.bin .num .add (.t 16) (.c (.int .i64 1))),0,none⟩,⟨(some 6),(.mv (.t 17)),0,none⟩] none)))))) (.seq (.reg [⟨(some 23),(.faddr 0 (.t 2)),0,none⟩,⟨(some 24),(.load false [(.sl 1)] (.t 23)),0,none⟩,⟨(some 25),(.len 1 (.t 24)),0,none⟩,⟨(some 26),(.bin .num .leq (.t 25) (.c (.int .i64 5))),0,none⟩,⟨(some 27),(.mv (.t 26)),0,none⟩,⟨(some 28),(.mv (.t 5)),0,(some (27,true))⟩,⟨(some 29),(.bin .num .leq (.t 28) (.c (.int .i64 300))),0,(some (27,true))⟩,⟨(some 30),(.pick (.t 27) (.t 29) (.c (.bool false))),0,none⟩,⟨(some 31),(.mv (.t 30)),0,none⟩,⟨(some 32),(.mv (.t 1)),0,(some (31,true))⟩,⟨(some 33),(.len 1 (.t 32)),0,(some (31,true))⟩,⟨(some 34),(.bin .num .leq (.t 33) (.c (.int .i64 6))),0,(some (31,true))⟩,⟨(some 35),(.pick (.t 31) (.t 34) (.c (.bool false))),0,none⟩,⟨(some 36),(.mv (.t 35)),0,none⟩,⟨(some 37),(.mv (.t 1)),0,(some (36,true))⟩,⟨(some 38),(.call (.c (.fn 31)) [(.t 37),(.c (.int .i64 6))]),0,(some (36,true))⟩,⟨(some 39),(.pick (.t 36) (.t 38) (.c (.bool false))),2,none⟩,⟨(some 4),(.mv (.t 39)),2,none⟩] none) .ret))))
def X6:List IRes:=[(.tmp 4)]
abbrev Fa:Nat:=40
def W9:ZE:=Y6 [(51,.pure (preT (fun x:BoxT×Unit=>ZA x.1)) (Ze (fun x:BoxT×Unit=>YC x.1))),(31,.pure (preT (fun x:List Fact×Int×Unit=>YP x.1)) (Ze (fun x:List Fact×Int×Unit=>GE x.1 x.2.1)))]
theorem a0h{G:PV->Prop}(b:BoxT)(fs:List Fact)(h:At W9 0 (Za X6 G) Vp 0 40 [(1,(.pv (.sl 3 false (List.map enc fs)))),(2,(.ptr 0 0)),(5,(.pv (.int .i64 1))),(6,(.pv (.int .i64 0)))] [(.obj (.box [(.pv (.sl 1 false (List.map enc b.v))),(.pv (.int .i64 b.m))]))]):Zc W9 0 (Za X6 G) Vp [] (Z5 40 [enc b,enc fs]):=Zc.tp (.nil) h (by kernel_rfl)
theorem Ky{G:PV->Prop}(b:BoxT)(fs:List Fact)(n i:Int)(h:if (decide (i<(↑(List.length (List.map enc b.v)):Int)))=true then(Go.Pl.preT (fun(x:BoxT×Unit)=>ZA x.1) [(.agg [(.sl 1 false (List.map enc b.v)),(.int .i64 b.m)])])=true∧(∃ y0:Bool,AV.pv (Ze (fun(x:BoxT×Unit)=>YC x.1) [(.agg [(.sl 1 false (List.map enc b.v)),(.int .i64 b.m)])])=AV.pv (enc y0)∧(if (y0)=true then At W9 0 (Za X6 G) Vp 0 40 [(1,(.pv (.sl 3 false (List.map enc fs)))),(2,(.ptr 0 0)),(5,(.pv (.int .i64 (IntKind.wrap IntKind.i64 (n*IntKind.wrap IntKind.i64 (BoxT.m b+1)))))),(6,(.pv (.int .i64 (IntKind.wrap IntKind.i64 (i+1)))))] [(.obj (.box [(.pv (.sl 1 false (List.map enc b.v))),(.pv (.int .i64 b.m))]))]else(if (decide ((↑(List.length (List.map enc b.v)):Int)<=5))=true then if (decide (n<=300))=true then if (decide ((↑(List.length (List.map enc fs)):Int)<=6))=true then(Go.Pl.preT (fun(x:List Fact×Int×Unit)=>YP x.1) [(.sl 3 false (List.map enc fs)),(.int .i64 6)])=true∧(∃ y1:Bool,AV.pv (Ze (fun(x:List Fact×Int×Unit)=>GE x.1 x.2.1) [(.sl 3 false (List.map enc fs)),(.int .i64 6)])=AV.pv (enc y1)∧(G ((.bool y1))))else(G ((.bool false)))else(G ((.bool false)))else(G ((.bool false))))))else(if (decide ((↑(List.length (List.map enc b.v)):Int)<=5))=true then if (decide (n<=300))=true then if (decide ((↑(List.length (List.map enc fs)):Int)<=6))=true then(Go.Pl.preT (fun(x:List Fact×Int×Unit)=>YP x.1) [(.sl 3 false (List.map enc fs)),(.int .i64 6)])=true∧(∃ y2:Bool,AV.pv (Ze (fun(x:List Fact×Int×Unit)=>GE x.1 x.2.1) [(.sl 3 false (List.map enc fs)),(.int .i64 6)])=AV.pv (enc y2)∧(G ((.bool y2))))else(G ((.bool false)))else(G ((.bool false)))else(G ((.bool false))))):At W9 0 (Za X6 G) Vp 0 40 [(1,.pv (enc fs)),(2,.ptr 0 0),(5,.pv (.int .i64 n)),(6,.pv (.int .i64 i))] [.obj (.box [.pv (enc b.v),.pv (.int .i64 b.m)])]:=At.tp (.lit (.ask (.lit (.req (.abs (Bool) (fun YY=>AV.pv (enc YY)) (.lit (.ask (.lit (.lit (.lit (.nil)))) (.lit (.ask (.lit (.lit (.lit (.ask (.lit (.lit (.lit (.lit (.ask (.lit (.req (.abs (Bool) (fun YY=>AV.pv (enc YY)) (.lit (.nil))))) (.lit (.lit (.nil)))))))) (.lit (.lit (.lit (.lit (.lit (.lit (.nil))))))))))) (.lit (.lit (.lit (.lit (.lit (.lit (.lit (.lit (.lit (.nil))))))))))))))))) (.lit (.lit (.lit (.lit (.ask (.lit (.lit (.lit (.ask (.lit (.lit (.lit (.lit (.ask (.lit (.req (.abs (Bool) (fun YY=>AV.pv (enc YY)) (.lit (.nil))))) (.lit (.lit (.nil)))))))) (.lit (.lit (.lit (.lit (.lit (.lit (.nil))))))))))) (.lit (.lit (.lit (.lit (.lit (.lit (.lit (.lit (.lit (.nil))))))))))))))))) h (by kernel_rfl)
def Vt:IC:=(.seq (.reg [⟨(some 4),(.mv (.c (.bool false))),0,none⟩] none) (.seq (.seq (.reg [⟨(some 6),(.mv (.t 0)),0,none⟩,⟨(some 7),(.len 1 (.t 6)),0,none⟩,⟨(some 8),(.mv (.t 1)),0,none⟩,⟨(some 9),(.len 1 (.t 8)),0,none⟩,⟨(some 10),(.bin .num .neq (.t 7) (.t 9)),0,none⟩] none) (.cond (.t 10) (.seq (.reg [⟨(some 4),(.mv (.c (.bool false))),0,none⟩] none) .ret) .skip)) (.seq (.seq (.reg [⟨(some 5),(.mv (.c (.int .i64 0))),0,none⟩] none) (.block 0 (.loop [5,0,1] (.seq (.seq (.reg [⟨(some 11),(.mv (.t 5)),0,none⟩,⟨(some 12),(.mv (.t 0)),0,none⟩,⟨(some 13),(.len 1 (.t 12)),0,none⟩,⟨(some 14),(.bin .num .lss (.t 11) (.t 13)),0,none⟩] none) (.cond (.t 14) .skip (.exit 0))) (.seq (.block 1 (.seq (.reg [⟨(some 17),(.mv (.t 0)),0,none⟩,⟨(some 18),(.mv (.t 5)),0,none⟩,⟨(some 19),(.iaddr 1 (.t 17) (.t 18)),0,none⟩,⟨(some 20),(.load false [(.int .i64)] (.t 19)),0,none⟩,⟨(some 21),(.mv (.t 1)),0,none⟩,⟨(some 22),(.mv (.t 5)),0,none⟩,⟨(some 23),(.iaddr 1 (.t 21) (.t 22)),0,none⟩,⟨(some 24),(.load false [(.int .i64)] (.t 23)),0,none⟩,⟨(some 25),(.bin .num .neq (.t 20) (.t 24)),0,none⟩] (some [[],[],[0,1],[2,0,1],[],[],[4,5],[6,4,5],[3,7,2,0,1,6,4,5]])) (.cond (.t 25) (.seq (.reg [⟨(some 4),(.mv (.c (.bool false))),0,none⟩] none) .ret) .skip))) (.reg [⟨(some 15),(.mv (.t 5)),0,none⟩,⟨(some 16),(.bin .num .add (.t 15) (.c (.int .i64 1))),0,none⟩,⟨(some 5),(.mv (.t 16)),0,none⟩] none)))))) (.seq (.reg [⟨(some 4),(.mv (.c (.bool true))),0,none⟩] none) .ret))))
def Vm:List IRes:=[(.tmp 4)]
abbrev LQ:Nat:=26
def Uu:ZE:=Y6 []
theorem a3b{G:PV->Prop}(a b:List Int)(h:if ((↑(List.length (List.map enc a)):Int) != (↑(List.length (List.map enc b)):Int))=true then G ((.bool false))else(At Uu 0 (Za Vm G) Vt 0 26 [(0,(.pv (.sl 1 false (List.map enc a)))),(1,(.pv (.sl 1 false (List.map enc b)))),(5,(.pv (.int .i64 0)))] [])):Zc Uu 0 (Za Vm G) Vt [] (Z5 26 [enc a,enc b]):=Zc.tp (.lit (.ask (.nil) (.nil))) h (by kernel_rfl)
theorem Bm{G:PV->Prop}(a b:List Int)(i:Int)(h:if (decide (i<(↑(List.length (List.map enc a)):Int)))=true then(decide (0<=i)&&decide (Int.toNat i<List.length (List.map enc a))&&Enc.sz Int==1)=true∧(∃ y0:Int,AV.pv (PV.rptr (PV.cells (List.getD (List.map enc a) (Int.toNat i) default)))=AV.pv (PV.rptr (PV.cells ((enc) y0)))∧((decide (0<=i)&&decide (Int.toNat i<List.length (List.map enc b))&&Enc.sz Int==1)=true∧(∃ y1:Int,AV.pv (PV.rptr (PV.cells (List.getD (List.map enc b) (Int.toNat i) default)))=AV.pv (PV.rptr (PV.cells ((enc) y1)))∧(if (PV.asInt (List.getD (PV.cells (enc y0)) 0 default) != PV.asInt (List.getD (PV.cells (enc y1)) 0 default))=true then G ((.bool false))else(At Uu 0 (Za Vm G) Vt 0 26 [(0,(.pv (.sl 1 false (List.map enc a)))),(1,(.pv (.sl 1 false (List.map enc b)))),(5,(.pv (.int .i64 (IntKind.wrap IntKind.i64 (i+1)))))] [])))))else(G ((.bool true)))):At Uu 0 (Za Vm G) Vt 0 26 [(0,.pv (enc a)),(1,.pv (enc b)),(5,.pv (.int .i64 i))] []:=At.tp (.lit (.ask (.req (.abs (Int) (fun YY=>AV.pv (PV.rptr (PV.cells ((enc) YY)))) (.lit (.req (.abs (Int) (fun YY=>AV.pv (PV.rptr (PV.cells ((enc) YY)))) (.lit (.lit (.ask (.nil) (.lit (.nil)))))))))) (.nil))) h (by kernel_rfl)
def WI:IC:=(.seq (.reg [⟨(some 4),(.mv (.c (.bool false))),0,none⟩] none) (.seq (.seq (.reg [⟨(some 6),(.mv (.t 0)),0,none⟩,⟨(some 7),(.len 1 (.t 6)),0,none⟩,⟨(some 8),(.mv (.t 1)),0,none⟩,⟨(some 9),(.len 1 (.t 8)),0,none⟩,⟨(some 10),(.bin .num .neq (.t 7) (.t 9)),0,none⟩] none) (.cond (.t 10) (.seq (.reg [⟨(some 4),(.mv (.c (.bool false))),0,none⟩] none) .ret) .skip)) (.seq (.seq (.reg [⟨(some 5),(.mv (.c (.int .i64 0))),0,none⟩] none) (.block 0 (.loop [5,0,1] (.seq (.seq (.reg [⟨(some 11),(.mv (.t 5)),0,none⟩,⟨(some 12),(.mv (.t 0)),0,none⟩,⟨(some 13),(.len 1 (.t 12)),0,none⟩,⟨(some 14),(.bin .num .lss (.t 11) (.t 13)),0,none⟩] none) (.cond (.t 14) .skip (.exit 0))) (.seq (.block 1 (.seq (.reg [⟨(some 17),(.mv (.t 0)),0,none⟩,⟨(some 18),(.mv (.t 5)),0,none⟩,⟨(some 19),(.iaddr 1 (.t 17) (.t 18)),0,none⟩,⟨(some 20),(.load false [(.sl 1)] (.t 19)),0,none⟩,⟨(some 21),(.mv (.t 1)),0,none⟩,⟨(some 22),(.mv (.t 5)),0,none⟩,⟨(some 23),(.iaddr 1 (.t 21) (.t 22)),0,none⟩,⟨(some 24),(.load false [(.sl 1)] (.t 23)),0,none⟩,⟨(some 25),(.call (.c (.fn 54)) [(.t 20),(.t 24)]),0,none⟩,⟨(some 26),(.un .not (.t 25)),2,none⟩] (some [[],[],[0,1],[2,0,1],[],[],[4,5],[6,4,5],[3,7,2,0,1,6,4,5],[8,3,7,2,0,1,6,4,5]])) (.cond (.t 26) (.seq (.reg [⟨(some 4),(.mv (.c (.bool false))),0,none⟩] none) .ret) .skip))) (.reg [⟨(some 15),(.mv (.t 5)),0,none⟩,⟨(some 16),(.bin .num .add (.t 15) (.c (.int .i64 1))),0,none⟩,⟨(some 5),(.mv (.t 16)),0,none⟩] none)))))) (.seq (.reg [⟨(some 4),(.mv (.c (.bool true))),0,none⟩] none) .ret))))
def WH:List IRes:=[(.tmp 4)]
abbrev Mo:Nat:=27
def Vq:ZE:=Y6 [(54,.pure (preT (fun x:List Int×List Int×Unit=>Zn x.1)) (Ze (fun x:List Int×List Int×Unit=>decide (x.1=x.2.1))))]
theorem OS{G:PV->Prop}(a b:List (List Int))(h:if ((↑(List.length (List.map enc a)):Int) != (↑(List.length (List.map enc b)):Int))=true then G ((.bool false))else(At Vq 0 (Za WH G) WI 0 27 [(0,(.pv (.sl 1 false (List.map enc a)))),(1,(.pv (.sl 1 false (List.map enc b)))),(5,(.pv (.int .i64 0)))] [])):Zc Vq 0 (Za WH G) WI [] (Z5 27 [enc a,enc b]):=Zc.tp (.lit (.ask (.nil) (.nil))) h (by kernel_rfl)
theorem Cg{G:PV->Prop}(a b:List (List Int))(i:Int)(h:if (decide (i<(↑(List.length (List.map enc a)):Int)))=true then(decide (0<=i)&&decide (Int.toNat i<List.length (List.map enc a))&&Enc.sz (List Int)==1)=true∧(∃ y0:List Int,AV.pv (PV.rptr (PV.cells (List.getD (List.map enc a) (Int.toNat i) default)))=AV.pv (PV.rptr (PV.cells ((enc) y0)))∧((decide (0<=i)&&decide (Int.toNat i<List.length (List.map enc b))&&Enc.sz (List Int)==1)=true∧(∃ y1:List Int,AV.pv (PV.rptr (PV.cells (List.getD (List.map enc b) (Int.toNat i) default)))=AV.pv (PV.rptr (PV.cells ((enc) y1)))∧((Go.Pl.preT (fun(x:List Int×List Int×Unit)=>Zn x.1) [(.sl 1 false (PV.asXs (List.getD (PV.cells (enc y0)) 0 default))),(.sl 1 false (PV.asXs (List.getD (PV.cells (enc y1)) 0 default)))])=true∧(∃ y2:Bool,AV.pv (Ze (fun(x:List Int×List Int×Unit)=>decide (x.1=x.2.1)) [(.sl 1 false (PV.asXs (List.getD (PV.cells (enc y0)) 0 default))),(.sl 1 false (PV.asXs (List.getD (PV.cells (enc y1)) 0 default)))])=AV.pv (enc y2)∧(if (!y2)=true then G ((.bool false))else(At Vq 0 (Za WH G) WI 0 27 [(0,(.pv (.sl 1 false (List.map enc a)))),(1,(.pv (.sl 1 false (List.map enc b)))),(5,(.pv (.int .i64 (IntKind.wrap IntKind.i64 (i+1)))))] [])))))))else(G ((.bool true)))):At Vq 0 (Za WH G) WI 0 27 [(0,.pv (enc a)),(1,.pv (enc b)),(5,.pv (.int .i64 i))] []:=At.tp (.lit (.ask (.req (.abs (List Int) (fun YY=>AV.pv (PV.rptr (PV.cells ((enc) YY)))) (.lit (.req (.abs (List Int) (fun YY=>AV.pv (PV.rptr (PV.cells ((enc) YY)))) (.lit (.req (.abs (Bool) (fun YY=>AV.pv (enc YY)) (.ask (.nil) (.lit (.nil))))))))))) (.nil))) h (by kernel_rfl)
end Go.Pl

namespace Go.Pl
open Go.RowKit
open Enc (enc dec is)
open EncL (encL decL isL)
def FC(m:Int):List Str->List Str->Int->Bool
 | _,[],n=>decide (m ≥ 0)&&decide (n<=20000)
 | seen,s::r,n=>ZD s&& !decide (m ≥ 20000)&& !seen.contains s&&FC m (seen++[s]) r (if n<=20000 then Gf (n*Gf (m+1))else n)
theorem MN{m:Int}(hm:m<0): ∀ (r seen:List Str) (n:Int),FC m seen r n=false
 | [],seen,n=>by rw[FC,decide_eq_false (by omega)];rfl
 | s::r,seen,n=>by rw[FC,MN hm r];simp
theorem b0c{m:Int}(hm:m<0): ∀ (r seen:List Str) (n:Int),Ow m seen r n=false
 | [],seen,n=>by rw[Ow,decide_eq_false (by omega)]
 | s::r,seen,n=>by rw[Ow,decide_eq_true hm];simp
theorem MB(m:Int): ∀ (r seen:List Str) (n:Int),20000<n->FC m seen r n=false
 | [],seen,n,h=>by rw[FC,decide_eq_false (show ¬ n<=20000 by omega),Bool.and_false]
 | s::r,seen,n,h=>by rw[FC,if_neg (by omega),MB m r _ n h];simp
theorem M0(m:Int): ∀ (r seen:List Str) (n:Int),1<=n->n<=20000->FC m seen r n=Ow m seen r n
 | [],seen,n,h1,h2=>by rw[FC,Ow,decide_eq_true h2,Bool.and_true]
 | s::r,seen,n,h1,h2=>by
  by_cases hm:m<0
  ·rw[MN hm,b0c hm]
  ·rw[FC,Ow,if_pos h2,decide_eq_false hm]
   by_cases hb:m ≥ 20000
   ·rw[decide_eq_true hb];simp
   ·have q1:m+1<=20000:=by omega
    have q2:1<=m+1:=by omega
    have hm2:n*(m+1)<=20000*20000:=Int.le_trans (Int.mul_le_mul_of_nonneg_left q1 (by omega)) (Int.mul_le_mul_of_nonneg_right h2 (by omega))
    have hm1:1<=n*(m+1):=by
     have:=Int.mul_le_mul h1 q2 (by omega) (by omega)
     omega
    rw[XB (n:=m+1) (by omega) (by omega),XB (n:=n*(m+1)) (by omega) (by omega),decide_eq_false hb]
    by_cases hn:n*(m+1)>20000
    ·rw[decide_eq_true hn,MB _ _ _ _ hn];simp
    ·rw[decide_eq_false hn,M0 m r _ _ hm1 (by omega)]
     cases ZD s <;> cases seen.contains s <;> rfl
theorem b2z(b:BoxT)(R:Bool)(n:Int){i:Nat}(hi:i<b.v.length)(hl:b.v.length<=9223372036854775807)(hyes:(b.v.take i).contains b.v[i]=true->R=false)
  (hno:(b.v.take i).contains b.v[i]=false->At Qf 0 (Za VB (Zg R)) Vu 0 55 [(1,.ptr 0 0),(3,.pv (.int .i64 (if n<=20000 then Gf (n*Gf (b.m+1))else n))),(4,.pv (.int .i64 ((i+1:Nat):Int)))] [.obj (.box [.pv (enc b.v),.pv (.int .i64 b.m)])]) :
  ∀ (d k:Nat),d+k=i->(∀ j (h:j<b.v.length),j<k->b.v[j]≠b.v[i]) ->
  At Qf 0 (Za VB (Zg R)) Vu 1 55 [(1,.ptr 0 0),(3,.pv (.int .i64 n)),(4,.pv (.int .i64 i)),(5,.pv (.int .i64 k))] [.obj (.box [.pv (enc b.v),.pv (.int .i64 b.m)])]:=by
 intro d
 induction d with
 | zero=>
  intro k hk hne
  obtain rfl:k=i:=by omega
  have hc:(b.v.take k).contains b.v[k]=false:=by
   rw[<- Bool.not_eq_true,List.contains_iff_mem]
   intro hm
   obtain⟨j,hj,e⟩:=List.getElem_of_mem hm
   rw[List.length_take]at hj
   rw[List.getElem_take]at e
   exact hne j (by omega) (by omega) e
  have:=hno hc
  refine Eu b n k k (ZI (ZY (by omega)) (Ww (fun h=> ?_) fun h=> ?_))
  ·rw[if_pos h]at this
   rw[next (by omega)]
   exact this
  ·rw[if_neg h]at this
   rw[next (by omega)]
   exact this
 | succ d ih=>
  intro k hk hne
  have hkl:k<b.v.length:=by omega
  refine Eu b n i k (ZC (ZU (by omega)) ⟨Zs hkl rfl,Zw hkl ⟨Zs hi rfl,Zw hi (QR (fun h=> ?_) fun h=> ?_)⟩⟩)
  ·have e:b.v[k]=b.v[i]:=by
    have h:b.v[k].s=b.v[i].s:=h
    cases hx:b.v[k];cases hy:b.v[i]
    rw[hx,hy]at h
    exact congrArg Str.mk h
   refine ZK (hyes ?_).symm
   rw[List.contains_iff_mem,<- e,List.mem_take_iff_getElem]
   exact⟨k,by omega,rfl⟩
  ·rw[next (by omega)]
   refine ih (k+1) (by omega) fun j hj hjk=> ?_
   by_cases e:j=k
   ·subst e
    intro e2
    exact h (congrArg Str.s e2)
   ·exact hne j hj (by omega)
theorem E9(b:BoxT)(hl:b.v.length<=9223372036854775807): ∀ (d i:Nat) (n:Int),d+i=b.v.length ->
  At Qf 0 (Za VB (Zg (FC b.m (b.v.take i) (b.v.drop i) n))) Vu 0 55 [(1,.ptr 0 0),(3,.pv (.int .i64 n)),(4,.pv (.int .i64 i))] [.obj (.box [.pv (enc b.v),.pv (.int .i64 b.m)])]:=by
 intro d
 induction d with
 | zero=>
  intro i n hi
  rw[List.drop_of_length_le (by omega)]
  refine a3c b n i (ZI (Xi (by omega)) ?_)
  rw[FC]
  refine Ww (fun h=> ?_) fun h=> ?_
  ·rw[decide_eq_true h];exact ZK rfl
  ·rw[decide_eq_false h];exact ZK rfl
 | succ d ih=>
  intro i n hi
  have hlt:i<b.v.length:=by omega
  have hd:b.v.drop i=b.v[i]::b.v.drop (i+1):=List.drop_eq_getElem_cons hlt
  have ht:b.v.take (i+1)=b.v.take i++[b.v[i]]:=List.take_succ_eq_append_getElem hlt
  rw[hd,FC]
  refine a3c b n i (ZC (YN hlt) ⟨Zs hlt rfl,Zw hlt (Zh (b.v[i],()) rfl (XZ (fun h=> ?_) fun h=>Ww (fun h2=> ?_) fun h2=> ?_))⟩)
  ·have h:ZD b.v[i]=false:=h
   rw[h];exact ZK rfl
  ·rw[decide_eq_true h2];simp only[Bool.not_true,Bool.and_false,Bool.false_and];exact ZK rfl
  ·have h:ZD b.v[i]=true:=h
   rw[decide_eq_false h2,h]
   simp only[Bool.not_false,Bool.true_and,Bool.and_true]
   refine b2z b _ n hlt hl (fun hc=>by rw[hc];rfl) (fun hc=> ?_) i 0 (by omega) (fun j _ hj=>by omega)
   rw[hc,Bool.not_false,Bool.true_and,<- ht]
   exact ih (i+1) _ (by omega)
theorem a8h: ∀ a:BoxT×Unit,ZA a.1=true->Zc Qf 0 (Za VB (Zg (YC a.1))) Vu [] (Z5 b3k (encL a)):=by
 rintro⟨b,⟨⟩⟩ h
 simp only[ZA,Wl,Bool.and_eq_true]at h
 rw[<- Lo,<- M0 b.m b.v [] 1 (by decide) (by decide)]
 exact b7v b (E9 b (Zx.1 h.1) b.v.length 0 1 (by omega))
theorem Ta(b:BoxT)(p:List Int)(hb:b.v.length<=1000)(hp:p.length<=9223372036854775807): ∀ (k i:Nat),k+i=min b.v.length p.length->1<=i ->
  At YA 0 (Za Yf (Zg (Zf b.v p))) Yh 0 34 [(1,.pv (enc p)),(2,.ptr 0 0),(5,.row 1 i 0 i),(6,.pv (.int .i64 i))] [.obj (.box [.pv (enc b.v),.pv (.int .i64 b.m)]),.obj (.row false 63 2 ((Zf (b.v.take i) (p.take i)).map enc))]:=by
 intro k
 induction k with
 | zero=>
  intro i hi h1
  have hl:=V0 b.v p (i:=i) (by omega) (by omega)
  have fin:Zg (Zf b.v p) (PV.sl 2 false (List.drop 0 (List.take i (List.map enc (Zf (b.v.take i) (p.take i)))))):=by
   rw[List.drop_zero,List.take_of_length_le (by rw[List.length_map,hl];exact Nat.le_refl _),JL b.v p (by omega)]
   exact ZO (x:=Zf b.v p) rfl
  by_cases hbl:i<b.v.length
  ·exact JE b p i i (Zf (b.v.take i) (p.take i)) (ZC (YN hbl) (ZI (Xi (by omega)) ⟨by simp[hl],fin⟩))
  ·exact JE b p i i (Zf (b.v.take i) (p.take i)) (ZI (Xi hbl) ⟨by simp[hl],fin⟩)
 | succ k ih=>
  intro i hi h1
  have hl:=V0 b.v p (i:=i) (by omega) (by omega)
  have hlt:i<b.v.length:=by omega
  have hlt2:i<p.length:=by omega
  refine JE b p i i (Zf (b.v.take i) (p.take i)) (ZC (YN hlt) (ZC (YN hlt2) ⟨Zs hlt rfl,Zw hlt ⟨Zs hlt2 rfl,Zw hlt2 ⟨?_,?_⟩⟩⟩))
  ·rw[List.length_map,hl]
   show((i==i)&&(i==i)&&decide ((i+1)*24<=1099511627776)&&decide (i+1<=1099511627776))=true
   rw[decide_eq_true (by omega),decide_eq_true (by omega)];simp
  ·have:=ih (i+1) (by omega) (by omega)
   rw[WN b.v p hlt hlt2,List.map_append,<- next (by omega)]at this
   exact this
theorem Nz: ∀ a:BoxT×List Int×Unit,(decide (a.1.v.length<=1000)&&Zn a.2.1)=true->Zc YA 0 (Za Yf (Zg (Zf a.1.v a.2.1))) Yh [] (Z5 B4 (encL a)):=by
 rintro⟨b,p,⟨⟩⟩ h
 simp only[Bool.and_eq_true,decide_eq_true_eq]at h
 obtain⟨h1,h2⟩:=h
 refine a5m b p ?_
 have hl2:=Zx.1 h2
 by_cases h0:min b.v.length p.length=0
 ·have:Zf b.v p=[]:=by
   rw[<- List.length_eq_zero_iff];unfold Zf;rw[List.length_zipWith];exact h0
  rw[this]
  by_cases hbl:0<b.v.length
  ·exact Jq b p ((0:Nat):Int) (ZC (YN hbl) (ZI (Xi (by omega)) ⟨rfl,rfl⟩))
  ·exact Jq b p ((0:Nat):Int) (ZI (Xi hbl) ⟨rfl,rfl⟩)
 ·have hlt:0<b.v.length:=by omega
  have hlt2:0<p.length:=by omega
  refine Jq b p ((0:Nat):Int) (ZC (YN hlt) (ZC (YN hlt2) ⟨Zs hlt rfl,Zw hlt ⟨Zs hlt2 rfl,Zw hlt2 ?_⟩⟩))
  have:=Ta b p h1 hl2 (min b.v.length p.length - 1) 1 (by omega) (by omega)
  rw[show(1:Nat)=0+1 from rfl,WN b.v p hlt hlt2]at this
  exact this
theorem FD(b:BoxT)(ns:List Str)(R:Bool){i:Nat}(hi:i<ns.length)(hl:b.v.length<=9223372036854775807)(hn:ns.length<=9223372036854775807)(hyes:b.v.contains ns[i]=false->R=false)
  (hno:b.v.contains ns[i]=true->At Xq 0 (Za YU (Zg R)) YW 0 36 [(1,.pv (enc ns)),(2,.ptr 0 0),(5,.pv (.int .i64 ((i+1:Nat):Int)))] [.obj (.box [.pv (enc b.v),.pv (.int .i64 b.m)])]) :
  ∀ (d k:Nat),d+k=b.v.length->At Xq 0 (Za YU (Zg R)) YW 1 36 [(1,.pv (enc ns)),(2,.ptr 0 0),(5,.pv (.int .i64 i)),(6,.pv (.bool ((b.v.take k).contains ns[i]))),(7,.pv (.int .i64 k))] [.obj (.box [.pv (enc b.v),.pv (.int .i64 b.m)])]:=by
 intro d
 induction d with
 | zero=>
  intro k hk
  obtain rfl:k=b.v.length:=by omega
  rw[List.take_length]
  refine B8 b ns i b.v.length _ (ZI (Xi (by omega)) (XZ (fun h=>ZK (hyes h).symm) fun h=> ?_))
  rw[next (by omega)]
  exact hno h
 | succ d ih=>
  intro k hk
  have hkl:k<b.v.length:=by omega
  have h1:=ih (k+1) (by omega)
  have ht:(b.v.take (k+1)).contains ns[i]=((b.v.take k).contains ns[i]||(b.v[k].s==ns[i].s)):=by
   rw[List.take_succ_eq_append_getElem hkl]
   have e:((b.v[k].s==ns[i].s):Bool)=(b.v[k]==ns[i]):=by
    rw[Bool.eq_iff_iff]
    simp only[beq_iff_eq]
    constructor
    ·intro h
     cases hx:b.v[k];cases hy:ns[i]
     rw[hx,hy]at h
     exact congrArg Str.mk h
    ·intro h;rw[h]
   rw[e]
   rw[Bool.eq_iff_iff]
   simp only[List.contains_iff_mem,List.mem_append,List.mem_singleton,Bool.or_eq_true,beq_iff_eq]
   exact⟨fun h=>h.imp_right Eq.symm,fun h=>h.imp_right Eq.symm⟩
  refine B8 b ns i k _ (ZC (YN hkl) (XU (fun h=> ?_) fun h=>⟨Zs hkl rfl,Zw hkl ⟨Zs hi rfl,Zw hi ?_⟩⟩))
  ·rw[ht,h,Bool.true_or]at h1
   rw[next (by omega)]
   exact h1
  ·rw[ht,h,Bool.false_or]at h1
   rw[next (by omega)]
   exact h1
theorem RI(b:BoxT)(ns:List Str)(hl:b.v.length<=9223372036854775807)(hn:ns.length<=9223372036854775807): ∀ (d i:Nat),d+i=ns.length ->
  At Xq 0 (Za YU (Zg (Yz b.v (ns.drop i)))) YW 0 36 [(1,.pv (enc ns)),(2,.ptr 0 0),(5,.pv (.int .i64 i))] [.obj (.box [.pv (enc b.v),.pv (.int .i64 b.m)])]:=by
 intro d
 induction d with
 | zero=>
  intro i hi
  rw[List.drop_of_length_le (by omega)]
  exact Bv b ns i (ZI (Xi (by omega)) (ZK rfl))
 | succ d ih=>
  intro i hi
  have hlt:i<ns.length:=by omega
  have hd:ns.drop i=ns[i]::ns.drop (i+1):=List.drop_eq_getElem_cons hlt
  have e:Yz b.v (ns.drop i)=(b.v.contains ns[i]&&Yz b.v (ns.drop (i+1))):=by rw[hd];rfl
  rw[e]
  refine Bv b ns i (ZC (YN hlt) ?_)
  have:=FD b ns (b.v.contains ns[i]&&Yz b.v (ns.drop (i+1))) hlt hl hn (fun h=>by rw[h];rfl) (fun h=>by rw[h,Bool.true_and];exact ih (i+1) (by omega)) b.v.length 0 (by omega)
  exact this
theorem Na: ∀ a:BoxT×List Str×Unit,(Zn a.1.v&&Zn a.2.1)=true->Zc Xq 0 (Za YU (Zg (Yz a.1.v a.2.1))) YW [] (Z5 OH (encL a)):=by
 rintro⟨b,ns,⟨⟩⟩ h
 simp only[Bool.and_eq_true]at h
 exact E1 b ns (RI b ns (Zx.1 h.1) (Zx.1 h.2) ns.length 0 (by omega))
end Go.Pl

namespace Go.Pl
open Go.RowKit
open Enc (enc dec is)
open EncL (encL decL isL)
theorem AO(b:BoxT)(p:List Int)(hb:b.v.length<=1000)(hp:p.length<=1000): ∀ (k i:Nat),k+i=min b.v.length p.length->1<=i ->
  At YA 1 (Wm 1 Yf fun r=> ∃ q q',r.1 = .pv q∧Sub q q'∧((.pv (.sl 2 false ((Zf b.v p).map enc)),[.row false 3 1 (p.map enc)],[]):AV×List AObj×List AObj)=(.pv q',r.2)) Yh 0 34 [(1,.row 0 p.length 0 p.length),(2,.ptr 1 0),(5,.row 2 i 0 i),(6,.pv (.int .i64 i))] [.obj (.row false 3 1 (p.map enc)),.obj (.box [.pv (enc b.v),.pv (.int .i64 b.m)]),.obj (.row false 63 2 ((Zf (b.v.take i) (p.take i)).map enc))]:=by
 intro k
 induction k with
 | zero=>
  intro i hi h1
  have hl:=V0 b.v p (i:=i) (by omega) (by omega)
  have fin : ∀ os,∃ q q',(AV.pv (PV.sl 2 false (List.drop 0 (List.take i (List.map (enc:Coef->PV) (Zf (b.v.take i) (p.take i))))))) = .pv q∧Sub q q'∧((.pv (.sl 2 false ((Zf b.v p).map enc)),os):AV×List AObj×List AObj)=(.pv q',os):=by
   intro os
   rw[List.drop_zero,List.take_of_length_le (by rw[List.length_map,hl];exact Nat.le_refl _),JL b.v p (by omega)]
   exact⟨_,_,rfl,Sub.refl _,rfl⟩
  by_cases hbl:i<b.v.length
  ·exact Ki b p.length p i i (Zf (b.v.take i) (p.take i)) (ZC (YN hbl) (ZI (ZY (by omega)) ⟨by simp[hl],fin _⟩))
  ·exact Ki b p.length p i i (Zf (b.v.take i) (p.take i)) (ZI (Xi hbl) ⟨by simp[hl],fin _⟩)
 | succ k ih=>
  intro i hi h1
  have hl:=V0 b.v p (i:=i) (by omega) (by omega)
  have hlt:i<b.v.length:=by omega
  have hlt2:i<p.length:=by omega
  have e:=UE hlt2
  refine Ki b p.length p i i (Zf (b.v.take i) (p.take i)) (ZC (YN hlt) (ZC (ZU (by omega)) ⟨Zs hlt rfl,Zw hlt ⟨by simp;omega,by simp;omega,?_,?_,?_⟩⟩))
  ·rw[e];rfl
  ·rw[List.length_map,hl]
   show((i==i)&&(i==i)&&decide ((i+1)*24<=1099511627776)&&decide (i+1<=1099511627776))=true
   rw[decide_eq_true (by omega),decide_eq_true (by omega)];simp
  ·have:=ih (i+1) (by omega) (by omega)
   rw[WN b.v p hlt hlt2,List.map_append,<- next (by omega)]at this
   rw[e]
   exact this
theorem R0: ∀ args os,XT args os=true->Zc YA os.length (Wm os.length Yf fun r=> ∃ p p',r.1 = .pv p∧Sub p p'∧VM args os=(.pv p',r.2)) Yh [] (YD B4 args os):=by
 intro args os h
 unfold XT at h
 split at h
 ·rename_i v k n m ty xs
  simp only[Bool.and_eq_true,beq_iff_eq,decide_eq_true_eq]at h
  obtain⟨⟨⟨⟨⟨⟨rfl,h2⟩,rfl⟩,h4⟩,h5⟩,h6⟩,h7⟩:=h
  obtain⟨p,hp⟩:=Yl h4
  have hp:PV.sl 1 false xs=PV.sl 1 false (p.map enc):=hp
  injection hp with _ _ hx
  subst hx
  obtain⟨bv,rfl⟩:=Yl h5
  rw[Enc.dec_enc]at h6
  rw[List.length_map]at h2
  subst h2
  have ev:VM [.pv (.agg [enc bv,.int .i64 k]),.row 0 p.length 0 p.length] [.row false 3 1 (p.map enc)]=(.pv (.sl 2 false ((Zf bv p).map enc)),[.row false 3 1 (p.map enc)],[]):=by
   show(AV.pv (.sl 2 false ((Zf (dec (enc bv:PV)) (DN (p.map enc))).map enc)),_,_)=_
   rw[Enc.dec_enc,J4]
  rw[ev]
  refine LZ ⟨bv,k⟩ p.length p ?_
  by_cases h0:min bv.length p.length=0
  ·have hz:Zf bv p=[]:=by
    rw[<- List.length_eq_zero_iff];unfold Zf;rw[List.length_zipWith];exact h0
   rw[hz]
   by_cases hbl:0<bv.length
   ·exact Kg ⟨bv,k⟩ p.length p ((0:Nat):Int) (ZC (YN hbl) (ZI (ZY (by omega)) ⟨_,_,rfl,Sub.sl0 0 2 true,rfl⟩))
   ·exact Kg ⟨bv,k⟩ p.length p ((0:Nat):Int) (ZI (Xi hbl) ⟨_,_,rfl,Sub.sl0 0 2 true,rfl⟩)
  ·have hlt:0<bv.length:=by omega
   have hlt2:0<p.length:=by omega
   have e:=UE hlt2
   refine Kg ⟨bv,k⟩ p.length p ((0:Nat):Int) (ZC (YN hlt) (ZC (ZU (by omega)) ⟨Zs hlt rfl,Zw hlt ⟨by simp;omega,by simp;omega,?_,?_⟩⟩))
   ·rw[e];rfl
   ·have:=AO ⟨bv,k⟩ p h6 h7 (min bv.length p.length - 1) 1 (by show min bv.length p.length - 1+1=min bv.length p.length;omega) (by omega)
    rw[show(1:Nat)=0+1 from rfl,WN bv p hlt hlt2]at this
    rw[e]
    exact this
 ·cases h
theorem RO(l:Lin)(hl:l.t.length<=1000000): ∀ (k i:Nat),k+i=l.t.length->1<=i ->
  At W8 0 (Za X7 (Zg (Zd l))) X5 0 22 [(1,.ptr 0 0),(3,.row 1 i 0 i),(4,.pv (.int .i64 i))] [.obj (.box [.pv (.int .i64 l.k),.pv (enc l.t)]),.obj (.row false 9 1 ((Pm l i).map enc))]:=by
 intro k
 induction k with
 | zero=>
  intro i hi h1
  obtain rfl:i=l.t.length:=by omega
  refine DJ l _ _ (Pm l l.t.length) (ZI (Xi (by omega)) ⟨by simp[Q9],?_⟩)
  rw[List.drop_zero,List.take_of_length_le (by rw[List.length_map,Q9 l (Nat.le_refl _)];exact Nat.le_refl _),Sy]
  exact ZO (x:=Zd l) rfl
 | succ k ih=>
  intro i hi h1
  have hlt:i<l.t.length:=by omega
  refine DJ l i i (Pm l i) (ZC (YN hlt) ⟨Zs hlt rfl,Zw hlt ⟨D4 (m:=1) (by rw[List.length_map,Q9 l (by omega)]) (by omega) (by omega),?_⟩⟩)
  have:=ih (i+1) (by omega) (by omega)
  rw[Kx l hlt,<- next (by omega)]at this
  exact this
theorem N9: ∀ a:Lin×Unit,decide (a.1.t.length<=1000000)=true->Zc W8 0 (Za X7 (Zg (Zd a.1))) X5 [] (Z5 L9 (encL a)):=by
 rintro⟨l,⟨⟩⟩ h
 have h:l.t.length<=1000000:=of_decide_eq_true h
 refine a0l l ?_
 by_cases h0:l.t.length=0
 ·refine DB l ((0:Nat):Int) (ZI (Xi (by omega)) ?_)
  have:Zd l=[]:=by unfold Zd;rw[List.length_eq_zero_iff.1 h0];rfl
  rw[this]
  exact⟨rfl,rfl⟩
 ·have hlt:0<l.t.length:=by omega
  refine DB l ((0:Nat):Int) (ZC (YN hlt) ⟨Zs hlt rfl,Zw hlt ?_⟩)
  have:=RO l h (l.t.length - 1) 1 (by omega) (by omega)
  rw[show(1:Nat)=0+1 from rfl,Kx l hlt]at this
  exact this
theorem T2(l:Lin)(s:List UInt8)(hl:l.t.length<=9223372036854775807): ∀ (k i:Nat),k+i=l.t.length ->
  At UC 0 (Za VD (Zg (Xl (l.t.drop i) s))) VF 0 27 [(1,.pv (.str s)),(2,.ptr 0 0),(5,.pv (.int .i64 i))] [.obj (.box [.pv (.int .i64 l.k),.pv (enc l.t)])]:=by
 intro k
 induction k with
 | zero=>
  intro i hi
  rw[List.drop_of_length_le (by omega)]
  exact Bs l s i (ZI (Xi (by omega)) (V3 rfl))
 | succ k ih=>
  intro i hi
  have hlt:i<l.t.length:=by omega
  have h:=ih (i+1) (by omega)
  rw[List.drop_eq_getElem_cons hlt,Yw]
  refine Bs l s i (ZC (YN hlt) ⟨Zs hlt rfl,Zw hlt (QR (fun h1=> ?_) fun h1=> ?_)⟩)
  ·have h1:l.t[i].v.s=s:=h1
   rw[if_pos h1]
   exact⟨Zs hlt rfl,Zw hlt (V3 rfl)⟩
  ·have h1 : ¬ l.t[i].v.s=s:=h1
   rw[if_neg h1,next (by omega)]
   exact h
theorem Pr: ∀ a:Lin×Str×Unit,Zn a.1.t=true->Zc UC 0 (Za VD (Zg (Xl a.1.t a.2.1.s))) VF [] (Z5 L6 (encL a)):=by
 rintro⟨l,⟨s⟩,⟨⟩⟩ h
 exact a6p l s (T2 l s (Zx.1 h) l.t.length 0 (by omega))
theorem a6q(l:Lin)(s:Str):(Qx l s).t.length<=l.t.length+1:=by
 unfold Qx
 split
 ·exact D1 l s 1
 ·omega
def a5z(l:Lin)(k:Int)(p:PV):Prop:=is (List Coef) p=true∧(dec p:List Coef)=l.t∧k=l.k
theorem TT{l:Lin}{k:Int}{p:PV}(h:a5z l k p):(dec (.agg [.int .i64 k,p]):Lin)=l∧is Lin (.agg [.int .i64 k,p])=true:=by
 obtain⟨h1,h2,h3⟩:=h
 refine⟨?_,?_⟩
 ·show(⟨k,dec p⟩:Lin)=l
  rw[h2,h3]
 ·show(true&&is (List Coef) p)=true
  rw[h1];rfl
theorem a2v(l:Lin):a5z l l.k (enc l.t):=⟨Enc.is_enc _,Enc.dec_enc _,rfl⟩
def KX(o l:Lin):Lin:=(Zd l).foldl Qx o
theorem Ok(ls:List Lin)(hls:ls.length<=1000)(hl : ∀ l∈ls,l.t.length<=1000)(R:List Str){i:Nat}(hi:i<ls.length)
  (hnext : ∀ l k p,a5z l k p->l=l->l.t.length<=1000*(i+1)->R=Zd ((ls.drop (i+1)).foldl KX l)->At Xw 0 (Za YV (Zg R)) YX 0 41 [(0,.pv (enc ls)),(3,.ptr 0 0),(4,.pv (.int .i64 ((i+1:Nat):Int)))] [.obj (.box [.pv (.int .i64 k),.pv p])]) :
  ∀ (d j:Nat) (l:Lin) (k:Int) (p:PV),d+j=ls[i].t.length->a5z l k p->l.t.length<=1000*i+j->R=Zd ((ls.drop (i+1)).foldl KX (((Zd ls[i]).drop j).foldl Qx l)) ->
  At Xw 0 (Za YV (Zg R)) YX 1 41 [(0,.pv (enc ls)),(3,.ptr 0 0),(4,.pv (.int .i64 i)),(5,.pv (.int .i64 j))] [.obj (.box [.pv (.int .i64 k),.pv p])]:=by
 have hli:=hl _ (List.getElem_mem hi)
 have hnl:(Zd ls[i]).length=ls[i].t.length:=by unfold Zd;rw[List.length_map]
 intro d
 induction d with
 | zero=>
  intro j l k p hd hp hlen hR
  refine BF ls k p i j ⟨Zs hi rfl,Zw hi (ZI (Xi (show ¬ j<ls[i].t.length by omega)) ?_)⟩
  rw[next (by omega)]
  refine hnext l k p hp rfl (by omega) ?_
  rw[hR,List.drop_of_length_le (by omega)]
  rfl
 | succ d ih=>
  intro j l k p hd hp hlen hR
  have hj:j<ls[i].t.length:=by omega
  have e1:List.getD (List.map (enc:Coef->PV) ls[i].t) (Int.toNat (j:Int)) default=enc ls[i].t[j]:=by simp[List.getD,hj]
  obtain⟨q1,q2⟩:=TT hp
  have hdr:(Zd ls[i]).drop j=ls[i].t[j].v::(Zd ls[i]).drop (j+1):=by
   rw[List.drop_eq_getElem_cons (by omega)]
   unfold Zd
   rw[List.getElem_map]
  rw[hdr,List.foldl_cons]at hR
  refine BF ls k p i j ⟨Zs hi rfl,Zw hi (ZC (YN hj) ⟨Zs hi rfl,Zw hi ⟨?_,?_,?_⟩⟩)⟩
  ·show(decide (0<=(j:Int))&&decide (Int.toNat (j:Int)<List.length (List.map (enc:Coef->PV) ls[i].t))&&2==2)=true
   simp;omega
  ·show(decide (0+List.length [Sh.str]<=List.length (List.drop 0 (PV.cells (List.getD (List.map (enc:Coef->PV) ls[i].t) (Int.toNat (j:Int)) default))))&&Y2 (List.drop 0 (PV.cells (List.getD (List.map (enc:Coef->PV) ls[i].t) (Int.toNat (j:Int)) default))) 0 [Sh.str])=true
   rw[e1];rfl
  ·have es:PV.asStr (List.getD (List.drop 0 (PV.cells (List.getD (PV.asXs (List.getD (List.drop 1 (PV.cells (enc ls[i]))) 0 default)) (Int.toNat (j:Int)) default))) 0 default)=ls[i].t[j].v.s:=by
    show PV.asStr (List.getD (List.drop 0 (PV.cells (List.getD (List.map (enc:Coef->PV) ls[i].t) (Int.toNat (j:Int)) default))) 0 default)=_
    rw[e1];rfl
   rw[es]
   refine⟨G1 (l,ls[i].t[j].v,()) ?_ ?_ (Zx.2 (by show l.t.length<=_;omega)),H6 (l,ls[i].t[j].v,()) ?_ (QR (fun h=> ?_) fun h=> ?_)⟩
   ·show(is Lin _&&(true&&true))=true
    rw[q2];rfl
   ·exact congrArg (fun z:Lin=>(z,ls[i].t[j].v,())) q1
   ·exact congrArg (fun z:Lin=>(z,ls[i].t[j].v,())) q1
   ·have h:Xl l.t ls[i].t[j].v.s=0:=h
    have hput:Qx l ls[i].t[j].v=W3 l ls[i].t[j].v 1:=by unfold Qx;rw[if_pos h]
    refine⟨G1 (l,ls[i].t[j].v,1,()) ?_ ?_ (by simp;omega),H6 (l,ls[i].t[j].v,1,()) ?_ ?_⟩
    ·show(is Lin _&&(true&&(true&&true)))=true
     rw[q2];rfl
    ·exact congrArg (fun z:Lin=>(z,ls[i].t[j].v,(1:Int),())) q1
    ·exact congrArg (fun z:Lin=>(z,ls[i].t[j].v,(1:Int),())) q1
    ·rw[next (by omega)]
     rw[hput]at hR
     have:=D1 l ls[i].t[j].v 1
     exact ih (j+1) _ _ _ (by omega) (a2v _) (by show(W3 l ls[i].t[j].v 1).t.length<=_;omega) hR
   ·have h : ¬ Xl l.t ls[i].t[j].v.s=0:=h
    have hput:Qx l ls[i].t[j].v=l:=by unfold Qx;rw[if_neg h]
    rw[next (by omega)]
    rw[hput]at hR
    exact ih (j+1) _ _ _ (by omega) hp (by omega) hR
theorem RF(ls:List Lin)(hls:ls.length<=1000)(hl : ∀ l∈ls,l.t.length<=1000): ∀ (d i:Nat) (l:Lin) (k:Int) (p:PV) (R:List Str),d+i=ls.length->a5z l k p->l.t.length<=1000*i->R=Zd ((ls.drop i).foldl KX l) ->
  At Xw 0 (Za YV (Zg R)) YX 0 41 [(0,.pv (enc ls)),(3,.ptr 0 0),(4,.pv (.int .i64 i))] [.obj (.box [.pv (.int .i64 k),.pv p])]:=by
 intro d
 induction d with
 | zero=>
  intro i l k p R hi hp hlen hR
  obtain⟨q1,q2⟩:=TT hp
  rw[List.drop_of_length_le (by omega)]at hR
  refine BL ls k p i (ZI (Xi (by omega)) ⟨G1 (l,()) ?_ ?_ (by simp;omega),H6 (l,()) ?_ ?_⟩)
  ·show(is Lin _&&true)=true
   rw[q2];rfl
  ·exact congrArg (fun z:Lin=>(z,())) q1
  ·exact congrArg (fun z:Lin=>(z,())) q1
  ·rw[hR]
   exact ZO (x:=Zd l) rfl
 | succ d ih=>
  intro i l k p R hi hp hlen hR
  have hlt:i<ls.length:=by omega
  rw[List.drop_eq_getElem_cons hlt,List.foldl_cons]at hR
  refine BL ls k p i (ZC (YN hlt) ?_)
  exact Ok ls hls hl R hlt (fun l' k' p' hp' _ hlen' hR'=>ih (i+1) l' k' p' R (by omega) hp' hlen' hR') ls[i].t.length 0 l k p (by omega) hp (by omega) hR
theorem Nw: ∀ a:List Lin×Unit,Vf a.1=true->Zc Xw 0 (Za YV (Zg (V5 a.1))) YX [] (Z5 Fh (encL a)):=by
 rintro⟨ls,⟨⟩⟩ h
 simp only[Vf,Bool.and_eq_true,decide_eq_true_eq,List.all_eq_true]at h
 obtain⟨h1,h2⟩:=h
 exact EI ls (RF ls h1 h2 ls.length 0 ⟨0,[]⟩ 0 _ _ (by omega) ⟨rfl,rfl,rfl⟩ (by simp) rfl)
theorem Pd{α:Type}[DecidableEq α](x y:α)(a b:List α):decide (x::a=y::b)=(decide (x=y)&&decide (a=b)):=by
 rw[Bool.eq_iff_iff];simp
theorem Rk(a b:List Int)(ha:a.length<=9223372036854775807)(hab:a.length=b.length): ∀ (k i:Nat),k+i=a.length ->
  At Uu 0 (Za Vm (Zg (decide (a.drop i=b.drop i)))) Vt 0 26 [(0,.pv (enc a)),(1,.pv (enc b)),(5,.pv (.int .i64 i))] []:=by
 intro k
 induction k with
 | zero=>
  intro i hi
  rw[List.drop_of_length_le (by omega),List.drop_of_length_le (by omega)]
  exact Bm a b i (ZI (Xi (by omega)) (ZK rfl))
 | succ k ih=>
  intro i hi
  have hlt:i<a.length:=by omega
  have hlt2:i<b.length:=by omega
  have h:=ih (i+1) (by omega)
  rw[List.drop_eq_getElem_cons hlt,List.drop_eq_getElem_cons hlt2,Pd]
  refine Bm a b i (ZC (YN hlt) ⟨Zs hlt rfl,Zw hlt ⟨Zs hlt2 rfl,Zw hlt2 ?_⟩⟩)
  show if (a[i] != b[i])=true then _ else _
  by_cases e:a[i]=b[i]
  ·rw[if_neg (by simp[e]),next (by omega),decide_eq_true e,Bool.true_and]
   exact h
  ·rw[if_pos (by simp[e]),decide_eq_false e,Bool.false_and]
   exact ZK rfl
theorem P5: ∀ x:List Int×List Int×Unit,Zn x.1=true->Zc Uu 0 (Za Vm (Zg (decide (x.1=x.2.1)))) Vt [] (Z5 LQ (encL x)):=by
 rintro⟨a,b,⟨⟩⟩ h
 refine a3b a b ?_
 simp only[List.length_map]
 by_cases e:a.length=b.length
 ·rw[if_neg (by simp[e])]
  exact Rk a b (Zx.1 h) e a.length 0 (by omega)
 ·rw[if_pos (by simp;omega)]
  exact ZK (by simp;rintro rfl;exact e rfl)
theorem A9(a b:List (List Int))(ha:a.length<=9223372036854775807)(hl : ∀ x∈a,Zn x=true)(hab:a.length=b.length): ∀ (k i:Nat),k+i=a.length ->
  At Vq 0 (Za WH (Zg (decide (a.drop i=b.drop i)))) WI 0 27 [(0,.pv (enc a)),(1,.pv (enc b)),(5,.pv (.int .i64 i))] []:=by
 intro k
 induction k with
 | zero=>
  intro i hi
  rw[List.drop_of_length_le (by omega),List.drop_of_length_le (by omega)]
  exact Cg a b i (ZI (Xi (by omega)) (ZK rfl))
 | succ k ih=>
  intro i hi
  have hlt:i<a.length:=by omega
  have hlt2:i<b.length:=by omega
  have h:=ih (i+1) (by omega)
  rw[List.drop_eq_getElem_cons hlt,List.drop_eq_getElem_cons hlt2,Pd]
  refine Cg a b i (ZC (YN hlt) ⟨Zs hlt rfl,Zw hlt ⟨Zs hlt2 rfl,Zw hlt2 ⟨Zj (a[i],b[i],()) rfl (hl _ (List.getElem_mem hlt)),Zh (a[i],b[i],()) rfl ?_⟩⟩⟩)
  show if (!(decide (a[i]=b[i])))=true then _ else _
  by_cases e:a[i]=b[i]
  ·rw[if_neg (by simp[e]),next (by omega),decide_eq_true e,Bool.true_and]
   exact h
  ·rw[if_pos (by simp[e]),decide_eq_false e,Bool.false_and]
   exact ZK rfl
theorem TI: ∀ x:List (List Int)×List (List Int)×Unit,(Zn x.1&&x.1.all Zn)=true->Zc Vq 0 (Za WH (Zg (decide (x.1=x.2.1)))) WI [] (Z5 Mo (encL x)):=by
 rintro⟨a,b,⟨⟩⟩ h
 simp only[Bool.and_eq_true,List.all_eq_true]at h
 refine OS a b ?_
 simp only[List.length_map]
 by_cases e:a.length=b.length
 ·rw[if_neg (by simp[e])]
  exact A9 a b (Zx.1 h.1) h.2 e a.length 0 (by omega)
 ·rw[if_pos (by simp;omega)]
  exact ZK (by simp;rintro rfl;exact e rfl)
def a0g(m:Int):Nat->Int->Int
 | 0,n=>n
 | k+1,n=>a0g m k (Gf (n*Gf (m+1)))
theorem Ja(b:BoxT)(fs:List Fact)(hl:b.v.length<=9223372036854775807)(hf:YP fs=true)(n:Int){P:Prop}{G:PV->Prop}(hG : ∀ x,x=(decide (b.v.length<=5)&&decide (n<=300)&&decide (fs.length<=6)&&GE fs 6)->G (.bool x)):
  if (decide ((↑(List.length (List.map (enc:Str->PV) (BoxT.v b))):Int)<=5))=true then if (decide (n<=300))=true then if (decide ((↑(List.length (List.map (enc:Fact->PV) fs)):Int)<=6))=true then
   (Go.Pl.preT (fun(x:List Fact×Int×Unit)=>YP (Prod.fst x)) [(.sl 3 false (List.map enc fs)),(.int .i64 6)])=true∧(∃ y1:Bool,AV.pv (Ze (fun(x:List Fact×Int×Unit)=>GE (Prod.fst x) (Prod.fst (Prod.snd x))) [(.sl 3 false (List.map enc fs)),(.int .i64 6)])=AV.pv (enc y1)∧(G ((.bool y1))))else(G ((.bool false)))else(G ((.bool false)))else(G ((.bool false))):=by
 simp only[List.length_map]
 refine Ww (fun h1=>Ww (fun h2=>Ww (fun h3=>⟨Zj (fs,6,()) rfl hf,Zh (fs,6,()) rfl (hG _ ?_)⟩) fun h3=>hG _ ?_) fun h2=>hG _ ?_) fun h1=>hG _ ?_
 ·rw[decide_eq_true (show b.v.length<=5 by omega),decide_eq_true h2,decide_eq_true (show fs.length<=6 by omega)];rfl
 ·rw[decide_eq_false (show ¬ fs.length<=6 by omega)];simp
 ·rw[decide_eq_false h2];simp
 ·rw[decide_eq_false (show ¬ b.v.length<=5 by omega)];simp
theorem Rv(b:BoxT)(fs:List Fact)(hb:ZA b=true)(hv:YC b=true)(hf:YP fs=true): ∀ (k i:Nat) (n:Int),k+i=b.v.length ->
  At W9 0 (Za X6 (Zg (decide (b.v.length<=5)&&decide (a0g b.m k n<=300)&&decide (fs.length<=6)&&GE fs 6))) Vp 0 40 [(1,.pv (enc fs)),(2,.ptr 0 0),(5,.pv (.int .i64 n)),(6,.pv (.int .i64 i))] [.obj (.box [.pv (enc b.v),.pv (.int .i64 b.m)])]:=by
 have hbo:=hb
 simp only[ZA,Wl,Bool.and_eq_true]at hb
 have hl:=Zx.1 hb.1
 intro k
 induction k with
 | zero=>
  intro i n hi
  exact Ky b fs n i (ZI (Xi (by omega)) (Ja (P:=True) b fs hl hf n fun x hx=>ZK hx))
 | succ k ih=>
  intro i n hi
  have hlt:i<b.v.length:=by omega
  refine Ky b fs n i (ZC (YN hlt) ⟨Zj (b,()) rfl hbo,Zh (b,()) rfl (ZC hv ?_)⟩)
  rw[next (by omega)]
  exact ih (i+1) _ (by omega)
theorem Tc(m:Nat): ∀ (l:List Str) (n r:Int),0<=n->n<=20000->JC m l n=some r->m<=20000->a0g m l.length n=Ms m l n
 | [],n,r,_,_,_,_=>rfl
 | s::l,n,r,h0,h1,h,hm=>by
  rw[JC]at h
  split at h
  ·cases h
  ·rename_i hn
   show a0g m l.length (Gf (n*Gf ((m:Int)+1)))=Ms m l (n*((m:Int)+1))
   have e0:0<=n*((m:Int)+1):=Int.mul_nonneg h0 (by omega)
   rw[XB (n:=(m:Int)+1) (by omega) (by omega),XB (by omega) (by omega)]
   exact Tc m l _ r e0 (by omega) h hm
theorem PC: ∀ x:BoxT×List Fact×Unit,(ZA x.1&&YP x.2.1)=true->Zc W9 0 (Za X6 (Zg (UL x.1 x.2.1))) Vp [] (Z5 Fa (encL x)):=by
 rintro⟨b,fs,⟨⟩⟩ h
 simp only[Bool.and_eq_true]at h
 obtain⟨hb,hf⟩:=h
 have hbo:=hb
 simp only[ZA,Wl,Bool.and_eq_true]at hb
 have hl:=Zx.1 hb.1
 refine a0h b fs ?_
 cases hv:YC b
 ·have ef:UL b fs=(decide (b.v.length<=5)&&decide ((1:Int)<=300)&&decide (fs.length<=6)&&GE fs 6):=by unfold UL;rw[hv];rfl
  show At W9 0 (Za X6 (Zg (UL b fs))) _ _ _ _ _
  rw[ef]
  by_cases h0:0<b.v.length
  ·refine Ky b fs 1 ((0:Nat):Int) (ZC (YN h0) ⟨Zj (b,()) rfl hbo,Zh (b,()) rfl (ZI (show ¬ YC b=true by simp[hv]) ?_)⟩)
   exact Ja (P:=True) b fs hl hf 1 fun x hx=>ZK hx
  ·exact Ky b fs 1 ((0:Nat):Int) (ZI (Xi h0) (Ja (P:=True) b fs hl hf 1 fun x hx=>ZK hx))
 ·have ef:UL b fs=(decide (b.v.length<=5)&&decide (a0g b.m b.v.length 1<=300)&&decide (fs.length<=6)&&GE fs 6):=by
   unfold UL
   rw[hv,if_pos rfl]
   obtain⟨_,_,h3,h4,h5⟩:=VY.1 hv
   obtain⟨r,hr⟩:=Option.isSome_iff_exists.1 h5
   rcases h3 with h3|h3
   ·rw[h3];rfl
   ·have e:b.m=(b.m.toNat:Int):=by omega
    rw[e]at hr ⊢
    rw[Tc _ _ _ _ (by decide) (by decide) hr (by omega)]
  show At W9 0 (Za X6 (Zg (UL b fs))) _ _ _ _ _
  rw[ef]
  exact Rv b fs hbo hv hf b.v.length 0 1 (by omega)
end Go.Pl

namespace Go.Pl
open Go.RowKit
open Enc (enc dec is)
open EncL (encL decL isL)
set_option maxRecDepth 100000
def Wc:IC:=(.seq (.reg [⟨(some 4),(.box 2 (.t 0)),0,none⟩,⟨(some 6),(.box 2 (.t 2)),1,none⟩,⟨(some 8),(.mv (.c (.int .i64 0))),2,none⟩] none) (.seq (.seq (.reg [⟨(some 11),(.load true [(.sl 1),(.int .i64)] (.t 4)),0,none⟩,⟨(some 12),(.call (.c (.fn 51)) [(.t 11)]),0,none⟩,⟨(some 13),(.un .not (.t 12)),2,none⟩,⟨(some 14),(.mv (.t 13)),2,none⟩,⟨(some 15),(.mv (.t 1)),2,(some (14,false))⟩,⟨(some 16),(.call (.c (.fn 35)) [(.t 15)]),2,(some (14,false))⟩,⟨(some 17),(.un .not (.t 16)),4,(some (14,false))⟩,⟨(some 18),(.pick (.t 14) (.c (.bool true)) (.t 17)),4,none⟩,⟨(some 19),(.mv (.t 18)),4,none⟩,⟨(some 20),(.load true [(.int .i64),(.sl 2)] (.t 6)),4,(some (19,false))⟩,⟨(some 21),(.call (.c (.fn 20)) [(.t 20)]),4,(some (19,false))⟩,⟨(some 22),(.un .not (.t 21)),6,(some (19,false))⟩,⟨(some 23),(.pick (.t 19) (.c (.bool true)) (.t 22)),6,none⟩,⟨(some 24),(.mv (.t 23)),6,none⟩,⟨(some 25),(.mv (.t 3)),6,(some (24,false))⟩,⟨(some 26),(.call (.c (.fn 131)) [(.t 25)]),6,(some (24,false))⟩,⟨(some 27),(.un .not (.t 26)),8,(some (24,false))⟩,⟨(some 28),(.pick (.t 24) (.c (.bool true)) (.t 27)),8,none⟩] none) (.cond (.t 28) (.seq (.reg [⟨(some 8),(.mv (.c (.int .i64 1))),0,none⟩] none) .ret) .skip)) (.seq (.reg [⟨(some 9),(.mv (.c (.sl 0 true []))),0,none⟩] none) (.seq (.seq (.reg [⟨(some 10),(.mv (.c (.int .i64 0))),0,none⟩] none) (.block 0 (.loop [10,1,9,4,6,3] (.seq (.seq (.reg [⟨(some 29),(.mv (.t 10)),0,none⟩,⟨(some 30),(.mv (.t 1)),0,none⟩,⟨(some 31),(.len 1 (.t 30)),0,none⟩,⟨(some 32),(.bin .num .lss (.t 29) (.t 31)),0,none⟩] none) (.cond (.t 32) .skip (.exit 0))) (.seq (.block 1 (.reg [⟨(some 35),(.mv (.t 9)),0,none⟩,⟨(some 36),(.mv (.t 1)),0,none⟩,⟨(some 37),(.mv (.t 10)),0,none⟩,⟨(some 38),(.iaddr 3 (.t 36) (.t 37)),0,none⟩,⟨(some 39),(.faddr 1 (.t 38)),0,none⟩,⟨(some 40),(.load true [(.int .i64),(.sl 2)] (.t 39)),0,none⟩,⟨(some 41),(.bslice 24 2 1 (.agg [(.int .i64 0),(.sl 0 true [])]) [(0,(.t 40))]),0,none⟩,⟨(some 42),(.append 24 2 32 (.t 35) (.t 41)),1,none⟩,⟨(some 9),(.mv (.t 42)),2,none⟩] none)) (.reg [⟨(some 33),(.mv (.t 10)),0,none⟩,⟨(some 34),(.bin .num .add (.t 33) (.c (.int .i64 1))),0,none⟩,⟨(some 10),(.mv (.t 34)),0,none⟩] none)))))) (.seq (.seq (.reg [⟨(some 43),(.load true [(.sl 1),(.int .i64)] (.t 4)),0,none⟩,⟨(some 44),(.mv (.t 9)),0,none⟩,⟨(some 45),(.load true [(.int .i64),(.sl 2)] (.t 6)),0,none⟩,⟨(some 46),(.bslice 24 2 1 (.agg [(.int .i64 0),(.sl 0 true [])]) [(0,(.t 45))]),0,none⟩,⟨(some 47),(.append 24 2 32 (.t 44) (.t 46)),1,none⟩,⟨(some 48),(.call (.c (.fn 180)) [(.t 47)]),2,none⟩,⟨(some 49),(.call (.c (.fn 179)) [(.t 43),(.t 48)]),4,none⟩,⟨(some 50),(.un .not (.t 49)),6,none⟩,⟨(some 51),(.mv (.t 50)),6,none⟩,⟨(some 52),(.load true [(.sl 1),(.int .i64)] (.t 4)),6,(some (51,false))⟩,⟨(some 53),(.mv (.t 3)),6,(some (51,false))⟩,⟨(some 54),(.call (.c (.fn 181)) [(.t 53)]),6,(some (51,false))⟩,⟨(some 55),(.call (.c (.fn 179)) [(.t 52),(.t 54)]),8,(some (51,false))⟩,⟨(some 56),(.un .not (.t 55)),10,(some (51,false))⟩,⟨(some 57),(.pick (.t 51) (.c (.bool true)) (.t 56)),10,none⟩] (some [[],[],[],[2],[1,3,2],[4,1,3,2],[0,5,4,1,3,2],[6,0,5,4,1,3,2],[7,6,0,5,4,1,3,2],[8,7,6,0,5,4,1,3,2],[8,7,6,0,5,4,1,3,2],[10,8,7,6,0,5,4,1,3,2],[9,11,8,7,6,0,5,4,1,3,2,10],[12,8,9,11,7,6,0,5,4,1,3,2,10],[8,13,7,6,0,5,4,1,3,2,12,9,11,10]])) (.cond (.t 57) (.seq (.reg [⟨(some 8),(.mv (.c (.int .i64 7))),0,none⟩] none) .ret) .skip)) (.seq (.reg [⟨(some 8),(.mv (.c (.int .i64 0))),0,none⟩] none) .ret))))))
def XO:List IRes:=[(.tmp 8)]
abbrev Fw:Nat:=58
def Wv:ZE:=Y6 [(51,.pure (preT (fun x:BoxT×Unit=>ZA x.1)) (Ze (fun x:BoxT×Unit=>YC x.1))),(35,.pure (preT (fun x:List Fact×Unit=>Zi x.1)) (Ze (fun x:List Fact×Unit=>Yk x.1))),(20,.pure (preT (fun x:Lin×Unit=>Yq x.1)) (Ze (fun x:Lin×Unit=>Zp x.1))),(131,.pure (preT (fun x:List Mono×Unit=>Y9 x.1)) (Ze (fun x:List Mono×Unit=>ZG x.1))),(180,.pure (preT (fun x:List Lin×Unit=>Vf x.1)) (Ze (fun x:List Lin×Unit=>V5 x.1))),(179,.pure (preT (fun x:BoxT×List Str×Unit=>Zn x.1.v&&Zn x.2.1)) (Ze (fun x:BoxT×List Str×Unit=>Yz x.1.v x.2.1))),(181,.pure (preT (fun x:List Mono×Unit=>Y9 x.1)) (Ze (fun x:List Mono×Unit=>WO x.1)))]
theorem a4c{G:PV->Prop}(b:BoxT)(fs:List Fact)(l:Lin)(p:List Mono)(h:(Go.Pl.preT (fun(x:BoxT×Unit)=>ZA x.1) [(.agg [(.sl 1 false (List.map enc b.v)),(.int .i64 b.m)])])=true∧(∃ y0:Bool,AV.pv (Ze (fun(x:BoxT×Unit)=>YC x.1) [(.agg [(.sl 1 false (List.map enc b.v)),(.int .i64 b.m)])])=AV.pv (enc y0)∧(if (!y0)=true then G ((.int .i64 1))else((Go.Pl.preT (fun(x:List Fact×Unit)=>Zi x.1) [(.sl 3 false (List.map enc fs))])=true∧(∃ y1:Bool,AV.pv (Ze (fun(x:List Fact×Unit)=>Yk x.1) [(.sl 3 false (List.map enc fs))])=AV.pv (enc y1)∧(if (!y1)=true then G ((.int .i64 1))else((Go.Pl.preT (fun(x:Lin×Unit)=>Yq x.1) [(.agg [(.int .i64 l.k),(.sl 2 false (List.map enc l.t))])])=true∧(∃ y2:Bool,AV.pv (Ze (fun(x:Lin×Unit)=>Zp x.1) [(.agg [(.int .i64 l.k),(.sl 2 false (List.map enc l.t))])])=AV.pv (enc y2)∧(if (!y2)=true then G ((.int .i64 1))else((Go.Pl.preT (fun(x:List Mono×Unit)=>Y9 x.1) [(.sl 2 false (List.map enc p))])=true∧(∃ y3:Bool,AV.pv (Ze (fun(x:List Mono×Unit)=>ZG x.1) [(.sl 2 false (List.map enc p))])=AV.pv (enc y3)∧(if (!y3)=true then G ((.int .i64 1))else(At Wv 0 (Za XO G) Wc 0 58 [(1,(.pv (.sl 3 false (List.map enc fs)))),(3,(.pv (.sl 2 false (List.map enc p)))),(4,(.ptr 0 0)),(6,(.ptr 1 0)),(9,(.pv (.sl 0 true []))),(10,(.pv (.int .i64 0)))] [(.obj (.box [(.pv (.sl 1 false (List.map enc b.v))),(.pv (.int .i64 b.m))])),(.obj (.box [(.pv (.int .i64 l.k)),(.pv (.sl 2 false (List.map enc l.t)))]))]))))))))))))):Zc Wv 0 (Za XO G) Wc [] (Z5 58 [enc b,enc fs,enc l,enc p]):=Zc.tp (.req (.abs (Bool) (fun YY=>AV.pv (enc YY)) (.ask (.lit (.lit (.lit (.lit (.lit (.lit (.lit (.lit (.lit (.lit (.lit (.lit (.nil))))))))))))) (.lit (.req (.abs (Bool) (fun YY=>AV.pv (enc YY)) (.lit (.lit (.ask (.lit (.lit (.lit (.lit (.lit (.lit (.lit (.lit (.nil))))))))) (.lit (.req (.abs (Bool) (fun YY=>AV.pv (enc YY)) (.lit (.lit (.ask (.lit (.lit (.lit (.lit (.nil))))) (.lit (.req (.abs (Bool) (fun YY=>AV.pv (enc YY)) (.lit (.lit (.ask (.nil) (.nil)))))))))))))))))))))) h (by kernel_rfl)
theorem Cx{G:PV->Prop}(b:BoxT)(fs:List Fact)(l:Lin)(p:List Mono)(i:Int)(h:if (decide (i<(↑(List.length (List.map enc fs)):Int)))=true then(decide (0<=i)&&decide (Int.toNat i<List.length (List.map enc fs))&&Enc.sz Fact==3)=true∧(∃ y0:Fact,AV.pv (PV.rptr (PV.cells (List.getD (List.map enc fs) (Int.toNat i) default)))=AV.pv (PV.rptr (PV.cells ((enc) y0)))∧(At Wv 0 (Za XO G) Wc 0 58 [(1,(.pv (.sl 3 false (List.map enc fs)))),(3,(.pv (.sl 2 false (List.map enc p)))),(4,(.ptr 0 0)),(6,(.ptr 1 0)),(9,(.row 2 1 0 1)),(10,(.pv (.int .i64 (IntKind.wrap IntKind.i64 (i+1)))))] [(.obj (.box [(.pv (.sl 1 false (List.map enc b.v))),(.pv (.int .i64 b.m))])),(.obj (.box [(.pv (.int .i64 l.k)),(.pv (.sl 2 false (List.map enc l.t)))])),(.obj (.row false 24 2 [(.agg [(.int .i64 (PV.asInt (List.getD (List.drop 1 (PV.cells (enc y0))) 0 default))),(.sl 2 false (PV.asXs (List.getD (List.drop 1 (PV.cells (enc y0))) (0+1) default)))])]))]))else((Go.Pl.preT (fun(x:List Lin×Unit)=>Vf x.1) [(.sl 2 false [(.agg [(.int .i64 l.k),(.sl 2 false (List.map enc l.t))])])])=true∧(∃ y1:List Str,AV.pv (Ze (fun(x:List Lin×Unit)=>V5 x.1) [(.sl 2 false [(.agg [(.int .i64 l.k),(.sl 2 false (List.map enc l.t))])])])=AV.pv (enc y1)∧((Go.Pl.preT (fun(x:BoxT×List Str×Unit)=>Zn x.1.v&&Zn x.2.1) [(.agg [(.sl 1 false (List.map enc b.v)),(.int .i64 b.m)]),(.sl 1 false (List.map enc y1))])=true∧(∃ y2:Bool,AV.pv (Ze (fun(x:BoxT×List Str×Unit)=>Yz x.1.v x.2.1) [(.agg [(.sl 1 false (List.map enc b.v)),(.int .i64 b.m)]),(.sl 1 false (List.map enc y1))])=AV.pv (enc y2)∧(if (!y2)=true then G ((.int .i64 7))else((Go.Pl.preT (fun(x:List Mono×Unit)=>Y9 x.1) [(.sl 2 false (List.map enc p))])=true∧(∃ y3:List Str,AV.pv (Ze (fun(x:List Mono×Unit)=>WO x.1) [(.sl 2 false (List.map enc p))])=AV.pv (enc y3)∧((Go.Pl.preT (fun(x:BoxT×List Str×Unit)=>Zn x.1.v&&Zn x.2.1) [(.agg [(.sl 1 false (List.map enc b.v)),(.int .i64 b.m)]),(.sl 1 false (List.map enc y3))])=true∧(∃ y4:Bool,AV.pv (Ze (fun(x:BoxT×List Str×Unit)=>Yz x.1.v x.2.1) [(.agg [(.sl 1 false (List.map enc b.v)),(.int .i64 b.m)]),(.sl 1 false (List.map enc y3))])=AV.pv (enc y4)∧(if (!y4)=true then G ((.int .i64 7))else(G ((.int .i64 0)))))))))))))):At Wv 0 (Za XO G) Wc 0 58 [(1,.pv (enc fs)),(3,.pv (enc p)),(4,.ptr 0 0),(6,.ptr 1 0),(9,.pv (.sl 0 true [])),(10,.pv (.int .i64 i))] [.obj (.box [.pv (enc b.v),.pv (.int .i64 b.m)]),.obj (.box [.pv (.int .i64 l.k),.pv (enc l.t)])]:=At.tp (.lit (.ask (.req (.abs (Fact) (fun YY=>AV.pv (PV.rptr (PV.cells ((enc) YY)))) (.lit (.lit (.lit (.lit (.lit (.lit (.lit (.nil)))))))))) (.lit (.lit (.lit (.lit (.lit (.lit (.req (.abs (List Str) (fun YY=>AV.pv (enc YY)) (.req (.abs (Bool) (fun YY=>AV.pv (enc YY)) (.ask (.lit (.lit (.lit (.lit (.lit (.lit (.nil))))))) (.lit (.lit (.req (.abs (List Str) (fun YY=>AV.pv (enc YY)) (.lit (.req (.abs (Bool) (fun YY=>AV.pv (enc YY)) (.lit (.lit (.ask (.nil) (.nil)))))))))))))))))))))))) h (by kernel_rfl)
theorem DA{G:PV->Prop}(b:BoxT)(fs:List Fact)(l:Lin)(p:List Mono)(i:Int)(q:Nat)(ls:List Lin)(h:if (decide (i<(↑(List.length (List.map enc fs)):Int)))=true then(decide (0<=i)&&decide (Int.toNat i<List.length (List.map enc fs))&&Enc.sz Fact==3)=true∧(∃ y0:Fact,AV.pv (PV.rptr (PV.cells (List.getD (List.map enc fs) (Int.toNat i) default)))=AV.pv (PV.rptr (PV.cells ((enc) y0)))∧((List.length (List.map enc ls)==q&&q==q&&decide ((q+List.length (List.drop 0 (List.take 1 [PV.agg (WT (List.drop 1 (PV.cells (enc y0))) 0 [Sh.int .i64,Sh.sl 2])])))*32<=1099511627776)&&decide (q+List.length (List.drop 0 (List.take 1 [PV.agg (WT (List.drop 1 (PV.cells (enc y0))) 0 [Sh.int .i64,Sh.sl 2])]))<=1099511627776))=true∧(At Wv 0 (Za XO G) Wc 0 58 [(1,(.pv (.sl 3 false (List.map enc fs)))),(3,(.pv (.sl 2 false (List.map enc p)))),(4,(.ptr 0 0)),(6,(.ptr 1 0)),(9,(.row 2 (q+List.length (List.drop 0 (List.take 1 [PV.agg (WT (List.drop 1 (PV.cells (enc y0))) 0 [Sh.int .i64,Sh.sl 2])]))) 0 (q+List.length (List.drop 0 (List.take 1 [PV.agg (WT (List.drop 1 (PV.cells (enc y0))) 0 [Sh.int .i64,Sh.sl 2])]))))),(10,(.pv (.int .i64 (IntKind.wrap IntKind.i64 (i+1)))))] [(.obj (.box [(.pv (.sl 1 false (List.map enc b.v))),(.pv (.int .i64 b.m))])),(.obj (.box [(.pv (.int .i64 l.k)),(.pv (.sl 2 false (List.map enc l.t)))])),(.obj (.row false 24 2 (List.map enc ls++List.drop 0 (List.take 1 [PV.agg (WT (List.drop 1 (PV.cells (enc y0))) 0 [Sh.int .i64,Sh.sl 2])]))))])))else((List.length (List.map enc ls)==q&&q==q&&decide ((q+List.length (List.drop 0 (List.take 1 [PV.agg [PV.int .i64 l.k,enc l.t]])))*32<=1099511627776)&&decide (q+List.length (List.drop 0 (List.take 1 [PV.agg [PV.int .i64 l.k,enc l.t]]))<=1099511627776))=true∧((List.length (List.map enc ls++List.drop 0 (List.take 1 [PV.agg [PV.int .i64 l.k,enc l.t]]))==q+List.length (List.drop 0 (List.take 1 [PV.agg [PV.int .i64 l.k,enc l.t]])))=true∧((Go.Pl.preT (fun(x:List Lin×Unit)=>Vf x.1) [(.sl 2 false (List.drop 0 (List.take (q+List.length (List.drop 0 (List.take 1 [PV.agg [PV.int .i64 l.k,enc l.t]]))) (List.map enc ls++List.drop 0 (List.take 1 [PV.agg [PV.int .i64 l.k,enc l.t]])))))])=true∧(∃ y1:List Str,AV.pv (Ze (fun(x:List Lin×Unit)=>V5 x.1) [(.sl 2 false (List.drop 0 (List.take (q+List.length (List.drop 0 (List.take 1 [PV.agg [PV.int .i64 l.k,enc l.t]]))) (List.map enc ls++List.drop 0 (List.take 1 [PV.agg [PV.int .i64 l.k,enc l.t]])))))])=AV.pv (enc y1)∧((Go.Pl.preT (fun(x:BoxT×List Str×Unit)=>Zn x.1.v&&Zn x.2.1) [(.agg [(.sl 1 false (List.map enc b.v)),(.int .i64 b.m)]),(.sl 1 false (List.map enc y1))])=true∧(∃ y2:Bool,AV.pv (Ze (fun(x:BoxT×List Str×Unit)=>Yz x.1.v x.2.1) [(.agg [(.sl 1 false (List.map enc b.v)),(.int .i64 b.m)]),(.sl 1 false (List.map enc y1))])=AV.pv (enc y2)∧(if (!y2)=true then G ((.int .i64 7))else((Go.Pl.preT (fun(x:List Mono×Unit)=>Y9 x.1) [(.sl 2 false (List.map enc p))])=true∧(∃ y3:List Str,AV.pv (Ze (fun(x:List Mono×Unit)=>WO x.1) [(.sl 2 false (List.map enc p))])=AV.pv (enc y3)∧((Go.Pl.preT (fun(x:BoxT×List Str×Unit)=>Zn x.1.v&&Zn x.2.1) [(.agg [(.sl 1 false (List.map enc b.v)),(.int .i64 b.m)]),(.sl 1 false (List.map enc y3))])=true∧(∃ y4:Bool,AV.pv (Ze (fun(x:BoxT×List Str×Unit)=>Yz x.1.v x.2.1) [(.agg [(.sl 1 false (List.map enc b.v)),(.int .i64 b.m)]),(.sl 1 false (List.map enc y3))])=AV.pv (enc y4)∧(if (!y4)=true then G ((.int .i64 7))else(G ((.int .i64 0)))))))))))))))):At Wv 0 (Za XO G) Wc 0 58 [(1,.pv (enc fs)),(3,.pv (enc p)),(4,.ptr 0 0),(6,.ptr 1 0),(9,.row 2 q 0 q),(10,.pv (.int .i64 i))] [.obj (.box [.pv (enc b.v),.pv (.int .i64 b.m)]),.obj (.box [.pv (.int .i64 l.k),.pv (enc l.t)]),.obj (.row false 24 2 (ls.map enc))]:=At.tp (.lit (.ask (.req (.abs (Fact) (fun YY=>AV.pv (PV.rptr (PV.cells ((enc) YY)))) (.lit (.lit (.lit (.req (.lit (.nil)))))))) (.lit (.lit (.req (.req (.req (.abs (List Str) (fun YY=>AV.pv (enc YY)) (.req (.abs (Bool) (fun YY=>AV.pv (enc YY)) (.ask (.lit (.lit (.lit (.lit (.lit (.lit (.nil))))))) (.lit (.lit (.req (.abs (List Str) (fun YY=>AV.pv (enc YY)) (.lit (.req (.abs (Bool) (fun YY=>AV.pv (enc YY)) (.lit (.lit (.ask (.nil) (.nil)))))))))))))))))))))) h (by kernel_rfl)
def Z4:IC:=(.seq (.reg [⟨(some 2),(.box 2 (.t 0)),0,none⟩,⟨(some 4),(.mv (.c (.sl 0 true []))),1,none⟩,⟨(some 5),(.mv (.c (.int .i64 0))),1,none⟩] none) (.seq (.seq (.reg [⟨(some 10),(.load true [(.sl 1),(.int .i64)] (.t 2)),0,none⟩,⟨(some 11),(.mv (.t 1)),0,none⟩,⟨(some 12),(.build [(.int .i64 0),(.sl 0 true [])] []),0,none⟩,⟨(some 13),(.call (.c (.fn 118)) [(.t 10),(.t 11),(.t 12),(.c (.sl 0 true []))]),0,none⟩,⟨(some 6),(.mv (.t 13)),2,none⟩] none) (.seq (.reg [⟨(some 14),(.mv (.t 6)),0,none⟩,⟨(some 15),(.bin .num .neq (.t 14) (.c (.int .i64 0))),0,none⟩] none) (.cond (.t 15) (.seq (.reg [⟨(some 16),(.mv (.t 6)),0,none⟩,⟨(some 4),(.mv (.c (.sl 0 true []))),0,none⟩,⟨(some 5),(.mv (.t 16)),0,none⟩] none) .ret) .skip))) (.seq (.reg [⟨(some 7),(.mv (.c (.sl 0 true []))),0,none⟩] none) (.seq (.reg [⟨(some 17),(.faddr 0 (.t 2)),0,none⟩,⟨(some 18),(.load false [(.sl 1)] (.t 17)),0,none⟩,⟨(some 19),(.len 1 (.t 18)),0,none⟩,⟨(some 20),(.mksl 3 1 8 (.int .i64 0) (.t 19) (.t 19)),0,none⟩,⟨(some 8),(.mv (.t 20)),1,none⟩] none) (.block 0 (.loop [1,2,8,7] (.block 1 (.seq (.seq (.reg [⟨(some 21),(.mv (.t 1)),0,none⟩,⟨(some 22),(.load true [(.sl 1),(.int .i64)] (.t 2)),0,none⟩,⟨(some 23),(.mv (.t 8)),0,none⟩,⟨(some 24),(.call (.c (.fn 49)) [(.t 22),(.t 23)]),0,none⟩,⟨(some 25),(.call (.c (.fn 53)) [(.t 21),(.t 24)]),2,none⟩] none) (.cond (.t 25) (.reg [⟨(some 26),(.mv (.t 7)),0,none⟩,⟨(some 27),(.bslice 3 1 0 (.int .i64 0) []),0,none⟩,⟨(some 28),(.mv (.t 8)),1,none⟩,⟨(some 29),(.append 3 1 8 (.t 27) (.t 28)),1,none⟩,⟨(some 30),(.bslice 34 1 1 (.sl 0 true []) [(0,(.t 29))]),2,none⟩,⟨(some 31),(.append 34 1 24 (.t 26) (.t 30)),3,none⟩,⟨(some 7),(.mv (.t 31)),4,none⟩] none) .skip)) (.seq (.reg [⟨(some 32),(.mv (.t 8)),0,none⟩,⟨(some 33),(.len 1 (.t 32)),0,none⟩,⟨(some 34),(.bin .num .sub (.t 33) (.c (.int .i64 1))),0,none⟩,⟨(some 9),(.mv (.t 34)),0,none⟩] none) (.seq (.block 2 (.loop [9,8,2,7,1] (.seq (.seq (.reg [⟨(some 35),(.mv (.t 9)),0,none⟩,⟨(some 36),(.bin .num .geq (.t 35) (.c (.int .i64 0))),0,none⟩,⟨(some 37),(.mv (.t 36)),0,none⟩,⟨(some 38),(.mv (.t 8)),0,(some (37,true))⟩,⟨(some 39),(.mv (.t 9)),0,(some (37,true))⟩,⟨(some 40),(.iaddr 1 (.t 38) (.t 39)),0,(some (37,true))⟩,⟨(some 41),(.load false [(.int .i64)] (.t 40)),0,(some (37,true))⟩,⟨(some 42),(.faddr 1 (.t 2)),0,(some (37,true))⟩,⟨(some 43),(.load false [(.int .i64)] (.t 42)),0,(some (37,true))⟩,⟨(some 44),(.bin .num .eql (.t 41) (.t 43)),0,(some (37,true))⟩,⟨(some 45),(.pick (.t 37) (.t 44) (.c (.bool false))),0,none⟩] (some [[],[0],[1,0],[2,1,0],[2,1,0],[3,4,2,1,0],[5,2,3,4,1,0],[2,1,0],[7,2,1,0],[6,8,2,5,3,4,1,0,7],[2,9,1,0,6,8,5,3,4,7]])) (.cond (.t 45) .skip (.exit 2))) (.block 3 (.seq (.reg [⟨(some 46),(.mv (.t 8)),0,none⟩,⟨(some 47),(.mv (.t 9)),0,none⟩,⟨(some 48),(.iaddr 1 (.t 46) (.t 47)),0,none⟩,⟨none,(.store 1 (.t 48) (.c (.int .i64 0))),0,none⟩] none) (.reg [⟨(some 49),(.mv (.t 9)),0,none⟩,⟨(some 50),(.bin .num .sub (.t 49) (.c (.int .i64 1))),0,none⟩,⟨(some 9),(.mv (.t 50)),0,none⟩] none)))))) (.seq (.seq (.reg [⟨(some 51),(.mv (.t 9)),0,none⟩,⟨(some 52),(.bin .num .lss (.t 51) (.c (.int .i64 0))),0,none⟩] none) (.cond (.t 52) (.seq (.reg [⟨(some 53),(.mv (.t 7)),0,none⟩,⟨(some 4),(.mv (.t 53)),0,none⟩,⟨(some 5),(.mv (.c (.int .i64 0))),0,none⟩] none) .ret) .skip)) (.reg [⟨(some 54),(.mv (.t 8)),0,none⟩,⟨(some 55),(.mv (.t 9)),0,none⟩,⟨(some 56),(.iaddr 1 (.t 54) (.t 55)),0,none⟩,⟨(some 57),(.load false [(.int .i64)] (.t 56)),0,none⟩,⟨(some 58),(.bin .num .add (.t 57) (.c (.int .i64 1))),0,none⟩,⟨(some 59),(.iaddr 1 (.t 54) (.t 55)),0,none⟩,⟨none,(.store 1 (.t 59) (.t 58)),0,none⟩] none))))))))))))
def Z3:List IRes:=[(.tmp 4),(.tmp 5)]
abbrev a8v:Nat:=60
def Yy:ZE:=Y6 [(118,.pure (preT (fun x:BoxT×List Fact×Lin×List Mono×Unit=>ZA x.1&&Zi x.2.1&&decide (x.2.1.length<=100)&&Yq x.2.2.1&&Y9 x.2.2.2.1)) (Ze (fun x:BoxT×List Fact×Lin×List Mono×Unit=>Zq x.1 x.2.1 (Zp x.2.2.1&&ZG x.2.2.2.1) (Zd x.2.2.1++WO x.2.2.2.1)))),(49,.own XT VM),(53,.pure (preT (fun x:List Fact×List Coef×Unit=>Zi x.1&&decide (x.2.1.length<=9223372036854775807))) (Ze (fun x:List Fact×List Coef×Unit=>x.1.all fun f=>Z1 f x.2.1)))]
theorem b4o{G:PV->Prop}(b:BoxT)(fs:List Fact)(h:(Go.Pl.preT (fun(x:BoxT×List Fact×Lin×List Mono×Unit)=>ZA x.1&&Zi x.2.1&&decide (List.length x.2.1<=100)&&Yq x.2.2.1&&Y9 x.2.2.2.1) [(.agg [(.sl 1 false (List.map enc b.v)),(.int .i64 b.m)]),(.sl 3 false (List.map enc fs)),(.agg [(.int .i64 0),(.sl 0 true [])]),(.sl 0 true [])])=true∧(∃ y0:Int,AV.pv (Ze (fun(x:BoxT×List Fact×Lin×List Mono×Unit)=>Zq x.1 x.2.1 (Zp x.2.2.1&&ZG x.2.2.2.1) (Zd x.2.2.1++WO x.2.2.2.1)) [(.agg [(.sl 1 false (List.map enc b.v)),(.int .i64 b.m)]),(.sl 3 false (List.map enc fs)),(.agg [(.int .i64 0),(.sl 0 true [])]),(.sl 0 true [])])=AV.pv (enc y0)∧(if (y0 != 0)=true then G ((.tup [(.sl 0 true []),(.int .i64 y0)]))else((decide (0<=(↑(List.length (List.map enc b.v)):Int))&&(↑(List.length (List.map enc b.v)):Int)==(↑(List.length (List.map enc b.v)):Int)&&decide ((↑(List.length (List.map enc b.v)):Int)*(↑8:Int)<=1099511627776)&&decide ((↑(List.length (List.map enc b.v)):Int)<=1099511627776))=true∧(At Yy 0 (Za Z3 G) Z4 0 60 [(1,(.pv (.sl 3 false (List.map enc fs)))),(2,(.ptr 0 0)),(7,(.pv (.sl 0 true []))),(8,(.row 1 (Int.toNat (↑(List.length (List.map enc b.v)):Int)) 0 (Int.toNat (↑(List.length (List.map enc b.v)):Int))))] [(.obj (.box [(.pv (.sl 1 false (List.map enc b.v))),(.pv (.int .i64 b.m))])),(.obj (.row false 3 1 (List.replicate (Int.toNat (↑(List.length (List.map enc b.v)):Int)) (PV.int .i64 0))))]))))):Zc Yy 0 (Za Z3 G) Z4 [] (Z5 60 [enc b,enc fs]):=Zc.tp (.req (.abs (Int) (fun YY=>AV.pv (enc YY)) (.lit (.ask (.nil) (.req (.nil)))))) h (by kernel_rfl)
theorem Ra{G:PV->Prop}(b:BoxT)(fs:List Fact)(n:Nat)(p:List Int)(h:(XT [(.pv (.agg [(.sl 1 false (List.map enc b.v)),(.int .i64 b.m)])),(.row 0 n 0 n)] [(.row false 3 1 (List.map enc p))])=true∧((Go.Pl.preT (fun(x:List Fact×List Coef×Unit)=>Zi x.1&&decide (List.length x.2.1<=9223372036854775807)) [(.sl 3 false (List.map enc fs)),(.sl 2 false (List.map enc (Zf (dec (enc b.v)) (DN (List.map enc p)))))])=true∧(∃ y0:Bool,AV.pv (Ze (fun(x:List Fact×List Coef×Unit)=>List.all x.1 fun(f:Fact)=>Z1 f x.2.1) [(.sl 3 false (List.map enc fs)),(.sl 2 false (List.map enc (Zf (dec (enc b.v)) (DN (List.map enc p)))))])=AV.pv (enc y0)∧(if (y0)=true then(List.length (List.map enc p)==n)=true∧((List.length ([]:List PV)==0&&0==0&&decide ((0+List.length (List.drop 0 (List.take n (List.map enc p))))*8<=1099511627776)&&decide (0+List.length (List.drop 0 (List.take n (List.map enc p)))<=1099511627776))=true∧((List.length (([]:List PV)++List.drop 0 (List.take n (List.map enc p)))==0+List.length (List.drop 0 (List.take n (List.map enc p))))=true∧(At Yy 0 (Za Z3 G) Z4 1 60 [(1,(.pv (.sl 3 false (List.map enc fs)))),(2,(.ptr 0 0)),(7,(.row 1 1 0 1)),(8,(.row 2 n 0 n)),(9,(.pv (.int .i64 (IntKind.wrap IntKind.i64 ((↑(n - 0):Int) - 1)))))] [(.obj (.box [(.pv (.sl 1 false (List.map enc b.v))),(.pv (.int .i64 b.m))])),(.obj (.row false 34 1 [(.sl 1 false (List.drop 0 (List.take (0+List.length (List.drop 0 (List.take n (List.map enc p)))) (([]:List PV)++List.drop 0 (List.take n (List.map enc p))))))])),(.obj (.row false 3 1 (List.map enc p)))])))else(At Yy 0 (Za Z3 G) Z4 1 60 [(1,(.pv (.sl 3 false (List.map enc fs)))),(2,(.ptr 0 0)),(7,(.pv (.sl 0 true []))),(8,(.row 1 n 0 n)),(9,(.pv (.int .i64 (IntKind.wrap IntKind.i64 ((↑(n - 0):Int) - 1)))))] [(.obj (.box [(.pv (.sl 1 false (List.map enc b.v))),(.pv (.int .i64 b.m))])),(.obj (.row false 3 1 (List.map enc p)))]))))):At Yy 0 (Za Z3 G) Z4 0 60 [(1,.pv (enc fs)),(2,.ptr 0 0),(8,.row 1 n 0 n),(7,.pv (.sl 0 true []))] [.obj (.box [.pv (enc b.v),.pv (.int .i64 b.m)]),.obj (.row false 3 1 (p.map enc))]:=At.tp (.req (.keep (.req (.abs (Bool) (fun YY=>AV.pv (enc YY)) (.ask (.lit (.req (.req (.req (.lit (.lit (.lit (.lit (.lit (.lit (.nil))))))))))) (.lit (.nil))))))) h (by kernel_rfl)
theorem R5{G:PV->Prop}(b:BoxT)(fs:List Fact)(n:Nat)(p:List Int)(q:Nat)(xs:List (List Int))(h:(XT [(.pv (.agg [(.sl 1 false (List.map enc b.v)),(.int .i64 b.m)])),(.row 0 n 0 n)] [(.row false 3 1 (List.map enc p))])=true∧((Go.Pl.preT (fun(x:List Fact×List Coef×Unit)=>Zi x.1&&decide (List.length x.2.1<=9223372036854775807)) [(.sl 3 false (List.map enc fs)),(.sl 2 false (List.map enc (Zf (dec (enc b.v)) (DN (List.map enc p)))))])=true∧(∃ y0:Bool,AV.pv (Ze (fun(x:List Fact×List Coef×Unit)=>List.all x.1 fun(f:Fact)=>Z1 f x.2.1) [(.sl 3 false (List.map enc fs)),(.sl 2 false (List.map enc (Zf (dec (enc b.v)) (DN (List.map enc p)))))])=AV.pv (enc y0)∧(if (y0)=true then(List.length (List.map enc p)==n)=true∧((List.length ([]:List PV)==0&&0==0&&decide ((0+List.length (List.drop 0 (List.take n (List.map enc p))))*8<=1099511627776)&&decide (0+List.length (List.drop 0 (List.take n (List.map enc p)))<=1099511627776))=true∧((List.length (([]:List PV)++List.drop 0 (List.take n (List.map enc p)))==0+List.length (List.drop 0 (List.take n (List.map enc p))))=true∧((List.length (List.map enc xs)==q&&q==q&&decide ((q+List.length (List.drop 0 (List.take 1 [PV.sl 1 false (List.drop 0 (List.take (0+List.length (List.drop 0 (List.take n (List.map enc p)))) (([]:List PV)++List.drop 0 (List.take n (List.map enc p)))))])))*24<=1099511627776)&&decide (q+List.length (List.drop 0 (List.take 1 [PV.sl 1 false (List.drop 0 (List.take (0+List.length (List.drop 0 (List.take n (List.map enc p)))) (([]:List PV)++List.drop 0 (List.take n (List.map enc p)))))]))<=1099511627776))=true∧(At Yy 0 (Za Z3 G) Z4 1 60 [(1,(.pv (.sl 3 false (List.map enc fs)))),(2,(.ptr 0 0)),(7,(.row 1 (q+List.length (List.drop 0 (List.take 1 [PV.sl 1 false (List.drop 0 (List.take (0+List.length (List.drop 0 (List.take n (List.map enc p)))) (([]:List PV)++List.drop 0 (List.take n (List.map enc p)))))]))) 0 (q+List.length (List.drop 0 (List.take 1 [PV.sl 1 false (List.drop 0 (List.take (0+List.length (List.drop 0 (List.take n (List.map enc p)))) (([]:List PV)++List.drop 0 (List.take n (List.map enc p)))))]))))),(8,(.row 2 n 0 n)),(9,(.pv (.int .i64 (IntKind.wrap IntKind.i64 ((↑(n - 0):Int) - 1)))))] [(.obj (.box [(.pv (.sl 1 false (List.map enc b.v))),(.pv (.int .i64 b.m))])),(.obj (.row false 34 1 (List.map enc xs++List.drop 0 (List.take 1 [PV.sl 1 false (List.drop 0 (List.take (0+List.length (List.drop 0 (List.take n (List.map enc p)))) (([]:List PV)++List.drop 0 (List.take n (List.map enc p)))))])))),(.obj (.row false 3 1 (List.map enc p)))]))))else(At Yy 0 (Za Z3 G) Z4 1 60 [(1,(.pv (.sl 3 false (List.map enc fs)))),(2,(.ptr 0 0)),(7,(.row 1 q 0 q)),(8,(.row 2 n 0 n)),(9,(.pv (.int .i64 (IntKind.wrap IntKind.i64 ((↑(n - 0):Int) - 1)))))] [(.obj (.box [(.pv (.sl 1 false (List.map enc b.v))),(.pv (.int .i64 b.m))])),(.obj (.row false 34 1 (List.map enc xs))),(.obj (.row false 3 1 (List.map enc p)))]))))):At Yy 0 (Za Z3 G) Z4 0 60 [(1,.pv (enc fs)),(2,.ptr 0 0),(7,.row 1 q 0 q),(8,.row 2 n 0 n)] [.obj (.box [.pv (enc b.v),.pv (.int .i64 b.m)]),.obj (.row false 34 1 (xs.map enc)),.obj (.row false 3 1 (p.map enc))]:=At.tp (.req (.keep (.req (.abs (Bool) (fun YY=>AV.pv (enc YY)) (.ask (.lit (.req (.req (.req (.lit (.lit (.req (.lit (.nil))))))))) (.lit (.nil))))))) h (by kernel_rfl)
theorem Rl{G:PV->Prop}(b:BoxT)(fs:List Fact)(n:Nat)(p:List Int)(k:Int)(h:if (decide (k ≥ 0))=true then(decide (0<=k)&&decide (0+Int.toNat k<n)&&List.length (List.map enc p)==n)=true∧((List.length (List.map enc p)==n&&decide (0+Int.toNat k<List.length (List.map enc p)))=true∧((decide (0+List.length [Sh.int .i64]<=List.length (PV.cells (List.getD (List.map enc p) (0+Int.toNat k) default)))&&Y2 (PV.cells (List.getD (List.map enc p) (0+Int.toNat k) default)) 0 [Sh.int .i64])=true∧(if (PV.asInt (List.getD (PV.cells (List.getD (List.map enc p) (0+Int.toNat k) default)) 0 default)==BoxT.m b)=true then(decide (0<=k)&&decide (0+Int.toNat k<n)&&List.length (List.map enc p)==n)=true∧((List.length (List.map enc p)==n&&decide (0+Int.toNat k<List.length (List.map enc p))&&List.length (PV.cells (PV.int .i64 0))==1&&decide (0+1<=List.length (PV.cells (List.getD (List.map enc p) (0+Int.toNat k) default)))&&PV.cellsOk (PV.int .i64 0))=true∧(At Yy 0 (Za Z3 G) Z4 1 60 [(1,(.pv (.sl 3 false (List.map enc fs)))),(2,(.ptr 0 0)),(7,(.pv (.sl 0 true []))),(8,(.row 1 n 0 n)),(9,(.pv (.int .i64 (IntKind.wrap IntKind.i64 (k - 1)))))] [(.obj (.box [(.pv (.sl 1 false (List.map enc b.v))),(.pv (.int .i64 b.m))])),(.obj (.row false 3 1 (List.set (List.map enc p) (0+Int.toNat k) (PV.withCells (List.getD (List.map enc p) (0+Int.toNat k) default) (splice (PV.cells (List.getD (List.map enc p) (0+Int.toNat k) default)) 0 (PV.cells (PV.int .i64 0)))))))]))else(if (decide (k<0))=true then G ((.tup [(.sl 0 true []),(.int .i64 0)]))else((decide (0<=k)&&decide (0+Int.toNat k<n)&&List.length (List.map enc p)==n)=true∧((List.length (List.map enc p)==n&&decide (0+Int.toNat k<List.length (List.map enc p)))=true∧((decide (0+List.length [Sh.int .i64]<=List.length (PV.cells (List.getD (List.map enc p) (0+Int.toNat k) default)))&&Y2 (PV.cells (List.getD (List.map enc p) (0+Int.toNat k) default)) 0 [Sh.int .i64])=true∧((decide (0<=k)&&decide (0+Int.toNat k<n)&&List.length (List.map enc p)==n)=true∧((List.length (List.map enc p)==n&&decide (0+Int.toNat k<List.length (List.map enc p))&&List.length (PV.cells (PV.int .i64 (IntKind.wrap IntKind.i64 (PV.asInt (List.getD (PV.cells (List.getD (List.map enc p) (0+Int.toNat k) default)) 0 default)+1))))==1&&decide (0+1<=List.length (PV.cells (List.getD (List.map enc p) (0+Int.toNat k) default)))&&PV.cellsOk (PV.int .i64 (IntKind.wrap IntKind.i64 (PV.asInt (List.getD (PV.cells (List.getD (List.map enc p) (0+Int.toNat k) default)) 0 default)+1))))=true∧(At Yy 0 (Za Z3 G) Z4 0 60 [(1,(.pv (.sl 3 false (List.map enc fs)))),(2,(.ptr 0 0)),(7,(.pv (.sl 0 true []))),(8,(.row 1 n 0 n))] [(.obj (.box [(.pv (.sl 1 false (List.map enc b.v))),(.pv (.int .i64 b.m))])),(.obj (.row false 3 1 (List.set (List.map enc p) (0+Int.toNat k) (PV.withCells (List.getD (List.map enc p) (0+Int.toNat k) default) (splice (PV.cells (List.getD (List.map enc p) (0+Int.toNat k) default)) 0 (PV.cells (PV.int .i64 (IntKind.wrap IntKind.i64 (PV.asInt (List.getD (PV.cells (List.getD (List.map enc p) (0+Int.toNat k) default)) 0 default)+1)))))))))]))))))))))else(if (decide (k<0))=true then G ((.tup [(.sl 0 true []),(.int .i64 0)]))else((decide (0<=k)&&decide (0+Int.toNat k<n)&&List.length (List.map enc p)==n)=true∧((List.length (List.map enc p)==n&&decide (0+Int.toNat k<List.length (List.map enc p)))=true∧((decide (0+List.length [Sh.int .i64]<=List.length (PV.cells (List.getD (List.map enc p) (0+Int.toNat k) default)))&&Y2 (PV.cells (List.getD (List.map enc p) (0+Int.toNat k) default)) 0 [Sh.int .i64])=true∧((decide (0<=k)&&decide (0+Int.toNat k<n)&&List.length (List.map enc p)==n)=true∧((List.length (List.map enc p)==n&&decide (0+Int.toNat k<List.length (List.map enc p))&&List.length (PV.cells (PV.int .i64 (IntKind.wrap IntKind.i64 (PV.asInt (List.getD (PV.cells (List.getD (List.map enc p) (0+Int.toNat k) default)) 0 default)+1))))==1&&decide (0+1<=List.length (PV.cells (List.getD (List.map enc p) (0+Int.toNat k) default)))&&PV.cellsOk (PV.int .i64 (IntKind.wrap IntKind.i64 (PV.asInt (List.getD (PV.cells (List.getD (List.map enc p) (0+Int.toNat k) default)) 0 default)+1))))=true∧(At Yy 0 (Za Z3 G) Z4 0 60 [(1,(.pv (.sl 3 false (List.map enc fs)))),(2,(.ptr 0 0)),(7,(.pv (.sl 0 true []))),(8,(.row 1 n 0 n))] [(.obj (.box [(.pv (.sl 1 false (List.map enc b.v))),(.pv (.int .i64 b.m))])),(.obj (.row false 3 1 (List.set (List.map enc p) (0+Int.toNat k) (PV.withCells (List.getD (List.map enc p) (0+Int.toNat k) default) (splice (PV.cells (List.getD (List.map enc p) (0+Int.toNat k) default)) 0 (PV.cells (PV.int .i64 (IntKind.wrap IntKind.i64 (PV.asInt (List.getD (PV.cells (List.getD (List.map enc p) (0+Int.toNat k) default)) 0 default)+1)))))))))])))))))):At Yy 0 (Za Z3 G) Z4 1 60 [(1,.pv (enc fs)),(2,.ptr 0 0),(8,.row 1 n 0 n),(7,.pv (.sl 0 true [])),(9,.pv (.int .i64 k))] [.obj (.box [.pv (enc b.v),.pv (.int .i64 b.m)]),.obj (.row false 3 1 (p.map enc))]:=At.tp (.lit (.ask (.lit (.lit (.req (.keep (.lit (.req (.req (.lit (.lit (.lit (.lit (.lit (.ask (.req (.keep (.req (.lit (.nil))))) (.lit (.ask (.nil) (.req (.keep (.req (.req (.lit (.req (.keep (.req (.nil)))))))))))))))))))))))) (.lit (.lit (.lit (.lit (.lit (.lit (.lit (.lit (.lit (.ask (.nil) (.req (.keep (.req (.req (.lit (.req (.keep (.req (.nil))))))))))))))))))))) h (by kernel_rfl)
theorem T3{G:PV->Prop}(b:BoxT)(fs:List Fact)(n:Nat)(p:List Int)(k:Int)(q:Nat)(xs:List (List Int))(h:if (decide (k ≥ 0))=true then(decide (0<=k)&&decide (0+Int.toNat k<n)&&List.length (List.map enc p)==n)=true∧((List.length (List.map enc p)==n&&decide (0+Int.toNat k<List.length (List.map enc p)))=true∧((decide (0+List.length [Sh.int .i64]<=List.length (PV.cells (List.getD (List.map enc p) (0+Int.toNat k) default)))&&Y2 (PV.cells (List.getD (List.map enc p) (0+Int.toNat k) default)) 0 [Sh.int .i64])=true∧(if (PV.asInt (List.getD (PV.cells (List.getD (List.map enc p) (0+Int.toNat k) default)) 0 default)==BoxT.m b)=true then(decide (0<=k)&&decide (0+Int.toNat k<n)&&List.length (List.map enc p)==n)=true∧((List.length (List.map enc p)==n&&decide (0+Int.toNat k<List.length (List.map enc p))&&List.length (PV.cells (PV.int .i64 0))==1&&decide (0+1<=List.length (PV.cells (List.getD (List.map enc p) (0+Int.toNat k) default)))&&PV.cellsOk (PV.int .i64 0))=true∧(At Yy 0 (Za Z3 G) Z4 1 60 [(1,(.pv (.sl 3 false (List.map enc fs)))),(2,(.ptr 0 0)),(7,(.row 1 q 0 q)),(8,(.row 2 n 0 n)),(9,(.pv (.int .i64 (IntKind.wrap IntKind.i64 (k - 1)))))] [(.obj (.box [(.pv (.sl 1 false (List.map enc b.v))),(.pv (.int .i64 b.m))])),(.obj (.row false 34 1 (List.map enc xs))),(.obj (.row false 3 1 (List.set (List.map enc p) (0+Int.toNat k) (PV.withCells (List.getD (List.map enc p) (0+Int.toNat k) default) (splice (PV.cells (List.getD (List.map enc p) (0+Int.toNat k) default)) 0 (PV.cells (PV.int .i64 0)))))))]))else(if (decide (k<0))=true then(List.length (List.map enc xs)==q)=true∧(G ((.tup [(.sl 1 false (List.drop 0 (List.take q (List.map enc xs)))),(.int .i64 0)])))else((decide (0<=k)&&decide (0+Int.toNat k<n)&&List.length (List.map enc p)==n)=true∧((List.length (List.map enc p)==n&&decide (0+Int.toNat k<List.length (List.map enc p)))=true∧((decide (0+List.length [Sh.int .i64]<=List.length (PV.cells (List.getD (List.map enc p) (0+Int.toNat k) default)))&&Y2 (PV.cells (List.getD (List.map enc p) (0+Int.toNat k) default)) 0 [Sh.int .i64])=true∧((decide (0<=k)&&decide (0+Int.toNat k<n)&&List.length (List.map enc p)==n)=true∧((List.length (List.map enc p)==n&&decide (0+Int.toNat k<List.length (List.map enc p))&&List.length (PV.cells (PV.int .i64 (IntKind.wrap IntKind.i64 (PV.asInt (List.getD (PV.cells (List.getD (List.map enc p) (0+Int.toNat k) default)) 0 default)+1))))==1&&decide (0+1<=List.length (PV.cells (List.getD (List.map enc p) (0+Int.toNat k) default)))&&PV.cellsOk (PV.int .i64 (IntKind.wrap IntKind.i64 (PV.asInt (List.getD (PV.cells (List.getD (List.map enc p) (0+Int.toNat k) default)) 0 default)+1))))=true∧(At Yy 0 (Za Z3 G) Z4 0 60 [(1,(.pv (.sl 3 false (List.map enc fs)))),(2,(.ptr 0 0)),(7,(.row 1 q 0 q)),(8,(.row 2 n 0 n))] [(.obj (.box [(.pv (.sl 1 false (List.map enc b.v))),(.pv (.int .i64 b.m))])),(.obj (.row false 34 1 (List.map enc xs))),(.obj (.row false 3 1 (List.set (List.map enc p) (0+Int.toNat k) (PV.withCells (List.getD (List.map enc p) (0+Int.toNat k) default) (splice (PV.cells (List.getD (List.map enc p) (0+Int.toNat k) default)) 0 (PV.cells (PV.int .i64 (IntKind.wrap IntKind.i64 (PV.asInt (List.getD (PV.cells (List.getD (List.map enc p) (0+Int.toNat k) default)) 0 default)+1)))))))))]))))))))))else(if (decide (k<0))=true then(List.length (List.map enc xs)==q)=true∧(G ((.tup [(.sl 1 false (List.drop 0 (List.take q (List.map enc xs)))),(.int .i64 0)])))else((decide (0<=k)&&decide (0+Int.toNat k<n)&&List.length (List.map enc p)==n)=true∧((List.length (List.map enc p)==n&&decide (0+Int.toNat k<List.length (List.map enc p)))=true∧((decide (0+List.length [Sh.int .i64]<=List.length (PV.cells (List.getD (List.map enc p) (0+Int.toNat k) default)))&&Y2 (PV.cells (List.getD (List.map enc p) (0+Int.toNat k) default)) 0 [Sh.int .i64])=true∧((decide (0<=k)&&decide (0+Int.toNat k<n)&&List.length (List.map enc p)==n)=true∧((List.length (List.map enc p)==n&&decide (0+Int.toNat k<List.length (List.map enc p))&&List.length (PV.cells (PV.int .i64 (IntKind.wrap IntKind.i64 (PV.asInt (List.getD (PV.cells (List.getD (List.map enc p) (0+Int.toNat k) default)) 0 default)+1))))==1&&decide (0+1<=List.length (PV.cells (List.getD (List.map enc p) (0+Int.toNat k) default)))&&PV.cellsOk (PV.int .i64 (IntKind.wrap IntKind.i64 (PV.asInt (List.getD (PV.cells (List.getD (List.map enc p) (0+Int.toNat k) default)) 0 default)+1))))=true∧(At Yy 0 (Za Z3 G) Z4 0 60 [(1,(.pv (.sl 3 false (List.map enc fs)))),(2,(.ptr 0 0)),(7,(.row 1 q 0 q)),(8,(.row 2 n 0 n))] [(.obj (.box [(.pv (.sl 1 false (List.map enc b.v))),(.pv (.int .i64 b.m))])),(.obj (.row false 34 1 (List.map enc xs))),(.obj (.row false 3 1 (List.set (List.map enc p) (0+Int.toNat k) (PV.withCells (List.getD (List.map enc p) (0+Int.toNat k) default) (splice (PV.cells (List.getD (List.map enc p) (0+Int.toNat k) default)) 0 (PV.cells (PV.int .i64 (IntKind.wrap IntKind.i64 (PV.asInt (List.getD (PV.cells (List.getD (List.map enc p) (0+Int.toNat k) default)) 0 default)+1)))))))))])))))))):At Yy 0 (Za Z3 G) Z4 1 60 [(1,.pv (enc fs)),(2,.ptr 0 0),(7,.row 1 q 0 q),(8,.row 2 n 0 n),(9,.pv (.int .i64 k))] [.obj (.box [.pv (enc b.v),.pv (.int .i64 b.m)]),.obj (.row false 34 1 (xs.map enc)),.obj (.row false 3 1 (p.map enc))]:=At.tp (.lit (.ask (.lit (.lit (.req (.keep (.lit (.req (.req (.lit (.lit (.lit (.lit (.lit (.ask (.req (.keep (.req (.lit (.nil))))) (.lit (.ask (.req (.nil)) (.req (.keep (.req (.req (.lit (.req (.keep (.req (.nil)))))))))))))))))))))))) (.lit (.lit (.lit (.lit (.lit (.lit (.lit (.lit (.lit (.ask (.req (.nil)) (.req (.keep (.req (.req (.lit (.req (.keep (.req (.nil))))))))))))))))))))) h (by kernel_rfl)
end Go.Pl

namespace Go.Pl
open Go.RowKit
open Enc (enc dec is)
open EncL (encL decL isL)
theorem HL{ts:List Coef}(hn:nzP ts)(x:Str):x∈ts.map (·.v) ↔ Xl ts x.s≠0:=by
 induction ts with
 | nil=>simp[Xl]
 | cons t ts ih=>
  have h1:t.c≠0:=hn t (by simp)
  have h2:nzP ts:=fun u hu=>hn u (by simp[hu])
  rw[Yw,List.map_cons,List.mem_cons]
  by_cases e:t.v.s=x.s
  ·rw[if_pos e]
   have:x=t.v:=by cases x;cases h:t.v;rw[h]at e;exact congrArg Str.mk e.symm
   exact⟨fun _=>h1,fun _=>.inl this⟩
  ·rw[if_neg e,<- ih h2]
   exact⟨fun h=>h.resolve_left fun e2=>e (by rw[e2]),.inr⟩
theorem b0n{l:Lin}(s:Str)(ha:KQ l.t)(hn:nzP l.t):KQ (Qx l s).t∧nzP (Qx l s).t∧ ∀ x,x∈Zd (Qx l s) ↔ x=s∨x∈Zd l:=by
 unfold Qx
 by_cases h:Xl l.t s.s=0
 ·rw[if_pos h]
  refine⟨a3k s 1 ha,M3 l s 1,fun x=> ?_⟩
  unfold Zd
  rw[HL (M3 l s 1),HL hn,Fi s (c:=1) (by decide) ha]
  by_cases e:s.s=x.s
  ·rw[if_pos e,h]
   have:x=s:=by cases x;cases s;exact congrArg Str.mk e.symm
   exact⟨fun _=>.inl this,fun _=>by decide⟩
  ·rw[if_neg e]
   exact⟨.inr,fun h=>h.resolve_left fun e2=>e (by rw[e2])⟩
 ·rw[if_neg h]
  refine⟨ha,hn,fun x=>⟨.inr,fun hx=> ?_⟩⟩
  rcases hx with rfl|hx
  ·unfold Zd;rw[HL hn];exact h
  ·exact hx
theorem TZ: ∀ (ss:List Str) {l:Lin},KQ l.t->nzP l.t->KQ (ss.foldl Qx l).t∧nzP (ss.foldl Qx l).t∧ ∀ x,x∈Zd (ss.foldl Qx l) ↔ x∈ss∨x∈Zd l
 | [],l,ha,hn=>⟨ha,hn,fun x=>by simp⟩
 | s::ss,l,ha,hn=>by
  obtain⟨h1,h2,h3⟩:=b0n s ha hn
  obtain⟨k1,k2,k3⟩:=TZ ss h1 h2
  refine⟨k1,k2,fun x=> ?_⟩
  rw[List.foldl_cons,k3,h3,List.mem_cons]
  constructor
  ·rintro(h|h|h)
   ·exact .inl (.inr h)
   ·exact .inl (.inl h)
   ·exact .inr h
  ·rintro((h|h)|h)
   ·exact .inr (.inl h)
   ·exact .inl h
   ·exact .inr (.inr h)
theorem Au: ∀ (ls:List Lin) {l:Lin},KQ l.t->nzP l.t-> ∀ x,x∈Zd (ls.foldl KX l) ↔ x∈ls.flatMap Zd∨x∈Zd l
 | [],l,ha,hn,x=>by simp
 | a::ls,l,ha,hn,x=>by
  obtain⟨h1,h2,h3⟩:=TZ (Zd a) ha hn
  rw[List.foldl_cons,Au ls (l:=KX l a) h1 h2,List.flatMap_cons,List.mem_append]
  show _∨x∈Zd (List.foldl Qx l (Zd a)) ↔ _
  rw[h3]
  constructor
  ·rintro(h|h|h)
   ·exact .inl (.inr h)
   ·exact .inl (.inl h)
   ·exact .inr h
  ·rintro((h|h)|h)
   ·exact .inr (.inl h)
   ·exact .inl h
   ·exact .inr (.inr h)
theorem OG(ls:List Lin)(x:Str):x∈V5 ls ↔ x∈ls.flatMap Zd:=by
 have:=Au ls (l:=⟨0,[]⟩) (List.Pairwise.nil) (fun t ht=>by cases ht) x
 exact this.trans ⟨fun h=>h.resolve_right (fun h=>by cases h),Or.inl⟩
theorem LK{v a b:List Str}(h : ∀ x,x∈a ↔ x∈b):Yz v a=Yz v b:=by
 rw[Bool.eq_iff_iff]
 unfold Yz
 rw[List.all_eq_true,List.all_eq_true]
 exact⟨fun k x hx=>k x ((h x).2 hx),fun k x hx=>k x ((h x).1 hx)⟩
theorem KA(v a b:List Str):Yz v (a++b)=(Yz v a&&Yz v b):=by unfold Yz;rw[List.all_append]
def H8(b:BoxT)(fs:List Fact)(l:Lin)(p:List Mono):Int:=Zq b fs (Zp l&&ZG p) (Zd l++WO p)
theorem b5h{b:BoxT}{fs:List Fact}{l:Lin}{p:List Mono}(h1:YC b=true)(h2:Yk fs=true)(h3:Zp l=true)(h4:ZG p=true):
  H8 b fs l p=if !(Yz b.v (V5 (fs.map (·.l)++[l])))then 7 else if !(Yz b.v (WO p))then 7 else 0:=by
 unfold H8 Zq
 have e:Yz b.v (V5 (fs.map (·.l)++[l]))=(Yz b.v (Zd l)&&Yz b.v (fs.flatMap fun f=>Zd f.l)):=by
  rw[<- KA]
  refine LK fun x=> ?_
  rw[OG,List.flatMap_append,List.mem_append,List.mem_append,List.flatMap_map]
  simp only[List.flatMap_cons,List.flatMap_nil,List.append_nil]
  exact Or.comm
 rw[h1,h2,h3,h4,e,if_neg (by simp),KA,KA]
 cases Yz b.v (Zd l) <;> cases Yz b.v (WO p) <;> cases Yz b.v (fs.flatMap fun f=>Zd f.l) <;> rfl
theorem a4g(ls:List Lin)(h:Vf ls=true):(V5 ls).length<=9223372036854775807:=by
 simp only[Vf,Bool.and_eq_true,decide_eq_true_eq,List.all_eq_true]at h
 have in1 : ∀ (ss:List Str) (l:Lin),(ss.foldl Qx l).t.length<=l.t.length+ss.length:=by
  intro ss
  induction ss with
  | nil=>intro l;simp
  | cons s ss ih=>intro l;rw[List.foldl_cons];have:=ih (Qx l s);have:=a6q l s;rw[List.length_cons];omega
 have in2 : ∀ (ls:List Lin),(∀ l∈ls,l.t.length<=1000)-> ∀ l:Lin,(ls.foldl KX l).t.length<=l.t.length+1000*ls.length:=by
  intro ls
  induction ls with
  | nil=>intro _ l;simp
  | cons a ls ih=>
   intro hl l
   rw[List.foldl_cons]
   have h1:=ih (fun x hx=>hl x (by simp[hx])) (KX l a)
   have h2:=in1 (Zd a) l
   have h3:=hl a (by simp)
   have h4:(Zd a).length=a.t.length:=by unfold Zd;rw[List.length_map]
   unfold KX at h1 ⊢
   rw[List.length_cons]
   omega
 have:=in2 ls h.2 ⟨0,[]⟩
 have e:(V5 ls).length=(ls.foldl KX ⟨0,[]⟩).t.length:=by
  show(Zd (ls.foldl KX ⟨0,[]⟩)).length=_
  unfold Zd
  rw[List.length_map]
 have e0:((⟨0,[]⟩:Lin).t).length=0:=rfl
 omega
theorem b1v(p:List Mono)(h:Y9 p=true):(WO p).length<=9223372036854775807:=by
 have:p=[]:=by simpa [Y9]using h
 subst this
 decide
theorem Dj(b:BoxT)(fs:List Fact)(l:Lin)(p:List Mono)(h1:YC b=true)(h2:Yk fs=true)(h3:Zp l=true)(h4:ZG p=true)(hb:Zn b.v=true)(hp:Y9 p=true)(hfl:fs.length<=100):
  (Go.Pl.preT (fun(x:List Lin×Unit)=>Vf (Prod.fst x)) [(.sl 2 false (List.map enc (fs.map (·.l)++[l])))])=true∧(∃ y1:List Str,AV.pv (Ze (fun(x:List Lin×Unit)=>V5 (Prod.fst x)) [(.sl 2 false (List.map enc (fs.map (·.l)++[l])))])=AV.pv (enc y1) ∧
   ((Go.Pl.preT (fun(x:BoxT×List Str×Unit)=>Zn (BoxT.v (Prod.fst x))&&Zn (Prod.fst (Prod.snd x))) [(.agg [(.sl 1 false (List.map enc (BoxT.v b))),(.int .i64 (BoxT.m b))]),(.sl 1 false (List.map enc y1))])=true ∧
   (∃ y2:Bool,AV.pv (Ze (fun(x:BoxT×List Str×Unit)=>Yz (BoxT.v (Prod.fst x)) (Prod.fst (Prod.snd x))) [(.agg [(.sl 1 false (List.map enc (BoxT.v b))),(.int .i64 (BoxT.m b))]),(.sl 1 false (List.map enc y1))])=AV.pv (enc y2) ∧
   (if (!y2)=true then Zg (H8 b fs l p) ((.int .i64 7))else((Go.Pl.preT (fun(x:List Mono×Unit)=>Y9 (Prod.fst x)) [(.sl 2 false (List.map enc p))])=true ∧
   (∃ y3:List Str,AV.pv (Ze (fun(x:List Mono×Unit)=>WO (Prod.fst x)) [(.sl 2 false (List.map enc p))])=AV.pv (enc y3) ∧
   ((Go.Pl.preT (fun(x:BoxT×List Str×Unit)=>Zn (BoxT.v (Prod.fst x))&&Zn (Prod.fst (Prod.snd x))) [(.agg [(.sl 1 false (List.map enc (BoxT.v b))),(.int .i64 (BoxT.m b))]),(.sl 1 false (List.map enc y3))])=true ∧
   (∃ y4:Bool,AV.pv (Ze (fun(x:BoxT×List Str×Unit)=>Yz (BoxT.v (Prod.fst x)) (Prod.fst (Prod.snd x))) [(.agg [(.sl 1 false (List.map enc (BoxT.v b))),(.int .i64 (BoxT.m b))]),(.sl 1 false (List.map enc y3))])=AV.pv (enc y4) ∧
   (if (!y4)=true then Zg (H8 b fs l p) ((.int .i64 7))else(Zg (H8 b fs l p) ((.int .i64 0)))))))))))):=by
 have hv6:Vf (fs.map (·.l)++[l])=true:=by
  simp only[Vf,Bool.and_eq_true,decide_eq_true_eq,List.all_eq_true]
  refine⟨by simp;omega,fun x hx=> ?_⟩
  have hx2:Zp x=true:=by
   rcases List.mem_append.1 hx with hx|hx
   ·obtain⟨f,hf,rfl⟩:=List.mem_map.1 hx
    exact List.all_eq_true.1 h2 f hf
   ·rw[List.mem_singleton.1 hx];exact h3
  have:=Bc hx2
  omega
 refine⟨Zj ((fs.map (·.l)++[l]),()) rfl hv6,Zh ((fs.map (·.l)++[l]),()) rfl ⟨Zj (b,V5 (fs.map (·.l)++[l]),()) rfl (by
  show(Zn b.v&&Zn (V5 (fs.map (·.l)++[l])))=true
  rw[hb,Zx.2 (a4g _ hv6)];rfl),Zh (b,V5 (fs.map (·.l)++[l]),()) rfl ?_⟩⟩
 rw[b5h h1 h2 h3 h4]
 refine XZ (fun h=> ?_) fun h=>⟨Zj (p,()) rfl hp,Zh (p,()) rfl ⟨Zj (b,WO p,()) rfl (by
  show(Zn b.v&&Zn (WO p))=true
  rw[hb,Zx.2 (b1v p hp)];rfl),Zh (b,WO p,()) rfl ?_⟩⟩
 ·have h:Yz b.v (V5 (fs.map (·.l)++[l]))=false:=h
  rw[h];exact V3 rfl
 ·have h:Yz b.v (V5 (fs.map (·.l)++[l]))=true:=h
  rw[h]
  refine XZ (fun h5=> ?_) fun h5=> ?_
  ·have h5:Yz b.v (WO p)=false:=h5
   rw[h5];exact V3 rfl
  ·have h5:Yz b.v (WO p)=true:=h5
   rw[h5];exact V3 rfl
theorem a4t(f:Fact):PV.agg (WT (List.drop 1 (PV.cells (enc f))) 0 [Sh.int .i64,Sh.sl 2])=enc f.l:=rfl
theorem Tu(b:BoxT)(fs:List Fact)(l:Lin)(p:List Mono)(h1:YC b=true)(h2:Yk fs=true)(h3:Zp l=true)(h4:ZG p=true)(hb:Zn b.v=true)(hp:Y9 p=true)(hfl:fs.length<=100): ∀ (d i:Nat),d+i=fs.length->1<=i ->
  At Wv 0 (Za XO (Zg (H8 b fs l p))) Wc 0 58 [(1,.pv (enc fs)),(3,.pv (enc p)),(4,.ptr 0 0),(6,.ptr 1 0),(9,.row 2 i 0 i),(10,.pv (.int .i64 i))] [.obj (.box [.pv (enc b.v),.pv (.int .i64 b.m)]),.obj (.box [.pv (.int .i64 l.k),.pv (enc l.t)]),.obj (.row false 24 2 (((fs.take i).map (·.l)).map enc))]:=by
 intro d
 induction d with
 | zero=>
  intro i hi h1'
  have htk:fs.take i=fs:=List.take_of_length_le (by omega)
  have hmi:(List.map (enc:Lin->PV) (fs.map (·.l))).length=i:=by simp;omega
  rw[htk]
  apply DA (G:=Zg (H8 b fs l p)) b fs l p i i (fs.map (·.l))
  apply ZI (Xi (by omega))
  refine⟨?_,?_,?_⟩
  ·rw[hmi]
   show((i==i)&&(i==i)&&decide ((i+1)*32<=1099511627776)&&decide (i+1<=1099511627776))=true
   rw[decide_eq_true (by omega),decide_eq_true (by omega)];simp
  ·rw[List.length_append,hmi];simp
  ·have e:List.map (enc:Lin->PV) (fs.map (·.l))++List.drop 0 (List.take 1 [PV.agg [PV.int .i64 l.k,enc l.t]])=List.map enc (fs.map (·.l)++[l]):=by rw[List.map_append];rfl
   have e2:List.drop 0 (List.take (i+List.length (List.drop 0 (List.take 1 [PV.agg [PV.int .i64 l.k,enc l.t]]))) (List.map (enc:Lin->PV) (fs.map (·.l)++[l])))=List.map enc (fs.map (·.l)++[l]):=by
    rw[List.drop_zero,List.take_of_length_le (by rw[List.map_append,List.length_append,hmi];simp)]
   rw[e,e2]
   exact Dj b fs l p h1 h2 h3 h4 hb hp hfl
 | succ d ih=>
  intro i hi h1'
  have hlt:i<fs.length:=by omega
  apply DA (G:=Zg (H8 b fs l p)) b fs l p i i ((fs.take i).map (·.l))
  apply ZC (YN hlt)
  refine⟨Zs hlt rfl,Zw hlt ⟨?_,?_⟩⟩
  ·rw[a4t]
   have hq:(List.map (enc:Lin->PV) ((fs.take i).map (·.l))).length=i:=by simp;omega
   rw[hq]
   show((i==i)&&(i==i)&&decide ((i+1)*32<=1099511627776)&&decide (i+1<=1099511627776))=true
   rw[decide_eq_true (by omega),decide_eq_true (by omega)];simp
  ·rw[a4t,next (by omega)]
   have:=ih (i+1) (by omega) (by omega)
   rw[List.take_succ_eq_append_getElem hlt,List.map_append,List.map_append]at this
   exact this
theorem NW: ∀ x:BoxT×List Fact×Lin×List Mono×Unit,(ZA x.1&&Zi x.2.1&&decide (x.2.1.length<=100)&&Yq x.2.2.1&&Y9 x.2.2.2.1)=true ->
  Zc Wv 0 (Za XO (Zg (Zq x.1 x.2.1 (Zp x.2.2.1&&ZG x.2.2.2.1) (Zd x.2.2.1++WO x.2.2.2.1)))) Wc [] (Z5 Fw (encL x)):=by
 rintro⟨b,fs,l,p,⟨⟩⟩ h
 simp only[Bool.and_eq_true,decide_eq_true_eq]at h
 obtain⟨⟨⟨⟨hb,hf⟩,hfl⟩,hl⟩,hp⟩:=h
 have hbo:=hb
 simp only[ZA,Wl,Bool.and_eq_true]at hb
 show Zc Wv 0 (Za XO (Zg (H8 b fs l p))) _ _ _
 have bad : ∀ q:Bool,q=(YC b&&Yk fs&&(Zp l&&ZG p))->q=false->Zg (H8 b fs l p) (.int .i64 1):=by
  intro q hq hq0
  refine V3 ?_
  unfold H8 Zq
  rw[if_pos]
  rw[hq0]at hq
  cases h1:YC b
  ·simp
  ·cases h2:Yk fs
   ·simp
   ·rw[h1,h2]at hq
    revert hq
    cases Zp l <;> cases ZG p <;> simp
 refine a4c b fs l p ⟨Zj (b,()) rfl hbo,Zh (b,()) rfl (XZ (fun h1=>bad _ rfl ?_) fun h1=>⟨Zj (fs,()) rfl hf,Zh (fs,()) rfl (XZ (fun h2=>bad _ rfl ?_) fun h2=>⟨Zj (l,()) rfl hl,Zh (l,()) rfl (XZ (fun h3=>bad _ rfl ?_) fun h3=>⟨Zj (p,()) rfl hp,Zh (p,()) rfl (XZ (fun h4=>bad _ rfl ?_) fun h4=> ?_)⟩)⟩)⟩)⟩
 ·have h1:YC b=false:=h1
  rw[h1];rfl
 ·have h2:Yk fs=false:=h2
  rw[h2];simp
 ·have h3:Zp l=false:=h3
  rw[h3];simp
 ·have h4:ZG p=false:=h4
  rw[h4];simp
 ·have h1:YC b=true:=h1
  have h2:Yk fs=true:=h2
  have h3:Zp l=true:=h3
  have h4:ZG p=true:=h4
  cases hfs:fs with
  | nil=>
   subst hfs
   apply Cx (G:=Zg (H8 b [] l p)) b [] l p ((0:Nat):Int)
   apply ZI (Xi (by simp))
   exact Dj b [] l p h1 h2 h3 h4 hb.1 hp hfl
  | cons f r=>
   have hlt:0<fs.length:=by rw[hfs];simp
   rw[<- hfs]
   apply Cx (G:=Zg (H8 b fs l p)) b fs l p ((0:Nat):Int)
   apply ZC (YN hlt)
   refine⟨Zs hlt rfl,Zw hlt ?_⟩
   rw[next (by omega)]
   have:=Tu b fs l p h1 h2 h3 h4 hb.1 hp hfl (fs.length - 1) 1 (by omega) (by omega)
   rw[show(1:Nat)=0+1 from rfl,List.take_succ_eq_append_getElem hlt]at this
   exact this
theorem a4j(b:BoxT)(fs:List Fact)(R:List (List Int)×Int)(n:Nat)(p0:List Int)(hend:Vk b.m p0=none->Zg R (.tup [.sl 0 true [],.int .i64 0]))
  (hcont : ∀ p,Vk b.m p0=some p->At Yy 0 (Za Z3 (Zg R)) Z4 0 60 [(1,.pv (enc fs)),(2,.ptr 0 0),(8,.row 1 n 0 n),(7,.pv (.sl 0 true []))] [.obj (.box [.pv (enc b.v),.pv (.int .i64 b.m)]),.obj (.row false 3 1 (p.map enc))]) :
  ∀ (k:Nat) (p:List Int),p.length=n->n<=1000->k<=n->(∀ x∈p,-1<=x∧x<=20000)->YJ b.m k p=Vk b.m p0 ->
  At Yy 0 (Za Z3 (Zg R)) Z4 1 60 [(1,.pv (enc fs)),(2,.ptr 0 0),(8,.row 1 n 0 n),(7,.pv (.sl 0 true [])),(9,.pv (.int .i64 ((k:Int) - 1)))] [.obj (.box [.pv (enc b.v),.pv (.int .i64 b.m)]),.obj (.row false 3 1 (p.map enc))]:=by
 intro k
 induction k with
 | zero=>
  intro p hpn hn hk hx hnk
  refine Rl b fs n p _ (ZI (by simp) (ZC (by simp) ?_))
  exact hend hnk.symm
 | succ k ih=>
  intro p hpn hn hk hx hnk
  have hlt:k<p.length:=by omega
  have ek:((k+1:Nat):Int) - 1=(k:Int):=by omega
  rw[ek]
  have e:=UE hlt
  have eg:p.getD k 0=p[k]:=by simp[List.getD,hlt]
  have hxk:=hx _ (List.getElem_mem hlt)
  have q1:(decide (0<=(k:Int))&&decide (0+Int.toNat (k:Int)<n)&&List.length (List.map (enc:Int->PV) p)==n)=true:=by simp;omega
  have q2:(List.length (List.map (enc:Int->PV) p)==n&&decide (0+Int.toNat (k:Int)<List.length (List.map (enc:Int->PV) p)))=true:=by simp;omega
  have hset : ∀ y:Int,List.set (List.map (enc:Int->PV) p) (0+Int.toNat (k:Int)) (enc y)=(p.set k y).map enc:=fun y=>by rw[Nat.zero_add,Int.toNat_natCast,List.map_set]
  refine Rl b fs n p k (ZC (by simp) ?_)
  rw[e]
  refine⟨q1,q2,rfl,QR (fun h=>⟨q1,?_,?_⟩) fun h=>ZI (by simp) ⟨q1,q2,rfl,q1,?_,?_⟩⟩
  ·rw[q2];rfl
  ·have h:p[k]=b.m:=h
   have hn':YJ b.m (k+1) p=YJ b.m k (p.set k 0):=by rw[YJ,eg,if_pos h]
   have hw:IntKind.i64.wrap ((k:Int) - 1)=(k:Int) - 1:=XB (by omega) (by omega)
   rw[hw]
   have:=ih (p.set k 0) (by rw[List.length_set];exact hpn) hn (by omega) (fun x hx'=>by
    rcases List.mem_or_eq_of_mem_set hx' with h|rfl
    ·exact hx x h
    ·omega) (by rw[<- hn'];exact hnk)
   have e0:=hset 0
   rw[<- e0]at this
   exact this
  ·rw[q2];rfl
  ·have h : ¬ p[k]=b.m:=h
   have hn':YJ b.m (k+1) p=some (p.set k (p[k]+1)):=by rw[YJ,eg,if_neg h]
   have hw:IntKind.i64.wrap (p[k]+1)=p[k]+1:=XB (by omega) (by omega)
   have:=hcont _ (hnk.symm.trans hn')
   have e0:=hset (IntKind.i64.wrap (p[k]+1))
   rw[hw]at e0
   rw[<- e0]at this
   have hww:(PV.int .i64 (IntKind.i64.wrap (p[k]+1)))=enc (p[k]+1):=by rw[hw];rfl
   show At Yy 0 (Za Z3 (Zg R)) Z4 0 60 _ [_,.obj (.row false 3 1 (List.set (List.map enc p) (0+Int.toNat (k:Int)) (PV.int .i64 (IntKind.i64.wrap (p[k]+1)))))]
   rw[hww]
   exact this
theorem a1h(b:BoxT)(fs:List Fact)(R:List (List Int)×Int)(n:Nat)(q:Nat)(xs:List (List Int))(hq:xs.length=q)(p0:List Int)(hend:Vk b.m p0=none->Zg R (.tup [.sl 1 false (xs.map enc),.int .i64 0]))
  (hcont : ∀ p,Vk b.m p0=some p->At Yy 0 (Za Z3 (Zg R)) Z4 0 60 [(1,.pv (enc fs)),(2,.ptr 0 0),(7,.row 1 q 0 q),(8,.row 2 n 0 n)] [.obj (.box [.pv (enc b.v),.pv (.int .i64 b.m)]),.obj (.row false 34 1 (xs.map enc)),.obj (.row false 3 1 (p.map enc))]) :
  ∀ (k:Nat) (p:List Int),p.length=n->n<=1000->k<=n->(∀ x∈p,-1<=x∧x<=20000)->YJ b.m k p=Vk b.m p0 ->
  At Yy 0 (Za Z3 (Zg R)) Z4 1 60 [(1,.pv (enc fs)),(2,.ptr 0 0),(7,.row 1 q 0 q),(8,.row 2 n 0 n),(9,.pv (.int .i64 ((k:Int) - 1)))] [.obj (.box [.pv (enc b.v),.pv (.int .i64 b.m)]),.obj (.row false 34 1 (xs.map enc)),.obj (.row false 3 1 (p.map enc))]:=by
 intro k
 induction k with
 | zero=>
  intro p hpn hn hk hx hnk
  refine T3 b fs n p _ q xs (ZI (by simp) (ZC (by simp) ?_))
  refine⟨by simp[hq],?_⟩
  rw[List.drop_zero,List.take_of_length_le (by simp[hq])]
  exact hend hnk.symm
 | succ k ih=>
  intro p hpn hn hk hx hnk
  have hlt:k<p.length:=by omega
  have ek:((k+1:Nat):Int) - 1=(k:Int):=by omega
  rw[ek]
  have e:=UE hlt
  have eg:p.getD k 0=p[k]:=by simp[List.getD,hlt]
  have hxk:=hx _ (List.getElem_mem hlt)
  have q1:(decide (0<=(k:Int))&&decide (0+Int.toNat (k:Int)<n)&&List.length (List.map (enc:Int->PV) p)==n)=true:=by simp;omega
  have q2:(List.length (List.map (enc:Int->PV) p)==n&&decide (0+Int.toNat (k:Int)<List.length (List.map (enc:Int->PV) p)))=true:=by simp;omega
  have hset : ∀ y:Int,List.set (List.map (enc:Int->PV) p) (0+Int.toNat (k:Int)) (enc y)=(p.set k y).map enc:=fun y=>by rw[Nat.zero_add,Int.toNat_natCast,List.map_set]
  refine T3 b fs n p k q xs (ZC (by simp) ?_)
  rw[e]
  refine⟨q1,q2,rfl,QR (fun h=>⟨q1,?_,?_⟩) fun h=>ZI (by simp) ⟨q1,q2,rfl,q1,?_,?_⟩⟩
  ·rw[q2];rfl
  ·have h:p[k]=b.m:=h
   have hn':YJ b.m (k+1) p=YJ b.m k (p.set k 0):=by rw[YJ,eg,if_pos h]
   have hw:IntKind.i64.wrap ((k:Int) - 1)=(k:Int) - 1:=XB (by omega) (by omega)
   rw[hw]
   have:=ih (p.set k 0) (by rw[List.length_set];exact hpn) hn (by omega) (fun x hx'=>by
    rcases List.mem_or_eq_of_mem_set hx' with h|rfl
    ·exact hx x h
    ·omega) (by rw[<- hn'];exact hnk)
   have e0:=hset 0
   rw[<- e0]at this
   exact this
  ·rw[q2];rfl
  ·have h : ¬ p[k]=b.m:=h
   have hn':YJ b.m (k+1) p=some (p.set k (p[k]+1)):=by rw[YJ,eg,if_neg h]
   have hw:IntKind.i64.wrap (p[k]+1)=p[k]+1:=XB (by omega) (by omega)
   have:=hcont _ (hnk.symm.trans hn')
   have e0:=hset (IntKind.i64.wrap (p[k]+1))
   rw[hw]at e0
   rw[<- e0]at this
   have hww:(PV.int .i64 (IntKind.i64.wrap (p[k]+1)))=enc (p[k]+1):=by rw[hw];rfl
   show At Yy 0 (Za Z3 (Zg R)) Z4 0 60 _ [_,_,.obj (.row false 3 1 (List.set (List.map enc p) (0+Int.toNat (k:Int)) (PV.int .i64 (IntKind.i64.wrap (p[k]+1)))))]
   rw[hww]
   exact this
def PP(b:BoxT)(fs:List Fact)(R:List (List Int)×Int)(n:Nat)(p:List Int)(k:Nat):Prop:=
 if k=0 then At Yy 0 (Za Z3 (Zg R)) Z4 0 60 [(1,.pv (enc fs)),(2,.ptr 0 0),(8,.row 1 n 0 n),(7,.pv (.sl 0 true []))] [.obj (.box [.pv (enc b.v),.pv (.int .i64 b.m)]),.obj (.row false 3 1 (p.map enc))]
 else At Yy 0 (Za Z3 (Zg R)) Z4 0 60 [(1,.pv (enc fs)),(2,.ptr 0 0),(7,.row 1 k 0 k),(8,.row 2 n 0 n)] [.obj (.box [.pv (enc b.v),.pv (.int .i64 b.m)]),.obj (.row false 34 1 (((ZP b fs).take k).map enc)),.obj (.row false 3 1 (p.map enc))]
theorem S1(p:List Int)(n:Nat)(h:p.length=n):(PV.sl 1 false (List.drop 0 (List.take (0+List.length (List.drop 0 (List.take n (List.map (enc:Int->PV) p)))) (([]:List PV)++List.drop 0 (List.take n (List.map enc p))))))=enc p:=by
 subst h
 rw[List.nil_append,List.drop_zero,List.take_of_length_le (by simp:(List.map (enc:Int->PV) p).length<=p.length),List.drop_zero,List.take_of_length_le (by simp)]
 rfl
theorem Ot(b:BoxT)(fs:List Fact)(hv:YC b=true)(hf:Zi fs=true)(hl:b.v.length<=1000): ∀ (lst:List (List Int)) (p:List Int) (k:Nat),Walk b.m p lst->p.length=b.v.length->(∀ y∈lst,∀ x∈y,-1<=x∧x<=20000)->(ZP b fs).drop k=lst.filter (Xx b.v fs)->k<=(ZP b fs).length ->
  PP b fs (ZP b fs,0) b.v.length p k:=by
 intro lst
 induction lst with
 | nil=>intro p k hw;cases hw
 | cons p' rest ih=>
  intro p k hw hpl hpx hdr hk
  obtain⟨t,ht⟩ : ∃ t,p'::rest=p::t:=by
   cases hw with
   | last h=>exact⟨[],rfl⟩
   | step h k=>exact⟨_,rfl⟩
  injection ht with ht1 ht2
  subst ht1 ht2
  have hlen:=Lu (fs:=fs) hv
  have hp:p'.length<=1000:=by omega
  have hpre:XT [(.pv (.agg [(.sl 1 false (List.map enc (BoxT.v b))),(.int .i64 (BoxT.m b))])),(.row 0 b.v.length 0 b.v.length)] [(.row false 3 1 (List.map enc p'))]=true:=by
   show(b.v.length==b.v.length&&(p'.map enc).length==b.v.length&&3==3&&Vh (List Int) (enc p')&&Vh (List Str) (enc b.v)&&decide ((dec (enc b.v:PV):List Str).length<=1000)&&decide (b.v.length<=1000))=true
   rw[ZX,ZX,Enc.dec_enc,decide_eq_true hl,List.length_map,hpl];simp
  have hvals:Zf (dec (enc b.v:PV)) (DN (List.map enc p'))=Zf b.v p':=by rw[J4,Enc.dec_enc]
  have hh:(fs,Zf b.v p',()).1=fs:=rfl
  have hpreH:(Go.Pl.preT (fun(x:List Fact×List Coef×Unit)=>Zi (Prod.fst x)&&decide (List.length (Prod.fst (Prod.snd x))<=9223372036854775807)) [(.sl 3 false (List.map enc fs)),(.sl 2 false (List.map enc (Zf b.v p')))])=true:=by
   refine Zj (fs,Zf b.v p',()) rfl ?_
   show(Zi fs&&decide ((Zf b.v p').length<=9223372036854775807))=true
   rw[hf,decide_eq_true (by unfold Zf;rw[List.length_zipWith];omega)];rfl
  -- what comes behind the point
  have hend : ∀ k',(ZP b fs).drop k'=rest.filter (Xx b.v fs)->k'<=(ZP b fs).length->Vk b.m p'=none->k'=(ZP b fs).length:=by
   intro k' h1 h2 h3
   cases hw with
   | step h _=>rw[h]at h3;cases h3
   | last h=>
    have e:=congrArg List.length h1
    rw[List.length_drop]at e
    simp at e
    omega
  have hcont : ∀ k',(ZP b fs).drop k'=rest.filter (Xx b.v fs)->k'<=(ZP b fs).length-> ∀ q,Vk b.m p'=some q->PP b fs (ZP b fs,0) b.v.length q k':=by
   intro k' h1 h2 q hq
   cases hw with
   | last h=>rw[h]at hq;cases hq
   | step h hw'=>
    rw[h]at hq
    cases hq
    exact ih q k' hw' ((HQ _ _ _ _ h).trans hpl) (fun y hy=>hpx y (by simp[hy])) h1 h2
  have hx:=hpx p' (by simp)
  -- the two ways on
  have goA:(ZP b fs).drop 0=rest.filter (Xx b.v fs)->At Yy 0 (Za Z3 (Zg (ZP b fs,(0:Int)))) Z4 1 60 [(1,.pv (enc fs)),(2,.ptr 0 0),(8,.row 1 b.v.length 0 b.v.length),(7,.pv (.sl 0 true [])),(9,.pv (.int .i64 ((b.v.length:Int) - 1)))] [.obj (.box [.pv (enc b.v),.pv (.int .i64 b.m)]),.obj (.row false 3 1 (p'.map enc))]:=by
   intro h1
   refine a4j b fs (ZP b fs,0) b.v.length p' (fun hn=> ?_) (fun q hq=> ?_) b.v.length p' hpl hl (Nat.le_refl _) hx (by unfold Vk;rw[hpl])
   ·have:=hend 0 h1 (Nat.zero_le _) hn
    rw[List.length_eq_zero_iff.1 this.symm]
    exact⟨rfl,rfl⟩
   ·have:=hcont 0 h1 (Nat.zero_le _) q hq
    unfold PP at this
    rw[if_pos rfl]at this
    exact this
  have goB : ∀ k',k'≠0->(ZP b fs).drop k'=rest.filter (Xx b.v fs)->k'<=(ZP b fs).length->At Yy 0 (Za Z3 (Zg (ZP b fs,(0:Int)))) Z4 1 60 [(1,.pv (enc fs)),(2,.ptr 0 0),(7,.row 1 k' 0 k'),(8,.row 2 b.v.length 0 b.v.length),(9,.pv (.int .i64 ((b.v.length:Int) - 1)))] [.obj (.box [.pv (enc b.v),.pv (.int .i64 b.m)]),.obj (.row false 34 1 (((ZP b fs).take k').map enc)),.obj (.row false 3 1 (p'.map enc))]:=by
   intro k' hk0 h1 h2
   refine a1h b fs (ZP b fs,0) b.v.length k' ((ZP b fs).take k') (by rw[List.length_take];omega) p' (fun hn=> ?_) (fun q hq=> ?_) b.v.length p' hpl hl (Nat.le_refl _) hx (by unfold Vk;rw[hpl])
   ·have:=hend k' h1 h2 hn
    rw[this,List.take_length]
    exact ZO (x:=(ZP b fs,(0:Int))) rfl
   ·have:=hcont k' h1 h2 q hq
    unfold PP at this
    rw[if_neg hk0]at this
    exact this
  have hw0:IntKind.i64.wrap (((b.v.length - 0:Nat):Int) - 1)=(b.v.length:Int) - 1:=by rw[Nat.sub_zero];exact XB (by omega) (by omega)
  have c1:(List.length (List.map (enc:Int->PV) p')==b.v.length)=true:=by simp[hpl]
  have c2:(List.length ([]:List PV)==0&&0==0&&decide ((0+List.length (List.drop 0 (List.take b.v.length (List.map (enc:Int->PV) p'))))*8<=1099511627776)&&decide (0+List.length (List.drop 0 (List.take b.v.length (List.map (enc:Int->PV) p')))<=1099511627776))=true:=by simp;omega
  have c3:(List.length (([]:List PV)++List.drop 0 (List.take b.v.length (List.map (enc:Int->PV) p')))==0+List.length (List.drop 0 (List.take b.v.length (List.map (enc:Int->PV) p'))))=true:=by simp
  by_cases hin:Xx b.v fs p'=true
  ·rw[List.filter_cons,if_pos hin]at hdr
   have hk1:k<(ZP b fs).length:=by
    have e:=congrArg List.length hdr
    rw[List.length_drop]at e
    simp at e
    omega
   have hpk:(ZP b fs)[k]=p':=by
    have:=List.drop_eq_getElem_cons hk1
    rw[hdr]at this
    injection this with this _
    exact this.symm
   have hdr2:(ZP b fs).drop (k+1)=rest.filter (Xx b.v fs):=by
    have:=List.drop_eq_getElem_cons hk1
    rw[hdr]at this
    injection this with _ this
    exact this.symm
   have ht:(ZP b fs).take (k+1)=(ZP b fs).take k++[p']:=by rw[List.take_succ_eq_append_getElem hk1,hpk]
   have hb:=goB (k+1) (by omega) hdr2 hk1
   unfold PP
   by_cases hk0:k=0
   ·subst hk0
    rw[if_pos rfl]
    refine Ra b fs b.v.length p' ⟨hpre,?_⟩
    rw[hvals]
    refine⟨hpreH,Zh (fs,Zf b.v p',()) rfl (ZC hin ⟨c1,c2,c3,?_⟩)⟩
    rw[S1 p' _ hpl,hw0]
    rw[ht]at hb
    exact hb
   ·rw[if_neg hk0]
    have el:((ZP b fs).take k).length=k:=by rw[List.length_take];omega
    refine R5 b fs b.v.length p' k ((ZP b fs).take k) ⟨hpre,?_⟩
    rw[hvals]
    refine⟨hpreH,Zh (fs,Zf b.v p',()) rfl (ZC hin ⟨c1,c2,c3,?_,?_⟩)⟩
    ·rw[S1 p' _ hpl,List.length_map,el]
     show((k==k)&&(k==k)&&decide ((k+1)*24<=1099511627776)&&decide (k+1<=1099511627776))=true
     rw[decide_eq_true (by omega),decide_eq_true (by omega)];simp
    ·rw[S1 p' _ hpl,hw0]
     rw[ht,List.map_append]at hb
     exact hb
  ·rw[List.filter_cons,if_neg hin]at hdr
   unfold PP
   by_cases hk0:k=0
   ·subst hk0
    rw[if_pos rfl]
    refine Ra b fs b.v.length p' ⟨hpre,?_⟩
    rw[hvals]
    refine⟨hpreH,Zh (fs,Zf b.v p',()) rfl (ZI hin ?_)⟩
    rw[hw0]
    exact goA hdr
   ·rw[if_neg hk0]
    refine R5 b fs b.v.length p' k ((ZP b fs).take k) ⟨hpre,?_⟩
    rw[hvals]
    refine⟨hpreH,Zh (fs,Zf b.v p',()) rfl (ZI hin ?_)⟩
    rw[hw0]
    exact goB k hk0 hdr hk
theorem My{b:BoxT}(h:YC b=true): ∀ y∈Q8 b.m.toNat b.v.length,∀ x∈y,-1<=x∧x<=20000:=by
 intro y hy x hx
 obtain⟨q1,q2⟩:=J7.1 hy
 have:=q2 x hx
 obtain⟨_,_,h3,h4,_⟩:=VY.1 h
 rcases h3 with h3|h3
 ·rw[h3]at q1
  rw[List.length_eq_zero_iff.1 q1]at hx
  cases hx
 ·omega
theorem a0i{b:BoxT}(h:YC b=true):Walk b.m (X0 b.v) (Q8 b.m.toNat b.v.length):=by
 have:=Hz b.m.toNat b.v.length
 have e:(b.m.toNat:Int)=b.m:=by
  have:0<=b.m:=(VY.1 h).2.2.2.1
  omega
 have hz:X0 b.v=List.replicate b.v.length 0:=List.map_const' ..
 rw[e,<- hz]at this
 exact this
theorem a6d: ∀ x:BoxT×List Fact×Unit,(ZA x.1&&Zi x.2.1&&decide (x.2.1.length<=100)&&decide (x.1.v.length<=1000))=true->Zc Yy 0 (Za Z3 (Zg (ZT x.1 x.2.1))) Z4 [] (Z5 a8v (encL x)):=by
 rintro⟨b,fs,⟨⟩⟩ hp
 simp only[Bool.and_eq_true,decide_eq_true_eq]at hp
 obtain⟨⟨⟨h1,h2⟩,h3⟩,h4⟩:=hp
 have hrd:Zq b fs (Zp ⟨0,[]⟩&&ZG []) (Zd ⟨0,[]⟩++WO [])=Zq b fs true []:=rfl
 refine b4o b fs ⟨G1 (b,fs,⟨0,[]⟩,[],()) ?_ ?_ (by simp[h1,h2,h3,Yq,Y9]),H6 (b,fs,⟨0,[]⟩,[],()) ?_ ?_⟩
 ·show(is BoxT (enc b)&&(is (List Fact) (enc fs)&&(true&&(true&&true))))=true
  rw[Enc.is_enc,Enc.is_enc];rfl
 ·show((dec (enc b:PV):BoxT),(dec (enc fs:PV):List Fact),(⟨0,[]⟩:Lin),([]:List Mono),())=_
  rw[Enc.dec_enc,Enc.dec_enc]
 ·show((dec (enc b:PV):BoxT),(dec (enc fs:PV):List Fact),(⟨0,[]⟩:Lin),([]:List Mono),())=_
  rw[Enc.dec_enc,Enc.dec_enc]
 ·show if (Zq b fs true [] != 0)=true then _ else _
  by_cases h0:Zq b fs true []=0
  ·rw[if_neg (by simp[h0])]
   obtain⟨hv,_⟩:=VX b fs true [] h0
   have hpt:ZT b fs=(ZP b fs,0):=by unfold ZT;rw[if_pos h0]
   rw[hpt]
   have hp0:(ZP b fs).drop 0=(Q8 b.m.toNat b.v.length).filter (Xx b.v fs):=by
    unfold ZP
    rw[VG hv];rfl
   have:=Ot b fs hv h2 h4 _ _ 0 (a0i hv) (by simp[X0]) (My hv) hp0 (Nat.zero_le _)
   unfold PP at this
   rw[if_pos rfl]at this
   refine⟨by simp;omega,?_⟩
   have en:Int.toNat ((List.length (List.map (enc:Str->PV) b.v):Nat):Int)=b.v.length:=by simp
   have ez:List.replicate b.v.length (PV.int .i64 0)=(X0 b.v).map enc:=by
    unfold X0
    rw[List.map_map]
    exact(List.map_const' ..).symm
   rw[en,ez]
   exact this
  ·rw[if_pos (by simpa using h0)]
   have hpt:ZT b fs=([],Zq b fs true []):=by unfold ZT;rw[if_neg h0]
   rw[hpt]
   exact⟨rfl,rfl⟩
end Go.Pl

namespace Go.Pl
open Go.RowKit
open Enc (enc dec is)
open EncL (encL decL isL)
def Yi(m n:Int):Bool:=decide (m<n)
def QP(g:Nat):List AV->List AObj->Bool
 | [.pv (.int .i64 n),.ptr 0 0,.ptr 1 0,.ptr 2 0],[.box [.pv (.bool s)],.box [.pv (.fn g')],.box [.pv (.int .i64 z)]]=>g'==g
 | _,_=>false
def Kv(f:Int->Int->Bool):List AV->List AObj->AV×List AObj×List AObj
 | [.pv (.int .i64 n),_,_,_],[.box [.pv (.bool s)],.box [.pv (.fn g)],.box [.pv (.int .i64 z)]]=>(.tup [],[.box [.pv (.bool true)],.box [.pv (.fn g)],.box [.pv (.int .i64 (if !s||f n z then n else z))]],[])
 | _,_=>WX
def Gz(f:Int->Int->Bool):List Int->Option Int
 | []=>none
 | x::l=>some (l.foldl (fun z n=>if f n z then n else z) x)
def YB(b:BoxT)(fs:List Fact)(l:Lin):List Int:=(ZP b fs).map fun p=>(Yc l (Zf b.v p)).1
def UD(b:BoxT)(fs:List Fact)(l:Lin):Bool:=ZA b&&Zi fs&&decide (fs.length<=100)&&decide (b.v.length<=1000)&&Yd l&&decide (l.t.length<=1000)
def UJ(f:Int->Int->Bool)(b:BoxT)(fs:List Fact)(l:Lin):Int×Int:=
 if Zq b fs (Zp l) (Zd l)=0 then(match Gz f (YB b fs l)with|none=>(0,9)|some z=>(z,0))else(0,Zq b fs (Zp l) (Zd l))
end Go.Pl

namespace Go.Pl
open Go.RowKit
open Enc (enc dec is)
open EncL (encL decL isL)
set_option maxRecDepth 100000
def N0:IC:=(.seq (.reg [⟨(some 4),(.mv (.c (.bool false))),0,none⟩] none) (.seq (.reg [⟨(some 5),(.mv (.t 0)),0,none⟩,⟨(some 6),(.mv (.t 1)),0,none⟩,⟨(some 7),(.bin .num .lss (.t 5) (.t 6)),0,none⟩,⟨(some 4),(.mv (.t 7)),0,none⟩] none) .ret))
def PZ:List IRes:=[(.tmp 4)]
abbrev b4j:Nat:=8
def a2d:ZE:=Y6 []
theorem b8d{G:PV->Prop}(m n:Int)(h:G ((.bool (decide (m<n))))):Zc a2d 0 (Za PZ G) N0 [] (Z5 8 [enc m,enc n]):=Zc.tp (.lit (.nil)) h (by kernel_rfl)
def SJ:IC:=(.seq (.reg [⟨(some 5),(.load false [.bool] (.t 1)),0,none⟩,⟨(some 6),(.un .not (.t 5)),0,none⟩,⟨(some 7),(.mv (.t 6)),0,none⟩,⟨(some 8),(.load false [.any] (.t 2)),0,(some (7,false))⟩,⟨(some 9),(.mv (.t 0)),0,(some (7,false))⟩,⟨(some 10),(.load false [(.int .i64)] (.t 3)),0,(some (7,false))⟩,⟨(some 11),(.call (.t 8) [(.t 9),(.t 10)]),0,(some (7,false))⟩,⟨(some 12),(.pick (.t 7) (.c (.bool true)) (.t 11)),2,none⟩] none) (.cond (.t 12) (.reg [⟨(some 13),(.mv (.t 0)),0,none⟩,⟨none,(.store 1 (.t 3) (.t 13)),0,none⟩,⟨none,(.store 1 (.t 1) (.c (.bool true))),0,none⟩] none) .skip))
def Sj:List IRes:=[]
abbrev b1j:Nat:=14
def NO:ZE:=Y6 [(128,.pure (preT (fun _:Int×Int×Unit=>true)) (Ze (fun x:Int×Int×Unit=>decide (x.1<x.2.1))))]
theorem b3i{G:AV×List AObj×List AObj->Prop}(n:Int)(s:Bool)(z:Int)(h:if (!s)=true then G (((.tup []),([(.box [(.pv (.bool true))]),(.box [(.pv (.fn 128))]),(.box [(.pv (.int .i64 n))])],[])))else(∃ y0:Bool,AV.pv (Ze (fun(x:Int×Int×Unit)=>decide (x.1<x.2.1)) [(.int .i64 n),(.int .i64 z)])=AV.pv (enc y0)∧(if (y0)=true then G (((.tup []),([(.box [(.pv (.bool true))]),(.box [(.pv (.fn 128))]),(.box [(.pv (.int .i64 n))])],[])))else(G (((.tup []),([(.box [(.pv (.bool s))]),(.box [(.pv (.fn 128))]),(.box [(.pv (.int .i64 z))])],[]))))))):Zc NO 3 (Zo 3 Sj G) SJ [] (YD 14 [.pv (.int .i64 n),.ptr 0 0,.ptr 1 0,.ptr 2 0] [.box [.pv (.bool s)],.box [.pv (.fn 128)],.box [.pv (.int .i64 z)]]):=Zc.to (.ask (.lit (.lit (.lit (.lit (.lit (.nil)))))) (.lit (.lit (.lit (.lit (.abs (Bool) (fun YY=>AV.pv (enc YY)) (.lit (.ask (.nil) (.nil))))))))) h (by kernel_rfl)
def Um:IC:=(.seq (.reg [⟨(some 4),(.box 2 (.t 0)),0,none⟩,⟨(some 6),(.box 2 (.t 2)),1,none⟩,⟨(some 7),(.box 1 (.t 3)),2,none⟩,⟨(some 8),(.alloc (.int .i64 0)),3,none⟩,⟨(some 9),(.alloc (.int .i64 0)),4,none⟩] none) (.seq (.seq (.reg [⟨(some 18),(.load true [(.sl 1),(.int .i64)] (.t 4)),0,none⟩,⟨(some 19),(.mv (.t 1)),0,none⟩,⟨(some 20),(.load true [(.int .i64),(.sl 2)] (.t 6)),0,none⟩,⟨(some 21),(.call (.c (.fn 73)) [(.t 20)]),0,none⟩,⟨(some 22),(.load true [(.int .i64),(.sl 2)] (.t 6)),2,none⟩,⟨(some 23),(.call (.c (.fn 174)) [(.t 22)]),2,none⟩,⟨(some 24),(.call (.c (.fn 116)) [(.t 18),(.t 19),(.t 21),(.t 23)]),4,none⟩,⟨(some 10),(.mv (.t 24)),6,none⟩] (some [[],[],[],[2],[],[4,3,2],[0,1,3,5,2,4],[6,0,1,2,3,4,5]])) (.seq (.reg [⟨(some 25),(.mv (.t 10)),0,none⟩,⟨(some 26),(.bin .num .neq (.t 25) (.c (.int .i64 0))),0,none⟩] none) (.cond (.t 26) (.seq (.reg [⟨(some 27),(.mv (.t 10)),0,none⟩,⟨none,(.store 1 (.t 8) (.c (.int .i64 0))),0,none⟩,⟨none,(.store 1 (.t 9) (.t 27)),0,none⟩] none) .ret) .skip))) (.seq (.reg [⟨(some 11),(.alloc (.int .i64 0)),0,none⟩,⟨(some 12),(.alloc (.bool false)),1,none⟩,⟨none,(.store 1 (.t 11) (.c (.int .i64 0))),2,none⟩,⟨none,(.store 1 (.t 12) (.c (.bool false))),2,none⟩] none) (.seq (.reg [⟨(some 28),(.mkfn 194 [] [(.t 12),(.t 7),(.t 11)]),0,none⟩,⟨(some 13),(.alloc .nilfn),0,none⟩,⟨none,(.store 1 (.t 13) (.t 28)),1,none⟩] none) (.seq (.seq (.reg [⟨(some 29),(.load true [(.sl 1),(.int .i64)] (.t 4)),0,none⟩,⟨(some 30),(.mv (.t 1)),0,none⟩,⟨(some 31),(.call (.c (.fn 117)) [(.t 29),(.t 30)]),0,none⟩] none) (.block 0 (.ext 0 [31,33,6,15,35,36,37,34,38,39,17,40,41,8,9,42,13,16,43,44,12,11]))) (.seq (.seq (.reg [⟨(some 46),(.load false [.bool] (.t 12)),0,none⟩,⟨(some 47),(.un .not (.t 46)),0,none⟩] none) (.cond (.t 47) (.seq (.reg [⟨none,(.store 1 (.t 8) (.c (.int .i64 0))),0,none⟩,⟨none,(.store 1 (.t 9) (.c (.int .i64 9))),0,none⟩] none) .ret) .skip)) (.seq (.reg [⟨(some 48),(.load false [(.int .i64)] (.t 11)),0,none⟩,⟨none,(.store 1 (.t 8) (.t 48)),0,none⟩,⟨none,(.store 1 (.t 9) (.c (.int .i64 0))),0,none⟩] none) .ret)))))))
def Qg:List IRes:=[(.cell false 1 8),(.cell false 1 9)]
abbrev E3:Nat:=49
def VP:ZE:=Y6 [(73,.pure (preT (fun x:Lin×Unit=>Yd x.1)) (Ze (fun x:Lin×Unit=>Zp x.1))),(174,.own Kz GI),(116,.pure (preT (fun x:BoxT×List Fact×Bool×NilS×Unit=>ZA x.1&&Zi x.2.1&&decide (x.2.1.length<=100))) (Ze (fun x:BoxT×List Fact×Bool×NilS×Unit=>Zq x.1 x.2.1 x.2.2.1 []))),(117,.own Y5 WD),(38,.pure (preT (fun x:Lin×List Coef×Unit=>Yd x.1&&decide (x.2.1.length<=9223372036854775807))) (Ze (fun x:Lin×List Coef×Unit=>Yc x.1 x.2.1))),(194,.own (QP 128) (Kv Yi))]
theorem a7b{G:PV->Prop}(E:Yv)(b:BoxT)(fs:List Fact)(l:Lin)(h:(Go.Pl.preT (fun(x:Lin×Unit)=>Yd x.1) [(.agg [(.int .i64 l.k),(.sl 2 false (List.map enc l.t))])])=true∧(∃ y0:Bool,AV.pv (Ze (fun(x:Lin×Unit)=>Zp x.1) [(.agg [(.int .i64 l.k),(.sl 2 false (List.map enc l.t))])])=AV.pv (enc y0)∧((Kz [(.pv (.agg [(.int .i64 l.k),(.sl 2 false (List.map enc l.t))]))] [])=true∧((Go.Pl.preT (fun(x:BoxT×List Fact×Bool×NilS×Unit)=>ZA x.1&&Zi x.2.1&&decide (List.length x.2.1<=100)) [(.agg [(.sl 1 false (List.map enc b.v)),(.int .i64 b.m)]),(.sl 3 false (List.map enc fs)),(.bool y0),(.sl 0 true [])])=true∧(∃ y1:Int,AV.pv (Ze (fun(x:BoxT×List Fact×Bool×NilS×Unit)=>Zq x.1 x.2.1 x.2.2.1 []) [(.agg [(.sl 1 false (List.map enc b.v)),(.int .i64 b.m)]),(.sl 3 false (List.map enc fs)),(.bool y0),(.sl 0 true [])])=AV.pv (enc y1)∧(if (y1 != 0)=true then G ((.tup [(.int .i64 0),(.int .i64 y1)]))else((Y5 [(.pv (.agg [(.sl 1 false (List.map enc b.v)),(.int .i64 b.m)])),(.pv (.sl 3 false (List.map enc fs)))] [])=true∧(E 0 ⟨ZR 49 0 [(6,(.ptr 0 0)),(8,(.ptr 1 0)),(9,(.ptr 2 0)),(11,(.ptr 3 0)),(12,(.ptr 4 0)),(13,(.ptr 5 0)),(15,.undef),(16,.undef),(17,.undef),(31,(.fn 177 [] [(.ptr 6 0),(.ptr 7 0)])),(33,.undef),(34,.undef),(35,.undef),(36,.undef),(37,.undef),(38,.undef),(39,.undef),(40,.undef),(41,.undef),(42,.undef),(43,.undef),(44,.undef)],[(.obj (.box [(.pv (.int .i64 l.k)),(.pv (.sl 2 false (List.map enc l.t)))])),(.obj (.box [(.pv (.int .i64 0))])),(.obj (.box [(.pv (.int .i64 0))])),(.obj (.box [(.pv (.int .i64 0))])),(.obj (.box [(.pv (.bool false))])),(.obj (.box [(.fn 194 [] [(.ptr 4 0),(.ptr 8 0),(.ptr 3 0)])])),(.obj (.box [(.pv (.sl 1 false (List.map enc b.v))),(.pv (.int .i64 b.m))])),(.obj (.box [(.pv (.sl 3 false (List.map enc fs)))])),(.obj (.box [(.pv (.fn 128))]))]⟩ (fun x S'=>KR VP E 0 (Za Qg G) Um 0 x S'))))))))):ZB VP E 0 (Za Qg G) (.inl Um) [] (Z5 49 [enc b,enc fs,enc l,.fn 128]):=ZB.mp (.req (.abs (Bool) (fun YY=>AV.pv (enc YY)) (.req (.keep (.req (.abs (Int) (fun YY=>AV.pv (enc YY)) (.lit (.ask (.nil) (.req (.keep (.nil))))))))))) h (by kernel_rfl)
theorem a1e{G:PV->Prop}(E:Yv)(b:BoxT)(fs:List Fact)(l:Lin)(z:Int)(s:Bool)(h:if (!s)=true then G ((.tup [(.int .i64 0),(.int .i64 9)]))else(G ((.tup [(.int .i64 z),(.int .i64 0)])))):KR VP E 0 (Za Qg G) Um 0 .normal ⟨ZR 49 0 [(6,.ptr 0 0),(8,.ptr 1 0),(9,.ptr 2 0),(11,.ptr 3 0),(12,.ptr 4 0),(13,.ptr 5 0)],[.obj (.box [.pv (.int .i64 l.k),.pv (enc l.t)]),.obj (.box [.pv (.int .i64 0)]),.obj (.box [.pv (.int .i64 0)]),.obj (.box [.pv (.int .i64 z)]),.obj (.box [.pv (.bool s)]),.obj (.box [.fn 194 [] [.ptr 4 0,.ptr 6 0,.ptr 3 0]]),.obj (.box [.pv (.fn 128)])]⟩:=ZB.mp (.ask (.nil) (.nil)) h (by kernel_rfl)
def Qq:IC:=Um
def Qh:List IRes:=[(.cell false 1 8),(.cell false 1 9)]
abbrev EC:Nat:=49
def VI:ZE:=Y6 [(73,.pure (preT (fun x:Lin×Unit=>Yd x.1)) (Ze (fun x:Lin×Unit=>Zp x.1))),(174,.own KJ Hh),(116,.own V7 QH),(117,.own Y5 WD),(38,.pure (preT (fun x:Lin×List Coef×Unit=>Yd x.1&&decide (x.2.1.length<=9223372036854775807))) (Ze (fun x:Lin×List Coef×Unit=>Yc x.1 x.2.1))),(194,.own (QP 128) (Kv Yi))]
theorem a7x{G:PV->Prop}(E:Yv)(b:BoxT)(fs:List Fact)(l:Lin)(h:(Go.Pl.preT (fun(x:Lin×Unit)=>Yd x.1) [(.agg [(.int .i64 l.k),(.sl 2 false (List.map enc l.t))])])=true∧(∃ y0:Bool,AV.pv (Ze (fun(x:Lin×Unit)=>Zp x.1) [(.agg [(.int .i64 l.k),(.sl 2 false (List.map enc l.t))])])=AV.pv (enc y0)∧((KJ [(.pv (.agg [(.int .i64 l.k),(.sl 2 false (List.map enc l.t))]))] [])=true∧((V7 [(.pv (.agg [(.sl 1 false (List.map enc b.v)),(.int .i64 b.m)])),(.pv (.sl 3 false (List.map enc fs))),(.pv (.bool y0)),(.row 0 (List.length (Zd (PL (PV.agg [enc l.k,enc l.t])))) 0 (List.length (Zd (PL (PV.agg [enc l.k,enc l.t])))))] [(.row false 9 1 (List.map enc (Zd (PL (PV.agg [enc l.k,enc l.t])))))])=true∧(if (Zq (NK (PV.agg [enc b.v,enc b.m])) (CJ (enc fs)) y0 (Ke (List.map enc (Zd (PL (PV.agg [enc l.k,enc l.t]))))) != 0)=true then G ((.tup [(.int .i64 0),(.int .i64 (Zq (NK (PV.agg [enc b.v,enc b.m])) (CJ (enc fs)) y0 (Ke (List.map enc (Zd (PL (PV.agg [enc l.k,enc l.t])))))))]))else((Y5 [(.pv (.agg [(.sl 1 false (List.map enc b.v)),(.int .i64 b.m)])),(.pv (.sl 3 false (List.map enc fs)))] [])=true∧(E 0 ⟨ZR 49 0 [(6,(.ptr 0 0)),(8,(.ptr 1 0)),(9,(.ptr 2 0)),(11,(.ptr 3 0)),(12,(.ptr 4 0)),(13,(.ptr 5 0)),(15,.undef),(16,.undef),(17,.undef),(31,(.fn 177 [] [(.ptr 6 0),(.ptr 7 0)])),(33,.undef),(34,.undef),(35,.undef),(36,.undef),(37,.undef),(38,.undef),(39,.undef),(40,.undef),(41,.undef),(42,.undef),(43,.undef),(44,.undef)],[(.obj (.box [(.pv (.int .i64 l.k)),(.pv (.sl 2 false (List.map enc l.t)))])),(.obj (.box [(.pv (.int .i64 0))])),(.obj (.box [(.pv (.int .i64 0))])),(.obj (.box [(.pv (.int .i64 0))])),(.obj (.box [(.pv (.bool false))])),(.obj (.box [(.fn 194 [] [(.ptr 4 0),(.ptr 8 0),(.ptr 3 0)])])),(.obj (.box [(.pv (.sl 1 false (List.map enc b.v))),(.pv (.int .i64 b.m))])),(.obj (.box [(.pv (.sl 3 false (List.map enc fs)))])),(.obj (.box [(.pv (.fn 128))]))]⟩ (fun x S'=>KR VI E 0 (Za Qh G) Qq 0 x S')))))))):ZB VI E 0 (Za Qh G) (.inl Qq) [] (Z5 49 [enc b,enc fs,enc l,.fn 128]):=ZB.mp (.req (.abs (Bool) (fun YY=>AV.pv (enc YY)) (.req (.keep (.req (.keep (.lit (.ask (.nil) (.req (.keep (.nil))))))))))) h (by kernel_rfl)
theorem a3z{G:PV->Prop}(E:Yv)(b:BoxT)(fs:List Fact)(l:Lin)(z:Int)(s:Bool)(h:if (!s)=true then G ((.tup [(.int .i64 0),(.int .i64 9)]))else(G ((.tup [(.int .i64 z),(.int .i64 0)])))):KR VI E 0 (Za Qh G) Qq 0 .normal ⟨ZR 49 0 [(6,.ptr 0 0),(8,.ptr 1 0),(9,.ptr 2 0),(11,.ptr 3 0),(12,.ptr 4 0),(13,.ptr 5 0)],[.obj (.box [.pv (.int .i64 l.k),.pv (enc l.t)]),.obj (.box [.pv (.int .i64 0)]),.obj (.box [.pv (.int .i64 0)]),.obj (.box [.pv (.int .i64 z)]),.obj (.box [.pv (.bool s)]),.obj (.box [.fn 194 [] [.ptr 4 0,.ptr 6 0,.ptr 3 0]]),.obj (.box [.pv (.fn 128)])]⟩:=ZB.mp (.ask (.nil) (.nil)) h (by kernel_rfl)
def S2:IC:=(.seq (.reg [⟨(some 3),(.box 2 (.t 0)),0,none⟩,⟨(some 5),(.box 2 (.t 2)),1,none⟩,⟨(some 6),(.mv (.c (.int .i64 0))),2,none⟩,⟨(some 7),(.mv (.c (.int .i64 0))),2,none⟩] none) (.seq (.reg [⟨(some 8),(.load true [(.sl 1),(.int .i64)] (.t 3)),0,none⟩,⟨(some 9),(.mv (.t 1)),0,none⟩,⟨(some 10),(.load true [(.int .i64),(.sl 2)] (.t 5)),0,none⟩,⟨(some 11),(.call (.c (.fn 127)) [(.t 8),(.t 9),(.t 10),(.c (.fn 128))]),0,none⟩,⟨(some 12),(.extract (.t 11) 0),2,none⟩,⟨(some 13),(.extract (.t 11) 1),2,none⟩,⟨(some 6),(.mv (.t 12)),2,none⟩,⟨(some 7),(.mv (.t 13)),2,none⟩] none) .ret))
def Sd:List IRes:=[(.tmp 6),(.tmp 7)]
abbrev b0f:Nat:=14
def PS:ZE:=Y6 [(127,.pure (preT (fun x:BoxT×List Fact×Lin×FnV 128×Unit=>UD x.1 x.2.1 x.2.2.1)) (Ze (fun x:BoxT×List Fact×Lin×FnV 128×Unit=>UJ Yi x.1 x.2.1 x.2.2.1)))]
theorem b5n{G:PV->Prop}(b:BoxT)(fs:List Fact)(l:Lin)(h:(Go.Pl.preT (fun(x:BoxT×List Fact×Lin×FnV 128×Unit)=>UD x.1 x.2.1 x.2.2.1) [(.agg [(.sl 1 false (List.map enc b.v)),(.int .i64 b.m)]),(.sl 3 false (List.map enc fs)),(.agg [(.int .i64 l.k),(.sl 2 false (List.map enc l.t))]),(.fn 128)])=true∧(∃ y0:Int×Int,AV.pv (Ze (fun(x:BoxT×List Fact×Lin×FnV 128×Unit)=>UJ Yi x.1 x.2.1 x.2.2.1) [(.agg [(.sl 1 false (List.map enc b.v)),(.int .i64 b.m)]),(.sl 3 false (List.map enc fs)),(.agg [(.int .i64 l.k),(.sl 2 false (List.map enc l.t))]),(.fn 128)])=AV.pv (enc y0)∧(G ((.tup [(.int .i64 y0.1),(.int .i64 y0.2)]))))):Zc PS 0 (Za Sd G) S2 [] (Z5 14 [enc b,enc fs,enc l]):=Zc.tp (.req (.abs (Int×Int) (fun YY=>AV.pv (enc YY)) (.nil))) h (by kernel_rfl)
def Uv:IC:=(.block 1 (.seq (.reg [⟨(some 35),(.load true [(.int .i64),(.sl 2)] (.t 6)),0,none⟩,⟨(some 36),(.mv (.t 15)),0,none⟩,⟨(some 37),(.call (.c (.fn 38)) [(.t 35),(.t 36)]),0,none⟩,⟨(some 34),(.mv (.t 37)),2,none⟩,⟨(some 38),(.extract (.t 34) 0),2,none⟩,⟨(some 39),(.extract (.t 34) 1),2,none⟩,⟨(some 16),(.mv (.t 38)),2,none⟩,⟨(some 17),(.mv (.t 39)),2,none⟩] none) (.seq (.seq (.reg [⟨(some 40),(.mv (.t 17)),0,none⟩,⟨(some 41),(.bin .num .neq (.t 40) (.c (.int .i64 0))),0,none⟩] none) (.cond (.t 41) (.seq (.reg [⟨(some 42),(.mv (.t 17)),0,none⟩,⟨none,(.store 1 (.t 8) (.c (.int .i64 0))),0,none⟩,⟨none,(.store 1 (.t 9) (.t 42)),0,none⟩] none) .ret) .skip)) (.reg [⟨(some 43),(.load false [.any] (.t 13)),0,none⟩,⟨(some 44),(.mv (.t 16)),0,none⟩,⟨(some 45),(.call (.t 43) [(.t 44)]),0,none⟩] none))))
def MV:ZE:=Y6 [(73,.pure (preT (fun x:Lin×Unit=>Yd x.1)) (Ze (fun x:Lin×Unit=>Zp x.1))),(174,.own Kz GI),(116,.pure (preT (fun x:BoxT×List Fact×Bool×NilS×Unit=>ZA x.1&&Zi x.2.1&&decide (x.2.1.length<=100))) (Ze (fun x:BoxT×List Fact×Bool×NilS×Unit=>Zq x.1 x.2.1 x.2.2.1 []))),(117,.own Y5 WD),(38,.pure (preT (fun x:Lin×List Coef×Unit=>Yd x.1&&decide (x.2.1.length<=9223372036854775807))) (Ze (fun x:Lin×List Coef×Unit=>Yc x.1 x.2.1))),(194,.own (QP 128) (Kv Yi))]
theorem a2g{G:Zu->Prop}(E:Yv)(l:Lin)(p:List Int)(vs:List Coef)(z:Int)(s:Bool)(h:(Go.Pl.preT (fun(x:Lin×List Coef×Unit)=>Yd x.1&&decide (List.length x.2.1<=9223372036854775807)) [(.agg [(.int .i64 l.k),(.sl 2 false (List.map enc l.t))]),(.sl 2 false (List.map enc vs))])=true∧(∃ y0:Int×Int,AV.pv (Ze (fun(x:Lin×List Coef×Unit)=>Yc x.1 x.2.1) [(.agg [(.int .i64 l.k),(.sl 2 false (List.map enc l.t))]),(.sl 2 false (List.map enc vs))])=AV.pv (enc y0)∧(if (y0.2 != 0)=true then G ([(.obj (.box [(.pv (.int .i64 l.k)),(.pv (.sl 2 false (List.map enc l.t)))])),(.obj (.box [(.pv (.int .i64 0))])),(.obj (.box [(.pv (.int .i64 y0.2))])),(.obj (.box [(.pv (.int .i64 z))])),(.obj (.box [(.pv (.bool s))])),(.obj (.box [(.fn 194 [] [(.ptr 4 0),(.ptr 6 0),(.ptr 3 0)])])),(.obj (.box [(.pv (.fn 128))])),.fresh,.fresh])else(E 99 ⟨ZR 49 0 [],[(.obj (.box [(.pv (.int .i64 l.k)),(.pv (.sl 2 false (List.map enc l.t)))])),(.obj (.box [(.pv (.int .i64 0))])),(.obj (.box [(.pv (.int .i64 0))])),(.obj (.box [(.pv (.int .i64 (if (!s||Yi y0.1 z)=true then y0.1 else z)))])),(.obj (.box [(.pv (.bool true))])),(.obj (.box [(.fn 194 [] [(.ptr 4 0),(.ptr 6 0),(.ptr 3 0)])])),(.obj (.box [(.pv (.fn 128))]))]⟩ (fun x S'=>KR MV E 7 (fun st=>G st.heap) Uv 99 x S'))))):ZB MV E 7 (fun st=>G st.heap) (.inl Uv) [.seq (.ext 99 [])] ⟨ZR 49 0 [(6,.ptr 0 0),(8,.ptr 1 0),(9,.ptr 2 0),(11,.ptr 3 0),(12,.ptr 4 0),(13,.ptr 5 0),(15,.pv (enc vs)),(32,.pv (enc p)),(33,.pv (enc vs))],[.obj (.box [.pv (.int .i64 l.k),.pv (enc l.t)]),.obj (.box [.pv (.int .i64 0)]),.obj (.box [.pv (.int .i64 0)]),.obj (.box [.pv (.int .i64 z)]),.obj (.box [.pv (.bool s)]),.obj (.box [.fn 194 [] [.ptr 4 0,.ptr 6 0,.ptr 3 0]]),.obj (.box [.pv (.fn 128)])]⟩:=ZB.mh (.req (.abs (Int×Int) (fun YY=>AV.pv (enc YY)) (.lit (.ask (.nil) (.lit (.keep (.nil))))))) h (by kernel_rfl)
def Qp:IC:=Uv
def Mz:ZE:=Y6 [(73,.pure (preT (fun x:Lin×Unit=>Yd x.1)) (Ze (fun x:Lin×Unit=>Zp x.1))),(174,.own KJ Hh),(116,.own V7 QH),(117,.own Y5 WD),(38,.pure (preT (fun x:Lin×List Coef×Unit=>Yd x.1&&decide (x.2.1.length<=9223372036854775807))) (Ze (fun x:Lin×List Coef×Unit=>Yc x.1 x.2.1))),(194,.own (QP 128) (Kv Yi))]
theorem a6a{G:Zu->Prop}(E:Yv)(l:Lin)(p:List Int)(vs:List Coef)(z:Int)(s:Bool)(h:(Go.Pl.preT (fun(x:Lin×List Coef×Unit)=>Yd x.1&&decide (List.length x.2.1<=9223372036854775807)) [(.agg [(.int .i64 l.k),(.sl 2 false (List.map enc l.t))]),(.sl 2 false (List.map enc vs))])=true∧(∃ y0:Int×Int,AV.pv (Ze (fun(x:Lin×List Coef×Unit)=>Yc x.1 x.2.1) [(.agg [(.int .i64 l.k),(.sl 2 false (List.map enc l.t))]),(.sl 2 false (List.map enc vs))])=AV.pv (enc y0)∧(if (y0.2 != 0)=true then G ([(.obj (.box [(.pv (.int .i64 l.k)),(.pv (.sl 2 false (List.map enc l.t)))])),(.obj (.box [(.pv (.int .i64 0))])),(.obj (.box [(.pv (.int .i64 y0.2))])),(.obj (.box [(.pv (.int .i64 z))])),(.obj (.box [(.pv (.bool s))])),(.obj (.box [(.fn 194 [] [(.ptr 4 0),(.ptr 6 0),(.ptr 3 0)])])),(.obj (.box [(.pv (.fn 128))])),.fresh,.fresh])else(E 99 ⟨ZR 49 0 [],[(.obj (.box [(.pv (.int .i64 l.k)),(.pv (.sl 2 false (List.map enc l.t)))])),(.obj (.box [(.pv (.int .i64 0))])),(.obj (.box [(.pv (.int .i64 0))])),(.obj (.box [(.pv (.int .i64 (if (!s||Yi y0.1 z)=true then y0.1 else z)))])),(.obj (.box [(.pv (.bool true))])),(.obj (.box [(.fn 194 [] [(.ptr 4 0),(.ptr 6 0),(.ptr 3 0)])])),(.obj (.box [(.pv (.fn 128))]))]⟩ (fun x S'=>KR Mz E 7 (fun st=>G st.heap) Qp 99 x S'))))):ZB Mz E 7 (fun st=>G st.heap) (.inl Qp) [.seq (.ext 99 [])] ⟨ZR 49 0 [(6,.ptr 0 0),(8,.ptr 1 0),(9,.ptr 2 0),(11,.ptr 3 0),(12,.ptr 4 0),(13,.ptr 5 0),(15,.pv (enc vs)),(32,.pv (enc p)),(33,.pv (enc vs))],[.obj (.box [.pv (.int .i64 l.k),.pv (enc l.t)]),.obj (.box [.pv (.int .i64 0)]),.obj (.box [.pv (.int .i64 0)]),.obj (.box [.pv (.int .i64 z)]),.obj (.box [.pv (.bool s)]),.obj (.box [.fn 194 [] [.ptr 4 0,.ptr 6 0,.ptr 3 0]]),.obj (.box [.pv (.fn 128)])]⟩:=ZB.mh (.req (.abs (Int×Int) (fun YY=>AV.pv (enc YY)) (.lit (.ask (.nil) (.lit (.keep (.nil))))))) h (by kernel_rfl)
end Go.Pl

namespace Go.Pl
open Go.RowKit
open Enc (enc dec is)
open EncL (encL decL isL)
theorem Ae{s:Str}: ∀ {vs:List Str} {p:List Int},s∈vs->p.length=vs.length-> ∃ x∈p,UZ (Zf vs p) s=some x
 | [],_,h,_=>by cases h
 | v::vs,[],_,h=>by simp at h
 | v::vs,x::p,h,hl=>by
  by_cases e:v=s
  ·refine⟨x,by simp,?_⟩
   show((List.find? (fun t:Coef=>decide (t.v=s)) (⟨v,x⟩::Zf vs p)).map (·.c))=some x
   rw[List.find?_cons_of_pos (by simpa using e)];rfl
  ·obtain⟨y,hy,h2⟩:=Ae (s:=s) (vs:=vs) (p:=p) ((List.mem_cons.1 h).resolve_left fun h=>e h.symm) (by simpa using hl)
   refine⟨y,by simp[hy],?_⟩
   show((List.find? (fun t:Coef=>decide (t.v=s)) (⟨v,x⟩::Zf vs p)).map (·.c))=some y
   rw[List.find?_cons_of_neg (by simpa using e)]
   exact h2
theorem DI{vs:List Str}{p:List Int}(hl:p.length=vs.length)(hx : ∀ x∈p,-1000000000<=x∧x<=1000000000): ∀ (ts:List Coef) (n:Int),(∀ t∈ts,t.v∈vs)->(Kn (Zf vs p) n ts).2=0
 | [],n,_=>rfl
 | t::r,n,h=>by
  obtain⟨x,h1,h2⟩:=Ae (h t (by simp)) hl
  have:=hx x h1
  rw[Kn,h2]
  show(if x < -1000000000 then((0:Int),(2:Int))else if x>1000000000 then(0,2)else _).2=0
  rw[if_neg (by omega),if_neg (by omega)]
  exact DI hl hx r _ fun u hu=>h u (by simp[hu])
theorem b0d{b:BoxT}{fs:List Fact}{p:List Int}(hv:YC b=true)(h:p∈ZP b fs):p.length=b.v.length∧(∀ x∈p,0<=x∧x<=b.m)∧ ∀ x∈p,-1<=x∧x<=20000:=by
 unfold ZP at h
 rw[VG hv]at h
 have h:=(List.mem_filter.1 h).1
 obtain⟨h1,h2⟩:=J7.1 h
 have:0<=b.m:=(VY.1 hv).2.2.2.1
 exact⟨h1,fun x hx=>by have:=h2 x hx;omega,My hv p h⟩
theorem Tw{b:BoxT}{fs:List Fact}{l:Lin}{p:List Int}(hr:Zq b fs (Zp l) (Zd l)=0)(h:p∈ZP b fs):(Yc l (Zf b.v p)).2=0:=by
 obtain⟨hv,_,hl,hin⟩:=VX _ _ _ _ hr
 obtain⟨h1,_,h3⟩:=b0d hv h
 rw[KA,Bool.and_eq_true]at hin
 unfold Yc
 rw[if_pos hl]
 refine DI h1 (fun x hx=>by have:=h3 x hx;omega) _ _ fun t ht=> ?_
 have:=List.all_eq_true.1 hin.1 t.v (by unfold Zd;exact List.mem_map.2 ⟨t,ht,rfl⟩)
 simpa using this
theorem OF(f:Int->Int->Bool)(l:List Int)(x:Int):Gz f (l++[x])=some (match Gz f l with|none=>x|some z=>if f x z then x else z):=by
 cases l with
 | nil=>rfl
 | cons y l=>simp[Gz,List.foldl_append]
def Vg(f:Int->Int->Bool)(l:List Int):Int×Bool:=match Gz f l with|none=>(0,false)|some z=>(z,true)
theorem BC(f:Int->Int->Bool)(l:List Int)(x:Int):Vg f (l++[x])=(if !(Vg f l).2||f x (Vg f l).1 then x else(Vg f l).1,true):=by
 unfold Vg
 rw[OF]
 cases Gz f l <;> rfl
theorem b5m(l:Lin):PL (PV.agg [enc l.k,enc l.t])=l:=Enc.dec_enc l
theorem LD(b:BoxT):NK (PV.agg [enc b.v,enc b.m])=b:=Enc.dec_enc b
theorem TX(fs:List Fact):CJ (enc fs)=fs:=Enc.dec_enc fs
def Rq(l:Lin)(z:Int)(s:Bool):Zu:=[.obj (.box [.pv (.int .i64 l.k),.pv (enc l.t)]),.obj (.box [.pv (.int .i64 0)]),.obj (.box [.pv (.int .i64 0)]),.obj (.box [.pv (.int .i64 z)]),.obj (.box [.pv (.bool s)]),.obj (.box [.fn 194 [] [.ptr 4 0,.ptr 6 0,.ptr 3 0]]),.obj (.box [.pv (.fn 128)])]
theorem O6: ∀ args os,QP 128 args os=true->Zc NO os.length (Zo os.length Sj fun r=>r=Kv Yi args os) SJ [] (YD b1j args os):=by
 intro args os h
 unfold QP at h
 split at h
 ·rename_i n s g z
  have h:g=128:=by simpa using h
  subst h
  refine b3i n s z (XZ (fun h=> ?_) fun h=>Zh (n,z,()) rfl (XU (fun h2=> ?_) fun h2=> ?_))
  ·subst h;rfl
  ·subst h
   have h2:Yi n z=true:=h2
   show _=(AV.tup [],[AObj.box [.pv (.bool true)],.box [.pv (.fn 128)],.box [.pv (.int .i64 (if !true||Yi n z then n else z))]],[])
   rw[h2];rfl
  ·subst h
   have h2:Yi n z=false:=h2
   show _=(AV.tup [],[AObj.box [.pv (.bool true)],.box [.pv (.fn 128)],.box [.pv (.int .i64 (if !true||Yi n z then n else z))]],[])
   rw[h2];rfl
 ·cases h
def K6:Yv:=fun n st q=>n=0∧Hq VP 0 (.t 31) 177 [32,33] [(15,33)] Uv QU UM Gm st q
theorem To(b:BoxT)(fs:List Fact)(l:Lin)(hl:Yd l=true)(hb:b.v.length<=1000)(hr:Zq b fs (Zp l) (Zd l)=0)(k:Nat)(p:List Int)(hp:(ZP b fs)[k]? = some p):
  ZB VP (fun n S' _=>n=99∧S'.heap=Rq l (Vg Yi ((YB b fs l).take (k+1))).1 (Vg Yi ((YB b fs l).take (k+1))).2) 7 (fun st=>False) (.inl Uv) [.seq (.ext 99 [])]
   ⟨ZR 49 0 [(6,.ptr 0 0),(8,.ptr 1 0),(9,.ptr 2 0),(11,.ptr 3 0),(12,.ptr 4 0),(13,.ptr 5 0),(15,.pv (enc (Zf b.v p))),(32,.pv (enc p)),(33,.pv (enc (Zf b.v p)))],Rq l (Vg Yi ((YB b fs l).take k)).1 (Vg Yi ((YB b fs l).take k)).2⟩:=by
 have hk:=(List.getElem?_eq_some_iff.1 hp).1
 have hkp:=(List.getElem?_eq_some_iff.1 hp).2
 have hm:p∈ZP b fs:=List.mem_of_getElem? hp
 have hkv:k<(YB b fs l).length:=by unfold YB;rw[List.length_map];exact hk
 have hgv:(YB b fs l)[k]=(Yc l (Zf b.v p)).1:=by
  have:(YB b fs l)[k]? = some (Yc l (Zf b.v p)).1:=by unfold YB;rw[List.getElem?_map,hp];rfl
  exact(List.getElem?_eq_some_iff.1 this).2
 have ht:(YB b fs l).take (k+1)=(YB b fs l).take k++[(Yc l (Zf b.v p)).1]:=by rw[List.take_succ_eq_append_getElem hkv,hgv]
 rw[ht,BC]
 refine a2g (G:=fun _=>False) _ l p (Zf b.v p) _ _ ⟨Zj (l,Zf b.v p,()) rfl ?_,Zh (l,Zf b.v p,()) rfl ?_⟩
 ·show(Yd l&&decide ((Zf b.v p).length<=9223372036854775807))=true
  rw[hl,decide_eq_true (by unfold Zf;rw[List.length_zipWith];omega)];rfl
 ·refine ZI (by rw[Tw hr hm];simp) ⟨rfl,rfl⟩
theorem L5: ∀ x:BoxT×List Fact×Lin×FnV 128×Unit,(UD x.1 x.2.1 x.2.2.1&&x.2.2.1.t.isEmpty)=true->QT VP K6 0 (Za Qg (Zg (UJ Yi x.1 x.2.1 x.2.2.1))) Um [] (Z5 E3 (encL x)):=by
 rintro⟨b,fs,l,⟨⟩,⟨⟩⟩ hp
 simp only[UD,Bool.and_eq_true,decide_eq_true_eq]at hp
 obtain⟨⟨⟨⟨⟨⟨h1,h2⟩,h3⟩,h4⟩,h5⟩,h6⟩,h7⟩:=hp
 have key:Zq b fs (Zp l) (Zd l)=0->K6 0 ⟨ZR 49 0 [(6,(.ptr 0 0)),(8,(.ptr 1 0)),(9,(.ptr 2 0)),(11,(.ptr 3 0)),(12,(.ptr 4 0)),(13,(.ptr 5 0)),(15,.undef),(16,.undef),(17,.undef),(31,(.fn 177 [] [(.ptr 6 0),(.ptr 7 0)])),(33,.undef),(34,.undef),(35,.undef),(36,.undef),(37,.undef),(38,.undef),(39,.undef),(40,.undef),(41,.undef),(42,.undef),(43,.undef),(44,.undef)],[(.obj (.box [(.pv (.int .i64 (Lin.k l))),(.pv (.sl 2 false (List.map enc (Lin.t l))))])),(.obj (.box [(.pv (.int .i64 0))])),(.obj (.box [(.pv (.int .i64 0))])),(.obj (.box [(.pv (.int .i64 0))])),(.obj (.box [(.pv (.bool false))])),(.obj (.box [(.fn 194 [] [(.ptr 4 0),(.ptr 8 0),(.ptr 3 0)])])),(.obj (.box [(.pv (.sl 1 false (List.map enc (BoxT.v b)))),(.pv (.int .i64 (BoxT.m b)))])),(.obj (.box [(.pv (.sl 3 false (List.map enc fs)))])),(.obj (.box [(.pv (.fn 128))]))]⟩ (fun x S'=>KR VP K6 0 (Za Qg (Zg (UJ Yi b fs l))) Um 0 x S'):=by
  intro h0
  obtain⟨hv,_⟩:=VX _ _ _ _ h0
  refine⟨rfl,[6,7],[[enc b.v,.int .i64 b.m],[enc fs]],[6,8,9,11,12,13],[],⟨ZR 49 0 [(6,.ptr 0 0),(8,.ptr 1 0),(9,.ptr 2 0),(11,.ptr 3 0),(12,.ptr 4 0),(13,.ptr 5 0)],Rq l 0 false⟩,(fun k σ=>σ=Rq l (Vg Yi ((YB b fs l).take k)).1 (Vg Yi ((YB b fs l).take k)).2),fun _=>False,rfl,by simp,rfl,?_,by kernel_rfl,DL hv h2 h4,rfl,?_,?_,fun σ h=>h.elim⟩
  ·intro j l' ps hl hps
   match j with
   | 0=>cases hl;cases hps;rfl
   | 1=>cases hl;cases hps;rfl
   | j+2=>simp at hl
  ·intro k x σ hx hI
   rw[C8,List.getElem?_map]at hx
   obtain⟨p,hp,rfl⟩:=Option.map_eq_some_iff.1 hx
   subst hI
   have e:CV [(15,33)] (GB [32,33] ((QU (p,Zf b.v p)).map .pv) (ZR 49 0 [(6,.ptr 0 0),(8,.ptr 1 0),(9,.ptr 2 0),(11,.ptr 3 0),(12,.ptr 4 0),(13,.ptr 5 0)]))=ZR 49 0 [(6,.ptr 0 0),(8,.ptr 1 0),(9,.ptr 2 0),(11,.ptr 3 0),(12,.ptr 4 0),(13,.ptr 5 0),(15,.pv (enc (Zf b.v p))),(32,.pv (enc p)),(33,.pv (enc (Zf b.v p)))]:=by kernel_rfl
   have:=To b fs l h5 h4 h0 k p hp
   rw[<- e]at this
   exact this
  ·intro σ hI
   rw[C8,List.length_map]at hI
   subst hI
   have hall:(YB b fs l).take (ZP b fs).length=YB b fs l:=List.take_of_length_le (by unfold YB;rw[List.length_map];exact Nat.le_refl _)
   rw[hall]
   refine a1e (G:=Zg (UJ Yi b fs l)) K6 b fs l _ _ ?_
   unfold UJ Vg
   rw[if_pos h0]
   cases Gz Yi (YB b fs l)with
   | none=>exact ZC rfl (ZO (x:=((0:Int),(9:Int))) rfl)
   | some z=>exact ZI (by simp) (ZO (x:=((z:Int),(0:Int))) rfl)
 have hbad:Zq b fs (Zp l) (Zd l)≠0->Zg (UJ Yi b fs l) (.tup [.int .i64 0,.int .i64 (Zq b fs (Zp l) (Zd l))]):=by
  intro h0
  unfold UJ
  rw[if_neg h0]
  exact ZO (x:=((0:Int),Zq b fs (Zp l) (Zd l))) rfl
 have ht:l.t=[]:=List.isEmpty_iff.1 h7
 have hn:Zd l=[]:=by unfold Zd;rw[ht];rfl
 refine a7b K6 b fs l ⟨Zj (l,()) rfl h5,Zh (l,()) rfl ⟨?_,Zj (b,fs,Zp l,⟨⟩,()) rfl (by simp[h1,h2,h3]),Zh (b,fs,Zp l,⟨⟩,()) rfl ?_⟩⟩
 ·show(Vh Lin (enc l)&&(dec (enc l:PV):Lin).t.isEmpty)=true
  rw[ZX,Enc.dec_enc,ht];rfl
 ·show if (Zq b fs (Zp l) [] != 0)=true then _ else _
  rw[hn]at key hbad
  by_cases h0:Zq b fs (Zp l) []=0
  ·rw[if_neg (by simp[h0])]
   refine⟨?_,key h0⟩
   show(Vh (List Str) (enc b.v)&&Vh (List Fact) (enc fs))=true
   rw[ZX,ZX];rfl
  ·rw[if_pos (by simpa using h0)]
   exact hbad h0
def Jr:Yv:=fun n st q=>n=0∧Hq VI 0 (.t 31) 177 [32,33] [(15,33)] Qp QU UM Gm st q
theorem RH(b:BoxT)(fs:List Fact)(l:Lin)(hl:Yd l=true)(hb:b.v.length<=1000)(hr:Zq b fs (Zp l) (Zd l)=0)(k:Nat)(p:List Int)(hp:(ZP b fs)[k]? = some p):
  ZB VI (fun n S' _=>n=99∧S'.heap=Rq l (Vg Yi ((YB b fs l).take (k+1))).1 (Vg Yi ((YB b fs l).take (k+1))).2) 7 (fun st=>False) (.inl Qp) [.seq (.ext 99 [])]
   ⟨ZR 49 0 [(6,.ptr 0 0),(8,.ptr 1 0),(9,.ptr 2 0),(11,.ptr 3 0),(12,.ptr 4 0),(13,.ptr 5 0),(15,.pv (enc (Zf b.v p))),(32,.pv (enc p)),(33,.pv (enc (Zf b.v p)))],Rq l (Vg Yi ((YB b fs l).take k)).1 (Vg Yi ((YB b fs l).take k)).2⟩:=by
 have hk:=(List.getElem?_eq_some_iff.1 hp).1
 have hkp:=(List.getElem?_eq_some_iff.1 hp).2
 have hm:p∈ZP b fs:=List.mem_of_getElem? hp
 have hkv:k<(YB b fs l).length:=by unfold YB;rw[List.length_map];exact hk
 have hgv:(YB b fs l)[k]=(Yc l (Zf b.v p)).1:=by
  have:(YB b fs l)[k]? = some (Yc l (Zf b.v p)).1:=by unfold YB;rw[List.getElem?_map,hp];rfl
  exact(List.getElem?_eq_some_iff.1 this).2
 have ht:(YB b fs l).take (k+1)=(YB b fs l).take k++[(Yc l (Zf b.v p)).1]:=by rw[List.take_succ_eq_append_getElem hkv,hgv]
 rw[ht,BC]
 refine a6a (G:=fun _=>False) _ l p (Zf b.v p) _ _ ⟨Zj (l,Zf b.v p,()) rfl ?_,Zh (l,Zf b.v p,()) rfl ?_⟩
 ·show(Yd l&&decide ((Zf b.v p).length<=9223372036854775807))=true
  rw[hl,decide_eq_true (by unfold Zf;rw[List.length_zipWith];omega)];rfl
 ·refine ZI (by rw[Tw hr hm];simp) ⟨rfl,rfl⟩
theorem OD: ∀ x:BoxT×List Fact×Lin×FnV 128×Unit,(UD x.1 x.2.1 x.2.2.1&& !x.2.2.1.t.isEmpty)=true->QT VI Jr 0 (Za Qh (Zg (UJ Yi x.1 x.2.1 x.2.2.1))) Qq [] (Z5 EC (encL x)):=by
 rintro⟨b,fs,l,⟨⟩,⟨⟩⟩ hp
 simp only[UD,Bool.and_eq_true,decide_eq_true_eq]at hp
 obtain⟨⟨⟨⟨⟨⟨h1,h2⟩,h3⟩,h4⟩,h5⟩,h6⟩,h7⟩:=hp
 have key:Zq b fs (Zp l) (Zd l)=0->Jr 0 ⟨ZR 49 0 [(6,(.ptr 0 0)),(8,(.ptr 1 0)),(9,(.ptr 2 0)),(11,(.ptr 3 0)),(12,(.ptr 4 0)),(13,(.ptr 5 0)),(15,.undef),(16,.undef),(17,.undef),(31,(.fn 177 [] [(.ptr 6 0),(.ptr 7 0)])),(33,.undef),(34,.undef),(35,.undef),(36,.undef),(37,.undef),(38,.undef),(39,.undef),(40,.undef),(41,.undef),(42,.undef),(43,.undef),(44,.undef)],[(.obj (.box [(.pv (.int .i64 (Lin.k l))),(.pv (.sl 2 false (List.map enc (Lin.t l))))])),(.obj (.box [(.pv (.int .i64 0))])),(.obj (.box [(.pv (.int .i64 0))])),(.obj (.box [(.pv (.int .i64 0))])),(.obj (.box [(.pv (.bool false))])),(.obj (.box [(.fn 194 [] [(.ptr 4 0),(.ptr 8 0),(.ptr 3 0)])])),(.obj (.box [(.pv (.sl 1 false (List.map enc (BoxT.v b)))),(.pv (.int .i64 (BoxT.m b)))])),(.obj (.box [(.pv (.sl 3 false (List.map enc fs)))])),(.obj (.box [(.pv (.fn 128))]))]⟩ (fun x S'=>KR VI Jr 0 (Za Qh (Zg (UJ Yi b fs l))) Qq 0 x S'):=by
  intro h0
  obtain⟨hv,_⟩:=VX _ _ _ _ h0
  refine⟨rfl,[6,7],[[enc b.v,.int .i64 b.m],[enc fs]],[6,8,9,11,12,13],[],⟨ZR 49 0 [(6,.ptr 0 0),(8,.ptr 1 0),(9,.ptr 2 0),(11,.ptr 3 0),(12,.ptr 4 0),(13,.ptr 5 0)],Rq l 0 false⟩,(fun k σ=>σ=Rq l (Vg Yi ((YB b fs l).take k)).1 (Vg Yi ((YB b fs l).take k)).2),fun _=>False,rfl,by simp,rfl,?_,by kernel_rfl,DL hv h2 h4,rfl,?_,?_,fun σ h=>h.elim⟩
  ·intro j l' ps hl hps
   match j with
   | 0=>cases hl;cases hps;rfl
   | 1=>cases hl;cases hps;rfl
   | j+2=>simp at hl
  ·intro k x σ hx hI
   rw[C8,List.getElem?_map]at hx
   obtain⟨p,hp,rfl⟩:=Option.map_eq_some_iff.1 hx
   subst hI
   have e:CV [(15,33)] (GB [32,33] ((QU (p,Zf b.v p)).map .pv) (ZR 49 0 [(6,.ptr 0 0),(8,.ptr 1 0),(9,.ptr 2 0),(11,.ptr 3 0),(12,.ptr 4 0),(13,.ptr 5 0)]))=ZR 49 0 [(6,.ptr 0 0),(8,.ptr 1 0),(9,.ptr 2 0),(11,.ptr 3 0),(12,.ptr 4 0),(13,.ptr 5 0),(15,.pv (enc (Zf b.v p))),(32,.pv (enc p)),(33,.pv (enc (Zf b.v p)))]:=by kernel_rfl
   have:=RH b fs l h5 h4 h0 k p hp
   rw[<- e]at this
   exact this
  ·intro σ hI
   rw[C8,List.length_map]at hI
   subst hI
   have hall:(YB b fs l).take (ZP b fs).length=YB b fs l:=List.take_of_length_le (by unfold YB;rw[List.length_map];exact Nat.le_refl _)
   rw[hall]
   refine a3z (G:=Zg (UJ Yi b fs l)) Jr b fs l _ _ ?_
   unfold UJ Vg
   rw[if_pos h0]
   cases Gz Yi (YB b fs l)with
   | none=>exact ZC rfl (ZO (x:=((0:Int),(9:Int))) rfl)
   | some z=>exact ZI (by simp) (ZO (x:=((z:Int),(0:Int))) rfl)
 have hbad:Zq b fs (Zp l) (Zd l)≠0->Zg (UJ Yi b fs l) (.tup [.int .i64 0,.int .i64 (Zq b fs (Zp l) (Zd l))]):=by
  intro h0
  unfold UJ
  rw[if_neg h0]
  exact ZO (x:=((0:Int),Zq b fs (Zp l) (Zd l))) rfl
 have hne:l.t≠[]:=by intro h;rw[h]at h7;simp at h7
 refine a7x Jr b fs l ⟨Zj (l,()) rfl h5,Zh (l,()) rfl ⟨?_,?_⟩⟩
 ·show(Vh Lin (enc l)&& !(dec (enc l:PV):Lin).t.isEmpty&&decide ((dec (enc l:PV):Lin).t.length<=1000000))=true
  rw[ZX,Enc.dec_enc,decide_eq_true (by omega)]
  simpa using hne
 ·rw[b5m,LD,TX,Ui]
  have hnl:(Zd l).length=l.t.length:=by unfold Zd;rw[List.length_map]
  refine⟨?_,?_⟩
  ·show(Vh BoxT (enc b)&&Vh (List Fact) (enc fs)&&9==9&&Bb (Zd l).length (Zd l).length ((Zd l).map enc)&&decide ((Zd l).length<=1000)&& !((Zd l).map (enc:Str->PV)).isEmpty&&ZA (dec (enc b:PV))&&Zi (dec (enc fs:PV))&&decide ((dec (enc fs:PV):List Fact).length<=100)&&decide (((Zd l).map (enc:Str->PV)).length<=1000))=true
   rw[List.length_map,ZX,ZX,Enc.dec_enc,Enc.dec_enc,GS rfl (by omega),h1,h2,decide_eq_true h3,decide_eq_true (show(Zd l).length<=1000 by omega)]
   have:((Zd l).map (enc:Str->PV)).isEmpty=false:=by
    rw[List.isEmpty_eq_false_iff]
    intro h
    have:=congrArg List.length h
    rw[List.length_map,hnl]at this
    exact hne (List.length_eq_zero_iff.1 this)
   rw[this];simp
  ·show if (Zq b fs (Zp l) (Zd l) != 0)=true then _ else _
   by_cases h0:Zq b fs (Zp l) (Zd l)=0
   ·rw[if_neg (by simp[h0])]
    refine⟨?_,key h0⟩
    show(Vh (List Str) (enc b.v)&&Vh (List Fact) (enc fs))=true
    rw[ZX,ZX];rfl
   ·rw[if_pos (by simpa using h0)]
    exact hbad h0
theorem a1r: ∀ x:BoxT×List Fact×Lin×Unit,UD x.1 x.2.1 x.2.2.1=true->Zc PS 0 (Za Sd (Zg (UJ Yi x.1 x.2.1 x.2.2.1))) S2 [] (Z5 b0f (encL x)):=by
 rintro⟨b,fs,l,⟨⟩⟩ hp
 exact b5n b fs l ⟨Zj (b,fs,l,⟨()⟩,()) rfl hp,Zh (b,fs,l,⟨()⟩,()) rfl (ZO (x:=UJ Yi b fs l) rfl)⟩
theorem a7s: ∀ x:Int×Int×Unit,(fun _:Int×Int×Unit=>true) x=true->Zc a2d 0 (Za PZ (Zg (decide (x.1<x.2.1)))) N0 [] (Z5 b4j (encL x)):=by
 rintro⟨m,n,⟨⟩⟩ _
 exact b8d m n (ZK rfl)
end Go.Pl

namespace Go.Pl
open Go.RowKit
open Enc (enc dec is)
open EncL (encL decL isL)
set_option maxRecDepth 100000
def SP:IC:=(.seq (.reg [⟨(some 2),(.mv (.c (.bool false))),0,none⟩] none) (.seq (.reg [⟨(some 3),(.mv (.t 0)),0,none⟩,⟨(some 4),(.call (.c (.fn 119)) [(.t 3)]),0,none⟩,⟨(some 5),(.un .not (.t 4)),2,none⟩,⟨(some 2),(.mv (.t 5)),2,none⟩] none) .ret))
def A5:List IRes:=[(.tmp 2)]
abbrev a7i:Nat:=6
def Nq:ZE:=Y6 [(119,.pure (preT (fun x:Str×Unit=>decide (x.1.s.length<=281474976710656))) (Ze (fun x:Str×Unit=>ZD x.1)))]
theorem b4m{G:PV->Prop}(s:List UInt8)(h:(Go.Pl.preT (fun(x:Str×Unit)=>decide (List.length (Str.s x.1)<=281474976710656)) [(.str s)])=true∧(∃ y0:Bool,AV.pv (Ze (fun(x:Str×Unit)=>ZD x.1) [(.str s)])=AV.pv (enc y0)∧(G ((.bool !y0))))):Zc Nq 0 (Za A5 G) SP [] (Z5 6 [.str s]):=Zc.tp (.req (.abs (Bool) (fun YY=>AV.pv (enc YY)) (.nil))) h (by kernel_rfl)
def JF:IC:=Up
def JH:List IRes:=[(.tmp 4)]
abbrev b2p:Nat:=19
def Dk:ZE:=Y6 [(185,.pure (preT (fun x:Str×Unit=>decide (x.1.s.length<=281474976710656))) (Ze (fun x:Str×Unit=> !(ZD x.1))))]
theorem b8f{G:PV->Prop}(l:List Str)(h:At Dk 0 (Za JH G) JF 0 19 [(0,(.pv (.sl 1 false (List.map enc l)))),(1,(.pv (.fn 185))),(7,(.pv (.int .i64 (↑(List.length (List.map enc l)):Int)))),(8,(.pv (.int .i64 0)))] []):Zc Dk 0 (Za JH G) JF [] (Z5 19 [enc l,.fn 185]):=Zc.tp (.nil) h (by kernel_rfl)
theorem a1g{G:PV->Prop}(l:List Str)(i:Int)(h:if (decide (i<(↑(List.length l):Int)))=true then(decide (0<=i)&&decide (Int.toNat i<List.length (List.map enc l))&&Enc.sz Str==1)=true∧(∃ y0:Str,AV.pv (PV.rptr (PV.cells (List.getD (List.map enc l) (Int.toNat i) default)))=AV.pv (PV.rptr (PV.cells ((enc) y0)))∧((Go.Pl.preT (fun(x:Str×Unit)=>decide (List.length (Str.s x.1)<=281474976710656)) [(.str (PV.asStr (List.getD (PV.cells (enc y0)) 0 default)))])=true∧(∃ y1:Bool,AV.pv (Ze (fun(x:Str×Unit)=> !ZD x.1) [(.str (PV.asStr (List.getD (PV.cells (enc y0)) 0 default)))])=AV.pv (enc y1)∧(if (y1)=true then G ((.int .i64 i))else(At Dk 0 (Za JH G) JF 0 19 [(0,(.pv (.sl 1 false (List.map enc l)))),(1,(.pv (.fn 185))),(7,(.pv (.int .i64 (↑(List.length l):Int)))),(8,(.pv (.int .i64 (IntKind.wrap IntKind.i64 (i+1)))))] [])))))else(G ((.int .i64 (-1))))):At Dk 0 (Za JH G) JF 0 19 [(0,.pv (enc l)),(1,.pv (.fn 185)),(7,.pv (.int .i64 l.length)),(8,.pv (.int .i64 i))] []:=At.tp (.lit (.ask (.req (.abs (Str) (fun YY=>AV.pv (PV.rptr (PV.cells ((enc) YY)))) (.lit (.req (.abs (Bool) (fun YY=>AV.pv (enc YY)) (.ask (.nil) (.lit (.nil)))))))) (.nil))) h (by kernel_rfl)
def Nf:IC:=CL
def PK:List IRes:=[(.tmp 4)]
abbrev b5y:Nat:=9
def a5i:ZE:=Y6 [(238,.pure (preT (fun x:List Str×FnV 185×Unit=>Wl x.1)) (Ze (fun x:List Str×FnV 185×Unit=>Zy (fun s:Str=> !(ZD s)) x.1)))]
theorem b8e{G:PV->Prop}(l:List Str)(h:(Go.Pl.preT (fun(x:List Str×FnV 185×Unit)=>Wl x.1) [(.sl 1 false (List.map enc l)),(.fn 185)])=true∧(∃ y0:Int,AV.pv (Ze (fun(x:List Str×FnV 185×Unit)=>Zy (fun(s:Str)=> !ZD s) x.1) [(.sl 1 false (List.map enc l)),(.fn 185)])=AV.pv (enc y0)∧(G ((.bool (decide (y0 ≥ 0))))))):Zc a5i 0 (Za PK G) Nf [] (Z5 9 [enc l,.fn 185]):=Zc.tp (.req (.abs (Int) (fun YY=>AV.pv (enc YY)) (.lit (.nil)))) h (by kernel_rfl)
def SO:IC:=(.seq (.reg [⟨(some 2),(.mv (.c (.bool false))),0,none⟩] none) (.seq (.reg [⟨(some 3),(.mv (.t 0)),0,none⟩,⟨(some 4),(.mv (.t 0)),0,none⟩,⟨(some 5),(.bin .num .neq (.t 3) (.t 4)),0,none⟩,⟨(some 2),(.mv (.t 5)),0,none⟩] none) .ret))
def Sf:List IRes:=[(.tmp 2)]
abbrev b0g:Nat:=6
def Nk:ZE:=Y6 []
theorem b3x{G:PV->Prop}(s:List UInt8)(h:G ((.bool (!s==s)))):Zc Nk 0 (Za Sf G) SO [] (Z5 6 [.str s]):=Zc.tp (.lit (.nil)) h (by kernel_rfl)
def Cv:IC:=(.seq (.reg [⟨(some 4),(.mv (.c (.bool false))),0,none⟩] none) (.seq (.reg [⟨(some 5),(.mv (.t 0)),0,none⟩,⟨(some 6),(.call (.c (.fn 283)) [(.t 5)]),0,none⟩,⟨(some 7),(.mv (.t 6)),2,none⟩,⟨(some 8),(.mv (.t 1)),2,(some (7,true))⟩,⟨(some 9),(.call (.c (.fn 283)) [(.t 8)]),2,(some (7,true))⟩,⟨(some 10),(.un .not (.t 9)),4,(some (7,true))⟩,⟨(some 11),(.pick (.t 7) (.t 10) (.c (.bool false))),4,none⟩,⟨(some 12),(.mv (.t 11)),4,none⟩,⟨(some 13),(.mv (.t 0)),4,(some (12,false))⟩,⟨(some 14),(.mv (.t 1)),4,(some (12,false))⟩,⟨(some 15),(.bin .num .lss (.t 13) (.t 14)),4,(some (12,false))⟩,⟨(some 16),(.pick (.t 12) (.c (.bool true)) (.t 15)),4,none⟩,⟨(some 4),(.mv (.t 16)),4,none⟩] none) .ret))
def CM:List IRes:=[(.tmp 4)]
abbrev a5k:Nat:=17
def A1:ZE:=Y6 [(283,.pure (preT (fun _:Str×Unit=>true)) (Ze (fun _:Str×Unit=>false)))]
theorem b0o{G:PV->Prop}(s t:List UInt8)(h : ∃ y0:Bool,AV.pv (Ze (fun(x:Str×Unit)=>false) [(.str s)])=AV.pv (enc y0)∧(if (y0)=true then ∃ y1:Bool,AV.pv (Ze (fun(x:Str×Unit)=>false) [(.str t)])=AV.pv (enc y1)∧(if (!y1)=true then G ((.bool true))else(G ((.bool (Op.bytesLess s t)))))else(G ((.bool (Op.bytesLess s t)))))):Zc A1 0 (Za CM G) Cv [] (Z5 17 [.str s,.str t]):=Zc.tp (.lit (.abs (Bool) (fun YY=>AV.pv (enc YY)) (.ask (.lit (.lit (.abs (Bool) (fun YY=>AV.pv (enc YY)) (.lit (.lit (.ask (.lit (.lit (.lit (.nil)))) (.lit (.lit (.lit (.lit (.nil))))))))))) (.lit (.lit (.lit (.lit (.lit (.lit (.lit (.lit (.nil)))))))))))) h (by kernel_rfl)
def AL:IC:=(.seq (.reg [⟨(some 4),(.mv (.c (.int .i64 0))),0,none⟩] none) (.seq (.reg [⟨(some 7),(.mv (.t 0)),0,none⟩,⟨(some 8),(.call (.c (.fn 283)) [(.t 7)]),0,none⟩,⟨(some 5),(.mv (.t 8)),2,none⟩] none) (.seq (.reg [⟨(some 9),(.mv (.t 1)),0,none⟩,⟨(some 10),(.call (.c (.fn 283)) [(.t 9)]),0,none⟩,⟨(some 6),(.mv (.t 10)),2,none⟩] none) (.seq (.seq (.reg [⟨(some 11),(.mv (.t 5)),0,none⟩] none) (.cond (.t 11) (.seq (.seq (.reg [⟨(some 12),(.mv (.t 6)),0,none⟩] none) (.cond (.t 12) (.seq (.reg [⟨(some 4),(.mv (.c (.int .i64 0))),0,none⟩] none) .ret) .skip)) (.seq (.reg [⟨(some 4),(.mv (.c (.int .i64 (-1)))),0,none⟩] none) .ret)) .skip)) (.seq (.seq (.reg [⟨(some 13),(.mv (.t 6)),0,none⟩] none) (.cond (.t 13) (.seq (.reg [⟨(some 4),(.mv (.c (.int .i64 1))),0,none⟩] none) .ret) .skip)) (.seq (.seq (.reg [⟨(some 14),(.mv (.t 0)),0,none⟩,⟨(some 15),(.mv (.t 1)),0,none⟩,⟨(some 16),(.bin .num .lss (.t 14) (.t 15)),0,none⟩] none) (.cond (.t 16) (.seq (.reg [⟨(some 4),(.mv (.c (.int .i64 (-1)))),0,none⟩] none) .ret) .skip)) (.seq (.seq (.reg [⟨(some 17),(.mv (.t 0)),0,none⟩,⟨(some 18),(.mv (.t 1)),0,none⟩,⟨(some 19),(.bin .num .gtr (.t 17) (.t 18)),0,none⟩] none) (.cond (.t 19) (.seq (.reg [⟨(some 4),(.mv (.c (.int .i64 1))),0,none⟩] none) .ret) .skip)) (.seq (.reg [⟨(some 4),(.mv (.c (.int .i64 0))),0,none⟩] none) .ret))))))))
def SS:List IRes:=[(.tmp 4)]
abbrev a9h:Nat:=20
def PX:ZE:=Y6 [(283,.pure (preT (fun _:Str×Unit=>true)) (Ze (fun _:Str×Unit=>false)))]
theorem b6b{G:PV->Prop}(s t:List UInt8)(h : ∃ y0:Bool,AV.pv (Ze (fun(x:Str×Unit)=>false) [(.str s)])=AV.pv (enc y0)∧(∃ y1:Bool,AV.pv (Ze (fun(x:Str×Unit)=>false) [(.str t)])=AV.pv (enc y1)∧(if (y0)=true then if (y1)=true then G ((.int .i64 0))else(G ((.int .i64 (-1))))else(if (y1)=true then G ((.int .i64 1))else(if (Op.bytesLess s t)=true then G ((.int .i64 (-1)))else(if (!(Op.bytesLess s t||s==t))=true then G ((.int .i64 1))else(G ((.int .i64 0))))))))):Zc PX 0 (Za SS G) AL [] (Z5 20 [.str s,.str t]):=Zc.tp (.lit (.abs (Bool) (fun YY=>AV.pv (enc YY)) (.lit (.abs (Bool) (fun YY=>AV.pv (enc YY)) (.ask (.ask (.nil) (.nil)) (.ask (.nil) (.lit (.ask (.nil) (.lit (.ask (.nil) (.nil))))))))))) h (by kernel_rfl)
def WE:IC:=(.seq (.reg [⟨(some 2),(.mv (.c (.bool false))),0,none⟩] none) (.seq (.seq (.reg [⟨(some 4),(.mv (.t 0)),0,none⟩,⟨(some 5),(.len 1 (.t 4)),0,none⟩,⟨(some 6),(.bin .num .sub (.t 5) (.c (.int .i64 1))),0,none⟩,⟨(some 3),(.mv (.t 6)),0,none⟩] none) (.block 0 (.loop [3,0] (.seq (.seq (.reg [⟨(some 7),(.mv (.t 3)),0,none⟩,⟨(some 8),(.bin .num .gtr (.t 7) (.c (.int .i64 0))),0,none⟩] none) (.cond (.t 8) .skip (.exit 0))) (.seq (.block 1 (.seq (.reg [⟨(some 11),(.mv (.t 0)),0,none⟩,⟨(some 12),(.mv (.t 3)),0,none⟩,⟨(some 13),(.iaddr 1 (.t 11) (.t 12)),0,none⟩,⟨(some 14),(.load false [.str] (.t 13)),0,none⟩,⟨(some 15),(.mv (.t 0)),0,none⟩,⟨(some 16),(.mv (.t 3)),0,none⟩,⟨(some 17),(.bin .num .sub (.t 16) (.c (.int .i64 1))),0,none⟩,⟨(some 18),(.iaddr 1 (.t 15) (.t 17)),0,none⟩,⟨(some 19),(.load false [.str] (.t 18)),0,none⟩,⟨(some 20),(.call (.c (.fn 244)) [(.t 14),(.t 19)]),0,none⟩] (some [[],[],[0,1],[2,0,1],[],[],[5],[4,6,5],[7,4,6,5],[3,8,2,0,1,7,4,6,5]])) (.cond (.t 20) (.seq (.reg [⟨(some 2),(.mv (.c (.bool false))),0,none⟩] none) .ret) .skip))) (.reg [⟨(some 9),(.mv (.t 3)),0,none⟩,⟨(some 10),(.bin .num .sub (.t 9) (.c (.int .i64 1))),0,none⟩,⟨(some 3),(.mv (.t 10)),0,none⟩] none)))))) (.seq (.reg [⟨(some 2),(.mv (.c (.bool true))),0,none⟩] none) .ret)))
def WF:List IRes:=[(.tmp 2)]
abbrev Mm:Nat:=21
def Vw:ZE:=Y6 [(244,.pure (preT (fun _:Str×Str×Unit=>true)) (Ze (fun x:Str×Str×Unit=>decide (x.1.s<x.2.1.s))))]
theorem FO{G:PV->Prop}(l:List Str)(h:At Vw 0 (Za WF G) WE 0 21 [(0,(.pv (.sl 1 false (List.map enc l)))),(3,(.pv (.int .i64 (IntKind.wrap IntKind.i64 ((↑(List.length (List.map enc l)):Int) - 1)))))] []):Zc Vw 0 (Za WF G) WE [] (Z5 21 [enc l]):=Zc.tp (.lit (.nil)) h (by kernel_rfl)
theorem Jh{G:PV->Prop}(l:List Str)(i:Int)(h:if (decide (i>0))=true then(decide (0<=i)&&decide (Int.toNat i<List.length (List.map enc l))&&Enc.sz Str==1)=true∧(∃ y0:Str,AV.pv (PV.rptr (PV.cells (List.getD (List.map enc l) (Int.toNat i) default)))=AV.pv (PV.rptr (PV.cells ((enc) y0)))∧((decide (0<=IntKind.wrap IntKind.i64 (i - 1))&&decide (Int.toNat (IntKind.wrap IntKind.i64 (i - 1))<List.length (List.map enc l))&&Enc.sz Str==1)=true∧(∃ y1:Str,AV.pv (PV.rptr (PV.cells (List.getD (List.map enc l) (Int.toNat (IntKind.wrap IntKind.i64 (i - 1))) default)))=AV.pv (PV.rptr (PV.cells ((enc) y1)))∧(∃ y2:Bool,AV.pv (Ze (fun(x:Str×Str×Unit)=>decide (Str.s x.1<Str.s x.2.1)) [(.str (PV.asStr (List.getD (PV.cells (enc y0)) 0 default))),(.str (PV.asStr (List.getD (PV.cells (enc y1)) 0 default)))])=AV.pv (enc y2)∧(if (y2)=true then G ((.bool false))else(At Vw 0 (Za WF G) WE 0 21 [(0,(.pv (.sl 1 false (List.map enc l)))),(3,(.pv (.int .i64 (IntKind.wrap IntKind.i64 (i - 1)))))] []))))))else(G ((.bool true)))):At Vw 0 (Za WF G) WE 0 21 [(0,.pv (enc l)),(3,.pv (.int .i64 i))] []:=At.tp (.lit (.ask (.req (.abs (Str) (fun YY=>AV.pv (PV.rptr (PV.cells ((enc) YY)))) (.lit (.lit (.req (.abs (Str) (fun YY=>AV.pv (PV.rptr (PV.cells ((enc) YY)))) (.lit (.lit (.abs (Bool) (fun YY=>AV.pv (enc YY)) (.ask (.nil) (.lit (.nil)))))))))))) (.nil))) h (by kernel_rfl)
def Vr:IC:=(.seq (.reg [⟨(some 4),(.mv (.c (.int .i64 0))),0,none⟩] none) (.seq (.seq (.reg [⟨(some 9),(.mv (.t 0)),0,none⟩,⟨(some 10),(.len 1 (.t 9)),0,none⟩,⟨(some 11),(.mv (.c (.int .i64 0))),0,none⟩] none) (.block 0 (.loop [11,10,9,1,0] (.seq (.reg [⟨(some 12),(.bin .num .lss (.t 11) (.t 10)),0,none⟩] none) (.seq (.cond (.t 12) .skip (.exit 0)) (.seq (.block 1 (.seq (.reg [⟨(some 13),(.mv (.t 11)),0,none⟩,⟨(some 14),(.iaddr 1 (.t 9) (.t 11)),0,none⟩,⟨(some 15),(.load false [.str] (.t 14)),0,none⟩,⟨(some 5),(.mv (.t 13)),0,none⟩,⟨(some 6),(.mv (.t 15)),0,none⟩] none) (.seq (.seq (.reg [⟨(some 16),(.mv (.t 5)),0,none⟩,⟨(some 17),(.mv (.t 1)),0,none⟩,⟨(some 18),(.len 1 (.t 17)),0,none⟩,⟨(some 19),(.bin .num .geq (.t 16) (.t 18)),0,none⟩] none) (.cond (.t 19) (.seq (.reg [⟨(some 4),(.mv (.c (.int .i64 1))),0,none⟩] none) .ret) .skip)) (.seq (.reg [⟨(some 20),(.mv (.t 1)),0,none⟩,⟨(some 21),(.mv (.t 5)),0,none⟩,⟨(some 22),(.iaddr 1 (.t 20) (.t 21)),0,none⟩,⟨(some 23),(.load false [.str] (.t 22)),0,none⟩,⟨(some 7),(.mv (.t 23)),0,none⟩] none) (.seq (.reg [⟨(some 24),(.mv (.t 6)),0,none⟩,⟨(some 25),(.mv (.t 7)),0,none⟩,⟨(some 26),(.call (.c (.fn 245)) [(.t 24),(.t 25)]),0,none⟩,⟨(some 8),(.mv (.t 26)),2,none⟩] none) (.seq (.reg [⟨(some 27),(.mv (.t 8)),0,none⟩,⟨(some 28),(.bin .num .neq (.t 27) (.c (.int .i64 0))),0,none⟩] none) (.cond (.t 28) (.seq (.reg [⟨(some 29),(.mv (.t 8)),0,none⟩,⟨(some 4),(.mv (.t 29)),0,none⟩] none) .ret) .skip))))))) (.reg [⟨(some 30),(.bin .num .add (.t 11) (.c (.int .i64 1))),0,none⟩,⟨(some 11),(.mv (.t 30)),0,none⟩] none))))))) (.seq (.seq (.reg [⟨(some 31),(.mv (.t 0)),0,none⟩,⟨(some 32),(.len 1 (.t 31)),0,none⟩,⟨(some 33),(.mv (.t 1)),0,none⟩,⟨(some 34),(.len 1 (.t 33)),0,none⟩,⟨(some 35),(.bin .num .lss (.t 32) (.t 34)),0,none⟩] none) (.cond (.t 35) (.seq (.reg [⟨(some 4),(.mv (.c (.int .i64 (-1)))),0,none⟩] none) .ret) .skip)) (.seq (.reg [⟨(some 4),(.mv (.c (.int .i64 0))),0,none⟩] none) .ret))))
def Vz:List IRes:=[(.tmp 4)]
abbrev OR:Nat:=36
def UG:ZE:=Y6 [(245,.pure (preT (fun _:Str×Str×Unit=>true)) (Ze (fun x:Str×Str×Unit=>C7 x.1 x.2.1)))]
theorem a1z{G:PV->Prop}(a b:List Str)(h:At UG 0 (Za Vz G) Vr 0 36 [(0,(.pv (.sl 1 false (List.map enc a)))),(1,(.pv (.sl 1 false (List.map enc b)))),(9,(.pv (.sl 1 false (List.map enc a)))),(10,(.pv (.int .i64 (↑(List.length (List.map enc a)):Int)))),(11,(.pv (.int .i64 0)))] []):Zc UG 0 (Za Vz G) Vr [] (Z5 36 [enc a,enc b]):=Zc.tp (.nil) h (by kernel_rfl)
theorem Bh{G:PV->Prop}(a b:List Str)(i:Int)(h:if (decide (i<(↑(List.length a):Int)))=true then(decide (0<=i)&&decide (Int.toNat i<List.length (List.map enc a))&&Enc.sz Str==1)=true∧(∃ y0:Str,AV.pv (PV.rptr (PV.cells (List.getD (List.map enc a) (Int.toNat i) default)))=AV.pv (PV.rptr (PV.cells ((enc) y0)))∧(if (decide (i ≥ (↑(List.length (List.map enc b)):Int)))=true then G ((.int .i64 1))else((decide (0<=i)&&decide (Int.toNat i<List.length (List.map enc b))&&Enc.sz Str==1)=true∧(∃ y1:Str,AV.pv (PV.rptr (PV.cells (List.getD (List.map enc b) (Int.toNat i) default)))=AV.pv (PV.rptr (PV.cells ((enc) y1)))∧(∃ y2:Int,AV.pv (Ze (fun(x:Str×Str×Unit)=>C7 x.1 x.2.1) [(.str (PV.asStr (List.getD (PV.cells (enc y0)) 0 default))),(.str (PV.asStr (List.getD (PV.cells (enc y1)) 0 default)))])=AV.pv (enc y2)∧(if (y2 != 0)=true then G ((.int .i64 y2))else(At UG 0 (Za Vz G) Vr 0 36 [(0,(.pv (.sl 1 false (List.map enc a)))),(1,(.pv (.sl 1 false (List.map enc b)))),(9,(.pv (.sl 1 false (List.map enc a)))),(10,(.pv (.int .i64 (↑(List.length a):Int)))),(11,(.pv (.int .i64 (IntKind.wrap IntKind.i64 (i+1)))))] [])))))))else(if (decide ((↑(List.length (List.map enc a)):Int)<(↑(List.length (List.map enc b)):Int)))=true then G ((.int .i64 (-1)))else(G ((.int .i64 0))))):At UG 0 (Za Vz G) Vr 0 36 [(0,.pv (enc a)),(1,.pv (enc b)),(9,.pv (enc a)),(10,.pv (.int .i64 a.length)),(11,.pv (.int .i64 i))] []:=At.tp (.lit (.ask (.req (.abs (Str) (fun YY=>AV.pv (PV.rptr (PV.cells ((enc) YY)))) (.lit (.lit (.ask (.nil) (.req (.abs (Str) (fun YY=>AV.pv (PV.rptr (PV.cells ((enc) YY)))) (.lit (.lit (.abs (Int) (fun YY=>AV.pv (enc YY)) (.lit (.ask (.nil) (.lit (.nil)))))))))))))) (.lit (.ask (.nil) (.nil))))) h (by kernel_rfl)
def WL:IC:=(.seq (.reg [⟨(some 2),(.mv (.c (.bool false))),0,none⟩] none) (.seq (.seq (.reg [⟨(some 5),(.mv (.t 0)),0,none⟩,⟨(some 6),(.len 1 (.t 5)),0,none⟩,⟨(some 7),(.mv (.c (.int .i64 0))),0,none⟩] none) (.block 0 (.loop [7,6,5,0] (.seq (.reg [⟨(some 8),(.bin .num .lss (.t 7) (.t 6)),0,none⟩] none) (.seq (.cond (.t 8) .skip (.exit 0)) (.seq (.block 1 (.seq (.reg [⟨(some 9),(.mv (.t 7)),0,none⟩,⟨(some 10),(.iaddr 2 (.t 5) (.t 7)),0,none⟩,⟨(some 11),(.load true [(.int .i64),(.sl 1)] (.t 10)),0,none⟩,⟨(some 4),(.alloc (.agg [(.int .i64 0),(.sl 0 true [])])),0,none⟩,⟨(some 3),(.mv (.t 9)),1,none⟩,⟨none,(.store 2 (.t 4) (.t 11)),1,none⟩] none) (.seq (.seq (.reg [⟨(some 12),(.faddr 0 (.t 4)),0,none⟩,⟨(some 13),(.load false [(.int .i64)] (.t 12)),0,none⟩,⟨(some 14),(.bin .num .eql (.t 13) (.c (.int .i64 0))),0,none⟩,⟨(some 15),(.mv (.t 14)),0,none⟩,⟨(some 16),(.faddr 0 (.t 4)),0,(some (15,false))⟩,⟨(some 17),(.load false [(.int .i64)] (.t 16)),0,(some (15,false))⟩,⟨(some 18),(.bin .num .lss (.t 17) (.c (.int .i64 (-1099511627776)))),0,(some (15,false))⟩,⟨(some 19),(.pick (.t 15) (.c (.bool true)) (.t 18)),0,none⟩,⟨(some 20),(.mv (.t 19)),0,none⟩,⟨(some 21),(.faddr 0 (.t 4)),0,(some (20,false))⟩,⟨(some 22),(.load false [(.int .i64)] (.t 21)),0,(some (20,false))⟩,⟨(some 23),(.bin .num .gtr (.t 22) (.c (.int .i64 1099511627776))),0,(some (20,false))⟩,⟨(some 24),(.pick (.t 20) (.c (.bool true)) (.t 23)),0,none⟩,⟨(some 25),(.mv (.t 24)),0,none⟩,⟨(some 26),(.faddr 1 (.t 4)),0,(some (25,false))⟩,⟨(some 27),(.load false [(.sl 1)] (.t 26)),0,(some (25,false))⟩,⟨(some 28),(.len 1 (.t 27)),0,(some (25,false))⟩,⟨(some 29),(.bin .num .gtr (.t 28) (.c (.int .i64 8))),0,(some (25,false))⟩,⟨(some 30),(.pick (.t 25) (.c (.bool true)) (.t 29)),0,none⟩,⟨(some 31),(.mv (.t 30)),0,none⟩,⟨(some 32),(.faddr 1 (.t 4)),0,(some (31,false))⟩,⟨(some 33),(.load false [(.sl 1)] (.t 32)),0,(some (31,false))⟩,⟨(some 34),(.call (.c (.fn 184)) [(.t 33)]),0,(some (31,false))⟩,⟨(some 35),(.un .not (.t 34)),2,(some (31,false))⟩,⟨(some 36),(.pick (.t 31) (.c (.bool true)) (.t 35)),2,none⟩] none) (.cond (.t 36) (.seq (.reg [⟨(some 2),(.mv (.c (.bool false))),0,none⟩] none) .ret) .skip)) (.seq (.seq (.reg [⟨(some 37),(.faddr 1 (.t 4)),0,none⟩,⟨(some 38),(.load false [(.sl 1)] (.t 37)),0,none⟩,⟨(some 39),(.call (.c (.fn 175)) [(.t 38),(.c (.fn 185))]),0,none⟩] none) (.cond (.t 39) (.seq (.reg [⟨(some 2),(.mv (.c (.bool false))),0,none⟩] none) .ret) .skip)) (.seq (.reg [⟨(some 40),(.mv (.t 3)),0,none⟩,⟨(some 41),(.bin .num .gtr (.t 40) (.c (.int .i64 0))),0,none⟩,⟨(some 42),(.mv (.t 41)),0,none⟩,⟨(some 43),(.mv (.t 0)),0,(some (42,true))⟩,⟨(some 44),(.mv (.t 3)),0,(some (42,true))⟩,⟨(some 45),(.bin .num .sub (.t 44) (.c (.int .i64 1))),0,(some (42,true))⟩,⟨(some 46),(.iaddr 2 (.t 43) (.t 45)),0,(some (42,true))⟩,⟨(some 47),(.faddr 1 (.t 46)),0,(some (42,true))⟩,⟨(some 48),(.load false [(.sl 1)] (.t 47)),0,(some (42,true))⟩,⟨(some 49),(.faddr 1 (.t 4)),0,(some (42,true))⟩,⟨(some 50),(.load false [(.sl 1)] (.t 49)),0,(some (42,true))⟩,⟨(some 51),(.call (.c (.fn 186)) [(.t 48),(.t 50)]),0,(some (42,true))⟩,⟨(some 52),(.bin .num .geq (.t 51) (.c (.int .i64 0))),2,(some (42,true))⟩,⟨(some 53),(.pick (.t 42) (.t 52) (.c (.bool false))),2,none⟩] (some [[],[0],[1,0],[2,1,0],[2,1,0],[4,2,1,0],[3,5,2,1,0,4],[6,2,3,5,1,0,4],[7,2,6,3,5,1,0,4],[2,1,0],[9,2,1,0],[8,10,2,7,6,3,5,1,0,4,9],[11,2,8,10,7,6,3,5,1,0,4,9],[2,12,1,0,11,8,10,7,6,3,5,4,9]])) (.cond (.t 53) (.seq (.reg [⟨(some 2),(.mv (.c (.bool false))),0,none⟩] none) .ret) .skip)))))) (.reg [⟨(some 54),(.bin .num .add (.t 7) (.c (.int .i64 1))),0,none⟩,⟨(some 7),(.mv (.t 54)),0,none⟩] none))))))) (.seq (.reg [⟨(some 55),(.mv (.t 0)),0,none⟩,⟨(some 56),(.len 1 (.t 55)),0,none⟩,⟨(some 57),(.bin .num .leq (.t 56) (.c (.int .i64 60))),0,none⟩,⟨(some 2),(.mv (.t 57)),0,none⟩] none) .ret)))
def Wd:List IRes:=[(.tmp 2)]
abbrev FF:Nat:=58
def Vc:ZE:=Y6 [(184,.pure (preT (fun x:List Str×Unit=>Zn x.1)) (Ze (fun x:List Str×Unit=>J3 x.1))),(175,.pure (preT (fun x:List Str×FnV 185×Unit=>Wl x.1)) (Ze (fun x:List Str×FnV 185×Unit=>x.1.any fun s:Str=> !(ZD s)))),(186,.pure (preT (fun x:List Str×List Str×Unit=>Zn x.1&&Zn x.2.1)) (Ze (fun x:List Str×List Str×Unit=>Hu x.1 x.2.1)))]
theorem a2u{G:PV->Prop}(p:List Mono)(h:At Vc 0 (Za Wd G) WL 0 58 [(0,(.pv (.sl 2 false (List.map enc p)))),(5,(.pv (.sl 2 false (List.map enc p)))),(6,(.pv (.int .i64 (↑(List.length (List.map enc p)):Int)))),(7,(.pv (.int .i64 0)))] []):Zc Vc 0 (Za Wd G) WL [] (Z5 58 [enc p]):=Zc.tp (.nil) h (by kernel_rfl)
theorem BB{G:PV->Prop}(p:List Mono)(i:Int)(h:if (decide (i<(↑(List.length p):Int)))=true then(decide (0<=i)&&decide (Int.toNat i<List.length (List.map enc p))&&Enc.sz Mono==2)=true∧(∃ y0:Mono,AV.pv (PV.rptr (PV.cells (List.getD (List.map enc p) (Int.toNat i) default)))=AV.pv (PV.rptr (PV.cells ((enc) y0)))∧(if (PV.asInt (List.getD (PV.cells (enc y0)) 0 default)==0)=true then G ((.bool false))else(if (decide (PV.asInt (List.getD (PV.cells (enc y0)) 0 default)<(-1099511627776:Int)))=true then G ((.bool false))else(if (decide (PV.asInt (List.getD (PV.cells (enc y0)) 0 default)>1099511627776))=true then G ((.bool false))else(if (decide ((↑(List.length (PV.asXs (List.getD (PV.cells (enc y0)) (0+1) default))):Int)>8))=true then G ((.bool false))else((Go.Pl.preT (fun(x:List Str×Unit)=>Zn x.1) [(.sl 1 false (PV.asXs (List.getD (PV.cells (enc y0)) (0+1) default)))])=true∧(∃ y1:Bool,AV.pv (Ze (fun(x:List Str×Unit)=>J3 x.1) [(.sl 1 false (PV.asXs (List.getD (PV.cells (enc y0)) (0+1) default)))])=AV.pv (enc y1)∧(if (!y1)=true then G ((.bool false))else((Go.Pl.preT (fun(x:List Str×FnV 185×Unit)=>Wl x.1) [(.sl 1 false (PV.asXs (List.getD (PV.cells (enc y0)) (0+1) default))),(.fn 185)])=true∧(∃ y2:Bool,AV.pv (Ze (fun(x:List Str×FnV 185×Unit)=>List.any x.1 fun(s:Str)=> !ZD s) [(.sl 1 false (PV.asXs (List.getD (PV.cells (enc y0)) (0+1) default))),(.fn 185)])=AV.pv (enc y2)∧(if (y2)=true then G ((.bool false))else(if (decide (i>0))=true then(decide (0<=IntKind.wrap IntKind.i64 (i - 1))&&decide (Int.toNat (IntKind.wrap IntKind.i64 (i - 1))<List.length (List.map enc p))&&Enc.sz Mono==2)=true∧(∃ y3:Mono,AV.pv (PV.rptr (PV.cells (List.getD (List.map enc p) (Int.toNat (IntKind.wrap IntKind.i64 (i - 1))) default)))=AV.pv (PV.rptr (PV.cells ((enc) y3)))∧((Go.Pl.preT (fun(x:List Str×List Str×Unit)=>Zn x.1&&Zn x.2.1) [(.sl 1 false (PV.asXs (List.getD (List.drop 1 (PV.cells (enc y3))) 0 default))),(.sl 1 false (PV.asXs (List.getD (PV.cells (enc y0)) (0+1) default)))])=true∧(∃ y4:Int,AV.pv (Ze (fun(x:List Str×List Str×Unit)=>Hu x.1 x.2.1) [(.sl 1 false (PV.asXs (List.getD (List.drop 1 (PV.cells (enc y3))) 0 default))),(.sl 1 false (PV.asXs (List.getD (PV.cells (enc y0)) (0+1) default)))])=AV.pv (enc y4)∧(if (decide (y4 ≥ 0))=true then G ((.bool false))else(At Vc 0 (Za Wd G) WL 0 58 [(0,(.pv (.sl 2 false (List.map enc p)))),(5,(.pv (.sl 2 false (List.map enc p)))),(6,(.pv (.int .i64 (↑(List.length p):Int)))),(7,(.pv (.int .i64 (IntKind.wrap IntKind.i64 (i+1)))))] [])))))else(At Vc 0 (Za Wd G) WL 0 58 [(0,(.pv (.sl 2 false (List.map enc p)))),(5,(.pv (.sl 2 false (List.map enc p)))),(6,(.pv (.int .i64 (↑(List.length p):Int)))),(7,(.pv (.int .i64 (IntKind.wrap IntKind.i64 (i+1)))))] [])))))))))))))else(G ((.bool (decide ((↑(List.length (List.map enc p)):Int)<=60)))))):At Vc 0 (Za Wd G) WL 0 58 [(0,.pv (enc p)),(5,.pv (enc p)),(6,.pv (.int .i64 p.length)),(7,.pv (.int .i64 i))] []:=At.tp (.lit (.ask (.req (.abs (Mono) (fun YY=>AV.pv (PV.rptr (PV.cells ((enc) YY)))) (.lit (.lit (.ask (.lit (.lit (.lit (.lit (.lit (.lit (.lit (.lit (.lit (.lit (.lit (.lit (.lit (.lit (.lit (.lit (.lit (.lit (.nil))))))))))))))))))) (.lit (.lit (.lit (.lit (.ask (.lit (.lit (.lit (.lit (.lit (.lit (.lit (.lit (.lit (.lit (.lit (.lit (.lit (.lit (.nil))))))))))))))) (.lit (.lit (.lit (.lit (.ask (.lit (.lit (.lit (.lit (.lit (.lit (.lit (.lit (.lit (.lit (.nil))))))))))) (.lit (.lit (.lit (.lit (.lit (.ask (.lit (.lit (.lit (.lit (.lit (.nil)))))) (.lit (.lit (.req (.abs (Bool) (fun YY=>AV.pv (enc YY)) (.lit (.lit (.ask (.nil) (.req (.abs (Bool) (fun YY=>AV.pv (enc YY)) (.ask (.nil) (.lit (.ask (.lit (.lit (.lit (.lit (.req (.abs (Mono) (fun YY=>AV.pv (PV.rptr (PV.cells ((enc) YY)))) (.lit (.lit (.lit (.lit (.lit (.lit (.req (.abs (Int) (fun YY=>AV.pv (enc YY)) (.lit (.lit (.lit (.ask (.nil) (.lit (.nil)))))))))))))))))))) (.lit (.lit (.lit (.lit (.lit (.lit (.lit (.lit (.lit (.lit (.lit (.lit (.nil)))))))))))))))))))))))))))))))))))))))))))))) (.lit (.nil)))) h (by kernel_rfl)
end Go.Pl

namespace Go.Pl
open Go.RowKit
open Enc (enc dec is)
open EncL (encL decL isL)
theorem a3r: ∀ x:Str×Unit,decide (x.1.s.length<=281474976710656)=true->Zc Nq 0 (Za A5 (Zg (!(ZD x.1)))) SP [] (Z5 a7i (encL x)):=by
 rintro⟨⟨s⟩,⟨⟩⟩ h
 exact b4m s ⟨Zj (⟨s⟩,()) rfl h,Zh (⟨s⟩,()) rfl (ZK rfl)⟩
theorem a4k(l:List Str)(hs : ∀ s∈l,decide (s.s.length<=281474976710656)=true)(hl:l.length<=9223372036854775807): ∀ (m i:Nat),m+i=l.length->(∀ j (h:j<l.length),j<i->(!(ZD l[j]))=false) ->
  At Dk 0 (Za JH (Zg (Zy (fun s:Str=> !(ZD s)) l))) JF 0 19 [(0,.pv (enc l)),(1,.pv (.fn 185)),(7,.pv (.int .i64 l.length)),(8,.pv (.int .i64 i))] []:=by
 intro m
 induction m with
 | zero=>
  intro i hi hno
  refine a1g l i (ZI (ZY (by omega)) (V3 ?_))
  rw[UY _ _ (fun j hj=>hno j hj (by omega))]
 | succ m ih=>
  intro i hi hno
  have hlt:i<l.length:=by omega
  refine a1g l i (ZC (ZU hlt) ⟨Zs hlt rfl,Zw hlt ⟨Zj (l[i],()) rfl (hs _ (List.getElem_mem hlt)),Zh (l[i],()) rfl (XU (fun hb=> ?_) fun hb=> ?_)⟩⟩)
  ·exact V3 (UX (fun s:Str=> !(ZD s)) l i hlt hno hb).symm
  ·rw[next (by omega)]
   refine ih (i+1) (by omega) fun j hj hji=> ?_
   by_cases e:j=i
   ·subst e;exact hb
   ·exact hno j hj (by omega)
theorem a9k: ∀ a:List Str×FnV 185×Unit,Wl a.1=true->Zc Dk 0 (Za JH (Zg (Zy (fun s:Str=> !(ZD s)) a.1))) JF [] (Z5 b2p (encL a)):=by
 rintro⟨l,g,⟨⟩⟩ h
 have h':=h
 simp only[Wl,Bool.and_eq_true,List.all_eq_true]at h'
 refine b8f l ?_
 rw[List.length_map]
 exact a4k l h'.2 (Zx.1 h'.1) l.length 0 (by omega) (fun j hj h=>by omega)
theorem a9z: ∀ a:List Str×FnV 185×Unit,Wl a.1=true->Zc a5i 0 (Za PK (Zg (a.1.any fun s:Str=> !(ZD s)))) Nf [] (Z5 b5y (encL a)):=by
 rintro⟨l,g,⟨⟩⟩ h
 exact b8e l ⟨Zj (l,{},()) rfl h,Zh (l,{},()) rfl (ZK (XN _ _))⟩
theorem a2j: ∀ a:Str×Unit,(fun _:Str×Unit=>true) a=true->Zc Nk 0 (Za Sf (Zg (false:Bool))) SO [] (Z5 b0g (encL a)):=by
 rintro⟨⟨s⟩,⟨⟩⟩ _
 exact b3x s (ZK (by simp))
theorem F6: ∀ a:Str×Str×Unit,(fun _:Str×Str×Unit=>true) a=true->Zc A1 0 (Za CM (Zg (decide (a.1.s<a.2.1.s)))) Cv [] (Z5 a5k (encL a)):=by
 rintro⟨⟨s⟩,⟨t⟩,⟨⟩⟩ _
 exact b0o s t (Zh (⟨s⟩,()) rfl (ZI (by simp) (ZK (YQ s t))))
theorem a1t: ∀ a:Str×Str×Unit,(fun _:Str×Str×Unit=>true) a=true->Zc PX 0 (Za SS (Zg (C7 a.1 a.2.1))) AL [] (Z5 a9h (encL a)):=by
 rintro⟨⟨s⟩,⟨t⟩,⟨⟩⟩ _
 refine b6b s t (Zh (⟨s⟩,()) rfl (Zh (⟨t⟩,()) rfl (ZI (by simp) (ZI (by simp) ?_))))
 show if (Op.bytesLess s t)=true then Zg (C7 ⟨s⟩ ⟨t⟩) _ else if (!(Op.bytesLess s t||s==t))=true then Zg (C7 ⟨s⟩ ⟨t⟩) _ else Zg (C7 ⟨s⟩ ⟨t⟩) _
 rw[YQ]
 unfold C7
 by_cases h1:s<t
 ·rw[decide_eq_true h1,if_pos rfl,if_pos h1];exact V3 rfl
 ·rw[decide_eq_false h1,if_neg (by simp),if_neg h1]
  by_cases h2:s=t
  ·subst h2
   rw[if_neg (by simp),if_neg h1];exact V3 rfl
  ·have h3:t<s:=by
    rcases List.le_total s t with h|h
    ·exact absurd (Std.lt_of_le_of_ne h h2) h1
    ·exact Std.lt_of_le_of_ne h (Ne.symm h2)
   rw[if_pos (by simp[h2]),if_pos h3];exact V3 rfl
theorem a3i(l:List Str):J3 l=true ↔ ∀ i (h:i+1<l.length),¬ l[i+1].s<l[i].s:=by
 induction l with
 | nil=>simp[J3]
 | cons x l ih=>
  cases l with
  | nil=>simp[J3]
  | cons y r=>
   rw[J3,Bool.and_eq_true,ih]
   constructor
   ·rintro⟨h1,h2⟩ i hi
    cases i with
    | zero=>simpa using h1
    | succ i=>exact h2 i (by simpa using hi)
   ·intro h
    exact⟨by simpa using h 0 (by simp),fun i hi=>h (i+1) (by simpa using hi)⟩
theorem Az(l:List Str)(hl:l.length<=9223372036854775807): ∀ (i:Nat),i<l.length->(∀ j (h:j+1<l.length),i<=j-> ¬ l[j+1].s<l[j].s) ->
  At Vw 0 (Za WF (Zg (J3 l))) WE 0 21 [(0,.pv (enc l)),(3,.pv (.int .i64 i))] []:=by
 intro i
 induction i with
 | zero=>
  intro hi hok
  refine Jh l ((0:Nat):Int) (ZI (by decide) (ZK ?_))
  exact((a3i l).2 fun j hj=>hok j hj (Nat.zero_le _)).symm
 | succ i ih=>
  intro hi hok
  have hi2:i<l.length:=by omega
  have e:((i+1:Nat):Int) - 1=(i:Int):=by omega
  have hw:IntKind.i64.wrap (((i+1:Nat):Int) - 1)=(i:Int):=by rw[e];exact XB (by omega) (by omega)
  refine Jh l ((i+1:Nat):Int) (ZC (by simp) ⟨Zs hi rfl,Zw hi ?_⟩)
  rw[hw]
  refine⟨Zs hi2 rfl,Zw hi2 (Zh (l[i+1],l[i],()) rfl (XU (fun h=>ZK ?_) fun h=>ih hi2 fun j hj hij=> ?_))⟩
  ·have h:l[i+1].s<l[i].s:=of_decide_eq_true h
   cases hc:J3 l
   ·rfl
   ·exact absurd h ((a3i l).1 hc i hi)
  ·have h : ¬ l[i+1].s<l[i].s:=of_decide_eq_false h
   by_cases ej:j=i
   ·subst ej;exact h
   ·exact hok j hj (by omega)
theorem Tq: ∀ a:List Str×Unit,Zn a.1=true->Zc Vw 0 (Za WF (Zg (J3 a.1))) WE [] (Z5 Mm (encL a)):=by
 rintro⟨l,⟨⟩⟩ h
 have hl:=Zx.1 h
 refine FO l ?_
 rw[List.length_map]
 cases hc:l with
 | nil=>
  refine Jh [] _ (ZI (by decide) (ZK rfl))
 | cons x r=>
  have hw:IntKind.i64.wrap (((x::r).length:Int) - 1)=((r.length:Nat):Int):=by
   rw[List.length_cons]
   rw[hc,List.length_cons]at hl
   rw[show((r.length+1:Nat):Int) - 1=(r.length:Int) by omega]
   exact XB (by omega) (by omega)
  rw[hw]
  exact Az (x::r) (by rw[<- hc];exact hl) r.length (by simp) (fun j hj h=>by simp at hj;omega)
theorem T4(a b:List Str)(ha:a.length<=9223372036854775807)(hb:b.length<=9223372036854775807): ∀ (k i:Nat),k+i=a.length->i<=b.length ->
  At UG 0 (Za Vz (Zg (Hu (a.drop i) (b.drop i)))) Vr 0 36 [(0,.pv (enc a)),(1,.pv (enc b)),(9,.pv (enc a)),(10,.pv (.int .i64 a.length)),(11,.pv (.int .i64 i))] []:=by
 intro k
 induction k with
 | zero=>
  intro i hi hib
  rw[List.drop_of_length_le (show a.length<=i by omega)]
  refine Bh a b i (ZI (ZY (by omega)) ?_)
  simp only[List.length_map]
  refine Ww (fun h=> ?_) fun h=> ?_
  ·rw[List.drop_eq_getElem_cons (show i<b.length by omega)]
   exact V3 rfl
  ·rw[List.drop_of_length_le (show b.length<=i by omega)]
   exact V3 rfl
 | succ k ih=>
  intro i hi hib
  have hlt:i<a.length:=by omega
  rw[List.drop_eq_getElem_cons hlt]
  refine Bh a b i (ZC (ZU hlt) ⟨Zs hlt rfl,Zw hlt ?_⟩)
  simp only[List.length_map]
  refine Ww (fun h=> ?_) fun h=> ?_
  ·rw[List.drop_of_length_le (show b.length<=i by omega)]
   exact V3 rfl
  ·have hlt2:i<b.length:=by omega
   have h1:=ih (i+1) (by omega) (by omega)
   rw[List.drop_eq_getElem_cons hlt2]
   refine⟨by simp[hlt2],Zw hlt2 (Zh (a[i],b[i],()) rfl ?_)⟩
   show if (C7 a[i] b[i] != 0)=true then _ else _
   unfold Hu C7
   by_cases q1:a[i].s<b[i].s
   ·rw[if_pos q1,if_pos (by simp),if_pos q1];exact V3 rfl
   ·rw[if_neg q1,if_neg q1]
    by_cases q2:b[i].s<a[i].s
    ·rw[if_pos q2,if_pos (by simp),if_pos q2];exact V3 rfl
    ·rw[if_neg q2,if_neg (by simp),if_neg q2,next (by omega)]
     exact h1
theorem Nn: ∀ x:List Str×List Str×Unit,(Zn x.1&&Zn x.2.1)=true->Zc UG 0 (Za Vz (Zg (Hu x.1 x.2.1))) Vr [] (Z5 OR (encL x)):=by
 rintro⟨a,b,⟨⟩⟩ h
 simp only[Bool.and_eq_true]at h
 refine a1z a b ?_
 rw[List.length_map]
 exact T4 a b (Zx.1 h.1) (Zx.1 h.2) a.length 0 (by omega) (Nat.zero_le _)
theorem DF: ∀ a b:List Str,Hu a b<0 ↔ UQ a b<0
 | [],[]=>by decide
 | [],y::b=>by
  have e1:Hu [] (y::b) = -1:=rfl
  have e2:UQ [] (y::b) = -((y::b).length:Int):=rfl
  rw[e1,e2,List.length_cons];omega
 | x::a,[]=>by
  have e1:Hu (x::a) []=1:=rfl
  have e2:UQ (x::a) []=((x::a).length:Int):=rfl
  rw[e1,e2];omega
 | x::a,y::b=>by
  rw[Hu,UQ]
  split
  ·exact Iff.rfl
  ·split
   ·exact Iff.rfl
   ·exact DF a b
def pvL:Option Mono->List Mono->Bool
 | _,[]=>true
 | o,m::r=>WJ m&&(match o with|none=>true|some q=>decide (UQ q.v m.v<0))&&pvL (some m) r
theorem a2p(o:Option Mono)(m:Mono)(r:List Mono):pvL o (m::r)=(WJ m&&(match o with|none=>true|some q=>decide (UQ q.v m.v<0))&&pvL (some m) r):=by cases o <;> rfl
theorem R4: ∀ (l:List Mono) (q:Mono),pvL (some q) l=(l.all WJ&&Fz (q::l))
 | [],q=>rfl
 | m::r,q=>by
  rw[pvL,R4 r m,Fz,List.all_cons]
  cases WJ m <;> cases decide (UQ q.v m.v<0) <;> cases r.all WJ <;> cases Fz (m::r) <;> rfl
theorem a2y(l:List Mono):(pvL none l&&decide (l.length<=60))=ZG l:=by
 unfold ZG
 cases l with
 | nil=>rfl
 | cons m r=>
  rw[pvL,R4,List.all_cons,Bool.and_true]
  cases WJ m <;> cases decide ((m::r).length<=60) <;> cases r.all WJ <;> cases Fz (m::r) <;> rfl
def Rd(p:List Mono):Nat->Option Mono
 | 0=>none
 | i+1=>p[i]?
theorem Rr(p:List Mono)(hp:Z8 p=true): ∀ (k i:Nat),k+i=p.length ->
  At Vc 0 (Za Wd (Zg (pvL (Rd p i) (p.drop i)&&decide (p.length<=60)))) WL 0 58 [(0,.pv (enc p)),(5,.pv (enc p)),(6,.pv (.int .i64 p.length)),(7,.pv (.int .i64 i))] []:=by
 simp only[Z8,Bool.and_eq_true,List.all_eq_true]at hp
 have hl:=Zx.1 hp.1
 intro k
 induction k with
 | zero=>
  intro i hi
  rw[List.drop_of_length_le (by omega)]
  refine BB p i (ZI (ZY (by omega)) (ZK ?_))
  rw[List.length_map,pvL,Bool.true_and]
  exact decide_eq_decide.2 (by omega)
 | succ k ih=>
  intro i hi
  have hlt:i<p.length:=by omega
  have hm:=hp.2 _ (List.getElem_mem hlt)
  have hml:Zn p[i].v=true:=by
   simp only[Wl,Bool.and_eq_true]at hm
   exact hm.1
  have h1:=ih (i+1) (by omega)
  have hpr:Rd p (i+1)=some p[i]:=List.getElem?_eq_getElem hlt
  rw[hpr]at h1
  rw[List.drop_eq_getElem_cons hlt,a2p]
  have bad:WJ p[i]=false->Zg (WJ p[i]&&(match Rd p i with|none=>true|some q=>decide (UQ q.v p[i].v<0))&&pvL (some p[i]) (p.drop (i+1))&&decide (p.length<=60)) (.bool false):=fun h=>ZK (by rw[h];simp)
  apply BB (G:=Zg (WJ p[i]&&(match Rd p i with|none=>true|some q=>decide (UQ q.v p[i].v<0))&&pvL (some p[i]) (p.drop (i+1))&&decide (p.length<=60))) p i
  apply ZC (ZU hlt)
  refine⟨Zs hlt rfl,Zw hlt (QR (fun h=>bad ?_) fun h2=>Ww (fun h=>bad ?_) fun h3=>Ww (fun h=>bad ?_) fun h4=>Ww (fun h=>bad ?_) fun h5=>⟨Zj (p[i].v,()) rfl hml,Zh (p[i].v,()) rfl (XZ (fun h=>bad ?_) fun h6=>⟨Zj (p[i].v,{},()) rfl hm,Zh (p[i].v,{},()) rfl (XU (fun h=>bad ?_) fun h7=> ?_)⟩)⟩)⟩
  ·have h:p[i].c=0:=h
   simp[WJ,h]
  ·have h:p[i].c < -1099511627776:=h
   unfold WJ
   rw[decide_eq_false (show ¬ -1099511627776<=p[i].c by omega)];simp
  ·have h:p[i].c>1099511627776:=h
   unfold WJ
   rw[decide_eq_false (show ¬ p[i].c<=1099511627776 by omega)];simp
  ·have h:((p[i].v.map (enc:Str->PV)).length:Int)>8:=h
   rw[List.length_map]at h
   unfold WJ
   rw[decide_eq_false (show ¬ p[i].v.length<=8 by omega)];simp
  ·have h:J3 p[i].v=false:=h
   simp[WJ,h]
  ·have h:(p[i].v.any fun s=> !(ZD s))=true:=h
   have h2:p[i].v.all ZD=false:=by
    rw[<- Bool.not_eq_true]
    intro h3
    obtain⟨s,hs,h4⟩:=List.any_eq_true.1 h
    rw[List.all_eq_true.1 h3 s hs]at h4
    cases h4
   unfold WJ
   rw[h2];simp
  ·have hok:WJ p[i]=true:=by
    have h2 : ¬ p[i].c=0:=h2
    have h3 : ¬ p[i].c < -1099511627776:=h3
    have h4 : ¬ p[i].c>1099511627776:=h4
    have h5 : ¬ ((p[i].v.map (enc:Str->PV)).length:Int)>8:=h5
    rw[List.length_map]at h5
    have h6:J3 p[i].v=true:=h6
    have h7:(p[i].v.any fun s=> !(ZD s))=false:=h7
    have h8:p[i].v.all ZD=true:=by
     rw[List.all_eq_true]
     intro s hs
     cases hn:ZD s
     ·rw[<- Bool.not_eq_true]at h7
      exact absurd (List.any_eq_true.2 ⟨s,hs,by rw[hn];rfl⟩) h7
     ·rfl
    unfold WJ
    rw[decide_eq_true h2,decide_eq_true (show -1099511627776<=p[i].c by omega),decide_eq_true (show p[i].c<=1099511627776 by omega),decide_eq_true (show p[i].v.length<=8 by omega),h6,h8]
    rfl
   rw[hok,Bool.true_and]
   cases i with
   | zero=>
    refine ZI (by decide) ?_
    rw[next (by omega)]
    exact h1
   | succ j=>
    have hj:j<p.length:=by omega
    have e:((j+1:Nat):Int) - 1=(j:Int):=by omega
    have hw:IntKind.i64.wrap (((j+1:Nat):Int) - 1)=(j:Int):=by rw[e];exact XB (by omega) (by omega)
    have hprev:Rd p (j+1)=some p[j]:=List.getElem?_eq_getElem hj
    rw[hprev]
    have hjl:Zn p[j].v=true:=by
     have:=hp.2 _ (List.getElem_mem hj)
     simp only[Wl,Bool.and_eq_true]at this
     exact this.1
    refine ZC (by simp) ?_
    rw[hw]
    refine⟨Zs hj rfl,Zw hj ⟨Zj (p[j].v,p[j+1].v,()) rfl (by show(Zn p[j].v&&Zn p[j+1].v)=true;rw[hjl,hml];rfl),Zh (p[j].v,p[j+1].v,()) rfl (Ww (fun h=> ?_) fun h=> ?_)⟩⟩
    ·have h:Hu p[j].v p[j+1].v ≥ 0:=h
     have : ¬ UQ p[j].v p[j+1].v<0:=fun h2=>by have:=(DF _ _).2 h2;omega
     exact ZK (by simp[this])
    ·have h : ¬ Hu p[j].v p[j+1].v ≥ 0:=h
     have:UQ p[j].v p[j+1].v<0:=(DF _ _).1 (by omega)
     show At Vc 0 (Za Wd (Zg (decide (UQ p[j].v p[j+1].v<0)&&_&&_))) _ _ _ _ _
     rw[decide_eq_true this,Bool.true_and,next (by omega)]
     exact h1
theorem Nh: ∀ x:List Mono×Unit,Z8 x.1=true->Zc Vc 0 (Za Wd (Zg (ZG x.1))) WL [] (Z5 FF (encL x)):=by
 rintro⟨p,⟨⟩⟩ h
 refine a2u p ?_
 rw[List.length_map,<- a2y]
 exact Rr p h p.length 0 (by omega)
end Go.Pl

