/-
  Texts of mine that belong together (packed by pack.py), for every input: GRp, QGp, QLr, GLm, GLk, QLk, GLn, QLn, QLo, QLp, QRa, QRb, QRc, TyQ, GLu, GLt, QRs, QRt, QRu, QRv, GLv, QRw, QRx, TyRb, TyRc, TyPo, QGd, GRc, QRd, QRe, GRd, QRf, TyRd, GRx, QRg, GPv, QPv.
-/
import Derived.Test.YtjfgiaooglnomaaGreatDoorKG2
import Derived.Test.YtjfgiaooglnomaaGreatDoorKG3
import Derived.KernelRfl
set_option linter.unusedVariables false
set_option linter.unusedSimpArgs false
namespace Go.Pl
open Go.RowKit
open Enc (enc dec is)
open EncL (encL decL isL)
set_option maxRecDepth 100000
def Py:IC:=(.reg [⟨(some 7),(.faddr 0 (.t 1)),0,none⟩,⟨(some 8),(.load false [(.sl 1)] (.t 7)),0,none⟩,⟨(some 9),(.len 1 (.t 8)),0,none⟩,⟨(some 10),(.mksl 3 1 8 (.int .i64 0) (.t 9) (.t 9)),0,none⟩,⟨(some 4),(.mv (.t 10)),1,none⟩] none)
def a0m:List IRes:=[]
def a2a:ZG:=Xc [(48,.own XZ Ug)]
theorem c6b{G:AV×List AObj×List AObj->Prop}(E:YB)(l:Nat)(b:BoxT)(fs:List Fact)(h:(decide (0<=(↑(List.length (PV.asXs (List.getD (List.drop 0 [enc b.v,PV.int .i64 b.m]) 0 default))):Int))&&(↑(List.length (PV.asXs (List.getD (List.drop 0 [enc b.v,PV.int .i64 b.m]) 0 default))):Int)==(↑(List.length (PV.asXs (List.getD (List.drop 0 [enc b.v,PV.int .i64 b.m]) 0 default))):Int)&&decide ((↑(List.length (PV.asXs (List.getD (List.drop 0 [enc b.v,PV.int .i64 b.m]) 0 default))):Int)*(↑8:Int)<=1099511627776)&&decide ((↑(List.length (PV.asXs (List.getD (List.drop 0 [enc b.v,PV.int .i64 b.m]) 0 default))):Int)<=1099511627776))=true∧(E 99 ⟨ZU 52 0 [(0,(.yld l)),(1,(.pv (.rptr [(.sl 1 false (List.map enc b.v)),(.int .i64 b.m)]))),(2,(.pv (.rptr [(.sl 3 false (List.map enc fs))]))),(4,(.row 0 (Int.toNat (↑(List.length (PV.asXs (List.getD (List.drop 0 [enc b.v,PV.int .i64 b.m]) 0 default))):Int)) 0 (Int.toNat (↑(List.length (PV.asXs (List.getD (List.drop 0 [enc b.v,PV.int .i64 b.m]) 0 default))):Int))))],[(.obj (.row false 3 1 (List.replicate (Int.toNat (↑(List.length (PV.asXs (List.getD (List.drop 0 [enc b.v,PV.int .i64 b.m]) 0 default))):Int)) (PV.int .i64 0))))]⟩ (fun x S'=>Jy a2a E 0 (Zo 0 a0m G) Py 99 x S'))):ZB a2a E 0 (Zo 0 a0m G) (.inl Py) [.seq (.ext 99 [0,1,2,4])] ⟨ZU 52 0 [(0,.yld l),(1,(.pv (.rptr [enc b.v,.int .i64 b.m]))),(2,(.pv (.rptr [enc fs])))],[]⟩:=ZB.mo (.lit (.req (.nil))) h (by kernel_rfl)
def Pp:IC:=(.reg [⟨(some 11),(.load true [(.sl 1),(.int .i64)] (.t 1)),0,none⟩,⟨(some 12),(.mv (.t 4)),0,none⟩,⟨(some 13),(.call (.c (.fn 48)) [(.t 11),(.t 12)]),0,none⟩,⟨(some 5),(.mv (.t 13)),2,none⟩] none)
def Ew:List IRes:=[]
def a9h:ZG:=Xc [(48,.own XZ Ug)]
theorem c6z{G:AV×List AObj×List AObj->Prop}(E:YB)(l:Nat)(b:BoxT)(fs:List Fact)(n:Nat)(p:List Int)(h:(XZ [(.pv (.agg [(.sl 1 false (PV.asXs (List.getD [enc b.v,PV.int .i64 b.m] 0 default))),(.int .i64 (PV.asInt (List.getD [enc b.v,PV.int .i64 b.m] (0+1) default)))])),(.row 0 n 0 n)] [(.row false 3 1 (List.map enc p))])=true∧(E 99 ⟨ZU 52 0 [(0,(.yld l)),(1,(.pv (.rptr [(.sl 1 false (List.map enc b.v)),(.int .i64 b.m)]))),(2,(.pv (.rptr [(.sl 3 false (List.map enc fs))]))),(4,(.row 0 n 0 n)),(5,(.pv (.sl 2 false (List.map enc (Zf (dec (Sh.co (Sh.sl 1) (List.getD [enc b.v,PV.int .i64 b.m] 0 default))) (Ai (List.map enc p)))))))],[(.obj (.row false 3 1 (List.map enc p)))]⟩ (fun x S'=>Jy a9h E 1 (Zo 1 Ew G) Pp 99 x S'))):ZB a9h E 1 (Zo 1 Ew G) (.inl Pp) [.seq (.ext 99 [0,1,2,4,5])] ⟨ZU 52 0 [(0,.yld l),(1,(.pv (.rptr [enc b.v,.int .i64 b.m]))),(2,(.pv (.rptr [enc fs]))),(4,.row 0 n 0 n)],[.obj (.row false 3 1 (p.map enc))]⟩:=ZB.mo (.lit (.req (.keep (.nil)))) h (by kernel_rfl)
def Qx:IC:=(.seq (.reg [⟨(some 25),(.mv (.t 4)),0,none⟩,⟨(some 26),(.len 1 (.t 25)),0,none⟩,⟨(some 27),(.bin .num .sub (.t 26) (.c (.int .i64 1))),0,none⟩,⟨(some 6),(.mv (.t 27)),0,none⟩] none) (.seq (.block 2 (.loop [6,4,1,2,0] (.seq (.seq (.reg [⟨(some 28),(.mv (.t 6)),0,none⟩,⟨(some 29),(.bin .num .geq (.t 28) (.c (.int .i64 0))),0,none⟩,⟨(some 30),(.mv (.t 29)),0,none⟩,⟨(some 31),(.mv (.t 4)),0,(some (30,true))⟩,⟨(some 32),(.mv (.t 6)),0,(some (30,true))⟩,⟨(some 33),(.iaddr 1 (.t 31) (.t 32)),0,(some (30,true))⟩,⟨(some 34),(.load false [(.int .i64)] (.t 33)),0,(some (30,true))⟩,⟨(some 35),(.faddr 1 (.t 1)),0,(some (30,true))⟩,⟨(some 36),(.load false [(.int .i64)] (.t 35)),0,(some (30,true))⟩,⟨(some 37),(.bin .num .eql (.t 34) (.t 36)),0,(some (30,true))⟩,⟨(some 38),(.pick (.t 30) (.t 37) (.c (.bool false))),0,none⟩] (some [[],[0],[1,0],[2,1,0],[2,1,0],[3,4,2,1,0],[5,2,3,4,1,0],[2,1,0],[7,2,1,0],[6,8,2,5,3,4,1,0,7],[2,9,1,0,6,8,5,3,4,7]])) (.cond (.t 38) .skip (.exit 2))) (.block 3 (.seq (.reg [⟨(some 39),(.mv (.t 4)),0,none⟩,⟨(some 40),(.mv (.t 6)),0,none⟩,⟨(some 41),(.iaddr 1 (.t 39) (.t 40)),0,none⟩,⟨none,(.store 1 (.t 41) (.c (.int .i64 0))),0,none⟩] none) (.reg [⟨(some 42),(.mv (.t 6)),0,none⟩,⟨(some 43),(.bin .num .sub (.t 42) (.c (.int .i64 1))),0,none⟩,⟨(some 6),(.mv (.t 43)),0,none⟩] none)))))) (.seq (.seq (.reg [⟨(some 44),(.mv (.t 6)),0,none⟩,⟨(some 45),(.bin .num .lss (.t 44) (.c (.int .i64 0))),0,none⟩] none) (.cond (.t 45) .ret .skip)) (.reg [⟨(some 46),(.mv (.t 4)),0,none⟩,⟨(some 47),(.mv (.t 6)),0,none⟩,⟨(some 48),(.iaddr 1 (.t 46) (.t 47)),0,none⟩,⟨(some 49),(.load false [(.int .i64)] (.t 48)),0,none⟩,⟨(some 50),(.bin .num .add (.t 49) (.c (.int .i64 1))),0,none⟩,⟨(some 51),(.iaddr 1 (.t 46) (.t 47)),0,none⟩,⟨none,(.store 1 (.t 51) (.t 50)),0,none⟩] none))))
def KH:List IRes:=[]
def Cb:ZG:=Xc [(48,.own XZ Ug)]
theorem b7w{G:AV×List AObj×List AObj->Prop}(E:YB)(l:Nat)(b:BoxT)(fs:List Fact)(n:Nat)(p:List Int)(k:Int)(h:if (decide (k ≥ 0))=true then(decide (0<=k)&&decide (0+Int.toNat k<n)&&List.length (List.map enc p)==n)=true∧((List.length (List.map enc p)==n&&decide (0+Int.toNat k<List.length (List.map enc p)))=true∧((decide (0+List.length [Sh.int .i64]<=List.length (PV.cells (List.getD (List.map enc p) (0+Int.toNat k) default)))&&Y7 (PV.cells (List.getD (List.map enc p) (0+Int.toNat k) default)) 0 [Sh.int .i64])=true∧(if (PV.asInt (List.getD (PV.cells (List.getD (List.map enc p) (0+Int.toNat k) default)) 0 default)==PV.asInt (List.getD (List.drop 1 [enc b.v,PV.int .i64 b.m]) 0 default))=true then(decide (0<=k)&&decide (0+Int.toNat k<n)&&List.length (List.map enc p)==n)=true∧((List.length (List.map enc p)==n&&decide (0+Int.toNat k<List.length (List.map enc p))&&List.length (PV.cells (PV.int .i64 0))==1&&decide (0+1<=List.length (PV.cells (List.getD (List.map enc p) (0+Int.toNat k) default)))&&PV.cellsOk (PV.int .i64 0))=true∧(AtS [.seq (.ext 99 [0,1,2,4])] Cb E 1 (Zo 1 KH G) Qx 0 52 [(0,(.yld l)),(1,(.pv (.rptr [(.sl 1 false (List.map enc b.v)),(.int .i64 b.m)]))),(2,(.pv (.rptr [(.sl 3 false (List.map enc fs))]))),(4,(.row 0 n 0 n)),(6,(.pv (.int .i64 (IntKind.wrap IntKind.i64 (k - 1)))))] [(.obj (.row false 3 1 (List.set (List.map enc p) (0+Int.toNat k) (PV.withCells (List.getD (List.map enc p) (0+Int.toNat k) default) (splice (PV.cells (List.getD (List.map enc p) (0+Int.toNat k) default)) 0 (PV.cells (PV.int .i64 0)))))))]))else(if (decide (k<0))=true then G (((.tup []),([(.row false 3 1 (List.map enc p))],[])))else((decide (0<=k)&&decide (0+Int.toNat k<n)&&List.length (List.map enc p)==n)=true∧((List.length (List.map enc p)==n&&decide (0+Int.toNat k<List.length (List.map enc p)))=true∧((decide (0+List.length [Sh.int .i64]<=List.length (PV.cells (List.getD (List.map enc p) (0+Int.toNat k) default)))&&Y7 (PV.cells (List.getD (List.map enc p) (0+Int.toNat k) default)) 0 [Sh.int .i64])=true∧((decide (0<=k)&&decide (0+Int.toNat k<n)&&List.length (List.map enc p)==n)=true∧((List.length (List.map enc p)==n&&decide (0+Int.toNat k<List.length (List.map enc p))&&List.length (PV.cells (PV.int .i64 (IntKind.wrap IntKind.i64 (PV.asInt (List.getD (PV.cells (List.getD (List.map enc p) (0+Int.toNat k) default)) 0 default)+1))))==1&&decide (0+1<=List.length (PV.cells (List.getD (List.map enc p) (0+Int.toNat k) default)))&&PV.cellsOk (PV.int .i64 (IntKind.wrap IntKind.i64 (PV.asInt (List.getD (PV.cells (List.getD (List.map enc p) (0+Int.toNat k) default)) 0 default)+1))))=true∧(E 99 ⟨ZU 52 0 [(0,(.yld l)),(1,(.pv (.rptr [(.sl 1 false (List.map enc b.v)),(.int .i64 b.m)]))),(2,(.pv (.rptr [(.sl 3 false (List.map enc fs))]))),(4,(.row 0 n 0 n))],[(.obj (.row false 3 1 (List.set (List.map enc p) (0+Int.toNat k) (PV.withCells (List.getD (List.map enc p) (0+Int.toNat k) default) (splice (PV.cells (List.getD (List.map enc p) (0+Int.toNat k) default)) 0 (PV.cells (PV.int .i64 (IntKind.wrap IntKind.i64 (PV.asInt (List.getD (PV.cells (List.getD (List.map enc p) (0+Int.toNat k) default)) 0 default)+1)))))))))]⟩ (fun x S'=>Jy Cb E 1 (Zo 1 KH G) Qx 99 x S')))))))))))else(if (decide (k<0))=true then G (((.tup []),([(.row false 3 1 (List.map enc p))],[])))else((decide (0<=k)&&decide (0+Int.toNat k<n)&&List.length (List.map enc p)==n)=true∧((List.length (List.map enc p)==n&&decide (0+Int.toNat k<List.length (List.map enc p)))=true∧((decide (0+List.length [Sh.int .i64]<=List.length (PV.cells (List.getD (List.map enc p) (0+Int.toNat k) default)))&&Y7 (PV.cells (List.getD (List.map enc p) (0+Int.toNat k) default)) 0 [Sh.int .i64])=true∧((decide (0<=k)&&decide (0+Int.toNat k<n)&&List.length (List.map enc p)==n)=true∧((List.length (List.map enc p)==n&&decide (0+Int.toNat k<List.length (List.map enc p))&&List.length (PV.cells (PV.int .i64 (IntKind.wrap IntKind.i64 (PV.asInt (List.getD (PV.cells (List.getD (List.map enc p) (0+Int.toNat k) default)) 0 default)+1))))==1&&decide (0+1<=List.length (PV.cells (List.getD (List.map enc p) (0+Int.toNat k) default)))&&PV.cellsOk (PV.int .i64 (IntKind.wrap IntKind.i64 (PV.asInt (List.getD (PV.cells (List.getD (List.map enc p) (0+Int.toNat k) default)) 0 default)+1))))=true∧(E 99 ⟨ZU 52 0 [(0,(.yld l)),(1,(.pv (.rptr [(.sl 1 false (List.map enc b.v)),(.int .i64 b.m)]))),(2,(.pv (.rptr [(.sl 3 false (List.map enc fs))]))),(4,(.row 0 n 0 n))],[(.obj (.row false 3 1 (List.set (List.map enc p) (0+Int.toNat k) (PV.withCells (List.getD (List.map enc p) (0+Int.toNat k) default) (splice (PV.cells (List.getD (List.map enc p) (0+Int.toNat k) default)) 0 (PV.cells (PV.int .i64 (IntKind.wrap IntKind.i64 (PV.asInt (List.getD (PV.cells (List.getD (List.map enc p) (0+Int.toNat k) default)) 0 default)+1)))))))))]⟩ (fun x S'=>Jy Cb E 1 (Zo 1 KH G) Qx 99 x S'))))))))):AtS [.seq (.ext 99 [0,1,2,4])] Cb E 1 (Zo 1 KH G) Qx 0 52 [(0,.yld l),(1,(.pv (.rptr [enc b.v,.int .i64 b.m]))),(2,(.pv (.rptr [enc fs]))),(4,.row 0 n 0 n),(6,.pv (.int .i64 k))] [.obj (.row false 3 1 (p.map enc))]:=ZB.mo (.lit (.ask (.lit (.lit (.req (.keep (.lit (.req (.req (.lit (.lit (.lit (.lit (.lit (.lit (.ask (.req (.keep (.req (.lit (.nil))))) (.lit (.ask (.nil) (.req (.keep (.req (.req (.lit (.req (.keep (.req (.nil))))))))))))))))))))))))) (.lit (.lit (.lit (.lit (.lit (.lit (.lit (.lit (.lit (.ask (.nil) (.req (.keep (.req (.req (.lit (.req (.keep (.req (.nil))))))))))))))))))))) h (by kernel_rfl)
theorem c4r{G:AV×List AObj×List AObj->Prop}(E:YB)(l:Nat)(b:BoxT)(fs:List Fact)(n:Nat)(p:List Int)(h:AtS [.seq (.ext 99 [0,1,2,4])] Cb E 1 (Zo 1 KH G) Qx 0 52 [(0,(.yld l)),(1,(.pv (.rptr [(.sl 1 false (List.map enc b.v)),(.int .i64 b.m)]))),(2,(.pv (.rptr [(.sl 3 false (List.map enc fs))]))),(4,(.row 0 n 0 n)),(6,(.pv (.int .i64 (IntKind.wrap IntKind.i64 ((↑(n - 0):Int) - 1)))))] [(.obj (.row false 3 1 (List.map enc p)))]):ZB Cb E 1 (Zo 1 KH G) (.inl Qx) [.seq (.ext 99 [0,1,2,4])] ⟨ZU 52 0 [(0,.yld l),(1,(.pv (.rptr [enc b.v,.int .i64 b.m]))),(2,(.pv (.rptr [enc fs]))),(4,.row 0 n 0 n)],[.obj (.row false 3 1 (p.map enc))]⟩:=ZB.mo (.lit (.nil)) h (by kernel_rfl)
def Wj:IC:=WM
def Wx:List IRes:=[(.tmp 4)]
abbrev a4g:Nat:=31
def Vx:ZG:=Xc []
theorem b5l{G:AV×List AObj×List AObj->Prop}(b:BoxT)(m:Nat)(p:List Int)(h:At Vx 1 (WE 1 Wx G) Wj 0 31 [(1,(.row 0 m 0 m)),(2,(.ptr 1 0)),(5,(.pv (.sl 0 true []))),(12,(.pv (.int .i64 (if false=true then if (↑(List.length (List.map enc b.v)):Int)>(↑(m - 0):Int)then(↑(List.length (List.map enc b.v)):Int)else(↑(m - 0):Int)else if (↑(List.length (List.map enc b.v)):Int)<(↑(m - 0):Int)then(↑(List.length (List.map enc b.v)):Int)else(↑(m - 0):Int))))),(13,(.pv (.int .i64 0)))] [(.obj (.row false 3 1 (List.map enc p))),(.obj (.box [(.pv (.sl 1 false (List.map enc b.v))),(.pv (.int .i64 b.m))]))]):Zc Vx 1 (WE 1 Wx G) Wj [] (YK 31 [.pv (enc b),.row 0 m 0 m] [.row false 3 1 (p.map enc)]):=Zc.tf (.nil) h (by kernel_rfl)
theorem Be{G:AV×List AObj×List AObj->Prop}(b:BoxT)(m:Nat)(p:List Int)(n i:Int)(h:if (decide (i<n))=true then(decide (0<=i)&&decide (Int.toNat i<List.length (List.map enc b.v))&&Enc.sz Str==1)=true∧(∃ y0:Str,AV.pv (PV.rptr (PV.cells (List.getD (List.map enc b.v) (Int.toNat i) default)))=AV.pv (PV.rptr (PV.cells ((enc) y0)))∧((decide (0<=i)&&decide (0+Int.toNat i<m)&&List.length (List.map enc p)==m)=true∧((List.length (List.map enc p)==m&&decide (0+Int.toNat i<List.length (List.map enc p)))=true∧((decide (0+List.length [Sh.int .i64]<=List.length (PV.cells (List.getD (List.map enc p) (0+Int.toNat i) default)))&&Y7 (PV.cells (List.getD (List.map enc p) (0+Int.toNat i) default)) 0 [Sh.int .i64])=true∧(At Vx 1 (WE 1 Wx G) Wj 0 31 [(1,(.row 0 m 0 m)),(2,(.ptr 1 0)),(5,(.row 2 1 0 1)),(12,(.pv (.int .i64 n))),(13,(.pv (.int .i64 (IntKind.wrap IntKind.i64 (i+1)))))] [(.obj (.row false 3 1 (List.map enc p))),(.obj (.box [(.pv (.sl 1 false (List.map enc b.v))),(.pv (.int .i64 b.m))])),(.obj (.row false 63 2 [(.agg [(.str (PV.asStr (List.getD (PV.cells (enc y0)) 0 default))),(.int .i64 (PV.asInt (List.getD (PV.cells (List.getD (List.map enc p) (0+Int.toNat i) default)) 0 default)))])]))])))))else(G (((.pv (.sl 0 true [])),([(.row false 3 1 (List.map enc p))],[]))))):At Vx 1 (WE 1 Wx G) Wj 0 31 [(1,.row 0 m 0 m),(2,.ptr 1 0),(5,.pv (.sl 0 true [])),(12,.pv (.int .i64 n)),(13,.pv (.int .i64 i))] [.obj (.row false 3 1 (p.map enc)),.obj (.box [.pv (enc b.v),.pv (.int .i64 b.m)])]:=At.tf (.lit (.ask (.req (.abs (Str) (fun YY=>AV.pv (PV.rptr (PV.cells ((enc) YY)))) (.lit (.req (.keep (.req (.req (.lit (.lit (.lit (.lit (.lit (.lit (.nil)))))))))))))) (.nil))) h (by kernel_rfl)
theorem Bl{G:AV×List AObj×List AObj->Prop}(b:BoxT)(m:Nat)(p:List Int)(n i:Int)(q:Nat)(vs:List Coef)(h:if (decide (i<n))=true then(decide (0<=i)&&decide (Int.toNat i<List.length (List.map enc b.v))&&Enc.sz Str==1)=true∧(∃ y0:Str,AV.pv (PV.rptr (PV.cells (List.getD (List.map enc b.v) (Int.toNat i) default)))=AV.pv (PV.rptr (PV.cells ((enc) y0)))∧((decide (0<=i)&&decide (0+Int.toNat i<m)&&List.length (List.map enc p)==m)=true∧((List.length (List.map enc p)==m&&decide (0+Int.toNat i<List.length (List.map enc p)))=true∧((decide (0+List.length [Sh.int .i64]<=List.length (PV.cells (List.getD (List.map enc p) (0+Int.toNat i) default)))&&Y7 (PV.cells (List.getD (List.map enc p) (0+Int.toNat i) default)) 0 [Sh.int .i64])=true∧((List.length (List.map enc vs)==q&&q==q&&decide ((q+List.length (List.drop 0 (List.take 1 [PV.agg [Sh.co Sh.str (List.getD (PV.cells (enc y0)) 0 default),Sh.co (Sh.int .i64) (List.getD (PV.cells (List.getD (List.map enc p) (0+Int.toNat i) default)) 0 default)]])))*24<=1099511627776)&&decide (q+List.length (List.drop 0 (List.take 1 [PV.agg [Sh.co Sh.str (List.getD (PV.cells (enc y0)) 0 default),Sh.co (Sh.int .i64) (List.getD (PV.cells (List.getD (List.map enc p) (0+Int.toNat i) default)) 0 default)]]))<=1099511627776))=true∧(At Vx 1 (WE 1 Wx G) Wj 0 31 [(1,(.row 0 m 0 m)),(2,(.ptr 1 0)),(5,(.row 2 (q+List.length (List.drop 0 (List.take 1 [PV.agg [Sh.co Sh.str (List.getD (PV.cells (enc y0)) 0 default),Sh.co (Sh.int .i64) (List.getD (PV.cells (List.getD (List.map enc p) (0+Int.toNat i) default)) 0 default)]]))) 0 (q+List.length (List.drop 0 (List.take 1 [PV.agg [Sh.co Sh.str (List.getD (PV.cells (enc y0)) 0 default),Sh.co (Sh.int .i64) (List.getD (PV.cells (List.getD (List.map enc p) (0+Int.toNat i) default)) 0 default)]]))))),(12,(.pv (.int .i64 n))),(13,(.pv (.int .i64 (IntKind.wrap IntKind.i64 (i+1)))))] [(.obj (.row false 3 1 (List.map enc p))),(.obj (.box [(.pv (.sl 1 false (List.map enc b.v))),(.pv (.int .i64 b.m))])),(.obj (.row false 63 2 (List.map enc vs++List.drop 0 (List.take 1 [PV.agg [Sh.co Sh.str (List.getD (PV.cells (enc y0)) 0 default),Sh.co (Sh.int .i64) (List.getD (PV.cells (List.getD (List.map enc p) (0+Int.toNat i) default)) 0 default)]]))))]))))))else((List.length (List.map enc vs)==q)=true∧(G (((.pv (.sl 2 false (List.drop 0 (List.take q (List.map enc vs))))),([(.row false 3 1 (List.map enc p))],[])))))):At Vx 1 (WE 1 Wx G) Wj 0 31 [(1,.row 0 m 0 m),(2,.ptr 1 0),(5,.row 2 q 0 q),(12,.pv (.int .i64 n)),(13,.pv (.int .i64 i))] [.obj (.row false 3 1 (p.map enc)),.obj (.box [.pv (enc b.v),.pv (.int .i64 b.m)]),.obj (.row false 63 2 (vs.map enc))]:=At.tf (.lit (.ask (.req (.abs (Str) (fun YY=>AV.pv (PV.rptr (PV.cells ((enc) YY)))) (.lit (.req (.keep (.req (.req (.lit (.lit (.req (.lit (.nil)))))))))))) (.req (.nil)))) h (by kernel_rfl)
end Go.Pl

namespace Go.Pl
open Go.RowKit
open Enc (enc dec is)
open EncL (encL decL isL)
theorem UU{l:List Int}{i:Nat}(h:i<l.length):List.getD (List.map (enc:Int->PV) l) (0+Int.toNat (i:Int)) default=enc l[i]:=by simp[List.getD,h]
theorem Ml(b:BoxT)(p:List Int)(hb:b.v.length<=1000)(hp:p.length<=1000): ∀ (k i:Nat),k+i=min b.v.length p.length->1<=i ->
  At Vx 1 (WE 1 Wx fun r=> ∃ q q',r.1 = .pv q∧Sub q q'∧((.pv (.sl 2 false ((Zf b.v p).map enc)),[.row false 3 1 (p.map enc)],[]):AV×List AObj×List AObj)=(.pv q',r.2)) Wj 0 31 [(1,.row 0 p.length 0 p.length),(2,.ptr 1 0),(5,.row 2 i 0 i),(12,.pv (.int .i64 ((min b.v.length p.length:Nat):Int))),(13,.pv (.int .i64 i))] [.obj (.row false 3 1 (p.map enc)),.obj (.box [.pv (enc b.v),.pv (.int .i64 b.m)]),.obj (.row false 63 2 ((Zf (b.v.take i) (p.take i)).map enc))]:=by
 intro k
 induction k with
 | zero=>
  intro i hi h1
  have hl:=Um b.v p (i:=i) (by omega) (by omega)
  refine Bl b p.length p _ i i (Zf (b.v.take i) (p.take i)) (ZK (Z4 (by omega)) ⟨by simp[hl],?_⟩)
  rw[List.drop_zero,List.take_of_length_le (by rw[List.length_map,hl];exact Nat.le_refl _),H6 b.v p (by omega)]
  exact⟨_,_,rfl,Sub.refl _,rfl⟩
 | succ k ih=>
  intro i hi h1
  have hl:=Um b.v p (i:=i) (by omega) (by omega)
  have hlt:i<b.v.length:=by omega
  have hlt2:i<p.length:=by omega
  have e:=UU hlt2
  refine Bl b p.length p _ i i (Zf (b.v.take i) (p.take i)) (ZE (ZX (by omega)) ⟨Zt hlt rfl,Zx hlt ⟨by simp;omega,by simp;omega,?_,?_,?_⟩⟩)
  ·rw[e];rfl
  ·rw[List.length_map,hl]
   show((i==i)&&(i==i)&&decide ((i+1)*24<=1099511627776)&&decide (i+1<=1099511627776))=true
   rw[decide_eq_true (by omega),decide_eq_true (by omega)];simp
  ·have:=ih (i+1) (by omega) (by omega)
   rw[Vh b.v p hlt hlt2,List.map_append,<- next (by omega)]at this
   rw[e]
   exact this
theorem GK(l:List Int):Ai (l.map enc)=l:=Enc.dec_enc l
theorem OQ: ∀ args os,XZ args os=true->Zc Vx os.length (WE os.length Wx fun r=> ∃ p p',r.1 = .pv p∧Sub p p'∧Ug args os=(.pv p',r.2)) Wj [] (YK a4g args os):=by
 intro args os h
 unfold XZ at h
 split at h
 ·rename_i v k n m ty xs
  simp only[Bool.and_eq_true,beq_iff_eq,decide_eq_true_eq]at h
  obtain⟨⟨⟨⟨⟨⟨rfl,h2⟩,rfl⟩,h4⟩,h5⟩,h6⟩,h7⟩:=h
  obtain⟨p,hp⟩:=Yq h4
  have hp:PV.sl 1 false xs=PV.sl 1 false (p.map enc):=hp
  injection hp with _ _ hx
  subst hx
  obtain⟨bv,rfl⟩:=Yq h5
  rw[Enc.dec_enc]at h6
  rw[List.length_map]at h2
  subst h2
  have ev:Ug [.pv (.agg [enc bv,.int .i64 k]),.row 0 p.length 0 p.length] [.row false 3 1 (p.map enc)]=(.pv (.sl 2 false ((Zf bv p).map enc)),[.row false 3 1 (p.map enc)],[]):=by
   show(AV.pv (.sl 2 false ((Zf (dec (enc bv:PV)) (Ai (p.map enc))).map enc)),_,_)=_
   rw[Enc.dec_enc,GK]
  rw[ev]
  refine b5l ⟨bv,k⟩ p.length p ?_
  simp only[List.length_map]
  rw[if_neg (by decide)]
  have em:(if ((bv.length:Nat):Int)<((p.length - 0:Nat):Int)then(bv.length:Int)else((p.length - 0:Nat):Int))=((min bv.length p.length:Nat):Int):=by
   split <;> omega
  rw[em]
  by_cases h0:min bv.length p.length=0
  ·rw[h0]
   refine Be ⟨bv,k⟩ p.length p 0 0 (ZK (by decide) ?_)
   have:Zf bv p=[]:=by
    rw[<- List.length_eq_zero_iff];unfold Zf;rw[List.length_zipWith];exact h0
   rw[this]
   exact⟨_,_,rfl,Sub.sl0 0 2 true,rfl⟩
  ·have hlt:0<bv.length:=by omega
   have hlt2:0<p.length:=by omega
   have e:=UU hlt2
   refine Be ⟨bv,k⟩ p.length p _ 0 (ZE (ZX (i:=0) (by omega)) ⟨Zt hlt rfl,Zx hlt ⟨by simp;omega,by simp;omega,?_,?_⟩⟩)
   ·have e:List.getD (List.map (enc:Int->PV) p) (0+Int.toNat 0) default=enc p[0]:=e
    rw[e];rfl
   ·have:=Ml ⟨bv,k⟩ p h6 h7 (min bv.length p.length - 1) 1 (by show min bv.length p.length - 1+1=min bv.length p.length;omega) (by omega)
    rw[show(1:Nat)=0+1 from rfl,Vh bv p hlt hlt2]at this
    have e:List.getD (List.map (enc:Int->PV) p) (0+Int.toNat 0) default=enc p[0]:=e
    rw[e]
    exact this
 ·cases h
def Jz(l:Nat)(b:BoxT)(fs:List Fact)(n:Nat):List AV:=ZU 52 0 [(0,.yld l),(1,.pv (.rptr [enc b.v,.int .i64 b.m])),(2,.pv (.rptr [enc fs])),(4,.row 0 n 0 n)]
def YJ(p:List Int):Zv:=[.obj (.row false 3 1 (p.map enc))]
def b0m(l:Nat)(b:BoxT)(fs:List Fact)(n:Nat)(p:List Int):List AV:=ZU 52 0 [(0,.yld l),(1,.pv (.rptr [enc b.v,.int .i64 b.m])),(2,.pv (.rptr [enc fs])),(4,.row 0 n 0 n),(5,.pv (enc (Zf b.v p)))]
theorem c0x(l:Nat)(b:BoxT)(fs:List Fact)(hb:b.v.length<=1000):ZB a2a (fun n S' _=>n=99∧S'=⟨Jz l b fs b.v.length,YJ (Wd b.v)⟩) 0 (Zo 0 a0m fun _=>False) (.inl Py) [.seq (.ext 99 [0,1,2,4])] ⟨ZU 52 0 [(0,.yld l),(1,.pv (.rptr [enc b.v,.int .i64 b.m])),(2,.pv (.rptr [enc fs]))],[]⟩:=by
 have e:PV.asXs (List.getD (List.drop 0 [enc b.v,PV.int .i64 b.m]) 0 default)=b.v.map enc:=rfl
 have en:Int.toNat ((List.length (List.map (enc:Str->PV) b.v):Nat):Int)=b.v.length:=by simp
 have ez:List.replicate b.v.length (PV.int .i64 0)=(Wd b.v).map enc:=by
  unfold Wd
  rw[List.map_map]
  exact(List.map_const' ..).symm
 refine c6b (G:=fun _=>False) _ l b fs ⟨?_,rfl,?_⟩
 ·simp only[e,List.length_map]
  simp
  omega
 ·simp only[e,en,ez]
  rfl
theorem c1i(l:Nat)(b:BoxT)(fs:List Fact)(p:List Int)(hb:b.v.length<=1000)(hp:p.length<=1000):ZB a9h (fun n S' _=>n=99∧S'=⟨b0m l b fs p.length p,YJ p⟩) 1 (Zo 1 Ew fun _=>False) (.inl Pp) [.seq (.ext 99 [0,1,2,4,5])] ⟨Jz l b fs p.length,YJ p⟩:=by
 refine c6z (G:=fun _=>False) _ l b fs p.length p ⟨?_,rfl,?_⟩
 ·show(p.length==p.length&&(p.map enc).length==p.length&&3==3&&VG (List Int) (enc p)&&VG (List Str) (enc b.v)&&decide ((dec (enc b.v:PV):List Str).length<=1000)&&decide (p.length<=1000))=true
  rw[Z0,Z0,Enc.dec_enc,decide_eq_true hb,decide_eq_true hp];simp
 ·have e1:Zf (dec (Sh.co (Sh.sl 1) (List.getD [enc b.v,PV.int .i64 b.m] 0 default))) (Ai (p.map enc))=Zf b.v p:=by
   rw[GK]
   show Zf (dec (enc b.v:PV)) p=_
   rw[Enc.dec_enc]
  rw[e1]
  rfl
theorem b0x(l:Nat)(b:BoxT)(fs:List Fact): ∀ (k:Nat) (p:List Int),k<=p.length->p.length<=1000->(∀ x∈p,-1<=x∧x<=20000) ->
  AtS [.seq (.ext 99 [0,1,2,4])] Cb (fun n S' _=>n=99∧ ∃ q,YP b.m k p=some q∧S'=⟨Jz l b fs p.length,YJ q⟩) 1 (Zo 1 KH fun _=>YP b.m k p=none) Qx 0 52 [(0,.yld l),(1,.pv (.rptr [enc b.v,.int .i64 b.m])),(2,.pv (.rptr [enc fs])),(4,.row 0 p.length 0 p.length),(6,.pv (.int .i64 ((k:Int) - 1)))] (YJ p):=by
 intro k
 induction k with
 | zero=>
  intro p hk hp hx
  exact b7w (G:=fun _=>YP b.m 0 p=none) _ l b fs p.length p _ (ZK (by simp) (ZE (by simp) rfl))
 | succ k ih=>
  intro p hk hp hx
  have hlt:k<p.length:=by omega
  have ek:((k+1:Nat):Int) - 1=(k:Int):=by omega
  rw[ek]
  have e:=UU hlt
  have eg:p.getD k 0=p[k]:=by simp[List.getD,hlt]
  have hxk:=hx _ (List.getElem_mem hlt)
  have em:PV.asInt (List.getD (List.drop 1 [enc b.v,PV.int .i64 b.m]) 0 default)=b.m:=rfl
  have q1:(decide (0<=(k:Int))&&decide (0+Int.toNat (k:Int)<p.length)&&List.length (List.map (enc:Int->PV) p)==p.length)=true:=by simp;omega
  have q2:(List.length (List.map (enc:Int->PV) p)==p.length&&decide (0+Int.toNat (k:Int)<List.length (List.map (enc:Int->PV) p)))=true:=by simp;omega
  have hset : ∀ y:Int,List.set (List.map (enc:Int->PV) p) (0+Int.toNat (k:Int)) (enc y)=(p.set k y).map enc:=fun y=>by rw[Nat.zero_add,Int.toNat_natCast,List.map_set]
  refine b7w (G:=fun _=>YP b.m (k+1) p=none) _ l b fs p.length p k (ZE (by simp) ?_)
  rw[e]
  refine⟨q1,q2,rfl,Q7 (fun h=>⟨q1,?_,?_⟩) fun h=>ZK (by simp) ⟨q1,q2,rfl,q1,?_,?_⟩⟩
  ·rw[q2];rfl
  ·have h:p[k]=b.m:=h
   have hn:YP b.m (k+1) p=YP b.m k (p.set k 0):=by rw[YP,eg,if_pos h]
   rw[hn]
   have hw:IntKind.i64.wrap ((k:Int) - 1)=(k:Int) - 1:=XJ (by omega) (by omega)
   rw[hw]
   have:=ih (p.set k 0) (by rw[List.length_set];omega) (by rw[List.length_set];exact hp) (fun x hx'=>by
    rcases List.mem_or_eq_of_mem_set hx' with h|rfl
    ·exact hx x h
    ·omega)
   rw[List.length_set]at this
   have e0:=hset 0
   unfold YJ at this
   rw[<- e0]at this
   exact this
  ·rw[q2];rfl
  ·have h : ¬ p[k]=b.m:=h
   have hn:YP b.m (k+1) p=some (p.set k (p[k]+1)):=by rw[YP,eg,if_neg h]
   have hw:IntKind.i64.wrap (p[k]+1)=p[k]+1:=XJ (by omega) (by omega)
   refine⟨rfl,_,hn,?_⟩
   have e0:=hset (IntKind.i64.wrap (p[k]+1))
   show(⟨Jz l b fs p.length,[.obj (.row false 3 1 (List.set (List.map (enc:Int->PV) p) (0+Int.toNat (k:Int)) (enc (IntKind.i64.wrap (p[k]+1)))))]⟩:St)=_
   rw[e0,hw]
   rfl
theorem c1y(l:Nat)(b:BoxT)(fs:List Fact)(p:List Int)(hp:p.length<=1000)(hx : ∀ x∈p,-1<=x∧x<=20000):ZB Cb (fun n S' _=>n=99∧ ∃ q,VJ b.m p=some q∧S'=⟨Jz l b fs p.length,YJ q⟩) 1 (Zo 1 KH fun _=>VJ b.m p=none) (.inl Qx) [.seq (.ext 99 [0,1,2,4])] ⟨Jz l b fs p.length,YJ p⟩:=by
 refine c4r (G:=fun _=>VJ b.m p=none) _ l b fs p.length p ?_
 have hw:IntKind.i64.wrap (((p.length - 0:Nat):Int) - 1)=((p.length:Nat):Int) - 1:=by rw[Nat.sub_zero];exact XJ (by omega) (by omega)
 rw[hw]
 exact b0x l b fs p.length p (Nat.le_refl _) hp hx
end Go.Pl

namespace Go.Pl
open Go.RowKit
open Enc (enc dec is)
open EncL (encL decL isL)
end Go.Pl

namespace Go.Pl
open Go.RowKit
open Enc (enc dec is)
open EncL (encL decL isL)
set_option maxRecDepth 100000
def W9:IC:=(.seq (.reg [⟨(some 4),(.mv (.c (.bool false))),0,none⟩] none) (.seq (.seq (.reg [⟨(some 5),(.mv (.c (.int .i64 0))),0,none⟩] none) (.block 0 (.loop [5,0,1] (.seq (.seq (.reg [⟨(some 8),(.mv (.t 5)),0,none⟩,⟨(some 9),(.mv (.t 0)),0,none⟩,⟨(some 10),(.len 1 (.t 9)),0,none⟩,⟨(some 11),(.bin .num .lss (.t 8) (.t 10)),0,none⟩] none) (.cond (.t 11) .skip (.exit 0))) (.seq (.block 1 (.seq (.reg [⟨(some 15),(.mv (.t 0)),0,none⟩,⟨(some 16),(.mv (.t 5)),0,none⟩,⟨(some 17),(.iaddr 3 (.t 15) (.t 16)),0,none⟩,⟨(some 18),(.faddr 1 (.t 17)),0,none⟩,⟨(some 19),(.load true [(.int .i64),(.sl 2)] (.t 18)),0,none⟩,⟨(some 20),(.mv (.t 1)),0,none⟩,⟨(some 21),(.call (.c (.fn 65)) [(.t 19),(.t 20)]),0,none⟩,⟨(some 14),(.mv (.t 21)),2,none⟩,⟨(some 22),(.extract (.t 14) 0),2,none⟩,⟨(some 23),(.extract (.t 14) 1),2,none⟩,⟨(some 6),(.mv (.t 22)),2,none⟩,⟨(some 7),(.mv (.t 23)),2,none⟩] none) (.seq (.reg [⟨(some 24),(.mv (.t 7)),0,none⟩,⟨(some 25),(.bin .num .neq (.t 24) (.c (.int .i64 0))),0,none⟩,⟨(some 26),(.mv (.t 25)),0,none⟩,⟨(some 27),(.mv (.t 6)),0,(some (26,false))⟩,⟨(some 28),(.bin .num .lss (.t 27) (.c (.int .i64 0))),0,(some (26,false))⟩,⟨(some 29),(.pick (.t 26) (.c (.bool true)) (.t 28)),0,none⟩,⟨(some 30),(.mv (.t 29)),0,none⟩,⟨(some 31),(.mv (.t 0)),0,(some (30,false))⟩,⟨(some 32),(.mv (.t 5)),0,(some (30,false))⟩,⟨(some 33),(.iaddr 3 (.t 31) (.t 32)),0,(some (30,false))⟩,⟨(some 34),(.faddr 0 (.t 33)),0,(some (30,false))⟩,⟨(some 35),(.load false [.bool] (.t 34)),0,(some (30,false))⟩,⟨(some 36),(.mv (.t 35)),0,(some (30,false))⟩,⟨(some 37),(.mv (.t 6)),0,(some (36,true))⟩,⟨(some 38),(.bin .num .neq (.t 37) (.c (.int .i64 0))),0,(some (36,true))⟩,⟨(some 39),(.pick (.t 36) (.t 38) (.c (.bool false))),0,(some (30,false))⟩,⟨(some 40),(.pick (.t 30) (.c (.bool true)) (.t 39)),0,none⟩] none) (.cond (.t 40) (.seq (.reg [⟨(some 4),(.mv (.c (.bool false))),0,none⟩] none) .ret) .skip)))) (.reg [⟨(some 12),(.mv (.t 5)),0,none⟩,⟨(some 13),(.bin .num .add (.t 12) (.c (.int .i64 1))),0,none⟩,⟨(some 5),(.mv (.t 13)),0,none⟩] none)))))) (.seq (.reg [⟨(some 4),(.mv (.c (.bool true))),0,none⟩] none) .ret)))
def WZ:List IRes:=[(.tmp 4)]
abbrev a4f:Nat:=41
def Uj:ZG:=Xc [(65,.pure (preT (fun x:Lin×List Coef×Unit=>Yx x.1&&decide (x.2.1.length<=9223372036854775807))) (Ze (fun x:Lin×List Coef×Unit=>Yh x.1 x.2.1)))]
theorem b7x{G:PV->Prop}(fs:List Fact)(v:List Coef)(h:At Uj 0 (Za WZ G) W9 0 41 [(0,(.pv (.sl 3 false (List.map enc fs)))),(1,(.pv (.sl 2 false (List.map enc v)))),(5,(.pv (.int .i64 0)))] []):Zc Uj 0 (Za WZ G) W9 [] (Ye 41 [enc fs,enc v]):=Zc.tp (.nil) h (by kernel_rfl)
theorem TA{G:PV->Prop}(fs:List Fact)(v:List Coef)(i:Int)(h:if (decide (i<(↑(List.length (List.map enc fs)):Int)))=true then(decide (0<=i)&&decide (Int.toNat i<List.length (List.map enc fs))&&Enc.sz Fact==3)=true∧(∃ y0:Fact,AV.pv (PV.rptr (PV.cells (List.getD (List.map enc fs) (Int.toNat i) default)))=AV.pv (PV.rptr (PV.cells ((enc) y0)))∧((Go.Pl.preT (fun(x:Lin×List Coef×Unit)=>Yx x.1&&decide (List.length x.2.1<=9223372036854775807)) [(.agg [(.int .i64 (PV.asInt (List.getD (List.drop 1 (PV.cells (enc y0))) 0 default))),(.sl 2 false (PV.asXs (List.getD (List.drop 1 (PV.cells (enc y0))) (0+1) default)))]),(.sl 2 false (List.map enc v))])=true∧(∃ y1:Int×Int,AV.pv (Ze (fun(x:Lin×List Coef×Unit)=>Yh x.1 x.2.1) [(.agg [(.int .i64 (PV.asInt (List.getD (List.drop 1 (PV.cells (enc y0))) 0 default))),(.sl 2 false (PV.asXs (List.getD (List.drop 1 (PV.cells (enc y0))) (0+1) default)))]),(.sl 2 false (List.map enc v))])=AV.pv (enc y1)∧(if (y1.2 != 0)=true then G ((.bool false))else(if (decide (y1.1<0))=true then G ((.bool false))else((decide (0<=i)&&decide (Int.toNat i<List.length (List.map enc fs))&&Enc.sz Fact==3)=true∧(∃ y2:Fact,AV.pv (PV.rptr (PV.cells (List.getD (List.map enc fs) (Int.toNat i) default)))=AV.pv (PV.rptr (PV.cells ((enc) y2)))∧(if (PV.asBool (List.getD (List.drop 0 (PV.cells (enc y2))) 0 default))=true then if (y1.1 != 0)=true then G ((.bool false))else(At Uj 0 (Za WZ G) W9 0 41 [(0,(.pv (.sl 3 false (List.map enc fs)))),(1,(.pv (.sl 2 false (List.map enc v)))),(5,(.pv (.int .i64 (IntKind.wrap IntKind.i64 (i+1)))))] [])else(At Uj 0 (Za WZ G) W9 0 41 [(0,(.pv (.sl 3 false (List.map enc fs)))),(1,(.pv (.sl 2 false (List.map enc v)))),(5,(.pv (.int .i64 (IntKind.wrap IntKind.i64 (i+1)))))] [])))))))))else(G ((.bool true)))):At Uj 0 (Za WZ G) W9 0 41 [(0,.pv (enc fs)),(1,.pv (enc v)),(5,.pv (.int .i64 i))] []:=At.tp (.lit (.ask (.req (.abs (Fact) (fun YY=>AV.pv (PV.rptr (PV.cells ((enc) YY)))) (.lit (.req (.abs (Int×Int) (fun YY=>AV.pv (enc YY)) (.lit (.ask (.lit (.lit (.lit (.lit (.lit (.lit (.lit (.lit (.lit (.lit (.lit (.nil)))))))))))) (.lit (.lit (.lit (.ask (.lit (.lit (.lit (.lit (.lit (.lit (.lit (.lit (.nil))))))))) (.lit (.lit (.req (.abs (Fact) (fun YY=>AV.pv (PV.rptr (PV.cells ((enc) YY)))) (.lit (.lit (.lit (.lit (.ask (.lit (.lit (.lit (.lit (.lit (.ask (.nil) (.lit (.nil)))))))) (.lit (.lit (.lit (.lit (.lit (.lit (.nil))))))))))))))))))))))))))) (.nil))) h (by kernel_rfl)
end Go.Pl

namespace Go.Pl
open Go.RowKit
open Enc (enc dec is)
open EncL (encL decL isL)
set_option maxRecDepth 100000
end Go.Pl

namespace Go.Pl
open Go.RowKit
open Enc (enc dec is)
open EncL (encL decL isL)
structure Cert2 where
 a:Cert
 b:Cert
instance:Enc Cert2 where
 sz:=10
 enc x:=.agg (PV.cells (enc x.a)++PV.cells (enc x.b))
 dec | .agg [a,b,c,d,e,f,g,h,i,j]=>⟨dec (.agg [a,b,c,d,e]),dec (.agg [f,g,h,i,j])⟩|_=>⟨.mk 0 [] ⟨0,[]⟩ [],.mk 0 [] ⟨0,[]⟩ []⟩
 is | .agg [a,b,c,d,e,f,g,h,i,j]=>is Cert (.agg [a,b,c,d,e])&&is Cert (.agg [f,g,h,i,j])|_=>false
 is_enc v:=by
  obtain⟨⟨k,m,l,ks⟩,⟨k',m',l',ks'⟩⟩:=v
  rw[Un,Un]
  show(is Cert (.agg [enc k,enc m,enc l.k,enc l.t,enc ks])&&is Cert (.agg [enc k',enc m',enc l'.k,enc l'.t,enc ks']))=true
  rw[<- Un,<- Un,Enc.is_enc,Enc.is_enc];rfl
 dec_enc v:=by
  obtain⟨⟨k,m,l,ks⟩,⟨k',m',l',ks'⟩⟩:=v
  rw[Un,Un]
  show(⟨dec (.agg [enc k,enc m,enc l.k,enc l.t,enc ks]),dec (.agg [enc k',enc m',enc l'.k,enc l'.t,enc ks'])⟩:Cert2)=_
  rw[<- Un,<- Un,Enc.dec_enc,Enc.dec_enc]
 sub p h:=by
  cases p with
  | agg xs=>
   match xs,h with
   | [a,b,c,d,e,f,g,h',i,j],h=>
    simp only[Bool.and_eq_true]at h
    have h1:=Enc.sub (α:=Cert) _ h.1
    have h2:=Enc.sub (α:=Cert) _ h.2
    exact Qw.agg (h1.1.append h2.1)
  | _=>cases h
theorem c7m{l:Lin}{n:Int}(h:Gf l n=true)(hl:Yx l=true):Yj l=true:=by
 simp only[Gf,Bool.and_eq_true,List.all_eq_true,decide_eq_true_eq]at h
 simp only[Yj,hl,Bool.true_and,List.all_eq_true,decide_eq_true_eq]
 intro t ht
 have:=h.1 t ht
 omega
mutual
theorem c1v: ∀ (c:Cert) (n:Int),n<=12->OD c n=true->cOk c=true->1<=n∧(c8a c:Int)<=n∧1<=Sr c∧Sr c<=n∧cSm c=true
 | .mk k m l ks,n,hn,h,ho=>by
  simp only[OD,Bool.and_eq_true,Bool.not_eq_true',decide_eq_false_iff_not]at h
  obtain⟨h1,h2,h3,h4,h5⟩:=h
  simp only[cOk,Bool.and_eq_true,decide_eq_true_eq]at ho
  obtain⟨⟨⟨o1,o2⟩,o3⟩,o4⟩:=ho
  obtain⟨a1,a2,a3,a4⟩:=Mj ks n 1 (by omega) hn (by omega) (by omega) h5 o4
  rw[c8a,Sr]
  refine⟨by omega,by omega,by omega,by omega,?_⟩
  simp only[cSm,c7m h2 o2,a4,decide_eq_true o1,decide_eq_true o3]
  rfl
theorem Mj: ∀ (cs:List Cert) (n s:Int),1<=n->n<=12->1<=s->s<=100 - n->CR cs n=true->a4o cs=true->(Ms cs:Int)<=n - 1∧s<=GY s cs∧GY s cs<=s+n - 1∧a4y cs=true
 | [],n,s,h1,h2,h3,h4,_,_=>by
  rw[Ms,GY]
  exact⟨by omega,by omega,by omega,rfl⟩
 | c::cs,n,s,h1,h2,h3,h4,h,ho=>by
  simp only[CR,Bool.and_eq_true]at h
  simp only[a4o,Bool.and_eq_true]at ho
  rw[XJ (by omega) (by omega)]at h
  obtain⟨b1,b2,b3,b4,b5⟩:=c1v c (n - 1) (by omega) h.1 ho.1
  have h':=h.2
  rw[XJ (by omega) (by omega)]at h'
  obtain⟨a1,a2,a3,a4⟩:=Mj cs (n - Sr c) (s+Sr c) (by omega) (by omega) (by omega) (by omega) h' ho.2
  rw[Ms,GY,XJ (by omega) (by omega)]
  refine⟨by omega,by omega,by omega,?_⟩
  simp only[a4y,b5,a4]
  rfl
end
end Go.Pl

namespace Go.Pl
open Go.RowKit
open Enc (enc dec is)
open EncL (encL decL isL)
set_option maxRecDepth 100000
end Go.Pl

namespace Go.Pl
open Go.RowKit
open Enc (enc dec is)
open EncL (encL decL isL)
end Go.Pl

namespace Go.Pl
open Go.RowKit
open Enc (enc dec is)
open EncL (encL decL isL)
theorem Fh(l:List Fact)(v:List Coef)(hl:Zi l=true)(hv:v.length<=9223372036854775807): ∀ (j i:Nat),j+i=l.length->At Uj 0 (Za WZ (Zg ((l.drop i).all fun f=>Z7 f v))) W9 0 41 [(0,.pv (enc l)),(1,.pv (enc v)),(5,.pv (.int .i64 i))] []:=by
 intro j
 induction j with
 | zero=>
  intro i hi
  exact TA l v i (ZK (Xt (by omega)) (ZM (by rw[List.drop_of_length_le (by omega)];rfl)))
 | succ j ih=>
  intro i hi
  have hl':=hl
  simp only[Zi,Bool.and_eq_true,decide_eq_true_eq,List.all_eq_true]at hl'
  have hlt:i<l.length:=by omega
  have h:=ih (i+1) (by omega)
  have ho:Yx l[i].l=true:=by
   have:=hl'.2 _ (List.getElem_mem hlt)
   simp only[Yj,Bool.and_eq_true]at this
   exact this.1
  refine TA l v i (ZE (YR hlt) ⟨Zt hlt rfl,Zx hlt ⟨Zj (l[i].l,v,()) rfl (by show(Yx l[i].l&&decide (v.length<=9223372036854775807))=true;rw[ho,decide_eq_true hv];rfl),Zh (l[i].l,v,()) rfl ?_⟩⟩)
  rw[List.drop_eq_getElem_cons hlt,List.all_cons,next (by omega)]
  refine c8t (fun h1=> ?_) fun h1=>WJ (fun h2=> ?_) fun h2=>⟨Zt hlt rfl,Zx hlt (X0 (fun h3=>c8t (fun h4=> ?_) fun h4=> ?_) fun h3=> ?_)⟩
  ·have h1:(Yh l[i].l v).2≠0:=by simpa using h1
   exact ZM (by simp[Z7,h1])
  all_goals have h1:(Yh l[i].l v).2=0:=by simpa using h1
  ·have h2:(Yh l[i].l v).1<0:=h2
   exact ZM (by simp[Z7,h1,h2])
  all_goals have h2 : ¬ (Yh l[i].l v).1<0:=h2
  all_goals have h3:l[i].eq=_:=h3
  ·have h4:(Yh l[i].l v).1≠0:=by simpa using h4
   exact ZM (by simp[Z7,h1,h2,h3,h4])
  ·have h4:(Yh l[i].l v).1=0:=by simpa using h4
   have e:Z7 l[i] v=true:=by simp[Z7,h1,h3,h4]
   rw[e,Bool.true_and]
   exact h
  ·have e:Z7 l[i] v=true:=by
    have h2':decide ((Yh l[i].l v).1<0)=false:=decide_eq_false h2
    simp only[Z7,h1,h3,h2']
    rfl
   rw[e,Bool.true_and]
   exact h
theorem Ef: ∀ a:List Fact×List Coef×Unit,(Zi a.1&&decide (a.2.1.length<=9223372036854775807))=true->Zc Uj 0 (Za WZ (Zg (a.1.all fun f=>Z7 f a.2.1))) W9 [] (Ye a4f (encL a)):=by
 rintro⟨l,v,⟨⟩⟩ h
 simp only[Bool.and_eq_true,decide_eq_true_eq]at h
 exact b7x l v (Fh l v h.1 h.2 l.length 0 rfl)
end Go.Pl

namespace Go.Pl
open Go.RowKit
open Enc (enc dec is)
open EncL (encL decL isL)
end Go.Pl

namespace Go.Pl
open Go.RowKit
def Xp(ts:List Coef)(s:List UInt8):Int:=((ts.find? fun t=>t.v.s==s).map (·.c)).getD 0
def Jw(ts:List Coef):Prop:=ts.Pairwise fun a b=>a.v.s<b.v.s
def nzP(ts:List Coef):Prop:= ∀ t∈ts,t.c≠0
theorem TZ(s:List UInt8):Xp [] s=0:=rfl
theorem YC(t:Coef)(ts:List Coef)(s:List UInt8):Xp (t::ts) s=if t.v.s=s then t.c else Xp ts s:=by
 simp only[Xp,List.find?_cons]
 by_cases h:t.v.s=s
 ·simp[h]
 ·have:(t.v.s==s)=false:=by simpa using h
  simp[this,h]
theorem Bn{s:List UInt8}: ∀ {ts:List Coef},(∀ t∈ts,s<t.v.s)->Xp ts s=0
 | [],_=>rfl
 | t::ts,h=>by
  have h1:=h t (by simp)
  rw[YC,if_neg (fun e=>by rw[e]at h1;exact List.lt_irrefl _ h1)]
  exact Bn fun u hu=>h u (by simp[hu])
theorem UT{t:Coef}{ts:List Coef}:Jw (t::ts) ↔ (∀ u∈ts,t.v.s<u.v.s)∧Jw ts:=List.pairwise_cons
theorem UV(s:Str)(c:Int): ∀ {ts:List Coef},(∀ t∈ts,s.s<t.v.s)->XN s c true ts=ts
 | [],_=>by simp[XN]
 | t::ts,h=>by
  have h1:=h t (by simp)
  rw[a1z,if_neg (fun e=>by rw[e]at h1;exact List.lt_irrefl _ h1),UV s c fun u hu=>h u (by simp[hu])]
theorem a2z(s:Str)(c:Int): ∀ {ts:List Coef},Jw ts-> ∀ u∈XN s c false ts,u.v.s=s.s ∨ ∃ t∈ts,t.v.s=u.v.s
 | [],_,u,hu=>by
  simp only[XN,Bool.false_eq_true,if_false,List.mem_singleton]at hu
  exact .inl (by rw[hu])
 | t::ts,h,u,hu=>by
  obtain⟨h1,h2⟩:=UT.1 h
  rw[JE]at hu
  split at hu
  ·rename_i hlt
   rw[UV s c (fun u hu=>List.lt_trans hlt (h1 u hu))]at hu
   rcases List.mem_cons.1 hu with rfl|hu
   ·exact .inl rfl
   ·exact .inr ⟨u,hu,rfl⟩
  ·split at hu
   ·rename_i he
    rw[UV s c (fun u hu=>he▸h1 u hu)]at hu
    rcases List.mem_cons.1 hu with rfl|hu
    ·exact .inr ⟨t,by simp,rfl⟩
    ·exact .inr ⟨u,by simp[hu],rfl⟩
   ·rcases List.mem_cons.1 hu with rfl|hu
    ·exact .inr ⟨u,by simp,rfl⟩
    ·rcases a2z s c h2 u hu with h|⟨w,hw,e⟩
     ·exact .inl h
     ·exact .inr ⟨w,by simp[hw],e⟩
theorem P7(s:Str)(c:Int): ∀ {ts:List Coef},Jw ts->Jw (XN s c false ts)
 | [],_=>by simp[XN,Jw]
 | t::ts,h=>by
  obtain⟨h1,h2⟩:=UT.1 h
  rw[JE]
  split
  ·rename_i hlt
   rw[UV s c (fun u hu=>List.lt_trans hlt (h1 u hu))]
   exact UT.2 ⟨fun u hu=>by
    rcases List.mem_cons.1 hu with rfl|hu
    ·exact hlt
    ·exact List.lt_trans hlt (h1 u hu),h⟩
  ·rename_i hlt
   split
   ·rename_i he
    rw[UV s c (fun u hu=>he▸h1 u hu)]
    exact UT.2 ⟨h1,h2⟩
   ·rename_i he
    have hts:t.v.s<s.s:=tri hlt (fun e=>he (Gw.2 e.symm))
    refine UT.2 ⟨fun u hu=> ?_,P7 s c h2⟩
    rcases a2z s c h2 u hu with e|⟨w,hw,e⟩
    ·rw[e];exact hts
    ·rw[<- e];exact h1 w hw
theorem FL(s:Str)(c:Int)(hc:DY c=c): ∀ {ts:List Coef},Jw ts-> ∀ x,Xp (XN s c false ts) x=if s.s=x then DY (Xp ts s.s+c)else Xp ts x
 | [],_,x=>by
  have e:XN s c false []=[⟨s,c⟩]:=by simp[XN]
  rw[e,YC,TZ,TZ,Int.zero_add,hc]
 | t::ts,h,x=>by
  obtain⟨h1,h2⟩:=UT.1 h
  rw[JE]
  split
  ·rename_i hlt
   rw[UV s c (fun u hu=>List.lt_trans hlt (h1 u hu)),YC,Bn (ts:=t::ts) (s:=s.s) (fun u hu=>by
    rcases List.mem_cons.1 hu with rfl|hu
    ·exact hlt
    ·exact List.lt_trans hlt (h1 u hu)),Int.zero_add,hc]
  ·rename_i hlt
   split
   ·rename_i he
    have he':t.v.s=s.s:=by rw[he]
    have e1:Xp (t::ts) s.s=t.c:=by rw[YC,if_pos he']
    have e2:Xp (t::ts) x=if s.s=x then t.c else Xp ts x:=by rw[YC,he']
    rw[UV s c (fun u hu=>he▸h1 u hu),YC,e1,e2]
    show(if t.v.s=x then DY (t.c+c)else Xp ts x)=_
    rw[he']
    by_cases hx:s.s=x
    ·rw[if_pos hx,if_pos hx]
    ·rw[if_neg hx,if_neg hx,if_neg hx]
   ·rename_i he
    have he' : ¬ t.v.s=s.s:=fun e=>he (Gw.2 e)
    rw[YC,FL s c hc h2 x,YC (s:=s.s),if_neg he',YC (s:=x)]
    by_cases hx:s.s=x
    ·rw[if_pos hx,if_pos hx,if_neg (fun e=>he' (e.trans hx.symm))]
    ·rw[if_neg hx,if_neg hx]
theorem GV: ∀ {ts:List Coef},Jw ts-> ∀ x,Xp (ts.filter fun t=>decide (t.c≠0)) x=Xp ts x
 | [],_,x=>rfl
 | t::ts,h,x=>by
  obtain⟨h1,h2⟩:=UT.1 h
  rw[List.filter_cons]
  split
  ·rw[YC,YC,GV h2 x]
  ·rename_i hz
   have hz0:t.c=0:=by simpa using hz
   rw[YC,GV h2 x]
   by_cases hx:t.v.s=x
   ·rw[if_pos hx,hz0,Bn fun u hu=>hx▸h1 u hu]
   ·rw[if_neg hx]
theorem b6l{l:Lin}(s:Str)(c:Int)(h:Jw l.t):Jw (VD l s c).t:=(P7 s c h).sublist List.filter_sublist
theorem a0y(l:Lin)(s:Str)(c:Int):nzP (VD l s c).t:=fun t ht=>by simpa using (List.mem_filter.1 ht).2
theorem a6f{l:Lin}(s:Str){c:Int}(hc:DY c=c)(h:Jw l.t)(x:List UInt8):Xp (VD l s c).t x=if s.s=x then DY (Xp l.t s.s+c)else Xp l.t x:=by
 show Xp (List.filter _ _) x=_
 rw[GV (P7 s c h),FL s c hc h]
theorem b6f(s:Str)(c:Int)(x:List UInt8): ∀ m:List (Str×Int),atM (a5o s c m) x=if s.s=x then c else atM m x
 | []=>by
  rw[a5o]
  simp only[atM,List.find?_cons]
  by_cases h:s.s=x
  ·simp[h]
  ·have:(s.s==x)=false:=by simpa using h
   simp[this,h]
 | p::m=>by
  have ih:=b6f s c x m
  rw[a5o]
  split
  ·rename_i he
   simp only[atM,List.find?_cons]
   by_cases h:s.s=x
   ·simp[h]
   ·have h1:(s.s==x)=false:=by simpa using h
    have h2:(p.1.s==x)=false:=by rw[<- he];exact h1
    simp[h1,h2,h]
  ·rename_i he
   simp only[atM,List.find?_cons]at ih ⊢
   by_cases h:p.1.s=x
   ·have h2 : ¬ s.s=x:=fun e=>he (e.trans h.symm)
    simp[h,h2]
   ·have h2:(p.1.s==x)=false:=by simpa using h
    rw[h2]
    exact ih
end Go.Pl

namespace Go.Pl
open Go.RowKit
def wM(m:List (Str×Int)):Prop:= ∀ s,DY (atM m s)=atM m s
theorem add_zero: ∀ (x:List Coef) (m:List (Str×Int)),wM m-> ∀ s,atM (c4f 0 x m) s=atM m s
 | [],m,h,s=>rfl
 | t::x,m,h,s=>by
  have e : ∀ y,atM (a5o t.v (IntKind.i64.wrap (atM m t.v.s+IntKind.i64.wrap (0*t.c))) m) y=atM m y:=fun y=>by
   rw[b6f]
   split
   ·rename_i hy
    have:IntKind.i64.wrap (0*t.c)=0:=by rw[Int.zero_mul];rfl
    rw[this,Int.add_zero,<- hy]
    exact h t.v.s
   ·rfl
  rw[c4f,add_zero x _ (fun y=>by rw[e];exact h y),e]
end Go.Pl

namespace Go.Pl
open Go.RowKit
end Go.Pl

namespace Go.Pl
open Go.RowKit
open Enc (enc dec is)
open EncL (encL decL isL)
end Go.Pl

namespace Go.Pl
open Go.RowKit
open Enc (enc dec is)
open EncL (encL decL isL)
set_option maxRecDepth 100000
end Go.Pl

namespace Go.Pl
open Go.RowKit
open Enc (enc dec is)
open EncL (encL decL isL)
set_option maxRecDepth 100000
end Go.Pl

namespace Go.Pl
open Go.RowKit
open Enc (enc dec is)
open EncL (encL decL isL)
end Go.Pl

namespace Go.Pl
open Go.RowKit
open Enc (enc dec is)
open EncL (encL decL isL)
end Go.Pl

namespace Go.Pl
open Go.RowKit
open Enc (enc dec is)
open EncL (encL decL isL)
end Go.Pl

namespace Go.Pl
open Go.RowKit
open Enc (enc dec is)
open EncL (encL decL isL)
theorem one_of{α:Type}: ∀ {ks:List α},ks.length=1-> ∃ a,ks=[a]
 | [a],_=>⟨a,rfl⟩
end Go.Pl

namespace Go.Pl
open Go.RowKit
open Enc (enc dec is)
open EncL (encL decL isL)
set_option maxRecDepth 100000
end Go.Pl

namespace Go.Pl
open Go.RowKit
open Enc (enc dec is)
open EncL (encL decL isL)
end Go.Pl

namespace Go.Pl
open Go.RowKit
open Enc (enc dec is)
open EncL (encL decL isL)
theorem sub_zero(b:Bool):Sub (.tup [c8k,.bool b]) (enc (((⟨0,[]⟩:Lin),b):Lin×Bool)):=Sub.pair (Sub.agg_cons (.refl _) (Sub.agg_cons (.sl0 _ _ _) Sub.agg_nil)) (.refl _)
end Go.Pl

namespace Go.Pl
open Go.RowKit
open Enc (enc dec is)
open EncL (encL decL isL)
inductive Walk (m:Int):List Int->List (List Int)->Prop
 | last {p}:VJ m p=none->Walk m p [p]
 | step {p q l}:VJ m p=some q->Walk m q l->Walk m p (p::l)
theorem Walk.walkP{m:Int}{p:List Int}{l:List (List Int)}(h:Walk m p l): ∀ f,l.length<=f->walkP m f p=l:=by
 induction h with
 | last h=>
  intro f hf
  cases f with
  | zero=>simp at hf
  | succ f=>simp[Go.Pl.walkP,h]
 | step h _ ih=>
  intro f hf
  cases f with
  | zero=>simp at hf
  | succ f=>simp only[Go.Pl.walkP,h];rw[ih f (by simpa using hf)]
theorem Ej(m x:Int): ∀ (k:Nat) (p:List Int),k<=p.length->YP m (k+1) (x::p) =
  match YP m k p with
  | some q=>some (x::q)
  | none=>if x=m then none else some ((x+1)::(List.replicate k 0++p.drop k)):=by
 intro k
 induction k with
 | zero=>intro p _;simp[YP]
 | succ k ih=>
  intro p hp
  rw[YP]
  have e:(x::p).getD (k+1) 0=p.getD k 0:=by simp[List.getD]
  rw[e]
  by_cases h:p.getD k 0=m
  ·have hn:YP m (k+1) p=YP m k (p.set k 0):=by rw[YP,if_pos h]
   rw[if_pos h,hn]
   have:=ih (p.set k 0) (by simp;omega)
   rw[List.set_cons_succ,this]
   have e2:List.replicate k (0:Int)++(p.set k 0).drop k=List.replicate (k+1) 0++p.drop (k+1):=by
    rw[List.replicate_succ',List.append_assoc]
    congr 1
    rw[List.drop_eq_getElem_cons (show k<(p.set k 0).length by simp;omega),List.drop_set_of_lt (by omega)]
    simp
   rw[e2]
  ·have hn:YP m (k+1) p=some (p.set k (p.getD k 0+1)):=by rw[YP,if_neg h]
   rw[if_neg h,hn]
   simp
theorem Hz(m x:Int)(p:List Int):VJ m (x::p) =
  match VJ m p with
  | some q=>some (x::q)
  | none=>if x=m then none else some ((x+1)::List.replicate p.length 0):=by
 have:=Ej m x p.length p (Nat.le_refl _)
 rw[List.drop_length,List.append_nil]at this
 exact this
theorem Dl(m:Int): ∀ (k:Nat) (p q:List Int),YP m k p=some q->q.length=p.length:=by
 intro k
 induction k with
 | zero=>intro p q h;cases h
 | succ k ih=>
  intro p q h
  rw[YP]at h
  split at h
  ·rw[ih _ _ h,List.length_set]
  ·cases h;rw[List.length_set]
theorem Walk.cons{m x:Int}{rest:List (List Int)}{p:List Int}{l:List (List Int)}(h:Walk m p l):(hr:(x=m∧rest=[])∨(x≠m∧Walk m ((x+1)::List.replicate p.length 0) rest))->Walk m (x::p) (l.map (x:: ·)++rest):=by
 induction h with
 | last h=>
  rename_i p
  rintro(⟨rfl,rfl⟩|⟨h1,h2⟩)
  ·refine .last ?_
   rw[Hz,h];simp
  ·refine .step ?_ h2
   rw[Hz,h];simp[h1]
 | step h _ ih=>
  rename_i p q l _
  intro hr
  refine .step (q:=x::q) ?_ (ih ?_)
  ·rw[Hz,h]
  ·rw[Dl m _ _ _ h];exact hr
def b8d(m:Nat):List Int:=(List.range (m+1)).map fun(i:Nat)=>(i:Int)
def KJ(m:Nat):Nat->List (List Int)
 | 0=>[[]]
 | n+1=>(b8d m).flatMap fun x=>(KJ m n).map (x:: ·)
theorem Walk.from{m n:Nat}(h:Walk m (List.replicate n 0) (KJ m n)): ∀ (d i:Nat),i+d=m->Walk m ((i:Int)::List.replicate n 0) (((List.range' i (d+1)).map fun(i:Nat)=>(i:Int)).flatMap fun x=>(KJ m n).map (x:: ·)):=by
 intro d
 induction d with
 | zero=>
  intro i hi
  have:=h.cons (x:=(i:Int)) (rest:=[]) (.inl ⟨by omega,rfl⟩)
  simpa using this
 | succ d ih=>
  intro i hi
  have h1:=ih (i+1) (by omega)
  have:=h.cons (x:=(i:Int)) (.inr ⟨by omega,by rw[List.length_replicate];exact_mod_cast h1⟩)
  rw[List.range'_succ,List.map_cons,List.flatMap_cons]
  exact this
theorem Dn(m:Nat): ∀ n,Walk m (List.replicate n 0) (KJ m n):=by
 intro n
 induction n with
 | zero=>exact .last rfl
 | succ n ih=>
  have:=ih.from m 0 (by omega)
  rw[<- List.range_eq_range']at this
  exact_mod_cast this
theorem H7(m:Nat): ∀ n,(KJ m n).length=(m+1) ^ n:=by
 intro n
 induction n with
 | zero=>rfl
 | succ n ih=>
  rw[KJ,List.length_flatMap]
  simp only[List.length_map,ih,b8d]
  rw[List.map_const',List.sum_replicate_nat,List.length_map,List.length_range,Nat.pow_succ,Nat.mul_comm]
theorem FT{m:Nat}{x:Int}:x∈b8d m ↔ 0<=x∧x<=m:=by
 unfold b8d
 rw[List.mem_map]
 constructor
 ·rintro⟨i,hi,rfl⟩
  have:=List.mem_range.1 hi
  omega
 ·rintro⟨h1,h2⟩
  exact⟨x.toNat,List.mem_range.2 (by omega),by omega⟩
theorem GG{m:Nat}: ∀ {n:Nat} {p:List Int},p∈KJ m n ↔ p.length=n∧ ∀ x∈p,0<=x∧x<=m:=by
 intro n
 induction n with
 | zero=>
  intro p
  simp only[KJ,List.mem_singleton,List.length_eq_zero_iff]
  exact⟨fun h=>⟨h,by simp[h]⟩,fun h=>h.1⟩
 | succ n ih=>
  intro p
  simp only[KJ,List.mem_flatMap,List.mem_map]
  constructor
  ·rintro⟨x,hx,q,hq,rfl⟩
   obtain⟨h1,h2⟩:=ih.1 hq
   refine⟨by simp[h1],?_⟩
   intro y hy
   rcases List.mem_cons.1 hy with rfl|hy
   ·exact FT.1 hx
   ·exact h2 y hy
  ·rintro⟨h1,h2⟩
   cases p with
   | nil=>simp at h1
   | cons x q=>
    exact⟨x,FT.2 (h2 x (by simp)),q,ih.2 ⟨by simpa using h1,fun y hy=>h2 y (by simp[hy])⟩,rfl⟩
def Kt(x:List Int×List Coef):List PV:=[enc x.1,enc x.2]
def Qn:List (List PV)->Bool
 | [[v,.int .i64 m],[f]]=>VG (List Str) v&&VG (List Fact) f&&YI ⟨dec v,m⟩&&Zi (dec f)&&decide ((dec v:List Str).length<=1000)
 | _=>false
def DI:List (List PV)->List (List Int×List Coef)
 | [[v,.int .i64 m],[f]]=>(ZR ⟨dec v,m⟩ (dec f)).map fun p=>(p,Zf (dec v) p)
 | _=>[]
theorem a8w(m:Nat): ∀ (l:List Str) (n r:Int),0<=n->JU m l n=some r->r=n*((m:Int)+1) ^ l.length:=by
 intro l
 induction l with
 | nil=>intro n r _ h;simp only[JU,Option.some.injEq]at h;simp[h]
 | cons s l ih=>
  intro n r hn h
  rw[JU]at h
  split at h
  ·cases h
  ·rw[ih _ _ (Int.mul_nonneg hn (by omega)) h,List.length_cons,Int.pow_succ,Int.mul_assoc,Int.mul_comm ((m:Int)+1)]
theorem c2c(m:Nat): ∀ (l:List Str) (n r:Int),n<=20000->JU m l n=some r->r<=20000:=by
 intro l
 induction l with
 | nil=>intro n r hn h;simp only[JU,Option.some.injEq]at h;omega
 | cons s l ih=>
  intro n r hn h
  rw[JU]at h
  split at h
  ·cases h
  ·exact ih _ _ (by omega) h
theorem Us{b:BoxT}:YI b=true ↔ b.v.all ZF=true∧b.v.Nodup∧(b.v=[]∨b.m<20000)∧0<=b.m∧(JU b.m b.v 1).isSome=true:=by
 unfold YI
 simp only[Bool.and_eq_true,decide_eq_true_eq,Bool.or_eq_true,List.isEmpty_iff]
 constructor
 ·rintro⟨⟨⟨⟨h1,h2⟩,h3⟩,h4⟩,h5⟩;exact⟨h1,h2,h3,h4,h5⟩
 ·rintro⟨h1,h2,h3,h4,h5⟩;exact⟨⟨⟨⟨h1,h2⟩,h3⟩,h4⟩,h5⟩
theorem Cy{b:BoxT}(h:YI b=true):(b.m.toNat+1) ^ b.v.length<=20000:=by
 obtain⟨_,_,_,h4,h5⟩:=Us.1 h
 obtain⟨r,hr⟩:=Option.isSome_iff_exists.1 h5
 have e:b.m=(b.m.toNat:Int):=by omega
 rw[e]at hr
 have h1:=a8w _ _ _ _ (by decide) hr
 have h2:=c2c _ _ _ _ (by decide) hr
 rw[Int.one_mul]at h1
 have:(((b.m.toNat+1) ^ b.v.length:Nat):Int)=r:=by rw[h1];simp
 omega
theorem V5{b:BoxT}(h:YI b=true):c6u b=KJ b.m.toNat b.v.length:=by
 obtain⟨_,_,_,h4,_⟩:=Us.1 h
 have hw:=Dn b.m.toNat b.v.length
 have hl:=H7 b.m.toNat b.v.length
 have:=Cy h
 have e:(b.m.toNat:Int)=b.m:=by omega
 rw[e]at hw
 have ez:Wd b.v=List.replicate b.v.length 0:=List.map_const' ..
 unfold c6u
 rw[ez]
 exact hw.walkP 20001 (by omega)
end Go.Pl

namespace Go.Pl
open Go.RowKit
open Enc (enc dec is)
open EncL (encL decL isL)
def Km(l:Lin)(s:Str):Lin:=if Xp l.t s.s=0 then VD l s 1 else l
def Ux(ls:List Lin):List Str:=Zd (ls.foldl (fun o l=>(Zd l).foldl Km o) ⟨0,[]⟩)
def Vr(ls:List Lin):Bool:=decide (ls.length<=1000)&&ls.all fun l=>decide (l.t.length<=1000)
def a1r(m:Int):List Str->Int->Int
 | [],n=>n
 | _::r,n=>a1r m r (n*(m+1))
def Qt(b:BoxT)(fs:List Fact):Bool:=decide (b.v.length<=5)&&decide ((if YI b then a1r b.m b.v 1 else 1)<=300)&&decide (fs.length<=6)&&Ck fs 6
def Qr:List Str->List Str->Int
 | [],b=> -(b.length:Int)
 | a,[]=>(a.length:Int)
 | x::a,y::b=>if x.s<y.s then -1 else if y.s<x.s then 1 else Qr a b
def Gu:List Str->Bool
 | x::y::r=> !decide (y.s<x.s)&&Gu (y::r)
 | _=>true
def Vb(m:Mono):Bool:=decide (m.c≠0)&&decide (-1099511627776<=m.c)&&decide (m.c<=1099511627776)&&decide (m.v.length<=8)&&Gu m.v&&m.v.all ZF
def a5j:List Mono->Bool
 | x::y::r=>decide (Qr x.v y.v<0)&&a5j (y::r)
 | _=>true
def ZI(p:List Mono):Bool:=decide (p.length<=60)&&p.all Vb&&a5j p
def H9(l:List Str)(s:Str):List Str:=match l with
 | []=>[s]
 | t::r=>if t.s<s.s then t::H9 r s else if t=s then t::r else s::t::r
def Vg(p:List Mono):List Str:=if ZI p then(p.flatMap (·.v)).foldl H9 []else []
def Xg(p:List Mono):Bool:=decide (p=[])
end Go.Pl

namespace Go.Pl
open Go.RowKit
open Enc (enc dec is)
open EncL (encL decL isL)
def Td(x y:Str):Int:=if x.s<y.s then -1 else if y.s<x.s then 1 else 0
def Dz:List Str->List Str->Int
 | [],[]=>0
 | [],_::_=> -1
 | _::_,[]=>1
 | x::a,y::b=>if x.s<y.s then -1 else if y.s<x.s then 1 else Dz a b
def Yc(p:List Mono):Bool:=Zn p&&p.all fun m=>WF m.v
def XO(p:List Mono):List Str:=p.flatMap (·.v)
def Xj(p:List Mono):List (List UInt8):=WC ((XO p).map (·.s))
def Yz(p:List Mono):List Str:=(Lib.compact (Xj p)).map Str.mk
def Ul(p:PV):List Mono:=dec p
def Qh:List AV->List AObj->Bool
 | [.pv a],[]=>VG (List Mono) a&&Yc (dec a)&&ZI (dec a)&& !(XO (dec a)).isEmpty
 | _,_=>false
def NG:List AV->List AObj->AV×List AObj×List AObj
 | [.pv a],_=>(.row 0 (Xj (Ul a)).length 0 (Lib.compact (Xj (Ul a))).length,[],[.row false 9 1 ((VH (Xj (Ul a))).map .str)])
 | _,_=>Vo
def Ns:List AV->List AObj->AV×List AObj×List AObj
 | [.pv a],_=>KS (Yz (Ul a))
 | _,_=>Vo
def Jf:List AV->List AObj->Bool
 | [.pv a],[]=>VG (List Mono) a&&Yc (dec a)&&(!ZI (dec a)||(XO (dec a)).isEmpty)
 | _,_=>false
def CV:List AV->List AObj->AV×List AObj×List AObj:=fun _ _=>(.pv (.sl 0 true []),[],[])
def BC(a b:Int):Int×Int:=if Qc a&&Qc b&&Qc (a*b)then(a*b,0)else(0,2)
def VR(l:List Int):Int×Int:=if l.all Qc&&Qc l.sum then(l.sum,0)else(0,2)
def a1n:Int->List Int->Int×Int
 | o,[]=>(o,0)
 | o,n::r=>if (BC o n).2≠0 then(0,(BC o n).2)else a1n (BC o n).1 r
def Xe(l:List Int):Int×Int:=if l.contains 0 then(0,0)else a1n 1 l
def Lt(vs:List Coef):List Str->Option (List Int)
 | []=>some []
 | s::r=>match Qq vs s with
  | none=>none
  | some x=>(Lt vs r).map (x:: ·)
def a0c(vs:List Coef):List Mono->Option (List (List Int))
 | []=>some []
 | m::r=>match Lt vs m.v with
  | none=>none
  | some l=>(a0c vs r).map ((m.c::l):: ·)
def YA:List (List Int)->Option (List Int)
 | []=>some []
 | l::r=>if (Xe l).2≠0 then none else(YA r).map ((Xe l).1:: ·)
def SF(fs:List (List Int)):Bool:=fs.any fun l=>l.tail.any fun x=> !Qc x
def Y0(p:List Mono)(vs:List Coef):Int×Int:=
 if ZI p then(match a0c vs p with
  | none=>(0,7)
  | some fs=>if SF fs then(0,2)else match YA fs with
   | none=>(0,2)
   | some l=>VR l)
 else(0,1)
def HV:List AV->List AObj->Bool
 | [.pv x,.ptr 0 0],[.box [.pv (.str v)]]=>VG Coef x
 | _,_=>false
def CK:List AV->List AObj->AV×List AObj×List AObj
 | [.pv x,_],[.box [.pv (.str v)]]=>(.pv (.bool ((dec x:Coef).v.s==v)),[.box [.pv (.str v)]],[])
 | _,_=>Vo
def Ub(g:Nat):List AV->List AObj->Bool
 | [.pv l,.fn g' [] [.ptr 0 0]],[.box [.pv (.str v)]]=>g'==g&&VG (List Coef) l&&decide ((dec l:List Coef).length<=9223372036854775807)
 | _,_=>false
def Ky(p:PV):List Coef:=dec p
def CL:List AV->List AObj->AV×List AObj×List AObj
 | [.pv l,_],[.box [.pv (.str v)]]=>(.pv (.int .i64 (Zz (fun t:Coef=>t.v.s==v) (Ky l))),[.box [.pv (.str v)]],[])
 | _,_=>Vo
def WB(n:Int):Int:=n / 2147483648
def X5(n:Int):Int:=n % 2147483648
def Uy:List AV->List AObj->Bool
 | [.pv (.int .i64 n),.ptr 0 0,.ptr 1 0],[.box [.pv (.sl 0 true [])],.box [.pv (.sl 0 true [])]]=>true
 | [.pv (.int .i64 n),.ptr 0 0,.ptr 1 0],[.box [.row 2 q 0 q'],.box [.row 3 r 0 r'],.row false ty 1 xs,.row false ty' 1 ys]=>q'==q&&r'==r&&r==q&&ty==3&&ty'==3&&xs.length==q&&ys.length==q&&decide (q<=1000000)
 | _,_=>false
def Qm:List AV->List AObj->AV×List AObj×List AObj
 | [.pv (.int .i64 n),_,_],[.box [.pv (.sl 0 true [])],.box [.pv (.sl 0 true [])]]=>(.tup [],[.box [.row 2 1 0 1],.box [.row 3 1 0 1]],[.row false 3 1 [.int .i64 (WB n)],.row false 3 1 [.int .i64 (X5 n)]])
 | [.pv (.int .i64 n),_,_],[.box [.row 2 q 0 _],.box [.row 3 _ 0 _],.row _ _ _ xs,.row _ _ _ ys]=>(.tup [],[.box [.row 2 (q+1) 0 (q+1)],.box [.row 3 (q+1) 0 (q+1)],.row false 3 1 (xs++[.int .i64 (WB n)]),.row false 3 1 (ys++[.int .i64 (X5 n)])],[])
 | _,_=>Vo
def Ep:List Int->List Int->Int
 | x::a,y::b=>x*y+Ep a b
 | _,_=>0
def Dc(a b:List Int):Int×Int:=if a.length=b.length then(if a.all Qc&&b.all Qc&&Qc (Ep a b)then(Ep a b,0)else(0,2))else(0,1)
def Uo(p:List Mono)(vs:List Str):List (List Int)->Option (List Int)
 | []=>some []
 | q::r=>if (Y0 p (Zf vs q)).2≠0 then none else(Uo p vs r).map ((Y0 p (Zf vs q)).1:: ·)
def JQ(b:BoxT)(fs:List Fact)(p:List Mono):Bool:=ZC b&&Zi fs&&decide (fs.length<=100)&&decide (b.v.length<=1000)&&Yc p
def WG(b:BoxT)(fs:List Fact)(p:List Mono):Int×Int:=
 if Zp b fs (ZI p) (Yz p)=0 then(match Uo p b.v (ZR b fs)with|none=>(0,2)|some l=>VR l)else(0,Zp b fs (ZI p) (Yz p))
end Go.Pl

namespace Go.Pl
open Go.RowKit
open Enc (enc dec is)
open EncL (encL decL isL)
theorem b3u: ∀ args os,Xb args os=true->Zc a0u os.length (Zo os.length PD fun r=>r=WO args os) NA [] (YK b8c args os):=by
 intro args os h
 unfold Xb at h
 split at h
 ·rename_i v m f
  simp only[Bool.and_eq_true]at h
  obtain⟨h1,h2⟩:=h
  obtain⟨vs,rfl⟩:=Yq h1
  obtain⟨fs,rfl⟩:=Yq h2
  exact c5o ⟨vs,m⟩ fs rfl
 ·cases h
theorem Ur(b:BoxT)(fs:List Fact)(ok:Bool)(ns:List Str)(h:Zp b fs ok ns=0):YI b=true∧Yr fs=true∧ok=true∧YG b.v (ns++fs.flatMap fun f=>Zd f.l)=true:=by
 unfold Zp at h
 split at h
 ·cases h
 ·rename_i h1
  simp only[Bool.or_eq_true,Bool.not_eq_true',not_or,Bool.not_eq_false]at h1
  split at h
  ·rename_i h2
   exact⟨h1.1.1,h1.1.2,h1.2,h2⟩
  ·cases h
theorem a2h{b:BoxT}{fs:List Fact}(h:YI b=true):(ZR b fs).length<=20000:=by
 unfold ZR
 refine Nat.le_trans (List.length_filter_le _ _) ?_
 rw[V5 h,H7]
 exact Cy h
def gpI(b:BoxT)(fs:List Fact)(k:Nat)(σ:Zv):Prop:=
 (k=0∧σ=[.obj (.box [.pv (.sl 0 true [])])])∨(k≠0∧k<=(ZR b fs).length∧σ=[.obj (.box [.row 1 k 0 k]),.obj (.row false 34 1 (((ZR b fs).take k).map enc))])
def gpE:YB:=fun n st q=>n=0∧GN JC 0 (.t 17) 177 [18,19] [(8,18)] Qk Kt Qn DI st q
theorem SN(b:BoxT)(fs:List Fact):DI [[enc b.v,.int .i64 b.m],[enc fs]]=(ZR b fs).map fun p=>(p,Zf b.v p):=by
 show((ZR ⟨dec (enc b.v:PV),b.m⟩ (dec (enc fs:PV))).map fun p=>(p,Zf (dec (enc b.v:PV)) p))=_
 rw[Enc.dec_enc,Enc.dec_enc]
theorem BL{b:BoxT}{fs:List Fact}(hb:YI b=true)(hf:Zi fs=true)(hl:b.v.length<=1000):Qn [[enc b.v,.int .i64 b.m],[enc fs]]=true:=by
 show(VG (List Str) (enc b.v)&&VG (List Fact) (enc fs)&&YI ⟨dec (enc b.v:PV),b.m⟩&&Zi (dec (enc fs:PV))&&decide ((dec (enc b.v:PV):List Str).length<=1000))=true
 rw[Z0,Z0,Enc.dec_enc,Enc.dec_enc,hf,decide_eq_true hl]
 simp[hb]
theorem b5i(b:BoxT)(fs:List Fact)(hv:YI b=true)(k:Nat)(p:List Int)(vs:List Coef)(σ:Zv)(hp:(ZR b fs)[k]? = some p)(h:gpI b fs k σ):
  ZB JC (fun n S' _=>n=99∧gpI b fs (k+1) S'.heap) σ.length (fun st=>False) (.inl Qk) [.seq (.ext 99 [])] ⟨ZU 25 0 [(7,.ptr 0 0),(8,.pv (enc p)),(18,.pv (enc p)),(19,.pv (enc vs))],σ⟩:=by
 have hk:=(List.getElem?_eq_some_iff.1 hp).1
 have hkp:=(List.getElem?_eq_some_iff.1 hp).2
 have hl:=a2h (fs:=fs) hv
 rcases h with ⟨rfl,rfl⟩|⟨hne,hk',rfl⟩
 ·refine b9i (G:=fun _=>False) _ p vs ⟨rfl,.inr ⟨by simp,by omega,?_⟩⟩
  have e:(ZR b fs).take (0+1)=[p]:=by rw[List.take_succ_eq_append_getElem hk,hkp];rfl
  rw[e]
  rfl
 ·have e:(ZR b fs).take (k+1)=(ZR b fs).take k++[p]:=by rw[List.take_succ_eq_append_getElem hk,hkp]
  have el:((ZR b fs).take k).length=k:=by rw[List.length_take];omega
  refine c0y (G:=fun _=>False) _ p vs k ((ZR b fs).take k) ⟨?_,rfl,.inr ⟨by omega,by omega,?_⟩⟩
  ·rw[List.length_map,el]
   show((k==k)&&(k==k)&&decide ((k+1)*24<=1099511627776)&&decide (k+1<=1099511627776))=true
   rw[decide_eq_true (by omega),decide_eq_true (by omega)];simp
  ·rw[e,List.map_append]
   rfl
theorem b8z: ∀ x:BoxT×List Fact×Unit,(ZC x.1&&Zi x.2.1&&decide (x.2.1.length<=100)&&decide (x.1.v.length<=1000))=true->Ku JC gpE 0 (Za Dr (Zg (ZW x.1 x.2.1))) Di [] (Ye c7u (encL x)):=by
 rintro⟨b,fs,⟨⟩⟩ hp
 simp only[Bool.and_eq_true,decide_eq_true_eq]at hp
 obtain⟨⟨⟨h1,h2⟩,h3⟩,h4⟩:=hp
 refine c8l gpE b fs ⟨Zj (b,fs,true,⟨⟩,()) rfl (by simp[h1,h2,h3]),Zh (b,fs,true,⟨⟩,()) rfl ?_⟩
 show if (Zp b fs true [] != 0)=true then _ else _
 by_cases h0:Zp b fs true []=0
 ·rw[if_neg (by simp[h0])]
  obtain⟨hv,_⟩:=Ur b fs true [] h0
  have hpt:ZW b fs=(ZR b fs,0):=by unfold ZW;rw[if_pos h0]
  rw[hpt]
  refine⟨?_,rfl,[1,2],[[enc b.v,.int .i64 b.m],[enc fs]],[7],[],⟨ZU 25 0 [(7,.ptr 0 0)],[.obj (.box [.pv (.sl 0 true [])])]⟩,gpI b fs,fun _=>False,rfl,by simp,rfl,?_,by kernel_rfl,BL hv h2 h4,.inl ⟨rfl,rfl⟩,?_,?_,fun σ h=>h.elim⟩
  ·show(VG (List Str) (enc b.v)&&VG (List Fact) (enc fs))=true
   rw[Z0,Z0];rfl
  ·intro j l ps hl hps
   match j with
   | 0=>cases hl;cases hps;rfl
   | 1=>cases hl;cases hps;rfl
   | j+2=>simp at hl
  ·intro k x σ hx hI
   rw[SN,List.getElem?_map]at hx
   obtain⟨p,hp,rfl⟩:=Option.map_eq_some_iff.1 hx
   have e:Tk [(8,18)] (Cq [18,19] ((Kt (p,Zf b.v p)).map .pv) (ZU 25 0 [(7,.ptr 0 0)]))=ZU 25 0 [(7,.ptr 0 0),(8,.pv (enc p)),(18,.pv (enc p)),(19,.pv (enc (Zf b.v p)))]:=by kernel_rfl
   have:=b5i b fs hv k p (Zf b.v p) σ hp hI
   rw[<- e]at this
   exact this
  ·intro σ hI
   rw[SN,List.length_map]at hI
   rcases hI with ⟨e,rfl⟩|⟨e,_,rfl⟩
   ·refine b9r gpE b fs ?_
    rw[List.length_eq_zero_iff.1 e]
    exact⟨rfl,rfl⟩
   ·refine c1s gpE b fs (ZR b fs).length ((ZR b fs).take (ZR b fs).length) ⟨by simp,?_⟩
    rw[List.take_length,List.drop_zero,List.take_of_length_le (by simp)]
    exact ZQ (x:=((ZR b fs),(0:Int))) rfl
 ·rw[if_pos (by simpa using h0)]
  have hpt:ZW b fs=([],Zp b fs true []):=by unfold ZW;rw[if_neg h0]
  rw[hpt]
  exact⟨rfl,rfl⟩
theorem a0e: ∀ x:BoxT×List Fact×Unit,(ZC x.1&&Zi x.2.1&&decide (x.2.1.length<=100)&&decide (x.1.v.length<=1000))=true->Zc Az 0 (Za Dt (Zg (KV x.1 x.2.1))) G9 [] (Ye a4z (encL x)):=by
 rintro⟨b,fs,⟨⟩⟩ hp
 refine b1r b fs ⟨Zj (b,fs,()) rfl hp,Zh (b,fs,()) rfl ?_⟩
 rw[List.length_map]
 exact ZQ (x:=((((ZW b fs).1.length:Nat):Int),(ZW b fs).2)) rfl
end Go.Pl

namespace Go.Pl
open Go.RowKit
open Enc (enc dec is)
open EncL (encL decL isL)
set_option maxRecDepth 100000
def VQ:IC:=(.seq (.reg [⟨(some 1),(.box 2 (.t 0)),0,none⟩,⟨(some 2),(.mv (.c (.bool false))),1,none⟩] none) (.seq (.reg [⟨(some 3),(.mv (.c (.int .i64 1))),0,none⟩] none) (.seq (.seq (.reg [⟨(some 4),(.mv (.c (.int .i64 0))),0,none⟩] none) (.block 0 (.loop [4,1,3] (.seq (.seq (.reg [⟨(some 6),(.mv (.t 4)),0,none⟩,⟨(some 7),(.faddr 0 (.t 1)),0,none⟩,⟨(some 8),(.load false [(.sl 1)] (.t 7)),0,none⟩,⟨(some 9),(.len 1 (.t 8)),0,none⟩,⟨(some 10),(.bin .num .lss (.t 6) (.t 9)),0,none⟩] none) (.cond (.t 10) .skip (.exit 0))) (.seq (.block 1 (.seq (.seq (.reg [⟨(some 13),(.faddr 0 (.t 1)),0,none⟩,⟨(some 14),(.load false [(.sl 1)] (.t 13)),0,none⟩,⟨(some 15),(.mv (.t 4)),0,none⟩,⟨(some 16),(.iaddr 1 (.t 14) (.t 15)),0,none⟩,⟨(some 17),(.load false [.str] (.t 16)),0,none⟩,⟨(some 18),(.call (.c (.fn 84)) [(.t 17)]),0,none⟩,⟨(some 19),(.un .not (.t 18)),2,none⟩,⟨(some 20),(.mv (.t 19)),2,none⟩,⟨(some 21),(.faddr 1 (.t 1)),2,(some (20,false))⟩,⟨(some 22),(.load false [(.int .i64)] (.t 21)),2,(some (20,false))⟩,⟨(some 23),(.bin .num .geq (.t 22) (.c (.int .i64 20000))),2,(some (20,false))⟩,⟨(some 24),(.pick (.t 20) (.c (.bool true)) (.t 23)),2,none⟩] none) (.cond (.t 24) (.seq (.reg [⟨(some 2),(.mv (.c (.bool false))),0,none⟩] none) .ret) .skip)) (.seq (.seq (.reg [⟨(some 5),(.mv (.c (.int .i64 0))),0,none⟩] none) (.block 2 (.loop [5,4,1,3] (.seq (.seq (.reg [⟨(some 25),(.mv (.t 5)),0,none⟩,⟨(some 26),(.mv (.t 4)),0,none⟩,⟨(some 27),(.bin .num .lss (.t 25) (.t 26)),0,none⟩] none) (.cond (.t 27) .skip (.exit 2))) (.seq (.block 3 (.seq (.reg [⟨(some 30),(.faddr 0 (.t 1)),0,none⟩,⟨(some 31),(.load false [(.sl 1)] (.t 30)),0,none⟩,⟨(some 32),(.mv (.t 5)),0,none⟩,⟨(some 33),(.iaddr 1 (.t 31) (.t 32)),0,none⟩,⟨(some 34),(.load false [.str] (.t 33)),0,none⟩,⟨(some 35),(.faddr 0 (.t 1)),0,none⟩,⟨(some 36),(.load false [(.sl 1)] (.t 35)),0,none⟩,⟨(some 37),(.mv (.t 4)),0,none⟩,⟨(some 38),(.iaddr 1 (.t 36) (.t 37)),0,none⟩,⟨(some 39),(.load false [.str] (.t 38)),0,none⟩,⟨(some 40),(.bin .num .eql (.t 34) (.t 39)),0,none⟩] (some [[],[0],[],[1,2,0],[3,1,2,0],[],[5],[],[6,7,5],[8,6,7,5],[4,9,3,1,2,0,8,6,7,5]])) (.cond (.t 40) (.seq (.reg [⟨(some 2),(.mv (.c (.bool false))),0,none⟩] none) .ret) .skip))) (.reg [⟨(some 28),(.mv (.t 5)),0,none⟩,⟨(some 29),(.bin .num .add (.t 28) (.c (.int .i64 1))),0,none⟩,⟨(some 5),(.mv (.t 29)),0,none⟩] none)))))) (.seq (.reg [⟨(some 41),(.mv (.t 3)),0,none⟩,⟨(some 42),(.bin .num .leq (.t 41) (.c (.int .i64 20000))),0,none⟩] none) (.cond (.t 42) (.reg [⟨(some 43),(.mv (.t 3)),0,none⟩,⟨(some 44),(.faddr 1 (.t 1)),0,none⟩,⟨(some 45),(.load false [(.int .i64)] (.t 44)),0,none⟩,⟨(some 46),(.bin .num .add (.t 45) (.c (.int .i64 1))),0,none⟩,⟨(some 47),(.bin .num .mul (.t 43) (.t 46)),0,none⟩,⟨(some 3),(.mv (.t 47)),0,none⟩] none) .skip))))) (.reg [⟨(some 11),(.mv (.t 4)),0,none⟩,⟨(some 12),(.bin .num .add (.t 11) (.c (.int .i64 1))),0,none⟩,⟨(some 4),(.mv (.t 12)),0,none⟩] none)))))) (.seq (.reg [⟨(some 48),(.faddr 1 (.t 1)),0,none⟩,⟨(some 49),(.load false [(.int .i64)] (.t 48)),0,none⟩,⟨(some 50),(.bin .num .geq (.t 49) (.c (.int .i64 0))),0,none⟩,⟨(some 51),(.mv (.t 50)),0,none⟩,⟨(some 52),(.mv (.t 3)),0,(some (51,true))⟩,⟨(some 53),(.bin .num .leq (.t 52) (.c (.int .i64 20000))),0,(some (51,true))⟩,⟨(some 54),(.pick (.t 51) (.t 53) (.c (.bool false))),0,none⟩,⟨(some 2),(.mv (.t 54)),0,none⟩] none) .ret))))
def V4:List IRes:=[(.tmp 2)]
abbrev c5b:Nat:=55
def QV:ZG:=Xc [(84,.pure (preT (fun _:Str×Unit=>true)) (Ze (fun x:Str×Unit=>ZF x.1)))]
theorem c9m{G:PV->Prop}(b:BoxT)(h:At QV 0 (Za V4 G) VQ 0 55 [(1,(.ptr 0 0)),(3,(.pv (.int .i64 1))),(4,(.pv (.int .i64 0)))] [(.obj (.box [(.pv (.sl 1 false (List.map enc b.v))),(.pv (.int .i64 b.m))]))]):Zc QV 0 (Za V4 G) VQ [] (Ye 55 [enc b]):=Zc.tp (.nil) h (by kernel_rfl)
theorem b4t{G:PV->Prop}(b:BoxT)(n i:Int)(h:if (decide (i<(↑(List.length (List.map enc b.v)):Int)))=true then(decide (0<=i)&&decide (Int.toNat i<List.length (List.map enc b.v))&&Enc.sz Str==1)=true∧(∃ y0:Str,AV.pv (PV.rptr (PV.cells (List.getD (List.map enc b.v) (Int.toNat i) default)))=AV.pv (PV.rptr (PV.cells ((enc) y0)))∧(∃ y1:Bool,AV.pv (Ze (fun(x:Str×Unit)=>ZF x.1) [(.str (PV.asStr (List.getD (PV.cells (enc y0)) 0 default)))])=AV.pv (enc y1)∧(if (!y1)=true then G ((.bool false))else(if (decide (BoxT.m b ≥ 20000))=true then G ((.bool false))else(At QV 0 (Za V4 G) VQ 1 55 [(1,(.ptr 0 0)),(3,(.pv (.int .i64 n))),(4,(.pv (.int .i64 i))),(5,(.pv (.int .i64 0)))] [(.obj (.box [(.pv (.sl 1 false (List.map enc b.v))),(.pv (.int .i64 b.m))]))])))))else(if (decide (BoxT.m b ≥ 0))=true then G ((.bool (decide (n<=20000))))else(G ((.bool false))))):At QV 0 (Za V4 G) VQ 0 55 [(1,.ptr 0 0),(3,.pv (.int .i64 n)),(4,.pv (.int .i64 i))] [.obj (.box [.pv (enc b.v),.pv (.int .i64 b.m)])]:=At.tp (.lit (.ask (.req (.abs (Str) (fun YY=>AV.pv (PV.rptr (PV.cells ((enc) YY)))) (.lit (.lit (.abs (Bool) (fun YY=>AV.pv (enc YY)) (.ask (.lit (.lit (.lit (.lit (.nil))))) (.lit (.lit (.lit (.lit (.ask (.nil) (.nil)))))))))))) (.lit (.ask (.lit (.lit (.lit (.nil)))) (.lit (.lit (.nil))))))) h (by kernel_rfl)
theorem b1s{G:PV->Prop}(b:BoxT)(n i k:Int)(h:if (decide (k<i))=true then(decide (0<=k)&&decide (Int.toNat k<List.length (List.map enc b.v))&&Enc.sz Str==1)=true∧(∃ y0:Str,AV.pv (PV.rptr (PV.cells (List.getD (List.map enc b.v) (Int.toNat k) default)))=AV.pv (PV.rptr (PV.cells ((enc) y0)))∧((decide (0<=i)&&decide (Int.toNat i<List.length (List.map enc b.v))&&Enc.sz Str==1)=true∧(∃ y1:Str,AV.pv (PV.rptr (PV.cells (List.getD (List.map enc b.v) (Int.toNat i) default)))=AV.pv (PV.rptr (PV.cells ((enc) y1)))∧(if (PV.asStr (List.getD (PV.cells (enc y0)) 0 default)==PV.asStr (List.getD (PV.cells (enc y1)) 0 default))=true then G ((.bool false))else(At QV 0 (Za V4 G) VQ 1 55 [(1,(.ptr 0 0)),(3,(.pv (.int .i64 n))),(4,(.pv (.int .i64 i))),(5,(.pv (.int .i64 (IntKind.wrap IntKind.i64 (k+1)))))] [(.obj (.box [(.pv (.sl 1 false (List.map enc b.v))),(.pv (.int .i64 b.m))]))])))))else(if (decide (n<=20000))=true then At QV 0 (Za V4 G) VQ 0 55 [(1,(.ptr 0 0)),(3,(.pv (.int .i64 (IntKind.wrap IntKind.i64 (n*IntKind.wrap IntKind.i64 (BoxT.m b+1)))))),(4,(.pv (.int .i64 (IntKind.wrap IntKind.i64 (i+1)))))] [(.obj (.box [(.pv (.sl 1 false (List.map enc b.v))),(.pv (.int .i64 b.m))]))]else(At QV 0 (Za V4 G) VQ 0 55 [(1,(.ptr 0 0)),(3,(.pv (.int .i64 n))),(4,(.pv (.int .i64 (IntKind.wrap IntKind.i64 (i+1)))))] [(.obj (.box [(.pv (.sl 1 false (List.map enc b.v))),(.pv (.int .i64 b.m))]))]))):At QV 0 (Za V4 G) VQ 1 55 [(1,.ptr 0 0),(3,.pv (.int .i64 n)),(4,.pv (.int .i64 i)),(5,.pv (.int .i64 k))] [.obj (.box [.pv (enc b.v),.pv (.int .i64 b.m)])]:=At.tp (.lit (.ask (.req (.abs (Str) (fun YY=>AV.pv (PV.rptr (PV.cells ((enc) YY)))) (.lit (.req (.abs (Str) (fun YY=>AV.pv (PV.rptr (PV.cells ((enc) YY)))) (.lit (.lit (.ask (.nil) (.lit (.nil)))))))))) (.lit (.ask (.lit (.lit (.lit (.nil)))) (.lit (.nil)))))) h (by kernel_rfl)
def Yl:IC:=(.seq (.reg [⟨(some 2),(.box 2 (.t 0)),0,none⟩,⟨(some 4),(.mv (.c (.sl 0 true []))),1,none⟩] none) (.seq (.reg [⟨(some 5),(.mv (.c (.sl 0 true []))),0,none⟩] none) (.seq (.seq (.reg [⟨(some 6),(.mv (.c (.int .i64 0))),0,none⟩] none) (.block 0 (.loop [6,2,1,5] (.seq (.seq (.reg [⟨(some 7),(.mv (.t 6)),0,none⟩,⟨(some 8),(.faddr 0 (.t 2)),0,none⟩,⟨(some 9),(.load false [(.sl 1)] (.t 8)),0,none⟩,⟨(some 10),(.len 1 (.t 9)),0,none⟩,⟨(some 11),(.bin .num .lss (.t 7) (.t 10)),0,none⟩,⟨(some 12),(.mv (.t 11)),0,none⟩,⟨(some 13),(.mv (.t 6)),0,(some (12,true))⟩,⟨(some 14),(.mv (.t 1)),0,(some (12,true))⟩,⟨(some 15),(.len 1 (.t 14)),0,(some (12,true))⟩,⟨(some 16),(.bin .num .lss (.t 13) (.t 15)),0,(some (12,true))⟩,⟨(some 17),(.pick (.t 12) (.t 16) (.c (.bool false))),0,none⟩] none) (.cond (.t 17) .skip (.exit 0))) (.seq (.block 1 (.reg [⟨(some 20),(.mv (.t 5)),0,none⟩,⟨(some 21),(.faddr 0 (.t 2)),0,none⟩,⟨(some 22),(.load false [(.sl 1)] (.t 21)),0,none⟩,⟨(some 23),(.mv (.t 6)),0,none⟩,⟨(some 24),(.iaddr 1 (.t 22) (.t 23)),0,none⟩,⟨(some 25),(.load false [.str] (.t 24)),0,none⟩,⟨(some 26),(.mv (.t 1)),0,none⟩,⟨(some 27),(.mv (.t 6)),0,none⟩,⟨(some 28),(.iaddr 1 (.t 26) (.t 27)),0,none⟩,⟨(some 29),(.load false [(.int .i64)] (.t 28)),0,none⟩,⟨(some 30),(.build [(.str []),(.int .i64 0)] [(0,(1,(.t 25))),(1,(1,(.t 29)))]),0,none⟩,⟨(some 31),(.bslice 63 2 1 (.agg [(.str []),(.int .i64 0)]) [(0,(.t 30))]),0,none⟩,⟨(some 32),(.append 63 2 24 (.t 20) (.t 31)),1,none⟩,⟨(some 5),(.mv (.t 32)),2,none⟩] (some [[],[],[1],[],[2,3,1],[4,2,3,1],[],[],[6,7],[8,6,7],[5,9,4,2,3,1,8,6,7],[10,5,9,4,2,3,1,8,6,7],[0,11,10,5,9,4,2,3,1,8,6,7],[12,0,1,2,3,4,5,6,7,8,9,10,11]]))) (.reg [⟨(some 18),(.mv (.t 6)),0,none⟩,⟨(some 19),(.bin .num .add (.t 18) (.c (.int .i64 1))),0,none⟩,⟨(some 6),(.mv (.t 19)),0,none⟩] none)))))) (.seq (.reg [⟨(some 33),(.mv (.t 5)),0,none⟩,⟨(some 4),(.mv (.t 33)),0,none⟩] none) .ret))))
def Ym:List IRes:=[(.tmp 4)]
abbrev TS:Nat:=34
def YF:ZG:=Xc []
theorem a9m{G:PV->Prop}(b:BoxT)(p:List Int)(h:At YF 0 (Za Ym G) Yl 0 34 [(1,(.pv (.sl 1 false (List.map enc p)))),(2,(.ptr 0 0)),(5,(.pv (.sl 0 true []))),(6,(.pv (.int .i64 0)))] [(.obj (.box [(.pv (.sl 1 false (List.map enc b.v))),(.pv (.int .i64 b.m))]))]):Zc YF 0 (Za Ym G) Yl [] (Ye 34 [enc b,enc p]):=Zc.tp (.nil) h (by kernel_rfl)
theorem J5{G:PV->Prop}(b:BoxT)(p:List Int)(i:Int)(h:if (decide (i<(↑(List.length (List.map enc b.v)):Int)))=true then if (decide (i<(↑(List.length (List.map enc p)):Int)))=true then(decide (0<=i)&&decide (Int.toNat i<List.length (List.map enc b.v))&&Enc.sz Str==1)=true∧(∃ y0:Str,AV.pv (PV.rptr (PV.cells (List.getD (List.map enc b.v) (Int.toNat i) default)))=AV.pv (PV.rptr (PV.cells ((enc) y0)))∧((decide (0<=i)&&decide (Int.toNat i<List.length (List.map enc p))&&Enc.sz Int==1)=true∧(∃ y1:Int,AV.pv (PV.rptr (PV.cells (List.getD (List.map enc p) (Int.toNat i) default)))=AV.pv (PV.rptr (PV.cells ((enc) y1)))∧(At YF 0 (Za Ym G) Yl 0 34 [(1,(.pv (.sl 1 false (List.map enc p)))),(2,(.ptr 0 0)),(5,(.row 1 1 0 1)),(6,(.pv (.int .i64 (IntKind.wrap IntKind.i64 (i+1)))))] [(.obj (.box [(.pv (.sl 1 false (List.map enc b.v))),(.pv (.int .i64 b.m))])),(.obj (.row false 63 2 [(.agg [(.str (PV.asStr (List.getD (PV.cells (enc y0)) 0 default))),(.int .i64 (PV.asInt (List.getD (PV.cells (enc y1)) 0 default)))])]))]))))else(G ((.sl 0 true [])))else(G ((.sl 0 true [])))):At YF 0 (Za Ym G) Yl 0 34 [(1,.pv (enc p)),(2,.ptr 0 0),(5,.pv (.sl 0 true [])),(6,.pv (.int .i64 i))] [.obj (.box [.pv (enc b.v),.pv (.int .i64 b.m)])]:=At.tp (.lit (.ask (.lit (.lit (.lit (.lit (.lit (.ask (.req (.abs (Str) (fun YY=>AV.pv (PV.rptr (PV.cells ((enc) YY)))) (.lit (.req (.abs (Int) (fun YY=>AV.pv (PV.rptr (PV.cells ((enc) YY)))) (.lit (.lit (.lit (.lit (.lit (.lit (.lit (.nil))))))))))))) (.nil))))))) (.lit (.lit (.lit (.lit (.lit (.nil)))))))) h (by kernel_rfl)
theorem JP{G:PV->Prop}(b:BoxT)(p:List Int)(i:Int)(q:Nat)(vs:List Coef)(h:if (decide (i<(↑(List.length (List.map enc b.v)):Int)))=true then if (decide (i<(↑(List.length (List.map enc p)):Int)))=true then(decide (0<=i)&&decide (Int.toNat i<List.length (List.map enc b.v))&&Enc.sz Str==1)=true∧(∃ y0:Str,AV.pv (PV.rptr (PV.cells (List.getD (List.map enc b.v) (Int.toNat i) default)))=AV.pv (PV.rptr (PV.cells ((enc) y0)))∧((decide (0<=i)&&decide (Int.toNat i<List.length (List.map enc p))&&Enc.sz Int==1)=true∧(∃ y1:Int,AV.pv (PV.rptr (PV.cells (List.getD (List.map enc p) (Int.toNat i) default)))=AV.pv (PV.rptr (PV.cells ((enc) y1)))∧((List.length (List.map enc vs)==q&&q==q&&decide ((q+List.length (List.drop 0 (List.take 1 [PV.agg [Sh.co Sh.str (List.getD (PV.cells (enc y0)) 0 default),Sh.co (Sh.int .i64) (List.getD (PV.cells (enc y1)) 0 default)]])))*24<=1099511627776)&&decide (q+List.length (List.drop 0 (List.take 1 [PV.agg [Sh.co Sh.str (List.getD (PV.cells (enc y0)) 0 default),Sh.co (Sh.int .i64) (List.getD (PV.cells (enc y1)) 0 default)]]))<=1099511627776))=true∧(At YF 0 (Za Ym G) Yl 0 34 [(1,(.pv (.sl 1 false (List.map enc p)))),(2,(.ptr 0 0)),(5,(.row 1 (q+List.length (List.drop 0 (List.take 1 [PV.agg [Sh.co Sh.str (List.getD (PV.cells (enc y0)) 0 default),Sh.co (Sh.int .i64) (List.getD (PV.cells (enc y1)) 0 default)]]))) 0 (q+List.length (List.drop 0 (List.take 1 [PV.agg [Sh.co Sh.str (List.getD (PV.cells (enc y0)) 0 default),Sh.co (Sh.int .i64) (List.getD (PV.cells (enc y1)) 0 default)]]))))),(6,(.pv (.int .i64 (IntKind.wrap IntKind.i64 (i+1)))))] [(.obj (.box [(.pv (.sl 1 false (List.map enc b.v))),(.pv (.int .i64 b.m))])),(.obj (.row false 63 2 (List.map enc vs++List.drop 0 (List.take 1 [PV.agg [Sh.co Sh.str (List.getD (PV.cells (enc y0)) 0 default),Sh.co (Sh.int .i64) (List.getD (PV.cells (enc y1)) 0 default)]]))))])))))else((List.length (List.map enc vs)==q)=true∧(G ((.sl 2 false (List.drop 0 (List.take q (List.map enc vs)))))))else((List.length (List.map enc vs)==q)=true∧(G ((.sl 2 false (List.drop 0 (List.take q (List.map enc vs)))))))):At YF 0 (Za Ym G) Yl 0 34 [(1,.pv (enc p)),(2,.ptr 0 0),(5,.row 1 q 0 q),(6,.pv (.int .i64 i))] [.obj (.box [.pv (enc b.v),.pv (.int .i64 b.m)]),.obj (.row false 63 2 (vs.map enc))]:=At.tp (.lit (.ask (.lit (.lit (.lit (.lit (.lit (.ask (.req (.abs (Str) (fun YY=>AV.pv (PV.rptr (PV.cells ((enc) YY)))) (.lit (.req (.abs (Int) (fun YY=>AV.pv (PV.rptr (PV.cells ((enc) YY)))) (.lit (.lit (.lit (.req (.lit (.nil))))))))))) (.req (.nil)))))))) (.lit (.lit (.lit (.lit (.lit (.req (.nil))))))))) h (by kernel_rfl)
theorem a6v{G:AV×List AObj×List AObj->Prop}(b:BoxT)(m:Nat)(p:List Int)(h:At YF 1 (WE 1 Ym G) Yl 0 34 [(1,(.row 0 m 0 m)),(2,(.ptr 1 0)),(5,(.pv (.sl 0 true []))),(6,(.pv (.int .i64 0)))] [(.obj (.row false 3 1 (List.map enc p))),(.obj (.box [(.pv (.sl 1 false (List.map enc b.v))),(.pv (.int .i64 b.m))]))]):Zc YF 1 (WE 1 Ym G) Yl [] (YK 34 [.pv (enc b),.row 0 m 0 m] [.row false 3 1 (p.map enc)]):=Zc.tf (.nil) h (by kernel_rfl)
theorem K3{G:AV×List AObj×List AObj->Prop}(b:BoxT)(m:Nat)(p:List Int)(i:Int)(h:if (decide (i<(↑(List.length (List.map enc b.v)):Int)))=true then if (decide (i<(↑(m - 0):Int)))=true then(decide (0<=i)&&decide (Int.toNat i<List.length (List.map enc b.v))&&Enc.sz Str==1)=true∧(∃ y0:Str,AV.pv (PV.rptr (PV.cells (List.getD (List.map enc b.v) (Int.toNat i) default)))=AV.pv (PV.rptr (PV.cells ((enc) y0)))∧((decide (0<=i)&&decide (0+Int.toNat i<m)&&List.length (List.map enc p)==m)=true∧((List.length (List.map enc p)==m&&decide (0+Int.toNat i<List.length (List.map enc p)))=true∧((decide (0+List.length [Sh.int .i64]<=List.length (PV.cells (List.getD (List.map enc p) (0+Int.toNat i) default)))&&Y7 (PV.cells (List.getD (List.map enc p) (0+Int.toNat i) default)) 0 [Sh.int .i64])=true∧(At YF 1 (WE 1 Ym G) Yl 0 34 [(1,(.row 0 m 0 m)),(2,(.ptr 1 0)),(5,(.row 2 1 0 1)),(6,(.pv (.int .i64 (IntKind.wrap IntKind.i64 (i+1)))))] [(.obj (.row false 3 1 (List.map enc p))),(.obj (.box [(.pv (.sl 1 false (List.map enc b.v))),(.pv (.int .i64 b.m))])),(.obj (.row false 63 2 [(.agg [(.str (PV.asStr (List.getD (PV.cells (enc y0)) 0 default))),(.int .i64 (PV.asInt (List.getD (PV.cells (List.getD (List.map enc p) (0+Int.toNat i) default)) 0 default)))])]))])))))else(G (((.pv (.sl 0 true [])),([(.row false 3 1 (List.map enc p))],[]))))else(G (((.pv (.sl 0 true [])),([(.row false 3 1 (List.map enc p))],[]))))):At YF 1 (WE 1 Ym G) Yl 0 34 [(1,.row 0 m 0 m),(2,.ptr 1 0),(5,.pv (.sl 0 true [])),(6,.pv (.int .i64 i))] [.obj (.row false 3 1 (p.map enc)),.obj (.box [.pv (enc b.v),.pv (.int .i64 b.m)])]:=At.tf (.lit (.ask (.lit (.lit (.lit (.lit (.lit (.ask (.req (.abs (Str) (fun YY=>AV.pv (PV.rptr (PV.cells ((enc) YY)))) (.lit (.req (.keep (.req (.req (.lit (.lit (.lit (.lit (.lit (.lit (.nil)))))))))))))) (.nil))))))) (.lit (.lit (.lit (.lit (.lit (.nil)))))))) h (by kernel_rfl)
theorem K4{G:AV×List AObj×List AObj->Prop}(b:BoxT)(m:Nat)(p:List Int)(i:Int)(q:Nat)(vs:List Coef)(h:if (decide (i<(↑(List.length (List.map enc b.v)):Int)))=true then if (decide (i<(↑(m - 0):Int)))=true then(decide (0<=i)&&decide (Int.toNat i<List.length (List.map enc b.v))&&Enc.sz Str==1)=true∧(∃ y0:Str,AV.pv (PV.rptr (PV.cells (List.getD (List.map enc b.v) (Int.toNat i) default)))=AV.pv (PV.rptr (PV.cells ((enc) y0)))∧((decide (0<=i)&&decide (0+Int.toNat i<m)&&List.length (List.map enc p)==m)=true∧((List.length (List.map enc p)==m&&decide (0+Int.toNat i<List.length (List.map enc p)))=true∧((decide (0+List.length [Sh.int .i64]<=List.length (PV.cells (List.getD (List.map enc p) (0+Int.toNat i) default)))&&Y7 (PV.cells (List.getD (List.map enc p) (0+Int.toNat i) default)) 0 [Sh.int .i64])=true∧((List.length (List.map enc vs)==q&&q==q&&decide ((q+List.length (List.drop 0 (List.take 1 [PV.agg [Sh.co Sh.str (List.getD (PV.cells (enc y0)) 0 default),Sh.co (Sh.int .i64) (List.getD (PV.cells (List.getD (List.map enc p) (0+Int.toNat i) default)) 0 default)]])))*24<=1099511627776)&&decide (q+List.length (List.drop 0 (List.take 1 [PV.agg [Sh.co Sh.str (List.getD (PV.cells (enc y0)) 0 default),Sh.co (Sh.int .i64) (List.getD (PV.cells (List.getD (List.map enc p) (0+Int.toNat i) default)) 0 default)]]))<=1099511627776))=true∧(At YF 1 (WE 1 Ym G) Yl 0 34 [(1,(.row 0 m 0 m)),(2,(.ptr 1 0)),(5,(.row 2 (q+List.length (List.drop 0 (List.take 1 [PV.agg [Sh.co Sh.str (List.getD (PV.cells (enc y0)) 0 default),Sh.co (Sh.int .i64) (List.getD (PV.cells (List.getD (List.map enc p) (0+Int.toNat i) default)) 0 default)]]))) 0 (q+List.length (List.drop 0 (List.take 1 [PV.agg [Sh.co Sh.str (List.getD (PV.cells (enc y0)) 0 default),Sh.co (Sh.int .i64) (List.getD (PV.cells (List.getD (List.map enc p) (0+Int.toNat i) default)) 0 default)]]))))),(6,(.pv (.int .i64 (IntKind.wrap IntKind.i64 (i+1)))))] [(.obj (.row false 3 1 (List.map enc p))),(.obj (.box [(.pv (.sl 1 false (List.map enc b.v))),(.pv (.int .i64 b.m))])),(.obj (.row false 63 2 (List.map enc vs++List.drop 0 (List.take 1 [PV.agg [Sh.co Sh.str (List.getD (PV.cells (enc y0)) 0 default),Sh.co (Sh.int .i64) (List.getD (PV.cells (List.getD (List.map enc p) (0+Int.toNat i) default)) 0 default)]]))))]))))))else((List.length (List.map enc vs)==q)=true∧(G (((.pv (.sl 2 false (List.drop 0 (List.take q (List.map enc vs))))),([(.row false 3 1 (List.map enc p))],[])))))else((List.length (List.map enc vs)==q)=true∧(G (((.pv (.sl 2 false (List.drop 0 (List.take q (List.map enc vs))))),([(.row false 3 1 (List.map enc p))],[])))))):At YF 1 (WE 1 Ym G) Yl 0 34 [(1,.row 0 m 0 m),(2,.ptr 1 0),(5,.row 2 q 0 q),(6,.pv (.int .i64 i))] [.obj (.row false 3 1 (p.map enc)),.obj (.box [.pv (enc b.v),.pv (.int .i64 b.m)]),.obj (.row false 63 2 (vs.map enc))]:=At.tf (.lit (.ask (.lit (.lit (.lit (.lit (.lit (.ask (.req (.abs (Str) (fun YY=>AV.pv (PV.rptr (PV.cells ((enc) YY)))) (.lit (.req (.keep (.req (.req (.lit (.lit (.req (.lit (.nil)))))))))))) (.req (.nil)))))))) (.lit (.lit (.lit (.lit (.lit (.req (.nil))))))))) h (by kernel_rfl)
def Y4:IC:=(.seq (.reg [⟨(some 2),(.box 2 (.t 0)),0,none⟩,⟨(some 4),(.mv (.c (.bool false))),1,none⟩] none) (.seq (.seq (.reg [⟨(some 5),(.mv (.c (.int .i64 0))),0,none⟩] none) (.block 0 (.loop [5,1,2] (.seq (.seq (.reg [⟨(some 8),(.mv (.t 5)),0,none⟩,⟨(some 9),(.mv (.t 1)),0,none⟩,⟨(some 10),(.len 1 (.t 9)),0,none⟩,⟨(some 11),(.bin .num .lss (.t 8) (.t 10)),0,none⟩] none) (.cond (.t 11) .skip (.exit 0))) (.seq (.block 1 (.seq (.reg [⟨(some 6),(.mv (.c (.bool false))),0,none⟩] none) (.seq (.seq (.reg [⟨(some 7),(.mv (.c (.int .i64 0))),0,none⟩] none) (.block 2 (.loop [7,2,6,1,5] (.seq (.seq (.reg [⟨(some 14),(.mv (.t 7)),0,none⟩,⟨(some 15),(.faddr 0 (.t 2)),0,none⟩,⟨(some 16),(.load false [(.sl 1)] (.t 15)),0,none⟩,⟨(some 17),(.len 1 (.t 16)),0,none⟩,⟨(some 18),(.bin .num .lss (.t 14) (.t 17)),0,none⟩] none) (.cond (.t 18) .skip (.exit 2))) (.seq (.block 3 (.reg [⟨(some 21),(.mv (.t 6)),0,none⟩,⟨(some 22),(.mv (.t 21)),0,none⟩,⟨(some 23),(.faddr 0 (.t 2)),0,(some (22,false))⟩,⟨(some 24),(.load false [(.sl 1)] (.t 23)),0,(some (22,false))⟩,⟨(some 25),(.mv (.t 7)),0,(some (22,false))⟩,⟨(some 26),(.iaddr 1 (.t 24) (.t 25)),0,(some (22,false))⟩,⟨(some 27),(.load false [.str] (.t 26)),0,(some (22,false))⟩,⟨(some 28),(.mv (.t 1)),0,(some (22,false))⟩,⟨(some 29),(.mv (.t 5)),0,(some (22,false))⟩,⟨(some 30),(.iaddr 1 (.t 28) (.t 29)),0,(some (22,false))⟩,⟨(some 31),(.load false [.str] (.t 30)),0,(some (22,false))⟩,⟨(some 32),(.bin .num .eql (.t 27) (.t 31)),0,(some (22,false))⟩,⟨(some 33),(.pick (.t 22) (.c (.bool true)) (.t 32)),0,none⟩,⟨(some 6),(.mv (.t 33)),0,none⟩] (some [[],[0],[1,0],[2,1,0],[1,0],[3,4,1,2,0],[5,1,3,4,2,0],[1,0],[1,0],[7,8,1,0],[9,1,7,8,0],[6,10,1,5,3,4,2,0,9,7,8],[1,11,0,6,10,5,3,4,2,9,7,8],[12,1,0,2,3,4,5,6,7,8,9,10,11]]))) (.reg [⟨(some 19),(.mv (.t 7)),0,none⟩,⟨(some 20),(.bin .num .add (.t 19) (.c (.int .i64 1))),0,none⟩,⟨(some 7),(.mv (.t 20)),0,none⟩] none)))))) (.seq (.reg [⟨(some 34),(.mv (.t 6)),0,none⟩,⟨(some 35),(.un .not (.t 34)),0,none⟩] none) (.cond (.t 35) (.seq (.reg [⟨(some 4),(.mv (.c (.bool false))),0,none⟩] none) .ret) .skip))))) (.reg [⟨(some 12),(.mv (.t 5)),0,none⟩,⟨(some 13),(.bin .num .add (.t 12) (.c (.int .i64 1))),0,none⟩,⟨(some 5),(.mv (.t 13)),0,none⟩] none)))))) (.seq (.reg [⟨(some 4),(.mv (.c (.bool true))),0,none⟩] none) .ret)))
def Y1:List IRes:=[(.tmp 4)]
abbrev a8f:Nat:=36
def XB:ZG:=Xc []
theorem b6e{G:PV->Prop}(b:BoxT)(ns:List Str)(h:At XB 0 (Za Y1 G) Y4 0 36 [(1,(.pv (.sl 1 false (List.map enc ns)))),(2,(.ptr 0 0)),(5,(.pv (.int .i64 0)))] [(.obj (.box [(.pv (.sl 1 false (List.map enc b.v))),(.pv (.int .i64 b.m))]))]):Zc XB 0 (Za Y1 G) Y4 [] (Ye 36 [enc b,enc ns]):=Zc.tp (.nil) h (by kernel_rfl)
theorem Tu{G:PV->Prop}(b:BoxT)(ns:List Str)(i:Int)(h:if (decide (i<(↑(List.length (List.map enc ns)):Int)))=true then At XB 0 (Za Y1 G) Y4 1 36 [(1,(.pv (.sl 1 false (List.map enc ns)))),(2,(.ptr 0 0)),(5,(.pv (.int .i64 i))),(6,(.pv (.bool false))),(7,(.pv (.int .i64 0)))] [(.obj (.box [(.pv (.sl 1 false (List.map enc b.v))),(.pv (.int .i64 b.m))]))]else(G ((.bool true)))):At XB 0 (Za Y1 G) Y4 0 36 [(1,.pv (enc ns)),(2,.ptr 0 0),(5,.pv (.int .i64 i))] [.obj (.box [.pv (enc b.v),.pv (.int .i64 b.m)])]:=At.tp (.lit (.ask (.nil) (.nil))) h (by kernel_rfl)
theorem RA{G:PV->Prop}(b:BoxT)(ns:List Str)(i k:Int)(o:Bool)(h:if (decide (k<(↑(List.length (List.map enc b.v)):Int)))=true then if (o)=true then At XB 0 (Za Y1 G) Y4 1 36 [(1,(.pv (.sl 1 false (List.map enc ns)))),(2,(.ptr 0 0)),(5,(.pv (.int .i64 i))),(6,(.pv (.bool true))),(7,(.pv (.int .i64 (IntKind.wrap IntKind.i64 (k+1)))))] [(.obj (.box [(.pv (.sl 1 false (List.map enc b.v))),(.pv (.int .i64 b.m))]))]else((decide (0<=k)&&decide (Int.toNat k<List.length (List.map enc b.v))&&Enc.sz Str==1)=true∧(∃ y0:Str,AV.pv (PV.rptr (PV.cells (List.getD (List.map enc b.v) (Int.toNat k) default)))=AV.pv (PV.rptr (PV.cells ((enc) y0)))∧((decide (0<=i)&&decide (Int.toNat i<List.length (List.map enc ns))&&Enc.sz Str==1)=true∧(∃ y1:Str,AV.pv (PV.rptr (PV.cells (List.getD (List.map enc ns) (Int.toNat i) default)))=AV.pv (PV.rptr (PV.cells ((enc) y1)))∧(At XB 0 (Za Y1 G) Y4 1 36 [(1,(.pv (.sl 1 false (List.map enc ns)))),(2,(.ptr 0 0)),(5,(.pv (.int .i64 i))),(6,(.pv (.bool (PV.asStr (List.getD (PV.cells (enc y0)) 0 default)==PV.asStr (List.getD (PV.cells (enc y1)) 0 default))))),(7,(.pv (.int .i64 (IntKind.wrap IntKind.i64 (k+1)))))] [(.obj (.box [(.pv (.sl 1 false (List.map enc b.v))),(.pv (.int .i64 b.m))]))])))))else(if (!o)=true then G ((.bool false))else(At XB 0 (Za Y1 G) Y4 0 36 [(1,(.pv (.sl 1 false (List.map enc ns)))),(2,(.ptr 0 0)),(5,(.pv (.int .i64 (IntKind.wrap IntKind.i64 (i+1)))))] [(.obj (.box [(.pv (.sl 1 false (List.map enc b.v))),(.pv (.int .i64 b.m))]))]))):At XB 0 (Za Y1 G) Y4 1 36 [(1,.pv (enc ns)),(2,.ptr 0 0),(5,.pv (.int .i64 i)),(6,.pv (.bool o)),(7,.pv (.int .i64 k))] [.obj (.box [.pv (enc b.v),.pv (.int .i64 b.m)])]:=At.tp (.lit (.ask (.ask (.lit (.lit (.lit (.lit (.lit (.lit (.lit (.lit (.lit (.lit (.lit (.nil)))))))))))) (.lit (.lit (.lit (.req (.abs (Str) (fun YY=>AV.pv (PV.rptr (PV.cells ((enc) YY)))) (.lit (.lit (.lit (.lit (.lit (.req (.abs (Str) (fun YY=>AV.pv (PV.rptr (PV.cells ((enc) YY)))) (.lit (.lit (.lit (.lit (.lit (.lit (.nil)))))))))))))))))))) (.ask (.nil) (.lit (.nil))))) h (by kernel_rfl)
def Wn:IC:=(.seq (.reg [⟨(some 1),(.box 2 (.t 0)),0,none⟩,⟨(some 2),(.mv (.c (.sl 0 true []))),1,none⟩] none) (.seq (.reg [⟨(some 3),(.mv (.c (.sl 0 true []))),0,none⟩] none) (.seq (.seq (.reg [⟨(some 4),(.mv (.c (.int .i64 0))),0,none⟩] none) (.block 0 (.loop [4,1,3] (.seq (.seq (.reg [⟨(some 5),(.mv (.t 4)),0,none⟩,⟨(some 6),(.faddr 1 (.t 1)),0,none⟩,⟨(some 7),(.load false [(.sl 2)] (.t 6)),0,none⟩,⟨(some 8),(.len 1 (.t 7)),0,none⟩,⟨(some 9),(.bin .num .lss (.t 5) (.t 8)),0,none⟩] none) (.cond (.t 9) .skip (.exit 0))) (.seq (.block 1 (.reg [⟨(some 12),(.mv (.t 3)),0,none⟩,⟨(some 13),(.faddr 1 (.t 1)),0,none⟩,⟨(some 14),(.load false [(.sl 2)] (.t 13)),0,none⟩,⟨(some 15),(.mv (.t 4)),0,none⟩,⟨(some 16),(.iaddr 2 (.t 14) (.t 15)),0,none⟩,⟨(some 17),(.faddr 0 (.t 16)),0,none⟩,⟨(some 18),(.load false [.str] (.t 17)),0,none⟩,⟨(some 19),(.bslice 9 1 1 (.str []) [(0,(.t 18))]),0,none⟩,⟨(some 20),(.append 9 1 16 (.t 12) (.t 19)),1,none⟩,⟨(some 3),(.mv (.t 20)),2,none⟩] none)) (.reg [⟨(some 10),(.mv (.t 4)),0,none⟩,⟨(some 11),(.bin .num .add (.t 10) (.c (.int .i64 1))),0,none⟩,⟨(some 4),(.mv (.t 11)),0,none⟩] none)))))) (.seq (.reg [⟨(some 21),(.mv (.t 3)),0,none⟩,⟨(some 2),(.mv (.t 21)),0,none⟩] none) .ret))))
def Wq:List IRes:=[(.tmp 2)]
abbrev a6u:Nat:=22
def Vw:ZG:=Xc []
theorem b3s{G:PV->Prop}(l:Lin)(h:At Vw 0 (Za Wq G) Wn 0 22 [(1,(.ptr 0 0)),(3,(.pv (.sl 0 true []))),(4,(.pv (.int .i64 0)))] [(.obj (.box [(.pv (.int .i64 l.k)),(.pv (.sl 2 false (List.map enc l.t)))]))]):Zc Vw 0 (Za Wq G) Wn [] (Ye 22 [enc l]):=Zc.tp (.nil) h (by kernel_rfl)
theorem Bj{G:PV->Prop}(l:Lin)(i:Int)(h:if (decide (i<(↑(List.length (List.map enc l.t)):Int)))=true then(decide (0<=i)&&decide (Int.toNat i<List.length (List.map enc l.t))&&Enc.sz Coef==2)=true∧(∃ y0:Coef,AV.pv (PV.rptr (PV.cells (List.getD (List.map enc l.t) (Int.toNat i) default)))=AV.pv (PV.rptr (PV.cells ((enc) y0)))∧(At Vw 0 (Za Wq G) Wn 0 22 [(1,(.ptr 0 0)),(3,(.row 1 1 0 1)),(4,(.pv (.int .i64 (IntKind.wrap IntKind.i64 (i+1)))))] [(.obj (.box [(.pv (.int .i64 l.k)),(.pv (.sl 2 false (List.map enc l.t)))])),(.obj (.row false 9 1 [(.str (PV.asStr (List.getD (List.drop 0 (PV.cells (enc y0))) 0 default)))]))]))else(G ((.sl 0 true [])))):At Vw 0 (Za Wq G) Wn 0 22 [(1,.ptr 0 0),(3,.pv (.sl 0 true [])),(4,.pv (.int .i64 i))] [.obj (.box [.pv (.int .i64 l.k),.pv (enc l.t)])]:=At.tp (.lit (.ask (.req (.abs (Coef) (fun YY=>AV.pv (PV.rptr (PV.cells ((enc) YY)))) (.lit (.lit (.lit (.lit (.lit (.lit (.lit (.nil)))))))))) (.nil))) h (by kernel_rfl)
theorem Bd{G:PV->Prop}(l:Lin)(i:Int)(q:Nat)(ns:List Str)(h:if (decide (i<(↑(List.length (List.map enc l.t)):Int)))=true then(decide (0<=i)&&decide (Int.toNat i<List.length (List.map enc l.t))&&Enc.sz Coef==2)=true∧(∃ y0:Coef,AV.pv (PV.rptr (PV.cells (List.getD (List.map enc l.t) (Int.toNat i) default)))=AV.pv (PV.rptr (PV.cells ((enc) y0)))∧((List.length (List.map enc ns)==q&&q==q&&decide ((q+List.length (List.drop 0 (List.take 1 [Sh.co Sh.str (List.getD (List.drop 0 (PV.cells (enc y0))) 0 default)])))*16<=1099511627776)&&decide (q+List.length (List.drop 0 (List.take 1 [Sh.co Sh.str (List.getD (List.drop 0 (PV.cells (enc y0))) 0 default)]))<=1099511627776))=true∧(At Vw 0 (Za Wq G) Wn 0 22 [(1,(.ptr 0 0)),(3,(.row 1 (q+List.length (List.drop 0 (List.take 1 [Sh.co Sh.str (List.getD (List.drop 0 (PV.cells (enc y0))) 0 default)]))) 0 (q+List.length (List.drop 0 (List.take 1 [Sh.co Sh.str (List.getD (List.drop 0 (PV.cells (enc y0))) 0 default)]))))),(4,(.pv (.int .i64 (IntKind.wrap IntKind.i64 (i+1)))))] [(.obj (.box [(.pv (.int .i64 l.k)),(.pv (.sl 2 false (List.map enc l.t)))])),(.obj (.row false 9 1 (List.map enc ns++List.drop 0 (List.take 1 [Sh.co Sh.str (List.getD (List.drop 0 (PV.cells (enc y0))) 0 default)]))))])))else((List.length (List.map enc ns)==q)=true∧(G ((.sl 1 false (List.drop 0 (List.take q (List.map enc ns)))))))):At Vw 0 (Za Wq G) Wn 0 22 [(1,.ptr 0 0),(3,.row 1 q 0 q),(4,.pv (.int .i64 i))] [.obj (.box [.pv (.int .i64 l.k),.pv (enc l.t)]),.obj (.row false 9 1 (ns.map enc))]:=At.tp (.lit (.ask (.req (.abs (Coef) (fun YY=>AV.pv (PV.rptr (PV.cells ((enc) YY)))) (.lit (.lit (.lit (.req (.lit (.nil)))))))) (.req (.nil)))) h (by kernel_rfl)
def VU:IC:=(.seq (.reg [⟨(some 2),(.box 2 (.t 0)),0,none⟩,⟨(some 4),(.mv (.c (.int .i64 0))),1,none⟩] none) (.seq (.seq (.reg [⟨(some 5),(.mv (.c (.int .i64 0))),0,none⟩] none) (.block 0 (.loop [5,2,1] (.seq (.seq (.reg [⟨(some 6),(.mv (.t 5)),0,none⟩,⟨(some 7),(.faddr 1 (.t 2)),0,none⟩,⟨(some 8),(.load false [(.sl 2)] (.t 7)),0,none⟩,⟨(some 9),(.len 1 (.t 8)),0,none⟩,⟨(some 10),(.bin .num .lss (.t 6) (.t 9)),0,none⟩] none) (.cond (.t 10) .skip (.exit 0))) (.seq (.block 1 (.seq (.reg [⟨(some 13),(.faddr 1 (.t 2)),0,none⟩,⟨(some 14),(.load false [(.sl 2)] (.t 13)),0,none⟩,⟨(some 15),(.mv (.t 5)),0,none⟩,⟨(some 16),(.iaddr 2 (.t 14) (.t 15)),0,none⟩,⟨(some 17),(.faddr 0 (.t 16)),0,none⟩,⟨(some 18),(.load false [.str] (.t 17)),0,none⟩,⟨(some 19),(.mv (.t 1)),0,none⟩,⟨(some 20),(.bin .num .eql (.t 18) (.t 19)),0,none⟩] none) (.cond (.t 20) (.seq (.reg [⟨(some 21),(.faddr 1 (.t 2)),0,none⟩,⟨(some 22),(.load false [(.sl 2)] (.t 21)),0,none⟩,⟨(some 23),(.mv (.t 5)),0,none⟩,⟨(some 24),(.iaddr 2 (.t 22) (.t 23)),0,none⟩,⟨(some 25),(.faddr 1 (.t 24)),0,none⟩,⟨(some 26),(.load false [(.int .i64)] (.t 25)),0,none⟩,⟨(some 4),(.mv (.t 26)),0,none⟩] none) .ret) .skip))) (.reg [⟨(some 11),(.mv (.t 5)),0,none⟩,⟨(some 12),(.bin .num .add (.t 11) (.c (.int .i64 1))),0,none⟩,⟨(some 5),(.mv (.t 12)),0,none⟩] none)))))) (.seq (.reg [⟨(some 4),(.mv (.c (.int .i64 0))),0,none⟩] none) .ret)))
def VX:List IRes:=[(.tmp 4)]
abbrev a7h:Nat:=27
def UQ:ZG:=Xc []
theorem b0a{G:PV->Prop}(l:Lin)(s:List UInt8)(h:At UQ 0 (Za VX G) VU 0 27 [(1,(.pv (.str s))),(2,(.ptr 0 0)),(5,(.pv (.int .i64 0)))] [(.obj (.box [(.pv (.int .i64 l.k)),(.pv (.sl 2 false (List.map enc l.t)))]))]):Zc UQ 0 (Za VX G) VU [] (Ye 27 [enc l,.str s]):=Zc.tp (.nil) h (by kernel_rfl)
theorem Ra{G:PV->Prop}(l:Lin)(s:List UInt8)(i:Int)(h:if (decide (i<(↑(List.length (List.map enc l.t)):Int)))=true then(decide (0<=i)&&decide (Int.toNat i<List.length (List.map enc l.t))&&Enc.sz Coef==2)=true∧(∃ y0:Coef,AV.pv (PV.rptr (PV.cells (List.getD (List.map enc l.t) (Int.toNat i) default)))=AV.pv (PV.rptr (PV.cells ((enc) y0)))∧(if (PV.asStr (List.getD (List.drop 0 (PV.cells (enc y0))) 0 default)==s)=true then(decide (0<=i)&&decide (Int.toNat i<List.length (List.map enc l.t))&&Enc.sz Coef==2)=true∧(∃ y1:Coef,AV.pv (PV.rptr (PV.cells (List.getD (List.map enc l.t) (Int.toNat i) default)))=AV.pv (PV.rptr (PV.cells ((enc) y1)))∧(G ((.int .i64 (PV.asInt (List.getD (List.drop 1 (PV.cells (enc y1))) 0 default))))))else(At UQ 0 (Za VX G) VU 0 27 [(1,(.pv (.str s))),(2,(.ptr 0 0)),(5,(.pv (.int .i64 (IntKind.wrap IntKind.i64 (i+1)))))] [(.obj (.box [(.pv (.int .i64 l.k)),(.pv (.sl 2 false (List.map enc l.t)))]))])))else(G ((.int .i64 0)))):At UQ 0 (Za VX G) VU 0 27 [(1,.pv (.str s)),(2,.ptr 0 0),(5,.pv (.int .i64 i))] [.obj (.box [.pv (.int .i64 l.k),.pv (enc l.t)])]:=At.tp (.lit (.ask (.req (.abs (Coef) (fun YY=>AV.pv (PV.rptr (PV.cells ((enc) YY)))) (.lit (.lit (.ask (.req (.abs (Coef) (fun YY=>AV.pv (PV.rptr (PV.cells ((enc) YY)))) (.lit (.nil)))) (.lit (.nil))))))) (.nil))) h (by kernel_rfl)
def Y2:IC:=(.seq (.reg [⟨(some 2),(.mv (.c (.sl 0 true []))),0,none⟩] none) (.seq (.reg [⟨(some 3),(.alloc (.agg [(.int .i64 0),(.sl 0 true [])])),0,none⟩] none) (.seq (.seq (.reg [⟨(some 4),(.mv (.c (.int .i64 0))),0,none⟩] none) (.block 0 (.loop [4,0,3] (.seq (.seq (.reg [⟨(some 7),(.mv (.t 4)),0,none⟩,⟨(some 8),(.mv (.t 0)),0,none⟩,⟨(some 9),(.len 1 (.t 8)),0,none⟩,⟨(some 10),(.bin .num .lss (.t 7) (.t 9)),0,none⟩] none) (.cond (.t 10) .skip (.exit 0))) (.seq (.block 1 (.seq (.reg [⟨(some 5),(.mv (.c (.int .i64 0))),0,none⟩] none) (.block 2 (.loop [5,0,4,3] (.seq (.seq (.reg [⟨(some 13),(.mv (.t 5)),0,none⟩,⟨(some 14),(.mv (.t 0)),0,none⟩,⟨(some 15),(.mv (.t 4)),0,none⟩,⟨(some 16),(.iaddr 2 (.t 14) (.t 15)),0,none⟩,⟨(some 17),(.faddr 1 (.t 16)),0,none⟩,⟨(some 18),(.load false [(.sl 2)] (.t 17)),0,none⟩,⟨(some 19),(.len 1 (.t 18)),0,none⟩,⟨(some 20),(.bin .num .lss (.t 13) (.t 19)),0,none⟩] none) (.cond (.t 20) .skip (.exit 2))) (.seq (.block 3 (.seq (.reg [⟨(some 23),(.mv (.t 0)),0,none⟩,⟨(some 24),(.mv (.t 4)),0,none⟩,⟨(some 25),(.iaddr 2 (.t 23) (.t 24)),0,none⟩,⟨(some 26),(.faddr 1 (.t 25)),0,none⟩,⟨(some 27),(.load false [(.sl 2)] (.t 26)),0,none⟩,⟨(some 28),(.mv (.t 5)),0,none⟩,⟨(some 29),(.iaddr 2 (.t 27) (.t 28)),0,none⟩,⟨(some 30),(.faddr 0 (.t 29)),0,none⟩,⟨(some 31),(.load false [.str] (.t 30)),0,none⟩,⟨(some 6),(.mv (.t 31)),0,none⟩] none) (.seq (.reg [⟨(some 32),(.load true [(.int .i64),(.sl 2)] (.t 3)),0,none⟩,⟨(some 33),(.mv (.t 6)),0,none⟩,⟨(some 34),(.call (.c (.fn 240)) [(.t 32),(.t 33)]),0,none⟩,⟨(some 35),(.bin .num .eql (.t 34) (.c (.int .i64 0))),2,none⟩] none) (.cond (.t 35) (.reg [⟨(some 36),(.load true [(.int .i64),(.sl 2)] (.t 3)),0,none⟩,⟨(some 37),(.mv (.t 6)),0,none⟩,⟨(some 38),(.call (.c (.fn 89)) [(.t 36),(.t 37),(.c (.int .i64 1))]),0,none⟩,⟨none,(.store 2 (.t 3) (.t 38)),2,none⟩] none) .skip)))) (.reg [⟨(some 21),(.mv (.t 5)),0,none⟩,⟨(some 22),(.bin .num .add (.t 21) (.c (.int .i64 1))),0,none⟩,⟨(some 5),(.mv (.t 22)),0,none⟩] none))))))) (.reg [⟨(some 11),(.mv (.t 4)),0,none⟩,⟨(some 12),(.bin .num .add (.t 11) (.c (.int .i64 1))),0,none⟩,⟨(some 4),(.mv (.t 12)),0,none⟩] none)))))) (.seq (.reg [⟨(some 39),(.load true [(.int .i64),(.sl 2)] (.t 3)),0,none⟩,⟨(some 40),(.call (.c (.fn 241)) [(.t 39)]),0,none⟩,⟨(some 2),(.mv (.t 40)),2,none⟩] none) .ret))))
def Y3:List IRes:=[(.tmp 2)]
abbrev a5l:Nat:=41
def XA:ZG:=Xc [(240,.pure (preT (fun x:Lin×Str×Unit=>Zn x.1.t)) (Ze (fun x:Lin×Str×Unit=>Xp x.1.t x.2.1.s))),(89,.pure (preT (fun x:Lin×Str×Int×Unit=>decide (x.1.t.length<=1000000))) (Ze (fun x:Lin×Str×Int×Unit=>VD x.1 x.2.1 x.2.2.1))),(241,.pure (preT (fun x:Lin×Unit=>decide (x.1.t.length<=1000000))) (Ze (fun x:Lin×Unit=>Zd x.1)))]
theorem b4j{G:PV->Prop}(ls:List Lin)(h:At XA 0 (Za Y3 G) Y2 0 41 [(0,(.pv (.sl 2 false (List.map enc ls)))),(3,(.ptr 0 0)),(4,(.pv (.int .i64 0)))] [(.obj (.box [(.pv (.int .i64 0)),(.pv (.sl 0 true []))]))]):Zc XA 0 (Za Y3 G) Y2 [] (Ye 41 [enc ls]):=Zc.tp (.nil) h (by kernel_rfl)
theorem RH{G:PV->Prop}(ls:List Lin)(k:Int)(p:PV)(i:Int)(h:if (decide (i<(↑(List.length (List.map enc ls)):Int)))=true then At XA 0 (Za Y3 G) Y2 1 41 [(0,(.pv (.sl 2 false (List.map enc ls)))),(3,(.ptr 0 0)),(4,(.pv (.int .i64 i))),(5,(.pv (.int .i64 0)))] [(.obj (.box [(.pv (.int .i64 k)),(.pv p)]))]else((Go.Pl.preT (fun(x:Lin×Unit)=>decide (List.length x.1.t<=1000000)) [(.agg [(.int .i64 k),p])])=true∧(∃ y0:List Str,AV.pv (Ze (fun(x:Lin×Unit)=>Zd x.1) [(.agg [(.int .i64 k),p])])=AV.pv (enc y0)∧(G ((.sl 1 false (List.map enc y0))))))):At XA 0 (Za Y3 G) Y2 0 41 [(0,.pv (enc ls)),(3,.ptr 0 0),(4,.pv (.int .i64 i))] [.obj (.box [.pv (.int .i64 k),.pv p])]:=At.tp (.lit (.ask (.nil) (.req (.abs (List Str) (fun YY=>AV.pv (enc YY)) (.nil))))) h (by kernel_rfl)
theorem Tt{G:PV->Prop}(ls:List Lin)(k:Int)(p:PV)(i j:Int)(h:(decide (0<=i)&&decide (Int.toNat i<List.length (List.map enc ls))&&Enc.sz Lin==2)=true∧(∃ y0:Lin,AV.pv (PV.rptr (PV.cells (List.getD (List.map enc ls) (Int.toNat i) default)))=AV.pv (PV.rptr (PV.cells ((enc) y0)))∧(if (decide (j<(↑(List.length (PV.asXs (List.getD (List.drop 1 (PV.cells (enc y0))) 0 default))):Int)))=true then(decide (0<=i)&&decide (Int.toNat i<List.length (List.map enc ls))&&Enc.sz Lin==2)=true∧(∃ y1:Lin,AV.pv (PV.rptr (PV.cells (List.getD (List.map enc ls) (Int.toNat i) default)))=AV.pv (PV.rptr (PV.cells ((enc) y1)))∧((decide (0<=j)&&decide (Int.toNat j<List.length (PV.asXs (List.getD (List.drop 1 (PV.cells (enc y1))) 0 default)))&&2==2)=true∧((decide (0+List.length [Sh.str]<=List.length (List.drop 0 (PV.cells (List.getD (PV.asXs (List.getD (List.drop 1 (PV.cells (enc y1))) 0 default)) (Int.toNat j) default))))&&Y7 (List.drop 0 (PV.cells (List.getD (PV.asXs (List.getD (List.drop 1 (PV.cells (enc y1))) 0 default)) (Int.toNat j) default))) 0 [Sh.str])=true∧((Go.Pl.preT (fun(x:Lin×Str×Unit)=>Zn x.1.t) [(.agg [(.int .i64 k),p]),(.str (PV.asStr (List.getD (List.drop 0 (PV.cells (List.getD (PV.asXs (List.getD (List.drop 1 (PV.cells (enc y1))) 0 default)) (Int.toNat j) default))) 0 default)))])=true∧(∃ y2:Int,AV.pv (Ze (fun(x:Lin×Str×Unit)=>Xp x.1.t (Str.s x.2.1)) [(.agg [(.int .i64 k),p]),(.str (PV.asStr (List.getD (List.drop 0 (PV.cells (List.getD (PV.asXs (List.getD (List.drop 1 (PV.cells (enc y1))) 0 default)) (Int.toNat j) default))) 0 default)))])=AV.pv (enc y2)∧(if (y2==0)=true then(Go.Pl.preT (fun(x:Lin×Str×Int×Unit)=>decide (List.length x.1.t<=1000000)) [(.agg [(.int .i64 k),p]),(.str (PV.asStr (List.getD (List.drop 0 (PV.cells (List.getD (PV.asXs (List.getD (List.drop 1 (PV.cells (enc y1))) 0 default)) (Int.toNat j) default))) 0 default))),(.int .i64 1)])=true∧(∃ y3:Lin,AV.pv (Ze (fun(x:Lin×Str×Int×Unit)=>VD x.1 x.2.1 x.2.2.1) [(.agg [(.int .i64 k),p]),(.str (PV.asStr (List.getD (List.drop 0 (PV.cells (List.getD (PV.asXs (List.getD (List.drop 1 (PV.cells (enc y1))) 0 default)) (Int.toNat j) default))) 0 default))),(.int .i64 1)])=AV.pv (enc y3)∧(At XA 0 (Za Y3 G) Y2 1 41 [(0,(.pv (.sl 2 false (List.map enc ls)))),(3,(.ptr 0 0)),(4,(.pv (.int .i64 i))),(5,(.pv (.int .i64 (IntKind.wrap IntKind.i64 (j+1)))))] [(.obj (.box [(.pv (.int .i64 y3.k)),(.pv (.sl 2 false (List.map enc y3.t)))]))]))else(At XA 0 (Za Y3 G) Y2 1 41 [(0,(.pv (.sl 2 false (List.map enc ls)))),(3,(.ptr 0 0)),(4,(.pv (.int .i64 i))),(5,(.pv (.int .i64 (IntKind.wrap IntKind.i64 (j+1)))))] [(.obj (.box [(.pv (.int .i64 k)),(.pv p)]))])))))))else(At XA 0 (Za Y3 G) Y2 0 41 [(0,(.pv (.sl 2 false (List.map enc ls)))),(3,(.ptr 0 0)),(4,(.pv (.int .i64 (IntKind.wrap IntKind.i64 (i+1)))))] [(.obj (.box [(.pv (.int .i64 k)),(.pv p)]))])))):At XA 0 (Za Y3 G) Y2 1 41 [(0,.pv (enc ls)),(3,.ptr 0 0),(4,.pv (.int .i64 i)),(5,.pv (.int .i64 j))] [.obj (.box [.pv (.int .i64 k),.pv p])]:=At.tp (.req (.abs (Lin) (fun YY=>AV.pv (PV.rptr (PV.cells ((enc) YY)))) (.lit (.lit (.ask (.req (.abs (Lin) (fun YY=>AV.pv (PV.rptr (PV.cells ((enc) YY)))) (.lit (.req (.keep (.req (.req (.abs (Int) (fun YY=>AV.pv (enc YY)) (.lit (.ask (.req (.abs (Lin) (fun YY=>AV.pv (enc YY)) (.lit (.nil)))) (.lit (.nil)))))))))))) (.lit (.nil))))))) h (by kernel_rfl)
def V8:IC:=(.seq (.reg [⟨(some 2),(.box 2 (.t 0)),0,none⟩,⟨(some 4),(.mv (.c (.bool false))),1,none⟩] none) (.seq (.reg [⟨(some 5),(.mv (.c (.int .i64 1))),0,none⟩] none) (.seq (.seq (.reg [⟨(some 6),(.mv (.c (.int .i64 0))),0,none⟩] none) (.block 0 (.loop [6,2,5,1] (.seq (.seq (.reg [⟨(some 7),(.mv (.t 6)),0,none⟩,⟨(some 8),(.faddr 0 (.t 2)),0,none⟩,⟨(some 9),(.load false [(.sl 1)] (.t 8)),0,none⟩,⟨(some 10),(.len 1 (.t 9)),0,none⟩,⟨(some 11),(.bin .num .lss (.t 7) (.t 10)),0,none⟩,⟨(some 12),(.mv (.t 11)),0,none⟩,⟨(some 13),(.load true [(.sl 1),(.int .i64)] (.t 2)),0,(some (12,true))⟩,⟨(some 14),(.call (.c (.fn 51)) [(.t 13)]),0,(some (12,true))⟩,⟨(some 15),(.pick (.t 12) (.t 14) (.c (.bool false))),2,none⟩] none) (.cond (.t 15) .skip (.exit 0))) (.seq (.block 1 (.reg [⟨(some 18),(.mv (.t 5)),0,none⟩,⟨(some 19),(.faddr 1 (.t 2)),0,none⟩,⟨(some 20),(.load false [(.int .i64)] (.t 19)),0,none⟩,⟨(some 21),(.bin .num .add (.t 20) (.c (.int .i64 1))),0,none⟩,⟨(some 22),(.bin .num .mul (.t 18) (.t 21)),0,none⟩,⟨(some 5),(.mv (.t 22)),0,none⟩] none)) (.reg [⟨(some 16),(.mv (.t 6)),0,none⟩,⟨(some 17),(.bin .num .add (.t 16) (.c (.int .i64 1))),0,none⟩,⟨(some 6),(.mv (.t 17)),0,none⟩] none)))))) (.seq (.reg [⟨(some 23),(.faddr 0 (.t 2)),0,none⟩,⟨(some 24),(.load false [(.sl 1)] (.t 23)),0,none⟩,⟨(some 25),(.len 1 (.t 24)),0,none⟩,⟨(some 26),(.bin .num .leq (.t 25) (.c (.int .i64 5))),0,none⟩,⟨(some 27),(.mv (.t 26)),0,none⟩,⟨(some 28),(.mv (.t 5)),0,(some (27,true))⟩,⟨(some 29),(.bin .num .leq (.t 28) (.c (.int .i64 300))),0,(some (27,true))⟩,⟨(some 30),(.pick (.t 27) (.t 29) (.c (.bool false))),0,none⟩,⟨(some 31),(.mv (.t 30)),0,none⟩,⟨(some 32),(.mv (.t 1)),0,(some (31,true))⟩,⟨(some 33),(.len 1 (.t 32)),0,(some (31,true))⟩,⟨(some 34),(.bin .num .leq (.t 33) (.c (.int .i64 6))),0,(some (31,true))⟩,⟨(some 35),(.pick (.t 31) (.t 34) (.c (.bool false))),0,none⟩,⟨(some 36),(.mv (.t 35)),0,none⟩,⟨(some 37),(.mv (.t 1)),0,(some (36,true))⟩,⟨(some 38),(.call (.c (.fn 31)) [(.t 37),(.c (.int .i64 6))]),0,(some (36,true))⟩,⟨(some 39),(.pick (.t 36) (.t 38) (.c (.bool false))),2,none⟩,⟨(some 4),(.mv (.t 39)),2,none⟩] none) .ret))))
def Wi:List IRes:=[(.tmp 4)]
abbrev a8h:Nat:=40
def Vy:ZG:=Xc [(51,.pure (preT (fun x:BoxT×Unit=>ZC x.1)) (Ze (fun x:BoxT×Unit=>YI x.1))),(31,.pure (preT (fun x:List Fact×Int×Unit=>YZ x.1)) (Ze (fun x:List Fact×Int×Unit=>Ck x.1 x.2.1)))]
theorem a9v{G:PV->Prop}(b:BoxT)(fs:List Fact)(h:At Vy 0 (Za Wi G) V8 0 40 [(1,(.pv (.sl 3 false (List.map enc fs)))),(2,(.ptr 0 0)),(5,(.pv (.int .i64 1))),(6,(.pv (.int .i64 0)))] [(.obj (.box [(.pv (.sl 1 false (List.map enc b.v))),(.pv (.int .i64 b.m))]))]):Zc Vy 0 (Za Wi G) V8 [] (Ye 40 [enc b,enc fs]):=Zc.tp (.nil) h (by kernel_rfl)
theorem Jg{G:PV->Prop}(b:BoxT)(fs:List Fact)(n i:Int)(h:if (decide (i<(↑(List.length (List.map enc b.v)):Int)))=true then(Go.Pl.preT (fun(x:BoxT×Unit)=>ZC x.1) [(.agg [(.sl 1 false (List.map enc b.v)),(.int .i64 b.m)])])=true∧(∃ y0:Bool,AV.pv (Ze (fun(x:BoxT×Unit)=>YI x.1) [(.agg [(.sl 1 false (List.map enc b.v)),(.int .i64 b.m)])])=AV.pv (enc y0)∧(if (y0)=true then At Vy 0 (Za Wi G) V8 0 40 [(1,(.pv (.sl 3 false (List.map enc fs)))),(2,(.ptr 0 0)),(5,(.pv (.int .i64 (IntKind.wrap IntKind.i64 (n*IntKind.wrap IntKind.i64 (BoxT.m b+1)))))),(6,(.pv (.int .i64 (IntKind.wrap IntKind.i64 (i+1)))))] [(.obj (.box [(.pv (.sl 1 false (List.map enc b.v))),(.pv (.int .i64 b.m))]))]else(if (decide ((↑(List.length (List.map enc b.v)):Int)<=5))=true then if (decide (n<=300))=true then if (decide ((↑(List.length (List.map enc fs)):Int)<=6))=true then(Go.Pl.preT (fun(x:List Fact×Int×Unit)=>YZ x.1) [(.sl 3 false (List.map enc fs)),(.int .i64 6)])=true∧(∃ y1:Bool,AV.pv (Ze (fun(x:List Fact×Int×Unit)=>Ck x.1 x.2.1) [(.sl 3 false (List.map enc fs)),(.int .i64 6)])=AV.pv (enc y1)∧(G ((.bool y1))))else(G ((.bool false)))else(G ((.bool false)))else(G ((.bool false))))))else(if (decide ((↑(List.length (List.map enc b.v)):Int)<=5))=true then if (decide (n<=300))=true then if (decide ((↑(List.length (List.map enc fs)):Int)<=6))=true then(Go.Pl.preT (fun(x:List Fact×Int×Unit)=>YZ x.1) [(.sl 3 false (List.map enc fs)),(.int .i64 6)])=true∧(∃ y2:Bool,AV.pv (Ze (fun(x:List Fact×Int×Unit)=>Ck x.1 x.2.1) [(.sl 3 false (List.map enc fs)),(.int .i64 6)])=AV.pv (enc y2)∧(G ((.bool y2))))else(G ((.bool false)))else(G ((.bool false)))else(G ((.bool false))))):At Vy 0 (Za Wi G) V8 0 40 [(1,.pv (enc fs)),(2,.ptr 0 0),(5,.pv (.int .i64 n)),(6,.pv (.int .i64 i))] [.obj (.box [.pv (enc b.v),.pv (.int .i64 b.m)])]:=At.tp (.lit (.ask (.lit (.req (.abs (Bool) (fun YY=>AV.pv (enc YY)) (.lit (.ask (.lit (.lit (.lit (.nil)))) (.lit (.ask (.lit (.lit (.lit (.ask (.lit (.lit (.lit (.lit (.ask (.lit (.req (.abs (Bool) (fun YY=>AV.pv (enc YY)) (.lit (.nil))))) (.lit (.lit (.nil)))))))) (.lit (.lit (.lit (.lit (.lit (.lit (.nil))))))))))) (.lit (.lit (.lit (.lit (.lit (.lit (.lit (.lit (.lit (.nil))))))))))))))))) (.lit (.lit (.lit (.lit (.ask (.lit (.lit (.lit (.ask (.lit (.lit (.lit (.lit (.ask (.lit (.req (.abs (Bool) (fun YY=>AV.pv (enc YY)) (.lit (.nil))))) (.lit (.lit (.nil)))))))) (.lit (.lit (.lit (.lit (.lit (.lit (.nil))))))))))) (.lit (.lit (.lit (.lit (.lit (.lit (.lit (.lit (.lit (.nil))))))))))))))))) h (by kernel_rfl)
def VW:IC:=(.seq (.reg [⟨(some 4),(.mv (.c (.bool false))),0,none⟩] none) (.seq (.seq (.reg [⟨(some 6),(.mv (.t 0)),0,none⟩,⟨(some 7),(.len 1 (.t 6)),0,none⟩,⟨(some 8),(.mv (.t 1)),0,none⟩,⟨(some 9),(.len 1 (.t 8)),0,none⟩,⟨(some 10),(.bin .num .neq (.t 7) (.t 9)),0,none⟩] none) (.cond (.t 10) (.seq (.reg [⟨(some 4),(.mv (.c (.bool false))),0,none⟩] none) .ret) .skip)) (.seq (.seq (.reg [⟨(some 5),(.mv (.c (.int .i64 0))),0,none⟩] none) (.block 0 (.loop [5,0,1] (.seq (.seq (.reg [⟨(some 11),(.mv (.t 5)),0,none⟩,⟨(some 12),(.mv (.t 0)),0,none⟩,⟨(some 13),(.len 1 (.t 12)),0,none⟩,⟨(some 14),(.bin .num .lss (.t 11) (.t 13)),0,none⟩] none) (.cond (.t 14) .skip (.exit 0))) (.seq (.block 1 (.seq (.reg [⟨(some 17),(.mv (.t 0)),0,none⟩,⟨(some 18),(.mv (.t 5)),0,none⟩,⟨(some 19),(.iaddr 1 (.t 17) (.t 18)),0,none⟩,⟨(some 20),(.load false [(.int .i64)] (.t 19)),0,none⟩,⟨(some 21),(.mv (.t 1)),0,none⟩,⟨(some 22),(.mv (.t 5)),0,none⟩,⟨(some 23),(.iaddr 1 (.t 21) (.t 22)),0,none⟩,⟨(some 24),(.load false [(.int .i64)] (.t 23)),0,none⟩,⟨(some 25),(.bin .num .neq (.t 20) (.t 24)),0,none⟩] (some [[],[],[0,1],[2,0,1],[],[],[4,5],[6,4,5],[3,7,2,0,1,6,4,5]])) (.cond (.t 25) (.seq (.reg [⟨(some 4),(.mv (.c (.bool false))),0,none⟩] none) .ret) .skip))) (.reg [⟨(some 15),(.mv (.t 5)),0,none⟩,⟨(some 16),(.bin .num .add (.t 15) (.c (.int .i64 1))),0,none⟩,⟨(some 5),(.mv (.t 16)),0,none⟩] none)))))) (.seq (.reg [⟨(some 4),(.mv (.c (.bool true))),0,none⟩] none) .ret))))
def VV:List IRes:=[(.tmp 4)]
abbrev a4s:Nat:=26
def U3:ZG:=Xc []
theorem b5f{G:PV->Prop}(a b:List Int)(h:if ((↑(List.length (List.map enc a)):Int) != (↑(List.length (List.map enc b)):Int))=true then G ((.bool false))else(At U3 0 (Za VV G) VW 0 26 [(0,(.pv (.sl 1 false (List.map enc a)))),(1,(.pv (.sl 1 false (List.map enc b)))),(5,(.pv (.int .i64 0)))] [])):Zc U3 0 (Za VV G) VW [] (Ye 26 [enc a,enc b]):=Zc.tp (.lit (.ask (.nil) (.nil))) h (by kernel_rfl)
theorem Tv{G:PV->Prop}(a b:List Int)(i:Int)(h:if (decide (i<(↑(List.length (List.map enc a)):Int)))=true then(decide (0<=i)&&decide (Int.toNat i<List.length (List.map enc a))&&Enc.sz Int==1)=true∧(∃ y0:Int,AV.pv (PV.rptr (PV.cells (List.getD (List.map enc a) (Int.toNat i) default)))=AV.pv (PV.rptr (PV.cells ((enc) y0)))∧((decide (0<=i)&&decide (Int.toNat i<List.length (List.map enc b))&&Enc.sz Int==1)=true∧(∃ y1:Int,AV.pv (PV.rptr (PV.cells (List.getD (List.map enc b) (Int.toNat i) default)))=AV.pv (PV.rptr (PV.cells ((enc) y1)))∧(if (PV.asInt (List.getD (PV.cells (enc y0)) 0 default) != PV.asInt (List.getD (PV.cells (enc y1)) 0 default))=true then G ((.bool false))else(At U3 0 (Za VV G) VW 0 26 [(0,(.pv (.sl 1 false (List.map enc a)))),(1,(.pv (.sl 1 false (List.map enc b)))),(5,(.pv (.int .i64 (IntKind.wrap IntKind.i64 (i+1)))))] [])))))else(G ((.bool true)))):At U3 0 (Za VV G) VW 0 26 [(0,.pv (enc a)),(1,.pv (enc b)),(5,.pv (.int .i64 i))] []:=At.tp (.lit (.ask (.req (.abs (Int) (fun YY=>AV.pv (PV.rptr (PV.cells ((enc) YY)))) (.lit (.req (.abs (Int) (fun YY=>AV.pv (PV.rptr (PV.cells ((enc) YY)))) (.lit (.lit (.ask (.nil) (.lit (.nil)))))))))) (.nil))) h (by kernel_rfl)
def WU:IC:=(.seq (.reg [⟨(some 4),(.mv (.c (.bool false))),0,none⟩] none) (.seq (.seq (.reg [⟨(some 6),(.mv (.t 0)),0,none⟩,⟨(some 7),(.len 1 (.t 6)),0,none⟩,⟨(some 8),(.mv (.t 1)),0,none⟩,⟨(some 9),(.len 1 (.t 8)),0,none⟩,⟨(some 10),(.bin .num .neq (.t 7) (.t 9)),0,none⟩] none) (.cond (.t 10) (.seq (.reg [⟨(some 4),(.mv (.c (.bool false))),0,none⟩] none) .ret) .skip)) (.seq (.seq (.reg [⟨(some 5),(.mv (.c (.int .i64 0))),0,none⟩] none) (.block 0 (.loop [5,0,1] (.seq (.seq (.reg [⟨(some 11),(.mv (.t 5)),0,none⟩,⟨(some 12),(.mv (.t 0)),0,none⟩,⟨(some 13),(.len 1 (.t 12)),0,none⟩,⟨(some 14),(.bin .num .lss (.t 11) (.t 13)),0,none⟩] none) (.cond (.t 14) .skip (.exit 0))) (.seq (.block 1 (.seq (.reg [⟨(some 17),(.mv (.t 0)),0,none⟩,⟨(some 18),(.mv (.t 5)),0,none⟩,⟨(some 19),(.iaddr 1 (.t 17) (.t 18)),0,none⟩,⟨(some 20),(.load false [(.sl 1)] (.t 19)),0,none⟩,⟨(some 21),(.mv (.t 1)),0,none⟩,⟨(some 22),(.mv (.t 5)),0,none⟩,⟨(some 23),(.iaddr 1 (.t 21) (.t 22)),0,none⟩,⟨(some 24),(.load false [(.sl 1)] (.t 23)),0,none⟩,⟨(some 25),(.call (.c (.fn 54)) [(.t 20),(.t 24)]),0,none⟩,⟨(some 26),(.un .not (.t 25)),2,none⟩] (some [[],[],[0,1],[2,0,1],[],[],[4,5],[6,4,5],[3,7,2,0,1,6,4,5],[8,3,7,2,0,1,6,4,5]])) (.cond (.t 26) (.seq (.reg [⟨(some 4),(.mv (.c (.bool false))),0,none⟩] none) .ret) .skip))) (.reg [⟨(some 15),(.mv (.t 5)),0,none⟩,⟨(some 16),(.bin .num .add (.t 15) (.c (.int .i64 1))),0,none⟩,⟨(some 5),(.mv (.t 16)),0,none⟩] none)))))) (.seq (.reg [⟨(some 4),(.mv (.c (.bool true))),0,none⟩] none) .ret))))
def WW:List IRes:=[(.tmp 4)]
abbrev EH:Nat:=27
def VO:ZG:=Xc [(54,.pure (preT (fun x:List Int×List Int×Unit=>Zn x.1)) (Ze (fun x:List Int×List Int×Unit=>decide (x.1=x.2.1))))]
theorem a4r{G:PV->Prop}(a b:List (List Int))(h:if ((↑(List.length (List.map enc a)):Int) != (↑(List.length (List.map enc b)):Int))=true then G ((.bool false))else(At VO 0 (Za WW G) WU 0 27 [(0,(.pv (.sl 1 false (List.map enc a)))),(1,(.pv (.sl 1 false (List.map enc b)))),(5,(.pv (.int .i64 0)))] [])):Zc VO 0 (Za WW G) WU [] (Ye 27 [enc a,enc b]):=Zc.tp (.lit (.ask (.nil) (.nil))) h (by kernel_rfl)
theorem BP{G:PV->Prop}(a b:List (List Int))(i:Int)(h:if (decide (i<(↑(List.length (List.map enc a)):Int)))=true then(decide (0<=i)&&decide (Int.toNat i<List.length (List.map enc a))&&Enc.sz (List Int)==1)=true∧(∃ y0:List Int,AV.pv (PV.rptr (PV.cells (List.getD (List.map enc a) (Int.toNat i) default)))=AV.pv (PV.rptr (PV.cells ((enc) y0)))∧((decide (0<=i)&&decide (Int.toNat i<List.length (List.map enc b))&&Enc.sz (List Int)==1)=true∧(∃ y1:List Int,AV.pv (PV.rptr (PV.cells (List.getD (List.map enc b) (Int.toNat i) default)))=AV.pv (PV.rptr (PV.cells ((enc) y1)))∧((Go.Pl.preT (fun(x:List Int×List Int×Unit)=>Zn x.1) [(.sl 1 false (PV.asXs (List.getD (PV.cells (enc y0)) 0 default))),(.sl 1 false (PV.asXs (List.getD (PV.cells (enc y1)) 0 default)))])=true∧(∃ y2:Bool,AV.pv (Ze (fun(x:List Int×List Int×Unit)=>decide (x.1=x.2.1)) [(.sl 1 false (PV.asXs (List.getD (PV.cells (enc y0)) 0 default))),(.sl 1 false (PV.asXs (List.getD (PV.cells (enc y1)) 0 default)))])=AV.pv (enc y2)∧(if (!y2)=true then G ((.bool false))else(At VO 0 (Za WW G) WU 0 27 [(0,(.pv (.sl 1 false (List.map enc a)))),(1,(.pv (.sl 1 false (List.map enc b)))),(5,(.pv (.int .i64 (IntKind.wrap IntKind.i64 (i+1)))))] [])))))))else(G ((.bool true)))):At VO 0 (Za WW G) WU 0 27 [(0,.pv (enc a)),(1,.pv (enc b)),(5,.pv (.int .i64 i))] []:=At.tp (.lit (.ask (.req (.abs (List Int) (fun YY=>AV.pv (PV.rptr (PV.cells ((enc) YY)))) (.lit (.req (.abs (List Int) (fun YY=>AV.pv (PV.rptr (PV.cells ((enc) YY)))) (.lit (.req (.abs (Bool) (fun YY=>AV.pv (enc YY)) (.ask (.nil) (.lit (.nil))))))))))) (.nil))) h (by kernel_rfl)
end Go.Pl

namespace Go.Pl
open Go.RowKit
open Enc (enc dec is)
open EncL (encL decL isL)
def gwL(m:Int):List Str->List Str->Int->Bool
 | _,[],n=>decide (m ≥ 0)&&decide (n<=20000)
 | seen,s::r,n=>ZF s&& !decide (m ≥ 20000)&& !seen.contains s&&gwL m (seen++[s]) r (if n<=20000 then DY (n*DY (m+1))else n)
theorem a2j{m:Int}(hm:m<0): ∀ (r seen:List Str) (n:Int),gwL m seen r n=false
 | [],seen,n=>by rw[gwL,decide_eq_false (by omega)];rfl
 | s::r,seen,n=>by rw[gwL,a2j hm r];simp
theorem c1m{m:Int}(hm:m<0): ∀ (r seen:List Str) (n:Int),gvL m seen r n=false
 | [],seen,n=>by rw[gvL,decide_eq_false (by omega)]
 | s::r,seen,n=>by rw[gvL,decide_eq_true hm];simp
theorem a1l(m:Int): ∀ (r seen:List Str) (n:Int),20000<n->gwL m seen r n=false
 | [],seen,n,h=>by rw[gwL,decide_eq_false (show ¬ n<=20000 by omega),Bool.and_false]
 | s::r,seen,n,h=>by rw[gwL,if_neg (by omega),a1l m r _ n h];simp
theorem a1e(m:Int): ∀ (r seen:List Str) (n:Int),1<=n->n<=20000->gwL m seen r n=gvL m seen r n
 | [],seen,n,h1,h2=>by rw[gwL,gvL,decide_eq_true h2,Bool.and_true]
 | s::r,seen,n,h1,h2=>by
  by_cases hm:m<0
  ·rw[a2j hm,c1m hm]
  ·rw[gwL,gvL,if_pos h2,decide_eq_false hm]
   by_cases hb:m ≥ 20000
   ·rw[decide_eq_true hb];simp
   ·have q1:m+1<=20000:=by omega
    have q2:1<=m+1:=by omega
    have hm2:n*(m+1)<=20000*20000:=Int.le_trans (Int.mul_le_mul_of_nonneg_left q1 (by omega)) (Int.mul_le_mul_of_nonneg_right h2 (by omega))
    have hm1:1<=n*(m+1):=by
     have:=Int.mul_le_mul h1 q2 (by omega) (by omega)
     omega
    rw[XJ (n:=m+1) (by omega) (by omega),XJ (n:=n*(m+1)) (by omega) (by omega),decide_eq_false hb]
    by_cases hn:n*(m+1)>20000
    ·rw[decide_eq_true hn,a1l _ _ _ _ hn];simp
    ·rw[decide_eq_false hn,a1e m r _ _ hm1 (by omega)]
     cases ZF s <;> cases seen.contains s <;> rfl
theorem c5d(b:BoxT)(R:Bool)(n:Int){i:Nat}(hi:i<b.v.length)(hl:b.v.length<=9223372036854775807)(hyes:(b.v.take i).contains b.v[i]=true->R=false)
  (hno:(b.v.take i).contains b.v[i]=false->At QV 0 (Za V4 (Zg R)) VQ 0 55 [(1,.ptr 0 0),(3,.pv (.int .i64 (if n<=20000 then DY (n*DY (b.m+1))else n))),(4,.pv (.int .i64 ((i+1:Nat):Int)))] [.obj (.box [.pv (enc b.v),.pv (.int .i64 b.m)])]) :
  ∀ (d k:Nat),d+k=i->(∀ j (h:j<b.v.length),j<k->b.v[j]≠b.v[i]) ->
  At QV 0 (Za V4 (Zg R)) VQ 1 55 [(1,.ptr 0 0),(3,.pv (.int .i64 n)),(4,.pv (.int .i64 i)),(5,.pv (.int .i64 k))] [.obj (.box [.pv (enc b.v),.pv (.int .i64 b.m)])]:=by
 intro d
 induction d with
 | zero=>
  intro k hk hne
  obtain rfl:k=i:=by omega
  have hc:(b.v.take k).contains b.v[k]=false:=by
   rw[<- Bool.not_eq_true,List.contains_iff_mem]
   intro hm
   obtain⟨j,hj,e⟩:=List.getElem_of_mem hm
   rw[List.length_take]at hj
   rw[List.getElem_take]at e
   exact hne j (by omega) (by omega) e
  have:=hno hc
  refine b1s b n k k (ZK (Z4 (by omega)) (WJ (fun h=> ?_) fun h=> ?_))
  ·rw[if_pos h]at this
   rw[next (by omega)]
   exact this
  ·rw[if_neg h]at this
   rw[next (by omega)]
   exact this
 | succ d ih=>
  intro k hk hne
  have hkl:k<b.v.length:=by omega
  refine b1s b n i k (ZE (ZX (by omega)) ⟨Zt hkl rfl,Zx hkl ⟨Zt hi rfl,Zx hi (Q7 (fun h=> ?_) fun h=> ?_)⟩⟩)
  ·have e:b.v[k]=b.v[i]:=by
    have h:b.v[k].s=b.v[i].s:=h
    cases hx:b.v[k];cases hy:b.v[i]
    rw[hx,hy]at h
    exact congrArg Str.mk h
   refine ZM (hyes ?_).symm
   rw[List.contains_iff_mem,<- e,List.mem_take_iff_getElem]
   exact⟨k,by omega,rfl⟩
  ·rw[next (by omega)]
   refine ih (k+1) (by omega) fun j hj hjk=> ?_
   by_cases e:j=k
   ·subst e
    intro e2
    exact h (congrArg Str.s e2)
   ·exact hne j hj (by omega)
theorem b3a(b:BoxT)(hl:b.v.length<=9223372036854775807): ∀ (d i:Nat) (n:Int),d+i=b.v.length ->
  At QV 0 (Za V4 (Zg (gwL b.m (b.v.take i) (b.v.drop i) n))) VQ 0 55 [(1,.ptr 0 0),(3,.pv (.int .i64 n)),(4,.pv (.int .i64 i))] [.obj (.box [.pv (enc b.v),.pv (.int .i64 b.m)])]:=by
 intro d
 induction d with
 | zero=>
  intro i n hi
  rw[List.drop_of_length_le (by omega)]
  refine b4t b n i (ZK (Xt (by omega)) ?_)
  rw[gwL]
  refine WJ (fun h=> ?_) fun h=> ?_
  ·rw[decide_eq_true h];exact ZM rfl
  ·rw[decide_eq_false h];exact ZM rfl
 | succ d ih=>
  intro i n hi
  have hlt:i<b.v.length:=by omega
  have hd:b.v.drop i=b.v[i]::b.v.drop (i+1):=List.drop_eq_getElem_cons hlt
  have ht:b.v.take (i+1)=b.v.take i++[b.v[i]]:=List.take_succ_eq_append_getElem hlt
  rw[hd,gwL]
  refine b4t b n i (ZE (YR hlt) ⟨Zt hlt rfl,Zx hlt (Zh (b.v[i],()) rfl (X8 (fun h=> ?_) fun h=>WJ (fun h2=> ?_) fun h2=> ?_))⟩)
  ·have h:ZF b.v[i]=false:=h
   rw[h];exact ZM rfl
  ·rw[decide_eq_true h2];simp only[Bool.not_true,Bool.and_false,Bool.false_and];exact ZM rfl
  ·have h:ZF b.v[i]=true:=h
   rw[decide_eq_false h2,h]
   simp only[Bool.not_false,Bool.true_and,Bool.and_true]
   refine c5d b _ n hlt hl (fun hc=>by rw[hc];rfl) (fun hc=> ?_) i 0 (by omega) (fun j _ hj=>by omega)
   rw[hc,Bool.not_false,Bool.true_and,<- ht]
   exact ih (i+1) _ (by omega)
theorem b8r: ∀ a:BoxT×Unit,ZC a.1=true->Zc QV 0 (Za V4 (Zg (YI a.1))) VQ [] (Ye c5b (encL a)):=by
 rintro⟨b,⟨⟩⟩ h
 simp only[ZC,WF,Bool.and_eq_true]at h
 rw[<- a2i,<- a1e b.m b.v [] 1 (by decide) (by decide)]
 exact c9m b (b3a b (Zy.1 h.1) b.v.length 0 1 (by omega))
theorem M3(b:BoxT)(p:List Int)(hb:b.v.length<=1000)(hp:p.length<=9223372036854775807): ∀ (k i:Nat),k+i=min b.v.length p.length->1<=i ->
  At YF 0 (Za Ym (Zg (Zf b.v p))) Yl 0 34 [(1,.pv (enc p)),(2,.ptr 0 0),(5,.row 1 i 0 i),(6,.pv (.int .i64 i))] [.obj (.box [.pv (enc b.v),.pv (.int .i64 b.m)]),.obj (.row false 63 2 ((Zf (b.v.take i) (p.take i)).map enc))]:=by
 intro k
 induction k with
 | zero=>
  intro i hi h1
  have hl:=Um b.v p (i:=i) (by omega) (by omega)
  have fin:Zg (Zf b.v p) (PV.sl 2 false (List.drop 0 (List.take i (List.map enc (Zf (b.v.take i) (p.take i)))))):=by
   rw[List.drop_zero,List.take_of_length_le (by rw[List.length_map,hl];exact Nat.le_refl _),H6 b.v p (by omega)]
   exact ZQ (x:=Zf b.v p) rfl
  by_cases hbl:i<b.v.length
  ·exact JP b p i i (Zf (b.v.take i) (p.take i)) (ZE (YR hbl) (ZK (Xt (by omega)) ⟨by simp[hl],fin⟩))
  ·exact JP b p i i (Zf (b.v.take i) (p.take i)) (ZK (Xt hbl) ⟨by simp[hl],fin⟩)
 | succ k ih=>
  intro i hi h1
  have hl:=Um b.v p (i:=i) (by omega) (by omega)
  have hlt:i<b.v.length:=by omega
  have hlt2:i<p.length:=by omega
  refine JP b p i i (Zf (b.v.take i) (p.take i)) (ZE (YR hlt) (ZE (YR hlt2) ⟨Zt hlt rfl,Zx hlt ⟨Zt hlt2 rfl,Zx hlt2 ⟨?_,?_⟩⟩⟩))
  ·rw[List.length_map,hl]
   show((i==i)&&(i==i)&&decide ((i+1)*24<=1099511627776)&&decide (i+1<=1099511627776))=true
   rw[decide_eq_true (by omega),decide_eq_true (by omega)];simp
  ·have:=ih (i+1) (by omega) (by omega)
   rw[Vh b.v p hlt hlt2,List.map_append,<- next (by omega)]at this
   exact this
theorem a0g: ∀ a:BoxT×List Int×Unit,(decide (a.1.v.length<=1000)&&Zn a.2.1)=true->Zc YF 0 (Za Ym (Zg (Zf a.1.v a.2.1))) Yl [] (Ye TS (encL a)):=by
 rintro⟨b,p,⟨⟩⟩ h
 simp only[Bool.and_eq_true,decide_eq_true_eq]at h
 obtain⟨h1,h2⟩:=h
 refine a9m b p ?_
 have hl2:=Zy.1 h2
 by_cases h0:min b.v.length p.length=0
 ·have:Zf b.v p=[]:=by
   rw[<- List.length_eq_zero_iff];unfold Zf;rw[List.length_zipWith];exact h0
  rw[this]
  by_cases hbl:0<b.v.length
  ·exact J5 b p ((0:Nat):Int) (ZE (YR hbl) (ZK (Xt (by omega)) ⟨rfl,rfl⟩))
  ·exact J5 b p ((0:Nat):Int) (ZK (Xt hbl) ⟨rfl,rfl⟩)
 ·have hlt:0<b.v.length:=by omega
  have hlt2:0<p.length:=by omega
  refine J5 b p ((0:Nat):Int) (ZE (YR hlt) (ZE (YR hlt2) ⟨Zt hlt rfl,Zx hlt ⟨Zt hlt2 rfl,Zx hlt2 ?_⟩⟩))
  have:=M3 b p h1 hl2 (min b.v.length p.length - 1) 1 (by omega) (by omega)
  rw[show(1:Nat)=0+1 from rfl,Vh b.v p hlt hlt2]at this
  exact this
theorem a3r(b:BoxT)(ns:List Str)(R:Bool){i:Nat}(hi:i<ns.length)(hl:b.v.length<=9223372036854775807)(hn:ns.length<=9223372036854775807)(hyes:b.v.contains ns[i]=false->R=false)
  (hno:b.v.contains ns[i]=true->At XB 0 (Za Y1 (Zg R)) Y4 0 36 [(1,.pv (enc ns)),(2,.ptr 0 0),(5,.pv (.int .i64 ((i+1:Nat):Int)))] [.obj (.box [.pv (enc b.v),.pv (.int .i64 b.m)])]) :
  ∀ (d k:Nat),d+k=b.v.length->At XB 0 (Za Y1 (Zg R)) Y4 1 36 [(1,.pv (enc ns)),(2,.ptr 0 0),(5,.pv (.int .i64 i)),(6,.pv (.bool ((b.v.take k).contains ns[i]))),(7,.pv (.int .i64 k))] [.obj (.box [.pv (enc b.v),.pv (.int .i64 b.m)])]:=by
 intro d
 induction d with
 | zero=>
  intro k hk
  obtain rfl:k=b.v.length:=by omega
  rw[List.take_length]
  refine RA b ns i b.v.length _ (ZK (Xt (by omega)) (X8 (fun h=>ZM (hyes h).symm) fun h=> ?_))
  rw[next (by omega)]
  exact hno h
 | succ d ih=>
  intro k hk
  have hkl:k<b.v.length:=by omega
  have h1:=ih (k+1) (by omega)
  have ht:(b.v.take (k+1)).contains ns[i]=((b.v.take k).contains ns[i]||(b.v[k].s==ns[i].s)):=by
   rw[List.take_succ_eq_append_getElem hkl]
   have e:((b.v[k].s==ns[i].s):Bool)=(b.v[k]==ns[i]):=by
    rw[Bool.eq_iff_iff]
    simp only[beq_iff_eq]
    constructor
    ·intro h
     cases hx:b.v[k];cases hy:ns[i]
     rw[hx,hy]at h
     exact congrArg Str.mk h
    ·intro h;rw[h]
   rw[e]
   rw[Bool.eq_iff_iff]
   simp only[List.contains_iff_mem,List.mem_append,List.mem_singleton,Bool.or_eq_true,beq_iff_eq]
   exact⟨fun h=>h.imp_right Eq.symm,fun h=>h.imp_right Eq.symm⟩
  refine RA b ns i k _ (ZE (YR hkl) (X0 (fun h=> ?_) fun h=>⟨Zt hkl rfl,Zx hkl ⟨Zt hi rfl,Zx hi ?_⟩⟩))
  ·rw[ht,h,Bool.true_or]at h1
   rw[next (by omega)]
   exact h1
  ·rw[ht,h,Bool.false_or]at h1
   rw[next (by omega)]
   exact h1
theorem Lj(b:BoxT)(ns:List Str)(hl:b.v.length<=9223372036854775807)(hn:ns.length<=9223372036854775807): ∀ (d i:Nat),d+i=ns.length ->
  At XB 0 (Za Y1 (Zg (YG b.v (ns.drop i)))) Y4 0 36 [(1,.pv (enc ns)),(2,.ptr 0 0),(5,.pv (.int .i64 i))] [.obj (.box [.pv (enc b.v),.pv (.int .i64 b.m)])]:=by
 intro d
 induction d with
 | zero=>
  intro i hi
  rw[List.drop_of_length_le (by omega)]
  exact Tu b ns i (ZK (Xt (by omega)) (ZM rfl))
 | succ d ih=>
  intro i hi
  have hlt:i<ns.length:=by omega
  have hd:ns.drop i=ns[i]::ns.drop (i+1):=List.drop_eq_getElem_cons hlt
  have e:YG b.v (ns.drop i)=(b.v.contains ns[i]&&YG b.v (ns.drop (i+1))):=by rw[hd];rfl
  rw[e]
  refine Tu b ns i (ZE (YR hlt) ?_)
  have:=a3r b ns (b.v.contains ns[i]&&YG b.v (ns.drop (i+1))) hlt hl hn (fun h=>by rw[h];rfl) (fun h=>by rw[h,Bool.true_and];exact ih (i+1) (by omega)) b.v.length 0 (by omega)
  exact this
theorem Oq: ∀ a:BoxT×List Str×Unit,(Zn a.1.v&&Zn a.2.1)=true->Zc XB 0 (Za Y1 (Zg (YG a.1.v a.2.1))) Y4 [] (Ye a8f (encL a)):=by
 rintro⟨b,ns,⟨⟩⟩ h
 simp only[Bool.and_eq_true]at h
 exact b6e b ns (Lj b ns (Zy.1 h.1) (Zy.1 h.2) ns.length 0 (by omega))
end Go.Pl

namespace Go.Pl
open Go.RowKit
open Enc (enc dec is)
open EncL (encL decL isL)
theorem NK(b:BoxT)(p:List Int)(hb:b.v.length<=1000)(hp:p.length<=1000): ∀ (k i:Nat),k+i=min b.v.length p.length->1<=i ->
  At YF 1 (WE 1 Ym fun r=> ∃ q q',r.1 = .pv q∧Sub q q'∧((.pv (.sl 2 false ((Zf b.v p).map enc)),[.row false 3 1 (p.map enc)],[]):AV×List AObj×List AObj)=(.pv q',r.2)) Yl 0 34 [(1,.row 0 p.length 0 p.length),(2,.ptr 1 0),(5,.row 2 i 0 i),(6,.pv (.int .i64 i))] [.obj (.row false 3 1 (p.map enc)),.obj (.box [.pv (enc b.v),.pv (.int .i64 b.m)]),.obj (.row false 63 2 ((Zf (b.v.take i) (p.take i)).map enc))]:=by
 intro k
 induction k with
 | zero=>
  intro i hi h1
  have hl:=Um b.v p (i:=i) (by omega) (by omega)
  have fin : ∀ os,∃ q q',(AV.pv (PV.sl 2 false (List.drop 0 (List.take i (List.map (enc:Coef->PV) (Zf (b.v.take i) (p.take i))))))) = .pv q∧Sub q q'∧((.pv (.sl 2 false ((Zf b.v p).map enc)),os):AV×List AObj×List AObj)=(.pv q',os):=by
   intro os
   rw[List.drop_zero,List.take_of_length_le (by rw[List.length_map,hl];exact Nat.le_refl _),H6 b.v p (by omega)]
   exact⟨_,_,rfl,Sub.refl _,rfl⟩
  by_cases hbl:i<b.v.length
  ·exact K4 b p.length p i i (Zf (b.v.take i) (p.take i)) (ZE (YR hbl) (ZK (Z4 (by omega)) ⟨by simp[hl],fin _⟩))
  ·exact K4 b p.length p i i (Zf (b.v.take i) (p.take i)) (ZK (Xt hbl) ⟨by simp[hl],fin _⟩)
 | succ k ih=>
  intro i hi h1
  have hl:=Um b.v p (i:=i) (by omega) (by omega)
  have hlt:i<b.v.length:=by omega
  have hlt2:i<p.length:=by omega
  have e:=UU hlt2
  refine K4 b p.length p i i (Zf (b.v.take i) (p.take i)) (ZE (YR hlt) (ZE (ZX (by omega)) ⟨Zt hlt rfl,Zx hlt ⟨by simp;omega,by simp;omega,?_,?_,?_⟩⟩))
  ·rw[e];rfl
  ·rw[List.length_map,hl]
   show((i==i)&&(i==i)&&decide ((i+1)*24<=1099511627776)&&decide (i+1<=1099511627776))=true
   rw[decide_eq_true (by omega),decide_eq_true (by omega)];simp
  ·have:=ih (i+1) (by omega) (by omega)
   rw[Vh b.v p hlt hlt2,List.map_append,<- next (by omega)]at this
   rw[e]
   exact this
theorem Fy: ∀ args os,XZ args os=true->Zc YF os.length (WE os.length Ym fun r=> ∃ p p',r.1 = .pv p∧Sub p p'∧Ug args os=(.pv p',r.2)) Yl [] (YK TS args os):=by
 intro args os h
 unfold XZ at h
 split at h
 ·rename_i v k n m ty xs
  simp only[Bool.and_eq_true,beq_iff_eq,decide_eq_true_eq]at h
  obtain⟨⟨⟨⟨⟨⟨rfl,h2⟩,rfl⟩,h4⟩,h5⟩,h6⟩,h7⟩:=h
  obtain⟨p,hp⟩:=Yq h4
  have hp:PV.sl 1 false xs=PV.sl 1 false (p.map enc):=hp
  injection hp with _ _ hx
  subst hx
  obtain⟨bv,rfl⟩:=Yq h5
  rw[Enc.dec_enc]at h6
  rw[List.length_map]at h2
  subst h2
  have ev:Ug [.pv (.agg [enc bv,.int .i64 k]),.row 0 p.length 0 p.length] [.row false 3 1 (p.map enc)]=(.pv (.sl 2 false ((Zf bv p).map enc)),[.row false 3 1 (p.map enc)],[]):=by
   show(AV.pv (.sl 2 false ((Zf (dec (enc bv:PV)) (Ai (p.map enc))).map enc)),_,_)=_
   rw[Enc.dec_enc,GK]
  rw[ev]
  refine a6v ⟨bv,k⟩ p.length p ?_
  by_cases h0:min bv.length p.length=0
  ·have hz:Zf bv p=[]:=by
    rw[<- List.length_eq_zero_iff];unfold Zf;rw[List.length_zipWith];exact h0
   rw[hz]
   by_cases hbl:0<bv.length
   ·exact K3 ⟨bv,k⟩ p.length p ((0:Nat):Int) (ZE (YR hbl) (ZK (Z4 (by omega)) ⟨_,_,rfl,Sub.sl0 0 2 true,rfl⟩))
   ·exact K3 ⟨bv,k⟩ p.length p ((0:Nat):Int) (ZK (Xt hbl) ⟨_,_,rfl,Sub.sl0 0 2 true,rfl⟩)
  ·have hlt:0<bv.length:=by omega
   have hlt2:0<p.length:=by omega
   have e:=UU hlt2
   refine K3 ⟨bv,k⟩ p.length p ((0:Nat):Int) (ZE (YR hlt) (ZE (ZX (by omega)) ⟨Zt hlt rfl,Zx hlt ⟨by simp;omega,by simp;omega,?_,?_⟩⟩))
   ·rw[e];rfl
   ·have:=NK ⟨bv,k⟩ p h6 h7 (min bv.length p.length - 1) 1 (by show min bv.length p.length - 1+1=min bv.length p.length;omega) (by omega)
    rw[show(1:Nat)=0+1 from rfl,Vh bv p hlt hlt2]at this
    rw[e]
    exact this
 ·cases h
theorem Ll(l:Lin)(hl:l.t.length<=1000000): ∀ (k i:Nat),k+i=l.t.length->1<=i ->
  At Vw 0 (Za Wq (Zg (Zd l))) Wn 0 22 [(1,.ptr 0 0),(3,.row 1 i 0 i),(4,.pv (.int .i64 i))] [.obj (.box [.pv (.int .i64 l.k),.pv (enc l.t)]),.obj (.row false 9 1 ((Oa l i).map enc))]:=by
 intro k
 induction k with
 | zero=>
  intro i hi h1
  obtain rfl:i=l.t.length:=by omega
  refine Bd l _ _ (Oa l l.t.length) (ZK (Xt (by omega)) ⟨by simp[K8],?_⟩)
  rw[List.drop_zero,List.take_of_length_le (by rw[List.length_map,K8 l (Nat.le_refl _)];exact Nat.le_refl _),Pi]
  exact ZQ (x:=Zd l) rfl
 | succ k ih=>
  intro i hi h1
  have hlt:i<l.t.length:=by omega
  refine Bd l i i (Oa l i) (ZE (YR hlt) ⟨Zt hlt rfl,Zx hlt ⟨AA (m:=1) (by rw[List.length_map,K8 l (by omega)]) (by omega) (by omega),?_⟩⟩)
  have:=ih (i+1) (by omega) (by omega)
  rw[Jo l hlt,<- next (by omega)]at this
  exact this
theorem OB: ∀ a:Lin×Unit,decide (a.1.t.length<=1000000)=true->Zc Vw 0 (Za Wq (Zg (Zd a.1))) Wn [] (Ye a6u (encL a)):=by
 rintro⟨l,⟨⟩⟩ h
 have h:l.t.length<=1000000:=of_decide_eq_true h
 refine b3s l ?_
 by_cases h0:l.t.length=0
 ·refine Bj l ((0:Nat):Int) (ZK (Xt (by omega)) ?_)
  have:Zd l=[]:=by unfold Zd;rw[List.length_eq_zero_iff.1 h0];rfl
  rw[this]
  exact⟨rfl,rfl⟩
 ·have hlt:0<l.t.length:=by omega
  refine Bj l ((0:Nat):Int) (ZE (YR hlt) ⟨Zt hlt rfl,Zx hlt ?_⟩)
  have:=Ll l h (l.t.length - 1) 1 (by omega) (by omega)
  rw[show(1:Nat)=0+1 from rfl,Jo l hlt]at this
  exact this
theorem LG(l:Lin)(s:List UInt8)(hl:l.t.length<=9223372036854775807): ∀ (k i:Nat),k+i=l.t.length ->
  At UQ 0 (Za VX (Zg (Xp (l.t.drop i) s))) VU 0 27 [(1,.pv (.str s)),(2,.ptr 0 0),(5,.pv (.int .i64 i))] [.obj (.box [.pv (.int .i64 l.k),.pv (enc l.t)])]:=by
 intro k
 induction k with
 | zero=>
  intro i hi
  rw[List.drop_of_length_le (by omega)]
  exact Ra l s i (ZK (Xt (by omega)) (Uw rfl))
 | succ k ih=>
  intro i hi
  have hlt:i<l.t.length:=by omega
  have h:=ih (i+1) (by omega)
  rw[List.drop_eq_getElem_cons hlt,YC]
  refine Ra l s i (ZE (YR hlt) ⟨Zt hlt rfl,Zx hlt (Q7 (fun h1=> ?_) fun h1=> ?_)⟩)
  ·have h1:l.t[i].v.s=s:=h1
   rw[if_pos h1]
   exact⟨Zt hlt rfl,Zx hlt (Uw rfl)⟩
  ·have h1 : ¬ l.t[i].v.s=s:=h1
   rw[if_neg h1,next (by omega)]
   exact h
theorem ET: ∀ a:Lin×Str×Unit,Zn a.1.t=true->Zc UQ 0 (Za VX (Zg (Xp a.1.t a.2.1.s))) VU [] (Ye a7h (encL a)):=by
 rintro⟨l,⟨s⟩,⟨⟩⟩ h
 exact b0a l s (LG l s (Zy.1 h) l.t.length 0 (by omega))
theorem b5b(l:Lin)(s:Str):(Km l s).t.length<=l.t.length+1:=by
 unfold Km
 split
 ·exact A7 l s 1
 ·omega
def b0o(l:Lin)(k:Int)(p:PV):Prop:=is (List Coef) p=true∧(dec p:List Coef)=l.t∧k=l.k
theorem MS{l:Lin}{k:Int}{p:PV}(h:b0o l k p):(dec (.agg [.int .i64 k,p]):Lin)=l∧is Lin (.agg [.int .i64 k,p])=true:=by
 obtain⟨h1,h2,h3⟩:=h
 refine⟨?_,?_⟩
 ·show(⟨k,dec p⟩:Lin)=l
  rw[h2,h3]
 ·show(true&&is (List Coef) p)=true
  rw[h1];rfl
theorem b7l(l:Lin):b0o l l.k (enc l.t):=⟨Enc.is_enc _,Enc.dec_enc _,rfl⟩
def JF(o l:Lin):Lin:=(Zd l).foldl Km o
theorem a6t(ls:List Lin)(hls:ls.length<=1000)(hl : ∀ l∈ls,l.t.length<=1000)(R:List Str){i:Nat}(hi:i<ls.length)
  (hnext : ∀ l k p,b0o l k p->l=l->l.t.length<=1000*(i+1)->R=Zd ((ls.drop (i+1)).foldl JF l)->At XA 0 (Za Y3 (Zg R)) Y2 0 41 [(0,.pv (enc ls)),(3,.ptr 0 0),(4,.pv (.int .i64 ((i+1:Nat):Int)))] [.obj (.box [.pv (.int .i64 k),.pv p])]) :
  ∀ (d j:Nat) (l:Lin) (k:Int) (p:PV),d+j=ls[i].t.length->b0o l k p->l.t.length<=1000*i+j->R=Zd ((ls.drop (i+1)).foldl JF (((Zd ls[i]).drop j).foldl Km l)) ->
  At XA 0 (Za Y3 (Zg R)) Y2 1 41 [(0,.pv (enc ls)),(3,.ptr 0 0),(4,.pv (.int .i64 i)),(5,.pv (.int .i64 j))] [.obj (.box [.pv (.int .i64 k),.pv p])]:=by
 have hli:=hl _ (List.getElem_mem hi)
 have hnl:(Zd ls[i]).length=ls[i].t.length:=by unfold Zd;rw[List.length_map]
 intro d
 induction d with
 | zero=>
  intro j l k p hd hp hlen hR
  refine Tt ls k p i j ⟨Zt hi rfl,Zx hi (ZK (Xt (show ¬ j<ls[i].t.length by omega)) ?_)⟩
  rw[next (by omega)]
  refine hnext l k p hp rfl (by omega) ?_
  rw[hR,List.drop_of_length_le (by omega)]
  rfl
 | succ d ih=>
  intro j l k p hd hp hlen hR
  have hj:j<ls[i].t.length:=by omega
  have e1:List.getD (List.map (enc:Coef->PV) ls[i].t) (Int.toNat (j:Int)) default=enc ls[i].t[j]:=by simp[List.getD,hj]
  obtain⟨q1,q2⟩:=MS hp
  have hdr:(Zd ls[i]).drop j=ls[i].t[j].v::(Zd ls[i]).drop (j+1):=by
   rw[List.drop_eq_getElem_cons (by omega)]
   unfold Zd
   rw[List.getElem_map]
  rw[hdr,List.foldl_cons]at hR
  refine Tt ls k p i j ⟨Zt hi rfl,Zx hi (ZE (YR hj) ⟨Zt hi rfl,Zx hi ⟨?_,?_,?_⟩⟩)⟩
  ·show(decide (0<=(j:Int))&&decide (Int.toNat (j:Int)<List.length (List.map (enc:Coef->PV) ls[i].t))&&2==2)=true
   simp;omega
  ·show(decide (0+List.length [Sh.str]<=List.length (List.drop 0 (PV.cells (List.getD (List.map (enc:Coef->PV) ls[i].t) (Int.toNat (j:Int)) default))))&&Y7 (List.drop 0 (PV.cells (List.getD (List.map (enc:Coef->PV) ls[i].t) (Int.toNat (j:Int)) default))) 0 [Sh.str])=true
   rw[e1];rfl
  ·have es:PV.asStr (List.getD (List.drop 0 (PV.cells (List.getD (PV.asXs (List.getD (List.drop 1 (PV.cells (enc ls[i]))) 0 default)) (Int.toNat (j:Int)) default))) 0 default)=ls[i].t[j].v.s:=by
    show PV.asStr (List.getD (List.drop 0 (PV.cells (List.getD (List.map (enc:Coef->PV) ls[i].t) (Int.toNat (j:Int)) default))) 0 default)=_
    rw[e1];rfl
   rw[es]
   refine⟨Cx (l,ls[i].t[j].v,()) ?_ ?_ (Zy.2 (by show l.t.length<=_;omega)),De (l,ls[i].t[j].v,()) ?_ (Q7 (fun h=> ?_) fun h=> ?_)⟩
   ·show(is Lin _&&(true&&true))=true
    rw[q2];rfl
   ·exact congrArg (fun z:Lin=>(z,ls[i].t[j].v,())) q1
   ·exact congrArg (fun z:Lin=>(z,ls[i].t[j].v,())) q1
   ·have h:Xp l.t ls[i].t[j].v.s=0:=h
    have hput:Km l ls[i].t[j].v=VD l ls[i].t[j].v 1:=by unfold Km;rw[if_pos h]
    refine⟨Cx (l,ls[i].t[j].v,1,()) ?_ ?_ (by simp;omega),De (l,ls[i].t[j].v,1,()) ?_ ?_⟩
    ·show(is Lin _&&(true&&(true&&true)))=true
     rw[q2];rfl
    ·exact congrArg (fun z:Lin=>(z,ls[i].t[j].v,(1:Int),())) q1
    ·exact congrArg (fun z:Lin=>(z,ls[i].t[j].v,(1:Int),())) q1
    ·rw[next (by omega)]
     rw[hput]at hR
     have:=A7 l ls[i].t[j].v 1
     exact ih (j+1) _ _ _ (by omega) (b7l _) (by show(VD l ls[i].t[j].v 1).t.length<=_;omega) hR
   ·have h : ¬ Xp l.t ls[i].t[j].v.s=0:=h
    have hput:Km l ls[i].t[j].v=l:=by unfold Km;rw[if_neg h]
    rw[next (by omega)]
    rw[hput]at hR
    exact ih (j+1) _ _ _ (by omega) hp (by omega) hR
theorem Lu(ls:List Lin)(hls:ls.length<=1000)(hl : ∀ l∈ls,l.t.length<=1000): ∀ (d i:Nat) (l:Lin) (k:Int) (p:PV) (R:List Str),d+i=ls.length->b0o l k p->l.t.length<=1000*i->R=Zd ((ls.drop i).foldl JF l) ->
  At XA 0 (Za Y3 (Zg R)) Y2 0 41 [(0,.pv (enc ls)),(3,.ptr 0 0),(4,.pv (.int .i64 i))] [.obj (.box [.pv (.int .i64 k),.pv p])]:=by
 intro d
 induction d with
 | zero=>
  intro i l k p R hi hp hlen hR
  obtain⟨q1,q2⟩:=MS hp
  rw[List.drop_of_length_le (by omega)]at hR
  refine RH ls k p i (ZK (Xt (by omega)) ⟨Cx (l,()) ?_ ?_ (by simp;omega),De (l,()) ?_ ?_⟩)
  ·show(is Lin _&&true)=true
   rw[q2];rfl
  ·exact congrArg (fun z:Lin=>(z,())) q1
  ·exact congrArg (fun z:Lin=>(z,())) q1
  ·rw[hR]
   exact ZQ (x:=Zd l) rfl
 | succ d ih=>
  intro i l k p R hi hp hlen hR
  have hlt:i<ls.length:=by omega
  rw[List.drop_eq_getElem_cons hlt,List.foldl_cons]at hR
  refine RH ls k p i (ZE (YR hlt) ?_)
  exact a6t ls hls hl R hlt (fun l' k' p' hp' _ hlen' hR'=>ih (i+1) l' k' p' R (by omega) hp' hlen' hR') ls[i].t.length 0 l k p (by omega) hp (by omega) hR
theorem EL: ∀ a:List Lin×Unit,Vr a.1=true->Zc XA 0 (Za Y3 (Zg (Ux a.1))) Y2 [] (Ye a5l (encL a)):=by
 rintro⟨ls,⟨⟩⟩ h
 simp only[Vr,Bool.and_eq_true,decide_eq_true_eq,List.all_eq_true]at h
 obtain⟨h1,h2⟩:=h
 exact b4j ls (Lu ls h1 h2 ls.length 0 ⟨0,[]⟩ 0 _ _ (by omega) ⟨rfl,rfl,rfl⟩ (by simp) rfl)
theorem MM{α:Type}[DecidableEq α](x y:α)(a b:List α):decide (x::a=y::b)=(decide (x=y)&&decide (a=b)):=by
 rw[Bool.eq_iff_iff];simp
theorem Lh(a b:List Int)(ha:a.length<=9223372036854775807)(hab:a.length=b.length): ∀ (k i:Nat),k+i=a.length ->
  At U3 0 (Za VV (Zg (decide (a.drop i=b.drop i)))) VW 0 26 [(0,.pv (enc a)),(1,.pv (enc b)),(5,.pv (.int .i64 i))] []:=by
 intro k
 induction k with
 | zero=>
  intro i hi
  rw[List.drop_of_length_le (by omega),List.drop_of_length_le (by omega)]
  exact Tv a b i (ZK (Xt (by omega)) (ZM rfl))
 | succ k ih=>
  intro i hi
  have hlt:i<a.length:=by omega
  have hlt2:i<b.length:=by omega
  have h:=ih (i+1) (by omega)
  rw[List.drop_eq_getElem_cons hlt,List.drop_eq_getElem_cons hlt2,MM]
  refine Tv a b i (ZE (YR hlt) ⟨Zt hlt rfl,Zx hlt ⟨Zt hlt2 rfl,Zx hlt2 ?_⟩⟩)
  show if (a[i] != b[i])=true then _ else _
  by_cases e:a[i]=b[i]
  ·rw[if_neg (by simp[e]),next (by omega),decide_eq_true e,Bool.true_and]
   exact h
  ·rw[if_pos (by simp[e]),decide_eq_false e,Bool.false_and]
   exact ZM rfl
theorem E9: ∀ x:List Int×List Int×Unit,Zn x.1=true->Zc U3 0 (Za VV (Zg (decide (x.1=x.2.1)))) VW [] (Ye a4s (encL x)):=by
 rintro⟨a,b,⟨⟩⟩ h
 refine b5f a b ?_
 simp only[List.length_map]
 by_cases e:a.length=b.length
 ·rw[if_neg (by simp[e])]
  exact Lh a b (Zy.1 h) e a.length 0 (by omega)
 ·rw[if_pos (by simp;omega)]
  exact ZM (by simp;rintro rfl;exact e rfl)
theorem NF(a b:List (List Int))(ha:a.length<=9223372036854775807)(hl : ∀ x∈a,Zn x=true)(hab:a.length=b.length): ∀ (k i:Nat),k+i=a.length ->
  At VO 0 (Za WW (Zg (decide (a.drop i=b.drop i)))) WU 0 27 [(0,.pv (enc a)),(1,.pv (enc b)),(5,.pv (.int .i64 i))] []:=by
 intro k
 induction k with
 | zero=>
  intro i hi
  rw[List.drop_of_length_le (by omega),List.drop_of_length_le (by omega)]
  exact BP a b i (ZK (Xt (by omega)) (ZM rfl))
 | succ k ih=>
  intro i hi
  have hlt:i<a.length:=by omega
  have hlt2:i<b.length:=by omega
  have h:=ih (i+1) (by omega)
  rw[List.drop_eq_getElem_cons hlt,List.drop_eq_getElem_cons hlt2,MM]
  refine BP a b i (ZE (YR hlt) ⟨Zt hlt rfl,Zx hlt ⟨Zt hlt2 rfl,Zx hlt2 ⟨Zj (a[i],b[i],()) rfl (hl _ (List.getElem_mem hlt)),Zh (a[i],b[i],()) rfl ?_⟩⟩⟩)
  show if (!(decide (a[i]=b[i])))=true then _ else _
  by_cases e:a[i]=b[i]
  ·rw[if_neg (by simp[e]),next (by omega),decide_eq_true e,Bool.true_and]
   exact h
  ·rw[if_pos (by simp[e]),decide_eq_false e,Bool.false_and]
   exact ZM rfl
theorem FX: ∀ x:List (List Int)×List (List Int)×Unit,(Zn x.1&&x.1.all Zn)=true->Zc VO 0 (Za WW (Zg (decide (x.1=x.2.1)))) WU [] (Ye EH (encL x)):=by
 rintro⟨a,b,⟨⟩⟩ h
 simp only[Bool.and_eq_true,List.all_eq_true]at h
 refine a4r a b ?_
 simp only[List.length_map]
 by_cases e:a.length=b.length
 ·rw[if_neg (by simp[e])]
  exact NF a b (Zy.1 h.1) h.2 e a.length 0 (by omega)
 ·rw[if_pos (by simp;omega)]
  exact ZM (by simp;rintro rfl;exact e rfl)
def b6y(m:Int):Nat->Int->Int
 | 0,n=>n
 | k+1,n=>b6y m k (DY (n*DY (m+1)))
theorem JN(b:BoxT)(fs:List Fact)(hl:b.v.length<=9223372036854775807)(hf:YZ fs=true)(n:Int){P:Prop}{G:PV->Prop}(hG : ∀ x,x=(decide (b.v.length<=5)&&decide (n<=300)&&decide (fs.length<=6)&&Ck fs 6)->G (.bool x)):
  if (decide ((↑(List.length (List.map (enc:Str->PV) (BoxT.v b))):Int)<=5))=true then if (decide (n<=300))=true then if (decide ((↑(List.length (List.map (enc:Fact->PV) fs)):Int)<=6))=true then
   (Go.Pl.preT (fun(x:List Fact×Int×Unit)=>YZ (Prod.fst x)) [(.sl 3 false (List.map enc fs)),(.int .i64 6)])=true∧(∃ y1:Bool,AV.pv (Ze (fun(x:List Fact×Int×Unit)=>Ck (Prod.fst x) (Prod.fst (Prod.snd x))) [(.sl 3 false (List.map enc fs)),(.int .i64 6)])=AV.pv (enc y1)∧(G ((.bool y1))))else(G ((.bool false)))else(G ((.bool false)))else(G ((.bool false))):=by
 simp only[List.length_map]
 refine WJ (fun h1=>WJ (fun h2=>WJ (fun h3=>⟨Zj (fs,6,()) rfl hf,Zh (fs,6,()) rfl (hG _ ?_)⟩) fun h3=>hG _ ?_) fun h2=>hG _ ?_) fun h1=>hG _ ?_
 ·rw[decide_eq_true (show b.v.length<=5 by omega),decide_eq_true h2,decide_eq_true (show fs.length<=6 by omega)];rfl
 ·rw[decide_eq_false (show ¬ fs.length<=6 by omega)];simp
 ·rw[decide_eq_false h2];simp
 ·rw[decide_eq_false (show ¬ b.v.length<=5 by omega)];simp
theorem N7(b:BoxT)(fs:List Fact)(hb:ZC b=true)(hv:YI b=true)(hf:YZ fs=true): ∀ (k i:Nat) (n:Int),k+i=b.v.length ->
  At Vy 0 (Za Wi (Zg (decide (b.v.length<=5)&&decide (b6y b.m k n<=300)&&decide (fs.length<=6)&&Ck fs 6))) V8 0 40 [(1,.pv (enc fs)),(2,.ptr 0 0),(5,.pv (.int .i64 n)),(6,.pv (.int .i64 i))] [.obj (.box [.pv (enc b.v),.pv (.int .i64 b.m)])]:=by
 have hbo:=hb
 simp only[ZC,WF,Bool.and_eq_true]at hb
 have hl:=Zy.1 hb.1
 intro k
 induction k with
 | zero=>
  intro i n hi
  exact Jg b fs n i (ZK (Xt (by omega)) (JN (P:=True) b fs hl hf n fun x hx=>ZM hx))
 | succ k ih=>
  intro i n hi
  have hlt:i<b.v.length:=by omega
  refine Jg b fs n i (ZE (YR hlt) ⟨Zj (b,()) rfl hbo,Zh (b,()) rfl (ZE hv ?_)⟩)
  rw[next (by omega)]
  exact ih (i+1) _ (by omega)
theorem FE(m:Nat): ∀ (l:List Str) (n r:Int),0<=n->n<=20000->JU m l n=some r->m<=20000->b6y m l.length n=a1r m l n
 | [],n,r,_,_,_,_=>rfl
 | s::l,n,r,h0,h1,h,hm=>by
  rw[JU]at h
  split at h
  ·cases h
  ·rename_i hn
   show b6y m l.length (DY (n*DY ((m:Int)+1)))=a1r m l (n*((m:Int)+1))
   have e0:0<=n*((m:Int)+1):=Int.mul_nonneg h0 (by omega)
   rw[XJ (n:=(m:Int)+1) (by omega) (by omega),XJ (by omega) (by omega)]
   exact FE m l _ r e0 (by omega) h hm
theorem Ei: ∀ x:BoxT×List Fact×Unit,(ZC x.1&&YZ x.2.1)=true->Zc Vy 0 (Za Wi (Zg (Qt x.1 x.2.1))) V8 [] (Ye a8h (encL x)):=by
 rintro⟨b,fs,⟨⟩⟩ h
 simp only[Bool.and_eq_true]at h
 obtain⟨hb,hf⟩:=h
 have hbo:=hb
 simp only[ZC,WF,Bool.and_eq_true]at hb
 have hl:=Zy.1 hb.1
 refine a9v b fs ?_
 cases hv:YI b
 ·have ef:Qt b fs=(decide (b.v.length<=5)&&decide ((1:Int)<=300)&&decide (fs.length<=6)&&Ck fs 6):=by unfold Qt;rw[hv];rfl
  show At Vy 0 (Za Wi (Zg (Qt b fs))) _ _ _ _ _
  rw[ef]
  by_cases h0:0<b.v.length
  ·refine Jg b fs 1 ((0:Nat):Int) (ZE (YR h0) ⟨Zj (b,()) rfl hbo,Zh (b,()) rfl (ZK (show ¬ YI b=true by simp[hv]) ?_)⟩)
   exact JN (P:=True) b fs hl hf 1 fun x hx=>ZM hx
  ·exact Jg b fs 1 ((0:Nat):Int) (ZK (Xt h0) (JN (P:=True) b fs hl hf 1 fun x hx=>ZM hx))
 ·have ef:Qt b fs=(decide (b.v.length<=5)&&decide (b6y b.m b.v.length 1<=300)&&decide (fs.length<=6)&&Ck fs 6):=by
   unfold Qt
   rw[hv,if_pos rfl]
   obtain⟨_,_,h3,h4,h5⟩:=Us.1 hv
   obtain⟨r,hr⟩:=Option.isSome_iff_exists.1 h5
   rcases h3 with h3|h3
   ·rw[h3];rfl
   ·have e:b.m=(b.m.toNat:Int):=by omega
    rw[e]at hr ⊢
    rw[FE _ _ _ _ (by decide) (by decide) hr (by omega)]
  show At Vy 0 (Za Wi (Zg (Qt b fs))) _ _ _ _ _
  rw[ef]
  exact N7 b fs hbo hv hf b.v.length 0 1 (by omega)
end Go.Pl

namespace Go.Pl
open Go.RowKit
open Enc (enc dec is)
open EncL (encL decL isL)
set_option maxRecDepth 100000
def Wu:IC:=(.seq (.reg [⟨(some 4),(.box 2 (.t 0)),0,none⟩,⟨(some 6),(.box 2 (.t 2)),1,none⟩,⟨(some 8),(.mv (.c (.int .i64 0))),2,none⟩] none) (.seq (.seq (.reg [⟨(some 11),(.load true [(.sl 1),(.int .i64)] (.t 4)),0,none⟩,⟨(some 12),(.call (.c (.fn 51)) [(.t 11)]),0,none⟩,⟨(some 13),(.un .not (.t 12)),2,none⟩,⟨(some 14),(.mv (.t 13)),2,none⟩,⟨(some 15),(.mv (.t 1)),2,(some (14,false))⟩,⟨(some 16),(.call (.c (.fn 35)) [(.t 15)]),2,(some (14,false))⟩,⟨(some 17),(.un .not (.t 16)),4,(some (14,false))⟩,⟨(some 18),(.pick (.t 14) (.c (.bool true)) (.t 17)),4,none⟩,⟨(some 19),(.mv (.t 18)),4,none⟩,⟨(some 20),(.load true [(.int .i64),(.sl 2)] (.t 6)),4,(some (19,false))⟩,⟨(some 21),(.call (.c (.fn 20)) [(.t 20)]),4,(some (19,false))⟩,⟨(some 22),(.un .not (.t 21)),6,(some (19,false))⟩,⟨(some 23),(.pick (.t 19) (.c (.bool true)) (.t 22)),6,none⟩,⟨(some 24),(.mv (.t 23)),6,none⟩,⟨(some 25),(.mv (.t 3)),6,(some (24,false))⟩,⟨(some 26),(.call (.c (.fn 131)) [(.t 25)]),6,(some (24,false))⟩,⟨(some 27),(.un .not (.t 26)),8,(some (24,false))⟩,⟨(some 28),(.pick (.t 24) (.c (.bool true)) (.t 27)),8,none⟩] none) (.cond (.t 28) (.seq (.reg [⟨(some 8),(.mv (.c (.int .i64 1))),0,none⟩] none) .ret) .skip)) (.seq (.reg [⟨(some 9),(.mv (.c (.sl 0 true []))),0,none⟩] none) (.seq (.seq (.reg [⟨(some 10),(.mv (.c (.int .i64 0))),0,none⟩] none) (.block 0 (.loop [10,1,9,4,6,3] (.seq (.seq (.reg [⟨(some 29),(.mv (.t 10)),0,none⟩,⟨(some 30),(.mv (.t 1)),0,none⟩,⟨(some 31),(.len 1 (.t 30)),0,none⟩,⟨(some 32),(.bin .num .lss (.t 29) (.t 31)),0,none⟩] none) (.cond (.t 32) .skip (.exit 0))) (.seq (.block 1 (.reg [⟨(some 35),(.mv (.t 9)),0,none⟩,⟨(some 36),(.mv (.t 1)),0,none⟩,⟨(some 37),(.mv (.t 10)),0,none⟩,⟨(some 38),(.iaddr 3 (.t 36) (.t 37)),0,none⟩,⟨(some 39),(.faddr 1 (.t 38)),0,none⟩,⟨(some 40),(.load true [(.int .i64),(.sl 2)] (.t 39)),0,none⟩,⟨(some 41),(.bslice 24 2 1 (.agg [(.int .i64 0),(.sl 0 true [])]) [(0,(.t 40))]),0,none⟩,⟨(some 42),(.append 24 2 32 (.t 35) (.t 41)),1,none⟩,⟨(some 9),(.mv (.t 42)),2,none⟩] none)) (.reg [⟨(some 33),(.mv (.t 10)),0,none⟩,⟨(some 34),(.bin .num .add (.t 33) (.c (.int .i64 1))),0,none⟩,⟨(some 10),(.mv (.t 34)),0,none⟩] none)))))) (.seq (.seq (.reg [⟨(some 43),(.load true [(.sl 1),(.int .i64)] (.t 4)),0,none⟩,⟨(some 44),(.mv (.t 9)),0,none⟩,⟨(some 45),(.load true [(.int .i64),(.sl 2)] (.t 6)),0,none⟩,⟨(some 46),(.bslice 24 2 1 (.agg [(.int .i64 0),(.sl 0 true [])]) [(0,(.t 45))]),0,none⟩,⟨(some 47),(.append 24 2 32 (.t 44) (.t 46)),1,none⟩,⟨(some 48),(.call (.c (.fn 180)) [(.t 47)]),2,none⟩,⟨(some 49),(.call (.c (.fn 179)) [(.t 43),(.t 48)]),4,none⟩,⟨(some 50),(.un .not (.t 49)),6,none⟩,⟨(some 51),(.mv (.t 50)),6,none⟩,⟨(some 52),(.load true [(.sl 1),(.int .i64)] (.t 4)),6,(some (51,false))⟩,⟨(some 53),(.mv (.t 3)),6,(some (51,false))⟩,⟨(some 54),(.call (.c (.fn 181)) [(.t 53)]),6,(some (51,false))⟩,⟨(some 55),(.call (.c (.fn 179)) [(.t 52),(.t 54)]),8,(some (51,false))⟩,⟨(some 56),(.un .not (.t 55)),10,(some (51,false))⟩,⟨(some 57),(.pick (.t 51) (.c (.bool true)) (.t 56)),10,none⟩] (some [[],[],[],[2],[1,3,2],[4,1,3,2],[0,5,4,1,3,2],[6,0,5,4,1,3,2],[7,6,0,5,4,1,3,2],[8,7,6,0,5,4,1,3,2],[8,7,6,0,5,4,1,3,2],[10,8,7,6,0,5,4,1,3,2],[9,11,8,7,6,0,5,4,1,3,2,10],[12,8,9,11,7,6,0,5,4,1,3,2,10],[8,13,7,6,0,5,4,1,3,2,12,9,11,10]])) (.cond (.t 57) (.seq (.reg [⟨(some 8),(.mv (.c (.int .i64 7))),0,none⟩] none) .ret) .skip)) (.seq (.reg [⟨(some 8),(.mv (.c (.int .i64 0))),0,none⟩] none) .ret))))))
def XR:List IRes:=[(.tmp 8)]
abbrev a8j:Nat:=58
def WL:ZG:=Xc [(51,.pure (preT (fun x:BoxT×Unit=>ZC x.1)) (Ze (fun x:BoxT×Unit=>YI x.1))),(35,.pure (preT (fun x:List Fact×Unit=>Zi x.1)) (Ze (fun x:List Fact×Unit=>Yr x.1))),(20,.pure (preT (fun x:Lin×Unit=>Yx x.1)) (Ze (fun x:Lin×Unit=>Zq x.1))),(131,.pure (preT (fun x:List Mono×Unit=>Xg x.1)) (Ze (fun x:List Mono×Unit=>ZI x.1))),(180,.pure (preT (fun x:List Lin×Unit=>Vr x.1)) (Ze (fun x:List Lin×Unit=>Ux x.1))),(179,.pure (preT (fun x:BoxT×List Str×Unit=>Zn x.1.v&&Zn x.2.1)) (Ze (fun x:BoxT×List Str×Unit=>YG x.1.v x.2.1))),(181,.pure (preT (fun x:List Mono×Unit=>Xg x.1)) (Ze (fun x:List Mono×Unit=>Vg x.1)))]
theorem b7r{G:PV->Prop}(b:BoxT)(fs:List Fact)(l:Lin)(p:List Mono)(h:(Go.Pl.preT (fun(x:BoxT×Unit)=>ZC x.1) [(.agg [(.sl 1 false (List.map enc b.v)),(.int .i64 b.m)])])=true∧(∃ y0:Bool,AV.pv (Ze (fun(x:BoxT×Unit)=>YI x.1) [(.agg [(.sl 1 false (List.map enc b.v)),(.int .i64 b.m)])])=AV.pv (enc y0)∧(if (!y0)=true then G ((.int .i64 1))else((Go.Pl.preT (fun(x:List Fact×Unit)=>Zi x.1) [(.sl 3 false (List.map enc fs))])=true∧(∃ y1:Bool,AV.pv (Ze (fun(x:List Fact×Unit)=>Yr x.1) [(.sl 3 false (List.map enc fs))])=AV.pv (enc y1)∧(if (!y1)=true then G ((.int .i64 1))else((Go.Pl.preT (fun(x:Lin×Unit)=>Yx x.1) [(.agg [(.int .i64 l.k),(.sl 2 false (List.map enc l.t))])])=true∧(∃ y2:Bool,AV.pv (Ze (fun(x:Lin×Unit)=>Zq x.1) [(.agg [(.int .i64 l.k),(.sl 2 false (List.map enc l.t))])])=AV.pv (enc y2)∧(if (!y2)=true then G ((.int .i64 1))else((Go.Pl.preT (fun(x:List Mono×Unit)=>Xg x.1) [(.sl 2 false (List.map enc p))])=true∧(∃ y3:Bool,AV.pv (Ze (fun(x:List Mono×Unit)=>ZI x.1) [(.sl 2 false (List.map enc p))])=AV.pv (enc y3)∧(if (!y3)=true then G ((.int .i64 1))else(At WL 0 (Za XR G) Wu 0 58 [(1,(.pv (.sl 3 false (List.map enc fs)))),(3,(.pv (.sl 2 false (List.map enc p)))),(4,(.ptr 0 0)),(6,(.ptr 1 0)),(9,(.pv (.sl 0 true []))),(10,(.pv (.int .i64 0)))] [(.obj (.box [(.pv (.sl 1 false (List.map enc b.v))),(.pv (.int .i64 b.m))])),(.obj (.box [(.pv (.int .i64 l.k)),(.pv (.sl 2 false (List.map enc l.t)))]))]))))))))))))):Zc WL 0 (Za XR G) Wu [] (Ye 58 [enc b,enc fs,enc l,enc p]):=Zc.tp (.req (.abs (Bool) (fun YY=>AV.pv (enc YY)) (.ask (.lit (.lit (.lit (.lit (.lit (.lit (.lit (.lit (.lit (.lit (.lit (.lit (.nil))))))))))))) (.lit (.req (.abs (Bool) (fun YY=>AV.pv (enc YY)) (.lit (.lit (.ask (.lit (.lit (.lit (.lit (.lit (.lit (.lit (.lit (.nil))))))))) (.lit (.req (.abs (Bool) (fun YY=>AV.pv (enc YY)) (.lit (.lit (.ask (.lit (.lit (.lit (.lit (.nil))))) (.lit (.req (.abs (Bool) (fun YY=>AV.pv (enc YY)) (.lit (.lit (.ask (.nil) (.nil)))))))))))))))))))))) h (by kernel_rfl)
theorem BO{G:PV->Prop}(b:BoxT)(fs:List Fact)(l:Lin)(p:List Mono)(i:Int)(h:if (decide (i<(↑(List.length (List.map enc fs)):Int)))=true then(decide (0<=i)&&decide (Int.toNat i<List.length (List.map enc fs))&&Enc.sz Fact==3)=true∧(∃ y0:Fact,AV.pv (PV.rptr (PV.cells (List.getD (List.map enc fs) (Int.toNat i) default)))=AV.pv (PV.rptr (PV.cells ((enc) y0)))∧(At WL 0 (Za XR G) Wu 0 58 [(1,(.pv (.sl 3 false (List.map enc fs)))),(3,(.pv (.sl 2 false (List.map enc p)))),(4,(.ptr 0 0)),(6,(.ptr 1 0)),(9,(.row 2 1 0 1)),(10,(.pv (.int .i64 (IntKind.wrap IntKind.i64 (i+1)))))] [(.obj (.box [(.pv (.sl 1 false (List.map enc b.v))),(.pv (.int .i64 b.m))])),(.obj (.box [(.pv (.int .i64 l.k)),(.pv (.sl 2 false (List.map enc l.t)))])),(.obj (.row false 24 2 [(.agg [(.int .i64 (PV.asInt (List.getD (List.drop 1 (PV.cells (enc y0))) 0 default))),(.sl 2 false (PV.asXs (List.getD (List.drop 1 (PV.cells (enc y0))) (0+1) default)))])]))]))else((Go.Pl.preT (fun(x:List Lin×Unit)=>Vr x.1) [(.sl 2 false [(.agg [(.int .i64 l.k),(.sl 2 false (List.map enc l.t))])])])=true∧(∃ y1:List Str,AV.pv (Ze (fun(x:List Lin×Unit)=>Ux x.1) [(.sl 2 false [(.agg [(.int .i64 l.k),(.sl 2 false (List.map enc l.t))])])])=AV.pv (enc y1)∧((Go.Pl.preT (fun(x:BoxT×List Str×Unit)=>Zn x.1.v&&Zn x.2.1) [(.agg [(.sl 1 false (List.map enc b.v)),(.int .i64 b.m)]),(.sl 1 false (List.map enc y1))])=true∧(∃ y2:Bool,AV.pv (Ze (fun(x:BoxT×List Str×Unit)=>YG x.1.v x.2.1) [(.agg [(.sl 1 false (List.map enc b.v)),(.int .i64 b.m)]),(.sl 1 false (List.map enc y1))])=AV.pv (enc y2)∧(if (!y2)=true then G ((.int .i64 7))else((Go.Pl.preT (fun(x:List Mono×Unit)=>Xg x.1) [(.sl 2 false (List.map enc p))])=true∧(∃ y3:List Str,AV.pv (Ze (fun(x:List Mono×Unit)=>Vg x.1) [(.sl 2 false (List.map enc p))])=AV.pv (enc y3)∧((Go.Pl.preT (fun(x:BoxT×List Str×Unit)=>Zn x.1.v&&Zn x.2.1) [(.agg [(.sl 1 false (List.map enc b.v)),(.int .i64 b.m)]),(.sl 1 false (List.map enc y3))])=true∧(∃ y4:Bool,AV.pv (Ze (fun(x:BoxT×List Str×Unit)=>YG x.1.v x.2.1) [(.agg [(.sl 1 false (List.map enc b.v)),(.int .i64 b.m)]),(.sl 1 false (List.map enc y3))])=AV.pv (enc y4)∧(if (!y4)=true then G ((.int .i64 7))else(G ((.int .i64 0)))))))))))))):At WL 0 (Za XR G) Wu 0 58 [(1,.pv (enc fs)),(3,.pv (enc p)),(4,.ptr 0 0),(6,.ptr 1 0),(9,.pv (.sl 0 true [])),(10,.pv (.int .i64 i))] [.obj (.box [.pv (enc b.v),.pv (.int .i64 b.m)]),.obj (.box [.pv (.int .i64 l.k),.pv (enc l.t)])]:=At.tp (.lit (.ask (.req (.abs (Fact) (fun YY=>AV.pv (PV.rptr (PV.cells ((enc) YY)))) (.lit (.lit (.lit (.lit (.lit (.lit (.lit (.nil)))))))))) (.lit (.lit (.lit (.lit (.lit (.lit (.req (.abs (List Str) (fun YY=>AV.pv (enc YY)) (.req (.abs (Bool) (fun YY=>AV.pv (enc YY)) (.ask (.lit (.lit (.lit (.lit (.lit (.lit (.nil))))))) (.lit (.lit (.req (.abs (List Str) (fun YY=>AV.pv (enc YY)) (.lit (.req (.abs (Bool) (fun YY=>AV.pv (enc YY)) (.lit (.lit (.ask (.nil) (.nil)))))))))))))))))))))))) h (by kernel_rfl)
theorem Ab{G:PV->Prop}(b:BoxT)(fs:List Fact)(l:Lin)(p:List Mono)(i:Int)(q:Nat)(ls:List Lin)(h:if (decide (i<(↑(List.length (List.map enc fs)):Int)))=true then(decide (0<=i)&&decide (Int.toNat i<List.length (List.map enc fs))&&Enc.sz Fact==3)=true∧(∃ y0:Fact,AV.pv (PV.rptr (PV.cells (List.getD (List.map enc fs) (Int.toNat i) default)))=AV.pv (PV.rptr (PV.cells ((enc) y0)))∧((List.length (List.map enc ls)==q&&q==q&&decide ((q+List.length (List.drop 0 (List.take 1 [PV.agg (VA (List.drop 1 (PV.cells (enc y0))) 0 [Sh.int .i64,Sh.sl 2])])))*32<=1099511627776)&&decide (q+List.length (List.drop 0 (List.take 1 [PV.agg (VA (List.drop 1 (PV.cells (enc y0))) 0 [Sh.int .i64,Sh.sl 2])]))<=1099511627776))=true∧(At WL 0 (Za XR G) Wu 0 58 [(1,(.pv (.sl 3 false (List.map enc fs)))),(3,(.pv (.sl 2 false (List.map enc p)))),(4,(.ptr 0 0)),(6,(.ptr 1 0)),(9,(.row 2 (q+List.length (List.drop 0 (List.take 1 [PV.agg (VA (List.drop 1 (PV.cells (enc y0))) 0 [Sh.int .i64,Sh.sl 2])]))) 0 (q+List.length (List.drop 0 (List.take 1 [PV.agg (VA (List.drop 1 (PV.cells (enc y0))) 0 [Sh.int .i64,Sh.sl 2])]))))),(10,(.pv (.int .i64 (IntKind.wrap IntKind.i64 (i+1)))))] [(.obj (.box [(.pv (.sl 1 false (List.map enc b.v))),(.pv (.int .i64 b.m))])),(.obj (.box [(.pv (.int .i64 l.k)),(.pv (.sl 2 false (List.map enc l.t)))])),(.obj (.row false 24 2 (List.map enc ls++List.drop 0 (List.take 1 [PV.agg (VA (List.drop 1 (PV.cells (enc y0))) 0 [Sh.int .i64,Sh.sl 2])]))))])))else((List.length (List.map enc ls)==q&&q==q&&decide ((q+List.length (List.drop 0 (List.take 1 [PV.agg [PV.int .i64 l.k,enc l.t]])))*32<=1099511627776)&&decide (q+List.length (List.drop 0 (List.take 1 [PV.agg [PV.int .i64 l.k,enc l.t]]))<=1099511627776))=true∧((List.length (List.map enc ls++List.drop 0 (List.take 1 [PV.agg [PV.int .i64 l.k,enc l.t]]))==q+List.length (List.drop 0 (List.take 1 [PV.agg [PV.int .i64 l.k,enc l.t]])))=true∧((Go.Pl.preT (fun(x:List Lin×Unit)=>Vr x.1) [(.sl 2 false (List.drop 0 (List.take (q+List.length (List.drop 0 (List.take 1 [PV.agg [PV.int .i64 l.k,enc l.t]]))) (List.map enc ls++List.drop 0 (List.take 1 [PV.agg [PV.int .i64 l.k,enc l.t]])))))])=true∧(∃ y1:List Str,AV.pv (Ze (fun(x:List Lin×Unit)=>Ux x.1) [(.sl 2 false (List.drop 0 (List.take (q+List.length (List.drop 0 (List.take 1 [PV.agg [PV.int .i64 l.k,enc l.t]]))) (List.map enc ls++List.drop 0 (List.take 1 [PV.agg [PV.int .i64 l.k,enc l.t]])))))])=AV.pv (enc y1)∧((Go.Pl.preT (fun(x:BoxT×List Str×Unit)=>Zn x.1.v&&Zn x.2.1) [(.agg [(.sl 1 false (List.map enc b.v)),(.int .i64 b.m)]),(.sl 1 false (List.map enc y1))])=true∧(∃ y2:Bool,AV.pv (Ze (fun(x:BoxT×List Str×Unit)=>YG x.1.v x.2.1) [(.agg [(.sl 1 false (List.map enc b.v)),(.int .i64 b.m)]),(.sl 1 false (List.map enc y1))])=AV.pv (enc y2)∧(if (!y2)=true then G ((.int .i64 7))else((Go.Pl.preT (fun(x:List Mono×Unit)=>Xg x.1) [(.sl 2 false (List.map enc p))])=true∧(∃ y3:List Str,AV.pv (Ze (fun(x:List Mono×Unit)=>Vg x.1) [(.sl 2 false (List.map enc p))])=AV.pv (enc y3)∧((Go.Pl.preT (fun(x:BoxT×List Str×Unit)=>Zn x.1.v&&Zn x.2.1) [(.agg [(.sl 1 false (List.map enc b.v)),(.int .i64 b.m)]),(.sl 1 false (List.map enc y3))])=true∧(∃ y4:Bool,AV.pv (Ze (fun(x:BoxT×List Str×Unit)=>YG x.1.v x.2.1) [(.agg [(.sl 1 false (List.map enc b.v)),(.int .i64 b.m)]),(.sl 1 false (List.map enc y3))])=AV.pv (enc y4)∧(if (!y4)=true then G ((.int .i64 7))else(G ((.int .i64 0)))))))))))))))):At WL 0 (Za XR G) Wu 0 58 [(1,.pv (enc fs)),(3,.pv (enc p)),(4,.ptr 0 0),(6,.ptr 1 0),(9,.row 2 q 0 q),(10,.pv (.int .i64 i))] [.obj (.box [.pv (enc b.v),.pv (.int .i64 b.m)]),.obj (.box [.pv (.int .i64 l.k),.pv (enc l.t)]),.obj (.row false 24 2 (ls.map enc))]:=At.tp (.lit (.ask (.req (.abs (Fact) (fun YY=>AV.pv (PV.rptr (PV.cells ((enc) YY)))) (.lit (.lit (.lit (.req (.lit (.nil)))))))) (.lit (.lit (.req (.req (.req (.abs (List Str) (fun YY=>AV.pv (enc YY)) (.req (.abs (Bool) (fun YY=>AV.pv (enc YY)) (.ask (.lit (.lit (.lit (.lit (.lit (.lit (.nil))))))) (.lit (.lit (.req (.abs (List Str) (fun YY=>AV.pv (enc YY)) (.lit (.req (.abs (Bool) (fun YY=>AV.pv (enc YY)) (.lit (.lit (.ask (.nil) (.nil)))))))))))))))))))))) h (by kernel_rfl)
def Ya:IC:=(.seq (.reg [⟨(some 2),(.box 2 (.t 0)),0,none⟩,⟨(some 4),(.mv (.c (.sl 0 true []))),1,none⟩,⟨(some 5),(.mv (.c (.int .i64 0))),1,none⟩] none) (.seq (.seq (.reg [⟨(some 10),(.load true [(.sl 1),(.int .i64)] (.t 2)),0,none⟩,⟨(some 11),(.mv (.t 1)),0,none⟩,⟨(some 12),(.build [(.int .i64 0),(.sl 0 true [])] []),0,none⟩,⟨(some 13),(.call (.c (.fn 118)) [(.t 10),(.t 11),(.t 12),(.c (.sl 0 true []))]),0,none⟩,⟨(some 6),(.mv (.t 13)),2,none⟩] none) (.seq (.reg [⟨(some 14),(.mv (.t 6)),0,none⟩,⟨(some 15),(.bin .num .neq (.t 14) (.c (.int .i64 0))),0,none⟩] none) (.cond (.t 15) (.seq (.reg [⟨(some 16),(.mv (.t 6)),0,none⟩,⟨(some 4),(.mv (.c (.sl 0 true []))),0,none⟩,⟨(some 5),(.mv (.t 16)),0,none⟩] none) .ret) .skip))) (.seq (.reg [⟨(some 7),(.mv (.c (.sl 0 true []))),0,none⟩] none) (.seq (.reg [⟨(some 17),(.faddr 0 (.t 2)),0,none⟩,⟨(some 18),(.load false [(.sl 1)] (.t 17)),0,none⟩,⟨(some 19),(.len 1 (.t 18)),0,none⟩,⟨(some 20),(.mksl 3 1 8 (.int .i64 0) (.t 19) (.t 19)),0,none⟩,⟨(some 8),(.mv (.t 20)),1,none⟩] none) (.block 0 (.loop [1,2,8,7] (.block 1 (.seq (.seq (.reg [⟨(some 21),(.mv (.t 1)),0,none⟩,⟨(some 22),(.load true [(.sl 1),(.int .i64)] (.t 2)),0,none⟩,⟨(some 23),(.mv (.t 8)),0,none⟩,⟨(some 24),(.call (.c (.fn 49)) [(.t 22),(.t 23)]),0,none⟩,⟨(some 25),(.call (.c (.fn 53)) [(.t 21),(.t 24)]),2,none⟩] none) (.cond (.t 25) (.reg [⟨(some 26),(.mv (.t 7)),0,none⟩,⟨(some 27),(.bslice 3 1 0 (.int .i64 0) []),0,none⟩,⟨(some 28),(.mv (.t 8)),1,none⟩,⟨(some 29),(.append 3 1 8 (.t 27) (.t 28)),1,none⟩,⟨(some 30),(.bslice 34 1 1 (.sl 0 true []) [(0,(.t 29))]),2,none⟩,⟨(some 31),(.append 34 1 24 (.t 26) (.t 30)),3,none⟩,⟨(some 7),(.mv (.t 31)),4,none⟩] none) .skip)) (.seq (.reg [⟨(some 32),(.mv (.t 8)),0,none⟩,⟨(some 33),(.len 1 (.t 32)),0,none⟩,⟨(some 34),(.bin .num .sub (.t 33) (.c (.int .i64 1))),0,none⟩,⟨(some 9),(.mv (.t 34)),0,none⟩] none) (.seq (.block 2 (.loop [9,8,2,7,1] (.seq (.seq (.reg [⟨(some 35),(.mv (.t 9)),0,none⟩,⟨(some 36),(.bin .num .geq (.t 35) (.c (.int .i64 0))),0,none⟩,⟨(some 37),(.mv (.t 36)),0,none⟩,⟨(some 38),(.mv (.t 8)),0,(some (37,true))⟩,⟨(some 39),(.mv (.t 9)),0,(some (37,true))⟩,⟨(some 40),(.iaddr 1 (.t 38) (.t 39)),0,(some (37,true))⟩,⟨(some 41),(.load false [(.int .i64)] (.t 40)),0,(some (37,true))⟩,⟨(some 42),(.faddr 1 (.t 2)),0,(some (37,true))⟩,⟨(some 43),(.load false [(.int .i64)] (.t 42)),0,(some (37,true))⟩,⟨(some 44),(.bin .num .eql (.t 41) (.t 43)),0,(some (37,true))⟩,⟨(some 45),(.pick (.t 37) (.t 44) (.c (.bool false))),0,none⟩] (some [[],[0],[1,0],[2,1,0],[2,1,0],[3,4,2,1,0],[5,2,3,4,1,0],[2,1,0],[7,2,1,0],[6,8,2,5,3,4,1,0,7],[2,9,1,0,6,8,5,3,4,7]])) (.cond (.t 45) .skip (.exit 2))) (.block 3 (.seq (.reg [⟨(some 46),(.mv (.t 8)),0,none⟩,⟨(some 47),(.mv (.t 9)),0,none⟩,⟨(some 48),(.iaddr 1 (.t 46) (.t 47)),0,none⟩,⟨none,(.store 1 (.t 48) (.c (.int .i64 0))),0,none⟩] none) (.reg [⟨(some 49),(.mv (.t 9)),0,none⟩,⟨(some 50),(.bin .num .sub (.t 49) (.c (.int .i64 1))),0,none⟩,⟨(some 9),(.mv (.t 50)),0,none⟩] none)))))) (.seq (.seq (.reg [⟨(some 51),(.mv (.t 9)),0,none⟩,⟨(some 52),(.bin .num .lss (.t 51) (.c (.int .i64 0))),0,none⟩] none) (.cond (.t 52) (.seq (.reg [⟨(some 53),(.mv (.t 7)),0,none⟩,⟨(some 4),(.mv (.t 53)),0,none⟩,⟨(some 5),(.mv (.c (.int .i64 0))),0,none⟩] none) .ret) .skip)) (.reg [⟨(some 54),(.mv (.t 8)),0,none⟩,⟨(some 55),(.mv (.t 9)),0,none⟩,⟨(some 56),(.iaddr 1 (.t 54) (.t 55)),0,none⟩,⟨(some 57),(.load false [(.int .i64)] (.t 56)),0,none⟩,⟨(some 58),(.bin .num .add (.t 57) (.c (.int .i64 1))),0,none⟩,⟨(some 59),(.iaddr 1 (.t 54) (.t 55)),0,none⟩,⟨none,(.store 1 (.t 59) (.t 58)),0,none⟩] none))))))))))))
def Z9:List IRes:=[(.tmp 4),(.tmp 5)]
abbrev c2v:Nat:=60
def YE:ZG:=Xc [(118,.pure (preT (fun x:BoxT×List Fact×Lin×List Mono×Unit=>ZC x.1&&Zi x.2.1&&decide (x.2.1.length<=100)&&Yx x.2.2.1&&Xg x.2.2.2.1)) (Ze (fun x:BoxT×List Fact×Lin×List Mono×Unit=>Zp x.1 x.2.1 (Zq x.2.2.1&&ZI x.2.2.2.1) (Zd x.2.2.1++Vg x.2.2.2.1)))),(49,.own XZ Ug),(53,.pure (preT (fun x:List Fact×List Coef×Unit=>Zi x.1&&decide (x.2.1.length<=9223372036854775807))) (Ze (fun x:List Fact×List Coef×Unit=>x.1.all fun f=>Z7 f x.2.1)))]
theorem c4k{G:PV->Prop}(b:BoxT)(fs:List Fact)(h:(Go.Pl.preT (fun(x:BoxT×List Fact×Lin×List Mono×Unit)=>ZC x.1&&Zi x.2.1&&decide (List.length x.2.1<=100)&&Yx x.2.2.1&&Xg x.2.2.2.1) [(.agg [(.sl 1 false (List.map enc b.v)),(.int .i64 b.m)]),(.sl 3 false (List.map enc fs)),(.agg [(.int .i64 0),(.sl 0 true [])]),(.sl 0 true [])])=true∧(∃ y0:Int,AV.pv (Ze (fun(x:BoxT×List Fact×Lin×List Mono×Unit)=>Zp x.1 x.2.1 (Zq x.2.2.1&&ZI x.2.2.2.1) (Zd x.2.2.1++Vg x.2.2.2.1)) [(.agg [(.sl 1 false (List.map enc b.v)),(.int .i64 b.m)]),(.sl 3 false (List.map enc fs)),(.agg [(.int .i64 0),(.sl 0 true [])]),(.sl 0 true [])])=AV.pv (enc y0)∧(if (y0 != 0)=true then G ((.tup [(.sl 0 true []),(.int .i64 y0)]))else((decide (0<=(↑(List.length (List.map enc b.v)):Int))&&(↑(List.length (List.map enc b.v)):Int)==(↑(List.length (List.map enc b.v)):Int)&&decide ((↑(List.length (List.map enc b.v)):Int)*(↑8:Int)<=1099511627776)&&decide ((↑(List.length (List.map enc b.v)):Int)<=1099511627776))=true∧(At YE 0 (Za Z9 G) Ya 0 60 [(1,(.pv (.sl 3 false (List.map enc fs)))),(2,(.ptr 0 0)),(7,(.pv (.sl 0 true []))),(8,(.row 1 (Int.toNat (↑(List.length (List.map enc b.v)):Int)) 0 (Int.toNat (↑(List.length (List.map enc b.v)):Int))))] [(.obj (.box [(.pv (.sl 1 false (List.map enc b.v))),(.pv (.int .i64 b.m))])),(.obj (.row false 3 1 (List.replicate (Int.toNat (↑(List.length (List.map enc b.v)):Int)) (PV.int .i64 0))))]))))):Zc YE 0 (Za Z9 G) Ya [] (Ye 60 [enc b,enc fs]):=Zc.tp (.req (.abs (Int) (fun YY=>AV.pv (enc YY)) (.lit (.ask (.nil) (.req (.nil)))))) h (by kernel_rfl)
theorem MJ{G:PV->Prop}(b:BoxT)(fs:List Fact)(n:Nat)(p:List Int)(h:(XZ [(.pv (.agg [(.sl 1 false (List.map enc b.v)),(.int .i64 b.m)])),(.row 0 n 0 n)] [(.row false 3 1 (List.map enc p))])=true∧((Go.Pl.preT (fun(x:List Fact×List Coef×Unit)=>Zi x.1&&decide (List.length x.2.1<=9223372036854775807)) [(.sl 3 false (List.map enc fs)),(.sl 2 false (List.map enc (Zf (dec (enc b.v)) (Ai (List.map enc p)))))])=true∧(∃ y0:Bool,AV.pv (Ze (fun(x:List Fact×List Coef×Unit)=>List.all x.1 fun(f:Fact)=>Z7 f x.2.1) [(.sl 3 false (List.map enc fs)),(.sl 2 false (List.map enc (Zf (dec (enc b.v)) (Ai (List.map enc p)))))])=AV.pv (enc y0)∧(if (y0)=true then(List.length (List.map enc p)==n)=true∧((List.length ([]:List PV)==0&&0==0&&decide ((0+List.length (List.drop 0 (List.take n (List.map enc p))))*8<=1099511627776)&&decide (0+List.length (List.drop 0 (List.take n (List.map enc p)))<=1099511627776))=true∧((List.length (([]:List PV)++List.drop 0 (List.take n (List.map enc p)))==0+List.length (List.drop 0 (List.take n (List.map enc p))))=true∧(At YE 0 (Za Z9 G) Ya 1 60 [(1,(.pv (.sl 3 false (List.map enc fs)))),(2,(.ptr 0 0)),(7,(.row 1 1 0 1)),(8,(.row 2 n 0 n)),(9,(.pv (.int .i64 (IntKind.wrap IntKind.i64 ((↑(n - 0):Int) - 1)))))] [(.obj (.box [(.pv (.sl 1 false (List.map enc b.v))),(.pv (.int .i64 b.m))])),(.obj (.row false 34 1 [(.sl 1 false (List.drop 0 (List.take (0+List.length (List.drop 0 (List.take n (List.map enc p)))) (([]:List PV)++List.drop 0 (List.take n (List.map enc p))))))])),(.obj (.row false 3 1 (List.map enc p)))])))else(At YE 0 (Za Z9 G) Ya 1 60 [(1,(.pv (.sl 3 false (List.map enc fs)))),(2,(.ptr 0 0)),(7,(.pv (.sl 0 true []))),(8,(.row 1 n 0 n)),(9,(.pv (.int .i64 (IntKind.wrap IntKind.i64 ((↑(n - 0):Int) - 1)))))] [(.obj (.box [(.pv (.sl 1 false (List.map enc b.v))),(.pv (.int .i64 b.m))])),(.obj (.row false 3 1 (List.map enc p)))]))))):At YE 0 (Za Z9 G) Ya 0 60 [(1,.pv (enc fs)),(2,.ptr 0 0),(8,.row 1 n 0 n),(7,.pv (.sl 0 true []))] [.obj (.box [.pv (enc b.v),.pv (.int .i64 b.m)]),.obj (.row false 3 1 (p.map enc))]:=At.tp (.req (.keep (.req (.abs (Bool) (fun YY=>AV.pv (enc YY)) (.ask (.lit (.req (.req (.req (.lit (.lit (.lit (.lit (.lit (.lit (.nil))))))))))) (.lit (.nil))))))) h (by kernel_rfl)
theorem FY{G:PV->Prop}(b:BoxT)(fs:List Fact)(n:Nat)(p:List Int)(q:Nat)(xs:List (List Int))(h:(XZ [(.pv (.agg [(.sl 1 false (List.map enc b.v)),(.int .i64 b.m)])),(.row 0 n 0 n)] [(.row false 3 1 (List.map enc p))])=true∧((Go.Pl.preT (fun(x:List Fact×List Coef×Unit)=>Zi x.1&&decide (List.length x.2.1<=9223372036854775807)) [(.sl 3 false (List.map enc fs)),(.sl 2 false (List.map enc (Zf (dec (enc b.v)) (Ai (List.map enc p)))))])=true∧(∃ y0:Bool,AV.pv (Ze (fun(x:List Fact×List Coef×Unit)=>List.all x.1 fun(f:Fact)=>Z7 f x.2.1) [(.sl 3 false (List.map enc fs)),(.sl 2 false (List.map enc (Zf (dec (enc b.v)) (Ai (List.map enc p)))))])=AV.pv (enc y0)∧(if (y0)=true then(List.length (List.map enc p)==n)=true∧((List.length ([]:List PV)==0&&0==0&&decide ((0+List.length (List.drop 0 (List.take n (List.map enc p))))*8<=1099511627776)&&decide (0+List.length (List.drop 0 (List.take n (List.map enc p)))<=1099511627776))=true∧((List.length (([]:List PV)++List.drop 0 (List.take n (List.map enc p)))==0+List.length (List.drop 0 (List.take n (List.map enc p))))=true∧((List.length (List.map enc xs)==q&&q==q&&decide ((q+List.length (List.drop 0 (List.take 1 [PV.sl 1 false (List.drop 0 (List.take (0+List.length (List.drop 0 (List.take n (List.map enc p)))) (([]:List PV)++List.drop 0 (List.take n (List.map enc p)))))])))*24<=1099511627776)&&decide (q+List.length (List.drop 0 (List.take 1 [PV.sl 1 false (List.drop 0 (List.take (0+List.length (List.drop 0 (List.take n (List.map enc p)))) (([]:List PV)++List.drop 0 (List.take n (List.map enc p)))))]))<=1099511627776))=true∧(At YE 0 (Za Z9 G) Ya 1 60 [(1,(.pv (.sl 3 false (List.map enc fs)))),(2,(.ptr 0 0)),(7,(.row 1 (q+List.length (List.drop 0 (List.take 1 [PV.sl 1 false (List.drop 0 (List.take (0+List.length (List.drop 0 (List.take n (List.map enc p)))) (([]:List PV)++List.drop 0 (List.take n (List.map enc p)))))]))) 0 (q+List.length (List.drop 0 (List.take 1 [PV.sl 1 false (List.drop 0 (List.take (0+List.length (List.drop 0 (List.take n (List.map enc p)))) (([]:List PV)++List.drop 0 (List.take n (List.map enc p)))))]))))),(8,(.row 2 n 0 n)),(9,(.pv (.int .i64 (IntKind.wrap IntKind.i64 ((↑(n - 0):Int) - 1)))))] [(.obj (.box [(.pv (.sl 1 false (List.map enc b.v))),(.pv (.int .i64 b.m))])),(.obj (.row false 34 1 (List.map enc xs++List.drop 0 (List.take 1 [PV.sl 1 false (List.drop 0 (List.take (0+List.length (List.drop 0 (List.take n (List.map enc p)))) (([]:List PV)++List.drop 0 (List.take n (List.map enc p)))))])))),(.obj (.row false 3 1 (List.map enc p)))]))))else(At YE 0 (Za Z9 G) Ya 1 60 [(1,(.pv (.sl 3 false (List.map enc fs)))),(2,(.ptr 0 0)),(7,(.row 1 q 0 q)),(8,(.row 2 n 0 n)),(9,(.pv (.int .i64 (IntKind.wrap IntKind.i64 ((↑(n - 0):Int) - 1)))))] [(.obj (.box [(.pv (.sl 1 false (List.map enc b.v))),(.pv (.int .i64 b.m))])),(.obj (.row false 34 1 (List.map enc xs))),(.obj (.row false 3 1 (List.map enc p)))]))))):At YE 0 (Za Z9 G) Ya 0 60 [(1,.pv (enc fs)),(2,.ptr 0 0),(7,.row 1 q 0 q),(8,.row 2 n 0 n)] [.obj (.box [.pv (enc b.v),.pv (.int .i64 b.m)]),.obj (.row false 34 1 (xs.map enc)),.obj (.row false 3 1 (p.map enc))]:=At.tp (.req (.keep (.req (.abs (Bool) (fun YY=>AV.pv (enc YY)) (.ask (.lit (.req (.req (.req (.lit (.lit (.req (.lit (.nil))))))))) (.lit (.nil))))))) h (by kernel_rfl)
theorem F6{G:PV->Prop}(b:BoxT)(fs:List Fact)(n:Nat)(p:List Int)(k:Int)(h:if (decide (k ≥ 0))=true then(decide (0<=k)&&decide (0+Int.toNat k<n)&&List.length (List.map enc p)==n)=true∧((List.length (List.map enc p)==n&&decide (0+Int.toNat k<List.length (List.map enc p)))=true∧((decide (0+List.length [Sh.int .i64]<=List.length (PV.cells (List.getD (List.map enc p) (0+Int.toNat k) default)))&&Y7 (PV.cells (List.getD (List.map enc p) (0+Int.toNat k) default)) 0 [Sh.int .i64])=true∧(if (PV.asInt (List.getD (PV.cells (List.getD (List.map enc p) (0+Int.toNat k) default)) 0 default)==BoxT.m b)=true then(decide (0<=k)&&decide (0+Int.toNat k<n)&&List.length (List.map enc p)==n)=true∧((List.length (List.map enc p)==n&&decide (0+Int.toNat k<List.length (List.map enc p))&&List.length (PV.cells (PV.int .i64 0))==1&&decide (0+1<=List.length (PV.cells (List.getD (List.map enc p) (0+Int.toNat k) default)))&&PV.cellsOk (PV.int .i64 0))=true∧(At YE 0 (Za Z9 G) Ya 1 60 [(1,(.pv (.sl 3 false (List.map enc fs)))),(2,(.ptr 0 0)),(7,(.pv (.sl 0 true []))),(8,(.row 1 n 0 n)),(9,(.pv (.int .i64 (IntKind.wrap IntKind.i64 (k - 1)))))] [(.obj (.box [(.pv (.sl 1 false (List.map enc b.v))),(.pv (.int .i64 b.m))])),(.obj (.row false 3 1 (List.set (List.map enc p) (0+Int.toNat k) (PV.withCells (List.getD (List.map enc p) (0+Int.toNat k) default) (splice (PV.cells (List.getD (List.map enc p) (0+Int.toNat k) default)) 0 (PV.cells (PV.int .i64 0)))))))]))else(if (decide (k<0))=true then G ((.tup [(.sl 0 true []),(.int .i64 0)]))else((decide (0<=k)&&decide (0+Int.toNat k<n)&&List.length (List.map enc p)==n)=true∧((List.length (List.map enc p)==n&&decide (0+Int.toNat k<List.length (List.map enc p)))=true∧((decide (0+List.length [Sh.int .i64]<=List.length (PV.cells (List.getD (List.map enc p) (0+Int.toNat k) default)))&&Y7 (PV.cells (List.getD (List.map enc p) (0+Int.toNat k) default)) 0 [Sh.int .i64])=true∧((decide (0<=k)&&decide (0+Int.toNat k<n)&&List.length (List.map enc p)==n)=true∧((List.length (List.map enc p)==n&&decide (0+Int.toNat k<List.length (List.map enc p))&&List.length (PV.cells (PV.int .i64 (IntKind.wrap IntKind.i64 (PV.asInt (List.getD (PV.cells (List.getD (List.map enc p) (0+Int.toNat k) default)) 0 default)+1))))==1&&decide (0+1<=List.length (PV.cells (List.getD (List.map enc p) (0+Int.toNat k) default)))&&PV.cellsOk (PV.int .i64 (IntKind.wrap IntKind.i64 (PV.asInt (List.getD (PV.cells (List.getD (List.map enc p) (0+Int.toNat k) default)) 0 default)+1))))=true∧(At YE 0 (Za Z9 G) Ya 0 60 [(1,(.pv (.sl 3 false (List.map enc fs)))),(2,(.ptr 0 0)),(7,(.pv (.sl 0 true []))),(8,(.row 1 n 0 n))] [(.obj (.box [(.pv (.sl 1 false (List.map enc b.v))),(.pv (.int .i64 b.m))])),(.obj (.row false 3 1 (List.set (List.map enc p) (0+Int.toNat k) (PV.withCells (List.getD (List.map enc p) (0+Int.toNat k) default) (splice (PV.cells (List.getD (List.map enc p) (0+Int.toNat k) default)) 0 (PV.cells (PV.int .i64 (IntKind.wrap IntKind.i64 (PV.asInt (List.getD (PV.cells (List.getD (List.map enc p) (0+Int.toNat k) default)) 0 default)+1)))))))))]))))))))))else(if (decide (k<0))=true then G ((.tup [(.sl 0 true []),(.int .i64 0)]))else((decide (0<=k)&&decide (0+Int.toNat k<n)&&List.length (List.map enc p)==n)=true∧((List.length (List.map enc p)==n&&decide (0+Int.toNat k<List.length (List.map enc p)))=true∧((decide (0+List.length [Sh.int .i64]<=List.length (PV.cells (List.getD (List.map enc p) (0+Int.toNat k) default)))&&Y7 (PV.cells (List.getD (List.map enc p) (0+Int.toNat k) default)) 0 [Sh.int .i64])=true∧((decide (0<=k)&&decide (0+Int.toNat k<n)&&List.length (List.map enc p)==n)=true∧((List.length (List.map enc p)==n&&decide (0+Int.toNat k<List.length (List.map enc p))&&List.length (PV.cells (PV.int .i64 (IntKind.wrap IntKind.i64 (PV.asInt (List.getD (PV.cells (List.getD (List.map enc p) (0+Int.toNat k) default)) 0 default)+1))))==1&&decide (0+1<=List.length (PV.cells (List.getD (List.map enc p) (0+Int.toNat k) default)))&&PV.cellsOk (PV.int .i64 (IntKind.wrap IntKind.i64 (PV.asInt (List.getD (PV.cells (List.getD (List.map enc p) (0+Int.toNat k) default)) 0 default)+1))))=true∧(At YE 0 (Za Z9 G) Ya 0 60 [(1,(.pv (.sl 3 false (List.map enc fs)))),(2,(.ptr 0 0)),(7,(.pv (.sl 0 true []))),(8,(.row 1 n 0 n))] [(.obj (.box [(.pv (.sl 1 false (List.map enc b.v))),(.pv (.int .i64 b.m))])),(.obj (.row false 3 1 (List.set (List.map enc p) (0+Int.toNat k) (PV.withCells (List.getD (List.map enc p) (0+Int.toNat k) default) (splice (PV.cells (List.getD (List.map enc p) (0+Int.toNat k) default)) 0 (PV.cells (PV.int .i64 (IntKind.wrap IntKind.i64 (PV.asInt (List.getD (PV.cells (List.getD (List.map enc p) (0+Int.toNat k) default)) 0 default)+1)))))))))])))))))):At YE 0 (Za Z9 G) Ya 1 60 [(1,.pv (enc fs)),(2,.ptr 0 0),(8,.row 1 n 0 n),(7,.pv (.sl 0 true [])),(9,.pv (.int .i64 k))] [.obj (.box [.pv (enc b.v),.pv (.int .i64 b.m)]),.obj (.row false 3 1 (p.map enc))]:=At.tp (.lit (.ask (.lit (.lit (.req (.keep (.lit (.req (.req (.lit (.lit (.lit (.lit (.lit (.ask (.req (.keep (.req (.lit (.nil))))) (.lit (.ask (.nil) (.req (.keep (.req (.req (.lit (.req (.keep (.req (.nil)))))))))))))))))))))))) (.lit (.lit (.lit (.lit (.lit (.lit (.lit (.lit (.lit (.ask (.nil) (.req (.keep (.req (.req (.lit (.req (.keep (.req (.nil))))))))))))))))))))) h (by kernel_rfl)
theorem ME{G:PV->Prop}(b:BoxT)(fs:List Fact)(n:Nat)(p:List Int)(k:Int)(q:Nat)(xs:List (List Int))(h:if (decide (k ≥ 0))=true then(decide (0<=k)&&decide (0+Int.toNat k<n)&&List.length (List.map enc p)==n)=true∧((List.length (List.map enc p)==n&&decide (0+Int.toNat k<List.length (List.map enc p)))=true∧((decide (0+List.length [Sh.int .i64]<=List.length (PV.cells (List.getD (List.map enc p) (0+Int.toNat k) default)))&&Y7 (PV.cells (List.getD (List.map enc p) (0+Int.toNat k) default)) 0 [Sh.int .i64])=true∧(if (PV.asInt (List.getD (PV.cells (List.getD (List.map enc p) (0+Int.toNat k) default)) 0 default)==BoxT.m b)=true then(decide (0<=k)&&decide (0+Int.toNat k<n)&&List.length (List.map enc p)==n)=true∧((List.length (List.map enc p)==n&&decide (0+Int.toNat k<List.length (List.map enc p))&&List.length (PV.cells (PV.int .i64 0))==1&&decide (0+1<=List.length (PV.cells (List.getD (List.map enc p) (0+Int.toNat k) default)))&&PV.cellsOk (PV.int .i64 0))=true∧(At YE 0 (Za Z9 G) Ya 1 60 [(1,(.pv (.sl 3 false (List.map enc fs)))),(2,(.ptr 0 0)),(7,(.row 1 q 0 q)),(8,(.row 2 n 0 n)),(9,(.pv (.int .i64 (IntKind.wrap IntKind.i64 (k - 1)))))] [(.obj (.box [(.pv (.sl 1 false (List.map enc b.v))),(.pv (.int .i64 b.m))])),(.obj (.row false 34 1 (List.map enc xs))),(.obj (.row false 3 1 (List.set (List.map enc p) (0+Int.toNat k) (PV.withCells (List.getD (List.map enc p) (0+Int.toNat k) default) (splice (PV.cells (List.getD (List.map enc p) (0+Int.toNat k) default)) 0 (PV.cells (PV.int .i64 0)))))))]))else(if (decide (k<0))=true then(List.length (List.map enc xs)==q)=true∧(G ((.tup [(.sl 1 false (List.drop 0 (List.take q (List.map enc xs)))),(.int .i64 0)])))else((decide (0<=k)&&decide (0+Int.toNat k<n)&&List.length (List.map enc p)==n)=true∧((List.length (List.map enc p)==n&&decide (0+Int.toNat k<List.length (List.map enc p)))=true∧((decide (0+List.length [Sh.int .i64]<=List.length (PV.cells (List.getD (List.map enc p) (0+Int.toNat k) default)))&&Y7 (PV.cells (List.getD (List.map enc p) (0+Int.toNat k) default)) 0 [Sh.int .i64])=true∧((decide (0<=k)&&decide (0+Int.toNat k<n)&&List.length (List.map enc p)==n)=true∧((List.length (List.map enc p)==n&&decide (0+Int.toNat k<List.length (List.map enc p))&&List.length (PV.cells (PV.int .i64 (IntKind.wrap IntKind.i64 (PV.asInt (List.getD (PV.cells (List.getD (List.map enc p) (0+Int.toNat k) default)) 0 default)+1))))==1&&decide (0+1<=List.length (PV.cells (List.getD (List.map enc p) (0+Int.toNat k) default)))&&PV.cellsOk (PV.int .i64 (IntKind.wrap IntKind.i64 (PV.asInt (List.getD (PV.cells (List.getD (List.map enc p) (0+Int.toNat k) default)) 0 default)+1))))=true∧(At YE 0 (Za Z9 G) Ya 0 60 [(1,(.pv (.sl 3 false (List.map enc fs)))),(2,(.ptr 0 0)),(7,(.row 1 q 0 q)),(8,(.row 2 n 0 n))] [(.obj (.box [(.pv (.sl 1 false (List.map enc b.v))),(.pv (.int .i64 b.m))])),(.obj (.row false 34 1 (List.map enc xs))),(.obj (.row false 3 1 (List.set (List.map enc p) (0+Int.toNat k) (PV.withCells (List.getD (List.map enc p) (0+Int.toNat k) default) (splice (PV.cells (List.getD (List.map enc p) (0+Int.toNat k) default)) 0 (PV.cells (PV.int .i64 (IntKind.wrap IntKind.i64 (PV.asInt (List.getD (PV.cells (List.getD (List.map enc p) (0+Int.toNat k) default)) 0 default)+1)))))))))]))))))))))else(if (decide (k<0))=true then(List.length (List.map enc xs)==q)=true∧(G ((.tup [(.sl 1 false (List.drop 0 (List.take q (List.map enc xs)))),(.int .i64 0)])))else((decide (0<=k)&&decide (0+Int.toNat k<n)&&List.length (List.map enc p)==n)=true∧((List.length (List.map enc p)==n&&decide (0+Int.toNat k<List.length (List.map enc p)))=true∧((decide (0+List.length [Sh.int .i64]<=List.length (PV.cells (List.getD (List.map enc p) (0+Int.toNat k) default)))&&Y7 (PV.cells (List.getD (List.map enc p) (0+Int.toNat k) default)) 0 [Sh.int .i64])=true∧((decide (0<=k)&&decide (0+Int.toNat k<n)&&List.length (List.map enc p)==n)=true∧((List.length (List.map enc p)==n&&decide (0+Int.toNat k<List.length (List.map enc p))&&List.length (PV.cells (PV.int .i64 (IntKind.wrap IntKind.i64 (PV.asInt (List.getD (PV.cells (List.getD (List.map enc p) (0+Int.toNat k) default)) 0 default)+1))))==1&&decide (0+1<=List.length (PV.cells (List.getD (List.map enc p) (0+Int.toNat k) default)))&&PV.cellsOk (PV.int .i64 (IntKind.wrap IntKind.i64 (PV.asInt (List.getD (PV.cells (List.getD (List.map enc p) (0+Int.toNat k) default)) 0 default)+1))))=true∧(At YE 0 (Za Z9 G) Ya 0 60 [(1,(.pv (.sl 3 false (List.map enc fs)))),(2,(.ptr 0 0)),(7,(.row 1 q 0 q)),(8,(.row 2 n 0 n))] [(.obj (.box [(.pv (.sl 1 false (List.map enc b.v))),(.pv (.int .i64 b.m))])),(.obj (.row false 34 1 (List.map enc xs))),(.obj (.row false 3 1 (List.set (List.map enc p) (0+Int.toNat k) (PV.withCells (List.getD (List.map enc p) (0+Int.toNat k) default) (splice (PV.cells (List.getD (List.map enc p) (0+Int.toNat k) default)) 0 (PV.cells (PV.int .i64 (IntKind.wrap IntKind.i64 (PV.asInt (List.getD (PV.cells (List.getD (List.map enc p) (0+Int.toNat k) default)) 0 default)+1)))))))))])))))))):At YE 0 (Za Z9 G) Ya 1 60 [(1,.pv (enc fs)),(2,.ptr 0 0),(7,.row 1 q 0 q),(8,.row 2 n 0 n),(9,.pv (.int .i64 k))] [.obj (.box [.pv (enc b.v),.pv (.int .i64 b.m)]),.obj (.row false 34 1 (xs.map enc)),.obj (.row false 3 1 (p.map enc))]:=At.tp (.lit (.ask (.lit (.lit (.req (.keep (.lit (.req (.req (.lit (.lit (.lit (.lit (.lit (.ask (.req (.keep (.req (.lit (.nil))))) (.lit (.ask (.req (.nil)) (.req (.keep (.req (.req (.lit (.req (.keep (.req (.nil)))))))))))))))))))))))) (.lit (.lit (.lit (.lit (.lit (.lit (.lit (.lit (.lit (.ask (.req (.nil)) (.req (.keep (.req (.req (.lit (.req (.keep (.req (.nil))))))))))))))))))))) h (by kernel_rfl)
end Go.Pl

namespace Go.Pl
open Go.RowKit
open Enc (enc dec is)
open EncL (encL decL isL)
theorem Dv{ts:List Coef}(hn:nzP ts)(x:Str):x∈ts.map (·.v) ↔ Xp ts x.s≠0:=by
 induction ts with
 | nil=>simp[Xp]
 | cons t ts ih=>
  have h1:t.c≠0:=hn t (by simp)
  have h2:nzP ts:=fun u hu=>hn u (by simp[hu])
  rw[YC,List.map_cons,List.mem_cons]
  by_cases e:t.v.s=x.s
  ·rw[if_pos e]
   have:x=t.v:=by cases x;cases h:t.v;rw[h]at e;exact congrArg Str.mk e.symm
   exact⟨fun _=>h1,fun _=>.inl this⟩
  ·rw[if_neg e,<- ih h2]
   exact⟨fun h=>h.resolve_left fun e2=>e (by rw[e2]),.inr⟩
theorem c0d{l:Lin}(s:Str)(ha:Jw l.t)(hn:nzP l.t):Jw (Km l s).t∧nzP (Km l s).t∧ ∀ x,x∈Zd (Km l s) ↔ x=s∨x∈Zd l:=by
 unfold Km
 by_cases h:Xp l.t s.s=0
 ·rw[if_pos h]
  refine⟨b6l s 1 ha,a0y l s 1,fun x=> ?_⟩
  unfold Zd
  rw[Dv (a0y l s 1),Dv hn,a6f s (c:=1) (by decide) ha]
  by_cases e:s.s=x.s
  ·rw[if_pos e,h]
   have:x=s:=by cases x;cases s;exact congrArg Str.mk e.symm
   exact⟨fun _=>.inl this,fun _=>by decide⟩
  ·rw[if_neg e]
   exact⟨.inr,fun h=>h.resolve_left fun e2=>e (by rw[e2])⟩
 ·rw[if_neg h]
  refine⟨ha,hn,fun x=>⟨.inr,fun hx=> ?_⟩⟩
  rcases hx with rfl|hx
  ·unfold Zd;rw[Dv hn];exact h
  ·exact hx
theorem Fw: ∀ (ss:List Str) {l:Lin},Jw l.t->nzP l.t->Jw (ss.foldl Km l).t∧nzP (ss.foldl Km l).t∧ ∀ x,x∈Zd (ss.foldl Km l) ↔ x∈ss∨x∈Zd l
 | [],l,ha,hn=>⟨ha,hn,fun x=>by simp⟩
 | s::ss,l,ha,hn=>by
  obtain⟨h1,h2,h3⟩:=c0d s ha hn
  obtain⟨k1,k2,k3⟩:=Fw ss h1 h2
  refine⟨k1,k2,fun x=> ?_⟩
  rw[List.foldl_cons,k3,h3,List.mem_cons]
  constructor
  ·rintro(h|h|h)
   ·exact .inl (.inr h)
   ·exact .inl (.inl h)
   ·exact .inr h
  ·rintro((h|h)|h)
   ·exact .inr (.inl h)
   ·exact .inl h
   ·exact .inr (.inr h)
theorem TT: ∀ (ls:List Lin) {l:Lin},Jw l.t->nzP l.t-> ∀ x,x∈Zd (ls.foldl JF l) ↔ x∈ls.flatMap Zd∨x∈Zd l
 | [],l,ha,hn,x=>by simp
 | a::ls,l,ha,hn,x=>by
  obtain⟨h1,h2,h3⟩:=Fw (Zd a) ha hn
  rw[List.foldl_cons,TT ls (l:=JF l a) h1 h2,List.flatMap_cons,List.mem_append]
  show _∨x∈Zd (List.foldl Km l (Zd a)) ↔ _
  rw[h3]
  constructor
  ·rintro(h|h|h)
   ·exact .inl (.inr h)
   ·exact .inl (.inl h)
   ·exact .inr h
  ·rintro((h|h)|h)
   ·exact .inr (.inl h)
   ·exact .inl h
   ·exact .inr (.inr h)
theorem a7v(ls:List Lin)(x:Str):x∈Ux ls ↔ x∈ls.flatMap Zd:=by
 have:=TT ls (l:=⟨0,[]⟩) (List.Pairwise.nil) (fun t ht=>by cases ht) x
 exact this.trans ⟨fun h=>h.resolve_right (fun h=>by cases h),Or.inl⟩
theorem a7a{v a b:List Str}(h : ∀ x,x∈a ↔ x∈b):YG v a=YG v b:=by
 rw[Bool.eq_iff_iff]
 unfold YG
 rw[List.all_eq_true,List.all_eq_true]
 exact⟨fun k x hx=>k x ((h x).2 hx),fun k x hx=>k x ((h x).1 hx)⟩
theorem Jh(v a b:List Str):YG v (a++b)=(YG v a&&YG v b):=by unfold YG;rw[List.all_append]
def G5(b:BoxT)(fs:List Fact)(l:Lin)(p:List Mono):Int:=Zp b fs (Zq l&&ZI p) (Zd l++Vg p)
theorem c4e{b:BoxT}{fs:List Fact}{l:Lin}{p:List Mono}(h1:YI b=true)(h2:Yr fs=true)(h3:Zq l=true)(h4:ZI p=true):
  G5 b fs l p=if !(YG b.v (Ux (fs.map (·.l)++[l])))then 7 else if !(YG b.v (Vg p))then 7 else 0:=by
 unfold G5 Zp
 have e:YG b.v (Ux (fs.map (·.l)++[l]))=(YG b.v (Zd l)&&YG b.v (fs.flatMap fun f=>Zd f.l)):=by
  rw[<- Jh]
  refine a7a fun x=> ?_
  rw[a7v,List.flatMap_append,List.mem_append,List.mem_append,List.flatMap_map]
  simp only[List.flatMap_cons,List.flatMap_nil,List.append_nil]
  exact Or.comm
 rw[h1,h2,h3,h4,e,if_neg (by simp),Jh,Jh]
 cases YG b.v (Zd l) <;> cases YG b.v (Vg p) <;> cases YG b.v (fs.flatMap fun f=>Zd f.l) <;> rfl
theorem b6b(ls:List Lin)(h:Vr ls=true):(Ux ls).length<=9223372036854775807:=by
 simp only[Vr,Bool.and_eq_true,decide_eq_true_eq,List.all_eq_true]at h
 have in1 : ∀ (ss:List Str) (l:Lin),(ss.foldl Km l).t.length<=l.t.length+ss.length:=by
  intro ss
  induction ss with
  | nil=>intro l;simp
  | cons s ss ih=>intro l;rw[List.foldl_cons];have:=ih (Km l s);have:=b5b l s;rw[List.length_cons];omega
 have in2 : ∀ (ls:List Lin),(∀ l∈ls,l.t.length<=1000)-> ∀ l:Lin,(ls.foldl JF l).t.length<=l.t.length+1000*ls.length:=by
  intro ls
  induction ls with
  | nil=>intro _ l;simp
  | cons a ls ih=>
   intro hl l
   rw[List.foldl_cons]
   have h1:=ih (fun x hx=>hl x (by simp[hx])) (JF l a)
   have h2:=in1 (Zd a) l
   have h3:=hl a (by simp)
   have h4:(Zd a).length=a.t.length:=by unfold Zd;rw[List.length_map]
   unfold JF at h1 ⊢
   rw[List.length_cons]
   omega
 have:=in2 ls h.2 ⟨0,[]⟩
 have e:(Ux ls).length=(ls.foldl JF ⟨0,[]⟩).t.length:=by
  show(Zd (ls.foldl JF ⟨0,[]⟩)).length=_
  unfold Zd
  rw[List.length_map]
 have e0:((⟨0,[]⟩:Lin).t).length=0:=rfl
 omega
theorem b9y(p:List Mono)(h:Xg p=true):(Vg p).length<=9223372036854775807:=by
 have:p=[]:=by simpa [Xg]using h
 subst this
 decide
theorem BK(b:BoxT)(fs:List Fact)(l:Lin)(p:List Mono)(h1:YI b=true)(h2:Yr fs=true)(h3:Zq l=true)(h4:ZI p=true)(hb:Zn b.v=true)(hp:Xg p=true)(hfl:fs.length<=100):
  (Go.Pl.preT (fun(x:List Lin×Unit)=>Vr (Prod.fst x)) [(.sl 2 false (List.map enc (fs.map (·.l)++[l])))])=true∧(∃ y1:List Str,AV.pv (Ze (fun(x:List Lin×Unit)=>Ux (Prod.fst x)) [(.sl 2 false (List.map enc (fs.map (·.l)++[l])))])=AV.pv (enc y1) ∧
   ((Go.Pl.preT (fun(x:BoxT×List Str×Unit)=>Zn (BoxT.v (Prod.fst x))&&Zn (Prod.fst (Prod.snd x))) [(.agg [(.sl 1 false (List.map enc (BoxT.v b))),(.int .i64 (BoxT.m b))]),(.sl 1 false (List.map enc y1))])=true ∧
   (∃ y2:Bool,AV.pv (Ze (fun(x:BoxT×List Str×Unit)=>YG (BoxT.v (Prod.fst x)) (Prod.fst (Prod.snd x))) [(.agg [(.sl 1 false (List.map enc (BoxT.v b))),(.int .i64 (BoxT.m b))]),(.sl 1 false (List.map enc y1))])=AV.pv (enc y2) ∧
   (if (!y2)=true then Zg (G5 b fs l p) ((.int .i64 7))else((Go.Pl.preT (fun(x:List Mono×Unit)=>Xg (Prod.fst x)) [(.sl 2 false (List.map enc p))])=true ∧
   (∃ y3:List Str,AV.pv (Ze (fun(x:List Mono×Unit)=>Vg (Prod.fst x)) [(.sl 2 false (List.map enc p))])=AV.pv (enc y3) ∧
   ((Go.Pl.preT (fun(x:BoxT×List Str×Unit)=>Zn (BoxT.v (Prod.fst x))&&Zn (Prod.fst (Prod.snd x))) [(.agg [(.sl 1 false (List.map enc (BoxT.v b))),(.int .i64 (BoxT.m b))]),(.sl 1 false (List.map enc y3))])=true ∧
   (∃ y4:Bool,AV.pv (Ze (fun(x:BoxT×List Str×Unit)=>YG (BoxT.v (Prod.fst x)) (Prod.fst (Prod.snd x))) [(.agg [(.sl 1 false (List.map enc (BoxT.v b))),(.int .i64 (BoxT.m b))]),(.sl 1 false (List.map enc y3))])=AV.pv (enc y4) ∧
   (if (!y4)=true then Zg (G5 b fs l p) ((.int .i64 7))else(Zg (G5 b fs l p) ((.int .i64 0)))))))))))):=by
 have hv6:Vr (fs.map (·.l)++[l])=true:=by
  simp only[Vr,Bool.and_eq_true,decide_eq_true_eq,List.all_eq_true]
  refine⟨by simp;omega,fun x hx=> ?_⟩
  have hx2:Zq x=true:=by
   rcases List.mem_append.1 hx with hx|hx
   ·obtain⟨f,hf,rfl⟩:=List.mem_map.1 hx
    exact List.all_eq_true.1 h2 f hf
   ·rw[List.mem_singleton.1 hx];exact h3
  have:=Ty hx2
  omega
 refine⟨Zj ((fs.map (·.l)++[l]),()) rfl hv6,Zh ((fs.map (·.l)++[l]),()) rfl ⟨Zj (b,Ux (fs.map (·.l)++[l]),()) rfl (by
  show(Zn b.v&&Zn (Ux (fs.map (·.l)++[l])))=true
  rw[hb,Zy.2 (b6b _ hv6)];rfl),Zh (b,Ux (fs.map (·.l)++[l]),()) rfl ?_⟩⟩
 rw[c4e h1 h2 h3 h4]
 refine X8 (fun h=> ?_) fun h=>⟨Zj (p,()) rfl hp,Zh (p,()) rfl ⟨Zj (b,Vg p,()) rfl (by
  show(Zn b.v&&Zn (Vg p))=true
  rw[hb,Zy.2 (b9y p hp)];rfl),Zh (b,Vg p,()) rfl ?_⟩⟩
 ·have h:YG b.v (Ux (fs.map (·.l)++[l]))=false:=h
  rw[h];exact Uw rfl
 ·have h:YG b.v (Ux (fs.map (·.l)++[l]))=true:=h
  rw[h]
  refine X8 (fun h5=> ?_) fun h5=> ?_
  ·have h5:YG b.v (Vg p)=false:=h5
   rw[h5];exact Uw rfl
  ·have h5:YG b.v (Vg p)=true:=h5
   rw[h5];exact Uw rfl
theorem b1b(f:Fact):PV.agg (VA (List.drop 1 (PV.cells (enc f))) 0 [Sh.int .i64,Sh.sl 2])=enc f.l:=rfl
theorem LW(b:BoxT)(fs:List Fact)(l:Lin)(p:List Mono)(h1:YI b=true)(h2:Yr fs=true)(h3:Zq l=true)(h4:ZI p=true)(hb:Zn b.v=true)(hp:Xg p=true)(hfl:fs.length<=100): ∀ (d i:Nat),d+i=fs.length->1<=i ->
  At WL 0 (Za XR (Zg (G5 b fs l p))) Wu 0 58 [(1,.pv (enc fs)),(3,.pv (enc p)),(4,.ptr 0 0),(6,.ptr 1 0),(9,.row 2 i 0 i),(10,.pv (.int .i64 i))] [.obj (.box [.pv (enc b.v),.pv (.int .i64 b.m)]),.obj (.box [.pv (.int .i64 l.k),.pv (enc l.t)]),.obj (.row false 24 2 (((fs.take i).map (·.l)).map enc))]:=by
 intro d
 induction d with
 | zero=>
  intro i hi h1'
  have htk:fs.take i=fs:=List.take_of_length_le (by omega)
  have hmi:(List.map (enc:Lin->PV) (fs.map (·.l))).length=i:=by simp;omega
  rw[htk]
  apply Ab (G:=Zg (G5 b fs l p)) b fs l p i i (fs.map (·.l))
  apply ZK (Xt (by omega))
  refine⟨?_,?_,?_⟩
  ·rw[hmi]
   show((i==i)&&(i==i)&&decide ((i+1)*32<=1099511627776)&&decide (i+1<=1099511627776))=true
   rw[decide_eq_true (by omega),decide_eq_true (by omega)];simp
  ·rw[List.length_append,hmi];simp
  ·have e:List.map (enc:Lin->PV) (fs.map (·.l))++List.drop 0 (List.take 1 [PV.agg [PV.int .i64 l.k,enc l.t]])=List.map enc (fs.map (·.l)++[l]):=by rw[List.map_append];rfl
   have e2:List.drop 0 (List.take (i+List.length (List.drop 0 (List.take 1 [PV.agg [PV.int .i64 l.k,enc l.t]]))) (List.map (enc:Lin->PV) (fs.map (·.l)++[l])))=List.map enc (fs.map (·.l)++[l]):=by
    rw[List.drop_zero,List.take_of_length_le (by rw[List.map_append,List.length_append,hmi];simp)]
   rw[e,e2]
   exact BK b fs l p h1 h2 h3 h4 hb hp hfl
 | succ d ih=>
  intro i hi h1'
  have hlt:i<fs.length:=by omega
  apply Ab (G:=Zg (G5 b fs l p)) b fs l p i i ((fs.take i).map (·.l))
  apply ZE (YR hlt)
  refine⟨Zt hlt rfl,Zx hlt ⟨?_,?_⟩⟩
  ·rw[b1b]
   have hq:(List.map (enc:Lin->PV) ((fs.take i).map (·.l))).length=i:=by simp;omega
   rw[hq]
   show((i==i)&&(i==i)&&decide ((i+1)*32<=1099511627776)&&decide (i+1<=1099511627776))=true
   rw[decide_eq_true (by omega),decide_eq_true (by omega)];simp
  ·rw[b1b,next (by omega)]
   have:=ih (i+1) (by omega) (by omega)
   rw[List.take_succ_eq_append_getElem hlt,List.map_append,List.map_append]at this
   exact this
theorem EB: ∀ x:BoxT×List Fact×Lin×List Mono×Unit,(ZC x.1&&Zi x.2.1&&decide (x.2.1.length<=100)&&Yx x.2.2.1&&Xg x.2.2.2.1)=true ->
  Zc WL 0 (Za XR (Zg (Zp x.1 x.2.1 (Zq x.2.2.1&&ZI x.2.2.2.1) (Zd x.2.2.1++Vg x.2.2.2.1)))) Wu [] (Ye a8j (encL x)):=by
 rintro⟨b,fs,l,p,⟨⟩⟩ h
 simp only[Bool.and_eq_true,decide_eq_true_eq]at h
 obtain⟨⟨⟨⟨hb,hf⟩,hfl⟩,hl⟩,hp⟩:=h
 have hbo:=hb
 simp only[ZC,WF,Bool.and_eq_true]at hb
 show Zc WL 0 (Za XR (Zg (G5 b fs l p))) _ _ _
 have bad : ∀ q:Bool,q=(YI b&&Yr fs&&(Zq l&&ZI p))->q=false->Zg (G5 b fs l p) (.int .i64 1):=by
  intro q hq hq0
  refine Uw ?_
  unfold G5 Zp
  rw[if_pos]
  rw[hq0]at hq
  cases h1:YI b
  ·simp
  ·cases h2:Yr fs
   ·simp
   ·rw[h1,h2]at hq
    revert hq
    cases Zq l <;> cases ZI p <;> simp
 refine b7r b fs l p ⟨Zj (b,()) rfl hbo,Zh (b,()) rfl (X8 (fun h1=>bad _ rfl ?_) fun h1=>⟨Zj (fs,()) rfl hf,Zh (fs,()) rfl (X8 (fun h2=>bad _ rfl ?_) fun h2=>⟨Zj (l,()) rfl hl,Zh (l,()) rfl (X8 (fun h3=>bad _ rfl ?_) fun h3=>⟨Zj (p,()) rfl hp,Zh (p,()) rfl (X8 (fun h4=>bad _ rfl ?_) fun h4=> ?_)⟩)⟩)⟩)⟩
 ·have h1:YI b=false:=h1
  rw[h1];rfl
 ·have h2:Yr fs=false:=h2
  rw[h2];simp
 ·have h3:Zq l=false:=h3
  rw[h3];simp
 ·have h4:ZI p=false:=h4
  rw[h4];simp
 ·have h1:YI b=true:=h1
  have h2:Yr fs=true:=h2
  have h3:Zq l=true:=h3
  have h4:ZI p=true:=h4
  cases hfs:fs with
  | nil=>
   subst hfs
   apply BO (G:=Zg (G5 b [] l p)) b [] l p ((0:Nat):Int)
   apply ZK (Xt (by simp))
   exact BK b [] l p h1 h2 h3 h4 hb.1 hp hfl
  | cons f r=>
   have hlt:0<fs.length:=by rw[hfs];simp
   rw[<- hfs]
   apply BO (G:=Zg (G5 b fs l p)) b fs l p ((0:Nat):Int)
   apply ZE (YR hlt)
   refine⟨Zt hlt rfl,Zx hlt ?_⟩
   rw[next (by omega)]
   have:=LW b fs l p h1 h2 h3 h4 hb.1 hp hfl (fs.length - 1) 1 (by omega) (by omega)
   rw[show(1:Nat)=0+1 from rfl,List.take_succ_eq_append_getElem hlt]at this
   exact this
theorem b7a(b:BoxT)(fs:List Fact)(R:List (List Int)×Int)(n:Nat)(p0:List Int)(hend:VJ b.m p0=none->Zg R (.tup [.sl 0 true [],.int .i64 0]))
  (hcont : ∀ p,VJ b.m p0=some p->At YE 0 (Za Z9 (Zg R)) Ya 0 60 [(1,.pv (enc fs)),(2,.ptr 0 0),(8,.row 1 n 0 n),(7,.pv (.sl 0 true []))] [.obj (.box [.pv (enc b.v),.pv (.int .i64 b.m)]),.obj (.row false 3 1 (p.map enc))]) :
  ∀ (k:Nat) (p:List Int),p.length=n->n<=1000->k<=n->(∀ x∈p,-1<=x∧x<=20000)->YP b.m k p=VJ b.m p0 ->
  At YE 0 (Za Z9 (Zg R)) Ya 1 60 [(1,.pv (enc fs)),(2,.ptr 0 0),(8,.row 1 n 0 n),(7,.pv (.sl 0 true [])),(9,.pv (.int .i64 ((k:Int) - 1)))] [.obj (.box [.pv (enc b.v),.pv (.int .i64 b.m)]),.obj (.row false 3 1 (p.map enc))]:=by
 intro k
 induction k with
 | zero=>
  intro p hpn hn hk hx hnk
  refine F6 b fs n p _ (ZK (by simp) (ZE (by simp) ?_))
  exact hend hnk.symm
 | succ k ih=>
  intro p hpn hn hk hx hnk
  have hlt:k<p.length:=by omega
  have ek:((k+1:Nat):Int) - 1=(k:Int):=by omega
  rw[ek]
  have e:=UU hlt
  have eg:p.getD k 0=p[k]:=by simp[List.getD,hlt]
  have hxk:=hx _ (List.getElem_mem hlt)
  have q1:(decide (0<=(k:Int))&&decide (0+Int.toNat (k:Int)<n)&&List.length (List.map (enc:Int->PV) p)==n)=true:=by simp;omega
  have q2:(List.length (List.map (enc:Int->PV) p)==n&&decide (0+Int.toNat (k:Int)<List.length (List.map (enc:Int->PV) p)))=true:=by simp;omega
  have hset : ∀ y:Int,List.set (List.map (enc:Int->PV) p) (0+Int.toNat (k:Int)) (enc y)=(p.set k y).map enc:=fun y=>by rw[Nat.zero_add,Int.toNat_natCast,List.map_set]
  refine F6 b fs n p k (ZE (by simp) ?_)
  rw[e]
  refine⟨q1,q2,rfl,Q7 (fun h=>⟨q1,?_,?_⟩) fun h=>ZK (by simp) ⟨q1,q2,rfl,q1,?_,?_⟩⟩
  ·rw[q2];rfl
  ·have h:p[k]=b.m:=h
   have hn':YP b.m (k+1) p=YP b.m k (p.set k 0):=by rw[YP,eg,if_pos h]
   have hw:IntKind.i64.wrap ((k:Int) - 1)=(k:Int) - 1:=XJ (by omega) (by omega)
   rw[hw]
   have:=ih (p.set k 0) (by rw[List.length_set];exact hpn) hn (by omega) (fun x hx'=>by
    rcases List.mem_or_eq_of_mem_set hx' with h|rfl
    ·exact hx x h
    ·omega) (by rw[<- hn'];exact hnk)
   have e0:=hset 0
   rw[<- e0]at this
   exact this
  ·rw[q2];rfl
  ·have h : ¬ p[k]=b.m:=h
   have hn':YP b.m (k+1) p=some (p.set k (p[k]+1)):=by rw[YP,eg,if_neg h]
   have hw:IntKind.i64.wrap (p[k]+1)=p[k]+1:=XJ (by omega) (by omega)
   have:=hcont _ (hnk.symm.trans hn')
   have e0:=hset (IntKind.i64.wrap (p[k]+1))
   rw[hw]at e0
   rw[<- e0]at this
   have hww:(PV.int .i64 (IntKind.i64.wrap (p[k]+1)))=enc (p[k]+1):=by rw[hw];rfl
   show At YE 0 (Za Z9 (Zg R)) Ya 0 60 _ [_,.obj (.row false 3 1 (List.set (List.map enc p) (0+Int.toNat (k:Int)) (PV.int .i64 (IntKind.i64.wrap (p[k]+1)))))]
   rw[hww]
   exact this
theorem b7f(b:BoxT)(fs:List Fact)(R:List (List Int)×Int)(n:Nat)(q:Nat)(xs:List (List Int))(hq:xs.length=q)(p0:List Int)(hend:VJ b.m p0=none->Zg R (.tup [.sl 1 false (xs.map enc),.int .i64 0]))
  (hcont : ∀ p,VJ b.m p0=some p->At YE 0 (Za Z9 (Zg R)) Ya 0 60 [(1,.pv (enc fs)),(2,.ptr 0 0),(7,.row 1 q 0 q),(8,.row 2 n 0 n)] [.obj (.box [.pv (enc b.v),.pv (.int .i64 b.m)]),.obj (.row false 34 1 (xs.map enc)),.obj (.row false 3 1 (p.map enc))]) :
  ∀ (k:Nat) (p:List Int),p.length=n->n<=1000->k<=n->(∀ x∈p,-1<=x∧x<=20000)->YP b.m k p=VJ b.m p0 ->
  At YE 0 (Za Z9 (Zg R)) Ya 1 60 [(1,.pv (enc fs)),(2,.ptr 0 0),(7,.row 1 q 0 q),(8,.row 2 n 0 n),(9,.pv (.int .i64 ((k:Int) - 1)))] [.obj (.box [.pv (enc b.v),.pv (.int .i64 b.m)]),.obj (.row false 34 1 (xs.map enc)),.obj (.row false 3 1 (p.map enc))]:=by
 intro k
 induction k with
 | zero=>
  intro p hpn hn hk hx hnk
  refine ME b fs n p _ q xs (ZK (by simp) (ZE (by simp) ?_))
  refine⟨by simp[hq],?_⟩
  rw[List.drop_zero,List.take_of_length_le (by simp[hq])]
  exact hend hnk.symm
 | succ k ih=>
  intro p hpn hn hk hx hnk
  have hlt:k<p.length:=by omega
  have ek:((k+1:Nat):Int) - 1=(k:Int):=by omega
  rw[ek]
  have e:=UU hlt
  have eg:p.getD k 0=p[k]:=by simp[List.getD,hlt]
  have hxk:=hx _ (List.getElem_mem hlt)
  have q1:(decide (0<=(k:Int))&&decide (0+Int.toNat (k:Int)<n)&&List.length (List.map (enc:Int->PV) p)==n)=true:=by simp;omega
  have q2:(List.length (List.map (enc:Int->PV) p)==n&&decide (0+Int.toNat (k:Int)<List.length (List.map (enc:Int->PV) p)))=true:=by simp;omega
  have hset : ∀ y:Int,List.set (List.map (enc:Int->PV) p) (0+Int.toNat (k:Int)) (enc y)=(p.set k y).map enc:=fun y=>by rw[Nat.zero_add,Int.toNat_natCast,List.map_set]
  refine ME b fs n p k q xs (ZE (by simp) ?_)
  rw[e]
  refine⟨q1,q2,rfl,Q7 (fun h=>⟨q1,?_,?_⟩) fun h=>ZK (by simp) ⟨q1,q2,rfl,q1,?_,?_⟩⟩
  ·rw[q2];rfl
  ·have h:p[k]=b.m:=h
   have hn':YP b.m (k+1) p=YP b.m k (p.set k 0):=by rw[YP,eg,if_pos h]
   have hw:IntKind.i64.wrap ((k:Int) - 1)=(k:Int) - 1:=XJ (by omega) (by omega)
   rw[hw]
   have:=ih (p.set k 0) (by rw[List.length_set];exact hpn) hn (by omega) (fun x hx'=>by
    rcases List.mem_or_eq_of_mem_set hx' with h|rfl
    ·exact hx x h
    ·omega) (by rw[<- hn'];exact hnk)
   have e0:=hset 0
   rw[<- e0]at this
   exact this
  ·rw[q2];rfl
  ·have h : ¬ p[k]=b.m:=h
   have hn':YP b.m (k+1) p=some (p.set k (p[k]+1)):=by rw[YP,eg,if_neg h]
   have hw:IntKind.i64.wrap (p[k]+1)=p[k]+1:=XJ (by omega) (by omega)
   have:=hcont _ (hnk.symm.trans hn')
   have e0:=hset (IntKind.i64.wrap (p[k]+1))
   rw[hw]at e0
   rw[<- e0]at this
   have hww:(PV.int .i64 (IntKind.i64.wrap (p[k]+1)))=enc (p[k]+1):=by rw[hw];rfl
   show At YE 0 (Za Z9 (Zg R)) Ya 0 60 _ [_,_,.obj (.row false 3 1 (List.set (List.map enc p) (0+Int.toNat (k:Int)) (PV.int .i64 (IntKind.i64.wrap (p[k]+1)))))]
   rw[hww]
   exact this
def Ed(b:BoxT)(fs:List Fact)(R:List (List Int)×Int)(n:Nat)(p:List Int)(k:Nat):Prop:=
 if k=0 then At YE 0 (Za Z9 (Zg R)) Ya 0 60 [(1,.pv (enc fs)),(2,.ptr 0 0),(8,.row 1 n 0 n),(7,.pv (.sl 0 true []))] [.obj (.box [.pv (enc b.v),.pv (.int .i64 b.m)]),.obj (.row false 3 1 (p.map enc))]
 else At YE 0 (Za Z9 (Zg R)) Ya 0 60 [(1,.pv (enc fs)),(2,.ptr 0 0),(7,.row 1 k 0 k),(8,.row 2 n 0 n)] [.obj (.box [.pv (enc b.v),.pv (.int .i64 b.m)]),.obj (.row false 34 1 (((ZR b fs).take k).map enc)),.obj (.row false 3 1 (p.map enc))]
theorem Nk(p:List Int)(n:Nat)(h:p.length=n):(PV.sl 1 false (List.drop 0 (List.take (0+List.length (List.drop 0 (List.take n (List.map (enc:Int->PV) p)))) (([]:List PV)++List.drop 0 (List.take n (List.map enc p))))))=enc p:=by
 subst h
 rw[List.nil_append,List.drop_zero,List.take_of_length_le (by simp:(List.map (enc:Int->PV) p).length<=p.length),List.drop_zero,List.take_of_length_le (by simp)]
 rfl
theorem a6l(b:BoxT)(fs:List Fact)(hv:YI b=true)(hf:Zi fs=true)(hl:b.v.length<=1000): ∀ (lst:List (List Int)) (p:List Int) (k:Nat),Walk b.m p lst->p.length=b.v.length->(∀ y∈lst,∀ x∈y,-1<=x∧x<=20000)->(ZR b fs).drop k=lst.filter (XD b.v fs)->k<=(ZR b fs).length ->
  Ed b fs (ZR b fs,0) b.v.length p k:=by
 intro lst
 induction lst with
 | nil=>intro p k hw;cases hw
 | cons p' rest ih=>
  intro p k hw hpl hpx hdr hk
  obtain⟨t,ht⟩ : ∃ t,p'::rest=p::t:=by
   cases hw with
   | last h=>exact⟨[],rfl⟩
   | step h k=>exact⟨_,rfl⟩
  injection ht with ht1 ht2
  subst ht1 ht2
  have hlen:=a2h (fs:=fs) hv
  have hp:p'.length<=1000:=by omega
  have hpre:XZ [(.pv (.agg [(.sl 1 false (List.map enc (BoxT.v b))),(.int .i64 (BoxT.m b))])),(.row 0 b.v.length 0 b.v.length)] [(.row false 3 1 (List.map enc p'))]=true:=by
   show(b.v.length==b.v.length&&(p'.map enc).length==b.v.length&&3==3&&VG (List Int) (enc p')&&VG (List Str) (enc b.v)&&decide ((dec (enc b.v:PV):List Str).length<=1000)&&decide (b.v.length<=1000))=true
   rw[Z0,Z0,Enc.dec_enc,decide_eq_true hl,List.length_map,hpl];simp
  have hvals:Zf (dec (enc b.v:PV)) (Ai (List.map enc p'))=Zf b.v p':=by rw[GK,Enc.dec_enc]
  have hh:(fs,Zf b.v p',()).1=fs:=rfl
  have hpreH:(Go.Pl.preT (fun(x:List Fact×List Coef×Unit)=>Zi (Prod.fst x)&&decide (List.length (Prod.fst (Prod.snd x))<=9223372036854775807)) [(.sl 3 false (List.map enc fs)),(.sl 2 false (List.map enc (Zf b.v p')))])=true:=by
   refine Zj (fs,Zf b.v p',()) rfl ?_
   show(Zi fs&&decide ((Zf b.v p').length<=9223372036854775807))=true
   rw[hf,decide_eq_true (by unfold Zf;rw[List.length_zipWith];omega)];rfl
  -- what comes behind the point
  have hend : ∀ k',(ZR b fs).drop k'=rest.filter (XD b.v fs)->k'<=(ZR b fs).length->VJ b.m p'=none->k'=(ZR b fs).length:=by
   intro k' h1 h2 h3
   cases hw with
   | step h _=>rw[h]at h3;cases h3
   | last h=>
    have e:=congrArg List.length h1
    rw[List.length_drop]at e
    simp at e
    omega
  have hcont : ∀ k',(ZR b fs).drop k'=rest.filter (XD b.v fs)->k'<=(ZR b fs).length-> ∀ q,VJ b.m p'=some q->Ed b fs (ZR b fs,0) b.v.length q k':=by
   intro k' h1 h2 q hq
   cases hw with
   | last h=>rw[h]at hq;cases hq
   | step h hw'=>
    rw[h]at hq
    cases hq
    exact ih q k' hw' ((Dl _ _ _ _ h).trans hpl) (fun y hy=>hpx y (by simp[hy])) h1 h2
  have hx:=hpx p' (by simp)
  -- the two ways on
  have goA:(ZR b fs).drop 0=rest.filter (XD b.v fs)->At YE 0 (Za Z9 (Zg (ZR b fs,(0:Int)))) Ya 1 60 [(1,.pv (enc fs)),(2,.ptr 0 0),(8,.row 1 b.v.length 0 b.v.length),(7,.pv (.sl 0 true [])),(9,.pv (.int .i64 ((b.v.length:Int) - 1)))] [.obj (.box [.pv (enc b.v),.pv (.int .i64 b.m)]),.obj (.row false 3 1 (p'.map enc))]:=by
   intro h1
   refine b7a b fs (ZR b fs,0) b.v.length p' (fun hn=> ?_) (fun q hq=> ?_) b.v.length p' hpl hl (Nat.le_refl _) hx (by unfold VJ;rw[hpl])
   ·have:=hend 0 h1 (Nat.zero_le _) hn
    rw[List.length_eq_zero_iff.1 this.symm]
    exact⟨rfl,rfl⟩
   ·have:=hcont 0 h1 (Nat.zero_le _) q hq
    unfold Ed at this
    rw[if_pos rfl]at this
    exact this
  have goB : ∀ k',k'≠0->(ZR b fs).drop k'=rest.filter (XD b.v fs)->k'<=(ZR b fs).length->At YE 0 (Za Z9 (Zg (ZR b fs,(0:Int)))) Ya 1 60 [(1,.pv (enc fs)),(2,.ptr 0 0),(7,.row 1 k' 0 k'),(8,.row 2 b.v.length 0 b.v.length),(9,.pv (.int .i64 ((b.v.length:Int) - 1)))] [.obj (.box [.pv (enc b.v),.pv (.int .i64 b.m)]),.obj (.row false 34 1 (((ZR b fs).take k').map enc)),.obj (.row false 3 1 (p'.map enc))]:=by
   intro k' hk0 h1 h2
   refine b7f b fs (ZR b fs,0) b.v.length k' ((ZR b fs).take k') (by rw[List.length_take];omega) p' (fun hn=> ?_) (fun q hq=> ?_) b.v.length p' hpl hl (Nat.le_refl _) hx (by unfold VJ;rw[hpl])
   ·have:=hend k' h1 h2 hn
    rw[this,List.take_length]
    exact ZQ (x:=(ZR b fs,(0:Int))) rfl
   ·have:=hcont k' h1 h2 q hq
    unfold Ed at this
    rw[if_neg hk0]at this
    exact this
  have hw0:IntKind.i64.wrap (((b.v.length - 0:Nat):Int) - 1)=(b.v.length:Int) - 1:=by rw[Nat.sub_zero];exact XJ (by omega) (by omega)
  have c1:(List.length (List.map (enc:Int->PV) p')==b.v.length)=true:=by simp[hpl]
  have c2:(List.length ([]:List PV)==0&&0==0&&decide ((0+List.length (List.drop 0 (List.take b.v.length (List.map (enc:Int->PV) p'))))*8<=1099511627776)&&decide (0+List.length (List.drop 0 (List.take b.v.length (List.map (enc:Int->PV) p')))<=1099511627776))=true:=by simp;omega
  have c3:(List.length (([]:List PV)++List.drop 0 (List.take b.v.length (List.map (enc:Int->PV) p')))==0+List.length (List.drop 0 (List.take b.v.length (List.map (enc:Int->PV) p'))))=true:=by simp
  by_cases hin:XD b.v fs p'=true
  ·rw[List.filter_cons,if_pos hin]at hdr
   have hk1:k<(ZR b fs).length:=by
    have e:=congrArg List.length hdr
    rw[List.length_drop]at e
    simp at e
    omega
   have hpk:(ZR b fs)[k]=p':=by
    have:=List.drop_eq_getElem_cons hk1
    rw[hdr]at this
    injection this with this _
    exact this.symm
   have hdr2:(ZR b fs).drop (k+1)=rest.filter (XD b.v fs):=by
    have:=List.drop_eq_getElem_cons hk1
    rw[hdr]at this
    injection this with _ this
    exact this.symm
   have ht:(ZR b fs).take (k+1)=(ZR b fs).take k++[p']:=by rw[List.take_succ_eq_append_getElem hk1,hpk]
   have hb:=goB (k+1) (by omega) hdr2 hk1
   unfold Ed
   by_cases hk0:k=0
   ·subst hk0
    rw[if_pos rfl]
    refine MJ b fs b.v.length p' ⟨hpre,?_⟩
    rw[hvals]
    refine⟨hpreH,Zh (fs,Zf b.v p',()) rfl (ZE hin ⟨c1,c2,c3,?_⟩)⟩
    rw[Nk p' _ hpl,hw0]
    rw[ht]at hb
    exact hb
   ·rw[if_neg hk0]
    have el:((ZR b fs).take k).length=k:=by rw[List.length_take];omega
    refine FY b fs b.v.length p' k ((ZR b fs).take k) ⟨hpre,?_⟩
    rw[hvals]
    refine⟨hpreH,Zh (fs,Zf b.v p',()) rfl (ZE hin ⟨c1,c2,c3,?_,?_⟩)⟩
    ·rw[Nk p' _ hpl,List.length_map,el]
     show((k==k)&&(k==k)&&decide ((k+1)*24<=1099511627776)&&decide (k+1<=1099511627776))=true
     rw[decide_eq_true (by omega),decide_eq_true (by omega)];simp
    ·rw[Nk p' _ hpl,hw0]
     rw[ht,List.map_append]at hb
     exact hb
  ·rw[List.filter_cons,if_neg hin]at hdr
   unfold Ed
   by_cases hk0:k=0
   ·subst hk0
    rw[if_pos rfl]
    refine MJ b fs b.v.length p' ⟨hpre,?_⟩
    rw[hvals]
    refine⟨hpreH,Zh (fs,Zf b.v p',()) rfl (ZK hin ?_)⟩
    rw[hw0]
    exact goA hdr
   ·rw[if_neg hk0]
    refine FY b fs b.v.length p' k ((ZR b fs).take k) ⟨hpre,?_⟩
    rw[hvals]
    refine⟨hpreH,Zh (fs,Zf b.v p',()) rfl (ZK hin ?_)⟩
    rw[hw0]
    exact goB k hk0 hdr hk
theorem a3m{b:BoxT}(h:YI b=true): ∀ y∈KJ b.m.toNat b.v.length,∀ x∈y,-1<=x∧x<=20000:=by
 intro y hy x hx
 obtain⟨q1,q2⟩:=GG.1 hy
 have:=q2 x hx
 obtain⟨_,_,h3,h4,_⟩:=Us.1 h
 rcases h3 with h3|h3
 ·rw[h3]at q1
  rw[List.length_eq_zero_iff.1 q1]at hx
  cases hx
 ·omega
theorem b0d{b:BoxT}(h:YI b=true):Walk b.m (Wd b.v) (KJ b.m.toNat b.v.length):=by
 have:=Dn b.m.toNat b.v.length
 have e:(b.m.toNat:Int)=b.m:=by
  have:0<=b.m:=(Us.1 h).2.2.2.1
  omega
 have hz:Wd b.v=List.replicate b.v.length 0:=List.map_const' ..
 rw[e,<- hz]at this
 exact this
theorem a8z: ∀ x:BoxT×List Fact×Unit,(ZC x.1&&Zi x.2.1&&decide (x.2.1.length<=100)&&decide (x.1.v.length<=1000))=true->Zc YE 0 (Za Z9 (Zg (ZW x.1 x.2.1))) Ya [] (Ye c2v (encL x)):=by
 rintro⟨b,fs,⟨⟩⟩ hp
 simp only[Bool.and_eq_true,decide_eq_true_eq]at hp
 obtain⟨⟨⟨h1,h2⟩,h3⟩,h4⟩:=hp
 have hrd:Zp b fs (Zq ⟨0,[]⟩&&ZI []) (Zd ⟨0,[]⟩++Vg [])=Zp b fs true []:=rfl
 refine c4k b fs ⟨Cx (b,fs,⟨0,[]⟩,[],()) ?_ ?_ (by simp[h1,h2,h3,Yx,Xg]),De (b,fs,⟨0,[]⟩,[],()) ?_ ?_⟩
 ·show(is BoxT (enc b)&&(is (List Fact) (enc fs)&&(true&&(true&&true))))=true
  rw[Enc.is_enc,Enc.is_enc];rfl
 ·show((dec (enc b:PV):BoxT),(dec (enc fs:PV):List Fact),(⟨0,[]⟩:Lin),([]:List Mono),())=_
  rw[Enc.dec_enc,Enc.dec_enc]
 ·show((dec (enc b:PV):BoxT),(dec (enc fs:PV):List Fact),(⟨0,[]⟩:Lin),([]:List Mono),())=_
  rw[Enc.dec_enc,Enc.dec_enc]
 ·show if (Zp b fs true [] != 0)=true then _ else _
  by_cases h0:Zp b fs true []=0
  ·rw[if_neg (by simp[h0])]
   obtain⟨hv,_⟩:=Ur b fs true [] h0
   have hpt:ZW b fs=(ZR b fs,0):=by unfold ZW;rw[if_pos h0]
   rw[hpt]
   have hp0:(ZR b fs).drop 0=(KJ b.m.toNat b.v.length).filter (XD b.v fs):=by
    unfold ZR
    rw[V5 hv];rfl
   have:=a6l b fs hv h2 h4 _ _ 0 (b0d hv) (by simp[Wd]) (a3m hv) hp0 (Nat.zero_le _)
   unfold Ed at this
   rw[if_pos rfl]at this
   refine⟨by simp;omega,?_⟩
   have en:Int.toNat ((List.length (List.map (enc:Str->PV) b.v):Nat):Int)=b.v.length:=by simp
   have ez:List.replicate b.v.length (PV.int .i64 0)=(Wd b.v).map enc:=by
    unfold Wd
    rw[List.map_map]
    exact(List.map_const' ..).symm
   rw[en,ez]
   exact this
  ·rw[if_pos (by simpa using h0)]
   have hpt:ZW b fs=([],Zp b fs true []):=by unfold ZW;rw[if_neg h0]
   rw[hpt]
   exact⟨rfl,rfl⟩
end Go.Pl

namespace Go.Pl
open Go.RowKit
open Enc (enc dec is)
open EncL (encL decL isL)
def Yo(m n:Int):Bool:=decide (m<n)
def Kb(g:Nat):List AV->List AObj->Bool
 | [.pv (.int .i64 n),.ptr 0 0,.ptr 1 0,.ptr 2 0],[.box [.pv (.bool s)],.box [.pv (.fn g')],.box [.pv (.int .i64 z)]]=>g'==g
 | _,_=>false
def Jr(f:Int->Int->Bool):List AV->List AObj->AV×List AObj×List AObj
 | [.pv (.int .i64 n),_,_,_],[.box [.pv (.bool s)],.box [.pv (.fn g)],.box [.pv (.int .i64 z)]]=>(.tup [],[.box [.pv (.bool true)],.box [.pv (.fn g)],.box [.pv (.int .i64 (if !s||f n z then n else z))]],[])
 | _,_=>Vo
def Cf(f:Int->Int->Bool):List Int->Option Int
 | []=>none
 | x::l=>some (l.foldl (fun z n=>if f n z then n else z) x)
def YH(b:BoxT)(fs:List Fact)(l:Lin):List Int:=(ZR b fs).map fun p=>(Yh l (Zf b.v p)).1
def UN(b:BoxT)(fs:List Fact)(l:Lin):Bool:=ZC b&&Zi fs&&decide (fs.length<=100)&&decide (b.v.length<=1000)&&Yj l&&decide (l.t.length<=1000)
def Qe(f:Int->Int->Bool)(b:BoxT)(fs:List Fact)(l:Lin):Int×Int:=
 if Zp b fs (Zq l) (Zd l)=0 then(match Cf f (YH b fs l)with|none=>(0,9)|some z=>(z,0))else(0,Zp b fs (Zq l) (Zd l))
end Go.Pl

namespace Go.Pl
open Go.RowKit
open Enc (enc dec is)
open EncL (encL decL isL)
set_option maxRecDepth 100000
def O6:IC:=(.seq (.reg [⟨(some 4),(.mv (.c (.bool false))),0,none⟩] none) (.seq (.reg [⟨(some 5),(.mv (.t 0)),0,none⟩,⟨(some 6),(.mv (.t 1)),0,none⟩,⟨(some 7),(.bin .num .lss (.t 5) (.t 6)),0,none⟩,⟨(some 4),(.mv (.t 7)),0,none⟩] none) .ret))
def Eg:List IRes:=[(.tmp 4)]
abbrev c7a:Nat:=8
def b2z:ZG:=Xc []
theorem c8i{G:PV->Prop}(m n:Int)(h:G ((.bool (decide (m<n))))):Zc b2z 0 (Za Eg G) O6 [] (Ye 8 [enc m,enc n]):=Zc.tp (.lit (.nil)) h (by kernel_rfl)
def NL:IC:=(.seq (.reg [⟨(some 5),(.load false [.bool] (.t 1)),0,none⟩,⟨(some 6),(.un .not (.t 5)),0,none⟩,⟨(some 7),(.mv (.t 6)),0,none⟩,⟨(some 8),(.load false [.any] (.t 2)),0,(some (7,false))⟩,⟨(some 9),(.mv (.t 0)),0,(some (7,false))⟩,⟨(some 10),(.load false [(.int .i64)] (.t 3)),0,(some (7,false))⟩,⟨(some 11),(.call (.t 8) [(.t 9),(.t 10)]),0,(some (7,false))⟩,⟨(some 12),(.pick (.t 7) (.c (.bool true)) (.t 11)),2,none⟩] none) (.cond (.t 12) (.reg [⟨(some 13),(.mv (.t 0)),0,none⟩,⟨none,(.store 1 (.t 3) (.t 13)),0,none⟩,⟨none,(.store 1 (.t 1) (.c (.bool true))),0,none⟩] none) .skip))
def Pm:List IRes:=[]
abbrev c3c:Nat:=14
def Ec:ZG:=Xc [(128,.pure (preT (fun _:Int×Int×Unit=>true)) (Ze (fun x:Int×Int×Unit=>decide (x.1<x.2.1))))]
theorem c7x{G:AV×List AObj×List AObj->Prop}(n:Int)(s:Bool)(z:Int)(h:if (!s)=true then G (((.tup []),([(.box [(.pv (.bool true))]),(.box [(.pv (.fn 128))]),(.box [(.pv (.int .i64 n))])],[])))else(∃ y0:Bool,AV.pv (Ze (fun(x:Int×Int×Unit)=>decide (x.1<x.2.1)) [(.int .i64 n),(.int .i64 z)])=AV.pv (enc y0)∧(if (y0)=true then G (((.tup []),([(.box [(.pv (.bool true))]),(.box [(.pv (.fn 128))]),(.box [(.pv (.int .i64 n))])],[])))else(G (((.tup []),([(.box [(.pv (.bool s))]),(.box [(.pv (.fn 128))]),(.box [(.pv (.int .i64 z))])],[]))))))):Zc Ec 3 (Zo 3 Pm G) NL [] (YK 14 [.pv (.int .i64 n),.ptr 0 0,.ptr 1 0,.ptr 2 0] [.box [.pv (.bool s)],.box [.pv (.fn 128)],.box [.pv (.int .i64 z)]]):=Zc.to (.ask (.lit (.lit (.lit (.lit (.lit (.nil)))))) (.lit (.lit (.lit (.lit (.abs (Bool) (fun YY=>AV.pv (enc YY)) (.lit (.ask (.nil) (.nil))))))))) h (by kernel_rfl)
def UX:IC:=(.seq (.reg [⟨(some 4),(.box 2 (.t 0)),0,none⟩,⟨(some 6),(.box 2 (.t 2)),1,none⟩,⟨(some 7),(.box 1 (.t 3)),2,none⟩,⟨(some 8),(.alloc (.int .i64 0)),3,none⟩,⟨(some 9),(.alloc (.int .i64 0)),4,none⟩] none) (.seq (.seq (.reg [⟨(some 18),(.load true [(.sl 1),(.int .i64)] (.t 4)),0,none⟩,⟨(some 19),(.mv (.t 1)),0,none⟩,⟨(some 20),(.load true [(.int .i64),(.sl 2)] (.t 6)),0,none⟩,⟨(some 21),(.call (.c (.fn 73)) [(.t 20)]),0,none⟩,⟨(some 22),(.load true [(.int .i64),(.sl 2)] (.t 6)),2,none⟩,⟨(some 23),(.call (.c (.fn 174)) [(.t 22)]),2,none⟩,⟨(some 24),(.call (.c (.fn 116)) [(.t 18),(.t 19),(.t 21),(.t 23)]),4,none⟩,⟨(some 10),(.mv (.t 24)),6,none⟩] (some [[],[],[],[2],[],[4,3,2],[0,1,3,5,2,4],[6,0,1,2,3,4,5]])) (.seq (.reg [⟨(some 25),(.mv (.t 10)),0,none⟩,⟨(some 26),(.bin .num .neq (.t 25) (.c (.int .i64 0))),0,none⟩] none) (.cond (.t 26) (.seq (.reg [⟨(some 27),(.mv (.t 10)),0,none⟩,⟨none,(.store 1 (.t 8) (.c (.int .i64 0))),0,none⟩,⟨none,(.store 1 (.t 9) (.t 27)),0,none⟩] none) .ret) .skip))) (.seq (.reg [⟨(some 11),(.alloc (.int .i64 0)),0,none⟩,⟨(some 12),(.alloc (.bool false)),1,none⟩,⟨none,(.store 1 (.t 11) (.c (.int .i64 0))),2,none⟩,⟨none,(.store 1 (.t 12) (.c (.bool false))),2,none⟩] none) (.seq (.reg [⟨(some 28),(.mkfn 194 [] [(.t 12),(.t 7),(.t 11)]),0,none⟩,⟨(some 13),(.alloc .nilfn),0,none⟩,⟨none,(.store 1 (.t 13) (.t 28)),1,none⟩] none) (.seq (.seq (.reg [⟨(some 29),(.load true [(.sl 1),(.int .i64)] (.t 4)),0,none⟩,⟨(some 30),(.mv (.t 1)),0,none⟩,⟨(some 31),(.call (.c (.fn 117)) [(.t 29),(.t 30)]),0,none⟩] none) (.block 0 (.ext 0 [31,33,6,15,35,36,37,34,38,39,17,40,41,8,9,42,13,16,43,44,12,11]))) (.seq (.seq (.reg [⟨(some 46),(.load false [.bool] (.t 12)),0,none⟩,⟨(some 47),(.un .not (.t 46)),0,none⟩] none) (.cond (.t 47) (.seq (.reg [⟨none,(.store 1 (.t 8) (.c (.int .i64 0))),0,none⟩,⟨none,(.store 1 (.t 9) (.c (.int .i64 9))),0,none⟩] none) .ret) .skip)) (.seq (.reg [⟨(some 48),(.load false [(.int .i64)] (.t 11)),0,none⟩,⟨none,(.store 1 (.t 8) (.t 48)),0,none⟩,⟨none,(.store 1 (.t 9) (.c (.int .i64 0))),0,none⟩] none) .ret)))))))
def QO:List IRes:=[(.cell false 1 8),(.cell false 1 9)]
abbrev b0n:Nat:=49
def Ud:ZG:=Xc [(73,.pure (preT (fun x:Lin×Unit=>Yj x.1)) (Ze (fun x:Lin×Unit=>Zq x.1))),(174,.own Jb CS),(116,.pure (preT (fun x:BoxT×List Fact×Bool×NilS×Unit=>ZC x.1&&Zi x.2.1&&decide (x.2.1.length<=100))) (Ze (fun x:BoxT×List Fact×Bool×NilS×Unit=>Zp x.1 x.2.1 x.2.2.1 []))),(117,.own Xb WO),(38,.pure (preT (fun x:Lin×List Coef×Unit=>Yj x.1&&decide (x.2.1.length<=9223372036854775807))) (Ze (fun x:Lin×List Coef×Unit=>Yh x.1 x.2.1))),(194,.own (Kb 128) (Jr Yo))]
theorem c0k{G:PV->Prop}(E:YB)(b:BoxT)(fs:List Fact)(l:Lin)(h:(Go.Pl.preT (fun(x:Lin×Unit)=>Yj x.1) [(.agg [(.int .i64 l.k),(.sl 2 false (List.map enc l.t))])])=true∧(∃ y0:Bool,AV.pv (Ze (fun(x:Lin×Unit)=>Zq x.1) [(.agg [(.int .i64 l.k),(.sl 2 false (List.map enc l.t))])])=AV.pv (enc y0)∧((Jb [(.pv (.agg [(.int .i64 l.k),(.sl 2 false (List.map enc l.t))]))] [])=true∧((Go.Pl.preT (fun(x:BoxT×List Fact×Bool×NilS×Unit)=>ZC x.1&&Zi x.2.1&&decide (List.length x.2.1<=100)) [(.agg [(.sl 1 false (List.map enc b.v)),(.int .i64 b.m)]),(.sl 3 false (List.map enc fs)),(.bool y0),(.sl 0 true [])])=true∧(∃ y1:Int,AV.pv (Ze (fun(x:BoxT×List Fact×Bool×NilS×Unit)=>Zp x.1 x.2.1 x.2.2.1 []) [(.agg [(.sl 1 false (List.map enc b.v)),(.int .i64 b.m)]),(.sl 3 false (List.map enc fs)),(.bool y0),(.sl 0 true [])])=AV.pv (enc y1)∧(if (y1 != 0)=true then G ((.tup [(.int .i64 0),(.int .i64 y1)]))else((Xb [(.pv (.agg [(.sl 1 false (List.map enc b.v)),(.int .i64 b.m)])),(.pv (.sl 3 false (List.map enc fs)))] [])=true∧(E 0 ⟨ZU 49 0 [(6,(.ptr 0 0)),(8,(.ptr 1 0)),(9,(.ptr 2 0)),(11,(.ptr 3 0)),(12,(.ptr 4 0)),(13,(.ptr 5 0)),(15,.undef),(16,.undef),(17,.undef),(31,(.fn 177 [] [(.ptr 6 0),(.ptr 7 0)])),(33,.undef),(34,.undef),(35,.undef),(36,.undef),(37,.undef),(38,.undef),(39,.undef),(40,.undef),(41,.undef),(42,.undef),(43,.undef),(44,.undef)],[(.obj (.box [(.pv (.int .i64 l.k)),(.pv (.sl 2 false (List.map enc l.t)))])),(.obj (.box [(.pv (.int .i64 0))])),(.obj (.box [(.pv (.int .i64 0))])),(.obj (.box [(.pv (.int .i64 0))])),(.obj (.box [(.pv (.bool false))])),(.obj (.box [(.fn 194 [] [(.ptr 4 0),(.ptr 8 0),(.ptr 3 0)])])),(.obj (.box [(.pv (.sl 1 false (List.map enc b.v))),(.pv (.int .i64 b.m))])),(.obj (.box [(.pv (.sl 3 false (List.map enc fs)))])),(.obj (.box [(.pv (.fn 128))]))]⟩ (fun x S'=>Jy Ud E 0 (Za QO G) UX 0 x S'))))))))):ZB Ud E 0 (Za QO G) (.inl UX) [] (Ye 49 [enc b,enc fs,enc l,.fn 128]):=ZB.mp (.req (.abs (Bool) (fun YY=>AV.pv (enc YY)) (.req (.keep (.req (.abs (Int) (fun YY=>AV.pv (enc YY)) (.lit (.ask (.nil) (.req (.keep (.nil))))))))))) h (by kernel_rfl)
theorem b5w{G:PV->Prop}(E:YB)(b:BoxT)(fs:List Fact)(l:Lin)(z:Int)(s:Bool)(h:if (!s)=true then G ((.tup [(.int .i64 0),(.int .i64 9)]))else(G ((.tup [(.int .i64 z),(.int .i64 0)])))):Jy Ud E 0 (Za QO G) UX 0 .normal ⟨ZU 49 0 [(6,.ptr 0 0),(8,.ptr 1 0),(9,.ptr 2 0),(11,.ptr 3 0),(12,.ptr 4 0),(13,.ptr 5 0)],[.obj (.box [.pv (.int .i64 l.k),.pv (enc l.t)]),.obj (.box [.pv (.int .i64 0)]),.obj (.box [.pv (.int .i64 0)]),.obj (.box [.pv (.int .i64 z)]),.obj (.box [.pv (.bool s)]),.obj (.box [.fn 194 [] [.ptr 4 0,.ptr 6 0,.ptr 3 0]]),.obj (.box [.pv (.fn 128)])]⟩:=ZB.mp (.ask (.nil) (.nil)) h (by kernel_rfl)
def QP:IC:=UX
def QK:List IRes:=[(.cell false 1 8),(.cell false 1 9)]
abbrev b7e:Nat:=49
def Uf:ZG:=Xc [(73,.pure (preT (fun x:Lin×Unit=>Yj x.1)) (Ze (fun x:Lin×Unit=>Zq x.1))),(174,.own Jp GD),(116,.own UE Kh),(117,.own Xb WO),(38,.pure (preT (fun x:Lin×List Coef×Unit=>Yj x.1&&decide (x.2.1.length<=9223372036854775807))) (Ze (fun x:Lin×List Coef×Unit=>Yh x.1 x.2.1))),(194,.own (Kb 128) (Jr Yo))]
theorem b9x{G:PV->Prop}(E:YB)(b:BoxT)(fs:List Fact)(l:Lin)(h:(Go.Pl.preT (fun(x:Lin×Unit)=>Yj x.1) [(.agg [(.int .i64 l.k),(.sl 2 false (List.map enc l.t))])])=true∧(∃ y0:Bool,AV.pv (Ze (fun(x:Lin×Unit)=>Zq x.1) [(.agg [(.int .i64 l.k),(.sl 2 false (List.map enc l.t))])])=AV.pv (enc y0)∧((Jp [(.pv (.agg [(.int .i64 l.k),(.sl 2 false (List.map enc l.t))]))] [])=true∧((UE [(.pv (.agg [(.sl 1 false (List.map enc b.v)),(.int .i64 b.m)])),(.pv (.sl 3 false (List.map enc fs))),(.pv (.bool y0)),(.row 0 (List.length (Zd (OT (PV.agg [enc l.k,enc l.t])))) 0 (List.length (Zd (OT (PV.agg [enc l.k,enc l.t])))))] [(.row false 9 1 (List.map enc (Zd (OT (PV.agg [enc l.k,enc l.t])))))])=true∧(if (Zp (Ey (PV.agg [enc b.v,enc b.m])) (Sa (enc fs)) y0 (KY (List.map enc (Zd (OT (PV.agg [enc l.k,enc l.t]))))) != 0)=true then G ((.tup [(.int .i64 0),(.int .i64 (Zp (Ey (PV.agg [enc b.v,enc b.m])) (Sa (enc fs)) y0 (KY (List.map enc (Zd (OT (PV.agg [enc l.k,enc l.t])))))))]))else((Xb [(.pv (.agg [(.sl 1 false (List.map enc b.v)),(.int .i64 b.m)])),(.pv (.sl 3 false (List.map enc fs)))] [])=true∧(E 0 ⟨ZU 49 0 [(6,(.ptr 0 0)),(8,(.ptr 1 0)),(9,(.ptr 2 0)),(11,(.ptr 3 0)),(12,(.ptr 4 0)),(13,(.ptr 5 0)),(15,.undef),(16,.undef),(17,.undef),(31,(.fn 177 [] [(.ptr 6 0),(.ptr 7 0)])),(33,.undef),(34,.undef),(35,.undef),(36,.undef),(37,.undef),(38,.undef),(39,.undef),(40,.undef),(41,.undef),(42,.undef),(43,.undef),(44,.undef)],[(.obj (.box [(.pv (.int .i64 l.k)),(.pv (.sl 2 false (List.map enc l.t)))])),(.obj (.box [(.pv (.int .i64 0))])),(.obj (.box [(.pv (.int .i64 0))])),(.obj (.box [(.pv (.int .i64 0))])),(.obj (.box [(.pv (.bool false))])),(.obj (.box [(.fn 194 [] [(.ptr 4 0),(.ptr 8 0),(.ptr 3 0)])])),(.obj (.box [(.pv (.sl 1 false (List.map enc b.v))),(.pv (.int .i64 b.m))])),(.obj (.box [(.pv (.sl 3 false (List.map enc fs)))])),(.obj (.box [(.pv (.fn 128))]))]⟩ (fun x S'=>Jy Uf E 0 (Za QK G) QP 0 x S')))))))):ZB Uf E 0 (Za QK G) (.inl QP) [] (Ye 49 [enc b,enc fs,enc l,.fn 128]):=ZB.mp (.req (.abs (Bool) (fun YY=>AV.pv (enc YY)) (.req (.keep (.req (.keep (.lit (.ask (.nil) (.req (.keep (.nil))))))))))) h (by kernel_rfl)
theorem b6s{G:PV->Prop}(E:YB)(b:BoxT)(fs:List Fact)(l:Lin)(z:Int)(s:Bool)(h:if (!s)=true then G ((.tup [(.int .i64 0),(.int .i64 9)]))else(G ((.tup [(.int .i64 z),(.int .i64 0)])))):Jy Uf E 0 (Za QK G) QP 0 .normal ⟨ZU 49 0 [(6,.ptr 0 0),(8,.ptr 1 0),(9,.ptr 2 0),(11,.ptr 3 0),(12,.ptr 4 0),(13,.ptr 5 0)],[.obj (.box [.pv (.int .i64 l.k),.pv (enc l.t)]),.obj (.box [.pv (.int .i64 0)]),.obj (.box [.pv (.int .i64 0)]),.obj (.box [.pv (.int .i64 z)]),.obj (.box [.pv (.bool s)]),.obj (.box [.fn 194 [] [.ptr 4 0,.ptr 6 0,.ptr 3 0]]),.obj (.box [.pv (.fn 128)])]⟩:=ZB.mp (.ask (.nil) (.nil)) h (by kernel_rfl)
def Nf:IC:=(.seq (.reg [⟨(some 3),(.box 2 (.t 0)),0,none⟩,⟨(some 5),(.box 2 (.t 2)),1,none⟩,⟨(some 6),(.mv (.c (.int .i64 0))),2,none⟩,⟨(some 7),(.mv (.c (.int .i64 0))),2,none⟩] none) (.seq (.reg [⟨(some 8),(.load true [(.sl 1),(.int .i64)] (.t 3)),0,none⟩,⟨(some 9),(.mv (.t 1)),0,none⟩,⟨(some 10),(.load true [(.int .i64),(.sl 2)] (.t 5)),0,none⟩,⟨(some 11),(.call (.c (.fn 127)) [(.t 8),(.t 9),(.t 10),(.c (.fn 128))]),0,none⟩,⟨(some 12),(.extract (.t 11) 0),2,none⟩,⟨(some 13),(.extract (.t 11) 1),2,none⟩,⟨(some 6),(.mv (.t 12)),2,none⟩,⟨(some 7),(.mv (.t 13)),2,none⟩] none) .ret))
def Nt:List IRes:=[(.tmp 6),(.tmp 7)]
abbrev b8u:Nat:=14
def O5:ZG:=Xc [(127,.pure (preT (fun x:BoxT×List Fact×Lin×FnV 128×Unit=>UN x.1 x.2.1 x.2.2.1)) (Ze (fun x:BoxT×List Fact×Lin×FnV 128×Unit=>Qe Yo x.1 x.2.1 x.2.2.1)))]
theorem c8d{G:PV->Prop}(b:BoxT)(fs:List Fact)(l:Lin)(h:(Go.Pl.preT (fun(x:BoxT×List Fact×Lin×FnV 128×Unit)=>UN x.1 x.2.1 x.2.2.1) [(.agg [(.sl 1 false (List.map enc b.v)),(.int .i64 b.m)]),(.sl 3 false (List.map enc fs)),(.agg [(.int .i64 l.k),(.sl 2 false (List.map enc l.t))]),(.fn 128)])=true∧(∃ y0:Int×Int,AV.pv (Ze (fun(x:BoxT×List Fact×Lin×FnV 128×Unit)=>Qe Yo x.1 x.2.1 x.2.2.1) [(.agg [(.sl 1 false (List.map enc b.v)),(.int .i64 b.m)]),(.sl 3 false (List.map enc fs)),(.agg [(.int .i64 l.k),(.sl 2 false (List.map enc l.t))]),(.fn 128)])=AV.pv (enc y0)∧(G ((.tup [(.int .i64 y0.1),(.int .i64 y0.2)]))))):Zc O5 0 (Za Nt G) Nf [] (Ye 14 [enc b,enc fs,enc l]):=Zc.tp (.req (.abs (Int×Int) (fun YY=>AV.pv (enc YY)) (.nil))) h (by kernel_rfl)
def U5:IC:=(.block 1 (.seq (.reg [⟨(some 35),(.load true [(.int .i64),(.sl 2)] (.t 6)),0,none⟩,⟨(some 36),(.mv (.t 15)),0,none⟩,⟨(some 37),(.call (.c (.fn 38)) [(.t 35),(.t 36)]),0,none⟩,⟨(some 34),(.mv (.t 37)),2,none⟩,⟨(some 38),(.extract (.t 34) 0),2,none⟩,⟨(some 39),(.extract (.t 34) 1),2,none⟩,⟨(some 16),(.mv (.t 38)),2,none⟩,⟨(some 17),(.mv (.t 39)),2,none⟩] none) (.seq (.seq (.reg [⟨(some 40),(.mv (.t 17)),0,none⟩,⟨(some 41),(.bin .num .neq (.t 40) (.c (.int .i64 0))),0,none⟩] none) (.cond (.t 41) (.seq (.reg [⟨(some 42),(.mv (.t 17)),0,none⟩,⟨none,(.store 1 (.t 8) (.c (.int .i64 0))),0,none⟩,⟨none,(.store 1 (.t 9) (.t 42)),0,none⟩] none) .ret) .skip)) (.reg [⟨(some 43),(.load false [.any] (.t 13)),0,none⟩,⟨(some 44),(.mv (.t 16)),0,none⟩,⟨(some 45),(.call (.t 43) [(.t 44)]),0,none⟩] none))))
def a2l:ZG:=Xc [(73,.pure (preT (fun x:Lin×Unit=>Yj x.1)) (Ze (fun x:Lin×Unit=>Zq x.1))),(174,.own Jb CS),(116,.pure (preT (fun x:BoxT×List Fact×Bool×NilS×Unit=>ZC x.1&&Zi x.2.1&&decide (x.2.1.length<=100))) (Ze (fun x:BoxT×List Fact×Bool×NilS×Unit=>Zp x.1 x.2.1 x.2.2.1 []))),(117,.own Xb WO),(38,.pure (preT (fun x:Lin×List Coef×Unit=>Yj x.1&&decide (x.2.1.length<=9223372036854775807))) (Ze (fun x:Lin×List Coef×Unit=>Yh x.1 x.2.1))),(194,.own (Kb 128) (Jr Yo))]
theorem b1e{G:Zv->Prop}(E:YB)(l:Lin)(p:List Int)(vs:List Coef)(z:Int)(s:Bool)(h:(Go.Pl.preT (fun(x:Lin×List Coef×Unit)=>Yj x.1&&decide (List.length x.2.1<=9223372036854775807)) [(.agg [(.int .i64 l.k),(.sl 2 false (List.map enc l.t))]),(.sl 2 false (List.map enc vs))])=true∧(∃ y0:Int×Int,AV.pv (Ze (fun(x:Lin×List Coef×Unit)=>Yh x.1 x.2.1) [(.agg [(.int .i64 l.k),(.sl 2 false (List.map enc l.t))]),(.sl 2 false (List.map enc vs))])=AV.pv (enc y0)∧(if (y0.2 != 0)=true then G ([(.obj (.box [(.pv (.int .i64 l.k)),(.pv (.sl 2 false (List.map enc l.t)))])),(.obj (.box [(.pv (.int .i64 0))])),(.obj (.box [(.pv (.int .i64 y0.2))])),(.obj (.box [(.pv (.int .i64 z))])),(.obj (.box [(.pv (.bool s))])),(.obj (.box [(.fn 194 [] [(.ptr 4 0),(.ptr 6 0),(.ptr 3 0)])])),(.obj (.box [(.pv (.fn 128))])),.fresh,.fresh])else(E 99 ⟨ZU 49 0 [],[(.obj (.box [(.pv (.int .i64 l.k)),(.pv (.sl 2 false (List.map enc l.t)))])),(.obj (.box [(.pv (.int .i64 0))])),(.obj (.box [(.pv (.int .i64 0))])),(.obj (.box [(.pv (.int .i64 (if (!s||Yo y0.1 z)=true then y0.1 else z)))])),(.obj (.box [(.pv (.bool true))])),(.obj (.box [(.fn 194 [] [(.ptr 4 0),(.ptr 6 0),(.ptr 3 0)])])),(.obj (.box [(.pv (.fn 128))]))]⟩ (fun x S'=>Jy a2l E 7 (fun st=>G st.heap) U5 99 x S'))))):ZB a2l E 7 (fun st=>G st.heap) (.inl U5) [.seq (.ext 99 [])] ⟨ZU 49 0 [(6,.ptr 0 0),(8,.ptr 1 0),(9,.ptr 2 0),(11,.ptr 3 0),(12,.ptr 4 0),(13,.ptr 5 0),(15,.pv (enc vs)),(32,.pv (enc p)),(33,.pv (enc vs))],[.obj (.box [.pv (.int .i64 l.k),.pv (enc l.t)]),.obj (.box [.pv (.int .i64 0)]),.obj (.box [.pv (.int .i64 0)]),.obj (.box [.pv (.int .i64 z)]),.obj (.box [.pv (.bool s)]),.obj (.box [.fn 194 [] [.ptr 4 0,.ptr 6 0,.ptr 3 0]]),.obj (.box [.pv (.fn 128)])]⟩:=ZB.mh (.req (.abs (Int×Int) (fun YY=>AV.pv (enc YY)) (.lit (.ask (.nil) (.lit (.keep (.nil))))))) h (by kernel_rfl)
def QF:IC:=U5
def a1m:ZG:=Xc [(73,.pure (preT (fun x:Lin×Unit=>Yj x.1)) (Ze (fun x:Lin×Unit=>Zq x.1))),(174,.own Jp GD),(116,.own UE Kh),(117,.own Xb WO),(38,.pure (preT (fun x:Lin×List Coef×Unit=>Yj x.1&&decide (x.2.1.length<=9223372036854775807))) (Ze (fun x:Lin×List Coef×Unit=>Yh x.1 x.2.1))),(194,.own (Kb 128) (Jr Yo))]
theorem b1g{G:Zv->Prop}(E:YB)(l:Lin)(p:List Int)(vs:List Coef)(z:Int)(s:Bool)(h:(Go.Pl.preT (fun(x:Lin×List Coef×Unit)=>Yj x.1&&decide (List.length x.2.1<=9223372036854775807)) [(.agg [(.int .i64 l.k),(.sl 2 false (List.map enc l.t))]),(.sl 2 false (List.map enc vs))])=true∧(∃ y0:Int×Int,AV.pv (Ze (fun(x:Lin×List Coef×Unit)=>Yh x.1 x.2.1) [(.agg [(.int .i64 l.k),(.sl 2 false (List.map enc l.t))]),(.sl 2 false (List.map enc vs))])=AV.pv (enc y0)∧(if (y0.2 != 0)=true then G ([(.obj (.box [(.pv (.int .i64 l.k)),(.pv (.sl 2 false (List.map enc l.t)))])),(.obj (.box [(.pv (.int .i64 0))])),(.obj (.box [(.pv (.int .i64 y0.2))])),(.obj (.box [(.pv (.int .i64 z))])),(.obj (.box [(.pv (.bool s))])),(.obj (.box [(.fn 194 [] [(.ptr 4 0),(.ptr 6 0),(.ptr 3 0)])])),(.obj (.box [(.pv (.fn 128))])),.fresh,.fresh])else(E 99 ⟨ZU 49 0 [],[(.obj (.box [(.pv (.int .i64 l.k)),(.pv (.sl 2 false (List.map enc l.t)))])),(.obj (.box [(.pv (.int .i64 0))])),(.obj (.box [(.pv (.int .i64 0))])),(.obj (.box [(.pv (.int .i64 (if (!s||Yo y0.1 z)=true then y0.1 else z)))])),(.obj (.box [(.pv (.bool true))])),(.obj (.box [(.fn 194 [] [(.ptr 4 0),(.ptr 6 0),(.ptr 3 0)])])),(.obj (.box [(.pv (.fn 128))]))]⟩ (fun x S'=>Jy a1m E 7 (fun st=>G st.heap) QF 99 x S'))))):ZB a1m E 7 (fun st=>G st.heap) (.inl QF) [.seq (.ext 99 [])] ⟨ZU 49 0 [(6,.ptr 0 0),(8,.ptr 1 0),(9,.ptr 2 0),(11,.ptr 3 0),(12,.ptr 4 0),(13,.ptr 5 0),(15,.pv (enc vs)),(32,.pv (enc p)),(33,.pv (enc vs))],[.obj (.box [.pv (.int .i64 l.k),.pv (enc l.t)]),.obj (.box [.pv (.int .i64 0)]),.obj (.box [.pv (.int .i64 0)]),.obj (.box [.pv (.int .i64 z)]),.obj (.box [.pv (.bool s)]),.obj (.box [.fn 194 [] [.ptr 4 0,.ptr 6 0,.ptr 3 0]]),.obj (.box [.pv (.fn 128)])]⟩:=ZB.mh (.req (.abs (Int×Int) (fun YY=>AV.pv (enc YY)) (.lit (.ask (.nil) (.lit (.keep (.nil))))))) h (by kernel_rfl)
end Go.Pl

namespace Go.Pl
open Go.RowKit
open Enc (enc dec is)
open EncL (encL decL isL)
theorem Rs{s:Str}: ∀ {vs:List Str} {p:List Int},s∈vs->p.length=vs.length-> ∃ x∈p,Qq (Zf vs p) s=some x
 | [],_,h,_=>by cases h
 | v::vs,[],_,h=>by simp at h
 | v::vs,x::p,h,hl=>by
  by_cases e:v=s
  ·refine⟨x,by simp,?_⟩
   show((List.find? (fun t:Coef=>decide (t.v=s)) (⟨v,x⟩::Zf vs p)).map (·.c))=some x
   rw[List.find?_cons_of_pos (by simpa using e)];rfl
  ·obtain⟨y,hy,h2⟩:=Rs (s:=s) (vs:=vs) (p:=p) ((List.mem_cons.1 h).resolve_left fun h=>e h.symm) (by simpa using hl)
   refine⟨y,by simp[hy],?_⟩
   show((List.find? (fun t:Coef=>decide (t.v=s)) (⟨v,x⟩::Zf vs p)).map (·.c))=some y
   rw[List.find?_cons_of_neg (by simpa using e)]
   exact h2
theorem BU{vs:List Str}{p:List Int}(hl:p.length=vs.length)(hx : ∀ x∈p,-1000000000<=x∧x<=1000000000): ∀ (ts:List Coef) (n:Int),(∀ t∈ts,t.v∈vs)->(KN (Zf vs p) n ts).2=0
 | [],n,_=>rfl
 | t::r,n,h=>by
  obtain⟨x,h1,h2⟩:=Rs (h t (by simp)) hl
  have:=hx x h1
  rw[KN,h2]
  show(if x < -1000000000 then((0:Int),(2:Int))else if x>1000000000 then(0,2)else _).2=0
  rw[if_neg (by omega),if_neg (by omega)]
  exact BU hl hx r _ fun u hu=>h u (by simp[hu])
theorem c1w{b:BoxT}{fs:List Fact}{p:List Int}(hv:YI b=true)(h:p∈ZR b fs):p.length=b.v.length∧(∀ x∈p,0<=x∧x<=b.m)∧ ∀ x∈p,-1<=x∧x<=20000:=by
 unfold ZR at h
 rw[V5 hv]at h
 have h:=(List.mem_filter.1 h).1
 obtain⟨h1,h2⟩:=GG.1 h
 have:0<=b.m:=(Us.1 hv).2.2.2.1
 exact⟨h1,fun x hx=>by have:=h2 x hx;omega,a3m hv p h⟩
theorem NZ{b:BoxT}{fs:List Fact}{l:Lin}{p:List Int}(hr:Zp b fs (Zq l) (Zd l)=0)(h:p∈ZR b fs):(Yh l (Zf b.v p)).2=0:=by
 obtain⟨hv,_,hl,hin⟩:=Ur _ _ _ _ hr
 obtain⟨h1,_,h3⟩:=c1w hv h
 rw[Jh,Bool.and_eq_true]at hin
 unfold Yh
 rw[if_pos hl]
 refine BU h1 (fun x hx=>by have:=h3 x hx;omega) _ _ fun t ht=> ?_
 have:=List.all_eq_true.1 hin.1 t.v (by unfold Zd;exact List.mem_map.2 ⟨t,ht,rfl⟩)
 simpa using this
theorem a7p(f:Int->Int->Bool)(l:List Int)(x:Int):Cf f (l++[x])=some (match Cf f l with|none=>x|some z=>if f x z then x else z):=by
 cases l with
 | nil=>rfl
 | cons y l=>simp[Cf,List.foldl_append]
def Vj(f:Int->Int->Bool)(l:List Int):Int×Bool:=match Cf f l with|none=>(0,false)|some z=>(z,true)
theorem RX(f:Int->Int->Bool)(l:List Int)(x:Int):Vj f (l++[x])=(if !(Vj f l).2||f x (Vj f l).1 then x else(Vj f l).1,true):=by
 unfold Vj
 rw[a7p]
 cases Cf f l <;> rfl
theorem c5y(l:Lin):OT (PV.agg [enc l.k,enc l.t])=l:=Enc.dec_enc l
theorem a1h(b:BoxT):Ey (PV.agg [enc b.v,enc b.m])=b:=Enc.dec_enc b
theorem Li(fs:List Fact):Sa (enc fs)=fs:=Enc.dec_enc fs
def M8(l:Lin)(z:Int)(s:Bool):Zv:=[.obj (.box [.pv (.int .i64 l.k),.pv (enc l.t)]),.obj (.box [.pv (.int .i64 0)]),.obj (.box [.pv (.int .i64 0)]),.obj (.box [.pv (.int .i64 z)]),.obj (.box [.pv (.bool s)]),.obj (.box [.fn 194 [] [.ptr 4 0,.ptr 6 0,.ptr 3 0]]),.obj (.box [.pv (.fn 128)])]
theorem b5z: ∀ args os,Kb 128 args os=true->Zc Ec os.length (Zo os.length Pm fun r=>r=Jr Yo args os) NL [] (YK c3c args os):=by
 intro args os h
 unfold Kb at h
 split at h
 ·rename_i n s g z
  have h:g=128:=by simpa using h
  subst h
  refine c7x n s z (X8 (fun h=> ?_) fun h=>Zh (n,z,()) rfl (X0 (fun h2=> ?_) fun h2=> ?_))
  ·subst h;rfl
  ·subst h
   have h2:Yo n z=true:=h2
   show _=(AV.tup [],[AObj.box [.pv (.bool true)],.box [.pv (.fn 128)],.box [.pv (.int .i64 (if !true||Yo n z then n else z))]],[])
   rw[h2];rfl
  ·subst h
   have h2:Yo n z=false:=h2
   show _=(AV.tup [],[AObj.box [.pv (.bool true)],.box [.pv (.fn 128)],.box [.pv (.int .i64 (if !true||Yo n z then n else z))]],[])
   rw[h2];rfl
 ·cases h
def J4:YB:=fun n st q=>n=0∧GN Ud 0 (.t 31) 177 [32,33] [(15,33)] U5 Kt Qn DI st q
theorem ML(b:BoxT)(fs:List Fact)(l:Lin)(hl:Yj l=true)(hb:b.v.length<=1000)(hr:Zp b fs (Zq l) (Zd l)=0)(k:Nat)(p:List Int)(hp:(ZR b fs)[k]? = some p):
  ZB Ud (fun n S' _=>n=99∧S'.heap=M8 l (Vj Yo ((YH b fs l).take (k+1))).1 (Vj Yo ((YH b fs l).take (k+1))).2) 7 (fun st=>False) (.inl U5) [.seq (.ext 99 [])]
   ⟨ZU 49 0 [(6,.ptr 0 0),(8,.ptr 1 0),(9,.ptr 2 0),(11,.ptr 3 0),(12,.ptr 4 0),(13,.ptr 5 0),(15,.pv (enc (Zf b.v p))),(32,.pv (enc p)),(33,.pv (enc (Zf b.v p)))],M8 l (Vj Yo ((YH b fs l).take k)).1 (Vj Yo ((YH b fs l).take k)).2⟩:=by
 have hk:=(List.getElem?_eq_some_iff.1 hp).1
 have hkp:=(List.getElem?_eq_some_iff.1 hp).2
 have hm:p∈ZR b fs:=List.mem_of_getElem? hp
 have hkv:k<(YH b fs l).length:=by unfold YH;rw[List.length_map];exact hk
 have hgv:(YH b fs l)[k]=(Yh l (Zf b.v p)).1:=by
  have:(YH b fs l)[k]? = some (Yh l (Zf b.v p)).1:=by unfold YH;rw[List.getElem?_map,hp];rfl
  exact(List.getElem?_eq_some_iff.1 this).2
 have ht:(YH b fs l).take (k+1)=(YH b fs l).take k++[(Yh l (Zf b.v p)).1]:=by rw[List.take_succ_eq_append_getElem hkv,hgv]
 rw[ht,RX]
 refine b1e (G:=fun _=>False) _ l p (Zf b.v p) _ _ ⟨Zj (l,Zf b.v p,()) rfl ?_,Zh (l,Zf b.v p,()) rfl ?_⟩
 ·show(Yj l&&decide ((Zf b.v p).length<=9223372036854775807))=true
  rw[hl,decide_eq_true (by unfold Zf;rw[List.length_zipWith];omega)];rfl
 ·refine ZK (by rw[NZ hr hm];simp) ⟨rfl,rfl⟩
theorem a5y: ∀ x:BoxT×List Fact×Lin×FnV 128×Unit,(UN x.1 x.2.1 x.2.2.1&&x.2.2.1.t.isEmpty)=true->Ku Ud J4 0 (Za QO (Zg (Qe Yo x.1 x.2.1 x.2.2.1))) UX [] (Ye b0n (encL x)):=by
 rintro⟨b,fs,l,⟨⟩,⟨⟩⟩ hp
 simp only[UN,Bool.and_eq_true,decide_eq_true_eq]at hp
 obtain⟨⟨⟨⟨⟨⟨h1,h2⟩,h3⟩,h4⟩,h5⟩,h6⟩,h7⟩:=hp
 have key:Zp b fs (Zq l) (Zd l)=0->J4 0 ⟨ZU 49 0 [(6,(.ptr 0 0)),(8,(.ptr 1 0)),(9,(.ptr 2 0)),(11,(.ptr 3 0)),(12,(.ptr 4 0)),(13,(.ptr 5 0)),(15,.undef),(16,.undef),(17,.undef),(31,(.fn 177 [] [(.ptr 6 0),(.ptr 7 0)])),(33,.undef),(34,.undef),(35,.undef),(36,.undef),(37,.undef),(38,.undef),(39,.undef),(40,.undef),(41,.undef),(42,.undef),(43,.undef),(44,.undef)],[(.obj (.box [(.pv (.int .i64 (Lin.k l))),(.pv (.sl 2 false (List.map enc (Lin.t l))))])),(.obj (.box [(.pv (.int .i64 0))])),(.obj (.box [(.pv (.int .i64 0))])),(.obj (.box [(.pv (.int .i64 0))])),(.obj (.box [(.pv (.bool false))])),(.obj (.box [(.fn 194 [] [(.ptr 4 0),(.ptr 8 0),(.ptr 3 0)])])),(.obj (.box [(.pv (.sl 1 false (List.map enc (BoxT.v b)))),(.pv (.int .i64 (BoxT.m b)))])),(.obj (.box [(.pv (.sl 3 false (List.map enc fs)))])),(.obj (.box [(.pv (.fn 128))]))]⟩ (fun x S'=>Jy Ud J4 0 (Za QO (Zg (Qe Yo b fs l))) UX 0 x S'):=by
  intro h0
  obtain⟨hv,_⟩:=Ur _ _ _ _ h0
  refine⟨rfl,[6,7],[[enc b.v,.int .i64 b.m],[enc fs]],[6,8,9,11,12,13],[],⟨ZU 49 0 [(6,.ptr 0 0),(8,.ptr 1 0),(9,.ptr 2 0),(11,.ptr 3 0),(12,.ptr 4 0),(13,.ptr 5 0)],M8 l 0 false⟩,(fun k σ=>σ=M8 l (Vj Yo ((YH b fs l).take k)).1 (Vj Yo ((YH b fs l).take k)).2),fun _=>False,rfl,by simp,rfl,?_,by kernel_rfl,BL hv h2 h4,rfl,?_,?_,fun σ h=>h.elim⟩
  ·intro j l' ps hl hps
   match j with
   | 0=>cases hl;cases hps;rfl
   | 1=>cases hl;cases hps;rfl
   | j+2=>simp at hl
  ·intro k x σ hx hI
   rw[SN,List.getElem?_map]at hx
   obtain⟨p,hp,rfl⟩:=Option.map_eq_some_iff.1 hx
   subst hI
   have e:Tk [(15,33)] (Cq [32,33] ((Kt (p,Zf b.v p)).map .pv) (ZU 49 0 [(6,.ptr 0 0),(8,.ptr 1 0),(9,.ptr 2 0),(11,.ptr 3 0),(12,.ptr 4 0),(13,.ptr 5 0)]))=ZU 49 0 [(6,.ptr 0 0),(8,.ptr 1 0),(9,.ptr 2 0),(11,.ptr 3 0),(12,.ptr 4 0),(13,.ptr 5 0),(15,.pv (enc (Zf b.v p))),(32,.pv (enc p)),(33,.pv (enc (Zf b.v p)))]:=by kernel_rfl
   have:=ML b fs l h5 h4 h0 k p hp
   rw[<- e]at this
   exact this
  ·intro σ hI
   rw[SN,List.length_map]at hI
   subst hI
   have hall:(YH b fs l).take (ZR b fs).length=YH b fs l:=List.take_of_length_le (by unfold YH;rw[List.length_map];exact Nat.le_refl _)
   rw[hall]
   refine b5w (G:=Zg (Qe Yo b fs l)) J4 b fs l _ _ ?_
   unfold Qe Vj
   rw[if_pos h0]
   cases Cf Yo (YH b fs l)with
   | none=>exact ZE rfl (ZQ (x:=((0:Int),(9:Int))) rfl)
   | some z=>exact ZK (by simp) (ZQ (x:=((z:Int),(0:Int))) rfl)
 have hbad:Zp b fs (Zq l) (Zd l)≠0->Zg (Qe Yo b fs l) (.tup [.int .i64 0,.int .i64 (Zp b fs (Zq l) (Zd l))]):=by
  intro h0
  unfold Qe
  rw[if_neg h0]
  exact ZQ (x:=((0:Int),Zp b fs (Zq l) (Zd l))) rfl
 have ht:l.t=[]:=List.isEmpty_iff.1 h7
 have hn:Zd l=[]:=by unfold Zd;rw[ht];rfl
 refine c0k J4 b fs l ⟨Zj (l,()) rfl h5,Zh (l,()) rfl ⟨?_,Zj (b,fs,Zq l,⟨⟩,()) rfl (by simp[h1,h2,h3]),Zh (b,fs,Zq l,⟨⟩,()) rfl ?_⟩⟩
 ·show(VG Lin (enc l)&&(dec (enc l:PV):Lin).t.isEmpty)=true
  rw[Z0,Enc.dec_enc,ht];rfl
 ·show if (Zp b fs (Zq l) [] != 0)=true then _ else _
  rw[hn]at key hbad
  by_cases h0:Zp b fs (Zq l) []=0
  ·rw[if_neg (by simp[h0])]
   refine⟨?_,key h0⟩
   show(VG (List Str) (enc b.v)&&VG (List Fact) (enc fs))=true
   rw[Z0,Z0];rfl
  ·rw[if_pos (by simpa using h0)]
   exact hbad h0
def Hm:YB:=fun n st q=>n=0∧GN Uf 0 (.t 31) 177 [32,33] [(15,33)] QF Kt Qn DI st q
theorem Lv(b:BoxT)(fs:List Fact)(l:Lin)(hl:Yj l=true)(hb:b.v.length<=1000)(hr:Zp b fs (Zq l) (Zd l)=0)(k:Nat)(p:List Int)(hp:(ZR b fs)[k]? = some p):
  ZB Uf (fun n S' _=>n=99∧S'.heap=M8 l (Vj Yo ((YH b fs l).take (k+1))).1 (Vj Yo ((YH b fs l).take (k+1))).2) 7 (fun st=>False) (.inl QF) [.seq (.ext 99 [])]
   ⟨ZU 49 0 [(6,.ptr 0 0),(8,.ptr 1 0),(9,.ptr 2 0),(11,.ptr 3 0),(12,.ptr 4 0),(13,.ptr 5 0),(15,.pv (enc (Zf b.v p))),(32,.pv (enc p)),(33,.pv (enc (Zf b.v p)))],M8 l (Vj Yo ((YH b fs l).take k)).1 (Vj Yo ((YH b fs l).take k)).2⟩:=by
 have hk:=(List.getElem?_eq_some_iff.1 hp).1
 have hkp:=(List.getElem?_eq_some_iff.1 hp).2
 have hm:p∈ZR b fs:=List.mem_of_getElem? hp
 have hkv:k<(YH b fs l).length:=by unfold YH;rw[List.length_map];exact hk
 have hgv:(YH b fs l)[k]=(Yh l (Zf b.v p)).1:=by
  have:(YH b fs l)[k]? = some (Yh l (Zf b.v p)).1:=by unfold YH;rw[List.getElem?_map,hp];rfl
  exact(List.getElem?_eq_some_iff.1 this).2
 have ht:(YH b fs l).take (k+1)=(YH b fs l).take k++[(Yh l (Zf b.v p)).1]:=by rw[List.take_succ_eq_append_getElem hkv,hgv]
 rw[ht,RX]
 refine b1g (G:=fun _=>False) _ l p (Zf b.v p) _ _ ⟨Zj (l,Zf b.v p,()) rfl ?_,Zh (l,Zf b.v p,()) rfl ?_⟩
 ·show(Yj l&&decide ((Zf b.v p).length<=9223372036854775807))=true
  rw[hl,decide_eq_true (by unfold Zf;rw[List.length_zipWith];omega)];rfl
 ·refine ZK (by rw[NZ hr hm];simp) ⟨rfl,rfl⟩
theorem a8p: ∀ x:BoxT×List Fact×Lin×FnV 128×Unit,(UN x.1 x.2.1 x.2.2.1&& !x.2.2.1.t.isEmpty)=true->Ku Uf Hm 0 (Za QK (Zg (Qe Yo x.1 x.2.1 x.2.2.1))) QP [] (Ye b7e (encL x)):=by
 rintro⟨b,fs,l,⟨⟩,⟨⟩⟩ hp
 simp only[UN,Bool.and_eq_true,decide_eq_true_eq]at hp
 obtain⟨⟨⟨⟨⟨⟨h1,h2⟩,h3⟩,h4⟩,h5⟩,h6⟩,h7⟩:=hp
 have key:Zp b fs (Zq l) (Zd l)=0->Hm 0 ⟨ZU 49 0 [(6,(.ptr 0 0)),(8,(.ptr 1 0)),(9,(.ptr 2 0)),(11,(.ptr 3 0)),(12,(.ptr 4 0)),(13,(.ptr 5 0)),(15,.undef),(16,.undef),(17,.undef),(31,(.fn 177 [] [(.ptr 6 0),(.ptr 7 0)])),(33,.undef),(34,.undef),(35,.undef),(36,.undef),(37,.undef),(38,.undef),(39,.undef),(40,.undef),(41,.undef),(42,.undef),(43,.undef),(44,.undef)],[(.obj (.box [(.pv (.int .i64 (Lin.k l))),(.pv (.sl 2 false (List.map enc (Lin.t l))))])),(.obj (.box [(.pv (.int .i64 0))])),(.obj (.box [(.pv (.int .i64 0))])),(.obj (.box [(.pv (.int .i64 0))])),(.obj (.box [(.pv (.bool false))])),(.obj (.box [(.fn 194 [] [(.ptr 4 0),(.ptr 8 0),(.ptr 3 0)])])),(.obj (.box [(.pv (.sl 1 false (List.map enc (BoxT.v b)))),(.pv (.int .i64 (BoxT.m b)))])),(.obj (.box [(.pv (.sl 3 false (List.map enc fs)))])),(.obj (.box [(.pv (.fn 128))]))]⟩ (fun x S'=>Jy Uf Hm 0 (Za QK (Zg (Qe Yo b fs l))) QP 0 x S'):=by
  intro h0
  obtain⟨hv,_⟩:=Ur _ _ _ _ h0
  refine⟨rfl,[6,7],[[enc b.v,.int .i64 b.m],[enc fs]],[6,8,9,11,12,13],[],⟨ZU 49 0 [(6,.ptr 0 0),(8,.ptr 1 0),(9,.ptr 2 0),(11,.ptr 3 0),(12,.ptr 4 0),(13,.ptr 5 0)],M8 l 0 false⟩,(fun k σ=>σ=M8 l (Vj Yo ((YH b fs l).take k)).1 (Vj Yo ((YH b fs l).take k)).2),fun _=>False,rfl,by simp,rfl,?_,by kernel_rfl,BL hv h2 h4,rfl,?_,?_,fun σ h=>h.elim⟩
  ·intro j l' ps hl hps
   match j with
   | 0=>cases hl;cases hps;rfl
   | 1=>cases hl;cases hps;rfl
   | j+2=>simp at hl
  ·intro k x σ hx hI
   rw[SN,List.getElem?_map]at hx
   obtain⟨p,hp,rfl⟩:=Option.map_eq_some_iff.1 hx
   subst hI
   have e:Tk [(15,33)] (Cq [32,33] ((Kt (p,Zf b.v p)).map .pv) (ZU 49 0 [(6,.ptr 0 0),(8,.ptr 1 0),(9,.ptr 2 0),(11,.ptr 3 0),(12,.ptr 4 0),(13,.ptr 5 0)]))=ZU 49 0 [(6,.ptr 0 0),(8,.ptr 1 0),(9,.ptr 2 0),(11,.ptr 3 0),(12,.ptr 4 0),(13,.ptr 5 0),(15,.pv (enc (Zf b.v p))),(32,.pv (enc p)),(33,.pv (enc (Zf b.v p)))]:=by kernel_rfl
   have:=Lv b fs l h5 h4 h0 k p hp
   rw[<- e]at this
   exact this
  ·intro σ hI
   rw[SN,List.length_map]at hI
   subst hI
   have hall:(YH b fs l).take (ZR b fs).length=YH b fs l:=List.take_of_length_le (by unfold YH;rw[List.length_map];exact Nat.le_refl _)
   rw[hall]
   refine b6s (G:=Zg (Qe Yo b fs l)) Hm b fs l _ _ ?_
   unfold Qe Vj
   rw[if_pos h0]
   cases Cf Yo (YH b fs l)with
   | none=>exact ZE rfl (ZQ (x:=((0:Int),(9:Int))) rfl)
   | some z=>exact ZK (by simp) (ZQ (x:=((z:Int),(0:Int))) rfl)
 have hbad:Zp b fs (Zq l) (Zd l)≠0->Zg (Qe Yo b fs l) (.tup [.int .i64 0,.int .i64 (Zp b fs (Zq l) (Zd l))]):=by
  intro h0
  unfold Qe
  rw[if_neg h0]
  exact ZQ (x:=((0:Int),Zp b fs (Zq l) (Zd l))) rfl
 have hne:l.t≠[]:=by intro h;rw[h]at h7;simp at h7
 refine b9x Hm b fs l ⟨Zj (l,()) rfl h5,Zh (l,()) rfl ⟨?_,?_⟩⟩
 ·show(VG Lin (enc l)&& !(dec (enc l:PV):Lin).t.isEmpty&&decide ((dec (enc l:PV):Lin).t.length<=1000000))=true
  rw[Z0,Enc.dec_enc,decide_eq_true (by omega)]
  simpa using hne
 ·rw[c5y,a1h,Li,UY]
  have hnl:(Zd l).length=l.t.length:=by unfold Zd;rw[List.length_map]
  refine⟨?_,?_⟩
  ·show(VG BoxT (enc b)&&VG (List Fact) (enc fs)&&9==9&&Ti (Zd l).length (Zd l).length ((Zd l).map enc)&&decide ((Zd l).length<=1000)&& !((Zd l).map (enc:Str->PV)).isEmpty&&ZC (dec (enc b:PV))&&Zi (dec (enc fs:PV))&&decide ((dec (enc fs:PV):List Fact).length<=100)&&decide (((Zd l).map (enc:Str->PV)).length<=1000))=true
   rw[List.length_map,Z0,Z0,Enc.dec_enc,Enc.dec_enc,CZ rfl (by omega),h1,h2,decide_eq_true h3,decide_eq_true (show(Zd l).length<=1000 by omega)]
   have:((Zd l).map (enc:Str->PV)).isEmpty=false:=by
    rw[List.isEmpty_eq_false_iff]
    intro h
    have:=congrArg List.length h
    rw[List.length_map,hnl]at this
    exact hne (List.length_eq_zero_iff.1 this)
   rw[this];simp
  ·show if (Zp b fs (Zq l) (Zd l) != 0)=true then _ else _
   by_cases h0:Zp b fs (Zq l) (Zd l)=0
   ·rw[if_neg (by simp[h0])]
    refine⟨?_,key h0⟩
    show(VG (List Str) (enc b.v)&&VG (List Fact) (enc fs))=true
    rw[Z0,Z0];rfl
   ·rw[if_pos (by simpa using h0)]
    exact hbad h0
theorem b5p: ∀ x:BoxT×List Fact×Lin×Unit,UN x.1 x.2.1 x.2.2.1=true->Zc O5 0 (Za Nt (Zg (Qe Yo x.1 x.2.1 x.2.2.1))) Nf [] (Ye b8u (encL x)):=by
 rintro⟨b,fs,l,⟨⟩⟩ hp
 exact c8d b fs l ⟨Zj (b,fs,l,⟨()⟩,()) rfl hp,Zh (b,fs,l,⟨()⟩,()) rfl (ZQ (x:=Qe Yo b fs l) rfl)⟩
theorem b8p: ∀ x:Int×Int×Unit,(fun _:Int×Int×Unit=>true) x=true->Zc b2z 0 (Za Eg (Zg (decide (x.1<x.2.1)))) O6 [] (Ye c7a (encL x)):=by
 rintro⟨m,n,⟨⟩⟩ _
 exact c8i m n (ZM rfl)
end Go.Pl

namespace Go.Pl
open Go.RowKit
open Enc (enc dec is)
open EncL (encL decL isL)
set_option maxRecDepth 100000
def NE:IC:=(.seq (.reg [⟨(some 2),(.mv (.c (.bool false))),0,none⟩] none) (.seq (.reg [⟨(some 3),(.mv (.t 0)),0,none⟩,⟨(some 4),(.call (.c (.fn 119)) [(.t 3)]),0,none⟩,⟨(some 5),(.un .not (.t 4)),2,none⟩,⟨(some 2),(.mv (.t 5)),2,none⟩] none) .ret))
def Nc:List IRes:=[(.tmp 2)]
abbrev c2l:Nat:=6
def Oi:ZG:=Xc [(119,.pure (preT (fun x:Str×Unit=>decide (x.1.s.length<=281474976710656))) (Ze (fun x:Str×Unit=>ZF x.1)))]
theorem c4v{G:PV->Prop}(s:List UInt8)(h:(Go.Pl.preT (fun(x:Str×Unit)=>decide (List.length (Str.s x.1)<=281474976710656)) [(.str s)])=true∧(∃ y0:Bool,AV.pv (Ze (fun(x:Str×Unit)=>ZF x.1) [(.str s)])=AV.pv (enc y0)∧(G ((.bool !y0))))):Zc Oi 0 (Za Nc G) NE [] (Ye 6 [.str s]):=Zc.tp (.req (.abs (Bool) (fun YY=>AV.pv (enc YY)) (.nil))) h (by kernel_rfl)
def JY:IC:=U4
def JR:List IRes:=[(.tmp 4)]
abbrev c5c:Nat:=19
def Sb:ZG:=Xc [(185,.pure (preT (fun x:Str×Unit=>decide (x.1.s.length<=281474976710656))) (Ze (fun x:Str×Unit=> !(ZF x.1))))]
theorem c9a{G:PV->Prop}(l:List Str)(h:At Sb 0 (Za JR G) JY 0 19 [(0,(.pv (.sl 1 false (List.map enc l)))),(1,(.pv (.fn 185))),(7,(.pv (.int .i64 (↑(List.length (List.map enc l)):Int)))),(8,(.pv (.int .i64 0)))] []):Zc Sb 0 (Za JR G) JY [] (Ye 19 [enc l,.fn 185]):=Zc.tp (.nil) h (by kernel_rfl)
theorem b8a{G:PV->Prop}(l:List Str)(i:Int)(h:if (decide (i<(↑(List.length l):Int)))=true then(decide (0<=i)&&decide (Int.toNat i<List.length (List.map enc l))&&Enc.sz Str==1)=true∧(∃ y0:Str,AV.pv (PV.rptr (PV.cells (List.getD (List.map enc l) (Int.toNat i) default)))=AV.pv (PV.rptr (PV.cells ((enc) y0)))∧((Go.Pl.preT (fun(x:Str×Unit)=>decide (List.length (Str.s x.1)<=281474976710656)) [(.str (PV.asStr (List.getD (PV.cells (enc y0)) 0 default)))])=true∧(∃ y1:Bool,AV.pv (Ze (fun(x:Str×Unit)=> !ZF x.1) [(.str (PV.asStr (List.getD (PV.cells (enc y0)) 0 default)))])=AV.pv (enc y1)∧(if (y1)=true then G ((.int .i64 i))else(At Sb 0 (Za JR G) JY 0 19 [(0,(.pv (.sl 1 false (List.map enc l)))),(1,(.pv (.fn 185))),(7,(.pv (.int .i64 (↑(List.length l):Int)))),(8,(.pv (.int .i64 (IntKind.wrap IntKind.i64 (i+1)))))] [])))))else(G ((.int .i64 (-1))))):At Sb 0 (Za JR G) JY 0 19 [(0,.pv (enc l)),(1,.pv (.fn 185)),(7,.pv (.int .i64 l.length)),(8,.pv (.int .i64 i))] []:=At.tp (.lit (.ask (.req (.abs (Str) (fun YY=>AV.pv (PV.rptr (PV.cells ((enc) YY)))) (.lit (.req (.abs (Bool) (fun YY=>AV.pv (enc YY)) (.ask (.nil) (.lit (.nil)))))))) (.nil))) h (by kernel_rfl)
def Ez:IC:=Bo
def Eb:List IRes:=[(.tmp 4)]
abbrev c5n:Nat:=9
def b7s:ZG:=Xc [(238,.pure (preT (fun x:List Str×FnV 185×Unit=>WF x.1)) (Ze (fun x:List Str×FnV 185×Unit=>Zz (fun s:Str=> !(ZF s)) x.1)))]
theorem c8r{G:PV->Prop}(l:List Str)(h:(Go.Pl.preT (fun(x:List Str×FnV 185×Unit)=>WF x.1) [(.sl 1 false (List.map enc l)),(.fn 185)])=true∧(∃ y0:Int,AV.pv (Ze (fun(x:List Str×FnV 185×Unit)=>Zz (fun(s:Str)=> !ZF s) x.1) [(.sl 1 false (List.map enc l)),(.fn 185)])=AV.pv (enc y0)∧(G ((.bool (decide (y0 ≥ 0))))))):Zc b7s 0 (Za Eb G) Ez [] (Ye 9 [enc l,.fn 185]):=Zc.tp (.req (.abs (Int) (fun YY=>AV.pv (enc YY)) (.lit (.nil)))) h (by kernel_rfl)
def PH:IC:=(.seq (.reg [⟨(some 2),(.mv (.c (.bool false))),0,none⟩] none) (.seq (.reg [⟨(some 3),(.mv (.t 0)),0,none⟩,⟨(some 4),(.mv (.t 0)),0,none⟩,⟨(some 5),(.bin .num .neq (.t 3) (.t 4)),0,none⟩,⟨(some 2),(.mv (.t 5)),0,none⟩] none) .ret))
def NJ:List IRes:=[(.tmp 2)]
abbrev b8q:Nat:=6
def a0f:ZG:=Xc []
theorem c7f{G:PV->Prop}(s:List UInt8)(h:G ((.bool (!s==s)))):Zc a0f 0 (Za NJ G) PH [] (Ye 6 [.str s]):=Zc.tp (.lit (.nil)) h (by kernel_rfl)
def Sy:IC:=(.seq (.reg [⟨(some 4),(.mv (.c (.bool false))),0,none⟩] none) (.seq (.reg [⟨(some 5),(.mv (.t 0)),0,none⟩,⟨(some 6),(.call (.c (.fn 283)) [(.t 5)]),0,none⟩,⟨(some 7),(.mv (.t 6)),2,none⟩,⟨(some 8),(.mv (.t 1)),2,(some (7,true))⟩,⟨(some 9),(.call (.c (.fn 283)) [(.t 8)]),2,(some (7,true))⟩,⟨(some 10),(.un .not (.t 9)),4,(some (7,true))⟩,⟨(some 11),(.pick (.t 7) (.t 10) (.c (.bool false))),4,none⟩,⟨(some 12),(.mv (.t 11)),4,none⟩,⟨(some 13),(.mv (.t 0)),4,(some (12,false))⟩,⟨(some 14),(.mv (.t 1)),4,(some (12,false))⟩,⟨(some 15),(.bin .num .lss (.t 13) (.t 14)),4,(some (12,false))⟩,⟨(some 16),(.pick (.t 12) (.c (.bool true)) (.t 15)),4,none⟩,⟨(some 4),(.mv (.t 16)),4,none⟩] none) .ret))
def Aw:List IRes:=[(.tmp 4)]
abbrev b0u:Nat:=17
def Ni:ZG:=Xc [(283,.pure (preT (fun _:Str×Unit=>true)) (Ze (fun _:Str×Unit=>false)))]
theorem c3e{G:PV->Prop}(s t:List UInt8)(h : ∃ y0:Bool,AV.pv (Ze (fun(x:Str×Unit)=>false) [(.str s)])=AV.pv (enc y0)∧(if (y0)=true then ∃ y1:Bool,AV.pv (Ze (fun(x:Str×Unit)=>false) [(.str t)])=AV.pv (enc y1)∧(if (!y1)=true then G ((.bool true))else(G ((.bool (Op.bytesLess s t)))))else(G ((.bool (Op.bytesLess s t)))))):Zc Ni 0 (Za Aw G) Sy [] (Ye 17 [.str s,.str t]):=Zc.tp (.lit (.abs (Bool) (fun YY=>AV.pv (enc YY)) (.ask (.lit (.lit (.abs (Bool) (fun YY=>AV.pv (enc YY)) (.lit (.lit (.ask (.lit (.lit (.lit (.nil)))) (.lit (.lit (.lit (.lit (.nil))))))))))) (.lit (.lit (.lit (.lit (.lit (.lit (.lit (.lit (.nil)))))))))))) h (by kernel_rfl)
def PP:IC:=(.seq (.reg [⟨(some 4),(.mv (.c (.int .i64 0))),0,none⟩] none) (.seq (.reg [⟨(some 7),(.mv (.t 0)),0,none⟩,⟨(some 8),(.call (.c (.fn 283)) [(.t 7)]),0,none⟩,⟨(some 5),(.mv (.t 8)),2,none⟩] none) (.seq (.reg [⟨(some 9),(.mv (.t 1)),0,none⟩,⟨(some 10),(.call (.c (.fn 283)) [(.t 9)]),0,none⟩,⟨(some 6),(.mv (.t 10)),2,none⟩] none) (.seq (.seq (.reg [⟨(some 11),(.mv (.t 5)),0,none⟩] none) (.cond (.t 11) (.seq (.seq (.reg [⟨(some 12),(.mv (.t 6)),0,none⟩] none) (.cond (.t 12) (.seq (.reg [⟨(some 4),(.mv (.c (.int .i64 0))),0,none⟩] none) .ret) .skip)) (.seq (.reg [⟨(some 4),(.mv (.c (.int .i64 (-1)))),0,none⟩] none) .ret)) .skip)) (.seq (.seq (.reg [⟨(some 13),(.mv (.t 6)),0,none⟩] none) (.cond (.t 13) (.seq (.reg [⟨(some 4),(.mv (.c (.int .i64 1))),0,none⟩] none) .ret) .skip)) (.seq (.seq (.reg [⟨(some 14),(.mv (.t 0)),0,none⟩,⟨(some 15),(.mv (.t 1)),0,none⟩,⟨(some 16),(.bin .num .lss (.t 14) (.t 15)),0,none⟩] none) (.cond (.t 16) (.seq (.reg [⟨(some 4),(.mv (.c (.int .i64 (-1)))),0,none⟩] none) .ret) .skip)) (.seq (.seq (.reg [⟨(some 17),(.mv (.t 0)),0,none⟩,⟨(some 18),(.mv (.t 1)),0,none⟩,⟨(some 19),(.bin .num .gtr (.t 17) (.t 18)),0,none⟩] none) (.cond (.t 19) (.seq (.reg [⟨(some 4),(.mv (.c (.int .i64 1))),0,none⟩] none) .ret) .skip)) (.seq (.reg [⟨(some 4),(.mv (.c (.int .i64 0))),0,none⟩] none) .ret))))))))
def Pj:List IRes:=[(.tmp 4)]
abbrev c2d:Nat:=20
def OY:ZG:=Xc [(283,.pure (preT (fun _:Str×Unit=>true)) (Ze (fun _:Str×Unit=>false)))]
theorem c7t{G:PV->Prop}(s t:List UInt8)(h : ∃ y0:Bool,AV.pv (Ze (fun(x:Str×Unit)=>false) [(.str s)])=AV.pv (enc y0)∧(∃ y1:Bool,AV.pv (Ze (fun(x:Str×Unit)=>false) [(.str t)])=AV.pv (enc y1)∧(if (y0)=true then if (y1)=true then G ((.int .i64 0))else(G ((.int .i64 (-1))))else(if (y1)=true then G ((.int .i64 1))else(if (Op.bytesLess s t)=true then G ((.int .i64 (-1)))else(if (!(Op.bytesLess s t||s==t))=true then G ((.int .i64 1))else(G ((.int .i64 0))))))))):Zc OY 0 (Za Pj G) PP [] (Ye 20 [.str s,.str t]):=Zc.tp (.lit (.abs (Bool) (fun YY=>AV.pv (enc YY)) (.lit (.abs (Bool) (fun YY=>AV.pv (enc YY)) (.ask (.ask (.nil) (.nil)) (.ask (.nil) (.lit (.ask (.nil) (.lit (.ask (.nil) (.nil))))))))))) h (by kernel_rfl)
def WX:IC:=(.seq (.reg [⟨(some 2),(.mv (.c (.bool false))),0,none⟩] none) (.seq (.seq (.reg [⟨(some 4),(.mv (.t 0)),0,none⟩,⟨(some 5),(.len 1 (.t 4)),0,none⟩,⟨(some 6),(.bin .num .sub (.t 5) (.c (.int .i64 1))),0,none⟩,⟨(some 3),(.mv (.t 6)),0,none⟩] none) (.block 0 (.loop [3,0] (.seq (.seq (.reg [⟨(some 7),(.mv (.t 3)),0,none⟩,⟨(some 8),(.bin .num .gtr (.t 7) (.c (.int .i64 0))),0,none⟩] none) (.cond (.t 8) .skip (.exit 0))) (.seq (.block 1 (.seq (.reg [⟨(some 11),(.mv (.t 0)),0,none⟩,⟨(some 12),(.mv (.t 3)),0,none⟩,⟨(some 13),(.iaddr 1 (.t 11) (.t 12)),0,none⟩,⟨(some 14),(.load false [.str] (.t 13)),0,none⟩,⟨(some 15),(.mv (.t 0)),0,none⟩,⟨(some 16),(.mv (.t 3)),0,none⟩,⟨(some 17),(.bin .num .sub (.t 16) (.c (.int .i64 1))),0,none⟩,⟨(some 18),(.iaddr 1 (.t 15) (.t 17)),0,none⟩,⟨(some 19),(.load false [.str] (.t 18)),0,none⟩,⟨(some 20),(.call (.c (.fn 244)) [(.t 14),(.t 19)]),0,none⟩] (some [[],[],[0,1],[2,0,1],[],[],[5],[4,6,5],[7,4,6,5],[3,8,2,0,1,7,4,6,5]])) (.cond (.t 20) (.seq (.reg [⟨(some 2),(.mv (.c (.bool false))),0,none⟩] none) .ret) .skip))) (.reg [⟨(some 9),(.mv (.t 3)),0,none⟩,⟨(some 10),(.bin .num .sub (.t 9) (.c (.int .i64 1))),0,none⟩,⟨(some 3),(.mv (.t 10)),0,none⟩] none)))))) (.seq (.reg [⟨(some 2),(.mv (.c (.bool true))),0,none⟩] none) .ret)))
def WV:List IRes:=[(.tmp 2)]
abbrev O9:Nat:=21
def VY:ZG:=Xc [(244,.pure (preT (fun _:Str×Str×Unit=>true)) (Ze (fun x:Str×Str×Unit=>decide (x.1.s<x.2.1.s))))]
theorem a5r{G:PV->Prop}(l:List Str)(h:At VY 0 (Za WV G) WX 0 21 [(0,(.pv (.sl 1 false (List.map enc l)))),(3,(.pv (.int .i64 (IntKind.wrap IntKind.i64 ((↑(List.length (List.map enc l)):Int) - 1)))))] []):Zc VY 0 (Za WV G) WX [] (Ye 21 [enc l]):=Zc.tp (.lit (.nil)) h (by kernel_rfl)
theorem JO{G:PV->Prop}(l:List Str)(i:Int)(h:if (decide (i>0))=true then(decide (0<=i)&&decide (Int.toNat i<List.length (List.map enc l))&&Enc.sz Str==1)=true∧(∃ y0:Str,AV.pv (PV.rptr (PV.cells (List.getD (List.map enc l) (Int.toNat i) default)))=AV.pv (PV.rptr (PV.cells ((enc) y0)))∧((decide (0<=IntKind.wrap IntKind.i64 (i - 1))&&decide (Int.toNat (IntKind.wrap IntKind.i64 (i - 1))<List.length (List.map enc l))&&Enc.sz Str==1)=true∧(∃ y1:Str,AV.pv (PV.rptr (PV.cells (List.getD (List.map enc l) (Int.toNat (IntKind.wrap IntKind.i64 (i - 1))) default)))=AV.pv (PV.rptr (PV.cells ((enc) y1)))∧(∃ y2:Bool,AV.pv (Ze (fun(x:Str×Str×Unit)=>decide (Str.s x.1<Str.s x.2.1)) [(.str (PV.asStr (List.getD (PV.cells (enc y0)) 0 default))),(.str (PV.asStr (List.getD (PV.cells (enc y1)) 0 default)))])=AV.pv (enc y2)∧(if (y2)=true then G ((.bool false))else(At VY 0 (Za WV G) WX 0 21 [(0,(.pv (.sl 1 false (List.map enc l)))),(3,(.pv (.int .i64 (IntKind.wrap IntKind.i64 (i - 1)))))] []))))))else(G ((.bool true)))):At VY 0 (Za WV G) WX 0 21 [(0,.pv (enc l)),(3,.pv (.int .i64 i))] []:=At.tp (.lit (.ask (.req (.abs (Str) (fun YY=>AV.pv (PV.rptr (PV.cells ((enc) YY)))) (.lit (.lit (.req (.abs (Str) (fun YY=>AV.pv (PV.rptr (PV.cells ((enc) YY)))) (.lit (.lit (.abs (Bool) (fun YY=>AV.pv (enc YY)) (.ask (.nil) (.lit (.nil)))))))))))) (.nil))) h (by kernel_rfl)
def VN:IC:=(.seq (.reg [⟨(some 4),(.mv (.c (.int .i64 0))),0,none⟩] none) (.seq (.seq (.reg [⟨(some 9),(.mv (.t 0)),0,none⟩,⟨(some 10),(.len 1 (.t 9)),0,none⟩,⟨(some 11),(.mv (.c (.int .i64 0))),0,none⟩] none) (.block 0 (.loop [11,10,9,1,0] (.seq (.reg [⟨(some 12),(.bin .num .lss (.t 11) (.t 10)),0,none⟩] none) (.seq (.cond (.t 12) .skip (.exit 0)) (.seq (.block 1 (.seq (.reg [⟨(some 13),(.mv (.t 11)),0,none⟩,⟨(some 14),(.iaddr 1 (.t 9) (.t 11)),0,none⟩,⟨(some 15),(.load false [.str] (.t 14)),0,none⟩,⟨(some 5),(.mv (.t 13)),0,none⟩,⟨(some 6),(.mv (.t 15)),0,none⟩] none) (.seq (.seq (.reg [⟨(some 16),(.mv (.t 5)),0,none⟩,⟨(some 17),(.mv (.t 1)),0,none⟩,⟨(some 18),(.len 1 (.t 17)),0,none⟩,⟨(some 19),(.bin .num .geq (.t 16) (.t 18)),0,none⟩] none) (.cond (.t 19) (.seq (.reg [⟨(some 4),(.mv (.c (.int .i64 1))),0,none⟩] none) .ret) .skip)) (.seq (.reg [⟨(some 20),(.mv (.t 1)),0,none⟩,⟨(some 21),(.mv (.t 5)),0,none⟩,⟨(some 22),(.iaddr 1 (.t 20) (.t 21)),0,none⟩,⟨(some 23),(.load false [.str] (.t 22)),0,none⟩,⟨(some 7),(.mv (.t 23)),0,none⟩] none) (.seq (.reg [⟨(some 24),(.mv (.t 6)),0,none⟩,⟨(some 25),(.mv (.t 7)),0,none⟩,⟨(some 26),(.call (.c (.fn 245)) [(.t 24),(.t 25)]),0,none⟩,⟨(some 8),(.mv (.t 26)),2,none⟩] none) (.seq (.reg [⟨(some 27),(.mv (.t 8)),0,none⟩,⟨(some 28),(.bin .num .neq (.t 27) (.c (.int .i64 0))),0,none⟩] none) (.cond (.t 28) (.seq (.reg [⟨(some 29),(.mv (.t 8)),0,none⟩,⟨(some 4),(.mv (.t 29)),0,none⟩] none) .ret) .skip))))))) (.reg [⟨(some 30),(.bin .num .add (.t 11) (.c (.int .i64 1))),0,none⟩,⟨(some 11),(.mv (.t 30)),0,none⟩] none))))))) (.seq (.seq (.reg [⟨(some 31),(.mv (.t 0)),0,none⟩,⟨(some 32),(.len 1 (.t 31)),0,none⟩,⟨(some 33),(.mv (.t 1)),0,none⟩,⟨(some 34),(.len 1 (.t 33)),0,none⟩,⟨(some 35),(.bin .num .lss (.t 32) (.t 34)),0,none⟩] none) (.cond (.t 35) (.seq (.reg [⟨(some 4),(.mv (.c (.int .i64 (-1)))),0,none⟩] none) .ret) .skip)) (.seq (.reg [⟨(some 4),(.mv (.c (.int .i64 0))),0,none⟩] none) .ret))))
def V7:List IRes:=[(.tmp 4)]
abbrev a6p:Nat:=36
def UK:ZG:=Xc [(245,.pure (preT (fun _:Str×Str×Unit=>true)) (Ze (fun x:Str×Str×Unit=>Td x.1 x.2.1)))]
theorem b5j{G:PV->Prop}(a b:List Str)(h:At UK 0 (Za V7 G) VN 0 36 [(0,(.pv (.sl 1 false (List.map enc a)))),(1,(.pv (.sl 1 false (List.map enc b)))),(9,(.pv (.sl 1 false (List.map enc a)))),(10,(.pv (.int .i64 (↑(List.length (List.map enc a)):Int)))),(11,(.pv (.int .i64 0)))] []):Zc UK 0 (Za V7 G) VN [] (Ye 36 [enc a,enc b]):=Zc.tp (.nil) h (by kernel_rfl)
theorem Tx{G:PV->Prop}(a b:List Str)(i:Int)(h:if (decide (i<(↑(List.length a):Int)))=true then(decide (0<=i)&&decide (Int.toNat i<List.length (List.map enc a))&&Enc.sz Str==1)=true∧(∃ y0:Str,AV.pv (PV.rptr (PV.cells (List.getD (List.map enc a) (Int.toNat i) default)))=AV.pv (PV.rptr (PV.cells ((enc) y0)))∧(if (decide (i ≥ (↑(List.length (List.map enc b)):Int)))=true then G ((.int .i64 1))else((decide (0<=i)&&decide (Int.toNat i<List.length (List.map enc b))&&Enc.sz Str==1)=true∧(∃ y1:Str,AV.pv (PV.rptr (PV.cells (List.getD (List.map enc b) (Int.toNat i) default)))=AV.pv (PV.rptr (PV.cells ((enc) y1)))∧(∃ y2:Int,AV.pv (Ze (fun(x:Str×Str×Unit)=>Td x.1 x.2.1) [(.str (PV.asStr (List.getD (PV.cells (enc y0)) 0 default))),(.str (PV.asStr (List.getD (PV.cells (enc y1)) 0 default)))])=AV.pv (enc y2)∧(if (y2 != 0)=true then G ((.int .i64 y2))else(At UK 0 (Za V7 G) VN 0 36 [(0,(.pv (.sl 1 false (List.map enc a)))),(1,(.pv (.sl 1 false (List.map enc b)))),(9,(.pv (.sl 1 false (List.map enc a)))),(10,(.pv (.int .i64 (↑(List.length a):Int)))),(11,(.pv (.int .i64 (IntKind.wrap IntKind.i64 (i+1)))))] [])))))))else(if (decide ((↑(List.length (List.map enc a)):Int)<(↑(List.length (List.map enc b)):Int)))=true then G ((.int .i64 (-1)))else(G ((.int .i64 0))))):At UK 0 (Za V7 G) VN 0 36 [(0,.pv (enc a)),(1,.pv (enc b)),(9,.pv (enc a)),(10,.pv (.int .i64 a.length)),(11,.pv (.int .i64 i))] []:=At.tp (.lit (.ask (.req (.abs (Str) (fun YY=>AV.pv (PV.rptr (PV.cells ((enc) YY)))) (.lit (.lit (.ask (.nil) (.req (.abs (Str) (fun YY=>AV.pv (PV.rptr (PV.cells ((enc) YY)))) (.lit (.lit (.abs (Int) (fun YY=>AV.pv (enc YY)) (.lit (.ask (.nil) (.lit (.nil)))))))))))))) (.lit (.ask (.nil) (.nil))))) h (by kernel_rfl)
def Ve:IC:=(.seq (.reg [⟨(some 2),(.mv (.c (.bool false))),0,none⟩] none) (.seq (.seq (.reg [⟨(some 5),(.mv (.t 0)),0,none⟩,⟨(some 6),(.len 1 (.t 5)),0,none⟩,⟨(some 7),(.mv (.c (.int .i64 0))),0,none⟩] none) (.block 0 (.loop [7,6,5,0] (.seq (.reg [⟨(some 8),(.bin .num .lss (.t 7) (.t 6)),0,none⟩] none) (.seq (.cond (.t 8) .skip (.exit 0)) (.seq (.block 1 (.seq (.reg [⟨(some 9),(.mv (.t 7)),0,none⟩,⟨(some 10),(.iaddr 2 (.t 5) (.t 7)),0,none⟩,⟨(some 11),(.load true [(.int .i64),(.sl 1)] (.t 10)),0,none⟩,⟨(some 4),(.alloc (.agg [(.int .i64 0),(.sl 0 true [])])),0,none⟩,⟨(some 3),(.mv (.t 9)),1,none⟩,⟨none,(.store 2 (.t 4) (.t 11)),1,none⟩] none) (.seq (.seq (.reg [⟨(some 12),(.faddr 0 (.t 4)),0,none⟩,⟨(some 13),(.load false [(.int .i64)] (.t 12)),0,none⟩,⟨(some 14),(.bin .num .eql (.t 13) (.c (.int .i64 0))),0,none⟩,⟨(some 15),(.mv (.t 14)),0,none⟩,⟨(some 16),(.faddr 0 (.t 4)),0,(some (15,false))⟩,⟨(some 17),(.load false [(.int .i64)] (.t 16)),0,(some (15,false))⟩,⟨(some 18),(.bin .num .lss (.t 17) (.c (.int .i64 (-1099511627776)))),0,(some (15,false))⟩,⟨(some 19),(.pick (.t 15) (.c (.bool true)) (.t 18)),0,none⟩,⟨(some 20),(.mv (.t 19)),0,none⟩,⟨(some 21),(.faddr 0 (.t 4)),0,(some (20,false))⟩,⟨(some 22),(.load false [(.int .i64)] (.t 21)),0,(some (20,false))⟩,⟨(some 23),(.bin .num .gtr (.t 22) (.c (.int .i64 1099511627776))),0,(some (20,false))⟩,⟨(some 24),(.pick (.t 20) (.c (.bool true)) (.t 23)),0,none⟩,⟨(some 25),(.mv (.t 24)),0,none⟩,⟨(some 26),(.faddr 1 (.t 4)),0,(some (25,false))⟩,⟨(some 27),(.load false [(.sl 1)] (.t 26)),0,(some (25,false))⟩,⟨(some 28),(.len 1 (.t 27)),0,(some (25,false))⟩,⟨(some 29),(.bin .num .gtr (.t 28) (.c (.int .i64 8))),0,(some (25,false))⟩,⟨(some 30),(.pick (.t 25) (.c (.bool true)) (.t 29)),0,none⟩,⟨(some 31),(.mv (.t 30)),0,none⟩,⟨(some 32),(.faddr 1 (.t 4)),0,(some (31,false))⟩,⟨(some 33),(.load false [(.sl 1)] (.t 32)),0,(some (31,false))⟩,⟨(some 34),(.call (.c (.fn 184)) [(.t 33)]),0,(some (31,false))⟩,⟨(some 35),(.un .not (.t 34)),2,(some (31,false))⟩,⟨(some 36),(.pick (.t 31) (.c (.bool true)) (.t 35)),2,none⟩] none) (.cond (.t 36) (.seq (.reg [⟨(some 2),(.mv (.c (.bool false))),0,none⟩] none) .ret) .skip)) (.seq (.seq (.reg [⟨(some 37),(.faddr 1 (.t 4)),0,none⟩,⟨(some 38),(.load false [(.sl 1)] (.t 37)),0,none⟩,⟨(some 39),(.call (.c (.fn 175)) [(.t 38),(.c (.fn 185))]),0,none⟩] none) (.cond (.t 39) (.seq (.reg [⟨(some 2),(.mv (.c (.bool false))),0,none⟩] none) .ret) .skip)) (.seq (.reg [⟨(some 40),(.mv (.t 3)),0,none⟩,⟨(some 41),(.bin .num .gtr (.t 40) (.c (.int .i64 0))),0,none⟩,⟨(some 42),(.mv (.t 41)),0,none⟩,⟨(some 43),(.mv (.t 0)),0,(some (42,true))⟩,⟨(some 44),(.mv (.t 3)),0,(some (42,true))⟩,⟨(some 45),(.bin .num .sub (.t 44) (.c (.int .i64 1))),0,(some (42,true))⟩,⟨(some 46),(.iaddr 2 (.t 43) (.t 45)),0,(some (42,true))⟩,⟨(some 47),(.faddr 1 (.t 46)),0,(some (42,true))⟩,⟨(some 48),(.load false [(.sl 1)] (.t 47)),0,(some (42,true))⟩,⟨(some 49),(.faddr 1 (.t 4)),0,(some (42,true))⟩,⟨(some 50),(.load false [(.sl 1)] (.t 49)),0,(some (42,true))⟩,⟨(some 51),(.call (.c (.fn 186)) [(.t 48),(.t 50)]),0,(some (42,true))⟩,⟨(some 52),(.bin .num .geq (.t 51) (.c (.int .i64 0))),2,(some (42,true))⟩,⟨(some 53),(.pick (.t 42) (.t 52) (.c (.bool false))),2,none⟩] (some [[],[0],[1,0],[2,1,0],[2,1,0],[4,2,1,0],[3,5,2,1,0,4],[6,2,3,5,1,0,4],[7,2,6,3,5,1,0,4],[2,1,0],[9,2,1,0],[8,10,2,7,6,3,5,1,0,4,9],[11,2,8,10,7,6,3,5,1,0,4,9],[2,12,1,0,11,8,10,7,6,3,5,4,9]])) (.cond (.t 53) (.seq (.reg [⟨(some 2),(.mv (.c (.bool false))),0,none⟩] none) .ret) .skip)))))) (.reg [⟨(some 54),(.bin .num .add (.t 7) (.c (.int .i64 1))),0,none⟩,⟨(some 7),(.mv (.t 54)),0,none⟩] none))))))) (.seq (.reg [⟨(some 55),(.mv (.t 0)),0,none⟩,⟨(some 56),(.len 1 (.t 55)),0,none⟩,⟨(some 57),(.bin .num .leq (.t 56) (.c (.int .i64 60))),0,none⟩,⟨(some 2),(.mv (.t 57)),0,none⟩] none) .ret)))
def Wv:List IRes:=[(.tmp 2)]
abbrev a3u:Nat:=58
def Vk:ZG:=Xc [(184,.pure (preT (fun x:List Str×Unit=>Zn x.1)) (Ze (fun x:List Str×Unit=>Gu x.1))),(175,.pure (preT (fun x:List Str×FnV 185×Unit=>WF x.1)) (Ze (fun x:List Str×FnV 185×Unit=>x.1.any fun s:Str=> !(ZF s)))),(186,.pure (preT (fun x:List Str×List Str×Unit=>Zn x.1&&Zn x.2.1)) (Ze (fun x:List Str×List Str×Unit=>Dz x.1 x.2.1)))]
theorem b6m{G:PV->Prop}(p:List Mono)(h:At Vk 0 (Za Wv G) Ve 0 58 [(0,(.pv (.sl 2 false (List.map enc p)))),(5,(.pv (.sl 2 false (List.map enc p)))),(6,(.pv (.int .i64 (↑(List.length (List.map enc p)):Int)))),(7,(.pv (.int .i64 0)))] []):Zc Vk 0 (Za Wv G) Ve [] (Ye 58 [enc p]):=Zc.tp (.nil) h (by kernel_rfl)
theorem TE{G:PV->Prop}(p:List Mono)(i:Int)(h:if (decide (i<(↑(List.length p):Int)))=true then(decide (0<=i)&&decide (Int.toNat i<List.length (List.map enc p))&&Enc.sz Mono==2)=true∧(∃ y0:Mono,AV.pv (PV.rptr (PV.cells (List.getD (List.map enc p) (Int.toNat i) default)))=AV.pv (PV.rptr (PV.cells ((enc) y0)))∧(if (PV.asInt (List.getD (PV.cells (enc y0)) 0 default)==0)=true then G ((.bool false))else(if (decide (PV.asInt (List.getD (PV.cells (enc y0)) 0 default)<(-1099511627776:Int)))=true then G ((.bool false))else(if (decide (PV.asInt (List.getD (PV.cells (enc y0)) 0 default)>1099511627776))=true then G ((.bool false))else(if (decide ((↑(List.length (PV.asXs (List.getD (PV.cells (enc y0)) (0+1) default))):Int)>8))=true then G ((.bool false))else((Go.Pl.preT (fun(x:List Str×Unit)=>Zn x.1) [(.sl 1 false (PV.asXs (List.getD (PV.cells (enc y0)) (0+1) default)))])=true∧(∃ y1:Bool,AV.pv (Ze (fun(x:List Str×Unit)=>Gu x.1) [(.sl 1 false (PV.asXs (List.getD (PV.cells (enc y0)) (0+1) default)))])=AV.pv (enc y1)∧(if (!y1)=true then G ((.bool false))else((Go.Pl.preT (fun(x:List Str×FnV 185×Unit)=>WF x.1) [(.sl 1 false (PV.asXs (List.getD (PV.cells (enc y0)) (0+1) default))),(.fn 185)])=true∧(∃ y2:Bool,AV.pv (Ze (fun(x:List Str×FnV 185×Unit)=>List.any x.1 fun(s:Str)=> !ZF s) [(.sl 1 false (PV.asXs (List.getD (PV.cells (enc y0)) (0+1) default))),(.fn 185)])=AV.pv (enc y2)∧(if (y2)=true then G ((.bool false))else(if (decide (i>0))=true then(decide (0<=IntKind.wrap IntKind.i64 (i - 1))&&decide (Int.toNat (IntKind.wrap IntKind.i64 (i - 1))<List.length (List.map enc p))&&Enc.sz Mono==2)=true∧(∃ y3:Mono,AV.pv (PV.rptr (PV.cells (List.getD (List.map enc p) (Int.toNat (IntKind.wrap IntKind.i64 (i - 1))) default)))=AV.pv (PV.rptr (PV.cells ((enc) y3)))∧((Go.Pl.preT (fun(x:List Str×List Str×Unit)=>Zn x.1&&Zn x.2.1) [(.sl 1 false (PV.asXs (List.getD (List.drop 1 (PV.cells (enc y3))) 0 default))),(.sl 1 false (PV.asXs (List.getD (PV.cells (enc y0)) (0+1) default)))])=true∧(∃ y4:Int,AV.pv (Ze (fun(x:List Str×List Str×Unit)=>Dz x.1 x.2.1) [(.sl 1 false (PV.asXs (List.getD (List.drop 1 (PV.cells (enc y3))) 0 default))),(.sl 1 false (PV.asXs (List.getD (PV.cells (enc y0)) (0+1) default)))])=AV.pv (enc y4)∧(if (decide (y4 ≥ 0))=true then G ((.bool false))else(At Vk 0 (Za Wv G) Ve 0 58 [(0,(.pv (.sl 2 false (List.map enc p)))),(5,(.pv (.sl 2 false (List.map enc p)))),(6,(.pv (.int .i64 (↑(List.length p):Int)))),(7,(.pv (.int .i64 (IntKind.wrap IntKind.i64 (i+1)))))] [])))))else(At Vk 0 (Za Wv G) Ve 0 58 [(0,(.pv (.sl 2 false (List.map enc p)))),(5,(.pv (.sl 2 false (List.map enc p)))),(6,(.pv (.int .i64 (↑(List.length p):Int)))),(7,(.pv (.int .i64 (IntKind.wrap IntKind.i64 (i+1)))))] [])))))))))))))else(G ((.bool (decide ((↑(List.length (List.map enc p)):Int)<=60)))))):At Vk 0 (Za Wv G) Ve 0 58 [(0,.pv (enc p)),(5,.pv (enc p)),(6,.pv (.int .i64 p.length)),(7,.pv (.int .i64 i))] []:=At.tp (.lit (.ask (.req (.abs (Mono) (fun YY=>AV.pv (PV.rptr (PV.cells ((enc) YY)))) (.lit (.lit (.ask (.lit (.lit (.lit (.lit (.lit (.lit (.lit (.lit (.lit (.lit (.lit (.lit (.lit (.lit (.lit (.lit (.lit (.lit (.nil))))))))))))))))))) (.lit (.lit (.lit (.lit (.ask (.lit (.lit (.lit (.lit (.lit (.lit (.lit (.lit (.lit (.lit (.lit (.lit (.lit (.lit (.nil))))))))))))))) (.lit (.lit (.lit (.lit (.ask (.lit (.lit (.lit (.lit (.lit (.lit (.lit (.lit (.lit (.lit (.nil))))))))))) (.lit (.lit (.lit (.lit (.lit (.ask (.lit (.lit (.lit (.lit (.lit (.nil)))))) (.lit (.lit (.req (.abs (Bool) (fun YY=>AV.pv (enc YY)) (.lit (.lit (.ask (.nil) (.req (.abs (Bool) (fun YY=>AV.pv (enc YY)) (.ask (.nil) (.lit (.ask (.lit (.lit (.lit (.lit (.req (.abs (Mono) (fun YY=>AV.pv (PV.rptr (PV.cells ((enc) YY)))) (.lit (.lit (.lit (.lit (.lit (.lit (.req (.abs (Int) (fun YY=>AV.pv (enc YY)) (.lit (.lit (.lit (.ask (.nil) (.lit (.nil)))))))))))))))))))) (.lit (.lit (.lit (.lit (.lit (.lit (.lit (.lit (.lit (.lit (.lit (.lit (.nil)))))))))))))))))))))))))))))))))))))))))))))) (.lit (.nil)))) h (by kernel_rfl)
end Go.Pl

namespace Go.Pl
open Go.RowKit
open Enc (enc dec is)
open EncL (encL decL isL)
theorem a9j: ∀ x:Str×Unit,decide (x.1.s.length<=281474976710656)=true->Zc Oi 0 (Za Nc (Zg (!(ZF x.1)))) NE [] (Ye c2l (encL x)):=by
 rintro⟨⟨s⟩,⟨⟩⟩ h
 exact c4v s ⟨Zj (⟨s⟩,()) rfl h,Zh (⟨s⟩,()) rfl (ZM rfl)⟩
theorem b5x(l:List Str)(hs : ∀ s∈l,decide (s.s.length<=281474976710656)=true)(hl:l.length<=9223372036854775807): ∀ (m i:Nat),m+i=l.length->(∀ j (h:j<l.length),j<i->(!(ZF l[j]))=false) ->
  At Sb 0 (Za JR (Zg (Zz (fun s:Str=> !(ZF s)) l))) JY 0 19 [(0,.pv (enc l)),(1,.pv (.fn 185)),(7,.pv (.int .i64 l.length)),(8,.pv (.int .i64 i))] []:=by
 intro m
 induction m with
 | zero=>
  intro i hi hno
  refine b8a l i (ZK (Z4 (by omega)) (Uw ?_))
  rw[Qj _ _ (fun j hj=>hno j hj (by omega))]
 | succ m ih=>
  intro i hi hno
  have hlt:i<l.length:=by omega
  refine b8a l i (ZE (ZX hlt) ⟨Zt hlt rfl,Zx hlt ⟨Zj (l[i],()) rfl (hs _ (List.getElem_mem hlt)),Zh (l[i],()) rfl (X0 (fun hb=> ?_) fun hb=> ?_)⟩⟩)
  ·exact Uw (Qi (fun s:Str=> !(ZF s)) l i hlt hno hb).symm
  ·rw[next (by omega)]
   refine ih (i+1) (by omega) fun j hj hji=> ?_
   by_cases e:j=i
   ·subst e;exact hb
   ·exact hno j hj (by omega)
theorem b9q: ∀ a:List Str×FnV 185×Unit,WF a.1=true->Zc Sb 0 (Za JR (Zg (Zz (fun s:Str=> !(ZF s)) a.1))) JY [] (Ye c5c (encL a)):=by
 rintro⟨l,g,⟨⟩⟩ h
 have h':=h
 simp only[WF,Bool.and_eq_true,List.all_eq_true]at h'
 refine c9a l ?_
 rw[List.length_map]
 exact b5x l h'.2 (Zy.1 h'.1) l.length 0 (by omega) (fun j hj h=>by omega)
theorem c2j: ∀ a:List Str×FnV 185×Unit,WF a.1=true->Zc b7s 0 (Za Eb (Zg (a.1.any fun s:Str=> !(ZF s)))) Ez [] (Ye c5n (encL a)):=by
 rintro⟨l,g,⟨⟩⟩ h
 exact c8r l ⟨Zj (l,{},()) rfl h,Zh (l,{},()) rfl (ZM (XT _ _))⟩
theorem b1j: ∀ a:Str×Unit,(fun _:Str×Unit=>true) a=true->Zc a0f 0 (Za NJ (Zg (false:Bool))) PH [] (Ye b8q (encL a)):=by
 rintro⟨⟨s⟩,⟨⟩⟩ _
 exact c7f s (ZM (by simp))
theorem a5x: ∀ a:Str×Str×Unit,(fun _:Str×Str×Unit=>true) a=true->Zc Ni 0 (Za Aw (Zg (decide (a.1.s<a.2.1.s)))) Sy [] (Ye b0u (encL a)):=by
 rintro⟨⟨s⟩,⟨t⟩,⟨⟩⟩ _
 exact c3e s t (Zh (⟨s⟩,()) rfl (ZK (by simp) (ZM (YW s t))))
theorem b6c: ∀ a:Str×Str×Unit,(fun _:Str×Str×Unit=>true) a=true->Zc OY 0 (Za Pj (Zg (Td a.1 a.2.1))) PP [] (Ye c2d (encL a)):=by
 rintro⟨⟨s⟩,⟨t⟩,⟨⟩⟩ _
 refine c7t s t (Zh (⟨s⟩,()) rfl (Zh (⟨t⟩,()) rfl (ZK (by simp) (ZK (by simp) ?_))))
 show if (Op.bytesLess s t)=true then Zg (Td ⟨s⟩ ⟨t⟩) _ else if (!(Op.bytesLess s t||s==t))=true then Zg (Td ⟨s⟩ ⟨t⟩) _ else Zg (Td ⟨s⟩ ⟨t⟩) _
 rw[YW]
 unfold Td
 by_cases h1:s<t
 ·rw[decide_eq_true h1,if_pos rfl,if_pos h1];exact Uw rfl
 ·rw[decide_eq_false h1,if_neg (by simp),if_neg h1]
  by_cases h2:s=t
  ·subst h2
   rw[if_neg (by simp),if_neg h1];exact Uw rfl
  ·have h3:t<s:=by
    rcases List.le_total s t with h|h
    ·exact absurd (Std.lt_of_le_of_ne h h2) h1
    ·exact Std.lt_of_le_of_ne h (Ne.symm h2)
   rw[if_pos (by simp[h2]),if_pos h3];exact Uw rfl
theorem b7t(l:List Str):Gu l=true ↔ ∀ i (h:i+1<l.length),¬ l[i+1].s<l[i].s:=by
 induction l with
 | nil=>simp[Gu]
 | cons x l ih=>
  cases l with
  | nil=>simp[Gu]
  | cons y r=>
   rw[Gu,Bool.and_eq_true,ih]
   constructor
   ·rintro⟨h1,h2⟩ i hi
    cases i with
    | zero=>simpa using h1
    | succ i=>exact h2 i (by simpa using hi)
   ·intro h
    exact⟨by simpa using h 0 (by simp),fun i hi=>h (i+1) (by simpa using hi)⟩
theorem PX(l:List Str)(hl:l.length<=9223372036854775807): ∀ (i:Nat),i<l.length->(∀ j (h:j+1<l.length),i<=j-> ¬ l[j+1].s<l[j].s) ->
  At VY 0 (Za WV (Zg (Gu l))) WX 0 21 [(0,.pv (enc l)),(3,.pv (.int .i64 i))] []:=by
 intro i
 induction i with
 | zero=>
  intro hi hok
  refine JO l ((0:Nat):Int) (ZK (by decide) (ZM ?_))
  exact((b7t l).2 fun j hj=>hok j hj (Nat.zero_le _)).symm
 | succ i ih=>
  intro hi hok
  have hi2:i<l.length:=by omega
  have e:((i+1:Nat):Int) - 1=(i:Int):=by omega
  have hw:IntKind.i64.wrap (((i+1:Nat):Int) - 1)=(i:Int):=by rw[e];exact XJ (by omega) (by omega)
  refine JO l ((i+1:Nat):Int) (ZE (by simp) ⟨Zt hi rfl,Zx hi ?_⟩)
  rw[hw]
  refine⟨Zt hi2 rfl,Zx hi2 (Zh (l[i+1],l[i],()) rfl (X0 (fun h=>ZM ?_) fun h=>ih hi2 fun j hj hij=> ?_))⟩
  ·have h:l[i+1].s<l[i].s:=of_decide_eq_true h
   cases hc:Gu l
   ·rfl
   ·exact absurd h ((b7t l).1 hc i hi)
  ·have h : ¬ l[i+1].s<l[i].s:=of_decide_eq_false h
   by_cases ej:j=i
   ·subst ej;exact h
   ·exact hok j hj (by omega)
theorem M7: ∀ a:List Str×Unit,Zn a.1=true->Zc VY 0 (Za WV (Zg (Gu a.1))) WX [] (Ye O9 (encL a)):=by
 rintro⟨l,⟨⟩⟩ h
 have hl:=Zy.1 h
 refine a5r l ?_
 rw[List.length_map]
 cases hc:l with
 | nil=>
  refine JO [] _ (ZK (by decide) (ZM rfl))
 | cons x r=>
  have hw:IntKind.i64.wrap (((x::r).length:Int) - 1)=((r.length:Nat):Int):=by
   rw[List.length_cons]
   rw[hc,List.length_cons]at hl
   rw[show((r.length+1:Nat):Int) - 1=(r.length:Int) by omega]
   exact XJ (by omega) (by omega)
  rw[hw]
  exact PX (x::r) (by rw[<- hc];exact hl) r.length (by simp) (fun j hj h=>by simp at hj;omega)
theorem Mr(a b:List Str)(ha:a.length<=9223372036854775807)(hb:b.length<=9223372036854775807): ∀ (k i:Nat),k+i=a.length->i<=b.length ->
  At UK 0 (Za V7 (Zg (Dz (a.drop i) (b.drop i)))) VN 0 36 [(0,.pv (enc a)),(1,.pv (enc b)),(9,.pv (enc a)),(10,.pv (.int .i64 a.length)),(11,.pv (.int .i64 i))] []:=by
 intro k
 induction k with
 | zero=>
  intro i hi hib
  rw[List.drop_of_length_le (show a.length<=i by omega)]
  refine Tx a b i (ZK (Z4 (by omega)) ?_)
  simp only[List.length_map]
  refine WJ (fun h=> ?_) fun h=> ?_
  ·rw[List.drop_eq_getElem_cons (show i<b.length by omega)]
   exact Uw rfl
  ·rw[List.drop_of_length_le (show b.length<=i by omega)]
   exact Uw rfl
 | succ k ih=>
  intro i hi hib
  have hlt:i<a.length:=by omega
  rw[List.drop_eq_getElem_cons hlt]
  refine Tx a b i (ZE (ZX hlt) ⟨Zt hlt rfl,Zx hlt ?_⟩)
  simp only[List.length_map]
  refine WJ (fun h=> ?_) fun h=> ?_
  ·rw[List.drop_of_length_le (show b.length<=i by omega)]
   exact Uw rfl
  ·have hlt2:i<b.length:=by omega
   have h1:=ih (i+1) (by omega) (by omega)
   rw[List.drop_eq_getElem_cons hlt2]
   refine⟨by simp[hlt2],Zx hlt2 (Zh (a[i],b[i],()) rfl ?_)⟩
   show if (Td a[i] b[i] != 0)=true then _ else _
   unfold Dz Td
   by_cases q1:a[i].s<b[i].s
   ·rw[if_pos q1,if_pos (by simp),if_pos q1];exact Uw rfl
   ·rw[if_neg q1,if_neg q1]
    by_cases q2:b[i].s<a[i].s
    ·rw[if_pos q2,if_pos (by simp),if_pos q2];exact Uw rfl
    ·rw[if_neg q2,if_neg (by simp),if_neg q2,next (by omega)]
     exact h1
theorem a0v: ∀ x:List Str×List Str×Unit,(Zn x.1&&Zn x.2.1)=true->Zc UK 0 (Za V7 (Zg (Dz x.1 x.2.1))) VN [] (Ye a6p (encL x)):=by
 rintro⟨a,b,⟨⟩⟩ h
 simp only[Bool.and_eq_true]at h
 refine b5j a b ?_
 rw[List.length_map]
 exact Mr a b (Zy.1 h.1) (Zy.1 h.2) a.length 0 (by omega) (Nat.zero_le _)
theorem Sc: ∀ a b:List Str,Dz a b<0 ↔ Qr a b<0
 | [],[]=>by decide
 | [],y::b=>by
  have e1:Dz [] (y::b) = -1:=rfl
  have e2:Qr [] (y::b) = -((y::b).length:Int):=rfl
  rw[e1,e2,List.length_cons];omega
 | x::a,[]=>by
  have e1:Dz (x::a) []=1:=rfl
  have e2:Qr (x::a) []=((x::a).length:Int):=rfl
  rw[e1,e2];omega
 | x::a,y::b=>by
  rw[Dz,Qr]
  split
  ·exact Iff.rfl
  ·split
   ·exact Iff.rfl
   ·exact Sc a b
def pvL:Option Mono->List Mono->Bool
 | _,[]=>true
 | o,m::r=>Vb m&&(match o with|none=>true|some q=>decide (Qr q.v m.v<0))&&pvL (some m) r
theorem b1v(o:Option Mono)(m:Mono)(r:List Mono):pvL o (m::r)=(Vb m&&(match o with|none=>true|some q=>decide (Qr q.v m.v<0))&&pvL (some m) r):=by cases o <;> rfl
theorem FW: ∀ (l:List Mono) (q:Mono),pvL (some q) l=(l.all Vb&&a5j (q::l))
 | [],q=>rfl
 | m::r,q=>by
  rw[pvL,FW r m,a5j,List.all_cons]
  cases Vb m <;> cases decide (Qr q.v m.v<0) <;> cases r.all Vb <;> cases a5j (m::r) <;> rfl
theorem b3m(l:List Mono):(pvL none l&&decide (l.length<=60))=ZI l:=by
 unfold ZI
 cases l with
 | nil=>rfl
 | cons m r=>
  rw[pvL,FW,List.all_cons,Bool.and_true]
  cases Vb m <;> cases decide ((m::r).length<=60) <;> cases r.all Vb <;> cases a5j (m::r) <;> rfl
def Mi(p:List Mono):Nat->Option Mono
 | 0=>none
 | i+1=>p[i]?
theorem LD(p:List Mono)(hp:Yc p=true): ∀ (k i:Nat),k+i=p.length ->
  At Vk 0 (Za Wv (Zg (pvL (Mi p i) (p.drop i)&&decide (p.length<=60)))) Ve 0 58 [(0,.pv (enc p)),(5,.pv (enc p)),(6,.pv (.int .i64 p.length)),(7,.pv (.int .i64 i))] []:=by
 simp only[Yc,Bool.and_eq_true,List.all_eq_true]at hp
 have hl:=Zy.1 hp.1
 intro k
 induction k with
 | zero=>
  intro i hi
  rw[List.drop_of_length_le (by omega)]
  refine TE p i (ZK (Z4 (by omega)) (ZM ?_))
  rw[List.length_map,pvL,Bool.true_and]
  exact decide_eq_decide.2 (by omega)
 | succ k ih=>
  intro i hi
  have hlt:i<p.length:=by omega
  have hm:=hp.2 _ (List.getElem_mem hlt)
  have hml:Zn p[i].v=true:=by
   simp only[WF,Bool.and_eq_true]at hm
   exact hm.1
  have h1:=ih (i+1) (by omega)
  have hpr:Mi p (i+1)=some p[i]:=List.getElem?_eq_getElem hlt
  rw[hpr]at h1
  rw[List.drop_eq_getElem_cons hlt,b1v]
  have bad:Vb p[i]=false->Zg (Vb p[i]&&(match Mi p i with|none=>true|some q=>decide (Qr q.v p[i].v<0))&&pvL (some p[i]) (p.drop (i+1))&&decide (p.length<=60)) (.bool false):=fun h=>ZM (by rw[h];simp)
  apply TE (G:=Zg (Vb p[i]&&(match Mi p i with|none=>true|some q=>decide (Qr q.v p[i].v<0))&&pvL (some p[i]) (p.drop (i+1))&&decide (p.length<=60))) p i
  apply ZE (ZX hlt)
  refine⟨Zt hlt rfl,Zx hlt (Q7 (fun h=>bad ?_) fun h2=>WJ (fun h=>bad ?_) fun h3=>WJ (fun h=>bad ?_) fun h4=>WJ (fun h=>bad ?_) fun h5=>⟨Zj (p[i].v,()) rfl hml,Zh (p[i].v,()) rfl (X8 (fun h=>bad ?_) fun h6=>⟨Zj (p[i].v,{},()) rfl hm,Zh (p[i].v,{},()) rfl (X0 (fun h=>bad ?_) fun h7=> ?_)⟩)⟩)⟩
  ·have h:p[i].c=0:=h
   simp[Vb,h]
  ·have h:p[i].c < -1099511627776:=h
   unfold Vb
   rw[decide_eq_false (show ¬ -1099511627776<=p[i].c by omega)];simp
  ·have h:p[i].c>1099511627776:=h
   unfold Vb
   rw[decide_eq_false (show ¬ p[i].c<=1099511627776 by omega)];simp
  ·have h:((p[i].v.map (enc:Str->PV)).length:Int)>8:=h
   rw[List.length_map]at h
   unfold Vb
   rw[decide_eq_false (show ¬ p[i].v.length<=8 by omega)];simp
  ·have h:Gu p[i].v=false:=h
   simp[Vb,h]
  ·have h:(p[i].v.any fun s=> !(ZF s))=true:=h
   have h2:p[i].v.all ZF=false:=by
    rw[<- Bool.not_eq_true]
    intro h3
    obtain⟨s,hs,h4⟩:=List.any_eq_true.1 h
    rw[List.all_eq_true.1 h3 s hs]at h4
    cases h4
   unfold Vb
   rw[h2];simp
  ·have hok:Vb p[i]=true:=by
    have h2 : ¬ p[i].c=0:=h2
    have h3 : ¬ p[i].c < -1099511627776:=h3
    have h4 : ¬ p[i].c>1099511627776:=h4
    have h5 : ¬ ((p[i].v.map (enc:Str->PV)).length:Int)>8:=h5
    rw[List.length_map]at h5
    have h6:Gu p[i].v=true:=h6
    have h7:(p[i].v.any fun s=> !(ZF s))=false:=h7
    have h8:p[i].v.all ZF=true:=by
     rw[List.all_eq_true]
     intro s hs
     cases hn:ZF s
     ·rw[<- Bool.not_eq_true]at h7
      exact absurd (List.any_eq_true.2 ⟨s,hs,by rw[hn];rfl⟩) h7
     ·rfl
    unfold Vb
    rw[decide_eq_true h2,decide_eq_true (show -1099511627776<=p[i].c by omega),decide_eq_true (show p[i].c<=1099511627776 by omega),decide_eq_true (show p[i].v.length<=8 by omega),h6,h8]
    rfl
   rw[hok,Bool.true_and]
   cases i with
   | zero=>
    refine ZK (by decide) ?_
    rw[next (by omega)]
    exact h1
   | succ j=>
    have hj:j<p.length:=by omega
    have e:((j+1:Nat):Int) - 1=(j:Int):=by omega
    have hw:IntKind.i64.wrap (((j+1:Nat):Int) - 1)=(j:Int):=by rw[e];exact XJ (by omega) (by omega)
    have hprev:Mi p (j+1)=some p[j]:=List.getElem?_eq_getElem hj
    rw[hprev]
    have hjl:Zn p[j].v=true:=by
     have:=hp.2 _ (List.getElem_mem hj)
     simp only[WF,Bool.and_eq_true]at this
     exact this.1
    refine ZE (by simp) ?_
    rw[hw]
    refine⟨Zt hj rfl,Zx hj ⟨Zj (p[j].v,p[j+1].v,()) rfl (by show(Zn p[j].v&&Zn p[j+1].v)=true;rw[hjl,hml];rfl),Zh (p[j].v,p[j+1].v,()) rfl (WJ (fun h=> ?_) fun h=> ?_)⟩⟩
    ·have h:Dz p[j].v p[j+1].v ≥ 0:=h
     have : ¬ Qr p[j].v p[j+1].v<0:=fun h2=>by have:=(Sc _ _).2 h2;omega
     exact ZM (by simp[this])
    ·have h : ¬ Dz p[j].v p[j+1].v ≥ 0:=h
     have:Qr p[j].v p[j+1].v<0:=(Sc _ _).1 (by omega)
     show At Vk 0 (Za Wv (Zg (decide (Qr p[j].v p[j+1].v<0)&&_&&_))) _ _ _ _ _
     rw[decide_eq_true this,Bool.true_and,next (by omega)]
     exact h1
theorem EW: ∀ x:List Mono×Unit,Yc x.1=true->Zc Vk 0 (Za Wv (Zg (ZI x.1))) Ve [] (Ye a3u (encL x)):=by
 rintro⟨p,⟨⟩⟩ h
 refine b6m p ?_
 rw[List.length_map,<- b3m]
 exact LD p h p.length 0 (by omega)
end Go.Pl

