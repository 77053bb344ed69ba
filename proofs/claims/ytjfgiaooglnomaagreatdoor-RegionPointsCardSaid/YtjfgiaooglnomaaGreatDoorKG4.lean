/-
  Texts of mine that belong together (packed by pack.py), for every input: GRp, QGp, QLr, GLm, GLk, QLk, GLn, QLn, QLo, QLp, QRa, QRb, QRc, TyQ, GLu, GLt, QRs, QRt, QRu, QRv, GLv, QRw, QRx, TyRb, TyRc, TyPo, QGd, GRc, QRd, QRe, GRd, QRf, TyRd, GRx, QRg, GPv, QPv.
-/
import Derived.Test.YtjfgiaooglnomaaGreatDoorKG2
import Derived.Test.YtjfgiaooglnomaaGreatDoorKG3
import Derived.KernelRfl
set_option linter.unusedVariables false
set_option linter.unusedSimpArgs false
namespace Go.Pl
open Go.RowKit
open Enc (enc dec is)
open EncL (encL decL isL)
set_option maxRecDepth 100000
def NY:IC:=(.reg [⟨(some 7),(.faddr 0 (.t 1)),0,none⟩,⟨(some 8),(.load false [(.sl 1)] (.t 7)),0,none⟩,⟨(some 9),(.len 1 (.t 8)),0,none⟩,⟨(some 10),(.mksl 3 1 8 (.int .i64 0) (.t 9) (.t 9)),0,none⟩,⟨(some 4),(.mv (.t 10)),1,none⟩] none)
def OG:List IRes:=[]
def a1l:ZF:=Xe [(48,.own XX Ua)]
theorem c7n{G:AV×List AObj×List AObj->Prop}(E:YB)(l:Nat)(b:BoxT)(fs:List Fact)(h:(decide (0<=(↑(List.length (PV.asXs (List.getD (List.drop 0 [enc b.v,PV.int .i64 b.m]) 0 default))):Int))&&(↑(List.length (PV.asXs (List.getD (List.drop 0 [enc b.v,PV.int .i64 b.m]) 0 default))):Int)==(↑(List.length (PV.asXs (List.getD (List.drop 0 [enc b.v,PV.int .i64 b.m]) 0 default))):Int)&&decide ((↑(List.length (PV.asXs (List.getD (List.drop 0 [enc b.v,PV.int .i64 b.m]) 0 default))):Int)*(↑8:Int)<=1099511627776)&&decide ((↑(List.length (PV.asXs (List.getD (List.drop 0 [enc b.v,PV.int .i64 b.m]) 0 default))):Int)<=1099511627776))=true∧(E 99 ⟨ZU 52 0 [(0,(.yld l)),(1,(.pv (.rptr [(.sl 1 false (List.map enc b.v)),(.int .i64 b.m)]))),(2,(.pv (.rptr [(.sl 3 false (List.map enc fs))]))),(4,(.row 0 (Int.toNat (↑(List.length (PV.asXs (List.getD (List.drop 0 [enc b.v,PV.int .i64 b.m]) 0 default))):Int)) 0 (Int.toNat (↑(List.length (PV.asXs (List.getD (List.drop 0 [enc b.v,PV.int .i64 b.m]) 0 default))):Int))))],[(.obj (.row false 3 1 (List.replicate (Int.toNat (↑(List.length (PV.asXs (List.getD (List.drop 0 [enc b.v,PV.int .i64 b.m]) 0 default))):Int)) (PV.int .i64 0))))]⟩ (fun x S'=>Jw a1l E 0 (Zo 0 OG G) NY 99 x S'))):ZB a1l E 0 (Zo 0 OG G) (.inl NY) [.seq (.ext 99 [0,1,2,4])] ⟨ZU 52 0 [(0,.yld l),(1,(.pv (.rptr [enc b.v,.int .i64 b.m]))),(2,(.pv (.rptr [enc fs])))],[]⟩:=ZB.mo (.lit (.req (.nil))) h (by kernel_rfl)
def Pp:IC:=(.reg [⟨(some 11),(.load true [(.sl 1),(.int .i64)] (.t 1)),0,none⟩,⟨(some 12),(.mv (.t 4)),0,none⟩,⟨(some 13),(.call (.c (.fn 48)) [(.t 11),(.t 12)]),0,none⟩,⟨(some 5),(.mv (.t 13)),2,none⟩] none)
def EG:List IRes:=[]
def b2v:ZF:=Xe [(48,.own XX Ua)]
theorem c4r{G:AV×List AObj×List AObj->Prop}(E:YB)(l:Nat)(b:BoxT)(fs:List Fact)(n:Nat)(p:List Int)(h:(XX [(.pv (.agg [(.sl 1 false (PV.asXs (List.getD [enc b.v,PV.int .i64 b.m] 0 default))),(.int .i64 (PV.asInt (List.getD [enc b.v,PV.int .i64 b.m] (0+1) default)))])),(.row 0 n 0 n)] [(.row false 3 1 (List.map enc p))])=true∧(E 99 ⟨ZU 52 0 [(0,(.yld l)),(1,(.pv (.rptr [(.sl 1 false (List.map enc b.v)),(.int .i64 b.m)]))),(2,(.pv (.rptr [(.sl 3 false (List.map enc fs))]))),(4,(.row 0 n 0 n)),(5,(.pv (.sl 2 false (List.map enc (Ze (dec (Sh.co (Sh.sl 1) (List.getD [enc b.v,PV.int .i64 b.m] 0 default))) (BJ (List.map enc p)))))))],[(.obj (.row false 3 1 (List.map enc p)))]⟩ (fun x S'=>Jw b2v E 1 (Zo 1 EG G) Pp 99 x S'))):ZB b2v E 1 (Zo 1 EG G) (.inl Pp) [.seq (.ext 99 [0,1,2,4,5])] ⟨ZU 52 0 [(0,.yld l),(1,(.pv (.rptr [enc b.v,.int .i64 b.m]))),(2,(.pv (.rptr [enc fs]))),(4,.row 0 n 0 n)],[.obj (.row false 3 1 (p.map enc))]⟩:=ZB.mo (.lit (.req (.keep (.nil)))) h (by kernel_rfl)
def QA:IC:=(.seq (.reg [⟨(some 25),(.mv (.t 4)),0,none⟩,⟨(some 26),(.len 1 (.t 25)),0,none⟩,⟨(some 27),(.bin .num .sub (.t 26) (.c (.int .i64 1))),0,none⟩,⟨(some 6),(.mv (.t 27)),0,none⟩] none) (.seq (.block 2 (.loop [6,4,1,2,0] (.seq (.seq (.reg [⟨(some 28),(.mv (.t 6)),0,none⟩,⟨(some 29),(.bin .num .geq (.t 28) (.c (.int .i64 0))),0,none⟩,⟨(some 30),(.mv (.t 29)),0,none⟩,⟨(some 31),(.mv (.t 4)),0,(some (30,true))⟩,⟨(some 32),(.mv (.t 6)),0,(some (30,true))⟩,⟨(some 33),(.iaddr 1 (.t 31) (.t 32)),0,(some (30,true))⟩,⟨(some 34),(.load false [(.int .i64)] (.t 33)),0,(some (30,true))⟩,⟨(some 35),(.faddr 1 (.t 1)),0,(some (30,true))⟩,⟨(some 36),(.load false [(.int .i64)] (.t 35)),0,(some (30,true))⟩,⟨(some 37),(.bin .num .eql (.t 34) (.t 36)),0,(some (30,true))⟩,⟨(some 38),(.pick (.t 30) (.t 37) (.c (.bool false))),0,none⟩] (some [[],[0],[1,0],[2,1,0],[2,1,0],[3,4,2,1,0],[5,2,3,4,1,0],[2,1,0],[7,2,1,0],[6,8,2,5,3,4,1,0,7],[2,9,1,0,6,8,5,3,4,7]])) (.cond (.t 38) .skip (.exit 2))) (.block 3 (.seq (.reg [⟨(some 39),(.mv (.t 4)),0,none⟩,⟨(some 40),(.mv (.t 6)),0,none⟩,⟨(some 41),(.iaddr 1 (.t 39) (.t 40)),0,none⟩,⟨none,(.store 1 (.t 41) (.c (.int .i64 0))),0,none⟩] none) (.reg [⟨(some 42),(.mv (.t 6)),0,none⟩,⟨(some 43),(.bin .num .sub (.t 42) (.c (.int .i64 1))),0,none⟩,⟨(some 6),(.mv (.t 43)),0,none⟩] none)))))) (.seq (.seq (.reg [⟨(some 44),(.mv (.t 6)),0,none⟩,⟨(some 45),(.bin .num .lss (.t 44) (.c (.int .i64 0))),0,none⟩] none) (.cond (.t 45) .ret .skip)) (.reg [⟨(some 46),(.mv (.t 4)),0,none⟩,⟨(some 47),(.mv (.t 6)),0,none⟩,⟨(some 48),(.iaddr 1 (.t 46) (.t 47)),0,none⟩,⟨(some 49),(.load false [(.int .i64)] (.t 48)),0,none⟩,⟨(some 50),(.bin .num .add (.t 49) (.c (.int .i64 1))),0,none⟩,⟨(some 51),(.iaddr 1 (.t 46) (.t 47)),0,none⟩,⟨none,(.store 1 (.t 51) (.t 50)),0,none⟩] none))))
def K8:List IRes:=[]
def DZ:ZF:=Xe [(48,.own XX Ua)]
theorem b4e{G:AV×List AObj×List AObj->Prop}(E:YB)(l:Nat)(b:BoxT)(fs:List Fact)(n:Nat)(p:List Int)(k:Int)(h:if (decide (k ≥ 0))=true then(decide (0<=k)&&decide (0+Int.toNat k<n)&&List.length (List.map enc p)==n)=true∧((List.length (List.map enc p)==n&&decide (0+Int.toNat k<List.length (List.map enc p)))=true∧((decide (0+List.length [Sh.int .i64]<=List.length (PV.cells (List.getD (List.map enc p) (0+Int.toNat k) default)))&&Xa (PV.cells (List.getD (List.map enc p) (0+Int.toNat k) default)) 0 [Sh.int .i64])=true∧(if (PV.asInt (List.getD (PV.cells (List.getD (List.map enc p) (0+Int.toNat k) default)) 0 default)==PV.asInt (List.getD (List.drop 1 [enc b.v,PV.int .i64 b.m]) 0 default))=true then(decide (0<=k)&&decide (0+Int.toNat k<n)&&List.length (List.map enc p)==n)=true∧((List.length (List.map enc p)==n&&decide (0+Int.toNat k<List.length (List.map enc p))&&List.length (PV.cells (PV.int .i64 0))==1&&decide (0+1<=List.length (PV.cells (List.getD (List.map enc p) (0+Int.toNat k) default)))&&PV.cellsOk (PV.int .i64 0))=true∧(AtS [.seq (.ext 99 [0,1,2,4])] DZ E 1 (Zo 1 K8 G) QA 0 52 [(0,(.yld l)),(1,(.pv (.rptr [(.sl 1 false (List.map enc b.v)),(.int .i64 b.m)]))),(2,(.pv (.rptr [(.sl 3 false (List.map enc fs))]))),(4,(.row 0 n 0 n)),(6,(.pv (.int .i64 (IntKind.wrap IntKind.i64 (k - 1)))))] [(.obj (.row false 3 1 (List.set (List.map enc p) (0+Int.toNat k) (PV.withCells (List.getD (List.map enc p) (0+Int.toNat k) default) (splice (PV.cells (List.getD (List.map enc p) (0+Int.toNat k) default)) 0 (PV.cells (PV.int .i64 0)))))))]))else(if (decide (k<0))=true then G (((.tup []),([(.row false 3 1 (List.map enc p))],[])))else((decide (0<=k)&&decide (0+Int.toNat k<n)&&List.length (List.map enc p)==n)=true∧((List.length (List.map enc p)==n&&decide (0+Int.toNat k<List.length (List.map enc p)))=true∧((decide (0+List.length [Sh.int .i64]<=List.length (PV.cells (List.getD (List.map enc p) (0+Int.toNat k) default)))&&Xa (PV.cells (List.getD (List.map enc p) (0+Int.toNat k) default)) 0 [Sh.int .i64])=true∧((decide (0<=k)&&decide (0+Int.toNat k<n)&&List.length (List.map enc p)==n)=true∧((List.length (List.map enc p)==n&&decide (0+Int.toNat k<List.length (List.map enc p))&&List.length (PV.cells (PV.int .i64 (IntKind.wrap IntKind.i64 (PV.asInt (List.getD (PV.cells (List.getD (List.map enc p) (0+Int.toNat k) default)) 0 default)+1))))==1&&decide (0+1<=List.length (PV.cells (List.getD (List.map enc p) (0+Int.toNat k) default)))&&PV.cellsOk (PV.int .i64 (IntKind.wrap IntKind.i64 (PV.asInt (List.getD (PV.cells (List.getD (List.map enc p) (0+Int.toNat k) default)) 0 default)+1))))=true∧(E 99 ⟨ZU 52 0 [(0,(.yld l)),(1,(.pv (.rptr [(.sl 1 false (List.map enc b.v)),(.int .i64 b.m)]))),(2,(.pv (.rptr [(.sl 3 false (List.map enc fs))]))),(4,(.row 0 n 0 n))],[(.obj (.row false 3 1 (List.set (List.map enc p) (0+Int.toNat k) (PV.withCells (List.getD (List.map enc p) (0+Int.toNat k) default) (splice (PV.cells (List.getD (List.map enc p) (0+Int.toNat k) default)) 0 (PV.cells (PV.int .i64 (IntKind.wrap IntKind.i64 (PV.asInt (List.getD (PV.cells (List.getD (List.map enc p) (0+Int.toNat k) default)) 0 default)+1)))))))))]⟩ (fun x S'=>Jw DZ E 1 (Zo 1 K8 G) QA 99 x S')))))))))))else(if (decide (k<0))=true then G (((.tup []),([(.row false 3 1 (List.map enc p))],[])))else((decide (0<=k)&&decide (0+Int.toNat k<n)&&List.length (List.map enc p)==n)=true∧((List.length (List.map enc p)==n&&decide (0+Int.toNat k<List.length (List.map enc p)))=true∧((decide (0+List.length [Sh.int .i64]<=List.length (PV.cells (List.getD (List.map enc p) (0+Int.toNat k) default)))&&Xa (PV.cells (List.getD (List.map enc p) (0+Int.toNat k) default)) 0 [Sh.int .i64])=true∧((decide (0<=k)&&decide (0+Int.toNat k<n)&&List.length (List.map enc p)==n)=true∧((List.length (List.map enc p)==n&&decide (0+Int.toNat k<List.length (List.map enc p))&&List.length (PV.cells (PV.int .i64 (IntKind.wrap IntKind.i64 (PV.asInt (List.getD (PV.cells (List.getD (List.map enc p) (0+Int.toNat k) default)) 0 default)+1))))==1&&decide (0+1<=List.length (PV.cells (List.getD (List.map enc p) (0+Int.toNat k) default)))&&PV.cellsOk (PV.int .i64 (IntKind.wrap IntKind.i64 (PV.asInt (List.getD (PV.cells (List.getD (List.map enc p) (0+Int.toNat k) default)) 0 default)+1))))=true∧(E 99 ⟨ZU 52 0 [(0,(.yld l)),(1,(.pv (.rptr [(.sl 1 false (List.map enc b.v)),(.int .i64 b.m)]))),(2,(.pv (.rptr [(.sl 3 false (List.map enc fs))]))),(4,(.row 0 n 0 n))],[(.obj (.row false 3 1 (List.set (List.map enc p) (0+Int.toNat k) (PV.withCells (List.getD (List.map enc p) (0+Int.toNat k) default) (splice (PV.cells (List.getD (List.map enc p) (0+Int.toNat k) default)) 0 (PV.cells (PV.int .i64 (IntKind.wrap IntKind.i64 (PV.asInt (List.getD (PV.cells (List.getD (List.map enc p) (0+Int.toNat k) default)) 0 default)+1)))))))))]⟩ (fun x S'=>Jw DZ E 1 (Zo 1 K8 G) QA 99 x S'))))))))):AtS [.seq (.ext 99 [0,1,2,4])] DZ E 1 (Zo 1 K8 G) QA 0 52 [(0,.yld l),(1,(.pv (.rptr [enc b.v,.int .i64 b.m]))),(2,(.pv (.rptr [enc fs]))),(4,.row 0 n 0 n),(6,.pv (.int .i64 k))] [.obj (.row false 3 1 (p.map enc))]:=ZB.mo (.lit (.ask (.lit (.lit (.req (.keep (.lit (.req (.req (.lit (.lit (.lit (.lit (.lit (.lit (.ask (.req (.keep (.req (.lit (.nil))))) (.lit (.ask (.nil) (.req (.keep (.req (.req (.lit (.req (.keep (.req (.nil))))))))))))))))))))))))) (.lit (.lit (.lit (.lit (.lit (.lit (.lit (.lit (.lit (.ask (.nil) (.req (.keep (.req (.req (.lit (.req (.keep (.req (.nil))))))))))))))))))))) h (by kernel_rfl)
theorem c5y{G:AV×List AObj×List AObj->Prop}(E:YB)(l:Nat)(b:BoxT)(fs:List Fact)(n:Nat)(p:List Int)(h:AtS [.seq (.ext 99 [0,1,2,4])] DZ E 1 (Zo 1 K8 G) QA 0 52 [(0,(.yld l)),(1,(.pv (.rptr [(.sl 1 false (List.map enc b.v)),(.int .i64 b.m)]))),(2,(.pv (.rptr [(.sl 3 false (List.map enc fs))]))),(4,(.row 0 n 0 n)),(6,(.pv (.int .i64 (IntKind.wrap IntKind.i64 ((↑(n - 0):Int) - 1)))))] [(.obj (.row false 3 1 (List.map enc p)))]):ZB DZ E 1 (Zo 1 K8 G) (.inl QA) [.seq (.ext 99 [0,1,2,4])] ⟨ZU 52 0 [(0,.yld l),(1,(.pv (.rptr [enc b.v,.int .i64 b.m]))),(2,(.pv (.rptr [enc fs]))),(4,.row 0 n 0 n)],[.obj (.row false 3 1 (p.map enc))]⟩:=ZB.mo (.lit (.nil)) h (by kernel_rfl)
def Wn:IC:=WL
def Wq:List IRes:=[(.tmp 4)]
abbrev a5v:Nat:=31
def VE:ZF:=Xe []
theorem b6h{G:AV×List AObj×List AObj->Prop}(b:BoxT)(m:Nat)(p:List Int)(h:At VE 1 (WF 1 Wq G) Wn 0 31 [(1,(.row 0 m 0 m)),(2,(.ptr 1 0)),(5,(.pv (.sl 0 true []))),(12,(.pv (.int .i64 (if false=true then if (↑(List.length (List.map enc b.v)):Int)>(↑(m - 0):Int)then(↑(List.length (List.map enc b.v)):Int)else(↑(m - 0):Int)else if (↑(List.length (List.map enc b.v)):Int)<(↑(m - 0):Int)then(↑(List.length (List.map enc b.v)):Int)else(↑(m - 0):Int))))),(13,(.pv (.int .i64 0)))] [(.obj (.row false 3 1 (List.map enc p))),(.obj (.box [(.pv (.sl 1 false (List.map enc b.v))),(.pv (.int .i64 b.m))]))]):Zc VE 1 (WF 1 Wq G) Wn [] (YK 31 [.pv (enc b),.row 0 m 0 m] [.row false 3 1 (p.map enc)]):=Zc.tf (.nil) h (by kernel_rfl)
theorem Si{G:AV×List AObj×List AObj->Prop}(b:BoxT)(m:Nat)(p:List Int)(n i:Int)(h:if (decide (i<n))=true then(decide (0<=i)&&decide (Int.toNat i<List.length (List.map enc b.v))&&Enc.sz Str==1)=true∧(∃ y0:Str,AV.pv (PV.rptr (PV.cells (List.getD (List.map enc b.v) (Int.toNat i) default)))=AV.pv (PV.rptr (PV.cells ((enc) y0)))∧((decide (0<=i)&&decide (0+Int.toNat i<m)&&List.length (List.map enc p)==m)=true∧((List.length (List.map enc p)==m&&decide (0+Int.toNat i<List.length (List.map enc p)))=true∧((decide (0+List.length [Sh.int .i64]<=List.length (PV.cells (List.getD (List.map enc p) (0+Int.toNat i) default)))&&Xa (PV.cells (List.getD (List.map enc p) (0+Int.toNat i) default)) 0 [Sh.int .i64])=true∧(At VE 1 (WF 1 Wq G) Wn 0 31 [(1,(.row 0 m 0 m)),(2,(.ptr 1 0)),(5,(.row 2 1 0 1)),(12,(.pv (.int .i64 n))),(13,(.pv (.int .i64 (IntKind.wrap IntKind.i64 (i+1)))))] [(.obj (.row false 3 1 (List.map enc p))),(.obj (.box [(.pv (.sl 1 false (List.map enc b.v))),(.pv (.int .i64 b.m))])),(.obj (.row false 63 2 [(.agg [(.str (PV.asStr (List.getD (PV.cells (enc y0)) 0 default))),(.int .i64 (PV.asInt (List.getD (PV.cells (List.getD (List.map enc p) (0+Int.toNat i) default)) 0 default)))])]))])))))else(G (((.pv (.sl 0 true [])),([(.row false 3 1 (List.map enc p))],[]))))):At VE 1 (WF 1 Wq G) Wn 0 31 [(1,.row 0 m 0 m),(2,.ptr 1 0),(5,.pv (.sl 0 true [])),(12,.pv (.int .i64 n)),(13,.pv (.int .i64 i))] [.obj (.row false 3 1 (p.map enc)),.obj (.box [.pv (enc b.v),.pv (.int .i64 b.m)])]:=At.tf (.lit (.ask (.req (.abs (Str) (fun YY=>AV.pv (PV.rptr (PV.cells ((enc) YY)))) (.lit (.req (.keep (.req (.req (.lit (.lit (.lit (.lit (.lit (.lit (.nil)))))))))))))) (.nil))) h (by kernel_rfl)
theorem Am{G:AV×List AObj×List AObj->Prop}(b:BoxT)(m:Nat)(p:List Int)(n i:Int)(q:Nat)(vs:List Coef)(h:if (decide (i<n))=true then(decide (0<=i)&&decide (Int.toNat i<List.length (List.map enc b.v))&&Enc.sz Str==1)=true∧(∃ y0:Str,AV.pv (PV.rptr (PV.cells (List.getD (List.map enc b.v) (Int.toNat i) default)))=AV.pv (PV.rptr (PV.cells ((enc) y0)))∧((decide (0<=i)&&decide (0+Int.toNat i<m)&&List.length (List.map enc p)==m)=true∧((List.length (List.map enc p)==m&&decide (0+Int.toNat i<List.length (List.map enc p)))=true∧((decide (0+List.length [Sh.int .i64]<=List.length (PV.cells (List.getD (List.map enc p) (0+Int.toNat i) default)))&&Xa (PV.cells (List.getD (List.map enc p) (0+Int.toNat i) default)) 0 [Sh.int .i64])=true∧((List.length (List.map enc vs)==q&&q==q&&decide ((q+List.length (List.drop 0 (List.take 1 [PV.agg [Sh.co Sh.str (List.getD (PV.cells (enc y0)) 0 default),Sh.co (Sh.int .i64) (List.getD (PV.cells (List.getD (List.map enc p) (0+Int.toNat i) default)) 0 default)]])))*24<=1099511627776)&&decide (q+List.length (List.drop 0 (List.take 1 [PV.agg [Sh.co Sh.str (List.getD (PV.cells (enc y0)) 0 default),Sh.co (Sh.int .i64) (List.getD (PV.cells (List.getD (List.map enc p) (0+Int.toNat i) default)) 0 default)]]))<=1099511627776))=true∧(At VE 1 (WF 1 Wq G) Wn 0 31 [(1,(.row 0 m 0 m)),(2,(.ptr 1 0)),(5,(.row 2 (q+List.length (List.drop 0 (List.take 1 [PV.agg [Sh.co Sh.str (List.getD (PV.cells (enc y0)) 0 default),Sh.co (Sh.int .i64) (List.getD (PV.cells (List.getD (List.map enc p) (0+Int.toNat i) default)) 0 default)]]))) 0 (q+List.length (List.drop 0 (List.take 1 [PV.agg [Sh.co Sh.str (List.getD (PV.cells (enc y0)) 0 default),Sh.co (Sh.int .i64) (List.getD (PV.cells (List.getD (List.map enc p) (0+Int.toNat i) default)) 0 default)]]))))),(12,(.pv (.int .i64 n))),(13,(.pv (.int .i64 (IntKind.wrap IntKind.i64 (i+1)))))] [(.obj (.row false 3 1 (List.map enc p))),(.obj (.box [(.pv (.sl 1 false (List.map enc b.v))),(.pv (.int .i64 b.m))])),(.obj (.row false 63 2 (List.map enc vs++List.drop 0 (List.take 1 [PV.agg [Sh.co Sh.str (List.getD (PV.cells (enc y0)) 0 default),Sh.co (Sh.int .i64) (List.getD (PV.cells (List.getD (List.map enc p) (0+Int.toNat i) default)) 0 default)]]))))]))))))else((List.length (List.map enc vs)==q)=true∧(G (((.pv (.sl 2 false (List.drop 0 (List.take q (List.map enc vs))))),([(.row false 3 1 (List.map enc p))],[])))))):At VE 1 (WF 1 Wq G) Wn 0 31 [(1,.row 0 m 0 m),(2,.ptr 1 0),(5,.row 2 q 0 q),(12,.pv (.int .i64 n)),(13,.pv (.int .i64 i))] [.obj (.row false 3 1 (p.map enc)),.obj (.box [.pv (enc b.v),.pv (.int .i64 b.m)]),.obj (.row false 63 2 (vs.map enc))]:=At.tf (.lit (.ask (.req (.abs (Str) (fun YY=>AV.pv (PV.rptr (PV.cells ((enc) YY)))) (.lit (.req (.keep (.req (.req (.lit (.lit (.req (.lit (.nil)))))))))))) (.req (.nil)))) h (by kernel_rfl)
end Go.Pl

namespace Go.Pl
open Go.RowKit
open Enc (enc dec is)
open EncL (encL decL isL)
theorem UM{l:List Int}{i:Nat}(h:i<l.length):List.getD (List.map (enc:Int->PV) l) (0+Int.toNat (i:Int)) default=enc l[i]:=by simp[List.getD,h]
theorem Fe(b:BoxT)(p:List Int)(hb:b.v.length<=1000)(hp:p.length<=1000): ∀ (k i:Nat),k+i=min b.v.length p.length->1<=i ->
  At VE 1 (WF 1 Wq fun r=> ∃ q q',r.1 = .pv q∧Sub q q'∧((.pv (.sl 2 false ((Ze b.v p).map enc)),[.row false 3 1 (p.map enc)],[]):AV×List AObj×List AObj)=(.pv q',r.2)) Wn 0 31 [(1,.row 0 p.length 0 p.length),(2,.ptr 1 0),(5,.row 2 i 0 i),(12,.pv (.int .i64 ((min b.v.length p.length:Nat):Int))),(13,.pv (.int .i64 i))] [.obj (.row false 3 1 (p.map enc)),.obj (.box [.pv (enc b.v),.pv (.int .i64 b.m)]),.obj (.row false 63 2 ((Ze (b.v.take i) (p.take i)).map enc))]:=by
 intro k
 induction k with
 | zero=>
  intro i hi h1
  have hl:=Uj b.v p (i:=i) (by omega) (by omega)
  refine Am b p.length p _ i i (Ze (b.v.take i) (p.take i)) (ZK (Z4 (by omega)) ⟨by simp[hl],?_⟩)
  rw[List.drop_zero,List.take_of_length_le (by rw[List.length_map,hl];exact Nat.le_refl _),Gu b.v p (by omega)]
  exact⟨_,_,rfl,Sub.refl _,rfl⟩
 | succ k ih=>
  intro i hi h1
  have hl:=Uj b.v p (i:=i) (by omega) (by omega)
  have hlt:i<b.v.length:=by omega
  have hlt2:i<p.length:=by omega
  have e:=UM hlt2
  refine Am b p.length p _ i i (Ze (b.v.take i) (p.take i)) (ZC (ZW (by omega)) ⟨Zt hlt rfl,Zx hlt ⟨by simp;omega,by simp;omega,?_,?_,?_⟩⟩)
  ·rw[e];rfl
  ·rw[List.length_map,hl]
   show((i==i)&&(i==i)&&decide ((i+1)*24<=1099511627776)&&decide (i+1<=1099511627776))=true
   rw[decide_eq_true (by omega),decide_eq_true (by omega)];simp
  ·have:=ih (i+1) (by omega) (by omega)
   rw[WZ b.v p hlt hlt2,List.map_append,<- next (by omega)]at this
   rw[e]
   exact this
theorem GL(l:List Int):BJ (l.map enc)=l:=Enc.dec_enc l
theorem Ou: ∀ args os,XX args os=true->Zc VE os.length (WF os.length Wq fun r=> ∃ p p',r.1 = .pv p∧Sub p p'∧Ua args os=(.pv p',r.2)) Wn [] (YK a5v args os):=by
 intro args os h
 unfold XX at h
 split at h
 ·rename_i v k n m ty xs
  simp only[Bool.and_eq_true,beq_iff_eq,decide_eq_true_eq]at h
  obtain⟨⟨⟨⟨⟨⟨rfl,h2⟩,rfl⟩,h4⟩,h5⟩,h6⟩,h7⟩:=h
  obtain⟨p,hp⟩:=Yr h4
  have hp:PV.sl 1 false xs=PV.sl 1 false (p.map enc):=hp
  injection hp with _ _ hx
  subst hx
  obtain⟨bv,rfl⟩:=Yr h5
  rw[Enc.dec_enc]at h6
  rw[List.length_map]at h2
  subst h2
  have ev:Ua [.pv (.agg [enc bv,.int .i64 k]),.row 0 p.length 0 p.length] [.row false 3 1 (p.map enc)]=(.pv (.sl 2 false ((Ze bv p).map enc)),[.row false 3 1 (p.map enc)],[]):=by
   show(AV.pv (.sl 2 false ((Ze (dec (enc bv:PV)) (BJ (p.map enc))).map enc)),_,_)=_
   rw[Enc.dec_enc,GL]
  rw[ev]
  refine b6h ⟨bv,k⟩ p.length p ?_
  simp only[List.length_map]
  rw[if_neg (by decide)]
  have em:(if ((bv.length:Nat):Int)<((p.length - 0:Nat):Int)then(bv.length:Int)else((p.length - 0:Nat):Int))=((min bv.length p.length:Nat):Int):=by
   split <;> omega
  rw[em]
  by_cases h0:min bv.length p.length=0
  ·rw[h0]
   refine Si ⟨bv,k⟩ p.length p 0 0 (ZK (by decide) ?_)
   have:Ze bv p=[]:=by
    rw[<- List.length_eq_zero_iff];unfold Ze;rw[List.length_zipWith];exact h0
   rw[this]
   exact⟨_,_,rfl,Sub.sl0 0 2 true,rfl⟩
  ·have hlt:0<bv.length:=by omega
   have hlt2:0<p.length:=by omega
   have e:=UM hlt2
   refine Si ⟨bv,k⟩ p.length p _ 0 (ZC (ZW (i:=0) (by omega)) ⟨Zt hlt rfl,Zx hlt ⟨by simp;omega,by simp;omega,?_,?_⟩⟩)
   ·have e:List.getD (List.map (enc:Int->PV) p) (0+Int.toNat 0) default=enc p[0]:=e
    rw[e];rfl
   ·have:=Fe ⟨bv,k⟩ p h6 h7 (min bv.length p.length - 1) 1 (by show min bv.length p.length - 1+1=min bv.length p.length;omega) (by omega)
    rw[show(1:Nat)=0+1 from rfl,WZ bv p hlt hlt2]at this
    have e:List.getD (List.map (enc:Int->PV) p) (0+Int.toNat 0) default=enc p[0]:=e
    rw[e]
    exact this
 ·cases h
def JG(l:Nat)(b:BoxT)(fs:List Fact)(n:Nat):List AV:=ZU 52 0 [(0,.yld l),(1,.pv (.rptr [enc b.v,.int .i64 b.m])),(2,.pv (.rptr [enc fs])),(4,.row 0 n 0 n)]
def YJ(p:List Int):Zv:=[.obj (.row false 3 1 (p.map enc))]
def b1u(l:Nat)(b:BoxT)(fs:List Fact)(n:Nat)(p:List Int):List AV:=ZU 52 0 [(0,.yld l),(1,.pv (.rptr [enc b.v,.int .i64 b.m])),(2,.pv (.rptr [enc fs])),(4,.row 0 n 0 n),(5,.pv (enc (Ze b.v p)))]
theorem c0u(l:Nat)(b:BoxT)(fs:List Fact)(hb:b.v.length<=1000):ZB a1l (fun n S' _=>n=99∧S'=⟨JG l b fs b.v.length,YJ (We b.v)⟩) 0 (Zo 0 OG fun _=>False) (.inl NY) [.seq (.ext 99 [0,1,2,4])] ⟨ZU 52 0 [(0,.yld l),(1,.pv (.rptr [enc b.v,.int .i64 b.m])),(2,.pv (.rptr [enc fs]))],[]⟩:=by
 have e:PV.asXs (List.getD (List.drop 0 [enc b.v,PV.int .i64 b.m]) 0 default)=b.v.map enc:=rfl
 have en:Int.toNat ((List.length (List.map (enc:Str->PV) b.v):Nat):Int)=b.v.length:=by simp
 have ez:List.replicate b.v.length (PV.int .i64 0)=(We b.v).map enc:=by
  unfold We
  rw[List.map_map]
  exact(List.map_const' ..).symm
 refine c7n (G:=fun _=>False) _ l b fs ⟨?_,rfl,?_⟩
 ·simp only[e,List.length_map]
  simp
  omega
 ·simp only[e,en,ez]
  rfl
theorem b9f(l:Nat)(b:BoxT)(fs:List Fact)(p:List Int)(hb:b.v.length<=1000)(hp:p.length<=1000):ZB b2v (fun n S' _=>n=99∧S'=⟨b1u l b fs p.length p,YJ p⟩) 1 (Zo 1 EG fun _=>False) (.inl Pp) [.seq (.ext 99 [0,1,2,4,5])] ⟨JG l b fs p.length,YJ p⟩:=by
 refine c4r (G:=fun _=>False) _ l b fs p.length p ⟨?_,rfl,?_⟩
 ·show(p.length==p.length&&(p.map enc).length==p.length&&3==3&&VG (List Int) (enc p)&&VG (List Str) (enc b.v)&&decide ((dec (enc b.v:PV):List Str).length<=1000)&&decide (p.length<=1000))=true
  rw[ZY,ZY,Enc.dec_enc,decide_eq_true hb,decide_eq_true hp];simp
 ·have e1:Ze (dec (Sh.co (Sh.sl 1) (List.getD [enc b.v,PV.int .i64 b.m] 0 default))) (BJ (p.map enc))=Ze b.v p:=by
   rw[GL]
   show Ze (dec (enc b.v:PV)) p=_
   rw[Enc.dec_enc]
  rw[e1]
  rfl
theorem b4r(l:Nat)(b:BoxT)(fs:List Fact): ∀ (k:Nat) (p:List Int),k<=p.length->p.length<=1000->(∀ x∈p,-1<=x∧x<=20000) ->
  AtS [.seq (.ext 99 [0,1,2,4])] DZ (fun n S' _=>n=99∧ ∃ q,YQ b.m k p=some q∧S'=⟨JG l b fs p.length,YJ q⟩) 1 (Zo 1 K8 fun _=>YQ b.m k p=none) QA 0 52 [(0,.yld l),(1,.pv (.rptr [enc b.v,.int .i64 b.m])),(2,.pv (.rptr [enc fs])),(4,.row 0 p.length 0 p.length),(6,.pv (.int .i64 ((k:Int) - 1)))] (YJ p):=by
 intro k
 induction k with
 | zero=>
  intro p hk hp hx
  exact b4e (G:=fun _=>YQ b.m 0 p=none) _ l b fs p.length p _ (ZK (by simp) (ZC (by simp) rfl))
 | succ k ih=>
  intro p hk hp hx
  have hlt:k<p.length:=by omega
  have ek:((k+1:Nat):Int) - 1=(k:Int):=by omega
  rw[ek]
  have e:=UM hlt
  have eg:p.getD k 0=p[k]:=by simp[List.getD,hlt]
  have hxk:=hx _ (List.getElem_mem hlt)
  have em:PV.asInt (List.getD (List.drop 1 [enc b.v,PV.int .i64 b.m]) 0 default)=b.m:=rfl
  have q1:(decide (0<=(k:Int))&&decide (0+Int.toNat (k:Int)<p.length)&&List.length (List.map (enc:Int->PV) p)==p.length)=true:=by simp;omega
  have q2:(List.length (List.map (enc:Int->PV) p)==p.length&&decide (0+Int.toNat (k:Int)<List.length (List.map (enc:Int->PV) p)))=true:=by simp;omega
  have hset : ∀ y:Int,List.set (List.map (enc:Int->PV) p) (0+Int.toNat (k:Int)) (enc y)=(p.set k y).map enc:=fun y=>by rw[Nat.zero_add,Int.toNat_natCast,List.map_set]
  refine b4e (G:=fun _=>YQ b.m (k+1) p=none) _ l b fs p.length p k (ZC (by simp) ?_)
  rw[e]
  refine⟨q1,q2,rfl,Ka (fun h=>⟨q1,?_,?_⟩) fun h=>ZK (by simp) ⟨q1,q2,rfl,q1,?_,?_⟩⟩
  ·rw[q2];rfl
  ·have h:p[k]=b.m:=h
   have hn:YQ b.m (k+1) p=YQ b.m k (p.set k 0):=by rw[YQ,eg,if_pos h]
   rw[hn]
   have hw:IntKind.i64.wrap ((k:Int) - 1)=(k:Int) - 1:=XJ (by omega) (by omega)
   rw[hw]
   have:=ih (p.set k 0) (by rw[List.length_set];omega) (by rw[List.length_set];exact hp) (fun x hx'=>by
    rcases List.mem_or_eq_of_mem_set hx' with h|rfl
    ·exact hx x h
    ·omega)
   rw[List.length_set]at this
   have e0:=hset 0
   unfold YJ at this
   rw[<- e0]at this
   exact this
  ·rw[q2];rfl
  ·have h : ¬ p[k]=b.m:=h
   have hn:YQ b.m (k+1) p=some (p.set k (p[k]+1)):=by rw[YQ,eg,if_neg h]
   have hw:IntKind.i64.wrap (p[k]+1)=p[k]+1:=XJ (by omega) (by omega)
   refine⟨rfl,_,hn,?_⟩
   have e0:=hset (IntKind.i64.wrap (p[k]+1))
   show(⟨JG l b fs p.length,[.obj (.row false 3 1 (List.set (List.map (enc:Int->PV) p) (0+Int.toNat (k:Int)) (enc (IntKind.i64.wrap (p[k]+1)))))]⟩:St)=_
   rw[e0,hw]
   rfl
theorem b8y(l:Nat)(b:BoxT)(fs:List Fact)(p:List Int)(hp:p.length<=1000)(hx : ∀ x∈p,-1<=x∧x<=20000):ZB DZ (fun n S' _=>n=99∧ ∃ q,VJ b.m p=some q∧S'=⟨JG l b fs p.length,YJ q⟩) 1 (Zo 1 K8 fun _=>VJ b.m p=none) (.inl QA) [.seq (.ext 99 [0,1,2,4])] ⟨JG l b fs p.length,YJ p⟩:=by
 refine c5y (G:=fun _=>VJ b.m p=none) _ l b fs p.length p ?_
 have hw:IntKind.i64.wrap (((p.length - 0:Nat):Int) - 1)=((p.length:Nat):Int) - 1:=by rw[Nat.sub_zero];exact XJ (by omega) (by omega)
 rw[hw]
 exact b4r l b fs p.length p (Nat.le_refl _) hp hx
end Go.Pl

namespace Go.Pl
open Go.RowKit
open Enc (enc dec is)
open EncL (encL decL isL)
end Go.Pl

namespace Go.Pl
open Go.RowKit
open Enc (enc dec is)
open EncL (encL decL isL)
set_option maxRecDepth 100000
def Vg:IC:=(.seq (.reg [⟨(some 4),(.mv (.c (.bool false))),0,none⟩] none) (.seq (.seq (.reg [⟨(some 5),(.mv (.c (.int .i64 0))),0,none⟩] none) (.block 0 (.loop [5,0,1] (.seq (.seq (.reg [⟨(some 8),(.mv (.t 5)),0,none⟩,⟨(some 9),(.mv (.t 0)),0,none⟩,⟨(some 10),(.len 1 (.t 9)),0,none⟩,⟨(some 11),(.bin .num .lss (.t 8) (.t 10)),0,none⟩] none) (.cond (.t 11) .skip (.exit 0))) (.seq (.block 1 (.seq (.reg [⟨(some 15),(.mv (.t 0)),0,none⟩,⟨(some 16),(.mv (.t 5)),0,none⟩,⟨(some 17),(.iaddr 3 (.t 15) (.t 16)),0,none⟩,⟨(some 18),(.faddr 1 (.t 17)),0,none⟩,⟨(some 19),(.load true [(.int .i64),(.sl 2)] (.t 18)),0,none⟩,⟨(some 20),(.mv (.t 1)),0,none⟩,⟨(some 21),(.call (.c (.fn 65)) [(.t 19),(.t 20)]),0,none⟩,⟨(some 14),(.mv (.t 21)),2,none⟩,⟨(some 22),(.extract (.t 14) 0),2,none⟩,⟨(some 23),(.extract (.t 14) 1),2,none⟩,⟨(some 6),(.mv (.t 22)),2,none⟩,⟨(some 7),(.mv (.t 23)),2,none⟩] none) (.seq (.reg [⟨(some 24),(.mv (.t 7)),0,none⟩,⟨(some 25),(.bin .num .neq (.t 24) (.c (.int .i64 0))),0,none⟩,⟨(some 26),(.mv (.t 25)),0,none⟩,⟨(some 27),(.mv (.t 6)),0,(some (26,false))⟩,⟨(some 28),(.bin .num .lss (.t 27) (.c (.int .i64 0))),0,(some (26,false))⟩,⟨(some 29),(.pick (.t 26) (.c (.bool true)) (.t 28)),0,none⟩,⟨(some 30),(.mv (.t 29)),0,none⟩,⟨(some 31),(.mv (.t 0)),0,(some (30,false))⟩,⟨(some 32),(.mv (.t 5)),0,(some (30,false))⟩,⟨(some 33),(.iaddr 3 (.t 31) (.t 32)),0,(some (30,false))⟩,⟨(some 34),(.faddr 0 (.t 33)),0,(some (30,false))⟩,⟨(some 35),(.load false [.bool] (.t 34)),0,(some (30,false))⟩,⟨(some 36),(.mv (.t 35)),0,(some (30,false))⟩,⟨(some 37),(.mv (.t 6)),0,(some (36,true))⟩,⟨(some 38),(.bin .num .neq (.t 37) (.c (.int .i64 0))),0,(some (36,true))⟩,⟨(some 39),(.pick (.t 36) (.t 38) (.c (.bool false))),0,(some (30,false))⟩,⟨(some 40),(.pick (.t 30) (.c (.bool true)) (.t 39)),0,none⟩] none) (.cond (.t 40) (.seq (.reg [⟨(some 4),(.mv (.c (.bool false))),0,none⟩] none) .ret) .skip)))) (.reg [⟨(some 12),(.mv (.t 5)),0,none⟩,⟨(some 13),(.bin .num .add (.t 12) (.c (.int .i64 1))),0,none⟩,⟨(some 5),(.mv (.t 13)),0,none⟩] none)))))) (.seq (.reg [⟨(some 4),(.mv (.c (.bool true))),0,none⟩] none) .ret)))
def Vb:List IRes:=[(.tmp 4)]
abbrev a6a:Nat:=41
def Ur:ZF:=Xe [(65,.pure (preT (fun x:Lin×List Coef×Unit=>Yt x.1&&decide (x.2.1.length<=9223372036854775807))) (Zf (fun x:Lin×List Coef×Unit=>Yj x.1 x.2.1)))]
theorem b1d{G:PV->Prop}(fs:List Fact)(v:List Coef)(h:At Ur 0 (Za Vb G) Vg 0 41 [(0,(.pv (.sl 3 false (List.map enc fs)))),(1,(.pv (.sl 2 false (List.map enc v)))),(5,(.pv (.int .i64 0)))] []):Zc Ur 0 (Za Vb G) Vg [] (Ye 41 [enc fs,enc v]):=Zc.tp (.nil) h (by kernel_rfl)
theorem TC{G:PV->Prop}(fs:List Fact)(v:List Coef)(i:Int)(h:if (decide (i<(↑(List.length (List.map enc fs)):Int)))=true then(decide (0<=i)&&decide (Int.toNat i<List.length (List.map enc fs))&&Enc.sz Fact==3)=true∧(∃ y0:Fact,AV.pv (PV.rptr (PV.cells (List.getD (List.map enc fs) (Int.toNat i) default)))=AV.pv (PV.rptr (PV.cells ((enc) y0)))∧((Go.Pl.preT (fun(x:Lin×List Coef×Unit)=>Yt x.1&&decide (List.length x.2.1<=9223372036854775807)) [(.agg [(.int .i64 (PV.asInt (List.getD (List.drop 1 (PV.cells (enc y0))) 0 default))),(.sl 2 false (PV.asXs (List.getD (List.drop 1 (PV.cells (enc y0))) (0+1) default)))]),(.sl 2 false (List.map enc v))])=true∧(∃ y1:Int×Int,AV.pv (Zf (fun(x:Lin×List Coef×Unit)=>Yj x.1 x.2.1) [(.agg [(.int .i64 (PV.asInt (List.getD (List.drop 1 (PV.cells (enc y0))) 0 default))),(.sl 2 false (PV.asXs (List.getD (List.drop 1 (PV.cells (enc y0))) (0+1) default)))]),(.sl 2 false (List.map enc v))])=AV.pv (enc y1)∧(if (y1.2 != 0)=true then G ((.bool false))else(if (decide (y1.1<0))=true then G ((.bool false))else((decide (0<=i)&&decide (Int.toNat i<List.length (List.map enc fs))&&Enc.sz Fact==3)=true∧(∃ y2:Fact,AV.pv (PV.rptr (PV.cells (List.getD (List.map enc fs) (Int.toNat i) default)))=AV.pv (PV.rptr (PV.cells ((enc) y2)))∧(if (PV.asBool (List.getD (List.drop 0 (PV.cells (enc y2))) 0 default))=true then if (y1.1 != 0)=true then G ((.bool false))else(At Ur 0 (Za Vb G) Vg 0 41 [(0,(.pv (.sl 3 false (List.map enc fs)))),(1,(.pv (.sl 2 false (List.map enc v)))),(5,(.pv (.int .i64 (IntKind.wrap IntKind.i64 (i+1)))))] [])else(At Ur 0 (Za Vb G) Vg 0 41 [(0,(.pv (.sl 3 false (List.map enc fs)))),(1,(.pv (.sl 2 false (List.map enc v)))),(5,(.pv (.int .i64 (IntKind.wrap IntKind.i64 (i+1)))))] [])))))))))else(G ((.bool true)))):At Ur 0 (Za Vb G) Vg 0 41 [(0,.pv (enc fs)),(1,.pv (enc v)),(5,.pv (.int .i64 i))] []:=At.tp (.lit (.ask (.req (.abs (Fact) (fun YY=>AV.pv (PV.rptr (PV.cells ((enc) YY)))) (.lit (.req (.abs (Int×Int) (fun YY=>AV.pv (enc YY)) (.lit (.ask (.lit (.lit (.lit (.lit (.lit (.lit (.lit (.lit (.lit (.lit (.lit (.nil)))))))))))) (.lit (.lit (.lit (.ask (.lit (.lit (.lit (.lit (.lit (.lit (.lit (.lit (.nil))))))))) (.lit (.lit (.req (.abs (Fact) (fun YY=>AV.pv (PV.rptr (PV.cells ((enc) YY)))) (.lit (.lit (.lit (.lit (.ask (.lit (.lit (.lit (.lit (.lit (.ask (.nil) (.lit (.nil)))))))) (.lit (.lit (.lit (.lit (.lit (.lit (.nil))))))))))))))))))))))))))) (.nil))) h (by kernel_rfl)
end Go.Pl

namespace Go.Pl
open Go.RowKit
open Enc (enc dec is)
open EncL (encL decL isL)
set_option maxRecDepth 100000
end Go.Pl

namespace Go.Pl
open Go.RowKit
open Enc (enc dec is)
open EncL (encL decL isL)
structure Cert2 where
 a:Cert
 b:Cert
instance:Enc Cert2 where
 sz:=10
 enc x:=.agg (PV.cells (enc x.a)++PV.cells (enc x.b))
 dec | .agg [a,b,c,d,e,f,g,h,i,j]=>⟨dec (.agg [a,b,c,d,e]),dec (.agg [f,g,h,i,j])⟩|_=>⟨.mk 0 [] ⟨0,[]⟩ [],.mk 0 [] ⟨0,[]⟩ []⟩
 is | .agg [a,b,c,d,e,f,g,h,i,j]=>is Cert (.agg [a,b,c,d,e])&&is Cert (.agg [f,g,h,i,j])|_=>false
 is_enc v:=by
  obtain⟨⟨k,m,l,ks⟩,⟨k',m',l',ks'⟩⟩:=v
  rw[Uq,Uq]
  show(is Cert (.agg [enc k,enc m,enc l.k,enc l.t,enc ks])&&is Cert (.agg [enc k',enc m',enc l'.k,enc l'.t,enc ks']))=true
  rw[<- Uq,<- Uq,Enc.is_enc,Enc.is_enc];rfl
 dec_enc v:=by
  obtain⟨⟨k,m,l,ks⟩,⟨k',m',l',ks'⟩⟩:=v
  rw[Uq,Uq]
  show(⟨dec (.agg [enc k,enc m,enc l.k,enc l.t,enc ks]),dec (.agg [enc k',enc m',enc l'.k,enc l'.t,enc ks'])⟩:Cert2)=_
  rw[<- Uq,<- Uq,Enc.dec_enc,Enc.dec_enc]
 sub p h:=by
  cases p with
  | agg xs=>
   match xs,h with
   | [a,b,c,d,e,f,g,h',i,j],h=>
    simp only[Bool.and_eq_true]at h
    have h1:=Enc.sub (α:=Cert) _ h.1
    have h2:=Enc.sub (α:=Cert) _ h.2
    exact Qv.agg (h1.1.append h2.1)
  | _=>cases h
theorem c3x{l:Lin}{n:Int}(h:Gb l n=true)(hl:Yt l=true):Yi l=true:=by
 simp only[Gb,Bool.and_eq_true,List.all_eq_true,decide_eq_true_eq]at h
 simp only[Yi,hl,Bool.true_and,List.all_eq_true,decide_eq_true_eq]
 intro t ht
 have:=h.1 t ht
 omega
mutual
theorem c2h: ∀ (c:Cert) (n:Int),n<=12->EL c n=true->cOk c=true->1<=n∧(c6i c:Int)<=n∧1<=AJ c∧AJ c<=n∧cSm c=true
 | .mk k m l ks,n,hn,h,ho=>by
  simp only[EL,Bool.and_eq_true,Bool.not_eq_true',decide_eq_false_iff_not]at h
  obtain⟨h1,h2,h3,h4,h5⟩:=h
  simp only[cOk,Bool.and_eq_true,decide_eq_true_eq]at ho
  obtain⟨⟨⟨o1,o2⟩,o3⟩,o4⟩:=ho
  obtain⟨a1,a2,a3,a4⟩:=MH ks n 1 (by omega) hn (by omega) (by omega) h5 o4
  rw[c6i,AJ]
  refine⟨by omega,by omega,by omega,by omega,?_⟩
  simp only[cSm,c3x h2 o2,a4,decide_eq_true o1,decide_eq_true o3]
  rfl
theorem MH: ∀ (cs:List Cert) (n s:Int),1<=n->n<=12->1<=s->s<=100 - n->Cx cs n=true->a7p cs=true->(MS cs:Int)<=n - 1∧s<=Dc s cs∧Dc s cs<=s+n - 1∧a5f cs=true
 | [],n,s,h1,h2,h3,h4,_,_=>by
  rw[MS,Dc]
  exact⟨by omega,by omega,by omega,rfl⟩
 | c::cs,n,s,h1,h2,h3,h4,h,ho=>by
  simp only[Cx,Bool.and_eq_true]at h
  simp only[a7p,Bool.and_eq_true]at ho
  rw[XJ (by omega) (by omega)]at h
  obtain⟨b1,b2,b3,b4,b5⟩:=c2h c (n - 1) (by omega) h.1 ho.1
  have h':=h.2
  rw[XJ (by omega) (by omega)]at h'
  obtain⟨a1,a2,a3,a4⟩:=MH cs (n - AJ c) (s+AJ c) (by omega) (by omega) (by omega) (by omega) h' ho.2
  rw[MS,Dc,XJ (by omega) (by omega)]
  refine⟨by omega,by omega,by omega,?_⟩
  simp only[a5f,b5,a4]
  rfl
end
end Go.Pl

namespace Go.Pl
open Go.RowKit
open Enc (enc dec is)
open EncL (encL decL isL)
set_option maxRecDepth 100000
end Go.Pl

namespace Go.Pl
open Go.RowKit
open Enc (enc dec is)
open EncL (encL decL isL)
end Go.Pl

namespace Go.Pl
open Go.RowKit
open Enc (enc dec is)
open EncL (encL decL isL)
theorem LA(l:List Fact)(v:List Coef)(hl:Zk l=true)(hv:v.length<=9223372036854775807): ∀ (j i:Nat),j+i=l.length->At Ur 0 (Za Vb (Zg ((l.drop i).all fun f=>Z7 f v))) Vg 0 41 [(0,.pv (enc l)),(1,.pv (enc v)),(5,.pv (.int .i64 i))] []:=by
 intro j
 induction j with
 | zero=>
  intro i hi
  exact TC l v i (ZK (Xk (by omega)) (ZM (by rw[List.drop_of_length_le (by omega)];rfl)))
 | succ j ih=>
  intro i hi
  have hl':=hl
  simp only[Zk,Bool.and_eq_true,decide_eq_true_eq,List.all_eq_true]at hl'
  have hlt:i<l.length:=by omega
  have h:=ih (i+1) (by omega)
  have ho:Yt l[i].l=true:=by
   have:=hl'.2 _ (List.getElem_mem hlt)
   simp only[Yi,Bool.and_eq_true]at this
   exact this.1
  refine TC l v i (ZC (YV hlt) ⟨Zt hlt rfl,Zx hlt ⟨Zj (l[i].l,v,()) rfl (by show(Yt l[i].l&&decide (v.length<=9223372036854775807))=true;rw[ho,decide_eq_true hv];rfl),Zh (l[i].l,v,()) rfl ?_⟩⟩)
  rw[List.drop_eq_getElem_cons hlt,List.all_cons,next (by omega)]
  refine c9d (fun h1=> ?_) fun h1=>WJ (fun h2=> ?_) fun h2=>⟨Zt hlt rfl,Zx hlt (X3 (fun h3=>c9d (fun h4=> ?_) fun h4=> ?_) fun h3=> ?_)⟩
  ·have h1:(Yj l[i].l v).2≠0:=by simpa using h1
   exact ZM (by simp[Z7,h1])
  all_goals have h1:(Yj l[i].l v).2=0:=by simpa using h1
  ·have h2:(Yj l[i].l v).1<0:=h2
   exact ZM (by simp[Z7,h1,h2])
  all_goals have h2 : ¬ (Yj l[i].l v).1<0:=h2
  all_goals have h3:l[i].eq=_:=h3
  ·have h4:(Yj l[i].l v).1≠0:=by simpa using h4
   exact ZM (by simp[Z7,h1,h2,h3,h4])
  ·have h4:(Yj l[i].l v).1=0:=by simpa using h4
   have e:Z7 l[i] v=true:=by simp[Z7,h1,h3,h4]
   rw[e,Bool.true_and]
   exact h
  ·have e:Z7 l[i] v=true:=by
    have h2':decide ((Yj l[i].l v).1<0)=false:=decide_eq_false h2
    simp only[Z7,h1,h3,h2']
    rfl
   rw[e,Bool.true_and]
   exact h
theorem EZ: ∀ a:List Fact×List Coef×Unit,(Zk a.1&&decide (a.2.1.length<=9223372036854775807))=true->Zc Ur 0 (Za Vb (Zg (a.1.all fun f=>Z7 f a.2.1))) Vg [] (Ye a6a (encL a)):=by
 rintro⟨l,v,⟨⟩⟩ h
 simp only[Bool.and_eq_true,decide_eq_true_eq]at h
 exact b1d l v (LA l v h.1 h.2 l.length 0 rfl)
end Go.Pl

namespace Go.Pl
open Go.RowKit
open Enc (enc dec is)
open EncL (encL decL isL)
end Go.Pl

namespace Go.Pl
open Go.RowKit
def Xt(ts:List Coef)(s:List UInt8):Int:=((ts.find? fun t=>t.v.s==s).map (·.c)).getD 0
def Jy(ts:List Coef):Prop:=ts.Pairwise fun a b=>a.v.s<b.v.s
def nzP(ts:List Coef):Prop:= ∀ t∈ts,t.c≠0
theorem RD(s:List UInt8):Xt [] s=0:=rfl
theorem YA(t:Coef)(ts:List Coef)(s:List UInt8):Xt (t::ts) s=if t.v.s=s then t.c else Xt ts s:=by
 simp only[Xt,List.find?_cons]
 by_cases h:t.v.s=s
 ·simp[h]
 ·have:(t.v.s==s)=false:=by simpa using h
  simp[this,h]
theorem Bt{s:List UInt8}: ∀ {ts:List Coef},(∀ t∈ts,s<t.v.s)->Xt ts s=0
 | [],_=>rfl
 | t::ts,h=>by
  have h1:=h t (by simp)
  rw[YA,if_neg (fun e=>by rw[e]at h1;exact List.lt_irrefl _ h1)]
  exact Bt fun u hu=>h u (by simp[hu])
theorem UR{t:Coef}{ts:List Coef}:Jy (t::ts) ↔ (∀ u∈ts,t.v.s<u.v.s)∧Jy ts:=List.pairwise_cons
theorem UZ(s:Str)(c:Int): ∀ {ts:List Coef},(∀ t∈ts,s.s<t.v.s)->XN s c true ts=ts
 | [],_=>by simp[XN]
 | t::ts,h=>by
  have h1:=h t (by simp)
  rw[a1r,if_neg (fun e=>by rw[e]at h1;exact List.lt_irrefl _ h1),UZ s c fun u hu=>h u (by simp[hu])]
theorem a3h(s:Str)(c:Int): ∀ {ts:List Coef},Jy ts-> ∀ u∈XN s c false ts,u.v.s=s.s ∨ ∃ t∈ts,t.v.s=u.v.s
 | [],_,u,hu=>by
  simp only[XN,Bool.false_eq_true,if_false,List.mem_singleton]at hu
  exact .inl (by rw[hu])
 | t::ts,h,u,hu=>by
  obtain⟨h1,h2⟩:=UR.1 h
  rw[Jz]at hu
  split at hu
  ·rename_i hlt
   rw[UZ s c (fun u hu=>List.lt_trans hlt (h1 u hu))]at hu
   rcases List.mem_cons.1 hu with rfl|hu
   ·exact .inl rfl
   ·exact .inr ⟨u,hu,rfl⟩
  ·split at hu
   ·rename_i he
    rw[UZ s c (fun u hu=>he▸h1 u hu)]at hu
    rcases List.mem_cons.1 hu with rfl|hu
    ·exact .inr ⟨t,by simp,rfl⟩
    ·exact .inr ⟨u,by simp[hu],rfl⟩
   ·rcases List.mem_cons.1 hu with rfl|hu
    ·exact .inr ⟨u,by simp,rfl⟩
    ·rcases a3h s c h2 u hu with h|⟨w,hw,e⟩
     ·exact .inl h
     ·exact .inr ⟨w,by simp[hw],e⟩
theorem Ns(s:Str)(c:Int): ∀ {ts:List Coef},Jy ts->Jy (XN s c false ts)
 | [],_=>by simp[XN,Jy]
 | t::ts,h=>by
  obtain⟨h1,h2⟩:=UR.1 h
  rw[Jz]
  split
  ·rename_i hlt
   rw[UZ s c (fun u hu=>List.lt_trans hlt (h1 u hu))]
   exact UR.2 ⟨fun u hu=>by
    rcases List.mem_cons.1 hu with rfl|hu
    ·exact hlt
    ·exact List.lt_trans hlt (h1 u hu),h⟩
  ·rename_i hlt
   split
   ·rename_i he
    rw[UZ s c (fun u hu=>he▸h1 u hu)]
    exact UR.2 ⟨h1,h2⟩
   ·rename_i he
    have hts:t.v.s<s.s:=tri hlt (fun e=>he (Gw.2 e.symm))
    refine UR.2 ⟨fun u hu=> ?_,Ns s c h2⟩
    rcases a3h s c h2 u hu with e|⟨w,hw,e⟩
    ·rw[e];exact hts
    ·rw[<- e];exact h1 w hw
theorem NZ(s:Str)(c:Int)(hc:DJ c=c): ∀ {ts:List Coef},Jy ts-> ∀ x,Xt (XN s c false ts) x=if s.s=x then DJ (Xt ts s.s+c)else Xt ts x
 | [],_,x=>by
  have e:XN s c false []=[⟨s,c⟩]:=by simp[XN]
  rw[e,YA,RD,RD,Int.zero_add,hc]
 | t::ts,h,x=>by
  obtain⟨h1,h2⟩:=UR.1 h
  rw[Jz]
  split
  ·rename_i hlt
   rw[UZ s c (fun u hu=>List.lt_trans hlt (h1 u hu)),YA,Bt (ts:=t::ts) (s:=s.s) (fun u hu=>by
    rcases List.mem_cons.1 hu with rfl|hu
    ·exact hlt
    ·exact List.lt_trans hlt (h1 u hu)),Int.zero_add,hc]
  ·rename_i hlt
   split
   ·rename_i he
    have he':t.v.s=s.s:=by rw[he]
    have e1:Xt (t::ts) s.s=t.c:=by rw[YA,if_pos he']
    have e2:Xt (t::ts) x=if s.s=x then t.c else Xt ts x:=by rw[YA,he']
    rw[UZ s c (fun u hu=>he▸h1 u hu),YA,e1,e2]
    show(if t.v.s=x then DJ (t.c+c)else Xt ts x)=_
    rw[he']
    by_cases hx:s.s=x
    ·rw[if_pos hx,if_pos hx]
    ·rw[if_neg hx,if_neg hx,if_neg hx]
   ·rename_i he
    have he' : ¬ t.v.s=s.s:=fun e=>he (Gw.2 e)
    rw[YA,NZ s c hc h2 x,YA (s:=s.s),if_neg he',YA (s:=x)]
    by_cases hx:s.s=x
    ·rw[if_pos hx,if_pos hx,if_neg (fun e=>he' (e.trans hx.symm))]
    ·rw[if_neg hx,if_neg hx]
theorem Df: ∀ {ts:List Coef},Jy ts-> ∀ x,Xt (ts.filter fun t=>decide (t.c≠0)) x=Xt ts x
 | [],_,x=>rfl
 | t::ts,h,x=>by
  obtain⟨h1,h2⟩:=UR.1 h
  rw[List.filter_cons]
  split
  ·rw[YA,YA,Df h2 x]
  ·rename_i hz
   have hz0:t.c=0:=by simpa using hz
   rw[YA,Df h2 x]
   by_cases hx:t.v.s=x
   ·rw[if_pos hx,hz0,Bt fun u hu=>hx▸h1 u hu]
   ·rw[if_neg hx]
theorem b4f{l:Lin}(s:Str)(c:Int)(h:Jy l.t):Jy (Vm l s c).t:=(Ns s c h).sublist List.filter_sublist
theorem a0y(l:Lin)(s:Str)(c:Int):nzP (Vm l s c).t:=fun t ht=>by simpa using (List.mem_filter.1 ht).2
theorem a8m{l:Lin}(s:Str){c:Int}(hc:DJ c=c)(h:Jy l.t)(x:List UInt8):Xt (Vm l s c).t x=if s.s=x then DJ (Xt l.t s.s+c)else Xt l.t x:=by
 show Xt (List.filter _ _) x=_
 rw[Df (Ns s c h),NZ s c hc h]
theorem b0w(s:Str)(c:Int)(x:List UInt8): ∀ m:List (Str×Int),atM (a8o s c m) x=if s.s=x then c else atM m x
 | []=>by
  rw[a8o]
  simp only[atM,List.find?_cons]
  by_cases h:s.s=x
  ·simp[h]
  ·have:(s.s==x)=false:=by simpa using h
   simp[this,h]
 | p::m=>by
  have ih:=b0w s c x m
  rw[a8o]
  split
  ·rename_i he
   simp only[atM,List.find?_cons]
   by_cases h:s.s=x
   ·simp[h]
   ·have h1:(s.s==x)=false:=by simpa using h
    have h2:(p.1.s==x)=false:=by rw[<- he];exact h1
    simp[h1,h2,h]
  ·rename_i he
   simp only[atM,List.find?_cons]at ih ⊢
   by_cases h:p.1.s=x
   ·have h2 : ¬ s.s=x:=fun e=>he (e.trans h.symm)
    simp[h,h2]
   ·have h2:(p.1.s==x)=false:=by simpa using h
    rw[h2]
    exact ih
end Go.Pl

namespace Go.Pl
open Go.RowKit
def wM(m:List (Str×Int)):Prop:= ∀ s,DJ (atM m s)=atM m s
theorem add_zero: ∀ (x:List Coef) (m:List (Str×Int)),wM m-> ∀ s,atM (c6h 0 x m) s=atM m s
 | [],m,h,s=>rfl
 | t::x,m,h,s=>by
  have e : ∀ y,atM (a8o t.v (IntKind.i64.wrap (atM m t.v.s+IntKind.i64.wrap (0*t.c))) m) y=atM m y:=fun y=>by
   rw[b0w]
   split
   ·rename_i hy
    have:IntKind.i64.wrap (0*t.c)=0:=by rw[Int.zero_mul];rfl
    rw[this,Int.add_zero,<- hy]
    exact h t.v.s
   ·rfl
  rw[c6h,add_zero x _ (fun y=>by rw[e];exact h y),e]
end Go.Pl

namespace Go.Pl
open Go.RowKit
end Go.Pl

namespace Go.Pl
open Go.RowKit
open Enc (enc dec is)
open EncL (encL decL isL)
end Go.Pl

namespace Go.Pl
open Go.RowKit
open Enc (enc dec is)
open EncL (encL decL isL)
set_option maxRecDepth 100000
end Go.Pl

namespace Go.Pl
open Go.RowKit
open Enc (enc dec is)
open EncL (encL decL isL)
set_option maxRecDepth 100000
end Go.Pl

namespace Go.Pl
open Go.RowKit
open Enc (enc dec is)
open EncL (encL decL isL)
end Go.Pl

namespace Go.Pl
open Go.RowKit
open Enc (enc dec is)
open EncL (encL decL isL)
end Go.Pl

namespace Go.Pl
open Go.RowKit
open Enc (enc dec is)
open EncL (encL decL isL)
end Go.Pl

namespace Go.Pl
open Go.RowKit
open Enc (enc dec is)
open EncL (encL decL isL)
theorem one_of{α:Type}: ∀ {ks:List α},ks.length=1-> ∃ a,ks=[a]
 | [a],_=>⟨a,rfl⟩
end Go.Pl

namespace Go.Pl
open Go.RowKit
open Enc (enc dec is)
open EncL (encL decL isL)
set_option maxRecDepth 100000
end Go.Pl

namespace Go.Pl
open Go.RowKit
open Enc (enc dec is)
open EncL (encL decL isL)
end Go.Pl

namespace Go.Pl
open Go.RowKit
open Enc (enc dec is)
open EncL (encL decL isL)
theorem sub_zero(b:Bool):Sub (.tup [c9t,.bool b]) (enc (((⟨0,[]⟩:Lin),b):Lin×Bool)):=Sub.pair (Sub.agg_cons (.refl _) (Sub.agg_cons (.sl0 _ _ _) Sub.agg_nil)) (.refl _)
end Go.Pl

namespace Go.Pl
open Go.RowKit
open Enc (enc dec is)
open EncL (encL decL isL)
inductive Walk (m:Int):List Int->List (List Int)->Prop
 | last {p}:VJ m p=none->Walk m p [p]
 | step {p q l}:VJ m p=some q->Walk m q l->Walk m p (p::l)
theorem Walk.walkP{m:Int}{p:List Int}{l:List (List Int)}(h:Walk m p l): ∀ f,l.length<=f->walkP m f p=l:=by
 induction h with
 | last h=>
  intro f hf
  cases f with
  | zero=>simp at hf
  | succ f=>simp[Go.Pl.walkP,h]
 | step h _ ih=>
  intro f hf
  cases f with
  | zero=>simp at hf
  | succ f=>simp only[Go.Pl.walkP,h];rw[ih f (by simpa using hf)]
theorem a0d(m x:Int): ∀ (k:Nat) (p:List Int),k<=p.length->YQ m (k+1) (x::p) =
  match YQ m k p with
  | some q=>some (x::q)
  | none=>if x=m then none else some ((x+1)::(List.replicate k 0++p.drop k)):=by
 intro k
 induction k with
 | zero=>intro p _;simp[YQ]
 | succ k ih=>
  intro p hp
  rw[YQ]
  have e:(x::p).getD (k+1) 0=p.getD k 0:=by simp[List.getD]
  rw[e]
  by_cases h:p.getD k 0=m
  ·have hn:YQ m (k+1) p=YQ m k (p.set k 0):=by rw[YQ,if_pos h]
   rw[if_pos h,hn]
   have:=ih (p.set k 0) (by simp;omega)
   rw[List.set_cons_succ,this]
   have e2:List.replicate k (0:Int)++(p.set k 0).drop k=List.replicate (k+1) 0++p.drop (k+1):=by
    rw[List.replicate_succ',List.append_assoc]
    congr 1
    rw[List.drop_eq_getElem_cons (show k<(p.set k 0).length by simp;omega),List.drop_set_of_lt (by omega)]
    simp
   rw[e2]
  ·have hn:YQ m (k+1) p=some (p.set k (p.getD k 0+1)):=by rw[YQ,if_neg h]
   rw[if_neg h,hn]
   simp
theorem J7(m x:Int)(p:List Int):VJ m (x::p) =
  match VJ m p with
  | some q=>some (x::q)
  | none=>if x=m then none else some ((x+1)::List.replicate p.length 0):=by
 have:=a0d m x p.length p (Nat.le_refl _)
 rw[List.drop_length,List.append_nil]at this
 exact this
theorem Db(m:Int): ∀ (k:Nat) (p q:List Int),YQ m k p=some q->q.length=p.length:=by
 intro k
 induction k with
 | zero=>intro p q h;cases h
 | succ k ih=>
  intro p q h
  rw[YQ]at h
  split at h
  ·rw[ih _ _ h,List.length_set]
  ·cases h;rw[List.length_set]
theorem Walk.cons{m x:Int}{rest:List (List Int)}{p:List Int}{l:List (List Int)}(h:Walk m p l):(hr:(x=m∧rest=[])∨(x≠m∧Walk m ((x+1)::List.replicate p.length 0) rest))->Walk m (x::p) (l.map (x:: ·)++rest):=by
 induction h with
 | last h=>
  rename_i p
  rintro(⟨rfl,rfl⟩|⟨h1,h2⟩)
  ·refine .last ?_
   rw[J7,h];simp
  ·refine .step ?_ h2
   rw[J7,h];simp[h1]
 | step h _ ih=>
  rename_i p q l _
  intro hr
  refine .step (q:=x::q) ?_ (ih ?_)
  ·rw[J7,h]
  ·rw[Db m _ _ _ h];exact hr
def c1q(m:Nat):List Int:=(List.range (m+1)).map fun(i:Nat)=>(i:Int)
def KM(m:Nat):Nat->List (List Int)
 | 0=>[[]]
 | n+1=>(c1q m).flatMap fun x=>(KM m n).map (x:: ·)
theorem Walk.from{m n:Nat}(h:Walk m (List.replicate n 0) (KM m n)): ∀ (d i:Nat),i+d=m->Walk m ((i:Int)::List.replicate n 0) (((List.range' i (d+1)).map fun(i:Nat)=>(i:Int)).flatMap fun x=>(KM m n).map (x:: ·)):=by
 intro d
 induction d with
 | zero=>
  intro i hi
  have:=h.cons (x:=(i:Int)) (rest:=[]) (.inl ⟨by omega,rfl⟩)
  simpa using this
 | succ d ih=>
  intro i hi
  have h1:=ih (i+1) (by omega)
  have:=h.cons (x:=(i:Int)) (.inr ⟨by omega,by rw[List.length_replicate];exact_mod_cast h1⟩)
  rw[List.range'_succ,List.map_cons,List.flatMap_cons]
  exact this
theorem Dv(m:Nat): ∀ n,Walk m (List.replicate n 0) (KM m n):=by
 intro n
 induction n with
 | zero=>exact .last rfl
 | succ n ih=>
  have:=ih.from m 0 (by omega)
  rw[<- List.range_eq_range']at this
  exact_mod_cast this
theorem H6(m:Nat): ∀ n,(KM m n).length=(m+1) ^ n:=by
 intro n
 induction n with
 | zero=>rfl
 | succ n ih=>
  rw[KM,List.length_flatMap]
  simp only[List.length_map,ih,c1q]
  rw[List.map_const',List.sum_replicate_nat,List.length_map,List.length_range,Nat.pow_succ,Nat.mul_comm]
theorem F6{m:Nat}{x:Int}:x∈c1q m ↔ 0<=x∧x<=m:=by
 unfold c1q
 rw[List.mem_map]
 constructor
 ·rintro⟨i,hi,rfl⟩
  have:=List.mem_range.1 hi
  omega
 ·rintro⟨h1,h2⟩
  exact⟨x.toNat,List.mem_range.2 (by omega),by omega⟩
theorem Gn{m:Nat}: ∀ {n:Nat} {p:List Int},p∈KM m n ↔ p.length=n∧ ∀ x∈p,0<=x∧x<=m:=by
 intro n
 induction n with
 | zero=>
  intro p
  simp only[KM,List.mem_singleton,List.length_eq_zero_iff]
  exact⟨fun h=>⟨h,by simp[h]⟩,fun h=>h.1⟩
 | succ n ih=>
  intro p
  simp only[KM,List.mem_flatMap,List.mem_map]
  constructor
  ·rintro⟨x,hx,q,hq,rfl⟩
   obtain⟨h1,h2⟩:=ih.1 hq
   refine⟨by simp[h1],?_⟩
   intro y hy
   rcases List.mem_cons.1 hy with rfl|hy
   ·exact F6.1 hx
   ·exact h2 y hy
  ·rintro⟨h1,h2⟩
   cases p with
   | nil=>simp at h1
   | cons x q=>
    exact⟨x,F6.2 (h2 x (by simp)),q,ih.2 ⟨by simpa using h1,fun y hy=>h2 y (by simp[hy])⟩,rfl⟩
def Ky(x:List Int×List Coef):List PV:=[enc x.1,enc x.2]
def Qf:List (List PV)->Bool
 | [[v,.int .i64 m],[f]]=>VG (List Str) v&&VG (List Fact) f&&YI ⟨dec v,m⟩&&Zk (dec f)&&decide ((dec v:List Str).length<=1000)
 | _=>false
def D7:List (List PV)->List (List Int×List Coef)
 | [[v,.int .i64 m],[f]]=>(ZR ⟨dec v,m⟩ (dec f)).map fun p=>(p,Ze (dec v) p)
 | _=>[]
theorem b2m(m:Nat): ∀ (l:List Str) (n r:Int),0<=n->JQ m l n=some r->r=n*((m:Int)+1) ^ l.length:=by
 intro l
 induction l with
 | nil=>intro n r _ h;simp only[JQ,Option.some.injEq]at h;simp[h]
 | cons s l ih=>
  intro n r hn h
  rw[JQ]at h
  split at h
  ·cases h
  ·rw[ih _ _ (Int.mul_nonneg hn (by omega)) h,List.length_cons,Int.pow_succ,Int.mul_assoc,Int.mul_comm ((m:Int)+1)]
theorem c0v(m:Nat): ∀ (l:List Str) (n r:Int),n<=20000->JQ m l n=some r->r<=20000:=by
 intro l
 induction l with
 | nil=>intro n r hn h;simp only[JQ,Option.some.injEq]at h;omega
 | cons s l ih=>
  intro n r hn h
  rw[JQ]at h
  split at h
  ·cases h
  ·exact ih _ _ (by omega) h
theorem Us{b:BoxT}:YI b=true ↔ b.v.all ZE=true∧b.v.Nodup∧(b.v=[]∨b.m<20000)∧0<=b.m∧(JQ b.m b.v 1).isSome=true:=by
 unfold YI
 simp only[Bool.and_eq_true,decide_eq_true_eq,Bool.or_eq_true,List.isEmpty_iff]
 constructor
 ·rintro⟨⟨⟨⟨h1,h2⟩,h3⟩,h4⟩,h5⟩;exact⟨h1,h2,h3,h4,h5⟩
 ·rintro⟨h1,h2,h3,h4,h5⟩;exact⟨⟨⟨⟨h1,h2⟩,h3⟩,h4⟩,h5⟩
theorem CJ{b:BoxT}(h:YI b=true):(b.m.toNat+1) ^ b.v.length<=20000:=by
 obtain⟨_,_,_,h4,h5⟩:=Us.1 h
 obtain⟨r,hr⟩:=Option.isSome_iff_exists.1 h5
 have e:b.m=(b.m.toNat:Int):=by omega
 rw[e]at hr
 have h1:=b2m _ _ _ _ (by decide) hr
 have h2:=c0v _ _ _ _ (by decide) hr
 rw[Int.one_mul]at h1
 have:(((b.m.toNat+1) ^ b.v.length:Nat):Int)=r:=by rw[h1];simp
 omega
theorem VL{b:BoxT}(h:YI b=true):c6p b=KM b.m.toNat b.v.length:=by
 obtain⟨_,_,_,h4,_⟩:=Us.1 h
 have hw:=Dv b.m.toNat b.v.length
 have hl:=H6 b.m.toNat b.v.length
 have:=CJ h
 have e:(b.m.toNat:Int)=b.m:=by omega
 rw[e]at hw
 have ez:We b.v=List.replicate b.v.length 0:=List.map_const' ..
 unfold c6p
 rw[ez]
 exact hw.walkP 20001 (by omega)
end Go.Pl

namespace Go.Pl
open Go.RowKit
open Enc (enc dec is)
open EncL (encL decL isL)
def Q8(l:Lin)(s:Str):Lin:=if Xt l.t s.s=0 then Vm l s 1 else l
def Ux(ls:List Lin):List Str:=Zd (ls.foldl (fun o l=>(Zd l).foldl Q8 o) ⟨0,[]⟩)
def Vo(ls:List Lin):Bool:=decide (ls.length<=1000)&&ls.all fun l=>decide (l.t.length<=1000)
def a2n(m:Int):List Str->Int->Int
 | [],n=>n
 | _::r,n=>a2n m r (n*(m+1))
def Qj(b:BoxT)(fs:List Fact):Bool:=decide (b.v.length<=5)&&decide ((if YI b then a2n b.m b.v 1 else 1)<=300)&&decide (fs.length<=6)&&Cj fs 6
def Qo:List Str->List Str->Int
 | [],b=> -(b.length:Int)
 | a,[]=>(a.length:Int)
 | x::a,y::b=>if x.s<y.s then -1 else if y.s<x.s then 1 else Qo a b
def H9:List Str->Bool
 | x::y::r=> !decide (y.s<x.s)&&H9 (y::r)
 | _=>true
def Ve(m:Mono):Bool:=decide (m.c≠0)&&decide (-1099511627776<=m.c)&&decide (m.c<=1099511627776)&&decide (m.v.length<=8)&&H9 m.v&&m.v.all ZE
def a7v:List Mono->Bool
 | x::y::r=>decide (Qo x.v y.v<0)&&a7v (y::r)
 | _=>true
def ZI(p:List Mono):Bool:=decide (p.length<=60)&&p.all Ve&&a7v p
def GD(l:List Str)(s:Str):List Str:=match l with
 | []=>[s]
 | t::r=>if t.s<s.s then t::GD r s else if t=s then t::r else s::t::r
def Vf(p:List Mono):List Str:=if ZI p then(p.flatMap (·.v)).foldl GD []else []
def Xg(p:List Mono):Bool:=decide (p=[])
end Go.Pl

namespace Go.Pl
open Go.RowKit
open Enc (enc dec is)
open EncL (encL decL isL)
def Td(x y:Str):Int:=if x.s<y.s then -1 else if y.s<x.s then 1 else 0
def Du:List Str->List Str->Int
 | [],[]=>0
 | [],_::_=> -1
 | _::_,[]=>1
 | x::a,y::b=>if x.s<y.s then -1 else if y.s<x.s then 1 else Du a b
def Yb(p:List Mono):Bool:=Zn p&&p.all fun m=>WC m.v
def XO(p:List Mono):List Str:=p.flatMap (·.v)
def Xr(p:List Mono):List (List UInt8):=WA ((XO p).map (·.s))
def Yz(p:List Mono):List Str:=(Lib.compact (Xr p)).map Str.mk
def Ul(p:PV):List Mono:=dec p
def Qi:List AV->List AObj->Bool
 | [.pv a],[]=>VG (List Mono) a&&Yb (dec a)&&ZI (dec a)&& !(XO (dec a)).isEmpty
 | _,_=>false
def Pb:List AV->List AObj->AV×List AObj×List AObj
 | [.pv a],_=>(.row 0 (Xr (Ul a)).length 0 (Lib.compact (Xr (Ul a))).length,[],[.row false 9 1 ((VH (Xr (Ul a))).map .str)])
 | _,_=>Vr
def PZ:List AV->List AObj->AV×List AObj×List AObj
 | [.pv a],_=>KZ (Yz (Ul a))
 | _,_=>Vr
def Ja:List AV->List AObj->Bool
 | [.pv a],[]=>VG (List Mono) a&&Yb (dec a)&&(!ZI (dec a)||(XO (dec a)).isEmpty)
 | _,_=>false
def CW:List AV->List AObj->AV×List AObj×List AObj:=fun _ _=>(.pv (.sl 0 true []),[],[])
def Be(a b:Int):Int×Int:=if Qc a&&Qc b&&Qc (a*b)then(a*b,0)else(0,2)
def VN(l:List Int):Int×Int:=if l.all Qc&&Qc l.sum then(l.sum,0)else(0,2)
def a2q:Int->List Int->Int×Int
 | o,[]=>(o,0)
 | o,n::r=>if (Be o n).2≠0 then(0,(Be o n).2)else a2q (Be o n).1 r
def Xf(l:List Int):Int×Int:=if l.contains 0 then(0,0)else a2q 1 l
def La(vs:List Coef):List Str->Option (List Int)
 | []=>some []
 | s::r=>match Qm vs s with
  | none=>none
  | some x=>(La vs r).map (x:: ·)
def Eh(vs:List Coef):List Mono->Option (List (List Int))
 | []=>some []
 | m::r=>match La vs m.v with
  | none=>none
  | some l=>(Eh vs r).map ((m.c::l):: ·)
def YC:List (List Int)->Option (List Int)
 | []=>some []
 | l::r=>if (Xf l).2≠0 then none else(YC r).map ((Xf l).1:: ·)
def Bq(fs:List (List Int)):Bool:=fs.any fun l=>l.tail.any fun x=> !Qc x
def Y0(p:List Mono)(vs:List Coef):Int×Int:=
 if ZI p then(match Eh vs p with
  | none=>(0,7)
  | some fs=>if Bq fs then(0,2)else match YC fs with
   | none=>(0,2)
   | some l=>VN l)
 else(0,1)
def GI:List AV->List AObj->Bool
 | [.pv x,.ptr 0 0],[.box [.pv (.str v)]]=>VG Coef x
 | _,_=>false
def CY:List AV->List AObj->AV×List AObj×List AObj
 | [.pv x,_],[.box [.pv (.str v)]]=>(.pv (.bool ((dec x:Coef).v.s==v)),[.box [.pv (.str v)]],[])
 | _,_=>Vr
def Ue(g:Nat):List AV->List AObj->Bool
 | [.pv l,.fn g' [] [.ptr 0 0]],[.box [.pv (.str v)]]=>g'==g&&VG (List Coef) l&&decide ((dec l:List Coef).length<=9223372036854775807)
 | _,_=>false
def Kt(p:PV):List Coef:=dec p
def Cw:List AV->List AObj->AV×List AObj×List AObj
 | [.pv l,_],[.box [.pv (.str v)]]=>(.pv (.int .i64 (Zz (fun t:Coef=>t.v.s==v) (Kt l))),[.box [.pv (.str v)]],[])
 | _,_=>Vr
def WE(n:Int):Int:=n / 2147483648
def X6(n:Int):Int:=n % 2147483648
def Uy:List AV->List AObj->Bool
 | [.pv (.int .i64 n),.ptr 0 0,.ptr 1 0],[.box [.pv (.sl 0 true [])],.box [.pv (.sl 0 true [])]]=>true
 | [.pv (.int .i64 n),.ptr 0 0,.ptr 1 0],[.box [.row 2 q 0 q'],.box [.row 3 r 0 r'],.row false ty 1 xs,.row false ty' 1 ys]=>q'==q&&r'==r&&r==q&&ty==3&&ty'==3&&xs.length==q&&ys.length==q&&decide (q<=1000000)
 | _,_=>false
def Qn:List AV->List AObj->AV×List AObj×List AObj
 | [.pv (.int .i64 n),_,_],[.box [.pv (.sl 0 true [])],.box [.pv (.sl 0 true [])]]=>(.tup [],[.box [.row 2 1 0 1],.box [.row 3 1 0 1]],[.row false 3 1 [.int .i64 (WE n)],.row false 3 1 [.int .i64 (X6 n)]])
 | [.pv (.int .i64 n),_,_],[.box [.row 2 q 0 _],.box [.row 3 _ 0 _],.row _ _ _ xs,.row _ _ _ ys]=>(.tup [],[.box [.row 2 (q+1) 0 (q+1)],.box [.row 3 (q+1) 0 (q+1)],.row false 3 1 (xs++[.int .i64 (WE n)]),.row false 3 1 (ys++[.int .i64 (X6 n)])],[])
 | _,_=>Vr
def O7:List Int->List Int->Int
 | x::a,y::b=>x*y+O7 a b
 | _,_=>0
def Dp(a b:List Int):Int×Int:=if a.length=b.length then(if a.all Qc&&b.all Qc&&Qc (O7 a b)then(O7 a b,0)else(0,2))else(0,1)
def Um(p:List Mono)(vs:List Str):List (List Int)->Option (List Int)
 | []=>some []
 | q::r=>if (Y0 p (Ze vs q)).2≠0 then none else(Um p vs r).map ((Y0 p (Ze vs q)).1:: ·)
def J3(b:BoxT)(fs:List Fact)(p:List Mono):Bool:=ZG b&&Zk fs&&decide (fs.length<=100)&&decide (b.v.length<=1000)&&Yb p
def WG(b:BoxT)(fs:List Fact)(p:List Mono):Int×Int:=
 if Zp b fs (ZI p) (Yz p)=0 then(match Um p b.v (ZR b fs)with|none=>(0,2)|some l=>VN l)else(0,Zp b fs (ZI p) (Yz p))
end Go.Pl

namespace Go.Pl
open Go.RowKit
open Enc (enc dec is)
open EncL (encL decL isL)
theorem b5y: ∀ args os,Xc args os=true->Zc E5 os.length (Zo os.length Nj fun r=>r=WP args os) Nc [] (YK c1f args os):=by
 intro args os h
 unfold Xc at h
 split at h
 ·rename_i v m f
  simp only[Bool.and_eq_true]at h
  obtain⟨h1,h2⟩:=h
  obtain⟨vs,rfl⟩:=Yr h1
  obtain⟨fs,rfl⟩:=Yr h2
  exact c7p ⟨vs,m⟩ fs rfl
 ·cases h
theorem Ui(b:BoxT)(fs:List Fact)(ok:Bool)(ns:List Str)(h:Zp b fs ok ns=0):YI b=true∧Yq fs=true∧ok=true∧YG b.v (ns++fs.flatMap fun f=>Zd f.l)=true:=by
 unfold Zp at h
 split at h
 ·cases h
 ·rename_i h1
  simp only[Bool.or_eq_true,Bool.not_eq_true',not_or,Bool.not_eq_false]at h1
  split at h
  ·rename_i h2
   exact⟨h1.1.1,h1.1.2,h1.2,h2⟩
  ·cases h
theorem a1k{b:BoxT}{fs:List Fact}(h:YI b=true):(ZR b fs).length<=20000:=by
 unfold ZR
 refine Nat.le_trans (List.length_filter_le _ _) ?_
 rw[VL h,H6]
 exact CJ h
def gpI(b:BoxT)(fs:List Fact)(k:Nat)(σ:Zv):Prop:=
 (k=0∧σ=[.obj (.box [.pv (.sl 0 true [])])])∨(k≠0∧k<=(ZR b fs).length∧σ=[.obj (.box [.row 1 k 0 k]),.obj (.row false 34 1 (((ZR b fs).take k).map enc))])
def gpE:YB:=fun n st q=>n=0∧Dl JD 0 (.t 17) 177 [18,19] [(8,18)] Qk Ky Qf D7 st q
theorem Tf(b:BoxT)(fs:List Fact):D7 [[enc b.v,.int .i64 b.m],[enc fs]]=(ZR b fs).map fun p=>(p,Ze b.v p):=by
 show((ZR ⟨dec (enc b.v:PV),b.m⟩ (dec (enc fs:PV))).map fun p=>(p,Ze (dec (enc b.v:PV)) p))=_
 rw[Enc.dec_enc,Enc.dec_enc]
theorem Bi{b:BoxT}{fs:List Fact}(hb:YI b=true)(hf:Zk fs=true)(hl:b.v.length<=1000):Qf [[enc b.v,.int .i64 b.m],[enc fs]]=true:=by
 show(VG (List Str) (enc b.v)&&VG (List Fact) (enc fs)&&YI ⟨dec (enc b.v:PV),b.m⟩&&Zk (dec (enc fs:PV))&&decide ((dec (enc b.v:PV):List Str).length<=1000))=true
 rw[ZY,ZY,Enc.dec_enc,Enc.dec_enc,hf,decide_eq_true hl]
 simp[hb]
theorem b5v(b:BoxT)(fs:List Fact)(hv:YI b=true)(k:Nat)(p:List Int)(vs:List Coef)(σ:Zv)(hp:(ZR b fs)[k]? = some p)(h:gpI b fs k σ):
  ZB JD (fun n S' _=>n=99∧gpI b fs (k+1) S'.heap) σ.length (fun st=>False) (.inl Qk) [.seq (.ext 99 [])] ⟨ZU 25 0 [(7,.ptr 0 0),(8,.pv (enc p)),(18,.pv (enc p)),(19,.pv (enc vs))],σ⟩:=by
 have hk:=(List.getElem?_eq_some_iff.1 hp).1
 have hkp:=(List.getElem?_eq_some_iff.1 hp).2
 have hl:=a1k (fs:=fs) hv
 rcases h with ⟨rfl,rfl⟩|⟨hne,hk',rfl⟩
 ·refine b9n (G:=fun _=>False) _ p vs ⟨rfl,.inr ⟨by simp,by omega,?_⟩⟩
  have e:(ZR b fs).take (0+1)=[p]:=by rw[List.take_succ_eq_append_getElem hk,hkp];rfl
  rw[e]
  rfl
 ·have e:(ZR b fs).take (k+1)=(ZR b fs).take k++[p]:=by rw[List.take_succ_eq_append_getElem hk,hkp]
  have el:((ZR b fs).take k).length=k:=by rw[List.length_take];omega
  refine b8f (G:=fun _=>False) _ p vs k ((ZR b fs).take k) ⟨?_,rfl,.inr ⟨by omega,by omega,?_⟩⟩
  ·rw[List.length_map,el]
   show((k==k)&&(k==k)&&decide ((k+1)*24<=1099511627776)&&decide (k+1<=1099511627776))=true
   rw[decide_eq_true (by omega),decide_eq_true (by omega)];simp
  ·rw[e,List.map_append]
   rfl
theorem b7z: ∀ x:BoxT×List Fact×Unit,(ZG x.1&&Zk x.2.1&&decide (x.2.1.length<=100)&&decide (x.1.v.length<=1000))=true->Kw JD gpE 0 (Za Dk (Zg (Z0 x.1 x.2.1))) Dz [] (Ye c4p (encL x)):=by
 rintro⟨b,fs,⟨⟩⟩ hp
 simp only[Bool.and_eq_true,decide_eq_true_eq]at hp
 obtain⟨⟨⟨h1,h2⟩,h3⟩,h4⟩:=hp
 refine c8y gpE b fs ⟨Zj (b,fs,true,⟨⟩,()) rfl (by simp[h1,h2,h3]),Zh (b,fs,true,⟨⟩,()) rfl ?_⟩
 show if (Zp b fs true [] != 0)=true then _ else _
 by_cases h0:Zp b fs true []=0
 ·rw[if_neg (by simp[h0])]
  obtain⟨hv,_⟩:=Ui b fs true [] h0
  have hpt:Z0 b fs=(ZR b fs,0):=by unfold Z0;rw[if_pos h0]
  rw[hpt]
  refine⟨?_,rfl,[1,2],[[enc b.v,.int .i64 b.m],[enc fs]],[7],[],⟨ZU 25 0 [(7,.ptr 0 0)],[.obj (.box [.pv (.sl 0 true [])])]⟩,gpI b fs,fun _=>False,rfl,by simp,rfl,?_,by kernel_rfl,Bi hv h2 h4,.inl ⟨rfl,rfl⟩,?_,?_,fun σ h=>h.elim⟩
  ·show(VG (List Str) (enc b.v)&&VG (List Fact) (enc fs))=true
   rw[ZY,ZY];rfl
  ·intro j l ps hl hps
   match j with
   | 0=>cases hl;cases hps;rfl
   | 1=>cases hl;cases hps;rfl
   | j+2=>simp at hl
  ·intro k x σ hx hI
   rw[Tf,List.getElem?_map]at hx
   obtain⟨p,hp,rfl⟩:=Option.map_eq_some_iff.1 hx
   have e:Te [(8,18)] (Cq [18,19] ((Ky (p,Ze b.v p)).map .pv) (ZU 25 0 [(7,.ptr 0 0)]))=ZU 25 0 [(7,.ptr 0 0),(8,.pv (enc p)),(18,.pv (enc p)),(19,.pv (enc (Ze b.v p)))]:=by kernel_rfl
   have:=b5v b fs hv k p (Ze b.v p) σ hp hI
   rw[<- e]at this
   exact this
  ·intro σ hI
   rw[Tf,List.length_map]at hI
   rcases hI with ⟨e,rfl⟩|⟨e,_,rfl⟩
   ·refine c1l gpE b fs ?_
    rw[List.length_eq_zero_iff.1 e]
    exact⟨rfl,rfl⟩
   ·refine c2t gpE b fs (ZR b fs).length ((ZR b fs).take (ZR b fs).length) ⟨by simp,?_⟩
    rw[List.take_length,List.drop_zero,List.take_of_length_le (by simp)]
    exact ZQ (x:=((ZR b fs),(0:Int))) rfl
 ·rw[if_pos (by simpa using h0)]
  have hpt:Z0 b fs=([],Zp b fs true []):=by unfold Z0;rw[if_neg h0]
  rw[hpt]
  exact⟨rfl,rfl⟩
theorem EH: ∀ x:BoxT×List Fact×Unit,(ZG x.1&&Zk x.2.1&&decide (x.2.1.length<=100)&&decide (x.1.v.length<=1000))=true->Zc Sj 0 (Za Dq (Zg (KN x.1 x.2.1))) G7 [] (Ye a4n (encL x)):=by
 rintro⟨b,fs,⟨⟩⟩ hp
 refine a8u b fs ⟨Zj (b,fs,()) rfl hp,Zh (b,fs,()) rfl ?_⟩
 rw[List.length_map]
 exact ZQ (x:=((((Z0 b fs).1.length:Nat):Int),(Z0 b fs).2)) rfl
end Go.Pl

namespace Go.Pl
open Go.RowKit
open Enc (enc dec is)
open EncL (encL decL isL)
set_option maxRecDepth 100000
def VQ:IC:=(.seq (.reg [⟨(some 1),(.box 2 (.t 0)),0,none⟩,⟨(some 2),(.mv (.c (.bool false))),1,none⟩] none) (.seq (.reg [⟨(some 3),(.mv (.c (.int .i64 1))),0,none⟩] none) (.seq (.seq (.reg [⟨(some 4),(.mv (.c (.int .i64 0))),0,none⟩] none) (.block 0 (.loop [4,1,3] (.seq (.seq (.reg [⟨(some 6),(.mv (.t 4)),0,none⟩,⟨(some 7),(.faddr 0 (.t 1)),0,none⟩,⟨(some 8),(.load false [(.sl 1)] (.t 7)),0,none⟩,⟨(some 9),(.len 1 (.t 8)),0,none⟩,⟨(some 10),(.bin .num .lss (.t 6) (.t 9)),0,none⟩] none) (.cond (.t 10) .skip (.exit 0))) (.seq (.block 1 (.seq (.seq (.reg [⟨(some 13),(.faddr 0 (.t 1)),0,none⟩,⟨(some 14),(.load false [(.sl 1)] (.t 13)),0,none⟩,⟨(some 15),(.mv (.t 4)),0,none⟩,⟨(some 16),(.iaddr 1 (.t 14) (.t 15)),0,none⟩,⟨(some 17),(.load false [.str] (.t 16)),0,none⟩,⟨(some 18),(.call (.c (.fn 84)) [(.t 17)]),0,none⟩,⟨(some 19),(.un .not (.t 18)),2,none⟩,⟨(some 20),(.mv (.t 19)),2,none⟩,⟨(some 21),(.faddr 1 (.t 1)),2,(some (20,false))⟩,⟨(some 22),(.load false [(.int .i64)] (.t 21)),2,(some (20,false))⟩,⟨(some 23),(.bin .num .geq (.t 22) (.c (.int .i64 20000))),2,(some (20,false))⟩,⟨(some 24),(.pick (.t 20) (.c (.bool true)) (.t 23)),2,none⟩] none) (.cond (.t 24) (.seq (.reg [⟨(some 2),(.mv (.c (.bool false))),0,none⟩] none) .ret) .skip)) (.seq (.seq (.reg [⟨(some 5),(.mv (.c (.int .i64 0))),0,none⟩] none) (.block 2 (.loop [5,4,1,3] (.seq (.seq (.reg [⟨(some 25),(.mv (.t 5)),0,none⟩,⟨(some 26),(.mv (.t 4)),0,none⟩,⟨(some 27),(.bin .num .lss (.t 25) (.t 26)),0,none⟩] none) (.cond (.t 27) .skip (.exit 2))) (.seq (.block 3 (.seq (.reg [⟨(some 30),(.faddr 0 (.t 1)),0,none⟩,⟨(some 31),(.load false [(.sl 1)] (.t 30)),0,none⟩,⟨(some 32),(.mv (.t 5)),0,none⟩,⟨(some 33),(.iaddr 1 (.t 31) (.t 32)),0,none⟩,⟨(some 34),(.load false [.str] (.t 33)),0,none⟩,⟨(some 35),(.faddr 0 (.t 1)),0,none⟩,⟨(some 36),(.load false [(.sl 1)] (.t 35)),0,none⟩,⟨(some 37),(.mv (.t 4)),0,none⟩,⟨(some 38),(.iaddr 1 (.t 36) (.t 37)),0,none⟩,⟨(some 39),(.load false [.str] (.t 38)),0,none⟩,⟨(some 40),(.bin .num .eql (.t 34) (.t 39)),0,none⟩] (some [[],[0],[],[1,2,0],[3,1,2,0],[],[5],[],[6,7,5],[8,6,7,5],[4,9,3,1,2,0,8,6,7,5]])) (.cond (.t 40) (.seq (.reg [⟨(some 2),(.mv (.c (.bool false))),0,none⟩] none) .ret) .skip))) (.reg [⟨(some 28),(.mv (.t 5)),0,none⟩,⟨(some 29),(.bin .num .add (.t 28) (.c (.int .i64 1))),0,none⟩,⟨(some 5),(.mv (.t 29)),0,none⟩] none)))))) (.seq (.reg [⟨(some 41),(.mv (.t 3)),0,none⟩,⟨(some 42),(.bin .num .leq (.t 41) (.c (.int .i64 20000))),0,none⟩] none) (.cond (.t 42) (.reg [⟨(some 43),(.mv (.t 3)),0,none⟩,⟨(some 44),(.faddr 1 (.t 1)),0,none⟩,⟨(some 45),(.load false [(.int .i64)] (.t 44)),0,none⟩,⟨(some 46),(.bin .num .add (.t 45) (.c (.int .i64 1))),0,none⟩,⟨(some 47),(.bin .num .mul (.t 43) (.t 46)),0,none⟩,⟨(some 3),(.mv (.t 47)),0,none⟩] none) .skip))))) (.reg [⟨(some 11),(.mv (.t 4)),0,none⟩,⟨(some 12),(.bin .num .add (.t 11) (.c (.int .i64 1))),0,none⟩,⟨(some 4),(.mv (.t 12)),0,none⟩] none)))))) (.seq (.reg [⟨(some 48),(.faddr 1 (.t 1)),0,none⟩,⟨(some 49),(.load false [(.int .i64)] (.t 48)),0,none⟩,⟨(some 50),(.bin .num .geq (.t 49) (.c (.int .i64 0))),0,none⟩,⟨(some 51),(.mv (.t 50)),0,none⟩,⟨(some 52),(.mv (.t 3)),0,(some (51,true))⟩,⟨(some 53),(.bin .num .leq (.t 52) (.c (.int .i64 20000))),0,(some (51,true))⟩,⟨(some 54),(.pick (.t 51) (.t 53) (.c (.bool false))),0,none⟩,⟨(some 2),(.mv (.t 54)),0,none⟩] none) .ret))))
def V4:List IRes:=[(.tmp 2)]
abbrev c6n:Nat:=55
def QK:ZF:=Xe [(84,.pure (preT (fun _:Str×Unit=>true)) (Zf (fun x:Str×Unit=>ZE x.1)))]
theorem c9v{G:PV->Prop}(b:BoxT)(h:At QK 0 (Za V4 G) VQ 0 55 [(1,(.ptr 0 0)),(3,(.pv (.int .i64 1))),(4,(.pv (.int .i64 0)))] [(.obj (.box [(.pv (.sl 1 false (List.map enc b.v))),(.pv (.int .i64 b.m))]))]):Zc QK 0 (Za V4 G) VQ [] (Ye 55 [enc b]):=Zc.tp (.nil) h (by kernel_rfl)
theorem b6j{G:PV->Prop}(b:BoxT)(n i:Int)(h:if (decide (i<(↑(List.length (List.map enc b.v)):Int)))=true then(decide (0<=i)&&decide (Int.toNat i<List.length (List.map enc b.v))&&Enc.sz Str==1)=true∧(∃ y0:Str,AV.pv (PV.rptr (PV.cells (List.getD (List.map enc b.v) (Int.toNat i) default)))=AV.pv (PV.rptr (PV.cells ((enc) y0)))∧(∃ y1:Bool,AV.pv (Zf (fun(x:Str×Unit)=>ZE x.1) [(.str (PV.asStr (List.getD (PV.cells (enc y0)) 0 default)))])=AV.pv (enc y1)∧(if (!y1)=true then G ((.bool false))else(if (decide (BoxT.m b ≥ 20000))=true then G ((.bool false))else(At QK 0 (Za V4 G) VQ 1 55 [(1,(.ptr 0 0)),(3,(.pv (.int .i64 n))),(4,(.pv (.int .i64 i))),(5,(.pv (.int .i64 0)))] [(.obj (.box [(.pv (.sl 1 false (List.map enc b.v))),(.pv (.int .i64 b.m))]))])))))else(if (decide (BoxT.m b ≥ 0))=true then G ((.bool (decide (n<=20000))))else(G ((.bool false))))):At QK 0 (Za V4 G) VQ 0 55 [(1,.ptr 0 0),(3,.pv (.int .i64 n)),(4,.pv (.int .i64 i))] [.obj (.box [.pv (enc b.v),.pv (.int .i64 b.m)])]:=At.tp (.lit (.ask (.req (.abs (Str) (fun YY=>AV.pv (PV.rptr (PV.cells ((enc) YY)))) (.lit (.lit (.abs (Bool) (fun YY=>AV.pv (enc YY)) (.ask (.lit (.lit (.lit (.lit (.nil))))) (.lit (.lit (.lit (.lit (.ask (.nil) (.nil)))))))))))) (.lit (.ask (.lit (.lit (.lit (.nil)))) (.lit (.lit (.nil))))))) h (by kernel_rfl)
theorem b1r{G:PV->Prop}(b:BoxT)(n i k:Int)(h:if (decide (k<i))=true then(decide (0<=k)&&decide (Int.toNat k<List.length (List.map enc b.v))&&Enc.sz Str==1)=true∧(∃ y0:Str,AV.pv (PV.rptr (PV.cells (List.getD (List.map enc b.v) (Int.toNat k) default)))=AV.pv (PV.rptr (PV.cells ((enc) y0)))∧((decide (0<=i)&&decide (Int.toNat i<List.length (List.map enc b.v))&&Enc.sz Str==1)=true∧(∃ y1:Str,AV.pv (PV.rptr (PV.cells (List.getD (List.map enc b.v) (Int.toNat i) default)))=AV.pv (PV.rptr (PV.cells ((enc) y1)))∧(if (PV.asStr (List.getD (PV.cells (enc y0)) 0 default)==PV.asStr (List.getD (PV.cells (enc y1)) 0 default))=true then G ((.bool false))else(At QK 0 (Za V4 G) VQ 1 55 [(1,(.ptr 0 0)),(3,(.pv (.int .i64 n))),(4,(.pv (.int .i64 i))),(5,(.pv (.int .i64 (IntKind.wrap IntKind.i64 (k+1)))))] [(.obj (.box [(.pv (.sl 1 false (List.map enc b.v))),(.pv (.int .i64 b.m))]))])))))else(if (decide (n<=20000))=true then At QK 0 (Za V4 G) VQ 0 55 [(1,(.ptr 0 0)),(3,(.pv (.int .i64 (IntKind.wrap IntKind.i64 (n*IntKind.wrap IntKind.i64 (BoxT.m b+1)))))),(4,(.pv (.int .i64 (IntKind.wrap IntKind.i64 (i+1)))))] [(.obj (.box [(.pv (.sl 1 false (List.map enc b.v))),(.pv (.int .i64 b.m))]))]else(At QK 0 (Za V4 G) VQ 0 55 [(1,(.ptr 0 0)),(3,(.pv (.int .i64 n))),(4,(.pv (.int .i64 (IntKind.wrap IntKind.i64 (i+1)))))] [(.obj (.box [(.pv (.sl 1 false (List.map enc b.v))),(.pv (.int .i64 b.m))]))]))):At QK 0 (Za V4 G) VQ 1 55 [(1,.ptr 0 0),(3,.pv (.int .i64 n)),(4,.pv (.int .i64 i)),(5,.pv (.int .i64 k))] [.obj (.box [.pv (enc b.v),.pv (.int .i64 b.m)])]:=At.tp (.lit (.ask (.req (.abs (Str) (fun YY=>AV.pv (PV.rptr (PV.cells ((enc) YY)))) (.lit (.req (.abs (Str) (fun YY=>AV.pv (PV.rptr (PV.cells ((enc) YY)))) (.lit (.lit (.ask (.nil) (.lit (.nil)))))))))) (.lit (.ask (.lit (.lit (.lit (.nil)))) (.lit (.nil)))))) h (by kernel_rfl)
def Yl:IC:=(.seq (.reg [⟨(some 2),(.box 2 (.t 0)),0,none⟩,⟨(some 4),(.mv (.c (.sl 0 true []))),1,none⟩] none) (.seq (.reg [⟨(some 5),(.mv (.c (.sl 0 true []))),0,none⟩] none) (.seq (.seq (.reg [⟨(some 6),(.mv (.c (.int .i64 0))),0,none⟩] none) (.block 0 (.loop [6,2,1,5] (.seq (.seq (.reg [⟨(some 7),(.mv (.t 6)),0,none⟩,⟨(some 8),(.faddr 0 (.t 2)),0,none⟩,⟨(some 9),(.load false [(.sl 1)] (.t 8)),0,none⟩,⟨(some 10),(.len 1 (.t 9)),0,none⟩,⟨(some 11),(.bin .num .lss (.t 7) (.t 10)),0,none⟩,⟨(some 12),(.mv (.t 11)),0,none⟩,⟨(some 13),(.mv (.t 6)),0,(some (12,true))⟩,⟨(some 14),(.mv (.t 1)),0,(some (12,true))⟩,⟨(some 15),(.len 1 (.t 14)),0,(some (12,true))⟩,⟨(some 16),(.bin .num .lss (.t 13) (.t 15)),0,(some (12,true))⟩,⟨(some 17),(.pick (.t 12) (.t 16) (.c (.bool false))),0,none⟩] none) (.cond (.t 17) .skip (.exit 0))) (.seq (.block 1 (.reg [⟨(some 20),(.mv (.t 5)),0,none⟩,⟨(some 21),(.faddr 0 (.t 2)),0,none⟩,⟨(some 22),(.load false [(.sl 1)] (.t 21)),0,none⟩,⟨(some 23),(.mv (.t 6)),0,none⟩,⟨(some 24),(.iaddr 1 (.t 22) (.t 23)),0,none⟩,⟨(some 25),(.load false [.str] (.t 24)),0,none⟩,⟨(some 26),(.mv (.t 1)),0,none⟩,⟨(some 27),(.mv (.t 6)),0,none⟩,⟨(some 28),(.iaddr 1 (.t 26) (.t 27)),0,none⟩,⟨(some 29),(.load false [(.int .i64)] (.t 28)),0,none⟩,⟨(some 30),(.build [(.str []),(.int .i64 0)] [(0,(1,(.t 25))),(1,(1,(.t 29)))]),0,none⟩,⟨(some 31),(.bslice 63 2 1 (.agg [(.str []),(.int .i64 0)]) [(0,(.t 30))]),0,none⟩,⟨(some 32),(.append 63 2 24 (.t 20) (.t 31)),1,none⟩,⟨(some 5),(.mv (.t 32)),2,none⟩] (some [[],[],[1],[],[2,3,1],[4,2,3,1],[],[],[6,7],[8,6,7],[5,9,4,2,3,1,8,6,7],[10,5,9,4,2,3,1,8,6,7],[0,11,10,5,9,4,2,3,1,8,6,7],[12,0,1,2,3,4,5,6,7,8,9,10,11]]))) (.reg [⟨(some 18),(.mv (.t 6)),0,none⟩,⟨(some 19),(.bin .num .add (.t 18) (.c (.int .i64 1))),0,none⟩,⟨(some 6),(.mv (.t 19)),0,none⟩] none)))))) (.seq (.reg [⟨(some 33),(.mv (.t 5)),0,none⟩,⟨(some 4),(.mv (.t 33)),0,none⟩] none) .ret))))
def Yn:List IRes:=[(.tmp 4)]
abbrev Ru:Nat:=34
def YF:ZF:=Xe []
theorem b2g{G:PV->Prop}(b:BoxT)(p:List Int)(h:At YF 0 (Za Yn G) Yl 0 34 [(1,(.pv (.sl 1 false (List.map enc p)))),(2,(.ptr 0 0)),(5,(.pv (.sl 0 true []))),(6,(.pv (.int .i64 0)))] [(.obj (.box [(.pv (.sl 1 false (List.map enc b.v))),(.pv (.int .i64 b.m))]))]):Zc YF 0 (Za Yn G) Yl [] (Ye 34 [enc b,enc p]):=Zc.tp (.nil) h (by kernel_rfl)
theorem JN{G:PV->Prop}(b:BoxT)(p:List Int)(i:Int)(h:if (decide (i<(↑(List.length (List.map enc b.v)):Int)))=true then if (decide (i<(↑(List.length (List.map enc p)):Int)))=true then(decide (0<=i)&&decide (Int.toNat i<List.length (List.map enc b.v))&&Enc.sz Str==1)=true∧(∃ y0:Str,AV.pv (PV.rptr (PV.cells (List.getD (List.map enc b.v) (Int.toNat i) default)))=AV.pv (PV.rptr (PV.cells ((enc) y0)))∧((decide (0<=i)&&decide (Int.toNat i<List.length (List.map enc p))&&Enc.sz Int==1)=true∧(∃ y1:Int,AV.pv (PV.rptr (PV.cells (List.getD (List.map enc p) (Int.toNat i) default)))=AV.pv (PV.rptr (PV.cells ((enc) y1)))∧(At YF 0 (Za Yn G) Yl 0 34 [(1,(.pv (.sl 1 false (List.map enc p)))),(2,(.ptr 0 0)),(5,(.row 1 1 0 1)),(6,(.pv (.int .i64 (IntKind.wrap IntKind.i64 (i+1)))))] [(.obj (.box [(.pv (.sl 1 false (List.map enc b.v))),(.pv (.int .i64 b.m))])),(.obj (.row false 63 2 [(.agg [(.str (PV.asStr (List.getD (PV.cells (enc y0)) 0 default))),(.int .i64 (PV.asInt (List.getD (PV.cells (enc y1)) 0 default)))])]))]))))else(G ((.sl 0 true [])))else(G ((.sl 0 true [])))):At YF 0 (Za Yn G) Yl 0 34 [(1,.pv (enc p)),(2,.ptr 0 0),(5,.pv (.sl 0 true [])),(6,.pv (.int .i64 i))] [.obj (.box [.pv (enc b.v),.pv (.int .i64 b.m)])]:=At.tp (.lit (.ask (.lit (.lit (.lit (.lit (.lit (.ask (.req (.abs (Str) (fun YY=>AV.pv (PV.rptr (PV.cells ((enc) YY)))) (.lit (.req (.abs (Int) (fun YY=>AV.pv (PV.rptr (PV.cells ((enc) YY)))) (.lit (.lit (.lit (.lit (.lit (.lit (.lit (.nil))))))))))))) (.nil))))))) (.lit (.lit (.lit (.lit (.lit (.nil)))))))) h (by kernel_rfl)
theorem JS{G:PV->Prop}(b:BoxT)(p:List Int)(i:Int)(q:Nat)(vs:List Coef)(h:if (decide (i<(↑(List.length (List.map enc b.v)):Int)))=true then if (decide (i<(↑(List.length (List.map enc p)):Int)))=true then(decide (0<=i)&&decide (Int.toNat i<List.length (List.map enc b.v))&&Enc.sz Str==1)=true∧(∃ y0:Str,AV.pv (PV.rptr (PV.cells (List.getD (List.map enc b.v) (Int.toNat i) default)))=AV.pv (PV.rptr (PV.cells ((enc) y0)))∧((decide (0<=i)&&decide (Int.toNat i<List.length (List.map enc p))&&Enc.sz Int==1)=true∧(∃ y1:Int,AV.pv (PV.rptr (PV.cells (List.getD (List.map enc p) (Int.toNat i) default)))=AV.pv (PV.rptr (PV.cells ((enc) y1)))∧((List.length (List.map enc vs)==q&&q==q&&decide ((q+List.length (List.drop 0 (List.take 1 [PV.agg [Sh.co Sh.str (List.getD (PV.cells (enc y0)) 0 default),Sh.co (Sh.int .i64) (List.getD (PV.cells (enc y1)) 0 default)]])))*24<=1099511627776)&&decide (q+List.length (List.drop 0 (List.take 1 [PV.agg [Sh.co Sh.str (List.getD (PV.cells (enc y0)) 0 default),Sh.co (Sh.int .i64) (List.getD (PV.cells (enc y1)) 0 default)]]))<=1099511627776))=true∧(At YF 0 (Za Yn G) Yl 0 34 [(1,(.pv (.sl 1 false (List.map enc p)))),(2,(.ptr 0 0)),(5,(.row 1 (q+List.length (List.drop 0 (List.take 1 [PV.agg [Sh.co Sh.str (List.getD (PV.cells (enc y0)) 0 default),Sh.co (Sh.int .i64) (List.getD (PV.cells (enc y1)) 0 default)]]))) 0 (q+List.length (List.drop 0 (List.take 1 [PV.agg [Sh.co Sh.str (List.getD (PV.cells (enc y0)) 0 default),Sh.co (Sh.int .i64) (List.getD (PV.cells (enc y1)) 0 default)]]))))),(6,(.pv (.int .i64 (IntKind.wrap IntKind.i64 (i+1)))))] [(.obj (.box [(.pv (.sl 1 false (List.map enc b.v))),(.pv (.int .i64 b.m))])),(.obj (.row false 63 2 (List.map enc vs++List.drop 0 (List.take 1 [PV.agg [Sh.co Sh.str (List.getD (PV.cells (enc y0)) 0 default),Sh.co (Sh.int .i64) (List.getD (PV.cells (enc y1)) 0 default)]]))))])))))else((List.length (List.map enc vs)==q)=true∧(G ((.sl 2 false (List.drop 0 (List.take q (List.map enc vs)))))))else((List.length (List.map enc vs)==q)=true∧(G ((.sl 2 false (List.drop 0 (List.take q (List.map enc vs)))))))):At YF 0 (Za Yn G) Yl 0 34 [(1,.pv (enc p)),(2,.ptr 0 0),(5,.row 1 q 0 q),(6,.pv (.int .i64 i))] [.obj (.box [.pv (enc b.v),.pv (.int .i64 b.m)]),.obj (.row false 63 2 (vs.map enc))]:=At.tp (.lit (.ask (.lit (.lit (.lit (.lit (.lit (.ask (.req (.abs (Str) (fun YY=>AV.pv (PV.rptr (PV.cells ((enc) YY)))) (.lit (.req (.abs (Int) (fun YY=>AV.pv (PV.rptr (PV.cells ((enc) YY)))) (.lit (.lit (.lit (.req (.lit (.nil))))))))))) (.req (.nil)))))))) (.lit (.lit (.lit (.lit (.lit (.req (.nil))))))))) h (by kernel_rfl)
theorem a6h{G:AV×List AObj×List AObj->Prop}(b:BoxT)(m:Nat)(p:List Int)(h:At YF 1 (WF 1 Yn G) Yl 0 34 [(1,(.row 0 m 0 m)),(2,(.ptr 1 0)),(5,(.pv (.sl 0 true []))),(6,(.pv (.int .i64 0)))] [(.obj (.row false 3 1 (List.map enc p))),(.obj (.box [(.pv (.sl 1 false (List.map enc b.v))),(.pv (.int .i64 b.m))]))]):Zc YF 1 (WF 1 Yn G) Yl [] (YK 34 [.pv (enc b),.row 0 m 0 m] [.row false 3 1 (p.map enc)]):=Zc.tf (.nil) h (by kernel_rfl)
theorem KT{G:AV×List AObj×List AObj->Prop}(b:BoxT)(m:Nat)(p:List Int)(i:Int)(h:if (decide (i<(↑(List.length (List.map enc b.v)):Int)))=true then if (decide (i<(↑(m - 0):Int)))=true then(decide (0<=i)&&decide (Int.toNat i<List.length (List.map enc b.v))&&Enc.sz Str==1)=true∧(∃ y0:Str,AV.pv (PV.rptr (PV.cells (List.getD (List.map enc b.v) (Int.toNat i) default)))=AV.pv (PV.rptr (PV.cells ((enc) y0)))∧((decide (0<=i)&&decide (0+Int.toNat i<m)&&List.length (List.map enc p)==m)=true∧((List.length (List.map enc p)==m&&decide (0+Int.toNat i<List.length (List.map enc p)))=true∧((decide (0+List.length [Sh.int .i64]<=List.length (PV.cells (List.getD (List.map enc p) (0+Int.toNat i) default)))&&Xa (PV.cells (List.getD (List.map enc p) (0+Int.toNat i) default)) 0 [Sh.int .i64])=true∧(At YF 1 (WF 1 Yn G) Yl 0 34 [(1,(.row 0 m 0 m)),(2,(.ptr 1 0)),(5,(.row 2 1 0 1)),(6,(.pv (.int .i64 (IntKind.wrap IntKind.i64 (i+1)))))] [(.obj (.row false 3 1 (List.map enc p))),(.obj (.box [(.pv (.sl 1 false (List.map enc b.v))),(.pv (.int .i64 b.m))])),(.obj (.row false 63 2 [(.agg [(.str (PV.asStr (List.getD (PV.cells (enc y0)) 0 default))),(.int .i64 (PV.asInt (List.getD (PV.cells (List.getD (List.map enc p) (0+Int.toNat i) default)) 0 default)))])]))])))))else(G (((.pv (.sl 0 true [])),([(.row false 3 1 (List.map enc p))],[]))))else(G (((.pv (.sl 0 true [])),([(.row false 3 1 (List.map enc p))],[]))))):At YF 1 (WF 1 Yn G) Yl 0 34 [(1,.row 0 m 0 m),(2,.ptr 1 0),(5,.pv (.sl 0 true [])),(6,.pv (.int .i64 i))] [.obj (.row false 3 1 (p.map enc)),.obj (.box [.pv (enc b.v),.pv (.int .i64 b.m)])]:=At.tf (.lit (.ask (.lit (.lit (.lit (.lit (.lit (.ask (.req (.abs (Str) (fun YY=>AV.pv (PV.rptr (PV.cells ((enc) YY)))) (.lit (.req (.keep (.req (.req (.lit (.lit (.lit (.lit (.lit (.lit (.nil)))))))))))))) (.nil))))))) (.lit (.lit (.lit (.lit (.lit (.nil)))))))) h (by kernel_rfl)
theorem KL{G:AV×List AObj×List AObj->Prop}(b:BoxT)(m:Nat)(p:List Int)(i:Int)(q:Nat)(vs:List Coef)(h:if (decide (i<(↑(List.length (List.map enc b.v)):Int)))=true then if (decide (i<(↑(m - 0):Int)))=true then(decide (0<=i)&&decide (Int.toNat i<List.length (List.map enc b.v))&&Enc.sz Str==1)=true∧(∃ y0:Str,AV.pv (PV.rptr (PV.cells (List.getD (List.map enc b.v) (Int.toNat i) default)))=AV.pv (PV.rptr (PV.cells ((enc) y0)))∧((decide (0<=i)&&decide (0+Int.toNat i<m)&&List.length (List.map enc p)==m)=true∧((List.length (List.map enc p)==m&&decide (0+Int.toNat i<List.length (List.map enc p)))=true∧((decide (0+List.length [Sh.int .i64]<=List.length (PV.cells (List.getD (List.map enc p) (0+Int.toNat i) default)))&&Xa (PV.cells (List.getD (List.map enc p) (0+Int.toNat i) default)) 0 [Sh.int .i64])=true∧((List.length (List.map enc vs)==q&&q==q&&decide ((q+List.length (List.drop 0 (List.take 1 [PV.agg [Sh.co Sh.str (List.getD (PV.cells (enc y0)) 0 default),Sh.co (Sh.int .i64) (List.getD (PV.cells (List.getD (List.map enc p) (0+Int.toNat i) default)) 0 default)]])))*24<=1099511627776)&&decide (q+List.length (List.drop 0 (List.take 1 [PV.agg [Sh.co Sh.str (List.getD (PV.cells (enc y0)) 0 default),Sh.co (Sh.int .i64) (List.getD (PV.cells (List.getD (List.map enc p) (0+Int.toNat i) default)) 0 default)]]))<=1099511627776))=true∧(At YF 1 (WF 1 Yn G) Yl 0 34 [(1,(.row 0 m 0 m)),(2,(.ptr 1 0)),(5,(.row 2 (q+List.length (List.drop 0 (List.take 1 [PV.agg [Sh.co Sh.str (List.getD (PV.cells (enc y0)) 0 default),Sh.co (Sh.int .i64) (List.getD (PV.cells (List.getD (List.map enc p) (0+Int.toNat i) default)) 0 default)]]))) 0 (q+List.length (List.drop 0 (List.take 1 [PV.agg [Sh.co Sh.str (List.getD (PV.cells (enc y0)) 0 default),Sh.co (Sh.int .i64) (List.getD (PV.cells (List.getD (List.map enc p) (0+Int.toNat i) default)) 0 default)]]))))),(6,(.pv (.int .i64 (IntKind.wrap IntKind.i64 (i+1)))))] [(.obj (.row false 3 1 (List.map enc p))),(.obj (.box [(.pv (.sl 1 false (List.map enc b.v))),(.pv (.int .i64 b.m))])),(.obj (.row false 63 2 (List.map enc vs++List.drop 0 (List.take 1 [PV.agg [Sh.co Sh.str (List.getD (PV.cells (enc y0)) 0 default),Sh.co (Sh.int .i64) (List.getD (PV.cells (List.getD (List.map enc p) (0+Int.toNat i) default)) 0 default)]]))))]))))))else((List.length (List.map enc vs)==q)=true∧(G (((.pv (.sl 2 false (List.drop 0 (List.take q (List.map enc vs))))),([(.row false 3 1 (List.map enc p))],[])))))else((List.length (List.map enc vs)==q)=true∧(G (((.pv (.sl 2 false (List.drop 0 (List.take q (List.map enc vs))))),([(.row false 3 1 (List.map enc p))],[])))))):At YF 1 (WF 1 Yn G) Yl 0 34 [(1,.row 0 m 0 m),(2,.ptr 1 0),(5,.row 2 q 0 q),(6,.pv (.int .i64 i))] [.obj (.row false 3 1 (p.map enc)),.obj (.box [.pv (enc b.v),.pv (.int .i64 b.m)]),.obj (.row false 63 2 (vs.map enc))]:=At.tf (.lit (.ask (.lit (.lit (.lit (.lit (.lit (.ask (.req (.abs (Str) (fun YY=>AV.pv (PV.rptr (PV.cells ((enc) YY)))) (.lit (.req (.keep (.req (.req (.lit (.lit (.req (.lit (.nil)))))))))))) (.req (.nil)))))))) (.lit (.lit (.lit (.lit (.lit (.req (.nil))))))))) h (by kernel_rfl)
def Y3:IC:=(.seq (.reg [⟨(some 2),(.box 2 (.t 0)),0,none⟩,⟨(some 4),(.mv (.c (.bool false))),1,none⟩] none) (.seq (.seq (.reg [⟨(some 5),(.mv (.c (.int .i64 0))),0,none⟩] none) (.block 0 (.loop [5,1,2] (.seq (.seq (.reg [⟨(some 8),(.mv (.t 5)),0,none⟩,⟨(some 9),(.mv (.t 1)),0,none⟩,⟨(some 10),(.len 1 (.t 9)),0,none⟩,⟨(some 11),(.bin .num .lss (.t 8) (.t 10)),0,none⟩] none) (.cond (.t 11) .skip (.exit 0))) (.seq (.block 1 (.seq (.reg [⟨(some 6),(.mv (.c (.bool false))),0,none⟩] none) (.seq (.seq (.reg [⟨(some 7),(.mv (.c (.int .i64 0))),0,none⟩] none) (.block 2 (.loop [7,2,6,1,5] (.seq (.seq (.reg [⟨(some 14),(.mv (.t 7)),0,none⟩,⟨(some 15),(.faddr 0 (.t 2)),0,none⟩,⟨(some 16),(.load false [(.sl 1)] (.t 15)),0,none⟩,⟨(some 17),(.len 1 (.t 16)),0,none⟩,⟨(some 18),(.bin .num .lss (.t 14) (.t 17)),0,none⟩] none) (.cond (.t 18) .skip (.exit 2))) (.seq (.block 3 (.reg [⟨(some 21),(.mv (.t 6)),0,none⟩,⟨(some 22),(.mv (.t 21)),0,none⟩,⟨(some 23),(.faddr 0 (.t 2)),0,(some (22,false))⟩,⟨(some 24),(.load false [(.sl 1)] (.t 23)),0,(some (22,false))⟩,⟨(some 25),(.mv (.t 7)),0,(some (22,false))⟩,⟨(some 26),(.iaddr 1 (.t 24) (.t 25)),0,(some (22,false))⟩,⟨(some 27),(.load false [.str] (.t 26)),0,(some (22,false))⟩,⟨(some 28),(.mv (.t 1)),0,(some (22,false))⟩,⟨(some 29),(.mv (.t 5)),0,(some (22,false))⟩,⟨(some 30),(.iaddr 1 (.t 28) (.t 29)),0,(some (22,false))⟩,⟨(some 31),(.load false [.str] (.t 30)),0,(some (22,false))⟩,⟨(some 32),(.bin .num .eql (.t 27) (.t 31)),0,(some (22,false))⟩,⟨(some 33),(.pick (.t 22) (.c (.bool true)) (.t 32)),0,none⟩,⟨(some 6),(.mv (.t 33)),0,none⟩] (some [[],[0],[1,0],[2,1,0],[1,0],[3,4,1,2,0],[5,1,3,4,2,0],[1,0],[1,0],[7,8,1,0],[9,1,7,8,0],[6,10,1,5,3,4,2,0,9,7,8],[1,11,0,6,10,5,3,4,2,9,7,8],[12,1,0,2,3,4,5,6,7,8,9,10,11]]))) (.reg [⟨(some 19),(.mv (.t 7)),0,none⟩,⟨(some 20),(.bin .num .add (.t 19) (.c (.int .i64 1))),0,none⟩,⟨(some 7),(.mv (.t 20)),0,none⟩] none)))))) (.seq (.reg [⟨(some 34),(.mv (.t 6)),0,none⟩,⟨(some 35),(.un .not (.t 34)),0,none⟩] none) (.cond (.t 35) (.seq (.reg [⟨(some 4),(.mv (.c (.bool false))),0,none⟩] none) .ret) .skip))))) (.reg [⟨(some 12),(.mv (.t 5)),0,none⟩,⟨(some 13),(.bin .num .add (.t 12) (.c (.int .i64 1))),0,none⟩,⟨(some 5),(.mv (.t 13)),0,none⟩] none)))))) (.seq (.reg [⟨(some 4),(.mv (.c (.bool true))),0,none⟩] none) .ret)))
def Y4:List IRes:=[(.tmp 4)]
abbrev a7r:Nat:=36
def XD:ZF:=Xe []
theorem a9g{G:PV->Prop}(b:BoxT)(ns:List Str)(h:At XD 0 (Za Y4 G) Y3 0 36 [(1,(.pv (.sl 1 false (List.map enc ns)))),(2,(.ptr 0 0)),(5,(.pv (.int .i64 0)))] [(.obj (.box [(.pv (.sl 1 false (List.map enc b.v))),(.pv (.int .i64 b.m))]))]):Zc XD 0 (Za Y4 G) Y3 [] (Ye 36 [enc b,enc ns]):=Zc.tp (.nil) h (by kernel_rfl)
theorem Rb{G:PV->Prop}(b:BoxT)(ns:List Str)(i:Int)(h:if (decide (i<(↑(List.length (List.map enc ns)):Int)))=true then At XD 0 (Za Y4 G) Y3 1 36 [(1,(.pv (.sl 1 false (List.map enc ns)))),(2,(.ptr 0 0)),(5,(.pv (.int .i64 i))),(6,(.pv (.bool false))),(7,(.pv (.int .i64 0)))] [(.obj (.box [(.pv (.sl 1 false (List.map enc b.v))),(.pv (.int .i64 b.m))]))]else(G ((.bool true)))):At XD 0 (Za Y4 G) Y3 0 36 [(1,.pv (enc ns)),(2,.ptr 0 0),(5,.pv (.int .i64 i))] [.obj (.box [.pv (enc b.v),.pv (.int .i64 b.m)])]:=At.tp (.lit (.ask (.nil) (.nil))) h (by kernel_rfl)
theorem TW{G:PV->Prop}(b:BoxT)(ns:List Str)(i k:Int)(o:Bool)(h:if (decide (k<(↑(List.length (List.map enc b.v)):Int)))=true then if (o)=true then At XD 0 (Za Y4 G) Y3 1 36 [(1,(.pv (.sl 1 false (List.map enc ns)))),(2,(.ptr 0 0)),(5,(.pv (.int .i64 i))),(6,(.pv (.bool true))),(7,(.pv (.int .i64 (IntKind.wrap IntKind.i64 (k+1)))))] [(.obj (.box [(.pv (.sl 1 false (List.map enc b.v))),(.pv (.int .i64 b.m))]))]else((decide (0<=k)&&decide (Int.toNat k<List.length (List.map enc b.v))&&Enc.sz Str==1)=true∧(∃ y0:Str,AV.pv (PV.rptr (PV.cells (List.getD (List.map enc b.v) (Int.toNat k) default)))=AV.pv (PV.rptr (PV.cells ((enc) y0)))∧((decide (0<=i)&&decide (Int.toNat i<List.length (List.map enc ns))&&Enc.sz Str==1)=true∧(∃ y1:Str,AV.pv (PV.rptr (PV.cells (List.getD (List.map enc ns) (Int.toNat i) default)))=AV.pv (PV.rptr (PV.cells ((enc) y1)))∧(At XD 0 (Za Y4 G) Y3 1 36 [(1,(.pv (.sl 1 false (List.map enc ns)))),(2,(.ptr 0 0)),(5,(.pv (.int .i64 i))),(6,(.pv (.bool (PV.asStr (List.getD (PV.cells (enc y0)) 0 default)==PV.asStr (List.getD (PV.cells (enc y1)) 0 default))))),(7,(.pv (.int .i64 (IntKind.wrap IntKind.i64 (k+1)))))] [(.obj (.box [(.pv (.sl 1 false (List.map enc b.v))),(.pv (.int .i64 b.m))]))])))))else(if (!o)=true then G ((.bool false))else(At XD 0 (Za Y4 G) Y3 0 36 [(1,(.pv (.sl 1 false (List.map enc ns)))),(2,(.ptr 0 0)),(5,(.pv (.int .i64 (IntKind.wrap IntKind.i64 (i+1)))))] [(.obj (.box [(.pv (.sl 1 false (List.map enc b.v))),(.pv (.int .i64 b.m))]))]))):At XD 0 (Za Y4 G) Y3 1 36 [(1,.pv (enc ns)),(2,.ptr 0 0),(5,.pv (.int .i64 i)),(6,.pv (.bool o)),(7,.pv (.int .i64 k))] [.obj (.box [.pv (enc b.v),.pv (.int .i64 b.m)])]:=At.tp (.lit (.ask (.ask (.lit (.lit (.lit (.lit (.lit (.lit (.lit (.lit (.lit (.lit (.lit (.nil)))))))))))) (.lit (.lit (.lit (.req (.abs (Str) (fun YY=>AV.pv (PV.rptr (PV.cells ((enc) YY)))) (.lit (.lit (.lit (.lit (.lit (.req (.abs (Str) (fun YY=>AV.pv (PV.rptr (PV.cells ((enc) YY)))) (.lit (.lit (.lit (.lit (.lit (.lit (.nil)))))))))))))))))))) (.ask (.nil) (.lit (.nil))))) h (by kernel_rfl)
def Ws:IC:=(.seq (.reg [⟨(some 1),(.box 2 (.t 0)),0,none⟩,⟨(some 2),(.mv (.c (.sl 0 true []))),1,none⟩] none) (.seq (.reg [⟨(some 3),(.mv (.c (.sl 0 true []))),0,none⟩] none) (.seq (.seq (.reg [⟨(some 4),(.mv (.c (.int .i64 0))),0,none⟩] none) (.block 0 (.loop [4,1,3] (.seq (.seq (.reg [⟨(some 5),(.mv (.t 4)),0,none⟩,⟨(some 6),(.faddr 1 (.t 1)),0,none⟩,⟨(some 7),(.load false [(.sl 2)] (.t 6)),0,none⟩,⟨(some 8),(.len 1 (.t 7)),0,none⟩,⟨(some 9),(.bin .num .lss (.t 5) (.t 8)),0,none⟩] none) (.cond (.t 9) .skip (.exit 0))) (.seq (.block 1 (.reg [⟨(some 12),(.mv (.t 3)),0,none⟩,⟨(some 13),(.faddr 1 (.t 1)),0,none⟩,⟨(some 14),(.load false [(.sl 2)] (.t 13)),0,none⟩,⟨(some 15),(.mv (.t 4)),0,none⟩,⟨(some 16),(.iaddr 2 (.t 14) (.t 15)),0,none⟩,⟨(some 17),(.faddr 0 (.t 16)),0,none⟩,⟨(some 18),(.load false [.str] (.t 17)),0,none⟩,⟨(some 19),(.bslice 9 1 1 (.str []) [(0,(.t 18))]),0,none⟩,⟨(some 20),(.append 9 1 16 (.t 12) (.t 19)),1,none⟩,⟨(some 3),(.mv (.t 20)),2,none⟩] none)) (.reg [⟨(some 10),(.mv (.t 4)),0,none⟩,⟨(some 11),(.bin .num .add (.t 10) (.c (.int .i64 1))),0,none⟩,⟨(some 4),(.mv (.t 11)),0,none⟩] none)))))) (.seq (.reg [⟨(some 21),(.mv (.t 3)),0,none⟩,⟨(some 2),(.mv (.t 21)),0,none⟩] none) .ret))))
def Wx:List IRes:=[(.tmp 2)]
abbrev a4g:Nat:=22
def Vz:ZF:=Xe []
theorem a9o{G:PV->Prop}(l:Lin)(h:At Vz 0 (Za Wx G) Ws 0 22 [(1,(.ptr 0 0)),(3,(.pv (.sl 0 true []))),(4,(.pv (.int .i64 0)))] [(.obj (.box [(.pv (.int .i64 l.k)),(.pv (.sl 2 false (List.map enc l.t)))]))]):Zc Vz 0 (Za Wx G) Ws [] (Ye 22 [enc l]):=Zc.tp (.nil) h (by kernel_rfl)
theorem Sm{G:PV->Prop}(l:Lin)(i:Int)(h:if (decide (i<(↑(List.length (List.map enc l.t)):Int)))=true then(decide (0<=i)&&decide (Int.toNat i<List.length (List.map enc l.t))&&Enc.sz Coef==2)=true∧(∃ y0:Coef,AV.pv (PV.rptr (PV.cells (List.getD (List.map enc l.t) (Int.toNat i) default)))=AV.pv (PV.rptr (PV.cells ((enc) y0)))∧(At Vz 0 (Za Wx G) Ws 0 22 [(1,(.ptr 0 0)),(3,(.row 1 1 0 1)),(4,(.pv (.int .i64 (IntKind.wrap IntKind.i64 (i+1)))))] [(.obj (.box [(.pv (.int .i64 l.k)),(.pv (.sl 2 false (List.map enc l.t)))])),(.obj (.row false 9 1 [(.str (PV.asStr (List.getD (List.drop 0 (PV.cells (enc y0))) 0 default)))]))]))else(G ((.sl 0 true [])))):At Vz 0 (Za Wx G) Ws 0 22 [(1,.ptr 0 0),(3,.pv (.sl 0 true [])),(4,.pv (.int .i64 i))] [.obj (.box [.pv (.int .i64 l.k),.pv (enc l.t)])]:=At.tp (.lit (.ask (.req (.abs (Coef) (fun YY=>AV.pv (PV.rptr (PV.cells ((enc) YY)))) (.lit (.lit (.lit (.lit (.lit (.lit (.lit (.nil)))))))))) (.nil))) h (by kernel_rfl)
theorem Al{G:PV->Prop}(l:Lin)(i:Int)(q:Nat)(ns:List Str)(h:if (decide (i<(↑(List.length (List.map enc l.t)):Int)))=true then(decide (0<=i)&&decide (Int.toNat i<List.length (List.map enc l.t))&&Enc.sz Coef==2)=true∧(∃ y0:Coef,AV.pv (PV.rptr (PV.cells (List.getD (List.map enc l.t) (Int.toNat i) default)))=AV.pv (PV.rptr (PV.cells ((enc) y0)))∧((List.length (List.map enc ns)==q&&q==q&&decide ((q+List.length (List.drop 0 (List.take 1 [Sh.co Sh.str (List.getD (List.drop 0 (PV.cells (enc y0))) 0 default)])))*16<=1099511627776)&&decide (q+List.length (List.drop 0 (List.take 1 [Sh.co Sh.str (List.getD (List.drop 0 (PV.cells (enc y0))) 0 default)]))<=1099511627776))=true∧(At Vz 0 (Za Wx G) Ws 0 22 [(1,(.ptr 0 0)),(3,(.row 1 (q+List.length (List.drop 0 (List.take 1 [Sh.co Sh.str (List.getD (List.drop 0 (PV.cells (enc y0))) 0 default)]))) 0 (q+List.length (List.drop 0 (List.take 1 [Sh.co Sh.str (List.getD (List.drop 0 (PV.cells (enc y0))) 0 default)]))))),(4,(.pv (.int .i64 (IntKind.wrap IntKind.i64 (i+1)))))] [(.obj (.box [(.pv (.int .i64 l.k)),(.pv (.sl 2 false (List.map enc l.t)))])),(.obj (.row false 9 1 (List.map enc ns++List.drop 0 (List.take 1 [Sh.co Sh.str (List.getD (List.drop 0 (PV.cells (enc y0))) 0 default)]))))])))else((List.length (List.map enc ns)==q)=true∧(G ((.sl 1 false (List.drop 0 (List.take q (List.map enc ns)))))))):At Vz 0 (Za Wx G) Ws 0 22 [(1,.ptr 0 0),(3,.row 1 q 0 q),(4,.pv (.int .i64 i))] [.obj (.box [.pv (.int .i64 l.k),.pv (enc l.t)]),.obj (.row false 9 1 (ns.map enc))]:=At.tp (.lit (.ask (.req (.abs (Coef) (fun YY=>AV.pv (PV.rptr (PV.cells ((enc) YY)))) (.lit (.lit (.lit (.req (.lit (.nil)))))))) (.req (.nil)))) h (by kernel_rfl)
def VV:IC:=(.seq (.reg [⟨(some 2),(.box 2 (.t 0)),0,none⟩,⟨(some 4),(.mv (.c (.int .i64 0))),1,none⟩] none) (.seq (.seq (.reg [⟨(some 5),(.mv (.c (.int .i64 0))),0,none⟩] none) (.block 0 (.loop [5,2,1] (.seq (.seq (.reg [⟨(some 6),(.mv (.t 5)),0,none⟩,⟨(some 7),(.faddr 1 (.t 2)),0,none⟩,⟨(some 8),(.load false [(.sl 2)] (.t 7)),0,none⟩,⟨(some 9),(.len 1 (.t 8)),0,none⟩,⟨(some 10),(.bin .num .lss (.t 6) (.t 9)),0,none⟩] none) (.cond (.t 10) .skip (.exit 0))) (.seq (.block 1 (.seq (.reg [⟨(some 13),(.faddr 1 (.t 2)),0,none⟩,⟨(some 14),(.load false [(.sl 2)] (.t 13)),0,none⟩,⟨(some 15),(.mv (.t 5)),0,none⟩,⟨(some 16),(.iaddr 2 (.t 14) (.t 15)),0,none⟩,⟨(some 17),(.faddr 0 (.t 16)),0,none⟩,⟨(some 18),(.load false [.str] (.t 17)),0,none⟩,⟨(some 19),(.mv (.t 1)),0,none⟩,⟨(some 20),(.bin .num .eql (.t 18) (.t 19)),0,none⟩] none) (.cond (.t 20) (.seq (.reg [⟨(some 21),(.faddr 1 (.t 2)),0,none⟩,⟨(some 22),(.load false [(.sl 2)] (.t 21)),0,none⟩,⟨(some 23),(.mv (.t 5)),0,none⟩,⟨(some 24),(.iaddr 2 (.t 22) (.t 23)),0,none⟩,⟨(some 25),(.faddr 1 (.t 24)),0,none⟩,⟨(some 26),(.load false [(.int .i64)] (.t 25)),0,none⟩,⟨(some 4),(.mv (.t 26)),0,none⟩] none) .ret) .skip))) (.reg [⟨(some 11),(.mv (.t 5)),0,none⟩,⟨(some 12),(.bin .num .add (.t 11) (.c (.int .i64 1))),0,none⟩,⟨(some 5),(.mv (.t 12)),0,none⟩] none)))))) (.seq (.reg [⟨(some 4),(.mv (.c (.int .i64 0))),0,none⟩] none) .ret)))
def VY:List IRes:=[(.tmp 4)]
abbrev a4q:Nat:=27
def UO:ZF:=Xe []
theorem a9h{G:PV->Prop}(l:Lin)(s:List UInt8)(h:At UO 0 (Za VY G) VV 0 27 [(1,(.pv (.str s))),(2,(.ptr 0 0)),(5,(.pv (.int .i64 0)))] [(.obj (.box [(.pv (.int .i64 l.k)),(.pv (.sl 2 false (List.map enc l.t)))]))]):Zc UO 0 (Za VY G) VV [] (Ye 27 [enc l,.str s]):=Zc.tp (.nil) h (by kernel_rfl)
theorem Rs{G:PV->Prop}(l:Lin)(s:List UInt8)(i:Int)(h:if (decide (i<(↑(List.length (List.map enc l.t)):Int)))=true then(decide (0<=i)&&decide (Int.toNat i<List.length (List.map enc l.t))&&Enc.sz Coef==2)=true∧(∃ y0:Coef,AV.pv (PV.rptr (PV.cells (List.getD (List.map enc l.t) (Int.toNat i) default)))=AV.pv (PV.rptr (PV.cells ((enc) y0)))∧(if (PV.asStr (List.getD (List.drop 0 (PV.cells (enc y0))) 0 default)==s)=true then(decide (0<=i)&&decide (Int.toNat i<List.length (List.map enc l.t))&&Enc.sz Coef==2)=true∧(∃ y1:Coef,AV.pv (PV.rptr (PV.cells (List.getD (List.map enc l.t) (Int.toNat i) default)))=AV.pv (PV.rptr (PV.cells ((enc) y1)))∧(G ((.int .i64 (PV.asInt (List.getD (List.drop 1 (PV.cells (enc y1))) 0 default))))))else(At UO 0 (Za VY G) VV 0 27 [(1,(.pv (.str s))),(2,(.ptr 0 0)),(5,(.pv (.int .i64 (IntKind.wrap IntKind.i64 (i+1)))))] [(.obj (.box [(.pv (.int .i64 l.k)),(.pv (.sl 2 false (List.map enc l.t)))]))])))else(G ((.int .i64 0)))):At UO 0 (Za VY G) VV 0 27 [(1,.pv (.str s)),(2,.ptr 0 0),(5,.pv (.int .i64 i))] [.obj (.box [.pv (.int .i64 l.k),.pv (enc l.t)])]:=At.tp (.lit (.ask (.req (.abs (Coef) (fun YY=>AV.pv (PV.rptr (PV.cells ((enc) YY)))) (.lit (.lit (.ask (.req (.abs (Coef) (fun YY=>AV.pv (PV.rptr (PV.cells ((enc) YY)))) (.lit (.nil)))) (.lit (.nil))))))) (.nil))) h (by kernel_rfl)
def Y1:IC:=(.seq (.reg [⟨(some 2),(.mv (.c (.sl 0 true []))),0,none⟩] none) (.seq (.reg [⟨(some 3),(.alloc (.agg [(.int .i64 0),(.sl 0 true [])])),0,none⟩] none) (.seq (.seq (.reg [⟨(some 4),(.mv (.c (.int .i64 0))),0,none⟩] none) (.block 0 (.loop [4,0,3] (.seq (.seq (.reg [⟨(some 7),(.mv (.t 4)),0,none⟩,⟨(some 8),(.mv (.t 0)),0,none⟩,⟨(some 9),(.len 1 (.t 8)),0,none⟩,⟨(some 10),(.bin .num .lss (.t 7) (.t 9)),0,none⟩] none) (.cond (.t 10) .skip (.exit 0))) (.seq (.block 1 (.seq (.reg [⟨(some 5),(.mv (.c (.int .i64 0))),0,none⟩] none) (.block 2 (.loop [5,0,4,3] (.seq (.seq (.reg [⟨(some 13),(.mv (.t 5)),0,none⟩,⟨(some 14),(.mv (.t 0)),0,none⟩,⟨(some 15),(.mv (.t 4)),0,none⟩,⟨(some 16),(.iaddr 2 (.t 14) (.t 15)),0,none⟩,⟨(some 17),(.faddr 1 (.t 16)),0,none⟩,⟨(some 18),(.load false [(.sl 2)] (.t 17)),0,none⟩,⟨(some 19),(.len 1 (.t 18)),0,none⟩,⟨(some 20),(.bin .num .lss (.t 13) (.t 19)),0,none⟩] none) (.cond (.t 20) .skip (.exit 2))) (.seq (.block 3 (.seq (.reg [⟨(some 23),(.mv (.t 0)),0,none⟩,⟨(some 24),(.mv (.t 4)),0,none⟩,⟨(some 25),(.iaddr 2 (.t 23) (.t 24)),0,none⟩,⟨(some 26),(.faddr 1 (.t 25)),0,none⟩,⟨(some 27),(.load false [(.sl 2)] (.t 26)),0,none⟩,⟨(some 28),(.mv (.t 5)),0,none⟩,⟨(some 29),(.iaddr 2 (.t 27) (.t 28)),0,none⟩,⟨(some 30),(.faddr 0 (.t 29)),0,none⟩,⟨(some 31),(.load false [.str] (.t 30)),0,none⟩,⟨(some 6),(.mv (.t 31)),0,none⟩] none) (.seq (.reg [⟨(some 32),(.load true [(.int .i64),(.sl 2)] (.t 3)),0,none⟩,⟨(some 33),(.mv (.t 6)),0,none⟩,⟨(some 34),(.call (.c (.fn 240)) [(.t 32),(.t 33)]),0,none⟩,⟨(some 35),(.bin .num .eql (.t 34) (.c (.int .i64 0))),2,none⟩] none) (.cond (.t 35) (.reg [⟨(some 36),(.load true [(.int .i64),(.sl 2)] (.t 3)),0,none⟩,⟨(some 37),(.mv (.t 6)),0,none⟩,⟨(some 38),(.call (.c (.fn 89)) [(.t 36),(.t 37),(.c (.int .i64 1))]),0,none⟩,⟨none,(.store 2 (.t 3) (.t 38)),2,none⟩] none) .skip)))) (.reg [⟨(some 21),(.mv (.t 5)),0,none⟩,⟨(some 22),(.bin .num .add (.t 21) (.c (.int .i64 1))),0,none⟩,⟨(some 5),(.mv (.t 22)),0,none⟩] none))))))) (.reg [⟨(some 11),(.mv (.t 4)),0,none⟩,⟨(some 12),(.bin .num .add (.t 11) (.c (.int .i64 1))),0,none⟩,⟨(some 4),(.mv (.t 12)),0,none⟩] none)))))) (.seq (.reg [⟨(some 39),(.load true [(.int .i64),(.sl 2)] (.t 3)),0,none⟩,⟨(some 40),(.call (.c (.fn 241)) [(.t 39)]),0,none⟩,⟨(some 2),(.mv (.t 40)),2,none⟩] none) .ret))))
def Y2:List IRes:=[(.tmp 2)]
abbrev a4l:Nat:=41
def Xx:ZF:=Xe [(240,.pure (preT (fun x:Lin×Str×Unit=>Zn x.1.t)) (Zf (fun x:Lin×Str×Unit=>Xt x.1.t x.2.1.s))),(89,.pure (preT (fun x:Lin×Str×Int×Unit=>decide (x.1.t.length<=1000000))) (Zf (fun x:Lin×Str×Int×Unit=>Vm x.1 x.2.1 x.2.2.1))),(241,.pure (preT (fun x:Lin×Unit=>decide (x.1.t.length<=1000000))) (Zf (fun x:Lin×Unit=>Zd x.1)))]
theorem b2s{G:PV->Prop}(ls:List Lin)(h:At Xx 0 (Za Y2 G) Y1 0 41 [(0,(.pv (.sl 2 false (List.map enc ls)))),(3,(.ptr 0 0)),(4,(.pv (.int .i64 0)))] [(.obj (.box [(.pv (.int .i64 0)),(.pv (.sl 0 true []))]))]):Zc Xx 0 (Za Y2 G) Y1 [] (Ye 41 [enc ls]):=Zc.tp (.nil) h (by kernel_rfl)
theorem TJ{G:PV->Prop}(ls:List Lin)(k:Int)(p:PV)(i:Int)(h:if (decide (i<(↑(List.length (List.map enc ls)):Int)))=true then At Xx 0 (Za Y2 G) Y1 1 41 [(0,(.pv (.sl 2 false (List.map enc ls)))),(3,(.ptr 0 0)),(4,(.pv (.int .i64 i))),(5,(.pv (.int .i64 0)))] [(.obj (.box [(.pv (.int .i64 k)),(.pv p)]))]else((Go.Pl.preT (fun(x:Lin×Unit)=>decide (List.length x.1.t<=1000000)) [(.agg [(.int .i64 k),p])])=true∧(∃ y0:List Str,AV.pv (Zf (fun(x:Lin×Unit)=>Zd x.1) [(.agg [(.int .i64 k),p])])=AV.pv (enc y0)∧(G ((.sl 1 false (List.map enc y0))))))):At Xx 0 (Za Y2 G) Y1 0 41 [(0,.pv (enc ls)),(3,.ptr 0 0),(4,.pv (.int .i64 i))] [.obj (.box [.pv (.int .i64 k),.pv p])]:=At.tp (.lit (.ask (.nil) (.req (.abs (List Str) (fun YY=>AV.pv (enc YY)) (.nil))))) h (by kernel_rfl)
theorem RO{G:PV->Prop}(ls:List Lin)(k:Int)(p:PV)(i j:Int)(h:(decide (0<=i)&&decide (Int.toNat i<List.length (List.map enc ls))&&Enc.sz Lin==2)=true∧(∃ y0:Lin,AV.pv (PV.rptr (PV.cells (List.getD (List.map enc ls) (Int.toNat i) default)))=AV.pv (PV.rptr (PV.cells ((enc) y0)))∧(if (decide (j<(↑(List.length (PV.asXs (List.getD (List.drop 1 (PV.cells (enc y0))) 0 default))):Int)))=true then(decide (0<=i)&&decide (Int.toNat i<List.length (List.map enc ls))&&Enc.sz Lin==2)=true∧(∃ y1:Lin,AV.pv (PV.rptr (PV.cells (List.getD (List.map enc ls) (Int.toNat i) default)))=AV.pv (PV.rptr (PV.cells ((enc) y1)))∧((decide (0<=j)&&decide (Int.toNat j<List.length (PV.asXs (List.getD (List.drop 1 (PV.cells (enc y1))) 0 default)))&&2==2)=true∧((decide (0+List.length [Sh.str]<=List.length (List.drop 0 (PV.cells (List.getD (PV.asXs (List.getD (List.drop 1 (PV.cells (enc y1))) 0 default)) (Int.toNat j) default))))&&Xa (List.drop 0 (PV.cells (List.getD (PV.asXs (List.getD (List.drop 1 (PV.cells (enc y1))) 0 default)) (Int.toNat j) default))) 0 [Sh.str])=true∧((Go.Pl.preT (fun(x:Lin×Str×Unit)=>Zn x.1.t) [(.agg [(.int .i64 k),p]),(.str (PV.asStr (List.getD (List.drop 0 (PV.cells (List.getD (PV.asXs (List.getD (List.drop 1 (PV.cells (enc y1))) 0 default)) (Int.toNat j) default))) 0 default)))])=true∧(∃ y2:Int,AV.pv (Zf (fun(x:Lin×Str×Unit)=>Xt x.1.t (Str.s x.2.1)) [(.agg [(.int .i64 k),p]),(.str (PV.asStr (List.getD (List.drop 0 (PV.cells (List.getD (PV.asXs (List.getD (List.drop 1 (PV.cells (enc y1))) 0 default)) (Int.toNat j) default))) 0 default)))])=AV.pv (enc y2)∧(if (y2==0)=true then(Go.Pl.preT (fun(x:Lin×Str×Int×Unit)=>decide (List.length x.1.t<=1000000)) [(.agg [(.int .i64 k),p]),(.str (PV.asStr (List.getD (List.drop 0 (PV.cells (List.getD (PV.asXs (List.getD (List.drop 1 (PV.cells (enc y1))) 0 default)) (Int.toNat j) default))) 0 default))),(.int .i64 1)])=true∧(∃ y3:Lin,AV.pv (Zf (fun(x:Lin×Str×Int×Unit)=>Vm x.1 x.2.1 x.2.2.1) [(.agg [(.int .i64 k),p]),(.str (PV.asStr (List.getD (List.drop 0 (PV.cells (List.getD (PV.asXs (List.getD (List.drop 1 (PV.cells (enc y1))) 0 default)) (Int.toNat j) default))) 0 default))),(.int .i64 1)])=AV.pv (enc y3)∧(At Xx 0 (Za Y2 G) Y1 1 41 [(0,(.pv (.sl 2 false (List.map enc ls)))),(3,(.ptr 0 0)),(4,(.pv (.int .i64 i))),(5,(.pv (.int .i64 (IntKind.wrap IntKind.i64 (j+1)))))] [(.obj (.box [(.pv (.int .i64 y3.k)),(.pv (.sl 2 false (List.map enc y3.t)))]))]))else(At Xx 0 (Za Y2 G) Y1 1 41 [(0,(.pv (.sl 2 false (List.map enc ls)))),(3,(.ptr 0 0)),(4,(.pv (.int .i64 i))),(5,(.pv (.int .i64 (IntKind.wrap IntKind.i64 (j+1)))))] [(.obj (.box [(.pv (.int .i64 k)),(.pv p)]))])))))))else(At Xx 0 (Za Y2 G) Y1 0 41 [(0,(.pv (.sl 2 false (List.map enc ls)))),(3,(.ptr 0 0)),(4,(.pv (.int .i64 (IntKind.wrap IntKind.i64 (i+1)))))] [(.obj (.box [(.pv (.int .i64 k)),(.pv p)]))])))):At Xx 0 (Za Y2 G) Y1 1 41 [(0,.pv (enc ls)),(3,.ptr 0 0),(4,.pv (.int .i64 i)),(5,.pv (.int .i64 j))] [.obj (.box [.pv (.int .i64 k),.pv p])]:=At.tp (.req (.abs (Lin) (fun YY=>AV.pv (PV.rptr (PV.cells ((enc) YY)))) (.lit (.lit (.ask (.req (.abs (Lin) (fun YY=>AV.pv (PV.rptr (PV.cells ((enc) YY)))) (.lit (.req (.keep (.req (.req (.abs (Int) (fun YY=>AV.pv (enc YY)) (.lit (.ask (.req (.abs (Lin) (fun YY=>AV.pv (enc YY)) (.lit (.nil)))) (.lit (.nil)))))))))))) (.lit (.nil))))))) h (by kernel_rfl)
def V9:IC:=(.seq (.reg [⟨(some 2),(.box 2 (.t 0)),0,none⟩,⟨(some 4),(.mv (.c (.bool false))),1,none⟩] none) (.seq (.reg [⟨(some 5),(.mv (.c (.int .i64 1))),0,none⟩] none) (.seq (.seq (.reg [⟨(some 6),(.mv (.c (.int .i64 0))),0,none⟩] none) (.block 0 (.loop [6,2,5,1] (.seq (.seq (.reg [⟨(some 7),(.mv (.t 6)),0,none⟩,⟨(some 8),(.faddr 0 (.t 2)),0,none⟩,⟨(some 9),(.load false [(.sl 1)] (.t 8)),0,none⟩,⟨(some 10),(.len 1 (.t 9)),0,none⟩,⟨(some 11),(.bin .num .lss (.t 7) (.t 10)),0,none⟩,⟨(some 12),(.mv (.t 11)),0,none⟩,⟨(some 13),(.load true [(.sl 1),(.int .i64)] (.t 2)),0,(some (12,true))⟩,⟨(some 14),(.call (.c (.fn 51)) [(.t 13)]),0,(some (12,true))⟩,⟨(some 15),(.pick (.t 12) (.t 14) (.c (.bool false))),2,none⟩] none) (.cond (.t 15) .skip (.exit 0))) (.seq (.block 1 (.reg [⟨(some 18),(.mv (.t 5)),0,none⟩,⟨(some 19),(.faddr 1 (.t 2)),0,none⟩,⟨(some 20),(.load false [(.int .i64)] (.t 19)),0,none⟩,⟨(some 21),(.bin .num .add (.t 20) (.c (.int .i64 1))),0,none⟩,⟨(some 22),(.bin .num .mul (.t 18) (.t 21)),0,none⟩,⟨(some 5),(.mv (.t 22)),0,none⟩] none)) (.reg [⟨(some 16),(.mv (.t 6)),0,none⟩,⟨(some 17),(.bin .num .add (.t 16) (.c (.int .i64 1))),0,none⟩,⟨(some 6),(.mv (.t 17)),0,none⟩] none)))))) (.seq (.reg [⟨(some 23),(.faddr 0 (.t 2)),0,none⟩,⟨(some 24),(.load false [(.sl 1)] (.t 23)),0,none⟩,⟨(some 25),(.len 1 (.t 24)),0,none⟩,⟨(some 26),(.bin .num .leq (.t 25) (.c (.int .i64 5))),0,none⟩,⟨(some 27),(.mv (.t 26)),0,none⟩,⟨(some 28),(.mv (.t 5)),0,(some (27,true))⟩,⟨(some 29),(.bin .num .leq (.t 28) (.c (.int .i64 300))),0,(some (27,true))⟩,⟨(some 30),(.pick (.t 27) (.t 29) (.c (.bool false))),0,none⟩,⟨(some 31),(.mv (.t 30)),0,none⟩,⟨(some 32),(.mv (.t 1)),0,(some (31,true))⟩,⟨(some 33),(.len 1 (.t 32)),0,(some (31,true))⟩,⟨(some 34),(.bin .num .leq (.t 33) (.c (.int .i64 6))),0,(some (31,true))⟩,⟨(some 35),(.pick (.t 31) (.t 34) (.c (.bool false))),0,none⟩,⟨(some 36),(.mv (.t 35)),0,none⟩,⟨(some 37),(.mv (.t 1)),0,(some (36,true))⟩,⟨(some 38),(.call (.c (.fn 31)) [(.t 37),(.c (.int .i64 6))]),0,(some (36,true))⟩,⟨(some 39),(.pick (.t 36) (.t 38) (.c (.bool false))),2,none⟩,⟨(some 4),(.mv (.t 39)),2,none⟩] none) .ret))))
def Wz:List IRes:=[(.tmp 4)]
abbrev a5e:Nat:=40
def Vn:ZF:=Xe [(51,.pure (preT (fun x:BoxT×Unit=>ZG x.1)) (Zf (fun x:BoxT×Unit=>YI x.1))),(31,.pure (preT (fun x:List Fact×Int×Unit=>YZ x.1)) (Zf (fun x:List Fact×Int×Unit=>Cj x.1 x.2.1)))]
theorem b6o{G:PV->Prop}(b:BoxT)(fs:List Fact)(h:At Vn 0 (Za Wz G) V9 0 40 [(1,(.pv (.sl 3 false (List.map enc fs)))),(2,(.ptr 0 0)),(5,(.pv (.int .i64 1))),(6,(.pv (.int .i64 0)))] [(.obj (.box [(.pv (.sl 1 false (List.map enc b.v))),(.pv (.int .i64 b.m))]))]):Zc Vn 0 (Za Wz G) V9 [] (Ye 40 [enc b,enc fs]):=Zc.tp (.nil) h (by kernel_rfl)
theorem Jm{G:PV->Prop}(b:BoxT)(fs:List Fact)(n i:Int)(h:if (decide (i<(↑(List.length (List.map enc b.v)):Int)))=true then(Go.Pl.preT (fun(x:BoxT×Unit)=>ZG x.1) [(.agg [(.sl 1 false (List.map enc b.v)),(.int .i64 b.m)])])=true∧(∃ y0:Bool,AV.pv (Zf (fun(x:BoxT×Unit)=>YI x.1) [(.agg [(.sl 1 false (List.map enc b.v)),(.int .i64 b.m)])])=AV.pv (enc y0)∧(if (y0)=true then At Vn 0 (Za Wz G) V9 0 40 [(1,(.pv (.sl 3 false (List.map enc fs)))),(2,(.ptr 0 0)),(5,(.pv (.int .i64 (IntKind.wrap IntKind.i64 (n*IntKind.wrap IntKind.i64 (BoxT.m b+1)))))),(6,(.pv (.int .i64 (IntKind.wrap IntKind.i64 (i+1)))))] [(.obj (.box [(.pv (.sl 1 false (List.map enc b.v))),(.pv (.int .i64 b.m))]))]else(if (decide ((↑(List.length (List.map enc b.v)):Int)<=5))=true then if (decide (n<=300))=true then if (decide ((↑(List.length (List.map enc fs)):Int)<=6))=true then(Go.Pl.preT (fun(x:List Fact×Int×Unit)=>YZ x.1) [(.sl 3 false (List.map enc fs)),(.int .i64 6)])=true∧(∃ y1:Bool,AV.pv (Zf (fun(x:List Fact×Int×Unit)=>Cj x.1 x.2.1) [(.sl 3 false (List.map enc fs)),(.int .i64 6)])=AV.pv (enc y1)∧(G ((.bool y1))))else(G ((.bool false)))else(G ((.bool false)))else(G ((.bool false))))))else(if (decide ((↑(List.length (List.map enc b.v)):Int)<=5))=true then if (decide (n<=300))=true then if (decide ((↑(List.length (List.map enc fs)):Int)<=6))=true then(Go.Pl.preT (fun(x:List Fact×Int×Unit)=>YZ x.1) [(.sl 3 false (List.map enc fs)),(.int .i64 6)])=true∧(∃ y2:Bool,AV.pv (Zf (fun(x:List Fact×Int×Unit)=>Cj x.1 x.2.1) [(.sl 3 false (List.map enc fs)),(.int .i64 6)])=AV.pv (enc y2)∧(G ((.bool y2))))else(G ((.bool false)))else(G ((.bool false)))else(G ((.bool false))))):At Vn 0 (Za Wz G) V9 0 40 [(1,.pv (enc fs)),(2,.ptr 0 0),(5,.pv (.int .i64 n)),(6,.pv (.int .i64 i))] [.obj (.box [.pv (enc b.v),.pv (.int .i64 b.m)])]:=At.tp (.lit (.ask (.lit (.req (.abs (Bool) (fun YY=>AV.pv (enc YY)) (.lit (.ask (.lit (.lit (.lit (.nil)))) (.lit (.ask (.lit (.lit (.lit (.ask (.lit (.lit (.lit (.lit (.ask (.lit (.req (.abs (Bool) (fun YY=>AV.pv (enc YY)) (.lit (.nil))))) (.lit (.lit (.nil)))))))) (.lit (.lit (.lit (.lit (.lit (.lit (.nil))))))))))) (.lit (.lit (.lit (.lit (.lit (.lit (.lit (.lit (.lit (.nil))))))))))))))))) (.lit (.lit (.lit (.lit (.ask (.lit (.lit (.lit (.ask (.lit (.lit (.lit (.lit (.ask (.lit (.req (.abs (Bool) (fun YY=>AV.pv (enc YY)) (.lit (.nil))))) (.lit (.lit (.nil)))))))) (.lit (.lit (.lit (.lit (.lit (.lit (.nil))))))))))) (.lit (.lit (.lit (.lit (.lit (.lit (.lit (.lit (.lit (.nil))))))))))))))))) h (by kernel_rfl)
def VU:IC:=(.seq (.reg [⟨(some 4),(.mv (.c (.bool false))),0,none⟩] none) (.seq (.seq (.reg [⟨(some 6),(.mv (.t 0)),0,none⟩,⟨(some 7),(.len 1 (.t 6)),0,none⟩,⟨(some 8),(.mv (.t 1)),0,none⟩,⟨(some 9),(.len 1 (.t 8)),0,none⟩,⟨(some 10),(.bin .num .neq (.t 7) (.t 9)),0,none⟩] none) (.cond (.t 10) (.seq (.reg [⟨(some 4),(.mv (.c (.bool false))),0,none⟩] none) .ret) .skip)) (.seq (.seq (.reg [⟨(some 5),(.mv (.c (.int .i64 0))),0,none⟩] none) (.block 0 (.loop [5,0,1] (.seq (.seq (.reg [⟨(some 11),(.mv (.t 5)),0,none⟩,⟨(some 12),(.mv (.t 0)),0,none⟩,⟨(some 13),(.len 1 (.t 12)),0,none⟩,⟨(some 14),(.bin .num .lss (.t 11) (.t 13)),0,none⟩] none) (.cond (.t 14) .skip (.exit 0))) (.seq (.block 1 (.seq (.reg [⟨(some 17),(.mv (.t 0)),0,none⟩,⟨(some 18),(.mv (.t 5)),0,none⟩,⟨(some 19),(.iaddr 1 (.t 17) (.t 18)),0,none⟩,⟨(some 20),(.load false [(.int .i64)] (.t 19)),0,none⟩,⟨(some 21),(.mv (.t 1)),0,none⟩,⟨(some 22),(.mv (.t 5)),0,none⟩,⟨(some 23),(.iaddr 1 (.t 21) (.t 22)),0,none⟩,⟨(some 24),(.load false [(.int .i64)] (.t 23)),0,none⟩,⟨(some 25),(.bin .num .neq (.t 20) (.t 24)),0,none⟩] (some [[],[],[0,1],[2,0,1],[],[],[4,5],[6,4,5],[3,7,2,0,1,6,4,5]])) (.cond (.t 25) (.seq (.reg [⟨(some 4),(.mv (.c (.bool false))),0,none⟩] none) .ret) .skip))) (.reg [⟨(some 15),(.mv (.t 5)),0,none⟩,⟨(some 16),(.bin .num .add (.t 15) (.c (.int .i64 1))),0,none⟩,⟨(some 5),(.mv (.t 16)),0,none⟩] none)))))) (.seq (.reg [⟨(some 4),(.mv (.c (.bool true))),0,none⟩] none) .ret))))
def VM:List IRes:=[(.tmp 4)]
abbrev a7b:Nat:=26
def U3:ZF:=Xe []
theorem a9r{G:PV->Prop}(a b:List Int)(h:if ((↑(List.length (List.map enc a)):Int) != (↑(List.length (List.map enc b)):Int))=true then G ((.bool false))else(At U3 0 (Za VM G) VU 0 26 [(0,(.pv (.sl 1 false (List.map enc a)))),(1,(.pv (.sl 1 false (List.map enc b)))),(5,(.pv (.int .i64 0)))] [])):Zc U3 0 (Za VM G) VU [] (Ye 26 [enc a,enc b]):=Zc.tp (.lit (.ask (.nil) (.nil))) h (by kernel_rfl)
theorem Rf{G:PV->Prop}(a b:List Int)(i:Int)(h:if (decide (i<(↑(List.length (List.map enc a)):Int)))=true then(decide (0<=i)&&decide (Int.toNat i<List.length (List.map enc a))&&Enc.sz Int==1)=true∧(∃ y0:Int,AV.pv (PV.rptr (PV.cells (List.getD (List.map enc a) (Int.toNat i) default)))=AV.pv (PV.rptr (PV.cells ((enc) y0)))∧((decide (0<=i)&&decide (Int.toNat i<List.length (List.map enc b))&&Enc.sz Int==1)=true∧(∃ y1:Int,AV.pv (PV.rptr (PV.cells (List.getD (List.map enc b) (Int.toNat i) default)))=AV.pv (PV.rptr (PV.cells ((enc) y1)))∧(if (PV.asInt (List.getD (PV.cells (enc y0)) 0 default) != PV.asInt (List.getD (PV.cells (enc y1)) 0 default))=true then G ((.bool false))else(At U3 0 (Za VM G) VU 0 26 [(0,(.pv (.sl 1 false (List.map enc a)))),(1,(.pv (.sl 1 false (List.map enc b)))),(5,(.pv (.int .i64 (IntKind.wrap IntKind.i64 (i+1)))))] [])))))else(G ((.bool true)))):At U3 0 (Za VM G) VU 0 26 [(0,.pv (enc a)),(1,.pv (enc b)),(5,.pv (.int .i64 i))] []:=At.tp (.lit (.ask (.req (.abs (Int) (fun YY=>AV.pv (PV.rptr (PV.cells ((enc) YY)))) (.lit (.req (.abs (Int) (fun YY=>AV.pv (PV.rptr (PV.cells ((enc) YY)))) (.lit (.lit (.ask (.nil) (.lit (.nil)))))))))) (.nil))) h (by kernel_rfl)
def WX:IC:=(.seq (.reg [⟨(some 4),(.mv (.c (.bool false))),0,none⟩] none) (.seq (.seq (.reg [⟨(some 6),(.mv (.t 0)),0,none⟩,⟨(some 7),(.len 1 (.t 6)),0,none⟩,⟨(some 8),(.mv (.t 1)),0,none⟩,⟨(some 9),(.len 1 (.t 8)),0,none⟩,⟨(some 10),(.bin .num .neq (.t 7) (.t 9)),0,none⟩] none) (.cond (.t 10) (.seq (.reg [⟨(some 4),(.mv (.c (.bool false))),0,none⟩] none) .ret) .skip)) (.seq (.seq (.reg [⟨(some 5),(.mv (.c (.int .i64 0))),0,none⟩] none) (.block 0 (.loop [5,0,1] (.seq (.seq (.reg [⟨(some 11),(.mv (.t 5)),0,none⟩,⟨(some 12),(.mv (.t 0)),0,none⟩,⟨(some 13),(.len 1 (.t 12)),0,none⟩,⟨(some 14),(.bin .num .lss (.t 11) (.t 13)),0,none⟩] none) (.cond (.t 14) .skip (.exit 0))) (.seq (.block 1 (.seq (.reg [⟨(some 17),(.mv (.t 0)),0,none⟩,⟨(some 18),(.mv (.t 5)),0,none⟩,⟨(some 19),(.iaddr 1 (.t 17) (.t 18)),0,none⟩,⟨(some 20),(.load false [(.sl 1)] (.t 19)),0,none⟩,⟨(some 21),(.mv (.t 1)),0,none⟩,⟨(some 22),(.mv (.t 5)),0,none⟩,⟨(some 23),(.iaddr 1 (.t 21) (.t 22)),0,none⟩,⟨(some 24),(.load false [(.sl 1)] (.t 23)),0,none⟩,⟨(some 25),(.call (.c (.fn 54)) [(.t 20),(.t 24)]),0,none⟩,⟨(some 26),(.un .not (.t 25)),2,none⟩] (some [[],[],[0,1],[2,0,1],[],[],[4,5],[6,4,5],[3,7,2,0,1,6,4,5],[8,3,7,2,0,1,6,4,5]])) (.cond (.t 26) (.seq (.reg [⟨(some 4),(.mv (.c (.bool false))),0,none⟩] none) .ret) .skip))) (.reg [⟨(some 15),(.mv (.t 5)),0,none⟩,⟨(some 16),(.bin .num .add (.t 15) (.c (.int .i64 1))),0,none⟩,⟨(some 5),(.mv (.t 16)),0,none⟩] none)))))) (.seq (.reg [⟨(some 4),(.mv (.c (.bool true))),0,none⟩] none) .ret))))
def WW:List IRes:=[(.tmp 4)]
abbrev a0c:Nat:=27
def V6:ZF:=Xe [(54,.pure (preT (fun x:List Int×List Int×Unit=>Zn x.1)) (Zf (fun x:List Int×List Int×Unit=>decide (x.1=x.2.1))))]
theorem a6b{G:PV->Prop}(a b:List (List Int))(h:if ((↑(List.length (List.map enc a)):Int) != (↑(List.length (List.map enc b)):Int))=true then G ((.bool false))else(At V6 0 (Za WW G) WX 0 27 [(0,(.pv (.sl 1 false (List.map enc a)))),(1,(.pv (.sl 1 false (List.map enc b)))),(5,(.pv (.int .i64 0)))] [])):Zc V6 0 (Za WW G) WX [] (Ye 27 [enc a,enc b]):=Zc.tp (.lit (.ask (.nil) (.nil))) h (by kernel_rfl)
theorem AY{G:PV->Prop}(a b:List (List Int))(i:Int)(h:if (decide (i<(↑(List.length (List.map enc a)):Int)))=true then(decide (0<=i)&&decide (Int.toNat i<List.length (List.map enc a))&&Enc.sz (List Int)==1)=true∧(∃ y0:List Int,AV.pv (PV.rptr (PV.cells (List.getD (List.map enc a) (Int.toNat i) default)))=AV.pv (PV.rptr (PV.cells ((enc) y0)))∧((decide (0<=i)&&decide (Int.toNat i<List.length (List.map enc b))&&Enc.sz (List Int)==1)=true∧(∃ y1:List Int,AV.pv (PV.rptr (PV.cells (List.getD (List.map enc b) (Int.toNat i) default)))=AV.pv (PV.rptr (PV.cells ((enc) y1)))∧((Go.Pl.preT (fun(x:List Int×List Int×Unit)=>Zn x.1) [(.sl 1 false (PV.asXs (List.getD (PV.cells (enc y0)) 0 default))),(.sl 1 false (PV.asXs (List.getD (PV.cells (enc y1)) 0 default)))])=true∧(∃ y2:Bool,AV.pv (Zf (fun(x:List Int×List Int×Unit)=>decide (x.1=x.2.1)) [(.sl 1 false (PV.asXs (List.getD (PV.cells (enc y0)) 0 default))),(.sl 1 false (PV.asXs (List.getD (PV.cells (enc y1)) 0 default)))])=AV.pv (enc y2)∧(if (!y2)=true then G ((.bool false))else(At V6 0 (Za WW G) WX 0 27 [(0,(.pv (.sl 1 false (List.map enc a)))),(1,(.pv (.sl 1 false (List.map enc b)))),(5,(.pv (.int .i64 (IntKind.wrap IntKind.i64 (i+1)))))] [])))))))else(G ((.bool true)))):At V6 0 (Za WW G) WX 0 27 [(0,.pv (enc a)),(1,.pv (enc b)),(5,.pv (.int .i64 i))] []:=At.tp (.lit (.ask (.req (.abs (List Int) (fun YY=>AV.pv (PV.rptr (PV.cells ((enc) YY)))) (.lit (.req (.abs (List Int) (fun YY=>AV.pv (PV.rptr (PV.cells ((enc) YY)))) (.lit (.req (.abs (Bool) (fun YY=>AV.pv (enc YY)) (.ask (.nil) (.lit (.nil))))))))))) (.nil))) h (by kernel_rfl)
end Go.Pl

namespace Go.Pl
open Go.RowKit
open Enc (enc dec is)
open EncL (encL decL isL)
def gwL(m:Int):List Str->List Str->Int->Bool
 | _,[],n=>decide (m ≥ 0)&&decide (n<=20000)
 | seen,s::r,n=>ZE s&& !decide (m ≥ 20000)&& !seen.contains s&&gwL m (seen++[s]) r (if n<=20000 then DJ (n*DJ (m+1))else n)
theorem a1g{m:Int}(hm:m<0): ∀ (r seen:List Str) (n:Int),gwL m seen r n=false
 | [],seen,n=>by rw[gwL,decide_eq_false (by omega)];rfl
 | s::r,seen,n=>by rw[gwL,a1g hm r];simp
theorem b8g{m:Int}(hm:m<0): ∀ (r seen:List Str) (n:Int),gvL m seen r n=false
 | [],seen,n=>by rw[gvL,decide_eq_false (by omega)]
 | s::r,seen,n=>by rw[gvL,decide_eq_true hm];simp
theorem a1a(m:Int): ∀ (r seen:List Str) (n:Int),20000<n->gwL m seen r n=false
 | [],seen,n,h=>by rw[gwL,decide_eq_false (show ¬ n<=20000 by omega),Bool.and_false]
 | s::r,seen,n,h=>by rw[gwL,if_neg (by omega),a1a m r _ n h];simp
theorem a1d(m:Int): ∀ (r seen:List Str) (n:Int),1<=n->n<=20000->gwL m seen r n=gvL m seen r n
 | [],seen,n,h1,h2=>by rw[gwL,gvL,decide_eq_true h2,Bool.and_true]
 | s::r,seen,n,h1,h2=>by
  by_cases hm:m<0
  ·rw[a1g hm,b8g hm]
  ·rw[gwL,gvL,if_pos h2,decide_eq_false hm]
   by_cases hb:m ≥ 20000
   ·rw[decide_eq_true hb];simp
   ·have q1:m+1<=20000:=by omega
    have q2:1<=m+1:=by omega
    have hm2:n*(m+1)<=20000*20000:=Int.le_trans (Int.mul_le_mul_of_nonneg_left q1 (by omega)) (Int.mul_le_mul_of_nonneg_right h2 (by omega))
    have hm1:1<=n*(m+1):=by
     have:=Int.mul_le_mul h1 q2 (by omega) (by omega)
     omega
    rw[XJ (n:=m+1) (by omega) (by omega),XJ (n:=n*(m+1)) (by omega) (by omega),decide_eq_false hb]
    by_cases hn:n*(m+1)>20000
    ·rw[decide_eq_true hn,a1a _ _ _ _ hn];simp
    ·rw[decide_eq_false hn,a1d m r _ _ hm1 (by omega)]
     cases ZE s <;> cases seen.contains s <;> rfl
theorem c4y(b:BoxT)(R:Bool)(n:Int){i:Nat}(hi:i<b.v.length)(hl:b.v.length<=9223372036854775807)(hyes:(b.v.take i).contains b.v[i]=true->R=false)
  (hno:(b.v.take i).contains b.v[i]=false->At QK 0 (Za V4 (Zg R)) VQ 0 55 [(1,.ptr 0 0),(3,.pv (.int .i64 (if n<=20000 then DJ (n*DJ (b.m+1))else n))),(4,.pv (.int .i64 ((i+1:Nat):Int)))] [.obj (.box [.pv (enc b.v),.pv (.int .i64 b.m)])]) :
  ∀ (d k:Nat),d+k=i->(∀ j (h:j<b.v.length),j<k->b.v[j]≠b.v[i]) ->
  At QK 0 (Za V4 (Zg R)) VQ 1 55 [(1,.ptr 0 0),(3,.pv (.int .i64 n)),(4,.pv (.int .i64 i)),(5,.pv (.int .i64 k))] [.obj (.box [.pv (enc b.v),.pv (.int .i64 b.m)])]:=by
 intro d
 induction d with
 | zero=>
  intro k hk hne
  obtain rfl:k=i:=by omega
  have hc:(b.v.take k).contains b.v[k]=false:=by
   rw[<- Bool.not_eq_true,List.contains_iff_mem]
   intro hm
   obtain⟨j,hj,e⟩:=List.getElem_of_mem hm
   rw[List.length_take]at hj
   rw[List.getElem_take]at e
   exact hne j (by omega) (by omega) e
  have:=hno hc
  refine b1r b n k k (ZK (Z4 (by omega)) (WJ (fun h=> ?_) fun h=> ?_))
  ·rw[if_pos h]at this
   rw[next (by omega)]
   exact this
  ·rw[if_neg h]at this
   rw[next (by omega)]
   exact this
 | succ d ih=>
  intro k hk hne
  have hkl:k<b.v.length:=by omega
  refine b1r b n i k (ZC (ZW (by omega)) ⟨Zt hkl rfl,Zx hkl ⟨Zt hi rfl,Zx hi (Ka (fun h=> ?_) fun h=> ?_)⟩⟩)
  ·have e:b.v[k]=b.v[i]:=by
    have h:b.v[k].s=b.v[i].s:=h
    cases hx:b.v[k];cases hy:b.v[i]
    rw[hx,hy]at h
    exact congrArg Str.mk h
   refine ZM (hyes ?_).symm
   rw[List.contains_iff_mem,<- e,List.mem_take_iff_getElem]
   exact⟨k,by omega,rfl⟩
  ·rw[next (by omega)]
   refine ih (k+1) (by omega) fun j hj hjk=> ?_
   by_cases e:j=k
   ·subst e
    intro e2
    exact h (congrArg Str.s e2)
   ·exact hne j hj (by omega)
theorem b5a(b:BoxT)(hl:b.v.length<=9223372036854775807): ∀ (d i:Nat) (n:Int),d+i=b.v.length ->
  At QK 0 (Za V4 (Zg (gwL b.m (b.v.take i) (b.v.drop i) n))) VQ 0 55 [(1,.ptr 0 0),(3,.pv (.int .i64 n)),(4,.pv (.int .i64 i))] [.obj (.box [.pv (enc b.v),.pv (.int .i64 b.m)])]:=by
 intro d
 induction d with
 | zero=>
  intro i n hi
  rw[List.drop_of_length_le (by omega)]
  refine b6j b n i (ZK (Xk (by omega)) ?_)
  rw[gwL]
  refine WJ (fun h=> ?_) fun h=> ?_
  ·rw[decide_eq_true h];exact ZM rfl
  ·rw[decide_eq_false h];exact ZM rfl
 | succ d ih=>
  intro i n hi
  have hlt:i<b.v.length:=by omega
  have hd:b.v.drop i=b.v[i]::b.v.drop (i+1):=List.drop_eq_getElem_cons hlt
  have ht:b.v.take (i+1)=b.v.take i++[b.v[i]]:=List.take_succ_eq_append_getElem hlt
  rw[hd,gwL]
  refine b6j b n i (ZC (YV hlt) ⟨Zt hlt rfl,Zx hlt (Zh (b.v[i],()) rfl (X7 (fun h=> ?_) fun h=>WJ (fun h2=> ?_) fun h2=> ?_))⟩)
  ·have h:ZE b.v[i]=false:=h
   rw[h];exact ZM rfl
  ·rw[decide_eq_true h2];simp only[Bool.not_true,Bool.and_false,Bool.false_and];exact ZM rfl
  ·have h:ZE b.v[i]=true:=h
   rw[decide_eq_false h2,h]
   simp only[Bool.not_false,Bool.true_and,Bool.and_true]
   refine c4y b _ n hlt hl (fun hc=>by rw[hc];rfl) (fun hc=> ?_) i 0 (by omega) (fun j _ hj=>by omega)
   rw[hc,Bool.not_false,Bool.true_and,<- ht]
   exact ih (i+1) _ (by omega)
theorem c0y: ∀ a:BoxT×Unit,ZG a.1=true->Zc QK 0 (Za V4 (Zg (YI a.1))) VQ [] (Ye c6n (encL a)):=by
 rintro⟨b,⟨⟩⟩ h
 simp only[ZG,WC,Bool.and_eq_true]at h
 rw[<- a1c,<- a1d b.m b.v [] 1 (by decide) (by decide)]
 exact c9v b (b5a b (Zy.1 h.1) b.v.length 0 1 (by omega))
theorem Mx(b:BoxT)(p:List Int)(hb:b.v.length<=1000)(hp:p.length<=9223372036854775807): ∀ (k i:Nat),k+i=min b.v.length p.length->1<=i ->
  At YF 0 (Za Yn (Zg (Ze b.v p))) Yl 0 34 [(1,.pv (enc p)),(2,.ptr 0 0),(5,.row 1 i 0 i),(6,.pv (.int .i64 i))] [.obj (.box [.pv (enc b.v),.pv (.int .i64 b.m)]),.obj (.row false 63 2 ((Ze (b.v.take i) (p.take i)).map enc))]:=by
 intro k
 induction k with
 | zero=>
  intro i hi h1
  have hl:=Uj b.v p (i:=i) (by omega) (by omega)
  have fin:Zg (Ze b.v p) (PV.sl 2 false (List.drop 0 (List.take i (List.map enc (Ze (b.v.take i) (p.take i)))))):=by
   rw[List.drop_zero,List.take_of_length_le (by rw[List.length_map,hl];exact Nat.le_refl _),Gu b.v p (by omega)]
   exact ZQ (x:=Ze b.v p) rfl
  by_cases hbl:i<b.v.length
  ·exact JS b p i i (Ze (b.v.take i) (p.take i)) (ZC (YV hbl) (ZK (Xk (by omega)) ⟨by simp[hl],fin⟩))
  ·exact JS b p i i (Ze (b.v.take i) (p.take i)) (ZK (Xk hbl) ⟨by simp[hl],fin⟩)
 | succ k ih=>
  intro i hi h1
  have hl:=Uj b.v p (i:=i) (by omega) (by omega)
  have hlt:i<b.v.length:=by omega
  have hlt2:i<p.length:=by omega
  refine JS b p i i (Ze (b.v.take i) (p.take i)) (ZC (YV hlt) (ZC (YV hlt2) ⟨Zt hlt rfl,Zx hlt ⟨Zt hlt2 rfl,Zx hlt2 ⟨?_,?_⟩⟩⟩))
  ·rw[List.length_map,hl]
   show((i==i)&&(i==i)&&decide ((i+1)*24<=1099511627776)&&decide (i+1<=1099511627776))=true
   rw[decide_eq_true (by omega),decide_eq_true (by omega)];simp
  ·have:=ih (i+1) (by omega) (by omega)
   rw[WZ b.v p hlt hlt2,List.map_append,<- next (by omega)]at this
   exact this
theorem a0q: ∀ a:BoxT×List Int×Unit,(decide (a.1.v.length<=1000)&&Zn a.2.1)=true->Zc YF 0 (Za Yn (Zg (Ze a.1.v a.2.1))) Yl [] (Ye Ru (encL a)):=by
 rintro⟨b,p,⟨⟩⟩ h
 simp only[Bool.and_eq_true,decide_eq_true_eq]at h
 obtain⟨h1,h2⟩:=h
 refine b2g b p ?_
 have hl2:=Zy.1 h2
 by_cases h0:min b.v.length p.length=0
 ·have:Ze b.v p=[]:=by
   rw[<- List.length_eq_zero_iff];unfold Ze;rw[List.length_zipWith];exact h0
  rw[this]
  by_cases hbl:0<b.v.length
  ·exact JN b p ((0:Nat):Int) (ZC (YV hbl) (ZK (Xk (by omega)) ⟨rfl,rfl⟩))
  ·exact JN b p ((0:Nat):Int) (ZK (Xk hbl) ⟨rfl,rfl⟩)
 ·have hlt:0<b.v.length:=by omega
  have hlt2:0<p.length:=by omega
  refine JN b p ((0:Nat):Int) (ZC (YV hlt) (ZC (YV hlt2) ⟨Zt hlt rfl,Zx hlt ⟨Zt hlt2 rfl,Zx hlt2 ?_⟩⟩))
  have:=Mx b p h1 hl2 (min b.v.length p.length - 1) 1 (by omega) (by omega)
  rw[show(1:Nat)=0+1 from rfl,WZ b.v p hlt hlt2]at this
  exact this
theorem a8f(b:BoxT)(ns:List Str)(R:Bool){i:Nat}(hi:i<ns.length)(hl:b.v.length<=9223372036854775807)(hn:ns.length<=9223372036854775807)(hyes:b.v.contains ns[i]=false->R=false)
  (hno:b.v.contains ns[i]=true->At XD 0 (Za Y4 (Zg R)) Y3 0 36 [(1,.pv (enc ns)),(2,.ptr 0 0),(5,.pv (.int .i64 ((i+1:Nat):Int)))] [.obj (.box [.pv (enc b.v),.pv (.int .i64 b.m)])]) :
  ∀ (d k:Nat),d+k=b.v.length->At XD 0 (Za Y4 (Zg R)) Y3 1 36 [(1,.pv (enc ns)),(2,.ptr 0 0),(5,.pv (.int .i64 i)),(6,.pv (.bool ((b.v.take k).contains ns[i]))),(7,.pv (.int .i64 k))] [.obj (.box [.pv (enc b.v),.pv (.int .i64 b.m)])]:=by
 intro d
 induction d with
 | zero=>
  intro k hk
  obtain rfl:k=b.v.length:=by omega
  rw[List.take_length]
  refine TW b ns i b.v.length _ (ZK (Xk (by omega)) (X7 (fun h=>ZM (hyes h).symm) fun h=> ?_))
  rw[next (by omega)]
  exact hno h
 | succ d ih=>
  intro k hk
  have hkl:k<b.v.length:=by omega
  have h1:=ih (k+1) (by omega)
  have ht:(b.v.take (k+1)).contains ns[i]=((b.v.take k).contains ns[i]||(b.v[k].s==ns[i].s)):=by
   rw[List.take_succ_eq_append_getElem hkl]
   have e:((b.v[k].s==ns[i].s):Bool)=(b.v[k]==ns[i]):=by
    rw[Bool.eq_iff_iff]
    simp only[beq_iff_eq]
    constructor
    ·intro h
     cases hx:b.v[k];cases hy:ns[i]
     rw[hx,hy]at h
     exact congrArg Str.mk h
    ·intro h;rw[h]
   rw[e]
   rw[Bool.eq_iff_iff]
   simp only[List.contains_iff_mem,List.mem_append,List.mem_singleton,Bool.or_eq_true,beq_iff_eq]
   exact⟨fun h=>h.imp_right Eq.symm,fun h=>h.imp_right Eq.symm⟩
  refine TW b ns i k _ (ZC (YV hkl) (X3 (fun h=> ?_) fun h=>⟨Zt hkl rfl,Zx hkl ⟨Zt hi rfl,Zx hi ?_⟩⟩))
  ·rw[ht,h,Bool.true_or]at h1
   rw[next (by omega)]
   exact h1
  ·rw[ht,h,Bool.false_or]at h1
   rw[next (by omega)]
   exact h1
theorem Ms(b:BoxT)(ns:List Str)(hl:b.v.length<=9223372036854775807)(hn:ns.length<=9223372036854775807): ∀ (d i:Nat),d+i=ns.length ->
  At XD 0 (Za Y4 (Zg (YG b.v (ns.drop i)))) Y3 0 36 [(1,.pv (enc ns)),(2,.ptr 0 0),(5,.pv (.int .i64 i))] [.obj (.box [.pv (enc b.v),.pv (.int .i64 b.m)])]:=by
 intro d
 induction d with
 | zero=>
  intro i hi
  rw[List.drop_of_length_le (by omega)]
  exact Rb b ns i (ZK (Xk (by omega)) (ZM rfl))
 | succ d ih=>
  intro i hi
  have hlt:i<ns.length:=by omega
  have hd:ns.drop i=ns[i]::ns.drop (i+1):=List.drop_eq_getElem_cons hlt
  have e:YG b.v (ns.drop i)=(b.v.contains ns[i]&&YG b.v (ns.drop (i+1))):=by rw[hd];rfl
  rw[e]
  refine Rb b ns i (ZC (YV hlt) ?_)
  have:=a8f b ns (b.v.contains ns[i]&&YG b.v (ns.drop (i+1))) hlt hl hn (fun h=>by rw[h];rfl) (fun h=>by rw[h,Bool.true_and];exact ih (i+1) (by omega)) b.v.length 0 (by omega)
  exact this
theorem OC: ∀ a:BoxT×List Str×Unit,(Zn a.1.v&&Zn a.2.1)=true->Zc XD 0 (Za Y4 (Zg (YG a.1.v a.2.1))) Y3 [] (Ye a7r (encL a)):=by
 rintro⟨b,ns,⟨⟩⟩ h
 simp only[Bool.and_eq_true]at h
 exact a9g b ns (Ms b ns (Zy.1 h.1) (Zy.1 h.2) ns.length 0 (by omega))
end Go.Pl

namespace Go.Pl
open Go.RowKit
open Enc (enc dec is)
open EncL (encL decL isL)
theorem Pz(b:BoxT)(p:List Int)(hb:b.v.length<=1000)(hp:p.length<=1000): ∀ (k i:Nat),k+i=min b.v.length p.length->1<=i ->
  At YF 1 (WF 1 Yn fun r=> ∃ q q',r.1 = .pv q∧Sub q q'∧((.pv (.sl 2 false ((Ze b.v p).map enc)),[.row false 3 1 (p.map enc)],[]):AV×List AObj×List AObj)=(.pv q',r.2)) Yl 0 34 [(1,.row 0 p.length 0 p.length),(2,.ptr 1 0),(5,.row 2 i 0 i),(6,.pv (.int .i64 i))] [.obj (.row false 3 1 (p.map enc)),.obj (.box [.pv (enc b.v),.pv (.int .i64 b.m)]),.obj (.row false 63 2 ((Ze (b.v.take i) (p.take i)).map enc))]:=by
 intro k
 induction k with
 | zero=>
  intro i hi h1
  have hl:=Uj b.v p (i:=i) (by omega) (by omega)
  have fin : ∀ os,∃ q q',(AV.pv (PV.sl 2 false (List.drop 0 (List.take i (List.map (enc:Coef->PV) (Ze (b.v.take i) (p.take i))))))) = .pv q∧Sub q q'∧((.pv (.sl 2 false ((Ze b.v p).map enc)),os):AV×List AObj×List AObj)=(.pv q',os):=by
   intro os
   rw[List.drop_zero,List.take_of_length_le (by rw[List.length_map,hl];exact Nat.le_refl _),Gu b.v p (by omega)]
   exact⟨_,_,rfl,Sub.refl _,rfl⟩
  by_cases hbl:i<b.v.length
  ·exact KL b p.length p i i (Ze (b.v.take i) (p.take i)) (ZC (YV hbl) (ZK (Z4 (by omega)) ⟨by simp[hl],fin _⟩))
  ·exact KL b p.length p i i (Ze (b.v.take i) (p.take i)) (ZK (Xk hbl) ⟨by simp[hl],fin _⟩)
 | succ k ih=>
  intro i hi h1
  have hl:=Uj b.v p (i:=i) (by omega) (by omega)
  have hlt:i<b.v.length:=by omega
  have hlt2:i<p.length:=by omega
  have e:=UM hlt2
  refine KL b p.length p i i (Ze (b.v.take i) (p.take i)) (ZC (YV hlt) (ZC (ZW (by omega)) ⟨Zt hlt rfl,Zx hlt ⟨by simp;omega,by simp;omega,?_,?_,?_⟩⟩))
  ·rw[e];rfl
  ·rw[List.length_map,hl]
   show((i==i)&&(i==i)&&decide ((i+1)*24<=1099511627776)&&decide (i+1<=1099511627776))=true
   rw[decide_eq_true (by omega),decide_eq_true (by omega)];simp
  ·have:=ih (i+1) (by omega) (by omega)
   rw[WZ b.v p hlt hlt2,List.map_append,<- next (by omega)]at this
   rw[e]
   exact this
theorem Fs: ∀ args os,XX args os=true->Zc YF os.length (WF os.length Yn fun r=> ∃ p p',r.1 = .pv p∧Sub p p'∧Ua args os=(.pv p',r.2)) Yl [] (YK Ru args os):=by
 intro args os h
 unfold XX at h
 split at h
 ·rename_i v k n m ty xs
  simp only[Bool.and_eq_true,beq_iff_eq,decide_eq_true_eq]at h
  obtain⟨⟨⟨⟨⟨⟨rfl,h2⟩,rfl⟩,h4⟩,h5⟩,h6⟩,h7⟩:=h
  obtain⟨p,hp⟩:=Yr h4
  have hp:PV.sl 1 false xs=PV.sl 1 false (p.map enc):=hp
  injection hp with _ _ hx
  subst hx
  obtain⟨bv,rfl⟩:=Yr h5
  rw[Enc.dec_enc]at h6
  rw[List.length_map]at h2
  subst h2
  have ev:Ua [.pv (.agg [enc bv,.int .i64 k]),.row 0 p.length 0 p.length] [.row false 3 1 (p.map enc)]=(.pv (.sl 2 false ((Ze bv p).map enc)),[.row false 3 1 (p.map enc)],[]):=by
   show(AV.pv (.sl 2 false ((Ze (dec (enc bv:PV)) (BJ (p.map enc))).map enc)),_,_)=_
   rw[Enc.dec_enc,GL]
  rw[ev]
  refine a6h ⟨bv,k⟩ p.length p ?_
  by_cases h0:min bv.length p.length=0
  ·have hz:Ze bv p=[]:=by
    rw[<- List.length_eq_zero_iff];unfold Ze;rw[List.length_zipWith];exact h0
   rw[hz]
   by_cases hbl:0<bv.length
   ·exact KT ⟨bv,k⟩ p.length p ((0:Nat):Int) (ZC (YV hbl) (ZK (Z4 (by omega)) ⟨_,_,rfl,Sub.sl0 0 2 true,rfl⟩))
   ·exact KT ⟨bv,k⟩ p.length p ((0:Nat):Int) (ZK (Xk hbl) ⟨_,_,rfl,Sub.sl0 0 2 true,rfl⟩)
  ·have hlt:0<bv.length:=by omega
   have hlt2:0<p.length:=by omega
   have e:=UM hlt2
   refine KT ⟨bv,k⟩ p.length p ((0:Nat):Int) (ZC (YV hlt) (ZC (ZW (by omega)) ⟨Zt hlt rfl,Zx hlt ⟨by simp;omega,by simp;omega,?_,?_⟩⟩))
   ·rw[e];rfl
   ·have:=Pz ⟨bv,k⟩ p h6 h7 (min bv.length p.length - 1) 1 (by show min bv.length p.length - 1+1=min bv.length p.length;omega) (by omega)
    rw[show(1:Nat)=0+1 from rfl,WZ bv p hlt hlt2]at this
    rw[e]
    exact this
 ·cases h
theorem FC(l:Lin)(hl:l.t.length<=1000000): ∀ (k i:Nat),k+i=l.t.length->1<=i ->
  At Vz 0 (Za Wx (Zg (Zd l))) Ws 0 22 [(1,.ptr 0 0),(3,.row 1 i 0 i),(4,.pv (.int .i64 i))] [.obj (.box [.pv (.int .i64 l.k),.pv (enc l.t)]),.obj (.row false 9 1 ((Oa l i).map enc))]:=by
 intro k
 induction k with
 | zero=>
  intro i hi h1
  obtain rfl:i=l.t.length:=by omega
  refine Al l _ _ (Oa l l.t.length) (ZK (Xk (by omega)) ⟨by simp[KY],?_⟩)
  rw[List.drop_zero,List.take_of_length_le (by rw[List.length_map,KY l (Nat.le_refl _)];exact Nat.le_refl _),Pk]
  exact ZQ (x:=Zd l) rfl
 | succ k ih=>
  intro i hi h1
  have hlt:i<l.t.length:=by omega
  refine Al l i i (Oa l i) (ZC (YV hlt) ⟨Zt hlt rfl,Zx hlt ⟨SB (m:=1) (by rw[List.length_map,KY l (by omega)]) (by omega) (by omega),?_⟩⟩)
  have:=ih (i+1) (by omega) (by omega)
  rw[Jg l hlt,<- next (by omega)]at this
  exact this
theorem Ot: ∀ a:Lin×Unit,decide (a.1.t.length<=1000000)=true->Zc Vz 0 (Za Wx (Zg (Zd a.1))) Ws [] (Ye a4g (encL a)):=by
 rintro⟨l,⟨⟩⟩ h
 have h:l.t.length<=1000000:=of_decide_eq_true h
 refine a9o l ?_
 by_cases h0:l.t.length=0
 ·refine Sm l ((0:Nat):Int) (ZK (Xk (by omega)) ?_)
  have:Zd l=[]:=by unfold Zd;rw[List.length_eq_zero_iff.1 h0];rfl
  rw[this]
  exact⟨rfl,rfl⟩
 ·have hlt:0<l.t.length:=by omega
  refine Sm l ((0:Nat):Int) (ZC (YV hlt) ⟨Zt hlt rfl,Zx hlt ?_⟩)
  have:=FC l h (l.t.length - 1) 1 (by omega) (by omega)
  rw[show(1:Nat)=0+1 from rfl,Jg l hlt]at this
  exact this
theorem MB(l:Lin)(s:List UInt8)(hl:l.t.length<=9223372036854775807): ∀ (k i:Nat),k+i=l.t.length ->
  At UO 0 (Za VY (Zg (Xt (l.t.drop i) s))) VV 0 27 [(1,.pv (.str s)),(2,.ptr 0 0),(5,.pv (.int .i64 i))] [.obj (.box [.pv (.int .i64 l.k),.pv (enc l.t)])]:=by
 intro k
 induction k with
 | zero=>
  intro i hi
  rw[List.drop_of_length_le (by omega)]
  exact Rs l s i (ZK (Xk (by omega)) (Uu rfl))
 | succ k ih=>
  intro i hi
  have hlt:i<l.t.length:=by omega
  have h:=ih (i+1) (by omega)
  rw[List.drop_eq_getElem_cons hlt,YA]
  refine Rs l s i (ZC (YV hlt) ⟨Zt hlt rfl,Zx hlt (Ka (fun h1=> ?_) fun h1=> ?_)⟩)
  ·have h1:l.t[i].v.s=s:=h1
   rw[if_pos h1]
   exact⟨Zt hlt rfl,Zx hlt (Uu rfl)⟩
  ·have h1 : ¬ l.t[i].v.s=s:=h1
   rw[if_neg h1,next (by omega)]
   exact h
theorem OJ: ∀ a:Lin×Str×Unit,Zn a.1.t=true->Zc UO 0 (Za VY (Zg (Xt a.1.t a.2.1.s))) VV [] (Ye a4q (encL a)):=by
 rintro⟨l,⟨s⟩,⟨⟩⟩ h
 exact a9h l s (MB l s (Zy.1 h) l.t.length 0 (by omega))
theorem b7g(l:Lin)(s:Str):(Q8 l s).t.length<=l.t.length+1:=by
 unfold Q8
 split
 ·exact AA l s 1
 ·omega
def a9u(l:Lin)(k:Int)(p:PV):Prop:=is (List Coef) p=true∧(dec p:List Coef)=l.t∧k=l.k
theorem LQ{l:Lin}{k:Int}{p:PV}(h:a9u l k p):(dec (.agg [.int .i64 k,p]):Lin)=l∧is Lin (.agg [.int .i64 k,p])=true:=by
 obtain⟨h1,h2,h3⟩:=h
 refine⟨?_,?_⟩
 ·show(⟨k,dec p⟩:Lin)=l
  rw[h2,h3]
 ·show(true&&is (List Coef) p)=true
  rw[h1];rfl
theorem b7d(l:Lin):a9u l l.k (enc l.t):=⟨Enc.is_enc _,Enc.dec_enc _,rfl⟩
def JC(o l:Lin):Lin:=(Zd l).foldl Q8 o
theorem a8j(ls:List Lin)(hls:ls.length<=1000)(hl : ∀ l∈ls,l.t.length<=1000)(R:List Str){i:Nat}(hi:i<ls.length)
  (hnext : ∀ l k p,a9u l k p->l=l->l.t.length<=1000*(i+1)->R=Zd ((ls.drop (i+1)).foldl JC l)->At Xx 0 (Za Y2 (Zg R)) Y1 0 41 [(0,.pv (enc ls)),(3,.ptr 0 0),(4,.pv (.int .i64 ((i+1:Nat):Int)))] [.obj (.box [.pv (.int .i64 k),.pv p])]) :
  ∀ (d j:Nat) (l:Lin) (k:Int) (p:PV),d+j=ls[i].t.length->a9u l k p->l.t.length<=1000*i+j->R=Zd ((ls.drop (i+1)).foldl JC (((Zd ls[i]).drop j).foldl Q8 l)) ->
  At Xx 0 (Za Y2 (Zg R)) Y1 1 41 [(0,.pv (enc ls)),(3,.ptr 0 0),(4,.pv (.int .i64 i)),(5,.pv (.int .i64 j))] [.obj (.box [.pv (.int .i64 k),.pv p])]:=by
 have hli:=hl _ (List.getElem_mem hi)
 have hnl:(Zd ls[i]).length=ls[i].t.length:=by unfold Zd;rw[List.length_map]
 intro d
 induction d with
 | zero=>
  intro j l k p hd hp hlen hR
  refine RO ls k p i j ⟨Zt hi rfl,Zx hi (ZK (Xk (show ¬ j<ls[i].t.length by omega)) ?_)⟩
  rw[next (by omega)]
  refine hnext l k p hp rfl (by omega) ?_
  rw[hR,List.drop_of_length_le (by omega)]
  rfl
 | succ d ih=>
  intro j l k p hd hp hlen hR
  have hj:j<ls[i].t.length:=by omega
  have e1:List.getD (List.map (enc:Coef->PV) ls[i].t) (Int.toNat (j:Int)) default=enc ls[i].t[j]:=by simp[List.getD,hj]
  obtain⟨q1,q2⟩:=LQ hp
  have hdr:(Zd ls[i]).drop j=ls[i].t[j].v::(Zd ls[i]).drop (j+1):=by
   rw[List.drop_eq_getElem_cons (by omega)]
   unfold Zd
   rw[List.getElem_map]
  rw[hdr,List.foldl_cons]at hR
  refine RO ls k p i j ⟨Zt hi rfl,Zx hi (ZC (YV hj) ⟨Zt hi rfl,Zx hi ⟨?_,?_,?_⟩⟩)⟩
  ·show(decide (0<=(j:Int))&&decide (Int.toNat (j:Int)<List.length (List.map (enc:Coef->PV) ls[i].t))&&2==2)=true
   simp;omega
  ·show(decide (0+List.length [Sh.str]<=List.length (List.drop 0 (PV.cells (List.getD (List.map (enc:Coef->PV) ls[i].t) (Int.toNat (j:Int)) default))))&&Xa (List.drop 0 (PV.cells (List.getD (List.map (enc:Coef->PV) ls[i].t) (Int.toNat (j:Int)) default))) 0 [Sh.str])=true
   rw[e1];rfl
  ·have es:PV.asStr (List.getD (List.drop 0 (PV.cells (List.getD (PV.asXs (List.getD (List.drop 1 (PV.cells (enc ls[i]))) 0 default)) (Int.toNat (j:Int)) default))) 0 default)=ls[i].t[j].v.s:=by
    show PV.asStr (List.getD (List.drop 0 (PV.cells (List.getD (List.map (enc:Coef->PV) ls[i].t) (Int.toNat (j:Int)) default))) 0 default)=_
    rw[e1];rfl
   rw[es]
   refine⟨CK (l,ls[i].t[j].v,()) ?_ ?_ (Zy.2 (by show l.t.length<=_;omega)),Dy (l,ls[i].t[j].v,()) ?_ (Ka (fun h=> ?_) fun h=> ?_)⟩
   ·show(is Lin _&&(true&&true))=true
    rw[q2];rfl
   ·exact congrArg (fun z:Lin=>(z,ls[i].t[j].v,())) q1
   ·exact congrArg (fun z:Lin=>(z,ls[i].t[j].v,())) q1
   ·have h:Xt l.t ls[i].t[j].v.s=0:=h
    have hput:Q8 l ls[i].t[j].v=Vm l ls[i].t[j].v 1:=by unfold Q8;rw[if_pos h]
    refine⟨CK (l,ls[i].t[j].v,1,()) ?_ ?_ (by simp;omega),Dy (l,ls[i].t[j].v,1,()) ?_ ?_⟩
    ·show(is Lin _&&(true&&(true&&true)))=true
     rw[q2];rfl
    ·exact congrArg (fun z:Lin=>(z,ls[i].t[j].v,(1:Int),())) q1
    ·exact congrArg (fun z:Lin=>(z,ls[i].t[j].v,(1:Int),())) q1
    ·rw[next (by omega)]
     rw[hput]at hR
     have:=AA l ls[i].t[j].v 1
     exact ih (j+1) _ _ _ (by omega) (b7d _) (by show(Vm l ls[i].t[j].v 1).t.length<=_;omega) hR
   ·have h : ¬ Xt l.t ls[i].t[j].v.s=0:=h
    have hput:Q8 l ls[i].t[j].v=l:=by unfold Q8;rw[if_neg h]
    rw[next (by omega)]
    rw[hput]at hR
    exact ih (j+1) _ _ _ (by omega) hp (by omega) hR
theorem LB(ls:List Lin)(hls:ls.length<=1000)(hl : ∀ l∈ls,l.t.length<=1000): ∀ (d i:Nat) (l:Lin) (k:Int) (p:PV) (R:List Str),d+i=ls.length->a9u l k p->l.t.length<=1000*i->R=Zd ((ls.drop i).foldl JC l) ->
  At Xx 0 (Za Y2 (Zg R)) Y1 0 41 [(0,.pv (enc ls)),(3,.ptr 0 0),(4,.pv (.int .i64 i))] [.obj (.box [.pv (.int .i64 k),.pv p])]:=by
 intro d
 induction d with
 | zero=>
  intro i l k p R hi hp hlen hR
  obtain⟨q1,q2⟩:=LQ hp
  rw[List.drop_of_length_le (by omega)]at hR
  refine TJ ls k p i (ZK (Xk (by omega)) ⟨CK (l,()) ?_ ?_ (by simp;omega),Dy (l,()) ?_ ?_⟩)
  ·show(is Lin _&&true)=true
   rw[q2];rfl
  ·exact congrArg (fun z:Lin=>(z,())) q1
  ·exact congrArg (fun z:Lin=>(z,())) q1
  ·rw[hR]
   exact ZQ (x:=Zd l) rfl
 | succ d ih=>
  intro i l k p R hi hp hlen hR
  have hlt:i<ls.length:=by omega
  rw[List.drop_eq_getElem_cons hlt,List.foldl_cons]at hR
  refine TJ ls k p i (ZC (YV hlt) ?_)
  exact a8j ls hls hl R hlt (fun l' k' p' hp' _ hlen' hR'=>ih (i+1) l' k' p' R (by omega) hp' hlen' hR') ls[i].t.length 0 l k p (by omega) hp (by omega) hR
theorem a0u: ∀ a:List Lin×Unit,Vo a.1=true->Zc Xx 0 (Za Y2 (Zg (Ux a.1))) Y1 [] (Ye a4l (encL a)):=by
 rintro⟨ls,⟨⟩⟩ h
 simp only[Vo,Bool.and_eq_true,decide_eq_true_eq,List.all_eq_true]at h
 obtain⟨h1,h2⟩:=h
 exact b2s ls (LB ls h1 h2 ls.length 0 ⟨0,[]⟩ 0 _ _ (by omega) ⟨rfl,rfl,rfl⟩ (by simp) rfl)
theorem N8{α:Type}[DecidableEq α](x y:α)(a b:List α):decide (x::a=y::b)=(decide (x=y)&&decide (a=b)):=by
 rw[Bool.eq_iff_iff];simp
theorem F7(a b:List Int)(ha:a.length<=9223372036854775807)(hab:a.length=b.length): ∀ (k i:Nat),k+i=a.length ->
  At U3 0 (Za VM (Zg (decide (a.drop i=b.drop i)))) VU 0 26 [(0,.pv (enc a)),(1,.pv (enc b)),(5,.pv (.int .i64 i))] []:=by
 intro k
 induction k with
 | zero=>
  intro i hi
  rw[List.drop_of_length_le (by omega),List.drop_of_length_le (by omega)]
  exact Rf a b i (ZK (Xk (by omega)) (ZM rfl))
 | succ k ih=>
  intro i hi
  have hlt:i<a.length:=by omega
  have hlt2:i<b.length:=by omega
  have h:=ih (i+1) (by omega)
  rw[List.drop_eq_getElem_cons hlt,List.drop_eq_getElem_cons hlt2,N8]
  refine Rf a b i (ZC (YV hlt) ⟨Zt hlt rfl,Zx hlt ⟨Zt hlt2 rfl,Zx hlt2 ?_⟩⟩)
  show if (a[i] != b[i])=true then _ else _
  by_cases e:a[i]=b[i]
  ·rw[if_neg (by simp[e]),next (by omega),decide_eq_true e,Bool.true_and]
   exact h
  ·rw[if_pos (by simp[e]),decide_eq_false e,Bool.false_and]
   exact ZM rfl
theorem OQ: ∀ x:List Int×List Int×Unit,Zn x.1=true->Zc U3 0 (Za VM (Zg (decide (x.1=x.2.1)))) VU [] (Ye a7b (encL x)):=by
 rintro⟨a,b,⟨⟩⟩ h
 refine a9r a b ?_
 simp only[List.length_map]
 by_cases e:a.length=b.length
 ·rw[if_neg (by simp[e])]
  exact F7 a b (Zy.1 h) e a.length 0 (by omega)
 ·rw[if_pos (by simp;omega)]
  exact ZM (by simp;rintro rfl;exact e rfl)
theorem PM(a b:List (List Int))(ha:a.length<=9223372036854775807)(hl : ∀ x∈a,Zn x=true)(hab:a.length=b.length): ∀ (k i:Nat),k+i=a.length ->
  At V6 0 (Za WW (Zg (decide (a.drop i=b.drop i)))) WX 0 27 [(0,.pv (enc a)),(1,.pv (enc b)),(5,.pv (.int .i64 i))] []:=by
 intro k
 induction k with
 | zero=>
  intro i hi
  rw[List.drop_of_length_le (by omega),List.drop_of_length_le (by omega)]
  exact AY a b i (ZK (Xk (by omega)) (ZM rfl))
 | succ k ih=>
  intro i hi
  have hlt:i<a.length:=by omega
  have hlt2:i<b.length:=by omega
  have h:=ih (i+1) (by omega)
  rw[List.drop_eq_getElem_cons hlt,List.drop_eq_getElem_cons hlt2,N8]
  refine AY a b i (ZC (YV hlt) ⟨Zt hlt rfl,Zx hlt ⟨Zt hlt2 rfl,Zx hlt2 ⟨Zj (a[i],b[i],()) rfl (hl _ (List.getElem_mem hlt)),Zh (a[i],b[i],()) rfl ?_⟩⟩⟩)
  show if (!(decide (a[i]=b[i])))=true then _ else _
  by_cases e:a[i]=b[i]
  ·rw[if_neg (by simp[e]),next (by omega),decide_eq_true e,Bool.true_and]
   exact h
  ·rw[if_pos (by simp[e]),decide_eq_false e,Bool.false_and]
   exact ZM rfl
theorem MK: ∀ x:List (List Int)×List (List Int)×Unit,(Zn x.1&&x.1.all Zn)=true->Zc V6 0 (Za WW (Zg (decide (x.1=x.2.1)))) WX [] (Ye a0c (encL x)):=by
 rintro⟨a,b,⟨⟩⟩ h
 simp only[Bool.and_eq_true,List.all_eq_true]at h
 refine a6b a b ?_
 simp only[List.length_map]
 by_cases e:a.length=b.length
 ·rw[if_neg (by simp[e])]
  exact PM a b (Zy.1 h.1) h.2 e a.length 0 (by omega)
 ·rw[if_pos (by simp;omega)]
  exact ZM (by simp;rintro rfl;exact e rfl)
def b0d(m:Int):Nat->Int->Int
 | 0,n=>n
 | k+1,n=>b0d m k (DJ (n*DJ (m+1)))
theorem Hm(b:BoxT)(fs:List Fact)(hl:b.v.length<=9223372036854775807)(hf:YZ fs=true)(n:Int){P:Prop}{G:PV->Prop}(hG : ∀ x,x=(decide (b.v.length<=5)&&decide (n<=300)&&decide (fs.length<=6)&&Cj fs 6)->G (.bool x)):
  if (decide ((↑(List.length (List.map (enc:Str->PV) (BoxT.v b))):Int)<=5))=true then if (decide (n<=300))=true then if (decide ((↑(List.length (List.map (enc:Fact->PV) fs)):Int)<=6))=true then
   (Go.Pl.preT (fun(x:List Fact×Int×Unit)=>YZ (Prod.fst x)) [(.sl 3 false (List.map enc fs)),(.int .i64 6)])=true∧(∃ y1:Bool,AV.pv (Zf (fun(x:List Fact×Int×Unit)=>Cj (Prod.fst x) (Prod.fst (Prod.snd x))) [(.sl 3 false (List.map enc fs)),(.int .i64 6)])=AV.pv (enc y1)∧(G ((.bool y1))))else(G ((.bool false)))else(G ((.bool false)))else(G ((.bool false))):=by
 simp only[List.length_map]
 refine WJ (fun h1=>WJ (fun h2=>WJ (fun h3=>⟨Zj (fs,6,()) rfl hf,Zh (fs,6,()) rfl (hG _ ?_)⟩) fun h3=>hG _ ?_) fun h2=>hG _ ?_) fun h1=>hG _ ?_
 ·rw[decide_eq_true (show b.v.length<=5 by omega),decide_eq_true h2,decide_eq_true (show fs.length<=6 by omega)];rfl
 ·rw[decide_eq_false (show ¬ fs.length<=6 by omega)];simp
 ·rw[decide_eq_false h2];simp
 ·rw[decide_eq_false (show ¬ b.v.length<=5 by omega)];simp
theorem MI(b:BoxT)(fs:List Fact)(hb:ZG b=true)(hv:YI b=true)(hf:YZ fs=true): ∀ (k i:Nat) (n:Int),k+i=b.v.length ->
  At Vn 0 (Za Wz (Zg (decide (b.v.length<=5)&&decide (b0d b.m k n<=300)&&decide (fs.length<=6)&&Cj fs 6))) V9 0 40 [(1,.pv (enc fs)),(2,.ptr 0 0),(5,.pv (.int .i64 n)),(6,.pv (.int .i64 i))] [.obj (.box [.pv (enc b.v),.pv (.int .i64 b.m)])]:=by
 have hbo:=hb
 simp only[ZG,WC,Bool.and_eq_true]at hb
 have hl:=Zy.1 hb.1
 intro k
 induction k with
 | zero=>
  intro i n hi
  exact Jm b fs n i (ZK (Xk (by omega)) (Hm (P:=True) b fs hl hf n fun x hx=>ZM hx))
 | succ k ih=>
  intro i n hi
  have hlt:i<b.v.length:=by omega
  refine Jm b fs n i (ZC (YV hlt) ⟨Zj (b,()) rfl hbo,Zh (b,()) rfl (ZC hv ?_)⟩)
  rw[next (by omega)]
  exact ih (i+1) _ (by omega)
theorem Mt(m:Nat): ∀ (l:List Str) (n r:Int),0<=n->n<=20000->JQ m l n=some r->m<=20000->b0d m l.length n=a2n m l n
 | [],n,r,_,_,_,_=>rfl
 | s::l,n,r,h0,h1,h,hm=>by
  rw[JQ]at h
  split at h
  ·cases h
  ·rename_i hn
   show b0d m l.length (DJ (n*DJ ((m:Int)+1)))=a2n m l (n*((m:Int)+1))
   have e0:0<=n*((m:Int)+1):=Int.mul_nonneg h0 (by omega)
   rw[XJ (n:=(m:Int)+1) (by omega) (by omega),XJ (by omega) (by omega)]
   exact Mt m l _ r e0 (by omega) h hm
theorem Oh: ∀ x:BoxT×List Fact×Unit,(ZG x.1&&YZ x.2.1)=true->Zc Vn 0 (Za Wz (Zg (Qj x.1 x.2.1))) V9 [] (Ye a5e (encL x)):=by
 rintro⟨b,fs,⟨⟩⟩ h
 simp only[Bool.and_eq_true]at h
 obtain⟨hb,hf⟩:=h
 have hbo:=hb
 simp only[ZG,WC,Bool.and_eq_true]at hb
 have hl:=Zy.1 hb.1
 refine b6o b fs ?_
 cases hv:YI b
 ·have ef:Qj b fs=(decide (b.v.length<=5)&&decide ((1:Int)<=300)&&decide (fs.length<=6)&&Cj fs 6):=by unfold Qj;rw[hv];rfl
  show At Vn 0 (Za Wz (Zg (Qj b fs))) _ _ _ _ _
  rw[ef]
  by_cases h0:0<b.v.length
  ·refine Jm b fs 1 ((0:Nat):Int) (ZC (YV h0) ⟨Zj (b,()) rfl hbo,Zh (b,()) rfl (ZK (show ¬ YI b=true by simp[hv]) ?_)⟩)
   exact Hm (P:=True) b fs hl hf 1 fun x hx=>ZM hx
  ·exact Jm b fs 1 ((0:Nat):Int) (ZK (Xk h0) (Hm (P:=True) b fs hl hf 1 fun x hx=>ZM hx))
 ·have ef:Qj b fs=(decide (b.v.length<=5)&&decide (b0d b.m b.v.length 1<=300)&&decide (fs.length<=6)&&Cj fs 6):=by
   unfold Qj
   rw[hv,if_pos rfl]
   obtain⟨_,_,h3,h4,h5⟩:=Us.1 hv
   obtain⟨r,hr⟩:=Option.isSome_iff_exists.1 h5
   rcases h3 with h3|h3
   ·rw[h3];rfl
   ·have e:b.m=(b.m.toNat:Int):=by omega
    rw[e]at hr ⊢
    rw[Mt _ _ _ _ (by decide) (by decide) hr (by omega)]
  show At Vn 0 (Za Wz (Zg (Qj b fs))) _ _ _ _ _
  rw[ef]
  exact MI b fs hbo hv hf b.v.length 0 1 (by omega)
end Go.Pl

namespace Go.Pl
open Go.RowKit
open Enc (enc dec is)
open EncL (encL decL isL)
set_option maxRecDepth 100000
def Wl:IC:=(.seq (.reg [⟨(some 4),(.box 2 (.t 0)),0,none⟩,⟨(some 6),(.box 2 (.t 2)),1,none⟩,⟨(some 8),(.mv (.c (.int .i64 0))),2,none⟩] none) (.seq (.seq (.reg [⟨(some 11),(.load true [(.sl 1),(.int .i64)] (.t 4)),0,none⟩,⟨(some 12),(.call (.c (.fn 51)) [(.t 11)]),0,none⟩,⟨(some 13),(.un .not (.t 12)),2,none⟩,⟨(some 14),(.mv (.t 13)),2,none⟩,⟨(some 15),(.mv (.t 1)),2,(some (14,false))⟩,⟨(some 16),(.call (.c (.fn 35)) [(.t 15)]),2,(some (14,false))⟩,⟨(some 17),(.un .not (.t 16)),4,(some (14,false))⟩,⟨(some 18),(.pick (.t 14) (.c (.bool true)) (.t 17)),4,none⟩,⟨(some 19),(.mv (.t 18)),4,none⟩,⟨(some 20),(.load true [(.int .i64),(.sl 2)] (.t 6)),4,(some (19,false))⟩,⟨(some 21),(.call (.c (.fn 20)) [(.t 20)]),4,(some (19,false))⟩,⟨(some 22),(.un .not (.t 21)),6,(some (19,false))⟩,⟨(some 23),(.pick (.t 19) (.c (.bool true)) (.t 22)),6,none⟩,⟨(some 24),(.mv (.t 23)),6,none⟩,⟨(some 25),(.mv (.t 3)),6,(some (24,false))⟩,⟨(some 26),(.call (.c (.fn 131)) [(.t 25)]),6,(some (24,false))⟩,⟨(some 27),(.un .not (.t 26)),8,(some (24,false))⟩,⟨(some 28),(.pick (.t 24) (.c (.bool true)) (.t 27)),8,none⟩] none) (.cond (.t 28) (.seq (.reg [⟨(some 8),(.mv (.c (.int .i64 1))),0,none⟩] none) .ret) .skip)) (.seq (.reg [⟨(some 9),(.mv (.c (.sl 0 true []))),0,none⟩] none) (.seq (.seq (.reg [⟨(some 10),(.mv (.c (.int .i64 0))),0,none⟩] none) (.block 0 (.loop [10,1,9,4,6,3] (.seq (.seq (.reg [⟨(some 29),(.mv (.t 10)),0,none⟩,⟨(some 30),(.mv (.t 1)),0,none⟩,⟨(some 31),(.len 1 (.t 30)),0,none⟩,⟨(some 32),(.bin .num .lss (.t 29) (.t 31)),0,none⟩] none) (.cond (.t 32) .skip (.exit 0))) (.seq (.block 1 (.reg [⟨(some 35),(.mv (.t 9)),0,none⟩,⟨(some 36),(.mv (.t 1)),0,none⟩,⟨(some 37),(.mv (.t 10)),0,none⟩,⟨(some 38),(.iaddr 3 (.t 36) (.t 37)),0,none⟩,⟨(some 39),(.faddr 1 (.t 38)),0,none⟩,⟨(some 40),(.load true [(.int .i64),(.sl 2)] (.t 39)),0,none⟩,⟨(some 41),(.bslice 24 2 1 (.agg [(.int .i64 0),(.sl 0 true [])]) [(0,(.t 40))]),0,none⟩,⟨(some 42),(.append 24 2 32 (.t 35) (.t 41)),1,none⟩,⟨(some 9),(.mv (.t 42)),2,none⟩] none)) (.reg [⟨(some 33),(.mv (.t 10)),0,none⟩,⟨(some 34),(.bin .num .add (.t 33) (.c (.int .i64 1))),0,none⟩,⟨(some 10),(.mv (.t 34)),0,none⟩] none)))))) (.seq (.seq (.reg [⟨(some 43),(.load true [(.sl 1),(.int .i64)] (.t 4)),0,none⟩,⟨(some 44),(.mv (.t 9)),0,none⟩,⟨(some 45),(.load true [(.int .i64),(.sl 2)] (.t 6)),0,none⟩,⟨(some 46),(.bslice 24 2 1 (.agg [(.int .i64 0),(.sl 0 true [])]) [(0,(.t 45))]),0,none⟩,⟨(some 47),(.append 24 2 32 (.t 44) (.t 46)),1,none⟩,⟨(some 48),(.call (.c (.fn 180)) [(.t 47)]),2,none⟩,⟨(some 49),(.call (.c (.fn 179)) [(.t 43),(.t 48)]),4,none⟩,⟨(some 50),(.un .not (.t 49)),6,none⟩,⟨(some 51),(.mv (.t 50)),6,none⟩,⟨(some 52),(.load true [(.sl 1),(.int .i64)] (.t 4)),6,(some (51,false))⟩,⟨(some 53),(.mv (.t 3)),6,(some (51,false))⟩,⟨(some 54),(.call (.c (.fn 181)) [(.t 53)]),6,(some (51,false))⟩,⟨(some 55),(.call (.c (.fn 179)) [(.t 52),(.t 54)]),8,(some (51,false))⟩,⟨(some 56),(.un .not (.t 55)),10,(some (51,false))⟩,⟨(some 57),(.pick (.t 51) (.c (.bool true)) (.t 56)),10,none⟩] (some [[],[],[],[2],[1,3,2],[4,1,3,2],[0,5,4,1,3,2],[6,0,5,4,1,3,2],[7,6,0,5,4,1,3,2],[8,7,6,0,5,4,1,3,2],[8,7,6,0,5,4,1,3,2],[10,8,7,6,0,5,4,1,3,2],[9,11,8,7,6,0,5,4,1,3,2,10],[12,8,9,11,7,6,0,5,4,1,3,2,10],[8,13,7,6,0,5,4,1,3,2,12,9,11,10]])) (.cond (.t 57) (.seq (.reg [⟨(some 8),(.mv (.c (.int .i64 7))),0,none⟩] none) .ret) .skip)) (.seq (.reg [⟨(some 8),(.mv (.c (.int .i64 0))),0,none⟩] none) .ret))))))
def XR:List IRes:=[(.tmp 8)]
abbrev a5o:Nat:=58
def WH:ZF:=Xe [(51,.pure (preT (fun x:BoxT×Unit=>ZG x.1)) (Zf (fun x:BoxT×Unit=>YI x.1))),(35,.pure (preT (fun x:List Fact×Unit=>Zk x.1)) (Zf (fun x:List Fact×Unit=>Yq x.1))),(20,.pure (preT (fun x:Lin×Unit=>Yt x.1)) (Zf (fun x:Lin×Unit=>Zq x.1))),(131,.pure (preT (fun x:List Mono×Unit=>Xg x.1)) (Zf (fun x:List Mono×Unit=>ZI x.1))),(180,.pure (preT (fun x:List Lin×Unit=>Vo x.1)) (Zf (fun x:List Lin×Unit=>Ux x.1))),(179,.pure (preT (fun x:BoxT×List Str×Unit=>Zn x.1.v&&Zn x.2.1)) (Zf (fun x:BoxT×List Str×Unit=>YG x.1.v x.2.1))),(181,.pure (preT (fun x:List Mono×Unit=>Xg x.1)) (Zf (fun x:List Mono×Unit=>Vf x.1)))]
theorem b1n{G:PV->Prop}(b:BoxT)(fs:List Fact)(l:Lin)(p:List Mono)(h:(Go.Pl.preT (fun(x:BoxT×Unit)=>ZG x.1) [(.agg [(.sl 1 false (List.map enc b.v)),(.int .i64 b.m)])])=true∧(∃ y0:Bool,AV.pv (Zf (fun(x:BoxT×Unit)=>YI x.1) [(.agg [(.sl 1 false (List.map enc b.v)),(.int .i64 b.m)])])=AV.pv (enc y0)∧(if (!y0)=true then G ((.int .i64 1))else((Go.Pl.preT (fun(x:List Fact×Unit)=>Zk x.1) [(.sl 3 false (List.map enc fs))])=true∧(∃ y1:Bool,AV.pv (Zf (fun(x:List Fact×Unit)=>Yq x.1) [(.sl 3 false (List.map enc fs))])=AV.pv (enc y1)∧(if (!y1)=true then G ((.int .i64 1))else((Go.Pl.preT (fun(x:Lin×Unit)=>Yt x.1) [(.agg [(.int .i64 l.k),(.sl 2 false (List.map enc l.t))])])=true∧(∃ y2:Bool,AV.pv (Zf (fun(x:Lin×Unit)=>Zq x.1) [(.agg [(.int .i64 l.k),(.sl 2 false (List.map enc l.t))])])=AV.pv (enc y2)∧(if (!y2)=true then G ((.int .i64 1))else((Go.Pl.preT (fun(x:List Mono×Unit)=>Xg x.1) [(.sl 2 false (List.map enc p))])=true∧(∃ y3:Bool,AV.pv (Zf (fun(x:List Mono×Unit)=>ZI x.1) [(.sl 2 false (List.map enc p))])=AV.pv (enc y3)∧(if (!y3)=true then G ((.int .i64 1))else(At WH 0 (Za XR G) Wl 0 58 [(1,(.pv (.sl 3 false (List.map enc fs)))),(3,(.pv (.sl 2 false (List.map enc p)))),(4,(.ptr 0 0)),(6,(.ptr 1 0)),(9,(.pv (.sl 0 true []))),(10,(.pv (.int .i64 0)))] [(.obj (.box [(.pv (.sl 1 false (List.map enc b.v))),(.pv (.int .i64 b.m))])),(.obj (.box [(.pv (.int .i64 l.k)),(.pv (.sl 2 false (List.map enc l.t)))]))]))))))))))))):Zc WH 0 (Za XR G) Wl [] (Ye 58 [enc b,enc fs,enc l,enc p]):=Zc.tp (.req (.abs (Bool) (fun YY=>AV.pv (enc YY)) (.ask (.lit (.lit (.lit (.lit (.lit (.lit (.lit (.lit (.lit (.lit (.lit (.lit (.nil))))))))))))) (.lit (.req (.abs (Bool) (fun YY=>AV.pv (enc YY)) (.lit (.lit (.ask (.lit (.lit (.lit (.lit (.lit (.lit (.lit (.lit (.nil))))))))) (.lit (.req (.abs (Bool) (fun YY=>AV.pv (enc YY)) (.lit (.lit (.ask (.lit (.lit (.lit (.lit (.nil))))) (.lit (.req (.abs (Bool) (fun YY=>AV.pv (enc YY)) (.lit (.lit (.ask (.nil) (.nil)))))))))))))))))))))) h (by kernel_rfl)
theorem AR{G:PV->Prop}(b:BoxT)(fs:List Fact)(l:Lin)(p:List Mono)(i:Int)(h:if (decide (i<(↑(List.length (List.map enc fs)):Int)))=true then(decide (0<=i)&&decide (Int.toNat i<List.length (List.map enc fs))&&Enc.sz Fact==3)=true∧(∃ y0:Fact,AV.pv (PV.rptr (PV.cells (List.getD (List.map enc fs) (Int.toNat i) default)))=AV.pv (PV.rptr (PV.cells ((enc) y0)))∧(At WH 0 (Za XR G) Wl 0 58 [(1,(.pv (.sl 3 false (List.map enc fs)))),(3,(.pv (.sl 2 false (List.map enc p)))),(4,(.ptr 0 0)),(6,(.ptr 1 0)),(9,(.row 2 1 0 1)),(10,(.pv (.int .i64 (IntKind.wrap IntKind.i64 (i+1)))))] [(.obj (.box [(.pv (.sl 1 false (List.map enc b.v))),(.pv (.int .i64 b.m))])),(.obj (.box [(.pv (.int .i64 l.k)),(.pv (.sl 2 false (List.map enc l.t)))])),(.obj (.row false 24 2 [(.agg [(.int .i64 (PV.asInt (List.getD (List.drop 1 (PV.cells (enc y0))) 0 default))),(.sl 2 false (PV.asXs (List.getD (List.drop 1 (PV.cells (enc y0))) (0+1) default)))])]))]))else((Go.Pl.preT (fun(x:List Lin×Unit)=>Vo x.1) [(.sl 2 false [(.agg [(.int .i64 l.k),(.sl 2 false (List.map enc l.t))])])])=true∧(∃ y1:List Str,AV.pv (Zf (fun(x:List Lin×Unit)=>Ux x.1) [(.sl 2 false [(.agg [(.int .i64 l.k),(.sl 2 false (List.map enc l.t))])])])=AV.pv (enc y1)∧((Go.Pl.preT (fun(x:BoxT×List Str×Unit)=>Zn x.1.v&&Zn x.2.1) [(.agg [(.sl 1 false (List.map enc b.v)),(.int .i64 b.m)]),(.sl 1 false (List.map enc y1))])=true∧(∃ y2:Bool,AV.pv (Zf (fun(x:BoxT×List Str×Unit)=>YG x.1.v x.2.1) [(.agg [(.sl 1 false (List.map enc b.v)),(.int .i64 b.m)]),(.sl 1 false (List.map enc y1))])=AV.pv (enc y2)∧(if (!y2)=true then G ((.int .i64 7))else((Go.Pl.preT (fun(x:List Mono×Unit)=>Xg x.1) [(.sl 2 false (List.map enc p))])=true∧(∃ y3:List Str,AV.pv (Zf (fun(x:List Mono×Unit)=>Vf x.1) [(.sl 2 false (List.map enc p))])=AV.pv (enc y3)∧((Go.Pl.preT (fun(x:BoxT×List Str×Unit)=>Zn x.1.v&&Zn x.2.1) [(.agg [(.sl 1 false (List.map enc b.v)),(.int .i64 b.m)]),(.sl 1 false (List.map enc y3))])=true∧(∃ y4:Bool,AV.pv (Zf (fun(x:BoxT×List Str×Unit)=>YG x.1.v x.2.1) [(.agg [(.sl 1 false (List.map enc b.v)),(.int .i64 b.m)]),(.sl 1 false (List.map enc y3))])=AV.pv (enc y4)∧(if (!y4)=true then G ((.int .i64 7))else(G ((.int .i64 0)))))))))))))):At WH 0 (Za XR G) Wl 0 58 [(1,.pv (enc fs)),(3,.pv (enc p)),(4,.ptr 0 0),(6,.ptr 1 0),(9,.pv (.sl 0 true [])),(10,.pv (.int .i64 i))] [.obj (.box [.pv (enc b.v),.pv (.int .i64 b.m)]),.obj (.box [.pv (.int .i64 l.k),.pv (enc l.t)])]:=At.tp (.lit (.ask (.req (.abs (Fact) (fun YY=>AV.pv (PV.rptr (PV.cells ((enc) YY)))) (.lit (.lit (.lit (.lit (.lit (.lit (.lit (.nil)))))))))) (.lit (.lit (.lit (.lit (.lit (.lit (.req (.abs (List Str) (fun YY=>AV.pv (enc YY)) (.req (.abs (Bool) (fun YY=>AV.pv (enc YY)) (.ask (.lit (.lit (.lit (.lit (.lit (.lit (.nil))))))) (.lit (.lit (.req (.abs (List Str) (fun YY=>AV.pv (enc YY)) (.lit (.req (.abs (Bool) (fun YY=>AV.pv (enc YY)) (.lit (.lit (.ask (.nil) (.nil)))))))))))))))))))))))) h (by kernel_rfl)
theorem SF{G:PV->Prop}(b:BoxT)(fs:List Fact)(l:Lin)(p:List Mono)(i:Int)(q:Nat)(ls:List Lin)(h:if (decide (i<(↑(List.length (List.map enc fs)):Int)))=true then(decide (0<=i)&&decide (Int.toNat i<List.length (List.map enc fs))&&Enc.sz Fact==3)=true∧(∃ y0:Fact,AV.pv (PV.rptr (PV.cells (List.getD (List.map enc fs) (Int.toNat i) default)))=AV.pv (PV.rptr (PV.cells ((enc) y0)))∧((List.length (List.map enc ls)==q&&q==q&&decide ((q+List.length (List.drop 0 (List.take 1 [PV.agg (Vk (List.drop 1 (PV.cells (enc y0))) 0 [Sh.int .i64,Sh.sl 2])])))*32<=1099511627776)&&decide (q+List.length (List.drop 0 (List.take 1 [PV.agg (Vk (List.drop 1 (PV.cells (enc y0))) 0 [Sh.int .i64,Sh.sl 2])]))<=1099511627776))=true∧(At WH 0 (Za XR G) Wl 0 58 [(1,(.pv (.sl 3 false (List.map enc fs)))),(3,(.pv (.sl 2 false (List.map enc p)))),(4,(.ptr 0 0)),(6,(.ptr 1 0)),(9,(.row 2 (q+List.length (List.drop 0 (List.take 1 [PV.agg (Vk (List.drop 1 (PV.cells (enc y0))) 0 [Sh.int .i64,Sh.sl 2])]))) 0 (q+List.length (List.drop 0 (List.take 1 [PV.agg (Vk (List.drop 1 (PV.cells (enc y0))) 0 [Sh.int .i64,Sh.sl 2])]))))),(10,(.pv (.int .i64 (IntKind.wrap IntKind.i64 (i+1)))))] [(.obj (.box [(.pv (.sl 1 false (List.map enc b.v))),(.pv (.int .i64 b.m))])),(.obj (.box [(.pv (.int .i64 l.k)),(.pv (.sl 2 false (List.map enc l.t)))])),(.obj (.row false 24 2 (List.map enc ls++List.drop 0 (List.take 1 [PV.agg (Vk (List.drop 1 (PV.cells (enc y0))) 0 [Sh.int .i64,Sh.sl 2])]))))])))else((List.length (List.map enc ls)==q&&q==q&&decide ((q+List.length (List.drop 0 (List.take 1 [PV.agg [PV.int .i64 l.k,enc l.t]])))*32<=1099511627776)&&decide (q+List.length (List.drop 0 (List.take 1 [PV.agg [PV.int .i64 l.k,enc l.t]]))<=1099511627776))=true∧((List.length (List.map enc ls++List.drop 0 (List.take 1 [PV.agg [PV.int .i64 l.k,enc l.t]]))==q+List.length (List.drop 0 (List.take 1 [PV.agg [PV.int .i64 l.k,enc l.t]])))=true∧((Go.Pl.preT (fun(x:List Lin×Unit)=>Vo x.1) [(.sl 2 false (List.drop 0 (List.take (q+List.length (List.drop 0 (List.take 1 [PV.agg [PV.int .i64 l.k,enc l.t]]))) (List.map enc ls++List.drop 0 (List.take 1 [PV.agg [PV.int .i64 l.k,enc l.t]])))))])=true∧(∃ y1:List Str,AV.pv (Zf (fun(x:List Lin×Unit)=>Ux x.1) [(.sl 2 false (List.drop 0 (List.take (q+List.length (List.drop 0 (List.take 1 [PV.agg [PV.int .i64 l.k,enc l.t]]))) (List.map enc ls++List.drop 0 (List.take 1 [PV.agg [PV.int .i64 l.k,enc l.t]])))))])=AV.pv (enc y1)∧((Go.Pl.preT (fun(x:BoxT×List Str×Unit)=>Zn x.1.v&&Zn x.2.1) [(.agg [(.sl 1 false (List.map enc b.v)),(.int .i64 b.m)]),(.sl 1 false (List.map enc y1))])=true∧(∃ y2:Bool,AV.pv (Zf (fun(x:BoxT×List Str×Unit)=>YG x.1.v x.2.1) [(.agg [(.sl 1 false (List.map enc b.v)),(.int .i64 b.m)]),(.sl 1 false (List.map enc y1))])=AV.pv (enc y2)∧(if (!y2)=true then G ((.int .i64 7))else((Go.Pl.preT (fun(x:List Mono×Unit)=>Xg x.1) [(.sl 2 false (List.map enc p))])=true∧(∃ y3:List Str,AV.pv (Zf (fun(x:List Mono×Unit)=>Vf x.1) [(.sl 2 false (List.map enc p))])=AV.pv (enc y3)∧((Go.Pl.preT (fun(x:BoxT×List Str×Unit)=>Zn x.1.v&&Zn x.2.1) [(.agg [(.sl 1 false (List.map enc b.v)),(.int .i64 b.m)]),(.sl 1 false (List.map enc y3))])=true∧(∃ y4:Bool,AV.pv (Zf (fun(x:BoxT×List Str×Unit)=>YG x.1.v x.2.1) [(.agg [(.sl 1 false (List.map enc b.v)),(.int .i64 b.m)]),(.sl 1 false (List.map enc y3))])=AV.pv (enc y4)∧(if (!y4)=true then G ((.int .i64 7))else(G ((.int .i64 0)))))))))))))))):At WH 0 (Za XR G) Wl 0 58 [(1,.pv (enc fs)),(3,.pv (enc p)),(4,.ptr 0 0),(6,.ptr 1 0),(9,.row 2 q 0 q),(10,.pv (.int .i64 i))] [.obj (.box [.pv (enc b.v),.pv (.int .i64 b.m)]),.obj (.box [.pv (.int .i64 l.k),.pv (enc l.t)]),.obj (.row false 24 2 (ls.map enc))]:=At.tp (.lit (.ask (.req (.abs (Fact) (fun YY=>AV.pv (PV.rptr (PV.cells ((enc) YY)))) (.lit (.lit (.lit (.req (.lit (.nil)))))))) (.lit (.lit (.req (.req (.req (.abs (List Str) (fun YY=>AV.pv (enc YY)) (.req (.abs (Bool) (fun YY=>AV.pv (enc YY)) (.ask (.lit (.lit (.lit (.lit (.lit (.lit (.nil))))))) (.lit (.lit (.req (.abs (List Str) (fun YY=>AV.pv (enc YY)) (.lit (.req (.abs (Bool) (fun YY=>AV.pv (enc YY)) (.lit (.lit (.ask (.nil) (.nil)))))))))))))))))))))) h (by kernel_rfl)
def Ya:IC:=(.seq (.reg [⟨(some 2),(.box 2 (.t 0)),0,none⟩,⟨(some 4),(.mv (.c (.sl 0 true []))),1,none⟩,⟨(some 5),(.mv (.c (.int .i64 0))),1,none⟩] none) (.seq (.seq (.reg [⟨(some 10),(.load true [(.sl 1),(.int .i64)] (.t 2)),0,none⟩,⟨(some 11),(.mv (.t 1)),0,none⟩,⟨(some 12),(.build [(.int .i64 0),(.sl 0 true [])] []),0,none⟩,⟨(some 13),(.call (.c (.fn 118)) [(.t 10),(.t 11),(.t 12),(.c (.sl 0 true []))]),0,none⟩,⟨(some 6),(.mv (.t 13)),2,none⟩] none) (.seq (.reg [⟨(some 14),(.mv (.t 6)),0,none⟩,⟨(some 15),(.bin .num .neq (.t 14) (.c (.int .i64 0))),0,none⟩] none) (.cond (.t 15) (.seq (.reg [⟨(some 16),(.mv (.t 6)),0,none⟩,⟨(some 4),(.mv (.c (.sl 0 true []))),0,none⟩,⟨(some 5),(.mv (.t 16)),0,none⟩] none) .ret) .skip))) (.seq (.reg [⟨(some 7),(.mv (.c (.sl 0 true []))),0,none⟩] none) (.seq (.reg [⟨(some 17),(.faddr 0 (.t 2)),0,none⟩,⟨(some 18),(.load false [(.sl 1)] (.t 17)),0,none⟩,⟨(some 19),(.len 1 (.t 18)),0,none⟩,⟨(some 20),(.mksl 3 1 8 (.int .i64 0) (.t 19) (.t 19)),0,none⟩,⟨(some 8),(.mv (.t 20)),1,none⟩] none) (.block 0 (.loop [1,2,8,7] (.block 1 (.seq (.seq (.reg [⟨(some 21),(.mv (.t 1)),0,none⟩,⟨(some 22),(.load true [(.sl 1),(.int .i64)] (.t 2)),0,none⟩,⟨(some 23),(.mv (.t 8)),0,none⟩,⟨(some 24),(.call (.c (.fn 49)) [(.t 22),(.t 23)]),0,none⟩,⟨(some 25),(.call (.c (.fn 53)) [(.t 21),(.t 24)]),2,none⟩] none) (.cond (.t 25) (.reg [⟨(some 26),(.mv (.t 7)),0,none⟩,⟨(some 27),(.bslice 3 1 0 (.int .i64 0) []),0,none⟩,⟨(some 28),(.mv (.t 8)),1,none⟩,⟨(some 29),(.append 3 1 8 (.t 27) (.t 28)),1,none⟩,⟨(some 30),(.bslice 34 1 1 (.sl 0 true []) [(0,(.t 29))]),2,none⟩,⟨(some 31),(.append 34 1 24 (.t 26) (.t 30)),3,none⟩,⟨(some 7),(.mv (.t 31)),4,none⟩] none) .skip)) (.seq (.reg [⟨(some 32),(.mv (.t 8)),0,none⟩,⟨(some 33),(.len 1 (.t 32)),0,none⟩,⟨(some 34),(.bin .num .sub (.t 33) (.c (.int .i64 1))),0,none⟩,⟨(some 9),(.mv (.t 34)),0,none⟩] none) (.seq (.block 2 (.loop [9,8,2,7,1] (.seq (.seq (.reg [⟨(some 35),(.mv (.t 9)),0,none⟩,⟨(some 36),(.bin .num .geq (.t 35) (.c (.int .i64 0))),0,none⟩,⟨(some 37),(.mv (.t 36)),0,none⟩,⟨(some 38),(.mv (.t 8)),0,(some (37,true))⟩,⟨(some 39),(.mv (.t 9)),0,(some (37,true))⟩,⟨(some 40),(.iaddr 1 (.t 38) (.t 39)),0,(some (37,true))⟩,⟨(some 41),(.load false [(.int .i64)] (.t 40)),0,(some (37,true))⟩,⟨(some 42),(.faddr 1 (.t 2)),0,(some (37,true))⟩,⟨(some 43),(.load false [(.int .i64)] (.t 42)),0,(some (37,true))⟩,⟨(some 44),(.bin .num .eql (.t 41) (.t 43)),0,(some (37,true))⟩,⟨(some 45),(.pick (.t 37) (.t 44) (.c (.bool false))),0,none⟩] (some [[],[0],[1,0],[2,1,0],[2,1,0],[3,4,2,1,0],[5,2,3,4,1,0],[2,1,0],[7,2,1,0],[6,8,2,5,3,4,1,0,7],[2,9,1,0,6,8,5,3,4,7]])) (.cond (.t 45) .skip (.exit 2))) (.block 3 (.seq (.reg [⟨(some 46),(.mv (.t 8)),0,none⟩,⟨(some 47),(.mv (.t 9)),0,none⟩,⟨(some 48),(.iaddr 1 (.t 46) (.t 47)),0,none⟩,⟨none,(.store 1 (.t 48) (.c (.int .i64 0))),0,none⟩] none) (.reg [⟨(some 49),(.mv (.t 9)),0,none⟩,⟨(some 50),(.bin .num .sub (.t 49) (.c (.int .i64 1))),0,none⟩,⟨(some 9),(.mv (.t 50)),0,none⟩] none)))))) (.seq (.seq (.reg [⟨(some 51),(.mv (.t 9)),0,none⟩,⟨(some 52),(.bin .num .lss (.t 51) (.c (.int .i64 0))),0,none⟩] none) (.cond (.t 52) (.seq (.reg [⟨(some 53),(.mv (.t 7)),0,none⟩,⟨(some 4),(.mv (.t 53)),0,none⟩,⟨(some 5),(.mv (.c (.int .i64 0))),0,none⟩] none) .ret) .skip)) (.reg [⟨(some 54),(.mv (.t 8)),0,none⟩,⟨(some 55),(.mv (.t 9)),0,none⟩,⟨(some 56),(.iaddr 1 (.t 54) (.t 55)),0,none⟩,⟨(some 57),(.load false [(.int .i64)] (.t 56)),0,none⟩,⟨(some 58),(.bin .num .add (.t 57) (.c (.int .i64 1))),0,none⟩,⟨(some 59),(.iaddr 1 (.t 54) (.t 55)),0,none⟩,⟨none,(.store 1 (.t 59) (.t 58)),0,none⟩] none))))))))))))
def Z9:List IRes:=[(.tmp 4),(.tmp 5)]
abbrev c0e:Nat:=60
def YD:ZF:=Xe [(118,.pure (preT (fun x:BoxT×List Fact×Lin×List Mono×Unit=>ZG x.1&&Zk x.2.1&&decide (x.2.1.length<=100)&&Yt x.2.2.1&&Xg x.2.2.2.1)) (Zf (fun x:BoxT×List Fact×Lin×List Mono×Unit=>Zp x.1 x.2.1 (Zq x.2.2.1&&ZI x.2.2.2.1) (Zd x.2.2.1++Vf x.2.2.2.1)))),(49,.own XX Ua),(53,.pure (preT (fun x:List Fact×List Coef×Unit=>Zk x.1&&decide (x.2.1.length<=9223372036854775807))) (Zf (fun x:List Fact×List Coef×Unit=>x.1.all fun f=>Z7 f x.2.1)))]
theorem c7k{G:PV->Prop}(b:BoxT)(fs:List Fact)(h:(Go.Pl.preT (fun(x:BoxT×List Fact×Lin×List Mono×Unit)=>ZG x.1&&Zk x.2.1&&decide (List.length x.2.1<=100)&&Yt x.2.2.1&&Xg x.2.2.2.1) [(.agg [(.sl 1 false (List.map enc b.v)),(.int .i64 b.m)]),(.sl 3 false (List.map enc fs)),(.agg [(.int .i64 0),(.sl 0 true [])]),(.sl 0 true [])])=true∧(∃ y0:Int,AV.pv (Zf (fun(x:BoxT×List Fact×Lin×List Mono×Unit)=>Zp x.1 x.2.1 (Zq x.2.2.1&&ZI x.2.2.2.1) (Zd x.2.2.1++Vf x.2.2.2.1)) [(.agg [(.sl 1 false (List.map enc b.v)),(.int .i64 b.m)]),(.sl 3 false (List.map enc fs)),(.agg [(.int .i64 0),(.sl 0 true [])]),(.sl 0 true [])])=AV.pv (enc y0)∧(if (y0 != 0)=true then G ((.tup [(.sl 0 true []),(.int .i64 y0)]))else((decide (0<=(↑(List.length (List.map enc b.v)):Int))&&(↑(List.length (List.map enc b.v)):Int)==(↑(List.length (List.map enc b.v)):Int)&&decide ((↑(List.length (List.map enc b.v)):Int)*(↑8:Int)<=1099511627776)&&decide ((↑(List.length (List.map enc b.v)):Int)<=1099511627776))=true∧(At YD 0 (Za Z9 G) Ya 0 60 [(1,(.pv (.sl 3 false (List.map enc fs)))),(2,(.ptr 0 0)),(7,(.pv (.sl 0 true []))),(8,(.row 1 (Int.toNat (↑(List.length (List.map enc b.v)):Int)) 0 (Int.toNat (↑(List.length (List.map enc b.v)):Int))))] [(.obj (.box [(.pv (.sl 1 false (List.map enc b.v))),(.pv (.int .i64 b.m))])),(.obj (.row false 3 1 (List.replicate (Int.toNat (↑(List.length (List.map enc b.v)):Int)) (PV.int .i64 0))))]))))):Zc YD 0 (Za Z9 G) Ya [] (Ye 60 [enc b,enc fs]):=Zc.tp (.req (.abs (Int) (fun YY=>AV.pv (enc YY)) (.lit (.ask (.nil) (.req (.nil)))))) h (by kernel_rfl)
theorem Ld{G:PV->Prop}(b:BoxT)(fs:List Fact)(n:Nat)(p:List Int)(h:(XX [(.pv (.agg [(.sl 1 false (List.map enc b.v)),(.int .i64 b.m)])),(.row 0 n 0 n)] [(.row false 3 1 (List.map enc p))])=true∧((Go.Pl.preT (fun(x:List Fact×List Coef×Unit)=>Zk x.1&&decide (List.length x.2.1<=9223372036854775807)) [(.sl 3 false (List.map enc fs)),(.sl 2 false (List.map enc (Ze (dec (enc b.v)) (BJ (List.map enc p)))))])=true∧(∃ y0:Bool,AV.pv (Zf (fun(x:List Fact×List Coef×Unit)=>List.all x.1 fun(f:Fact)=>Z7 f x.2.1) [(.sl 3 false (List.map enc fs)),(.sl 2 false (List.map enc (Ze (dec (enc b.v)) (BJ (List.map enc p)))))])=AV.pv (enc y0)∧(if (y0)=true then(List.length (List.map enc p)==n)=true∧((List.length ([]:List PV)==0&&0==0&&decide ((0+List.length (List.drop 0 (List.take n (List.map enc p))))*8<=1099511627776)&&decide (0+List.length (List.drop 0 (List.take n (List.map enc p)))<=1099511627776))=true∧((List.length (([]:List PV)++List.drop 0 (List.take n (List.map enc p)))==0+List.length (List.drop 0 (List.take n (List.map enc p))))=true∧(At YD 0 (Za Z9 G) Ya 1 60 [(1,(.pv (.sl 3 false (List.map enc fs)))),(2,(.ptr 0 0)),(7,(.row 1 1 0 1)),(8,(.row 2 n 0 n)),(9,(.pv (.int .i64 (IntKind.wrap IntKind.i64 ((↑(n - 0):Int) - 1)))))] [(.obj (.box [(.pv (.sl 1 false (List.map enc b.v))),(.pv (.int .i64 b.m))])),(.obj (.row false 34 1 [(.sl 1 false (List.drop 0 (List.take (0+List.length (List.drop 0 (List.take n (List.map enc p)))) (([]:List PV)++List.drop 0 (List.take n (List.map enc p))))))])),(.obj (.row false 3 1 (List.map enc p)))])))else(At YD 0 (Za Z9 G) Ya 1 60 [(1,(.pv (.sl 3 false (List.map enc fs)))),(2,(.ptr 0 0)),(7,(.pv (.sl 0 true []))),(8,(.row 1 n 0 n)),(9,(.pv (.int .i64 (IntKind.wrap IntKind.i64 ((↑(n - 0):Int) - 1)))))] [(.obj (.box [(.pv (.sl 1 false (List.map enc b.v))),(.pv (.int .i64 b.m))])),(.obj (.row false 3 1 (List.map enc p)))]))))):At YD 0 (Za Z9 G) Ya 0 60 [(1,.pv (enc fs)),(2,.ptr 0 0),(8,.row 1 n 0 n),(7,.pv (.sl 0 true []))] [.obj (.box [.pv (enc b.v),.pv (.int .i64 b.m)]),.obj (.row false 3 1 (p.map enc))]:=At.tp (.req (.keep (.req (.abs (Bool) (fun YY=>AV.pv (enc YY)) (.ask (.lit (.req (.req (.req (.lit (.lit (.lit (.lit (.lit (.lit (.nil))))))))))) (.lit (.nil))))))) h (by kernel_rfl)
theorem MZ{G:PV->Prop}(b:BoxT)(fs:List Fact)(n:Nat)(p:List Int)(q:Nat)(xs:List (List Int))(h:(XX [(.pv (.agg [(.sl 1 false (List.map enc b.v)),(.int .i64 b.m)])),(.row 0 n 0 n)] [(.row false 3 1 (List.map enc p))])=true∧((Go.Pl.preT (fun(x:List Fact×List Coef×Unit)=>Zk x.1&&decide (List.length x.2.1<=9223372036854775807)) [(.sl 3 false (List.map enc fs)),(.sl 2 false (List.map enc (Ze (dec (enc b.v)) (BJ (List.map enc p)))))])=true∧(∃ y0:Bool,AV.pv (Zf (fun(x:List Fact×List Coef×Unit)=>List.all x.1 fun(f:Fact)=>Z7 f x.2.1) [(.sl 3 false (List.map enc fs)),(.sl 2 false (List.map enc (Ze (dec (enc b.v)) (BJ (List.map enc p)))))])=AV.pv (enc y0)∧(if (y0)=true then(List.length (List.map enc p)==n)=true∧((List.length ([]:List PV)==0&&0==0&&decide ((0+List.length (List.drop 0 (List.take n (List.map enc p))))*8<=1099511627776)&&decide (0+List.length (List.drop 0 (List.take n (List.map enc p)))<=1099511627776))=true∧((List.length (([]:List PV)++List.drop 0 (List.take n (List.map enc p)))==0+List.length (List.drop 0 (List.take n (List.map enc p))))=true∧((List.length (List.map enc xs)==q&&q==q&&decide ((q+List.length (List.drop 0 (List.take 1 [PV.sl 1 false (List.drop 0 (List.take (0+List.length (List.drop 0 (List.take n (List.map enc p)))) (([]:List PV)++List.drop 0 (List.take n (List.map enc p)))))])))*24<=1099511627776)&&decide (q+List.length (List.drop 0 (List.take 1 [PV.sl 1 false (List.drop 0 (List.take (0+List.length (List.drop 0 (List.take n (List.map enc p)))) (([]:List PV)++List.drop 0 (List.take n (List.map enc p)))))]))<=1099511627776))=true∧(At YD 0 (Za Z9 G) Ya 1 60 [(1,(.pv (.sl 3 false (List.map enc fs)))),(2,(.ptr 0 0)),(7,(.row 1 (q+List.length (List.drop 0 (List.take 1 [PV.sl 1 false (List.drop 0 (List.take (0+List.length (List.drop 0 (List.take n (List.map enc p)))) (([]:List PV)++List.drop 0 (List.take n (List.map enc p)))))]))) 0 (q+List.length (List.drop 0 (List.take 1 [PV.sl 1 false (List.drop 0 (List.take (0+List.length (List.drop 0 (List.take n (List.map enc p)))) (([]:List PV)++List.drop 0 (List.take n (List.map enc p)))))]))))),(8,(.row 2 n 0 n)),(9,(.pv (.int .i64 (IntKind.wrap IntKind.i64 ((↑(n - 0):Int) - 1)))))] [(.obj (.box [(.pv (.sl 1 false (List.map enc b.v))),(.pv (.int .i64 b.m))])),(.obj (.row false 34 1 (List.map enc xs++List.drop 0 (List.take 1 [PV.sl 1 false (List.drop 0 (List.take (0+List.length (List.drop 0 (List.take n (List.map enc p)))) (([]:List PV)++List.drop 0 (List.take n (List.map enc p)))))])))),(.obj (.row false 3 1 (List.map enc p)))]))))else(At YD 0 (Za Z9 G) Ya 1 60 [(1,(.pv (.sl 3 false (List.map enc fs)))),(2,(.ptr 0 0)),(7,(.row 1 q 0 q)),(8,(.row 2 n 0 n)),(9,(.pv (.int .i64 (IntKind.wrap IntKind.i64 ((↑(n - 0):Int) - 1)))))] [(.obj (.box [(.pv (.sl 1 false (List.map enc b.v))),(.pv (.int .i64 b.m))])),(.obj (.row false 34 1 (List.map enc xs))),(.obj (.row false 3 1 (List.map enc p)))]))))):At YD 0 (Za Z9 G) Ya 0 60 [(1,.pv (enc fs)),(2,.ptr 0 0),(7,.row 1 q 0 q),(8,.row 2 n 0 n)] [.obj (.box [.pv (enc b.v),.pv (.int .i64 b.m)]),.obj (.row false 34 1 (xs.map enc)),.obj (.row false 3 1 (p.map enc))]:=At.tp (.req (.keep (.req (.abs (Bool) (fun YY=>AV.pv (enc YY)) (.ask (.lit (.req (.req (.req (.lit (.lit (.req (.lit (.nil))))))))) (.lit (.nil))))))) h (by kernel_rfl)
theorem FZ{G:PV->Prop}(b:BoxT)(fs:List Fact)(n:Nat)(p:List Int)(k:Int)(h:if (decide (k ≥ 0))=true then(decide (0<=k)&&decide (0+Int.toNat k<n)&&List.length (List.map enc p)==n)=true∧((List.length (List.map enc p)==n&&decide (0+Int.toNat k<List.length (List.map enc p)))=true∧((decide (0+List.length [Sh.int .i64]<=List.length (PV.cells (List.getD (List.map enc p) (0+Int.toNat k) default)))&&Xa (PV.cells (List.getD (List.map enc p) (0+Int.toNat k) default)) 0 [Sh.int .i64])=true∧(if (PV.asInt (List.getD (PV.cells (List.getD (List.map enc p) (0+Int.toNat k) default)) 0 default)==BoxT.m b)=true then(decide (0<=k)&&decide (0+Int.toNat k<n)&&List.length (List.map enc p)==n)=true∧((List.length (List.map enc p)==n&&decide (0+Int.toNat k<List.length (List.map enc p))&&List.length (PV.cells (PV.int .i64 0))==1&&decide (0+1<=List.length (PV.cells (List.getD (List.map enc p) (0+Int.toNat k) default)))&&PV.cellsOk (PV.int .i64 0))=true∧(At YD 0 (Za Z9 G) Ya 1 60 [(1,(.pv (.sl 3 false (List.map enc fs)))),(2,(.ptr 0 0)),(7,(.pv (.sl 0 true []))),(8,(.row 1 n 0 n)),(9,(.pv (.int .i64 (IntKind.wrap IntKind.i64 (k - 1)))))] [(.obj (.box [(.pv (.sl 1 false (List.map enc b.v))),(.pv (.int .i64 b.m))])),(.obj (.row false 3 1 (List.set (List.map enc p) (0+Int.toNat k) (PV.withCells (List.getD (List.map enc p) (0+Int.toNat k) default) (splice (PV.cells (List.getD (List.map enc p) (0+Int.toNat k) default)) 0 (PV.cells (PV.int .i64 0)))))))]))else(if (decide (k<0))=true then G ((.tup [(.sl 0 true []),(.int .i64 0)]))else((decide (0<=k)&&decide (0+Int.toNat k<n)&&List.length (List.map enc p)==n)=true∧((List.length (List.map enc p)==n&&decide (0+Int.toNat k<List.length (List.map enc p)))=true∧((decide (0+List.length [Sh.int .i64]<=List.length (PV.cells (List.getD (List.map enc p) (0+Int.toNat k) default)))&&Xa (PV.cells (List.getD (List.map enc p) (0+Int.toNat k) default)) 0 [Sh.int .i64])=true∧((decide (0<=k)&&decide (0+Int.toNat k<n)&&List.length (List.map enc p)==n)=true∧((List.length (List.map enc p)==n&&decide (0+Int.toNat k<List.length (List.map enc p))&&List.length (PV.cells (PV.int .i64 (IntKind.wrap IntKind.i64 (PV.asInt (List.getD (PV.cells (List.getD (List.map enc p) (0+Int.toNat k) default)) 0 default)+1))))==1&&decide (0+1<=List.length (PV.cells (List.getD (List.map enc p) (0+Int.toNat k) default)))&&PV.cellsOk (PV.int .i64 (IntKind.wrap IntKind.i64 (PV.asInt (List.getD (PV.cells (List.getD (List.map enc p) (0+Int.toNat k) default)) 0 default)+1))))=true∧(At YD 0 (Za Z9 G) Ya 0 60 [(1,(.pv (.sl 3 false (List.map enc fs)))),(2,(.ptr 0 0)),(7,(.pv (.sl 0 true []))),(8,(.row 1 n 0 n))] [(.obj (.box [(.pv (.sl 1 false (List.map enc b.v))),(.pv (.int .i64 b.m))])),(.obj (.row false 3 1 (List.set (List.map enc p) (0+Int.toNat k) (PV.withCells (List.getD (List.map enc p) (0+Int.toNat k) default) (splice (PV.cells (List.getD (List.map enc p) (0+Int.toNat k) default)) 0 (PV.cells (PV.int .i64 (IntKind.wrap IntKind.i64 (PV.asInt (List.getD (PV.cells (List.getD (List.map enc p) (0+Int.toNat k) default)) 0 default)+1)))))))))]))))))))))else(if (decide (k<0))=true then G ((.tup [(.sl 0 true []),(.int .i64 0)]))else((decide (0<=k)&&decide (0+Int.toNat k<n)&&List.length (List.map enc p)==n)=true∧((List.length (List.map enc p)==n&&decide (0+Int.toNat k<List.length (List.map enc p)))=true∧((decide (0+List.length [Sh.int .i64]<=List.length (PV.cells (List.getD (List.map enc p) (0+Int.toNat k) default)))&&Xa (PV.cells (List.getD (List.map enc p) (0+Int.toNat k) default)) 0 [Sh.int .i64])=true∧((decide (0<=k)&&decide (0+Int.toNat k<n)&&List.length (List.map enc p)==n)=true∧((List.length (List.map enc p)==n&&decide (0+Int.toNat k<List.length (List.map enc p))&&List.length (PV.cells (PV.int .i64 (IntKind.wrap IntKind.i64 (PV.asInt (List.getD (PV.cells (List.getD (List.map enc p) (0+Int.toNat k) default)) 0 default)+1))))==1&&decide (0+1<=List.length (PV.cells (List.getD (List.map enc p) (0+Int.toNat k) default)))&&PV.cellsOk (PV.int .i64 (IntKind.wrap IntKind.i64 (PV.asInt (List.getD (PV.cells (List.getD (List.map enc p) (0+Int.toNat k) default)) 0 default)+1))))=true∧(At YD 0 (Za Z9 G) Ya 0 60 [(1,(.pv (.sl 3 false (List.map enc fs)))),(2,(.ptr 0 0)),(7,(.pv (.sl 0 true []))),(8,(.row 1 n 0 n))] [(.obj (.box [(.pv (.sl 1 false (List.map enc b.v))),(.pv (.int .i64 b.m))])),(.obj (.row false 3 1 (List.set (List.map enc p) (0+Int.toNat k) (PV.withCells (List.getD (List.map enc p) (0+Int.toNat k) default) (splice (PV.cells (List.getD (List.map enc p) (0+Int.toNat k) default)) 0 (PV.cells (PV.int .i64 (IntKind.wrap IntKind.i64 (PV.asInt (List.getD (PV.cells (List.getD (List.map enc p) (0+Int.toNat k) default)) 0 default)+1)))))))))])))))))):At YD 0 (Za Z9 G) Ya 1 60 [(1,.pv (enc fs)),(2,.ptr 0 0),(8,.row 1 n 0 n),(7,.pv (.sl 0 true [])),(9,.pv (.int .i64 k))] [.obj (.box [.pv (enc b.v),.pv (.int .i64 b.m)]),.obj (.row false 3 1 (p.map enc))]:=At.tp (.lit (.ask (.lit (.lit (.req (.keep (.lit (.req (.req (.lit (.lit (.lit (.lit (.lit (.ask (.req (.keep (.req (.lit (.nil))))) (.lit (.ask (.nil) (.req (.keep (.req (.req (.lit (.req (.keep (.req (.nil)))))))))))))))))))))))) (.lit (.lit (.lit (.lit (.lit (.lit (.lit (.lit (.lit (.ask (.nil) (.req (.keep (.req (.req (.lit (.req (.keep (.req (.nil))))))))))))))))))))) h (by kernel_rfl)
theorem Lr{G:PV->Prop}(b:BoxT)(fs:List Fact)(n:Nat)(p:List Int)(k:Int)(q:Nat)(xs:List (List Int))(h:if (decide (k ≥ 0))=true then(decide (0<=k)&&decide (0+Int.toNat k<n)&&List.length (List.map enc p)==n)=true∧((List.length (List.map enc p)==n&&decide (0+Int.toNat k<List.length (List.map enc p)))=true∧((decide (0+List.length [Sh.int .i64]<=List.length (PV.cells (List.getD (List.map enc p) (0+Int.toNat k) default)))&&Xa (PV.cells (List.getD (List.map enc p) (0+Int.toNat k) default)) 0 [Sh.int .i64])=true∧(if (PV.asInt (List.getD (PV.cells (List.getD (List.map enc p) (0+Int.toNat k) default)) 0 default)==BoxT.m b)=true then(decide (0<=k)&&decide (0+Int.toNat k<n)&&List.length (List.map enc p)==n)=true∧((List.length (List.map enc p)==n&&decide (0+Int.toNat k<List.length (List.map enc p))&&List.length (PV.cells (PV.int .i64 0))==1&&decide (0+1<=List.length (PV.cells (List.getD (List.map enc p) (0+Int.toNat k) default)))&&PV.cellsOk (PV.int .i64 0))=true∧(At YD 0 (Za Z9 G) Ya 1 60 [(1,(.pv (.sl 3 false (List.map enc fs)))),(2,(.ptr 0 0)),(7,(.row 1 q 0 q)),(8,(.row 2 n 0 n)),(9,(.pv (.int .i64 (IntKind.wrap IntKind.i64 (k - 1)))))] [(.obj (.box [(.pv (.sl 1 false (List.map enc b.v))),(.pv (.int .i64 b.m))])),(.obj (.row false 34 1 (List.map enc xs))),(.obj (.row false 3 1 (List.set (List.map enc p) (0+Int.toNat k) (PV.withCells (List.getD (List.map enc p) (0+Int.toNat k) default) (splice (PV.cells (List.getD (List.map enc p) (0+Int.toNat k) default)) 0 (PV.cells (PV.int .i64 0)))))))]))else(if (decide (k<0))=true then(List.length (List.map enc xs)==q)=true∧(G ((.tup [(.sl 1 false (List.drop 0 (List.take q (List.map enc xs)))),(.int .i64 0)])))else((decide (0<=k)&&decide (0+Int.toNat k<n)&&List.length (List.map enc p)==n)=true∧((List.length (List.map enc p)==n&&decide (0+Int.toNat k<List.length (List.map enc p)))=true∧((decide (0+List.length [Sh.int .i64]<=List.length (PV.cells (List.getD (List.map enc p) (0+Int.toNat k) default)))&&Xa (PV.cells (List.getD (List.map enc p) (0+Int.toNat k) default)) 0 [Sh.int .i64])=true∧((decide (0<=k)&&decide (0+Int.toNat k<n)&&List.length (List.map enc p)==n)=true∧((List.length (List.map enc p)==n&&decide (0+Int.toNat k<List.length (List.map enc p))&&List.length (PV.cells (PV.int .i64 (IntKind.wrap IntKind.i64 (PV.asInt (List.getD (PV.cells (List.getD (List.map enc p) (0+Int.toNat k) default)) 0 default)+1))))==1&&decide (0+1<=List.length (PV.cells (List.getD (List.map enc p) (0+Int.toNat k) default)))&&PV.cellsOk (PV.int .i64 (IntKind.wrap IntKind.i64 (PV.asInt (List.getD (PV.cells (List.getD (List.map enc p) (0+Int.toNat k) default)) 0 default)+1))))=true∧(At YD 0 (Za Z9 G) Ya 0 60 [(1,(.pv (.sl 3 false (List.map enc fs)))),(2,(.ptr 0 0)),(7,(.row 1 q 0 q)),(8,(.row 2 n 0 n))] [(.obj (.box [(.pv (.sl 1 false (List.map enc b.v))),(.pv (.int .i64 b.m))])),(.obj (.row false 34 1 (List.map enc xs))),(.obj (.row false 3 1 (List.set (List.map enc p) (0+Int.toNat k) (PV.withCells (List.getD (List.map enc p) (0+Int.toNat k) default) (splice (PV.cells (List.getD (List.map enc p) (0+Int.toNat k) default)) 0 (PV.cells (PV.int .i64 (IntKind.wrap IntKind.i64 (PV.asInt (List.getD (PV.cells (List.getD (List.map enc p) (0+Int.toNat k) default)) 0 default)+1)))))))))]))))))))))else(if (decide (k<0))=true then(List.length (List.map enc xs)==q)=true∧(G ((.tup [(.sl 1 false (List.drop 0 (List.take q (List.map enc xs)))),(.int .i64 0)])))else((decide (0<=k)&&decide (0+Int.toNat k<n)&&List.length (List.map enc p)==n)=true∧((List.length (List.map enc p)==n&&decide (0+Int.toNat k<List.length (List.map enc p)))=true∧((decide (0+List.length [Sh.int .i64]<=List.length (PV.cells (List.getD (List.map enc p) (0+Int.toNat k) default)))&&Xa (PV.cells (List.getD (List.map enc p) (0+Int.toNat k) default)) 0 [Sh.int .i64])=true∧((decide (0<=k)&&decide (0+Int.toNat k<n)&&List.length (List.map enc p)==n)=true∧((List.length (List.map enc p)==n&&decide (0+Int.toNat k<List.length (List.map enc p))&&List.length (PV.cells (PV.int .i64 (IntKind.wrap IntKind.i64 (PV.asInt (List.getD (PV.cells (List.getD (List.map enc p) (0+Int.toNat k) default)) 0 default)+1))))==1&&decide (0+1<=List.length (PV.cells (List.getD (List.map enc p) (0+Int.toNat k) default)))&&PV.cellsOk (PV.int .i64 (IntKind.wrap IntKind.i64 (PV.asInt (List.getD (PV.cells (List.getD (List.map enc p) (0+Int.toNat k) default)) 0 default)+1))))=true∧(At YD 0 (Za Z9 G) Ya 0 60 [(1,(.pv (.sl 3 false (List.map enc fs)))),(2,(.ptr 0 0)),(7,(.row 1 q 0 q)),(8,(.row 2 n 0 n))] [(.obj (.box [(.pv (.sl 1 false (List.map enc b.v))),(.pv (.int .i64 b.m))])),(.obj (.row false 34 1 (List.map enc xs))),(.obj (.row false 3 1 (List.set (List.map enc p) (0+Int.toNat k) (PV.withCells (List.getD (List.map enc p) (0+Int.toNat k) default) (splice (PV.cells (List.getD (List.map enc p) (0+Int.toNat k) default)) 0 (PV.cells (PV.int .i64 (IntKind.wrap IntKind.i64 (PV.asInt (List.getD (PV.cells (List.getD (List.map enc p) (0+Int.toNat k) default)) 0 default)+1)))))))))])))))))):At YD 0 (Za Z9 G) Ya 1 60 [(1,.pv (enc fs)),(2,.ptr 0 0),(7,.row 1 q 0 q),(8,.row 2 n 0 n),(9,.pv (.int .i64 k))] [.obj (.box [.pv (enc b.v),.pv (.int .i64 b.m)]),.obj (.row false 34 1 (xs.map enc)),.obj (.row false 3 1 (p.map enc))]:=At.tp (.lit (.ask (.lit (.lit (.req (.keep (.lit (.req (.req (.lit (.lit (.lit (.lit (.lit (.ask (.req (.keep (.req (.lit (.nil))))) (.lit (.ask (.req (.nil)) (.req (.keep (.req (.req (.lit (.req (.keep (.req (.nil)))))))))))))))))))))))) (.lit (.lit (.lit (.lit (.lit (.lit (.lit (.lit (.lit (.ask (.req (.nil)) (.req (.keep (.req (.req (.lit (.req (.keep (.req (.nil))))))))))))))))))))) h (by kernel_rfl)
end Go.Pl

namespace Go.Pl
open Go.RowKit
open Enc (enc dec is)
open EncL (encL decL isL)
theorem GR{ts:List Coef}(hn:nzP ts)(x:Str):x∈ts.map (·.v) ↔ Xt ts x.s≠0:=by
 induction ts with
 | nil=>simp[Xt]
 | cons t ts ih=>
  have h1:t.c≠0:=hn t (by simp)
  have h2:nzP ts:=fun u hu=>hn u (by simp[hu])
  rw[YA,List.map_cons,List.mem_cons]
  by_cases e:t.v.s=x.s
  ·rw[if_pos e]
   have:x=t.v:=by cases x;cases h:t.v;rw[h]at e;exact congrArg Str.mk e.symm
   exact⟨fun _=>h1,fun _=>.inl this⟩
  ·rw[if_neg e,<- ih h2]
   exact⟨fun h=>h.resolve_left fun e2=>e (by rw[e2]),.inr⟩
theorem c0z{l:Lin}(s:Str)(ha:Jy l.t)(hn:nzP l.t):Jy (Q8 l s).t∧nzP (Q8 l s).t∧ ∀ x,x∈Zd (Q8 l s) ↔ x=s∨x∈Zd l:=by
 unfold Q8
 by_cases h:Xt l.t s.s=0
 ·rw[if_pos h]
  refine⟨b4f s 1 ha,a0y l s 1,fun x=> ?_⟩
  unfold Zd
  rw[GR (a0y l s 1),GR hn,a8m s (c:=1) (by decide) ha]
  by_cases e:s.s=x.s
  ·rw[if_pos e,h]
   have:x=s:=by cases x;cases s;exact congrArg Str.mk e.symm
   exact⟨fun _=>.inl this,fun _=>by decide⟩
  ·rw[if_neg e]
   exact⟨.inr,fun h=>h.resolve_left fun e2=>e (by rw[e2])⟩
 ·rw[if_neg h]
  refine⟨ha,hn,fun x=>⟨.inr,fun hx=> ?_⟩⟩
  rcases hx with rfl|hx
  ·unfold Zd;rw[GR hn];exact h
  ·exact hx
theorem Fp: ∀ (ss:List Str) {l:Lin},Jy l.t->nzP l.t->Jy (ss.foldl Q8 l).t∧nzP (ss.foldl Q8 l).t∧ ∀ x,x∈Zd (ss.foldl Q8 l) ↔ x∈ss∨x∈Zd l
 | [],l,ha,hn=>⟨ha,hn,fun x=>by simp⟩
 | s::ss,l,ha,hn=>by
  obtain⟨h1,h2,h3⟩:=c0z s ha hn
  obtain⟨k1,k2,k3⟩:=Fp ss h1 h2
  refine⟨k1,k2,fun x=> ?_⟩
  rw[List.foldl_cons,k3,h3,List.mem_cons]
  constructor
  ·rintro(h|h|h)
   ·exact .inl (.inr h)
   ·exact .inl (.inl h)
   ·exact .inr h
  ·rintro((h|h)|h)
   ·exact .inr (.inl h)
   ·exact .inl h
   ·exact .inr (.inr h)
theorem RQ: ∀ (ls:List Lin) {l:Lin},Jy l.t->nzP l.t-> ∀ x,x∈Zd (ls.foldl JC l) ↔ x∈ls.flatMap Zd∨x∈Zd l
 | [],l,ha,hn,x=>by simp
 | a::ls,l,ha,hn,x=>by
  obtain⟨h1,h2,h3⟩:=Fp (Zd a) ha hn
  rw[List.foldl_cons,RQ ls (l:=JC l a) h1 h2,List.flatMap_cons,List.mem_append]
  show _∨x∈Zd (List.foldl Q8 l (Zd a)) ↔ _
  rw[h3]
  constructor
  ·rintro(h|h|h)
   ·exact .inl (.inr h)
   ·exact .inl (.inl h)
   ·exact .inr h
  ·rintro((h|h)|h)
   ·exact .inr (.inl h)
   ·exact .inl h
   ·exact .inr (.inr h)
theorem a8i(ls:List Lin)(x:Str):x∈Ux ls ↔ x∈ls.flatMap Zd:=by
 have:=RQ ls (l:=⟨0,[]⟩) (List.Pairwise.nil) (fun t ht=>by cases ht) x
 exact this.trans ⟨fun h=>h.resolve_right (fun h=>by cases h),Or.inl⟩
theorem a5s{v a b:List Str}(h : ∀ x,x∈a ↔ x∈b):YG v a=YG v b:=by
 rw[Bool.eq_iff_iff]
 unfold YG
 rw[List.all_eq_true,List.all_eq_true]
 exact⟨fun k x hx=>k x ((h x).2 hx),fun k x hx=>k x ((h x).1 hx)⟩
theorem Ju(v a b:List Str):YG v (a++b)=(YG v a&&YG v b):=by unfold YG;rw[List.all_append]
def Dx(b:BoxT)(fs:List Fact)(l:Lin)(p:List Mono):Int:=Zp b fs (Zq l&&ZI p) (Zd l++Vf p)
theorem c7c{b:BoxT}{fs:List Fact}{l:Lin}{p:List Mono}(h1:YI b=true)(h2:Yq fs=true)(h3:Zq l=true)(h4:ZI p=true):
  Dx b fs l p=if !(YG b.v (Ux (fs.map (·.l)++[l])))then 7 else if !(YG b.v (Vf p))then 7 else 0:=by
 unfold Dx Zp
 have e:YG b.v (Ux (fs.map (·.l)++[l]))=(YG b.v (Zd l)&&YG b.v (fs.flatMap fun f=>Zd f.l)):=by
  rw[<- Ju]
  refine a5s fun x=> ?_
  rw[a8i,List.flatMap_append,List.mem_append,List.mem_append,List.flatMap_map]
  simp only[List.flatMap_cons,List.flatMap_nil,List.append_nil]
  exact Or.comm
 rw[h1,h2,h3,h4,e,if_neg (by simp),Ju,Ju]
 cases YG b.v (Zd l) <;> cases YG b.v (Vf p) <;> cases YG b.v (fs.flatMap fun f=>Zd f.l) <;> rfl
theorem b3r(ls:List Lin)(h:Vo ls=true):(Ux ls).length<=9223372036854775807:=by
 simp only[Vo,Bool.and_eq_true,decide_eq_true_eq,List.all_eq_true]at h
 have in1 : ∀ (ss:List Str) (l:Lin),(ss.foldl Q8 l).t.length<=l.t.length+ss.length:=by
  intro ss
  induction ss with
  | nil=>intro l;simp
  | cons s ss ih=>intro l;rw[List.foldl_cons];have:=ih (Q8 l s);have:=b7g l s;rw[List.length_cons];omega
 have in2 : ∀ (ls:List Lin),(∀ l∈ls,l.t.length<=1000)-> ∀ l:Lin,(ls.foldl JC l).t.length<=l.t.length+1000*ls.length:=by
  intro ls
  induction ls with
  | nil=>intro _ l;simp
  | cons a ls ih=>
   intro hl l
   rw[List.foldl_cons]
   have h1:=ih (fun x hx=>hl x (by simp[hx])) (JC l a)
   have h2:=in1 (Zd a) l
   have h3:=hl a (by simp)
   have h4:(Zd a).length=a.t.length:=by unfold Zd;rw[List.length_map]
   unfold JC at h1 ⊢
   rw[List.length_cons]
   omega
 have:=in2 ls h.2 ⟨0,[]⟩
 have e:(Ux ls).length=(ls.foldl JC ⟨0,[]⟩).t.length:=by
  show(Zd (ls.foldl JC ⟨0,[]⟩)).length=_
  unfold Zd
  rw[List.length_map]
 have e0:((⟨0,[]⟩:Lin).t).length=0:=rfl
 omega
theorem b9m(p:List Mono)(h:Xg p=true):(Vf p).length<=9223372036854775807:=by
 have:p=[]:=by simpa [Xg]using h
 subst this
 decide
theorem AB(b:BoxT)(fs:List Fact)(l:Lin)(p:List Mono)(h1:YI b=true)(h2:Yq fs=true)(h3:Zq l=true)(h4:ZI p=true)(hb:Zn b.v=true)(hp:Xg p=true)(hfl:fs.length<=100):
  (Go.Pl.preT (fun(x:List Lin×Unit)=>Vo (Prod.fst x)) [(.sl 2 false (List.map enc (fs.map (·.l)++[l])))])=true∧(∃ y1:List Str,AV.pv (Zf (fun(x:List Lin×Unit)=>Ux (Prod.fst x)) [(.sl 2 false (List.map enc (fs.map (·.l)++[l])))])=AV.pv (enc y1) ∧
   ((Go.Pl.preT (fun(x:BoxT×List Str×Unit)=>Zn (BoxT.v (Prod.fst x))&&Zn (Prod.fst (Prod.snd x))) [(.agg [(.sl 1 false (List.map enc (BoxT.v b))),(.int .i64 (BoxT.m b))]),(.sl 1 false (List.map enc y1))])=true ∧
   (∃ y2:Bool,AV.pv (Zf (fun(x:BoxT×List Str×Unit)=>YG (BoxT.v (Prod.fst x)) (Prod.fst (Prod.snd x))) [(.agg [(.sl 1 false (List.map enc (BoxT.v b))),(.int .i64 (BoxT.m b))]),(.sl 1 false (List.map enc y1))])=AV.pv (enc y2) ∧
   (if (!y2)=true then Zg (Dx b fs l p) ((.int .i64 7))else((Go.Pl.preT (fun(x:List Mono×Unit)=>Xg (Prod.fst x)) [(.sl 2 false (List.map enc p))])=true ∧
   (∃ y3:List Str,AV.pv (Zf (fun(x:List Mono×Unit)=>Vf (Prod.fst x)) [(.sl 2 false (List.map enc p))])=AV.pv (enc y3) ∧
   ((Go.Pl.preT (fun(x:BoxT×List Str×Unit)=>Zn (BoxT.v (Prod.fst x))&&Zn (Prod.fst (Prod.snd x))) [(.agg [(.sl 1 false (List.map enc (BoxT.v b))),(.int .i64 (BoxT.m b))]),(.sl 1 false (List.map enc y3))])=true ∧
   (∃ y4:Bool,AV.pv (Zf (fun(x:BoxT×List Str×Unit)=>YG (BoxT.v (Prod.fst x)) (Prod.fst (Prod.snd x))) [(.agg [(.sl 1 false (List.map enc (BoxT.v b))),(.int .i64 (BoxT.m b))]),(.sl 1 false (List.map enc y3))])=AV.pv (enc y4) ∧
   (if (!y4)=true then Zg (Dx b fs l p) ((.int .i64 7))else(Zg (Dx b fs l p) ((.int .i64 0)))))))))))):=by
 have hv6:Vo (fs.map (·.l)++[l])=true:=by
  simp only[Vo,Bool.and_eq_true,decide_eq_true_eq,List.all_eq_true]
  refine⟨by simp;omega,fun x hx=> ?_⟩
  have hx2:Zq x=true:=by
   rcases List.mem_append.1 hx with hx|hx
   ·obtain⟨f,hf,rfl⟩:=List.mem_map.1 hx
    exact List.all_eq_true.1 h2 f hf
   ·rw[List.mem_singleton.1 hx];exact h3
  have:=RS hx2
  omega
 refine⟨Zj ((fs.map (·.l)++[l]),()) rfl hv6,Zh ((fs.map (·.l)++[l]),()) rfl ⟨Zj (b,Ux (fs.map (·.l)++[l]),()) rfl (by
  show(Zn b.v&&Zn (Ux (fs.map (·.l)++[l])))=true
  rw[hb,Zy.2 (b3r _ hv6)];rfl),Zh (b,Ux (fs.map (·.l)++[l]),()) rfl ?_⟩⟩
 rw[c7c h1 h2 h3 h4]
 refine X7 (fun h=> ?_) fun h=>⟨Zj (p,()) rfl hp,Zh (p,()) rfl ⟨Zj (b,Vf p,()) rfl (by
  show(Zn b.v&&Zn (Vf p))=true
  rw[hb,Zy.2 (b9m p hp)];rfl),Zh (b,Vf p,()) rfl ?_⟩⟩
 ·have h:YG b.v (Ux (fs.map (·.l)++[l]))=false:=h
  rw[h];exact Uu rfl
 ·have h:YG b.v (Ux (fs.map (·.l)++[l]))=true:=h
  rw[h]
  refine X7 (fun h5=> ?_) fun h5=> ?_
  ·have h5:YG b.v (Vf p)=false:=h5
   rw[h5];exact Uu rfl
  ·have h5:YG b.v (Vf p)=true:=h5
   rw[h5];exact Uu rfl
theorem b3k(f:Fact):PV.agg (Vk (List.drop 1 (PV.cells (enc f))) 0 [Sh.int .i64,Sh.sl 2])=enc f.l:=rfl
theorem ME(b:BoxT)(fs:List Fact)(l:Lin)(p:List Mono)(h1:YI b=true)(h2:Yq fs=true)(h3:Zq l=true)(h4:ZI p=true)(hb:Zn b.v=true)(hp:Xg p=true)(hfl:fs.length<=100): ∀ (d i:Nat),d+i=fs.length->1<=i ->
  At WH 0 (Za XR (Zg (Dx b fs l p))) Wl 0 58 [(1,.pv (enc fs)),(3,.pv (enc p)),(4,.ptr 0 0),(6,.ptr 1 0),(9,.row 2 i 0 i),(10,.pv (.int .i64 i))] [.obj (.box [.pv (enc b.v),.pv (.int .i64 b.m)]),.obj (.box [.pv (.int .i64 l.k),.pv (enc l.t)]),.obj (.row false 24 2 (((fs.take i).map (·.l)).map enc))]:=by
 intro d
 induction d with
 | zero=>
  intro i hi h1'
  have htk:fs.take i=fs:=List.take_of_length_le (by omega)
  have hmi:(List.map (enc:Lin->PV) (fs.map (·.l))).length=i:=by simp;omega
  rw[htk]
  apply SF (G:=Zg (Dx b fs l p)) b fs l p i i (fs.map (·.l))
  apply ZK (Xk (by omega))
  refine⟨?_,?_,?_⟩
  ·rw[hmi]
   show((i==i)&&(i==i)&&decide ((i+1)*32<=1099511627776)&&decide (i+1<=1099511627776))=true
   rw[decide_eq_true (by omega),decide_eq_true (by omega)];simp
  ·rw[List.length_append,hmi];simp
  ·have e:List.map (enc:Lin->PV) (fs.map (·.l))++List.drop 0 (List.take 1 [PV.agg [PV.int .i64 l.k,enc l.t]])=List.map enc (fs.map (·.l)++[l]):=by rw[List.map_append];rfl
   have e2:List.drop 0 (List.take (i+List.length (List.drop 0 (List.take 1 [PV.agg [PV.int .i64 l.k,enc l.t]]))) (List.map (enc:Lin->PV) (fs.map (·.l)++[l])))=List.map enc (fs.map (·.l)++[l]):=by
    rw[List.drop_zero,List.take_of_length_le (by rw[List.map_append,List.length_append,hmi];simp)]
   rw[e,e2]
   exact AB b fs l p h1 h2 h3 h4 hb hp hfl
 | succ d ih=>
  intro i hi h1'
  have hlt:i<fs.length:=by omega
  apply SF (G:=Zg (Dx b fs l p)) b fs l p i i ((fs.take i).map (·.l))
  apply ZC (YV hlt)
  refine⟨Zt hlt rfl,Zx hlt ⟨?_,?_⟩⟩
  ·rw[b3k]
   have hq:(List.map (enc:Lin->PV) ((fs.take i).map (·.l))).length=i:=by simp;omega
   rw[hq]
   show((i==i)&&(i==i)&&decide ((i+1)*32<=1099511627776)&&decide (i+1<=1099511627776))=true
   rw[decide_eq_true (by omega),decide_eq_true (by omega)];simp
  ·rw[b3k,next (by omega)]
   have:=ih (i+1) (by omega) (by omega)
   rw[List.take_succ_eq_append_getElem hlt,List.map_append,List.map_append]at this
   exact this
theorem EX: ∀ x:BoxT×List Fact×Lin×List Mono×Unit,(ZG x.1&&Zk x.2.1&&decide (x.2.1.length<=100)&&Yt x.2.2.1&&Xg x.2.2.2.1)=true ->
  Zc WH 0 (Za XR (Zg (Zp x.1 x.2.1 (Zq x.2.2.1&&ZI x.2.2.2.1) (Zd x.2.2.1++Vf x.2.2.2.1)))) Wl [] (Ye a5o (encL x)):=by
 rintro⟨b,fs,l,p,⟨⟩⟩ h
 simp only[Bool.and_eq_true,decide_eq_true_eq]at h
 obtain⟨⟨⟨⟨hb,hf⟩,hfl⟩,hl⟩,hp⟩:=h
 have hbo:=hb
 simp only[ZG,WC,Bool.and_eq_true]at hb
 show Zc WH 0 (Za XR (Zg (Dx b fs l p))) _ _ _
 have bad : ∀ q:Bool,q=(YI b&&Yq fs&&(Zq l&&ZI p))->q=false->Zg (Dx b fs l p) (.int .i64 1):=by
  intro q hq hq0
  refine Uu ?_
  unfold Dx Zp
  rw[if_pos]
  rw[hq0]at hq
  cases h1:YI b
  ·simp
  ·cases h2:Yq fs
   ·simp
   ·rw[h1,h2]at hq
    revert hq
    cases Zq l <;> cases ZI p <;> simp
 refine b1n b fs l p ⟨Zj (b,()) rfl hbo,Zh (b,()) rfl (X7 (fun h1=>bad _ rfl ?_) fun h1=>⟨Zj (fs,()) rfl hf,Zh (fs,()) rfl (X7 (fun h2=>bad _ rfl ?_) fun h2=>⟨Zj (l,()) rfl hl,Zh (l,()) rfl (X7 (fun h3=>bad _ rfl ?_) fun h3=>⟨Zj (p,()) rfl hp,Zh (p,()) rfl (X7 (fun h4=>bad _ rfl ?_) fun h4=> ?_)⟩)⟩)⟩)⟩
 ·have h1:YI b=false:=h1
  rw[h1];rfl
 ·have h2:Yq fs=false:=h2
  rw[h2];simp
 ·have h3:Zq l=false:=h3
  rw[h3];simp
 ·have h4:ZI p=false:=h4
  rw[h4];simp
 ·have h1:YI b=true:=h1
  have h2:Yq fs=true:=h2
  have h3:Zq l=true:=h3
  have h4:ZI p=true:=h4
  cases hfs:fs with
  | nil=>
   subst hfs
   apply AR (G:=Zg (Dx b [] l p)) b [] l p ((0:Nat):Int)
   apply ZK (Xk (by simp))
   exact AB b [] l p h1 h2 h3 h4 hb.1 hp hfl
  | cons f r=>
   have hlt:0<fs.length:=by rw[hfs];simp
   rw[<- hfs]
   apply AR (G:=Zg (Dx b fs l p)) b fs l p ((0:Nat):Int)
   apply ZC (YV hlt)
   refine⟨Zt hlt rfl,Zx hlt ?_⟩
   rw[next (by omega)]
   have:=ME b fs l p h1 h2 h3 h4 hb.1 hp hfl (fs.length - 1) 1 (by omega) (by omega)
   rw[show(1:Nat)=0+1 from rfl,List.take_succ_eq_append_getElem hlt]at this
   exact this
theorem b0k(b:BoxT)(fs:List Fact)(R:List (List Int)×Int)(n:Nat)(p0:List Int)(hend:VJ b.m p0=none->Zg R (.tup [.sl 0 true [],.int .i64 0]))
  (hcont : ∀ p,VJ b.m p0=some p->At YD 0 (Za Z9 (Zg R)) Ya 0 60 [(1,.pv (enc fs)),(2,.ptr 0 0),(8,.row 1 n 0 n),(7,.pv (.sl 0 true []))] [.obj (.box [.pv (enc b.v),.pv (.int .i64 b.m)]),.obj (.row false 3 1 (p.map enc))]) :
  ∀ (k:Nat) (p:List Int),p.length=n->n<=1000->k<=n->(∀ x∈p,-1<=x∧x<=20000)->YQ b.m k p=VJ b.m p0 ->
  At YD 0 (Za Z9 (Zg R)) Ya 1 60 [(1,.pv (enc fs)),(2,.ptr 0 0),(8,.row 1 n 0 n),(7,.pv (.sl 0 true [])),(9,.pv (.int .i64 ((k:Int) - 1)))] [.obj (.box [.pv (enc b.v),.pv (.int .i64 b.m)]),.obj (.row false 3 1 (p.map enc))]:=by
 intro k
 induction k with
 | zero=>
  intro p hpn hn hk hx hnk
  refine FZ b fs n p _ (ZK (by simp) (ZC (by simp) ?_))
  exact hend hnk.symm
 | succ k ih=>
  intro p hpn hn hk hx hnk
  have hlt:k<p.length:=by omega
  have ek:((k+1:Nat):Int) - 1=(k:Int):=by omega
  rw[ek]
  have e:=UM hlt
  have eg:p.getD k 0=p[k]:=by simp[List.getD,hlt]
  have hxk:=hx _ (List.getElem_mem hlt)
  have q1:(decide (0<=(k:Int))&&decide (0+Int.toNat (k:Int)<n)&&List.length (List.map (enc:Int->PV) p)==n)=true:=by simp;omega
  have q2:(List.length (List.map (enc:Int->PV) p)==n&&decide (0+Int.toNat (k:Int)<List.length (List.map (enc:Int->PV) p)))=true:=by simp;omega
  have hset : ∀ y:Int,List.set (List.map (enc:Int->PV) p) (0+Int.toNat (k:Int)) (enc y)=(p.set k y).map enc:=fun y=>by rw[Nat.zero_add,Int.toNat_natCast,List.map_set]
  refine FZ b fs n p k (ZC (by simp) ?_)
  rw[e]
  refine⟨q1,q2,rfl,Ka (fun h=>⟨q1,?_,?_⟩) fun h=>ZK (by simp) ⟨q1,q2,rfl,q1,?_,?_⟩⟩
  ·rw[q2];rfl
  ·have h:p[k]=b.m:=h
   have hn':YQ b.m (k+1) p=YQ b.m k (p.set k 0):=by rw[YQ,eg,if_pos h]
   have hw:IntKind.i64.wrap ((k:Int) - 1)=(k:Int) - 1:=XJ (by omega) (by omega)
   rw[hw]
   have:=ih (p.set k 0) (by rw[List.length_set];exact hpn) hn (by omega) (fun x hx'=>by
    rcases List.mem_or_eq_of_mem_set hx' with h|rfl
    ·exact hx x h
    ·omega) (by rw[<- hn'];exact hnk)
   have e0:=hset 0
   rw[<- e0]at this
   exact this
  ·rw[q2];rfl
  ·have h : ¬ p[k]=b.m:=h
   have hn':YQ b.m (k+1) p=some (p.set k (p[k]+1)):=by rw[YQ,eg,if_neg h]
   have hw:IntKind.i64.wrap (p[k]+1)=p[k]+1:=XJ (by omega) (by omega)
   have:=hcont _ (hnk.symm.trans hn')
   have e0:=hset (IntKind.i64.wrap (p[k]+1))
   rw[hw]at e0
   rw[<- e0]at this
   have hww:(PV.int .i64 (IntKind.i64.wrap (p[k]+1)))=enc (p[k]+1):=by rw[hw];rfl
   show At YD 0 (Za Z9 (Zg R)) Ya 0 60 _ [_,.obj (.row false 3 1 (List.set (List.map enc p) (0+Int.toNat (k:Int)) (PV.int .i64 (IntKind.i64.wrap (p[k]+1)))))]
   rw[hww]
   exact this
theorem b5p(b:BoxT)(fs:List Fact)(R:List (List Int)×Int)(n:Nat)(q:Nat)(xs:List (List Int))(hq:xs.length=q)(p0:List Int)(hend:VJ b.m p0=none->Zg R (.tup [.sl 1 false (xs.map enc),.int .i64 0]))
  (hcont : ∀ p,VJ b.m p0=some p->At YD 0 (Za Z9 (Zg R)) Ya 0 60 [(1,.pv (enc fs)),(2,.ptr 0 0),(7,.row 1 q 0 q),(8,.row 2 n 0 n)] [.obj (.box [.pv (enc b.v),.pv (.int .i64 b.m)]),.obj (.row false 34 1 (xs.map enc)),.obj (.row false 3 1 (p.map enc))]) :
  ∀ (k:Nat) (p:List Int),p.length=n->n<=1000->k<=n->(∀ x∈p,-1<=x∧x<=20000)->YQ b.m k p=VJ b.m p0 ->
  At YD 0 (Za Z9 (Zg R)) Ya 1 60 [(1,.pv (enc fs)),(2,.ptr 0 0),(7,.row 1 q 0 q),(8,.row 2 n 0 n),(9,.pv (.int .i64 ((k:Int) - 1)))] [.obj (.box [.pv (enc b.v),.pv (.int .i64 b.m)]),.obj (.row false 34 1 (xs.map enc)),.obj (.row false 3 1 (p.map enc))]:=by
 intro k
 induction k with
 | zero=>
  intro p hpn hn hk hx hnk
  refine Lr b fs n p _ q xs (ZK (by simp) (ZC (by simp) ?_))
  refine⟨by simp[hq],?_⟩
  rw[List.drop_zero,List.take_of_length_le (by simp[hq])]
  exact hend hnk.symm
 | succ k ih=>
  intro p hpn hn hk hx hnk
  have hlt:k<p.length:=by omega
  have ek:((k+1:Nat):Int) - 1=(k:Int):=by omega
  rw[ek]
  have e:=UM hlt
  have eg:p.getD k 0=p[k]:=by simp[List.getD,hlt]
  have hxk:=hx _ (List.getElem_mem hlt)
  have q1:(decide (0<=(k:Int))&&decide (0+Int.toNat (k:Int)<n)&&List.length (List.map (enc:Int->PV) p)==n)=true:=by simp;omega
  have q2:(List.length (List.map (enc:Int->PV) p)==n&&decide (0+Int.toNat (k:Int)<List.length (List.map (enc:Int->PV) p)))=true:=by simp;omega
  have hset : ∀ y:Int,List.set (List.map (enc:Int->PV) p) (0+Int.toNat (k:Int)) (enc y)=(p.set k y).map enc:=fun y=>by rw[Nat.zero_add,Int.toNat_natCast,List.map_set]
  refine Lr b fs n p k q xs (ZC (by simp) ?_)
  rw[e]
  refine⟨q1,q2,rfl,Ka (fun h=>⟨q1,?_,?_⟩) fun h=>ZK (by simp) ⟨q1,q2,rfl,q1,?_,?_⟩⟩
  ·rw[q2];rfl
  ·have h:p[k]=b.m:=h
   have hn':YQ b.m (k+1) p=YQ b.m k (p.set k 0):=by rw[YQ,eg,if_pos h]
   have hw:IntKind.i64.wrap ((k:Int) - 1)=(k:Int) - 1:=XJ (by omega) (by omega)
   rw[hw]
   have:=ih (p.set k 0) (by rw[List.length_set];exact hpn) hn (by omega) (fun x hx'=>by
    rcases List.mem_or_eq_of_mem_set hx' with h|rfl
    ·exact hx x h
    ·omega) (by rw[<- hn'];exact hnk)
   have e0:=hset 0
   rw[<- e0]at this
   exact this
  ·rw[q2];rfl
  ·have h : ¬ p[k]=b.m:=h
   have hn':YQ b.m (k+1) p=some (p.set k (p[k]+1)):=by rw[YQ,eg,if_neg h]
   have hw:IntKind.i64.wrap (p[k]+1)=p[k]+1:=XJ (by omega) (by omega)
   have:=hcont _ (hnk.symm.trans hn')
   have e0:=hset (IntKind.i64.wrap (p[k]+1))
   rw[hw]at e0
   rw[<- e0]at this
   have hww:(PV.int .i64 (IntKind.i64.wrap (p[k]+1)))=enc (p[k]+1):=by rw[hw];rfl
   show At YD 0 (Za Z9 (Zg R)) Ya 0 60 _ [_,_,.obj (.row false 3 1 (List.set (List.map enc p) (0+Int.toNat (k:Int)) (PV.int .i64 (IntKind.i64.wrap (p[k]+1)))))]
   rw[hww]
   exact this
def a0k(b:BoxT)(fs:List Fact)(R:List (List Int)×Int)(n:Nat)(p:List Int)(k:Nat):Prop:=
 if k=0 then At YD 0 (Za Z9 (Zg R)) Ya 0 60 [(1,.pv (enc fs)),(2,.ptr 0 0),(8,.row 1 n 0 n),(7,.pv (.sl 0 true []))] [.obj (.box [.pv (enc b.v),.pv (.int .i64 b.m)]),.obj (.row false 3 1 (p.map enc))]
 else At YD 0 (Za Z9 (Zg R)) Ya 0 60 [(1,.pv (enc fs)),(2,.ptr 0 0),(7,.row 1 k 0 k),(8,.row 2 n 0 n)] [.obj (.box [.pv (enc b.v),.pv (.int .i64 b.m)]),.obj (.row false 34 1 (((ZR b fs).take k).map enc)),.obj (.row false 3 1 (p.map enc))]
theorem Pm(p:List Int)(n:Nat)(h:p.length=n):(PV.sl 1 false (List.drop 0 (List.take (0+List.length (List.drop 0 (List.take n (List.map (enc:Int->PV) p)))) (([]:List PV)++List.drop 0 (List.take n (List.map enc p))))))=enc p:=by
 subst h
 rw[List.nil_append,List.drop_zero,List.take_of_length_le (by simp:(List.map (enc:Int->PV) p).length<=p.length),List.drop_zero,List.take_of_length_le (by simp)]
 rfl
theorem a5t(b:BoxT)(fs:List Fact)(hv:YI b=true)(hf:Zk fs=true)(hl:b.v.length<=1000): ∀ (lst:List (List Int)) (p:List Int) (k:Nat),Walk b.m p lst->p.length=b.v.length->(∀ y∈lst,∀ x∈y,-1<=x∧x<=20000)->(ZR b fs).drop k=lst.filter (Xy b.v fs)->k<=(ZR b fs).length ->
  a0k b fs (ZR b fs,0) b.v.length p k:=by
 intro lst
 induction lst with
 | nil=>intro p k hw;cases hw
 | cons p' rest ih=>
  intro p k hw hpl hpx hdr hk
  obtain⟨t,ht⟩ : ∃ t,p'::rest=p::t:=by
   cases hw with
   | last h=>exact⟨[],rfl⟩
   | step h k=>exact⟨_,rfl⟩
  injection ht with ht1 ht2
  subst ht1 ht2
  have hlen:=a1k (fs:=fs) hv
  have hp:p'.length<=1000:=by omega
  have hpre:XX [(.pv (.agg [(.sl 1 false (List.map enc (BoxT.v b))),(.int .i64 (BoxT.m b))])),(.row 0 b.v.length 0 b.v.length)] [(.row false 3 1 (List.map enc p'))]=true:=by
   show(b.v.length==b.v.length&&(p'.map enc).length==b.v.length&&3==3&&VG (List Int) (enc p')&&VG (List Str) (enc b.v)&&decide ((dec (enc b.v:PV):List Str).length<=1000)&&decide (b.v.length<=1000))=true
   rw[ZY,ZY,Enc.dec_enc,decide_eq_true hl,List.length_map,hpl];simp
  have hvals:Ze (dec (enc b.v:PV)) (BJ (List.map enc p'))=Ze b.v p':=by rw[GL,Enc.dec_enc]
  have hh:(fs,Ze b.v p',()).1=fs:=rfl
  have hpreH:(Go.Pl.preT (fun(x:List Fact×List Coef×Unit)=>Zk (Prod.fst x)&&decide (List.length (Prod.fst (Prod.snd x))<=9223372036854775807)) [(.sl 3 false (List.map enc fs)),(.sl 2 false (List.map enc (Ze b.v p')))])=true:=by
   refine Zj (fs,Ze b.v p',()) rfl ?_
   show(Zk fs&&decide ((Ze b.v p').length<=9223372036854775807))=true
   rw[hf,decide_eq_true (by unfold Ze;rw[List.length_zipWith];omega)];rfl
  -- what comes behind the point
  have hend : ∀ k',(ZR b fs).drop k'=rest.filter (Xy b.v fs)->k'<=(ZR b fs).length->VJ b.m p'=none->k'=(ZR b fs).length:=by
   intro k' h1 h2 h3
   cases hw with
   | step h _=>rw[h]at h3;cases h3
   | last h=>
    have e:=congrArg List.length h1
    rw[List.length_drop]at e
    simp at e
    omega
  have hcont : ∀ k',(ZR b fs).drop k'=rest.filter (Xy b.v fs)->k'<=(ZR b fs).length-> ∀ q,VJ b.m p'=some q->a0k b fs (ZR b fs,0) b.v.length q k':=by
   intro k' h1 h2 q hq
   cases hw with
   | last h=>rw[h]at hq;cases hq
   | step h hw'=>
    rw[h]at hq
    cases hq
    exact ih q k' hw' ((Db _ _ _ _ h).trans hpl) (fun y hy=>hpx y (by simp[hy])) h1 h2
  have hx:=hpx p' (by simp)
  -- the two ways on
  have goA:(ZR b fs).drop 0=rest.filter (Xy b.v fs)->At YD 0 (Za Z9 (Zg (ZR b fs,(0:Int)))) Ya 1 60 [(1,.pv (enc fs)),(2,.ptr 0 0),(8,.row 1 b.v.length 0 b.v.length),(7,.pv (.sl 0 true [])),(9,.pv (.int .i64 ((b.v.length:Int) - 1)))] [.obj (.box [.pv (enc b.v),.pv (.int .i64 b.m)]),.obj (.row false 3 1 (p'.map enc))]:=by
   intro h1
   refine b0k b fs (ZR b fs,0) b.v.length p' (fun hn=> ?_) (fun q hq=> ?_) b.v.length p' hpl hl (Nat.le_refl _) hx (by unfold VJ;rw[hpl])
   ·have:=hend 0 h1 (Nat.zero_le _) hn
    rw[List.length_eq_zero_iff.1 this.symm]
    exact⟨rfl,rfl⟩
   ·have:=hcont 0 h1 (Nat.zero_le _) q hq
    unfold a0k at this
    rw[if_pos rfl]at this
    exact this
  have goB : ∀ k',k'≠0->(ZR b fs).drop k'=rest.filter (Xy b.v fs)->k'<=(ZR b fs).length->At YD 0 (Za Z9 (Zg (ZR b fs,(0:Int)))) Ya 1 60 [(1,.pv (enc fs)),(2,.ptr 0 0),(7,.row 1 k' 0 k'),(8,.row 2 b.v.length 0 b.v.length),(9,.pv (.int .i64 ((b.v.length:Int) - 1)))] [.obj (.box [.pv (enc b.v),.pv (.int .i64 b.m)]),.obj (.row false 34 1 (((ZR b fs).take k').map enc)),.obj (.row false 3 1 (p'.map enc))]:=by
   intro k' hk0 h1 h2
   refine b5p b fs (ZR b fs,0) b.v.length k' ((ZR b fs).take k') (by rw[List.length_take];omega) p' (fun hn=> ?_) (fun q hq=> ?_) b.v.length p' hpl hl (Nat.le_refl _) hx (by unfold VJ;rw[hpl])
   ·have:=hend k' h1 h2 hn
    rw[this,List.take_length]
    exact ZQ (x:=(ZR b fs,(0:Int))) rfl
   ·have:=hcont k' h1 h2 q hq
    unfold a0k at this
    rw[if_neg hk0]at this
    exact this
  have hw0:IntKind.i64.wrap (((b.v.length - 0:Nat):Int) - 1)=(b.v.length:Int) - 1:=by rw[Nat.sub_zero];exact XJ (by omega) (by omega)
  have c1:(List.length (List.map (enc:Int->PV) p')==b.v.length)=true:=by simp[hpl]
  have c2:(List.length ([]:List PV)==0&&0==0&&decide ((0+List.length (List.drop 0 (List.take b.v.length (List.map (enc:Int->PV) p'))))*8<=1099511627776)&&decide (0+List.length (List.drop 0 (List.take b.v.length (List.map (enc:Int->PV) p')))<=1099511627776))=true:=by simp;omega
  have c3:(List.length (([]:List PV)++List.drop 0 (List.take b.v.length (List.map (enc:Int->PV) p')))==0+List.length (List.drop 0 (List.take b.v.length (List.map (enc:Int->PV) p'))))=true:=by simp
  by_cases hin:Xy b.v fs p'=true
  ·rw[List.filter_cons,if_pos hin]at hdr
   have hk1:k<(ZR b fs).length:=by
    have e:=congrArg List.length hdr
    rw[List.length_drop]at e
    simp at e
    omega
   have hpk:(ZR b fs)[k]=p':=by
    have:=List.drop_eq_getElem_cons hk1
    rw[hdr]at this
    injection this with this _
    exact this.symm
   have hdr2:(ZR b fs).drop (k+1)=rest.filter (Xy b.v fs):=by
    have:=List.drop_eq_getElem_cons hk1
    rw[hdr]at this
    injection this with _ this
    exact this.symm
   have ht:(ZR b fs).take (k+1)=(ZR b fs).take k++[p']:=by rw[List.take_succ_eq_append_getElem hk1,hpk]
   have hb:=goB (k+1) (by omega) hdr2 hk1
   unfold a0k
   by_cases hk0:k=0
   ·subst hk0
    rw[if_pos rfl]
    refine Ld b fs b.v.length p' ⟨hpre,?_⟩
    rw[hvals]
    refine⟨hpreH,Zh (fs,Ze b.v p',()) rfl (ZC hin ⟨c1,c2,c3,?_⟩)⟩
    rw[Pm p' _ hpl,hw0]
    rw[ht]at hb
    exact hb
   ·rw[if_neg hk0]
    have el:((ZR b fs).take k).length=k:=by rw[List.length_take];omega
    refine MZ b fs b.v.length p' k ((ZR b fs).take k) ⟨hpre,?_⟩
    rw[hvals]
    refine⟨hpreH,Zh (fs,Ze b.v p',()) rfl (ZC hin ⟨c1,c2,c3,?_,?_⟩)⟩
    ·rw[Pm p' _ hpl,List.length_map,el]
     show((k==k)&&(k==k)&&decide ((k+1)*24<=1099511627776)&&decide (k+1<=1099511627776))=true
     rw[decide_eq_true (by omega),decide_eq_true (by omega)];simp
    ·rw[Pm p' _ hpl,hw0]
     rw[ht,List.map_append]at hb
     exact hb
  ·rw[List.filter_cons,if_neg hin]at hdr
   unfold a0k
   by_cases hk0:k=0
   ·subst hk0
    rw[if_pos rfl]
    refine Ld b fs b.v.length p' ⟨hpre,?_⟩
    rw[hvals]
    refine⟨hpreH,Zh (fs,Ze b.v p',()) rfl (ZK hin ?_)⟩
    rw[hw0]
    exact goA hdr
   ·rw[if_neg hk0]
    refine MZ b fs b.v.length p' k ((ZR b fs).take k) ⟨hpre,?_⟩
    rw[hvals]
    refine⟨hpreH,Zh (fs,Ze b.v p',()) rfl (ZK hin ?_)⟩
    rw[hw0]
    exact goB k hk0 hdr hk
theorem a1u{b:BoxT}(h:YI b=true): ∀ y∈KM b.m.toNat b.v.length,∀ x∈y,-1<=x∧x<=20000:=by
 intro y hy x hx
 obtain⟨q1,q2⟩:=Gn.1 hy
 have:=q2 x hx
 obtain⟨_,_,h3,h4,_⟩:=Us.1 h
 rcases h3 with h3|h3
 ·rw[h3]at q1
  rw[List.length_eq_zero_iff.1 q1]at hx
  cases hx
 ·omega
theorem b5h{b:BoxT}(h:YI b=true):Walk b.m (We b.v) (KM b.m.toNat b.v.length):=by
 have:=Dv b.m.toNat b.v.length
 have e:(b.m.toNat:Int)=b.m:=by
  have:0<=b.m:=(Us.1 h).2.2.2.1
  omega
 have hz:We b.v=List.replicate b.v.length 0:=List.map_const' ..
 rw[e,<- hz]at this
 exact this
theorem b6q: ∀ x:BoxT×List Fact×Unit,(ZG x.1&&Zk x.2.1&&decide (x.2.1.length<=100)&&decide (x.1.v.length<=1000))=true->Zc YD 0 (Za Z9 (Zg (Z0 x.1 x.2.1))) Ya [] (Ye c0e (encL x)):=by
 rintro⟨b,fs,⟨⟩⟩ hp
 simp only[Bool.and_eq_true,decide_eq_true_eq]at hp
 obtain⟨⟨⟨h1,h2⟩,h3⟩,h4⟩:=hp
 have hrd:Zp b fs (Zq ⟨0,[]⟩&&ZI []) (Zd ⟨0,[]⟩++Vf [])=Zp b fs true []:=rfl
 refine c7k b fs ⟨CK (b,fs,⟨0,[]⟩,[],()) ?_ ?_ (by simp[h1,h2,h3,Yt,Xg]),Dy (b,fs,⟨0,[]⟩,[],()) ?_ ?_⟩
 ·show(is BoxT (enc b)&&(is (List Fact) (enc fs)&&(true&&(true&&true))))=true
  rw[Enc.is_enc,Enc.is_enc];rfl
 ·show((dec (enc b:PV):BoxT),(dec (enc fs:PV):List Fact),(⟨0,[]⟩:Lin),([]:List Mono),())=_
  rw[Enc.dec_enc,Enc.dec_enc]
 ·show((dec (enc b:PV):BoxT),(dec (enc fs:PV):List Fact),(⟨0,[]⟩:Lin),([]:List Mono),())=_
  rw[Enc.dec_enc,Enc.dec_enc]
 ·show if (Zp b fs true [] != 0)=true then _ else _
  by_cases h0:Zp b fs true []=0
  ·rw[if_neg (by simp[h0])]
   obtain⟨hv,_⟩:=Ui b fs true [] h0
   have hpt:Z0 b fs=(ZR b fs,0):=by unfold Z0;rw[if_pos h0]
   rw[hpt]
   have hp0:(ZR b fs).drop 0=(KM b.m.toNat b.v.length).filter (Xy b.v fs):=by
    unfold ZR
    rw[VL hv];rfl
   have:=a5t b fs hv h2 h4 _ _ 0 (b5h hv) (by simp[We]) (a1u hv) hp0 (Nat.zero_le _)
   unfold a0k at this
   rw[if_pos rfl]at this
   refine⟨by simp;omega,?_⟩
   have en:Int.toNat ((List.length (List.map (enc:Str->PV) b.v):Nat):Int)=b.v.length:=by simp
   have ez:List.replicate b.v.length (PV.int .i64 0)=(We b.v).map enc:=by
    unfold We
    rw[List.map_map]
    exact(List.map_const' ..).symm
   rw[en,ez]
   exact this
  ·rw[if_pos (by simpa using h0)]
   have hpt:Z0 b fs=([],Zp b fs true []):=by unfold Z0;rw[if_neg h0]
   rw[hpt]
   exact⟨rfl,rfl⟩
end Go.Pl

namespace Go.Pl
open Go.RowKit
open Enc (enc dec is)
open EncL (encL decL isL)
def Yo(m n:Int):Bool:=decide (m<n)
def Kk(g:Nat):List AV->List AObj->Bool
 | [.pv (.int .i64 n),.ptr 0 0,.ptr 1 0,.ptr 2 0],[.box [.pv (.bool s)],.box [.pv (.fn g')],.box [.pv (.int .i64 z)]]=>g'==g
 | _,_=>false
def Je(f:Int->Int->Bool):List AV->List AObj->AV×List AObj×List AObj
 | [.pv (.int .i64 n),_,_,_],[.box [.pv (.bool s)],.box [.pv (.fn g)],.box [.pv (.int .i64 z)]]=>(.tup [],[.box [.pv (.bool true)],.box [.pv (.fn g)],.box [.pv (.int .i64 (if !s||f n z then n else z))]],[])
 | _,_=>Vr
def DN(f:Int->Int->Bool):List Int->Option Int
 | []=>none
 | x::l=>some (l.foldl (fun z n=>if f n z then n else z) x)
def YH(b:BoxT)(fs:List Fact)(l:Lin):List Int:=(ZR b fs).map fun p=>(Yj l (Ze b.v p)).1
def U8(b:BoxT)(fs:List Fact)(l:Lin):Bool:=ZG b&&Zk fs&&decide (fs.length<=100)&&decide (b.v.length<=1000)&&Yi l&&decide (l.t.length<=1000)
def Qe(f:Int->Int->Bool)(b:BoxT)(fs:List Fact)(l:Lin):Int×Int:=
 if Zp b fs (Zq l) (Zd l)=0 then(match DN f (YH b fs l)with|none=>(0,9)|some z=>(z,0))else(0,Zp b fs (Zq l) (Zd l))
end Go.Pl

namespace Go.Pl
open Go.RowKit
open Enc (enc dec is)
open EncL (encL decL isL)
set_option maxRecDepth 100000
def ED:IC:=(.seq (.reg [⟨(some 4),(.mv (.c (.bool false))),0,none⟩] none) (.seq (.reg [⟨(some 5),(.mv (.t 0)),0,none⟩,⟨(some 6),(.mv (.t 1)),0,none⟩,⟨(some 7),(.bin .num .lss (.t 5) (.t 6)),0,none⟩,⟨(some 4),(.mv (.t 7)),0,none⟩] none) .ret))
def Oo:List IRes:=[(.tmp 4)]
abbrev c4a:Nat:=8
def b4t:ZF:=Xe []
theorem c8n{G:PV->Prop}(m n:Int)(h:G ((.bool (decide (m<n))))):Zc b4t 0 (Za Oo G) ED [] (Ye 8 [enc m,enc n]):=Zc.tp (.lit (.nil)) h (by kernel_rfl)
def Nu:IC:=(.seq (.reg [⟨(some 5),(.load false [.bool] (.t 1)),0,none⟩,⟨(some 6),(.un .not (.t 5)),0,none⟩,⟨(some 7),(.mv (.t 6)),0,none⟩,⟨(some 8),(.load false [.any] (.t 2)),0,(some (7,false))⟩,⟨(some 9),(.mv (.t 0)),0,(some (7,false))⟩,⟨(some 10),(.load false [(.int .i64)] (.t 3)),0,(some (7,false))⟩,⟨(some 11),(.call (.t 8) [(.t 9),(.t 10)]),0,(some (7,false))⟩,⟨(some 12),(.pick (.t 7) (.c (.bool true)) (.t 11)),2,none⟩] none) (.cond (.t 12) (.reg [⟨(some 13),(.mv (.t 0)),0,none⟩,⟨none,(.store 1 (.t 3) (.t 13)),0,none⟩,⟨none,(.store 1 (.t 1) (.c (.bool true))),0,none⟩] none) .skip))
def PL:List IRes:=[]
abbrev c0w:Nat:=14
def a0e:ZF:=Xe [(128,.pure (preT (fun _:Int×Int×Unit=>true)) (Zf (fun x:Int×Int×Unit=>decide (x.1<x.2.1))))]
theorem c7o{G:AV×List AObj×List AObj->Prop}(n:Int)(s:Bool)(z:Int)(h:if (!s)=true then G (((.tup []),([(.box [(.pv (.bool true))]),(.box [(.pv (.fn 128))]),(.box [(.pv (.int .i64 n))])],[])))else(∃ y0:Bool,AV.pv (Zf (fun(x:Int×Int×Unit)=>decide (x.1<x.2.1)) [(.int .i64 n),(.int .i64 z)])=AV.pv (enc y0)∧(if (y0)=true then G (((.tup []),([(.box [(.pv (.bool true))]),(.box [(.pv (.fn 128))]),(.box [(.pv (.int .i64 n))])],[])))else(G (((.tup []),([(.box [(.pv (.bool s))]),(.box [(.pv (.fn 128))]),(.box [(.pv (.int .i64 z))])],[]))))))):Zc a0e 3 (Zo 3 PL G) Nu [] (YK 14 [.pv (.int .i64 n),.ptr 0 0,.ptr 1 0,.ptr 2 0] [.box [.pv (.bool s)],.box [.pv (.fn 128)],.box [.pv (.int .i64 z)]]):=Zc.to (.ask (.lit (.lit (.lit (.lit (.lit (.nil)))))) (.lit (.lit (.lit (.lit (.abs (Bool) (fun YY=>AV.pv (enc YY)) (.lit (.ask (.nil) (.nil))))))))) h (by kernel_rfl)
def U4:IC:=(.seq (.reg [⟨(some 4),(.box 2 (.t 0)),0,none⟩,⟨(some 6),(.box 2 (.t 2)),1,none⟩,⟨(some 7),(.box 1 (.t 3)),2,none⟩,⟨(some 8),(.alloc (.int .i64 0)),3,none⟩,⟨(some 9),(.alloc (.int .i64 0)),4,none⟩] none) (.seq (.seq (.reg [⟨(some 18),(.load true [(.sl 1),(.int .i64)] (.t 4)),0,none⟩,⟨(some 19),(.mv (.t 1)),0,none⟩,⟨(some 20),(.load true [(.int .i64),(.sl 2)] (.t 6)),0,none⟩,⟨(some 21),(.call (.c (.fn 73)) [(.t 20)]),0,none⟩,⟨(some 22),(.load true [(.int .i64),(.sl 2)] (.t 6)),2,none⟩,⟨(some 23),(.call (.c (.fn 174)) [(.t 22)]),2,none⟩,⟨(some 24),(.call (.c (.fn 116)) [(.t 18),(.t 19),(.t 21),(.t 23)]),4,none⟩,⟨(some 10),(.mv (.t 24)),6,none⟩] (some [[],[],[],[2],[],[4,3,2],[0,1,3,5,2,4],[6,0,1,2,3,4,5]])) (.seq (.reg [⟨(some 25),(.mv (.t 10)),0,none⟩,⟨(some 26),(.bin .num .neq (.t 25) (.c (.int .i64 0))),0,none⟩] none) (.cond (.t 26) (.seq (.reg [⟨(some 27),(.mv (.t 10)),0,none⟩,⟨none,(.store 1 (.t 8) (.c (.int .i64 0))),0,none⟩,⟨none,(.store 1 (.t 9) (.t 27)),0,none⟩] none) .ret) .skip))) (.seq (.reg [⟨(some 11),(.alloc (.int .i64 0)),0,none⟩,⟨(some 12),(.alloc (.bool false)),1,none⟩,⟨none,(.store 1 (.t 11) (.c (.int .i64 0))),2,none⟩,⟨none,(.store 1 (.t 12) (.c (.bool false))),2,none⟩] none) (.seq (.reg [⟨(some 28),(.mkfn 194 [] [(.t 12),(.t 7),(.t 11)]),0,none⟩,⟨(some 13),(.alloc .nilfn),0,none⟩,⟨none,(.store 1 (.t 13) (.t 28)),1,none⟩] none) (.seq (.seq (.reg [⟨(some 29),(.load true [(.sl 1),(.int .i64)] (.t 4)),0,none⟩,⟨(some 30),(.mv (.t 1)),0,none⟩,⟨(some 31),(.call (.c (.fn 117)) [(.t 29),(.t 30)]),0,none⟩] none) (.block 0 (.ext 0 [31,33,6,15,35,36,37,34,38,39,17,40,41,8,9,42,13,16,43,44,12,11]))) (.seq (.seq (.reg [⟨(some 46),(.load false [.bool] (.t 12)),0,none⟩,⟨(some 47),(.un .not (.t 46)),0,none⟩] none) (.cond (.t 47) (.seq (.reg [⟨none,(.store 1 (.t 8) (.c (.int .i64 0))),0,none⟩,⟨none,(.store 1 (.t 9) (.c (.int .i64 9))),0,none⟩] none) .ret) .skip)) (.seq (.reg [⟨(some 48),(.load false [(.int .i64)] (.t 11)),0,none⟩,⟨none,(.store 1 (.t 8) (.t 48)),0,none⟩,⟨none,(.store 1 (.t 9) (.c (.int .i64 0))),0,none⟩] none) .ret)))))))
def QR:List IRes:=[(.cell false 1 8),(.cell false 1 9)]
abbrev b4p:Nat:=49
def Ub:ZF:=Xe [(73,.pure (preT (fun x:Lin×Unit=>Yi x.1)) (Zf (fun x:Lin×Unit=>Zq x.1))),(174,.own Jp CL),(116,.pure (preT (fun x:BoxT×List Fact×Bool×NilS×Unit=>ZG x.1&&Zk x.2.1&&decide (x.2.1.length<=100))) (Zf (fun x:BoxT×List Fact×Bool×NilS×Unit=>Zp x.1 x.2.1 x.2.2.1 []))),(117,.own Xc WP),(38,.pure (preT (fun x:Lin×List Coef×Unit=>Yi x.1&&decide (x.2.1.length<=9223372036854775807))) (Zf (fun x:Lin×List Coef×Unit=>Yj x.1 x.2.1))),(194,.own (Kk 128) (Je Yo))]
theorem c1g{G:PV->Prop}(E:YB)(b:BoxT)(fs:List Fact)(l:Lin)(h:(Go.Pl.preT (fun(x:Lin×Unit)=>Yi x.1) [(.agg [(.int .i64 l.k),(.sl 2 false (List.map enc l.t))])])=true∧(∃ y0:Bool,AV.pv (Zf (fun(x:Lin×Unit)=>Zq x.1) [(.agg [(.int .i64 l.k),(.sl 2 false (List.map enc l.t))])])=AV.pv (enc y0)∧((Jp [(.pv (.agg [(.int .i64 l.k),(.sl 2 false (List.map enc l.t))]))] [])=true∧((Go.Pl.preT (fun(x:BoxT×List Fact×Bool×NilS×Unit)=>ZG x.1&&Zk x.2.1&&decide (List.length x.2.1<=100)) [(.agg [(.sl 1 false (List.map enc b.v)),(.int .i64 b.m)]),(.sl 3 false (List.map enc fs)),(.bool y0),(.sl 0 true [])])=true∧(∃ y1:Int,AV.pv (Zf (fun(x:BoxT×List Fact×Bool×NilS×Unit)=>Zp x.1 x.2.1 x.2.2.1 []) [(.agg [(.sl 1 false (List.map enc b.v)),(.int .i64 b.m)]),(.sl 3 false (List.map enc fs)),(.bool y0),(.sl 0 true [])])=AV.pv (enc y1)∧(if (y1 != 0)=true then G ((.tup [(.int .i64 0),(.int .i64 y1)]))else((Xc [(.pv (.agg [(.sl 1 false (List.map enc b.v)),(.int .i64 b.m)])),(.pv (.sl 3 false (List.map enc fs)))] [])=true∧(E 0 ⟨ZU 49 0 [(6,(.ptr 0 0)),(8,(.ptr 1 0)),(9,(.ptr 2 0)),(11,(.ptr 3 0)),(12,(.ptr 4 0)),(13,(.ptr 5 0)),(15,.undef),(16,.undef),(17,.undef),(31,(.fn 177 [] [(.ptr 6 0),(.ptr 7 0)])),(33,.undef),(34,.undef),(35,.undef),(36,.undef),(37,.undef),(38,.undef),(39,.undef),(40,.undef),(41,.undef),(42,.undef),(43,.undef),(44,.undef)],[(.obj (.box [(.pv (.int .i64 l.k)),(.pv (.sl 2 false (List.map enc l.t)))])),(.obj (.box [(.pv (.int .i64 0))])),(.obj (.box [(.pv (.int .i64 0))])),(.obj (.box [(.pv (.int .i64 0))])),(.obj (.box [(.pv (.bool false))])),(.obj (.box [(.fn 194 [] [(.ptr 4 0),(.ptr 8 0),(.ptr 3 0)])])),(.obj (.box [(.pv (.sl 1 false (List.map enc b.v))),(.pv (.int .i64 b.m))])),(.obj (.box [(.pv (.sl 3 false (List.map enc fs)))])),(.obj (.box [(.pv (.fn 128))]))]⟩ (fun x S'=>Jw Ub E 0 (Za QR G) U4 0 x S'))))))))):ZB Ub E 0 (Za QR G) (.inl U4) [] (Ye 49 [enc b,enc fs,enc l,.fn 128]):=ZB.mp (.req (.abs (Bool) (fun YY=>AV.pv (enc YY)) (.req (.keep (.req (.abs (Int) (fun YY=>AV.pv (enc YY)) (.lit (.ask (.nil) (.req (.keep (.nil))))))))))) h (by kernel_rfl)
theorem b3b{G:PV->Prop}(E:YB)(b:BoxT)(fs:List Fact)(l:Lin)(z:Int)(s:Bool)(h:if (!s)=true then G ((.tup [(.int .i64 0),(.int .i64 9)]))else(G ((.tup [(.int .i64 z),(.int .i64 0)])))):Jw Ub E 0 (Za QR G) U4 0 .normal ⟨ZU 49 0 [(6,.ptr 0 0),(8,.ptr 1 0),(9,.ptr 2 0),(11,.ptr 3 0),(12,.ptr 4 0),(13,.ptr 5 0)],[.obj (.box [.pv (.int .i64 l.k),.pv (enc l.t)]),.obj (.box [.pv (.int .i64 0)]),.obj (.box [.pv (.int .i64 0)]),.obj (.box [.pv (.int .i64 z)]),.obj (.box [.pv (.bool s)]),.obj (.box [.fn 194 [] [.ptr 4 0,.ptr 6 0,.ptr 3 0]]),.obj (.box [.pv (.fn 128)])]⟩:=ZB.mp (.ask (.nil) (.nil)) h (by kernel_rfl)
def QN:IC:=U4
def QO:List IRes:=[(.cell false 1 8),(.cell false 1 9)]
abbrev b7u:Nat:=49
def Ug:ZF:=Xe [(73,.pure (preT (fun x:Lin×Unit=>Yi x.1)) (Zf (fun x:Lin×Unit=>Zq x.1))),(174,.own Jb H7),(116,.own UF Kg),(117,.own Xc WP),(38,.pure (preT (fun x:Lin×List Coef×Unit=>Yi x.1&&decide (x.2.1.length<=9223372036854775807))) (Zf (fun x:Lin×List Coef×Unit=>Yj x.1 x.2.1))),(194,.own (Kk 128) (Je Yo))]
theorem b8m{G:PV->Prop}(E:YB)(b:BoxT)(fs:List Fact)(l:Lin)(h:(Go.Pl.preT (fun(x:Lin×Unit)=>Yi x.1) [(.agg [(.int .i64 l.k),(.sl 2 false (List.map enc l.t))])])=true∧(∃ y0:Bool,AV.pv (Zf (fun(x:Lin×Unit)=>Zq x.1) [(.agg [(.int .i64 l.k),(.sl 2 false (List.map enc l.t))])])=AV.pv (enc y0)∧((Jb [(.pv (.agg [(.int .i64 l.k),(.sl 2 false (List.map enc l.t))]))] [])=true∧((UF [(.pv (.agg [(.sl 1 false (List.map enc b.v)),(.int .i64 b.m)])),(.pv (.sl 3 false (List.map enc fs))),(.pv (.bool y0)),(.row 0 (List.length (Zd (EU (PV.agg [enc l.k,enc l.t])))) 0 (List.length (Zd (EU (PV.agg [enc l.k,enc l.t])))))] [(.row false 9 1 (List.map enc (Zd (EU (PV.agg [enc l.k,enc l.t])))))])=true∧(if (Zp (a0n (PV.agg [enc b.v,enc b.m])) (Bc (enc fs)) y0 (KO (List.map enc (Zd (EU (PV.agg [enc l.k,enc l.t]))))) != 0)=true then G ((.tup [(.int .i64 0),(.int .i64 (Zp (a0n (PV.agg [enc b.v,enc b.m])) (Bc (enc fs)) y0 (KO (List.map enc (Zd (EU (PV.agg [enc l.k,enc l.t])))))))]))else((Xc [(.pv (.agg [(.sl 1 false (List.map enc b.v)),(.int .i64 b.m)])),(.pv (.sl 3 false (List.map enc fs)))] [])=true∧(E 0 ⟨ZU 49 0 [(6,(.ptr 0 0)),(8,(.ptr 1 0)),(9,(.ptr 2 0)),(11,(.ptr 3 0)),(12,(.ptr 4 0)),(13,(.ptr 5 0)),(15,.undef),(16,.undef),(17,.undef),(31,(.fn 177 [] [(.ptr 6 0),(.ptr 7 0)])),(33,.undef),(34,.undef),(35,.undef),(36,.undef),(37,.undef),(38,.undef),(39,.undef),(40,.undef),(41,.undef),(42,.undef),(43,.undef),(44,.undef)],[(.obj (.box [(.pv (.int .i64 l.k)),(.pv (.sl 2 false (List.map enc l.t)))])),(.obj (.box [(.pv (.int .i64 0))])),(.obj (.box [(.pv (.int .i64 0))])),(.obj (.box [(.pv (.int .i64 0))])),(.obj (.box [(.pv (.bool false))])),(.obj (.box [(.fn 194 [] [(.ptr 4 0),(.ptr 8 0),(.ptr 3 0)])])),(.obj (.box [(.pv (.sl 1 false (List.map enc b.v))),(.pv (.int .i64 b.m))])),(.obj (.box [(.pv (.sl 3 false (List.map enc fs)))])),(.obj (.box [(.pv (.fn 128))]))]⟩ (fun x S'=>Jw Ug E 0 (Za QO G) QN 0 x S')))))))):ZB Ug E 0 (Za QO G) (.inl QN) [] (Ye 49 [enc b,enc fs,enc l,.fn 128]):=ZB.mp (.req (.abs (Bool) (fun YY=>AV.pv (enc YY)) (.req (.keep (.req (.keep (.lit (.ask (.nil) (.req (.keep (.nil))))))))))) h (by kernel_rfl)
theorem a8y{G:PV->Prop}(E:YB)(b:BoxT)(fs:List Fact)(l:Lin)(z:Int)(s:Bool)(h:if (!s)=true then G ((.tup [(.int .i64 0),(.int .i64 9)]))else(G ((.tup [(.int .i64 z),(.int .i64 0)])))):Jw Ug E 0 (Za QO G) QN 0 .normal ⟨ZU 49 0 [(6,.ptr 0 0),(8,.ptr 1 0),(9,.ptr 2 0),(11,.ptr 3 0),(12,.ptr 4 0),(13,.ptr 5 0)],[.obj (.box [.pv (.int .i64 l.k),.pv (enc l.t)]),.obj (.box [.pv (.int .i64 0)]),.obj (.box [.pv (.int .i64 0)]),.obj (.box [.pv (.int .i64 z)]),.obj (.box [.pv (.bool s)]),.obj (.box [.fn 194 [] [.ptr 4 0,.ptr 6 0,.ptr 3 0]]),.obj (.box [.pv (.fn 128)])]⟩:=ZB.mp (.ask (.nil) (.nil)) h (by kernel_rfl)
def NE:IC:=(.seq (.reg [⟨(some 3),(.box 2 (.t 0)),0,none⟩,⟨(some 5),(.box 2 (.t 2)),1,none⟩,⟨(some 6),(.mv (.c (.int .i64 0))),2,none⟩,⟨(some 7),(.mv (.c (.int .i64 0))),2,none⟩] none) (.seq (.reg [⟨(some 8),(.load true [(.sl 1),(.int .i64)] (.t 3)),0,none⟩,⟨(some 9),(.mv (.t 1)),0,none⟩,⟨(some 10),(.load true [(.int .i64),(.sl 2)] (.t 5)),0,none⟩,⟨(some 11),(.call (.c (.fn 127)) [(.t 8),(.t 9),(.t 10),(.c (.fn 128))]),0,none⟩,⟨(some 12),(.extract (.t 11) 0),2,none⟩,⟨(some 13),(.extract (.t 11) 1),2,none⟩,⟨(some 6),(.mv (.t 12)),2,none⟩,⟨(some 7),(.mv (.t 13)),2,none⟩] none) .ret))
def Nw:List IRes:=[(.tmp 6),(.tmp 7)]
abbrev c2u:Nat:=14
def Ev:ZF:=Xe [(127,.pure (preT (fun x:BoxT×List Fact×Lin×FnV 128×Unit=>U8 x.1 x.2.1 x.2.2.1)) (Zf (fun x:BoxT×List Fact×Lin×FnV 128×Unit=>Qe Yo x.1 x.2.1 x.2.2.1)))]
theorem c7s{G:PV->Prop}(b:BoxT)(fs:List Fact)(l:Lin)(h:(Go.Pl.preT (fun(x:BoxT×List Fact×Lin×FnV 128×Unit)=>U8 x.1 x.2.1 x.2.2.1) [(.agg [(.sl 1 false (List.map enc b.v)),(.int .i64 b.m)]),(.sl 3 false (List.map enc fs)),(.agg [(.int .i64 l.k),(.sl 2 false (List.map enc l.t))]),(.fn 128)])=true∧(∃ y0:Int×Int,AV.pv (Zf (fun(x:BoxT×List Fact×Lin×FnV 128×Unit)=>Qe Yo x.1 x.2.1 x.2.2.1) [(.agg [(.sl 1 false (List.map enc b.v)),(.int .i64 b.m)]),(.sl 3 false (List.map enc fs)),(.agg [(.int .i64 l.k),(.sl 2 false (List.map enc l.t))]),(.fn 128)])=AV.pv (enc y0)∧(G ((.tup [(.int .i64 y0.1),(.int .i64 y0.2)]))))):Zc Ev 0 (Za Nw G) NE [] (Ye 14 [enc b,enc fs,enc l]):=Zc.tp (.req (.abs (Int×Int) (fun YY=>AV.pv (enc YY)) (.nil))) h (by kernel_rfl)
def UQ:IC:=(.block 1 (.seq (.reg [⟨(some 35),(.load true [(.int .i64),(.sl 2)] (.t 6)),0,none⟩,⟨(some 36),(.mv (.t 15)),0,none⟩,⟨(some 37),(.call (.c (.fn 38)) [(.t 35),(.t 36)]),0,none⟩,⟨(some 34),(.mv (.t 37)),2,none⟩,⟨(some 38),(.extract (.t 34) 0),2,none⟩,⟨(some 39),(.extract (.t 34) 1),2,none⟩,⟨(some 16),(.mv (.t 38)),2,none⟩,⟨(some 17),(.mv (.t 39)),2,none⟩] none) (.seq (.seq (.reg [⟨(some 40),(.mv (.t 17)),0,none⟩,⟨(some 41),(.bin .num .neq (.t 40) (.c (.int .i64 0))),0,none⟩] none) (.cond (.t 41) (.seq (.reg [⟨(some 42),(.mv (.t 17)),0,none⟩,⟨none,(.store 1 (.t 8) (.c (.int .i64 0))),0,none⟩,⟨none,(.store 1 (.t 9) (.t 42)),0,none⟩] none) .ret) .skip)) (.reg [⟨(some 43),(.load false [.any] (.t 13)),0,none⟩,⟨(some 44),(.mv (.t 16)),0,none⟩,⟨(some 45),(.call (.t 43) [(.t 44)]),0,none⟩] none))))
def a1q:ZF:=Xe [(73,.pure (preT (fun x:Lin×Unit=>Yi x.1)) (Zf (fun x:Lin×Unit=>Zq x.1))),(174,.own Jp CL),(116,.pure (preT (fun x:BoxT×List Fact×Bool×NilS×Unit=>ZG x.1&&Zk x.2.1&&decide (x.2.1.length<=100))) (Zf (fun x:BoxT×List Fact×Bool×NilS×Unit=>Zp x.1 x.2.1 x.2.2.1 []))),(117,.own Xc WP),(38,.pure (preT (fun x:Lin×List Coef×Unit=>Yi x.1&&decide (x.2.1.length<=9223372036854775807))) (Zf (fun x:Lin×List Coef×Unit=>Yj x.1 x.2.1))),(194,.own (Kk 128) (Je Yo))]
theorem b3h{G:Zv->Prop}(E:YB)(l:Lin)(p:List Int)(vs:List Coef)(z:Int)(s:Bool)(h:(Go.Pl.preT (fun(x:Lin×List Coef×Unit)=>Yi x.1&&decide (List.length x.2.1<=9223372036854775807)) [(.agg [(.int .i64 l.k),(.sl 2 false (List.map enc l.t))]),(.sl 2 false (List.map enc vs))])=true∧(∃ y0:Int×Int,AV.pv (Zf (fun(x:Lin×List Coef×Unit)=>Yj x.1 x.2.1) [(.agg [(.int .i64 l.k),(.sl 2 false (List.map enc l.t))]),(.sl 2 false (List.map enc vs))])=AV.pv (enc y0)∧(if (y0.2 != 0)=true then G ([(.obj (.box [(.pv (.int .i64 l.k)),(.pv (.sl 2 false (List.map enc l.t)))])),(.obj (.box [(.pv (.int .i64 0))])),(.obj (.box [(.pv (.int .i64 y0.2))])),(.obj (.box [(.pv (.int .i64 z))])),(.obj (.box [(.pv (.bool s))])),(.obj (.box [(.fn 194 [] [(.ptr 4 0),(.ptr 6 0),(.ptr 3 0)])])),(.obj (.box [(.pv (.fn 128))])),.fresh,.fresh])else(E 99 ⟨ZU 49 0 [],[(.obj (.box [(.pv (.int .i64 l.k)),(.pv (.sl 2 false (List.map enc l.t)))])),(.obj (.box [(.pv (.int .i64 0))])),(.obj (.box [(.pv (.int .i64 0))])),(.obj (.box [(.pv (.int .i64 (if (!s||Yo y0.1 z)=true then y0.1 else z)))])),(.obj (.box [(.pv (.bool true))])),(.obj (.box [(.fn 194 [] [(.ptr 4 0),(.ptr 6 0),(.ptr 3 0)])])),(.obj (.box [(.pv (.fn 128))]))]⟩ (fun x S'=>Jw a1q E 7 (fun st=>G st.heap) UQ 99 x S'))))):ZB a1q E 7 (fun st=>G st.heap) (.inl UQ) [.seq (.ext 99 [])] ⟨ZU 49 0 [(6,.ptr 0 0),(8,.ptr 1 0),(9,.ptr 2 0),(11,.ptr 3 0),(12,.ptr 4 0),(13,.ptr 5 0),(15,.pv (enc vs)),(32,.pv (enc p)),(33,.pv (enc vs))],[.obj (.box [.pv (.int .i64 l.k),.pv (enc l.t)]),.obj (.box [.pv (.int .i64 0)]),.obj (.box [.pv (.int .i64 0)]),.obj (.box [.pv (.int .i64 z)]),.obj (.box [.pv (.bool s)]),.obj (.box [.fn 194 [] [.ptr 4 0,.ptr 6 0,.ptr 3 0]]),.obj (.box [.pv (.fn 128)])]⟩:=ZB.mh (.req (.abs (Int×Int) (fun YY=>AV.pv (enc YY)) (.lit (.ask (.nil) (.lit (.keep (.nil))))))) h (by kernel_rfl)
def QU:IC:=UQ
def a3b:ZF:=Xe [(73,.pure (preT (fun x:Lin×Unit=>Yi x.1)) (Zf (fun x:Lin×Unit=>Zq x.1))),(174,.own Jb H7),(116,.own UF Kg),(117,.own Xc WP),(38,.pure (preT (fun x:Lin×List Coef×Unit=>Yi x.1&&decide (x.2.1.length<=9223372036854775807))) (Zf (fun x:Lin×List Coef×Unit=>Yj x.1 x.2.1))),(194,.own (Kk 128) (Je Yo))]
theorem a9c{G:Zv->Prop}(E:YB)(l:Lin)(p:List Int)(vs:List Coef)(z:Int)(s:Bool)(h:(Go.Pl.preT (fun(x:Lin×List Coef×Unit)=>Yi x.1&&decide (List.length x.2.1<=9223372036854775807)) [(.agg [(.int .i64 l.k),(.sl 2 false (List.map enc l.t))]),(.sl 2 false (List.map enc vs))])=true∧(∃ y0:Int×Int,AV.pv (Zf (fun(x:Lin×List Coef×Unit)=>Yj x.1 x.2.1) [(.agg [(.int .i64 l.k),(.sl 2 false (List.map enc l.t))]),(.sl 2 false (List.map enc vs))])=AV.pv (enc y0)∧(if (y0.2 != 0)=true then G ([(.obj (.box [(.pv (.int .i64 l.k)),(.pv (.sl 2 false (List.map enc l.t)))])),(.obj (.box [(.pv (.int .i64 0))])),(.obj (.box [(.pv (.int .i64 y0.2))])),(.obj (.box [(.pv (.int .i64 z))])),(.obj (.box [(.pv (.bool s))])),(.obj (.box [(.fn 194 [] [(.ptr 4 0),(.ptr 6 0),(.ptr 3 0)])])),(.obj (.box [(.pv (.fn 128))])),.fresh,.fresh])else(E 99 ⟨ZU 49 0 [],[(.obj (.box [(.pv (.int .i64 l.k)),(.pv (.sl 2 false (List.map enc l.t)))])),(.obj (.box [(.pv (.int .i64 0))])),(.obj (.box [(.pv (.int .i64 0))])),(.obj (.box [(.pv (.int .i64 (if (!s||Yo y0.1 z)=true then y0.1 else z)))])),(.obj (.box [(.pv (.bool true))])),(.obj (.box [(.fn 194 [] [(.ptr 4 0),(.ptr 6 0),(.ptr 3 0)])])),(.obj (.box [(.pv (.fn 128))]))]⟩ (fun x S'=>Jw a3b E 7 (fun st=>G st.heap) QU 99 x S'))))):ZB a3b E 7 (fun st=>G st.heap) (.inl QU) [.seq (.ext 99 [])] ⟨ZU 49 0 [(6,.ptr 0 0),(8,.ptr 1 0),(9,.ptr 2 0),(11,.ptr 3 0),(12,.ptr 4 0),(13,.ptr 5 0),(15,.pv (enc vs)),(32,.pv (enc p)),(33,.pv (enc vs))],[.obj (.box [.pv (.int .i64 l.k),.pv (enc l.t)]),.obj (.box [.pv (.int .i64 0)]),.obj (.box [.pv (.int .i64 0)]),.obj (.box [.pv (.int .i64 z)]),.obj (.box [.pv (.bool s)]),.obj (.box [.fn 194 [] [.ptr 4 0,.ptr 6 0,.ptr 3 0]]),.obj (.box [.pv (.fn 128)])]⟩:=ZB.mh (.req (.abs (Int×Int) (fun YY=>AV.pv (enc YY)) (.lit (.ask (.nil) (.lit (.keep (.nil))))))) h (by kernel_rfl)
end Go.Pl

namespace Go.Pl
open Go.RowKit
open Enc (enc dec is)
open EncL (encL decL isL)
theorem TD{s:Str}: ∀ {vs:List Str} {p:List Int},s∈vs->p.length=vs.length-> ∃ x∈p,Qm (Ze vs p) s=some x
 | [],_,h,_=>by cases h
 | v::vs,[],_,h=>by simp at h
 | v::vs,x::p,h,hl=>by
  by_cases e:v=s
  ·refine⟨x,by simp,?_⟩
   show((List.find? (fun t:Coef=>decide (t.v=s)) (⟨v,x⟩::Ze vs p)).map (·.c))=some x
   rw[List.find?_cons_of_pos (by simpa using e)];rfl
  ·obtain⟨y,hy,h2⟩:=TD (s:=s) (vs:=vs) (p:=p) ((List.mem_cons.1 h).resolve_left fun h=>e h.symm) (by simpa using hl)
   refine⟨y,by simp[hy],?_⟩
   show((List.find? (fun t:Coef=>decide (t.v=s)) (⟨v,x⟩::Ze vs p)).map (·.c))=some y
   rw[List.find?_cons_of_neg (by simpa using e)]
   exact h2
theorem SA{vs:List Str}{p:List Int}(hl:p.length=vs.length)(hx : ∀ x∈p,-1000000000<=x∧x<=1000000000): ∀ (ts:List Coef) (n:Int),(∀ t∈ts,t.v∈vs)->(K6 (Ze vs p) n ts).2=0
 | [],n,_=>rfl
 | t::r,n,h=>by
  obtain⟨x,h1,h2⟩:=TD (h t (by simp)) hl
  have:=hx x h1
  rw[K6,h2]
  show(if x < -1000000000 then((0:Int),(2:Int))else if x>1000000000 then(0,2)else _).2=0
  rw[if_neg (by omega),if_neg (by omega)]
  exact SA hl hx r _ fun u hu=>h u (by simp[hu])
theorem b9w{b:BoxT}{fs:List Fact}{p:List Int}(hv:YI b=true)(h:p∈ZR b fs):p.length=b.v.length∧(∀ x∈p,0<=x∧x<=b.m)∧ ∀ x∈p,-1<=x∧x<=20000:=by
 unfold ZR at h
 rw[VL hv]at h
 have h:=(List.mem_filter.1 h).1
 obtain⟨h1,h2⟩:=Gn.1 h
 have:0<=b.m:=(Us.1 hv).2.2.2.1
 exact⟨h1,fun x hx=>by have:=h2 x hx;omega,a1u hv p h⟩
theorem FW{b:BoxT}{fs:List Fact}{l:Lin}{p:List Int}(hr:Zp b fs (Zq l) (Zd l)=0)(h:p∈ZR b fs):(Yj l (Ze b.v p)).2=0:=by
 obtain⟨hv,_,hl,hin⟩:=Ui _ _ _ _ hr
 obtain⟨h1,_,h3⟩:=b9w hv h
 rw[Ju,Bool.and_eq_true]at hin
 unfold Yj
 rw[if_pos hl]
 refine SA h1 (fun x hx=>by have:=h3 x hx;omega) _ _ fun t ht=> ?_
 have:=List.all_eq_true.1 hin.1 t.v (by unfold Zd;exact List.mem_map.2 ⟨t,ht,rfl⟩)
 simpa using this
theorem a4a(f:Int->Int->Bool)(l:List Int)(x:Int):DN f (l++[x])=some (match DN f l with|none=>x|some z=>if f x z then x else z):=by
 cases l with
 | nil=>rfl
 | cons y l=>simp[DN,List.foldl_append]
def Vy(f:Int->Int->Bool)(l:List Int):Int×Bool:=match DN f l with|none=>(0,false)|some z=>(z,true)
theorem Rw(f:Int->Int->Bool)(l:List Int)(x:Int):Vy f (l++[x])=(if !(Vy f l).2||f x (Vy f l).1 then x else(Vy f l).1,true):=by
 unfold Vy
 rw[a4a]
 cases DN f l <;> rfl
theorem c5m(l:Lin):EU (PV.agg [enc l.k,enc l.t])=l:=Enc.dec_enc l
theorem a1t(b:BoxT):a0n (PV.agg [enc b.v,enc b.m])=b:=Enc.dec_enc b
theorem LJ(fs:List Fact):Bc (enc fs)=fs:=Enc.dec_enc fs
def Fq(l:Lin)(z:Int)(s:Bool):Zv:=[.obj (.box [.pv (.int .i64 l.k),.pv (enc l.t)]),.obj (.box [.pv (.int .i64 0)]),.obj (.box [.pv (.int .i64 0)]),.obj (.box [.pv (.int .i64 z)]),.obj (.box [.pv (.bool s)]),.obj (.box [.fn 194 [] [.ptr 4 0,.ptr 6 0,.ptr 3 0]]),.obj (.box [.pv (.fn 128)])]
theorem b4m: ∀ args os,Kk 128 args os=true->Zc a0e os.length (Zo os.length PL fun r=>r=Je Yo args os) Nu [] (YK c0w args os):=by
 intro args os h
 unfold Kk at h
 split at h
 ·rename_i n s g z
  have h:g=128:=by simpa using h
  subst h
  refine c7o n s z (X7 (fun h=> ?_) fun h=>Zh (n,z,()) rfl (X3 (fun h2=> ?_) fun h2=> ?_))
  ·subst h;rfl
  ·subst h
   have h2:Yo n z=true:=h2
   show _=(AV.tup [],[AObj.box [.pv (.bool true)],.box [.pv (.fn 128)],.box [.pv (.int .i64 (if !true||Yo n z then n else z))]],[])
   rw[h2];rfl
  ·subst h
   have h2:Yo n z=false:=h2
   show _=(AV.tup [],[AObj.box [.pv (.bool true)],.box [.pv (.fn 128)],.box [.pv (.int .i64 (if !true||Yo n z then n else z))]],[])
   rw[h2];rfl
 ·cases h
def JR:YB:=fun n st q=>n=0∧Dl Ub 0 (.t 31) 177 [32,33] [(15,33)] UQ Ky Qf D7 st q
theorem MU(b:BoxT)(fs:List Fact)(l:Lin)(hl:Yi l=true)(hb:b.v.length<=1000)(hr:Zp b fs (Zq l) (Zd l)=0)(k:Nat)(p:List Int)(hp:(ZR b fs)[k]? = some p):
  ZB Ub (fun n S' _=>n=99∧S'.heap=Fq l (Vy Yo ((YH b fs l).take (k+1))).1 (Vy Yo ((YH b fs l).take (k+1))).2) 7 (fun st=>False) (.inl UQ) [.seq (.ext 99 [])]
   ⟨ZU 49 0 [(6,.ptr 0 0),(8,.ptr 1 0),(9,.ptr 2 0),(11,.ptr 3 0),(12,.ptr 4 0),(13,.ptr 5 0),(15,.pv (enc (Ze b.v p))),(32,.pv (enc p)),(33,.pv (enc (Ze b.v p)))],Fq l (Vy Yo ((YH b fs l).take k)).1 (Vy Yo ((YH b fs l).take k)).2⟩:=by
 have hk:=(List.getElem?_eq_some_iff.1 hp).1
 have hkp:=(List.getElem?_eq_some_iff.1 hp).2
 have hm:p∈ZR b fs:=List.mem_of_getElem? hp
 have hkv:k<(YH b fs l).length:=by unfold YH;rw[List.length_map];exact hk
 have hgv:(YH b fs l)[k]=(Yj l (Ze b.v p)).1:=by
  have:(YH b fs l)[k]? = some (Yj l (Ze b.v p)).1:=by unfold YH;rw[List.getElem?_map,hp];rfl
  exact(List.getElem?_eq_some_iff.1 this).2
 have ht:(YH b fs l).take (k+1)=(YH b fs l).take k++[(Yj l (Ze b.v p)).1]:=by rw[List.take_succ_eq_append_getElem hkv,hgv]
 rw[ht,Rw]
 refine b3h (G:=fun _=>False) _ l p (Ze b.v p) _ _ ⟨Zj (l,Ze b.v p,()) rfl ?_,Zh (l,Ze b.v p,()) rfl ?_⟩
 ·show(Yi l&&decide ((Ze b.v p).length<=9223372036854775807))=true
  rw[hl,decide_eq_true (by unfold Ze;rw[List.length_zipWith];omega)];rfl
 ·refine ZK (by rw[FW hr hm];simp) ⟨rfl,rfl⟩
theorem a6e: ∀ x:BoxT×List Fact×Lin×FnV 128×Unit,(U8 x.1 x.2.1 x.2.2.1&&x.2.2.1.t.isEmpty)=true->Kw Ub JR 0 (Za QR (Zg (Qe Yo x.1 x.2.1 x.2.2.1))) U4 [] (Ye b4p (encL x)):=by
 rintro⟨b,fs,l,⟨⟩,⟨⟩⟩ hp
 simp only[U8,Bool.and_eq_true,decide_eq_true_eq]at hp
 obtain⟨⟨⟨⟨⟨⟨h1,h2⟩,h3⟩,h4⟩,h5⟩,h6⟩,h7⟩:=hp
 have key:Zp b fs (Zq l) (Zd l)=0->JR 0 ⟨ZU 49 0 [(6,(.ptr 0 0)),(8,(.ptr 1 0)),(9,(.ptr 2 0)),(11,(.ptr 3 0)),(12,(.ptr 4 0)),(13,(.ptr 5 0)),(15,.undef),(16,.undef),(17,.undef),(31,(.fn 177 [] [(.ptr 6 0),(.ptr 7 0)])),(33,.undef),(34,.undef),(35,.undef),(36,.undef),(37,.undef),(38,.undef),(39,.undef),(40,.undef),(41,.undef),(42,.undef),(43,.undef),(44,.undef)],[(.obj (.box [(.pv (.int .i64 (Lin.k l))),(.pv (.sl 2 false (List.map enc (Lin.t l))))])),(.obj (.box [(.pv (.int .i64 0))])),(.obj (.box [(.pv (.int .i64 0))])),(.obj (.box [(.pv (.int .i64 0))])),(.obj (.box [(.pv (.bool false))])),(.obj (.box [(.fn 194 [] [(.ptr 4 0),(.ptr 8 0),(.ptr 3 0)])])),(.obj (.box [(.pv (.sl 1 false (List.map enc (BoxT.v b)))),(.pv (.int .i64 (BoxT.m b)))])),(.obj (.box [(.pv (.sl 3 false (List.map enc fs)))])),(.obj (.box [(.pv (.fn 128))]))]⟩ (fun x S'=>Jw Ub JR 0 (Za QR (Zg (Qe Yo b fs l))) U4 0 x S'):=by
  intro h0
  obtain⟨hv,_⟩:=Ui _ _ _ _ h0
  refine⟨rfl,[6,7],[[enc b.v,.int .i64 b.m],[enc fs]],[6,8,9,11,12,13],[],⟨ZU 49 0 [(6,.ptr 0 0),(8,.ptr 1 0),(9,.ptr 2 0),(11,.ptr 3 0),(12,.ptr 4 0),(13,.ptr 5 0)],Fq l 0 false⟩,(fun k σ=>σ=Fq l (Vy Yo ((YH b fs l).take k)).1 (Vy Yo ((YH b fs l).take k)).2),fun _=>False,rfl,by simp,rfl,?_,by kernel_rfl,Bi hv h2 h4,rfl,?_,?_,fun σ h=>h.elim⟩
  ·intro j l' ps hl hps
   match j with
   | 0=>cases hl;cases hps;rfl
   | 1=>cases hl;cases hps;rfl
   | j+2=>simp at hl
  ·intro k x σ hx hI
   rw[Tf,List.getElem?_map]at hx
   obtain⟨p,hp,rfl⟩:=Option.map_eq_some_iff.1 hx
   subst hI
   have e:Te [(15,33)] (Cq [32,33] ((Ky (p,Ze b.v p)).map .pv) (ZU 49 0 [(6,.ptr 0 0),(8,.ptr 1 0),(9,.ptr 2 0),(11,.ptr 3 0),(12,.ptr 4 0),(13,.ptr 5 0)]))=ZU 49 0 [(6,.ptr 0 0),(8,.ptr 1 0),(9,.ptr 2 0),(11,.ptr 3 0),(12,.ptr 4 0),(13,.ptr 5 0),(15,.pv (enc (Ze b.v p))),(32,.pv (enc p)),(33,.pv (enc (Ze b.v p)))]:=by kernel_rfl
   have:=MU b fs l h5 h4 h0 k p hp
   rw[<- e]at this
   exact this
  ·intro σ hI
   rw[Tf,List.length_map]at hI
   subst hI
   have hall:(YH b fs l).take (ZR b fs).length=YH b fs l:=List.take_of_length_le (by unfold YH;rw[List.length_map];exact Nat.le_refl _)
   rw[hall]
   refine b3b (G:=Zg (Qe Yo b fs l)) JR b fs l _ _ ?_
   unfold Qe Vy
   rw[if_pos h0]
   cases DN Yo (YH b fs l)with
   | none=>exact ZC rfl (ZQ (x:=((0:Int),(9:Int))) rfl)
   | some z=>exact ZK (by simp) (ZQ (x:=((z:Int),(0:Int))) rfl)
 have hbad:Zp b fs (Zq l) (Zd l)≠0->Zg (Qe Yo b fs l) (.tup [.int .i64 0,.int .i64 (Zp b fs (Zq l) (Zd l))]):=by
  intro h0
  unfold Qe
  rw[if_neg h0]
  exact ZQ (x:=((0:Int),Zp b fs (Zq l) (Zd l))) rfl
 have ht:l.t=[]:=List.isEmpty_iff.1 h7
 have hn:Zd l=[]:=by unfold Zd;rw[ht];rfl
 refine c1g JR b fs l ⟨Zj (l,()) rfl h5,Zh (l,()) rfl ⟨?_,Zj (b,fs,Zq l,⟨⟩,()) rfl (by simp[h1,h2,h3]),Zh (b,fs,Zq l,⟨⟩,()) rfl ?_⟩⟩
 ·show(VG Lin (enc l)&&(dec (enc l:PV):Lin).t.isEmpty)=true
  rw[ZY,Enc.dec_enc,ht];rfl
 ·show if (Zp b fs (Zq l) [] != 0)=true then _ else _
  rw[hn]at key hbad
  by_cases h0:Zp b fs (Zq l) []=0
  ·rw[if_neg (by simp[h0])]
   refine⟨?_,key h0⟩
   show(VG (List Str) (enc b.v)&&VG (List Fact) (enc fs))=true
   rw[ZY,ZY];rfl
  ·rw[if_pos (by simpa using h0)]
   exact hbad h0
def J4:YB:=fun n st q=>n=0∧Dl Ug 0 (.t 31) 177 [32,33] [(15,33)] QU Ky Qf D7 st q
theorem LX(b:BoxT)(fs:List Fact)(l:Lin)(hl:Yi l=true)(hb:b.v.length<=1000)(hr:Zp b fs (Zq l) (Zd l)=0)(k:Nat)(p:List Int)(hp:(ZR b fs)[k]? = some p):
  ZB Ug (fun n S' _=>n=99∧S'.heap=Fq l (Vy Yo ((YH b fs l).take (k+1))).1 (Vy Yo ((YH b fs l).take (k+1))).2) 7 (fun st=>False) (.inl QU) [.seq (.ext 99 [])]
   ⟨ZU 49 0 [(6,.ptr 0 0),(8,.ptr 1 0),(9,.ptr 2 0),(11,.ptr 3 0),(12,.ptr 4 0),(13,.ptr 5 0),(15,.pv (enc (Ze b.v p))),(32,.pv (enc p)),(33,.pv (enc (Ze b.v p)))],Fq l (Vy Yo ((YH b fs l).take k)).1 (Vy Yo ((YH b fs l).take k)).2⟩:=by
 have hk:=(List.getElem?_eq_some_iff.1 hp).1
 have hkp:=(List.getElem?_eq_some_iff.1 hp).2
 have hm:p∈ZR b fs:=List.mem_of_getElem? hp
 have hkv:k<(YH b fs l).length:=by unfold YH;rw[List.length_map];exact hk
 have hgv:(YH b fs l)[k]=(Yj l (Ze b.v p)).1:=by
  have:(YH b fs l)[k]? = some (Yj l (Ze b.v p)).1:=by unfold YH;rw[List.getElem?_map,hp];rfl
  exact(List.getElem?_eq_some_iff.1 this).2
 have ht:(YH b fs l).take (k+1)=(YH b fs l).take k++[(Yj l (Ze b.v p)).1]:=by rw[List.take_succ_eq_append_getElem hkv,hgv]
 rw[ht,Rw]
 refine a9c (G:=fun _=>False) _ l p (Ze b.v p) _ _ ⟨Zj (l,Ze b.v p,()) rfl ?_,Zh (l,Ze b.v p,()) rfl ?_⟩
 ·show(Yi l&&decide ((Ze b.v p).length<=9223372036854775807))=true
  rw[hl,decide_eq_true (by unfold Ze;rw[List.length_zipWith];omega)];rfl
 ·refine ZK (by rw[FW hr hm];simp) ⟨rfl,rfl⟩
theorem a5p: ∀ x:BoxT×List Fact×Lin×FnV 128×Unit,(U8 x.1 x.2.1 x.2.2.1&& !x.2.2.1.t.isEmpty)=true->Kw Ug J4 0 (Za QO (Zg (Qe Yo x.1 x.2.1 x.2.2.1))) QN [] (Ye b7u (encL x)):=by
 rintro⟨b,fs,l,⟨⟩,⟨⟩⟩ hp
 simp only[U8,Bool.and_eq_true,decide_eq_true_eq]at hp
 obtain⟨⟨⟨⟨⟨⟨h1,h2⟩,h3⟩,h4⟩,h5⟩,h6⟩,h7⟩:=hp
 have key:Zp b fs (Zq l) (Zd l)=0->J4 0 ⟨ZU 49 0 [(6,(.ptr 0 0)),(8,(.ptr 1 0)),(9,(.ptr 2 0)),(11,(.ptr 3 0)),(12,(.ptr 4 0)),(13,(.ptr 5 0)),(15,.undef),(16,.undef),(17,.undef),(31,(.fn 177 [] [(.ptr 6 0),(.ptr 7 0)])),(33,.undef),(34,.undef),(35,.undef),(36,.undef),(37,.undef),(38,.undef),(39,.undef),(40,.undef),(41,.undef),(42,.undef),(43,.undef),(44,.undef)],[(.obj (.box [(.pv (.int .i64 (Lin.k l))),(.pv (.sl 2 false (List.map enc (Lin.t l))))])),(.obj (.box [(.pv (.int .i64 0))])),(.obj (.box [(.pv (.int .i64 0))])),(.obj (.box [(.pv (.int .i64 0))])),(.obj (.box [(.pv (.bool false))])),(.obj (.box [(.fn 194 [] [(.ptr 4 0),(.ptr 8 0),(.ptr 3 0)])])),(.obj (.box [(.pv (.sl 1 false (List.map enc (BoxT.v b)))),(.pv (.int .i64 (BoxT.m b)))])),(.obj (.box [(.pv (.sl 3 false (List.map enc fs)))])),(.obj (.box [(.pv (.fn 128))]))]⟩ (fun x S'=>Jw Ug J4 0 (Za QO (Zg (Qe Yo b fs l))) QN 0 x S'):=by
  intro h0
  obtain⟨hv,_⟩:=Ui _ _ _ _ h0
  refine⟨rfl,[6,7],[[enc b.v,.int .i64 b.m],[enc fs]],[6,8,9,11,12,13],[],⟨ZU 49 0 [(6,.ptr 0 0),(8,.ptr 1 0),(9,.ptr 2 0),(11,.ptr 3 0),(12,.ptr 4 0),(13,.ptr 5 0)],Fq l 0 false⟩,(fun k σ=>σ=Fq l (Vy Yo ((YH b fs l).take k)).1 (Vy Yo ((YH b fs l).take k)).2),fun _=>False,rfl,by simp,rfl,?_,by kernel_rfl,Bi hv h2 h4,rfl,?_,?_,fun σ h=>h.elim⟩
  ·intro j l' ps hl hps
   match j with
   | 0=>cases hl;cases hps;rfl
   | 1=>cases hl;cases hps;rfl
   | j+2=>simp at hl
  ·intro k x σ hx hI
   rw[Tf,List.getElem?_map]at hx
   obtain⟨p,hp,rfl⟩:=Option.map_eq_some_iff.1 hx
   subst hI
   have e:Te [(15,33)] (Cq [32,33] ((Ky (p,Ze b.v p)).map .pv) (ZU 49 0 [(6,.ptr 0 0),(8,.ptr 1 0),(9,.ptr 2 0),(11,.ptr 3 0),(12,.ptr 4 0),(13,.ptr 5 0)]))=ZU 49 0 [(6,.ptr 0 0),(8,.ptr 1 0),(9,.ptr 2 0),(11,.ptr 3 0),(12,.ptr 4 0),(13,.ptr 5 0),(15,.pv (enc (Ze b.v p))),(32,.pv (enc p)),(33,.pv (enc (Ze b.v p)))]:=by kernel_rfl
   have:=LX b fs l h5 h4 h0 k p hp
   rw[<- e]at this
   exact this
  ·intro σ hI
   rw[Tf,List.length_map]at hI
   subst hI
   have hall:(YH b fs l).take (ZR b fs).length=YH b fs l:=List.take_of_length_le (by unfold YH;rw[List.length_map];exact Nat.le_refl _)
   rw[hall]
   refine a8y (G:=Zg (Qe Yo b fs l)) J4 b fs l _ _ ?_
   unfold Qe Vy
   rw[if_pos h0]
   cases DN Yo (YH b fs l)with
   | none=>exact ZC rfl (ZQ (x:=((0:Int),(9:Int))) rfl)
   | some z=>exact ZK (by simp) (ZQ (x:=((z:Int),(0:Int))) rfl)
 have hbad:Zp b fs (Zq l) (Zd l)≠0->Zg (Qe Yo b fs l) (.tup [.int .i64 0,.int .i64 (Zp b fs (Zq l) (Zd l))]):=by
  intro h0
  unfold Qe
  rw[if_neg h0]
  exact ZQ (x:=((0:Int),Zp b fs (Zq l) (Zd l))) rfl
 have hne:l.t≠[]:=by intro h;rw[h]at h7;simp at h7
 refine b8m J4 b fs l ⟨Zj (l,()) rfl h5,Zh (l,()) rfl ⟨?_,?_⟩⟩
 ·show(VG Lin (enc l)&& !(dec (enc l:PV):Lin).t.isEmpty&&decide ((dec (enc l:PV):Lin).t.length<=1000000))=true
  rw[ZY,Enc.dec_enc,decide_eq_true (by omega)]
  simpa using hne
 ·rw[c5m,a1t,LJ,U1]
  have hnl:(Zd l).length=l.t.length:=by unfold Zd;rw[List.length_map]
  refine⟨?_,?_⟩
  ·show(VG BoxT (enc b)&&VG (List Fact) (enc fs)&&9==9&&Ti (Zd l).length (Zd l).length ((Zd l).map enc)&&decide ((Zd l).length<=1000)&& !((Zd l).map (enc:Str->PV)).isEmpty&&ZG (dec (enc b:PV))&&Zk (dec (enc fs:PV))&&decide ((dec (enc fs:PV):List Fact).length<=100)&&decide (((Zd l).map (enc:Str->PV)).length<=1000))=true
   rw[List.length_map,ZY,ZY,Enc.dec_enc,Enc.dec_enc,CV rfl (by omega),h1,h2,decide_eq_true h3,decide_eq_true (show(Zd l).length<=1000 by omega)]
   have:((Zd l).map (enc:Str->PV)).isEmpty=false:=by
    rw[List.isEmpty_eq_false_iff]
    intro h
    have:=congrArg List.length h
    rw[List.length_map,hnl]at this
    exact hne (List.length_eq_zero_iff.1 this)
   rw[this];simp
  ·show if (Zp b fs (Zq l) (Zd l) != 0)=true then _ else _
   by_cases h0:Zp b fs (Zq l) (Zd l)=0
   ·rw[if_neg (by simp[h0])]
    refine⟨?_,key h0⟩
    show(VG (List Str) (enc b.v)&&VG (List Fact) (enc fs))=true
    rw[ZY,ZY];rfl
   ·rw[if_pos (by simpa using h0)]
    exact hbad h0
theorem b4l: ∀ x:BoxT×List Fact×Lin×Unit,U8 x.1 x.2.1 x.2.2.1=true->Zc Ev 0 (Za Nw (Zg (Qe Yo x.1 x.2.1 x.2.2.1))) NE [] (Ye c2u (encL x)):=by
 rintro⟨b,fs,l,⟨⟩⟩ hp
 exact c7s b fs l ⟨Zj (b,fs,l,⟨()⟩,()) rfl hp,Zh (b,fs,l,⟨()⟩,()) rfl (ZQ (x:=Qe Yo b fs l) rfl)⟩
theorem c1m: ∀ x:Int×Int×Unit,(fun _:Int×Int×Unit=>true) x=true->Zc b4t 0 (Za Oo (Zg (decide (x.1<x.2.1)))) ED [] (Ye c4a (encL x)):=by
 rintro⟨m,n,⟨⟩⟩ _
 exact c8n m n (ZM rfl)
end Go.Pl

namespace Go.Pl
open Go.RowKit
open Enc (enc dec is)
open EncL (encL decL isL)
set_option maxRecDepth 100000
def PX:IC:=(.seq (.reg [⟨(some 2),(.mv (.c (.bool false))),0,none⟩] none) (.seq (.reg [⟨(some 3),(.mv (.t 0)),0,none⟩,⟨(some 4),(.call (.c (.fn 119)) [(.t 3)]),0,none⟩,⟨(some 5),(.un .not (.t 4)),2,none⟩,⟨(some 2),(.mv (.t 5)),2,none⟩] none) .ret))
def Po:List IRes:=[(.tmp 2)]
abbrev c1p:Nat:=6
def OB:ZF:=Xe [(119,.pure (preT (fun x:Str×Unit=>decide (x.1.s.length<=281474976710656))) (Zf (fun x:Str×Unit=>ZE x.1)))]
theorem c5r{G:PV->Prop}(s:List UInt8)(h:(Go.Pl.preT (fun(x:Str×Unit)=>decide (List.length (Str.s x.1)<=281474976710656)) [(.str s)])=true∧(∃ y0:Bool,AV.pv (Zf (fun(x:Str×Unit)=>ZE x.1) [(.str s)])=AV.pv (enc y0)∧(G ((.bool !y0))))):Zc OB 0 (Za Po G) PX [] (Ye 6 [.str s]):=Zc.tp (.req (.abs (Bool) (fun YY=>AV.pv (enc YY)) (.nil))) h (by kernel_rfl)
def Hz:IC:=Qa
def Hg:List IRes:=[(.tmp 4)]
abbrev c7y:Nat:=19
def Ao:ZF:=Xe [(185,.pure (preT (fun x:Str×Unit=>decide (x.1.s.length<=281474976710656))) (Zf (fun x:Str×Unit=> !(ZE x.1))))]
theorem c8d{G:PV->Prop}(l:List Str)(h:At Ao 0 (Za Hg G) Hz 0 19 [(0,(.pv (.sl 1 false (List.map enc l)))),(1,(.pv (.fn 185))),(7,(.pv (.int .i64 (↑(List.length (List.map enc l)):Int)))),(8,(.pv (.int .i64 0)))] []):Zc Ao 0 (Za Hg G) Hz [] (Ye 19 [enc l,.fn 185]):=Zc.tp (.nil) h (by kernel_rfl)
theorem a9t{G:PV->Prop}(l:List Str)(i:Int)(h:if (decide (i<(↑(List.length l):Int)))=true then(decide (0<=i)&&decide (Int.toNat i<List.length (List.map enc l))&&Enc.sz Str==1)=true∧(∃ y0:Str,AV.pv (PV.rptr (PV.cells (List.getD (List.map enc l) (Int.toNat i) default)))=AV.pv (PV.rptr (PV.cells ((enc) y0)))∧((Go.Pl.preT (fun(x:Str×Unit)=>decide (List.length (Str.s x.1)<=281474976710656)) [(.str (PV.asStr (List.getD (PV.cells (enc y0)) 0 default)))])=true∧(∃ y1:Bool,AV.pv (Zf (fun(x:Str×Unit)=> !ZE x.1) [(.str (PV.asStr (List.getD (PV.cells (enc y0)) 0 default)))])=AV.pv (enc y1)∧(if (y1)=true then G ((.int .i64 i))else(At Ao 0 (Za Hg G) Hz 0 19 [(0,(.pv (.sl 1 false (List.map enc l)))),(1,(.pv (.fn 185))),(7,(.pv (.int .i64 (↑(List.length l):Int)))),(8,(.pv (.int .i64 (IntKind.wrap IntKind.i64 (i+1)))))] [])))))else(G ((.int .i64 (-1))))):At Ao 0 (Za Hg G) Hz 0 19 [(0,.pv (enc l)),(1,.pv (.fn 185)),(7,.pv (.int .i64 l.length)),(8,.pv (.int .i64 i))] []:=At.tp (.lit (.ask (.req (.abs (Str) (fun YY=>AV.pv (PV.rptr (PV.cells ((enc) YY)))) (.lit (.req (.abs (Bool) (fun YY=>AV.pv (enc YY)) (.ask (.nil) (.lit (.nil)))))))) (.nil))) h (by kernel_rfl)
def Eg:IC:=BH
def Ep:List IRes:=[(.tmp 4)]
abbrev c5h:Nat:=9
def b1w:ZF:=Xe [(238,.pure (preT (fun x:List Str×FnV 185×Unit=>WC x.1)) (Zf (fun x:List Str×FnV 185×Unit=>Zz (fun s:Str=> !(ZE s)) x.1)))]
theorem c8i{G:PV->Prop}(l:List Str)(h:(Go.Pl.preT (fun(x:List Str×FnV 185×Unit)=>WC x.1) [(.sl 1 false (List.map enc l)),(.fn 185)])=true∧(∃ y0:Int,AV.pv (Zf (fun(x:List Str×FnV 185×Unit)=>Zz (fun(s:Str)=> !ZE s) x.1) [(.sl 1 false (List.map enc l)),(.fn 185)])=AV.pv (enc y0)∧(G ((.bool (decide (y0 ≥ 0))))))):Zc b1w 0 (Za Ep G) Eg [] (Ye 9 [enc l,.fn 185]):=Zc.tp (.req (.abs (Int) (fun YY=>AV.pv (enc YY)) (.lit (.nil)))) h (by kernel_rfl)
def Nl:IC:=(.seq (.reg [⟨(some 2),(.mv (.c (.bool false))),0,none⟩] none) (.seq (.reg [⟨(some 3),(.mv (.t 0)),0,none⟩,⟨(some 4),(.mv (.t 0)),0,none⟩,⟨(some 5),(.bin .num .neq (.t 3) (.t 4)),0,none⟩,⟨(some 2),(.mv (.t 5)),0,none⟩] none) .ret))
def Ni:List IRes:=[(.tmp 2)]
abbrev c3a:Nat:=6
def O6:ZF:=Xe []
theorem c6x{G:PV->Prop}(s:List UInt8)(h:G ((.bool (!s==s)))):Zc O6 0 (Za Ni G) Nl [] (Ye 6 [.str s]):=Zc.tp (.lit (.nil)) h (by kernel_rfl)
def BG:IC:=(.seq (.reg [⟨(some 4),(.mv (.c (.bool false))),0,none⟩] none) (.seq (.reg [⟨(some 5),(.mv (.t 0)),0,none⟩,⟨(some 6),(.call (.c (.fn 283)) [(.t 5)]),0,none⟩,⟨(some 7),(.mv (.t 6)),2,none⟩,⟨(some 8),(.mv (.t 1)),2,(some (7,true))⟩,⟨(some 9),(.call (.c (.fn 283)) [(.t 8)]),2,(some (7,true))⟩,⟨(some 10),(.un .not (.t 9)),4,(some (7,true))⟩,⟨(some 11),(.pick (.t 7) (.t 10) (.c (.bool false))),4,none⟩,⟨(some 12),(.mv (.t 11)),4,none⟩,⟨(some 13),(.mv (.t 0)),4,(some (12,false))⟩,⟨(some 14),(.mv (.t 1)),4,(some (12,false))⟩,⟨(some 15),(.bin .num .lss (.t 13) (.t 14)),4,(some (12,false))⟩,⟨(some 16),(.pick (.t 12) (.c (.bool true)) (.t 15)),4,none⟩,⟨(some 4),(.mv (.t 16)),4,none⟩] none) .ret))
def Sl:List IRes:=[(.tmp 4)]
abbrev b2d:Nat:=17
def PU:ZF:=Xe [(283,.pure (preT (fun _:Str×Unit=>true)) (Zf (fun _:Str×Unit=>false)))]
theorem c1t{G:PV->Prop}(s t:List UInt8)(h : ∃ y0:Bool,AV.pv (Zf (fun(x:Str×Unit)=>false) [(.str s)])=AV.pv (enc y0)∧(if (y0)=true then ∃ y1:Bool,AV.pv (Zf (fun(x:Str×Unit)=>false) [(.str t)])=AV.pv (enc y1)∧(if (!y1)=true then G ((.bool true))else(G ((.bool (Op.bytesLess s t)))))else(G ((.bool (Op.bytesLess s t)))))):Zc PU 0 (Za Sl G) BG [] (Ye 17 [.str s,.str t]):=Zc.tp (.lit (.abs (Bool) (fun YY=>AV.pv (enc YY)) (.ask (.lit (.lit (.abs (Bool) (fun YY=>AV.pv (enc YY)) (.lit (.lit (.ask (.lit (.lit (.lit (.nil)))) (.lit (.lit (.lit (.lit (.nil))))))))))) (.lit (.lit (.lit (.lit (.lit (.lit (.lit (.lit (.nil)))))))))))) h (by kernel_rfl)
def Pn:IC:=(.seq (.reg [⟨(some 4),(.mv (.c (.int .i64 0))),0,none⟩] none) (.seq (.reg [⟨(some 7),(.mv (.t 0)),0,none⟩,⟨(some 8),(.call (.c (.fn 283)) [(.t 7)]),0,none⟩,⟨(some 5),(.mv (.t 8)),2,none⟩] none) (.seq (.reg [⟨(some 9),(.mv (.t 1)),0,none⟩,⟨(some 10),(.call (.c (.fn 283)) [(.t 9)]),0,none⟩,⟨(some 6),(.mv (.t 10)),2,none⟩] none) (.seq (.seq (.reg [⟨(some 11),(.mv (.t 5)),0,none⟩] none) (.cond (.t 11) (.seq (.seq (.reg [⟨(some 12),(.mv (.t 6)),0,none⟩] none) (.cond (.t 12) (.seq (.reg [⟨(some 4),(.mv (.c (.int .i64 0))),0,none⟩] none) .ret) .skip)) (.seq (.reg [⟨(some 4),(.mv (.c (.int .i64 (-1)))),0,none⟩] none) .ret)) .skip)) (.seq (.seq (.reg [⟨(some 13),(.mv (.t 6)),0,none⟩] none) (.cond (.t 13) (.seq (.reg [⟨(some 4),(.mv (.c (.int .i64 1))),0,none⟩] none) .ret) .skip)) (.seq (.seq (.reg [⟨(some 14),(.mv (.t 0)),0,none⟩,⟨(some 15),(.mv (.t 1)),0,none⟩,⟨(some 16),(.bin .num .lss (.t 14) (.t 15)),0,none⟩] none) (.cond (.t 16) (.seq (.reg [⟨(some 4),(.mv (.c (.int .i64 (-1)))),0,none⟩] none) .ret) .skip)) (.seq (.seq (.reg [⟨(some 17),(.mv (.t 0)),0,none⟩,⟨(some 18),(.mv (.t 1)),0,none⟩,⟨(some 19),(.bin .num .gtr (.t 17) (.t 18)),0,none⟩] none) (.cond (.t 19) (.seq (.reg [⟨(some 4),(.mv (.c (.int .i64 1))),0,none⟩] none) .ret) .skip)) (.seq (.reg [⟨(some 4),(.mv (.c (.int .i64 0))),0,none⟩] none) .ret))))))))
def PD:List IRes:=[(.tmp 4)]
abbrev c1s:Nat:=20
def ER:ZF:=Xe [(283,.pure (preT (fun _:Str×Unit=>true)) (Zf (fun _:Str×Unit=>false)))]
theorem c5l{G:PV->Prop}(s t:List UInt8)(h : ∃ y0:Bool,AV.pv (Zf (fun(x:Str×Unit)=>false) [(.str s)])=AV.pv (enc y0)∧(∃ y1:Bool,AV.pv (Zf (fun(x:Str×Unit)=>false) [(.str t)])=AV.pv (enc y1)∧(if (y0)=true then if (y1)=true then G ((.int .i64 0))else(G ((.int .i64 (-1))))else(if (y1)=true then G ((.int .i64 1))else(if (Op.bytesLess s t)=true then G ((.int .i64 (-1)))else(if (!(Op.bytesLess s t||s==t))=true then G ((.int .i64 1))else(G ((.int .i64 0))))))))):Zc ER 0 (Za PD G) Pn [] (Ye 20 [.str s,.str t]):=Zc.tp (.lit (.abs (Bool) (fun YY=>AV.pv (enc YY)) (.lit (.abs (Bool) (fun YY=>AV.pv (enc YY)) (.ask (.ask (.nil) (.nil)) (.ask (.nil) (.lit (.ask (.nil) (.lit (.ask (.nil) (.nil))))))))))) h (by kernel_rfl)
def WU:IC:=(.seq (.reg [⟨(some 2),(.mv (.c (.bool false))),0,none⟩] none) (.seq (.seq (.reg [⟨(some 4),(.mv (.t 0)),0,none⟩,⟨(some 5),(.len 1 (.t 4)),0,none⟩,⟨(some 6),(.bin .num .sub (.t 5) (.c (.int .i64 1))),0,none⟩,⟨(some 3),(.mv (.t 6)),0,none⟩] none) (.block 0 (.loop [3,0] (.seq (.seq (.reg [⟨(some 7),(.mv (.t 3)),0,none⟩,⟨(some 8),(.bin .num .gtr (.t 7) (.c (.int .i64 0))),0,none⟩] none) (.cond (.t 8) .skip (.exit 0))) (.seq (.block 1 (.seq (.reg [⟨(some 11),(.mv (.t 0)),0,none⟩,⟨(some 12),(.mv (.t 3)),0,none⟩,⟨(some 13),(.iaddr 1 (.t 11) (.t 12)),0,none⟩,⟨(some 14),(.load false [.str] (.t 13)),0,none⟩,⟨(some 15),(.mv (.t 0)),0,none⟩,⟨(some 16),(.mv (.t 3)),0,none⟩,⟨(some 17),(.bin .num .sub (.t 16) (.c (.int .i64 1))),0,none⟩,⟨(some 18),(.iaddr 1 (.t 15) (.t 17)),0,none⟩,⟨(some 19),(.load false [.str] (.t 18)),0,none⟩,⟨(some 20),(.call (.c (.fn 244)) [(.t 14),(.t 19)]),0,none⟩] (some [[],[],[0,1],[2,0,1],[],[],[5],[4,6,5],[7,4,6,5],[3,8,2,0,1,7,4,6,5]])) (.cond (.t 20) (.seq (.reg [⟨(some 2),(.mv (.c (.bool false))),0,none⟩] none) .ret) .skip))) (.reg [⟨(some 9),(.mv (.t 3)),0,none⟩,⟨(some 10),(.bin .num .sub (.t 9) (.c (.int .i64 1))),0,none⟩,⟨(some 3),(.mv (.t 10)),0,none⟩] none)))))) (.seq (.reg [⟨(some 2),(.mv (.c (.bool true))),0,none⟩] none) .ret)))
def WY:List IRes:=[(.tmp 2)]
abbrev Ei:Nat:=21
def V7:ZF:=Xe [(244,.pure (preT (fun _:Str×Str×Unit=>true)) (Zf (fun x:Str×Str×Unit=>decide (x.1.s<x.2.1.s))))]
theorem a7g{G:PV->Prop}(l:List Str)(h:At V7 0 (Za WY G) WU 0 21 [(0,(.pv (.sl 1 false (List.map enc l)))),(3,(.pv (.int .i64 (IntKind.wrap IntKind.i64 ((↑(List.length (List.map enc l)):Int) - 1)))))] []):Zc V7 0 (Za WY G) WU [] (Ye 21 [enc l]):=Zc.tp (.lit (.nil)) h (by kernel_rfl)
theorem JP{G:PV->Prop}(l:List Str)(i:Int)(h:if (decide (i>0))=true then(decide (0<=i)&&decide (Int.toNat i<List.length (List.map enc l))&&Enc.sz Str==1)=true∧(∃ y0:Str,AV.pv (PV.rptr (PV.cells (List.getD (List.map enc l) (Int.toNat i) default)))=AV.pv (PV.rptr (PV.cells ((enc) y0)))∧((decide (0<=IntKind.wrap IntKind.i64 (i - 1))&&decide (Int.toNat (IntKind.wrap IntKind.i64 (i - 1))<List.length (List.map enc l))&&Enc.sz Str==1)=true∧(∃ y1:Str,AV.pv (PV.rptr (PV.cells (List.getD (List.map enc l) (Int.toNat (IntKind.wrap IntKind.i64 (i - 1))) default)))=AV.pv (PV.rptr (PV.cells ((enc) y1)))∧(∃ y2:Bool,AV.pv (Zf (fun(x:Str×Str×Unit)=>decide (Str.s x.1<Str.s x.2.1)) [(.str (PV.asStr (List.getD (PV.cells (enc y0)) 0 default))),(.str (PV.asStr (List.getD (PV.cells (enc y1)) 0 default)))])=AV.pv (enc y2)∧(if (y2)=true then G ((.bool false))else(At V7 0 (Za WY G) WU 0 21 [(0,(.pv (.sl 1 false (List.map enc l)))),(3,(.pv (.int .i64 (IntKind.wrap IntKind.i64 (i - 1)))))] []))))))else(G ((.bool true)))):At V7 0 (Za WY G) WU 0 21 [(0,.pv (enc l)),(3,.pv (.int .i64 i))] []:=At.tp (.lit (.ask (.req (.abs (Str) (fun YY=>AV.pv (PV.rptr (PV.cells ((enc) YY)))) (.lit (.lit (.req (.abs (Str) (fun YY=>AV.pv (PV.rptr (PV.cells ((enc) YY)))) (.lit (.lit (.abs (Bool) (fun YY=>AV.pv (enc YY)) (.ask (.nil) (.lit (.nil)))))))))))) (.nil))) h (by kernel_rfl)
def VZ:IC:=(.seq (.reg [⟨(some 4),(.mv (.c (.int .i64 0))),0,none⟩] none) (.seq (.seq (.reg [⟨(some 9),(.mv (.t 0)),0,none⟩,⟨(some 10),(.len 1 (.t 9)),0,none⟩,⟨(some 11),(.mv (.c (.int .i64 0))),0,none⟩] none) (.block 0 (.loop [11,10,9,1,0] (.seq (.reg [⟨(some 12),(.bin .num .lss (.t 11) (.t 10)),0,none⟩] none) (.seq (.cond (.t 12) .skip (.exit 0)) (.seq (.block 1 (.seq (.reg [⟨(some 13),(.mv (.t 11)),0,none⟩,⟨(some 14),(.iaddr 1 (.t 9) (.t 11)),0,none⟩,⟨(some 15),(.load false [.str] (.t 14)),0,none⟩,⟨(some 5),(.mv (.t 13)),0,none⟩,⟨(some 6),(.mv (.t 15)),0,none⟩] none) (.seq (.seq (.reg [⟨(some 16),(.mv (.t 5)),0,none⟩,⟨(some 17),(.mv (.t 1)),0,none⟩,⟨(some 18),(.len 1 (.t 17)),0,none⟩,⟨(some 19),(.bin .num .geq (.t 16) (.t 18)),0,none⟩] none) (.cond (.t 19) (.seq (.reg [⟨(some 4),(.mv (.c (.int .i64 1))),0,none⟩] none) .ret) .skip)) (.seq (.reg [⟨(some 20),(.mv (.t 1)),0,none⟩,⟨(some 21),(.mv (.t 5)),0,none⟩,⟨(some 22),(.iaddr 1 (.t 20) (.t 21)),0,none⟩,⟨(some 23),(.load false [.str] (.t 22)),0,none⟩,⟨(some 7),(.mv (.t 23)),0,none⟩] none) (.seq (.reg [⟨(some 24),(.mv (.t 6)),0,none⟩,⟨(some 25),(.mv (.t 7)),0,none⟩,⟨(some 26),(.call (.c (.fn 245)) [(.t 24),(.t 25)]),0,none⟩,⟨(some 8),(.mv (.t 26)),2,none⟩] none) (.seq (.reg [⟨(some 27),(.mv (.t 8)),0,none⟩,⟨(some 28),(.bin .num .neq (.t 27) (.c (.int .i64 0))),0,none⟩] none) (.cond (.t 28) (.seq (.reg [⟨(some 29),(.mv (.t 8)),0,none⟩,⟨(some 4),(.mv (.t 29)),0,none⟩] none) .ret) .skip))))))) (.reg [⟨(some 30),(.bin .num .add (.t 11) (.c (.int .i64 1))),0,none⟩,⟨(some 11),(.mv (.t 30)),0,none⟩] none))))))) (.seq (.seq (.reg [⟨(some 31),(.mv (.t 0)),0,none⟩,⟨(some 32),(.len 1 (.t 31)),0,none⟩,⟨(some 33),(.mv (.t 1)),0,none⟩,⟨(some 34),(.len 1 (.t 33)),0,none⟩,⟨(some 35),(.bin .num .lss (.t 32) (.t 34)),0,none⟩] none) (.cond (.t 35) (.seq (.reg [⟨(some 4),(.mv (.c (.int .i64 (-1)))),0,none⟩] none) .ret) .skip)) (.seq (.reg [⟨(some 4),(.mv (.c (.int .i64 0))),0,none⟩] none) .ret))))
def V5:List IRes:=[(.tmp 4)]
abbrev a5m:Nat:=36
def UW:ZF:=Xe [(245,.pure (preT (fun _:Str×Str×Unit=>true)) (Zf (fun x:Str×Str×Unit=>Td x.1 x.2.1)))]
theorem a8v{G:PV->Prop}(a b:List Str)(h:At UW 0 (Za V5 G) VZ 0 36 [(0,(.pv (.sl 1 false (List.map enc a)))),(1,(.pv (.sl 1 false (List.map enc b)))),(9,(.pv (.sl 1 false (List.map enc a)))),(10,(.pv (.int .i64 (↑(List.length (List.map enc a)):Int)))),(11,(.pv (.int .i64 0)))] []):Zc UW 0 (Za V5 G) VZ [] (Ye 36 [enc a,enc b]):=Zc.tp (.nil) h (by kernel_rfl)
theorem Rt{G:PV->Prop}(a b:List Str)(i:Int)(h:if (decide (i<(↑(List.length a):Int)))=true then(decide (0<=i)&&decide (Int.toNat i<List.length (List.map enc a))&&Enc.sz Str==1)=true∧(∃ y0:Str,AV.pv (PV.rptr (PV.cells (List.getD (List.map enc a) (Int.toNat i) default)))=AV.pv (PV.rptr (PV.cells ((enc) y0)))∧(if (decide (i ≥ (↑(List.length (List.map enc b)):Int)))=true then G ((.int .i64 1))else((decide (0<=i)&&decide (Int.toNat i<List.length (List.map enc b))&&Enc.sz Str==1)=true∧(∃ y1:Str,AV.pv (PV.rptr (PV.cells (List.getD (List.map enc b) (Int.toNat i) default)))=AV.pv (PV.rptr (PV.cells ((enc) y1)))∧(∃ y2:Int,AV.pv (Zf (fun(x:Str×Str×Unit)=>Td x.1 x.2.1) [(.str (PV.asStr (List.getD (PV.cells (enc y0)) 0 default))),(.str (PV.asStr (List.getD (PV.cells (enc y1)) 0 default)))])=AV.pv (enc y2)∧(if (y2 != 0)=true then G ((.int .i64 y2))else(At UW 0 (Za V5 G) VZ 0 36 [(0,(.pv (.sl 1 false (List.map enc a)))),(1,(.pv (.sl 1 false (List.map enc b)))),(9,(.pv (.sl 1 false (List.map enc a)))),(10,(.pv (.int .i64 (↑(List.length a):Int)))),(11,(.pv (.int .i64 (IntKind.wrap IntKind.i64 (i+1)))))] [])))))))else(if (decide ((↑(List.length (List.map enc a)):Int)<(↑(List.length (List.map enc b)):Int)))=true then G ((.int .i64 (-1)))else(G ((.int .i64 0))))):At UW 0 (Za V5 G) VZ 0 36 [(0,.pv (enc a)),(1,.pv (enc b)),(9,.pv (enc a)),(10,.pv (.int .i64 a.length)),(11,.pv (.int .i64 i))] []:=At.tp (.lit (.ask (.req (.abs (Str) (fun YY=>AV.pv (PV.rptr (PV.cells ((enc) YY)))) (.lit (.lit (.ask (.nil) (.req (.abs (Str) (fun YY=>AV.pv (PV.rptr (PV.cells ((enc) YY)))) (.lit (.lit (.abs (Int) (fun YY=>AV.pv (enc YY)) (.lit (.ask (.nil) (.lit (.nil)))))))))))))) (.lit (.ask (.nil) (.nil))))) h (by kernel_rfl)
def W9:IC:=(.seq (.reg [⟨(some 2),(.mv (.c (.bool false))),0,none⟩] none) (.seq (.seq (.reg [⟨(some 5),(.mv (.t 0)),0,none⟩,⟨(some 6),(.len 1 (.t 5)),0,none⟩,⟨(some 7),(.mv (.c (.int .i64 0))),0,none⟩] none) (.block 0 (.loop [7,6,5,0] (.seq (.reg [⟨(some 8),(.bin .num .lss (.t 7) (.t 6)),0,none⟩] none) (.seq (.cond (.t 8) .skip (.exit 0)) (.seq (.block 1 (.seq (.reg [⟨(some 9),(.mv (.t 7)),0,none⟩,⟨(some 10),(.iaddr 2 (.t 5) (.t 7)),0,none⟩,⟨(some 11),(.load true [(.int .i64),(.sl 1)] (.t 10)),0,none⟩,⟨(some 4),(.alloc (.agg [(.int .i64 0),(.sl 0 true [])])),0,none⟩,⟨(some 3),(.mv (.t 9)),1,none⟩,⟨none,(.store 2 (.t 4) (.t 11)),1,none⟩] none) (.seq (.seq (.reg [⟨(some 12),(.faddr 0 (.t 4)),0,none⟩,⟨(some 13),(.load false [(.int .i64)] (.t 12)),0,none⟩,⟨(some 14),(.bin .num .eql (.t 13) (.c (.int .i64 0))),0,none⟩,⟨(some 15),(.mv (.t 14)),0,none⟩,⟨(some 16),(.faddr 0 (.t 4)),0,(some (15,false))⟩,⟨(some 17),(.load false [(.int .i64)] (.t 16)),0,(some (15,false))⟩,⟨(some 18),(.bin .num .lss (.t 17) (.c (.int .i64 (-1099511627776)))),0,(some (15,false))⟩,⟨(some 19),(.pick (.t 15) (.c (.bool true)) (.t 18)),0,none⟩,⟨(some 20),(.mv (.t 19)),0,none⟩,⟨(some 21),(.faddr 0 (.t 4)),0,(some (20,false))⟩,⟨(some 22),(.load false [(.int .i64)] (.t 21)),0,(some (20,false))⟩,⟨(some 23),(.bin .num .gtr (.t 22) (.c (.int .i64 1099511627776))),0,(some (20,false))⟩,⟨(some 24),(.pick (.t 20) (.c (.bool true)) (.t 23)),0,none⟩,⟨(some 25),(.mv (.t 24)),0,none⟩,⟨(some 26),(.faddr 1 (.t 4)),0,(some (25,false))⟩,⟨(some 27),(.load false [(.sl 1)] (.t 26)),0,(some (25,false))⟩,⟨(some 28),(.len 1 (.t 27)),0,(some (25,false))⟩,⟨(some 29),(.bin .num .gtr (.t 28) (.c (.int .i64 8))),0,(some (25,false))⟩,⟨(some 30),(.pick (.t 25) (.c (.bool true)) (.t 29)),0,none⟩,⟨(some 31),(.mv (.t 30)),0,none⟩,⟨(some 32),(.faddr 1 (.t 4)),0,(some (31,false))⟩,⟨(some 33),(.load false [(.sl 1)] (.t 32)),0,(some (31,false))⟩,⟨(some 34),(.call (.c (.fn 184)) [(.t 33)]),0,(some (31,false))⟩,⟨(some 35),(.un .not (.t 34)),2,(some (31,false))⟩,⟨(some 36),(.pick (.t 31) (.c (.bool true)) (.t 35)),2,none⟩] none) (.cond (.t 36) (.seq (.reg [⟨(some 2),(.mv (.c (.bool false))),0,none⟩] none) .ret) .skip)) (.seq (.seq (.reg [⟨(some 37),(.faddr 1 (.t 4)),0,none⟩,⟨(some 38),(.load false [(.sl 1)] (.t 37)),0,none⟩,⟨(some 39),(.call (.c (.fn 175)) [(.t 38),(.c (.fn 185))]),0,none⟩] none) (.cond (.t 39) (.seq (.reg [⟨(some 2),(.mv (.c (.bool false))),0,none⟩] none) .ret) .skip)) (.seq (.reg [⟨(some 40),(.mv (.t 3)),0,none⟩,⟨(some 41),(.bin .num .gtr (.t 40) (.c (.int .i64 0))),0,none⟩,⟨(some 42),(.mv (.t 41)),0,none⟩,⟨(some 43),(.mv (.t 0)),0,(some (42,true))⟩,⟨(some 44),(.mv (.t 3)),0,(some (42,true))⟩,⟨(some 45),(.bin .num .sub (.t 44) (.c (.int .i64 1))),0,(some (42,true))⟩,⟨(some 46),(.iaddr 2 (.t 43) (.t 45)),0,(some (42,true))⟩,⟨(some 47),(.faddr 1 (.t 46)),0,(some (42,true))⟩,⟨(some 48),(.load false [(.sl 1)] (.t 47)),0,(some (42,true))⟩,⟨(some 49),(.faddr 1 (.t 4)),0,(some (42,true))⟩,⟨(some 50),(.load false [(.sl 1)] (.t 49)),0,(some (42,true))⟩,⟨(some 51),(.call (.c (.fn 186)) [(.t 48),(.t 50)]),0,(some (42,true))⟩,⟨(some 52),(.bin .num .geq (.t 51) (.c (.int .i64 0))),2,(some (42,true))⟩,⟨(some 53),(.pick (.t 42) (.t 52) (.c (.bool false))),2,none⟩] (some [[],[0],[1,0],[2,1,0],[2,1,0],[4,2,1,0],[3,5,2,1,0,4],[6,2,3,5,1,0,4],[7,2,6,3,5,1,0,4],[2,1,0],[9,2,1,0],[8,10,2,7,6,3,5,1,0,4,9],[11,2,8,10,7,6,3,5,1,0,4,9],[2,12,1,0,11,8,10,7,6,3,5,4,9]])) (.cond (.t 53) (.seq (.reg [⟨(some 2),(.mv (.c (.bool false))),0,none⟩] none) .ret) .skip)))))) (.reg [⟨(some 54),(.bin .num .add (.t 7) (.c (.int .i64 1))),0,none⟩,⟨(some 7),(.mv (.t 54)),0,none⟩] none))))))) (.seq (.reg [⟨(some 55),(.mv (.t 0)),0,none⟩,⟨(some 56),(.len 1 (.t 55)),0,none⟩,⟨(some 57),(.bin .num .leq (.t 56) (.c (.int .i64 60))),0,none⟩,⟨(some 2),(.mv (.t 57)),0,none⟩] none) .ret)))
def Wt:List IRes:=[(.tmp 2)]
abbrev a7t:Nat:=58
def Vj:ZF:=Xe [(184,.pure (preT (fun x:List Str×Unit=>Zn x.1)) (Zf (fun x:List Str×Unit=>H9 x.1))),(175,.pure (preT (fun x:List Str×FnV 185×Unit=>WC x.1)) (Zf (fun x:List Str×FnV 185×Unit=>x.1.any fun s:Str=> !(ZE s)))),(186,.pure (preT (fun x:List Str×List Str×Unit=>Zn x.1&&Zn x.2.1)) (Zf (fun x:List Str×List Str×Unit=>Du x.1 x.2.1)))]
theorem b1f{G:PV->Prop}(p:List Mono)(h:At Vj 0 (Za Wt G) W9 0 58 [(0,(.pv (.sl 2 false (List.map enc p)))),(5,(.pv (.sl 2 false (List.map enc p)))),(6,(.pv (.int .i64 (↑(List.length (List.map enc p)):Int)))),(7,(.pv (.int .i64 0)))] []):Zc Vj 0 (Za Wt G) W9 [] (Ye 58 [enc p]):=Zc.tp (.nil) h (by kernel_rfl)
theorem RY{G:PV->Prop}(p:List Mono)(i:Int)(h:if (decide (i<(↑(List.length p):Int)))=true then(decide (0<=i)&&decide (Int.toNat i<List.length (List.map enc p))&&Enc.sz Mono==2)=true∧(∃ y0:Mono,AV.pv (PV.rptr (PV.cells (List.getD (List.map enc p) (Int.toNat i) default)))=AV.pv (PV.rptr (PV.cells ((enc) y0)))∧(if (PV.asInt (List.getD (PV.cells (enc y0)) 0 default)==0)=true then G ((.bool false))else(if (decide (PV.asInt (List.getD (PV.cells (enc y0)) 0 default)<(-1099511627776:Int)))=true then G ((.bool false))else(if (decide (PV.asInt (List.getD (PV.cells (enc y0)) 0 default)>1099511627776))=true then G ((.bool false))else(if (decide ((↑(List.length (PV.asXs (List.getD (PV.cells (enc y0)) (0+1) default))):Int)>8))=true then G ((.bool false))else((Go.Pl.preT (fun(x:List Str×Unit)=>Zn x.1) [(.sl 1 false (PV.asXs (List.getD (PV.cells (enc y0)) (0+1) default)))])=true∧(∃ y1:Bool,AV.pv (Zf (fun(x:List Str×Unit)=>H9 x.1) [(.sl 1 false (PV.asXs (List.getD (PV.cells (enc y0)) (0+1) default)))])=AV.pv (enc y1)∧(if (!y1)=true then G ((.bool false))else((Go.Pl.preT (fun(x:List Str×FnV 185×Unit)=>WC x.1) [(.sl 1 false (PV.asXs (List.getD (PV.cells (enc y0)) (0+1) default))),(.fn 185)])=true∧(∃ y2:Bool,AV.pv (Zf (fun(x:List Str×FnV 185×Unit)=>List.any x.1 fun(s:Str)=> !ZE s) [(.sl 1 false (PV.asXs (List.getD (PV.cells (enc y0)) (0+1) default))),(.fn 185)])=AV.pv (enc y2)∧(if (y2)=true then G ((.bool false))else(if (decide (i>0))=true then(decide (0<=IntKind.wrap IntKind.i64 (i - 1))&&decide (Int.toNat (IntKind.wrap IntKind.i64 (i - 1))<List.length (List.map enc p))&&Enc.sz Mono==2)=true∧(∃ y3:Mono,AV.pv (PV.rptr (PV.cells (List.getD (List.map enc p) (Int.toNat (IntKind.wrap IntKind.i64 (i - 1))) default)))=AV.pv (PV.rptr (PV.cells ((enc) y3)))∧((Go.Pl.preT (fun(x:List Str×List Str×Unit)=>Zn x.1&&Zn x.2.1) [(.sl 1 false (PV.asXs (List.getD (List.drop 1 (PV.cells (enc y3))) 0 default))),(.sl 1 false (PV.asXs (List.getD (PV.cells (enc y0)) (0+1) default)))])=true∧(∃ y4:Int,AV.pv (Zf (fun(x:List Str×List Str×Unit)=>Du x.1 x.2.1) [(.sl 1 false (PV.asXs (List.getD (List.drop 1 (PV.cells (enc y3))) 0 default))),(.sl 1 false (PV.asXs (List.getD (PV.cells (enc y0)) (0+1) default)))])=AV.pv (enc y4)∧(if (decide (y4 ≥ 0))=true then G ((.bool false))else(At Vj 0 (Za Wt G) W9 0 58 [(0,(.pv (.sl 2 false (List.map enc p)))),(5,(.pv (.sl 2 false (List.map enc p)))),(6,(.pv (.int .i64 (↑(List.length p):Int)))),(7,(.pv (.int .i64 (IntKind.wrap IntKind.i64 (i+1)))))] [])))))else(At Vj 0 (Za Wt G) W9 0 58 [(0,(.pv (.sl 2 false (List.map enc p)))),(5,(.pv (.sl 2 false (List.map enc p)))),(6,(.pv (.int .i64 (↑(List.length p):Int)))),(7,(.pv (.int .i64 (IntKind.wrap IntKind.i64 (i+1)))))] [])))))))))))))else(G ((.bool (decide ((↑(List.length (List.map enc p)):Int)<=60)))))):At Vj 0 (Za Wt G) W9 0 58 [(0,.pv (enc p)),(5,.pv (enc p)),(6,.pv (.int .i64 p.length)),(7,.pv (.int .i64 i))] []:=At.tp (.lit (.ask (.req (.abs (Mono) (fun YY=>AV.pv (PV.rptr (PV.cells ((enc) YY)))) (.lit (.lit (.ask (.lit (.lit (.lit (.lit (.lit (.lit (.lit (.lit (.lit (.lit (.lit (.lit (.lit (.lit (.lit (.lit (.lit (.lit (.nil))))))))))))))))))) (.lit (.lit (.lit (.lit (.ask (.lit (.lit (.lit (.lit (.lit (.lit (.lit (.lit (.lit (.lit (.lit (.lit (.lit (.lit (.nil))))))))))))))) (.lit (.lit (.lit (.lit (.ask (.lit (.lit (.lit (.lit (.lit (.lit (.lit (.lit (.lit (.lit (.nil))))))))))) (.lit (.lit (.lit (.lit (.lit (.ask (.lit (.lit (.lit (.lit (.lit (.nil)))))) (.lit (.lit (.req (.abs (Bool) (fun YY=>AV.pv (enc YY)) (.lit (.lit (.ask (.nil) (.req (.abs (Bool) (fun YY=>AV.pv (enc YY)) (.ask (.nil) (.lit (.ask (.lit (.lit (.lit (.lit (.req (.abs (Mono) (fun YY=>AV.pv (PV.rptr (PV.cells ((enc) YY)))) (.lit (.lit (.lit (.lit (.lit (.lit (.req (.abs (Int) (fun YY=>AV.pv (enc YY)) (.lit (.lit (.lit (.ask (.nil) (.lit (.nil)))))))))))))))))))) (.lit (.lit (.lit (.lit (.lit (.lit (.lit (.lit (.lit (.lit (.lit (.lit (.nil)))))))))))))))))))))))))))))))))))))))))))))) (.lit (.nil)))) h (by kernel_rfl)
end Go.Pl

namespace Go.Pl
open Go.RowKit
open Enc (enc dec is)
open EncL (encL decL isL)
theorem b2y: ∀ x:Str×Unit,decide (x.1.s.length<=281474976710656)=true->Zc OB 0 (Za Po (Zg (!(ZE x.1)))) PX [] (Ye c1p (encL x)):=by
 rintro⟨⟨s⟩,⟨⟩⟩ h
 exact c5r s ⟨Zj (⟨s⟩,()) rfl h,Zh (⟨s⟩,()) rfl (ZM rfl)⟩
theorem a9w(l:List Str)(hs : ∀ s∈l,decide (s.s.length<=281474976710656)=true)(hl:l.length<=9223372036854775807): ∀ (m i:Nat),m+i=l.length->(∀ j (h:j<l.length),j<i->(!(ZE l[j]))=false) ->
  At Ao 0 (Za Hg (Zg (Zz (fun s:Str=> !(ZE s)) l))) Hz 0 19 [(0,.pv (enc l)),(1,.pv (.fn 185)),(7,.pv (.int .i64 l.length)),(8,.pv (.int .i64 i))] []:=by
 intro m
 induction m with
 | zero=>
  intro i hi hno
  refine a9t l i (ZK (Z4 (by omega)) (Uu ?_))
  rw[Qt _ _ (fun j hj=>hno j hj (by omega))]
 | succ m ih=>
  intro i hi hno
  have hlt:i<l.length:=by omega
  refine a9t l i (ZC (ZW hlt) ⟨Zt hlt rfl,Zx hlt ⟨Zj (l[i],()) rfl (hs _ (List.getElem_mem hlt)),Zh (l[i],()) rfl (X3 (fun hb=> ?_) fun hb=> ?_)⟩⟩)
  ·exact Uu (Qp (fun s:Str=> !(ZE s)) l i hlt hno hb).symm
  ·rw[next (by omega)]
   refine ih (i+1) (by omega) fun j hj hji=> ?_
   by_cases e:j=i
   ·subst e;exact hb
   ·exact hno j hj (by omega)
theorem c2a: ∀ a:List Str×FnV 185×Unit,WC a.1=true->Zc Ao 0 (Za Hg (Zg (Zz (fun s:Str=> !(ZE s)) a.1))) Hz [] (Ye c7y (encL a)):=by
 rintro⟨l,g,⟨⟩⟩ h
 have h':=h
 simp only[WC,Bool.and_eq_true,List.all_eq_true]at h'
 refine c8d l ?_
 rw[List.length_map]
 exact a9w l h'.2 (Zy.1 h'.1) l.length 0 (by omega) (fun j hj h=>by omega)
theorem c0o: ∀ a:List Str×FnV 185×Unit,WC a.1=true->Zc b1w 0 (Za Ep (Zg (a.1.any fun s:Str=> !(ZE s)))) Eg [] (Ye c5h (encL a)):=by
 rintro⟨l,g,⟨⟩⟩ h
 exact c8i l ⟨Zj (l,{},()) rfl h,Zh (l,{},()) rfl (ZM (XU _ _))⟩
theorem b5k: ∀ a:Str×Unit,(fun _:Str×Unit=>true) a=true->Zc O6 0 (Za Ni (Zg (false:Bool))) Nl [] (Ye c3a (encL a)):=by
 rintro⟨⟨s⟩,⟨⟩⟩ _
 exact c6x s (ZM (by simp))
theorem a4j: ∀ a:Str×Str×Unit,(fun _:Str×Str×Unit=>true) a=true->Zc PU 0 (Za Sl (Zg (decide (a.1.s<a.2.1.s)))) BG [] (Ye b2d (encL a)):=by
 rintro⟨⟨s⟩,⟨t⟩,⟨⟩⟩ _
 exact c1t s t (Zh (⟨s⟩,()) rfl (ZK (by simp) (ZM (YW s t))))
theorem b1q: ∀ a:Str×Str×Unit,(fun _:Str×Str×Unit=>true) a=true->Zc ER 0 (Za PD (Zg (Td a.1 a.2.1))) Pn [] (Ye c1s (encL a)):=by
 rintro⟨⟨s⟩,⟨t⟩,⟨⟩⟩ _
 refine c5l s t (Zh (⟨s⟩,()) rfl (Zh (⟨t⟩,()) rfl (ZK (by simp) (ZK (by simp) ?_))))
 show if (Op.bytesLess s t)=true then Zg (Td ⟨s⟩ ⟨t⟩) _ else if (!(Op.bytesLess s t||s==t))=true then Zg (Td ⟨s⟩ ⟨t⟩) _ else Zg (Td ⟨s⟩ ⟨t⟩) _
 rw[YW]
 unfold Td
 by_cases h1:s<t
 ·rw[decide_eq_true h1,if_pos rfl,if_pos h1];exact Uu rfl
 ·rw[decide_eq_false h1,if_neg (by simp),if_neg h1]
  by_cases h2:s=t
  ·subst h2
   rw[if_neg (by simp),if_neg h1];exact Uu rfl
  ·have h3:t<s:=by
    rcases List.le_total s t with h|h
    ·exact absurd (Std.lt_of_le_of_ne h h2) h1
    ·exact Std.lt_of_le_of_ne h (Ne.symm h2)
   rw[if_pos (by simp[h2]),if_pos h3];exact Uu rfl
theorem b0m(l:List Str):H9 l=true ↔ ∀ i (h:i+1<l.length),¬ l[i+1].s<l[i].s:=by
 induction l with
 | nil=>simp[H9]
 | cons x l ih=>
  cases l with
  | nil=>simp[H9]
  | cons y r=>
   rw[H9,Bool.and_eq_true,ih]
   constructor
   ·rintro⟨h1,h2⟩ i hi
    cases i with
    | zero=>simpa using h1
    | succ i=>exact h2 i (by simpa using hi)
   ·intro h
    exact⟨by simpa using h 0 (by simp),fun i hi=>h (i+1) (by simpa using hi)⟩
theorem NA(l:List Str)(hl:l.length<=9223372036854775807): ∀ (i:Nat),i<l.length->(∀ j (h:j+1<l.length),i<=j-> ¬ l[j+1].s<l[j].s) ->
  At V7 0 (Za WY (Zg (H9 l))) WU 0 21 [(0,.pv (enc l)),(3,.pv (.int .i64 i))] []:=by
 intro i
 induction i with
 | zero=>
  intro hi hok
  refine JP l ((0:Nat):Int) (ZK (by decide) (ZM ?_))
  exact((b0m l).2 fun j hj=>hok j hj (Nat.zero_le _)).symm
 | succ i ih=>
  intro hi hok
  have hi2:i<l.length:=by omega
  have e:((i+1:Nat):Int) - 1=(i:Int):=by omega
  have hw:IntKind.i64.wrap (((i+1:Nat):Int) - 1)=(i:Int):=by rw[e];exact XJ (by omega) (by omega)
  refine JP l ((i+1:Nat):Int) (ZC (by simp) ⟨Zt hi rfl,Zx hi ?_⟩)
  rw[hw]
  refine⟨Zt hi2 rfl,Zx hi2 (Zh (l[i+1],l[i],()) rfl (X3 (fun h=>ZM ?_) fun h=>ih hi2 fun j hj hij=> ?_))⟩
  ·have h:l[i+1].s<l[i].s:=of_decide_eq_true h
   cases hc:H9 l
   ·rfl
   ·exact absurd h ((b0m l).1 hc i hi)
  ·have h : ¬ l[i+1].s<l[i].s:=of_decide_eq_false h
   by_cases ej:j=i
   ·subst ej;exact h
   ·exact hok j hj (by omega)
theorem M6: ∀ a:List Str×Unit,Zn a.1=true->Zc V7 0 (Za WY (Zg (H9 a.1))) WU [] (Ye Ei (encL a)):=by
 rintro⟨l,⟨⟩⟩ h
 have hl:=Zy.1 h
 refine a7g l ?_
 rw[List.length_map]
 cases hc:l with
 | nil=>
  refine JP [] _ (ZK (by decide) (ZM rfl))
 | cons x r=>
  have hw:IntKind.i64.wrap (((x::r).length:Int) - 1)=((r.length:Nat):Int):=by
   rw[List.length_cons]
   rw[hc,List.length_cons]at hl
   rw[show((r.length+1:Nat):Int) - 1=(r.length:Int) by omega]
   exact XJ (by omega) (by omega)
  rw[hw]
  exact NA (x::r) (by rw[<- hc];exact hl) r.length (by simp) (fun j hj h=>by simp at hj;omega)
theorem LP(a b:List Str)(ha:a.length<=9223372036854775807)(hb:b.length<=9223372036854775807): ∀ (k i:Nat),k+i=a.length->i<=b.length ->
  At UW 0 (Za V5 (Zg (Du (a.drop i) (b.drop i)))) VZ 0 36 [(0,.pv (enc a)),(1,.pv (enc b)),(9,.pv (enc a)),(10,.pv (.int .i64 a.length)),(11,.pv (.int .i64 i))] []:=by
 intro k
 induction k with
 | zero=>
  intro i hi hib
  rw[List.drop_of_length_le (show a.length<=i by omega)]
  refine Rt a b i (ZK (Z4 (by omega)) ?_)
  simp only[List.length_map]
  refine WJ (fun h=> ?_) fun h=> ?_
  ·rw[List.drop_eq_getElem_cons (show i<b.length by omega)]
   exact Uu rfl
  ·rw[List.drop_of_length_le (show b.length<=i by omega)]
   exact Uu rfl
 | succ k ih=>
  intro i hi hib
  have hlt:i<a.length:=by omega
  rw[List.drop_eq_getElem_cons hlt]
  refine Rt a b i (ZC (ZW hlt) ⟨Zt hlt rfl,Zx hlt ?_⟩)
  simp only[List.length_map]
  refine WJ (fun h=> ?_) fun h=> ?_
  ·rw[List.drop_of_length_le (show b.length<=i by omega)]
   exact Uu rfl
  ·have hlt2:i<b.length:=by omega
   have h1:=ih (i+1) (by omega) (by omega)
   rw[List.drop_eq_getElem_cons hlt2]
   refine⟨by simp[hlt2],Zx hlt2 (Zh (a[i],b[i],()) rfl ?_)⟩
   show if (Td a[i] b[i] != 0)=true then _ else _
   unfold Du Td
   by_cases q1:a[i].s<b[i].s
   ·rw[if_pos q1,if_pos (by simp),if_pos q1];exact Uu rfl
   ·rw[if_neg q1,if_neg q1]
    by_cases q2:b[i].s<a[i].s
    ·rw[if_pos q2,if_pos (by simp),if_pos q2];exact Uu rfl
    ·rw[if_neg q2,if_neg (by simp),if_neg q2,next (by omega)]
     exact h1
theorem O1: ∀ x:List Str×List Str×Unit,(Zn x.1&&Zn x.2.1)=true->Zc UW 0 (Za V5 (Zg (Du x.1 x.2.1))) VZ [] (Ye a5m (encL x)):=by
 rintro⟨a,b,⟨⟩⟩ h
 simp only[Bool.and_eq_true]at h
 refine a8v a b ?_
 rw[List.length_map]
 exact LP a b (Zy.1 h.1) (Zy.1 h.2) a.length 0 (by omega) (Nat.zero_le _)
theorem Sb: ∀ a b:List Str,Du a b<0 ↔ Qo a b<0
 | [],[]=>by decide
 | [],y::b=>by
  have e1:Du [] (y::b) = -1:=rfl
  have e2:Qo [] (y::b) = -((y::b).length:Int):=rfl
  rw[e1,e2,List.length_cons];omega
 | x::a,[]=>by
  have e1:Du (x::a) []=1:=rfl
  have e2:Qo (x::a) []=((x::a).length:Int):=rfl
  rw[e1,e2];omega
 | x::a,y::b=>by
  rw[Du,Qo]
  split
  ·exact Iff.rfl
  ·split
   ·exact Iff.rfl
   ·exact Sb a b
def pvL:Option Mono->List Mono->Bool
 | _,[]=>true
 | o,m::r=>Ve m&&(match o with|none=>true|some q=>decide (Qo q.v m.v<0))&&pvL (some m) r
theorem b0q(o:Option Mono)(m:Mono)(r:List Mono):pvL o (m::r)=(Ve m&&(match o with|none=>true|some q=>decide (Qo q.v m.v<0))&&pvL (some m) r):=by cases o <;> rfl
theorem M7: ∀ (l:List Mono) (q:Mono),pvL (some q) l=(l.all Ve&&a7v (q::l))
 | [],q=>rfl
 | m::r,q=>by
  rw[pvL,M7 r m,a7v,List.all_cons]
  cases Ve m <;> cases decide (Qo q.v m.v<0) <;> cases r.all Ve <;> cases a7v (m::r) <;> rfl
theorem b1y(l:List Mono):(pvL none l&&decide (l.length<=60))=ZI l:=by
 unfold ZI
 cases l with
 | nil=>rfl
 | cons m r=>
  rw[pvL,M7,List.all_cons,Bool.and_true]
  cases Ve m <;> cases decide ((m::r).length<=60) <;> cases r.all Ve <;> cases a7v (m::r) <;> rfl
def Fy(p:List Mono):Nat->Option Mono
 | 0=>none
 | i+1=>p[i]?
theorem Lf(p:List Mono)(hp:Yb p=true): ∀ (k i:Nat),k+i=p.length ->
  At Vj 0 (Za Wt (Zg (pvL (Fy p i) (p.drop i)&&decide (p.length<=60)))) W9 0 58 [(0,.pv (enc p)),(5,.pv (enc p)),(6,.pv (.int .i64 p.length)),(7,.pv (.int .i64 i))] []:=by
 simp only[Yb,Bool.and_eq_true,List.all_eq_true]at hp
 have hl:=Zy.1 hp.1
 intro k
 induction k with
 | zero=>
  intro i hi
  rw[List.drop_of_length_le (by omega)]
  refine RY p i (ZK (Z4 (by omega)) (ZM ?_))
  rw[List.length_map,pvL,Bool.true_and]
  exact decide_eq_decide.2 (by omega)
 | succ k ih=>
  intro i hi
  have hlt:i<p.length:=by omega
  have hm:=hp.2 _ (List.getElem_mem hlt)
  have hml:Zn p[i].v=true:=by
   simp only[WC,Bool.and_eq_true]at hm
   exact hm.1
  have h1:=ih (i+1) (by omega)
  have hpr:Fy p (i+1)=some p[i]:=List.getElem?_eq_getElem hlt
  rw[hpr]at h1
  rw[List.drop_eq_getElem_cons hlt,b0q]
  have bad:Ve p[i]=false->Zg (Ve p[i]&&(match Fy p i with|none=>true|some q=>decide (Qo q.v p[i].v<0))&&pvL (some p[i]) (p.drop (i+1))&&decide (p.length<=60)) (.bool false):=fun h=>ZM (by rw[h];simp)
  apply RY (G:=Zg (Ve p[i]&&(match Fy p i with|none=>true|some q=>decide (Qo q.v p[i].v<0))&&pvL (some p[i]) (p.drop (i+1))&&decide (p.length<=60))) p i
  apply ZC (ZW hlt)
  refine⟨Zt hlt rfl,Zx hlt (Ka (fun h=>bad ?_) fun h2=>WJ (fun h=>bad ?_) fun h3=>WJ (fun h=>bad ?_) fun h4=>WJ (fun h=>bad ?_) fun h5=>⟨Zj (p[i].v,()) rfl hml,Zh (p[i].v,()) rfl (X7 (fun h=>bad ?_) fun h6=>⟨Zj (p[i].v,{},()) rfl hm,Zh (p[i].v,{},()) rfl (X3 (fun h=>bad ?_) fun h7=> ?_)⟩)⟩)⟩
  ·have h:p[i].c=0:=h
   simp[Ve,h]
  ·have h:p[i].c < -1099511627776:=h
   unfold Ve
   rw[decide_eq_false (show ¬ -1099511627776<=p[i].c by omega)];simp
  ·have h:p[i].c>1099511627776:=h
   unfold Ve
   rw[decide_eq_false (show ¬ p[i].c<=1099511627776 by omega)];simp
  ·have h:((p[i].v.map (enc:Str->PV)).length:Int)>8:=h
   rw[List.length_map]at h
   unfold Ve
   rw[decide_eq_false (show ¬ p[i].v.length<=8 by omega)];simp
  ·have h:H9 p[i].v=false:=h
   simp[Ve,h]
  ·have h:(p[i].v.any fun s=> !(ZE s))=true:=h
   have h2:p[i].v.all ZE=false:=by
    rw[<- Bool.not_eq_true]
    intro h3
    obtain⟨s,hs,h4⟩:=List.any_eq_true.1 h
    rw[List.all_eq_true.1 h3 s hs]at h4
    cases h4
   unfold Ve
   rw[h2];simp
  ·have hok:Ve p[i]=true:=by
    have h2 : ¬ p[i].c=0:=h2
    have h3 : ¬ p[i].c < -1099511627776:=h3
    have h4 : ¬ p[i].c>1099511627776:=h4
    have h5 : ¬ ((p[i].v.map (enc:Str->PV)).length:Int)>8:=h5
    rw[List.length_map]at h5
    have h6:H9 p[i].v=true:=h6
    have h7:(p[i].v.any fun s=> !(ZE s))=false:=h7
    have h8:p[i].v.all ZE=true:=by
     rw[List.all_eq_true]
     intro s hs
     cases hn:ZE s
     ·rw[<- Bool.not_eq_true]at h7
      exact absurd (List.any_eq_true.2 ⟨s,hs,by rw[hn];rfl⟩) h7
     ·rfl
    unfold Ve
    rw[decide_eq_true h2,decide_eq_true (show -1099511627776<=p[i].c by omega),decide_eq_true (show p[i].c<=1099511627776 by omega),decide_eq_true (show p[i].v.length<=8 by omega),h6,h8]
    rfl
   rw[hok,Bool.true_and]
   cases i with
   | zero=>
    refine ZK (by decide) ?_
    rw[next (by omega)]
    exact h1
   | succ j=>
    have hj:j<p.length:=by omega
    have e:((j+1:Nat):Int) - 1=(j:Int):=by omega
    have hw:IntKind.i64.wrap (((j+1:Nat):Int) - 1)=(j:Int):=by rw[e];exact XJ (by omega) (by omega)
    have hprev:Fy p (j+1)=some p[j]:=List.getElem?_eq_getElem hj
    rw[hprev]
    have hjl:Zn p[j].v=true:=by
     have:=hp.2 _ (List.getElem_mem hj)
     simp only[WC,Bool.and_eq_true]at this
     exact this.1
    refine ZC (by simp) ?_
    rw[hw]
    refine⟨Zt hj rfl,Zx hj ⟨Zj (p[j].v,p[j+1].v,()) rfl (by show(Zn p[j].v&&Zn p[j+1].v)=true;rw[hjl,hml];rfl),Zh (p[j].v,p[j+1].v,()) rfl (WJ (fun h=> ?_) fun h=> ?_)⟩⟩
    ·have h:Du p[j].v p[j+1].v ≥ 0:=h
     have : ¬ Qo p[j].v p[j+1].v<0:=fun h2=>by have:=(Sb _ _).2 h2;omega
     exact ZM (by simp[this])
    ·have h : ¬ Du p[j].v p[j+1].v ≥ 0:=h
     have:Qo p[j].v p[j+1].v<0:=(Sb _ _).1 (by omega)
     show At Vj 0 (Za Wt (Zg (decide (Qo p[j].v p[j+1].v<0)&&_&&_))) _ _ _ _ _
     rw[decide_eq_true this,Bool.true_and,next (by omega)]
     exact h1
theorem En: ∀ x:List Mono×Unit,Yb x.1=true->Zc Vj 0 (Za Wt (Zg (ZI x.1))) W9 [] (Ye a7t (encL x)):=by
 rintro⟨p,⟨⟩⟩ h
 refine b1f p ?_
 rw[List.length_map,<- b1y]
 exact Lf p h p.length 0 (by omega)
end Go.Pl

